/- Part 11 of what CodecPacks rests on. -/
import Derived.Test.YtpdckpifhniioaaGreatVj
section
set_option linter.unusedVariables false
set_option linter.unusedSimpArgs false
namespace Go.Proofs.YtpdckpifhniioaaGreat
open Go.RowKit
namespace Ab
def rnd (a b:Int):Int:=(2*a+b).tdiv (2*b)
def mch (s s3:Int):Int:=bif rnd s3 64==0 then 0 else IntKind.u8.wrap (rnd s s3)
def mal (s3:Int):Int:=bif rnd s3 64==0 then 0 else IntKind.u8.wrap (rnd s3 64)
theorem rnd_bd {a b:Int} (h0:0≤a) (h1:a≤1000000000) (b0:0<b) (b1:b≤1000000000):0≤rnd a b∧rnd a b≤2*a+b:=by
 unfold rnd
 rw[Int.tdiv_eq_ediv_of_nonneg (by omega)]
 exact ⟨Int.ediv_nonneg (by omega) (by omega),Int.ediv_le_self _ (by omega)⟩
theorem enters158:Enters Tryz.prog 158:=fun args w=>by go_simp
def cz_C158:Cz:={
 ct:=(fun f=>match f with
 |_=>none)
 eq:=(fun t=>match t with
 |_=>none)
 raw:=[],sym:=[],nf:=[],ap:=true,off:=[],on:=[],lp:=fun _=>none,un:=0}
set_option maxRecDepth 100000 in
set_option maxHeartbeats 400000 in
theorem C158 (a b:Int) (h0:0≤a) (h1:a≤1000000000) (b0:0<b) (b1:b≤1000000000) (n:Nat):CallOK Tryz.prog 158 [iv .i64 a,iv .i64 b] [] n (iv .i64 (rnd a b)) [] 0:=by
 refine CallOK.any ?_ (by kernel_rfl) (by kernel_rfl) n
 refine call_ok (cx:=cz_C158) (nm:=[]) rfl Tryz.func158 (body:=Tryz.f158.body.getD .skip) rfl enters158 (by kernel_rfl) ?_
 apply of_eq (q:=IntKind.i64.wrap (2*a)=2*a∧IntKind.i64.wrap (2*a+b)=2*a+b∧IntKind.i64.wrap (2*b)=2*b∧2*b≠0∧IntKind.i64.wrap ((2*a+b).tdiv (2*b))=(2*a+b).tdiv (2*b)∧Le (iv IntKind.i64 ((2*a+b).tdiv (2*b))) (iv IntKind.i64 (rnd a b))∧True) (by kernel_rfl)
 repeat' (first|exact trivial|with_reducible apply And.intro|(with_reducible apply HB.mk)|with_reducible intro _)
 all_goals first
  |(have:=rnd_bd h0 h1 b0 b1;unfold rnd at this;exact okw _ (by omega) (by omega))
  |(omega)
  |(exact Le.of rfl)
theorem mul_bd {e a:Int} (he:0≤e∧e<256) (ha:0≤a∧a<256):0≤e*a∧e*a≤65025:=
 ⟨Int.mul_nonneg he.1 ha.1,by
  have:=Int.mul_le_mul (show e≤255 by omega) (show a≤255 by omega) ha.1 (by omega:(0:Int)≤255)
  omega⟩
theorem u8w {a:Int} (h:0≤a∧a<256):IntKind.i64.wrap a=a:=by rw[IntKind.wrap_i64];omega
theorem enters117:Enters Tryz.prog 117:=fun args w=>by go_simp
def cz_C117 (a b d e:Int):Cz:={
 ct:=(fun f=>match f with
 |_=>none)
 eq:=(fun t=>match t with
 |_=>none)
 raw:=[],sym:=[],nf:=[(14,bv false),(16,iv .i64 1),(28,iv .i64 e),(29,iv .i64 e),(32,iv .i64 a),(35,iv .i64 b),(38,iv .i64 d)],ap:=true,off:=[],on:=[],lp:=fun _=>none,un:=5}
set_option maxRecDepth 100000 in
set_option maxHeartbeats 400000 in
theorem C117 (s0 s1 s2 s3 c:Int) (a b d e:Int) (h0:0≤s0∧s0≤1000000000) (h1:0≤s1∧s1≤1000000000) (h2:0≤s2∧s2≤1000000000) (h3:0≤s3∧s3≤1000000000) (h4:0≤c∧c≤1000000000) (ha:0≤a∧a<256) (hb:0≤b∧b<256) (hd:0≤d∧d<256) (he:0≤e∧e<256):CallOK Tryz.prog 117 [.c (.l (.p 0 0)),ag [u8 a,u8 b,u8 d,u8 e],iv .i64 1] [(0,⟨[li s0,li s1,li s2,li s3,li c],.t 167⟩)] 1 (.tup []) [(0,⟨[li (s0+e*a),li (s1+e*b),li (s2+e*d),li (s3+e*1),li (c+1)],.t 167⟩)] ([]:List Nat).length:=by
 have pa:=mul_bd he ha
 have pb:=mul_bd he hb
 have pd:=mul_bd he hd
 have wa:=u8w ha
 have wb:=u8w hb
 have wd:=u8w hd
 have we:=u8w he
 refine call_ok (cx:=cz_C117 a b d e) (nm:=[]) rfl Tryz.func117 (body:=Tryz.f117.body.getD .skip) rfl enters117 (by kernel_rfl) ?_
 apply of_eq (q:=((!false)=true→(!false)=true∧True)∧(false=false→(!false)=true)∧Le (bv (bif false then true else decide (1<1))) (bv false)∧Le (iv IntKind.i64 (imin 1 65536)) (iv IntKind.i64 1)∧IntKind.i64.wrap (c+1)=c+1∧Le (iv IntKind.i64 (IntKind.i64.wrap e)) (iv IntKind.i64 e)∧IntKind.i64.wrap (1*e)=1*e∧Le (iv IntKind.i64 (1*e)) (iv IntKind.i64 e)∧Le (iv IntKind.i64 (IntKind.i64.wrap a)) (iv IntKind.i64 a)∧Le (iv IntKind.i64 (IntKind.i64.wrap b)) (iv IntKind.i64 b)∧Le (iv IntKind.i64 (IntKind.i64.wrap d)) (iv IntKind.i64 d)∧IntKind.i64.wrap (e*a)=e*a∧IntKind.i64.wrap (s0+e*a)=s0+e*a∧IntKind.i64.wrap (0+1)=0+1∧IntKind.i64.wrap (e*b)=e*b∧IntKind.i64.wrap (s1+e*b)=s1+e*b∧IntKind.i64.wrap (0+1+1)=0+1+1∧IntKind.i64.wrap (e*d)=e*d∧IntKind.i64.wrap (s2+e*d)=s2+e*d∧IntKind.i64.wrap (0+1+1+1)=0+1+1+1∧IntKind.i64.wrap (e*1)=e*1∧IntKind.i64.wrap (s3+e*1)=s3+e*1∧IntKind.i64.wrap (0+1+1+1+1)=0+1+1+1+1∧Le (SV.tup []) (SV.tup [])∧BkR (rnId 1 0 []) (Blk.mk [li (s0+e*a),li (s1+e*b),li (s2+e*d),li (s3+e*1),li (c+1)] (BT.t 167)) (Blk.mk [li (s0+e*a),li (s1+e*b),li (s2+e*d),li (s3+e*1),li (c+1)] (BT.t 167))∧True) (by kernel_rfl)
 repeat' (first|exact trivial|with_reducible apply And.intro|(with_reducible apply HB.mk)|with_reducible intro _)
 all_goals first
  |(assumption)
  |(with_reducible exact Le.refl _)
  |(exact Le.of (by rw[‹IntKind.i64.wrap _=_›]))
  |(exact Le.int (Int.one_mul _))
  |(exact Le.int rfl)
  |(exact okw _ (by omega) (by omega))
  |(exact Le.of rfl)
  |(exact BkR.of rfl)
  |(simp only[*,Bool.and_self,Bool.not_false,Bool.not_true];done)
def up1 (id n:Nat):Nat→Nat
 |0=>id
 |k+1=>n+k
theorem CallOK.at1 {P:Program} {f:Nat} {args:List SV} {k:Blk} {v:SV} {wr:List (Nat×Blk)} {nw:Nat} (h:CallOK P f args [(0,k)] 1 v wr nw) (id n:Nat) (hi:id<n) :
  CallOK P f (args.map (SV.ren (up1 id n))) [(id,k.ren (up1 id n))] n (v.ren (up1 id n)) (wr.map fun p=>(up1 id n p.1,p.2.ren (up1 id n))) nw:=
 CallOK.ren h (up1 id n) n (fun i hi'=>by
  have:i=0:=by omega
  subst this;exact hi) (fun i hi'=>by
  cases i with
  |zero=>omega
  |succ k=>show n+k=n+(k+1-1);omega) (fun i j h1 h2 _=>by omega)
theorem C117g (s0 s1 s2 s3 c:Int) (a b d e:Int) (h0:0≤s0∧s0≤1000000000) (h1:0≤s1∧s1≤1000000000) (h2:0≤s2∧s2≤1000000000) (h3:0≤s3∧s3≤1000000000) (h4:0≤c∧c≤1000000000) (ha:0≤a∧a<256) (hb:0≤b∧b<256) (hd:0≤d∧d<256) (he:0≤e∧e<256) (id n:Nat) (hi:id<n):CallOK Tryz.prog 117 [.c (.l (.p id 0)),ag [u8 a,u8 b,u8 d,u8 e],iv .i64 1] [(id,⟨[li s0,li s1,li s2,li s3,li c],.t 167⟩)] n (.tup []) [(id,⟨[li (s0+e*a),li (s1+e*b),li (s2+e*d),li (s3+e*1),li (c+1)],.t 167⟩)] 0:=
 CallOK.at1 (C117 s0 s1 s2 s3 c a b d e h0 h1 h2 h3 h4 ha hb hd he) id n hi
end Ab
end Go.Proofs.YtpdckpifhniioaaGreat
end
section
set_option linter.unusedVariables false
set_option linter.unusedSimpArgs false
namespace Go.Proofs.YtpdckpifhniioaaGreat
open Go.RowKit
namespace Ab
theorem enters159:Enters Tryz.prog 159:=fun args w=>by go_simp
def cz_C159_0:Cz:={
 ct:=(fun f=>match f with
 |158=>some fun _ _S ar=>match ar with | [.c (.l (.v (.int _ a))),.c (.l (.v (.int _ b)))]=>some {v:=iv .i64 (rnd a b),rd:=[],wr:=[],nw:=0}|_=>none
 |_=>none)
 eq:=(fun t=>match t with
 |_=>none)
 raw:=[],sym:=[],nf:=[],ap:=true,off:=[],on:=[],lp:=fun _=>none,un:=0}
set_option maxRecDepth 100000 in
set_option maxHeartbeats 400000 in
theorem C159_0 (s0 s1 s2 s3:Int) (h0:0≤s0∧s0≤10000000) (h1:0≤s1∧s1≤10000000) (h2:0≤s2∧s2≤10000000) (h3:0≤s3∧s3≤10000000) (hp:0<s3):CallOK Tryz.prog 159 [iv .i64 0,.c (.l (.p 1 0))] [(1,⟨[.p 0 0],.t 206⟩),(0,⟨[li s0,li s1,li s2,li s3,li 64],.t 167⟩)] 3 (iv .u8 (IntKind.u8.wrap (rnd s0 s3))) [] 0:=by
 refine call_ok (cx:=cz_C159_0) (nm:=[]) rfl Tryz.func159 (body:=Tryz.f159.body.getD .skip) rfl enters159 (by kernel_rfl) ?_
 apply of_eq (q:=CallOKd Tryz.prog 158 [] [iv IntKind.i64 s0,iv IntKind.i64 s3] [] 3 (iv IntKind.i64 (rnd s0 s3)) [] 0∧Le (iv IntKind.u8 (IntKind.u8.wrap (rnd s0 s3))) (iv IntKind.u8 (IntKind.u8.wrap (rnd s0 s3)))∧True) (by kernel_rfl)
 repeat' (first|exact trivial|with_reducible apply And.intro|(with_reducible apply HB.mk)|with_reducible intro _)
 all_goals first
  |(with_reducible exact Le.refl _)
  |((with_reducible refine C158 _ _ ?_ ?_ ?_ ?_ _)<;>omega)
def cz_C159_1:Cz:={
 ct:=(fun f=>match f with
 |158=>some fun _ _S ar=>match ar with | [.c (.l (.v (.int _ a))),.c (.l (.v (.int _ b)))]=>some {v:=iv .i64 (rnd a b),rd:=[],wr:=[],nw:=0}|_=>none
 |_=>none)
 eq:=(fun t=>match t with
 |_=>none)
 raw:=[],sym:=[],nf:=[],ap:=true,off:=[],on:=[],lp:=fun _=>none,un:=0}
set_option maxRecDepth 100000 in
set_option maxHeartbeats 400000 in
theorem C159_1 (s0 s1 s2 s3:Int) (h0:0≤s0∧s0≤10000000) (h1:0≤s1∧s1≤10000000) (h2:0≤s2∧s2≤10000000) (h3:0≤s3∧s3≤10000000) (hp:0<s3):CallOK Tryz.prog 159 [iv .i64 1,.c (.l (.p 1 0))] [(1,⟨[.p 0 0],.t 206⟩),(0,⟨[li s0,li s1,li s2,li s3,li 64],.t 167⟩)] 3 (iv .u8 (IntKind.u8.wrap (rnd s1 s3))) [] 0:=by
 refine call_ok (cx:=cz_C159_1) (nm:=[]) rfl Tryz.func159 (body:=Tryz.f159.body.getD .skip) rfl enters159 (by kernel_rfl) ?_
 apply of_eq (q:=CallOKd Tryz.prog 158 [] [iv IntKind.i64 s1,iv IntKind.i64 s3] [] 3 (iv IntKind.i64 (rnd s1 s3)) [] 0∧Le (iv IntKind.u8 (IntKind.u8.wrap (rnd s1 s3))) (iv IntKind.u8 (IntKind.u8.wrap (rnd s1 s3)))∧True) (by kernel_rfl)
 repeat' (first|exact trivial|with_reducible apply And.intro|(with_reducible apply HB.mk)|with_reducible intro _)
 all_goals first
  |(with_reducible exact Le.refl _)
  |((with_reducible refine C158 _ _ ?_ ?_ ?_ ?_ _)<;>omega)
def cz_C159_2:Cz:={
 ct:=(fun f=>match f with
 |158=>some fun _ _S ar=>match ar with | [.c (.l (.v (.int _ a))),.c (.l (.v (.int _ b)))]=>some {v:=iv .i64 (rnd a b),rd:=[],wr:=[],nw:=0}|_=>none
 |_=>none)
 eq:=(fun t=>match t with
 |_=>none)
 raw:=[],sym:=[],nf:=[],ap:=true,off:=[],on:=[],lp:=fun _=>none,un:=0}
set_option maxRecDepth 100000 in
set_option maxHeartbeats 400000 in
theorem C159_2 (s0 s1 s2 s3:Int) (h0:0≤s0∧s0≤10000000) (h1:0≤s1∧s1≤10000000) (h2:0≤s2∧s2≤10000000) (h3:0≤s3∧s3≤10000000) (hp:0<s3):CallOK Tryz.prog 159 [iv .i64 2,.c (.l (.p 1 0))] [(1,⟨[.p 0 0],.t 206⟩),(0,⟨[li s0,li s1,li s2,li s3,li 64],.t 167⟩)] 3 (iv .u8 (IntKind.u8.wrap (rnd s2 s3))) [] 0:=by
 refine call_ok (cx:=cz_C159_2) (nm:=[]) rfl Tryz.func159 (body:=Tryz.f159.body.getD .skip) rfl enters159 (by kernel_rfl) ?_
 apply of_eq (q:=CallOKd Tryz.prog 158 [] [iv IntKind.i64 s2,iv IntKind.i64 s3] [] 3 (iv IntKind.i64 (rnd s2 s3)) [] 0∧Le (iv IntKind.u8 (IntKind.u8.wrap (rnd s2 s3))) (iv IntKind.u8 (IntKind.u8.wrap (rnd s2 s3)))∧True) (by kernel_rfl)
 repeat' (first|exact trivial|with_reducible apply And.intro|(with_reducible apply HB.mk)|with_reducible intro _)
 all_goals first
  |(with_reducible exact Le.refl _)
  |((with_reducible refine C158 _ _ ?_ ?_ ?_ ?_ _)<;>omega)
def V159 (S:St) (i:Int):SV:=match S.blk 0 with|some ⟨[.v (.int _ s0),.v (.int _ s1),.v (.int _ s2),.v (.int _ s3),_],_⟩=>iv .u8 (IntKind.u8.wrap (rnd (match i with|0=>s0|1=>s1|_=>s2) s3))|_=>.u
theorem rnd_pos {s:Int} (h0:0≤s) (h:(rnd s 64==0)=false):0<s:=by
 rcases Int.lt_or_eq_of_le h0 with h1|h1
 ·exact h1
 ·subst h1;exact absurd h (by decide)
theorem enters118:Enters Tryz.prog 118:=fun args w=>by go_simp
def cz_C118:Cz:={
 ct:=(fun f=>match f with
 |158=>some fun _ _S ar=>match ar with | [.c (.l (.v (.int _ a))),.c (.l (.v (.int _ b)))]=>some {v:=iv .i64 (rnd a b),rd:=[],wr:=[],nw:=0}|_=>none
 |159=>some fun _ _S ar=>match ar with | [.c (.l (.v (.int _ i))),.c (.l (.p 1 0))]=>some {v:=V159 _S i,rd:=[1,0],wr:=[],nw:=0}|_=>none
 |_=>none)
 eq:=(fun t=>match t with
 |_=>none)
 raw:=[],sym:=[],nf:=[(13,bv false)],ap:=true,off:=[],on:=[],lp:=fun _=>none,un:=0}
set_option maxRecDepth 100000 in
set_option maxHeartbeats 400000 in
theorem C118 (s0 s1 s2 s3:Int) (h0:0≤s0∧s0≤10000000) (h1:0≤s1∧s1≤10000000) (h2:0≤s2∧s2≤10000000) (h3:0≤s3∧s3≤10000000):CallOK Tryz.prog 118 [.c (.l (.p 0 0))] [(0,⟨[li s0,li s1,li s2,li s3,li 64],.t 167⟩)] 1 (ag [u8 (mch s0 s3),u8 (mch s1 s3),u8 (mch s2 s3),u8 (mal s3)]) [] 0:=by
 have hpos:=rnd_pos (s:=s3) h3.1
 refine call_ok (cx:=cz_C118) (nm:=[]) rfl Tryz.func118 (body:=Tryz.f118.body.getD .skip) rfl enters118 (by kernel_rfl) ?_
 apply of_eq (q:=((!false)=true→(!false)=true∧True)∧((!false)=true→(!false)=true∧True)∧((!false)=true→(!false)=true∧True)∧((!false)=true→(!false)=true∧True)∧(false=false→(!false)=true)∧Le (bv (bif false then true else 64==0)) (bv false)∧CallOKd Tryz.prog 158 [] [iv IntKind.i64 s3,iv IntKind.i64 64] [] 3 (iv IntKind.i64 (rnd s3 64)) [] 0∧HB (rnd s3 64==0) (Le (ag [Leaf.v (Value.int IntKind.u8 0),Leaf.v (Value.int IntKind.u8 0),Leaf.v (Value.int IntKind.u8 0),Leaf.v (Value.int IntKind.u8 0)]) (ag [Leaf.v (Value.int IntKind.u8 (mch s0 s3)),Leaf.v (Value.int IntKind.u8 (mch s1 s3)),Leaf.v (Value.int IntKind.u8 (mch s2 s3)),Leaf.v (Value.int IntKind.u8 (mal s3))])∧True) (CallOKd Tryz.prog 159 [] [iv IntKind.i64 0,SV.c (Cp.l (Leaf.p 1 0))] [(1,Blk.mk [Leaf.p 0 0] (BT.t 206)),(0,Blk.mk [li s0,li s1,li s2,li s3,li 64] (BT.t 167))] 3 (iv IntKind.u8 (IntKind.u8.wrap (rnd s0 s3))) [] 0∧CallOKd Tryz.prog 159 [] [iv IntKind.i64 1,SV.c (Cp.l (Leaf.p 1 0))] [(1,Blk.mk [Leaf.p 0 0] (BT.t 206)),(0,Blk.mk [li s0,li s1,li s2,li s3,li 64] (BT.t 167))] 3 (iv IntKind.u8 (IntKind.u8.wrap (rnd s1 s3))) [] 0∧CallOKd Tryz.prog 159 [] [iv IntKind.i64 2,SV.c (Cp.l (Leaf.p 1 0))] [(1,Blk.mk [Leaf.p 0 0] (BT.t 206)),(0,Blk.mk [li s0,li s1,li s2,li s3,li 64] (BT.t 167))] 3 (iv IntKind.u8 (IntKind.u8.wrap (rnd s2 s3))) [] 0∧Le (ag [Leaf.v (Value.int IntKind.u8 (IntKind.u8.wrap (rnd s0 s3))),Leaf.v (Value.int IntKind.u8 (IntKind.u8.wrap (rnd s1 s3))),Leaf.v (Value.int IntKind.u8 (IntKind.u8.wrap (rnd s2 s3))),Leaf.v (Value.int IntKind.u8 (IntKind.u8.wrap (rnd s3 64)))]) (ag [Leaf.v (Value.int IntKind.u8 (mch s0 s3)),Leaf.v (Value.int IntKind.u8 (mch s1 s3)),Leaf.v (Value.int IntKind.u8 (mch s2 s3)),Leaf.v (Value.int IntKind.u8 (mal s3))])∧True)) (by kernel_rfl)
 repeat' (first|exact trivial|with_reducible apply And.intro|(with_reducible apply HB.mk)|with_reducible intro _)
 all_goals first
  |(assumption)
  |((with_reducible refine C158 _ _ ?_ ?_ ?_ ?_ _)<;>omega)
  |(((with_reducible refine C159_0 _ _ _ _ ?_ ?_ ?_ ?_ ?_)<;>first|omega|exact hpos ‹_›))
  |(((with_reducible refine C159_1 _ _ _ _ ?_ ?_ ?_ ?_ ?_)<;>first|omega|exact hpos ‹_›))
  |(((with_reducible refine C159_2 _ _ _ _ ?_ ?_ ?_ ?_ ?_)<;>first|omega|exact hpos ‹_›))
  |(refine Le.of ?_;unfold mch mal;rw[‹(rnd s3 64==0)=true›];rfl)
  |(refine Le.of ?_;unfold mch mal;rw[‹(rnd s3 64==0)=false›];rfl)
  |(exact Le.of rfl)
  |(simp only[*,Bool.and_self,Bool.not_false,Bool.not_true];done)
theorem C118g (s0 s1 s2 s3:Int) (h0:0≤s0∧s0≤10000000) (h1:0≤s1∧s1≤10000000) (h2:0≤s2∧s2≤10000000) (h3:0≤s3∧s3≤10000000) (id n:Nat) (hi:id<n):CallOK Tryz.prog 118 [.c (.l (.p id 0))] [(id,⟨[li s0,li s1,li s2,li s3,li 64],.t 167⟩)] n (ag [u8 (mch s0 s3),u8 (mch s1 s3),u8 (mch s2 s3),u8 (mal s3)]) [] 0:=
 CallOK.at1 (C118 s0 s1 s2 s3 h0 h1 h2 h3) id n hi
def ch (t:Nat→UInt8) (c k:Nat):Int:=match c with|0=>((t (4*k)).toNat:Nat)|1=>((t (4*k+1)).toNat:Nat)|2=>((t (4*k+2)).toNat:Nat)|_=>1
def mS (t:Nat→UInt8) (c:Nat):Nat→Int
 |0=>0
 |k+1=>mS t c k+((t (4*k+3)).toNat:Nat)*ch t c k
def meanL (t:Nat→UInt8):List Leaf:=[u8 (mch (mS t 0 64) (mS t 3 64)),u8 (mch (mS t 1 64) (mS t 3 64)),u8 (mch (mS t 2 64) (mS t 3 64)),u8 (mal (mS t 3 64))]
def MBk (t:Nat→UInt8) (k:Nat):Blk:=⟨[li (mS t 0 k),li (mS t 1 k),li (mS t 2 k),li (mS t 3 k),li (k:Nat)],.t 167⟩
def I52 (t:Nat→UInt8) (k:Nat):St:=⟨[(7,iv .i64 (k:Nat)),(6,.c (.agg (tl t))),(3,.c (.l (.p 2 0))),(2,.c (.l (.p 1 0))),(1,.c (.l (.p 0 0)))],[(0,some ⟨tl t,.t 38⟩),(1,some ⟨[u8 0,u8 0,u8 0,u8 0],.t 36⟩),(2,some (MBk t k))],3,14,[2,1,0],(0)⟩
def W117 (S:St) (i:Nat) (a b d e:Int):Blk:=match S.blk i with|some ⟨[.v (.int _ s0),.v (.int _ s1),.v (.int _ s2),.v (.int _ s3),.v (.int _ c)],_⟩=>⟨[li (s0+e*a),li (s1+e*b),li (s2+e*d),li (s3+e*1),li (c+1)],.t 167⟩|_=>⟨[],.t 0⟩
def V118 (S:St) (i:Nat):SV:=match S.blk i with|some ⟨[.v (.int _ s0),.v (.int _ s1),.v (.int _ s2),.v (.int _ s3),_],_⟩=>ag [u8 (mch s0 s3),u8 (mch s1 s3),u8 (mch s2 s3),u8 (mal s3)]|_=>.u
theorem ch_bd (t:Nat→UInt8) (c k:Nat):0≤ch t c k∧ch t c k<256:=by
 unfold ch
 split
 ·exact okb _
 ·exact okb _
 ·exact okb _
 ·omega
theorem mS_bd (t:Nat→UInt8) (c:Nat):∀k,0≤mS t c k∧mS t c k≤65025*(k:Nat)
 |0=>⟨Int.le_refl _,Int.le_refl _⟩
 |k+1=>by
  have h1:=mS_bd t c k
  have h2:=mul_bd (okb (t (4*k+3))) (ch_bd t c k)
  rw[mS]
  omega
theorem mS_b (t:Nat→UInt8) (c:Nat) {k:Nat} (h:k≤64):0≤mS t c k∧mS t c k≤10000000:=by
 have:=mS_bd t c k
 omega
theorem mS_b' (t:Nat→UInt8) (c:Nat) {k:Nat} (h:k≤64):0≤mS t c k∧mS t c k≤1000000000:=by
 have:=mS_bd t c k
 omega
def cz_R52 (t:Nat→UInt8) (k:Nat):Cz:={
 ct:=(fun f=>match f with
 |117=>some fun _ _S ar=>match ar with | [.c (.l (.p i _)),.c (.agg [.v (.int _ a),.v (.int _ b),.v (.int _ d),.v (.int _ e)]),.c (.l (.v (.int _ 1)))]=>some {v:=.tup [],rd:=[i],wr:=[(i,W117 _S i a b d e)],nw:=0}|_=>none
 |118=>some fun _ _S ar=>match ar with | [.c (.l (.p i _))]=>some {v:=V118 _S i,rd:=[i],wr:=[],nw:=0}|_=>none
 |_=>none)
 eq:=(fun t=>match t with
 |_=>none)
 raw:=[],sym:=[9],nf:=[(9,.c (.agg [ub (t (4*k)),ub (t (4*k+1)),ub (t (4*k+2)),ub (t (4*k+3))])),(10,.c (.agg [ub (t (4*k)),ub (t (4*k+1)),ub (t (4*k+2)),ub (t (4*k+3))]))],ap:=true,off:=[],on:=[],lp:=fun _=>none,un:=0}
set_option maxRecDepth 100000 in
theorem R52 (t:Nat→UInt8) (k:Nat)  (K:Exit→St→Prop) (h:HB (decide ((Nat.cast k:Int)<64)) (InR ((Nat.cast k:Int)) 64∧Le (ag (List.take 4 (List.drop (((Nat.cast k:Int)).toNat*4) (tl t)))) (ag [Leaf.v (Value.int IntKind.u8 (Nat.cast ((t (4*k)).toNat):Int)),Leaf.v (Value.int IntKind.u8 (Nat.cast ((t (4*k+1)).toNat):Int)),Leaf.v (Value.int IntKind.u8 (Nat.cast ((t (4*k+2)).toNat):Int)),Leaf.v (Value.int IntKind.u8 (Nat.cast ((t (4*k+3)).toNat):Int))])∧Le (ag [Leaf.v (Value.int IntKind.u8 (Nat.cast ((t (4*k)).toNat):Int)),Leaf.v (Value.int IntKind.u8 (Nat.cast ((t (4*k+1)).toNat):Int)),Leaf.v (Value.int IntKind.u8 (Nat.cast ((t (4*k+2)).toNat):Int)),Leaf.v (Value.int IntKind.u8 (Nat.cast ((t (4*k+3)).toNat):Int))]) (ag [Leaf.v (Value.int IntKind.u8 (Nat.cast ((t (4*k)).toNat):Int)),Leaf.v (Value.int IntKind.u8 (Nat.cast ((t (4*k+1)).toNat):Int)),Leaf.v (Value.int IntKind.u8 (Nat.cast ((t (4*k+2)).toNat):Int)),Leaf.v (Value.int IntKind.u8 (Nat.cast ((t (4*k+3)).toNat):Int))])∧CallOKd Tryz.prog 117 [] [SV.c (Cp.l (Leaf.p 2 0)),ag [Leaf.v (Value.int IntKind.u8 (Nat.cast ((t (4*k)).toNat):Int)),Leaf.v (Value.int IntKind.u8 (Nat.cast ((t (4*k+1)).toNat):Int)),Leaf.v (Value.int IntKind.u8 (Nat.cast ((t (4*k+2)).toNat):Int)),Leaf.v (Value.int IntKind.u8 (Nat.cast ((t (4*k+3)).toNat):Int))],iv IntKind.i64 1] [(2,Blk.mk [li (mS t 0 k),li (mS t 1 k),li (mS t 2 k),li (mS t 3 k),li (Nat.cast k:Int)] (BT.t 167))] 4 (SV.tup []) [(2,Blk.mk [li (mS t 0 k+(Nat.cast ((t (4*k+3)).toNat):Int)*(Nat.cast ((t (4*k)).toNat):Int)),li (mS t 1 k+(Nat.cast ((t (4*k+3)).toNat):Int)*(Nat.cast ((t (4*k+1)).toNat):Int)),li (mS t 2 k+(Nat.cast ((t (4*k+3)).toNat):Int)*(Nat.cast ((t (4*k+2)).toNat):Int)),li (mS t 3 k+(Nat.cast ((t (4*k+3)).toNat):Int)*1),li ((Nat.cast k:Int)+1)] (BT.t 167))] 0∧IntKind.i64.wrap ((Nat.cast k:Int)+1)=(Nat.cast k:Int)+1∧RoundTo Tryz.prog ((getLoop 3 (Tryz.f52.body.getD .skip)).getD .skip) 3 (wkK 3 K) (St.mk [(1,SV.c (Cp.l (Leaf.p 0 0))),(2,SV.c (Cp.l (Leaf.p 1 0))),(3,SV.c (Cp.l (Leaf.p 2 0))),(6,ag (tl t)),(7,iv IntKind.i64 ((Nat.cast k:Int)+1))] [(0,some (Blk.mk (tl t) (BT.t 38))),(1,some (Blk.mk [Leaf.v (Value.int IntKind.u8 0),Leaf.v (Value.int IntKind.u8 0),Leaf.v (Value.int IntKind.u8 0),Leaf.v (Value.int IntKind.u8 0)] (BT.t 36))),(2,some (Blk.mk [li (mS t 0 k+(Nat.cast ((t (4*k+3)).toNat):Int)*(Nat.cast ((t (4*k)).toNat):Int)),li (mS t 1 k+(Nat.cast ((t (4*k+3)).toNat):Int)*(Nat.cast ((t (4*k+1)).toNat):Int)),li (mS t 2 k+(Nat.cast ((t (4*k+3)).toNat):Int)*(Nat.cast ((t (4*k+2)).toNat):Int)),li (mS t 3 k+(Nat.cast ((t (4*k+3)).toNat):Int)*1),li ((Nat.cast k:Int)+1)] (BT.t 167))),(3,some (Blk.mk [Leaf.v (Value.int IntKind.u8 (Nat.cast ((t (4*k)).toNat):Int)),Leaf.v (Value.int IntKind.u8 (Nat.cast ((t (4*k+1)).toNat):Int)),Leaf.v (Value.int IntKind.u8 (Nat.cast ((t (4*k+2)).toNat):Int)),Leaf.v (Value.int IntKind.u8 (Nat.cast ((t (4*k+3)).toNat):Int))] (BT.t 36)))] 4 14 [2,3,3,2,1,0] 0)) (wkK 3 K (Exit.exit 0) (St.mk [(1,SV.c (Cp.l (Leaf.p 0 0))),(2,SV.c (Cp.l (Leaf.p 1 0))),(3,SV.c (Cp.l (Leaf.p 2 0))),(6,ag (tl t)),(7,iv IntKind.i64 (Nat.cast k:Int))] [(0,some (Blk.mk (tl t) (BT.t 38))),(1,some (Blk.mk [Leaf.v (Value.int IntKind.u8 0),Leaf.v (Value.int IntKind.u8 0),Leaf.v (Value.int IntKind.u8 0),Leaf.v (Value.int IntKind.u8 0)] (BT.t 36))),(2,some (Blk.mk [li (mS t 0 k),li (mS t 1 k),li (mS t 2 k),li (mS t 3 k),li (Nat.cast k:Int)] (BT.t 167))),(3,none)] 3 14 [2,1,0] 0))):WPL Tryz.prog ((getLoop 3 (Tryz.f52.body.getD .skip)).getD .skip) (I52 t k) (wkK 3 K):=
 wp_roundT [1,2,3,6,7] [0,1,2,3] (cx:=cz_R52 t k) rfl (of_eq (by kernel_rfl) h)
set_option maxRecDepth 100000 in
set_option maxHeartbeats 4000000 in
theorem L52 (t:Nat→UInt8)  : ∀(m k:Nat),64-k=m→k≤64→∀(K:Exit→St→Prop),K (.exit 0) (I52 t 64)→WPL Tryz.prog ((getLoop 3 (Tryz.f52.body.getD .skip)).getD .skip) (I52 t k) (wkK 3 K)
 |0,k,hm,hk,K,hK=>by
  have e:k=64:=by omega
  subst e
  refine R52 t _ K (HB.mk (fun hne=>absurd (of_decide_eq_true hne) (by omega)) (fun he=>?_))
  exact wkK.to (I52 t _) (Nat.le_refl _) (by kernel_rfl) (wkE_cons (LeN.sl (by kernel_rfl) rfl) (wkE_cons (LeN.sl_plain (by kernel_rfl) (plain_tl t)) (wkE_cons (LeN.sl (by kernel_rfl) rfl) (wkE_cons (LeN.sl (by kernel_rfl) rfl) (wkE_cons (LeN.sl (by kernel_rfl) rfl) trivial))))) (wkH_cons (BkN.plain (cs:=tl t) (b:=.t 38) (by kernel_rfl) (rfl) (plain_tl t) (by kernel_rfl)) (wkH_cons (BkN.blk (k:=⟨[u8 0,u8 0,u8 0,u8 0],.t 36⟩) (by kernel_rfl) (rfl) (by kernel_rfl)) (wkH_cons (BkN.blk (k:=MBk t 64) (by kernel_rfl) (rfl) (by kernel_rfl)) trivial))) hK
 |m+1,k,hm,hk,K,hK=>by
  refine R52 t k K (HB.mk (fun hne=>?_) (fun he=>absurd (show ((k:Nat):Int)<(64:Nat) by omega) (of_decide_eq_false he)))
  have hlt:k<64:=by omega
  repeat' (first|exact trivial|with_reducible apply And.intro|(with_reducible apply HB.mk)|with_reducible intro _)
  all_goals first
   |(with_reducible exact Le.refl _)
   |(((with_reducible refine C117g _ _ _ _ _ _ _ _ _ ?_ ?_ ?_ ?_ ?_ ?_ ?_ ?_ ?_ _ _ ?_)<;>first|exact okb _|exact mS_b' t _ (Nat.le_of_lt hlt)|omega))
   |(exact ⟨by omega,by omega⟩)
   |(exact Le.of (by rw[show (((k:Nat):Int)).toNat=k from rfl,tl_pix _ hlt];rfl))
   |((with_reducible refine RoundTo.toN 4 (I52 t (k+1)) ?_ ?_ ?_ ?_ ?_);exact Nat.le_refl _;kernel_rfl;exact (wkE_cons (LeN.sl (by kernel_rfl) rfl) (wkE_cons (LeN.sl_plain (by kernel_rfl) (plain_tl t)) (wkE_cons (LeN.sl (by kernel_rfl) rfl) (wkE_cons (LeN.sl (by kernel_rfl) rfl) (wkE_cons (LeN.sl (by kernel_rfl) rfl) trivial)))));exact (wkH_cons (BkN.plain (cs:=tl t) (b:=.t 38) (by kernel_rfl) (rfl) (plain_tl t) (by kernel_rfl)) (wkH_cons (BkN.blk (k:=⟨[u8 0,u8 0,u8 0,u8 0],.t 36⟩) (by kernel_rfl) (rfl) (by kernel_rfl)) (wkH_cons (BkN.blk (k:=⟨[li (mS t 0 k+((t (4*k+3)).toNat:Nat)*((t (4*k)).toNat:Nat)),li (mS t 1 k+((t (4*k+3)).toNat:Nat)*((t (4*k+1)).toNat:Nat)),li (mS t 2 k+((t (4*k+3)).toNat:Nat)*((t (4*k+2)).toNat:Nat)),li (mS t 3 k+((t (4*k+3)).toNat:Nat)*1),li (((k:Nat):Int)+1)],.t 167⟩) (by kernel_rfl) (rfl) (by kernel_rfl)) trivial)));exact (L52 t  m (k+1) (by omega) (by omega) K hK))
   |(exact okw _ (by omega) (by omega))
theorem enters52:Enters Tryz.prog 52:=fun args w=>by go_simp
def cz_C52 (t:Nat→UInt8):Cz:={
 ct:=(fun f=>match f with
 |117=>some fun _ _S ar=>match ar with | [.c (.l (.p i _)),.c (.agg [.v (.int _ a),.v (.int _ b),.v (.int _ d),.v (.int _ e)]),.c (.l (.v (.int _ 1)))]=>some {v:=.tup [],rd:=[i],wr:=[(i,W117 _S i a b d e)],nw:=0}|_=>none
 |118=>some fun _ _S ar=>match ar with | [.c (.l (.p i _))]=>some {v:=V118 _S i,rd:=[i],wr:=[],nw:=0}|_=>none
 |_=>none)
 eq:=(fun t=>match t with
 |_=>none)
 raw:=[],sym:=[],nf:=[(6,.c (.agg (tl t)))],ap:=true,off:=[],on:=[],lp:=fun r=>match r with|3=>some (fun _ K=>K (.exit 0) (I52 t 64))|_=>none,un:=0}
set_option maxRecDepth 100000 in
set_option maxHeartbeats 400000 in
theorem C52 (t:Nat→UInt8)  (n:Nat):CallOK Tryz.prog 52 [.c (.agg (tl t))] [] n (ag (meanL t)) [] 0:=by
 refine CallOK.any ?_ (by kernel_rfl) (by kernel_rfl) n
 refine call_ok (cx:=cz_C52 t) (nm:=[]) rfl Tryz.func52 (body:=Tryz.f52.body.getD .skip) rfl enters52 (by kernel_rfl) ?_
 apply of_eq (q:=Le (ag (List.take 256 (tl t))) (ag (tl t))∧(LoopOK Tryz.prog ((getLoop 3 (Tryz.f52.body.getD .skip)).getD .skip) (St.mk [(7,iv IntKind.i64 0),(6,ag (tl t)),(3,SV.c (Cp.l (Leaf.p 2 0))),(2,SV.c (Cp.l (Leaf.p 1 0))),(1,SV.c (Cp.l (Leaf.p 0 0))),(0,ag (tl t))] [(2,some (Blk.mk [li 0,li 0,li 0,li 0,li 0] (BT.t 167))),(1,some (Blk.mk [Leaf.v (Value.int IntKind.u8 0),Leaf.v (Value.int IntKind.u8 0),Leaf.v (Value.int IntKind.u8 0),Leaf.v (Value.int IntKind.u8 0)] (BT.t 36))),(0,some (Blk.mk (tl t) (BT.t 38)))] 3 14 [2,1,0] 0) fun K=>K (Exit.exit 0) (I52 t 64))∧CallOKd Tryz.prog 118 [] [SV.c (Cp.l (Leaf.p 2 0))] [(2,Blk.mk [li (mS t 0 64),li (mS t 1 64),li (mS t 2 64),li (mS t 3 64),li (Nat.cast 64:Int)] (BT.t 167))] 3 (ag [Leaf.v (Value.int IntKind.u8 (mch (mS t 0 64) (mS t 3 64))),Leaf.v (Value.int IntKind.u8 (mch (mS t 1 64) (mS t 3 64))),Leaf.v (Value.int IntKind.u8 (mch (mS t 2 64) (mS t 3 64))),Leaf.v (Value.int IntKind.u8 (mal (mS t 3 64)))]) [] 0∧Le (ag [Leaf.v (Value.int IntKind.u8 (mch (mS t 0 64) (mS t 3 64))),Leaf.v (Value.int IntKind.u8 (mch (mS t 1 64) (mS t 3 64))),Leaf.v (Value.int IntKind.u8 (mch (mS t 2 64) (mS t 3 64))),Leaf.v (Value.int IntKind.u8 (mal (mS t 3 64)))]) (ag [Leaf.v (Value.int IntKind.u8 (mch (mS t 0 64) (mS t 3 64))),Leaf.v (Value.int IntKind.u8 (mch (mS t 1 64) (mS t 3 64))),Leaf.v (Value.int IntKind.u8 (mch (mS t 2 64) (mS t 3 64))),Leaf.v (Value.int IntKind.u8 (mal (mS t 3 64)))])∧True) (by kernel_rfl)
 repeat' (first|exact trivial|with_reducible apply And.intro|(with_reducible apply HB.mk)|with_reducible intro _)
 all_goals first
  |(with_reducible exact Le.refl _)
  |(exact LoopOK.mk (I52 t 0) rfl (by kernel_rfl) (wkE_cons (LeN.sl (by kernel_rfl) rfl) (wkE_cons (LeN.sl_plain (by kernel_rfl) (plain_tl t)) (wkE_cons (LeN.sl (by kernel_rfl) rfl) (wkE_cons (LeN.sl (by kernel_rfl) rfl) (wkE_cons (LeN.sl (by kernel_rfl) rfl) trivial))))) (wkH_cons (BkN.plain (cs:=tl t) (b:=.t 38) (by kernel_rfl) (rfl) (plain_tl t) (by kernel_rfl)) (wkH_cons (BkN.blk (k:=⟨[u8 0,u8 0,u8 0,u8 0],.t 36⟩) (by kernel_rfl) (rfl) (by kernel_rfl)) (wkH_cons (BkN.blk (k:=MBk t 0) (by kernel_rfl) (rfl) (by kernel_rfl)) trivial))) (fun K hT=>L52 t  _ 0 rfl (by first|decide|omega) K hT))
  |(exact Le.of (by rw[tl_take]))
  |(refine C118g _ _ _ _ ?_ ?_ ?_ ?_ _ _ ?_<;>first|exact mS_b t _ (Nat.le_refl _)|decide)
end Ab
end Go.Proofs.YtpdckpifhniioaaGreat
end
section
set_option linter.unusedVariables false
set_option linter.unusedSimpArgs false
namespace Go.Proofs.YtpdckpifhniioaaGreat
open Go.RowKit
namespace Ab
theorem u8_rng (x:Int):0≤IntKind.u8.wrap x∧IntKind.u8.wrap x<256:=by rw[IntKind.wrap_u8];omega
theorem mch_bd (s s3:Int):0≤mch s s3∧mch s s3<256:=by
 unfold mch
 cases rnd s3 64==0
 ·exact u8_rng _
 ·exact ⟨Int.le_refl _,by show (0:Int)<256;decide⟩
theorem mal_bd (s3:Int):0≤mal s3∧mal s3<256:=by
 unfold mal
 cases rnd s3 64==0
 ·exact u8_rng _
 ·exact ⟨Int.le_refl _,by show (0:Int)<256;decide⟩
theorem u8_ofI {x:Int} (h:0≤x∧x<256):u8 x=ub (ofI x):=by
 unfold ofI
 have:((UInt8.ofNat x.toNat).toNat:Int)=x:=by
  rw[UInt8.toNat_ofNat']
  omega
 rw[show ub (UInt8.ofNat x.toNat)=u8 ((UInt8.ofNat x.toNat).toNat:Nat) from rfl,this]
def meanB (t:Nat→UInt8) (c:Nat):UInt8:=ofI (match c with|0=>mch (mS t 0 64) (mS t 3 64)|1=>mch (mS t 1 64) (mS t 3 64)|2=>mch (mS t 2 64) (mS t 3 64)|_=>mal (mS t 3 64))
def codT (t:Nat→UInt8):ByteArray:=⟨#[2,UInt8.ofNat (bestT t)]⟩++⟨(Cod.M.enc (Prd.fw (bestT t) t).data.toList).toArray⟩
def blobT (t:Nat→UInt8):ByteArray:=bif solT t then ⟨#[0,t 0,t 1,t 2,t 3]⟩ else bif decide (((codT t).size:Int)<257) then codT t else ⟨#[1]⟩++bytesT t
theorem meanL_ub (t:Nat→UInt8):meanL t=[ub (meanB t 0),ub (meanB t 1),ub (meanB t 2),ub (meanB t 3)]:=by
 unfold meanL
 rw[u8_ofI (mch_bd _ _),u8_ofI (mch_bd _ _),u8_ofI (mch_bd _ _),u8_ofI (mal_bd _)]
 rfl
theorem mS_congr {t u:Nat→UInt8} (h:∀i,i<256→t i=u i) (c:Nat):∀k,k≤64→mS t c k=mS u c k
 |0,_=>rfl
 |k+1,hk=>by
  rw[mS,mS,mS_congr h c k (by omega),h (4*k+3) (by omega)]
  congr 2
  unfold ch
  split
  ·rw[h _ (by omega)]
  ·rw[h _ (by omega)]
  ·rw[h _ (by omega)]
  ·rfl
theorem meanL_lsB (t:Nat→UInt8):meanL (lsB (tl t))=meanL t:=by
 have:=fun c=>mS_congr (t:=lsB (tl t)) (u:=t) (fun i hi=>lsB_tl t hi) c 64 (Nat.le_refl _)
 unfold meanL
 rw[this,this,this,this]
theorem C52L (l:List Leaf) (t:Nat→UInt8) (h:l=tl t) (n:Nat):CallOK Tryz.prog 52 [.c (.agg l)] [] n (ag (meanL (lsB l))) [] 0:=by
 subst h;rw[meanL_lsB];exact C52 t n
theorem bytesT_lsB (t:Nat→UInt8):bytesT (lsB (tl t))=bytesT t:=by
 unfold bytesT
 congr 2
 apply List.map_congr_left
 intro i hi
 exact lsB_tl t (by simpa using hi)
theorem C115L (l:List Leaf) (t:Nat→UInt8) (h:l=tl t) (n:Nat):CallOK Tryz.prog 115 [.c (.agg l)] [] n (.c (.l (.v (.string (bytesT (lsB l)))))) [] 0:=by
 subst h;rw[bytesT_lsB];exact C115 t n
theorem sol_lsB (t:Nat→UInt8):solT (lsB (tl t))=solT t:=by
 unfold solT
 rw[lsB_tl t (by decide),lsB_tl t (by decide),lsB_tl t (by decide),lsB_tl t (by decide)]
 exact sameT_congr (fun i hi=>lsB_tl t hi) (fun i hi=>rfl)
theorem C111L (l:List Leaf) (t:Nat→UInt8) (h:l=tl t) (n:Nat):CallOK Tryz.prog 111 [.c (.agg l)] [] n (.tup [.agg [ub (solP (lsB l) 0),ub (solP (lsB l) 1),ub (solP (lsB l) 2),ub (solP (lsB l) 3)],.l (.v (.bool (solT (lsB l))))]) [] 0:=by
 subst h
 have e:∀i,i<256→solP (lsB (tl t)) i=solP t i:=fun i hi=>by unfold solP;rw[sol_lsB,lsB_tl t hi]
 rw[sol_lsB,e 0 (by decide),e 1 (by decide),e 2 (by decide),e 3 (by decide)]
 exact C111 t n
theorem solP_lsB (t:Nat→UInt8) {i:Nat} (hi:i<256):solP (lsB (tl t)) i=solP t i:=by unfold solP;rw[sol_lsB,lsB_tl t hi]
theorem strOf_bytes (l:List UInt8):strOf (l.map fun b=>((b.toNat:Nat):Int))=⟨l.toArray⟩:=by
 unfold strOf
 rw[List.map_map]
 congr 2
 rw[show ((fun b:Int=>UInt8.ofNat b.toNat)∘fun b:UInt8=>((b.toNat:Nat):Int))=id from funext fun b=>by simp]
 exact List.map_id l
theorem inb (b:UInt8):inByte ((b.toNat:Nat):Int):=okb b
theorem enters51:Enters Tryz.prog 51:=fun args w=>by go_simp
def cz_C51:Cz:={
 ct:=(fun f=>match f with
 |_=>none)
 eq:=(fun t=>match t with
 |_=>none)
 raw:=[],sym:=[],nf:=[],ap:=true,off:=[],on:=[],lp:=fun _=>none,un:=0}
set_option maxRecDepth 100000 in
set_option maxHeartbeats 400000 in
theorem C51 (a b c e:UInt8)  (n:Nat):CallOK Tryz.prog 51 [ag [ub a,ub b,ub c,ub e]] [] n (.c (.l (.v (.string ⟨#[a,b,c,e]⟩)))) [] 0:=by
 refine CallOK.any ?_ (by kernel_rfl) (by kernel_rfl) n
 refine call_ok (cx:=cz_C51) (nm:=[]) rfl Tryz.func51 (body:=Tryz.f51.body.getD .skip) rfl enters51 (by kernel_rfl) ?_
 apply of_eq (q:=inByte (Nat.cast a.toNat:Int)∧inByte (Nat.cast b.toNat:Int)∧inByte (Nat.cast c.toNat:Int)∧inByte (Nat.cast e.toNat:Int)∧Le (SV.c (Cp.l (Leaf.v (Value.string (strOf [(Nat.cast a.toNat:Int),(Nat.cast b.toNat:Int),(Nat.cast c.toNat:Int),(Nat.cast e.toNat:Int)]))))) (SV.c (Cp.l (Leaf.v (Value.string (ByteArray.mk #[a,b,c,e])))))∧True) (by kernel_rfl)
 repeat' (first|exact trivial|with_reducible apply And.intro|(with_reducible apply HB.mk)|with_reducible intro _)
 all_goals first
  |(exact inb _)
  |(exact Le.of (congrArg (fun s=>SV.c (.l (.v (.string s)))) (strOf_bytes [a,b,c,e])))
theorem C51I (a b c e:UInt8) (n:Nat):CallOK Tryz.prog 51 [ag [ub a,ub b,ub c,ub e]] [] n (.c (.l (.v (.string ⟨#[ofI ((a.toNat:Nat):Int),ofI ((b.toNat:Nat):Int),ofI ((c.toNat:Nat):Int),ofI ((e.toNat:Nat):Int)]⟩)))) [] 0:=by
 rw[ofI_nat,ofI_nat,ofI_nat,ofI_nat];exact C51 a b c e n
theorem enc_sz (k:Nat) (t:Nat→UInt8):(⟨(Cod.M.enc (Prd.fw k t).data.toList).toArray⟩:ByteArray).size≤8196:=by
 have h:=Cod.M.enc_bd (Prd.fw k t).data.toList
 have e:(Prd.fw k t).data.toList.length=256:=by
  rw[Array.length_toList];exact fw_len k t
 rw[e] at h
 simpa [ByteArray.size] using h
theorem codT_sz (t:Nat→UInt8):(codT t).size≤8198:=by
 unfold codT
 rw[ByteArray.size_append]
 have:=enc_sz (bestT t) t
 have e:(⟨#[2,UInt8.ofNat (bestT t)]⟩:ByteArray).size=2:=rfl
 omega
theorem blobT_1 {t:Nat→UInt8} (h:solT t=true):(⟨#[0]⟩:ByteArray)++⟨#[t 0,t 1,t 2,t 3]⟩=blobT t:=by
 unfold blobT;rw[h];rfl
theorem blobT_2 {t:Nat→UInt8} (h:solT t=false) (k:decide (((codT t).size:Int)<257)=true):codT t=blobT t:=by
 unfold blobT;rw[h,k];rfl
theorem blobT_3 {t:Nat→UInt8} (h:solT t=false) (k:decide (((codT t).size:Int)<257)=false):(⟨#[1]⟩:ByteArray)++bytesT t=blobT t:=by
 unfold blobT;rw[h,k];rfl
theorem solP_t' {t:Nat→UInt8} (h:solT t=true):[ub (solP t 0),ub (solP t 1),ub (solP t 2),ub (solP t 3)]=[ub (t 0),ub (t 1),ub (t 2),ub (t 3)]:=by
 unfold solP;rw[if_pos h,if_pos h,if_pos h,if_pos h]
theorem best8 (t:Nat→UInt8):IntKind.u8.wrap ((bestT t:Nat):Int)=((UInt8.ofNat (bestT t)).toNat:Nat):=by
 have:=bestT_lt t
 rw[IntKind.wrap_u8,UInt8.toNat_ofNat']
 omega
attribute [local irreducible] solT codT bestT blobT bytesT tl sameT Prd.fw Cod.M.enc
theorem enters49:Enters Tryz.prog 49:=fun args w=>by go_simp
def cz_C49 (t:Nat→UInt8):Cz:={
 ct:=(fun f=>match f with
 |51=>some fun _ _S ar=>match ar with | [.c (.agg [.v (.int _ a),.v (.int _ b),.v (.int _ c),.v (.int _ e)])]=>some {v:=.c (.l (.v (.string ⟨#[ofI a,ofI b,ofI c,ofI e]⟩))),rd:=[],wr:=[],nw:=0}|_=>none
 |111=>some fun _ _S ar=>match ar with | [.c (.agg l)]=>some {v:=.tup [.agg [ub (solP (lsB l) 0),ub (solP (lsB l) 1),ub (solP (lsB l) 2),ub (solP (lsB l) 3)],.l (.v (.bool (solT (lsB l))))],rd:=[],wr:=[],nw:=0}|_=>none
 |112=>some fun _ _S ar=>match ar with | [.c (.agg l)]=>some {v:=iv .i64 (bestT (lsB l):Nat),rd:=[],wr:=[],nw:=0}|_=>none
 |113=>some fun _ _S ar=>match ar with | [.c (.agg l),.c (.l (.v (.int _ k)))]=>some {v:=.tup [.l (.v (.string (Prd.fw k.toNat (lsB l)))),.l (li 0)],rd:=[],wr:=[],nw:=0}|_=>none
 |114=>some fun _ _S ar=>match ar with | [.c (.l (.v (.string s)))]=>some {v:=.c (.l (.v (.string ⟨(Cod.M.enc s.data.toList).toArray⟩))),rd:=[],wr:=[],nw:=0}|_=>none
 |115=>some fun _ _S ar=>match ar with | [.c (.agg l)]=>some {v:=.c (.l (.v (.string (bytesT (lsB l))))),rd:=[],wr:=[],nw:=0}|_=>none
 |_=>none)
 eq:=(fun t=>match t with
 |_=>none)
 raw:=[],sym:=[],nf:=[(10,.c (.agg (tl t))),(11,.tup [.agg [ub (solP t 0),ub (solP t 1),ub (solP t 2),ub (solP t 3)],.l (.v (.bool (solT t)))]),(16,.c (.l (.v (.string ⟨#[0]⟩)))),(17,.c (.agg [ub (t 0),ub (t 1),ub (t 2),ub (t 3)])),(18,.c (.l (.v (.string ⟨#[t 0,t 1,t 2,t 3]⟩)))),(20,.c (.agg (tl t))),(21,iv .i64 (bestT t:Nat)),(23,.c (.agg (tl t))),(25,.tup [.l (.v (.string (Prd.fw (bestT t) t))),.l (li 0)]),(29,iv .u8 ((UInt8.ofNat (bestT t)).toNat:Nat)),(31,.c (.l (.v (.string ⟨#[2,UInt8.ofNat (bestT t)]⟩)))),(34,.c (.l (.v (.string (codT t))))),(40,.c (.l (.v (.string ⟨#[1]⟩)))),(41,.c (.agg (tl t))),(42,.c (.l (.v (.string (bytesT t)))))],ap:=true,off:=[],on:=[],lp:=fun _=>none,un:=0}
set_option maxRecDepth 100000 in
set_option maxHeartbeats 400000 in
theorem C49 (t:Nat→UInt8)  (n:Nat):CallOK Tryz.prog 49 [.c (.agg (tl t))] [] n (.c (.l (.v (.string (blobT t))))) [] 0:=by
 refine CallOK.any ?_ (by kernel_rfl) (by kernel_rfl) n
 have hb6:=bestT_lt t
 have hcs:=codT_sz t
 have hes:=enc_sz (bestT t) t
 have hbs:=bytesT_len t
 refine call_ok (cx:=cz_C49 t) (nm:=[]) rfl Tryz.func49 (body:=Tryz.f49.body.getD .skip) rfl enters49 (by kernel_rfl) ?_
 apply of_eq (q:=Le (ag (List.take 256 (tl t))) (ag (tl t))∧CallOKd Tryz.prog 111 [] [ag (tl t)] [] 1 (SV.tup [Cp.agg [Leaf.v (Value.int IntKind.u8 (Nat.cast ((solP (lsB (tl t)) 0).toNat):Int)),Leaf.v (Value.int IntKind.u8 (Nat.cast ((solP (lsB (tl t)) 1).toNat):Int)),Leaf.v (Value.int IntKind.u8 (Nat.cast ((solP (lsB (tl t)) 2).toNat):Int)),Leaf.v (Value.int IntKind.u8 (Nat.cast ((solP (lsB (tl t)) 3).toNat):Int))],Cp.l (lb (solT (lsB (tl t))))]) [] 0∧Le (SV.tup [Cp.agg [Leaf.v (Value.int IntKind.u8 (Nat.cast ((solP (lsB (tl t)) 0).toNat):Int)),Leaf.v (Value.int IntKind.u8 (Nat.cast ((solP (lsB (tl t)) 1).toNat):Int)),Leaf.v (Value.int IntKind.u8 (Nat.cast ((solP (lsB (tl t)) 2).toNat):Int)),Leaf.v (Value.int IntKind.u8 (Nat.cast ((solP (lsB (tl t)) 3).toNat):Int))],Cp.l (lb (solT (lsB (tl t))))]) (SV.tup [Cp.agg [Leaf.v (Value.int IntKind.u8 (Nat.cast ((solP t 0).toNat):Int)),Leaf.v (Value.int IntKind.u8 (Nat.cast ((solP t 1).toNat):Int)),Leaf.v (Value.int IntKind.u8 (Nat.cast ((solP t 2).toNat):Int)),Leaf.v (Value.int IntKind.u8 (Nat.cast ((solP t 3).toNat):Int))],Cp.l (lb (solT t))])∧HB (solT t) (inByte 0∧Le (SV.c (Cp.l (Leaf.v (Value.string (strOf [0]))))) (SV.c (Cp.l (Leaf.v (Value.string (ByteArray.mk #[0])))))∧Le (ag [Leaf.v (Value.int IntKind.u8 (Nat.cast ((solP t 0).toNat):Int)),Leaf.v (Value.int IntKind.u8 (Nat.cast ((solP t 1).toNat):Int)),Leaf.v (Value.int IntKind.u8 (Nat.cast ((solP t 2).toNat):Int)),Leaf.v (Value.int IntKind.u8 (Nat.cast ((solP t 3).toNat):Int))]) (ag [Leaf.v (Value.int IntKind.u8 (Nat.cast ((t 0).toNat):Int)),Leaf.v (Value.int IntKind.u8 (Nat.cast ((t 1).toNat):Int)),Leaf.v (Value.int IntKind.u8 (Nat.cast ((t 2).toNat):Int)),Leaf.v (Value.int IntKind.u8 (Nat.cast ((t 3).toNat):Int))])∧CallOKd Tryz.prog 51 [] [ag [Leaf.v (Value.int IntKind.u8 (Nat.cast ((t 0).toNat):Int)),Leaf.v (Value.int IntKind.u8 (Nat.cast ((t 1).toNat):Int)),Leaf.v (Value.int IntKind.u8 (Nat.cast ((t 2).toNat):Int)),Leaf.v (Value.int IntKind.u8 (Nat.cast ((t 3).toNat):Int))]] [] 3 (SV.c (Cp.l (Leaf.v (Value.string (ByteArray.mk #[ofI (Nat.cast ((t 0).toNat):Int),ofI (Nat.cast ((t 1).toNat):Int),ofI (Nat.cast ((t 2).toNat):Int),ofI (Nat.cast ((t 3).toNat):Int)]))))) [] 0∧Le (SV.c (Cp.l (Leaf.v (Value.string (ByteArray.mk #[ofI (Nat.cast ((t 0).toNat):Int),ofI (Nat.cast ((t 1).toNat):Int),ofI (Nat.cast ((t 2).toNat):Int),ofI (Nat.cast ((t 3).toNat):Int)]))))) (SV.c (Cp.l (Leaf.v (Value.string (ByteArray.mk #[t 0,t 1,t 2,t 3])))))∧(Nat.cast (((ByteArray.mk #[0]).size+(ByteArray.mk #[t 0,t 1,t 2,t 3]).size)):Int)≤IntKind.i64.max∧Le (SV.c (Cp.l (Leaf.v (Value.string (ByteArray.mk #[0]++ByteArray.mk #[t 0,t 1,t 2,t 3]))))) (SV.c (Cp.l (Leaf.v (Value.string (blobT t)))))∧True) (Le (ag (List.take 256 (tl t))) (ag (tl t))∧CallOKd Tryz.prog 112 [] [ag (tl t)] [] 2 (iv IntKind.i64 (Nat.cast ((bestT (lsB (tl t)))):Int)) [] 0∧Le (iv IntKind.i64 (Nat.cast ((bestT (lsB (tl t)))):Int)) (iv IntKind.i64 (Nat.cast ((bestT t)):Int))∧Le (ag (List.take 256 (tl t))) (ag (tl t))∧CallOKd Tryz.prog 113 [] [ag (tl t),iv IntKind.i64 (Nat.cast ((bestT t)):Int)] [] 2 (SV.tup [Cp.l (Leaf.v (Value.string (Prd.fw ((Nat.cast ((bestT t)):Int)).toNat (lsB (tl t))))),Cp.l (li 0)]) [] 0∧Le (SV.tup [Cp.l (Leaf.v (Value.string (Prd.fw ((Nat.cast ((bestT t)):Int)).toNat (lsB (tl t))))),Cp.l (li 0)]) (SV.tup [Cp.l (Leaf.v (Value.string (Prd.fw (bestT t) t))),Cp.l (li 0)])∧Le (iv IntKind.u8 (IntKind.u8.wrap (Nat.cast ((bestT t)):Int))) (iv IntKind.u8 (Nat.cast ((UInt8.ofNat (bestT t)).toNat):Int))∧inByte 2∧inByte (Nat.cast ((UInt8.ofNat (bestT t)).toNat):Int)∧Le (SV.c (Cp.l (Leaf.v (Value.string (strOf [2,(Nat.cast ((UInt8.ofNat (bestT t)).toNat):Int)]))))) (SV.c (Cp.l (Leaf.v (Value.string (ByteArray.mk #[2,UInt8.ofNat (bestT t)])))))∧CallOKd Tryz.prog 114 [] [SV.c (Cp.l (Leaf.v (Value.string (Prd.fw (bestT t) t))))] [] 3 (SV.c (Cp.l (Leaf.v (Value.string (ByteArray.mk (Cod.M.enc (Prd.fw (bestT t) t).data.toList).toArray))))) [] 0∧(Nat.cast (((ByteArray.mk #[2,UInt8.ofNat (bestT t)]).size+(ByteArray.mk (Cod.M.enc (Prd.fw (bestT t) t).data.toList).toArray).size)):Int)≤IntKind.i64.max∧Le (SV.c (Cp.l (Leaf.v (Value.string (ByteArray.mk #[2,UInt8.ofNat (bestT t)]++ByteArray.mk (Cod.M.enc (Prd.fw (bestT t) t).data.toList).toArray))))) (SV.c (Cp.l (Leaf.v (Value.string (codT t)))))∧HB (decide ((Nat.cast ((codT t).size):Int)<257)) (Le (SV.c (Cp.l (Leaf.v (Value.string (codT t))))) (SV.c (Cp.l (Leaf.v (Value.string (blobT t)))))∧True) (inByte 1∧Le (SV.c (Cp.l (Leaf.v (Value.string (strOf [1]))))) (SV.c (Cp.l (Leaf.v (Value.string (ByteArray.mk #[1])))))∧Le (ag (List.take 256 (tl t))) (ag (tl t))∧CallOKd Tryz.prog 115 [] [ag (tl t)] [] 4 (SV.c (Cp.l (Leaf.v (Value.string (bytesT (lsB (tl t))))))) [] 0∧Le (SV.c (Cp.l (Leaf.v (Value.string (bytesT (lsB (tl t))))))) (SV.c (Cp.l (Leaf.v (Value.string (bytesT t)))))∧(Nat.cast (((ByteArray.mk #[1]).size+(bytesT t).size)):Int)≤IntKind.i64.max∧Le (SV.c (Cp.l (Leaf.v (Value.string (ByteArray.mk #[1]++bytesT t))))) (SV.c (Cp.l (Leaf.v (Value.string (blobT t)))))∧True))) (by kernel_rfl)
 repeat' (first|exact trivial|with_reducible apply And.intro|(with_reducible apply HB.mk)|with_reducible intro _)
 all_goals first
  |((with_reducible exact C51I _ _ _ _ _))
  |((with_reducible exact C111L _ _ rfl _))
  |((with_reducible refine C112L _ _ rfl _))
  |((with_reducible refine C113L _ _ rfl _ ?_ ?_ _)<;>omega)
  |((with_reducible refine C114 _ ?_ _);rw[fw_len];decide)
  |((with_reducible exact C115L _ _ rfl _))
  |(exact Le.of (by rw[tl_take]))
  |(exact Le.of (by rw[sol_lsB,solP_lsB t (by decide),solP_lsB t (by decide),solP_lsB t (by decide),solP_lsB t (by decide)]))
  |(exact inb _)
  |(exact Le.of (by rw[solP_t' (by with_reducible assumption:solT t=true)]))
  |(exact Le.of (by rw[ofI_nat,ofI_nat,ofI_nat,ofI_nat]))
  |(exact Le.of (by rw[blobT_1 (by with_reducible assumption:solT t=true)]))
  |(exact Le.of (by rw[bestT_lsB]))
  |(exact Le.of (by unfold codT;rfl))
  |(exact Le.of (by rw[show ((bestT t:Nat):Int).toNat=bestT t from rfl,fw_lsB]))
  |(exact Le.of (by rw[best8]))
  |(exact Le.of (congrArg (fun s=>SV.c (.l (.v (.string s)))) (strOf_bytes [2,UInt8.ofNat (bestT t)])))
  |(exact Le.of (congrArg (fun s=>SV.c (.l (.v (.string s)))) (strOf_bytes [1])))
  |(exact Le.of (congrArg (fun s=>SV.c (.l (.v (.string s)))) (strOf_bytes [0])))
  |(exact Le.of (by rw[blobT_2 (by with_reducible assumption:solT t=false) (by with_reducible assumption:decide (((codT t).size:Int)<257)=true)]))
  |(exact Le.of (by rw[blobT_3 (by with_reducible assumption:solT t=false) (by with_reducible assumption:decide (((codT t).size:Int)<257)=false)]))
  |(exact Le.of (by rw[bytesT_lsB]))
  |((rw[IntKind.max_i64];have e0:(⟨#[0]⟩:ByteArray).size=1:=rfl;have e4:(⟨#[t 0,t 1,t 2,t 3]⟩:ByteArray).size=4:=rfl;have e2:(⟨#[2,UInt8.ofNat (bestT t)]⟩:ByteArray).size=2:=rfl;have e1:(⟨#[1]⟩:ByteArray).size=1:=rfl;omega))
  |(unfold inByte;decide)
end Ab
end Go.Proofs.YtpdckpifhniioaaGreat
end
