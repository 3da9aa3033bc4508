/- Part 22 of what CodecLocal rests on. -/
import Derived.Test.YtpdckpifhniioaaGreatPu
section
set_option linter.unusedVariables false
set_option linter.unusedSimpArgs false
namespace Go.Proofs.YtpdckpifhniioaaGreat
open Go.RowKit
namespace Ab
attribute [local irreducible] CallOKd
theorem enters130:Enters Tryz.prog 130:=fun args w=>by go_simp
def cz_C130:Cz:={
 ct:=(fun f=>match f with
 |_=>none)
 eq:=(fun t=>match t with
 |_=>none)
 raw:=[],sym:=[],nf:=[],ap:=true,off:=[],on:=[],lp:=fun _=>none,un:=0}
set_option maxRecDepth 100000 in
set_option maxHeartbeats 400000 in
theorem C130 (a b:Int) (h0:0≤a) (h1:a≤1000000000) (b0:0<b) (b1:b≤1000000000) (n:Nat):CallOK Tryz.prog 130 [iv .i64 a,iv .i64 b] [] n (iv .i64 (rnd a b)) [] 0:=by
 refine CallOK.any ?_ (by kernel_rfl) (by kernel_rfl) n
 refine call_ok (cx:=cz_C130) (nm:=[]) rfl Tryz.func130 (body:=Tryz.f130.body.getD .skip) rfl enters130 (by kernel_rfl) ?_
 apply of_eq (q:=IntKind.i64.wrap (2*a)=2*a∧IntKind.i64.wrap (2*a+b)=2*a+b∧IntKind.i64.wrap (2*b)=2*b∧2*b≠0∧IntKind.i64.wrap ((2*a+b).tdiv (2*b))=(2*a+b).tdiv (2*b)∧Le (iv IntKind.i64 ((2*a+b).tdiv (2*b))) (iv IntKind.i64 (rnd a b))∧True) (by kernel_rfl)
 repeat' (first|exact trivial|with_reducible apply And.intro|(with_reducible apply HB.mk)|with_reducible intro _)
 all_goals first
  |(have:=rnd_bd h0 h1 b0 b1;unfold rnd at this;exact okw _ (by omega) (by omega))
  |(omega)
  |(exact Le.of rfl)
theorem enters67:Enters Tryz.prog 67:=fun args w=>by go_simp
def cz_C67 (a b d e:Int):Cz:={
 ct:=(fun f=>match f with
 |_=>none)
 eq:=(fun t=>match t with
 |_=>none)
 raw:=[],sym:=[],nf:=[(8,bv false),(10,iv .i64 1),(13,iv .i64 e),(15,iv .i64 e),(42,iv .i64 a),(55,iv .i64 b),(68,iv .i64 d)],ap:=true,off:=[],on:=[],lp:=fun _=>none,un:=0}
set_option maxRecDepth 100000 in
set_option maxHeartbeats 400000 in
theorem C67 (s0 s1 s2 s3 c:Int) (a b d e:Int) (h0:0≤s0∧s0≤1000000000) (h1:0≤s1∧s1≤1000000000) (h2:0≤s2∧s2≤1000000000) (h3:0≤s3∧s3≤1000000000) (h4:0≤c∧c≤1000000000) (ha:0≤a∧a<256) (hb:0≤b∧b<256) (hd:0≤d∧d<256) (he:0≤e∧e<256):CallOK Tryz.prog 67 [.c (.l (.p 0 0)),ag [u8 a,u8 b,u8 d,u8 e],iv .i64 1] [(0,⟨[li s3,li s0,li s1,li s2,li c],.t 130⟩)] 1 (.tup []) [(0,⟨[li (s3+e),li (s0+e*a),li (s1+e*b),li (s2+e*d),li (c+1)],.t 130⟩)] 0:=by
 have pa:=mul_bd he ha
 have pb:=mul_bd he hb
 have pd:=mul_bd he hd
 have wa:=u8w ha
 have wb:=u8w hb
 have wd:=u8w hd
 have we:=u8w he
 refine call_ok (cx:=cz_C67 a b d e) (nm:=[]) rfl Tryz.func67 (body:=Tryz.f67.body.getD .skip) rfl enters67 (by kernel_rfl) ?_
 apply of_eq (q:=Le (bv (decide (1<1))) (bv false)∧Le (iv IntKind.i64 (imin 1 65536)) (iv IntKind.i64 1)∧Le (iv IntKind.i64 (IntKind.i64.wrap e)) (iv IntKind.i64 e)∧IntKind.i64.wrap (e*1)=e*1∧Le (iv IntKind.i64 (e*1)) (iv IntKind.i64 e)∧IntKind.i64.wrap (c+1)=c+1∧IntKind.i64.wrap (s3+e)=s3+e∧Le (iv IntKind.i64 (IntKind.i64.wrap a)) (iv IntKind.i64 a)∧IntKind.i64.wrap (e*a)=e*a∧IntKind.i64.wrap (s0+e*a)=s0+e*a∧Le (iv IntKind.i64 (IntKind.i64.wrap b)) (iv IntKind.i64 b)∧IntKind.i64.wrap (e*b)=e*b∧IntKind.i64.wrap (s1+e*b)=s1+e*b∧Le (iv IntKind.i64 (IntKind.i64.wrap d)) (iv IntKind.i64 d)∧IntKind.i64.wrap (e*d)=e*d∧IntKind.i64.wrap (s2+e*d)=s2+e*d∧Le (SV.tup []) (SV.tup [])∧BkR (rnId 1 0 []) (Blk.mk [li (s3+e),li (s0+e*a),li (s1+e*b),li (s2+e*d),li (c+1)] (BT.t 130)) (Blk.mk [li (s3+e),li (s0+e*a),li (s1+e*b),li (s2+e*d),li (c+1)] (BT.t 130))∧True) (by kernel_rfl)
 repeat' (first|exact trivial|with_reducible apply And.intro|(with_reducible apply HB.mk)|with_reducible intro _)
 all_goals first
  |(with_reducible exact Le.refl _)
  |(with_reducible exact Le.int wa)
  |(with_reducible exact Le.int wb)
  |(with_reducible exact Le.int wd)
  |(with_reducible exact Le.int we)
  |(with_reducible exact Le.int (Int.mul_one _))
  |(exact Le.bool rfl)
  |(exact Le.int rfl)
  |((rw[Int.mul_one];exact okw _ (by omega) (by omega)))
  |(exact BkR.of (by kernel_rfl))
  |(exact okw _ (by omega) (by omega))
theorem C67g (s0 s1 s2 s3 c:Int) (a b d e:Int) (h0:0≤s0∧s0≤1000000000) (h1:0≤s1∧s1≤1000000000) (h2:0≤s2∧s2≤1000000000) (h3:0≤s3∧s3≤1000000000) (h4:0≤c∧c≤1000000000) (ha:0≤a∧a<256) (hb:0≤b∧b<256) (hd:0≤d∧d<256) (he:0≤e∧e<256) (id n:Nat) (hi:id<n):CallOK Tryz.prog 67 [.c (.l (.p id 0)),ag [u8 a,u8 b,u8 d,u8 e],iv .i64 1] [(id,⟨[li s3,li s0,li s1,li s2,li c],.t 130⟩)] n (.tup []) [(id,⟨[li (s3+e),li (s0+e*a),li (s1+e*b),li (s2+e*d),li (c+1)],.t 130⟩)] 0:=
 CallOK.at1 (C67 s0 s1 s2 s3 c a b d e h0 h1 h2 h3 h4 ha hb hd he) id n hi
theorem enters68:Enters Tryz.prog 68:=fun args w=>by go_simp
def cz_C68:Cz:={
 ct:=(fun f=>match f with
 |130=>some fun _ _S ar=>match ar with | [.c (.l (.v (.int _ a))),.c (.l (.v (.int _ b)))]=>some {v:=iv .i64 (rnd a b),rd:=[],wr:=[],nw:=0}|_=>none
 |_=>none)
 eq:=(fun t=>match t with
 |_=>none)
 raw:=[],sym:=[],nf:=[(8,bv false)],ap:=true,off:=[],on:=[],lp:=fun _=>none,un:=0,wh:=[36]}
set_option maxRecDepth 100000 in
set_option maxHeartbeats 400000 in
theorem C68 (s0 s1 s2 s3:Int) (h0:0≤s0∧s0≤10000000) (h1:0≤s1∧s1≤10000000) (h2:0≤s2∧s2≤10000000) (h3:0≤s3∧s3≤10000000):CallOK Tryz.prog 68 [.c (.l (.p 0 0))] [(0,⟨[li s3,li s0,li s1,li s2,li 64],.t 130⟩)] 1 (ag [u8 (mch s0 s3),u8 (mch s1 s3),u8 (mch s2 s3),u8 (mal s3)]) [] 0:=by
 have hpos:=rnd_pos (s:=s3) h3.1
 refine call_ok (cx:=cz_C68) (nm:=[]) rfl Tryz.func68 (body:=Tryz.f68.body.getD .skip) rfl enters68 (by kernel_rfl) ?_
 apply of_eq (q:=Le (bv (64==0)) (bv false)∧CallOKd Tryz.prog 130 [] [iv IntKind.i64 s3,iv IntKind.i64 64] [] 2 (iv IntKind.i64 (rnd s3 64)) [] 0∧HB (rnd s3 64==0) (0=0∧4=4∧Le (ag [Leaf.v (Value.int IntKind.u8 0),Leaf.v (Value.int IntKind.u8 0),Leaf.v (Value.int IntKind.u8 0),Leaf.v (Value.int IntKind.u8 0)]) (ag [Leaf.v (Value.int IntKind.u8 (mch s0 s3)),Leaf.v (Value.int IntKind.u8 (mch s1 s3)),Leaf.v (Value.int IntKind.u8 (mch s2 s3)),Leaf.v (Value.int IntKind.u8 (mal s3))])∧True) (CallOKd Tryz.prog 130 [] [iv IntKind.i64 s0,iv IntKind.i64 s3] [] 2 (iv IntKind.i64 (rnd s0 s3)) [] 0∧CallOKd Tryz.prog 130 [] [iv IntKind.i64 s1,iv IntKind.i64 s3] [] 2 (iv IntKind.i64 (rnd s1 s3)) [] 0∧CallOKd Tryz.prog 130 [] [iv IntKind.i64 s2,iv IntKind.i64 s3] [] 2 (iv IntKind.i64 (rnd s2 s3)) [] 0∧0=0∧4=4∧Le (ag [Leaf.v (Value.int IntKind.u8 (IntKind.u8.wrap (rnd s0 s3))),Leaf.v (Value.int IntKind.u8 (IntKind.u8.wrap (rnd s1 s3))),Leaf.v (Value.int IntKind.u8 (IntKind.u8.wrap (rnd s2 s3))),Leaf.v (Value.int IntKind.u8 (IntKind.u8.wrap (rnd s3 64)))]) (ag [Leaf.v (Value.int IntKind.u8 (mch s0 s3)),Leaf.v (Value.int IntKind.u8 (mch s1 s3)),Leaf.v (Value.int IntKind.u8 (mch s2 s3)),Leaf.v (Value.int IntKind.u8 (mal s3))])∧True)) (by kernel_rfl)
 repeat' (first|exact trivial|with_reducible apply And.intro|(with_reducible apply HB.mk)|with_reducible intro _)
 all_goals first
  |(with_reducible rfl)
  |(((with_reducible refine C130 _ _ ?_ ?_ ?_ ?_ _)<;>first|omega|exact hpos (by with_reducible assumption)))
  |(exact Le.bool rfl)
  |((refine Le.of ?_;unfold mch mal;rw[((by with_reducible assumption):(rnd s3 64==0)=true)];rfl))
  |((refine Le.of ?_;unfold mch mal;rw[((by with_reducible assumption):(rnd s3 64==0)=false)];rfl))
theorem C68g (s0 s1 s2 s3:Int) (h0:0≤s0∧s0≤10000000) (h1:0≤s1∧s1≤10000000) (h2:0≤s2∧s2≤10000000) (h3:0≤s3∧s3≤10000000) (id n:Nat) (hi:id<n):CallOK Tryz.prog 68 [.c (.l (.p id 0))] [(id,⟨[li s3,li s0,li s1,li s2,li 64],.t 130⟩)] n (ag [u8 (mch s0 s3),u8 (mch s1 s3),u8 (mch s2 s3),u8 (mal s3)]) [] 0:=
 CallOK.at1 (C68 s0 s1 s2 s3 h0 h1 h2 h3) id n hi
def I17 (t:Nat→UInt8) (k:Nat):St:=⟨[(4,iv .i64 (k:Nat)),(3,.c (.l (.p 2 0))),(2,.c (.l (.p 1 0))),(1,.c (.l (.p 0 0)))],[(0,some ⟨tl t,.t 38⟩),(1,some ⟨[u8 0,u8 0,u8 0,u8 0],.t 36⟩),(2,some ⟨[li (mS t 3 k),li (mS t 0 k),li (mS t 1 k),li (mS t 2 k),li (k:Nat)],.t 130⟩)],3,18,[2,1,0],(0)⟩
def W67 (S:St) (i:Nat) (a b d e:Int):Blk:=match S.blk i with|some ⟨[.v (.int _ s3),.v (.int _ s0),.v (.int _ s1),.v (.int _ s2),.v (.int _ c)],_⟩=>⟨[li (s3+e),li (s0+e*a),li (s1+e*b),li (s2+e*d),li (c+1)],.t 130⟩|_=>⟨[],.t 0⟩
def V68 (S:St) (i:Nat):SV:=match S.blk i with|some ⟨[.v (.int _ s3),.v (.int _ s0),.v (.int _ s1),.v (.int _ s2),_],_⟩=>ag [u8 (mch s0 s3),u8 (mch s1 s3),u8 (mch s2 s3),u8 (mal s3)]|_=>.u
theorem mS3 (t:Nat→UInt8) (k:Nat):mS t 3 k+((t (4*k+3)).toNat:Nat)=mS t 3 (k+1):=by
 rw[mS];show _=mS t 3 k+_*1;rw[Int.mul_one]
theorem tl_pix' (t:Nat→UInt8) {k:Nat} (h:k<64):List.take 4 (List.drop (0+((k:Nat):Int).toNat*4) (tl t))=[ub (t (4*k)),ub (t (4*k+1)),ub (t (4*k+2)),ub (t (4*k+3))]:=by
 rw[show 0+((k:Nat):Int).toNat*4=k*4 by omega,tl_pix _ h];rfl
def cz_R17 (t:Nat→UInt8) (k:Nat):Cz:={
 ct:=(fun f=>match f with
 |67=>some fun _ _S ar=>match ar with | [.c (.l (.p i _)),.c (.agg [.v (.int _ a),.v (.int _ b),.v (.int _ d),.v (.int _ e)]),.c (.l (.v (.int _ 1)))]=>some {v:=.tup [],rd:=[i],wr:=[(i,W67 _S i a b d e)],nw:=0}|_=>none
 |68=>some fun _ _S ar=>match ar with | [.c (.l (.p i _))]=>some {v:=V68 _S i,rd:=[i],wr:=[],nw:=0}|_=>none
 |_=>none)
 eq:=(fun t=>match t with
 |_=>none)
 raw:=[],sym:=[13,14],nf:=[(14,.c (.agg [ub (t (4*k)),ub (t (4*k+1)),ub (t (4*k+2)),ub (t (4*k+3))]))],ap:=true,off:=[],on:=[],lp:=fun _=>none,un:=0}
set_option maxRecDepth 100000 in
theorem R17 (t:Nat→UInt8) (k:Nat)  (K:Exit→St→Prop) (h:HB (decide ((Nat.cast k:Int)<64)) (InR ((Nat.cast k:Int)) 64∧0+((Nat.cast k:Int)).toNat*4+4≤256∧Le (ag (List.take 4 (List.drop (0+((Nat.cast k:Int)).toNat*4) (tl t)))) (ag [Leaf.v (Value.int IntKind.u8 (Nat.cast ((t (4*k)).toNat):Int)),Leaf.v (Value.int IntKind.u8 (Nat.cast ((t (4*k+1)).toNat):Int)),Leaf.v (Value.int IntKind.u8 (Nat.cast ((t (4*k+2)).toNat):Int)),Leaf.v (Value.int IntKind.u8 (Nat.cast ((t (4*k+3)).toNat):Int))])∧CallOKd Tryz.prog 67 [] [SV.c (Cp.l (Leaf.p 2 0)),ag [Leaf.v (Value.int IntKind.u8 (Nat.cast ((t (4*k)).toNat):Int)),Leaf.v (Value.int IntKind.u8 (Nat.cast ((t (4*k+1)).toNat):Int)),Leaf.v (Value.int IntKind.u8 (Nat.cast ((t (4*k+2)).toNat):Int)),Leaf.v (Value.int IntKind.u8 (Nat.cast ((t (4*k+3)).toNat):Int))],iv IntKind.i64 1] [(2,Blk.mk [li (mS t 3 k),li (mS t 0 k),li (mS t 1 k),li (mS t 2 k),li (Nat.cast k:Int)] (BT.t 130))] 3 (SV.tup []) [(2,Blk.mk [li (mS t 3 k+(Nat.cast ((t (4*k+3)).toNat):Int)),li (mS t 0 k+(Nat.cast ((t (4*k+3)).toNat):Int)*(Nat.cast ((t (4*k)).toNat):Int)),li (mS t 1 k+(Nat.cast ((t (4*k+3)).toNat):Int)*(Nat.cast ((t (4*k+1)).toNat):Int)),li (mS t 2 k+(Nat.cast ((t (4*k+3)).toNat):Int)*(Nat.cast ((t (4*k+2)).toNat):Int)),li ((Nat.cast k:Int)+1)] (BT.t 130))] 0∧IntKind.i64.wrap ((Nat.cast k:Int)+1)=(Nat.cast k:Int)+1∧RoundTo Tryz.prog ((getLoop 3 (Tryz.f17.body.getD Code.skip)).getD Code.skip) 3 (wkK 3 K) (St.mk [(1,SV.c (Cp.l (Leaf.p 0 0))),(2,SV.c (Cp.l (Leaf.p 1 0))),(3,SV.c (Cp.l (Leaf.p 2 0))),(4,iv IntKind.i64 ((Nat.cast k:Int)+1))] [(0,some (Blk.mk (tl t) (BT.t 38))),(1,some (Blk.mk [Leaf.v (Value.int IntKind.u8 0),Leaf.v (Value.int IntKind.u8 0),Leaf.v (Value.int IntKind.u8 0),Leaf.v (Value.int IntKind.u8 0)] (BT.t 36))),(2,some (Blk.mk [li (mS t 3 k+(Nat.cast ((t (4*k+3)).toNat):Int)),li (mS t 0 k+(Nat.cast ((t (4*k+3)).toNat):Int)*(Nat.cast ((t (4*k)).toNat):Int)),li (mS t 1 k+(Nat.cast ((t (4*k+3)).toNat):Int)*(Nat.cast ((t (4*k+1)).toNat):Int)),li (mS t 2 k+(Nat.cast ((t (4*k+3)).toNat):Int)*(Nat.cast ((t (4*k+2)).toNat):Int)),li ((Nat.cast k:Int)+1)] (BT.t 130)))] 3 18 [2,2,1,0] 0)) (wkK 3 K (Exit.exit 0) (St.mk [(1,SV.c (Cp.l (Leaf.p 0 0))),(2,SV.c (Cp.l (Leaf.p 1 0))),(3,SV.c (Cp.l (Leaf.p 2 0))),(4,iv IntKind.i64 (Nat.cast k:Int))] [(0,some (Blk.mk (tl t) (BT.t 38))),(1,some (Blk.mk [Leaf.v (Value.int IntKind.u8 0),Leaf.v (Value.int IntKind.u8 0),Leaf.v (Value.int IntKind.u8 0),Leaf.v (Value.int IntKind.u8 0)] (BT.t 36))),(2,some (Blk.mk [li (mS t 3 k),li (mS t 0 k),li (mS t 1 k),li (mS t 2 k),li (Nat.cast k:Int)] (BT.t 130)))] 3 18 [2,1,0] 0))):WPL Tryz.prog ((getLoop 3 (Tryz.f17.body.getD .skip)).getD .skip) (I17 t k) (wkK 3 K):=
 wp_roundT [1,2,3,4] [0,1,2] (cx:=cz_R17 t k) rfl (of_eq (by kernel_rfl) h)
set_option maxRecDepth 100000 in
set_option maxHeartbeats 4000000 in
theorem L17 (t:Nat→UInt8)  : ∀(m k:Nat),64-k=m→k≤64→∀(K:Exit→St→Prop),K (.exit 0) (I17 t 64)→WPL Tryz.prog ((getLoop 3 (Tryz.f17.body.getD .skip)).getD .skip) (I17 t k) (wkK 3 K)
 |0,k,hm,hk,K,hK=>by
  have e:k=64:=by omega
  subst e
  refine R17 t _ K (HB.mk (fun hne=>absurd (of_decide_eq_true hne) (by omega)) (fun he=>?_))
  exact wkK.to (I17 t _) (Nat.le_refl _) (by kernel_rfl) (wkE_cons (LeN.sl (by kernel_rfl) rfl) (wkE_cons (LeN.sl (by kernel_rfl) rfl) (wkE_cons (LeN.sl (by kernel_rfl) rfl) (wkE_cons (LeN.sl (by kernel_rfl) rfl) trivial)))) (wkH_cons (BkN.plain (cs:=tl t) (b:=.t 38) (by kernel_rfl) (rfl) (plain_tl t) (by kernel_rfl)) (wkH_cons (BkN.blk (k:=⟨[u8 0,u8 0,u8 0,u8 0],.t 36⟩) (by kernel_rfl) (rfl) (by kernel_rfl)) (wkH_cons (BkN.blk (k:=⟨[li (mS t 3 64),li (mS t 0 64),li (mS t 1 64),li (mS t 2 64),li (64:Nat)],.t 130⟩) (by kernel_rfl) (rfl) (by kernel_rfl)) trivial))) hK
 |m+1,k,hm,hk,K,hK=>by
  refine R17 t k K (HB.mk (fun hne=>?_) (fun he=>absurd (show ((k:Nat):Int)<(64:Nat) by omega) (of_decide_eq_false he)))
  have hlt:k<64:=by omega
  repeat' (first|exact trivial|with_reducible apply And.intro|(with_reducible apply HB.mk)|with_reducible intro _)
  all_goals first
   |(((with_reducible refine C67g _ _ _ _ _ _ _ _ _ ?_ ?_ ?_ ?_ ?_ ?_ ?_ ?_ ?_ _ _ ?_)<;>first|exact okb _|exact mS_b' t _ (Nat.le_of_lt hlt)|omega))
   |(exact ⟨by omega,by omega⟩)
   |(exact Le.of (congrArg (fun l=>SV.c (.agg l)) (tl_pix' t hlt)))
   |(omega)
   |((with_reducible refine RoundTo.toN 3 (I17 t (k+1)) ?_ ?_ ?_ ?_ ?_);exact Nat.le_refl _;kernel_rfl;exact (wkE_cons (LeN.sl (by kernel_rfl) rfl) (wkE_cons (LeN.sl (by kernel_rfl) rfl) (wkE_cons (LeN.sl (by kernel_rfl) rfl) (wkE_cons (LeN.sl (by kernel_rfl) rfl) trivial))));exact (wkH_cons (BkN.plain (cs:=tl t) (b:=.t 38) (by kernel_rfl) (rfl) (plain_tl t) (by kernel_rfl)) (wkH_cons (BkN.blk (k:=⟨[u8 0,u8 0,u8 0,u8 0],.t 36⟩) (by kernel_rfl) (rfl) (by kernel_rfl)) (wkH_cons (BkN.blk (k:=⟨[li (mS t 3 k+((t (4*k+3)).toNat:Nat)),li (mS t 0 k+((t (4*k+3)).toNat:Nat)*((t (4*k)).toNat:Nat)),li (mS t 1 k+((t (4*k+3)).toNat:Nat)*((t (4*k+1)).toNat:Nat)),li (mS t 2 k+((t (4*k+3)).toNat:Nat)*((t (4*k+2)).toNat:Nat)),li (((k:Nat):Int)+1)],.t 130⟩) (by kernel_rfl) (by rw[mS3];rfl) (by kernel_rfl)) trivial)));exact (L17 t  m (k+1) (by omega) (by omega) K hK))
   |(exact okw _ (by omega) (by omega))
theorem enters17:Enters Tryz.prog 17:=fun args w=>by go_simp
def cz_C17 (t:Nat→UInt8):Cz:={
 ct:=(fun f=>match f with
 |67=>some fun _ _S ar=>match ar with | [.c (.l (.p i _)),.c (.agg [.v (.int _ a),.v (.int _ b),.v (.int _ d),.v (.int _ e)]),.c (.l (.v (.int _ 1)))]=>some {v:=.tup [],rd:=[i],wr:=[(i,W67 _S i a b d e)],nw:=0}|_=>none
 |68=>some fun _ _S ar=>match ar with | [.c (.l (.p i _))]=>some {v:=V68 _S i,rd:=[i],wr:=[],nw:=0}|_=>none
 |_=>none)
 eq:=(fun t=>match t with
 |_=>none)
 raw:=[],sym:=[],nf:=[],ap:=true,off:=[],on:=[],lp:=fun r=>match r with|3=>some (fun _ K=>K (.exit 0) (I17 t 64))|_=>none,un:=0,wh:=[36]}
set_option maxRecDepth 100000 in
set_option maxHeartbeats 400000 in
theorem C17 (t:Nat→UInt8)  (n:Nat):CallOK Tryz.prog 17 [.c (.agg (tl t))] [] n (ag (meanL t)) [] 0:=by
 refine CallOK.any ?_ (by kernel_rfl) (by kernel_rfl) n
 refine call_ok (cx:=cz_C17 t) (nm:=[]) rfl Tryz.func17 (body:=Tryz.f17.body.getD .skip) rfl enters17 (by kernel_rfl) ?_
 apply of_eq (q:=(LoopOK Tryz.prog ((getLoop 3 (Tryz.f17.body.getD .skip)).getD .skip) (St.mk [(4,iv IntKind.i64 0),(3,SV.c (Cp.l (Leaf.p 2 0))),(6,SV.c (Cp.l (Leaf.p 2 0))),(5,ag [li 0,li 0,li 0,li 0,li 0]),(2,SV.c (Cp.l (Leaf.p 1 0))),(1,SV.c (Cp.l (Leaf.p 0 0))),(0,ag (tl t))] [(2,some (Blk.mk [li 0,li 0,li 0,li 0,li 0] (BT.t 130))),(1,some (Blk.mk [Leaf.v (Value.int IntKind.u8 0),Leaf.v (Value.int IntKind.u8 0),Leaf.v (Value.int IntKind.u8 0),Leaf.v (Value.int IntKind.u8 0)] (BT.t 36))),(0,some (Blk.mk (tl t) (BT.t 38)))] 3 18 [2,1,0] 0) fun K=>K (Exit.exit 0) (I17 t 64))∧CallOKd Tryz.prog 68 [] [SV.c (Cp.l (Leaf.p 2 0))] [(2,Blk.mk [li (mS t 3 64),li (mS t 0 64),li (mS t 1 64),li (mS t 2 64),li (Nat.cast 64:Int)] (BT.t 130))] 3 (ag [Leaf.v (Value.int IntKind.u8 (mch (mS t 0 64) (mS t 3 64))),Leaf.v (Value.int IntKind.u8 (mch (mS t 1 64) (mS t 3 64))),Leaf.v (Value.int IntKind.u8 (mch (mS t 2 64) (mS t 3 64))),Leaf.v (Value.int IntKind.u8 (mal (mS t 3 64)))]) [] 0∧0=0∧4=4∧Le (ag [Leaf.v (Value.int IntKind.u8 (mch (mS t 0 64) (mS t 3 64))),Leaf.v (Value.int IntKind.u8 (mch (mS t 1 64) (mS t 3 64))),Leaf.v (Value.int IntKind.u8 (mch (mS t 2 64) (mS t 3 64))),Leaf.v (Value.int IntKind.u8 (mal (mS t 3 64)))]) (ag [Leaf.v (Value.int IntKind.u8 (mch (mS t 0 64) (mS t 3 64))),Leaf.v (Value.int IntKind.u8 (mch (mS t 1 64) (mS t 3 64))),Leaf.v (Value.int IntKind.u8 (mch (mS t 2 64) (mS t 3 64))),Leaf.v (Value.int IntKind.u8 (mal (mS t 3 64)))])∧True) (by kernel_rfl)
 repeat' (first|exact trivial|with_reducible apply And.intro|(with_reducible apply HB.mk)|with_reducible intro _)
 all_goals first
  |(with_reducible exact Le.refl _)
  |(with_reducible rfl)
  |(exact LoopOK.mk (I17 t 0) rfl (by kernel_rfl) (wkE_cons (LeN.sl (by kernel_rfl) rfl) (wkE_cons (LeN.sl (by kernel_rfl) rfl) (wkE_cons (LeN.sl (by kernel_rfl) rfl) (wkE_cons (LeN.sl (by kernel_rfl) rfl) trivial)))) (wkH_cons (BkN.plain (cs:=tl t) (b:=.t 38) (by kernel_rfl) (rfl) (plain_tl t) (by kernel_rfl)) (wkH_cons (BkN.blk (k:=⟨[u8 0,u8 0,u8 0,u8 0],.t 36⟩) (by kernel_rfl) (rfl) (by kernel_rfl)) (wkH_cons (BkN.blk (k:=⟨[li (mS t 3 0),li (mS t 0 0),li (mS t 1 0),li (mS t 2 0),li (0:Nat)],.t 130⟩) (by kernel_rfl) (rfl) (by kernel_rfl)) trivial))) (fun K hT=>L17 t  _ 0 rfl (by first|decide|omega) K hT))
  |(((refine C68g _ _ _ _ ?_ ?_ ?_ ?_ _ _ ?_))<;>first|exact mS_b t _ (Nat.le_refl _)|decide)
end Ab
end Go.Proofs.YtpdckpifhniioaaGreat
end
section
set_option linter.unusedVariables false
set_option linter.unusedSimpArgs false
namespace Go.Proofs.YtpdckpifhniioaaGreat
open Go.RowKit
namespace Ab
attribute [local irreducible] CallOKd
end Ab
end Go.Proofs.YtpdckpifhniioaaGreat
end
section
set_option linter.unusedVariables false
set_option linter.unusedSimpArgs false
namespace Go.Proofs.YtpdckpifhniioaaGreat
open Go.RowKit
namespace Ab
theorem good_lt {l:List TA} (g:Good l) (j:Nat):∀d,j+d+1<l.length→(at' l j).Y<(at' l (j+d+1)).Y∨((at' l j).Y=(at' l (j+d+1)).Y∧(at' l j).X<(at' l (j+d+1)).X)
 |0,h=>g.ord j h
 |d+1,h=>by
  have h1:=good_lt g j d (by omega)
  have h2:=g.ord (j+d+1) (by omega)
  rw[show j+(d+1)+1=j+d+1+1 by omega]
  omega
theorem mT_iff {l:List TA} {x y:Int} {j:Nat}:mT l x y j=true↔(at' l j).X=x∧(at' l j).Y=y:=by
 unfold mT
 simp
theorem mT_uniq {l:List TA} (g:Good l) {x y:Int} {i j:Nat} (hi:i<l.length) (hj:j<l.length) (h1:mT l x y i=true) (h2:mT l x y j=true):i=j:=by
 rw[mT_iff] at h1 h2
 rcases Nat.lt_trichotomy i j with h|h|h
 ·have:=good_lt g i (j-i-1) (by omega)
  rw[show i+(j-i-1)+1=j by omega] at this
  omega
 ·exact h
 ·have:=good_lt g j (i-j-1) (by omega)
  rw[show j+(i-j-1)+1=i by omega] at this
  omega
section
variable {l:List TA} (g:Good l) {px py:Int} {i c:Nat} (hi:i<64) (hc:c<4)
include hi hc
end
theorem goodB_of {l:List TA} (g:Good l):GoodB (l.map enO):=⟨(good_goodE g).len,(good_goodE g).b⟩
theorem mapO_len (l:List TA):(l.map enO).length=l.length:=List.length_map ..
end Ab
end Go.Proofs.YtpdckpifhniioaaGreat
end
section
set_option linter.unusedVariables false
set_option linter.unusedSimpArgs false
namespace Go.Proofs.YtpdckpifhniioaaGreat
open Go.RowKit
namespace Ab
def EqT (t u:Nat→UInt8):Prop:=∀i,i<256→t i=u i
theorem EqT.tl {t u:Nat→UInt8} (h:EqT t u):tl t=tl u:=tl_ext h
theorem EqT.zero {t u:Nat→UInt8} (h:EqT t u):zeroT t=zeroT u:=sameT_congr (fun i hi=>by unfold clnT;rw[h _ hi,h _ (by omega)]) (fun i _=>rfl)
theorem EqT.cln {t u:Nat→UInt8} (h:EqT t u):sameT t (clnT t)=sameT u (clnT u):=sameT_congr h (fun i hi=>by unfold clnT;rw[h _ hi,h _ (by omega)])
theorem sameT_symm {t u:Nat→UInt8} (h:sameT t u=true):sameT u t=true:=(sameT_iff _ _).2 fun i hi=>((sameT_iff _ _).1 h i hi).symm
theorem fn_good {t u:Nat→UInt8} {ok:Bool} (hok:ok=true) (h:EqT t u) (hz:zeroT u=false) (hc:sameT (clnT u) u=true):fnB t ok=false:=by
 unfold fnB
 rw[hok,h.zero,hz,h.cln,sameT_symm hc];rfl
theorem get_byl (s:ByteArray) {i:Nat} (h:i<s.size):s.get! i=(byl s).getD i 0:=by
 show s.data[i]! = s.data.toList.getD i 0
 rw[getElem!_pos s.data i h,List.getD,Array.getElem?_toList,Array.getElem?_eq_getElem h];rfl
theorem tlB_cons (b:UInt8) (s:ByteArray):tlB (⟨#[b]⟩++s)=s:=byl_ext (by
 unfold tlB
 rw[byl_extract,byl_append]
 show List.take _ (byl s)=_
 exact List.take_of_length_le (by rw[byl_len,ByteArray.size_append];show _≤1+s.size-1;omega))
theorem kB_cons (b:UInt8) (s:ByteArray):kB (⟨#[b]⟩++s)=((b.toNat:Nat):Int):=by
 unfold kB
 rw[get_byl _ (by rw[ByteArray.size_append];show 0<1+s.size;omega),byl_append];rfl
theorem blob_back {t:Nat→UInt8}:dkB (blobT t)=true∧EqT (dkT (blobT t)) t:=by
 cases hs:solT t with
 |true=>
  have hb:blobT t=⟨#[0]⟩++⟨#[t 0,t 1,t 2,t 3]⟩:=by unfold blobT;rw[hs];rfl
  obtain ⟨h1,h2⟩:=k0 (b:=blobT t) (by rw[hb,kB_cons];rfl)
  have h3:d0B (tlB (blobT t))=true:=by rw[hb,tlB_cons];rfl
  refine ⟨h2.trans h3,fun i hi=>?_⟩
  rw[h1]
  unfold d0T
  rw[h3,hb,tlB_cons]
  show fillT (t 0) (t 1) (t 2) (t 3) i=t i
  unfold solT at hs
  exact ((sameT_iff _ _).1 hs i hi).symm
 |false=>
  cases hd:decide (((codT t).size:Int)<257) with
  |false=>
   have hb:blobT t=⟨#[1]⟩++bytesT t:=by unfold blobT;rw[hs,hd];rfl
   obtain ⟨h1,h2⟩:=k1 (b:=blobT t) (by rw[hb,kB_cons];rfl)
   have h3:d1B (tlB (blobT t))=true:=by rw[hb,tlB_cons];unfold d1B;rw[bytesT_len];rfl
   refine ⟨h2.trans h3,fun i hi=>?_⟩
   rw[h1]
   unfold d1T
   rw[h3,hb,tlB_cons]
   show (bytesT t).get! i=t i
   rw[get_byl _ (by rw[bytesT_len];exact hi)]
   unfold bytesT
   rw[byl_mk,List.getD,List.getElem?_map,List.getElem?_range hi];rfl
  |true=>
   have hb:blobT t=⟨#[2]⟩++(⟨#[UInt8.ofNat (bestT t)]⟩++⟨(Cod.M.enc (Prd.fw (bestT t) t).data.toList).toArray⟩):=by
    have hcd:blobT t=codT t:=by
     unfold blobT
     rw[hs,cond_false,hd,cond_true]
    rw[hcd]
    unfold codT
    refine byl_ext ?_
    rw[byl_append,byl_append,byl_append]
    rfl
   obtain ⟨h1,h2⟩:=k2 (b:=blobT t) (by rw[hb,kB_cons];rfl)
   have hr:tlB (blobT t)=⟨#[UInt8.ofNat (bestT t)]⟩++⟨(Cod.M.enc (Prd.fw (bestT t) t).data.toList).toArray⟩:=by rw[hb,tlB_cons]
   have hD:d2D (tlB (blobT t))=(Prd.fw (bestT t) t,0):=by
    have e1:=tlB_cons (UInt8.ofNat (bestT t)) ⟨(Cod.M.enc (Prd.fw (bestT t) t).data.toList).toArray⟩
    unfold tlB at e1
    unfold d2D
    rw[hr,e1]
    unfold Cod.dres
    have e2:Cod.M.dec (Cod.M.enc (Prd.fw (bestT t) t).data.toList) 256=(Prd.fw (bestT t) t).data.toList:=by
     have:=Cod.M.dec_enc (Prd.fw (bestT t) t).data.toList []
     rw[List.append_nil,show (Prd.fw (bestT t) t).data.toList.length=256 from (byl_len _).trans (Prd.fw_size _ _)] at this
     exact this
    show (if (⟨(Cod.M.enc (Cod.M.dec (Cod.M.enc (Prd.fw (bestT t) t).data.toList) 256)).toArray⟩:ByteArray)=⟨(Cod.M.enc (Prd.fw (bestT t) t).data.toList).toArray⟩ then ((⟨(Cod.M.dec (Cod.M.enc (Prd.fw (bestT t) t).data.toList) 256).toArray⟩:ByteArray),(0:Int)) else (⟨#[]⟩,11))=_
    rw[e2,if_pos rfl]
   have hK:d2K (tlB (blobT t))=(bestT t:Nat):=by
    have hb6:=bestT_lt t
    unfold d2K
    rw[hr,get_byl _ (by rw[ByteArray.size_append];show 0<1+_;omega),byl_append]
    show (((UInt8.ofNat (bestT t)).toNat:Nat):Int)=_
    have:(UInt8.ofNat (bestT t)).toNat=bestT t:=by simp;omega
    rw[this]
   have hN:d2N (tlB (blobT t))=false:=by rw[←d2N_eq,hD];rfl
   have h3:d2B (tlB (blobT t))=true:=by
    have hb6:=bestT_lt t
    unfold d2B
    rw[hN,hK,decide_eq_false (by rw[hr,ByteArray.size_append];show ¬1+_=0;omega),decide_eq_true (by omega)];rfl
   refine ⟨h2.trans h3,fun i hi=>?_⟩
   rw[h1]
   unfold d2T
   rw[h3,hD,hK]
   show invT ((bestT t:Nat):Int).toNat (strT (Prd.fw (bestT t) t)) i=t i
   have e3:((bestT t:Nat):Int).toNat=bestT t:=rfl
   rw[e3]
   unfold invT
   have hu:Prd.M.unp (bestT t) (strT (Prd.fw (bestT t) t)) 256=Prd.M.unp (bestT t) (Prd.M.res (bestT t) (Prd.plf t)) 256:=Prd.M.unp_congr _ _ _ 256 fun j hj=>by
    show (Prd.fw (bestT t) t).get! j=_
    rw[get_byl _ (by rw[Prd.fw_size];exact hj)]
    show (Prd.M.tab 256 (Prd.M.res (bestT t) (Prd.plf t))).getD j 0=_
    rw[List.getD,List.getElem?_eq_getElem (by rw[Prd.M.tab_length];exact hj),Prd.M.tab_get];rfl
   rw[hu]
   exact Prd.back_fwd (bestT t) t i hi
theorem dec_enO {e:TA} (hz:zeroT e.t=false) (hc:sameT (clnT e.t) e.t=true):dcE (enO e)=0∧EqT (dcT (enO e)) e.t:=by
 obtain ⟨h1,h2⟩:=blob_back (t:=e.t)
 have hs:sNe (enO e)=false:=by
  rw[←sNe_eq]
  show (sumI (blobT e.t) != sumI (blobT e.t))=false
  simp
 have hf:fnB (dkT (blobT e.t)) (dkB (blobT e.t))=false:=fn_good h1 h2 hz hc
 obtain ⟨a,b⟩:=dc_t (e:=enO e) hs rfl rfl hf
 exact ⟨a,by rw[b];exact h2⟩
theorem at_len {l:List TA} {k:Nat} (h:k<l.length):l[k]? = some (at' l k):=at_get h
end Ab
end Go.Proofs.YtpdckpifhniioaaGreat
end
section
set_option linter.unusedVariables false
set_option linter.unusedSimpArgs false
namespace Go.Proofs.YtpdckpifhniioaaGreat
open Go.RowKit
namespace Ab
attribute [local irreducible] CallOKd
end Ab
end Go.Proofs.YtpdckpifhniioaaGreat
end
section
set_option linter.unusedVariables false
set_option linter.unusedSimpArgs false
namespace Go.Proofs.YtpdckpifhniioaaGreat
open Go.RowKit
namespace Ab
attribute [local irreducible] CallOKd
attribute [local irreducible] tl rws
end Ab
end Go.Proofs.YtpdckpifhniioaaGreat
end
section
set_option linter.unusedVariables false
set_option linter.unusedSimpArgs false
namespace Go.Proofs.YtpdckpifhniioaaGreat
open Go.RowKit
namespace Ab
attribute [local irreducible] CallOKd
end Ab
end Go.Proofs.YtpdckpifhniioaaGreat
end
section
set_option linter.unusedVariables false
set_option linter.unusedSimpArgs false
namespace Go.Proofs.YtpdckpifhniioaaGreat
open Go.RowKit
namespace Ab
end Ab
end Go.Proofs.YtpdckpifhniioaaGreat
end
section
set_option linter.unusedVariables false
set_option linter.unusedSimpArgs false
namespace Go.Proofs.YtpdckpifhniioaaGreat
open Go.RowKit
namespace Ab
attribute [local irreducible] CallOKd
end Ab
end Go.Proofs.YtpdckpifhniioaaGreat
end
section
set_option linter.unusedVariables false
set_option linter.unusedSimpArgs false
namespace Go.Proofs.YtpdckpifhniioaaGreat
open Go.RowKit
namespace Ab
attribute [local irreducible] CallOKd
end Ab
end Go.Proofs.YtpdckpifhniioaaGreat
end
section
set_option linter.unusedVariables false
set_option linter.unusedSimpArgs false
namespace Go.Proofs.YtpdckpifhniioaaGreat
open Go.RowKit
namespace Ab
attribute [local irreducible] CallOKd
end Ab
end Go.Proofs.YtpdckpifhniioaaGreat
end
section
set_option linter.unusedVariables false
set_option linter.unusedSimpArgs false
namespace Go.Proofs.YtpdckpifhniioaaGreat
open Go.RowKit
namespace Ab
attribute [local irreducible] CallOKd
attribute [local irreducible] tl rws
end Ab
end Go.Proofs.YtpdckpifhniioaaGreat
end
section
set_option linter.unusedVariables false
set_option linter.unusedSimpArgs false
namespace Go.Proofs.YtpdckpifhniioaaGreat
open Go.RowKit
namespace Ab
attribute [local irreducible] CallOKd
end Ab
end Go.Proofs.YtpdckpifhniioaaGreat
end
section
set_option linter.unusedVariables false
set_option linter.unusedSimpArgs false
namespace Go.Proofs.YtpdckpifhniioaaGreat
open Go.RowKit
namespace Ab
end Ab
end Go.Proofs.YtpdckpifhniioaaGreat
end
section
set_option linter.unusedVariables false
set_option linter.unusedSimpArgs false
namespace Go.Proofs.YtpdckpifhniioaaGreat
open Go.RowKit
namespace Ab
attribute [local irreducible] CallOKd
end Ab
end Go.Proofs.YtpdckpifhniioaaGreat
end
section
set_option linter.unusedVariables false
set_option linter.unusedSimpArgs false
namespace Go.Proofs.YtpdckpifhniioaaGreat
open Go.RowKit
namespace Ab
attribute [local irreducible] CallOKd
end Ab
end Go.Proofs.YtpdckpifhniioaaGreat
end
section
set_option linter.unusedVariables false
set_option linter.unusedSimpArgs false
namespace Go.Proofs.YtpdckpifhniioaaGreat
open Go.RowKit
namespace Ab
attribute [local irreducible] CallOKd
attribute [local irreducible] tl rws
theorem ofI_fill (t:Nat→UInt8):tl (fillT (ofI ((t 0).toNat:Nat)) (ofI ((t 1).toNat:Nat)) (ofI ((t 2).toNat:Nat)) (ofI ((t 3).toNat:Nat)))=tl (fillT (t 0) (t 1) (t 2) (t 3)):=by rw[ofI_nat,ofI_nat,ofI_nat,ofI_nat]
theorem sol_eq (t:Nat→UInt8):sameT (lsB (tl t)) (lsB (tl (fillT (t 0) (t 1) (t 2) (t 3))))=solT t:=by rw[same_lsB];rfl
theorem solPr_t {t:Nat→UInt8} (h:solT t=true):[ub (solP t 0),ub (solP t 1),ub (solP t 2),ub (solP t 3)]=[ub (t 0),ub (t 1),ub (t 2),ub (t 3)]:=by
 unfold solP;rw[if_pos h,if_pos h,if_pos h,if_pos h]
theorem solPr_f {t:Nat→UInt8} (h:solT t=false):[ub (solP t 0),ub (solP t 1),ub (solP t 2),ub (solP t 3)]=[u8 0,u8 0,u8 0,u8 0]:=by
 unfold solP;rw[if_neg (by simp[h]),if_neg (by simp[h]),if_neg (by simp[h]),if_neg (by simp[h])];rfl
theorem enters131:Enters Tryz.prog 131:=fun args w=>by go_simp
def cz_C131 (t:Nat→UInt8):Cz:={
 ct:=(fun f=>match f with
 |121=>some fun _ _S ar=>match ar with | [.c (.agg l),.c (.agg m)]=>some {v:=bv (sameT (lsB l) (lsB m)),rd:=[],wr:=[],nw:=0}|_=>none
 |161=>some fun _ _S ar=>match ar with | [.c (.agg [.v (.int _ a),.v (.int _ b),.v (.int _ c),.v (.int _ e)])]=>some {v:=.c (.agg (tl (fillT (ofI a) (ofI b) (ofI c) (ofI e)))),rd:=[],wr:=[],nw:=0}|_=>none
 |_=>none)
 eq:=(fun t=>match t with
 |_=>none)
 raw:=[],sym:=[],nf:=[(4,.c (.agg (tl t))),(6,ag [ub (t 0),ub (t 1),ub (t 2),ub (t 3)]),(7,.c (.agg (tl (fillT (t 0) (t 1) (t 2) (t 3))))),(8,bv (solT t)),(10,ag [ub (t 0),ub (t 1),ub (t 2),ub (t 3)])],ap:=true,off:=[],on:=[],lp:=fun _=>none,un:=0,wh:=[38,36]}
set_option maxRecDepth 100000 in
set_option maxHeartbeats 400000 in
theorem C131 (t:Nat→UInt8)  (n:Nat):CallOK Tryz.prog 131 [.c (.agg (tl t))] [] n (.tup [.agg [ub (solP t 0),ub (solP t 1),ub (solP t 2),ub (solP t 3)],.l (.v (.bool (solT t)))]) [] 0:=by
 refine CallOK.any ?_ (by kernel_rfl) (by kernel_rfl) n
 refine call_ok (cx:=cz_C131 t) (nm:=[]) rfl Tryz.func131 (body:=Tryz.f131.body.getD .skip) rfl enters131 (by kernel_rfl) ?_
 apply of_eq (q:=Le (ag (List.take 256 (tl t))) (ag (tl t))∧Le (ag (List.take 4 (tl t))) (ag [Leaf.v (Value.int IntKind.u8 (Nat.cast ((t 0).toNat):Int)),Leaf.v (Value.int IntKind.u8 (Nat.cast ((t 1).toNat):Int)),Leaf.v (Value.int IntKind.u8 (Nat.cast ((t 2).toNat):Int)),Leaf.v (Value.int IntKind.u8 (Nat.cast ((t 3).toNat):Int))])∧CallOKd Tryz.prog 161 [] [ag [Leaf.v (Value.int IntKind.u8 (Nat.cast ((t 0).toNat):Int)),Leaf.v (Value.int IntKind.u8 (Nat.cast ((t 1).toNat):Int)),Leaf.v (Value.int IntKind.u8 (Nat.cast ((t 2).toNat):Int)),Leaf.v (Value.int IntKind.u8 (Nat.cast ((t 3).toNat):Int))]] [] 2 (ag (tl (fillT (ofI (Nat.cast ((t 0).toNat):Int)) (ofI (Nat.cast ((t 1).toNat):Int)) (ofI (Nat.cast ((t 2).toNat):Int)) (ofI (Nat.cast ((t 3).toNat):Int))))) [] 0∧Le (ag (tl (fillT (ofI (Nat.cast ((t 0).toNat):Int)) (ofI (Nat.cast ((t 1).toNat):Int)) (ofI (Nat.cast ((t 2).toNat):Int)) (ofI (Nat.cast ((t 3).toNat):Int))))) (ag (tl (fillT (t 0) (t 1) (t 2) (t 3))))∧CallOKd Tryz.prog 121 [] [ag (tl t),ag (tl (fillT (t 0) (t 1) (t 2) (t 3)))] [] 2 (bv (sameT (lsB (tl t)) (lsB (tl (fillT (t 0) (t 1) (t 2) (t 3)))))) [] 0∧Le (bv (sameT (lsB (tl t)) (lsB (tl (fillT (t 0) (t 1) (t 2) (t 3)))))) (bv (solT t))∧HB (solT t) (Le (ag (List.take 4 (tl t))) (ag [Leaf.v (Value.int IntKind.u8 (Nat.cast ((t 0).toNat):Int)),Leaf.v (Value.int IntKind.u8 (Nat.cast ((t 1).toNat):Int)),Leaf.v (Value.int IntKind.u8 (Nat.cast ((t 2).toNat):Int)),Leaf.v (Value.int IntKind.u8 (Nat.cast ((t 3).toNat):Int))])∧0=0∧4=4∧Le (SV.tup [Cp.agg [Leaf.v (Value.int IntKind.u8 (Nat.cast ((t 0).toNat):Int)),Leaf.v (Value.int IntKind.u8 (Nat.cast ((t 1).toNat):Int)),Leaf.v (Value.int IntKind.u8 (Nat.cast ((t 2).toNat):Int)),Leaf.v (Value.int IntKind.u8 (Nat.cast ((t 3).toNat):Int))],Cp.l (lb true)]) (SV.tup [Cp.agg [Leaf.v (Value.int IntKind.u8 (Nat.cast ((solP t 0).toNat):Int)),Leaf.v (Value.int IntKind.u8 (Nat.cast ((solP t 1).toNat):Int)),Leaf.v (Value.int IntKind.u8 (Nat.cast ((solP t 2).toNat):Int)),Leaf.v (Value.int IntKind.u8 (Nat.cast ((solP t 3).toNat):Int))],Cp.l (lb (solT t))])∧True) (0=0∧4=4∧Le (SV.tup [Cp.agg [Leaf.v (Value.int IntKind.u8 0),Leaf.v (Value.int IntKind.u8 0),Leaf.v (Value.int IntKind.u8 0),Leaf.v (Value.int IntKind.u8 0)],Cp.l (lb false)]) (SV.tup [Cp.agg [Leaf.v (Value.int IntKind.u8 (Nat.cast ((solP t 0).toNat):Int)),Leaf.v (Value.int IntKind.u8 (Nat.cast ((solP t 1).toNat):Int)),Leaf.v (Value.int IntKind.u8 (Nat.cast ((solP t 2).toNat):Int)),Leaf.v (Value.int IntKind.u8 (Nat.cast ((solP t 3).toNat):Int))],Cp.l (lb (solT t))])∧True)) (by kernel_rfl)
 repeat' (first|exact trivial|with_reducible apply And.intro|(with_reducible apply HB.mk)|with_reducible intro _)
 all_goals first
  |(with_reducible assumption)
  |(with_reducible exact Le.refl _)
  |(with_reducible rfl)
  |((with_reducible exact C121L _ _ _ _ rfl rfl _))
  |((with_reducible exact C161I _ _ _ _ _))
  |(with_reducible exact Le.of (congrArg (fun l=>SV.c (.agg l)) (tl_take _)))
  |(with_reducible exact Le.of (congrArg (fun l=>SV.c (.agg l)) (tl_first _)))
  |(with_reducible exact Le.of (congrArg (fun l=>SV.c (.agg l)) (ofI_fill _)))
  |(with_reducible exact Le.bool (sol_eq _))
  |((refine Le.of ?_;rw[show [u8 0,u8 0,u8 0,u8 0]=[ub (solP t 0),ub (solP t 1),ub (solP t 2),ub (solP t 3)] from (solPr_f (by with_reducible assumption)).symm,show solT t=false by with_reducible assumption];done))
  |((refine Le.of ?_;rw[show [ub (t 0),ub (t 1),ub (t 2),ub (t 3)]=[ub (solP t 0),ub (solP t 1),ub (solP t 2),ub (solP t 3)] from (solPr_t (by with_reducible assumption)).symm,show solT t=true by with_reducible assumption];done))
  |(exact okw _ (by omega) (by omega))
  |(exact Le.of rfl)
  |(exact BkR.of rfl)
  |(unfold SlOK;omega)
  |(unfold SlOK;decide)
  |(unfold inByte;decide)
  |(simp only[*,Bool.and_self,Bool.not_false,Bool.not_true];done)
  |(simp_all [wants];done)
def I135 (t:Nat→UInt8) (k:Nat):St:=⟨[(4,iv .i64 (k:Nat)),(3,.c (.l (.o 1 (4*k)))),(1,.c (.l (.p 0 0)))],[(0,some ⟨tl t,.t 38⟩),(1,some ⟨tb t (4*k),.r 5 1 1⟩)],2,31,[1,0],(0)⟩
theorem tl_sc (t:Nat→UInt8) {k:Nat} (hk:k<64) (c:Nat) (hc:c<4):SV.c (.l ((tl t).getD (k*4+c) .u))=.c (.l (ub (t (4*k+c)))):=by
 rw[show k*4+c=4*k+c by omega,tl_getD t (by omega)]
theorem tl_sc0 (t:Nat→UInt8) {k:Nat} (hk:k<64):SV.c (.l ((tl t).getD (k*4) .u))=.c (.l (ub (t (4*k)))):=tl_sc t hk 0 (by decide)
def cz_R135 (t:Nat→UInt8) (k:Nat):Cz:={
 ct:=(fun f=>match f with
 |_=>none)
 eq:=(fun t=>match t with
 |_=>none)
 raw:=[],sym:=[12,14,16,18,20,22,24,26,28],nf:=[(14,.c (.l (ub (t (4*k))))),(18,.c (.l (ub (t (4*k+1))))),(22,.c (.l (ub (t (4*k+2))))),(26,.c (.l (ub (t (4*k+3)))))],ap:=true,off:=[],on:=[],lp:=fun _=>none,un:=0}
set_option maxRecDepth 100000 in
theorem R135 (t:Nat→UInt8) (k:Nat)  (K:Exit→St→Prop) (h:HB (decide ((Nat.cast k:Int)<64)) ((InR ((Nat.cast k:Int)) 64∧0+((Nat.cast k:Int)).toNat*4+0<256∧Le (SV.c (Cp.l ((tl t).getD (0+((Nat.cast k:Int)).toNat*4+0) Leaf.u))) (iv IntKind.u8 (Nat.cast ((t (4*k)).toNat):Int))∧InR ((Nat.cast k:Int)) 64∧0+((Nat.cast k:Int)).toNat*4+1<256∧Le (SV.c (Cp.l ((tl t).getD (0+((Nat.cast k:Int)).toNat*4+1) Leaf.u))) (iv IntKind.u8 (Nat.cast ((t (4*k+1)).toNat):Int))∧InR ((Nat.cast k:Int)) 64∧0+((Nat.cast k:Int)).toNat*4+2<256∧Le (SV.c (Cp.l ((tl t).getD (0+((Nat.cast k:Int)).toNat*4+2) Leaf.u))) (iv IntKind.u8 (Nat.cast ((t (4*k+2)).toNat):Int))∧InR ((Nat.cast k:Int)) 64∧0+((Nat.cast k:Int)).toNat*4+3<256∧Le (SV.c (Cp.l ((tl t).getD (0+((Nat.cast k:Int)).toNat*4+3) Leaf.u))) (iv IntKind.u8 (Nat.cast ((t (4*k+3)).toNat):Int))∧(tb t (4*k)).length=4*k*1∧4=4∧IntKind.i64.wrap ((Nat.cast k:Int)+1)=(Nat.cast k:Int)+1∧RoundTo Tryz.prog ((getLoop 3 (Tryz.f135.body.getD Code.skip)).getD Code.skip) 2 (wkK 2 K) (St.mk [(1,SV.c (Cp.l (Leaf.p 0 0))),(3,SV.c (Cp.l (Leaf.o 1 (4*k+4)))),(4,iv IntKind.i64 ((Nat.cast k:Int)+1))] [(0,some (Blk.mk (tl t) (BT.t 38))),(1,some (Blk.mk (tb t (4*k)++[Leaf.v (Value.int IntKind.u8 (Nat.cast ((t (4*k)).toNat):Int)),Leaf.v (Value.int IntKind.u8 (Nat.cast ((t (4*k+1)).toNat):Int)),Leaf.v (Value.int IntKind.u8 (Nat.cast ((t (4*k+2)).toNat):Int)),Leaf.v (Value.int IntKind.u8 (Nat.cast ((t (4*k+3)).toNat):Int))]) (BT.r 5 1 1))),(2,some (Blk.mk [Leaf.v (Value.int IntKind.u8 (Nat.cast ((t (4*k)).toNat):Int)),Leaf.v (Value.int IntKind.u8 (Nat.cast ((t (4*k+1)).toNat):Int)),Leaf.v (Value.int IntKind.u8 (Nat.cast ((t (4*k+2)).toNat):Int)),Leaf.v (Value.int IntKind.u8 (Nat.cast ((t (4*k+3)).toNat):Int))] (BT.r 5 1 2))),(3,none)] 3 31 [1,2,1,0] 0))∧InR ((Nat.cast k:Int)) 64∧0+((Nat.cast k:Int)).toNat*4+0<256∧Le (SV.c (Cp.l ((tl t).getD (0+((Nat.cast k:Int)).toNat*4+0) Leaf.u))) (iv IntKind.u8 (Nat.cast ((t (4*k)).toNat):Int))∧InR ((Nat.cast k:Int)) 64∧0+((Nat.cast k:Int)).toNat*4+1<256∧Le (SV.c (Cp.l ((tl t).getD (0+((Nat.cast k:Int)).toNat*4+1) Leaf.u))) (iv IntKind.u8 (Nat.cast ((t (4*k+1)).toNat):Int))∧InR ((Nat.cast k:Int)) 64∧0+((Nat.cast k:Int)).toNat*4+2<256∧Le (SV.c (Cp.l ((tl t).getD (0+((Nat.cast k:Int)).toNat*4+2) Leaf.u))) (iv IntKind.u8 (Nat.cast ((t (4*k+2)).toNat):Int))∧InR ((Nat.cast k:Int)) 64∧0+((Nat.cast k:Int)).toNat*4+3<256∧Le (SV.c (Cp.l ((tl t).getD (0+((Nat.cast k:Int)).toNat*4+3) Leaf.u))) (iv IntKind.u8 (Nat.cast ((t (4*k+3)).toNat):Int))∧[(1,4*k+4,false)]=[(1,4*k+4,false)]∧ApB Tryz.prog 5 (4*k+4)∧(tb t (4*k)).length=4*k*1∧4=4∧IntKind.i64.wrap ((Nat.cast k:Int)+1)=(Nat.cast k:Int)+1∧RoundTo Tryz.prog ((getLoop 3 (Tryz.f135.body.getD Code.skip)).getD Code.skip) 2 (wkK 2 K) (St.mk [(1,SV.c (Cp.l (Leaf.p 0 0))),(3,SV.c (Cp.l (Leaf.o 3 (4*k+4)))),(4,iv IntKind.i64 ((Nat.cast k:Int)+1))] [(0,some (Blk.mk (tl t) (BT.t 38))),(1,some (Blk.mk (tb t (4*k)) (BT.r 5 1 1))),(2,some (Blk.mk [Leaf.v (Value.int IntKind.u8 (Nat.cast ((t (4*k)).toNat):Int)),Leaf.v (Value.int IntKind.u8 (Nat.cast ((t (4*k+1)).toNat):Int)),Leaf.v (Value.int IntKind.u8 (Nat.cast ((t (4*k+2)).toNat):Int)),Leaf.v (Value.int IntKind.u8 (Nat.cast ((t (4*k+3)).toNat):Int))] (BT.r 5 1 2))),(3,some (Blk.mk (tb t (4*k)++[Leaf.v (Value.int IntKind.u8 (Nat.cast ((t (4*k)).toNat):Int)),Leaf.v (Value.int IntKind.u8 (Nat.cast ((t (4*k+1)).toNat):Int)),Leaf.v (Value.int IntKind.u8 (Nat.cast ((t (4*k+2)).toNat):Int)),Leaf.v (Value.int IntKind.u8 (Nat.cast ((t (4*k+3)).toNat):Int))]) (BT.r 5 1 3)))] 4 31 [3,2,1,0] 0)) (wkK 2 K (Exit.exit 0) (St.mk [(1,SV.c (Cp.l (Leaf.p 0 0))),(3,SV.c (Cp.l (Leaf.o 1 (4*k)))),(4,iv IntKind.i64 (Nat.cast k:Int))] [(0,some (Blk.mk (tl t) (BT.t 38))),(1,some (Blk.mk (tb t (4*k)) (BT.r 5 1 1))),(2,none),(3,none)] 2 31 [1,0] 0))):WPL Tryz.prog ((getLoop 3 (Tryz.f135.body.getD .skip)).getD .skip) (I135 t k) (wkK 2 K):=
 wp_roundT [1,3,4] [0,1,2,3] (cx:=cz_R135 t k) rfl (of_eq (by kernel_rfl) h)
set_option maxRecDepth 100000 in
set_option maxHeartbeats 4000000 in
theorem L135 (t:Nat→UInt8)  : ∀(m k:Nat),64-k=m→k≤64→∀(K:Exit→St→Prop),K (.exit 0) (I135 t 64)→WPL Tryz.prog ((getLoop 3 (Tryz.f135.body.getD .skip)).getD .skip) (I135 t k) (wkK 2 K)
 |0,k,hm,hk,K,hK=>by
  have e:k=64:=by omega
  subst e
  refine R135 t _ K (HB.mk (fun hne=>absurd (of_decide_eq_true hne) (by omega)) (fun he=>?_))
  exact wkK.to (I135 t _) (Nat.le_refl _) (by kernel_rfl) (wkE_cons (LeN.sl (by kernel_rfl) rfl) (wkE_cons (LeN.sl (by kernel_rfl) rfl) (wkE_cons (LeN.sl (by kernel_rfl) rfl) trivial))) (wkH_cons (BkN.plain (cs:=tl t) (b:=.t 38) (by kernel_rfl) (rfl) (plain_tl t) (by kernel_rfl)) (wkH_cons (BkN.plain (cs:=tb t (4*64)) (b:=.r 5 1 1) (by kernel_rfl) (rfl) (tb_plain _ _) (by kernel_rfl)) trivial)) hK
 |m+1,k,hm,hk,K,hK=>by
  refine R135 t k K (HB.mk (fun hne=>?_) (fun he=>absurd (show ((k:Nat):Int)<(64:Nat) by omega) (of_decide_eq_false he)))
  have hlt:k<64:=by omega
  repeat' (first|exact trivial|with_reducible apply And.intro|(with_reducible apply HB.mk)|with_reducible intro _)
  all_goals first
   |(with_reducible assumption)
   |(with_reducible exact Le.refl _)
   |(with_reducible rfl)
   |(exact ⟨by omega,by omega⟩)
   |((rw[tb_len];omega))
   |((rw[tl_len];omega))
   |((refine Le.of ?_;simp only[tn,Nat.zero_add,Nat.add_zero];first|exact tl_sc0 t hlt|exact tl_sc t hlt _ (by decide)))
   |(omega)
   |(exact apB (bytes:=1) (by kernel_rfl) (by omega))
   |((with_reducible refine RoundTo.toN 3 (I135 t (k+1)) ?_ ?_ ?_ ?_ ?_);exact Nat.le_refl _;kernel_rfl;exact (wkE_cons (LeN.sl (by kernel_rfl) rfl) (wkE_cons (LeN.sl_o (m:=4*k+4) (by kernel_rfl) rfl (by omega)) (wkE_cons (LeN.sl (by kernel_rfl) rfl) trivial)));exact (wkH_cons (BkN.plain (cs:=tl t) (b:=.t 38) (by kernel_rfl) (rfl) (plain_tl t) (by kernel_rfl)) (wkH_cons (BkN.plain (cs:=tb t (4*k)++[ub (t (4*k)),ub (t (4*k+1)),ub (t (4*k+2)),ub (t (4*k+3))]) (b:=.r 5 1 1) (by kernel_rfl) (tb_next t k) (tb_plain _ _) (by kernel_rfl)) trivial));exact (L135 t  m (k+1) (by omega) (by omega) K hK))
   |((with_reducible refine RoundTo.reN 4 [(1,some 3)] (I135 t (k+1)) ?_ ?_ ?_ ?_);kernel_rfl;exact (wkER_cons (LeR.of (by kernel_rfl)) (wkER_cons (LeR.sl_o (j:=3) (m:=4*k+4) (by kernel_rfl) rfl (by omega)) (wkER_cons (LeR.of (by kernel_rfl)) trivial)));exact (wkHR_cons (j:=0) rfl (BkM.plain (cs:=tl t) (b:=.t 38) (by kernel_rfl) (rfl) (plain_tl t) (by kernel_rfl)) (wkHR_cons (j:=3) rfl (BkM.plain (cs:=tb t (4*k)++[ub (t (4*k)),ub (t (4*k+1)),ub (t (4*k+2)),ub (t (4*k+3))]) (b:=.r 5 1 3) (by kernel_rfl) (tb_next t k) (tb_plain _ _) (by kernel_rfl)) trivial));exact (L135 t  m (k+1) (by omega) (by omega) K hK))
   |(exact okw _ (by omega) (by omega))
   |(exact Le.of rfl)
   |(exact BkR.of rfl)
   |(unfold SlOK;omega)
   |(unfold SlOK;decide)
   |(unfold inByte;decide)
   |(simp only[*,Bool.and_self,Bool.not_false,Bool.not_true];done)
   |(simp_all [wants];done)
theorem enters135:Enters Tryz.prog 135:=fun args w=>by go_simp
def cz_C135 (t:Nat→UInt8):Cz:={
 ct:=(fun f=>match f with
 |_=>none)
 eq:=(fun t=>match t with
 |_=>none)
 raw:=[],sym:=[30],nf:=[],ap:=true,off:=[],on:=[],lp:=fun r=>match r with|3=>some (fun _ K=>K (.exit 0) (I135 t 64))|_=>none,un:=0,wh:=[38]}
set_option maxRecDepth 100000 in
set_option maxHeartbeats 400000 in
theorem C135 (t:Nat→UInt8)  (n:Nat):CallOK Tryz.prog 135 [.c (.agg (tl t))] [] n (.c (.l (.v (.string (bytesT t))))) [] 0:=by
 refine CallOK.any ?_ (by kernel_rfl) (by kernel_rfl) n
 refine call_ok (cx:=cz_C135 t) (nm:=[]) rfl Tryz.func135 (body:=Tryz.f135.body.getD .skip) rfl enters135 (by kernel_rfl) ?_
 apply of_eq (q:=(LoopOK Tryz.prog ((getLoop 3 (Tryz.f135.body.getD .skip)).getD .skip) (St.mk [(4,iv IntKind.i64 0),(3,SV.c (Cp.l (Leaf.o 1 0))),(5,SV.c (Cp.l (Leaf.o 1 0))),(2,SV.c (Cp.l (Leaf.v (Value.string (ByteArray.mk #[]))))),(1,SV.c (Cp.l (Leaf.p 0 0))),(0,ag (tl t))] [(1,some (Blk.mk [] (BT.r 5 1 1))),(0,some (Blk.mk (tl t) (BT.t 38)))] 2 31 [1,0] 0) fun K=>K (Exit.exit 0) (I135 t 64))∧256=256∧AllB (tb t (4*64))∧Le (SV.c (Cp.l (Leaf.v (Value.string (strL (tb t (4*64))))))) (SV.c (Cp.l (Leaf.v (Value.string (bytesT t)))))∧True) (by kernel_rfl)
 repeat' (first|exact trivial|with_reducible apply And.intro|(with_reducible apply HB.mk)|with_reducible intro _)
 all_goals first
  |(with_reducible assumption)
  |(with_reducible exact Le.refl _)
  |(with_reducible rfl)
  |(exact LoopOK.mk (I135 t 0) rfl (by kernel_rfl) (wkE_cons (LeN.sl (by kernel_rfl) rfl) (wkE_cons (LeN.sl (by kernel_rfl) rfl) (wkE_cons (LeN.sl (by kernel_rfl) rfl) trivial))) (wkH_cons (BkN.plain (cs:=tl t) (b:=.t 38) (by kernel_rfl) (rfl) (plain_tl t) (by kernel_rfl)) (wkH_cons (BkN.plain (cs:=[]) (b:=.r 5 1 1) (by kernel_rfl) (rfl) (tb_plain _ _) (by kernel_rfl)) trivial)) (fun K hT=>L135 t  _ 0 rfl (by first|decide|omega) K hT))
  |(exact tb_len t 256)
  |(exact tb_all t 256)
  |(refine Le.of ?_;rw[tb_str];rfl)
  |(exact okw _ (by omega) (by omega))
  |(exact Le.of rfl)
  |(exact BkR.of rfl)
  |(unfold SlOK;omega)
  |(unfold SlOK;decide)
  |(unfold inByte;decide)
  |(simp only[*,Bool.and_self,Bool.not_false,Bool.not_true];done)
  |(simp_all [wants];done)
end Ab
end Go.Proofs.YtpdckpifhniioaaGreat
end
