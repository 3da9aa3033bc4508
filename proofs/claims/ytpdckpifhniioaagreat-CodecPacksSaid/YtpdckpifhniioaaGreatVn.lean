/- Part 14 of what CodecPacks rests on. -/
import Derived.Test.YtpdckpifhniioaaGreatVm
section
set_option linter.unusedVariables false
set_option linter.unusedSimpArgs false
namespace Go.Proofs.YtpdckpifhniioaaGreat
open Go.RowKit
namespace Ab
theorem rest_bd {x n:Int} (h0:0<n) (h1:n≤1000000000):0≤(x.tmod n+n).tmod n∧(x.tmod n+n).tmod n<n∧-n<x.tmod n∧x.tmod n<n:=by
 have h2:=Int.tmod_lt_of_pos x h0
 have h3 : -n<x.tmod n:=by
  rcases Int.le_total 0 x with h|h
  ·have:=Int.tmod_nonneg n h;omega
  ·have:=Int.tmod_nonneg n (show 0≤-x by omega)
   have h4:=Int.tmod_lt_of_pos (-x) h0
   rw[Int.neg_tmod] at h4;omega
 have h4:0≤x.tmod n+n:=by omega
 exact ⟨Int.tmod_nonneg n h4,Int.tmod_lt_of_pos _ h0,h3,h2⟩
def rst (x n:Int):Int:=(x.tmod n+n).tmod n
theorem enters14:Enters Tryz.prog 14:=fun args w=>by go_simp
def cz_C14:Cz:={
 ct:=(fun f=>match f with
 |_=>none)
 eq:=(fun t=>match t with
 |_=>none)
 raw:=[],sym:=[],nf:=[],ap:=true,off:=[],on:=[],lp:=fun _=>none,un:=0}
set_option maxRecDepth 100000 in
set_option maxHeartbeats 400000 in
theorem C14 (x d:Int) (h0:0<d) (h1:d≤1000000000) (n:Nat):CallOK Tryz.prog 14 [iv .i64 x,iv .i64 d] [] n (iv .i64 (rst x d)) [] 0:=by
 refine CallOK.any ?_ (by kernel_rfl) (by kernel_rfl) n
 refine call_ok (cx:=cz_C14) (nm:=[]) rfl Tryz.func14 (body:=Tryz.f14.body.getD .skip) rfl enters14 (by kernel_rfl) ?_
 apply of_eq (q:=d≠0∧IntKind.i64.wrap (x.tmod d+d)=x.tmod d+d∧d≠0∧Le (iv IntKind.i64 ((x.tmod d+d).tmod d)) (iv IntKind.i64 (rst x d))∧True) (by kernel_rfl)
 repeat' (first|exact trivial|with_reducible apply And.intro|(with_reducible apply HB.mk)|with_reducible intro _)
 all_goals first
  |(omega)
  |(have:=rest_bd (x:=x) h0 h1;exact okw _ (by omega) (by omega))
  |(exact Le.of rfl)
def pxM (x:Int) (c:Nat):UInt8:=ofI (match c with|0=>IntKind.u8.wrap (IntKind.u32.wrap x)|1=>IntKind.u8.wrap (IntKind.u32.wrap ((IntKind.u32.wrap x).tdiv 256))|2=>IntKind.u8.wrap (IntKind.u32.wrap ((IntKind.u32.wrap x).tdiv 65536))|_=>bif (IntKind.u32.wrap x).tmod 5==3 then 0 else bif (IntKind.u32.wrap x).tmod 5==1 then 255 else IntKind.u8.wrap (IntKind.u32.wrap ((IntKind.u32.wrap x).tdiv 16777216)))
def pxL (x:Int):List Leaf:=[ub (pxM x 0),ub (pxM x 1),ub (pxM x 2),ub (pxM x 3)]
theorem ub_wrap (x:Int):ub (ofI (IntKind.u8.wrap x))=u8 (IntKind.u8.wrap x):=(u8_ofI (u8_rng x)).symm
theorem pxL_eq (x:Int) (w:Int) (h0:0≤w∧w<256) (h:w=bif (IntKind.u32.wrap x).tmod 5==3 then 0 else bif (IntKind.u32.wrap x).tmod 5==1 then 255 else IntKind.u8.wrap (IntKind.u32.wrap ((IntKind.u32.wrap x).tdiv 16777216))) :
  [u8 (IntKind.u8.wrap (IntKind.u32.wrap x)),u8 (IntKind.u8.wrap (IntKind.u32.wrap ((IntKind.u32.wrap x).tdiv 256))),u8 (IntKind.u8.wrap (IntKind.u32.wrap ((IntKind.u32.wrap x).tdiv 65536))),u8 w]=pxL x:=by
 unfold pxL pxM
 simp only[ub_wrap,←h]
 rw[←u8_ofI h0]
theorem enters103:Enters Tryz.prog 103:=fun args w=>by go_simp
def cz_C103:Cz:={
 ct:=(fun f=>match f with
 |_=>none)
 eq:=(fun t=>match t with
 |_=>none)
 raw:=[],sym:=[],nf:=[],ap:=true,off:=[],on:=[],lp:=fun _=>none,un:=0}
set_option maxRecDepth 100000 in
set_option maxHeartbeats 400000 in
theorem C103 (x:Int)  (n:Nat):CallOK Tryz.prog 103 [iv .i64 x] [] n (ag (pxL x)) [] 0:=by
 refine CallOK.any ?_ (by kernel_rfl) (by kernel_rfl) n
 refine call_ok (cx:=cz_C103) (nm:=[]) rfl Tryz.func103 (body:=Tryz.f103.body.getD .skip) rfl enters103 (by kernel_rfl) ?_
 apply of_eq (q:=(256:Int)≠0∧(65536:Int)≠0∧(16777216:Int)≠0∧(5:Int)≠0∧HB ((IntKind.u32.wrap x).tmod 5==1) ((5:Int)≠0∧HB ((IntKind.u32.wrap x).tmod 5==3) (Le (ag [Leaf.v (Value.int IntKind.u8 (IntKind.u8.wrap (IntKind.u32.wrap x))),Leaf.v (Value.int IntKind.u8 (IntKind.u8.wrap (IntKind.u32.wrap ((IntKind.u32.wrap x).tdiv 256)))),Leaf.v (Value.int IntKind.u8 (IntKind.u8.wrap (IntKind.u32.wrap ((IntKind.u32.wrap x).tdiv 65536)))),Leaf.v (Value.int IntKind.u8 0)]) (ag [Leaf.v (Value.int IntKind.u8 (Nat.cast ((pxM x 0).toNat):Int)),Leaf.v (Value.int IntKind.u8 (Nat.cast ((pxM x 1).toNat):Int)),Leaf.v (Value.int IntKind.u8 (Nat.cast ((pxM x 2).toNat):Int)),Leaf.v (Value.int IntKind.u8 (Nat.cast ((pxM x 3).toNat):Int))])∧True) (Le (ag [Leaf.v (Value.int IntKind.u8 (IntKind.u8.wrap (IntKind.u32.wrap x))),Leaf.v (Value.int IntKind.u8 (IntKind.u8.wrap (IntKind.u32.wrap ((IntKind.u32.wrap x).tdiv 256)))),Leaf.v (Value.int IntKind.u8 (IntKind.u8.wrap (IntKind.u32.wrap ((IntKind.u32.wrap x).tdiv 65536)))),Leaf.v (Value.int IntKind.u8 255)]) (ag [Leaf.v (Value.int IntKind.u8 (Nat.cast ((pxM x 0).toNat):Int)),Leaf.v (Value.int IntKind.u8 (Nat.cast ((pxM x 1).toNat):Int)),Leaf.v (Value.int IntKind.u8 (Nat.cast ((pxM x 2).toNat):Int)),Leaf.v (Value.int IntKind.u8 (Nat.cast ((pxM x 3).toNat):Int))])∧True)) ((5:Int)≠0∧HB ((IntKind.u32.wrap x).tmod 5==3) (Le (ag [Leaf.v (Value.int IntKind.u8 (IntKind.u8.wrap (IntKind.u32.wrap x))),Leaf.v (Value.int IntKind.u8 (IntKind.u8.wrap (IntKind.u32.wrap ((IntKind.u32.wrap x).tdiv 256)))),Leaf.v (Value.int IntKind.u8 (IntKind.u8.wrap (IntKind.u32.wrap ((IntKind.u32.wrap x).tdiv 65536)))),Leaf.v (Value.int IntKind.u8 0)]) (ag [Leaf.v (Value.int IntKind.u8 (Nat.cast ((pxM x 0).toNat):Int)),Leaf.v (Value.int IntKind.u8 (Nat.cast ((pxM x 1).toNat):Int)),Leaf.v (Value.int IntKind.u8 (Nat.cast ((pxM x 2).toNat):Int)),Leaf.v (Value.int IntKind.u8 (Nat.cast ((pxM x 3).toNat):Int))])∧True) (Le (ag [Leaf.v (Value.int IntKind.u8 (IntKind.u8.wrap (IntKind.u32.wrap x))),Leaf.v (Value.int IntKind.u8 (IntKind.u8.wrap (IntKind.u32.wrap ((IntKind.u32.wrap x).tdiv 256)))),Leaf.v (Value.int IntKind.u8 (IntKind.u8.wrap (IntKind.u32.wrap ((IntKind.u32.wrap x).tdiv 65536)))),Leaf.v (Value.int IntKind.u8 (IntKind.u8.wrap (IntKind.u32.wrap ((IntKind.u32.wrap x).tdiv 16777216))))]) (ag [Leaf.v (Value.int IntKind.u8 (Nat.cast ((pxM x 0).toNat):Int)),Leaf.v (Value.int IntKind.u8 (Nat.cast ((pxM x 1).toNat):Int)),Leaf.v (Value.int IntKind.u8 (Nat.cast ((pxM x 2).toNat):Int)),Leaf.v (Value.int IntKind.u8 (Nat.cast ((pxM x 3).toNat):Int))])∧True))) (by kernel_rfl)
 repeat' (first|exact trivial|with_reducible apply And.intro|(with_reducible apply HB.mk)|with_reducible intro _)
 all_goals first
  |((refine Le.of (congrArg (fun l=>SV.c (.agg l)) (pxL_eq x _ ⟨by decide,by decide⟩ ?_));rw[‹((IntKind.u32.wrap x).tmod 5==3)=true›];rfl))
  |((refine Le.of (congrArg (fun l=>SV.c (.agg l)) (pxL_eq x _ ⟨by decide,by decide⟩ ?_));rw[‹((IntKind.u32.wrap x).tmod 5==3)=false›,‹((IntKind.u32.wrap x).tmod 5==1)=true›];rfl))
  |((refine Le.of (congrArg (fun l=>SV.c (.agg l)) (pxL_eq x _ (u8_rng _) ?_));rw[‹((IntKind.u32.wrap x).tmod 5==3)=false›,‹((IntKind.u32.wrap x).tmod 5==1)=false›];rfl))
  |(decide)
theorem enters100:Enters Tryz.prog 100:=fun args w=>by go_simp
def cz_C100:Cz:={
 ct:=(fun f=>match f with
 |_=>none)
 eq:=(fun t=>match t with
 |_=>none)
 raw:=[],sym:=[],nf:=[],ap:=true,off:=[],on:=[],lp:=fun _=>none,un:=0}
set_option maxRecDepth 100000 in
set_option maxHeartbeats 400000 in
theorem C100 (a b c e:Int)  (n:Nat):CallOK Tryz.prog 100 [ag [u8 a,u8 b,u8 c,u8 e]] [] n (ag [u8 (pcl e a),u8 (pcl e b),u8 (pcl e c),u8 (pcl e e)]) [] 0:=by
 refine CallOK.any ?_ (by kernel_rfl) (by kernel_rfl) n
 refine call_ok (cx:=cz_C100) (nm:=[]) rfl Tryz.func100 (body:=Tryz.f100.body.getD .skip) rfl enters100 (by kernel_rfl) ?_
 apply of_eq (q:=HB (e==0) (Le (ag [Leaf.v (Value.int IntKind.u8 0),Leaf.v (Value.int IntKind.u8 0),Leaf.v (Value.int IntKind.u8 0),Leaf.v (Value.int IntKind.u8 0)]) (ag [Leaf.v (Value.int IntKind.u8 (pcl e a)),Leaf.v (Value.int IntKind.u8 (pcl e b)),Leaf.v (Value.int IntKind.u8 (pcl e c)),Leaf.v (Value.int IntKind.u8 (pcl e e))])∧True) (Le (ag [Leaf.v (Value.int IntKind.u8 a),Leaf.v (Value.int IntKind.u8 b),Leaf.v (Value.int IntKind.u8 c),Leaf.v (Value.int IntKind.u8 e)]) (ag [Leaf.v (Value.int IntKind.u8 (pcl e a)),Leaf.v (Value.int IntKind.u8 (pcl e b)),Leaf.v (Value.int IntKind.u8 (pcl e c)),Leaf.v (Value.int IntKind.u8 (pcl e e))])∧True)) (by kernel_rfl)
 repeat' (first|exact trivial|with_reducible apply And.intro|(with_reducible apply HB.mk)|with_reducible intro _)
 all_goals first
  |(rw[pcl_t (by assumption),pcl_t (by assumption),pcl_t (by assumption),pcl_t (by assumption)];exact Le.refl _)
  |(rw[pcl_f (by assumption),pcl_f (by assumption),pcl_f (by assumption),pcl_f (by assumption)];exact Le.refl _)
def qls (p:Nat) (s:List Int):List Leaf:=List.replicate p .u++s.map li
def xM (s:List Int) (o n i:Nat):Int:=s.getD (o+i*n / 64) 0
def yM (s:List Int) (o n i:Nat):Int:=bif bitsV .and .i64 (xM s o n i) 3==2 then IntKind.i64.wrap (xM s o n i+7919*i) else xM s o n i
def pxC (x:Int) (c:Nat):UInt8:=pcb (pxM x 3) (pxM x c)
def mdT (s:List Int) (o n:Nat):Nat→UInt8:=fun i=>pxC (yM s o n (i / 4)) (i % 4)
def pxCL (x:Int):List Leaf:=[ub (pxC x 0),ub (pxC x 1),ub (pxC x 2),ub (pxC x 3)]
def I43 (p:Nat) (s:List Int) (o n:Nat) (k:Nat):St:=⟨[(4,iv .i64 (k:Nat)),(3,.c (.l (.p 2 0))),(2,.c (.l (.p 1 0))),(0,.c (.l (.s 0 (p+o) n)))],[(0,some ⟨qls p s,.q⟩),(1,some ⟨tl zT,.t 38⟩),(2,some ⟨tl (upTo k (mdT s o n) zT),.t 38⟩)],3,41,[2,1],(1)⟩
theorem cond_tf (b:Bool):(bif b then true else false)=b:=by cases b<;>rfl
theorem qls_len (p:Nat) (s:List Int):(qls p s).length=p+s.length:=by simp[qls]
theorem getD_pad {α:Type} (p:Nat) (a d:α) (l:List α) (i:Nat):(List.replicate p a++l).getD (p+i) d=l.getD i d:=by
 simp[List.getD,List.getElem?_append_right]
theorem qls_at (p:Nat) (s:List Int) {i:Nat} (h:i<s.length):(qls p s).getD (p+i) .u=li (s.getD i 0):=by
 unfold qls
 rw[getD_pad]
 simp[List.getD,h]
theorem qls_ne (p:Nat) (s:List Int) {i:Nat} (h:i<s.length):(qls p s).getD (p+i) .u≠.u:=by
 rw[qls_at p s h];exact fun h=>by cases h
def Fix (l:List Leaf):Prop:=(∀ρ,rnLs ρ l=some l)∧∀σ,l.map (Leaf.ren σ)=l
theorem Fix.cons {x:Leaf} {l:List Leaf} (hx:∀ρ,x.rn ρ=some x) (hy:∀σ,x.ren σ=x) (h:Fix l):Fix (x::l):=
 ⟨fun ρ=>by rw[rnLs,hx ρ,h.1 ρ],fun σ=>by rw[List.map_cons,hy σ,h.2 σ]⟩
theorem fix_li:∀s:List Int,Fix (s.map li)
 |[]=>⟨fun _=>rfl,fun _=>rfl⟩
 |x::s=>Fix.cons (fun _=>rfl) (fun _=>rfl) (fix_li s)
theorem fix_qls:∀(p:Nat) (s:List Int),Fix (qls p s)
 |0,s=>fix_li s
 |p+1,s=>Fix.cons (fun _=>rfl) (fun _=>rfl) (fix_qls p s)
section
variable {S:St} {l:List (Nat×Option Nat)} {n id j:Nat}
theorem BkM.fix {cs cs':List Leaf} {b b':BT} (h:S.blk j=some ⟨cs,b⟩) (e:cs=cs') (hp:Fix cs') (hb:b.rn (ri l n)=some b'):BkM l n (S.blk j) ⟨cs',b'⟩:=by
 subst e
 rw[h];refine BkM.of ?_
 unfold Blk.rn
 simp only[hp.1,hb]
theorem BkN.fix {cs cs':List Leaf} {b:BT} (h:S.blk id=some ⟨cs,b⟩) (e:cs=cs') (hp:Fix cs') (hb:(b.rn (rnId n 0 [])).isSome=true):BkN n (S.blk id) ⟨cs',b⟩:=by
 subst e
 rw[h];refine BkN.of rfl ?_
 unfold blkLt
 simp only[hp.1,hb,Option.isSome_some,Bool.and_self]
theorem blkLt_fix {cs:List Leaf} {b:BT} (hp:Fix cs) (hb:(b.rn (rnId n 0 [])).isSome=true):blkLt n ⟨cs,b⟩=true:=by
 unfold blkLt
 simp only[hp.1,hb,Option.isSome_some,Bool.and_self]
end
theorem pxC_eq (x:Int):[u8 (pcl ((pxM x 3).toNat:Nat) ((pxM x 0).toNat:Nat)),u8 (pcl ((pxM x 3).toNat:Nat) ((pxM x 1).toNat:Nat)),u8 (pcl ((pxM x 3).toNat:Nat) ((pxM x 2).toNat:Nat)),u8 (pcl ((pxM x 3).toNat:Nat) ((pxM x 3).toNat:Nat))]=pxCL x:=by
 unfold pxCL pxC
 rw[pcb_pcl,pcb_pcl,pcb_pcl,pcb_pcl]
theorem mdT_px (s:List Int) (o n k:Nat):pxCL (yM s o n k)=[ub (mdT s o n (4*k)),ub (mdT s o n (4*k+1)),ub (mdT s o n (4*k+2)),ub (mdT s o n (4*k+3))]:=by
 unfold mdT pxCL
 rw[show 4*k / 4=k by omega,show (4*k+1) / 4=k by omega,show (4*k+2) / 4=k by omega,show (4*k+3) / 4=k by omega,show 4*k % 4=0 by omega,show (4*k+1) % 4=1 by omega,show (4*k+2) % 4=2 by omega,show (4*k+3) % 4=3 by omega]
theorem yM_f {s:List Int} {o n k:Nat} (h:(bitsV .and .i64 (xM s o n k) 3==2)=false):yM s o n k=xM s o n k:=by unfold yM;rw[h];rfl
theorem yM_t {s:List Int} {o n k:Nat} (h:(bitsV .and .i64 (xM s o n k) 3==2)=true):yM s o n k=IntKind.i64.wrap (xM s o n k+7919*k):=by unfold yM;rw[h];rfl
theorem md_one {s:List Int} {o n k:Nat} (hk:k<64) (h:(bitsV .and .i64 (xM s o n k) 3==2)=false):splice (tl (upTo k (mdT s o n) zT)) (0+k*4) (pxCL (xM s o n k))=tl (upTo (k+1) (mdT s o n) zT):=by
 rw[Nat.zero_add,←yM_f h,mdT_px,upTo_set k _ _ hk]
theorem md_two {s:List Int} {o n k:Nat} (hk:k<64) (h:(bitsV .and .i64 (xM s o n k) 3==2)=true):splice (splice (tl (upTo k (mdT s o n) zT)) (0+k*4) (pxCL (xM s o n k))) (0+k*4) (pxCL (IntKind.i64.wrap (xM s o n k+7919*k)))=tl (upTo (k+1) (mdT s o n) zT):=by
 rw[Nat.zero_add,←yM_t h,mdT_px,←upTo_set k _ _ hk]
 unfold pxCL
 rw[tl_set _ hk,tl_set _ hk,tl_set _ hk]
 refine tl_ext fun i hi=>?_
 unfold setP
 split
 ·rfl
 ·split
  ·rfl
  ·split
   ·rfl
   ·split
    ·rfl
    ·rfl
theorem idx_bd {k n:Nat} (hk:k<64) (hn:0<n):k*n / 64<n:=by
 have:=Nat.mul_lt_mul_of_pos_right hk hn
 omega
theorem idx_int (k n:Nat):((k:Int)*n).tdiv 64=((k*n / 64:Nat):Int):=by
 rw[Int.tdiv_eq_ediv_of_nonneg (by exact Int.mul_nonneg (by omega) (by omega))]
 rfl
attribute [local irreducible] pxM pxC
def cz_R43 (p:Nat) (s:List Int) (o n:Nat) (k:Nat):Cz:={
 ct:=(fun f=>match f with
 |100=>some fun _ _S ar=>match ar with | [.c (.agg [.v (.int _ a),.v (.int _ b),.v (.int _ c),.v (.int _ e)])]=>some {v:=ag [u8 (pcl e a),u8 (pcl e b),u8 (pcl e c),u8 (pcl e e)],rd:=[],wr:=[],nw:=0}|_=>none
 |103=>some fun _ _S ar=>match ar with | [.c (.l (.v (.int _ x)))]=>some {v:=ag (pxL x),rd:=[],wr:=[],nw:=0}|_=>none
 |_=>none)
 eq:=(fun t=>match t with
 |_=>none)
 raw:=[36],sym:=[0,22,23,28,39],nf:=[(13,bv (decide (((k:Nat):Int)<64))),(21,iv .i64 ((k*n / 64:Nat):Nat)),(23,iv .i64 (xM s o n k)),(27,.c (.agg (pxCL (xM s o n k)))),(38,.c (.agg (pxCL (IntKind.i64.wrap (xM s o n k+7919*k)))))],ap:=true,off:=[],on:=[],lp:=fun _=>none,un:=0}
set_option maxRecDepth 100000 in
theorem R43 (p:Nat) (s:List Int) (o n:Nat) (k:Nat)  (K:Exit→St→Prop) (h:(decide ((Nat.cast k:Int)<64)=true→decide ((Nat.cast k:Int)<64)=true∧True)∧(decide ((Nat.cast k:Int)<64)=true→decide ((Nat.cast k:Int)<64)=true∧True)∧(decide ((Nat.cast k:Int)<64)=true→decide ((Nat.cast k:Int)<64)=true)∧Le (bv (bif decide ((Nat.cast k:Int)<64) then decide ((Nat.cast n:Int)>0) else false)) (bv (decide ((Nat.cast k:Int)<64)))∧HB (decide ((Nat.cast k:Int)<64)) (IntKind.i64.wrap ((Nat.cast k:Int)*(Nat.cast n:Int))=(Nat.cast k:Int)*(Nat.cast n:Int)∧(64:Int)≠0∧IntKind.i64.wrap (((Nat.cast k:Int)*(Nat.cast n:Int)).tdiv 64)=((Nat.cast k:Int)*(Nat.cast n:Int)).tdiv 64∧Le (iv IntKind.i64 (((Nat.cast k:Int)*(Nat.cast n:Int)).tdiv 64)) (iv IntKind.i64 (Nat.cast ((k*n / 64)):Int))∧InR ((Nat.cast ((k*n / 64)):Int)) n∧p+o+((Nat.cast ((k*n / 64)):Int)).toNat*1<(qls p s).length∧(qls p s).getD (p+o+((Nat.cast ((k*n / 64)):Int)).toNat*1) Leaf.u≠Leaf.u∧Le (SV.c (Cp.l ((qls p s).getD (p+o+((Nat.cast ((k*n / 64)):Int)).toNat*1) Leaf.u))) (iv IntKind.i64 (xM s o n k))∧CallOKd Tryz.prog 103 [] [iv IntKind.i64 (xM s o n k)] [] 3 (ag [Leaf.v (Value.int IntKind.u8 (Nat.cast ((pxM (xM s o n k) 0).toNat):Int)),Leaf.v (Value.int IntKind.u8 (Nat.cast ((pxM (xM s o n k) 1).toNat):Int)),Leaf.v (Value.int IntKind.u8 (Nat.cast ((pxM (xM s o n k) 2).toNat):Int)),Leaf.v (Value.int IntKind.u8 (Nat.cast ((pxM (xM s o n k) 3).toNat):Int))]) [] 0∧CallOKd Tryz.prog 100 [] [ag [Leaf.v (Value.int IntKind.u8 (Nat.cast ((pxM (xM s o n k) 0).toNat):Int)),Leaf.v (Value.int IntKind.u8 (Nat.cast ((pxM (xM s o n k) 1).toNat):Int)),Leaf.v (Value.int IntKind.u8 (Nat.cast ((pxM (xM s o n k) 2).toNat):Int)),Leaf.v (Value.int IntKind.u8 (Nat.cast ((pxM (xM s o n k) 3).toNat):Int))]] [] 3 (ag [Leaf.v (Value.int IntKind.u8 (pcl (Nat.cast ((pxM (xM s o n k) 3).toNat):Int) (Nat.cast ((pxM (xM s o n k) 0).toNat):Int))),Leaf.v (Value.int IntKind.u8 (pcl (Nat.cast ((pxM (xM s o n k) 3).toNat):Int) (Nat.cast ((pxM (xM s o n k) 1).toNat):Int))),Leaf.v (Value.int IntKind.u8 (pcl (Nat.cast ((pxM (xM s o n k) 3).toNat):Int) (Nat.cast ((pxM (xM s o n k) 2).toNat):Int))),Leaf.v (Value.int IntKind.u8 (pcl (Nat.cast ((pxM (xM s o n k) 3).toNat):Int) (Nat.cast ((pxM (xM s o n k) 3).toNat):Int)))]) [] 0∧Le (ag [Leaf.v (Value.int IntKind.u8 (pcl (Nat.cast ((pxM (xM s o n k) 3).toNat):Int) (Nat.cast ((pxM (xM s o n k) 0).toNat):Int))),Leaf.v (Value.int IntKind.u8 (pcl (Nat.cast ((pxM (xM s o n k) 3).toNat):Int) (Nat.cast ((pxM (xM s o n k) 1).toNat):Int))),Leaf.v (Value.int IntKind.u8 (pcl (Nat.cast ((pxM (xM s o n k) 3).toNat):Int) (Nat.cast ((pxM (xM s o n k) 2).toNat):Int))),Leaf.v (Value.int IntKind.u8 (pcl (Nat.cast ((pxM (xM s o n k) 3).toNat):Int) (Nat.cast ((pxM (xM s o n k) 3).toNat):Int)))]) (ag [Leaf.v (Value.int IntKind.u8 (Nat.cast ((pxC (xM s o n k) 0).toNat):Int)),Leaf.v (Value.int IntKind.u8 (Nat.cast ((pxC (xM s o n k) 1).toNat):Int)),Leaf.v (Value.int IntKind.u8 (Nat.cast ((pxC (xM s o n k) 2).toNat):Int)),Leaf.v (Value.int IntKind.u8 (Nat.cast ((pxC (xM s o n k) 3).toNat):Int))])∧InR ((Nat.cast k:Int)) 64∧0+((Nat.cast k:Int)).toNat*4+4≤256∧HB (bitsV BinOp.and IntKind.i64 (xM s o n k) 3==2) (IntKind.i64.wrap (7919*(Nat.cast k:Int))=7919*(Nat.cast k:Int)∧CallOKd Tryz.prog 103 [] [iv IntKind.i64 (IntKind.i64.wrap (xM s o n k+7919*(Nat.cast k:Int)))] [] 3 (ag [Leaf.v (Value.int IntKind.u8 (Nat.cast ((pxM (IntKind.i64.wrap (xM s o n k+7919*(Nat.cast k:Int))) 0).toNat):Int)),Leaf.v (Value.int IntKind.u8 (Nat.cast ((pxM (IntKind.i64.wrap (xM s o n k+7919*(Nat.cast k:Int))) 1).toNat):Int)),Leaf.v (Value.int IntKind.u8 (Nat.cast ((pxM (IntKind.i64.wrap (xM s o n k+7919*(Nat.cast k:Int))) 2).toNat):Int)),Leaf.v (Value.int IntKind.u8 (Nat.cast ((pxM (IntKind.i64.wrap (xM s o n k+7919*(Nat.cast k:Int))) 3).toNat):Int))]) [] 0∧CallOKd Tryz.prog 100 [] [ag [Leaf.v (Value.int IntKind.u8 (Nat.cast ((pxM (IntKind.i64.wrap (xM s o n k+7919*(Nat.cast k:Int))) 0).toNat):Int)),Leaf.v (Value.int IntKind.u8 (Nat.cast ((pxM (IntKind.i64.wrap (xM s o n k+7919*(Nat.cast k:Int))) 1).toNat):Int)),Leaf.v (Value.int IntKind.u8 (Nat.cast ((pxM (IntKind.i64.wrap (xM s o n k+7919*(Nat.cast k:Int))) 2).toNat):Int)),Leaf.v (Value.int IntKind.u8 (Nat.cast ((pxM (IntKind.i64.wrap (xM s o n k+7919*(Nat.cast k:Int))) 3).toNat):Int))]] [] 3 (ag [Leaf.v (Value.int IntKind.u8 (pcl (Nat.cast ((pxM (IntKind.i64.wrap (xM s o n k+7919*(Nat.cast k:Int))) 3).toNat):Int) (Nat.cast ((pxM (IntKind.i64.wrap (xM s o n k+7919*(Nat.cast k:Int))) 0).toNat):Int))),Leaf.v (Value.int IntKind.u8 (pcl (Nat.cast ((pxM (IntKind.i64.wrap (xM s o n k+7919*(Nat.cast k:Int))) 3).toNat):Int) (Nat.cast ((pxM (IntKind.i64.wrap (xM s o n k+7919*(Nat.cast k:Int))) 1).toNat):Int))),Leaf.v (Value.int IntKind.u8 (pcl (Nat.cast ((pxM (IntKind.i64.wrap (xM s o n k+7919*(Nat.cast k:Int))) 3).toNat):Int) (Nat.cast ((pxM (IntKind.i64.wrap (xM s o n k+7919*(Nat.cast k:Int))) 2).toNat):Int))),Leaf.v (Value.int IntKind.u8 (pcl (Nat.cast ((pxM (IntKind.i64.wrap (xM s o n k+7919*(Nat.cast k:Int))) 3).toNat):Int) (Nat.cast ((pxM (IntKind.i64.wrap (xM s o n k+7919*(Nat.cast k:Int))) 3).toNat):Int)))]) [] 0∧Le (ag [Leaf.v (Value.int IntKind.u8 (pcl (Nat.cast ((pxM (IntKind.i64.wrap (xM s o n k+7919*(Nat.cast k:Int))) 3).toNat):Int) (Nat.cast ((pxM (IntKind.i64.wrap (xM s o n k+7919*(Nat.cast k:Int))) 0).toNat):Int))),Leaf.v (Value.int IntKind.u8 (pcl (Nat.cast ((pxM (IntKind.i64.wrap (xM s o n k+7919*(Nat.cast k:Int))) 3).toNat):Int) (Nat.cast ((pxM (IntKind.i64.wrap (xM s o n k+7919*(Nat.cast k:Int))) 1).toNat):Int))),Leaf.v (Value.int IntKind.u8 (pcl (Nat.cast ((pxM (IntKind.i64.wrap (xM s o n k+7919*(Nat.cast k:Int))) 3).toNat):Int) (Nat.cast ((pxM (IntKind.i64.wrap (xM s o n k+7919*(Nat.cast k:Int))) 2).toNat):Int))),Leaf.v (Value.int IntKind.u8 (pcl (Nat.cast ((pxM (IntKind.i64.wrap (xM s o n k+7919*(Nat.cast k:Int))) 3).toNat):Int) (Nat.cast ((pxM (IntKind.i64.wrap (xM s o n k+7919*(Nat.cast k:Int))) 3).toNat):Int)))]) (ag [Leaf.v (Value.int IntKind.u8 (Nat.cast ((pxC (IntKind.i64.wrap (xM s o n k+7919*(Nat.cast k:Int))) 0).toNat):Int)),Leaf.v (Value.int IntKind.u8 (Nat.cast ((pxC (IntKind.i64.wrap (xM s o n k+7919*(Nat.cast k:Int))) 1).toNat):Int)),Leaf.v (Value.int IntKind.u8 (Nat.cast ((pxC (IntKind.i64.wrap (xM s o n k+7919*(Nat.cast k:Int))) 2).toNat):Int)),Leaf.v (Value.int IntKind.u8 (Nat.cast ((pxC (IntKind.i64.wrap (xM s o n k+7919*(Nat.cast k:Int))) 3).toNat):Int))])∧InR ((Nat.cast k:Int)) 64∧0+((Nat.cast k:Int)).toNat*4+4≤(splice (tl (upTo k (mdT s o n) zT)) (0+((Nat.cast k:Int)).toNat*4) [Leaf.v (Value.int IntKind.u8 (Nat.cast ((pxC (xM s o n k) 0).toNat):Int)),Leaf.v (Value.int IntKind.u8 (Nat.cast ((pxC (xM s o n k) 1).toNat):Int)),Leaf.v (Value.int IntKind.u8 (Nat.cast ((pxC (xM s o n k) 2).toNat):Int)),Leaf.v (Value.int IntKind.u8 (Nat.cast ((pxC (xM s o n k) 3).toNat):Int))]).length∧IntKind.i64.wrap ((Nat.cast k:Int)+1)=(Nat.cast k:Int)+1∧RoundTo Tryz.prog ((getLoop 3 (Tryz.f43.body.getD Code.skip)).getD Code.skip) 3 (wkK 3 K) (St.mk [(0,SV.c (Cp.l (Leaf.s 0 (p+o) n))),(2,SV.c (Cp.l (Leaf.p 1 0))),(3,SV.c (Cp.l (Leaf.p 2 0))),(4,iv IntKind.i64 ((Nat.cast k:Int)+1))] [(0,some (Blk.mk (qls p s) BT.q)),(1,some (Blk.mk (tl zT) (BT.t 38))),(2,some (Blk.mk (splice (splice (tl (upTo k (mdT s o n) zT)) (0+((Nat.cast k:Int)).toNat*4) [Leaf.v (Value.int IntKind.u8 (Nat.cast ((pxC (xM s o n k) 0).toNat):Int)),Leaf.v (Value.int IntKind.u8 (Nat.cast ((pxC (xM s o n k) 1).toNat):Int)),Leaf.v (Value.int IntKind.u8 (Nat.cast ((pxC (xM s o n k) 2).toNat):Int)),Leaf.v (Value.int IntKind.u8 (Nat.cast ((pxC (xM s o n k) 3).toNat):Int))]) (0+((Nat.cast k:Int)).toNat*4) [Leaf.v (Value.int IntKind.u8 (Nat.cast ((pxC (IntKind.i64.wrap (xM s o n k+7919*(Nat.cast k:Int))) 0).toNat):Int)),Leaf.v (Value.int IntKind.u8 (Nat.cast ((pxC (IntKind.i64.wrap (xM s o n k+7919*(Nat.cast k:Int))) 1).toNat):Int)),Leaf.v (Value.int IntKind.u8 (Nat.cast ((pxC (IntKind.i64.wrap (xM s o n k+7919*(Nat.cast k:Int))) 2).toNat):Int)),Leaf.v (Value.int IntKind.u8 (Nat.cast ((pxC (IntKind.i64.wrap (xM s o n k+7919*(Nat.cast k:Int))) 3).toNat):Int))]) (BT.t 38)))] 3 41 [2,2,2,1] 1)) (IntKind.i64.wrap ((Nat.cast k:Int)+1)=(Nat.cast k:Int)+1∧RoundTo Tryz.prog ((getLoop 3 (Tryz.f43.body.getD Code.skip)).getD Code.skip) 3 (wkK 3 K) (St.mk [(0,SV.c (Cp.l (Leaf.s 0 (p+o) n))),(2,SV.c (Cp.l (Leaf.p 1 0))),(3,SV.c (Cp.l (Leaf.p 2 0))),(4,iv IntKind.i64 ((Nat.cast k:Int)+1))] [(0,some (Blk.mk (qls p s) BT.q)),(1,some (Blk.mk (tl zT) (BT.t 38))),(2,some (Blk.mk (splice (tl (upTo k (mdT s o n) zT)) (0+((Nat.cast k:Int)).toNat*4) [Leaf.v (Value.int IntKind.u8 (Nat.cast ((pxC (xM s o n k) 0).toNat):Int)),Leaf.v (Value.int IntKind.u8 (Nat.cast ((pxC (xM s o n k) 1).toNat):Int)),Leaf.v (Value.int IntKind.u8 (Nat.cast ((pxC (xM s o n k) 2).toNat):Int)),Leaf.v (Value.int IntKind.u8 (Nat.cast ((pxC (xM s o n k) 3).toNat):Int))]) (BT.t 38)))] 3 41 [2,2,1] 1))) (wkK 3 K (Exit.exit 0) (St.mk [(0,SV.c (Cp.l (Leaf.s 0 (p+o) n))),(2,SV.c (Cp.l (Leaf.p 1 0))),(3,SV.c (Cp.l (Leaf.p 2 0))),(4,iv IntKind.i64 (Nat.cast k:Int))] [(0,some (Blk.mk (qls p s) BT.q)),(1,some (Blk.mk (tl zT) (BT.t 38))),(2,some (Blk.mk (tl (upTo k (mdT s o n) zT)) (BT.t 38)))] 3 41 [2,1] 1))):WPL Tryz.prog ((getLoop 3 (Tryz.f43.body.getD .skip)).getD .skip) (I43 p s o n k) (wkK 3 K):=
 wp_roundT [0,2,3,4] [0,1,2] (cx:=cz_R43 p s o n k) rfl (of_eq (by kernel_rfl) h)
set_option maxRecDepth 100000 in
set_option maxHeartbeats 4000000 in
theorem L43 (p:Nat) (s:List Int) (o n:Nat) (hn:0<n) (ho:o+n≤s.length) (hs:s.length≤20000000000000):∀(m k:Nat),64-k=m→k≤64→∀(K:Exit→St→Prop),K (.exit 0) (I43 p s o n 64)→WPL Tryz.prog ((getLoop 3 (Tryz.f43.body.getD .skip)).getD .skip) (I43 p s o n k) (wkK 3 K)
 |0,k,hm,hk,K,hK=>by
  have e:k=64:=by omega
  subst e
  refine R43 p s o n _ K ⟨fun h=>⟨h,trivial⟩,⟨fun h=>⟨h,trivial⟩,⟨fun h=>h,⟨(Le.bool (by rw[decide_eq_true (show ((n:Nat):Int)>0 by omega)];exact cond_tf _)),(HB.mk (fun hne=>absurd (of_decide_eq_true hne) (by omega)) (fun he=>?_))⟩⟩⟩⟩
  exact wkK.to (I43 p s o n _) (Nat.le_refl _) (by kernel_rfl) (wkE_cons (LeN.sl (by kernel_rfl) rfl) (wkE_cons (LeN.sl (by kernel_rfl) rfl) (wkE_cons (LeN.sl (by kernel_rfl) rfl) (wkE_cons (LeN.sl (by kernel_rfl) rfl) trivial)))) (wkH_cons (BkN.fix (cs:=qls p s) (b:=.q) (by kernel_rfl) (rfl) (fix_qls p s) (by kernel_rfl)) (wkH_cons (BkN.plain (cs:=tl zT) (b:=.t 38) (by kernel_rfl) (rfl) (plain_tl zT) (by kernel_rfl)) (wkH_cons (BkN.plain (cs:=tl (upTo 64 (mdT s o n) zT)) (b:=.t 38) (by kernel_rfl) (rfl) (plain_tl _) (by kernel_rfl)) trivial))) hK
 |m+1,k,hm,hk,K,hK=>by
  refine R43 p s o n k K ⟨fun h=>⟨h,trivial⟩,⟨fun h=>⟨h,trivial⟩,⟨fun h=>h,⟨(Le.bool (by rw[decide_eq_true (show ((n:Nat):Int)>0 by omega)];exact cond_tf _)),(HB.mk (fun hne=>?_) (fun he=>absurd (show ((k:Nat):Int)<(64:Nat) by omega) (of_decide_eq_false he)))⟩⟩⟩⟩
  have hlt:k<64:=by omega
  have hkn:(k:Int)*n≤64*n:=Int.mul_le_mul_of_nonneg_right (by omega) (by omega)
  have hkn0:0≤(k:Int)*n:=Int.mul_nonneg (by omega) (by omega)
  have hd64:((k:Int)*n).tdiv 64=((k*n / 64:Nat):Int):=idx_int k n
  have hib:=idx_bd hlt hn
  repeat' (first|exact trivial|with_reducible apply And.intro|(with_reducible apply HB.mk)|with_reducible intro _)
  all_goals first
   |(with_reducible exact C100 _ _ _ _ _)
   |(exact ⟨by omega,by omega⟩)
   |(exact okw _ (by omega) (by omega))
   |(exact Le.int (idx_int k n))
   |((rw[qls_len,show (((k*n / 64:Nat):Nat):Int).toNat=k*n / 64 from rfl];have:=idx_bd hlt hn;omega))
   |((rw[show (((k*n / 64:Nat):Nat):Int).toNat*1=k*n / 64 from Nat.mul_one _,Nat.add_assoc];exact qls_ne p s (by have:=idx_bd hlt hn;omega)))
   |((refine Le.of ?_;rw[show (((k*n / 64:Nat):Nat):Int).toNat*1=k*n / 64 from Nat.mul_one _,Nat.add_assoc,qls_at p s (by have:=idx_bd hlt hn;omega)];rfl))
   |(exact Le.of (congrArg (fun l=>SV.c (.agg l)) (pxC_eq _)))
   |((rw[splice_length,tl_len];omega))
   |(exact C103 _ _)
   |(omega)
   |(have hcnd:(bitsV .and .i64 (xM s o n k) 3==2)=false:=(by with_reducible assumption);(with_reducible refine RoundTo.toN 3 (I43 p s o n (k+1)) ?_ ?_ ?_ ?_ ?_);exact Nat.le_refl _;kernel_rfl;exact (wkE_cons (LeN.sl (by kernel_rfl) rfl) (wkE_cons (LeN.sl (by kernel_rfl) rfl) (wkE_cons (LeN.sl (by kernel_rfl) rfl) (wkE_cons (LeN.sl (by kernel_rfl) rfl) trivial))));exact (wkH_cons (BkN.fix (cs:=qls p s) (b:=.q) (by kernel_rfl) (rfl) (fix_qls p s) (by kernel_rfl)) (wkH_cons (BkN.plain (cs:=tl zT) (b:=.t 38) (by kernel_rfl) (rfl) (plain_tl zT) (by kernel_rfl)) (wkH_cons (BkN.plain (cs:=splice (tl (upTo k (mdT s o n) zT)) (0+k*4) (pxCL (xM s o n k))) (b:=.t 38) (by kernel_rfl) (md_one hlt hcnd) (plain_tl _) (by kernel_rfl)) trivial)));exact (L43 p s o n hn ho hs m (k+1) (by omega) (by omega) K hK))
   |(have hcnd:(bitsV .and .i64 (xM s o n k) 3==2)=true:=(by with_reducible assumption);(with_reducible refine RoundTo.toN 3 (I43 p s o n (k+1)) ?_ ?_ ?_ ?_ ?_);exact Nat.le_refl _;kernel_rfl;exact (wkE_cons (LeN.sl (by kernel_rfl) rfl) (wkE_cons (LeN.sl (by kernel_rfl) rfl) (wkE_cons (LeN.sl (by kernel_rfl) rfl) (wkE_cons (LeN.sl (by kernel_rfl) rfl) trivial))));exact (wkH_cons (BkN.fix (cs:=qls p s) (b:=.q) (by kernel_rfl) (rfl) (fix_qls p s) (by kernel_rfl)) (wkH_cons (BkN.plain (cs:=tl zT) (b:=.t 38) (by kernel_rfl) (rfl) (plain_tl zT) (by kernel_rfl)) (wkH_cons (BkN.plain (cs:=splice (splice (tl (upTo k (mdT s o n) zT)) (0+k*4) (pxCL (xM s o n k))) (0+k*4) (pxCL (IntKind.i64.wrap (xM s o n k+7919*k)))) (b:=.t 38) (by kernel_rfl) (md_two hlt hcnd) (plain_tl _) (by kernel_rfl)) trivial)));exact (L43 p s o n hn ho hs m (k+1) (by omega) (by omega) K hK))
   |(exact okw _ (by omega) (by omega))
theorem enters43:Enters Tryz.prog 43:=fun args w=>by go_simp
def cz_C43 (p:Nat) (s:List Int) (o y:Nat):Cz:={
 ct:=(fun f=>match f with
 |100=>some fun _ _S ar=>match ar with | [.c (.agg [.v (.int _ a),.v (.int _ b),.v (.int _ c),.v (.int _ e)])]=>some {v:=ag [u8 (pcl e a),u8 (pcl e b),u8 (pcl e c),u8 (pcl e e)],rd:=[],wr:=[],nw:=0}|_=>none
 |103=>some fun _ _S ar=>match ar with | [.c (.l (.v (.int _ x)))]=>some {v:=ag (pxL x),rd:=[],wr:=[],nw:=0}|_=>none
 |_=>none)
 eq:=(fun t=>match t with
 |_=>none)
 raw:=[],sym:=[],nf:=[(40,.c (.agg (tl (mdT s o y))))],ap:=true,off:=[],on:=[],lp:=fun r=>match r with|3=>some (fun _ K=>K (.exit 0) (I43 p s o y 64))|_=>none,un:=0,wh:=[38]}
set_option maxRecDepth 100000 in
set_option maxHeartbeats 400000 in
theorem C43 (p:Nat) (s:List Int) (o y:Nat) (hn:0<y) (ho:o+y≤s.length) (hs:s.length≤20000000000000):CallOK Tryz.prog 43 [.c (.l (.s 0 (p+o) y))] [(0,⟨qls p s,.q⟩)] 1 (.c (.agg (tl (mdT s o y)))) [] 0:=by
 refine call_ok (cx:=cz_C43 p s o y) (nm:=[]) rfl Tryz.func43 (body:=Tryz.f43.body.getD .skip) rfl enters43 (by unfold inck;simp only[List.all_cons,List.all_nil,blkLt_fix (fix_qls p s) (show (BT.rn (rnId 1 0 []) (.q)).isSome=true from rfl),Bool.and_true,Bool.true_and];kernel_rfl) ?_
 apply of_eq (q:=0=0∧256=256∧(LoopOK Tryz.prog ((getLoop 3 (Tryz.f43.body.getD .skip)).getD .skip) (St.mk [(4,iv IntKind.i64 0),(3,SV.c (Cp.l (Leaf.p 2 0))),(6,ag zT256),(2,SV.c (Cp.l (Leaf.p 1 0))),(0,SV.c (Cp.l (Leaf.s 0 (p+o) y)))] [(2,some (Blk.mk zT256 (BT.t 38))),(2,some (Blk.mk zT256 (BT.t 38))),(1,some (Blk.mk zT256 (BT.t 38))),(0,some (Blk.mk (qls p s) BT.q))] 3 41 [2,2,1] 1) fun K=>K (Exit.exit 0) (I43 p s o y 64))∧Le (ag (List.take 256 (tl (upTo 64 (mdT s o y) zT)))) (ag (tl (mdT s o y)))∧0=0∧256=256∧Le (ag (tl (mdT s o y))) (ag (tl (mdT s o y)))∧True) (by kernel_rfl)
 repeat' (first|exact trivial|with_reducible apply And.intro|(with_reducible apply HB.mk)|with_reducible intro _)
 all_goals first
  |(with_reducible rfl)
  |(exact LoopOK.mk (I43 p s o y 0) rfl (by kernel_rfl) (wkE_cons (LeN.sl (by kernel_rfl) rfl) (wkE_cons (LeN.sl (by kernel_rfl) rfl) (wkE_cons (LeN.sl (by kernel_rfl) rfl) (wkE_cons (LeN.sl (by kernel_rfl) rfl) trivial)))) (wkH_cons (BkN.fix (cs:=qls p s) (b:=.q) (by kernel_rfl) (rfl) (fix_qls p s) (by kernel_rfl)) (wkH_cons (BkN.plain (cs:=tl zT) (b:=.t 38) (by kernel_rfl) (rfl) (plain_tl zT) (by kernel_rfl)) (wkH_cons (BkN.plain (cs:=tl zT) (b:=.t 38) (by kernel_rfl) (by rw[upTo_none]) (plain_tl _) (by kernel_rfl)) trivial))) (fun K hT=>L43 p s o y hn ho hs _ 0 rfl (by decide) K hT))
  |(refine Le.of ?_;rw[upTo_all,tl_take])
  |(exact Le.of (by kernel_rfl))
theorem C43g (p:Nat) (s:List Int) (o y:Nat) (hn:0<y) (ho:o+y≤s.length) (hs:s.length≤20000000000000) (id n:Nat) (hi:id<n):CallOK Tryz.prog 43 [.c (.l (.s id (p+o) y))] [(id,⟨qls p s,.q⟩)] n (.c (.agg (tl (mdT s o y)))) [] 0:=by
 have key:=CallOK.at1 (C43 p s o y hn ho hs) id n hi
 have e1:=(fix_qls p s).2 (up1 id n)
 have e2:=ren_plain (σ:=up1 id n) (plain_tl (mdT s o y))
 simp only[List.map_cons,List.map_nil,Blk.ren,BT.ren,SV.ren,Cp.ren,Leaf.ren,e1,e2] at key
 exact key
end Ab
end Go.Proofs.YtpdckpifhniioaaGreat
end
