/- Part 6 of what CodecPacks rests on. -/
import Derived.Test.YtpdckpifhniioaaGreatVd
import Derived.Test.YtpdckpifhniioaaGreatVe
section
set_option linter.unusedVariables false
set_option linter.unusedSimpArgs false
namespace Go.Proofs.YtpdckpifhniioaaGreat
open Go.RowKit
namespace Ab
theorem okb (b:UInt8):(0:Int)≤(b.toNat:Nat)∧((b.toNat:Nat):Int)<256:=by have:=b.toNat_lt;omega
def pcl (e x:Int):Int:=bif e==0 then 0 else x
def pcb (e x:UInt8):UInt8:=if e=0 then 0 else x
def clnT (t:Nat→UInt8):Nat→UInt8:=fun i=>pcb (t (4*(i / 4)+3)) (t i)
def upTo (k:Nat) (f g:Nat→UInt8):Nat→UInt8:=fun i=>if i<4*k then f i else g i
theorem pcb_pcl (e x:UInt8):pcl (e.toNat:Nat) (x.toNat:Nat)=((pcb e x).toNat:Nat):=by
 unfold pcl pcb
 by_cases h:e=0
 ·subst h;rfl
 ·have:((e.toNat:Nat):Int)≠0:=by
   intro k;apply h;apply UInt8.toNat_inj.1;simpa using k
  rw[if_neg h,beq_false_of_ne this];rfl
theorem pcl_t {e x:Int} (h:(e==0)=true):pcl e x=0:=by unfold pcl;rw[h];rfl
theorem pcl_f {e x:Int} (h:(e==0)=false):pcl e x=x:=by unfold pcl;rw[h];rfl
theorem upTo_set (k:Nat) (f g:Nat→UInt8) (hk:k<64):splice (tl (upTo k f g)) (k*4) [ub (f (4*k)),ub (f (4*k+1)),ub (f (4*k+2)),ub (f (4*k+3))]=tl (upTo (k+1) f g):=by
 rw[tl_set _ hk]
 refine tl_ext fun i hi=>?_
 unfold setP upTo
 by_cases h0:i=4*k
 ·subst h0;rw[if_pos rfl,if_pos (by omega)]
 ·by_cases h1:i=4*k+1
  ·subst h1;rw[if_neg h0,if_pos rfl,if_pos (by omega)]
  ·by_cases h2:i=4*k+2
   ·subst h2;rw[if_neg h0,if_neg h1,if_pos rfl,if_pos (by omega)]
   ·by_cases h3:i=4*k+3
    ·subst h3;rw[if_neg h0,if_neg h1,if_neg h2,if_pos rfl,if_pos (by omega)]
    ·rw[if_neg h0,if_neg h1,if_neg h2,if_neg h3]
     by_cases h4:i<4*k
     ·rw[if_pos h4,if_pos (by omega)]
     ·rw[if_neg h4,if_neg (by omega)]
theorem upTo_all (f g:Nat→UInt8):tl (upTo 64 f g)=tl f:=tl_ext fun i hi=>if_pos (by omega)
theorem upTo_none (f g:Nat→UInt8):tl (upTo 0 f g)=tl g:=tl_ext fun i hi=>if_neg (by omega)
theorem enters129:Enters Tryz.prog 129:=fun args w=>by go_simp
def cz_C129:Cz:={
 ct:=(fun f=>match f with
 |_=>none)
 eq:=(fun t=>match t with
 |_=>none)
 raw:=[],sym:=[],nf:=[],ap:=true,off:=[],on:=[],lp:=fun _=>none,un:=0}
set_option maxRecDepth 100000 in
set_option maxHeartbeats 400000 in
theorem C129 (a b c e:Int)  (n:Nat):CallOK Tryz.prog 129 [ag [u8 a,u8 b,u8 c,u8 e]] [] n (ag [u8 (pcl e a),u8 (pcl e b),u8 (pcl e c),u8 (pcl e e)]) [] 0:=by
 refine CallOK.any ?_ (by kernel_rfl) (by kernel_rfl) n
 refine call_ok (cx:=cz_C129) (nm:=[]) rfl Tryz.func129 (body:=Tryz.f129.body.getD .skip) rfl enters129 (by kernel_rfl) ?_
 apply of_eq (q:=HB (e==0) (Le (ag [Leaf.v (Value.int IntKind.u8 0),Leaf.v (Value.int IntKind.u8 0),Leaf.v (Value.int IntKind.u8 0),Leaf.v (Value.int IntKind.u8 0)]) (ag [Leaf.v (Value.int IntKind.u8 (pcl e a)),Leaf.v (Value.int IntKind.u8 (pcl e b)),Leaf.v (Value.int IntKind.u8 (pcl e c)),Leaf.v (Value.int IntKind.u8 (pcl e e))])∧True) (Le (ag [Leaf.v (Value.int IntKind.u8 a),Leaf.v (Value.int IntKind.u8 b),Leaf.v (Value.int IntKind.u8 c),Leaf.v (Value.int IntKind.u8 e)]) (ag [Leaf.v (Value.int IntKind.u8 (pcl e a)),Leaf.v (Value.int IntKind.u8 (pcl e b)),Leaf.v (Value.int IntKind.u8 (pcl e c)),Leaf.v (Value.int IntKind.u8 (pcl e e))])∧True)) (by kernel_rfl)
 repeat' (first|exact trivial|with_reducible apply And.intro|(with_reducible apply HB.mk)|with_reducible intro _)
 all_goals first
  |(rw[pcl_t (by assumption),pcl_t (by assumption),pcl_t (by assumption),pcl_t (by assumption)];exact Le.refl _)
  |(rw[pcl_f (by assumption),pcl_f (by assumption),pcl_f (by assumption),pcl_f (by assumption)];exact Le.refl _)
def I66 (t:Nat→UInt8) (k:Nat):St:=⟨[(6,iv .i64 (k:Nat)),(5,.c (.agg (tl t))),(1,.c (.l (.p 0 0))),(2,.c (.l (.p 1 0)))],[(0,some ⟨tl (upTo k (clnT t) t),.t 38⟩),(1,some ⟨tl zT,.t 38⟩)],2,16,[3,2,1,0],(0)⟩
theorem qdiv0 (k:Nat):4*k / 4=k∧(4*k+1) / 4=k∧(4*k+2) / 4=k∧(4*k+3) / 4=k:=by omega
theorem cln_px (t:Nat→UInt8) (k:Nat):ag [u8 (pcl ((t (4*k+3)).toNat:Nat) ((t (4*k)).toNat:Nat)),u8 (pcl ((t (4*k+3)).toNat:Nat) ((t (4*k+1)).toNat:Nat)),u8 (pcl ((t (4*k+3)).toNat:Nat) ((t (4*k+2)).toNat:Nat)),u8 (pcl ((t (4*k+3)).toNat:Nat) ((t (4*k+3)).toNat:Nat))]=ag [ub ((clnT t) (4*k)),ub ((clnT t) (4*k+1)),ub ((clnT t) (4*k+2)),ub ((clnT t) (4*k+3))]:=by
 obtain ⟨h0,h1,h2,h3⟩:=qdiv0 k
 rw[pcb_pcl,pcb_pcl,pcb_pcl,pcb_pcl]
 unfold clnT
 rw[h0,h1,h2,h3]
def cz_R66 (t:Nat→UInt8) (k:Nat):Cz:={
 ct:=(fun f=>match f with
 |129=>some fun _ _S ar=>match ar with | [.c (.agg [.v (.int _ a),.v (.int _ b),.v (.int _ c),.v (.int _ e)])]=>some {v:=ag [u8 (pcl e a),u8 (pcl e b),u8 (pcl e c),u8 (pcl e e)],rd:=[],wr:=[],nw:=0}|_=>none
 |_=>none)
 eq:=(fun t=>match t with
 |_=>none)
 raw:=[],sym:=[0,9,13],nf:=[(9,.c (.agg [ub (t (4*k)),ub (t (4*k+1)),ub (t (4*k+2)),ub (t (4*k+3))])),(12,.c (.agg [ub ((clnT t) (4*k)),ub ((clnT t) (4*k+1)),ub ((clnT t) (4*k+2)),ub ((clnT t) (4*k+3))]))],ap:=true,off:=[],on:=[],lp:=fun _=>none,un:=0}
set_option maxRecDepth 100000 in
theorem R66 (t:Nat→UInt8) (k:Nat)  (K:Exit→St→Prop) (h:HB (decide ((Nat.cast k:Int)<64)) (InR ((Nat.cast k:Int)) 64∧Le (ag (List.take 4 (List.drop (((Nat.cast k:Int)).toNat*4) (tl t)))) (ag [Leaf.v (Value.int IntKind.u8 (Nat.cast ((t (4*k)).toNat):Int)),Leaf.v (Value.int IntKind.u8 (Nat.cast ((t (4*k+1)).toNat):Int)),Leaf.v (Value.int IntKind.u8 (Nat.cast ((t (4*k+2)).toNat):Int)),Leaf.v (Value.int IntKind.u8 (Nat.cast ((t (4*k+3)).toNat):Int))])∧4≤4∧CallOKd Tryz.prog 129 [] [ag [Leaf.v (Value.int IntKind.u8 (Nat.cast ((t (4*k)).toNat):Int)),Leaf.v (Value.int IntKind.u8 (Nat.cast ((t (4*k+1)).toNat):Int)),Leaf.v (Value.int IntKind.u8 (Nat.cast ((t (4*k+2)).toNat):Int)),Leaf.v (Value.int IntKind.u8 (Nat.cast ((t (4*k+3)).toNat):Int))]] [] 3 (ag [Leaf.v (Value.int IntKind.u8 (pcl (Nat.cast ((t (4*k+3)).toNat):Int) (Nat.cast ((t (4*k)).toNat):Int))),Leaf.v (Value.int IntKind.u8 (pcl (Nat.cast ((t (4*k+3)).toNat):Int) (Nat.cast ((t (4*k+1)).toNat):Int))),Leaf.v (Value.int IntKind.u8 (pcl (Nat.cast ((t (4*k+3)).toNat):Int) (Nat.cast ((t (4*k+2)).toNat):Int))),Leaf.v (Value.int IntKind.u8 (pcl (Nat.cast ((t (4*k+3)).toNat):Int) (Nat.cast ((t (4*k+3)).toNat):Int)))]) [] 0∧Le (ag [Leaf.v (Value.int IntKind.u8 (pcl (Nat.cast ((t (4*k+3)).toNat):Int) (Nat.cast ((t (4*k)).toNat):Int))),Leaf.v (Value.int IntKind.u8 (pcl (Nat.cast ((t (4*k+3)).toNat):Int) (Nat.cast ((t (4*k+1)).toNat):Int))),Leaf.v (Value.int IntKind.u8 (pcl (Nat.cast ((t (4*k+3)).toNat):Int) (Nat.cast ((t (4*k+2)).toNat):Int))),Leaf.v (Value.int IntKind.u8 (pcl (Nat.cast ((t (4*k+3)).toNat):Int) (Nat.cast ((t (4*k+3)).toNat):Int)))]) (ag [Leaf.v (Value.int IntKind.u8 (Nat.cast ((clnT t (4*k)).toNat):Int)),Leaf.v (Value.int IntKind.u8 (Nat.cast ((clnT t (4*k+1)).toNat):Int)),Leaf.v (Value.int IntKind.u8 (Nat.cast ((clnT t (4*k+2)).toNat):Int)),Leaf.v (Value.int IntKind.u8 (Nat.cast ((clnT t (4*k+3)).toNat):Int))])∧InR ((Nat.cast k:Int)) 64∧0+((Nat.cast k:Int)).toNat*4+4≤256∧IntKind.i64.wrap ((Nat.cast k:Int)+1)=(Nat.cast k:Int)+1∧RoundTo Tryz.prog ((getLoop 2 (Tryz.f66.body.getD Code.skip)).getD Code.skip) 2 (wkK 2 K) (St.mk [(1,SV.c (Cp.l (Leaf.p 0 0))),(2,SV.c (Cp.l (Leaf.p 1 0))),(5,ag (tl t)),(6,iv IntKind.i64 ((Nat.cast k:Int)+1))] [(0,some (Blk.mk (splice (tl (upTo k (clnT t) t)) (0+((Nat.cast k:Int)).toNat*4) [Leaf.v (Value.int IntKind.u8 (Nat.cast ((clnT t (4*k)).toNat):Int)),Leaf.v (Value.int IntKind.u8 (Nat.cast ((clnT t (4*k+1)).toNat):Int)),Leaf.v (Value.int IntKind.u8 (Nat.cast ((clnT t (4*k+2)).toNat):Int)),Leaf.v (Value.int IntKind.u8 (Nat.cast ((clnT t (4*k+3)).toNat):Int))]) (BT.t 38))),(1,some (Blk.mk (tl zT) (BT.t 38))),(2,some (Blk.mk [Leaf.v (Value.int IntKind.u8 (Nat.cast ((t (4*k)).toNat):Int)),Leaf.v (Value.int IntKind.u8 (Nat.cast ((t (4*k+1)).toNat):Int)),Leaf.v (Value.int IntKind.u8 (Nat.cast ((t (4*k+2)).toNat):Int)),Leaf.v (Value.int IntKind.u8 (Nat.cast ((t (4*k+3)).toNat):Int))] (BT.t 36)))] 3 16 [0,2,2,3,2,1,0] 0)) (wkK 2 K (Exit.exit 0) (St.mk [(1,SV.c (Cp.l (Leaf.p 0 0))),(2,SV.c (Cp.l (Leaf.p 1 0))),(5,ag (tl t)),(6,iv IntKind.i64 (Nat.cast k:Int))] [(0,some (Blk.mk (tl (upTo k (clnT t) t)) (BT.t 38))),(1,some (Blk.mk (tl zT) (BT.t 38))),(2,none)] 2 16 [3,2,1,0] 0))):WPL Tryz.prog ((getLoop 2 (Tryz.f66.body.getD .skip)).getD .skip) (I66 t k) (wkK 2 K):=
 wp_roundT [1,2,5,6] [0,1,2] (cx:=cz_R66 t k) rfl (of_eq (by kernel_rfl) h)
set_option maxRecDepth 100000 in
theorem L66 (t:Nat→UInt8)  : ∀(m k:Nat),64-k=m→k≤64→∀(K:Exit→St→Prop),K (.exit 0) (I66 t 64)→WPL Tryz.prog ((getLoop 2 (Tryz.f66.body.getD .skip)).getD .skip) (I66 t k) (wkK 2 K)
 |0,k,hm,hk,K,hK=>by
  have e:k=64:=by omega
  subst e
  refine R66 t _ K (HB.mk (fun hne=>absurd (of_decide_eq_true hne) (by omega)) (fun he=>?_))
  exact wkK.to (I66 t _) (Nat.le_refl _) (by kernel_rfl) (wkE_cons (LeN.sl (by kernel_rfl) rfl) (wkE_cons (LeN.sl (by kernel_rfl) rfl) (wkE_cons (LeN.sl (by kernel_rfl) rfl) (wkE_cons (LeN.sl (by kernel_rfl) rfl) trivial)))) (wkH_cons (BkN.blk (k:=⟨tl (upTo 64 (clnT t) t),.t 38⟩) (by kernel_rfl) (rfl) (by kernel_rfl)) (wkH_cons (BkN.blk (k:=⟨tl zT,.t 38⟩) (by kernel_rfl) (rfl) (by kernel_rfl)) trivial)) hK
 |m+1,k,hm,hk,K,hK=>by
  refine R66 t k K (HB.mk (fun hne=>?_) (fun he=>absurd (show ((k:Nat):Int)<(64:Nat) by omega) (of_decide_eq_false he)))
  have hlt:k<64:=by omega
  repeat' (first|exact trivial|with_reducible apply And.intro|(with_reducible apply HB.mk)|with_reducible intro _)
  all_goals first
   |(with_reducible exact C129 _ _ _ _ _)
   |(exact ⟨by omega,by omega⟩)
   |(refine Le.of ?_;rw[show (((k:Nat):Int)).toNat=k from rfl,tl_pix _ hlt];rfl)
   |(exact Le.of (cln_px t k))
   |(rw[show (((k:Nat):Int)).toNat=k from rfl];omega)
   |(refine RoundTo.to (I66 t (k+1)) (Nat.le_refl _) (by kernel_rfl) (wkE_cons (LeN.sl (by kernel_rfl) rfl) (wkE_cons (LeN.sl (by kernel_rfl) rfl) (wkE_cons (LeN.sl (by kernel_rfl) rfl) (wkE_cons (LeN.sl (by kernel_rfl) rfl) trivial)))) (wkH_cons (BkN.blk (k:=⟨splice (tl (upTo k (clnT t) t)) (0+k*4) [ub ((clnT t) (4*k)),ub ((clnT t) (4*k+1)),ub ((clnT t) (4*k+2)),ub ((clnT t) (4*k+3))],.t 38⟩) (by kernel_rfl) (by rw[Nat.zero_add,upTo_set k _ _ hlt]) (by kernel_rfl)) (wkH_cons (BkN.blk (k:=⟨tl zT,.t 38⟩) (by kernel_rfl) (rfl) (by kernel_rfl)) trivial)) (L66 t  m (k+1) (by omega) (by omega) K hK))
   |(exact okw _ (by omega) (by omega))
   |(simp_all [wants];done)
theorem enters66:Enters Tryz.prog 66:=fun args w=>by go_simp
def cz_C66 (t:Nat→UInt8):Cz:={
 ct:=(fun f=>match f with
 |129=>some fun _ _S ar=>match ar with | [.c (.agg [.v (.int _ a),.v (.int _ b),.v (.int _ c),.v (.int _ e)])]=>some {v:=ag [u8 (pcl e a),u8 (pcl e b),u8 (pcl e c),u8 (pcl e e)],rd:=[],wr:=[],nw:=0}|_=>none
 |_=>none)
 eq:=(fun t=>match t with
 |_=>none)
 raw:=[],sym:=[],nf:=[(5,.c (.agg (tl t)))],ap:=true,off:=[],on:=[],lp:=fun r=>match r with|2=>some (fun _ K=>K (.exit 0) (I66 t 64))|_=>none,un:=0}
set_option maxRecDepth 100000 in
set_option maxHeartbeats 400000 in
theorem C66 (t:Nat→UInt8)  (n:Nat):CallOK Tryz.prog 66 [.c (.agg (tl t))] [] n (.c (.agg (tl (clnT t)))) [] 0:=by
 refine CallOK.any ?_ (by kernel_rfl) (by kernel_rfl) n
 refine call_ok (cx:=cz_C66 t) (nm:=[]) rfl Tryz.func66 (body:=Tryz.f66.body.getD .skip) rfl enters66 (by kernel_rfl) ?_
 apply of_eq (q:=Le (ag (List.take 256 (tl t))) (ag (tl t))∧(LoopOK Tryz.prog ((getLoop 2 (Tryz.f66.body.getD .skip)).getD .skip) (St.mk [(6,iv IntKind.i64 0),(5,ag (tl t)),(2,SV.c (Cp.l (Leaf.p 1 0))),(1,SV.c (Cp.l (Leaf.p 0 0))),(0,ag (tl t))] [(1,some (Blk.mk zT256 (BT.t 38))),(0,some (Blk.mk (tl t) (BT.t 38)))] 2 16 [1,0] 0) fun K=>K (Exit.exit 0) (I66 t 64))∧Le (ag (tl (upTo 64 (clnT t) t))) (ag (tl (clnT t)))∧True) (by kernel_rfl)
 repeat' (first|exact trivial|with_reducible apply And.intro|(with_reducible apply HB.mk)|with_reducible intro _)
 all_goals first
  |(exact LoopOK.mk (I66 t 0) rfl (by kernel_rfl) (wkE_cons (LeN.sl (by kernel_rfl) rfl) (wkE_cons (LeN.sl (by kernel_rfl) rfl) (wkE_cons (LeN.sl (by kernel_rfl) rfl) (wkE_cons (LeN.sl (by kernel_rfl) rfl) trivial)))) (wkH_cons (BkN.blk (k:=⟨tl t,.t 38⟩) (by kernel_rfl) (by rw[upTo_none]) (by kernel_rfl)) (wkH_cons (BkN.blk (k:=⟨tl zT,.t 38⟩) (by kernel_rfl) (rfl) (by kernel_rfl)) trivial)) (fun K hT=>L66 t _ 0 rfl (by decide) K hT))
  |(exact Le.of (by kernel_rfl))
def ofI (n:Int):UInt8:=UInt8.ofNat n.toNat
def lsB (l:List Leaf):Nat→UInt8:=fun i=>match l[i]? with|some (.v (.int _ n))=>ofI n|_=>0
theorem ofI_nat (b:UInt8):ofI ((b.toNat:Nat):Int)=b:=by unfold ofI;simp
theorem lsB_tl (t:Nat→UInt8) {i:Nat} (h:i<256):lsB (tl t) i=t i:=by unfold lsB;rw[tl_at t h];exact ofI_nat _
theorem C66L (l:List Leaf) (t:Nat→UInt8) (h:l=tl t) (n:Nat):CallOK Tryz.prog 66 [.c (.agg l)] [] n (.c (.agg (tl (clnT (lsB l))))) [] 0:=by
 subst h
 have e:tl (clnT (lsB (tl t)))=tl (clnT t):=tl_ext fun i hi=>by unfold clnT;rw[lsB_tl t hi,lsB_tl t (by omega)]
 rw[e];exact C66 t n
theorem eq38L {xs ys:List Leaf} {t u:Nat→UInt8} (hx:xs=tl t) (hy:ys=tl u):EqOK Tryz.prog 38 xs ys (sameT (lsB xs) (lsB ys)):=by
 subst hx hy
 have:sameT (lsB (tl t)) (lsB (tl u))=sameT t u:=by
  rw[Bool.eq_iff_iff,sameT_iff,sameT_iff]
  constructor
  ·intro h i hi;have:=h i hi;rwa [lsB_tl t hi,lsB_tl u hi] at this
  ·intro h i hi;rw[lsB_tl t hi,lsB_tl u hi];exact h i hi
 rw[this];exact eq38 t u
def fillT (a b c e:UInt8):Nat→UInt8:=fun i=>match i % 4 with|0=>a|1=>b|2=>c|_=>e
theorem fill_px (a b c e:UInt8) (k:Nat):[ub a,ub b,ub c,ub e]=[ub ((fillT a b c e) (4*k)),ub ((fillT a b c e) (4*k+1)),ub ((fillT a b c e) (4*k+2)),ub ((fillT a b c e) (4*k+3))]:=by
 have h0:4*k % 4=0:=by omega
 have h1:(4*k+1) % 4=1:=by omega
 have h2:(4*k+2) % 4=2:=by omega
 have h3:(4*k+3) % 4=3:=by omega
 unfold fillT
 rw[h0,h1,h2,h3]
 rfl
def I146 (a b c e:UInt8) (k:Nat):St:=⟨[(4,iv .i64 (k:Nat)),(1,.c (.l (.p 0 0))),(2,.c (.l (.p 1 0)))],[(0,some ⟨[ub a,ub b,ub c,ub e],.t 36⟩),(1,some ⟨tl (upTo k (fillT a b c e) zT),.t 38⟩)],2,12,[1,0],(0)⟩
def cz_R146 (a b c e:UInt8) (k:Nat):Cz:={
 ct:=(fun f=>match f with
 |_=>none)
 eq:=(fun t=>match t with
 |_=>none)
 raw:=[],sym:=[0,9],nf:=[],ap:=true,off:=[],on:=[],lp:=fun _=>none,un:=0}
set_option maxRecDepth 100000 in
theorem R146 (a b c e:UInt8) (k:Nat)  (K:Exit→St→Prop) (h:HB (decide ((Nat.cast k:Int)<64)) (InR ((Nat.cast k:Int)) 64∧0+((Nat.cast k:Int)).toNat*4+4≤256∧IntKind.i64.wrap ((Nat.cast k:Int)+1)=(Nat.cast k:Int)+1∧RoundTo Tryz.prog ((getLoop 2 (Tryz.f146.body.getD Code.skip)).getD Code.skip) 2 (wkK 2 K) (St.mk [(1,SV.c (Cp.l (Leaf.p 0 0))),(2,SV.c (Cp.l (Leaf.p 1 0))),(4,iv IntKind.i64 ((Nat.cast k:Int)+1))] [(0,some (Blk.mk [Leaf.v (Value.int IntKind.u8 (Nat.cast a.toNat:Int)),Leaf.v (Value.int IntKind.u8 (Nat.cast b.toNat:Int)),Leaf.v (Value.int IntKind.u8 (Nat.cast c.toNat:Int)),Leaf.v (Value.int IntKind.u8 (Nat.cast e.toNat:Int))] (BT.t 36))),(1,some (Blk.mk (splice (tl (upTo k (fillT a b c e) zT)) (0+((Nat.cast k:Int)).toNat*4) [Leaf.v (Value.int IntKind.u8 (Nat.cast a.toNat:Int)),Leaf.v (Value.int IntKind.u8 (Nat.cast b.toNat:Int)),Leaf.v (Value.int IntKind.u8 (Nat.cast c.toNat:Int)),Leaf.v (Value.int IntKind.u8 (Nat.cast e.toNat:Int))]) (BT.t 38)))] 2 12 [1,1,0] 0)) (wkK 2 K (Exit.exit 0) (St.mk [(1,SV.c (Cp.l (Leaf.p 0 0))),(2,SV.c (Cp.l (Leaf.p 1 0))),(4,iv IntKind.i64 (Nat.cast k:Int))] [(0,some (Blk.mk [Leaf.v (Value.int IntKind.u8 (Nat.cast a.toNat:Int)),Leaf.v (Value.int IntKind.u8 (Nat.cast b.toNat:Int)),Leaf.v (Value.int IntKind.u8 (Nat.cast c.toNat:Int)),Leaf.v (Value.int IntKind.u8 (Nat.cast e.toNat:Int))] (BT.t 36))),(1,some (Blk.mk (tl (upTo k (fillT a b c e) zT)) (BT.t 38)))] 2 12 [1,0] 0))):WPL Tryz.prog ((getLoop 2 (Tryz.f146.body.getD .skip)).getD .skip) (I146 a b c e k) (wkK 2 K):=
 wp_roundT [1,2,4] [0,1] (cx:=cz_R146 a b c e k) rfl (of_eq (by kernel_rfl) h)
set_option maxRecDepth 100000 in
theorem L146 (a b c e:UInt8)  : ∀(m k:Nat),64-k=m→k≤64→∀(K:Exit→St→Prop),K (.exit 0) (I146 a b c e 64)→WPL Tryz.prog ((getLoop 2 (Tryz.f146.body.getD .skip)).getD .skip) (I146 a b c e k) (wkK 2 K)
 |0,k,hm,hk,K,hK=>by
  have e:k=64:=by omega
  subst e
  refine R146 a b c e _ K (HB.mk (fun hne=>absurd (of_decide_eq_true hne) (by omega)) (fun he=>?_))
  exact wkK.to (I146 a b c e _) (Nat.le_refl _) (by kernel_rfl) (wkE_cons (LeN.sl (by kernel_rfl) rfl) (wkE_cons (LeN.sl (by kernel_rfl) rfl) (wkE_cons (LeN.sl (by kernel_rfl) rfl) trivial))) (wkH_cons (BkN.blk (k:=⟨[ub a,ub b,ub c,ub e],.t 36⟩) (by kernel_rfl) (rfl) (by kernel_rfl)) (wkH_cons (BkN.blk (k:=⟨tl (upTo 64 (fillT a b c e) zT),.t 38⟩) (by kernel_rfl) (rfl) (by kernel_rfl)) trivial)) hK
 |m+1,k,hm,hk,K,hK=>by
  refine R146 a b c e k K (HB.mk (fun hne=>?_) (fun he=>absurd (show ((k:Nat):Int)<(64:Nat) by omega) (of_decide_eq_false he)))
  have hlt:k<64:=by omega
  repeat' (first|exact trivial|with_reducible apply And.intro|(with_reducible apply HB.mk)|with_reducible intro _)
  all_goals first
   |(exact ⟨by omega,by omega⟩)
   |(rw[show (((k:Nat):Int)).toNat=k from rfl];omega)
   |(refine RoundTo.to (I146 a b c e (k+1)) (Nat.le_refl _) (by kernel_rfl) (wkE_cons (LeN.sl (by kernel_rfl) rfl) (wkE_cons (LeN.sl (by kernel_rfl) rfl) (wkE_cons (LeN.sl (by kernel_rfl) rfl) trivial))) (wkH_cons (BkN.blk (k:=⟨[ub a,ub b,ub c,ub e],.t 36⟩) (by kernel_rfl) (rfl) (by kernel_rfl)) (wkH_cons (BkN.blk (k:=⟨splice (tl (upTo k (fillT a b c e) zT)) (0+k*4) [ub a,ub b,ub c,ub e],.t 38⟩) (by kernel_rfl) (by rw[Nat.zero_add,fill_px a b c e k,upTo_set k _ _ hlt]) (by kernel_rfl)) trivial)) (L146 a b c e  m (k+1) (by omega) (by omega) K hK))
   |(exact okw _ (by omega) (by omega))
theorem enters146:Enters Tryz.prog 146:=fun args w=>by go_simp
def cz_C146 (a b c e:UInt8):Cz:={
 ct:=(fun f=>match f with
 |_=>none)
 eq:=(fun t=>match t with
 |_=>none)
 raw:=[],sym:=[],nf:=[(11,.c (.agg (tl (fillT a b c e))))],ap:=true,off:=[],on:=[],lp:=fun r=>match r with|2=>some (fun _ K=>K (.exit 0) (I146 a b c e 64))|_=>none,un:=0}
set_option maxRecDepth 100000 in
set_option maxHeartbeats 400000 in
theorem C146 (a b c e:UInt8)  (n:Nat):CallOK Tryz.prog 146 [ag [ub a,ub b,ub c,ub e]] [] n (.c (.agg (tl (fillT a b c e)))) [] 0:=by
 refine CallOK.any ?_ (by kernel_rfl) (by kernel_rfl) n
 refine call_ok (cx:=cz_C146 a b c e) (nm:=[]) rfl Tryz.func146 (body:=Tryz.f146.body.getD .skip) rfl enters146 (by kernel_rfl) ?_
 apply of_eq (q:=(LoopOK Tryz.prog ((getLoop 2 (Tryz.f146.body.getD .skip)).getD .skip) (St.mk [(4,iv IntKind.i64 0),(2,SV.c (Cp.l (Leaf.p 1 0))),(1,SV.c (Cp.l (Leaf.p 0 0))),(0,ag [Leaf.v (Value.int IntKind.u8 (Nat.cast a.toNat:Int)),Leaf.v (Value.int IntKind.u8 (Nat.cast b.toNat:Int)),Leaf.v (Value.int IntKind.u8 (Nat.cast c.toNat:Int)),Leaf.v (Value.int IntKind.u8 (Nat.cast e.toNat:Int))])] [(1,some (Blk.mk zT256 (BT.t 38))),(0,some (Blk.mk [Leaf.v (Value.int IntKind.u8 (Nat.cast a.toNat:Int)),Leaf.v (Value.int IntKind.u8 (Nat.cast b.toNat:Int)),Leaf.v (Value.int IntKind.u8 (Nat.cast c.toNat:Int)),Leaf.v (Value.int IntKind.u8 (Nat.cast e.toNat:Int))] (BT.t 36)))] 2 12 [1,0] 0) fun K=>K (Exit.exit 0) (I146 a b c e 64))∧Le (ag (List.take 256 (tl (upTo 64 (fillT a b c e) zT)))) (ag (tl (fillT a b c e)))∧Le (ag (tl (fillT a b c e))) (ag (tl (fillT a b c e)))∧True) (by kernel_rfl)
 repeat' (first|exact trivial|with_reducible apply And.intro|(with_reducible apply HB.mk)|with_reducible intro _)
 all_goals first
  |(exact LoopOK.mk (I146 a b c e 0) rfl (by kernel_rfl) (wkE_cons (LeN.sl (by kernel_rfl) rfl) (wkE_cons (LeN.sl (by kernel_rfl) rfl) (wkE_cons (LeN.sl (by kernel_rfl) rfl) trivial))) (wkH_cons (BkN.blk (k:=⟨[ub a,ub b,ub c,ub e],.t 36⟩) (by kernel_rfl) (rfl) (by kernel_rfl)) (wkH_cons (BkN.blk (k:=⟨zT256,.t 38⟩) (by kernel_rfl) (by rw[upTo_none,zT256_eq]) (by kernel_rfl)) trivial)) (fun K hT=>L146 a b c e _ 0 rfl (by decide) K hT))
  |(refine Le.of ?_;rw[upTo_all];rfl)
  |(exact Le.of (by kernel_rfl))
theorem C146I (a b c e:UInt8) (n:Nat):CallOK Tryz.prog 146 [ag [ub a,ub b,ub c,ub e]] [] n (.c (.agg (tl (fillT (ofI (a.toNat:Nat)) (ofI (b.toNat:Nat)) (ofI (c.toNat:Nat)) (ofI (e.toNat:Nat)))))) [] 0:=by
 rw[ofI_nat,ofI_nat,ofI_nat,ofI_nat];exact C146 a b c e n
def zeroT (t:Nat→UInt8):Bool:=sameT (clnT t) zT
theorem tl_take (t:Nat→UInt8):List.take 256 (tl t)=tl t:=List.take_of_length_le (by rw[tl_len];exact Nat.le_refl _)
theorem sameT_congr {t t' u u':Nat→UInt8} (h:∀i,i<256→t i=t' i) (k:∀i,i<256→u i=u' i):sameT t u=sameT t' u':=by
 rw[Bool.eq_iff_iff,sameT_iff,sameT_iff]
 constructor
 ·intro q i hi;rw[←h i hi,←k i hi];exact q i hi
 ·intro q i hi;rw[h i hi,k i hi];exact q i hi
theorem cln_lsB (t:Nat→UInt8):tl (clnT (lsB (tl t)))=tl (clnT t):=tl_ext fun i hi=>by unfold clnT;rw[lsB_tl t hi,lsB_tl t (by omega)]
theorem same_lsB (t u:Nat→UInt8):sameT (lsB (tl t)) (lsB (tl u))=sameT t u:=sameT_congr (fun i hi=>lsB_tl t hi) (fun i hi=>lsB_tl u hi)
theorem same_lsB0 (t:Nat→UInt8):sameT (lsB (tl t)) (lsB zT256)=sameT t zT:=by rw[zT256_eq];exact same_lsB t zT
theorem enters108:Enters Tryz.prog 108:=fun args w=>by go_simp
def cz_C108 (t:Nat→UInt8):Cz:={
 ct:=(fun f=>match f with
 |66=>some fun _ _S ar=>match ar with | [.c (.agg l)]=>some {v:=.c (.agg (tl (clnT (lsB l)))),rd:=[],wr:=[],nw:=0}|_=>none
 |_=>none)
 eq:=(fun t=>match t with
 |38=>some (fun xs ys=>sameT (lsB xs) (lsB ys))
 |_=>none)
 raw:=[],sym:=[],nf:=[(3,.c (.agg (tl t))),(4,.c (.agg (tl (clnT t)))),(5,.c (.agg zT256)),(6,bv (zeroT t))],ap:=true,off:=[],on:=[],lp:=fun _=>none,un:=0}
set_option maxRecDepth 100000 in
set_option maxHeartbeats 400000 in
theorem C108 (t:Nat→UInt8)  (n:Nat):CallOK Tryz.prog 108 [.c (.agg (tl t))] [] n (bv (zeroT t)) [] 0:=by
 refine CallOK.any ?_ (by kernel_rfl) (by kernel_rfl) n
 refine call_ok (cx:=cz_C108 t) (nm:=[]) rfl Tryz.func108 (body:=Tryz.f108.body.getD .skip) rfl enters108 (by kernel_rfl) ?_
 apply of_eq (q:=Le (ag (List.take 256 (tl t))) (ag (tl t))∧CallOKd Tryz.prog 66 [] [ag (tl t)] [] 1 (ag (tl (clnT (lsB (tl t))))) [] 0∧Le (ag (tl (clnT (lsB (tl t))))) (ag (tl (clnT t)))∧Le (ag zT256) (ag zT256)∧EqOK Tryz.prog 38 (tl (clnT t)) zT256 (sameT (lsB (tl (clnT t))) (lsB zT256))∧Le (bv (sameT (lsB (tl (clnT t))) (lsB zT256))) (bv (zeroT t))∧Le (bv (zeroT t)) (bv (zeroT t))∧True) (by kernel_rfl)
 repeat' (first|exact trivial|with_reducible apply And.intro|(with_reducible apply HB.mk)|with_reducible intro _)
 all_goals first
  |(with_reducible exact Le.refl _)
  |((exact C66L _ _ rfl _))
  |(exact eq38L rfl zT256_eq)
  |(exact Le.of (by rw[cln_lsB]))
  |(exact Le.bool (same_lsB0 _))
  |(exact Le.of (by rw[tl_take]))
theorem C108L (l:List Leaf) (t:Nat→UInt8) (h:l=tl t) (n:Nat):CallOK Tryz.prog 108 [.c (.agg l)] [] n (bv (zeroT (lsB l))) [] 0:=by
 subst h
 have e:zeroT (lsB (tl t))=zeroT t:=sameT_congr (fun i hi=>by unfold clnT;rw[lsB_tl t hi,lsB_tl t (by omega)]) (fun i hi=>rfl)
 rw[e];exact C108 t n
def solT (t:Nat→UInt8):Bool:=sameT t (fillT (t 0) (t 1) (t 2) (t 3))
def solP (t:Nat→UInt8) (i:Nat):UInt8:=if solT t=true then t i else 0
theorem solP_t {t:Nat→UInt8} (h:(!solT t)=false):[ub (solP t 0),ub (solP t 1),ub (solP t 2),ub (solP t 3)]=[ub (t 0),ub (t 1),ub (t 2),ub (t 3)]:=by
 unfold solP;rw[if_pos (by simpa using h),if_pos (by simpa using h),if_pos (by simpa using h),if_pos (by simpa using h)]
theorem solP_f {t:Nat→UInt8} (h:(!solT t)=true):[ub (solP t 0),ub (solP t 1),ub (solP t 2),ub (solP t 3)]=[u8 0,u8 0,u8 0,u8 0]:=by
 unfold solP;rw[if_neg (by simpa using h),if_neg (by simpa using h),if_neg (by simpa using h),if_neg (by simpa using h)];rfl
theorem tl_first (t:Nat→UInt8):List.take 4 (tl t)=[ub (t 0),ub (t 1),ub (t 2),ub (t 3)]:=by have:=tl_pix t (k:=0) (by decide);simpa [px] using this
theorem enters111:Enters Tryz.prog 111:=fun args w=>by go_simp
def cz_C111 (t:Nat→UInt8):Cz:={
 ct:=(fun f=>match f with
 |146=>some fun _ _S ar=>match ar with | [.c (.agg [.v (.int _ a),.v (.int _ b),.v (.int _ c),.v (.int _ e)])]=>some {v:=.c (.agg (tl (fillT (ofI a) (ofI b) (ofI c) (ofI e)))),rd:=[],wr:=[],nw:=0}|_=>none
 |_=>none)
 eq:=(fun t=>match t with
 |38=>some (fun xs ys=>sameT (lsB xs) (lsB ys))
 |_=>none)
 raw:=[],sym:=[],nf:=[(4,.c (.agg (tl t))),(6,.c (.agg [ub (t 0),ub (t 1),ub (t 2),ub (t 3)])),(7,.c (.agg (tl (fillT (t 0) (t 1) (t 2) (t 3))))),(8,bv (!solT t)),(11,.c (.agg [ub (t 0),ub (t 1),ub (t 2),ub (t 3)]))],ap:=true,off:=[],on:=[],lp:=fun _=>none,un:=0}
set_option maxRecDepth 100000 in
set_option maxHeartbeats 400000 in
theorem C111 (t:Nat→UInt8)  (n:Nat):CallOK Tryz.prog 111 [.c (.agg (tl t))] [] n (.tup [.agg [ub (solP t 0),ub (solP t 1),ub (solP t 2),ub (solP t 3)],.l (.v (.bool (solT t)))]) [] 0:=by
 refine CallOK.any ?_ (by kernel_rfl) (by kernel_rfl) n
 refine call_ok (cx:=cz_C111 t) (nm:=[]) rfl Tryz.func111 (body:=Tryz.f111.body.getD .skip) rfl enters111 (by kernel_rfl) ?_
 apply of_eq (q:=Le (ag (List.take 256 (tl t))) (ag (tl t))∧Le (ag (List.take 4 (tl t))) (ag [Leaf.v (Value.int IntKind.u8 (Nat.cast ((t 0).toNat):Int)),Leaf.v (Value.int IntKind.u8 (Nat.cast ((t 1).toNat):Int)),Leaf.v (Value.int IntKind.u8 (Nat.cast ((t 2).toNat):Int)),Leaf.v (Value.int IntKind.u8 (Nat.cast ((t 3).toNat):Int))])∧CallOKd Tryz.prog 146 [] [ag [Leaf.v (Value.int IntKind.u8 (Nat.cast ((t 0).toNat):Int)),Leaf.v (Value.int IntKind.u8 (Nat.cast ((t 1).toNat):Int)),Leaf.v (Value.int IntKind.u8 (Nat.cast ((t 2).toNat):Int)),Leaf.v (Value.int IntKind.u8 (Nat.cast ((t 3).toNat):Int))]] [] 2 (ag (tl (fillT (ofI (Nat.cast ((t 0).toNat):Int)) (ofI (Nat.cast ((t 1).toNat):Int)) (ofI (Nat.cast ((t 2).toNat):Int)) (ofI (Nat.cast ((t 3).toNat):Int))))) [] 0∧Le (ag (tl (fillT (ofI (Nat.cast ((t 0).toNat):Int)) (ofI (Nat.cast ((t 1).toNat):Int)) (ofI (Nat.cast ((t 2).toNat):Int)) (ofI (Nat.cast ((t 3).toNat):Int))))) (ag (tl (fillT (t 0) (t 1) (t 2) (t 3))))∧EqOK Tryz.prog 38 (tl t) (tl (fillT (t 0) (t 1) (t 2) (t 3))) (sameT (lsB (tl t)) (lsB (tl (fillT (t 0) (t 1) (t 2) (t 3)))))∧Le (bv !sameT (lsB (tl t)) (lsB (tl (fillT (t 0) (t 1) (t 2) (t 3))))) (bv !solT t)∧HB (!solT t) (Le (SV.tup [Cp.agg [Leaf.v (Value.int IntKind.u8 0),Leaf.v (Value.int IntKind.u8 0),Leaf.v (Value.int IntKind.u8 0),Leaf.v (Value.int IntKind.u8 0)],Cp.l (lb false)]) (SV.tup [Cp.agg [Leaf.v (Value.int IntKind.u8 (Nat.cast ((solP t 0).toNat):Int)),Leaf.v (Value.int IntKind.u8 (Nat.cast ((solP t 1).toNat):Int)),Leaf.v (Value.int IntKind.u8 (Nat.cast ((solP t 2).toNat):Int)),Leaf.v (Value.int IntKind.u8 (Nat.cast ((solP t 3).toNat):Int))],Cp.l (lb (solT t))])∧True) (Le (ag (List.take 4 (tl t))) (ag [Leaf.v (Value.int IntKind.u8 (Nat.cast ((t 0).toNat):Int)),Leaf.v (Value.int IntKind.u8 (Nat.cast ((t 1).toNat):Int)),Leaf.v (Value.int IntKind.u8 (Nat.cast ((t 2).toNat):Int)),Leaf.v (Value.int IntKind.u8 (Nat.cast ((t 3).toNat):Int))])∧Le (SV.tup [Cp.agg [Leaf.v (Value.int IntKind.u8 (Nat.cast ((t 0).toNat):Int)),Leaf.v (Value.int IntKind.u8 (Nat.cast ((t 1).toNat):Int)),Leaf.v (Value.int IntKind.u8 (Nat.cast ((t 2).toNat):Int)),Leaf.v (Value.int IntKind.u8 (Nat.cast ((t 3).toNat):Int))],Cp.l (lb true)]) (SV.tup [Cp.agg [Leaf.v (Value.int IntKind.u8 (Nat.cast ((solP t 0).toNat):Int)),Leaf.v (Value.int IntKind.u8 (Nat.cast ((solP t 1).toNat):Int)),Leaf.v (Value.int IntKind.u8 (Nat.cast ((solP t 2).toNat):Int)),Leaf.v (Value.int IntKind.u8 (Nat.cast ((solP t 3).toNat):Int))],Cp.l (lb (solT t))])∧True)) (by kernel_rfl)
 repeat' (first|exact trivial|with_reducible apply And.intro|(with_reducible apply HB.mk)|with_reducible intro _)
 all_goals first
  |((exact C146I _ _ _ _ _))
  |(exact eq38L rfl rfl)
  |(exact Le.of (by rw[tl_take]))
  |(refine Le.of ?_;rw[ofI_nat,ofI_nat,ofI_nat,ofI_nat])
  |(refine Le.bool ?_;rw[same_lsB];rfl)
  |(refine Le.of ?_;rw[tl_first])
  |(refine Le.of ?_;rw[solP_f (by assumption),show solT t=false by simpa using (by assumption:(!solT t)=true)])
  |(refine Le.of ?_;rw[solP_t (by assumption),show solT t=true by simpa using (by assumption:(!solT t)=false)])
end Ab
end Go.Proofs.YtpdckpifhniioaaGreat
end
