/- Part 15 of what CodecPacks rests on. -/
import Derived.Test.YtpdckpifhniioaaGreatVn
section
set_option linter.unusedVariables false
set_option linter.unusedSimpArgs false
namespace Go.Proofs.YtpdckpifhniioaaGreat
open Go.RowKit
namespace Ab
def I122 (t:Nat→UInt8) (k:Nat):St:=⟨[(3,iv .i64 (k:Nat)),(1,.c (.l (.p 0 0))),(2,.c (.l (.p 1 0)))],[(0,some ⟨tl (upTo k (clnT t) t),.t 38⟩),(1,some ⟨tl zT,.t 38⟩)],2,15,[1,0],(0)⟩
theorem upTo_px (t:Nat→UInt8) {k:Nat} (hk:k<64):List.take 4 (List.drop (0+k*4) (tl (upTo k (clnT t) t)))=[ub (t (4*k)),ub (t (4*k+1)),ub (t (4*k+2)),ub (t (4*k+3))]:=by
 rw[Nat.zero_add,tl_pix _ hk]
 unfold px upTo
 rw[if_neg (by omega),if_neg (by omega),if_neg (by omega),if_neg (by omega)]
def cz_R122 (t:Nat→UInt8) (k:Nat):Cz:={
 ct:=(fun f=>match f with
 |100=>some fun _ _S ar=>match ar with | [.c (.agg [.v (.int _ a),.v (.int _ b),.v (.int _ c),.v (.int _ e)])]=>some {v:=ag [u8 (pcl e a),u8 (pcl e b),u8 (pcl e c),u8 (pcl e e)],rd:=[],wr:=[],nw:=0}|_=>none
 |_=>none)
 eq:=(fun t=>match t with
 |_=>none)
 raw:=[],sym:=[0,10,11,13],nf:=[(11,.c (.agg [ub (t (4*k)),ub (t (4*k+1)),ub (t (4*k+2)),ub (t (4*k+3))])),(12,.c (.agg [ub ((clnT t) (4*k)),ub ((clnT t) (4*k+1)),ub ((clnT t) (4*k+2)),ub ((clnT t) (4*k+3))]))],ap:=true,off:=[],on:=[],lp:=fun _=>none,un:=0}
set_option maxRecDepth 100000 in
theorem R122 (t:Nat→UInt8) (k:Nat)  (K:Exit→St→Prop) (h:HB (decide ((Nat.cast k:Int)<64)) (InR ((Nat.cast k:Int)) 64∧0+((Nat.cast k:Int)).toNat*4+4≤256∧Le (ag (List.take 4 (List.drop (0+((Nat.cast k:Int)).toNat*4) (tl (upTo k (clnT t) t))))) (ag [Leaf.v (Value.int IntKind.u8 (Nat.cast ((t (4*k)).toNat):Int)),Leaf.v (Value.int IntKind.u8 (Nat.cast ((t (4*k+1)).toNat):Int)),Leaf.v (Value.int IntKind.u8 (Nat.cast ((t (4*k+2)).toNat):Int)),Leaf.v (Value.int IntKind.u8 (Nat.cast ((t (4*k+3)).toNat):Int))])∧CallOKd Tryz.prog 100 [] [ag [Leaf.v (Value.int IntKind.u8 (Nat.cast ((t (4*k)).toNat):Int)),Leaf.v (Value.int IntKind.u8 (Nat.cast ((t (4*k+1)).toNat):Int)),Leaf.v (Value.int IntKind.u8 (Nat.cast ((t (4*k+2)).toNat):Int)),Leaf.v (Value.int IntKind.u8 (Nat.cast ((t (4*k+3)).toNat):Int))]] [] 2 (ag [Leaf.v (Value.int IntKind.u8 (pcl (Nat.cast ((t (4*k+3)).toNat):Int) (Nat.cast ((t (4*k)).toNat):Int))),Leaf.v (Value.int IntKind.u8 (pcl (Nat.cast ((t (4*k+3)).toNat):Int) (Nat.cast ((t (4*k+1)).toNat):Int))),Leaf.v (Value.int IntKind.u8 (pcl (Nat.cast ((t (4*k+3)).toNat):Int) (Nat.cast ((t (4*k+2)).toNat):Int))),Leaf.v (Value.int IntKind.u8 (pcl (Nat.cast ((t (4*k+3)).toNat):Int) (Nat.cast ((t (4*k+3)).toNat):Int)))]) [] 0∧Le (ag [Leaf.v (Value.int IntKind.u8 (pcl (Nat.cast ((t (4*k+3)).toNat):Int) (Nat.cast ((t (4*k)).toNat):Int))),Leaf.v (Value.int IntKind.u8 (pcl (Nat.cast ((t (4*k+3)).toNat):Int) (Nat.cast ((t (4*k+1)).toNat):Int))),Leaf.v (Value.int IntKind.u8 (pcl (Nat.cast ((t (4*k+3)).toNat):Int) (Nat.cast ((t (4*k+2)).toNat):Int))),Leaf.v (Value.int IntKind.u8 (pcl (Nat.cast ((t (4*k+3)).toNat):Int) (Nat.cast ((t (4*k+3)).toNat):Int)))]) (ag [Leaf.v (Value.int IntKind.u8 (Nat.cast ((clnT t (4*k)).toNat):Int)),Leaf.v (Value.int IntKind.u8 (Nat.cast ((clnT t (4*k+1)).toNat):Int)),Leaf.v (Value.int IntKind.u8 (Nat.cast ((clnT t (4*k+2)).toNat):Int)),Leaf.v (Value.int IntKind.u8 (Nat.cast ((clnT t (4*k+3)).toNat):Int))])∧InR ((Nat.cast k:Int)) 64∧0+((Nat.cast k:Int)).toNat*4+4≤256∧IntKind.i64.wrap ((Nat.cast k:Int)+1)=(Nat.cast k:Int)+1∧RoundTo Tryz.prog ((getLoop 2 (Tryz.f122.body.getD Code.skip)).getD Code.skip) 2 (wkK 2 K) (St.mk [(1,SV.c (Cp.l (Leaf.p 0 0))),(2,SV.c (Cp.l (Leaf.p 1 0))),(3,iv IntKind.i64 ((Nat.cast k:Int)+1))] [(0,some (Blk.mk (splice (tl (upTo k (clnT t) t)) (0+((Nat.cast k:Int)).toNat*4) [Leaf.v (Value.int IntKind.u8 (Nat.cast ((clnT t (4*k)).toNat):Int)),Leaf.v (Value.int IntKind.u8 (Nat.cast ((clnT t (4*k+1)).toNat):Int)),Leaf.v (Value.int IntKind.u8 (Nat.cast ((clnT t (4*k+2)).toNat):Int)),Leaf.v (Value.int IntKind.u8 (Nat.cast ((clnT t (4*k+3)).toNat):Int))]) (BT.t 38))),(1,some (Blk.mk (tl zT) (BT.t 38)))] 2 15 [0,1,0] 0)) (wkK 2 K (Exit.exit 0) (St.mk [(1,SV.c (Cp.l (Leaf.p 0 0))),(2,SV.c (Cp.l (Leaf.p 1 0))),(3,iv IntKind.i64 (Nat.cast k:Int))] [(0,some (Blk.mk (tl (upTo k (clnT t) t)) (BT.t 38))),(1,some (Blk.mk (tl zT) (BT.t 38)))] 2 15 [1,0] 0))):WPL Tryz.prog ((getLoop 2 (Tryz.f122.body.getD .skip)).getD .skip) (I122 t k) (wkK 2 K):=
 wp_roundT [1,2,3] [0,1] (cx:=cz_R122 t k) rfl (of_eq (by kernel_rfl) h)
set_option maxRecDepth 100000 in
set_option maxHeartbeats 4000000 in
theorem L122 (t:Nat→UInt8)  : ∀(m k:Nat),64-k=m→k≤64→∀(K:Exit→St→Prop),K (.exit 0) (I122 t 64)→WPL Tryz.prog ((getLoop 2 (Tryz.f122.body.getD .skip)).getD .skip) (I122 t k) (wkK 2 K)
 |0,k,hm,hk,K,hK=>by
  have e:k=64:=by omega
  subst e
  refine R122 t _ K (HB.mk (fun hne=>absurd (of_decide_eq_true hne) (by omega)) (fun he=>?_))
  exact wkK.to (I122 t _) (Nat.le_refl _) (by kernel_rfl) (wkE_cons (LeN.sl (by kernel_rfl) rfl) (wkE_cons (LeN.sl (by kernel_rfl) rfl) (wkE_cons (LeN.sl (by kernel_rfl) rfl) trivial))) (wkH_cons (BkN.plain (cs:=tl (upTo 64 (clnT t) t)) (b:=.t 38) (by kernel_rfl) (rfl) (plain_tl _) (by kernel_rfl)) (wkH_cons (BkN.plain (cs:=tl zT) (b:=.t 38) (by kernel_rfl) (rfl) (plain_tl _) (by kernel_rfl)) trivial)) hK
 |m+1,k,hm,hk,K,hK=>by
  refine R122 t k K (HB.mk (fun hne=>?_) (fun he=>absurd (show ((k:Nat):Int)<(64:Nat) by omega) (of_decide_eq_false he)))
  have hlt:k<64:=by omega
  repeat' (first|exact trivial|with_reducible apply And.intro|(with_reducible apply HB.mk)|with_reducible intro _)
  all_goals first
   |(with_reducible exact C100 _ _ _ _ _)
   |(exact ⟨by omega,by omega⟩)
   |(omega)
   |(exact Le.of (congrArg (fun l=>SV.c (.agg l)) (upTo_px t hlt)))
   |(exact Le.of (cln_px t k))
   |((with_reducible refine RoundTo.toN 2 (I122 t (k+1)) ?_ ?_ ?_ ?_ ?_);exact Nat.le_refl _;kernel_rfl;exact (wkE_cons (LeN.sl (by kernel_rfl) rfl) (wkE_cons (LeN.sl (by kernel_rfl) rfl) (wkE_cons (LeN.sl (by kernel_rfl) rfl) trivial)));exact (wkH_cons (BkN.plain (cs:=splice (tl (upTo k (clnT t) t)) (0+k*4) [ub ((clnT t) (4*k)),ub ((clnT t) (4*k+1)),ub ((clnT t) (4*k+2)),ub ((clnT t) (4*k+3))]) (b:=.t 38) (by kernel_rfl) (by rw[Nat.zero_add,upTo_set k _ _ hlt]) (plain_tl _) (by kernel_rfl)) (wkH_cons (BkN.plain (cs:=tl zT) (b:=.t 38) (by kernel_rfl) (rfl) (plain_tl _) (by kernel_rfl)) trivial));exact (L122 t  m (k+1) (by omega) (by omega) K hK))
   |(exact okw _ (by omega) (by omega))
theorem enters122:Enters Tryz.prog 122:=fun args w=>by go_simp
def cz_C122 (t:Nat→UInt8):Cz:={
 ct:=(fun f=>match f with
 |100=>some fun _ _S ar=>match ar with | [.c (.agg [.v (.int _ a),.v (.int _ b),.v (.int _ c),.v (.int _ e)])]=>some {v:=ag [u8 (pcl e a),u8 (pcl e b),u8 (pcl e c),u8 (pcl e e)],rd:=[],wr:=[],nw:=0}|_=>none
 |_=>none)
 eq:=(fun t=>match t with
 |_=>none)
 raw:=[],sym:=[],nf:=[(14,.c (.agg (tl (clnT t))))],ap:=true,off:=[],on:=[],lp:=fun r=>match r with|2=>some (fun _ K=>K (.exit 0) (I122 t 64))|_=>none,un:=0,wh:=[38]}
set_option maxRecDepth 100000 in
set_option maxHeartbeats 400000 in
theorem C122 (t:Nat→UInt8)  (n:Nat):CallOK Tryz.prog 122 [.c (.agg (tl t))] [] n (.c (.agg (tl (clnT t)))) [] 0:=by
 refine CallOK.any ?_ (by kernel_rfl) (by kernel_rfl) n
 refine call_ok (cx:=cz_C122 t) (nm:=[]) rfl Tryz.func122 (body:=Tryz.f122.body.getD .skip) rfl enters122 (by kernel_rfl) ?_
 apply of_eq (q:=(LoopOK Tryz.prog ((getLoop 2 (Tryz.f122.body.getD .skip)).getD .skip) (St.mk [(3,iv IntKind.i64 0),(2,SV.c (Cp.l (Leaf.p 1 0))),(1,SV.c (Cp.l (Leaf.p 0 0))),(0,ag (tl t))] [(1,some (Blk.mk zT256 (BT.t 38))),(0,some (Blk.mk (tl t) (BT.t 38)))] 2 15 [1,0] 0) fun K=>K (Exit.exit 0) (I122 t 64))∧Le (ag (List.take 256 (tl (upTo 64 (clnT t) t)))) (ag (tl (clnT t)))∧0=0∧256=256∧Le (ag (tl (clnT t))) (ag (tl (clnT t)))∧True) (by kernel_rfl)
 repeat' (first|exact trivial|with_reducible apply And.intro|(with_reducible apply HB.mk)|with_reducible intro _)
 all_goals first
  |(with_reducible rfl)
  |(exact LoopOK.mk (I122 t 0) rfl (by kernel_rfl) (wkE_cons (LeN.sl (by kernel_rfl) rfl) (wkE_cons (LeN.sl (by kernel_rfl) rfl) (wkE_cons (LeN.sl (by kernel_rfl) rfl) trivial))) (wkH_cons (BkN.plain (cs:=tl t) (b:=.t 38) (by kernel_rfl) (by rw[upTo_none]) (plain_tl _) (by kernel_rfl)) (wkH_cons (BkN.plain (cs:=zT256) (b:=.t 38) (by kernel_rfl) (zT256_eq) (plain_tl _) (by kernel_rfl)) trivial)) (fun K hT=>L122 t  _ 0 rfl (by first|decide|omega) K hT))
  |(refine Le.of ?_;rw[upTo_all,tl_take])
  |(exact Le.of (by kernel_rfl))
theorem C122L (l:List Leaf) (t:Nat→UInt8) (h:l=tl t) (n:Nat):CallOK Tryz.prog 122 [.c (.agg l)] [] n (.c (.agg (tl (clnT (lsB l))))) [] 0:=by
 subst h
 rw[cln_lsB];exact C122 t n
def I44 (t:Nat→UInt8) (k:Nat):St:=⟨[(3,iv .i64 (k:Nat)),(1,.c (.l (.p 0 0)))],[(0,some ⟨tl t,.t 38⟩)],1,13,[0],(0)⟩
def Q44 (t:Nat→UInt8):St:=⟨[(2,bv false)],[(0,some ⟨tl t,.t 38⟩)],1,13,[0],(0)⟩
theorem tl_a (t:Nat→UInt8) {k:Nat} (hk:k<64):(tl t).getD (0+((k:Nat):Int).toNat*4+3) .u=ub (t (4*k+3)):=by
 rw[show 0+((k:Nat):Int).toNat*4+3=4*k+3 by omega,tl_getD t (by omega)]
theorem a_yes {b:UInt8} (h:(((b.toNat:Nat):Int) != 0)=false):decide (b=0)=true:=by
 have:((b.toNat:Nat):Int)=0:=by simpa using h
 exact decide_eq_true (UInt8.toNat_inj.1 (by simpa using this))
theorem a_no {b:UInt8} (h:(((b.toNat:Nat):Int) != 0)=true):decide (b=0)=false:=by
 refine decide_eq_false fun e=>?_
 subst e
 exact absurd h (by decide)
theorem zero_iff (t:Nat→UInt8):zeroT t=true↔∀j,j<64→decide (t (4*j+3)=0)=true:=by
 unfold zeroT
 rw[sameT_iff]
 constructor
 ·intro h j hj
  have:=h (4*j+3) (by omega)
  unfold clnT pcb zT at this
  rw[show (4*j+3) / 4=j by omega] at this
  refine decide_eq_true ?_
  by_cases e:t (4*j+3)=0
  ·exact e
  ·rwa [if_neg e] at this
 ·intro h i hi
  unfold clnT pcb zT
  rw[if_pos (of_decide_eq_true (h (i / 4) (by omega)))]
theorem zero_no {t:Nat→UInt8} {j:Nat} (hj:j<64) (h:decide (t (4*j+3)=0)=false):zeroT t=false:=by
 cases e:zeroT t with
 |false=>rfl
 |true=>rw[(zero_iff t).1 e j hj] at h;cases h
def cz_R44 (t:Nat→UInt8) (k:Nat):Cz:={
 ct:=(fun f=>match f with
 |_=>none)
 eq:=(fun t=>match t with
 |_=>none)
 raw:=[],sym:=[9,11],nf:=[(11,iv .u8 ((t (4*k+3)).toNat:Nat))],ap:=true,off:=[],on:=[],lp:=fun _=>none,un:=0}
set_option maxRecDepth 100000 in
theorem R44 (t:Nat→UInt8) (k:Nat)  (K:Exit→St→Prop) (h:HB (decide ((Nat.cast k:Int)<64)) (InR ((Nat.cast k:Int)) 64∧0+((Nat.cast k:Int)).toNat*4+3<256∧Le (SV.c (Cp.l ((tl t).getD (0+((Nat.cast k:Int)).toNat*4+3) Leaf.u))) (iv IntKind.u8 (Nat.cast ((t (4*k+3)).toNat):Int))∧HB ((Nat.cast ((t (4*k+3)).toNat):Int) != 0) (wkK 1 K Exit.ret (St.mk [(1,SV.c (Cp.l (Leaf.p 0 0))),(2,bv false),(3,iv IntKind.i64 (Nat.cast k:Int))] [(0,some (Blk.mk (tl t) (BT.t 38)))] 1 13 [0] 0)) (IntKind.i64.wrap ((Nat.cast k:Int)+1)=(Nat.cast k:Int)+1∧RoundTo Tryz.prog ((getLoop 2 (Tryz.f44.body.getD Code.skip)).getD Code.skip) 1 (wkK 1 K) (St.mk [(1,SV.c (Cp.l (Leaf.p 0 0))),(2,SV.u),(3,iv IntKind.i64 ((Nat.cast k:Int)+1))] [(0,some (Blk.mk (tl t) (BT.t 38)))] 1 13 [0] 0))) (wkK 1 K (Exit.exit 0) (St.mk [(1,SV.c (Cp.l (Leaf.p 0 0))),(2,SV.u),(3,iv IntKind.i64 (Nat.cast k:Int))] [(0,some (Blk.mk (tl t) (BT.t 38)))] 1 13 [0] 0))):WPL Tryz.prog ((getLoop 2 (Tryz.f44.body.getD .skip)).getD .skip) (I44 t k) (wkK 1 K):=
 wp_roundT [1,2,3] [0] (cx:=cz_R44 t k) rfl (of_eq (by kernel_rfl) h)
set_option maxRecDepth 100000 in
set_option maxHeartbeats 4000000 in
theorem L44 (t:Nat→UInt8)  : ∀(m k:Nat),64-k=m→k≤64→(∀j,j<k→decide (t (4*j+3)=0)=true)→∀(K:Exit→St→Prop),((∀j,j<64→decide (t (4*j+3)=0)=true)→K (.exit 0) (I44 t 64))→(∀j,j<64→decide (t (4*j+3)=0)=false→K .ret (Q44 t))→WPL Tryz.prog ((getLoop 2 (Tryz.f44.body.getD .skip)).getD .skip) (I44 t k) (wkK 1 K)
 |0,k,hm,hk,hall,K,hK,hR=>by
  have e:k=64:=by omega
  subst e
  refine R44 t _ K (HB.mk (fun hne=>absurd (of_decide_eq_true hne) (by omega)) (fun he=>?_))
  exact wkK.to (I44 t _) (Nat.le_refl _) (by kernel_rfl) (wkE_cons (LeN.sl (by kernel_rfl) rfl) (wkE_cons (LeN.sl (by kernel_rfl) rfl) trivial)) (wkH_cons (BkN.plain (cs:=tl t) (b:=.t 38) (by kernel_rfl) (rfl) (plain_tl _) (by kernel_rfl)) trivial) (hK hall)
 |m+1,k,hm,hk,hall,K,hK,hR=>by
  refine R44 t k K (HB.mk (fun hne=>?_) (fun he=>absurd (show ((k:Nat):Int)<(64:Nat) by omega) (of_decide_eq_false he)))
  have hlt:k<64:=by omega
  repeat' (first|exact trivial|with_reducible apply And.intro|(with_reducible apply HB.mk)|with_reducible intro _)
  all_goals first
   |(exact ⟨by omega,by omega⟩)
   |(omega)
   |(exact Le.of (congrArg (fun l=>SV.c (.l l)) (tl_a t hlt)))
   |(have hcnd:((((t (4*k+3)).toNat:Nat):Int) != 0)=false:=(by with_reducible assumption);(with_reducible refine RoundTo.toN 1 (I44 t (k+1)) ?_ ?_ ?_ ?_ ?_);exact Nat.le_refl _;kernel_rfl;exact (wkE_cons (LeN.sl (by kernel_rfl) rfl) (wkE_cons (LeN.sl (by kernel_rfl) rfl) trivial));exact (wkH_cons (BkN.plain (cs:=tl t) (b:=.t 38) (by kernel_rfl) (rfl) (plain_tl _) (by kernel_rfl)) trivial);exact (L44 t  m (k+1) (by omega) (by omega) (fun j hj=>by rcases Nat.lt_or_ge j k with h|h;exact hall j h;have e:j=k:=(by omega);subst e;exact a_yes hcnd) K hK hR))
   |(exact wkK.to (Q44 t) (Nat.le_refl _) (by kernel_rfl) (wkE_cons (LeN.sl (by kernel_rfl) rfl) trivial) (wkH_cons (BkN.plain (cs:=tl t) (b:=.t 38) (by kernel_rfl) (rfl) (plain_tl _) (by kernel_rfl)) trivial) (hR k hlt (a_no (by with_reducible assumption))))
   |(exact okw _ (by omega) (by omega))
theorem enters44:Enters Tryz.prog 44:=fun args w=>by go_simp
def cz_C44 (t:Nat→UInt8):Cz:={
 ct:=(fun f=>match f with
 |_=>none)
 eq:=(fun t=>match t with
 |_=>none)
 raw:=[],sym:=[],nf:=[],ap:=true,off:=[],on:=[],lp:=fun r=>match r with|2=>some (fun _ K=>((∀j,j<64→decide (t (4*j+3)=0)=true)→K (.exit 0) (I44 t 64))∧(∀j,j<64→decide (t (4*j+3)=0)=false→K .ret (Q44 t)))|_=>none,un:=0}
set_option maxRecDepth 100000 in
set_option maxHeartbeats 400000 in
theorem C44 (t:Nat→UInt8)  (n:Nat):CallOK Tryz.prog 44 [.c (.agg (tl t))] [] n (bv (zeroT t)) [] 0:=by
 refine CallOK.any ?_ (by kernel_rfl) (by kernel_rfl) n
 refine call_ok (cx:=cz_C44 t) (nm:=[]) rfl Tryz.func44 (body:=Tryz.f44.body.getD .skip) rfl enters44 (by kernel_rfl) ?_
 apply of_eq (q:=(LoopOK Tryz.prog ((getLoop 2 (Tryz.f44.body.getD .skip)).getD .skip) (St.mk [(3,iv IntKind.i64 0),(2,bv false),(1,SV.c (Cp.l (Leaf.p 0 0))),(0,ag (tl t))] [(0,some (Blk.mk (tl t) (BT.t 38)))] 1 13 [0] 0) fun K=>((∀(j:Nat),j<64→decide (t (4*j+3)=0)=true)→K (Exit.exit 0) (I44 t 64))∧∀(j:Nat),j<64→decide (t (4*j+3)=0)=false→K Exit.ret (Q44 t))∧((∀(j:Nat),j<64→decide (t (4*j+3)=0)=true)→Le (bv true) (bv (zeroT t))∧True)∧∀(j:Nat),j<64→decide (t (4*j+3)=0)=false→Le (bv false) (bv (zeroT t))∧True) (by kernel_rfl)
 repeat' (first|exact trivial|with_reducible apply And.intro|(with_reducible apply HB.mk)|with_reducible intro _)
 all_goals first
  |(exact LoopOK.mk (I44 t 0) rfl (by kernel_rfl) (wkE_cons (LeN.sl (by kernel_rfl) rfl) (wkE_cons (LeN.sl (by kernel_rfl) rfl) trivial)) (wkH_cons (BkN.plain (cs:=tl t) (b:=.t 38) (by kernel_rfl) (rfl) (plain_tl _) (by kernel_rfl)) trivial) (fun K hT=>L44 t _ 0 rfl (by decide) (fun j hj=>absurd hj (Nat.not_lt_zero j)) K hT.1 hT.2))
  |(exact Le.bool ((zero_iff t).2 ‹_›).symm)
  |(exact Le.bool (zero_no ‹_› ‹_›).symm)
theorem C44L (l:List Leaf) (t:Nat→UInt8) (h:l=tl t) (n:Nat):CallOK Tryz.prog 44 [.c (.agg l)] [] n (bv (zeroT (lsB l))) [] 0:=by
 subst h
 have e:zeroT (lsB (tl t))=zeroT t:=sameT_congr (fun i hi=>by unfold clnT;rw[lsB_tl t hi,lsB_tl t (by omega)]) (fun i hi=>rfl)
 rw[e];exact C44 t n
theorem zeroT_lsB (t:Nat→UInt8):zeroT (lsB (tl t))=zeroT t:=sameT_congr (fun i hi=>by unfold clnT;rw[lsB_tl t hi,lsB_tl t (by omega)]) (fun i hi=>rfl)
def pq (xs ys:List Leaf):Bool:=decide (lsB xs 0=lsB ys 0∧lsB xs 1=lsB ys 1∧lsB xs 2=lsB ys 2∧lsB xs 3=lsB ys 3)
theorem lsB4 (a b c e:UInt8):lsB [ub a,ub b,ub c,ub e] 0=a∧lsB [ub a,ub b,ub c,ub e] 1=b∧lsB [ub a,ub b,ub c,ub e] 2=c∧lsB [ub a,ub b,ub c,ub e] 3=e:=⟨ofI_nat a,ofI_nat b,ofI_nat c,ofI_nat e⟩
theorem eq36L (a b c e a' b' c' e':UInt8):EqOK Tryz.prog 36 [ub a,ub b,ub c,ub e] [ub a',ub b',ub c',ub e'] (pq [ub a,ub b,ub c,ub e] [ub a',ub b',ub c',ub e']):=by
 unfold pq
 obtain ⟨h0,h1,h2,h3⟩:=lsB4 a b c e
 obtain ⟨k0,k1,k2,k3⟩:=lsB4 a' b' c' e'
 rw[h0,h1,h2,h3,k0,k1,k2,k3]
 exact eq36 a b c e a' b' c' e'
def I121 (t u:Nat→UInt8) (k:Nat):St:=⟨[(5,iv .i64 (k:Nat)),(2,.c (.l (.p 0 0))),(3,.c (.l (.p 1 0)))],[(0,some ⟨tl t,.t 38⟩),(1,some ⟨tl u,.t 38⟩)],2,17,[1,0],(0)⟩
def Q121 (t u:Nat→UInt8):St:=⟨[(4,bv false)],[(0,some ⟨tl t,.t 38⟩),(1,some ⟨tl u,.t 38⟩)],2,17,[1,0],(0)⟩
def pe (t u:Nat→UInt8) (j:Nat):Bool:=decide (t (4*j)=u (4*j)∧t (4*j+1)=u (4*j+1)∧t (4*j+2)=u (4*j+2)∧t (4*j+3)=u (4*j+3))
theorem same_iff (t u:Nat→UInt8):sameT t u=true↔∀j,j<64→pe t u j=true:=by
 rw[sameT_iff]
 constructor
 ·intro h j hj
  exact decide_eq_true ⟨h _ (by omega),h _ (by omega),h _ (by omega),h _ (by omega)⟩
 ·intro h i hi
  obtain ⟨a,b,c,d⟩:=of_decide_eq_true (h (i / 4) (by omega))
  have:i=4*(i / 4)+i % 4:=by omega
  have h4:i % 4<4:=by omega
  generalize i / 4=q at *
  match hm:i % 4,h4 with
  |0,_=>rw[this,hm];exact a
  |1,_=>rw[this,hm];exact b
  |2,_=>rw[this,hm];exact c
  |3,_=>rw[this,hm];exact d
theorem same_no {t u:Nat→UInt8} {j:Nat} (hj:j<64) (h:pe t u j=false):sameT t u=false:=by
 cases e:sameT t u with
 |false=>rfl
 |true=>rw[(same_iff t u).1 e j hj] at h;cases h
theorem pq_pe (t u:Nat→UInt8) (k:Nat):pq [ub (t (4*k)),ub (t (4*k+1)),ub (t (4*k+2)),ub (t (4*k+3))] [ub (u (4*k)),ub (u (4*k+1)),ub (u (4*k+2)),ub (u (4*k+3))]=pe t u k:=by
 unfold pq pe
 obtain ⟨h0,h1,h2,h3⟩:=lsB4 (t (4*k)) (t (4*k+1)) (t (4*k+2)) (t (4*k+3))
 obtain ⟨k0,k1,k2,k3⟩:=lsB4 (u (4*k)) (u (4*k+1)) (u (4*k+2)) (u (4*k+3))
 rw[h0,h1,h2,h3,k0,k1,k2,k3]
theorem tl_px0 (t:Nat→UInt8) {k:Nat} (hk:k<64):List.take 4 (List.drop (0+((k:Nat):Int).toNat*4) (tl t))=[ub (t (4*k)),ub (t (4*k+1)),ub (t (4*k+2)),ub (t (4*k+3))]:=by
 rw[show 0+((k:Nat):Int).toNat*4=k*4 by omega,tl_pix t hk];rfl
theorem not_t {b:Bool} (h:(!b)=false):b=true:=by simpa using h
theorem not_f {b:Bool} (h:(!b)=true):b=false:=by simpa using h
def cz_R121 (t u:Nat→UInt8) (k:Nat):Cz:={
 ct:=(fun f=>match f with
 |_=>none)
 eq:=(fun t=>match t with
 |36=>some pq
 |_=>none)
 raw:=[],sym:=[11,12,14,15],nf:=[(12,.c (.agg [ub (t (4*k)),ub (t (4*k+1)),ub (t (4*k+2)),ub (t (4*k+3))])),(15,.c (.agg [ub (u (4*k)),ub (u (4*k+1)),ub (u (4*k+2)),ub (u (4*k+3))])),(16,bv (!(pe t u k)))],ap:=true,off:=[],on:=[],lp:=fun _=>none,un:=0}
set_option maxRecDepth 100000 in
theorem R121 (t u:Nat→UInt8) (k:Nat)  (K:Exit→St→Prop) (h:HB (decide ((Nat.cast k:Int)<64)) (InR ((Nat.cast k:Int)) 64∧0+((Nat.cast k:Int)).toNat*4+4≤256∧Le (ag (List.take 4 (List.drop (0+((Nat.cast k:Int)).toNat*4) (tl t)))) (ag [Leaf.v (Value.int IntKind.u8 (Nat.cast ((t (4*k)).toNat):Int)),Leaf.v (Value.int IntKind.u8 (Nat.cast ((t (4*k+1)).toNat):Int)),Leaf.v (Value.int IntKind.u8 (Nat.cast ((t (4*k+2)).toNat):Int)),Leaf.v (Value.int IntKind.u8 (Nat.cast ((t (4*k+3)).toNat):Int))])∧InR ((Nat.cast k:Int)) 64∧0+((Nat.cast k:Int)).toNat*4+4≤256∧Le (ag (List.take 4 (List.drop (0+((Nat.cast k:Int)).toNat*4) (tl u)))) (ag [Leaf.v (Value.int IntKind.u8 (Nat.cast ((u (4*k)).toNat):Int)),Leaf.v (Value.int IntKind.u8 (Nat.cast ((u (4*k+1)).toNat):Int)),Leaf.v (Value.int IntKind.u8 (Nat.cast ((u (4*k+2)).toNat):Int)),Leaf.v (Value.int IntKind.u8 (Nat.cast ((u (4*k+3)).toNat):Int))])∧EqOK Tryz.prog 36 [Leaf.v (Value.int IntKind.u8 (Nat.cast ((t (4*k)).toNat):Int)),Leaf.v (Value.int IntKind.u8 (Nat.cast ((t (4*k+1)).toNat):Int)),Leaf.v (Value.int IntKind.u8 (Nat.cast ((t (4*k+2)).toNat):Int)),Leaf.v (Value.int IntKind.u8 (Nat.cast ((t (4*k+3)).toNat):Int))] [Leaf.v (Value.int IntKind.u8 (Nat.cast ((u (4*k)).toNat):Int)),Leaf.v (Value.int IntKind.u8 (Nat.cast ((u (4*k+1)).toNat):Int)),Leaf.v (Value.int IntKind.u8 (Nat.cast ((u (4*k+2)).toNat):Int)),Leaf.v (Value.int IntKind.u8 (Nat.cast ((u (4*k+3)).toNat):Int))] (pq [ub (t (4*k)),ub (t (4*k+1)),ub (t (4*k+2)),ub (t (4*k+3))] [ub (u (4*k)),ub (u (4*k+1)),ub (u (4*k+2)),ub (u (4*k+3))])∧Le (bv !pq [ub (t (4*k)),ub (t (4*k+1)),ub (t (4*k+2)),ub (t (4*k+3))] [ub (u (4*k)),ub (u (4*k+1)),ub (u (4*k+2)),ub (u (4*k+3))]) (bv !pe t u k)∧HB (!pe t u k) (wkK 2 K Exit.ret (St.mk [(2,SV.c (Cp.l (Leaf.p 0 0))),(3,SV.c (Cp.l (Leaf.p 1 0))),(4,bv false),(5,iv IntKind.i64 (Nat.cast k:Int))] [(0,some (Blk.mk (tl t) (BT.t 38))),(1,some (Blk.mk (tl u) (BT.t 38)))] 2 17 [1,0] 0)) (IntKind.i64.wrap ((Nat.cast k:Int)+1)=(Nat.cast k:Int)+1∧RoundTo Tryz.prog ((getLoop 2 (Tryz.f121.body.getD Code.skip)).getD Code.skip) 2 (wkK 2 K) (St.mk [(2,SV.c (Cp.l (Leaf.p 0 0))),(3,SV.c (Cp.l (Leaf.p 1 0))),(4,SV.u),(5,iv IntKind.i64 ((Nat.cast k:Int)+1))] [(0,some (Blk.mk (tl t) (BT.t 38))),(1,some (Blk.mk (tl u) (BT.t 38)))] 2 17 [1,0] 0))) (wkK 2 K (Exit.exit 0) (St.mk [(2,SV.c (Cp.l (Leaf.p 0 0))),(3,SV.c (Cp.l (Leaf.p 1 0))),(4,SV.u),(5,iv IntKind.i64 (Nat.cast k:Int))] [(0,some (Blk.mk (tl t) (BT.t 38))),(1,some (Blk.mk (tl u) (BT.t 38)))] 2 17 [1,0] 0))):WPL Tryz.prog ((getLoop 2 (Tryz.f121.body.getD .skip)).getD .skip) (I121 t u k) (wkK 2 K):=
 wp_roundT [2,3,4,5] [0,1] (cx:=cz_R121 t u k) rfl (of_eq (by kernel_rfl) h)
set_option maxRecDepth 100000 in
set_option maxHeartbeats 4000000 in
theorem L121 (t u:Nat→UInt8)  : ∀(m k:Nat),64-k=m→k≤64→(∀j,j<k→pe t u j=true)→∀(K:Exit→St→Prop),((∀j,j<64→pe t u j=true)→K (.exit 0) (I121 t u 64))→(∀j,j<64→pe t u j=false→K .ret (Q121 t u))→WPL Tryz.prog ((getLoop 2 (Tryz.f121.body.getD .skip)).getD .skip) (I121 t u k) (wkK 2 K)
 |0,k,hm,hk,hall,K,hK,hR=>by
  have e:k=64:=by omega
  subst e
  refine R121 t u _ K (HB.mk (fun hne=>absurd (of_decide_eq_true hne) (by omega)) (fun he=>?_))
  exact wkK.to (I121 t u _) (Nat.le_refl _) (by kernel_rfl) (wkE_cons (LeN.sl (by kernel_rfl) rfl) (wkE_cons (LeN.sl (by kernel_rfl) rfl) (wkE_cons (LeN.sl (by kernel_rfl) rfl) trivial))) (wkH_cons (BkN.plain (cs:=tl t) (b:=.t 38) (by kernel_rfl) (rfl) (plain_tl _) (by kernel_rfl)) (wkH_cons (BkN.plain (cs:=tl u) (b:=.t 38) (by kernel_rfl) (rfl) (plain_tl _) (by kernel_rfl)) trivial)) (hK hall)
 |m+1,k,hm,hk,hall,K,hK,hR=>by
  refine R121 t u k K (HB.mk (fun hne=>?_) (fun he=>absurd (show ((k:Nat):Int)<(64:Nat) by omega) (of_decide_eq_false he)))
  have hlt:k<64:=by omega
  repeat' (first|exact trivial|with_reducible apply And.intro|(with_reducible apply HB.mk)|with_reducible intro _)
  all_goals first
   |(exact ⟨by omega,by omega⟩)
   |(omega)
   |(exact Le.of (congrArg (fun l=>SV.c (.agg l)) (tl_px0 _ hlt)))
   |(exact eq36L _ _ _ _ _ _ _ _)
   |(exact Le.bool (by rw[pq_pe]))
   |(have hcnd:(!(pe t u k))=false:=(by with_reducible assumption);(with_reducible refine RoundTo.toN 2 (I121 t u (k+1)) ?_ ?_ ?_ ?_ ?_);exact Nat.le_refl _;kernel_rfl;exact (wkE_cons (LeN.sl (by kernel_rfl) rfl) (wkE_cons (LeN.sl (by kernel_rfl) rfl) (wkE_cons (LeN.sl (by kernel_rfl) rfl) trivial)));exact (wkH_cons (BkN.plain (cs:=tl t) (b:=.t 38) (by kernel_rfl) (rfl) (plain_tl _) (by kernel_rfl)) (wkH_cons (BkN.plain (cs:=tl u) (b:=.t 38) (by kernel_rfl) (rfl) (plain_tl _) (by kernel_rfl)) trivial));exact (L121 t u  m (k+1) (by omega) (by omega) (fun j hj=>by rcases Nat.lt_or_ge j k with h|h;exact hall j h;have e:j=k:=(by omega);subst e;exact not_t hcnd) K hK hR))
   |(exact wkK.to (Q121 t u) (Nat.le_refl _) (by kernel_rfl) (wkE_cons (LeN.sl (by kernel_rfl) rfl) trivial) (wkH_cons (BkN.plain (cs:=tl t) (b:=.t 38) (by kernel_rfl) (rfl) (plain_tl _) (by kernel_rfl)) (wkH_cons (BkN.plain (cs:=tl u) (b:=.t 38) (by kernel_rfl) (rfl) (plain_tl _) (by kernel_rfl)) trivial)) (hR k hlt (not_f (by with_reducible assumption))))
   |(exact okw _ (by omega) (by omega))
theorem enters121:Enters Tryz.prog 121:=fun args w=>by go_simp
def cz_C121 (t u:Nat→UInt8):Cz:={
 ct:=(fun f=>match f with
 |_=>none)
 eq:=(fun t=>match t with
 |36=>some pq
 |_=>none)
 raw:=[],sym:=[],nf:=[],ap:=true,off:=[],on:=[],lp:=fun r=>match r with|2=>some (fun _ K=>((∀j,j<64→pe t u j=true)→K (.exit 0) (I121 t u 64))∧(∀j,j<64→pe t u j=false→K .ret (Q121 t u)))|_=>none,un:=0}
set_option maxRecDepth 100000 in
set_option maxHeartbeats 400000 in
theorem C121 (t u:Nat→UInt8)  (n:Nat):CallOK Tryz.prog 121 [.c (.agg (tl t)),.c (.agg (tl u))] [] n (bv (sameT t u)) [] 0:=by
 refine CallOK.any ?_ (by kernel_rfl) (by kernel_rfl) n
 refine call_ok (cx:=cz_C121 t u) (nm:=[]) rfl Tryz.func121 (body:=Tryz.f121.body.getD .skip) rfl enters121 (by kernel_rfl) ?_
 apply of_eq (q:=(LoopOK Tryz.prog ((getLoop 2 (Tryz.f121.body.getD .skip)).getD .skip) (St.mk [(5,iv IntKind.i64 0),(4,bv false),(3,SV.c (Cp.l (Leaf.p 1 0))),(2,SV.c (Cp.l (Leaf.p 0 0))),(0,ag (tl t)),(1,ag (tl u))] [(1,some (Blk.mk (tl u) (BT.t 38))),(0,some (Blk.mk (tl t) (BT.t 38)))] 2 17 [1,0] 0) fun K=>((∀(j:Nat),j<64→pe t u j=true)→K (Exit.exit 0) (I121 t u 64))∧∀(j:Nat),j<64→pe t u j=false→K Exit.ret (Q121 t u))∧((∀(j:Nat),j<64→pe t u j=true)→Le (bv true) (bv (sameT t u))∧True)∧∀(j:Nat),j<64→pe t u j=false→Le (bv false) (bv (sameT t u))∧True) (by kernel_rfl)
 repeat' (first|exact trivial|with_reducible apply And.intro|(with_reducible apply HB.mk)|with_reducible intro _)
 all_goals first
  |(exact LoopOK.mk (I121 t u 0) rfl (by kernel_rfl) (wkE_cons (LeN.sl (by kernel_rfl) rfl) (wkE_cons (LeN.sl (by kernel_rfl) rfl) (wkE_cons (LeN.sl (by kernel_rfl) rfl) trivial))) (wkH_cons (BkN.plain (cs:=tl t) (b:=.t 38) (by kernel_rfl) (rfl) (plain_tl _) (by kernel_rfl)) (wkH_cons (BkN.plain (cs:=tl u) (b:=.t 38) (by kernel_rfl) (rfl) (plain_tl _) (by kernel_rfl)) trivial)) (fun K hT=>L121 t u _ 0 rfl (by decide) (fun j hj=>absurd hj (Nat.not_lt_zero j)) K hT.1 hT.2))
  |(exact Le.bool ((same_iff t u).2 ‹_›).symm)
  |(exact Le.bool (same_no ‹_› ‹_›).symm)
theorem C121L (l m:List Leaf) (t u:Nat→UInt8) (h:l=tl t) (h':m=tl u) (n:Nat):CallOK Tryz.prog 121 [.c (.agg l),.c (.agg m)] [] n (bv (sameT (lsB l) (lsB m))) [] 0:=by
 subst h h'
 rw[same_lsB];exact C121 t u n
theorem enters104:Enters Tryz.prog 104:=fun args w=>by go_simp
def cz_C104:Cz:={
 ct:=(fun f=>match f with
 |_=>none)
 eq:=(fun t=>match t with
 |_=>none)
 raw:=[],sym:=[],nf:=[],ap:=true,off:=[],on:=[],lp:=fun _=>none,un:=0}
set_option maxRecDepth 100000 in
set_option maxHeartbeats 400000 in
theorem C104 (x y:Int)  (n:Nat):CallOK Tryz.prog 104 [ag [li x,li y]] [] n (bv (inB x y)) [] 0:=by
 refine CallOK.any ?_ (by kernel_rfl) (by kernel_rfl) n
 refine call_ok (cx:=cz_C104) (nm:=[]) rfl Tryz.func104 (body:=Tryz.f104.body.getD .skip) rfl enters104 (by kernel_rfl) ?_
 apply of_eq (q:=(decide (x≥-8192)=true→decide (x≥-8192)=true∧True)∧(decide (x≥-8192)=true→decide (x≥-8192)=true∧True)∧(decide (x≥-8192)=true→decide (x≥-8192)=true)∧((bif decide (x≥-8192) then decide (x≤8191) else false)=true→(bif decide (x≥-8192) then decide (x≤8191) else false)=true∧True)∧((bif decide (x≥-8192) then decide (x≤8191) else false)=true→(bif decide (x≥-8192) then decide (x≤8191) else false)=true∧True)∧((bif decide (x≥-8192) then decide (x≤8191) else false)=true→(bif decide (x≥-8192) then decide (x≤8191) else false)=true)∧((bif bif decide (x≥-8192) then decide (x≤8191) else false then decide (y≥-8192) else false)=true→(bif bif decide (x≥-8192) then decide (x≤8191) else false then decide (y≥-8192) else false)=true∧True)∧((bif bif decide (x≥-8192) then decide (x≤8191) else false then decide (y≥-8192) else false)=true→(bif bif decide (x≥-8192) then decide (x≤8191) else false then decide (y≥-8192) else false)=true∧True)∧((bif bif decide (x≥-8192) then decide (x≤8191) else false then decide (y≥-8192) else false)=true→(bif bif decide (x≥-8192) then decide (x≤8191) else false then decide (y≥-8192) else false)=true)∧Le (bv (bif bif bif decide (x≥-8192) then decide (x≤8191) else false then decide (y≥-8192) else false then decide (y≤8191) else false)) (bv (inB x y))∧True) (by kernel_rfl)
 repeat' (first|exact trivial|with_reducible apply And.intro|(with_reducible apply HB.mk)|with_reducible intro _)
 all_goals first
  |(assumption)
  |(exact Le.bool (inB_eq x y))
def lesB (ax ay bx by_:Int):Bool:=decide (ay<by_∨ay=by_∧ax<bx)
theorem enters123:Enters Tryz.prog 123:=fun args w=>by go_simp
def cz_C123:Cz:={
 ct:=(fun f=>match f with
 |_=>none)
 eq:=(fun t=>match t with
 |_=>none)
 raw:=[],sym:=[],nf:=[],ap:=true,off:=[],on:=[],lp:=fun _=>none,un:=0}
set_option maxRecDepth 100000 in
set_option maxHeartbeats 400000 in
theorem C123 (ax ay bx by_:Int)  (n:Nat):CallOK Tryz.prog 123 [ag [li ax,li ay],ag [li bx,li by_]] [] n (bv (lesB ax ay bx by_)) [] 0:=by
 refine CallOK.any ?_ (by kernel_rfl) (by kernel_rfl) n
 refine call_ok (cx:=cz_C123) (nm:=[]) rfl Tryz.func123 (body:=Tryz.f123.body.getD .skip) rfl enters123 (by kernel_rfl) ?_
 apply of_eq (q:=((!decide (ay<by_))=true→(!decide (ay<by_))=true∧True)∧((!decide (ay<by_))=true→(!decide (ay<by_))=true∧True)∧((!decide (ay<by_))=true→(!decide (ay<by_))=true∧(!decide (ay<by_))=true∧True)∧((!decide (ay<by_))=true→(!decide (ay<by_))=true∧True)∧((!decide (ay<by_)&&ay==by_)=true→(!decide (ay<by_)&&ay==by_)=true∧True)∧((!decide (ay<by_)&&ay==by_)=true→(!decide (ay<by_)&&ay==by_)=true∧True)∧((!decide (ay<by_)&&ay==by_)=true→(!decide (ay<by_)&&ay==by_)=true∧(!decide (ay<by_)&&ay==by_)=true∧True)∧((!decide (ay<by_))=true→(!decide (ay<by_))=true∧((ay==by_)=true→(!decide (ay<by_)&&ay==by_)=true)∧True)∧(decide (ay<by_)=false→(!decide (ay<by_))=true)∧Le (bv (bif decide (ay<by_) then true else bif ay==by_ then decide (ax<bx) else false)) (bv (lesB ax ay bx by_))∧True) (by kernel_rfl)
 repeat' (first|exact trivial|with_reducible apply And.intro|(with_reducible apply HB.mk)|with_reducible intro _)
 all_goals first
  |(assumption)
  |(refine Le.bool ?_;unfold lesB;by_cases h1:ay<by_<;>by_cases h2:ay=by_<;>by_cases h3:ax<bx<;>simp[h1,h2,h3])
  |(simp only[*,Bool.and_self,Bool.not_false,Bool.not_true];done)
end Ab
end Go.Proofs.YtpdckpifhniioaaGreat
end
