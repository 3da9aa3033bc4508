/- Part 19 of what CodecPacks rests on. -/
import Derived.Test.YtpdckpifhniioaaGreatVr
section
set_option linter.unusedVariables false
set_option linter.unusedSimpArgs false
namespace Go.Proofs.YtpdckpifhniioaaGreat
open Go.RowKit
namespace Ab
attribute [local irreducible] CallOKd
attribute [local irreducible] tl rws
end Ab
end Go.Proofs.YtpdckpifhniioaaGreat
end
section
set_option linter.unusedVariables false
set_option linter.unusedSimpArgs false
namespace Go.Proofs.YtpdckpifhniioaaGreat
open Go.RowKit
namespace Ab
attribute [local irreducible] CallOKd
end Ab
end Go.Proofs.YtpdckpifhniioaaGreat
end
section
set_option linter.unusedVariables false
set_option linter.unusedSimpArgs false
namespace Go.Proofs.YtpdckpifhniioaaGreat
open Go.RowKit
namespace Ab
end Ab
end Go.Proofs.YtpdckpifhniioaaGreat
end
section
set_option linter.unusedVariables false
set_option linter.unusedSimpArgs false
namespace Go.Proofs.YtpdckpifhniioaaGreat
open Go.RowKit
namespace Ab
attribute [local irreducible] CallOKd
end Ab
end Go.Proofs.YtpdckpifhniioaaGreat
end
section
set_option linter.unusedVariables false
set_option linter.unusedSimpArgs false
namespace Go.Proofs.YtpdckpifhniioaaGreat
open Go.RowKit
namespace Ab
attribute [local irreducible] CallOKd
end Ab
end Go.Proofs.YtpdckpifhniioaaGreat
end
section
set_option linter.unusedVariables false
set_option linter.unusedSimpArgs false
namespace Go.Proofs.YtpdckpifhniioaaGreat
open Go.RowKit
namespace Ab
attribute [local irreducible] CallOKd
theorem splice_cons {α:Type} (x:α):∀(m l:List α) (n:Nat),splice (x::l) (n+1) m=x::splice l n m
 |[],_,_=>rfl
 |a::m,l,n=>by rw[splice,splice,List.set_cons_succ,splice_cons x m]
end Ab
end Go.Proofs.YtpdckpifhniioaaGreat
end
section
set_option linter.unusedVariables false
set_option linter.unusedSimpArgs false
namespace Go.Proofs.YtpdckpifhniioaaGreat
open Go.RowKit
namespace Ab
attribute [local irreducible] CallOKd
attribute [local irreducible] tl rws
theorem el_tl (e:TA):List.take 256 (List.drop 2 (el e))=tl e.t:=by
 show List.take 256 (tl e.t)=_
 rw[tl_take]
end Ab
end Go.Proofs.YtpdckpifhniioaaGreat
end
section
set_option linter.unusedVariables false
set_option linter.unusedSimpArgs false
namespace Go.Proofs.YtpdckpifhniioaaGreat
open Go.RowKit
namespace Ab
attribute [local irreducible] CallOKd
end Ab
end Go.Proofs.YtpdckpifhniioaaGreat
end
section
set_option linter.unusedVariables false
set_option linter.unusedSimpArgs false
namespace Go.Proofs.YtpdckpifhniioaaGreat
open Go.RowKit
namespace Ab
end Ab
end Go.Proofs.YtpdckpifhniioaaGreat
end
section
set_option linter.unusedVariables false
set_option linter.unusedSimpArgs false
namespace Go.Proofs.YtpdckpifhniioaaGreat
open Go.RowKit
namespace Ab
attribute [local irreducible] CallOKd
end Ab
end Go.Proofs.YtpdckpifhniioaaGreat
end
section
set_option linter.unusedVariables false
set_option linter.unusedSimpArgs false
namespace Go.Proofs.YtpdckpifhniioaaGreat
open Go.RowKit
namespace Ab
attribute [local irreducible] CallOKd
end Ab
end Go.Proofs.YtpdckpifhniioaaGreat
end
section
set_option linter.unusedVariables false
set_option linter.unusedSimpArgs false
namespace Go.Proofs.YtpdckpifhniioaaGreat
open Go.RowKit
namespace Ab
attribute [local irreducible] CallOKd
attribute [local irreducible] tl rws
theorem ofI_fill (t:Nat→UInt8):tl (fillT (ofI ((t 0).toNat:Nat)) (ofI ((t 1).toNat:Nat)) (ofI ((t 2).toNat:Nat)) (ofI ((t 3).toNat:Nat)))=tl (fillT (t 0) (t 1) (t 2) (t 3)):=by rw[ofI_nat,ofI_nat,ofI_nat,ofI_nat]
theorem sol_eq (t:Nat→UInt8):sameT (lsB (tl t)) (lsB (tl (fillT (t 0) (t 1) (t 2) (t 3))))=solT t:=by rw[same_lsB];rfl
theorem solPr_t {t:Nat→UInt8} (h:solT t=true):[ub (solP t 0),ub (solP t 1),ub (solP t 2),ub (solP t 3)]=[ub (t 0),ub (t 1),ub (t 2),ub (t 3)]:=by
 unfold solP;rw[if_pos h,if_pos h,if_pos h,if_pos h]
theorem solPr_f {t:Nat→UInt8} (h:solT t=false):[ub (solP t 0),ub (solP t 1),ub (solP t 2),ub (solP t 3)]=[u8 0,u8 0,u8 0,u8 0]:=by
 unfold solP;rw[if_neg (by simp[h]),if_neg (by simp[h]),if_neg (by simp[h]),if_neg (by simp[h])];rfl
theorem enters131:Enters Tryz.prog 131:=fun args w=>by go_simp
def cz_C131 (t:Nat→UInt8):Cz:={
 ct:=(fun f=>match f with
 |121=>some fun _ _S ar=>match ar with | [.c (.agg l),.c (.agg m)]=>some {v:=bv (sameT (lsB l) (lsB m)),rd:=[],wr:=[],nw:=0}|_=>none
 |161=>some fun _ _S ar=>match ar with | [.c (.agg [.v (.int _ a),.v (.int _ b),.v (.int _ c),.v (.int _ e)])]=>some {v:=.c (.agg (tl (fillT (ofI a) (ofI b) (ofI c) (ofI e)))),rd:=[],wr:=[],nw:=0}|_=>none
 |_=>none)
 eq:=(fun t=>match t with
 |_=>none)
 raw:=[],sym:=[],nf:=[(4,.c (.agg (tl t))),(6,ag [ub (t 0),ub (t 1),ub (t 2),ub (t 3)]),(7,.c (.agg (tl (fillT (t 0) (t 1) (t 2) (t 3))))),(8,bv (solT t)),(10,ag [ub (t 0),ub (t 1),ub (t 2),ub (t 3)])],ap:=true,off:=[],on:=[],lp:=fun _=>none,un:=0,wh:=[38,36]}
set_option maxRecDepth 100000 in
set_option maxHeartbeats 400000 in
theorem C131 (t:Nat→UInt8)  (n:Nat):CallOK Tryz.prog 131 [.c (.agg (tl t))] [] n (.tup [.agg [ub (solP t 0),ub (solP t 1),ub (solP t 2),ub (solP t 3)],.l (.v (.bool (solT t)))]) [] 0:=by
 refine CallOK.any ?_ (by kernel_rfl) (by kernel_rfl) n
 refine call_ok (cx:=cz_C131 t) (nm:=[]) rfl Tryz.func131 (body:=Tryz.f131.body.getD .skip) rfl enters131 (by kernel_rfl) ?_
 apply of_eq (q:=Le (ag (List.take 256 (tl t))) (ag (tl t))∧Le (ag (List.take 4 (tl t))) (ag [Leaf.v (Value.int IntKind.u8 (Nat.cast ((t 0).toNat):Int)),Leaf.v (Value.int IntKind.u8 (Nat.cast ((t 1).toNat):Int)),Leaf.v (Value.int IntKind.u8 (Nat.cast ((t 2).toNat):Int)),Leaf.v (Value.int IntKind.u8 (Nat.cast ((t 3).toNat):Int))])∧CallOKd Tryz.prog 161 [] [ag [Leaf.v (Value.int IntKind.u8 (Nat.cast ((t 0).toNat):Int)),Leaf.v (Value.int IntKind.u8 (Nat.cast ((t 1).toNat):Int)),Leaf.v (Value.int IntKind.u8 (Nat.cast ((t 2).toNat):Int)),Leaf.v (Value.int IntKind.u8 (Nat.cast ((t 3).toNat):Int))]] [] 2 (ag (tl (fillT (ofI (Nat.cast ((t 0).toNat):Int)) (ofI (Nat.cast ((t 1).toNat):Int)) (ofI (Nat.cast ((t 2).toNat):Int)) (ofI (Nat.cast ((t 3).toNat):Int))))) [] 0∧Le (ag (tl (fillT (ofI (Nat.cast ((t 0).toNat):Int)) (ofI (Nat.cast ((t 1).toNat):Int)) (ofI (Nat.cast ((t 2).toNat):Int)) (ofI (Nat.cast ((t 3).toNat):Int))))) (ag (tl (fillT (t 0) (t 1) (t 2) (t 3))))∧CallOKd Tryz.prog 121 [] [ag (tl t),ag (tl (fillT (t 0) (t 1) (t 2) (t 3)))] [] 2 (bv (sameT (lsB (tl t)) (lsB (tl (fillT (t 0) (t 1) (t 2) (t 3)))))) [] 0∧Le (bv (sameT (lsB (tl t)) (lsB (tl (fillT (t 0) (t 1) (t 2) (t 3)))))) (bv (solT t))∧HB (solT t) (Le (ag (List.take 4 (tl t))) (ag [Leaf.v (Value.int IntKind.u8 (Nat.cast ((t 0).toNat):Int)),Leaf.v (Value.int IntKind.u8 (Nat.cast ((t 1).toNat):Int)),Leaf.v (Value.int IntKind.u8 (Nat.cast ((t 2).toNat):Int)),Leaf.v (Value.int IntKind.u8 (Nat.cast ((t 3).toNat):Int))])∧0=0∧4=4∧Le (SV.tup [Cp.agg [Leaf.v (Value.int IntKind.u8 (Nat.cast ((t 0).toNat):Int)),Leaf.v (Value.int IntKind.u8 (Nat.cast ((t 1).toNat):Int)),Leaf.v (Value.int IntKind.u8 (Nat.cast ((t 2).toNat):Int)),Leaf.v (Value.int IntKind.u8 (Nat.cast ((t 3).toNat):Int))],Cp.l (lb true)]) (SV.tup [Cp.agg [Leaf.v (Value.int IntKind.u8 (Nat.cast ((solP t 0).toNat):Int)),Leaf.v (Value.int IntKind.u8 (Nat.cast ((solP t 1).toNat):Int)),Leaf.v (Value.int IntKind.u8 (Nat.cast ((solP t 2).toNat):Int)),Leaf.v (Value.int IntKind.u8 (Nat.cast ((solP t 3).toNat):Int))],Cp.l (lb (solT t))])∧True) (0=0∧4=4∧Le (SV.tup [Cp.agg [Leaf.v (Value.int IntKind.u8 0),Leaf.v (Value.int IntKind.u8 0),Leaf.v (Value.int IntKind.u8 0),Leaf.v (Value.int IntKind.u8 0)],Cp.l (lb false)]) (SV.tup [Cp.agg [Leaf.v (Value.int IntKind.u8 (Nat.cast ((solP t 0).toNat):Int)),Leaf.v (Value.int IntKind.u8 (Nat.cast ((solP t 1).toNat):Int)),Leaf.v (Value.int IntKind.u8 (Nat.cast ((solP t 2).toNat):Int)),Leaf.v (Value.int IntKind.u8 (Nat.cast ((solP t 3).toNat):Int))],Cp.l (lb (solT t))])∧True)) (by kernel_rfl)
 repeat' (first|exact trivial|with_reducible apply And.intro|(with_reducible apply HB.mk)|with_reducible intro _)
 all_goals first
  |(with_reducible assumption)
  |(with_reducible exact Le.refl _)
  |(with_reducible rfl)
  |((with_reducible exact C121L _ _ _ _ rfl rfl _))
  |((with_reducible exact C161I _ _ _ _ _))
  |(with_reducible exact Le.of (congrArg (fun l=>SV.c (.agg l)) (tl_take _)))
  |(with_reducible exact Le.of (congrArg (fun l=>SV.c (.agg l)) (tl_first _)))
  |(with_reducible exact Le.of (congrArg (fun l=>SV.c (.agg l)) (ofI_fill _)))
  |(with_reducible exact Le.bool (sol_eq _))
  |((refine Le.of ?_;rw[show [u8 0,u8 0,u8 0,u8 0]=[ub (solP t 0),ub (solP t 1),ub (solP t 2),ub (solP t 3)] from (solPr_f (by with_reducible assumption)).symm,show solT t=false by with_reducible assumption];done))
  |((refine Le.of ?_;rw[show [ub (t 0),ub (t 1),ub (t 2),ub (t 3)]=[ub (solP t 0),ub (solP t 1),ub (solP t 2),ub (solP t 3)] from (solPr_t (by with_reducible assumption)).symm,show solT t=true by with_reducible assumption];done))
  |(exact okw _ (by omega) (by omega))
  |(exact Le.of rfl)
  |(exact BkR.of rfl)
  |(unfold SlOK;omega)
  |(unfold SlOK;decide)
  |(unfold inByte;decide)
  |(simp only[*,Bool.and_self,Bool.not_false,Bool.not_true];done)
  |(simp_all [wants];done)
def I135 (t:Nat→UInt8) (k:Nat):St:=⟨[(4,iv .i64 (k:Nat)),(3,.c (.l (.o 1 (4*k)))),(1,.c (.l (.p 0 0)))],[(0,some ⟨tl t,.t 38⟩),(1,some ⟨tb t (4*k),.r 5 1 1⟩)],2,31,[1,0],(0)⟩
theorem tl_sc (t:Nat→UInt8) {k:Nat} (hk:k<64) (c:Nat) (hc:c<4):SV.c (.l ((tl t).getD (k*4+c) .u))=.c (.l (ub (t (4*k+c)))):=by
 rw[show k*4+c=4*k+c by omega,tl_getD t (by omega)]
theorem tl_sc0 (t:Nat→UInt8) {k:Nat} (hk:k<64):SV.c (.l ((tl t).getD (k*4) .u))=.c (.l (ub (t (4*k)))):=tl_sc t hk 0 (by decide)
def cz_R135 (t:Nat→UInt8) (k:Nat):Cz:={
 ct:=(fun f=>match f with
 |_=>none)
 eq:=(fun t=>match t with
 |_=>none)
 raw:=[],sym:=[12,14,16,18,20,22,24,26,28],nf:=[(14,.c (.l (ub (t (4*k))))),(18,.c (.l (ub (t (4*k+1))))),(22,.c (.l (ub (t (4*k+2))))),(26,.c (.l (ub (t (4*k+3)))))],ap:=true,off:=[],on:=[],lp:=fun _=>none,un:=0}
set_option maxRecDepth 100000 in
theorem R135 (t:Nat→UInt8) (k:Nat)  (K:Exit→St→Prop) (h:HB (decide ((Nat.cast k:Int)<64)) ((InR ((Nat.cast k:Int)) 64∧0+((Nat.cast k:Int)).toNat*4+0<256∧Le (SV.c (Cp.l ((tl t).getD (0+((Nat.cast k:Int)).toNat*4+0) Leaf.u))) (iv IntKind.u8 (Nat.cast ((t (4*k)).toNat):Int))∧InR ((Nat.cast k:Int)) 64∧0+((Nat.cast k:Int)).toNat*4+1<256∧Le (SV.c (Cp.l ((tl t).getD (0+((Nat.cast k:Int)).toNat*4+1) Leaf.u))) (iv IntKind.u8 (Nat.cast ((t (4*k+1)).toNat):Int))∧InR ((Nat.cast k:Int)) 64∧0+((Nat.cast k:Int)).toNat*4+2<256∧Le (SV.c (Cp.l ((tl t).getD (0+((Nat.cast k:Int)).toNat*4+2) Leaf.u))) (iv IntKind.u8 (Nat.cast ((t (4*k+2)).toNat):Int))∧InR ((Nat.cast k:Int)) 64∧0+((Nat.cast k:Int)).toNat*4+3<256∧Le (SV.c (Cp.l ((tl t).getD (0+((Nat.cast k:Int)).toNat*4+3) Leaf.u))) (iv IntKind.u8 (Nat.cast ((t (4*k+3)).toNat):Int))∧(tb t (4*k)).length=4*k*1∧4=4∧IntKind.i64.wrap ((Nat.cast k:Int)+1)=(Nat.cast k:Int)+1∧RoundTo Tryz.prog ((getLoop 3 (Tryz.f135.body.getD Code.skip)).getD Code.skip) 2 (wkK 2 K) (St.mk [(1,SV.c (Cp.l (Leaf.p 0 0))),(3,SV.c (Cp.l (Leaf.o 1 (4*k+4)))),(4,iv IntKind.i64 ((Nat.cast k:Int)+1))] [(0,some (Blk.mk (tl t) (BT.t 38))),(1,some (Blk.mk (tb t (4*k)++[Leaf.v (Value.int IntKind.u8 (Nat.cast ((t (4*k)).toNat):Int)),Leaf.v (Value.int IntKind.u8 (Nat.cast ((t (4*k+1)).toNat):Int)),Leaf.v (Value.int IntKind.u8 (Nat.cast ((t (4*k+2)).toNat):Int)),Leaf.v (Value.int IntKind.u8 (Nat.cast ((t (4*k+3)).toNat):Int))]) (BT.r 5 1 1))),(2,some (Blk.mk [Leaf.v (Value.int IntKind.u8 (Nat.cast ((t (4*k)).toNat):Int)),Leaf.v (Value.int IntKind.u8 (Nat.cast ((t (4*k+1)).toNat):Int)),Leaf.v (Value.int IntKind.u8 (Nat.cast ((t (4*k+2)).toNat):Int)),Leaf.v (Value.int IntKind.u8 (Nat.cast ((t (4*k+3)).toNat):Int))] (BT.r 5 1 2))),(3,none)] 3 31 [1,2,1,0] 0))∧InR ((Nat.cast k:Int)) 64∧0+((Nat.cast k:Int)).toNat*4+0<256∧Le (SV.c (Cp.l ((tl t).getD (0+((Nat.cast k:Int)).toNat*4+0) Leaf.u))) (iv IntKind.u8 (Nat.cast ((t (4*k)).toNat):Int))∧InR ((Nat.cast k:Int)) 64∧0+((Nat.cast k:Int)).toNat*4+1<256∧Le (SV.c (Cp.l ((tl t).getD (0+((Nat.cast k:Int)).toNat*4+1) Leaf.u))) (iv IntKind.u8 (Nat.cast ((t (4*k+1)).toNat):Int))∧InR ((Nat.cast k:Int)) 64∧0+((Nat.cast k:Int)).toNat*4+2<256∧Le (SV.c (Cp.l ((tl t).getD (0+((Nat.cast k:Int)).toNat*4+2) Leaf.u))) (iv IntKind.u8 (Nat.cast ((t (4*k+2)).toNat):Int))∧InR ((Nat.cast k:Int)) 64∧0+((Nat.cast k:Int)).toNat*4+3<256∧Le (SV.c (Cp.l ((tl t).getD (0+((Nat.cast k:Int)).toNat*4+3) Leaf.u))) (iv IntKind.u8 (Nat.cast ((t (4*k+3)).toNat):Int))∧[(1,4*k+4,false)]=[(1,4*k+4,false)]∧ApB Tryz.prog 5 (4*k+4)∧(tb t (4*k)).length=4*k*1∧4=4∧IntKind.i64.wrap ((Nat.cast k:Int)+1)=(Nat.cast k:Int)+1∧RoundTo Tryz.prog ((getLoop 3 (Tryz.f135.body.getD Code.skip)).getD Code.skip) 2 (wkK 2 K) (St.mk [(1,SV.c (Cp.l (Leaf.p 0 0))),(3,SV.c (Cp.l (Leaf.o 3 (4*k+4)))),(4,iv IntKind.i64 ((Nat.cast k:Int)+1))] [(0,some (Blk.mk (tl t) (BT.t 38))),(1,some (Blk.mk (tb t (4*k)) (BT.r 5 1 1))),(2,some (Blk.mk [Leaf.v (Value.int IntKind.u8 (Nat.cast ((t (4*k)).toNat):Int)),Leaf.v (Value.int IntKind.u8 (Nat.cast ((t (4*k+1)).toNat):Int)),Leaf.v (Value.int IntKind.u8 (Nat.cast ((t (4*k+2)).toNat):Int)),Leaf.v (Value.int IntKind.u8 (Nat.cast ((t (4*k+3)).toNat):Int))] (BT.r 5 1 2))),(3,some (Blk.mk (tb t (4*k)++[Leaf.v (Value.int IntKind.u8 (Nat.cast ((t (4*k)).toNat):Int)),Leaf.v (Value.int IntKind.u8 (Nat.cast ((t (4*k+1)).toNat):Int)),Leaf.v (Value.int IntKind.u8 (Nat.cast ((t (4*k+2)).toNat):Int)),Leaf.v (Value.int IntKind.u8 (Nat.cast ((t (4*k+3)).toNat):Int))]) (BT.r 5 1 3)))] 4 31 [3,2,1,0] 0)) (wkK 2 K (Exit.exit 0) (St.mk [(1,SV.c (Cp.l (Leaf.p 0 0))),(3,SV.c (Cp.l (Leaf.o 1 (4*k)))),(4,iv IntKind.i64 (Nat.cast k:Int))] [(0,some (Blk.mk (tl t) (BT.t 38))),(1,some (Blk.mk (tb t (4*k)) (BT.r 5 1 1))),(2,none),(3,none)] 2 31 [1,0] 0))):WPL Tryz.prog ((getLoop 3 (Tryz.f135.body.getD .skip)).getD .skip) (I135 t k) (wkK 2 K):=
 wp_roundT [1,3,4] [0,1,2,3] (cx:=cz_R135 t k) rfl (of_eq (by kernel_rfl) h)
set_option maxRecDepth 100000 in
set_option maxHeartbeats 4000000 in
theorem L135 (t:Nat→UInt8)  : ∀(m k:Nat),64-k=m→k≤64→∀(K:Exit→St→Prop),K (.exit 0) (I135 t 64)→WPL Tryz.prog ((getLoop 3 (Tryz.f135.body.getD .skip)).getD .skip) (I135 t k) (wkK 2 K)
 |0,k,hm,hk,K,hK=>by
  have e:k=64:=by omega
  subst e
  refine R135 t _ K (HB.mk (fun hne=>absurd (of_decide_eq_true hne) (by omega)) (fun he=>?_))
  exact wkK.to (I135 t _) (Nat.le_refl _) (by kernel_rfl) (wkE_cons (LeN.sl (by kernel_rfl) rfl) (wkE_cons (LeN.sl (by kernel_rfl) rfl) (wkE_cons (LeN.sl (by kernel_rfl) rfl) trivial))) (wkH_cons (BkN.plain (cs:=tl t) (b:=.t 38) (by kernel_rfl) (rfl) (plain_tl t) (by kernel_rfl)) (wkH_cons (BkN.plain (cs:=tb t (4*64)) (b:=.r 5 1 1) (by kernel_rfl) (rfl) (tb_plain _ _) (by kernel_rfl)) trivial)) hK
 |m+1,k,hm,hk,K,hK=>by
  refine R135 t k K (HB.mk (fun hne=>?_) (fun he=>absurd (show ((k:Nat):Int)<(64:Nat) by omega) (of_decide_eq_false he)))
  have hlt:k<64:=by omega
  repeat' (first|exact trivial|with_reducible apply And.intro|(with_reducible apply HB.mk)|with_reducible intro _)
  all_goals first
   |(with_reducible assumption)
   |(with_reducible exact Le.refl _)
   |(with_reducible rfl)
   |(exact ⟨by omega,by omega⟩)
   |((rw[tb_len];omega))
   |((rw[tl_len];omega))
   |((refine Le.of ?_;simp only[tn,Nat.zero_add,Nat.add_zero];first|exact tl_sc0 t hlt|exact tl_sc t hlt _ (by decide)))
   |(omega)
   |(exact apB (bytes:=1) (by kernel_rfl) (by omega))
   |((with_reducible refine RoundTo.toN 3 (I135 t (k+1)) ?_ ?_ ?_ ?_ ?_);exact Nat.le_refl _;kernel_rfl;exact (wkE_cons (LeN.sl (by kernel_rfl) rfl) (wkE_cons (LeN.sl_o (m:=4*k+4) (by kernel_rfl) rfl (by omega)) (wkE_cons (LeN.sl (by kernel_rfl) rfl) trivial)));exact (wkH_cons (BkN.plain (cs:=tl t) (b:=.t 38) (by kernel_rfl) (rfl) (plain_tl t) (by kernel_rfl)) (wkH_cons (BkN.plain (cs:=tb t (4*k)++[ub (t (4*k)),ub (t (4*k+1)),ub (t (4*k+2)),ub (t (4*k+3))]) (b:=.r 5 1 1) (by kernel_rfl) (tb_next t k) (tb_plain _ _) (by kernel_rfl)) trivial));exact (L135 t  m (k+1) (by omega) (by omega) K hK))
   |((with_reducible refine RoundTo.reN 4 [(1,some 3)] (I135 t (k+1)) ?_ ?_ ?_ ?_);kernel_rfl;exact (wkER_cons (LeR.of (by kernel_rfl)) (wkER_cons (LeR.sl_o (j:=3) (m:=4*k+4) (by kernel_rfl) rfl (by omega)) (wkER_cons (LeR.of (by kernel_rfl)) trivial)));exact (wkHR_cons (j:=0) rfl (BkM.plain (cs:=tl t) (b:=.t 38) (by kernel_rfl) (rfl) (plain_tl t) (by kernel_rfl)) (wkHR_cons (j:=3) rfl (BkM.plain (cs:=tb t (4*k)++[ub (t (4*k)),ub (t (4*k+1)),ub (t (4*k+2)),ub (t (4*k+3))]) (b:=.r 5 1 3) (by kernel_rfl) (tb_next t k) (tb_plain _ _) (by kernel_rfl)) trivial));exact (L135 t  m (k+1) (by omega) (by omega) K hK))
   |(exact okw _ (by omega) (by omega))
   |(exact Le.of rfl)
   |(exact BkR.of rfl)
   |(unfold SlOK;omega)
   |(unfold SlOK;decide)
   |(unfold inByte;decide)
   |(simp only[*,Bool.and_self,Bool.not_false,Bool.not_true];done)
   |(simp_all [wants];done)
theorem enters135:Enters Tryz.prog 135:=fun args w=>by go_simp
def cz_C135 (t:Nat→UInt8):Cz:={
 ct:=(fun f=>match f with
 |_=>none)
 eq:=(fun t=>match t with
 |_=>none)
 raw:=[],sym:=[30],nf:=[],ap:=true,off:=[],on:=[],lp:=fun r=>match r with|3=>some (fun _ K=>K (.exit 0) (I135 t 64))|_=>none,un:=0,wh:=[38]}
set_option maxRecDepth 100000 in
set_option maxHeartbeats 400000 in
theorem C135 (t:Nat→UInt8)  (n:Nat):CallOK Tryz.prog 135 [.c (.agg (tl t))] [] n (.c (.l (.v (.string (bytesT t))))) [] 0:=by
 refine CallOK.any ?_ (by kernel_rfl) (by kernel_rfl) n
 refine call_ok (cx:=cz_C135 t) (nm:=[]) rfl Tryz.func135 (body:=Tryz.f135.body.getD .skip) rfl enters135 (by kernel_rfl) ?_
 apply of_eq (q:=(LoopOK Tryz.prog ((getLoop 3 (Tryz.f135.body.getD .skip)).getD .skip) (St.mk [(4,iv IntKind.i64 0),(3,SV.c (Cp.l (Leaf.o 1 0))),(5,SV.c (Cp.l (Leaf.o 1 0))),(2,SV.c (Cp.l (Leaf.v (Value.string (ByteArray.mk #[]))))),(1,SV.c (Cp.l (Leaf.p 0 0))),(0,ag (tl t))] [(1,some (Blk.mk [] (BT.r 5 1 1))),(0,some (Blk.mk (tl t) (BT.t 38)))] 2 31 [1,0] 0) fun K=>K (Exit.exit 0) (I135 t 64))∧256=256∧AllB (tb t (4*64))∧Le (SV.c (Cp.l (Leaf.v (Value.string (strL (tb t (4*64))))))) (SV.c (Cp.l (Leaf.v (Value.string (bytesT t)))))∧True) (by kernel_rfl)
 repeat' (first|exact trivial|with_reducible apply And.intro|(with_reducible apply HB.mk)|with_reducible intro _)
 all_goals first
  |(with_reducible assumption)
  |(with_reducible exact Le.refl _)
  |(with_reducible rfl)
  |(exact LoopOK.mk (I135 t 0) rfl (by kernel_rfl) (wkE_cons (LeN.sl (by kernel_rfl) rfl) (wkE_cons (LeN.sl (by kernel_rfl) rfl) (wkE_cons (LeN.sl (by kernel_rfl) rfl) trivial))) (wkH_cons (BkN.plain (cs:=tl t) (b:=.t 38) (by kernel_rfl) (rfl) (plain_tl t) (by kernel_rfl)) (wkH_cons (BkN.plain (cs:=[]) (b:=.r 5 1 1) (by kernel_rfl) (rfl) (tb_plain _ _) (by kernel_rfl)) trivial)) (fun K hT=>L135 t  _ 0 rfl (by first|decide|omega) K hT))
  |(exact tb_len t 256)
  |(exact tb_all t 256)
  |(refine Le.of ?_;rw[tb_str];rfl)
  |(exact okw _ (by omega) (by omega))
  |(exact Le.of rfl)
  |(exact BkR.of rfl)
  |(unfold SlOK;omega)
  |(unfold SlOK;decide)
  |(unfold inByte;decide)
  |(simp only[*,Bool.and_self,Bool.not_false,Bool.not_true];done)
  |(simp_all [wants];done)
end Ab
end Go.Proofs.YtpdckpifhniioaaGreat
end
section
set_option linter.unusedVariables false
set_option linter.unusedSimpArgs false
namespace Go.Proofs.YtpdckpifhniioaaGreat
open Go.RowKit
namespace Ab
attribute [local irreducible] CallOKd
def dA (l u c x:Int):Int:=imax (l+u-c-x) (0-(l+u-c-x))
def pc1 (l u c:Int):Bool:=bif decide (dA l u c l≤dA l u c u) then decide (dA l u c l≤dA l u c c) else false
def pc2 (l u c:Int):Bool:=decide (dA l u c u≤dA l u c c)
def paR (l u c:Int):Int:=Prd.M.paeth l u c
def meR (l u c:Int):Int:=Prd.M.median l u c
def mc1 (l u c:Int):Bool:=decide (c≥imax l u)
def mc2 (l u c:Int):Bool:=decide (c≤imin l u)
theorem u8wr (x:Int):IntKind.u8.wrap x=x % 256:=by
 simp[IntKind.wrap,IntKind.bits,IntKind.signed]
theorem td2 (b:UInt8):((b.toNat:Nat):Int).tdiv 2=((b / 2).toNat:Nat):=by
 rw[Int.tdiv_eq_ediv_of_nonneg (by omega),UInt8.toNat_div];rfl
theorem whalf8 (b:UInt8):IntKind.u8.wrap (((b.toNat:Nat):Int).tdiv 2)=((b / 2).toNat:Nat):=by
 have:=(b / 2).toNat_lt
 rw[td2,u8wr];omega
theorem wsub8 (a b:UInt8):IntKind.u8.wrap (((a.toNat:Nat):Int)-((b.toNat:Nat):Int))=((a-b).toNat:Nat):=by
 have:=a.toNat_lt;have:=b.toNat_lt
 rw[u8wr,UInt8.toNat_sub];omega
theorem wadd8 (a b:UInt8):IntKind.u8.wrap (((a.toNat:Nat):Int)+((b.toNat:Nat):Int))=((a+b).toNat:Nat):=by
 have:=a.toNat_lt;have:=b.toNat_lt
 rw[u8wr,UInt8.toNat_add];omega
theorem enters191:Enters Tryz.prog 191:=fun args w=>by go_simp
def cz_C191 (r g b:UInt8):Cz:={
 ct:=(fun f=>match f with
 |_=>none)
 eq:=(fun t=>match t with
 |_=>none)
 raw:=[10,15,19,23],sym:=[],nf:=[(10,.c (.l (ub ((r-b))))),(14,.c (.l (ub ((r-b) / 2)))),(15,.c (.l (ub ((b+(r-b) / 2))))),(19,.c (.l (ub ((g-(b+(r-b) / 2)))))),(22,.c (.l (ub ((g-(b+(r-b) / 2)) / 2)))),(23,.c (.l (ub ((b+(r-b) / 2+(g-(b+(r-b) / 2)) / 2)))))],ap:=true,off:=[],on:=[],lp:=fun _=>none,un:=0,wh:=[245,242]}
set_option maxRecDepth 100000 in
set_option maxHeartbeats 400000 in
theorem C191 (r g b:UInt8)  (n:Nat):CallOK Tryz.prog 191 [ag [ub r,ub g,ub b]] [] n (ag [ub (b+(r-b) / 2+(g-(b+(r-b) / 2)) / 2),ub (r-b),ub (g-(b+(r-b) / 2))]) [] 0:=by
 refine CallOK.any ?_ (by kernel_rfl) (by kernel_rfl) n
 refine call_ok (cx:=cz_C191 r g b) (nm:=[]) rfl Tryz.func191 (body:=Tryz.f191.body.getD .skip) rfl enters191 (by kernel_rfl) ?_
 apply of_eq (q:=Le (iv IntKind.u8 (IntKind.u8.wrap ((Nat.cast r.toNat:Int)-(Nat.cast b.toNat:Int)))) (iv IntKind.u8 (Nat.cast ((r-b).toNat):Int))∧(2:Int)≠0∧Le (iv IntKind.u8 (IntKind.u8.wrap (((Nat.cast ((r-b).toNat):Int)).tdiv 2))) (iv IntKind.u8 (Nat.cast (((r-b) / 2).toNat):Int))∧Le (iv IntKind.u8 (IntKind.u8.wrap ((Nat.cast b.toNat:Int)+(Nat.cast (((r-b) / 2).toNat):Int)))) (iv IntKind.u8 (Nat.cast ((b+(r-b) / 2).toNat):Int))∧Le (iv IntKind.u8 (IntKind.u8.wrap ((Nat.cast g.toNat:Int)-(Nat.cast ((b+(r-b) / 2).toNat):Int)))) (iv IntKind.u8 (Nat.cast ((g-(b+(r-b) / 2)).toNat):Int))∧(2:Int)≠0∧Le (iv IntKind.u8 (IntKind.u8.wrap (((Nat.cast ((g-(b+(r-b) / 2)).toNat):Int)).tdiv 2))) (iv IntKind.u8 (Nat.cast (((g-(b+(r-b) / 2)) / 2).toNat):Int))∧Le (iv IntKind.u8 (IntKind.u8.wrap ((Nat.cast ((b+(r-b) / 2).toNat):Int)+(Nat.cast (((g-(b+(r-b) / 2)) / 2).toNat):Int)))) (iv IntKind.u8 (Nat.cast ((b+(r-b) / 2+(g-(b+(r-b) / 2)) / 2).toNat):Int))∧0=0∧3=3∧Le (ag [Leaf.v (Value.int IntKind.u8 (Nat.cast ((b+(r-b) / 2+(g-(b+(r-b) / 2)) / 2).toNat):Int)),Leaf.v (Value.int IntKind.u8 (Nat.cast ((r-b).toNat):Int)),Leaf.v (Value.int IntKind.u8 (Nat.cast ((g-(b+(r-b) / 2)).toNat):Int))]) (ag [Leaf.v (Value.int IntKind.u8 (Nat.cast ((b+(r-b) / 2+(g-(b+(r-b) / 2)) / 2).toNat):Int)),Leaf.v (Value.int IntKind.u8 (Nat.cast ((r-b).toNat):Int)),Leaf.v (Value.int IntKind.u8 (Nat.cast ((g-(b+(r-b) / 2)).toNat):Int))])∧True) (by kernel_rfl)
 repeat' (first|exact trivial|with_reducible apply And.intro|(with_reducible apply HB.mk)|with_reducible intro _)
 all_goals first
  |(with_reducible assumption)
  |(with_reducible exact Le.refl _)
  |(with_reducible rfl)
  |(exact Le.int (wsub8 _ _))
  |(exact Le.int (wadd8 _ _))
  |(exact Le.int (whalf8 _))
  |(exact Le.of rfl)
  |(exact okw _ (by omega) (by omega))
  |(exact Le.of rfl)
  |(exact BkR.of rfl)
  |(unfold SlOK;omega)
  |(unfold SlOK;decide)
  |(unfold inByte;decide)
  |(simp only[*,Bool.and_self,Bool.not_false,Bool.not_true];done)
  |(simp_all [wants];done)
theorem enters205:Enters Tryz.prog 205:=fun args w=>by go_simp
def cz_C205:Cz:={
 ct:=(fun f=>match f with
 |_=>none)
 eq:=(fun t=>match t with
 |_=>none)
 raw:=[],sym:=[],nf:=[],ap:=true,off:=[],on:=[],lp:=fun _=>none,un:=0}
set_option maxRecDepth 100000 in
set_option maxHeartbeats 400000 in
theorem C205 (x:Int) (h : -100000≤x∧x≤100000) (n:Nat):CallOK Tryz.prog 205 [iv .i64 x] [] n (iv .i64 (imax x (0-x))) [] 0:=by
 refine CallOK.any ?_ (by kernel_rfl) (by kernel_rfl) n
 refine call_ok (cx:=cz_C205) (nm:=[]) rfl Tryz.func205 (body:=Tryz.f205.body.getD .skip) rfl enters205 (by kernel_rfl) ?_
 apply of_eq (q:=IntKind.i64.wrap (0-x)=0-x∧Le (iv IntKind.i64 (imax x (0-x))) (iv IntKind.i64 (imax x (0-x)))∧True) (by kernel_rfl)
 repeat' (first|exact trivial|with_reducible apply And.intro|(with_reducible apply HB.mk)|with_reducible intro _)
 all_goals first
  |(with_reducible assumption)
  |(with_reducible exact Le.refl _)
  |(with_reducible rfl)
  |((exact okw _ (by omega) (by omega)))
  |(exact Le.of rfl)
  |(exact okw _ (by omega) (by omega))
  |(exact Le.of rfl)
  |(exact BkR.of rfl)
  |(unfold SlOK;omega)
  |(unfold SlOK;decide)
  |(unfold inByte;decide)
  |(simp only[*,Bool.and_self,Bool.not_false,Bool.not_true];done)
  |(simp_all [wants];done)
theorem dA_eq (l u c x:Int):dA l u c x=Prd.M.dist l u c x:=by
 unfold dA Prd.M.dist imax
 split<;>omega
theorem pae_1 {l u c:Int} (h:pc1 l u c=true):l=paR l u c:=by
 unfold paR
 unfold pc1 at h
 rw[dA_eq,dA_eq,dA_eq] at h
 unfold Prd.M.paeth
 by_cases h1:Prd.M.dist l u c l≤Prd.M.dist l u c u
 ·rw[decide_eq_true h1] at h
  have h2:Prd.M.dist l u c l≤Prd.M.dist l u c c:=of_decide_eq_true h
  rw[if_neg (by omega),if_neg (by omega)]
 ·rw[decide_eq_false h1] at h;cases h
theorem pae_n {l u c:Int} (h:pc1 l u c=false):¬(Prd.M.dist l u c l≤Prd.M.dist l u c u∧Prd.M.dist l u c l≤Prd.M.dist l u c c):=by
 unfold pc1 at h
 rw[dA_eq,dA_eq,dA_eq] at h
 rintro ⟨h1,h2⟩
 rw[decide_eq_true h1,decide_eq_true h2] at h;cases h
theorem pae_2 {l u c:Int} (h:pc1 l u c=false) (k:pc2 l u c=true):u=paR l u c:=by
 unfold paR
 have h:=pae_n h
 unfold pc2 at k
 rw[dA_eq,dA_eq] at k
 have k:=of_decide_eq_true k
 unfold Prd.M.paeth
 by_cases h1:Prd.M.dist l u c u<Prd.M.dist l u c l
 ·rw[if_pos h1,if_neg (by omega)]
 ·exact absurd (show _∧_ from ⟨by omega,by omega⟩) h
theorem pae_3 {l u c:Int} (h:pc1 l u c=false) (k:pc2 l u c=false):c=paR l u c:=by
 unfold paR
 have h:=pae_n h
 unfold pc2 at k
 rw[dA_eq,dA_eq] at k
 have k:=of_decide_eq_false k
 unfold Prd.M.paeth
 by_cases h1:Prd.M.dist l u c u<Prd.M.dist l u c l
 ·rw[if_pos h1,if_pos (by omega)]
 ·rw[if_neg h1,if_pos (by omega)]
theorem enters192:Enters Tryz.prog 192:=fun args w=>by go_simp
def cz_C192 (l u c:Int):Cz:={
 ct:=(fun f=>match f with
 |205=>some fun _ _S ar=>match ar with | [.c (.l (.v (.int _ x)))]=>some {v:=iv .i64 (imax x (0-x)),rd:=[],wr:=[],nw:=0}|_=>none
 |_=>none)
 eq:=(fun t=>match t with
 |_=>none)
 raw:=[],sym:=[],nf:=[(35,bv (pc1 l u c)),(39,bv (pc2 l u c))],ap:=true,off:=[],on:=[],lp:=fun _=>none,un:=0}
set_option maxRecDepth 100000 in
set_option maxHeartbeats 400000 in
theorem C192 (l u c:Int) (hl:0≤l∧l≤255) (hu:0≤u∧u≤255) (hc:0≤c∧c≤255) (n:Nat):CallOK Tryz.prog 192 [iv .i64 l,iv .i64 u,iv .i64 c] [] n (iv .i64 (paR l u c)) [] 0:=by
 refine CallOK.any ?_ (by kernel_rfl) (by kernel_rfl) n
 refine call_ok (cx:=cz_C192 l u c) (nm:=[]) rfl Tryz.func192 (body:=Tryz.f192.body.getD .skip) rfl enters192 (by kernel_rfl) ?_
 apply of_eq (q:=IntKind.i64.wrap (l+u)=l+u∧IntKind.i64.wrap (l+u-c)=l+u-c∧IntKind.i64.wrap (l+u-c-l)=l+u-c-l∧CallOKd Tryz.prog 205 [] [iv IntKind.i64 (l+u-c-l)] [] 0 (iv IntKind.i64 (imax (l+u-c-l) (0-(l+u-c-l)))) [] 0∧IntKind.i64.wrap (l+u-c-u)=l+u-c-u∧CallOKd Tryz.prog 205 [] [iv IntKind.i64 (l+u-c-u)] [] 0 (iv IntKind.i64 (imax (l+u-c-u) (0-(l+u-c-u)))) [] 0∧IntKind.i64.wrap (l+u-c-c)=l+u-c-c∧CallOKd Tryz.prog 205 [] [iv IntKind.i64 (l+u-c-c)] [] 0 (iv IntKind.i64 (imax (l+u-c-c) (0-(l+u-c-c)))) [] 0∧(decide (imax (l+u-c-l) (0-(l+u-c-l))≤imax (l+u-c-u) (0-(l+u-c-u)))=true→decide (imax (l+u-c-l) (0-(l+u-c-l))≤imax (l+u-c-u) (0-(l+u-c-u)))=true∧decide (imax (l+u-c-l) (0-(l+u-c-l))≤imax (l+u-c-u) (0-(l+u-c-u)))=true∧True)∧(decide (imax (l+u-c-l) (0-(l+u-c-l))≤imax (l+u-c-u) (0-(l+u-c-u)))=true→decide (imax (l+u-c-l) (0-(l+u-c-l))≤imax (l+u-c-u) (0-(l+u-c-u)))=true)∧Le (bv (bif decide (imax (l+u-c-l) (0-(l+u-c-l))≤imax (l+u-c-u) (0-(l+u-c-u))) then decide (imax (l+u-c-l) (0-(l+u-c-l))≤imax (l+u-c-c) (0-(l+u-c-c))) else false)) (bv (pc1 l u c))∧HB (pc1 l u c) (Le (iv IntKind.i64 l) (iv IntKind.i64 (paR l u c))∧True) (Le (bv (decide (imax (l+u-c-u) (0-(l+u-c-u))≤imax (l+u-c-c) (0-(l+u-c-c))))) (bv (pc2 l u c))∧HB (pc2 l u c) (Le (iv IntKind.i64 u) (iv IntKind.i64 (paR l u c))∧True) (Le (iv IntKind.i64 c) (iv IntKind.i64 (paR l u c))∧True))) (by kernel_rfl)
 repeat' (first|exact trivial|with_reducible apply And.intro|(with_reducible apply HB.mk)|with_reducible intro _)
 all_goals first
  |(with_reducible assumption)
  |(with_reducible exact Le.refl _)
  |(with_reducible rfl)
  |(((with_reducible refine C205 _ ?_ _)<;>omega))
  |((exact okw _ (by omega) (by omega)))
  |(exact Le.bool rfl)
  |(with_reducible exact Le.int (pae_1 (l:=l) (u:=u) (c:=c) (by with_reducible assumption)))
  |(with_reducible exact Le.int (pae_2 (l:=l) (u:=u) (c:=c) (by with_reducible assumption) (by with_reducible assumption)))
  |(with_reducible exact Le.int (pae_3 (l:=l) (u:=u) (c:=c) (by with_reducible assumption) (by with_reducible assumption)))
  |(exact okw _ (by omega) (by omega))
  |(exact Le.of rfl)
  |(exact BkR.of rfl)
  |(unfold SlOK;omega)
  |(unfold SlOK;decide)
  |(unfold inByte;decide)
  |(simp only[*,Bool.and_self,Bool.not_false,Bool.not_true];done)
  |(simp_all [wants];done)
theorem med_1 {l u c:Int} (h:mc1 l u c=true):imin l u=meR l u c:=by
 unfold meR
 have h:=of_decide_eq_true h
 unfold imax at h
 unfold Prd.M.median imin
 split<;>(split at h<;>omega)
theorem med_2 {l u c:Int} (h:mc1 l u c=false) (k:mc2 l u c=true):imax l u=meR l u c:=by
 unfold meR
 have h:=of_decide_eq_false h
 have k:=of_decide_eq_true k
 unfold imax at h
 unfold imin at k
 unfold Prd.M.median imax
 split<;>(split at h<;>(split at k<;>omega))
theorem med_3 {l u c:Int} (h:mc1 l u c=false) (k:mc2 l u c=false):l+u-c=meR l u c:=by
 unfold meR
 have h:=of_decide_eq_false h
 have k:=of_decide_eq_false k
 unfold imax at h
 unfold imin at k
 unfold Prd.M.median
 split at h<;>(split at k<;>omega)
theorem enters193:Enters Tryz.prog 193:=fun args w=>by go_simp
def cz_C193 (l u c:Int):Cz:={
 ct:=(fun f=>match f with
 |_=>none)
 eq:=(fun t=>match t with
 |_=>none)
 raw:=[],sym:=[],nf:=[(11,bv (mc1 l u c)),(19,bv (mc2 l u c))],ap:=true,off:=[],on:=[],lp:=fun _=>none,un:=0}
set_option maxRecDepth 100000 in
set_option maxHeartbeats 400000 in
theorem C193 (l u c:Int) (hl:0≤l∧l≤255) (hu:0≤u∧u≤255) (hc:0≤c∧c≤255) (n:Nat):CallOK Tryz.prog 193 [iv .i64 l,iv .i64 u,iv .i64 c] [] n (iv .i64 (meR l u c)) [] 0:=by
 refine CallOK.any ?_ (by kernel_rfl) (by kernel_rfl) n
 refine call_ok (cx:=cz_C193 l u c) (nm:=[]) rfl Tryz.func193 (body:=Tryz.f193.body.getD .skip) rfl enters193 (by kernel_rfl) ?_
 apply of_eq (q:=Le (bv (decide (c≥imax l u))) (bv (mc1 l u c))∧HB (mc1 l u c) (Le (iv IntKind.i64 (imin l u)) (iv IntKind.i64 (meR l u c))∧True) (Le (bv (decide (c≤imin l u))) (bv (mc2 l u c))∧HB (mc2 l u c) (Le (iv IntKind.i64 (imax l u)) (iv IntKind.i64 (meR l u c))∧True) (IntKind.i64.wrap (l+u)=l+u∧IntKind.i64.wrap (l+u-c)=l+u-c∧Le (iv IntKind.i64 (l+u-c)) (iv IntKind.i64 (meR l u c))∧True))) (by kernel_rfl)
 repeat' (first|exact trivial|with_reducible apply And.intro|(with_reducible apply HB.mk)|with_reducible intro _)
 all_goals first
  |(with_reducible assumption)
  |(with_reducible exact Le.refl _)
  |(with_reducible rfl)
  |((exact okw _ (by omega) (by omega)))
  |(exact Le.bool rfl)
  |(with_reducible exact Le.int (med_1 (l:=l) (u:=u) (c:=c) (by with_reducible assumption)))
  |(with_reducible exact Le.int (med_2 (l:=l) (u:=u) (c:=c) (by with_reducible assumption) (by with_reducible assumption)))
  |(with_reducible exact Le.int (med_3 (l:=l) (u:=u) (c:=c) (by with_reducible assumption) (by with_reducible assumption)))
  |(exact okw _ (by omega) (by omega))
  |(exact Le.of rfl)
  |(exact BkR.of rfl)
  |(unfold SlOK;omega)
  |(unfold SlOK;decide)
  |(unfold inByte;decide)
  |(simp only[*,Bool.and_self,Bool.not_false,Bool.not_true];done)
  |(simp_all [wants];done)
end Ab
end Go.Proofs.YtpdckpifhniioaaGreat
end
section
set_option linter.unusedVariables false
set_option linter.unusedSimpArgs false
namespace Go.Proofs.YtpdckpifhniioaaGreat
open Go.RowKit
namespace Ab
attribute [local irreducible] CallOKd
attribute [local irreducible] tl rws
theorem tl_put (f:Nat→UInt8) {j:Nat} (h:j<256) (x:UInt8):splice (tl f) j [ub x]=tl (Prd.M.put f j x):=by
 apply List.ext_getElem?
 intro i
 simp only[splice]
 by_cases hi:i<256
 ·rw[tl_at _ hi]
  by_cases e:j=i
  ·subst e
   rw[List.getElem?_set_self (by rw[tl_len];exact h)]
   simp[Prd.M.put]
  ·rw[List.getElem?_set_ne e,tl_at _ hi]
   simp[Prd.M.put,show i≠j from fun q=>e q.symm]
 ·rw[tl_none _ (by omega),List.getElem?_eq_none (by rw[List.length_set,tl_len];omega)]
theorem pl_set (t:Nat→UInt8) {k:Nat} (hk:k<64):splice (splice (splice (splice (tl (Prd.plN t k)) k [ub (t (4*k+2)+(t (4*k)-t (4*k+2)) / 2+(t (4*k+1)-(t (4*k+2)+(t (4*k)-t (4*k+2)) / 2)) / 2)]) (64+k) [ub (t (4*k)-t (4*k+2))]) (128+k) [ub (t (4*k+1)-(t (4*k+2)+(t (4*k)-t (4*k+2)) / 2))]) (192+k) [ub (t (4*k+3))]=tl (Prd.plN t (k+1)):=by
 rw[tl_put _ (by omega),tl_put _ (by omega),tl_put _ (by omega),tl_put _ (by omega)]
 exact tl_ext fun i hi=>Prd.plN_put t k hk i hi
theorem pl_all (t:Nat→UInt8):tl (Prd.plN t 64)=tl (Prd.plf t):=tl_ext fun i hi=>Prd.plN_full t i
theorem pl_none (t:Nat→UInt8):zT256=tl (Prd.plN t 0):=by rw[zT256_eq];exact tl_ext fun i hi=>by rw[Prd.plN_zero];rfl
def plnN (t:Nat→UInt8) (k:Nat):Nat→UInt8:=Prd.plN t k
def plnF (t:Nat→UInt8):Nat→UInt8:=Prd.plf t
def I166 (t:Nat→UInt8) (k:Nat):St:=⟨[(4,iv .i64 (k:Nat)),(3,.c (.l (.p 2 0))),(2,.c (.l (.p 1 0))),(1,.c (.l (.p 0 0)))],[(0,some ⟨tl t,.t 38⟩),(1,some ⟨tl zT,.t 211⟩),(2,some ⟨tl (plnN t k),.t 211⟩)],3,48,[2,1,0],(0)⟩
theorem pl_setR (t:Nat→UInt8) {k:Nat} (hk:k<64):splice (splice (splice (splice (tl (plnN t k)) (0+Int.toNat 0*64+((k:Nat):Int).toNat*1) [ub (t (4*k+2)+(t (4*k)-t (4*k+2)) / 2+(t (4*k+1)-(t (4*k+2)+(t (4*k)-t (4*k+2)) / 2)) / 2)]) (0+Int.toNat 1*64+((k:Nat):Int).toNat*1) [ub (t (4*k)-t (4*k+2))]) (0+Int.toNat 2*64+((k:Nat):Int).toNat*1) [ub (t (4*k+1)-(t (4*k+2)+(t (4*k)-t (4*k+2)) / 2))]) (0+Int.toNat 3*64+((k:Nat):Int).toNat*1) [ub (t (4*k+3))]=tl (plnN t (k+1)):=by
 rw[show (0+Int.toNat 0*64+((k:Nat):Int).toNat*1)=k by omega,show (0+Int.toNat 1*64+((k:Nat):Int).toNat*1)=64+k by omega,show (0+Int.toNat 2*64+((k:Nat):Int).toNat*1)=128+k by omega,show (0+Int.toNat 3*64+((k:Nat):Int).toNat*1)=192+k by omega]
 exact pl_set t hk
def cz_R166 (t:Nat→UInt8) (k:Nat):Cz:={
 ct:=(fun f=>match f with
 |191=>some fun _ _S ar=>match ar with | [.c (.agg _)]=>some {v:=ag [ub (t (4*k+2)+(t (4*k)-t (4*k+2)) / 2+(t (4*k+1)-(t (4*k+2)+(t (4*k)-t (4*k+2)) / 2)) / 2),ub (t (4*k)-t (4*k+2)),ub (t (4*k+1)-(t (4*k+2)+(t (4*k)-t (4*k+2)) / 2))],rd:=[],wr:=[],nw:=0}|_=>none
 |_=>none)
 eq:=(fun t=>match t with
 |_=>none)
 raw:=[],sym:=[0,12,14,16,18,20,22,29,34,39,42,44,46],nf:=[(14,.c (.l (ub (t (4*k))))),(18,.c (.l (ub (t (4*k+1))))),(22,.c (.l (ub (t (4*k+2))))),(27,.c (.l (ub ((t (4*k+2)+(t (4*k)-t (4*k+2)) / 2+(t (4*k+1)-(t (4*k+2)+(t (4*k)-t (4*k+2)) / 2)) / 2))))),(32,.c (.l (ub ((t (4*k)-t (4*k+2)))))),(37,.c (.l (ub ((t (4*k+1)-(t (4*k+2)+(t (4*k)-t (4*k+2)) / 2)))))),(44,.c (.l (ub (t (4*k+3)))))],ap:=true,off:=[],on:=[],lp:=fun _=>none,un:=0,wh:=[242]}
set_option maxRecDepth 100000 in
theorem R166 (t:Nat→UInt8) (k:Nat)  (K:Exit→St→Prop) (h:HB (decide ((Nat.cast k:Int)<64)) (InR ((Nat.cast k:Int)) 64∧0+((Nat.cast k:Int)).toNat*4+0<256∧Le (SV.c (Cp.l ((tl t).getD (0+((Nat.cast k:Int)).toNat*4+0) Leaf.u))) (iv IntKind.u8 (Nat.cast ((t (4*k)).toNat):Int))∧InR ((Nat.cast k:Int)) 64∧0+((Nat.cast k:Int)).toNat*4+1<256∧Le (SV.c (Cp.l ((tl t).getD (0+((Nat.cast k:Int)).toNat*4+1) Leaf.u))) (iv IntKind.u8 (Nat.cast ((t (4*k+1)).toNat):Int))∧InR ((Nat.cast k:Int)) 64∧0+((Nat.cast k:Int)).toNat*4+2<256∧Le (SV.c (Cp.l ((tl t).getD (0+((Nat.cast k:Int)).toNat*4+2) Leaf.u))) (iv IntKind.u8 (Nat.cast ((t (4*k+2)).toNat):Int))∧CallOKd Tryz.prog 191 [] [ag [Leaf.v (Value.int IntKind.u8 (Nat.cast ((t (4*k)).toNat):Int)),Leaf.v (Value.int IntKind.u8 (Nat.cast ((t (4*k+1)).toNat):Int)),Leaf.v (Value.int IntKind.u8 (Nat.cast ((t (4*k+2)).toNat):Int))]] [] 3 (ag [Leaf.v (Value.int IntKind.u8 (Nat.cast ((t (4*k+2)+(t (4*k)-t (4*k+2)) / 2+(t (4*k+1)-(t (4*k+2)+(t (4*k)-t (4*k+2)) / 2)) / 2).toNat):Int)),Leaf.v (Value.int IntKind.u8 (Nat.cast ((t (4*k)-t (4*k+2)).toNat):Int)),Leaf.v (Value.int IntKind.u8 (Nat.cast ((t (4*k+1)-(t (4*k+2)+(t (4*k)-t (4*k+2)) / 2)).toNat):Int))]) [] 0∧3≤3∧0=0∧3=3∧Le (iv IntKind.u8 (Nat.cast ((t (4*k+2)+(t (4*k)-t (4*k+2)) / 2+(t (4*k+1)-(t (4*k+2)+(t (4*k)-t (4*k+2)) / 2)) / 2).toNat):Int)) (iv IntKind.u8 (Nat.cast ((t (4*k+2)+(t (4*k)-t (4*k+2)) / 2+(t (4*k+1)-(t (4*k+2)+(t (4*k)-t (4*k+2)) / 2)) / 2).toNat):Int))∧InR ((Nat.cast k:Int)) 64∧0+Int.toNat 0*64+((Nat.cast k:Int)).toNat*1+1≤256∧Le (iv IntKind.u8 (Nat.cast ((t (4*k)-t (4*k+2)).toNat):Int)) (iv IntKind.u8 (Nat.cast ((t (4*k)-t (4*k+2)).toNat):Int))∧InR ((Nat.cast k:Int)) 64∧0+Int.toNat 1*64+((Nat.cast k:Int)).toNat*1+1≤(splice (tl (plnN t k)) (0+Int.toNat 0*64+((Nat.cast k:Int)).toNat*1) [Leaf.v (Value.int IntKind.u8 (Nat.cast ((t (4*k+2)+(t (4*k)-t (4*k+2)) / 2+(t (4*k+1)-(t (4*k+2)+(t (4*k)-t (4*k+2)) / 2)) / 2).toNat):Int))]).length∧Le (iv IntKind.u8 (Nat.cast ((t (4*k+1)-(t (4*k+2)+(t (4*k)-t (4*k+2)) / 2)).toNat):Int)) (iv IntKind.u8 (Nat.cast ((t (4*k+1)-(t (4*k+2)+(t (4*k)-t (4*k+2)) / 2)).toNat):Int))∧InR ((Nat.cast k:Int)) 64∧0+Int.toNat 2*64+((Nat.cast k:Int)).toNat*1+1≤(splice (splice (tl (plnN t k)) (0+Int.toNat 0*64+((Nat.cast k:Int)).toNat*1) [Leaf.v (Value.int IntKind.u8 (Nat.cast ((t (4*k+2)+(t (4*k)-t (4*k+2)) / 2+(t (4*k+1)-(t (4*k+2)+(t (4*k)-t (4*k+2)) / 2)) / 2).toNat):Int))]) (0+Int.toNat 1*64+((Nat.cast k:Int)).toNat*1) [Leaf.v (Value.int IntKind.u8 (Nat.cast ((t (4*k)-t (4*k+2)).toNat):Int))]).length∧InR ((Nat.cast k:Int)) 64∧0+((Nat.cast k:Int)).toNat*4+3<256∧Le (SV.c (Cp.l ((tl t).getD (0+((Nat.cast k:Int)).toNat*4+3) Leaf.u))) (iv IntKind.u8 (Nat.cast ((t (4*k+3)).toNat):Int))∧InR ((Nat.cast k:Int)) 64∧0+Int.toNat 3*64+((Nat.cast k:Int)).toNat*1+1≤(splice (splice (splice (tl (plnN t k)) (0+Int.toNat 0*64+((Nat.cast k:Int)).toNat*1) [Leaf.v (Value.int IntKind.u8 (Nat.cast ((t (4*k+2)+(t (4*k)-t (4*k+2)) / 2+(t (4*k+1)-(t (4*k+2)+(t (4*k)-t (4*k+2)) / 2)) / 2).toNat):Int))]) (0+Int.toNat 1*64+((Nat.cast k:Int)).toNat*1) [Leaf.v (Value.int IntKind.u8 (Nat.cast ((t (4*k)-t (4*k+2)).toNat):Int))]) (0+Int.toNat 2*64+((Nat.cast k:Int)).toNat*1) [Leaf.v (Value.int IntKind.u8 (Nat.cast ((t (4*k+1)-(t (4*k+2)+(t (4*k)-t (4*k+2)) / 2)).toNat):Int))]).length∧IntKind.i64.wrap ((Nat.cast k:Int)+1)=(Nat.cast k:Int)+1∧RoundTo Tryz.prog ((getLoop 3 (Tryz.f166.body.getD Code.skip)).getD Code.skip) 3 (wkK 3 K) (St.mk [(1,SV.c (Cp.l (Leaf.p 0 0))),(2,SV.c (Cp.l (Leaf.p 1 0))),(3,SV.c (Cp.l (Leaf.p 2 0))),(4,iv IntKind.i64 ((Nat.cast k:Int)+1))] [(0,some (Blk.mk (tl t) (BT.t 38))),(1,some (Blk.mk (tl zT) (BT.t 211))),(2,some (Blk.mk (splice (splice (splice (splice (tl (plnN t k)) (0+Int.toNat 0*64+((Nat.cast k:Int)).toNat*1) [Leaf.v (Value.int IntKind.u8 (Nat.cast ((t (4*k+2)+(t (4*k)-t (4*k+2)) / 2+(t (4*k+1)-(t (4*k+2)+(t (4*k)-t (4*k+2)) / 2)) / 2).toNat):Int))]) (0+Int.toNat 1*64+((Nat.cast k:Int)).toNat*1) [Leaf.v (Value.int IntKind.u8 (Nat.cast ((t (4*k)-t (4*k+2)).toNat):Int))]) (0+Int.toNat 2*64+((Nat.cast k:Int)).toNat*1) [Leaf.v (Value.int IntKind.u8 (Nat.cast ((t (4*k+1)-(t (4*k+2)+(t (4*k)-t (4*k+2)) / 2)).toNat):Int))]) (0+Int.toNat 3*64+((Nat.cast k:Int)).toNat*1) [Leaf.v (Value.int IntKind.u8 (Nat.cast ((t (4*k+3)).toNat):Int))]) (BT.t 211))),(3,some (Blk.mk [Leaf.v (Value.int IntKind.u8 (Nat.cast ((t (4*k+2)+(t (4*k)-t (4*k+2)) / 2+(t (4*k+1)-(t (4*k+2)+(t (4*k)-t (4*k+2)) / 2)) / 2).toNat):Int)),Leaf.v (Value.int IntKind.u8 (Nat.cast ((t (4*k)-t (4*k+2)).toNat):Int)),Leaf.v (Value.int IntKind.u8 (Nat.cast ((t (4*k+1)-(t (4*k+2)+(t (4*k)-t (4*k+2)) / 2)).toNat):Int))] (BT.t 242)))] 4 48 [2,2,2,2,3,3,2,1,0] 0)) (wkK 3 K (Exit.exit 0) (St.mk [(1,SV.c (Cp.l (Leaf.p 0 0))),(2,SV.c (Cp.l (Leaf.p 1 0))),(3,SV.c (Cp.l (Leaf.p 2 0))),(4,iv IntKind.i64 (Nat.cast k:Int))] [(0,some (Blk.mk (tl t) (BT.t 38))),(1,some (Blk.mk (tl zT) (BT.t 211))),(2,some (Blk.mk (tl (plnN t k)) (BT.t 211))),(3,none)] 3 48 [2,1,0] 0))):WPL Tryz.prog ((getLoop 3 (Tryz.f166.body.getD .skip)).getD .skip) (I166 t k) (wkK 3 K):=
 wp_roundT [1,2,3,4] [0,1,2,3] (cx:=cz_R166 t k) rfl (of_eq (by kernel_rfl) h)
set_option maxRecDepth 100000 in
set_option maxHeartbeats 4000000 in
theorem L166 (t:Nat→UInt8)  : ∀(m k:Nat),64-k=m→k≤64→∀(K:Exit→St→Prop),K (.exit 0) (I166 t 64)→WPL Tryz.prog ((getLoop 3 (Tryz.f166.body.getD .skip)).getD .skip) (I166 t k) (wkK 3 K)
 |0,k,hm,hk,K,hK=>by
  have e:k=64:=by omega
  subst e
  refine R166 t _ K (HB.mk (fun hne=>absurd (of_decide_eq_true hne) (by omega)) (fun he=>?_))
  exact wkK.to (I166 t _) (Nat.le_refl _) (by kernel_rfl) (wkE_cons (LeN.sl (by kernel_rfl) rfl) (wkE_cons (LeN.sl (by kernel_rfl) rfl) (wkE_cons (LeN.sl (by kernel_rfl) rfl) (wkE_cons (LeN.sl (by kernel_rfl) rfl) trivial)))) (wkH_cons (BkN.plain (cs:=tl t) (b:=.t 38) (by kernel_rfl) (rfl) (plain_tl t) (by kernel_rfl)) (wkH_cons (BkN.plain (cs:=tl zT) (b:=.t 211) (by kernel_rfl) (rfl) (plain_tl _) (by kernel_rfl)) (wkH_cons (BkN.plain (cs:=tl (plnN t 64)) (b:=.t 211) (by kernel_rfl) (rfl) (plain_tl _) (by kernel_rfl)) trivial))) hK
 |m+1,k,hm,hk,K,hK=>by
  refine R166 t k K (HB.mk (fun hne=>?_) (fun he=>absurd (show ((k:Nat):Int)<(64:Nat) by omega) (of_decide_eq_false he)))
  have hlt:k<64:=by omega
  repeat' (first|exact trivial|with_reducible apply And.intro|(with_reducible apply HB.mk)|with_reducible intro _)
  all_goals first
   |(with_reducible assumption)
   |(with_reducible exact Le.refl _)
   |(with_reducible rfl)
   |((with_reducible exact C191 _ _ _ _))
   |(omega)
   |(exact ⟨by omega,by omega⟩)
   |((rw[tl_len];omega))
   |((simp only[splice_length,tl_len];omega))
   |((refine Le.of ?_;simp only[tn,Nat.zero_add,Nat.add_zero];first|exact tl_sc0 t hlt|exact tl_sc t hlt _ (by decide)))
   |((with_reducible refine RoundTo.toN 4 (I166 t (k+1)) ?_ ?_ ?_ ?_ ?_);exact Nat.le_refl _;kernel_rfl;exact (wkE_cons (LeN.sl (by kernel_rfl) rfl) (wkE_cons (LeN.sl (by kernel_rfl) rfl) (wkE_cons (LeN.sl (by kernel_rfl) rfl) (wkE_cons (LeN.sl (by kernel_rfl) rfl) trivial))));exact (wkH_cons (BkN.plain (cs:=tl t) (b:=.t 38) (by kernel_rfl) (rfl) (plain_tl t) (by kernel_rfl)) (wkH_cons (BkN.plain (cs:=tl zT) (b:=.t 211) (by kernel_rfl) (rfl) (plain_tl _) (by kernel_rfl)) (wkH_cons (BkN.plain (cs:=splice (splice (splice (splice (tl (plnN t k)) (0+Int.toNat 0*64+((k:Nat):Int).toNat*1) [ub (t (4*k+2)+(t (4*k)-t (4*k+2)) / 2+(t (4*k+1)-(t (4*k+2)+(t (4*k)-t (4*k+2)) / 2)) / 2)]) (0+Int.toNat 1*64+((k:Nat):Int).toNat*1) [ub (t (4*k)-t (4*k+2))]) (0+Int.toNat 2*64+((k:Nat):Int).toNat*1) [ub (t (4*k+1)-(t (4*k+2)+(t (4*k)-t (4*k+2)) / 2))]) (0+Int.toNat 3*64+((k:Nat):Int).toNat*1) [ub (t (4*k+3))]) (b:=.t 211) (by kernel_rfl) (pl_setR t hlt) (plain_tl _) (by kernel_rfl)) trivial)));exact (L166 t  m (k+1) (by omega) (by omega) K hK))
   |(exact okw _ (by omega) (by omega))
   |(exact Le.of rfl)
   |(exact BkR.of rfl)
   |(unfold SlOK;omega)
   |(unfold SlOK;decide)
   |(unfold inByte;decide)
   |(simp only[*,Bool.and_self,Bool.not_false,Bool.not_true];done)
   |(simp_all [wants];done)
theorem enters166:Enters Tryz.prog 166:=fun args w=>by go_simp
def cz_C166 (t:Nat→UInt8):Cz:={
 ct:=(fun f=>match f with
 |_=>none)
 eq:=(fun t=>match t with
 |_=>none)
 raw:=[],sym:=[],nf:=[(47,.c (.agg (tl (plnF t))))],ap:=true,off:=[],on:=[],lp:=fun r=>match r with|3=>some (fun _ K=>K (.exit 0) (I166 t 64))|_=>none,un:=0,wh:=[38,211]}
set_option maxRecDepth 100000 in
set_option maxHeartbeats 400000 in
theorem C166 (t:Nat→UInt8)  (n:Nat):CallOK Tryz.prog 166 [.c (.agg (tl t))] [] n (.c (.agg (tl (plnF t)))) [] 0:=by
 refine CallOK.any ?_ (by kernel_rfl) (by kernel_rfl) n
 refine call_ok (cx:=cz_C166 t) (nm:=[]) rfl Tryz.func166 (body:=Tryz.f166.body.getD .skip) rfl enters166 (by kernel_rfl) ?_
 apply of_eq (q:=0=0∧256=256∧(LoopOK Tryz.prog ((getLoop 3 (Tryz.f166.body.getD .skip)).getD .skip) (St.mk [(4,iv IntKind.i64 0),(3,SV.c (Cp.l (Leaf.p 2 0))),(6,ag zT256),(2,SV.c (Cp.l (Leaf.p 1 0))),(1,SV.c (Cp.l (Leaf.p 0 0))),(0,ag (tl t))] [(2,some (Blk.mk zT256 (BT.t 211))),(2,some (Blk.mk zT256 (BT.t 211))),(1,some (Blk.mk zT256 (BT.t 211))),(0,some (Blk.mk (tl t) (BT.t 38)))] 3 48 [2,2,1,0] 0) fun K=>K (Exit.exit 0) (I166 t 64))∧Le (ag (List.take 256 (tl (plnN t 64)))) (ag (tl (plnF t)))∧0=0∧256=256∧Le (ag (tl (plnF t))) (ag (tl (plnF t)))∧True) (by kernel_rfl)
 repeat' (first|exact trivial|with_reducible apply And.intro|(with_reducible apply HB.mk)|with_reducible intro _)
 all_goals first
  |(with_reducible assumption)
  |(with_reducible exact Le.refl _)
  |(with_reducible rfl)
  |(exact LoopOK.mk (I166 t 0) rfl (by kernel_rfl) (wkE_cons (LeN.sl (by kernel_rfl) rfl) (wkE_cons (LeN.sl (by kernel_rfl) rfl) (wkE_cons (LeN.sl (by kernel_rfl) rfl) (wkE_cons (LeN.sl (by kernel_rfl) rfl) trivial)))) (wkH_cons (BkN.plain (cs:=tl t) (b:=.t 38) (by kernel_rfl) (rfl) (plain_tl t) (by kernel_rfl)) (wkH_cons (BkN.plain (cs:=zT256) (b:=.t 211) (by kernel_rfl) (zT256_eq) (plain_tl _) (by kernel_rfl)) (wkH_cons (BkN.plain (cs:=zT256) (b:=.t 211) (by kernel_rfl) (pl_none t) (plain_tl _) (by kernel_rfl)) trivial))) (fun K hT=>L166 t  _ 0 rfl (by first|decide|omega) K hT))
  |((refine Le.of ?_;rw[show tl (plnN t 64)=tl (plnF t) from pl_all t,tl_take];done))
  |((refine Le.of ?_;rw[tl_take];done))
  |(exact okw _ (by omega) (by omega))
  |(exact Le.of rfl)
  |(exact BkR.of rfl)
  |(unfold SlOK;omega)
  |(unfold SlOK;decide)
  |(unfold inByte;decide)
  |(simp only[*,Bool.and_self,Bool.not_false,Bool.not_true];done)
  |(simp_all [wants];done)
end Ab
end Go.Proofs.YtpdckpifhniioaaGreat
end
