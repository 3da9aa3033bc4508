/- Part 23 of what CodecPacks rests on. -/
import Derived.Laws.StructEq
import Derived.Deep.QuietTactic
import Derived.BigQuiet
import Derived.Deep.RegionWith
import Derived.Test.YtpdckpifhniioaaGreatVd
import Derived.Test.YtpdckpifhniioaaGreatVl
import Derived.Test.YtpdckpifhniioaaGreatVm
import Derived.Test.YtpdckpifhniioaaGreatVr
import Derived.Test.YtpdckpifhniioaaGreatVv
section
set_option linter.unusedVariables false
set_option linter.unusedSimpArgs false
namespace Go.Proofs.YtpdckpifhniioaaGreat
open Go.RowKit
namespace Ab
attribute [local irreducible] CallOKd
attribute [local irreducible] tl rws
def IZ46 (l:List TA) (j0:Nat) (k:Nat):St:=⟨[(12,iv .i64 (k:Nat)),(11,iv .i64 (l.length:Nat)),(10,.c (.l (.o 0 l.length))),(1,.c (.l (.p 1 0)))],[(0,some ⟨rws l,.r 42 258 0⟩),(1,some ⟨[.o 0 l.length],.t 26⟩)],2,52,[2,1],(1)⟩
theorem not_t2 {b:Bool} (h:b=false):(!b)=true:=by rw[h];rfl
theorem not_f2 {b:Bool} (h:b=true):(!b)=false:=by rw[h];rfl
theorem entries_O (l:List TA) (gl:Good l) (id n:Nat) (hi:id<n):CallOK Tryz.prog 20 [.c (.agg [.o id l.length])] [(id,⟨rws l,.r 42 258 id⟩)] n (.c (.l (.o n (l.map enO).length))) [(n,⟨ens (l.map enO),.r 59 8 n⟩)] 1:=by
 rw[List.length_map];exact entries_any l gl id n hi
theorem refwrite_O (l:List TA) (gl:Good l) (id n:Nat) (hi:id<n):CallOK Tryz.prog 21 [.c (.l (.o id (l.map enO).length))] [(id,⟨ens (l.map enO),.r 59 8 id⟩)] n (.c (.l (.v (.string (packB l))))) [] 0:=by
 rw[pack_write];exact refwrite_any _ (good_goodE gl) id n hi
attribute [local irreducible] packB
theorem enters13:Enters Tryz.prog 13:=fun args w=>by go_simp
def cz_C13r (l:List TA):Cz:={
 ct:=(fun f=>match f with
 |20=>some fun _ _S ar=>match ar with | [.c (.agg [.o i _])]=>some {v:=.c (.l (.o _S.n (l.map enO).length)),rd:=[i],wr:=[(_S.n,⟨ens (l.map enO),.r 59 8 _S.n⟩)],nw:=1}|_=>none
 |21=>some fun _ _S ar=>match ar with | [.c (.l (.o i _))]=>some {v:=.c (.l (.v (.string (packB l)))),rd:=[i],wr:=[],nw:=0}|_=>none
 |56=>some fun _ _S ar=>match ar with | [.c (.agg [.o i _])]=>some {v:=bv true,rd:=[i],wr:=[],nw:=0}|_=>none
 |_=>none)
 eq:=(fun t=>match t with
 |_=>none)
 raw:=[],sym:=[],nf:=[],ap:=true,off:=[],on:=[],lp:=fun _=>none,un:=0,wh:=[26,32]}
set_option maxRecDepth 100000 in
set_option maxHeartbeats 400000 in
theorem C13r (l:List TA) (gl:Good l):CallOK Tryz.prog 13 [.c (.agg [.o 0 l.length])] [(0,⟨rws l,.r 42 258 0⟩)] 1 (ag [.v (.string (packB l)),li 0]) [] 0:=by
 refine call_ok (cx:=cz_C13r l) (nm:=[]) rfl Tryz.func13 (body:=Tryz.f13.body.getD .skip) rfl enters13 (by unfold inck;simp only[List.all_cons,List.all_nil,blkLt_plain (plain_rws l) (show (BT.rn (rnId 1 0 []) (.r 42 258 0)).isSome=true from rfl),Bool.and_true,Bool.true_and];kernel_rfl) ?_
 apply of_eq (q:=CallOKd Tryz.prog 56 [] [ag [Leaf.o 0 l.length]] [(0,Blk.mk (rws l) (BT.r 42 258 0))] 3 (bv true) [] 0∧CallOKd Tryz.prog 20 [] [ag [Leaf.o 0 l.length]] [(0,Blk.mk (rws l) (BT.r 42 258 0))] 3 (SV.c (Cp.l (Leaf.o 3 (List.map enO l).length))) [(3,Blk.mk (ens (List.map enO l)) (BT.r 59 8 3))] 1∧CallOKd Tryz.prog 21 [] [SV.c (Cp.l (Leaf.o 3 (List.map enO l).length))] [(3,Blk.mk (ens (List.map enO l)) (BT.r 59 8 3))] 4 (SV.c (Cp.l (Leaf.v (Value.string (packB l))))) [] 0∧0=0∧2=2∧Le (ag [Leaf.v (Value.string (packB l)),li 0]) (ag [Leaf.v (Value.string (packB l)),li 0])∧True) (by kernel_rfl)
 repeat' (first|exact trivial|with_reducible apply And.intro|(with_reducible apply HB.mk)|with_reducible intro _)
 all_goals first
  |(with_reducible assumption)
  |(with_reducible exact Le.refl _)
  |(with_reducible rfl)
  |((with_reducible exact entries_O l gl _ _ (by omega)))
  |((with_reducible exact refwrite_O l gl _ _ (by omega)))
  |((with_reducible exact C56g _ gl _ _ (by omega)))
  |(omega)
  |(exact Le.of (by kernel_rfl))
  |(exact okw _ (by omega) (by omega))
  |(exact Le.of rfl)
  |(exact BkR.of rfl)
  |(unfold SlOK;omega)
  |(unfold SlOK;decide)
  |(unfold inByte;decide)
  |(simp only[*,Bool.and_self,Bool.not_false,Bool.not_true];done)
  |(simp_all [wants];done)
theorem refpack_any (l:List TA) (gl:Good l) (id n:Nat) (hi:id<n):CallOK Tryz.prog 13 [.c (.agg [.o id l.length])] [(id,⟨rws l,.r 42 258 id⟩)] n (ag [.v (.string (packB l)),li 0]) [] 0:=by
 have key:=CallOK.at1 (C13r l gl) id n hi
 simp only[List.map_cons,List.map_nil,Blk.ren,SV.ren,Cp.ren,Leaf.ren,BT.ren,ren_plain (plain_rws _)] at key
 exact key
structure Bad1 (l:List TA) (j:Nat):Prop where
 len:l.length≤1024
 lt:j<l.length
 z:zeroT (at' l j).t=true
 inn:∀k,k≤j→inB (at' l k).X (at' l k).Y=true
 cl:∀k,k<j→sameT (clnT (at' l k).t) (at' l k).t=true
 ord:∀k,k+1≤j→(at' l k).Y<(at' l (k+1)).Y∨((at' l k).Y=(at' l (k+1)).Y∧(at' l k).X<(at' l (k+1)).X)
theorem bad_le {l:List TA} {j k:Nat} (h:Bad1 l j) (ha:∀i,i<k→(!zeroT (at' l i).t)=true):k≤j:=by
 rcases Nat.lt_or_ge j k with q|q
 ·have:=ha j q
  rw[h.z] at this;cases this
 ·exact q
theorem bad_lt {l:List TA} {j k:Nat} (h:Bad1 l j) (hk:k≤j) (hz:zeroT (at' l k).t=false):k<j:=by
 rcases Nat.eq_or_lt_of_le hk with q|q
 ·subst q;rw[h.z] at hz;cases hz
 ·exact q
theorem bad_prev {l:List TA} {j k:Nat} (h:Bad1 l j) (hk:k≤j) (h0:0<k):ordI (at' l (k-1)).X (at' l (k-1)).Y (at' l k).X (at' l k).Y<0:=by
 have:=h.ord (k-1) (by omega)
 rw[show k-1+1=k by omega] at this
 exact ord_lt this
theorem gz {z:Bool} {k:Nat} (h:(!z&&decide (((k:Nat):Int)>0))=true):0<k∧z=false:=by
 cases z
 ·simp at h;exact ⟨by omega,rfl⟩
 ·cases h
theorem gz1 {z:Bool} (h:(!z)=true):z=false:=not_f h
theorem zl (t:Nat→UInt8):zeroT (lsB (tl t))=zeroT t:=sameT_congr (fun i hi=>by unfold clnT;rw[lsB_tl _ hi,lsB_tl _ (by omega)]) (fun i hi=>rfl)
def Q46 (l:List TA) (k:Nat):St:=⟨[(2,bv false)],[(0,some ⟨rws l,.r 42 258 0⟩),(1,some ⟨[.o 0 l.length],.t 26⟩)],2,52,[2,1],(1)⟩
def cz_R46z (l:List TA) (j0:Nat) (k:Nat):Cz:={
 ct:=(fun f=>match f with
 |66=>some fun _ _S ar=>match ar with | [.c (.agg l)]=>some {v:=.c (.agg (tl (clnT (lsB l)))),rd:=[],wr:=[],nw:=0}|_=>none
 |107=>some fun _ _S ar=>match ar with | [.c (.agg [.v (.int _ ax),.v (.int _ ay)])]=>some {v:=bv (inB ax ay),rd:=[],wr:=[],nw:=0}|_=>none
 |108=>some fun _ _S ar=>match ar with | [.c (.agg l)]=>some {v:=bv (zeroT (lsB l)),rd:=[],wr:=[],nw:=0}|_=>none
 |109=>some fun _ _S ar=>match ar with | [.c (.agg [.v (.int _ ax),.v (.int _ ay)]),.c (.agg [.v (.int _ cx),.v (.int _ cy)])]=>some {v:=iv .i64 (ordI ax ay cx cy),rd:=[],wr:=[],nw:=0}|_=>none
 |_=>none)
 eq:=(fun t=>match t with
 |38=>some (fun xs ys=>sameT (lsB xs) (lsB ys))
 |_=>none)
 raw:=[],sym:=[15,16,42,44],nf:=[(16,.c (.agg (el (at' l k)))),(18,.c (.agg [li (at' l k).X,li (at' l k).Y])),(20,bv false),(23,.c (.agg (tl (at' l k).t))),(24,bv (zeroT (at' l k).t)),(25,bv (zeroT (at' l k).t)),(28,.c (.agg (tl (at' l k).t))),(29,.c (.agg (tl (clnT (at' l k).t)))),(31,.c (.agg (tl (at' l k).t))),(32,bv false),(33,bv (zeroT (at' l k).t)),(44,.c (.agg [li (at' l (k-1)).X,li (at' l (k-1)).Y])),(46,.c (.agg [li (at' l k).X,li (at' l k).Y])),(48,bv false),(49,bv false),(50,bv (zeroT (at' l k).t))],ap:=true,off:=[],on:=[],lp:=fun _=>none,un:=0,wh:=[42]}
set_option maxRecDepth 100000 in
theorem R46z (l:List TA) (j0:Nat) (k:Nat)  (K:Exit→St→Prop) (h:HB (decide ((Nat.cast k:Int)<(Nat.cast l.length:Int))) (InR ((Nat.cast k:Int)) l.length∧((Nat.cast k:Int)).toNat*258+258≤(rws l).length∧Le (ag (List.take 258 (List.drop (((Nat.cast k:Int)).toNat*258) (rws l)))) (ag (el (at' l k)))∧0=0∧258=258∧Le (ag (List.take 2 (el (at' l k)))) (ag [li (at' l k).X,li (at' l k).Y])∧CallOKd Tryz.prog 107 [] [ag [li (at' l k).X,li (at' l k).Y]] [] 3 (bv (inB (at' l k).X (at' l k).Y)) [] 0∧Le (bv !inB (at' l k).X (at' l k).Y) (bv false)∧((!false)=true→(!false)=true∧Le (ag (List.take 256 (List.drop 2 (el (at' l k))))) (ag (tl (at' l k).t))∧True)∧((!false)=true→(!false)=true∧CallOKd Tryz.prog 108 [] [ag (tl (at' l k).t)] [] 3 (bv (zeroT (lsB (tl (at' l k).t)))) [] 0∧Le (bv (zeroT (lsB (tl (at' l k).t)))) (bv (zeroT (at' l k).t))∧True)∧(false=false→(!false)=true)∧Le (bv (bif false then true else zeroT (at' l k).t)) (bv (zeroT (at' l k).t))∧((!zeroT (at' l k).t)=true→(!zeroT (at' l k).t)=true∧Le (ag (List.take 256 (List.drop 2 (el (at' l k))))) (ag (tl (at' l k).t))∧True)∧((!zeroT (at' l k).t)=true→(!zeroT (at' l k).t)=true∧CallOKd Tryz.prog 66 [] [ag (tl (at' l k).t)] [] 3 (ag (tl (clnT (lsB (tl (at' l k).t))))) [] 0∧Le (ag (tl (clnT (lsB (tl (at' l k).t))))) (ag (tl (clnT (at' l k).t)))∧True)∧((!zeroT (at' l k).t)=true→(!zeroT (at' l k).t)=true∧Le (ag (List.take 256 (List.drop 2 (el (at' l k))))) (ag (tl (at' l k).t))∧True)∧((!zeroT (at' l k).t)=true→(!zeroT (at' l k).t)=true∧(!zeroT (at' l k).t)=true∧EqOK Tryz.prog 38 (tl (clnT (at' l k).t)) (tl (at' l k).t) (sameT (lsB (tl (clnT (at' l k).t))) (lsB (tl (at' l k).t)))∧Le (bv !sameT (lsB (tl (clnT (at' l k).t))) (lsB (tl (at' l k).t))) (bv false)∧True)∧(zeroT (at' l k).t=false→(!zeroT (at' l k).t)=true)∧Le (bv (bif zeroT (at' l k).t then true else false)) (bv (zeroT (at' l k).t))∧((!zeroT (at' l k).t)=true→(!zeroT (at' l k).t)=true∧True)∧((!zeroT (at' l k).t)=true→(!zeroT (at' l k).t)=true∧True)∧((!zeroT (at' l k).t&&decide ((Nat.cast k:Int)>0))=true→(!zeroT (at' l k).t&&decide ((Nat.cast k:Int)>0))=true∧True)∧((!zeroT (at' l k).t&&decide ((Nat.cast k:Int)>0))=true→(!zeroT (at' l k).t&&decide ((Nat.cast k:Int)>0))=true∧IntKind.i64.wrap ((Nat.cast k:Int)-1)=(Nat.cast k:Int)-1∧True)∧((!zeroT (at' l k).t&&decide ((Nat.cast k:Int)>0))=true→(!zeroT (at' l k).t&&decide ((Nat.cast k:Int)>0))=true∧(!zeroT (at' l k).t&&decide ((Nat.cast k:Int)>0))=true∧InR ((Nat.cast k:Int)-1) l.length∧True)∧((!zeroT (at' l k).t&&decide ((Nat.cast k:Int)>0))=true→(!zeroT (at' l k).t&&decide ((Nat.cast k:Int)>0))=true∧True)∧((!zeroT (at' l k).t&&decide ((Nat.cast k:Int)>0))=true→(!zeroT (at' l k).t&&decide ((Nat.cast k:Int)>0))=true∧((Nat.cast k:Int)-1).toNat*258+0+2≤(rws l).length∧Le (ag (List.take 2 (List.drop (((Nat.cast k:Int)-1).toNat*258+0) (rws l)))) (ag [li (at' l (k-1)).X,li (at' l (k-1)).Y])∧True)∧((!zeroT (at' l k).t&&decide ((Nat.cast k:Int)>0))=true→(!zeroT (at' l k).t&&decide ((Nat.cast k:Int)>0))=true∧Le (ag (List.take 2 (el (at' l k)))) (ag [li (at' l k).X,li (at' l k).Y])∧True)∧((!zeroT (at' l k).t&&decide ((Nat.cast k:Int)>0))=true→(!zeroT (at' l k).t&&decide ((Nat.cast k:Int)>0))=true∧(!zeroT (at' l k).t&&decide ((Nat.cast k:Int)>0))=true∧CallOKd Tryz.prog 109 [] [ag [li (at' l (k-1)).X,li (at' l (k-1)).Y],ag [li (at' l k).X,li (at' l k).Y]] [] 3 (iv IntKind.i64 (ordI (at' l (k-1)).X (at' l (k-1)).Y (at' l k).X (at' l k).Y)) [] 0∧True)∧((!zeroT (at' l k).t&&decide ((Nat.cast k:Int)>0))=true→(!zeroT (at' l k).t&&decide ((Nat.cast k:Int)>0))=true∧Le (bv (decide (ordI (at' l (k-1)).X (at' l (k-1)).Y (at' l k).X (at' l k).Y≥0))) (bv false)∧True)∧((!zeroT (at' l k).t)=true→(!zeroT (at' l k).t)=true∧(decide ((Nat.cast k:Int)>0)=true→(!zeroT (at' l k).t&&decide ((Nat.cast k:Int)>0))=true)∧Le (bv (bif decide ((Nat.cast k:Int)>0) then false else false)) (bv false)∧True)∧(zeroT (at' l k).t=false→(!zeroT (at' l k).t)=true)∧Le (bv (bif zeroT (at' l k).t then true else false)) (bv (zeroT (at' l k).t))∧HB (zeroT (at' l k).t) (wkK 2 K Exit.ret (St.mk [(1,SV.c (Cp.l (Leaf.p 1 0))),(2,bv false),(10,SV.c (Cp.l (Leaf.o 0 l.length))),(11,iv IntKind.i64 (Nat.cast l.length:Int)),(12,iv IntKind.i64 (Nat.cast k:Int))] [(0,some (Blk.mk (rws l) (BT.r 42 258 0))),(1,some (Blk.mk [Leaf.o 0 l.length] (BT.t 26))),(2,some (Blk.mk (el (at' l k)) (BT.t 42)))] 3 52 [2,2,2,1] 1)) (IntKind.i64.wrap ((Nat.cast k:Int)+1)=(Nat.cast k:Int)+1∧RoundTo Tryz.prog ((getLoop 4 (Tryz.f46.body.getD Code.skip)).getD Code.skip) 2 (wkK 2 K) (St.mk [(1,SV.c (Cp.l (Leaf.p 1 0))),(2,SV.u),(10,SV.c (Cp.l (Leaf.o 0 l.length))),(11,iv IntKind.i64 (Nat.cast l.length:Int)),(12,iv IntKind.i64 ((Nat.cast k:Int)+1))] [(0,some (Blk.mk (rws l) (BT.r 42 258 0))),(1,some (Blk.mk [Leaf.o 0 l.length] (BT.t 26))),(2,some (Blk.mk (el (at' l k)) (BT.t 42)))] 3 52 [2,2,2,1] 1))) (wkK 2 K (Exit.exit 0) (St.mk [(1,SV.c (Cp.l (Leaf.p 1 0))),(2,SV.u),(10,SV.c (Cp.l (Leaf.o 0 l.length))),(11,iv IntKind.i64 (Nat.cast l.length:Int)),(12,iv IntKind.i64 (Nat.cast k:Int))] [(0,some (Blk.mk (rws l) (BT.r 42 258 0))),(1,some (Blk.mk [Leaf.o 0 l.length] (BT.t 26))),(2,none)] 2 52 [2,1] 1))):WPL Tryz.prog ((getLoop 4 (Tryz.f46.body.getD .skip)).getD .skip) (IZ46 l j0 k) (wkK 2 K):=
 wp_roundT [1,2,10,11,12] [0,1,2] (cx:=cz_R46z l j0 k) rfl (of_eq (by kernel_rfl) h)
set_option maxRecDepth 100000 in
set_option maxHeartbeats 4000000 in
theorem L46z (l:List TA) (j0:Nat) (hb:Bad1 l j0):∀(m k:Nat),l.length-k=m→k≤l.length→(∀j,j<k→(!zeroT (at' l j).t)=true)→∀(K:Exit→St→Prop),((∀j,j<l.length→(!zeroT (at' l j).t)=true)→K (.exit 0) (IZ46 l j0 l.length))→(∀j,j<l.length→(∀i,i<j→(!zeroT (at' l i).t)=true)→(!zeroT (at' l j).t)=false→K .ret (Q46 l j))→WPL Tryz.prog ((getLoop 4 (Tryz.f46.body.getD .skip)).getD .skip) (IZ46 l j0 k) (wkK 2 K)
 |0,k,hm,hk,hall,K,hK,hR=>by
  have e:k=l.length:=by omega
  subst e
  refine R46z l j0 _ K (HB.mk (fun hne=>absurd (of_decide_eq_true hne) (by omega)) (fun he=>?_))
  exact wkK.to (IZ46 l j0 _) (Nat.le_refl _) (by kernel_rfl) (wkE_cons (LeN.sl (by kernel_rfl) rfl) (wkE_cons (LeN.sl (by kernel_rfl) rfl) (wkE_cons (LeN.sl (by kernel_rfl) rfl) (wkE_cons (LeN.sl (by kernel_rfl) rfl) trivial)))) (wkH_cons (BkN.plain (cs:=rws l) (b:=.r 42 258 0) (by kernel_rfl) (rfl) (plain_rws _) (by kernel_rfl)) (wkH_cons (BkN.blk (k:=⟨[.o 0 l.length],.t 26⟩) (by kernel_rfl) (rfl) (by kernel_rfl)) trivial)) (hK hall)
 |m+1,k,hm,hk,hall,K,hK,hR=>by
  refine R46z l j0 k K (HB.mk (fun hne=>?_) (fun he=>absurd (show ((k:Nat):Int)<(l.length:Nat) by omega) (of_decide_eq_false he)))
  have hlt:k<l.length:=by omega
  have hlen:=hb.len
  have hkj:=bad_le hb hall
  repeat' (first|exact trivial|with_reducible apply And.intro|(with_reducible apply HB.mk)|with_reducible intro _)
  all_goals first
   |(with_reducible assumption)
   |(with_reducible exact Le.refl _)
   |(with_reducible rfl)
   |((with_reducible exact C66L _ _ rfl _))
   |(with_reducible exact C107 _ _ _)
   |((with_reducible exact C108L _ _ rfl _))
   |(with_reducible exact C109 _ _ _ _ _)
   |(exact ⟨by omega,by omega⟩)
   |(exact ⟨by have:=(gz ‹_›).1;omega,by omega⟩)
   |((rw[rws_len,tn];omega))
   |((have:=(gz ‹_›).1;rw[rws_len,kprev this];omega))
   |((refine Le.of ?_;simp only[tn,Nat.zero_add,Nat.add_zero];rw[rws_at hlt]))
   |((have:=(gz ‹_›).1;refine Le.of ?_;simp only[kprev this,Nat.zero_add,Nat.add_zero];rw[rws_pos (by omega)]))
   |(exact C107 _ _ _)
   |(with_reducible exact Le.of (congrArg (fun l=>SV.c (.agg l)) (el_tl _)))
   |(with_reducible exact Le.bool (zl _))
   |((refine Le.bool ?_;rw[hb.inn k hkj];rfl))
   |(with_reducible exact Le.of (congrArg (fun t=>SV.c (.agg t)) (cln_lsB _)))
   |(exact eq38L rfl rfl)
   |((have hz:=gz1 (by with_reducible assumption);refine Le.bool ?_;rw[same_lsB,hb.cl k (bad_lt hb hkj hz)];rfl))
   |((have:=gz ‹_›;exact okw _ (by omega) (by omega)))
   |((refine Le.bool (decide_eq_false ?_);have h1:=bad_prev hb hkj (gz ‹_›).1;omega))
   |((refine Le.bool ?_;cases zeroT (at' l k).t<;>rfl))
   |((refine Le.bool ?_;cases decide (((k:Nat):Int)>0)<;>rfl))
   |((refine Le.bool ?_;cases zeroT (at' l k).t<;>cases decide (((k:Nat):Int)>0)<;>rfl))
   |(have hcnd:zeroT (at' l k).t=false:=(by with_reducible assumption);(with_reducible refine RoundTo.toN 3 (IZ46 l j0 (k+1)) ?_ ?_ ?_ ?_ ?_);exact Nat.le_refl _;kernel_rfl;exact (wkE_cons (LeN.sl (by kernel_rfl) rfl) (wkE_cons (LeN.sl (by kernel_rfl) rfl) (wkE_cons (LeN.sl (by kernel_rfl) rfl) (wkE_cons (LeN.sl (by kernel_rfl) rfl) trivial))));exact (wkH_cons (BkN.plain (cs:=rws l) (b:=.r 42 258 0) (by kernel_rfl) (rfl) (plain_rws _) (by kernel_rfl)) (wkH_cons (BkN.blk (k:=⟨[.o 0 l.length],.t 26⟩) (by kernel_rfl) (rfl) (by kernel_rfl)) trivial));exact (L46z l j0 hb m (k+1) (by omega) (by omega) (fun j hj=>by rcases Nat.lt_or_ge j k with h|h;exact hall j h;have e:j=k:=(by omega);subst e;exact (not_t2 (by with_reducible assumption))) K hK hR))
   |(exact wkK.to (Q46 l k) (Nat.le_refl _) (by kernel_rfl) (wkE_cons (LeN.sl (by kernel_rfl) rfl) trivial) (wkH_cons (BkN.plain (cs:=rws l) (b:=.r 42 258 0) (by kernel_rfl) (rfl) (plain_rws _) (by kernel_rfl)) (wkH_cons (BkN.blk (k:=⟨[.o 0 l.length],.t 26⟩) (by kernel_rfl) (rfl) (by kernel_rfl)) trivial)) (hR k hlt hall ((not_f2 (by with_reducible assumption)))))
   |(exact okw _ (by omega) (by omega))
   |(exact Le.of rfl)
   |(exact BkR.of rfl)
   |(unfold SlOK;omega)
   |(unfold SlOK;decide)
   |(unfold inByte;decide)
   |(simp only[*,Bool.and_self,Bool.not_false,Bool.not_true];done)
   |(simp_all [wants];done)
def cz_C46b (l:List TA) (j0:Nat):Cz:={
 ct:=(fun f=>match f with
 |_=>none)
 eq:=(fun t=>match t with
 |38=>some (fun xs ys=>sameT (lsB xs) (lsB ys))
 |_=>none)
 raw:=[],sym:=[],nf:=[(8,bv false)],ap:=true,off:=[],on:=[],lp:=fun r=>match r with|4=>some (fun _ K=>((∀j,j<l.length→(!zeroT (at' l j).t)=true)→K (.exit 0) (IZ46 l j0 l.length))∧(∀j,j<l.length→(∀i,i<j→(!zeroT (at' l i).t)=true)→(!zeroT (at' l j).t)=false→K .ret (Q46 l j)))|_=>none,un:=0,wh:=[26]}
set_option maxRecDepth 100000 in
set_option maxHeartbeats 400000 in
theorem C46b (l:List TA) (j0:Nat) (hb:Bad1 l j0):CallOK Tryz.prog 46 [.c (.agg [.o 0 l.length])] [(0,⟨rws l,.r 42 258 0⟩)] 1 (bv false) [] 0:=by
 have hlen:=hb.len
 refine call_ok (cx:=cz_C46b l j0) (nm:=[]) rfl Tryz.func46 (body:=Tryz.f46.body.getD .skip) rfl enters46 (by unfold inck;simp only[List.all_cons,List.all_nil,blkLt_plain (plain_rws l) (show (BT.rn (rnId 1 0 []) (.r 42 258 0)).isSome=true from rfl),Bool.and_true,Bool.true_and];kernel_rfl) ?_
 apply of_eq (q:=Le (bv (decide ((Nat.cast l.length:Int)>1024))) (bv false)∧(LoopOK Tryz.prog ((getLoop 4 (Tryz.f46.body.getD .skip)).getD .skip) (St.mk [(12,iv IntKind.i64 0),(11,iv IntKind.i64 (Nat.cast l.length:Int)),(10,SV.c (Cp.l (Leaf.o 0 l.length))),(9,SV.c (Cp.l (Leaf.p 1 0))),(8,bv false),(7,iv IntKind.i64 (Nat.cast l.length:Int)),(6,SV.c (Cp.l (Leaf.o 0 l.length))),(5,SV.c (Cp.l (Leaf.p 1 0))),(2,bv false),(1,SV.c (Cp.l (Leaf.p 1 0))),(0,ag [Leaf.o 0 l.length])] [(1,some (Blk.mk [Leaf.o 0 l.length] (BT.t 26))),(0,some (Blk.mk (rws l) (BT.r 42 258 0)))] 2 52 [1] 1) fun K=>((∀(j:Nat),j<l.length→(!zeroT (at' l j).t)=true)→K (Exit.exit 0) (IZ46 l j0 l.length))∧∀(j:Nat),j<l.length→(∀(i:Nat),i<j→(!zeroT (at' l i).t)=true)→(!zeroT (at' l j).t)=false→K Exit.ret (Q46 l j))∧((∀(j:Nat),j<l.length→(!zeroT (at' l j).t)=true)→Le (bv true) (bv false)∧True)∧∀(j:Nat),j<l.length→(∀(i:Nat),i<j→(!zeroT (at' l i).t)=true)→(!zeroT (at' l j).t)=false→Le (bv false) (bv false)∧True) (by kernel_rfl)
 repeat' (first|exact trivial|with_reducible apply And.intro|(with_reducible apply HB.mk)|with_reducible intro _)
 all_goals first
  |(with_reducible assumption)
  |(with_reducible exact Le.refl _)
  |(with_reducible rfl)
  |(exact LoopOK.mk (IZ46 l j0 0) rfl (by kernel_rfl) (wkE_cons (LeN.sl (by kernel_rfl) rfl) (wkE_cons (LeN.sl (by kernel_rfl) rfl) (wkE_cons (LeN.sl (by kernel_rfl) rfl) (wkE_cons (LeN.sl (by kernel_rfl) rfl) trivial)))) (wkH_cons (BkN.plain (cs:=rws l) (b:=.r 42 258 0) (by kernel_rfl) (rfl) (plain_rws _) (by kernel_rfl)) (wkH_cons (BkN.blk (k:=⟨[.o 0 l.length],.t 26⟩) (by kernel_rfl) (rfl) (by kernel_rfl)) trivial)) (fun K hT=>L46z l j0 hb _ 0 rfl (Nat.zero_le _) (fun j hj=>absurd hj (Nat.not_lt_zero j)) K hT.1 hT.2))
  |((refine Le.bool (decide_eq_false ?_);omega))
  |((rename_i hall;have:=hall j0 hb.lt;rw[hb.z] at this;cases this))
  |(exact okw _ (by omega) (by omega))
  |(exact Le.of rfl)
  |(exact BkR.of rfl)
  |(unfold SlOK;omega)
  |(unfold SlOK;decide)
  |(unfold inByte;decide)
  |(simp only[*,Bool.and_self,Bool.not_false,Bool.not_true];done)
  |(simp_all [wants];done)
theorem C46bg (l:List TA) (j0:Nat) (hb:Bad1 l j0) (id n:Nat) (hi:id<n):CallOK Tryz.prog 46 [.c (.agg [.o id l.length])] [(id,⟨rws l,.r 42 258 id⟩)] n (bv false) [] 0:=by
 have key:=CallOK.at1 (C46b l j0 hb) id n hi
 simp only[List.map_cons,List.map_nil,Blk.ren,SV.ren,Cp.ren,Leaf.ren,BT.ren,ren_plain (plain_rws _)] at key
 exact key
def cz_C12b (l:List TA) (j0:Nat):Cz:={
 ct:=(fun f=>match f with
 |46=>some fun _ _S ar=>match ar with | [.c (.agg [.o i _])]=>some {v:=bv false,rd:=[i],wr:=[],nw:=0}|_=>none
 |_=>none)
 eq:=(fun t=>match t with
 |_=>none)
 raw:=[],sym:=[],nf:=[],ap:=true,off:=[],on:=[],lp:=fun _=>none,un:=0,wh:=[26]}
set_option maxRecDepth 100000 in
set_option maxHeartbeats 400000 in
theorem C12b (l:List TA) (j0:Nat) (hb:Bad1 l j0):CallOK Tryz.prog 12 [.c (.agg [.o 0 l.length])] [(0,⟨rws l,.r 42 258 0⟩)] 1 (.tup [.l (.v (.string ⟨#[]⟩)),.l (li 1)]) [] 0:=by
 refine call_ok (cx:=cz_C12b l j0) (nm:=[]) rfl Tryz.func12 (body:=Tryz.f12.body.getD .skip) rfl enters12 (by unfold inck;simp only[List.all_cons,List.all_nil,blkLt_plain (plain_rws l) (show (BT.rn (rnId 1 0 []) (.r 42 258 0)).isSome=true from rfl),Bool.and_true,Bool.true_and];kernel_rfl) ?_
 apply of_eq (q:=CallOKd Tryz.prog 46 [] [ag [Leaf.o 0 l.length]] [(0,Blk.mk (rws l) (BT.r 42 258 0))] 2 (bv false) [] 0∧Le (SV.tup [Cp.l (Leaf.v (Value.string (ByteArray.mk #[]))),Cp.l (li 1)]) (SV.tup [Cp.l (Leaf.v (Value.string (ByteArray.mk #[]))),Cp.l (li 1)])∧True) (by kernel_rfl)
 repeat' (first|exact trivial|with_reducible apply And.intro|(with_reducible apply HB.mk)|with_reducible intro _)
 all_goals first
  |(with_reducible assumption)
  |(with_reducible exact Le.refl _)
  |(with_reducible rfl)
  |((with_reducible exact C46bg _ _ hb _ _ (by omega)))
  |(exact Le.of rfl)
  |(exact okw _ (by omega) (by omega))
  |(exact Le.of rfl)
  |(exact BkR.of rfl)
  |(unfold SlOK;omega)
  |(unfold SlOK;decide)
  |(unfold inByte;decide)
  |(simp only[*,Bool.and_self,Bool.not_false,Bool.not_true];done)
  |(simp_all [wants];done)
theorem packbad_any (l:List TA) (j0:Nat) (hb:Bad1 l j0) (id n:Nat) (hi:id<n):CallOK Tryz.prog 12 [.c (.agg [.o id l.length])] [(id,⟨rws l,.r 42 258 id⟩)] n (.tup [.l (.v (.string ⟨#[]⟩)),.l (li 1)]) [] 0:=by
 have key:=CallOK.at1 (C12b l j0 hb) id n hi
 simp only[List.map_cons,List.map_nil,Blk.ren,SV.ren,Cp.ren,Leaf.ren,BT.ren,ren_plain (plain_rws _)] at key
 exact key
end Ab
end Go.Proofs.YtpdckpifhniioaaGreat
end
section
set_option linter.unusedVariables false
namespace Go.Proofs.YtpdckpifhniioaaGreat.Oct
open Go.RowKit
open Go.Proofs.YtpdckpifhniioaaGreat
set_option maxRecDepth 100000 in
set_option maxHeartbeats 1000000 in
theorem valid_empty (w:World):Calls Tryz.prog 46 #[.agg #[.slice none 0 0]] w fun e w'=>e=.returned (.bool true)∧Grow w w':=by
 go_enter Tryz.func46,Tryz.ntmps46
 go_wp2
 refine wp_loop_rounds 1 ?_
 rw[rounds_succ]
 go_wp2
 go_ret
 exact ⟨rfl,(Below.refl _ _).alloc (Nat.le_refl _) _⟩
def packed0:ByteArray:=⟨#[71,1,1,0,210,2,239,141]⟩
theorem HB.nil {b:Nat} {w:World} (h:w.heap[b]? = some (.cells #[.pointer none,.slice none 0 0] 101 (0,0))):HB b [] w:=
 ⟨_,_,h,.inl rfl,World.ownsRow_nil _ _ _ _,fun _=>rfl⟩
theorem txt0:(⟨(txt ⟨#[0]⟩).toArray⟩:ByteArray)=⟨#[1,0]⟩:=by decide +kernel
theorem sum0:((M.sum (⟨#[0]⟩:ByteArray).data.toList:Nat):Int)=3523407757:=by decide +kernel
theorem put0:(⟨(M.be (sz 4) (u64 3523407757)).toArray⟩:ByteArray)=⟨#[210,2,239,141]⟩:=by decide +kernel
abbrev BO:Obj:=.cells #[.pointer none,.slice none 0 0] 101
theorem leb0:(⟨(M.leb (u64 0)).toArray⟩:ByteArray)=⟨#[0]⟩:=by decide +kernel
set_option maxRecDepth 100000 in
set_option maxHeartbeats 1000000 in
theorem pack_empty (w:World):Calls Tryz.prog 12 #[.agg #[.slice none 0 0]] w fun e w'=>e=.returned (.tuple #[.string packed0,.int .i64 0])∧Below w.heap.size w w':=by
 go_enter Tryz.func12,Tryz.ntmps12
 go_wp2_with fail
 refine (valid_empty _).mono ?_
 rintro e w1 ⟨rfl,g1⟩
 have r1:w1.heap[w.heap.size]? = some (.cells #[.slice none 0 0] 26 (0,0)):=g1.block (heap_alloc_new _ _)
 have b1:Below w.heap.size w w1:=((Below.refl _ w).alloc (Nat.le_refl _) _).trans (Below.mono g1 (by simp))
 have lt1:w.heap.size<w1.heap.size:=(Array.getElem?_eq_some_iff.1 r1).1
 have r2:((w1.alloc BO).alloc BO).heap[w.heap.size]? = some (.cells #[.slice none 0 0] 26 (0,0)):=by
  rw[Below.heap_alloc _ _ _ (by simp;omega),Below.heap_alloc _ _ _ lt1];exact r1
 have c2:((w1.alloc BO).alloc BO).cell? ⟨w.heap.size,0,none⟩=some (.slice none 0 0):=by rw[cell_of_row _ _ 0 _ _ _ r2];rfl
 have p1:((w1.alloc BO).alloc BO).heap[w1.heap.size]? = some BO:=heap_alloc2_old _ _ _
 have p2:((w1.alloc BO).alloc BO).heap[w1.heap.size+1]? = some BO:=heap_alloc2_new _ _ _
 have b2:Below w.heap.size w ((w1.alloc BO).alloc BO):=(b1.alloc (Nat.le_of_lt lt1) _).alloc (by simp;omega) _
 have sz2:((w1.alloc BO).alloc BO).heap.size=w1.heap.size+2:=by simp
 replace r2:=Lib.hid r2
 replace p1:=Lib.hid p1
 replace p2:=Lib.hid p2
 replace b2:=Lib.hid b2
 replace sz2:=Lib.hid sz2
 clear g1 r1 b1
 go_wp2_with fail
 generalize ((w1.alloc BO).alloc BO)=W at *
 clear c2
 refine (var_any _ _).mono ?_
 rintro e w2 ⟨rfl,g2⟩
 rw[leb0]
 have hz:=sz2.out
 have r3:w2.heap[w.heap.size]? = some (.cells #[.slice none 0 0] 26 (0,0)):=(g2.block _ (by omega)).trans r2.out
 have p3:w2.heap[w1.heap.size]? = some BO:=(g2.block _ (by omega)).trans p1.out
 have p4:w2.heap[w1.heap.size+1]? = some BO:=(g2.block _ (by omega)).trans p2.out
 have b3:Below w.heap.size w w2:=b2.out.trans (Below.mono g2 (by omega))
 have sz3:w1.heap.size+2≤w2.heap.size:=by have:=g2.size;omega
 clear r2 p1 p2 b2 sz2 g2 hz
 replace r3:=Lib.hid r3
 replace p3:=Lib.hid p3
 replace p4:=Lib.hid p4
 replace b3:=Lib.hid b3
 replace sz3:=Lib.hid sz3
 go_wp2_with fail
 refine (wstr _ [] _ _ (HB.nil p3.out) (by decide)).mono ?_
 rintro e w3 ⟨rfl,hB,g3,k3⟩
 have r4:w3.heap[w.heap.size]? = some (.cells #[.slice none 0 0] 26 (0,0)):=(k3 _ _ _ _ r3.out (by decide) (by omega)).trans r3.out
 have p5:w3.heap[w1.heap.size+1]? = some BO:=(k3 _ _ _ _ p4.out (by decide) (by omega)).trans p4.out
 have b4:Below w.heap.size w w3:=b3.out.trans (Below.mono g3 (by omega))
 have c4:w3.cell? ⟨w.heap.size,0,none⟩=some (.slice none 0 0):=by rw[cell_of_row _ _ 0 _ _ _ r4];rfl
 clear r3 p3 p4 b3 g3 k3 r4 sz3
 replace hB:=Lib.hid hB
 replace p5:=Lib.hid p5
 replace b4:=Lib.hid b4
 go_wp2_with fail
 refine wp_loop_rounds 1 ?_
 rw[rounds_succ]
 go_wp2_with fail
 refine (bstring _ _ _ hB.out.hf).mono ?_
 rintro e w4 ⟨rfl,hF,g4,k4⟩
 have p6:w4.heap[w1.heap.size+1]? = some BO:=(k4 _ _ _ _ p5.out (by decide) (by omega)).trans p5.out
 have b5:Below w.heap.size w w4:=b4.out.trans (Below.mono g4 (by omega))
 clear c4 hB p5 b4 hF g4 k4
 replace p6:=Lib.hid p6
 replace b5:=Lib.hid b5
 go_wp2_with fail
 refine (text_any _ _ (by decide)).mono ?_
 rintro e w5 ⟨rfl,g5⟩
 rw[txt0]
 have p7:w5.heap[w1.heap.size+1]? = some BO:=(g5.block _ (Array.getElem?_eq_some_iff.1 p6.out).1).trans p6.out
 have b6:Below w.heap.size w w5:=b5.out.trans (Below.mono g5 b5.out.size)
 clear p6 b5 g5
 replace p7:=Lib.hid p7
 replace b6:=Lib.hid b6
 go_wp2_with fail
 refine (sum_any _ _ (by decide)).mono ?_
 rintro e w6 ⟨rfl,g6⟩
 rw[sum0]
 have p8:w6.heap[w1.heap.size+1]? = some BO:=(g6.block _ (Array.getElem?_eq_some_iff.1 p7.out).1).trans p7.out
 have b7:Below w.heap.size w w6:=b6.out.trans (Below.mono g6 b6.out.size)
 clear p7 b6 g6
 replace p8:=Lib.hid p8
 replace b7:=Lib.hid b7
 go_wp2_with fail
 refine (put_any _ _ _).mono ?_
 rintro e w7 ⟨rfl,g7⟩
 rw[put0]
 have p9:w7.heap[w1.heap.size+1]? = some BO:=(g7.block _ (Array.getElem?_eq_some_iff.1 p8.out).1).trans p8.out
 have b8:Below w.heap.size w w7:=b7.out.trans (Below.mono g7 b7.out.size)
 clear p8 b7 g7
 replace p9:=Lib.hid p9
 replace b8:=Lib.hid b8
 go_wp2_with fail
 refine (bstring _ _ _ (HB.nil p9.out).hf).mono ?_
 rintro e w8 ⟨rfl,hF,g8,k8⟩
 have b9:Below w.heap.size w w8:=b8.out.trans (Below.mono g8 (by omega))
 clear p9 b8 hF g8 k8
 replace b9:=Lib.hid b9
 go_wp2
 go_ret2
 exact ⟨rfl,b9.out⟩
end Go.Proofs.YtpdckpifhniioaaGreat.Oct
end
section
set_option linter.unusedVariables false
namespace Go.Proofs.YtpdckpifhniioaaGreat
open Go.RowKit
namespace Ab
theorem eql66 (a0 a1 a2 a3 b0 b1 b2 b3:Int) (W:World):(binOp .eql 66 (.agg #[.int .i64 a0,.int .i64 a1,.int .i64 a2,.int .i64 a3]) (.agg #[.int .i64 b0,.int .i64 b1,.int .i64 b2,.int .i64 b3])).run Tryz.prog W=.ok (.bool (a0==b0&&(a1==b1&&(a2==b2&&a3==b3)))) W:=by
 by_cases h0:a0=b0
 ·by_cases h1:a1=b1
  ·by_cases h2:a2=b2
   ·by_cases h3:a3=b3
    ·subst h0 h1 h2 h3;go_simp
    ·subst h0 h1 h2;go_simp
   ·subst h0 h1;go_simp
  ·subst h0;go_simp
 ·go_simp
theorem neq66 (a0 a1 a2 a3 b0 b1 b2 b3:Int) (W:World):(binOp .neq 66 (.agg #[.int .i64 a0,.int .i64 a1,.int .i64 a2,.int .i64 a3]) (.agg #[.int .i64 b0,.int .i64 b1,.int .i64 b2,.int .i64 b3])).run Tryz.prog W=.ok (.bool (!(a0==b0&&(a1==b1&&(a2==b2&&a3==b3))))) W:=by
 by_cases h0:a0=b0
 ·by_cases h1:a1=b1
  ·by_cases h2:a2=b2
   ·by_cases h3:a3=b3
    ·subst h0 h1 h2 h3;go_simp
    ·subst h0 h1 h2;go_simp
   ·subst h0 h1;go_simp
  ·subst h0;go_simp
 ·go_simp
set_option maxRecDepth 100000 in
theorem eq66 (a0 a1 a2 a3 b0 b1 b2 b3:Int):EqOK Tryz.prog 66 [li a0,li a1,li a2,li a3] [li b0,li b1,li b2,li b3] (a0==b0&&(a1==b1&&(a2==b2&&a3==b3))):=by
 intro β u v x y w hu hv
 rw[(plLs_iff (ys:=[.int .i64 a0,.int .i64 a1,.int .i64 a2,.int .i64 a3]) rfl β u).1 hu,(plLs_iff (ys:=[.int .i64 b0,.int .i64 b1,.int .i64 b2,.int .i64 b3]) rfl β v).1 hv]
 have h1:=eql66 a0 a1 a2 a3 b0 b1 b2 b3 w
 have h2:=neq66 a0 a1 a2 a3 b0 b1 b2 b3 w
 have g:∀op,(eqGuard op 66 x y (.agg [.int .i64 a0,.int .i64 a1,.int .i64 a2,.int .i64 a3].toArray) (.agg [.int .i64 b0,.int .i64 b1,.int .i64 b2,.int .i64 b3].toArray)).run Tryz.prog w=.ok () w:=by
  intro op;unfold eqGuard;cases op<;>go_simp
 constructor
 ·rw[Sem.run_bind,g];exact h1
 ·rw[Sem.run_bind,g];exact h2
end Ab
end Go.Proofs.YtpdckpifhniioaaGreat
end
section
set_option linter.unusedVariables false
set_option linter.unusedSimpArgs false
namespace Go.Proofs.YtpdckpifhniioaaGreat
open Go.RowKit
namespace Ab
def cz_C62:Cz:={
 ct:=(fun f=>match f with
 |58=>some fun _ _S ar=>match ar with | [.c (.l (.v (.string s)))]=>some {v:=.c (.l (.p _S.n 0)),rd:=[],wr:=[(_S.n,⟨[.v (.string s),.v (.int .i64 0),.v (.bool false)],.t 174⟩)],nw:=1}|_=>none
 |60=>some fun _ _S ar=>match ar with | [.c (.l (.p i _)),.c (.l (.v (.int _ m)))]=>some {v:=V60 _S i m,rd:=[i],wr:=[(i,W60 _S i m)],nw:=0}|_=>none
 |61=>some fun _ _S ar=>match ar with | [.c (.l (.p i _))]=>some {v:=V61 _S i,rd:=[i],wr:=[],nw:=0}|_=>none
 |63=>some fun _ _S ar=>match ar with | [.c (.l (.p i _))]=>some {v:=V63 _S i,rd:=[i],wr:=[],nw:=0}|_=>none
 |64=>some fun _ _S ar=>match ar with | [.c (.l (.p i _)),.c (.l (.v (.int _ m)))]=>some {v:=V64 _S i m,rd:=[i],wr:=[(i,W64 _S i m)],nw:=0}|_=>none
 |125=>some fun _ _S ar=>match ar with | [.c (.l (.p i _))]=>some {v:=V125 _S i,rd:=[i],wr:=[(i,W125 _S i)],nw:=0}|_=>none
 |_=>none)
 eq:=(fun t=>match t with
 |_=>none)
 raw:=[],sym:=[],nf:=[(16,iv .i64 0),(18,bv false),(26,bv false)],ap:=true,off:=[],on:=[],lp:=fun _=>none,un:=2}
set_option maxRecDepth 100000 in
set_option maxHeartbeats 400000 in
theorem C62   (n:Nat):CallOK Tryz.prog 62 [.c (.l (.v (.string ⟨#[0]⟩)))] [] n (.tup [.l (.v (.slice none 0 0)),.l (.v (.slice none 0 0)),.l (li 0)]) [] 0:=by
 refine CallOK.any ?_ (by kernel_rfl) (by kernel_rfl) n
 refine call_ok (cx:=cz_C62) (nm:=[]) rfl Tryz.func62 (body:=Tryz.f62.body.getD .skip) rfl enters62 (by kernel_rfl) ?_
 apply of_eq (q:=CallOKd Tryz.prog 58 [] [SV.c (Cp.l (Leaf.v (Value.string (ByteArray.mk #[0]))))] [] 0 (SV.c (Cp.l (Leaf.p 0 0))) [(0,Blk.mk [Leaf.v (Value.string (ByteArray.mk #[0])),li 0,lb false] (BT.t 174))] 1∧CallOKd Tryz.prog 125 [] [SV.c (Cp.l (Leaf.p 0 0))] [(0,Blk.mk [Leaf.v (Value.string (ByteArray.mk #[0])),li 0,lb false] (BT.t 174))] 1 (iv IntKind.i64 (Oct.varRes (ByteArray.mk #[0]) (Int.toNat 0) false).fst) [(0,Blk.mk [Leaf.v (Value.string (ByteArray.mk #[0])),li (Nat.cast ((Oct.varRes (ByteArray.mk #[0]) (Int.toNat 0) false).snd.fst):Int),lb (Oct.varRes (ByteArray.mk #[0]) (Int.toNat 0) false).snd.snd] (BT.t 174))] 0∧Le (iv IntKind.i64 (Oct.varRes (ByteArray.mk #[0]) (Int.toNat 0) false).fst) (iv IntKind.i64 0)∧CallOKd Tryz.prog 61 [] [SV.c (Cp.l (Leaf.p 0 0))] [(0,Blk.mk [Leaf.v (Value.string (ByteArray.mk #[0])),li (Nat.cast ((Oct.varRes (ByteArray.mk #[0]) (Int.toNat 0) false).snd.fst):Int),lb (Oct.varRes (ByteArray.mk #[0]) (Int.toNat 0) false).snd.snd] (BT.t 174))] 1 (bv (Oct.varRes (ByteArray.mk #[0]) (Int.toNat 0) false).snd.snd) [] 0∧Le (bv (Oct.varRes (ByteArray.mk #[0]) (Int.toNat 0) false).snd.snd) (bv false)∧((!false)=true→(!false)=true∧True)∧(false=false→(!false)=true)∧((!bif false then true else decide (0<0))=true→(!bif false then true else decide (0<0))=true∧True)∧((bif false then true else decide (0<0))=false→(!bif false then true else decide (0<0))=true)∧Le (bv (bif bif false then true else decide (0<0) then true else decide (0>1024))) (bv false)∧CallOKd Tryz.prog 63 [] [SV.c (Cp.l (Leaf.p 0 0))] [(0,Blk.mk [Leaf.v (Value.string (ByteArray.mk #[0])),li (Nat.cast ((Oct.varRes (ByteArray.mk #[0]) (Int.toNat 0) false).snd.fst):Int),lb (Oct.varRes (ByteArray.mk #[0]) (Int.toNat 0) false).snd.snd] (BT.t 174))] 1 (iv IntKind.i64 ((Nat.cast ((ByteArray.mk #[0]).size):Int)-(Nat.cast ((Oct.varRes (ByteArray.mk #[0]) (Int.toNat 0) false).snd.fst):Int))) [] 0∧Le (SV.tup [Cp.l (Leaf.v (Value.slice none 0 0)),Cp.l (Leaf.v (Value.slice none 0 0)),Cp.l (li 0)]) (SV.tup [Cp.l (Leaf.v (Value.slice none 0 0)),Cp.l (Leaf.v (Value.slice none 0 0)),Cp.l (li 0)])∧True) (by kernel_rfl)
 repeat' (first|exact trivial|with_reducible apply And.intro|(with_reducible apply HB.mk)|with_reducible intro _)
 all_goals first
  |(assumption)
  |(with_reducible exact Le.refl _)
  |(with_reducible exact C58 _ _)
  |((refine C61 _ _ _ _ ?_ _)<;>first|assumption|decide +kernel|omega)
  |((refine C63 _ _ _ _ ?_ ?_ ?_ _)<;>first|assumption|decide +kernel|omega)
  |((refine C125 _ _ _ _ ?_ ?_ ?_ _)<;>first|assumption|decide +kernel|omega)
  |(exact Le.of (by kernel_rfl))
  |(simp only[*,Bool.and_self,Bool.not_false,Bool.not_true];done)
def cz_C15a:Cz:={
 ct:=(fun f=>match f with
 |53=>some fun _ _S ar=>match ar with | [.c (.l (.v (.string s)))]=>some {v:=iv .u32 (Oct.M.sum s.data.toList:Nat),rd:=[],wr:=[],nw:=0}|_=>none
 |57=>some fun _ _S ar=>match ar with | [.c (.l (.v (.string s))),.c (.l (.v (.string t)))]=>some {v:=.tup [.l (.v (.string (cutP s t).1)),.l (.v (.bool (cutP s t).2))],rd:=[],wr:=[],nw:=0}|_=>none
 |58=>some fun _ _S ar=>match ar with | [.c (.l (.v (.string s)))]=>some {v:=.c (.l (.p _S.n 0)),rd:=[],wr:=[(_S.n,⟨[.v (.string s),.v (.int .i64 0),.v (.bool false)],.t 174⟩)],nw:=1}|_=>none
 |59=>some fun _ _S ar=>match ar with | [.c (.l (.p i _))]=>some {v:=V59 _S i,rd:=[i],wr:=[(i,W59 _S i)],nw:=0}|_=>none
 |60=>some fun _ _S ar=>match ar with | [.c (.l (.p i _)),.c (.l (.v (.int _ m)))]=>some {v:=V60 _S i m,rd:=[i],wr:=[(i,W60 _S i m)],nw:=0}|_=>none
 |61=>some fun _ _S ar=>match ar with | [.c (.l (.p i _))]=>some {v:=V61 _S i,rd:=[i],wr:=[],nw:=0}|_=>none
 |62=>some fun _ _S ar=>match ar with | [.c (.l (.v (.string s)))]=>some {v:=.tup [.l (.v (.slice none 0 0)),.l (.v (.slice none 0 0)),.l (li 0)],rd:=[],wr:=[],nw:=0}|_=>none
 |63=>some fun _ _S ar=>match ar with | [.c (.l (.p i _))]=>some {v:=V63 _S i,rd:=[i],wr:=[],nw:=0}|_=>none
 |64=>some fun _ _S ar=>match ar with | [.c (.l (.p i _)),.c (.l (.v (.int _ m)))]=>some {v:=V64 _S i m,rd:=[i],wr:=[(i,W64 _S i m)],nw:=0}|_=>none
 |_=>none)
 eq:=(fun t=>match t with
 |_=>none)
 raw:=[],sym:=[],nf:=[(19,.tup [.l (.v (.string ⟨#[1,0,210,2,239,141]⟩)),.l (lb true)]),(27,.c (.l (.v (.string ⟨#[0]⟩)))),(29,iv .i64 3523407757),(32,bv false),(36,iv .u32 3523407757),(38,bv false),(63,bv false),(68,bv false)],ap:=true,off:=[],on:=[],lp:=fun _=>none,un:=2}
set_option maxRecDepth 100000 in
set_option maxHeartbeats 400000 in
theorem C15a   : CallOK Tryz.prog 15 [.c (.l (.v (.string ⟨#[71,1,1,0,210,2,239,141]⟩)))] [] 0 (.tup [.l (.p 0 0),.l (li 0)]) [(0,⟨[.v (.slice none 0 0),li 0],.t 125⟩)] ([1]:List Nat).length:=by
 refine call_ok (cx:=cz_C15a) (nm:=[1]) rfl Tryz.func15 (body:=Tryz.f15.body.getD .skip) rfl enters15 (by kernel_rfl) ?_
 apply of_eq (q:=CallOKd Tryz.prog 57 [] [SV.c (Cp.l (Leaf.v (Value.string (ByteArray.mk #[71,1,1,0,210,2,239,141])))),SV.c (Cp.l (Leaf.v (Value.string (ByteArray.mk #[71,1]))))] [] 0 (SV.tup [Cp.l (Leaf.v (Value.string (cutP (ByteArray.mk #[71,1,1,0,210,2,239,141]) (ByteArray.mk #[71,1])).fst)),Cp.l (lb (cutP (ByteArray.mk #[71,1,1,0,210,2,239,141]) (ByteArray.mk #[71,1])).snd)]) [] 0∧Le (SV.tup [Cp.l (Leaf.v (Value.string (cutP (ByteArray.mk #[71,1,1,0,210,2,239,141]) (ByteArray.mk #[71,1])).fst)),Cp.l (lb (cutP (ByteArray.mk #[71,1,1,0,210,2,239,141]) (ByteArray.mk #[71,1])).snd)]) (SV.tup [Cp.l (Leaf.v (Value.string (ByteArray.mk #[1,0,210,2,239,141]))),Cp.l (lb true)])∧CallOKd Tryz.prog 58 [] [SV.c (Cp.l (Leaf.v (Value.string (ByteArray.mk #[1,0,210,2,239,141]))))] [] 0 (SV.c (Cp.l (Leaf.p 0 0))) [(0,Blk.mk [Leaf.v (Value.string (ByteArray.mk #[1,0,210,2,239,141])),li 0,lb false] (BT.t 174))] 1∧CallOKd Tryz.prog 59 [] [SV.c (Cp.l (Leaf.p 0 0))] [(0,Blk.mk [Leaf.v (Value.string (ByteArray.mk #[1,0,210,2,239,141])),li 0,lb false] (BT.t 174))] 1 (SV.c (Cp.l (Leaf.v (Value.string (Oct.textRes (ByteArray.mk #[1,0,210,2,239,141]) (Int.toNat 0) false).fst)))) [(0,Blk.mk [Leaf.v (Value.string (ByteArray.mk #[1,0,210,2,239,141])),li (Nat.cast ((Oct.textRes (ByteArray.mk #[1,0,210,2,239,141]) (Int.toNat 0) false).snd.fst):Int),lb (Oct.textRes (ByteArray.mk #[1,0,210,2,239,141]) (Int.toNat 0) false).snd.snd] (BT.t 174))] 0∧Le (SV.c (Cp.l (Leaf.v (Value.string (Oct.textRes (ByteArray.mk #[1,0,210,2,239,141]) (Int.toNat 0) false).fst)))) (SV.c (Cp.l (Leaf.v (Value.string (ByteArray.mk #[0])))))∧CallOKd Tryz.prog 60 [] [SV.c (Cp.l (Leaf.p 0 0)),iv IntKind.i64 4] [(0,Blk.mk [Leaf.v (Value.string (ByteArray.mk #[1,0,210,2,239,141])),li (Nat.cast ((Oct.textRes (ByteArray.mk #[1,0,210,2,239,141]) (Int.toNat 0) false).snd.fst):Int),lb (Oct.textRes (ByteArray.mk #[1,0,210,2,239,141]) (Int.toNat 0) false).snd.snd] (BT.t 174))] 1 (iv IntKind.i64 (wrap64 (Nat.cast ((Oct.bev (Oct.takeRes (ByteArray.mk #[1,0,210,2,239,141]) ((Nat.cast ((Oct.textRes (ByteArray.mk #[1,0,210,2,239,141]) (Int.toNat 0) false).snd.fst):Int)).toNat (Oct.textRes (ByteArray.mk #[1,0,210,2,239,141]) (Int.toNat 0) false).snd.snd (Nat.cast ((Oct.sz 4)):Int)).fst.data.toList)):Int))) [(0,Blk.mk [Leaf.v (Value.string (ByteArray.mk #[1,0,210,2,239,141])),li (Nat.cast ((Oct.takeRes (ByteArray.mk #[1,0,210,2,239,141]) ((Nat.cast ((Oct.textRes (ByteArray.mk #[1,0,210,2,239,141]) (Int.toNat 0) false).snd.fst):Int)).toNat (Oct.textRes (ByteArray.mk #[1,0,210,2,239,141]) (Int.toNat 0) false).snd.snd (Nat.cast ((Oct.sz 4)):Int)).snd.fst):Int),lb (Oct.takeRes (ByteArray.mk #[1,0,210,2,239,141]) ((Nat.cast ((Oct.textRes (ByteArray.mk #[1,0,210,2,239,141]) (Int.toNat 0) false).snd.fst):Int)).toNat (Oct.textRes (ByteArray.mk #[1,0,210,2,239,141]) (Int.toNat 0) false).snd.snd (Nat.cast ((Oct.sz 4)):Int)).snd.snd] (BT.t 174))] 0∧Le (iv IntKind.i64 (wrap64 (Nat.cast ((Oct.bev (Oct.takeRes (ByteArray.mk #[1,0,210,2,239,141]) ((Nat.cast ((Oct.textRes (ByteArray.mk #[1,0,210,2,239,141]) (Int.toNat 0) false).snd.fst):Int)).toNat (Oct.textRes (ByteArray.mk #[1,0,210,2,239,141]) (Int.toNat 0) false).snd.snd (Nat.cast ((Oct.sz 4)):Int)).fst.data.toList)):Int))) (iv IntKind.i64 3523407757)∧CallOKd Tryz.prog 61 [] [SV.c (Cp.l (Leaf.p 0 0))] [(0,Blk.mk [Leaf.v (Value.string (ByteArray.mk #[1,0,210,2,239,141])),li (Nat.cast ((Oct.takeRes (ByteArray.mk #[1,0,210,2,239,141]) ((Nat.cast ((Oct.textRes (ByteArray.mk #[1,0,210,2,239,141]) (Int.toNat 0) false).snd.fst):Int)).toNat (Oct.textRes (ByteArray.mk #[1,0,210,2,239,141]) (Int.toNat 0) false).snd.snd (Nat.cast ((Oct.sz 4)):Int)).snd.fst):Int),lb (Oct.takeRes (ByteArray.mk #[1,0,210,2,239,141]) ((Nat.cast ((Oct.textRes (ByteArray.mk #[1,0,210,2,239,141]) (Int.toNat 0) false).snd.fst):Int)).toNat (Oct.textRes (ByteArray.mk #[1,0,210,2,239,141]) (Int.toNat 0) false).snd.snd (Nat.cast ((Oct.sz 4)):Int)).snd.snd] (BT.t 174))] 1 (bv (Oct.takeRes (ByteArray.mk #[1,0,210,2,239,141]) ((Nat.cast ((Oct.textRes (ByteArray.mk #[1,0,210,2,239,141]) (Int.toNat 0) false).snd.fst):Int)).toNat (Oct.textRes (ByteArray.mk #[1,0,210,2,239,141]) (Int.toNat 0) false).snd.snd (Nat.cast ((Oct.sz 4)):Int)).snd.snd) [] 0∧Le (bv (Oct.takeRes (ByteArray.mk #[1,0,210,2,239,141]) ((Nat.cast ((Oct.textRes (ByteArray.mk #[1,0,210,2,239,141]) (Int.toNat 0) false).snd.fst):Int)).toNat (Oct.textRes (ByteArray.mk #[1,0,210,2,239,141]) (Int.toNat 0) false).snd.snd (Nat.cast ((Oct.sz 4)):Int)).snd.snd) (bv false)∧CallOKd Tryz.prog 53 [] [SV.c (Cp.l (Leaf.v (Value.string (ByteArray.mk #[0]))))] [] 1 (iv IntKind.u32 (Nat.cast ((Oct.M.sum (ByteArray.mk #[0]).data.toList)):Int)) [] 0∧Le (iv IntKind.u32 (Nat.cast ((Oct.M.sum (ByteArray.mk #[0]).data.toList)):Int)) (iv IntKind.u32 3523407757)∧Le (bv (3523407757 != IntKind.i64.wrap 3523407757)) (bv false)∧CallOKd Tryz.prog 62 [] [SV.c (Cp.l (Leaf.v (Value.string (ByteArray.mk #[0]))))] [] 1 (SV.tup [Cp.l (Leaf.v (Value.slice none 0 0)),Cp.l (Leaf.v (Value.slice none 0 0)),Cp.l (li 0)]) [] 0∧CallOKd Tryz.prog 63 [] [SV.c (Cp.l (Leaf.p 0 0))] [(0,Blk.mk [Leaf.v (Value.string (ByteArray.mk #[1,0,210,2,239,141])),li (Nat.cast ((Oct.takeRes (ByteArray.mk #[1,0,210,2,239,141]) ((Nat.cast ((Oct.textRes (ByteArray.mk #[1,0,210,2,239,141]) (Int.toNat 0) false).snd.fst):Int)).toNat (Oct.textRes (ByteArray.mk #[1,0,210,2,239,141]) (Int.toNat 0) false).snd.snd (Nat.cast ((Oct.sz 4)):Int)).snd.fst):Int),lb (Oct.takeRes (ByteArray.mk #[1,0,210,2,239,141]) ((Nat.cast ((Oct.textRes (ByteArray.mk #[1,0,210,2,239,141]) (Int.toNat 0) false).snd.fst):Int)).toNat (Oct.textRes (ByteArray.mk #[1,0,210,2,239,141]) (Int.toNat 0) false).snd.snd (Nat.cast ((Oct.sz 4)):Int)).snd.snd] (BT.t 174))] 1 (iv IntKind.i64 ((Nat.cast ((ByteArray.mk #[1,0,210,2,239,141]).size):Int)-(Nat.cast ((Oct.takeRes (ByteArray.mk #[1,0,210,2,239,141]) ((Nat.cast ((Oct.textRes (ByteArray.mk #[1,0,210,2,239,141]) (Int.toNat 0) false).snd.fst):Int)).toNat (Oct.textRes (ByteArray.mk #[1,0,210,2,239,141]) (Int.toNat 0) false).snd.snd (Nat.cast ((Oct.sz 4)):Int)).snd.fst):Int))) [] 0∧Le (bv (decide ((Nat.cast ((ByteArray.mk #[1,0,210,2,239,141]).size):Int)-(Nat.cast ((Oct.takeRes (ByteArray.mk #[1,0,210,2,239,141]) ((Nat.cast ((Oct.textRes (ByteArray.mk #[1,0,210,2,239,141]) (Int.toNat 0) false).snd.fst):Int)).toNat (Oct.textRes (ByteArray.mk #[1,0,210,2,239,141]) (Int.toNat 0) false).snd.snd (Nat.cast ((Oct.sz 4)):Int)).snd.fst):Int)<0))) (bv false)∧CallOKd Tryz.prog 63 [] [SV.c (Cp.l (Leaf.p 0 0))] [(0,Blk.mk [Leaf.v (Value.string (ByteArray.mk #[1,0,210,2,239,141])),li (Nat.cast ((Oct.takeRes (ByteArray.mk #[1,0,210,2,239,141]) ((Nat.cast ((Oct.textRes (ByteArray.mk #[1,0,210,2,239,141]) (Int.toNat 0) false).snd.fst):Int)).toNat (Oct.textRes (ByteArray.mk #[1,0,210,2,239,141]) (Int.toNat 0) false).snd.snd (Nat.cast ((Oct.sz 4)):Int)).snd.fst):Int),lb (Oct.takeRes (ByteArray.mk #[1,0,210,2,239,141]) ((Nat.cast ((Oct.textRes (ByteArray.mk #[1,0,210,2,239,141]) (Int.toNat 0) false).snd.fst):Int)).toNat (Oct.textRes (ByteArray.mk #[1,0,210,2,239,141]) (Int.toNat 0) false).snd.snd (Nat.cast ((Oct.sz 4)):Int)).snd.snd] (BT.t 174))] 1 (iv IntKind.i64 ((Nat.cast ((ByteArray.mk #[1,0,210,2,239,141]).size):Int)-(Nat.cast ((Oct.takeRes (ByteArray.mk #[1,0,210,2,239,141]) ((Nat.cast ((Oct.textRes (ByteArray.mk #[1,0,210,2,239,141]) (Int.toNat 0) false).snd.fst):Int)).toNat (Oct.textRes (ByteArray.mk #[1,0,210,2,239,141]) (Int.toNat 0) false).snd.snd (Nat.cast ((Oct.sz 4)):Int)).snd.fst):Int))) [] 0∧Le (bv (decide ((Nat.cast ((ByteArray.mk #[1,0,210,2,239,141]).size):Int)-(Nat.cast ((Oct.takeRes (ByteArray.mk #[1,0,210,2,239,141]) ((Nat.cast ((Oct.textRes (ByteArray.mk #[1,0,210,2,239,141]) (Int.toNat 0) false).snd.fst):Int)).toNat (Oct.textRes (ByteArray.mk #[1,0,210,2,239,141]) (Int.toNat 0) false).snd.snd (Nat.cast ((Oct.sz 4)):Int)).snd.fst):Int)>0))) (bv false)∧Le (SV.tup [Cp.l (Leaf.p 0 0),Cp.l (li 0)]) (SV.tup [Cp.l (Leaf.p 0 0),Cp.l (li 0)])∧BkR (rnId 0 0 [1]) (Blk.mk [Leaf.v (Value.slice none 0 0),li 0] (BT.t 125)) (Blk.mk [Leaf.v (Value.slice none 0 0),li 0] (BT.t 125))∧True) (by kernel_rfl)
 repeat' (first|exact trivial|with_reducible apply And.intro|(with_reducible apply HB.mk)|with_reducible intro _)
 all_goals first
  |(with_reducible exact Le.refl _)
  |((refine C53 _ ?_ _);first|assumption|decide +kernel|(simp;omega))
  |((refine C57 _ _ ?_ _);first|assumption|decide +kernel)
  |(with_reducible exact C58 _ _)
  |((refine C59 _ _ _ _ ?_ ?_ ?_ _)<;>first|assumption|decide +kernel|omega)
  |((refine C60 _ _ _ _ _ ?_ ?_ ?_ _)<;>first|assumption|decide +kernel|omega)
  |((refine C61 _ _ _ _ ?_ _)<;>first|assumption|decide +kernel|omega)
  |(with_reducible exact C62 _)
  |((refine C63 _ _ _ _ ?_ ?_ ?_ _)<;>first|assumption|decide +kernel|omega)
  |(exact Le.of (by kernel_rfl))
  |(exact BkR.of (by kernel_rfl))
def cz_C15b:Cz:={
 ct:=(fun f=>match f with
 |53=>some fun _ _S ar=>match ar with | [.c (.l (.v (.string s)))]=>some {v:=iv .u32 (Oct.M.sum s.data.toList:Nat),rd:=[],wr:=[],nw:=0}|_=>none
 |57=>some fun _ _S ar=>match ar with | [.c (.l (.v (.string s))),.c (.l (.v (.string t)))]=>some {v:=.tup [.l (.v (.string (cutP s t).1)),.l (.v (.bool (cutP s t).2))],rd:=[],wr:=[],nw:=0}|_=>none
 |58=>some fun _ _S ar=>match ar with | [.c (.l (.v (.string s)))]=>some {v:=.c (.l (.p _S.n 0)),rd:=[],wr:=[(_S.n,⟨[.v (.string s),.v (.int .i64 0),.v (.bool false)],.t 174⟩)],nw:=1}|_=>none
 |59=>some fun _ _S ar=>match ar with | [.c (.l (.p i _))]=>some {v:=V59 _S i,rd:=[i],wr:=[(i,W59 _S i)],nw:=0}|_=>none
 |60=>some fun _ _S ar=>match ar with | [.c (.l (.p i _)),.c (.l (.v (.int _ m)))]=>some {v:=V60 _S i m,rd:=[i],wr:=[(i,W60 _S i m)],nw:=0}|_=>none
 |61=>some fun _ _S ar=>match ar with | [.c (.l (.p i _))]=>some {v:=V61 _S i,rd:=[i],wr:=[],nw:=0}|_=>none
 |62=>some fun _ _S ar=>match ar with | [.c (.l (.v (.string s)))]=>some {v:=.tup [.l (.v (.slice none 0 0)),.l (.v (.slice none 0 0)),.l (li 0)],rd:=[],wr:=[],nw:=0}|_=>none
 |63=>some fun _ _S ar=>match ar with | [.c (.l (.p i _))]=>some {v:=V63 _S i,rd:=[i],wr:=[],nw:=0}|_=>none
 |64=>some fun _ _S ar=>match ar with | [.c (.l (.p i _)),.c (.l (.v (.int _ m)))]=>some {v:=V64 _S i m,rd:=[i],wr:=[(i,W64 _S i m)],nw:=0}|_=>none
 |_=>none)
 eq:=(fun t=>match t with
 |_=>none)
 raw:=[],sym:=[],nf:=[(19,.tup [.l (.v (.string ⟨#[71]⟩)),.l (lb false)])],ap:=true,off:=[],on:=[],lp:=fun _=>none,un:=2}
set_option maxRecDepth 100000 in
set_option maxHeartbeats 400000 in
theorem C15b   (n:Nat):CallOK Tryz.prog 15 [.c (.l (.v (.string ⟨#[71]⟩)))] [] n (.tup [.l (.v (.pointer none)),.l (li 11)]) [] 0:=by
 refine CallOK.any ?_ (by kernel_rfl) (by kernel_rfl) n
 refine call_ok (cx:=cz_C15b) (nm:=[]) rfl Tryz.func15 (body:=Tryz.f15.body.getD .skip) rfl enters15 (by kernel_rfl) ?_
 apply of_eq (q:=CallOKd Tryz.prog 57 [] [SV.c (Cp.l (Leaf.v (Value.string (ByteArray.mk #[71])))),SV.c (Cp.l (Leaf.v (Value.string (ByteArray.mk #[71,1]))))] [] 0 (SV.tup [Cp.l (Leaf.v (Value.string (cutP (ByteArray.mk #[71]) (ByteArray.mk #[71,1])).fst)),Cp.l (lb (cutP (ByteArray.mk #[71]) (ByteArray.mk #[71,1])).snd)]) [] 0∧Le (SV.tup [Cp.l (Leaf.v (Value.string (cutP (ByteArray.mk #[71]) (ByteArray.mk #[71,1])).fst)),Cp.l (lb (cutP (ByteArray.mk #[71]) (ByteArray.mk #[71,1])).snd)]) (SV.tup [Cp.l (Leaf.v (Value.string (ByteArray.mk #[71]))),Cp.l (lb false)])∧Le (SV.tup [Cp.l (Leaf.v (Value.pointer none)),Cp.l (li 11)]) (SV.tup [Cp.l (Leaf.v (Value.pointer none)),Cp.l (li 11)])∧True) (by kernel_rfl)
 repeat' (first|exact trivial|with_reducible apply And.intro|(with_reducible apply HB.mk)|with_reducible intro _)
 all_goals first
  |(with_reducible exact Le.refl _)
  |((refine C57 _ _ ?_ _);first|assumption|decide +kernel)
  |(exact Le.of (by kernel_rfl))
theorem C12e (n:Nat):CallOK Tryz.prog 12 [ag [.v (.slice none 0 0)]] [] n (.tup [.l (.v (.string ⟨#[71,1,1,0,210,2,239,141]⟩)),.l (li 0)]) [] 0:=
 call_plain enters12 (vals:=[.agg #[.slice none 0 0]]) (y:=.tuple #[.string ⟨#[71,1,1,0,210,2,239,141]⟩,.int .i64 0]) rfl rfl n fun x=>Oct.pack_empty x
def cz_C25_2:Cz:={
 ct:=(fun f=>match f with
 |_=>none)
 eq:=(fun t=>match t with
 |_=>none)
 raw:=[],sym:=[],nf:=[],ap:=true,off:=[],on:=[],lp:=fun _=>none,un:=0}
set_option maxRecDepth 100000 in
set_option maxHeartbeats 400000 in
theorem C25_2   : CallOK Tryz.prog 25 [.c (.l (.p 0 0))] [(0,⟨[.v (.slice none 0 0),li 0],.t 125⟩)] 2 (iv .i64 0) [] ([]:List Nat).length:=by
 refine call_ok (cx:=cz_C25_2) (nm:=[]) rfl Tryz.func25 (body:=Tryz.f25.body.getD .skip) rfl enters25 (by kernel_rfl) ?_
 apply of_eq (q:=Le (iv IntKind.i64 (Nat.cast 0:Int)) (iv IntKind.i64 0)∧True) (by kernel_rfl)
 repeat' (first|exact trivial|with_reducible apply And.intro|(with_reducible apply HB.mk)|with_reducible intro _)
 all_goals first
  |(exact Le.of rfl)
theorem enters26:Enters Tryz.prog 26:=fun args w=>by go_simp
def cz_C26_2:Cz:={
 ct:=(fun f=>match f with
 |_=>none)
 eq:=(fun t=>match t with
 |_=>none)
 raw:=[],sym:=[],nf:=[],ap:=true,off:=[],on:=[],lp:=fun _=>none,un:=2}
set_option maxRecDepth 100000 in
set_option maxHeartbeats 400000 in
theorem C26_2   : CallOK Tryz.prog 26 [.c (.l (.p 0 0))] [(0,⟨[.v (.slice none 0 0),li 0],.t 125⟩)] 2 (ag [li 0,li 0,li 0,li 0]) [] ([]:List Nat).length:=by
 refine call_ok (cx:=cz_C26_2) (nm:=[]) rfl Tryz.func26 (body:=Tryz.f26.body.getD .skip) rfl enters26 (by kernel_rfl) ?_
 apply of_eq (q:=Le (ag [li 0,li 0,li 0,li 0]) (ag [li 0,li 0,li 0,li 0])∧True) (by kernel_rfl)
 repeat' (first|exact trivial|with_reducible apply And.intro|(with_reducible apply HB.mk)|with_reducible intro _)
 all_goals first
  |(with_reducible exact Le.refl _)
theorem enters10:Enters Tryz.prog 10:=fun args w=>by go_simp
def cz_C10:Cz:={
 ct:=(fun f=>match f with
 |12=>some fun _ _S ar=>match ar with | [.c (.agg [.v (.slice none _ _)])]=>some {v:=.tup [.l (.v (.string ⟨#[71,1,1,0,210,2,239,141]⟩)),.l (li 0)],rd:=[],wr:=[],nw:=0}|_=>none
 |15=>some fun _ _S ar=>match ar with | [.c (.l (.v (.string s)))]=>some {v:=(match s.size with|8=>.tup [.l (.p _S.n 0),.l (li 0)]|_=>.tup [.l (.v (.pointer none)),.l (li 11)]),rd:=[],wr:=(match s.size with|8=>[(_S.n,⟨[.v (.slice none 0 0),li 0],.t 125⟩)]|_=>[]),nw:=(match s.size with|8=>1|_=>0)}|_=>none
 |25=>some fun _ _S ar=>match ar with | [.c (.l (.p i _))]=>some {v:=iv .i64 0,rd:=[i],wr:=[],nw:=0}|_=>none
 |26=>some fun _ _S ar=>match ar with | [.c (.l (.p i _))]=>some {v:=ag [li 0,li 0,li 0,li 0],rd:=[i],wr:=[],nw:=0}|_=>none
 |_=>none)
 eq:=(fun t=>match t with
 |66=>some (fun xs ys=>match xs,ys with | [.v (.int _ a0),.v (.int _ a1),.v (.int _ a2),.v (.int _ a3)],[.v (.int _ b0),.v (.int _ b1),.v (.int _ b2),.v (.int _ b3)]=>(a0==b0&&(a1==b1&&(a2==b2&&a3==b3)))|_,_=>false)
 |_=>none)
 raw:=[],sym:=[],nf:=[(27,bv true),(32,.c (.l (.v (.string ⟨#[71,1,1,0]⟩)))),(34,bv true),(38,bv true),(42,bv true),(47,bv true),(53,bv true),(57,bv true)],ap:=true,off:=[],on:=[31],lp:=fun _=>none,un:=0}
set_option maxRecDepth 100000 in
set_option maxHeartbeats 400000 in
theorem C10   (n:Nat):CallOK Tryz.prog 10 [] [] n (bv true) [] 0:=by
 refine CallOK.any ?_ (by kernel_rfl) (by kernel_rfl) n
 refine call_ok (cx:=cz_C10) (nm:=[]) rfl Tryz.func10 (body:=Tryz.f10.body.getD .skip) rfl enters10 (by kernel_rfl) ?_
 apply of_eq (q:=CallOKd Tryz.prog 12 [] [ag [Leaf.v (Value.slice none 0 0)]] [] 0 (SV.tup [Cp.l (Leaf.v (Value.string (ByteArray.mk #[71,1,1,0,210,2,239,141]))),Cp.l (li 0)]) [] 0∧CallOKd Tryz.prog 15 [] [SV.c (Cp.l (Leaf.v (Value.string (ByteArray.mk #[71,1,1,0,210,2,239,141]))))] [] 0 (SV.tup [Cp.l (Leaf.p 0 0),Cp.l (li 0)]) [(0,Blk.mk [Leaf.v (Value.slice none 0 0),li 0] (BT.t 125))] 1∧CallOKd Tryz.prog 15 [] [SV.c (Cp.l (Leaf.v (Value.string (ByteArray.mk #[71]))))] [] 1 (SV.tup [Cp.l (Leaf.v (Value.pointer none)),Cp.l (li 11)]) [] 0∧((0==0)=true→(0==0)=true∧True)∧((0==0)=true→(0==0)=true∧True)∧((0==0)=true→(0==0)=true)∧Le (bv (bif 0==0 then (Nat.cast ((ByteArray.mk #[71,1,1,0,210,2,239,141]).size):Int)==8 else false)) (bv true)∧(true=true→true=true∧SlOK 0 4 (Nat.cast ((ByteArray.mk #[71,1,1,0,210,2,239,141]).size):Int)∧True)∧true=true∧(true=true→inByte 71∧inByte 1∧inByte 1∧inByte 0∧Le (SV.c (Cp.l (Leaf.v (Value.string (strOf [71,1,1,0]))))) (SV.c (Cp.l (Leaf.v (Value.string (ByteArray.mk #[71,1,1,0])))))∧True)∧(true=true→true=true∧true=true∧True)∧(true=true→true=true)∧Le (bv (bif true then ((ByteArray.mk #[71,1,1,0,210,2,239,141]).extract (Int.toNat 0) (Int.toNat 4)).toList==(ByteArray.mk #[71,1,1,0]).toList else false)) (bv true)∧(true=true→true=true∧True)∧(true=true→true=true)∧Le (bv (bif true then 0==0 else false)) (bv true)∧(true=true→true=true∧True)∧(true=true→true=true)∧Le (bv (bif true then true else false)) (bv true)∧(true=true→true=true∧CallOKd Tryz.prog 25 [] [SV.c (Cp.l (Leaf.p 0 0))] [(0,Blk.mk [Leaf.v (Value.slice none 0 0),li 0] (BT.t 125))] 2 (iv IntKind.i64 0) [] 0∧True)∧(true=true→true=true∧True)∧(true=true→true=true)∧Le (bv (bif true then 0==0 else false)) (bv true)∧(true=true→true=true∧CallOKd Tryz.prog 26 [] [SV.c (Cp.l (Leaf.p 0 0))] [(0,Blk.mk [Leaf.v (Value.slice none 0 0),li 0] (BT.t 125))] 2 (ag [li 0,li 0,li 0,li 0]) [] 0∧True)∧(true=true→true=true∧true=true∧EqOK Tryz.prog 66 [li 0,li 0,li 0,li 0] [li 0,li 0,li 0,li 0] (0==0&&(0==0&&(0==0&&0==0)))∧True)∧(true=true→true=true)∧Le (bv (bif true then 0==0&&(0==0&&(0==0&&0==0)) else false)) (bv true)∧(true=true→true=true∧True)∧(true=true→true=true)∧Le (bv (bif true then 11==11 else false)) (bv true)∧Le (bv true) (bv true)∧True) (by kernel_rfl)
 repeat' (first|exact trivial|with_reducible apply And.intro|(with_reducible apply HB.mk)|with_reducible intro _)
 all_goals first
  |(assumption)
  |(with_reducible exact Le.refl _)
  |(with_reducible exact C12e _)
  |((first|exact C15a|exact C15b _))
  |((exact C25_2))
  |((exact C26_2))
  |(exact Le.of (by kernel_rfl))
  |(decide)
  |(exact eq66 0 0 0 0 0 0 0 0)
  |(unfold SlOK;decide)
  |(unfold inByte;decide)
end Ab
end Go.Proofs.YtpdckpifhniioaaGreat
end
