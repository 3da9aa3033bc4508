/- Part 16 of what CodecPacks rests on. -/
import Derived.Test.YtpdckpifhniioaaGreatVo
section
set_option linter.unusedVariables false
set_option linter.unusedSimpArgs false
namespace Go.Proofs.YtpdckpifhniioaaGreat
open Go.RowKit
namespace Ab
def I56 (l:List TA) (k:Nat):St:=⟨[(3,iv .i64 (k:Nat)),(1,.c (.l (.p 1 0)))],[(0,some ⟨rws l,.r 42 258 0⟩),(1,some ⟨[.o 0 l.length],.t 26⟩)],2,60,[1],(1)⟩
theorem el_pos (e:TA):List.take 2 (List.drop 0 (el e))=[li e.X,li e.Y]:=rfl
theorem el_t (e:TA):List.take 256 (List.drop 2 (el e))=tl e.t:=tl_take _
theorem less_t {l:List TA} (hg:Good l) {k:Nat} (hk:k<l.length) (h:0<k):lesB (at' l (k-1)).X (at' l (k-1)).Y (at' l k).X (at' l k).Y=true:=by
 have:=hg.ord (k-1) (by omega)
 rw[show k-1+1=k by omega] at this
 exact decide_eq_true this
def cz_R56 (l:List TA) (k:Nat):Cz:={
 ct:=(fun f=>match f with
 |44=>some fun _ _S ar=>match ar with | [.c (.agg l)]=>some {v:=bv (zeroT (lsB l)),rd:=[],wr:=[],nw:=0}|_=>none
 |104=>some fun _ _S ar=>match ar with | [.c (.agg [.v (.int _ ax),.v (.int _ ay)])]=>some {v:=bv (inB ax ay),rd:=[],wr:=[],nw:=0}|_=>none
 |121=>some fun _ _S ar=>match ar with | [.c (.agg l),.c (.agg m)]=>some {v:=bv (sameT (lsB l) (lsB m)),rd:=[],wr:=[],nw:=0}|_=>none
 |122=>some fun _ _S ar=>match ar with | [.c (.agg l)]=>some {v:=.c (.agg (tl (clnT (lsB l)))),rd:=[],wr:=[],nw:=0}|_=>none
 |123=>some fun _ _S ar=>match ar with | [.c (.agg [.v (.int _ ax),.v (.int _ ay)]),.c (.agg [.v (.int _ cx),.v (.int _ cy)])]=>some {v:=bv (lesB ax ay cx cy),rd:=[],wr:=[],nw:=0}|_=>none
 |_=>none)
 eq:=(fun t=>match t with
 |_=>none)
 raw:=[],sym:=[21,22,51,53],nf:=[(22,.c (.agg (el (at' l k)))),(24,.c (.agg (tl (at' l k).t))),(25,bv false),(27,.c (.agg (tl (at' l k).t))),(28,.c (.agg (tl (clnT (at' l k).t)))),(30,.c (.agg (tl (at' l k).t))),(31,bv true),(33,.c (.agg [li (at' l k).X,li (at' l k).Y])),(34,bv true),(35,bv false),(38,bv false),(41,bv false),(42,bv false),(53,.c (.agg [li (at' l (k-1)).X,li (at' l (k-1)).Y])),(55,.c (.agg [li (at' l k).X,li (at' l k).Y])),(56,bv true),(57,bv false),(58,bv false),(59,bv false)],ap:=true,off:=[],on:=[],lp:=fun _=>none,un:=0,wh:=[42]}
set_option maxRecDepth 100000 in
theorem R56 (l:List TA) (k:Nat)  (K:Exit→St→Prop) (h:HB (decide ((Nat.cast k:Int)<(Nat.cast l.length:Int))) (InR ((Nat.cast k:Int)) l.length∧((Nat.cast k:Int)).toNat*258+258≤(rws l).length∧Le (ag (List.take 258 (List.drop (((Nat.cast k:Int)).toNat*258) (rws l)))) (ag (el (at' l k)))∧0=0∧258=258∧Le (ag (List.take 256 (List.drop 2 (el (at' l k))))) (ag (tl (at' l k).t))∧CallOKd Tryz.prog 44 [] [ag (tl (at' l k).t)] [] 3 (bv (zeroT (lsB (tl (at' l k).t)))) [] 0∧Le (bv (zeroT (lsB (tl (at' l k).t)))) (bv false)∧Le (ag (List.take 256 (List.drop 2 (el (at' l k))))) (ag (tl (at' l k).t))∧CallOKd Tryz.prog 122 [] [ag (tl (at' l k).t)] [] 3 (ag (tl (clnT (lsB (tl (at' l k).t))))) [] 0∧Le (ag (tl (clnT (lsB (tl (at' l k).t))))) (ag (tl (clnT (at' l k).t)))∧Le (ag (List.take 256 (List.drop 2 (el (at' l k))))) (ag (tl (at' l k).t))∧CallOKd Tryz.prog 121 [] [ag (tl (clnT (at' l k).t)),ag (tl (at' l k).t)] [] 3 (bv (sameT (lsB (tl (clnT (at' l k).t))) (lsB (tl (at' l k).t)))) [] 0∧Le (bv (sameT (lsB (tl (clnT (at' l k).t))) (lsB (tl (at' l k).t)))) (bv true)∧Le (ag (List.take 2 (el (at' l k)))) (ag [li (at' l k).X,li (at' l k).Y])∧CallOKd Tryz.prog 104 [] [ag [li (at' l k).X,li (at' l k).Y]] [] 3 (bv (inB (at' l k).X (at' l k).Y)) [] 0∧Le (bv (inB (at' l k).X (at' l k).Y)) (bv true)∧Le (bv !true) (bv false)∧(false=false→(!false)=true)∧Le (bv (bif false then true else false)) (bv false)∧((!false)=true→(!false)=true∧Le (bv !true) (bv false)∧True)∧(false=false→(!false)=true)∧Le (bv (bif false then true else false)) (bv false)∧((!false)=true→(!false)=true∧True)∧((!false)=true→(!false)=true∧True)∧((!false&&decide ((Nat.cast k:Int)>0))=true→(!false&&decide ((Nat.cast k:Int)>0))=true∧True)∧((!false&&decide ((Nat.cast k:Int)>0))=true→(!false&&decide ((Nat.cast k:Int)>0))=true∧IntKind.i64.wrap ((Nat.cast k:Int)-1)=(Nat.cast k:Int)-1∧True)∧((!false&&decide ((Nat.cast k:Int)>0))=true→(!false&&decide ((Nat.cast k:Int)>0))=true∧(!false&&decide ((Nat.cast k:Int)>0))=true∧InR ((Nat.cast k:Int)-1) l.length∧True)∧((!false&&decide ((Nat.cast k:Int)>0))=true→(!false&&decide ((Nat.cast k:Int)>0))=true∧True)∧((!false&&decide ((Nat.cast k:Int)>0))=true→(!false&&decide ((Nat.cast k:Int)>0))=true∧((Nat.cast k:Int)-1).toNat*258+0+2≤(rws l).length∧Le (ag (List.take 2 (List.drop (((Nat.cast k:Int)-1).toNat*258+0) (rws l)))) (ag [li (at' l (k-1)).X,li (at' l (k-1)).Y])∧True)∧((!false&&decide ((Nat.cast k:Int)>0))=true→(!false&&decide ((Nat.cast k:Int)>0))=true∧Le (ag (List.take 2 (el (at' l k)))) (ag [li (at' l k).X,li (at' l k).Y])∧True)∧((!false&&decide ((Nat.cast k:Int)>0))=true→(!false&&decide ((Nat.cast k:Int)>0))=true∧(!false&&decide ((Nat.cast k:Int)>0))=true∧CallOKd Tryz.prog 123 [] [ag [li (at' l (k-1)).X,li (at' l (k-1)).Y],ag [li (at' l k).X,li (at' l k).Y]] [] 3 (bv (lesB (at' l (k-1)).X (at' l (k-1)).Y (at' l k).X (at' l k).Y)) [] 0∧Le (bv (lesB (at' l (k-1)).X (at' l (k-1)).Y (at' l k).X (at' l k).Y)) (bv true)∧True)∧((!false&&decide ((Nat.cast k:Int)>0))=true→(!false&&decide ((Nat.cast k:Int)>0))=true∧Le (bv !true) (bv false)∧True)∧((!false)=true→(!false)=true∧(decide ((Nat.cast k:Int)>0)=true→(!false&&decide ((Nat.cast k:Int)>0))=true)∧Le (bv (bif decide ((Nat.cast k:Int)>0) then false else false)) (bv false)∧True)∧(false=false→(!false)=true)∧Le (bv (bif false then true else false)) (bv false)∧IntKind.i64.wrap ((Nat.cast k:Int)+1)=(Nat.cast k:Int)+1∧RoundTo Tryz.prog ((getLoop 4 (Tryz.f56.body.getD Code.skip)).getD Code.skip) 2 (wkK 2 K) (St.mk [(1,SV.c (Cp.l (Leaf.p 1 0))),(3,iv IntKind.i64 ((Nat.cast k:Int)+1))] [(0,some (Blk.mk (rws l) (BT.r 42 258 0))),(1,some (Blk.mk [Leaf.o 0 l.length] (BT.t 26))),(2,some (Blk.mk (el (at' l k)) (BT.t 42)))] 3 60 [2,2,1] 1)) (wkK 2 K (Exit.exit 0) (St.mk [(1,SV.c (Cp.l (Leaf.p 1 0))),(3,iv IntKind.i64 (Nat.cast k:Int))] [(0,some (Blk.mk (rws l) (BT.r 42 258 0))),(1,some (Blk.mk [Leaf.o 0 l.length] (BT.t 26))),(2,none)] 2 60 [1] 1))):WPL Tryz.prog ((getLoop 4 (Tryz.f56.body.getD .skip)).getD .skip) (I56 l k) (wkK 2 K):=
 wp_roundT [1,3] [0,1,2] (cx:=cz_R56 l k) rfl (of_eq (by kernel_rfl) h)
set_option maxRecDepth 100000 in
set_option maxHeartbeats 4000000 in
theorem L56 (l:List TA) (hg:Good l):∀(m k:Nat),l.length-k=m→k≤l.length→∀(K:Exit→St→Prop),K (.exit 0) (I56 l l.length)→WPL Tryz.prog ((getLoop 4 (Tryz.f56.body.getD .skip)).getD .skip) (I56 l k) (wkK 2 K)
 |0,k,hm,hk,K,hK=>by
  have e:k=l.length:=by omega
  subst e
  refine R56 l _ K (HB.mk (fun hne=>absurd (of_decide_eq_true hne) (by omega)) (fun he=>?_))
  exact wkK.to (I56 l _) (Nat.le_refl _) (by kernel_rfl) (wkE_cons (LeN.sl (by kernel_rfl) rfl) (wkE_cons (LeN.sl (by kernel_rfl) rfl) trivial)) (wkH_cons (BkN.plain (cs:=rws l) (b:=.r 42 258 0) (by kernel_rfl) (rfl) (plain_rws l) (by kernel_rfl)) (wkH_cons (BkN.blk (k:=⟨[.o 0 l.length],.t 26⟩) (by kernel_rfl) (rfl) (by kernel_rfl)) trivial)) hK
 |m+1,k,hm,hk,K,hK=>by
  refine R56 l k K (HB.mk (fun hne=>?_) (fun he=>absurd (show ((k:Nat):Int)<(l.length:Nat) by omega) (of_decide_eq_false he)))
  have hlt:k<l.length:=by omega
  have hlen:=hg.len
  repeat' (first|exact trivial|with_reducible apply And.intro|(with_reducible apply HB.mk)|with_reducible intro _)
  all_goals first
   |(assumption)
   |(with_reducible rfl)
   |((with_reducible exact C44L _ _ rfl _))
   |(with_reducible exact C104 _ _ _)
   |((with_reducible exact C121L _ _ _ _ rfl rfl _))
   |((with_reducible exact C122L _ _ rfl _))
   |(with_reducible exact C123 _ _ _ _ _)
   |(exact ⟨by omega,by omega⟩)
   |(exact ⟨by have:=gk ‹_›;omega,by omega⟩)
   |((rw[rws_len,show (((k:Nat):Int)).toNat=k from rfl];omega))
   |((have:=gk ‹_›;rw[rws_len,kprev this];omega))
   |((refine Le.of ?_;simp only[tn,Nat.zero_add,Nat.add_zero];rw[rws_at hlt]))
   |(exact Le.of (congrArg (fun l=>SV.c (.agg l)) (el_t _)))
   |(exact Le.of (congrArg (fun l=>SV.c (.agg l)) (el_pos _)))
   |((have:=gk ‹_›;refine Le.of ?_;simp only[kprev this,Nat.zero_add,Nat.add_zero];rw[rws_pos (by omega)]))
   |(exact Le.bool (by rw[hg.inn k hlt]))
   |(exact Le.bool (by rw[zeroT_lsB,hg.nz k hlt]))
   |(exact Le.of (by rw[cln_lsB]))
   |(exact Le.bool (by rw[same_lsB,hg.cl k hlt]))
   |(exact Le.bool rfl)
   |((have:=gk ‹_›;exact Le.bool (less_t hg hlt this)))
   |((have:=gk ‹_›;exact okw _ (by omega) (by omega)))
   |((refine Le.bool ?_;cases decide (((k:Nat):Int)>0)<;>rfl))
   |((with_reducible refine RoundTo.toN 3 (I56 l (k+1)) ?_ ?_ ?_ ?_ ?_);exact Nat.le_refl _;kernel_rfl;exact (wkE_cons (LeN.sl (by kernel_rfl) rfl) (wkE_cons (LeN.sl (by kernel_rfl) rfl) trivial));exact (wkH_cons (BkN.plain (cs:=rws l) (b:=.r 42 258 0) (by kernel_rfl) (rfl) (plain_rws l) (by kernel_rfl)) (wkH_cons (BkN.blk (k:=⟨[.o 0 l.length],.t 26⟩) (by kernel_rfl) (rfl) (by kernel_rfl)) trivial));exact (L56 l hg m (k+1) (by omega) (by omega) K hK))
   |(exact okw _ (by omega) (by omega))
   |(simp only[*,Bool.and_self,Bool.not_false,Bool.not_true];done)
theorem enters56:Enters Tryz.prog 56:=fun args w=>by go_simp
def cz_C56 (l:List TA):Cz:={
 ct:=(fun f=>match f with
 |44=>some fun _ _S ar=>match ar with | [.c (.agg l)]=>some {v:=bv (zeroT (lsB l)),rd:=[],wr:=[],nw:=0}|_=>none
 |104=>some fun _ _S ar=>match ar with | [.c (.agg [.v (.int _ ax),.v (.int _ ay)])]=>some {v:=bv (inB ax ay),rd:=[],wr:=[],nw:=0}|_=>none
 |121=>some fun _ _S ar=>match ar with | [.c (.agg l),.c (.agg m)]=>some {v:=bv (sameT (lsB l) (lsB m)),rd:=[],wr:=[],nw:=0}|_=>none
 |122=>some fun _ _S ar=>match ar with | [.c (.agg l)]=>some {v:=.c (.agg (tl (clnT (lsB l)))),rd:=[],wr:=[],nw:=0}|_=>none
 |123=>some fun _ _S ar=>match ar with | [.c (.agg [.v (.int _ ax),.v (.int _ ay)]),.c (.agg [.v (.int _ cx),.v (.int _ cy)])]=>some {v:=bv (lesB ax ay cx cy),rd:=[],wr:=[],nw:=0}|_=>none
 |_=>none)
 eq:=(fun t=>match t with
 |_=>none)
 raw:=[],sym:=[],nf:=[(10,bv false)],ap:=true,off:=[],on:=[],lp:=fun r=>match r with|4=>some (fun _ K=>K (.exit 0) (I56 l l.length))|_=>none,un:=0}
set_option maxRecDepth 100000 in
set_option maxHeartbeats 400000 in
theorem C56 (l:List TA) (hg:Good l):CallOK Tryz.prog 56 [.c (.agg [.o 0 l.length])] [(0,⟨rws l,.r 42 258 0⟩)] 1 (bv true) [] 0:=by
 have hlen:=hg.len
 refine call_ok (cx:=cz_C56 l) (nm:=[]) rfl Tryz.func56 (body:=Tryz.f56.body.getD .skip) rfl enters56 (by unfold inck;simp only[List.all_cons,List.all_nil,blkLt_plain (plain_rws l) (show (BT.rn (rnId 1 0 []) (.r 42 258 0)).isSome=true from rfl),Bool.and_true,Bool.true_and];kernel_rfl) ?_
 apply of_eq (q:=Le (bv (decide ((Nat.cast l.length:Int)>1024))) (bv false)∧(LoopOK Tryz.prog ((getLoop 4 (Tryz.f56.body.getD .skip)).getD .skip) (St.mk [(3,iv IntKind.i64 0),(10,bv false),(9,iv IntKind.i64 (Nat.cast l.length:Int)),(8,SV.c (Cp.l (Leaf.o 0 l.length))),(7,SV.c (Cp.l (Leaf.p 1 0))),(2,bv false),(1,SV.c (Cp.l (Leaf.p 1 0))),(0,ag [Leaf.o 0 l.length])] [(1,some (Blk.mk [Leaf.o 0 l.length] (BT.t 26))),(0,some (Blk.mk (rws l) (BT.r 42 258 0)))] 2 60 [1] 1) fun K=>K (Exit.exit 0) (I56 l l.length))∧Le (bv true) (bv true)∧True) (by kernel_rfl)
 repeat' (first|exact trivial|with_reducible apply And.intro|(with_reducible apply HB.mk)|with_reducible intro _)
 all_goals first
  |(with_reducible exact Le.refl _)
  |(exact LoopOK.mk (I56 l 0) rfl (by kernel_rfl) (wkE_cons (LeN.sl (by kernel_rfl) rfl) (wkE_cons (LeN.sl (by kernel_rfl) rfl) trivial)) (wkH_cons (BkN.plain (cs:=rws l) (b:=.r 42 258 0) (by kernel_rfl) (rfl) (plain_rws l) (by kernel_rfl)) (wkH_cons (BkN.blk (k:=⟨[.o 0 l.length],.t 26⟩) (by kernel_rfl) (rfl) (by kernel_rfl)) trivial)) (fun K hT=>L56 l hg _ 0 rfl (by first|decide|omega) K hT))
  |((refine Le.bool (decide_eq_false ?_);omega))
theorem C56g (l:List TA) (hg:Good l) (id n:Nat) (hi:id<n):CallOK Tryz.prog 56 [.c (.agg [.o id l.length])] [(id,⟨rws l,.r 42 258 id⟩)] n (bv true) [] 0:=by
 have key:=CallOK.at1 (C56 l hg) id n hi
 have e1:=ren_plain (σ:=up1 id n) (plain_rws l)
 simp only[List.map_cons,List.map_nil,Blk.ren,e1] at key
 exact key
theorem enters99:Enters Tryz.prog 99:=fun args w=>by go_simp
def cz_C99 (l:List TA):Cz:={
 ct:=(fun f=>match f with
 |56=>some fun _ _S ar=>match ar with | [.c (.agg [.o i _])]=>some {v:=bv true,rd:=[i],wr:=[],nw:=0}|_=>none
 |_=>none)
 eq:=(fun t=>match t with
 |_=>none)
 raw:=[],sym:=[],nf:=[(5,bv true),(7,bv false)],ap:=true,off:=[],on:=[],lp:=fun _=>none,un:=0,wh:=[26]}
set_option maxRecDepth 100000 in
set_option maxHeartbeats 400000 in
theorem C99 (l:List TA) (hg:Good l):CallOK Tryz.prog 99 [.c (.agg [.o 0 l.length])] [(0,⟨rws l,.r 42 258 0⟩)] 1 (.c (.agg [.o 0 l.length])) [] 0:=by
 refine call_ok (cx:=cz_C99 l) (nm:=[]) rfl Tryz.func99 (body:=Tryz.f99.body.getD .skip) rfl enters99 (by unfold inck;simp only[List.all_cons,List.all_nil,blkLt_plain (plain_rws l) (show (BT.rn (rnId 1 0 []) (.r 42 258 0)).isSome=true from rfl),Bool.and_true,Bool.true_and];kernel_rfl) ?_
 apply of_eq (q:=CallOKd Tryz.prog 56 [] [ag [Leaf.o 0 l.length]] [(0,Blk.mk (rws l) (BT.r 42 258 0))] 3 (bv true) [] 0∧Le (bv true) (bv true)∧Le (bv !true) (bv false)∧0=0∧1=1∧Le (ag [Leaf.o 0 l.length]) (ag [Leaf.o 0 l.length])∧True) (by kernel_rfl)
 repeat' (first|exact trivial|with_reducible apply And.intro|(with_reducible apply HB.mk)|with_reducible intro _)
 all_goals first
  |(with_reducible exact Le.refl _)
  |(with_reducible rfl)
  |((with_reducible exact C56g _ hg _ _ (by omega)))
  |(exact Le.bool rfl)
theorem enters105:Enters Tryz.prog 105:=fun args w=>by go_simp
def cz_C105 (l:List TA):Cz:={
 ct:=(fun f=>match f with
 |_=>none)
 eq:=(fun t=>match t with
 |_=>none)
 raw:=[],sym:=[],nf:=[(6,bv false)],ap:=true,off:=[],on:=[],lp:=fun _=>none,un:=0,wh:=[96]}
set_option maxRecDepth 100000 in
set_option maxHeartbeats 400000 in
theorem C105 (l:List TA) (hl:l.length≤1024):CallOK Tryz.prog 105 [.c (.agg [.o 0 l.length])] [(0,⟨rws l,.r 42 258 0⟩)] 1 (.c (.agg [.o 0 l.length,li 0])) [] 0:=by
 refine call_ok (cx:=cz_C105 l) (nm:=[]) rfl Tryz.func105 (body:=Tryz.f105.body.getD .skip) rfl enters105 (by unfold inck;simp only[List.all_cons,List.all_nil,blkLt_plain (plain_rws l) (show (BT.rn (rnId 1 0 []) (.r 42 258 0)).isSome=true from rfl),Bool.and_true,Bool.true_and];kernel_rfl) ?_
 apply of_eq (q:=Le (bv (decide ((Nat.cast l.length:Int)>1024))) (bv false)∧0=0∧2=2∧Le (ag [Leaf.o 0 l.length,li 0]) (ag [Leaf.o 0 l.length,li 0])∧True) (by kernel_rfl)
 repeat' (first|exact trivial|with_reducible apply And.intro|(with_reducible apply HB.mk)|with_reducible intro _)
 all_goals first
  |(with_reducible exact Le.refl _)
  |(with_reducible rfl)
  |((refine Le.bool (decide_eq_false ?_);omega))
theorem C99g (l:List TA) (hg:Good l) (id n:Nat) (hi:id<n):CallOK Tryz.prog 99 [.c (.agg [.o id l.length])] [(id,⟨rws l,.r 42 258 id⟩)] n (.c (.agg [.o id l.length])) [] 0:=by
 have key:=CallOK.at1 (C99 l hg) id n hi
 have e1:=ren_plain (σ:=up1 id n) (plain_rws l)
 simp only[List.map_cons,List.map_nil,Blk.ren,e1] at key
 exact key
theorem C105g (l:List TA) (hl:l.length≤1024) (id n:Nat) (hi:id<n):CallOK Tryz.prog 105 [.c (.agg [.o id l.length])] [(id,⟨rws l,.r 42 258 id⟩)] n (.c (.agg [.o id l.length,li 0])) [] 0:=by
 have key:=CallOK.at1 (C105 l hl) id n hi
 have e1:=ren_plain (σ:=up1 id n) (plain_rws l)
 simp only[List.map_cons,List.map_nil,Blk.ren,e1] at key
 exact key
end Ab
end Go.Proofs.YtpdckpifhniioaaGreat
end
section
set_option linter.unusedVariables false
set_option linter.unusedSimpArgs false
namespace Go.Proofs.YtpdckpifhniioaaGreat
open Go.RowKit
namespace Ab
theorem eql40 (a0 a1 b0 b1:Int) (W:World):(binOp .eql 40 (.agg #[.int .i64 a0,.int .i64 a1]) (.agg #[.int .i64 b0,.int .i64 b1])).run Tryz.prog W=.ok (.bool (a0==b0&&a1==b1)) W:=by
 by_cases h0:a0=b0
 ·by_cases h1:a1=b1
  ·subst h0 h1;go_simp
  ·subst h0;go_simp
 ·go_simp
theorem neq40 (a0 a1 b0 b1:Int) (W:World):(binOp .neq 40 (.agg #[.int .i64 a0,.int .i64 a1]) (.agg #[.int .i64 b0,.int .i64 b1])).run Tryz.prog W=.ok (.bool (!(a0==b0&&a1==b1))) W:=by
 by_cases h0:a0=b0
 ·by_cases h1:a1=b1
  ·subst h0 h1;go_simp
  ·subst h0;go_simp
 ·go_simp
set_option maxRecDepth 100000 in
theorem eq40 (a0 a1 b0 b1:Int):EqOK Tryz.prog 40 [li a0,li a1] [li b0,li b1] (a0==b0&&a1==b1):=by
 intro β u v x y w hu hv
 rw[(plLs_iff (ys:=[.int .i64 a0,.int .i64 a1]) rfl β u).1 hu,(plLs_iff (ys:=[.int .i64 b0,.int .i64 b1]) rfl β v).1 hv]
 have h1:=eql40 a0 a1 b0 b1 w
 have h2:=neq40 a0 a1 b0 b1 w
 have g:∀op,(eqGuard op 40 x y (.agg [.int .i64 a0,.int .i64 a1].toArray) (.agg [.int .i64 b0,.int .i64 b1].toArray)).run Tryz.prog w=.ok () w:=by
  intro op;unfold eqGuard;cases op<;>go_simp
 constructor
 ·rw[Sem.run_bind,g];exact h1
 ·rw[Sem.run_bind,g];exact h2
def Behind (l:List TA) (x y:Int):Prop:=∀k,k<l.length→(at' l k).Y<y∨((at' l k).Y=y∧(at' l k).X<x)
def I106 (l:List TA) (x y:Int) (t:Nat→UInt8) (k:Nat):St:=⟨[(10,iv .i64 (k:Nat)),(9,bv false),(7,.c (.l (.p 5 0))),(6,.c (.l (.p 4 0))),(5,.c (.l (.p 3 0))),(4,.c (.l (.p 2 0))),(3,.c (.l (.p 1 0)))],[(0,some ⟨rws l,.r 42 258 0⟩),(1,some ⟨[.o 0 l.length],.t 26⟩),(2,some ⟨[li x,li y],.t 40⟩),(3,some ⟨tl t,.t 38⟩),(4,some ⟨[.v (.slice none 0 0)],.t 26⟩),(5,some ⟨[.o 6 k],.t 26⟩),(6,some ⟨rws (l.take k),.r 42 258 6⟩)],7,73,[6,5,4,3,2,1],(1)⟩
theorem rws_append (l m:List TA):rws (l++m)=rws l++rws m:=by simp[rws]
theorem rws_one (e:TA):rws [e]=el e:=by simp[rws]
theorem at_get {l:List TA} {k:Nat} (h:k<l.length):l[k]? = some (at' l k):=by
 unfold at'
 rw[List.getD,List.getElem?_eq_getElem h];rfl
theorem rws_next {l:List TA} {k:Nat} (h:k<l.length):rws (l.take k)++splice zA258 0 (el (at' l k))=rws (l.take (k+1)):=by
 rw[put_el,List.take_add_one,at_get h,rws_append]
 show _=_++rws [at' l k]
 rw[rws_one]
theorem zA_split {x y:Int}:splice zA258 0 [li x,li y]=[li x,li y]++List.replicate 256 (.v (.int .u8 0)):=rfl
theorem build_el (x y:Int) (t:Nat→UInt8):splice (splice zA258 0 [li x,li y]) 2 (tl t)=el ⟨x,y,t⟩:=by
 rw[zA_split]
 exact splice_full (tl t) (List.replicate 256 (.v (.int .u8 0))) [li x,li y] (by rw[tl_len,List.length_replicate])
theorem rws_last (l:List TA) (e:TA):rws (l.take l.length)++splice zA258 0 (el e)=rws l++el e:=by
 rw[List.take_length,put_el]
theorem BkM.lsB {S:St} {l:List (Nat×Option Nat)} {n j t:Nat} {xs xs':List Leaf} (h:S.blk j=some ⟨xs,.t t⟩) (hl:LsR l n xs xs'):BkM l n (S.blk j) ⟨xs',.t t⟩:=by
 rw[h];exact BkM.ls hl
theorem cln_tl {t:Nat→UInt8} (h:sameT (clnT t) t=true):tl (clnT (lsB (tl t)))=tl t:=by
 rw[cln_lsB]
 exact tl_ext fun i hi=>(sameT_iff _ _).1 h i hi
theorem plain_el (e:TA):Plain (el e):=fun x hx=>by
 simp only[el,List.mem_cons] at hx
 rcases hx with rfl|rfl|hx
 ·exact ⟨_,rfl⟩
 ·exact ⟨_,rfl⟩
 ·exact tl_plain _ x hx
theorem take_len (l:List TA) {k:Nat} (h:k≤l.length):(l.take k).length=k:=by rw[List.length_take];omega
theorem behind_less {l:List TA} {x y:Int} (h:Behind l x y) {k:Nat} (hk:k<l.length):lesB x y (at' l k).X (at' l k).Y=false:=by
 have:=h k hk
 exact decide_eq_false (by omega)
theorem behind_ne {l:List TA} {x y:Int} (h:Behind l x y) {k:Nat} (hk:k<l.length):(!((at' l k).X==x&&(at' l k).Y==y))=true:=by
 have:=h k hk
 by_cases h1:(at' l k).X=x
 ·have h2:(at' l k).Y≠y:=by omega
  simp[h1,h2]
 ·simp[h1]
def cz_R106 (l:List TA) (x y:Int) (t:Nat→UInt8) (k:Nat):Cz:={
 ct:=(fun f=>match f with
 |44=>some fun _ _S ar=>match ar with | [.c (.agg l)]=>some {v:=bv (zeroT (lsB l)),rd:=[],wr:=[],nw:=0}|_=>none
 |122=>some fun _ _S ar=>match ar with | [.c (.agg l)]=>some {v:=.c (.agg (tl (clnT (lsB l)))),rd:=[],wr:=[],nw:=0}|_=>none
 |123=>some fun _ _S ar=>match ar with | [.c (.agg [.v (.int _ ax),.v (.int _ ay)]),.c (.agg [.v (.int _ cx),.v (.int _ cy)])]=>some {v:=bv (lesB ax ay cx cy),rd:=[],wr:=[],nw:=0}|_=>none
 |_=>none)
 eq:=(fun t=>match t with
 |40=>some (fun xs ys=>match xs,ys with | [.v (.int _ a0),.v (.int _ a1)],[.v (.int _ b0),.v (.int _ b1)]=>(a0==b0&&a1==b1)|_,_=>false)
 |_=>none)
 raw:=[],sym:=[31,33,47,49,57,58,60],nf:=[(33,.c (.agg [li (at' l k).X,li (at' l k).Y])),(34,bv false),(35,bv false),(49,.c (.agg [li (at' l k).X,li (at' l k).Y])),(51,bv true),(58,.c (.agg (el (at' l k))))],ap:=true,off:=[],on:=[],lp:=fun _=>none,un:=0}
set_option maxRecDepth 100000 in
theorem R106 (l:List TA) (x y:Int) (t:Nat→UInt8) (k:Nat)  (K:Exit→St→Prop) (h:HB (decide ((Nat.cast k:Int)<(Nat.cast l.length:Int))) (((!false)=true→(!false)=true∧True)∧((!false)=true→(!false)=true∧(!false)=true∧InR ((Nat.cast k:Int)) l.length∧True)∧((!false)=true→(!false)=true∧True)∧((!false)=true→(!false)=true∧((Nat.cast k:Int)).toNat*258+0+2≤(rws l).length∧Le (ag (List.take 2 (List.drop (((Nat.cast k:Int)).toNat*258+0) (rws l)))) (ag [li (at' l k).X,li (at' l k).Y])∧True)∧((!false)=true→(!false)=true∧(!false)=true∧CallOKd Tryz.prog 123 [] [ag [li x,li y],ag [li (at' l k).X,li (at' l k).Y]] [] 7 (bv (lesB x y (at' l k).X (at' l k).Y)) [] 0∧Le (bv (lesB x y (at' l k).X (at' l k).Y)) (bv false)∧True)∧((!false)=true→(!false)=true)∧Le (bv (bif !false then false else false)) (bv false)∧InR ((Nat.cast k:Int)) l.length∧((Nat.cast k:Int)).toNat*258+0+2≤(rws l).length∧Le (ag (List.take 2 (List.drop (((Nat.cast k:Int)).toNat*258+0) (rws l)))) (ag [li (at' l k).X,li (at' l k).Y])∧EqOK Tryz.prog 40 [li (at' l k).X,li (at' l k).Y] [li x,li y] ((at' l k).X==x&&(at' l k).Y==y)∧Le (bv !((at' l k).X==x&&(at' l k).Y==y)) (bv true)∧(InR ((Nat.cast k:Int)) l.length∧((Nat.cast k:Int)).toNat*258+258≤(rws l).length∧Le (ag (List.take 258 (List.drop (((Nat.cast k:Int)).toNat*258) (rws l)))) (ag (el (at' l k)))∧(rws (List.take k l)).length=k*258∧258=258∧IntKind.i64.wrap ((Nat.cast k:Int)+1)=(Nat.cast k:Int)+1∧RoundTo Tryz.prog ((getLoop 6 (Tryz.f106.body.getD Code.skip)).getD Code.skip) 7 (wkK 7 K) (St.mk [(3,SV.c (Cp.l (Leaf.p 1 0))),(4,SV.c (Cp.l (Leaf.p 2 0))),(5,SV.c (Cp.l (Leaf.p 3 0))),(6,SV.c (Cp.l (Leaf.p 4 0))),(7,SV.c (Cp.l (Leaf.p 5 0))),(9,bv false),(10,iv IntKind.i64 ((Nat.cast k:Int)+1))] [(0,some (Blk.mk (rws l) (BT.r 42 258 0))),(1,some (Blk.mk [Leaf.o 0 l.length] (BT.t 26))),(2,some (Blk.mk [li x,li y] (BT.t 40))),(3,some (Blk.mk (tl t) (BT.t 38))),(4,some (Blk.mk [Leaf.v (Value.slice none 0 0)] (BT.t 26))),(5,some (Blk.mk [Leaf.o 6 (k+1)] (BT.t 26))),(6,some (Blk.mk (rws (List.take k l)++splice zA258 0 (el (at' l k))) (BT.r 42 258 6))),(7,some (Blk.mk (splice zA258 0 (el (at' l k))) (BT.r 42 258 7))),(8,none)] 8 73 [5,6,7,6,5,4,3,2,1] 1))∧InR ((Nat.cast k:Int)) l.length∧((Nat.cast k:Int)).toNat*258+258≤(rws l).length∧Le (ag (List.take 258 (List.drop (((Nat.cast k:Int)).toNat*258) (rws l)))) (ag (el (at' l k)))∧[(6,k+1,false)]=[(6,k+1,false)]∧ApB Tryz.prog 42 (k+1)∧(rws (List.take k l)).length=k*258∧258=258∧IntKind.i64.wrap ((Nat.cast k:Int)+1)=(Nat.cast k:Int)+1∧RoundTo Tryz.prog ((getLoop 6 (Tryz.f106.body.getD Code.skip)).getD Code.skip) 7 (wkK 7 K) (St.mk [(3,SV.c (Cp.l (Leaf.p 1 0))),(4,SV.c (Cp.l (Leaf.p 2 0))),(5,SV.c (Cp.l (Leaf.p 3 0))),(6,SV.c (Cp.l (Leaf.p 4 0))),(7,SV.c (Cp.l (Leaf.p 5 0))),(9,bv false),(10,iv IntKind.i64 ((Nat.cast k:Int)+1))] [(0,some (Blk.mk (rws l) (BT.r 42 258 0))),(1,some (Blk.mk [Leaf.o 0 l.length] (BT.t 26))),(2,some (Blk.mk [li x,li y] (BT.t 40))),(3,some (Blk.mk (tl t) (BT.t 38))),(4,some (Blk.mk [Leaf.v (Value.slice none 0 0)] (BT.t 26))),(5,some (Blk.mk [Leaf.o 8 (k+1)] (BT.t 26))),(6,some (Blk.mk (rws (List.take k l)) (BT.r 42 258 6))),(7,some (Blk.mk (splice zA258 0 (el (at' l k))) (BT.r 42 258 7))),(8,some (Blk.mk (rws (List.take k l)++splice zA258 0 (el (at' l k))) (BT.r 42 258 8)))] 9 73 [5,8,7,6,5,4,3,2,1] 1)) (wkK 7 K (Exit.exit 0) (St.mk [(3,SV.c (Cp.l (Leaf.p 1 0))),(4,SV.c (Cp.l (Leaf.p 2 0))),(5,SV.c (Cp.l (Leaf.p 3 0))),(6,SV.c (Cp.l (Leaf.p 4 0))),(7,SV.c (Cp.l (Leaf.p 5 0))),(9,bv false),(10,iv IntKind.i64 (Nat.cast k:Int))] [(0,some (Blk.mk (rws l) (BT.r 42 258 0))),(1,some (Blk.mk [Leaf.o 0 l.length] (BT.t 26))),(2,some (Blk.mk [li x,li y] (BT.t 40))),(3,some (Blk.mk (tl t) (BT.t 38))),(4,some (Blk.mk [Leaf.v (Value.slice none 0 0)] (BT.t 26))),(5,some (Blk.mk [Leaf.o 6 k] (BT.t 26))),(6,some (Blk.mk (rws (List.take k l)) (BT.r 42 258 6))),(7,none),(8,none)] 7 73 [6,5,4,3,2,1] 1))):WPL Tryz.prog ((getLoop 6 (Tryz.f106.body.getD .skip)).getD .skip) (I106 l x y t k) (wkK 7 K):=
 wp_roundT [3,4,5,6,7,9,10] [0,1,2,3,4,5,6,7,8] (cx:=cz_R106 l x y t k) rfl (of_eq (by kernel_rfl) h)
set_option maxRecDepth 100000 in
set_option maxHeartbeats 4000000 in
theorem L106 (l:List TA) (x y:Int) (t:Nat→UInt8) (hl:l.length≤1024) (hb:Behind l x y):∀(m k:Nat),l.length-k=m→k≤l.length→∀(K:Exit→St→Prop),K (.exit 0) (I106 l x y t l.length)→WPL Tryz.prog ((getLoop 6 (Tryz.f106.body.getD .skip)).getD .skip) (I106 l x y t k) (wkK 7 K)
 |0,k,hm,hk,K,hK=>by
  have e:k=l.length:=by omega
  subst e
  refine R106 l x y t _ K (HB.mk (fun hne=>absurd (of_decide_eq_true hne) (by omega)) (fun he=>?_))
  exact wkK.to (I106 l x y t _) (Nat.le_refl _) (by kernel_rfl) (wkE_cons (LeN.sl (by kernel_rfl) rfl) (wkE_cons (LeN.sl (by kernel_rfl) rfl) (wkE_cons (LeN.sl (by kernel_rfl) rfl) (wkE_cons (LeN.sl (by kernel_rfl) rfl) (wkE_cons (LeN.sl (by kernel_rfl) rfl) (wkE_cons (LeN.sl (by kernel_rfl) rfl) (wkE_cons (LeN.sl (by kernel_rfl) rfl) trivial))))))) (wkH_cons (BkN.plain (cs:=rws l) (b:=.r 42 258 0) (by kernel_rfl) (rfl) (plain_rws l) (by kernel_rfl)) (wkH_cons (BkN.blk (k:=⟨[.o 0 l.length],.t 26⟩) (by kernel_rfl) (rfl) (by kernel_rfl)) (wkH_cons (BkN.blk (k:=⟨[li x,li y],.t 40⟩) (by kernel_rfl) (rfl) (by kernel_rfl)) (wkH_cons (BkN.plain (cs:=tl t) (b:=.t 38) (by kernel_rfl) (rfl) (plain_tl t) (by kernel_rfl)) (wkH_cons (BkN.blk (k:=⟨[.v (.slice none 0 0)],.t 26⟩) (by kernel_rfl) (rfl) (by kernel_rfl)) (wkH_cons (BkN.blk (k:=⟨[.o 6 l.length],.t 26⟩) (by kernel_rfl) (rfl) (by kernel_rfl)) (wkH_cons (BkN.plain (cs:=rws (l.take l.length)) (b:=.r 42 258 6) (by kernel_rfl) (rfl) (plain_rws _) (by kernel_rfl)) trivial))))))) hK
 |m+1,k,hm,hk,K,hK=>by
  refine R106 l x y t k K (HB.mk (fun hne=>?_) (fun he=>absurd (show ((k:Nat):Int)<(l.length:Nat) by omega) (of_decide_eq_false he)))
  have hlt:k<l.length:=by omega
  repeat' (first|exact trivial|with_reducible apply And.intro|(with_reducible apply HB.mk)|with_reducible intro _)
  all_goals first
   |(assumption)
   |(with_reducible rfl)
   |(with_reducible exact C123 _ _ _ _ _)
   |(exact ⟨by omega,by omega⟩)
   |((rw[rws_len,show (((k:Nat):Int)).toNat=k from rfl];omega))
   |((rw[rws_len,take_len l (by omega)];omega))
   |(exact apB (bytes:=272) (by kernel_rfl) (by omega))
   |((refine Le.of ?_;simp only[tn,Nat.zero_add,Nat.add_zero];rw[rws_at hlt]))
   |((refine Le.of ?_;simp only[tn,Nat.zero_add,Nat.add_zero];rw[rws_pos hlt]))
   |(exact Le.bool (behind_less hb hlt))
   |(exact Le.bool rfl)
   |(exact Le.bool (behind_ne hb hlt))
   |(exact eq40 _ _ _ _)
   |((with_reducible refine RoundTo.toN 8 (I106 l x y t (k+1)) ?_ ?_ ?_ ?_ ?_);exact Nat.le_refl _;kernel_rfl;exact (wkE_cons (LeN.sl (by kernel_rfl) rfl) (wkE_cons (LeN.sl (by kernel_rfl) rfl) (wkE_cons (LeN.sl (by kernel_rfl) rfl) (wkE_cons (LeN.sl (by kernel_rfl) rfl) (wkE_cons (LeN.sl (by kernel_rfl) rfl) (wkE_cons (LeN.sl (by kernel_rfl) rfl) (wkE_cons (LeN.sl (by kernel_rfl) rfl) trivial)))))));exact (wkH_cons (BkN.plain (cs:=rws l) (b:=.r 42 258 0) (by kernel_rfl) (rfl) (plain_rws l) (by kernel_rfl)) (wkH_cons (BkN.blk (k:=⟨[.o 0 l.length],.t 26⟩) (by kernel_rfl) (rfl) (by kernel_rfl)) (wkH_cons (BkN.blk (k:=⟨[li x,li y],.t 40⟩) (by kernel_rfl) (rfl) (by kernel_rfl)) (wkH_cons (BkN.plain (cs:=tl t) (b:=.t 38) (by kernel_rfl) (rfl) (plain_tl t) (by kernel_rfl)) (wkH_cons (BkN.blk (k:=⟨[.v (.slice none 0 0)],.t 26⟩) (by kernel_rfl) (rfl) (by kernel_rfl)) (wkH_cons (BkN.blk (k:=⟨[.o 6 (k+1)],.t 26⟩) (by kernel_rfl) (rfl) (by kernel_rfl)) (wkH_cons (BkN.plain (cs:=rws (l.take k)++splice zA258 0 (el (at' l k))) (b:=.r 42 258 6) (by kernel_rfl) (rws_next hlt) (plain_rws _) (by kernel_rfl)) trivial)))))));exact (L106 l x y t hl hb m (k+1) (by omega) (by omega) K hK))
   |((with_reducible refine RoundTo.reN 9 [(6,some 8)] (I106 l x y t (k+1)) ?_ ?_ ?_ ?_);kernel_rfl;exact (wkER_cons (LeR.of (by kernel_rfl)) (wkER_cons (LeR.of (by kernel_rfl)) (wkER_cons (LeR.of (by kernel_rfl)) (wkER_cons (LeR.of (by kernel_rfl)) (wkER_cons (LeR.of (by kernel_rfl)) (wkER_cons (LeR.of (by kernel_rfl)) (wkER_cons (LeR.of (by kernel_rfl)) trivial)))))));exact (wkHR_cons (j:=0) rfl (BkM.plain (cs:=rws l) (b:=.r 42 258 0) (by kernel_rfl) (rfl) (plain_rws l) (by kernel_rfl)) (wkHR_cons (j:=1) rfl (BkM.blk (k:=⟨[.o 0 l.length],.t 26⟩) (k'':=⟨[.o 0 l.length],.t 26⟩) (by kernel_rfl) (by kernel_rfl) rfl) (wkHR_cons (j:=2) rfl (BkM.blk (k:=⟨[li x,li y],.t 40⟩) (k'':=⟨[li x,li y],.t 40⟩) (by kernel_rfl) (by kernel_rfl) rfl) (wkHR_cons (j:=3) rfl (BkM.plain (cs:=tl t) (b:=.t 38) (by kernel_rfl) (rfl) (plain_tl t) (by kernel_rfl)) (wkHR_cons (j:=4) rfl (BkM.blk (k:=⟨[.v (.slice none 0 0)],.t 26⟩) (k'':=⟨[.v (.slice none 0 0)],.t 26⟩) (by kernel_rfl) (by kernel_rfl) rfl) (wkHR_cons (j:=5) rfl (BkM.blk (k:=⟨[.o 8 (k+1)],.t 26⟩) (k'':=⟨[.o 6 (k+1)],.t 26⟩) (by kernel_rfl) (by kernel_rfl) rfl) (wkHR_cons (j:=8) rfl (BkM.plain (cs:=rws (l.take k)++splice zA258 0 (el (at' l k))) (b:=.r 42 258 8) (by kernel_rfl) (rws_next hlt) (plain_rws _) (by kernel_rfl)) trivial)))))));exact (L106 l x y t hl hb m (k+1) (by omega) (by omega) K hK))
   |(exact okw _ (by omega) (by omega))
attribute [local irreducible] tl sameT zeroT rws
theorem enters106:Enters Tryz.prog 106:=fun args w=>by go_simp
def cz_C106 (l:List TA) (x y:Int) (t:Nat→UInt8):Cz:={
 ct:=(fun f=>match f with
 |44=>some fun _ _S ar=>match ar with | [.c (.agg l)]=>some {v:=bv (zeroT (lsB l)),rd:=[],wr:=[],nw:=0}|_=>none
 |122=>some fun _ _S ar=>match ar with | [.c (.agg l)]=>some {v:=.c (.agg (tl (clnT (lsB l)))),rd:=[],wr:=[],nw:=0}|_=>none
 |123=>some fun _ _S ar=>match ar with | [.c (.agg [.v (.int _ ax),.v (.int _ ay)]),.c (.agg [.v (.int _ cx),.v (.int _ cy)])]=>some {v:=bv (lesB ax ay cx cy),rd:=[],wr:=[],nw:=0}|_=>none
 |_=>none)
 eq:=(fun t=>match t with
 |40=>some (fun xs ys=>match xs,ys with | [.v (.int _ a0),.v (.int _ a1)],[.v (.int _ b0),.v (.int _ b1)]=>(a0==b0&&a1==b1)|_,_=>false)
 |_=>none)
 raw:=[],sym:=[70],nf:=[(12,.c (.agg (tl t))),(13,.c (.agg (tl t))),(14,.c (.agg (tl t))),(15,bv false),(67,.c (.agg (tl t))),(68,.c (.agg (el ⟨x,y,t⟩)))],ap:=true,off:=[],on:=[],lp:=fun r=>match r with|6=>some (fun _ K=>K (.exit 0) (I106 l x y t l.length))|_=>none,un:=0,wh:=[26,38]}
set_option maxRecDepth 100000 in
set_option maxHeartbeats 400000 in
theorem C106 (l:List TA) (x y:Int) (t:Nat→UInt8) (hl:l.length≤1023) (hb:Behind l x y) (hz:zeroT t=false) (hc:sameT (clnT t) t=true):CallOK Tryz.prog 106 [.c (.agg [.o 0 l.length]),ag [li x,li y],.c (.agg (tl t))] [(0,⟨rws l,.r 42 258 0⟩)] 1 (.c (.agg [.o 1 (l.length+1)])) [(1,⟨rws l++el ⟨x,y,t⟩,.r 42 258 1⟩)] 1:=by
 refine call_ok2 (cx:=cz_C106 l x y t) rfl 8 (nm:=[6]) (nm2:=[8]) Tryz.func106 (body:=Tryz.f106.body.getD .skip) rfl enters106 (by unfold inck;simp only[List.all_cons,List.all_nil,blkLt_plain (plain_rws l) (show (BT.rn (rnId 1 0 []) (.r 42 258 0)).isSome=true from rfl),Bool.and_true,Bool.true_and];kernel_rfl) (by unfold inck;simp only[List.all_cons,List.all_nil,blkLt_plain (plain_rws l) (show (BT.rn (rnId 1 0 []) (.r 42 258 0)).isSome=true from rfl),Bool.and_true,Bool.true_and];kernel_rfl) rfl ?_
 apply of_eq (q:=0=0∧1=1∧Le (ag (List.take 256 (tl t))) (ag (tl t))∧CallOKd Tryz.prog 122 [] [ag (tl t)] [] 6 (ag (tl (clnT (lsB (tl t))))) [] 0∧Le (ag (tl (clnT (lsB (tl t))))) (ag (tl t))∧0=0∧256=256∧Le (ag (List.take 256 (tl t))) (ag (tl t))∧CallOKd Tryz.prog 44 [] [ag (tl t)] [] 6 (bv (zeroT (lsB (tl t)))) [] 0∧Le (bv (zeroT (lsB (tl t)))) (bv false)∧(LoopOK Tryz.prog ((getLoop 6 (Tryz.f106.body.getD .skip)).getD .skip) (St.mk [(10,iv IntKind.i64 0),(9,bv false),(16,bv false),(8,bv false),(15,bv false),(14,ag (tl t)),(13,ag (tl t)),(12,ag (tl t)),(7,SV.c (Cp.l (Leaf.p 5 0))),(11,ag [Leaf.v (Value.slice none 0 0)]),(6,SV.c (Cp.l (Leaf.p 4 0))),(5,SV.c (Cp.l (Leaf.p 3 0))),(4,SV.c (Cp.l (Leaf.p 2 0))),(3,SV.c (Cp.l (Leaf.p 1 0))),(0,ag [Leaf.o 0 l.length]),(1,ag [li x,li y]),(2,ag (tl t))] [(3,some (Blk.mk (tl t) (BT.t 38))),(5,some (Blk.mk [Leaf.v (Value.slice none 0 0)] (BT.t 26))),(5,some (Blk.mk [Leaf.v (Value.slice none 0 0)] (BT.t 26))),(4,some (Blk.mk [Leaf.v (Value.slice none 0 0)] (BT.t 26))),(3,some (Blk.mk (tl t) (BT.t 38))),(2,some (Blk.mk [li x,li y] (BT.t 40))),(1,some (Blk.mk [Leaf.o 0 l.length] (BT.t 26))),(0,some (Blk.mk (rws l) (BT.r 42 258 0)))] 6 73 [3,5,5,4,3,2,1] 1) fun K=>K (Exit.exit 0) (I106 l x y t l.length))∧(Le (ag (List.take 256 (tl t))) (ag (tl t))∧Le (ag (splice [li x,li y,Leaf.v (Value.int IntKind.u8 0),Leaf.v (Value.int IntKind.u8 0),Leaf.v (Value.int IntKind.u8 0),Leaf.v (Value.int IntKind.u8 0),Leaf.v (Value.int IntKind.u8 0),Leaf.v (Value.int IntKind.u8 0),Leaf.v (Value.int IntKind.u8 0),Leaf.v (Value.int IntKind.u8 0),Leaf.v (Value.int IntKind.u8 0),Leaf.v (Value.int IntKind.u8 0),Leaf.v (Value.int IntKind.u8 0),Leaf.v (Value.int IntKind.u8 0),Leaf.v (Value.int IntKind.u8 0),Leaf.v (Value.int IntKind.u8 0),Leaf.v (Value.int IntKind.u8 0),Leaf.v (Value.int IntKind.u8 0),Leaf.v (Value.int IntKind.u8 0),Leaf.v (Value.int IntKind.u8 0),Leaf.v (Value.int IntKind.u8 0),Leaf.v (Value.int IntKind.u8 0),Leaf.v (Value.int IntKind.u8 0),Leaf.v (Value.int IntKind.u8 0),Leaf.v (Value.int IntKind.u8 0),Leaf.v (Value.int IntKind.u8 0),Leaf.v (Value.int IntKind.u8 0),Leaf.v (Value.int IntKind.u8 0),Leaf.v (Value.int IntKind.u8 0),Leaf.v (Value.int IntKind.u8 0),Leaf.v (Value.int IntKind.u8 0),Leaf.v (Value.int IntKind.u8 0),Leaf.v (Value.int IntKind.u8 0),Leaf.v (Value.int IntKind.u8 0),Leaf.v (Value.int IntKind.u8 0),Leaf.v (Value.int IntKind.u8 0),Leaf.v (Value.int IntKind.u8 0),Leaf.v (Value.int IntKind.u8 0),Leaf.v (Value.int IntKind.u8 0),Leaf.v (Value.int IntKind.u8 0),Leaf.v (Value.int IntKind.u8 0),Leaf.v (Value.int IntKind.u8 0),Leaf.v (Value.int IntKind.u8 0),Leaf.v (Value.int IntKind.u8 0),Leaf.v (Value.int IntKind.u8 0),Leaf.v (Value.int IntKind.u8 0),Leaf.v (Value.int IntKind.u8 0),Leaf.v (Value.int IntKind.u8 0),Leaf.v (Value.int IntKind.u8 0),Leaf.v (Value.int IntKind.u8 0),Leaf.v (Value.int IntKind.u8 0),Leaf.v (Value.int IntKind.u8 0),Leaf.v (Value.int IntKind.u8 0),Leaf.v (Value.int IntKind.u8 0),Leaf.v (Value.int IntKind.u8 0),Leaf.v (Value.int IntKind.u8 0),Leaf.v (Value.int IntKind.u8 0),Leaf.v (Value.int IntKind.u8 0),Leaf.v (Value.int IntKind.u8 0),Leaf.v (Value.int IntKind.u8 0),Leaf.v (Value.int IntKind.u8 0),Leaf.v (Value.int IntKind.u8 0),Leaf.v (Value.int IntKind.u8 0),Leaf.v (Value.int IntKind.u8 0),Leaf.v (Value.int IntKind.u8 0),Leaf.v (Value.int IntKind.u8 0),Leaf.v (Value.int IntKind.u8 0),Leaf.v (Value.int IntKind.u8 0),Leaf.v (Value.int IntKind.u8 0),Leaf.v (Value.int IntKind.u8 0),Leaf.v (Value.int IntKind.u8 0),Leaf.v (Value.int IntKind.u8 0),Leaf.v (Value.int IntKind.u8 0),Leaf.v (Value.int IntKind.u8 0),Leaf.v (Value.int IntKind.u8 0),Leaf.v (Value.int IntKind.u8 0),Leaf.v (Value.int IntKind.u8 0),Leaf.v (Value.int IntKind.u8 0),Leaf.v (Value.int IntKind.u8 0),Leaf.v (Value.int IntKind.u8 0),Leaf.v (Value.int IntKind.u8 0),Leaf.v (Value.int IntKind.u8 0),Leaf.v (Value.int IntKind.u8 0),Leaf.v (Value.int IntKind.u8 0),Leaf.v (Value.int IntKind.u8 0),Leaf.v (Value.int IntKind.u8 0),Leaf.v (Value.int IntKind.u8 0),Leaf.v (Value.int IntKind.u8 0),Leaf.v (Value.int IntKind.u8 0),Leaf.v (Value.int IntKind.u8 0),Leaf.v (Value.int IntKind.u8 0),Leaf.v (Value.int IntKind.u8 0),Leaf.v (Value.int IntKind.u8 0),Leaf.v (Value.int IntKind.u8 0),Leaf.v (Value.int IntKind.u8 0),Leaf.v (Value.int IntKind.u8 0),Leaf.v (Value.int IntKind.u8 0),Leaf.v (Value.int IntKind.u8 0),Leaf.v (Value.int IntKind.u8 0),Leaf.v (Value.int IntKind.u8 0),Leaf.v (Value.int IntKind.u8 0),Leaf.v (Value.int IntKind.u8 0),Leaf.v (Value.int IntKind.u8 0),Leaf.v (Value.int IntKind.u8 0),Leaf.v (Value.int IntKind.u8 0),Leaf.v (Value.int IntKind.u8 0),Leaf.v (Value.int IntKind.u8 0),Leaf.v (Value.int IntKind.u8 0),Leaf.v (Value.int IntKind.u8 0),Leaf.v (Value.int IntKind.u8 0),Leaf.v (Value.int IntKind.u8 0),Leaf.v (Value.int IntKind.u8 0),Leaf.v (Value.int IntKind.u8 0),Leaf.v (Value.int IntKind.u8 0),Leaf.v (Value.int IntKind.u8 0),Leaf.v (Value.int IntKind.u8 0),Leaf.v (Value.int IntKind.u8 0),Leaf.v (Value.int IntKind.u8 0),Leaf.v (Value.int IntKind.u8 0),Leaf.v (Value.int IntKind.u8 0),Leaf.v (Value.int IntKind.u8 0),Leaf.v (Value.int IntKind.u8 0),Leaf.v (Value.int IntKind.u8 0),Leaf.v (Value.int IntKind.u8 0),Leaf.v (Value.int IntKind.u8 0),Leaf.v (Value.int IntKind.u8 0),Leaf.v (Value.int IntKind.u8 0),Leaf.v (Value.int IntKind.u8 0),Leaf.v (Value.int IntKind.u8 0),Leaf.v (Value.int IntKind.u8 0),Leaf.v (Value.int IntKind.u8 0),Leaf.v (Value.int IntKind.u8 0),Leaf.v (Value.int IntKind.u8 0),Leaf.v (Value.int IntKind.u8 0),Leaf.v (Value.int IntKind.u8 0),Leaf.v (Value.int IntKind.u8 0),Leaf.v (Value.int IntKind.u8 0),Leaf.v (Value.int IntKind.u8 0),Leaf.v (Value.int IntKind.u8 0),Leaf.v (Value.int IntKind.u8 0),Leaf.v (Value.int IntKind.u8 0),Leaf.v (Value.int IntKind.u8 0),Leaf.v (Value.int IntKind.u8 0),Leaf.v (Value.int IntKind.u8 0),Leaf.v (Value.int IntKind.u8 0),Leaf.v (Value.int IntKind.u8 0),Leaf.v (Value.int IntKind.u8 0),Leaf.v (Value.int IntKind.u8 0),Leaf.v (Value.int IntKind.u8 0),Leaf.v (Value.int IntKind.u8 0),Leaf.v (Value.int IntKind.u8 0),Leaf.v (Value.int IntKind.u8 0),Leaf.v (Value.int IntKind.u8 0),Leaf.v (Value.int IntKind.u8 0),Leaf.v (Value.int IntKind.u8 0),Leaf.v (Value.int IntKind.u8 0),Leaf.v (Value.int IntKind.u8 0),Leaf.v (Value.int IntKind.u8 0),Leaf.v (Value.int IntKind.u8 0),Leaf.v (Value.int IntKind.u8 0),Leaf.v (Value.int IntKind.u8 0),Leaf.v (Value.int IntKind.u8 0),Leaf.v (Value.int IntKind.u8 0),Leaf.v (Value.int IntKind.u8 0),Leaf.v (Value.int IntKind.u8 0),Leaf.v (Value.int IntKind.u8 0),Leaf.v (Value.int IntKind.u8 0),Leaf.v (Value.int IntKind.u8 0),Leaf.v (Value.int IntKind.u8 0),Leaf.v (Value.int IntKind.u8 0),Leaf.v (Value.int IntKind.u8 0),Leaf.v (Value.int IntKind.u8 0),Leaf.v (Value.int IntKind.u8 0),Leaf.v (Value.int IntKind.u8 0),Leaf.v (Value.int IntKind.u8 0),Leaf.v (Value.int IntKind.u8 0),Leaf.v (Value.int IntKind.u8 0),Leaf.v (Value.int IntKind.u8 0),Leaf.v (Value.int IntKind.u8 0),Leaf.v (Value.int IntKind.u8 0),Leaf.v (Value.int IntKind.u8 0),Leaf.v (Value.int IntKind.u8 0),Leaf.v (Value.int IntKind.u8 0),Leaf.v (Value.int IntKind.u8 0),Leaf.v (Value.int IntKind.u8 0),Leaf.v (Value.int IntKind.u8 0),Leaf.v (Value.int IntKind.u8 0),Leaf.v (Value.int IntKind.u8 0),Leaf.v (Value.int IntKind.u8 0),Leaf.v (Value.int IntKind.u8 0),Leaf.v (Value.int IntKind.u8 0),Leaf.v (Value.int IntKind.u8 0),Leaf.v (Value.int IntKind.u8 0),Leaf.v (Value.int IntKind.u8 0),Leaf.v (Value.int IntKind.u8 0),Leaf.v (Value.int IntKind.u8 0),Leaf.v (Value.int IntKind.u8 0),Leaf.v (Value.int IntKind.u8 0),Leaf.v (Value.int IntKind.u8 0),Leaf.v (Value.int IntKind.u8 0),Leaf.v (Value.int IntKind.u8 0),Leaf.v (Value.int IntKind.u8 0),Leaf.v (Value.int IntKind.u8 0),Leaf.v (Value.int IntKind.u8 0),Leaf.v (Value.int IntKind.u8 0),Leaf.v (Value.int IntKind.u8 0),Leaf.v (Value.int IntKind.u8 0),Leaf.v (Value.int IntKind.u8 0),Leaf.v (Value.int IntKind.u8 0),Leaf.v (Value.int IntKind.u8 0),Leaf.v (Value.int IntKind.u8 0),Leaf.v (Value.int IntKind.u8 0),Leaf.v (Value.int IntKind.u8 0),Leaf.v (Value.int IntKind.u8 0),Leaf.v (Value.int IntKind.u8 0),Leaf.v (Value.int IntKind.u8 0),Leaf.v (Value.int IntKind.u8 0),Leaf.v (Value.int IntKind.u8 0),Leaf.v (Value.int IntKind.u8 0),Leaf.v (Value.int IntKind.u8 0),Leaf.v (Value.int IntKind.u8 0),Leaf.v (Value.int IntKind.u8 0),Leaf.v (Value.int IntKind.u8 0),Leaf.v (Value.int IntKind.u8 0),Leaf.v (Value.int IntKind.u8 0),Leaf.v (Value.int IntKind.u8 0),Leaf.v (Value.int IntKind.u8 0),Leaf.v (Value.int IntKind.u8 0),Leaf.v (Value.int IntKind.u8 0),Leaf.v (Value.int IntKind.u8 0),Leaf.v (Value.int IntKind.u8 0),Leaf.v (Value.int IntKind.u8 0),Leaf.v (Value.int IntKind.u8 0),Leaf.v (Value.int IntKind.u8 0),Leaf.v (Value.int IntKind.u8 0),Leaf.v (Value.int IntKind.u8 0),Leaf.v (Value.int IntKind.u8 0),Leaf.v (Value.int IntKind.u8 0),Leaf.v (Value.int IntKind.u8 0),Leaf.v (Value.int IntKind.u8 0),Leaf.v (Value.int IntKind.u8 0),Leaf.v (Value.int IntKind.u8 0),Leaf.v (Value.int IntKind.u8 0),Leaf.v (Value.int IntKind.u8 0),Leaf.v (Value.int IntKind.u8 0),Leaf.v (Value.int IntKind.u8 0),Leaf.v (Value.int IntKind.u8 0),Leaf.v (Value.int IntKind.u8 0),Leaf.v (Value.int IntKind.u8 0),Leaf.v (Value.int IntKind.u8 0),Leaf.v (Value.int IntKind.u8 0),Leaf.v (Value.int IntKind.u8 0),Leaf.v (Value.int IntKind.u8 0),Leaf.v (Value.int IntKind.u8 0),Leaf.v (Value.int IntKind.u8 0),Leaf.v (Value.int IntKind.u8 0),Leaf.v (Value.int IntKind.u8 0),Leaf.v (Value.int IntKind.u8 0)] 2 (tl t))) (ag (el (TA.mk x y t)))∧(rws (List.take l.length l)).length=l.length*258∧258=258∧0=0∧1=1∧Le (ag [Leaf.o 1 (l.length+1)]) (ag [Leaf.o 1 (l.length+1)])∧BkR (rnId 1 0 [6]) (Blk.mk (rws (List.take l.length l)++splice zA258 0 (el (TA.mk x y t))) (BT.r 42 258 6)) (Blk.mk (rws l++el (TA.mk x y t)) (BT.r 42 258 1))∧True)∧Le (ag (List.take 256 (tl t))) (ag (tl t))∧Le (ag (splice [li x,li y,Leaf.v (Value.int IntKind.u8 0),Leaf.v (Value.int IntKind.u8 0),Leaf.v (Value.int IntKind.u8 0),Leaf.v (Value.int IntKind.u8 0),Leaf.v (Value.int IntKind.u8 0),Leaf.v (Value.int IntKind.u8 0),Leaf.v (Value.int IntKind.u8 0),Leaf.v (Value.int IntKind.u8 0),Leaf.v (Value.int IntKind.u8 0),Leaf.v (Value.int IntKind.u8 0),Leaf.v (Value.int IntKind.u8 0),Leaf.v (Value.int IntKind.u8 0),Leaf.v (Value.int IntKind.u8 0),Leaf.v (Value.int IntKind.u8 0),Leaf.v (Value.int IntKind.u8 0),Leaf.v (Value.int IntKind.u8 0),Leaf.v (Value.int IntKind.u8 0),Leaf.v (Value.int IntKind.u8 0),Leaf.v (Value.int IntKind.u8 0),Leaf.v (Value.int IntKind.u8 0),Leaf.v (Value.int IntKind.u8 0),Leaf.v (Value.int IntKind.u8 0),Leaf.v (Value.int IntKind.u8 0),Leaf.v (Value.int IntKind.u8 0),Leaf.v (Value.int IntKind.u8 0),Leaf.v (Value.int IntKind.u8 0),Leaf.v (Value.int IntKind.u8 0),Leaf.v (Value.int IntKind.u8 0),Leaf.v (Value.int IntKind.u8 0),Leaf.v (Value.int IntKind.u8 0),Leaf.v (Value.int IntKind.u8 0),Leaf.v (Value.int IntKind.u8 0),Leaf.v (Value.int IntKind.u8 0),Leaf.v (Value.int IntKind.u8 0),Leaf.v (Value.int IntKind.u8 0),Leaf.v (Value.int IntKind.u8 0),Leaf.v (Value.int IntKind.u8 0),Leaf.v (Value.int IntKind.u8 0),Leaf.v (Value.int IntKind.u8 0),Leaf.v (Value.int IntKind.u8 0),Leaf.v (Value.int IntKind.u8 0),Leaf.v (Value.int IntKind.u8 0),Leaf.v (Value.int IntKind.u8 0),Leaf.v (Value.int IntKind.u8 0),Leaf.v (Value.int IntKind.u8 0),Leaf.v (Value.int IntKind.u8 0),Leaf.v (Value.int IntKind.u8 0),Leaf.v (Value.int IntKind.u8 0),Leaf.v (Value.int IntKind.u8 0),Leaf.v (Value.int IntKind.u8 0),Leaf.v (Value.int IntKind.u8 0),Leaf.v (Value.int IntKind.u8 0),Leaf.v (Value.int IntKind.u8 0),Leaf.v (Value.int IntKind.u8 0),Leaf.v (Value.int IntKind.u8 0),Leaf.v (Value.int IntKind.u8 0),Leaf.v (Value.int IntKind.u8 0),Leaf.v (Value.int IntKind.u8 0),Leaf.v (Value.int IntKind.u8 0),Leaf.v (Value.int IntKind.u8 0),Leaf.v (Value.int IntKind.u8 0),Leaf.v (Value.int IntKind.u8 0),Leaf.v (Value.int IntKind.u8 0),Leaf.v (Value.int IntKind.u8 0),Leaf.v (Value.int IntKind.u8 0),Leaf.v (Value.int IntKind.u8 0),Leaf.v (Value.int IntKind.u8 0),Leaf.v (Value.int IntKind.u8 0),Leaf.v (Value.int IntKind.u8 0),Leaf.v (Value.int IntKind.u8 0),Leaf.v (Value.int IntKind.u8 0),Leaf.v (Value.int IntKind.u8 0),Leaf.v (Value.int IntKind.u8 0),Leaf.v (Value.int IntKind.u8 0),Leaf.v (Value.int IntKind.u8 0),Leaf.v (Value.int IntKind.u8 0),Leaf.v (Value.int IntKind.u8 0),Leaf.v (Value.int IntKind.u8 0),Leaf.v (Value.int IntKind.u8 0),Leaf.v (Value.int IntKind.u8 0),Leaf.v (Value.int IntKind.u8 0),Leaf.v (Value.int IntKind.u8 0),Leaf.v (Value.int IntKind.u8 0),Leaf.v (Value.int IntKind.u8 0),Leaf.v (Value.int IntKind.u8 0),Leaf.v (Value.int IntKind.u8 0),Leaf.v (Value.int IntKind.u8 0),Leaf.v (Value.int IntKind.u8 0),Leaf.v (Value.int IntKind.u8 0),Leaf.v (Value.int IntKind.u8 0),Leaf.v (Value.int IntKind.u8 0),Leaf.v (Value.int IntKind.u8 0),Leaf.v (Value.int IntKind.u8 0),Leaf.v (Value.int IntKind.u8 0),Leaf.v (Value.int IntKind.u8 0),Leaf.v (Value.int IntKind.u8 0),Leaf.v (Value.int IntKind.u8 0),Leaf.v (Value.int IntKind.u8 0),Leaf.v (Value.int IntKind.u8 0),Leaf.v (Value.int IntKind.u8 0),Leaf.v (Value.int IntKind.u8 0),Leaf.v (Value.int IntKind.u8 0),Leaf.v (Value.int IntKind.u8 0),Leaf.v (Value.int IntKind.u8 0),Leaf.v (Value.int IntKind.u8 0),Leaf.v (Value.int IntKind.u8 0),Leaf.v (Value.int IntKind.u8 0),Leaf.v (Value.int IntKind.u8 0),Leaf.v (Value.int IntKind.u8 0),Leaf.v (Value.int IntKind.u8 0),Leaf.v (Value.int IntKind.u8 0),Leaf.v (Value.int IntKind.u8 0),Leaf.v (Value.int IntKind.u8 0),Leaf.v (Value.int IntKind.u8 0),Leaf.v (Value.int IntKind.u8 0),Leaf.v (Value.int IntKind.u8 0),Leaf.v (Value.int IntKind.u8 0),Leaf.v (Value.int IntKind.u8 0),Leaf.v (Value.int IntKind.u8 0),Leaf.v (Value.int IntKind.u8 0),Leaf.v (Value.int IntKind.u8 0),Leaf.v (Value.int IntKind.u8 0),Leaf.v (Value.int IntKind.u8 0),Leaf.v (Value.int IntKind.u8 0),Leaf.v (Value.int IntKind.u8 0),Leaf.v (Value.int IntKind.u8 0),Leaf.v (Value.int IntKind.u8 0),Leaf.v (Value.int IntKind.u8 0),Leaf.v (Value.int IntKind.u8 0),Leaf.v (Value.int IntKind.u8 0),Leaf.v (Value.int IntKind.u8 0),Leaf.v (Value.int IntKind.u8 0),Leaf.v (Value.int IntKind.u8 0),Leaf.v (Value.int IntKind.u8 0),Leaf.v (Value.int IntKind.u8 0),Leaf.v (Value.int IntKind.u8 0),Leaf.v (Value.int IntKind.u8 0),Leaf.v (Value.int IntKind.u8 0),Leaf.v (Value.int IntKind.u8 0),Leaf.v (Value.int IntKind.u8 0),Leaf.v (Value.int IntKind.u8 0),Leaf.v (Value.int IntKind.u8 0),Leaf.v (Value.int IntKind.u8 0),Leaf.v (Value.int IntKind.u8 0),Leaf.v (Value.int IntKind.u8 0),Leaf.v (Value.int IntKind.u8 0),Leaf.v (Value.int IntKind.u8 0),Leaf.v (Value.int IntKind.u8 0),Leaf.v (Value.int IntKind.u8 0),Leaf.v (Value.int IntKind.u8 0),Leaf.v (Value.int IntKind.u8 0),Leaf.v (Value.int IntKind.u8 0),Leaf.v (Value.int IntKind.u8 0),Leaf.v (Value.int IntKind.u8 0),Leaf.v (Value.int IntKind.u8 0),Leaf.v (Value.int IntKind.u8 0),Leaf.v (Value.int IntKind.u8 0),Leaf.v (Value.int IntKind.u8 0),Leaf.v (Value.int IntKind.u8 0),Leaf.v (Value.int IntKind.u8 0),Leaf.v (Value.int IntKind.u8 0),Leaf.v (Value.int IntKind.u8 0),Leaf.v (Value.int IntKind.u8 0),Leaf.v (Value.int IntKind.u8 0),Leaf.v (Value.int IntKind.u8 0),Leaf.v (Value.int IntKind.u8 0),Leaf.v (Value.int IntKind.u8 0),Leaf.v (Value.int IntKind.u8 0),Leaf.v (Value.int IntKind.u8 0),Leaf.v (Value.int IntKind.u8 0),Leaf.v (Value.int IntKind.u8 0),Leaf.v (Value.int IntKind.u8 0),Leaf.v (Value.int IntKind.u8 0),Leaf.v (Value.int IntKind.u8 0),Leaf.v (Value.int IntKind.u8 0),Leaf.v (Value.int IntKind.u8 0),Leaf.v (Value.int IntKind.u8 0),Leaf.v (Value.int IntKind.u8 0),Leaf.v (Value.int IntKind.u8 0),Leaf.v (Value.int IntKind.u8 0),Leaf.v (Value.int IntKind.u8 0),Leaf.v (Value.int IntKind.u8 0),Leaf.v (Value.int IntKind.u8 0),Leaf.v (Value.int IntKind.u8 0),Leaf.v (Value.int IntKind.u8 0),Leaf.v (Value.int IntKind.u8 0),Leaf.v (Value.int IntKind.u8 0),Leaf.v (Value.int IntKind.u8 0),Leaf.v (Value.int IntKind.u8 0),Leaf.v (Value.int IntKind.u8 0),Leaf.v (Value.int IntKind.u8 0),Leaf.v (Value.int IntKind.u8 0),Leaf.v (Value.int IntKind.u8 0),Leaf.v (Value.int IntKind.u8 0),Leaf.v (Value.int IntKind.u8 0),Leaf.v (Value.int IntKind.u8 0),Leaf.v (Value.int IntKind.u8 0),Leaf.v (Value.int IntKind.u8 0),Leaf.v (Value.int IntKind.u8 0),Leaf.v (Value.int IntKind.u8 0),Leaf.v (Value.int IntKind.u8 0),Leaf.v (Value.int IntKind.u8 0),Leaf.v (Value.int IntKind.u8 0),Leaf.v (Value.int IntKind.u8 0),Leaf.v (Value.int IntKind.u8 0),Leaf.v (Value.int IntKind.u8 0),Leaf.v (Value.int IntKind.u8 0),Leaf.v (Value.int IntKind.u8 0),Leaf.v (Value.int IntKind.u8 0),Leaf.v (Value.int IntKind.u8 0),Leaf.v (Value.int IntKind.u8 0),Leaf.v (Value.int IntKind.u8 0),Leaf.v (Value.int IntKind.u8 0),Leaf.v (Value.int IntKind.u8 0),Leaf.v (Value.int IntKind.u8 0),Leaf.v (Value.int IntKind.u8 0),Leaf.v (Value.int IntKind.u8 0),Leaf.v (Value.int IntKind.u8 0),Leaf.v (Value.int IntKind.u8 0),Leaf.v (Value.int IntKind.u8 0),Leaf.v (Value.int IntKind.u8 0),Leaf.v (Value.int IntKind.u8 0),Leaf.v (Value.int IntKind.u8 0),Leaf.v (Value.int IntKind.u8 0),Leaf.v (Value.int IntKind.u8 0),Leaf.v (Value.int IntKind.u8 0),Leaf.v (Value.int IntKind.u8 0),Leaf.v (Value.int IntKind.u8 0),Leaf.v (Value.int IntKind.u8 0),Leaf.v (Value.int IntKind.u8 0),Leaf.v (Value.int IntKind.u8 0),Leaf.v (Value.int IntKind.u8 0),Leaf.v (Value.int IntKind.u8 0),Leaf.v (Value.int IntKind.u8 0),Leaf.v (Value.int IntKind.u8 0),Leaf.v (Value.int IntKind.u8 0),Leaf.v (Value.int IntKind.u8 0),Leaf.v (Value.int IntKind.u8 0),Leaf.v (Value.int IntKind.u8 0),Leaf.v (Value.int IntKind.u8 0),Leaf.v (Value.int IntKind.u8 0),Leaf.v (Value.int IntKind.u8 0),Leaf.v (Value.int IntKind.u8 0),Leaf.v (Value.int IntKind.u8 0),Leaf.v (Value.int IntKind.u8 0),Leaf.v (Value.int IntKind.u8 0),Leaf.v (Value.int IntKind.u8 0),Leaf.v (Value.int IntKind.u8 0),Leaf.v (Value.int IntKind.u8 0),Leaf.v (Value.int IntKind.u8 0),Leaf.v (Value.int IntKind.u8 0),Leaf.v (Value.int IntKind.u8 0),Leaf.v (Value.int IntKind.u8 0),Leaf.v (Value.int IntKind.u8 0),Leaf.v (Value.int IntKind.u8 0),Leaf.v (Value.int IntKind.u8 0)] 2 (tl t))) (ag (el (TA.mk x y t)))∧[(6,l.length+1,false)]=[(6,l.length+1,false)]∧ApB Tryz.prog 42 (l.length+1)∧(rws (List.take l.length l)).length=l.length*258∧258=258∧0=0∧1=1∧Le (ag [Leaf.o 1 (l.length+1)]) (ag [Leaf.o 1 (l.length+1)])∧BkR (rnId 1 0 [8]) (Blk.mk (rws (List.take l.length l)++splice zA258 0 (el (TA.mk x y t))) (BT.r 42 258 8)) (Blk.mk (rws l++el (TA.mk x y t)) (BT.r 42 258 1))∧True) (by kernel_rfl)
 repeat' (first|exact trivial|with_reducible apply And.intro|(with_reducible apply HB.mk)|with_reducible intro _)
 all_goals first
  |(with_reducible exact Le.refl _)
  |(with_reducible rfl)
  |((with_reducible exact C44L _ _ rfl _))
  |((with_reducible exact C122L _ _ rfl _))
  |(exact LoopOK.re [(6,none)] (I106 l x y t 0) (by kernel_rfl) (wkER_cons (LeR.of (by kernel_rfl)) (wkER_cons (LeR.of (by kernel_rfl)) (wkER_cons (LeR.of (by kernel_rfl)) (wkER_cons (LeR.of (by kernel_rfl)) (wkER_cons (LeR.of (by kernel_rfl)) (wkER_cons (LeR.of (by kernel_rfl)) (wkER_cons (LeR.of (by kernel_rfl)) trivial))))))) (wkHR_cons (j:=0) rfl (BkM.plain (cs:=rws l) (b:=.r 42 258 0) (by kernel_rfl) (rfl) (plain_rws l) (by kernel_rfl)) (wkHR_cons (j:=1) rfl (BkM.blk (k:=⟨[.o 0 l.length],.t 26⟩) (k'':=⟨[.o 0 l.length],.t 26⟩) (by kernel_rfl) (by kernel_rfl) rfl) (wkHR_cons (j:=2) rfl (BkM.blk (k:=⟨[li x,li y],.t 40⟩) (k'':=⟨[li x,li y],.t 40⟩) (by kernel_rfl) (by kernel_rfl) rfl) (wkHR_cons (j:=3) rfl (BkM.plain (cs:=tl t) (b:=.t 38) (by kernel_rfl) (rfl) (plain_tl t) (by kernel_rfl)) (wkHR_cons (j:=4) rfl (BkM.blk (k:=⟨[.v (.slice none 0 0)],.t 26⟩) (k'':=⟨[.v (.slice none 0 0)],.t 26⟩) (by kernel_rfl) (by kernel_rfl) rfl) (wkHR_cons (j:=5) rfl (BkM.lsB (xs:=[.v (.slice none 0 0)]) (by kernel_rfl) (LsR.cons (LfR.nil (show 6<7 by decide) rfl) LsR.nil)) (wkHR_nil rfl trivial))))))) (fun K hT=>L106 l x y t (by omega) hb _ 0 rfl (Nat.zero_le _) K hT))
  |(exact Le.of (congrArg (fun l=>SV.c (.agg l)) (cln_tl hc)))
  |(exact Le.of (congrArg (fun l=>SV.c (.agg l)) (tl_take _)))
  |(exact Le.bool (by rw[zeroT_lsB,hz]))
  |(exact Le.of (congrArg (fun l=>SV.c (.agg l)) (build_el _ _ _)))
  |(exact apB (bytes:=272) (by kernel_rfl) (by omega))
  |((rw[rws_len,take_len l (Nat.le_refl _)];omega))
  |(exact BkR.plain (rws_last l ⟨x,y,t⟩) ((plain_rws l).append (plain_el _)) (by kernel_rfl))
end Ab
end Go.Proofs.YtpdckpifhniioaaGreat
end
