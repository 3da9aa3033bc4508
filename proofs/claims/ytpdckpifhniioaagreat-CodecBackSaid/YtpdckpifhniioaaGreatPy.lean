/- Part 25 of what CodecBack rests on. -/
import Derived.Test.YtpdckpifhniioaaGreatPx
section
set_option linter.unusedVariables false
set_option linter.unusedSimpArgs false
namespace Go.Proofs.YtpdckpifhniioaaGreat
open Go.RowKit
namespace Ab
attribute [local irreducible] CallOKd
def mT (l:List TA) (x y:Int) (j:Nat):Bool:=(at' l j).X==x&&(at' l j).Y==y
def fndT (l:List TA) (x y:Int):Int:=match (List.range l.length).find? (mT l x y) with|some j=>((j:Nat):Int)|none=>-1
def rT (l:List TA) (x y:Int):Nat→UInt8:=bif decide (fndT l x y<0) then zT else (at' l (fndT l x y).toNat).t
def I69 (l:List TA) (x y:Int) (k:Nat):St:=⟨[(8,iv .i64 (k:Nat)),(7,iv .i64 (l.length:Nat)),(0,.c (.l (.o 0 l.length))),(1,.c (.l (.f 70 [(1,0)])))],[(0,some ⟨rws l,.r 42 258 0⟩),(1,some ⟨[li x,li y],.t 40⟩)],2,19,[],(2)⟩
def Q69 (l:List TA) (x y:Int) (k:Nat):St:=⟨[(4,iv .i64 (k:Nat))],[],2,19,[],(2)⟩
theorem mT_eq (l:List TA) (x y:Int) (k:Nat):((at' l k).X==x&&(at' l k).Y==y)=mT l x y k:=rfl
theorem fndT_none {l:List TA} {x y:Int} (h:∀j,j<l.length→(!mT l x y j)=true):fndT l x y = -1:=by
 unfold fndT
 have:(List.range l.length).find? (mT l x y)=none:=by
  rw[List.find?_eq_none]
  intro j hj
  have:=h j (List.mem_range.1 hj)
  simpa using this
 rw[this]
theorem fndT_some {l:List TA} {x y:Int} {j:Nat} (hj:j<l.length) (hb:∀i,i<j→(!mT l x y i)=true) (h:(!mT l x y j)=false):fndT l x y=((j:Nat):Int):=by
 unfold fndT
 rw[find_range _ _ _ hj (by simpa using h) (fun i hi=>by simpa using hb i hi)]
theorem fndT_bd (l:List TA) (x y:Int):fndT l x y = -1∨(0≤fndT l x y∧fndT l x y<l.length):=by
 unfold fndT
 cases h:(List.range l.length).find? (mT l x y) with
 |none=>exact .inl rfl
 |some j=>
  have:=List.mem_range.1 (List.mem_of_find?_eq_some h)
  right
  show 0≤((j:Nat):Int)∧((j:Nat):Int)<_
  omega
theorem fndT_in {l:List TA} {x y:Int} (h:decide (fndT l x y<0)=false):0≤fndT l x y∧(fndT l x y).toNat<l.length:=by
 have:=of_decide_eq_false h
 rcases fndT_bd l x y with h|h<;>omega
theorem rT_t {l:List TA} {x y:Int} (h:decide (fndT l x y<0)=true):rT l x y=zT:=by unfold rT;rw[h];rfl
theorem rT_f {l:List TA} {x y:Int} (h:decide (fndT l x y<0)=false):rT l x y=(at' l (fndT l x y).toNat).t:=by unfold rT;rw[h];rfl
theorem rws_tl {l:List TA} {k:Nat} (h:k<l.length):List.take 256 (List.drop (k*258+2) (rws l))=tl (at' l k).t:=by
 obtain ⟨m,hm⟩:=rws_drop l k h
 rw[←List.drop_drop,hm]
 show List.take 256 (tl (at' l k).t++m)=_
 rw[List.take_append_of_le_length (by rw[tl_len];exact Nat.le_refl _),tl_take]
theorem enters70:Enters Tryz.prog 70:=fun args w=>by go_simp
def cz_C70 (e:TA) (x y:Int):Cz:={
 ct:=(fun f=>match f with
 |_=>none)
 eq:=(fun t=>match t with
 |40=>some (fun xs ys=>match xs,ys with | [.v (.int _ a0),.v (.int _ a1)],[.v (.int _ b0),.v (.int _ b1)]=>(a0==b0&&a1==b1)|_,_=>false)
 |_=>none)
 raw:=[],sym:=[],nf:=[(5,ag [li e.X,li e.Y])],ap:=true,off:=[],on:=[],lp:=fun _=>none,un:=0}
set_option maxRecDepth 100000 in
set_option maxHeartbeats 400000 in
theorem C70 (e:TA) (x y:Int)  : CallOK Tryz.prog 70 [.c (.agg (el e)),.c (.l (.p 0 0))] [(0,⟨[li x,li y],.t 40⟩)] 1 (bv (e.X==x&&e.Y==y)) [] 0:=by
 refine call_ok (cx:=cz_C70 e x y) (nm:=[]) rfl Tryz.func70 (body:=Tryz.f70.body.getD .skip) rfl enters70 (by kernel_rfl) ?_
 apply of_eq (q:=Le (ag (List.take 2 (el e))) (ag [li e.X,li e.Y])∧EqOK Tryz.prog 40 [li e.X,li e.Y] [li x,li y] (e.X==x&&e.Y==y)∧Le (bv (e.X==x&&e.Y==y)) (bv (e.X==x&&e.Y==y))∧True) (by kernel_rfl)
 repeat' (first|exact trivial|with_reducible apply And.intro|(with_reducible apply HB.mk)|with_reducible intro _)
 all_goals first
  |(with_reducible exact Le.refl _)
  |(exact eq40 _ _ _ _)
  |(exact Le.of rfl)
  |(exact Le.of rfl)
theorem C70g (e:TA) (x y:Int) (id n:Nat) (hi:id<n):CallOK Tryz.prog 70 [.c (.agg (el e)),.c (.l (.p id 0))] [(id,⟨[li x,li y],.t 40⟩)] n (bv (e.X==x&&e.Y==y)) [] 0:=by
 have key:=CallOK.at1 (C70 e x y) id n hi
 simp only[List.map_cons,List.map_nil,Blk.ren,SV.ren,Cp.ren,Leaf.ren,BT.ren,ren_plain (plain_el _)] at key
 exact key
def cz_R69 (l:List TA) (x y:Int) (k:Nat):Cz:={
 ct:=(fun f=>match f with
 |70=>some fun _ _S ar=>match ar with | [.c (.agg (.v (.int _ X)::.v (.int _ Y)::_)),.c (.l (.p i _))]=>some {v:=bv (X==x&&Y==y),rd:=[i],wr:=[],nw:=0}|_=>none
 |_=>none)
 eq:=(fun t=>match t with
 |_=>none)
 raw:=[],sym:=[14,15],nf:=[(15,.c (.agg (el (at' l k)))),(16,bv (mT l x y k))],ap:=true,off:=[],on:=[],lp:=fun _=>none,un:=0}
set_option maxRecDepth 100000 in
theorem R69 (l:List TA) (x y:Int) (k:Nat)  (K:Exit→St→Prop) (h:HB (decide ((Nat.cast k:Int)<(Nat.cast l.length:Int))) (InR ((Nat.cast k:Int)) l.length∧((Nat.cast k:Int)).toNat*258+258≤(rws l).length∧Le (ag (List.take 258 (List.drop (((Nat.cast k:Int)).toNat*258) (rws l)))) (ag (el (at' l k)))∧CallOKd Tryz.prog 70 [] [ag (el (at' l k)),SV.c (Cp.l (Leaf.p 1 0))] [(1,Blk.mk [li x,li y] (BT.t 40))] 2 (bv ((at' l k).X==x&&(at' l k).Y==y)) [] 0∧Le (bv ((at' l k).X==x&&(at' l k).Y==y)) (bv (mT l x y k))∧HB (mT l x y k) (wkK 2 K Exit.ret (St.mk [(0,SV.c (Cp.l (Leaf.o 0 l.length))),(1,SV.c (Cp.l (Leaf.f 70 [(1,0)]))),(4,iv IntKind.i64 (Nat.cast k:Int)),(7,iv IntKind.i64 (Nat.cast l.length:Int)),(8,iv IntKind.i64 (Nat.cast k:Int))] [(0,some (Blk.mk (rws l) (BT.r 42 258 0))),(1,some (Blk.mk [li x,li y] (BT.t 40)))] 2 19 [] 2)) (IntKind.i64.wrap ((Nat.cast k:Int)+1)=(Nat.cast k:Int)+1∧RoundTo Tryz.prog ((getLoop 2 (Tryz.f69.body.getD Code.skip)).getD Code.skip) 2 (wkK 2 K) (St.mk [(0,SV.c (Cp.l (Leaf.o 0 l.length))),(1,SV.c (Cp.l (Leaf.f 70 [(1,0)]))),(4,SV.u),(7,iv IntKind.i64 (Nat.cast l.length:Int)),(8,iv IntKind.i64 ((Nat.cast k:Int)+1))] [(0,some (Blk.mk (rws l) (BT.r 42 258 0))),(1,some (Blk.mk [li x,li y] (BT.t 40)))] 2 19 [] 2))) (wkK 2 K (Exit.exit 0) (St.mk [(0,SV.c (Cp.l (Leaf.o 0 l.length))),(1,SV.c (Cp.l (Leaf.f 70 [(1,0)]))),(4,SV.u),(7,iv IntKind.i64 (Nat.cast l.length:Int)),(8,iv IntKind.i64 (Nat.cast k:Int))] [(0,some (Blk.mk (rws l) (BT.r 42 258 0))),(1,some (Blk.mk [li x,li y] (BT.t 40)))] 2 19 [] 2))):WPL Tryz.prog ((getLoop 2 (Tryz.f69.body.getD .skip)).getD .skip) (I69 l x y k) (wkK 2 K):=
 wp_roundT [0,1,4,7,8] [0,1] (cx:=cz_R69 l x y k) rfl (of_eq (by kernel_rfl) h)
set_option maxRecDepth 100000 in
set_option maxHeartbeats 4000000 in
theorem L69 (l:List TA) (x y:Int) (hL:l.length≤1024):∀(m k:Nat),l.length-k=m→k≤l.length→(∀j,j<k→(!mT l x y j)=true)→∀(K:Exit→St→Prop),((∀j,j<l.length→(!mT l x y j)=true)→K (.exit 0) (I69 l x y l.length))→(∀j,j<l.length→(∀i,i<j→(!mT l x y i)=true)→(!mT l x y j)=false→K .ret (Q69 l x y j))→WPL Tryz.prog ((getLoop 2 (Tryz.f69.body.getD .skip)).getD .skip) (I69 l x y k) (wkK 2 K)
 |0,k,hm,hk,hall,K,hK,hR=>by
  have e:k=l.length:=by omega
  subst e
  refine R69 l x y _ K (HB.mk (fun hne=>absurd (of_decide_eq_true hne) (by omega)) (fun he=>?_))
  exact wkK.to (I69 l x y _) (Nat.le_refl _) (by kernel_rfl) (wkE_cons (LeN.sl (by kernel_rfl) rfl) (wkE_cons (LeN.sl (by kernel_rfl) rfl) (wkE_cons (LeN.sl (by kernel_rfl) rfl) (wkE_cons (LeN.sl (by kernel_rfl) rfl) trivial)))) (wkH_cons (BkN.plain (cs:=rws l) (b:=.r 42 258 0) (by kernel_rfl) (rfl) (plain_rws _) (by kernel_rfl)) (wkH_cons (BkN.blk (k:=⟨[li x,li y],.t 40⟩) (by kernel_rfl) (rfl) (by kernel_rfl)) trivial)) (hK hall)
 |m+1,k,hm,hk,hall,K,hK,hR=>by
  refine R69 l x y k K (HB.mk (fun hne=>?_) (fun he=>absurd (show ((k:Nat):Int)<(l.length:Nat) by omega) (of_decide_eq_false he)))
  have hlt:k<l.length:=by omega
  repeat' (first|exact trivial|with_reducible apply And.intro|(with_reducible apply HB.mk)|with_reducible intro _)
  all_goals first
   |((with_reducible exact C70g _ x y _ _ (by omega)))
   |(exact ⟨by omega,by omega⟩)
   |((rw[rws_len,tn];omega))
   |((refine Le.of ?_;simp only[tn,Nat.zero_add,Nat.add_zero];rw[rws_at hlt]))
   |(with_reducible exact Le.bool (mT_eq _ _ _ _))
   |(have hcnd:(mT l x y k)=false:=(by with_reducible assumption);(with_reducible refine RoundTo.toN 2 (I69 l x y (k+1)) ?_ ?_ ?_ ?_ ?_);exact Nat.le_refl _;kernel_rfl;exact (wkE_cons (LeN.sl (by kernel_rfl) rfl) (wkE_cons (LeN.sl (by kernel_rfl) rfl) (wkE_cons (LeN.sl (by kernel_rfl) rfl) (wkE_cons (LeN.sl (by kernel_rfl) rfl) trivial))));exact (wkH_cons (BkN.plain (cs:=rws l) (b:=.r 42 258 0) (by kernel_rfl) (rfl) (plain_rws _) (by kernel_rfl)) (wkH_cons (BkN.blk (k:=⟨[li x,li y],.t 40⟩) (by kernel_rfl) (rfl) (by kernel_rfl)) trivial));exact (L69 l x y hL m (k+1) (by omega) (by omega) (fun j hj=>by rcases Nat.lt_or_ge j k with h|h;exact hall j h;have e:j=k:=(by omega);subst e;exact (not_f' hcnd)) K hK hR))
   |(exact wkK.to (Q69 l x y k) (Nat.le_refl _) (by kernel_rfl) (wkE_cons (LeN.sl (by kernel_rfl) rfl) trivial) trivial (hR k hlt hall ((mE_t (by with_reducible assumption)))))
   |(exact okw _ (by omega) (by omega))
theorem enters69:Enters Tryz.prog 69:=fun args w=>by go_simp
def cz_C69 (l:List TA) (x y:Int):Cz:={
 ct:=(fun f=>match f with
 |_=>none)
 eq:=(fun t=>match t with
 |_=>none)
 raw:=[],sym:=[],nf:=[],ap:=true,off:=[],on:=[],lp:=fun r=>match r with|2=>some (fun _ K=>((∀j,j<l.length→(!mT l x y j)=true)→K (.exit 0) (I69 l x y l.length))∧(∀j,j<l.length→(∀i,i<j→(!mT l x y i)=true)→(!mT l x y j)=false→K .ret (Q69 l x y j)))|_=>none,un:=0}
set_option maxRecDepth 100000 in
set_option maxHeartbeats 400000 in
theorem C69 (l:List TA) (x y:Int) (hL:l.length≤1024):CallOK Tryz.prog 69 [.c (.l (.o 0 l.length)),.c (.l (.f 70 [(1,0)]))] [(0,⟨rws l,.r 42 258 0⟩),(1,⟨[li x,li y],.t 40⟩)] 2 (iv .i64 (fndT l x y)) [] 0:=by
 refine call_ok (cx:=cz_C69 l x y) (nm:=[]) rfl Tryz.func69 (body:=Tryz.f69.body.getD .skip) rfl enters69 (by unfold inck;simp only[List.all_cons,List.all_nil,blkLt_plain (plain_rws l) (show (BT.rn (rnId 2 0 []) (.r 42 258 0)).isSome=true from rfl),Bool.and_true,Bool.true_and];kernel_rfl) ?_
 apply of_eq (q:=(LoopOK Tryz.prog ((getLoop 2 (Tryz.f69.body.getD .skip)).getD .skip) (St.mk [(8,iv IntKind.i64 0),(7,iv IntKind.i64 (Nat.cast l.length:Int)),(6,SV.c (Cp.l (Leaf.o 0 l.length))),(4,iv IntKind.i64 0),(0,SV.c (Cp.l (Leaf.o 0 l.length))),(1,SV.c (Cp.l (Leaf.f 70 [(1,0)])))] [(0,some (Blk.mk (rws l) (BT.r 42 258 0))),(1,some (Blk.mk [li x,li y] (BT.t 40)))] 2 19 [] 2) fun K=>((∀(j:Nat),j<l.length→(!mT l x y j)=true)→K (Exit.exit 0) (I69 l x y l.length))∧∀(j:Nat),j<l.length→(∀(i:Nat),i<j→(!mT l x y i)=true)→(!mT l x y j)=false→K Exit.ret (Q69 l x y j))∧((∀(j:Nat),j<l.length→(!mT l x y j)=true)→Le (iv IntKind.i64 (-1)) (iv IntKind.i64 (fndT l x y))∧True)∧∀(j:Nat),j<l.length→(∀(i:Nat),i<j→(!mT l x y i)=true)→(!mT l x y j)=false→Le (iv IntKind.i64 (Nat.cast j:Int)) (iv IntKind.i64 (fndT l x y))∧True) (by kernel_rfl)
 repeat' (first|exact trivial|with_reducible apply And.intro|(with_reducible apply HB.mk)|with_reducible intro _)
 all_goals first
  |(exact LoopOK.mk (I69 l x y 0) rfl (by kernel_rfl) (wkE_cons (LeN.sl (by kernel_rfl) rfl) (wkE_cons (LeN.sl (by kernel_rfl) rfl) (wkE_cons (LeN.sl (by kernel_rfl) rfl) (wkE_cons (LeN.sl (by kernel_rfl) rfl) trivial)))) (wkH_cons (BkN.plain (cs:=rws l) (b:=.r 42 258 0) (by kernel_rfl) (rfl) (plain_rws _) (by kernel_rfl)) (wkH_cons (BkN.blk (k:=⟨[li x,li y],.t 40⟩) (by kernel_rfl) (rfl) (by kernel_rfl)) trivial)) (fun K hT=>L69 l x y hL _ 0 rfl (Nat.zero_le _) (fun j hj=>absurd hj (Nat.not_lt_zero j)) K hT.1 hT.2))
  |((refine Le.int ?_;exact (fndT_none (by with_reducible assumption)).symm))
  |((refine Le.int ?_;exact (fndT_some (by with_reducible assumption) (by with_reducible assumption) (by with_reducible assumption)).symm))
theorem C69g (l:List TA) (x y:Int) (hL:l.length≤1024) (i q n:Nat) (h1:i<n) (h2:q<n) (h3:i≠q):CallOK Tryz.prog 69 [.c (.l (.o i l.length)),.c (.l (.f 70 [(q,0)]))] [(i,⟨rws l,.r 42 258 i⟩),(q,⟨[li x,li y],.t 40⟩)] n (iv .i64 (fndT l x y)) [] 0:=by
 have key:=CallOKd.at2 (C69 l x y hL) i q n h1 h2 h3
 simp only[List.map_cons,List.map_nil,Blk.ren,SV.ren,Cp.ren,Leaf.ren,BT.ren,ren_plain (plain_rws _)] at key
 exact key
theorem enters18:Enters Tryz.prog 18:=fun args w=>by go_simp
def cz_C18 (l:List TA) (x y:Int):Cz:={
 ct:=(fun f=>match f with
 |69=>some fun _ _S ar=>match ar with | [.c (.l (.o i _)),.c (.l (.f _ [(q,_)]))]=>some {v:=iv .i64 (fndT l x y),rd:=[i,q],wr:=[],nw:=0}|_=>none
 |70=>some fun _ _S ar=>match ar with | [.c (.agg (.v (.int _ X)::.v (.int _ Y)::_)),.c (.l (.p i _))]=>some {v:=bv (X==x&&Y==y),rd:=[i],wr:=[],nw:=0}|_=>none
 |_=>none)
 eq:=(fun t=>match t with
 |_=>none)
 raw:=[],sym:=[16,18],nf:=[(18,.c (.agg (tl (rT l x y))))],ap:=true,off:=[],on:=[],lp:=fun _=>none,un:=0,wh:=[38]}
set_option maxRecDepth 100000 in
set_option maxHeartbeats 400000 in
theorem C18 (l:List TA) (x y:Int) (hL:l.length≤1024):CallOK Tryz.prog 18 [.c (.agg [.o 0 l.length]),ag [li x,li y]] [(0,⟨rws l,.r 42 258 0⟩)] 1 (.c (.agg (tl (rT l x y)))) [] 0:=by
 refine call_ok (cx:=cz_C18 l x y) (nm:=[]) rfl Tryz.func18 (body:=Tryz.f18.body.getD .skip) rfl enters18 (by unfold inck;simp only[List.all_cons,List.all_nil,blkLt_plain (plain_rws l) (show (BT.rn (rnId 1 0 []) (.r 42 258 0)).isSome=true from rfl),Bool.and_true,Bool.true_and];kernel_rfl) ?_
 apply of_eq (q:=CallOKd Tryz.prog 69 [] [SV.c (Cp.l (Leaf.o 0 l.length)),SV.c (Cp.l (Leaf.f 70 [(2,0)]))] [(0,Blk.mk (rws l) (BT.r 42 258 0)),(2,Blk.mk [li x,li y] (BT.t 40))] 4 (iv IntKind.i64 (fndT l x y)) [] 0∧HB (decide (fndT l x y<0)) (0=0∧256=256∧Le (ag zT256) (ag (tl (rT l x y)))∧True) (InR (fndT l x y) l.length∧(fndT l x y).toNat*258+2+256≤(rws l).length∧Le (ag (List.take 256 (List.drop ((fndT l x y).toNat*258+2) (rws l)))) (ag (tl (rT l x y)))∧0=0∧256=256∧Le (ag (tl (rT l x y))) (ag (tl (rT l x y)))∧True)) (by kernel_rfl)
 repeat' (first|exact trivial|with_reducible apply And.intro|(with_reducible apply HB.mk)|with_reducible intro _)
 all_goals first
  |(with_reducible exact Le.refl _)
  |(with_reducible rfl)
  |(((with_reducible refine C69g l x y hL _ _ _ ?_ ?_ ?_)<;>omega))
  |((have:=fndT_in (by with_reducible assumption);exact ⟨by omega,by omega⟩))
  |((have:=fndT_in (by with_reducible assumption);rw[rws_len];omega))
  |((refine Le.of ?_;rw[rT_t (by with_reducible assumption),←zT256_eq];done))
  |((refine Le.of ?_;rw[rT_f (by with_reducible assumption),rws_tl (fndT_in (by with_reducible assumption)).2];done))
theorem rtile_any (l:List TA) (x y:Int) (hL:l.length≤1024) (id n:Nat) (hi:id<n):CallOK Tryz.prog 18 [.c (.agg [.o id l.length]),ag [li x,li y]] [(id,⟨rws l,.r 42 258 id⟩)] n (.c (.agg (tl (rT l x y)))) [] 0:=by
 have key:=CallOK.at1 (C18 l x y hL) id n hi
 simp only[List.map_cons,List.map_nil,Blk.ren,SV.ren,Cp.ren,Leaf.ren,BT.ren,ren_plain (plain_rws _),ren_plain (plain_tl _)] at key
 exact key
end Ab
end Go.Proofs.YtpdckpifhniioaaGreat
end
section
set_option linter.unusedVariables false
set_option linter.unusedSimpArgs false
namespace Go.Proofs.YtpdckpifhniioaaGreat
open Go.RowKit
namespace Ab
attribute [local irreducible] CallOKd
end Ab
end Go.Proofs.YtpdckpifhniioaaGreat
end
section
set_option linter.unusedVariables false
set_option linter.unusedSimpArgs false
namespace Go.Proofs.YtpdckpifhniioaaGreat
open Go.RowKit
namespace Ab
attribute [local irreducible] CallOKd
structure GoodX (L:List EN):Prop where
 x:∀k,k<L.length→-8192≤(ea L k).X∧(ea L k).X≤8191
 y:∀k,k<L.length→-8192≤(ea L k).Y∧(ea L k).Y≤8191
end Ab
end Go.Proofs.YtpdckpifhniioaaGreat
end
section
set_option linter.unusedVariables false
set_option linter.unusedSimpArgs false
namespace Go.Proofs.YtpdckpifhniioaaGreat
open Go.RowKit
namespace Ab
theorem good_lt {l:List TA} (g:Good l) (j:Nat):∀d,j+d+1<l.length→(at' l j).Y<(at' l (j+d+1)).Y∨((at' l j).Y=(at' l (j+d+1)).Y∧(at' l j).X<(at' l (j+d+1)).X)
 |0,h=>g.ord j h
 |d+1,h=>by
  have h1:=good_lt g j d (by omega)
  have h2:=g.ord (j+d+1) (by omega)
  rw[show j+(d+1)+1=j+d+1+1 by omega]
  omega
section
variable {l:List TA} (g:Good l) {px py:Int} {i c:Nat} (hi:i<64) (hc:c<4)
include hi hc
end
theorem goodX_of {l:List TA} (g:Good l):GoodX (l.map enO):=⟨(good_goodE g).x,(good_goodE g).y⟩
theorem goodB_of {l:List TA} (g:Good l):GoodB (l.map enO):=⟨(good_goodE g).len,(good_goodE g).b⟩
theorem mapO_len (l:List TA):(l.map enO).length=l.length:=List.length_map ..
theorem open_pk {l:List TA} (g:Good l) (hl:l.length≤1024) (n:Nat):CallOK Tryz.prog 15 [.c (.l (.v (.string (packB l))))] [] n (.tup [.l (.p n 0),.l (li 0)]) [(n,⟨[.o (n+1) (l.map enO).length,li 0],125⟩),(n+1,⟨ens (l.map enO),.r 123 8 (n+1)⟩)] 2:=by
 obtain ⟨h1,h2⟩:=pack_open g
 have hs:(packB l).size≤1000000000000000000:=by
  rw[pack_size]
  have e1:=txtB_le (hdB l l.length) (by have:=hdB_le l l.length;omega)
  have e2:=hdB_le l l.length
  have e3:=blB_le l l.length
  omega
 have key:=open_ok (packB l) hs h1 n
 rw[h2] at key
 exact key
end Ab
end Go.Proofs.YtpdckpifhniioaaGreat
end
section
set_option linter.unusedVariables false
set_option linter.unusedSimpArgs false
namespace Go.Proofs.YtpdckpifhniioaaGreat
open Go.RowKit
namespace Ab
def EqT (t u:Nat→UInt8):Prop:=∀i,i<256→t i=u i
theorem EqT.tl {t u:Nat→UInt8} (h:EqT t u):tl t=tl u:=tl_ext h
theorem EqT.zero {t u:Nat→UInt8} (h:EqT t u):zeroT t=zeroT u:=sameT_congr (fun i hi=>by unfold clnT;rw[h _ hi,h _ (by omega)]) (fun i _=>rfl)
theorem EqT.cln {t u:Nat→UInt8} (h:EqT t u):sameT t (clnT t)=sameT u (clnT u):=sameT_congr h (fun i hi=>by unfold clnT;rw[h _ hi,h _ (by omega)])
theorem sameT_symm {t u:Nat→UInt8} (h:sameT t u=true):sameT u t=true:=(sameT_iff _ _).2 fun i hi=>((sameT_iff _ _).1 h i hi).symm
theorem fn_good {t u:Nat→UInt8} {ok:Bool} (hok:ok=true) (h:EqT t u) (hz:zeroT u=false) (hc:sameT (clnT u) u=true):fnB t ok=false:=by
 unfold fnB
 rw[hok,h.zero,hz,h.cln,sameT_symm hc];rfl
theorem get_byl (s:ByteArray) {i:Nat} (h:i<s.size):s.get! i=(byl s).getD i 0:=by
 show s.data[i]! = s.data.toList.getD i 0
 rw[getElem!_pos s.data i h,List.getD,Array.getElem?_toList,Array.getElem?_eq_getElem h];rfl
theorem tlB_cons (b:UInt8) (s:ByteArray):tlB (⟨#[b]⟩++s)=s:=byl_ext (by
 unfold tlB
 rw[byl_extract,byl_append]
 show List.take _ (byl s)=_
 exact List.take_of_length_le (by rw[byl_len,ByteArray.size_append];show _≤1+s.size-1;omega))
theorem kB_cons (b:UInt8) (s:ByteArray):kB (⟨#[b]⟩++s)=((b.toNat:Nat):Int):=by
 unfold kB
 rw[get_byl _ (by rw[ByteArray.size_append];show 0<1+s.size;omega),byl_append];rfl
theorem blob_back {t:Nat→UInt8}:dkB (blobT t)=true∧EqT (dkT (blobT t)) t:=by
 cases hs:solT t with
 |true=>
  have hb:blobT t=⟨#[0]⟩++⟨#[t 0,t 1,t 2,t 3]⟩:=by unfold blobT;rw[hs];rfl
  obtain ⟨h1,h2⟩:=k0 (b:=blobT t) (by rw[hb,kB_cons];rfl)
  have h3:d0B (tlB (blobT t))=true:=by rw[hb,tlB_cons];rfl
  refine ⟨h2.trans h3,fun i hi=>?_⟩
  rw[h1]
  unfold d0T
  rw[h3,hb,tlB_cons]
  show fillT (t 0) (t 1) (t 2) (t 3) i=t i
  unfold solT at hs
  exact ((sameT_iff _ _).1 hs i hi).symm
 |false=>
  cases hd:decide (((codT t).size:Int)<257) with
  |false=>
   have hb:blobT t=⟨#[1]⟩++bytesT t:=by unfold blobT;rw[hs,hd];rfl
   obtain ⟨h1,h2⟩:=k1 (b:=blobT t) (by rw[hb,kB_cons];rfl)
   have h3:d1B (tlB (blobT t))=true:=by rw[hb,tlB_cons];unfold d1B;rw[bytesT_len];rfl
   refine ⟨h2.trans h3,fun i hi=>?_⟩
   rw[h1]
   unfold d1T
   rw[h3,hb,tlB_cons]
   show (bytesT t).get! i=t i
   rw[get_byl _ (by rw[bytesT_len];exact hi)]
   unfold bytesT
   rw[byl_mk,List.getD,List.getElem?_map,List.getElem?_range hi];rfl
  |true=>
   have hb:blobT t=⟨#[2]⟩++(⟨#[UInt8.ofNat (bestT t)]⟩++⟨(Cod.M.enc (Prd.fw (bestT t) t).data.toList).toArray⟩):=by
    have hcd:blobT t=codT t:=by
     unfold blobT
     rw[hs,cond_false,hd,cond_true]
    rw[hcd]
    unfold codT
    refine byl_ext ?_
    rw[byl_append,byl_append,byl_append]
    rfl
   obtain ⟨h1,h2⟩:=k2 (b:=blobT t) (by rw[hb,kB_cons];rfl)
   have hr:tlB (blobT t)=⟨#[UInt8.ofNat (bestT t)]⟩++⟨(Cod.M.enc (Prd.fw (bestT t) t).data.toList).toArray⟩:=by rw[hb,tlB_cons]
   have hD:d2D (tlB (blobT t))=(Prd.fw (bestT t) t,0):=by
    have e1:=tlB_cons (UInt8.ofNat (bestT t)) ⟨(Cod.M.enc (Prd.fw (bestT t) t).data.toList).toArray⟩
    unfold tlB at e1
    unfold d2D
    rw[hr,e1]
    unfold Cod.dres
    have e2:Cod.M.dec (Cod.M.enc (Prd.fw (bestT t) t).data.toList) 256=(Prd.fw (bestT t) t).data.toList:=by
     have:=Cod.M.dec_enc (Prd.fw (bestT t) t).data.toList []
     rw[List.append_nil,show (Prd.fw (bestT t) t).data.toList.length=256 from (byl_len _).trans (Prd.fw_size _ _)] at this
     exact this
    show (if (⟨(Cod.M.enc (Cod.M.dec (Cod.M.enc (Prd.fw (bestT t) t).data.toList) 256)).toArray⟩:ByteArray)=⟨(Cod.M.enc (Prd.fw (bestT t) t).data.toList).toArray⟩ then ((⟨(Cod.M.dec (Cod.M.enc (Prd.fw (bestT t) t).data.toList) 256).toArray⟩:ByteArray),(0:Int)) else (⟨#[]⟩,11))=_
    rw[e2,if_pos rfl]
   have hK:d2K (tlB (blobT t))=(bestT t:Nat):=by
    have hb6:=bestT_lt t
    unfold d2K
    rw[hr,get_byl _ (by rw[ByteArray.size_append];show 0<1+_;omega),byl_append]
    show (((UInt8.ofNat (bestT t)).toNat:Nat):Int)=_
    have:(UInt8.ofNat (bestT t)).toNat=bestT t:=by simp;omega
    rw[this]
   have hN:d2N (tlB (blobT t))=false:=by rw[←d2N_eq,hD];rfl
   have h3:d2B (tlB (blobT t))=true:=by
    have hb6:=bestT_lt t
    unfold d2B
    rw[hN,hK,decide_eq_false (by rw[hr,ByteArray.size_append];show ¬1+_=0;omega),decide_eq_true (by omega)];rfl
   refine ⟨h2.trans h3,fun i hi=>?_⟩
   rw[h1]
   unfold d2T
   rw[h3,hD,hK]
   show invT ((bestT t:Nat):Int).toNat (strT (Prd.fw (bestT t) t)) i=t i
   have e3:((bestT t:Nat):Int).toNat=bestT t:=rfl
   rw[e3]
   unfold invT
   have hu:Prd.M.unp (bestT t) (strT (Prd.fw (bestT t) t)) 256=Prd.M.unp (bestT t) (Prd.M.res (bestT t) (Prd.plf t)) 256:=Prd.M.unp_congr _ _ _ 256 fun j hj=>by
    show (Prd.fw (bestT t) t).get! j=_
    rw[get_byl _ (by rw[Prd.fw_size];exact hj)]
    show (Prd.M.tab 256 (Prd.M.res (bestT t) (Prd.plf t))).getD j 0=_
    rw[List.getD,List.getElem?_eq_getElem (by rw[Prd.M.tab_length];exact hj),Prd.M.tab_get];rfl
   rw[hu]
   exact Prd.back_fwd (bestT t) t i hi
theorem dec_enO {e:TA} (hz:zeroT e.t=false) (hc:sameT (clnT e.t) e.t=true):dcE (enO e)=0∧EqT (dcT (enO e)) e.t:=by
 obtain ⟨h1,h2⟩:=blob_back (t:=e.t)
 have hs:sNe (enO e)=false:=by
  rw[←sNe_eq]
  show (sumI (blobT e.t) != sumI (blobT e.t))=false
  simp
 have hf:fnB (dkT (blobT e.t)) (dkB (blobT e.t))=false:=fn_good h1 h2 hz hc
 obtain ⟨a,b⟩:=dc_t (e:=enO e) hs rfl rfl hf
 exact ⟨a,by rw[b];exact h2⟩
theorem sm_back {l:List TA} (g:Good l) (w:Int→Int→Bool):∀j,j<l.length→okP (l.map enO) w j=true:=fun j hj=>by
 unfold okP
 rw[ea_map hj,(dec_enO (g.nz j hj) (g.cl j hj)).1]
 cases w (enO (at' l j)).X (enO (at' l j)).Y<;>rfl
theorem smF_back {l:List TA} (g:Good l) (w:Int→Int→Bool):smF (l.map enO) w=none:=smF_none fun j hj=>sm_back g w j (by rwa [List.length_map] at hj)
def kept (l:List TA) (w:Int→Int→Bool):Nat→List TA
 |0=>[]
 |k+1=>bif w (at' l k).X (at' l k).Y then kept l w k++[at' l k] else kept l w k
theorem sm_rws {l:List TA} (g:Good l) (w:Int→Int→Bool):∀k,k≤l.length→rws (smL (l.map enO) w k)=rws (kept l w k)∧(smL (l.map enO) w k).length=(kept l w k).length
 |0,_=>⟨rfl,rfl⟩
 |k+1,hk=>by
  obtain ⟨h1,h2⟩:=sm_rws g w k (by omega)
  have hk':k<l.length:=by omega
  rw[smL,kept,ea_map hk']
  show rws (bif w (at' l k).X (at' l k).Y then (_:List TA) else _)=_∧List.length (bif w (at' l k).X (at' l k).Y then (_:List TA) else _)=_
  cases w (at' l k).X (at' l k).Y
  ·exact ⟨h1,h2⟩
  ·refine ⟨?_,?_⟩
   ·show rws ((_:List TA)++_)=rws ((_:List TA)++_)
    rw[rws_append,rws_append,h1,rws_one,rws_one]
    congr 1
    show li _::li _::tl (dcT (enO (at' l k)))=li _::li _::tl (at' l k).t
    rw[(dec_enO (g.nz k hk') (g.cl k hk')).2.tl];rfl
   ·show List.length ((_:List TA)++_)=List.length ((_:List TA)++_)
    rw[List.length_append,List.length_append,h2];rfl
theorem kept_all (l:List TA):∀k,k≤l.length→kept l wAll k=l.take k
 |0,_=>by rw[List.take_zero];rfl
 |k+1,hk=>by
  rw[kept,kept_all l k (by omega),List.take_add_one,at_get (show k<l.length by omega)];rfl
end Ab
end Go.Proofs.YtpdckpifhniioaaGreat
end
section
set_option linter.unusedVariables false
set_option linter.unusedSimpArgs false
namespace Go.Proofs.YtpdckpifhniioaaGreat
open Go.RowKit
namespace Ab
attribute [local irreducible] CallOKd
structure R4 where
 x0:Int
 y0:Int
 x1:Int
 y1:Int
def emp (r:R4):Bool:=bif decide (r.x0≥r.x1) then true else decide (r.y0≥r.y1)
def nrm (r:R4):R4:=bif emp r then R4.mk 0 0 0 0 else r
def isx (a b:R4):R4:=nrm ⟨imax a.x0 b.x0,imax a.y0 b.y0,imin a.x1 b.x1,imin a.y1 b.y1⟩
def ofP (x y:Int):R4:=⟨8*x,8*y,8*x+8,8*y+8⟩
def wR (c:R4) (x y:Int):Bool:=!emp (isx (ofP x y) c)
theorem nrm_t {r:R4} (h:emp r=true):nrm r=R4.mk 0 0 0 0:=by unfold nrm;rw[h];rfl
theorem nrm_f {r:R4} (h:emp r=false):nrm r=r:=by unfold nrm;rw[h];rfl
theorem enters28:Enters Tryz.prog 28:=fun args w=>by go_simp
def cz_C28:Cz:={
 ct:=(fun f=>match f with
 |_=>none)
 eq:=(fun t=>match t with
 |_=>none)
 raw:=[],sym:=[],nf:=[],ap:=true,off:=[],on:=[],lp:=fun _=>none,un:=0}
set_option maxRecDepth 100000 in
set_option maxHeartbeats 400000 in
theorem C28 (r:R4)  (n:Nat):CallOK Tryz.prog 28 [ag [li r.x0,li r.y0,li r.x1,li r.y1]] [] n (bv (emp r)) [] 0:=by
 refine CallOK.any ?_ (by kernel_rfl) (by kernel_rfl) n
 refine call_ok (cx:=cz_C28) (nm:=[]) rfl Tryz.func28 (body:=Tryz.f28.body.getD .skip) rfl enters28 (by kernel_rfl) ?_
 apply of_eq (q:=((!decide (r.x0≥r.x1))=true→(!decide (r.x0≥r.x1))=true∧True)∧((!decide (r.x0≥r.x1))=true→(!decide (r.x0≥r.x1))=true∧True)∧((!decide (r.x0≥r.x1))=true→(!decide (r.x0≥r.x1))=true∧(!decide (r.x0≥r.x1))=true∧True)∧(decide (r.x0≥r.x1)=false→(!decide (r.x0≥r.x1))=true)∧Le (bv (bif decide (r.x0≥r.x1) then true else decide (r.y0≥r.y1))) (bv (emp r))∧True) (by kernel_rfl)
 repeat' (first|exact trivial|with_reducible apply And.intro|(with_reducible apply HB.mk)|with_reducible intro _)
 all_goals first
  |(with_reducible assumption)
  |(exact Le.bool rfl)
  |(simp only[*,Bool.and_self,Bool.not_false,Bool.not_true];done)
theorem enters85:Enters Tryz.prog 85:=fun args w=>by go_simp
def cz_C85 (r:R4):Cz:={
 ct:=(fun f=>match f with
 |28=>some fun _ _S ar=>match ar with | [.c (.agg [.v (.int _ a0),.v (.int _ a1),.v (.int _ a2),.v (.int _ a3)])]=>some {v:=bv (emp ⟨a0,a1,a2,a3⟩),rd:=[],wr:=[],nw:=0}|_=>none
 |_=>none)
 eq:=(fun t=>match t with
 |_=>none)
 raw:=[],sym:=[],nf:=[(4,bv (emp r))],ap:=true,off:=[],on:=[],lp:=fun _=>none,un:=0,wh:=[66]}
set_option maxRecDepth 100000 in
set_option maxHeartbeats 400000 in
theorem C85 (r:R4)  (n:Nat):CallOK Tryz.prog 85 [ag [li r.x0,li r.y0,li r.x1,li r.y1]] [] n (ag [li (nrm r).x0,li (nrm r).y0,li (nrm r).x1,li (nrm r).y1]) [] 0:=by
 refine CallOK.any ?_ (by kernel_rfl) (by kernel_rfl) n
 refine call_ok (cx:=cz_C85 r) (nm:=[]) rfl Tryz.func85 (body:=Tryz.f85.body.getD .skip) rfl enters85 (by kernel_rfl) ?_
 apply of_eq (q:=CallOKd Tryz.prog 28 [] [ag [li r.x0,li r.y0,li r.x1,li r.y1]] [] 2 (bv (emp r)) [] 0∧Le (bv (emp r)) (bv (emp r))∧HB (emp r) (0=0∧4=4∧Le (ag [li 0,li 0,li 0,li 0]) (ag [li (nrm r).x0,li (nrm r).y0,li (nrm r).x1,li (nrm r).y1])∧True) (0=0∧4=4∧Le (ag [li r.x0,li r.y0,li r.x1,li r.y1]) (ag [li (nrm r).x0,li (nrm r).y0,li (nrm r).x1,li (nrm r).y1])∧True)) (by kernel_rfl)
 repeat' (first|exact trivial|with_reducible apply And.intro|(with_reducible apply HB.mk)|with_reducible intro _)
 all_goals first
  |(with_reducible exact Le.refl _)
  |(with_reducible rfl)
  |((with_reducible exact C28 ⟨_,_,_,_⟩ _))
  |((refine Le.of ?_;rw[nrm_t (by with_reducible assumption)];try rfl))
  |((refine Le.of ?_;rw[nrm_f (by with_reducible assumption)];try rfl))
theorem enters29:Enters Tryz.prog 29:=fun args w=>by go_simp
def cz_C29:Cz:={
 ct:=(fun f=>match f with
 |85=>some fun _ _S ar=>match ar with | [.c (.agg [.v (.int _ a0),.v (.int _ a1),.v (.int _ a2),.v (.int _ a3)])]=>some {v:=ag [li (nrm ⟨a0,a1,a2,a3⟩).x0,li (nrm ⟨a0,a1,a2,a3⟩).y0,li (nrm ⟨a0,a1,a2,a3⟩).x1,li (nrm ⟨a0,a1,a2,a3⟩).y1],rd:=[],wr:=[],nw:=0}|_=>none
 |_=>none)
 eq:=(fun t=>match t with
 |_=>none)
 raw:=[],sym:=[],nf:=[],ap:=true,off:=[],on:=[],lp:=fun _=>none,un:=0,wh:=[66]}
set_option maxRecDepth 100000 in
set_option maxHeartbeats 400000 in
theorem C29 (a b:R4)  (n:Nat):CallOK Tryz.prog 29 [ag [li a.x0,li a.y0,li a.x1,li a.y1],ag [li b.x0,li b.y0,li b.x1,li b.y1]] [] n (ag [li (isx a b).x0,li (isx a b).y0,li (isx a b).x1,li (isx a b).y1]) [] 0:=by
 refine CallOK.any ?_ (by kernel_rfl) (by kernel_rfl) n
 refine call_ok (cx:=cz_C29) (nm:=[]) rfl Tryz.func29 (body:=Tryz.f29.body.getD .skip) rfl enters29 (by kernel_rfl) ?_
 apply of_eq (q:=CallOKd Tryz.prog 85 [] [ag [li (imax a.x0 b.x0),li (imax a.y0 b.y0),li (imin a.x1 b.x1),li (imin a.y1 b.y1)]] [] 3 (ag [li (nrm (R4.mk (imax a.x0 b.x0) (imax a.y0 b.y0) (imin a.x1 b.x1) (imin a.y1 b.y1))).x0,li (nrm (R4.mk (imax a.x0 b.x0) (imax a.y0 b.y0) (imin a.x1 b.x1) (imin a.y1 b.y1))).y0,li (nrm (R4.mk (imax a.x0 b.x0) (imax a.y0 b.y0) (imin a.x1 b.x1) (imin a.y1 b.y1))).x1,li (nrm (R4.mk (imax a.x0 b.x0) (imax a.y0 b.y0) (imin a.x1 b.x1) (imin a.y1 b.y1))).y1]) [] 0∧0=0∧4=4∧Le (ag [li (nrm (R4.mk (imax a.x0 b.x0) (imax a.y0 b.y0) (imin a.x1 b.x1) (imin a.y1 b.y1))).x0,li (nrm (R4.mk (imax a.x0 b.x0) (imax a.y0 b.y0) (imin a.x1 b.x1) (imin a.y1 b.y1))).y0,li (nrm (R4.mk (imax a.x0 b.x0) (imax a.y0 b.y0) (imin a.x1 b.x1) (imin a.y1 b.y1))).x1,li (nrm (R4.mk (imax a.x0 b.x0) (imax a.y0 b.y0) (imin a.x1 b.x1) (imin a.y1 b.y1))).y1]) (ag [li (isx a b).x0,li (isx a b).y0,li (isx a b).x1,li (isx a b).y1])∧True) (by kernel_rfl)
 repeat' (first|exact trivial|with_reducible apply And.intro|(with_reducible apply HB.mk)|with_reducible intro _)
 all_goals first
  |(with_reducible rfl)
  |((with_reducible exact C85 ⟨_,_,_,_⟩ _))
  |(exact Le.of rfl)
  |(exact Le.of rfl)
theorem enters30:Enters Tryz.prog 30:=fun args w=>by go_simp
def cz_C30:Cz:={
 ct:=(fun f=>match f with
 |_=>none)
 eq:=(fun t=>match t with
 |_=>none)
 raw:=[],sym:=[],nf:=[],ap:=true,off:=[],on:=[],lp:=fun _=>none,un:=0,wh:=[66]}
set_option maxRecDepth 100000 in
set_option maxHeartbeats 400000 in
theorem C30 (x y:Int) (hx : -1000000≤x∧x≤1000000) (hy : -1000000≤y∧y≤1000000) (n:Nat):CallOK Tryz.prog 30 [ag [li x,li y]] [] n (ag [li (ofP x y).x0,li (ofP x y).y0,li (ofP x y).x1,li (ofP x y).y1]) [] 0:=by
 refine CallOK.any ?_ (by kernel_rfl) (by kernel_rfl) n
 refine call_ok (cx:=cz_C30) (nm:=[]) rfl Tryz.func30 (body:=Tryz.f30.body.getD .skip) rfl enters30 (by kernel_rfl) ?_
 apply of_eq (q:=IntKind.i64.wrap (8*x)=8*x∧IntKind.i64.wrap (8*y)=8*y∧IntKind.i64.wrap (8*x+8)=8*x+8∧IntKind.i64.wrap (8*y+8)=8*y+8∧0=0∧4=4∧Le (ag [li (8*x),li (8*y),li (8*x+8),li (8*y+8)]) (ag [li (ofP x y).x0,li (ofP x y).y0,li (ofP x y).x1,li (ofP x y).y1])∧True) (by kernel_rfl)
 repeat' (first|exact trivial|with_reducible apply And.intro|(with_reducible apply HB.mk)|with_reducible intro _)
 all_goals first
  |(with_reducible rfl)
  |((exact okw _ (by omega) (by omega)))
  |(exact Le.of rfl)
  |(exact Le.of rfl)
theorem enters82:Enters Tryz.prog 82:=fun args w=>by go_simp
def cz_C82:Cz:={
 ct:=(fun f=>match f with
 |28=>some fun _ _S ar=>match ar with | [.c (.agg [.v (.int _ a0),.v (.int _ a1),.v (.int _ a2),.v (.int _ a3)])]=>some {v:=bv (emp ⟨a0,a1,a2,a3⟩),rd:=[],wr:=[],nw:=0}|_=>none
 |29=>some fun _ _S ar=>match ar with | [.c (.agg [.v (.int _ a0),.v (.int _ a1),.v (.int _ a2),.v (.int _ a3)]),.c (.agg [.v (.int _ b0),.v (.int _ b1),.v (.int _ b2),.v (.int _ b3)])]=>some {v:=ag [li (isx ⟨a0,a1,a2,a3⟩ ⟨b0,b1,b2,b3⟩).x0,li (isx ⟨a0,a1,a2,a3⟩ ⟨b0,b1,b2,b3⟩).y0,li (isx ⟨a0,a1,a2,a3⟩ ⟨b0,b1,b2,b3⟩).x1,li (isx ⟨a0,a1,a2,a3⟩ ⟨b0,b1,b2,b3⟩).y1],rd:=[],wr:=[],nw:=0}|_=>none
 |30=>some fun _ _S ar=>match ar with | [.c (.agg [.v (.int _ X),.v (.int _ Y)])]=>some {v:=ag [li (ofP X Y).x0,li (ofP X Y).y0,li (ofP X Y).x1,li (ofP X Y).y1],rd:=[],wr:=[],nw:=0}|_=>none
 |_=>none)
 eq:=(fun t=>match t with
 |_=>none)
 raw:=[],sym:=[],nf:=[],ap:=true,off:=[],on:=[],lp:=fun _=>none,un:=0}
set_option maxRecDepth 100000 in
set_option maxHeartbeats 400000 in
theorem C82 (c:R4) (x y:Int) (hx : -1000000≤x∧x≤1000000) (hy : -1000000≤y∧y≤1000000):CallOK Tryz.prog 82 [ag [li x,li y],.c (.l (.p 0 0))] [(0,⟨[li c.x0,li c.y0,li c.x1,li c.y1],.t 66⟩)] 1 (bv (wR c x y)) [] 0:=by
 refine call_ok (cx:=cz_C82) (nm:=[]) rfl Tryz.func82 (body:=Tryz.f82.body.getD .skip) rfl enters82 (by kernel_rfl) ?_
 apply of_eq (q:=CallOKd Tryz.prog 30 [] [ag [li x,li y]] [] 2 (ag [li (ofP x y).x0,li (ofP x y).y0,li (ofP x y).x1,li (ofP x y).y1]) [] 0∧CallOKd Tryz.prog 29 [] [ag [li (ofP x y).x0,li (ofP x y).y0,li (ofP x y).x1,li (ofP x y).y1],ag [li c.x0,li c.y0,li c.x1,li c.y1]] [] 2 (ag [li (isx (ofP x y) c).x0,li (isx (ofP x y) c).y0,li (isx (ofP x y) c).x1,li (isx (ofP x y) c).y1]) [] 0∧CallOKd Tryz.prog 28 [] [ag [li (isx (ofP x y) c).x0,li (isx (ofP x y) c).y0,li (isx (ofP x y) c).x1,li (isx (ofP x y) c).y1]] [] 2 (bv (emp (isx (ofP x y) c))) [] 0∧Le (bv !emp (isx (ofP x y) c)) (bv (wR c x y))∧True) (by kernel_rfl)
 repeat' (first|exact trivial|with_reducible apply And.intro|(with_reducible apply HB.mk)|with_reducible intro _)
 all_goals first
  |((with_reducible exact C28 ⟨_,_,_,_⟩ _))
  |((with_reducible exact C29 ⟨_,_,_,_⟩ ⟨_,_,_,_⟩ _))
  |(((with_reducible refine C30 _ _ ?_ ?_ _)<;>omega))
  |(exact Le.bool rfl)
theorem C82g (c:R4) (x y:Int) (hx : -1000000≤x∧x≤1000000) (hy : -1000000≤y∧y≤1000000) (id n:Nat) (hi:id<n):CallOK Tryz.prog 82 [ag [li x,li y],.c (.l (.p id 0))] [(id,⟨[li c.x0,li c.y0,li c.x1,li c.y1],.t 66⟩)] n (bv (wR c x y)) [] 0:=CallOK.at1 (C82 c x y hx hy) id n hi
end Ab
end Go.Proofs.YtpdckpifhniioaaGreat
end
