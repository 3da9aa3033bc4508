/- Part 21 of what CodecLocal rests on. -/
import Derived.Test.YtpdckpifhniioaaGreatPt
section
set_option linter.unusedVariables false
set_option linter.unusedSimpArgs false
namespace Go.Proofs.YtpdckpifhniioaaGreat
open Go.RowKit
namespace Ab
attribute [local irreducible] CallOKd
def okP (L:List EN) (w:Int→Int→Bool) (j:Nat):Bool:=bif w (ea L j).X (ea L j).Y then !(dcE (ea L j) != 0) else true
def smL (L:List EN) (w:Int→Int→Bool):Nat→List TA
 |0=>[]
 |k+1=>bif w (ea L k).X (ea L k).Y then smL L w k++[⟨(ea L k).X,(ea L k).Y,dcT (ea L k)⟩] else smL L w k
def smC (L:List EN) (w:Int→Int→Bool):Nat→Int
 |0=>0
 |k+1=>bif w (ea L k).X (ea L k).Y then smC L w k+1 else smC L w k
def dNz (e:EN):Bool:=stB e.blob (dcE e != 0)
theorem dNz_eq (e:EN):(dcE e != 0)=dNz e:=(stB_eq _ _).symm
section
variable {L:List EN} {w:Int→Int→Bool} {k:Nat}
theorem sm_skip (h:(!w (ea L k).X (ea L k).Y)=true):smL L w (k+1)=smL L w k∧smC L w (k+1)=smC L w k∧okP L w k=true:=by
 have h:w (ea L k).X (ea L k).Y=false:=not_f h
 unfold okP
 rw[smL,smC,h];exact ⟨rfl,rfl,rfl⟩
theorem sm_keep (h:(!w (ea L k).X (ea L k).Y)=false):smL L w (k+1)=smL L w k++[⟨(ea L k).X,(ea L k).Y,dcT (ea L k)⟩]∧smC L w (k+1)=smC L w k+1:=by
 have h:w (ea L k).X (ea L k).Y=true:=not_t h
 rw[smL,smC,h];exact ⟨rfl,rfl⟩
theorem sm_ok (h:(!w (ea L k).X (ea L k).Y)=false) (h':dNz (ea L k)=false):okP L w k=true:=by
 have h:w (ea L k).X (ea L k).Y=true:=not_t h
 unfold okP
 rw[h,dNz_eq,h'];rfl
theorem sm_bad (h:(!w (ea L k).X (ea L k).Y)=false) (h':dNz (ea L k)=true):okP L w k=false:=by
 have h:w (ea L k).X (ea L k).Y=true:=not_t h
 unfold okP
 rw[h,dNz_eq,h'];rfl
theorem sm_rows (h:(!w (ea L k).X (ea L k).Y)=false):rws (smL L w k)++el ⟨(ea L k).X,(ea L k).Y,dcT (ea L k)⟩=rws (smL L w (k+1))∧(smL L w k).length+1=(smL L w (k+1)).length:=by
 rw[(sm_keep h).1,rws_append,rws_one,List.length_append]
 exact ⟨rfl,rfl⟩
end
theorem smL_len (L:List EN) (w:Int→Int→Bool):∀k,(smL L w k).length≤k
 |0=>Nat.le_refl _
 |k+1=>by
  have:=smL_len L w k
  rw[smL]
  cases w (ea L k).X (ea L k).Y
  ·exact Nat.le_succ_of_le this
  ·show (smL L w k++_).length≤_
   rw[List.length_append];exact Nat.add_le_add_right this 1
theorem smC_bd (L:List EN) (w:Int→Int→Bool):∀k,0≤smC L w k∧smC L w k≤k
 |0=>⟨Int.le_refl _,Int.le_refl _⟩
 |k+1=>by
  have:=smC_bd L w k
  rw[smC]
  cases w (ea L k).X (ea L k).Y
  ·show 0≤smC L w k∧smC L w k≤_;omega
  ·show 0≤smC L w k+1∧smC L w k+1≤_;omega
theorem en_pos2 (e:EN):List.take 2 (en e)=[li e.X,li e.Y]:=rfl
theorem apB42 {need:Nat} (k:need*273≤140737488355328):ApB Tryz.prog 42 need:=apB (bytes:=272) (by kernel_rfl) k
attribute [local irreducible] tl rws
def wAll (x y:Int):Bool:=true
theorem enters81:Enters Tryz.prog 81:=fun args w=>by go_simp
def cz_C81:Cz:={
 ct:=(fun f=>match f with
 |_=>none)
 eq:=(fun t=>match t with
 |_=>none)
 raw:=[],sym:=[],nf:=[],ap:=true,off:=[],on:=[],lp:=fun _=>none,un:=0}
set_option maxRecDepth 100000 in
set_option maxHeartbeats 400000 in
theorem C81 (x y:Int)  (n:Nat):CallOK Tryz.prog 81 [ag [li x,li y]] [] n (bv (wAll x y)) [] 0:=by
 refine CallOK.any ?_ (by kernel_rfl) (by kernel_rfl) n
 refine call_ok (cx:=cz_C81) (nm:=[]) rfl Tryz.func81 (body:=Tryz.f81.body.getD .skip) rfl enters81 (by kernel_rfl) ?_
 apply of_eq (q:=Le (bv true) (bv (wAll x y))∧True) (by kernel_rfl)
 repeat' (first|exact trivial|with_reducible apply And.intro|(with_reducible apply HB.mk)|with_reducible intro _)
 all_goals first
  |(exact Le.bool rfl)
def I80a (L:List EN) (d:Int) (k:Nat):St:=⟨[(19,iv .i64 (k:Nat)),(18,iv .i64 (L.length:Nat)),(17,.c (.l (.o 1 L.length))),(0,.c (.l (.p 0 0))),(1,.c (.l (.f 81 []))),(4,.c (.l (.p 2 0))),(6,.c (.l (.p 3 0)))],[(0,some ⟨[.o 1 L.length,li (d+(smC L wAll k))],.t 125⟩),(1,some ⟨ens L,.r 123 8 1⟩),(2,some ⟨[.v (.slice none 0 0)],.t 26⟩),(3,some ⟨[.o 4 (smL L wAll k).length],.t 26⟩),(4,some ⟨rws (smL L wAll k),.r 42 258 4⟩)],5,49,[4,3,2,0],(2)⟩
def Q80a (L:List EN) (d:Int) (k:Nat):St:=⟨[(4,.c (.l (.p 2 0))),(5,iv .i64 (dcE (ea L k)))],[(0,some ⟨[.o 1 L.length,li (d+((smC L wAll k)+1))],.t 125⟩),(2,some ⟨[.v (.slice none 0 0)],.t 26⟩)],5,49,[4,3,2,0],(2)⟩
def cz_R80a (L:List EN) (d:Int) (k:Nat):Cz:={
 ct:=(fun f=>match f with
 |79=>some fun _ _S ar=>match ar with | [.c (.l (.p i _)),.c (.agg _)]=>some {v:=.tup [.agg (tl (dcT (ea L k))),.l (li (dcE (ea L k)))],rd:=[i],wr:=[(i,⟨[.o 1 L.length,li (d+(smC L wAll k)+1)],.t 125⟩)],nw:=0}|_=>none
 |81=>some fun _ap _S ar=>match _ap,ar with
  |_,[.c (.agg [.v (.int _ x),.v (.int _ y)])]=>some {v:=bv (wAll x y),rd:=[],wr:=[],nw:=0,dc:=[]}
  |_,_=>none
 |_=>none)
 eq:=(fun t=>match t with
 |_=>none)
 raw:=[],sym:=[21,22,45],nf:=[(22,.c (.agg (en (ea L k)))),(25,.c (.agg [li (ea L k).X,li (ea L k).Y])),(41,.c (.agg [li (ea L k).X,li (ea L k).Y])),(27,bv (!(wAll (ea L k).X (ea L k).Y))),(30,.c (.agg (en (ea L k)))),(32,.c (.agg (tl (dcT (ea L k))))),(35,bv (dNz (ea L k))),(42,.c (.agg (tl (dcT (ea L k))))),(43,.c (.agg (el ⟨(ea L k).X,(ea L k).Y,dcT (ea L k)⟩)))],ap:=true,off:=[],on:=[],lp:=fun _=>none,un:=0,wh:=[38,123]}
set_option maxRecDepth 100000 in
theorem R80a (L:List EN) (d:Int) (k:Nat)  (K:Exit→St→Prop) (h:HB (decide ((Nat.cast k:Int)<(Nat.cast L.length:Int))) (InR ((Nat.cast k:Int)) L.length∧((Nat.cast k:Int)).toNat*8+8≤(ens L).length∧Le (ag (List.take 8 (List.drop (((Nat.cast k:Int)).toNat*8) (ens L)))) (ag (en (ea L k)))∧0=0∧8=8∧Le (ag (List.take 2 (en (ea L k)))) (ag [li (ea L k).X,li (ea L k).Y])∧CallOKd Tryz.prog 81 [] [ag [li (ea L k).X,li (ea L k).Y]] [] 6 (bv (wAll (ea L k).X (ea L k).Y)) [] 0∧Le (bv !wAll (ea L k).X (ea L k).Y) (bv !wAll (ea L k).X (ea L k).Y)∧HB (!wAll (ea L k).X (ea L k).Y) (IntKind.i64.wrap ((Nat.cast k:Int)+1)=(Nat.cast k:Int)+1∧RoundTo Tryz.prog ((getLoop 5 (Tryz.f80.body.getD Code.skip)).getD Code.skip) 5 (wkK 5 K) (St.mk [(0,SV.c (Cp.l (Leaf.p 0 0))),(1,SV.c (Cp.l (Leaf.f 81 []))),(4,SV.c (Cp.l (Leaf.p 2 0))),(5,SV.u),(6,SV.c (Cp.l (Leaf.p 3 0))),(17,SV.c (Cp.l (Leaf.o 1 L.length))),(18,iv IntKind.i64 (Nat.cast L.length:Int)),(19,iv IntKind.i64 ((Nat.cast k:Int)+1))] [(0,some (Blk.mk [Leaf.o 1 L.length,li (d+smC L wAll k)] (BT.t 125))),(1,some (Blk.mk (ens L) (BT.r 123 8 1))),(2,some (Blk.mk [Leaf.v (Value.slice none 0 0)] (BT.t 26))),(3,some (Blk.mk [Leaf.o 4 (smL L wAll k).length] (BT.t 26))),(4,some (Blk.mk (rws (smL L wAll k)) (BT.r 42 258 4))),(5,some (Blk.mk (en (ea L k)) (BT.t 123))),(6,none),(7,none),(8,none)] 6 49 [5,5,4,3,2,0] 2)) (Le (ag (List.take 8 (en (ea L k)))) (ag (en (ea L k)))∧CallOKd Tryz.prog 79 [] [SV.c (Cp.l (Leaf.p 0 0)),ag (en (ea L k))] [(0,Blk.mk [Leaf.o 1 L.length,li (d+smC L wAll k)] (BT.t 125))] 6 (SV.tup [Cp.agg (tl (dcT (ea L k))),Cp.l (li (dcE (ea L k)))]) [(0,Blk.mk [Leaf.o 1 L.length,li (d+smC L wAll k+1)] (BT.t 125))] 0∧Le (ag (tl (dcT (ea L k)))) (ag (tl (dcT (ea L k))))∧0=0∧256=256∧Le (bv (dcE (ea L k) != 0)) (bv (dNz (ea L k)))∧HB (dNz (ea L k)) (wkK 5 K Exit.ret (St.mk [(0,SV.c (Cp.l (Leaf.p 0 0))),(1,SV.c (Cp.l (Leaf.f 81 []))),(4,SV.c (Cp.l (Leaf.p 2 0))),(5,iv IntKind.i64 (dcE (ea L k))),(6,SV.c (Cp.l (Leaf.p 3 0))),(17,SV.c (Cp.l (Leaf.o 1 L.length))),(18,iv IntKind.i64 (Nat.cast L.length:Int)),(19,iv IntKind.i64 (Nat.cast k:Int))] [(0,some (Blk.mk [Leaf.o 1 L.length,li (d+smC L wAll k+1)] (BT.t 125))),(1,some (Blk.mk (ens L) (BT.r 123 8 1))),(2,some (Blk.mk [Leaf.v (Value.slice none 0 0)] (BT.t 26))),(3,some (Blk.mk [Leaf.o 4 (smL L wAll k).length] (BT.t 26))),(4,some (Blk.mk (rws (smL L wAll k)) (BT.r 42 258 4))),(5,some (Blk.mk (en (ea L k)) (BT.t 123))),(6,some (Blk.mk (tl (dcT (ea L k))) (BT.t 38))),(7,none),(8,none)] 7 49 [2,6,6,0,5,5,4,3,2,0] 2)) ((Le (ag (List.take 2 (en (ea L k)))) (ag [li (ea L k).X,li (ea L k).Y])∧Le (ag (List.take 256 (tl (dcT (ea L k))))) (ag (tl (dcT (ea L k))))∧Le (ag (splice [li (ea L k).X,li (ea L k).Y,Leaf.v (Value.int IntKind.u8 0),Leaf.v (Value.int IntKind.u8 0),Leaf.v (Value.int IntKind.u8 0),Leaf.v (Value.int IntKind.u8 0),Leaf.v (Value.int IntKind.u8 0),Leaf.v (Value.int IntKind.u8 0),Leaf.v (Value.int IntKind.u8 0),Leaf.v (Value.int IntKind.u8 0),Leaf.v (Value.int IntKind.u8 0),Leaf.v (Value.int IntKind.u8 0),Leaf.v (Value.int IntKind.u8 0),Leaf.v (Value.int IntKind.u8 0),Leaf.v (Value.int IntKind.u8 0),Leaf.v (Value.int IntKind.u8 0),Leaf.v (Value.int IntKind.u8 0),Leaf.v (Value.int IntKind.u8 0),Leaf.v (Value.int IntKind.u8 0),Leaf.v (Value.int IntKind.u8 0),Leaf.v (Value.int IntKind.u8 0),Leaf.v (Value.int IntKind.u8 0),Leaf.v (Value.int IntKind.u8 0),Leaf.v (Value.int IntKind.u8 0),Leaf.v (Value.int IntKind.u8 0),Leaf.v (Value.int IntKind.u8 0),Leaf.v (Value.int IntKind.u8 0),Leaf.v (Value.int IntKind.u8 0),Leaf.v (Value.int IntKind.u8 0),Leaf.v (Value.int IntKind.u8 0),Leaf.v (Value.int IntKind.u8 0),Leaf.v (Value.int IntKind.u8 0),Leaf.v (Value.int IntKind.u8 0),Leaf.v (Value.int IntKind.u8 0),Leaf.v (Value.int IntKind.u8 0),Leaf.v (Value.int IntKind.u8 0),Leaf.v (Value.int IntKind.u8 0),Leaf.v (Value.int IntKind.u8 0),Leaf.v (Value.int IntKind.u8 0),Leaf.v (Value.int IntKind.u8 0),Leaf.v (Value.int IntKind.u8 0),Leaf.v (Value.int IntKind.u8 0),Leaf.v (Value.int IntKind.u8 0),Leaf.v (Value.int IntKind.u8 0),Leaf.v (Value.int IntKind.u8 0),Leaf.v (Value.int IntKind.u8 0),Leaf.v (Value.int IntKind.u8 0),Leaf.v (Value.int IntKind.u8 0),Leaf.v (Value.int IntKind.u8 0),Leaf.v (Value.int IntKind.u8 0),Leaf.v (Value.int IntKind.u8 0),Leaf.v (Value.int IntKind.u8 0),Leaf.v (Value.int IntKind.u8 0),Leaf.v (Value.int IntKind.u8 0),Leaf.v (Value.int IntKind.u8 0),Leaf.v (Value.int IntKind.u8 0),Leaf.v (Value.int IntKind.u8 0),Leaf.v (Value.int IntKind.u8 0),Leaf.v (Value.int IntKind.u8 0),Leaf.v (Value.int IntKind.u8 0),Leaf.v (Value.int IntKind.u8 0),Leaf.v (Value.int IntKind.u8 0),Leaf.v (Value.int IntKind.u8 0),Leaf.v (Value.int IntKind.u8 0),Leaf.v (Value.int IntKind.u8 0),Leaf.v (Value.int IntKind.u8 0),Leaf.v (Value.int IntKind.u8 0),Leaf.v (Value.int IntKind.u8 0),Leaf.v (Value.int IntKind.u8 0),Leaf.v (Value.int IntKind.u8 0),Leaf.v (Value.int IntKind.u8 0),Leaf.v (Value.int IntKind.u8 0),Leaf.v (Value.int IntKind.u8 0),Leaf.v (Value.int IntKind.u8 0),Leaf.v (Value.int IntKind.u8 0),Leaf.v (Value.int IntKind.u8 0),Leaf.v (Value.int IntKind.u8 0),Leaf.v (Value.int IntKind.u8 0),Leaf.v (Value.int IntKind.u8 0),Leaf.v (Value.int IntKind.u8 0),Leaf.v (Value.int IntKind.u8 0),Leaf.v (Value.int IntKind.u8 0),Leaf.v (Value.int IntKind.u8 0),Leaf.v (Value.int IntKind.u8 0),Leaf.v (Value.int IntKind.u8 0),Leaf.v (Value.int IntKind.u8 0),Leaf.v (Value.int IntKind.u8 0),Leaf.v (Value.int IntKind.u8 0),Leaf.v (Value.int IntKind.u8 0),Leaf.v (Value.int IntKind.u8 0),Leaf.v (Value.int IntKind.u8 0),Leaf.v (Value.int IntKind.u8 0),Leaf.v (Value.int IntKind.u8 0),Leaf.v (Value.int IntKind.u8 0),Leaf.v (Value.int IntKind.u8 0),Leaf.v (Value.int IntKind.u8 0),Leaf.v (Value.int IntKind.u8 0),Leaf.v (Value.int IntKind.u8 0),Leaf.v (Value.int IntKind.u8 0),Leaf.v (Value.int IntKind.u8 0),Leaf.v (Value.int IntKind.u8 0),Leaf.v (Value.int IntKind.u8 0),Leaf.v (Value.int IntKind.u8 0),Leaf.v (Value.int IntKind.u8 0),Leaf.v (Value.int IntKind.u8 0),Leaf.v (Value.int IntKind.u8 0),Leaf.v (Value.int IntKind.u8 0),Leaf.v (Value.int IntKind.u8 0),Leaf.v (Value.int IntKind.u8 0),Leaf.v (Value.int IntKind.u8 0),Leaf.v (Value.int IntKind.u8 0),Leaf.v (Value.int IntKind.u8 0),Leaf.v (Value.int IntKind.u8 0),Leaf.v (Value.int IntKind.u8 0),Leaf.v (Value.int IntKind.u8 0),Leaf.v (Value.int IntKind.u8 0),Leaf.v (Value.int IntKind.u8 0),Leaf.v (Value.int IntKind.u8 0),Leaf.v (Value.int IntKind.u8 0),Leaf.v (Value.int IntKind.u8 0),Leaf.v (Value.int IntKind.u8 0),Leaf.v (Value.int IntKind.u8 0),Leaf.v (Value.int IntKind.u8 0),Leaf.v (Value.int IntKind.u8 0),Leaf.v (Value.int IntKind.u8 0),Leaf.v (Value.int IntKind.u8 0),Leaf.v (Value.int IntKind.u8 0),Leaf.v (Value.int IntKind.u8 0),Leaf.v (Value.int IntKind.u8 0),Leaf.v (Value.int IntKind.u8 0),Leaf.v (Value.int IntKind.u8 0),Leaf.v (Value.int IntKind.u8 0),Leaf.v (Value.int IntKind.u8 0),Leaf.v (Value.int IntKind.u8 0),Leaf.v (Value.int IntKind.u8 0),Leaf.v (Value.int IntKind.u8 0),Leaf.v (Value.int IntKind.u8 0),Leaf.v (Value.int IntKind.u8 0),Leaf.v (Value.int IntKind.u8 0),Leaf.v (Value.int IntKind.u8 0),Leaf.v (Value.int IntKind.u8 0),Leaf.v (Value.int IntKind.u8 0),Leaf.v (Value.int IntKind.u8 0),Leaf.v (Value.int IntKind.u8 0),Leaf.v (Value.int IntKind.u8 0),Leaf.v (Value.int IntKind.u8 0),Leaf.v (Value.int IntKind.u8 0),Leaf.v (Value.int IntKind.u8 0),Leaf.v (Value.int IntKind.u8 0),Leaf.v (Value.int IntKind.u8 0),Leaf.v (Value.int IntKind.u8 0),Leaf.v (Value.int IntKind.u8 0),Leaf.v (Value.int IntKind.u8 0),Leaf.v (Value.int IntKind.u8 0),Leaf.v (Value.int IntKind.u8 0),Leaf.v (Value.int IntKind.u8 0),Leaf.v (Value.int IntKind.u8 0),Leaf.v (Value.int IntKind.u8 0),Leaf.v (Value.int IntKind.u8 0),Leaf.v (Value.int IntKind.u8 0),Leaf.v (Value.int IntKind.u8 0),Leaf.v (Value.int IntKind.u8 0),Leaf.v (Value.int IntKind.u8 0),Leaf.v (Value.int IntKind.u8 0),Leaf.v (Value.int IntKind.u8 0),Leaf.v (Value.int IntKind.u8 0),Leaf.v (Value.int IntKind.u8 0),Leaf.v (Value.int IntKind.u8 0),Leaf.v (Value.int IntKind.u8 0),Leaf.v (Value.int IntKind.u8 0),Leaf.v (Value.int IntKind.u8 0),Leaf.v (Value.int IntKind.u8 0),Leaf.v (Value.int IntKind.u8 0),Leaf.v (Value.int IntKind.u8 0),Leaf.v (Value.int IntKind.u8 0),Leaf.v (Value.int IntKind.u8 0),Leaf.v (Value.int IntKind.u8 0),Leaf.v (Value.int IntKind.u8 0),Leaf.v (Value.int IntKind.u8 0),Leaf.v (Value.int IntKind.u8 0),Leaf.v (Value.int IntKind.u8 0),Leaf.v (Value.int IntKind.u8 0),Leaf.v (Value.int IntKind.u8 0),Leaf.v (Value.int IntKind.u8 0),Leaf.v (Value.int IntKind.u8 0),Leaf.v (Value.int IntKind.u8 0),Leaf.v (Value.int IntKind.u8 0),Leaf.v (Value.int IntKind.u8 0),Leaf.v (Value.int IntKind.u8 0),Leaf.v (Value.int IntKind.u8 0),Leaf.v (Value.int IntKind.u8 0),Leaf.v (Value.int IntKind.u8 0),Leaf.v (Value.int IntKind.u8 0),Leaf.v (Value.int IntKind.u8 0),Leaf.v (Value.int IntKind.u8 0),Leaf.v (Value.int IntKind.u8 0),Leaf.v (Value.int IntKind.u8 0),Leaf.v (Value.int IntKind.u8 0),Leaf.v (Value.int IntKind.u8 0),Leaf.v (Value.int IntKind.u8 0),Leaf.v (Value.int IntKind.u8 0),Leaf.v (Value.int IntKind.u8 0),Leaf.v (Value.int IntKind.u8 0),Leaf.v (Value.int IntKind.u8 0),Leaf.v (Value.int IntKind.u8 0),Leaf.v (Value.int IntKind.u8 0),Leaf.v (Value.int IntKind.u8 0),Leaf.v (Value.int IntKind.u8 0),Leaf.v (Value.int IntKind.u8 0),Leaf.v (Value.int IntKind.u8 0),Leaf.v (Value.int IntKind.u8 0),Leaf.v (Value.int IntKind.u8 0),Leaf.v (Value.int IntKind.u8 0),Leaf.v (Value.int IntKind.u8 0),Leaf.v (Value.int IntKind.u8 0),Leaf.v (Value.int IntKind.u8 0),Leaf.v (Value.int IntKind.u8 0),Leaf.v (Value.int IntKind.u8 0),Leaf.v (Value.int IntKind.u8 0),Leaf.v (Value.int IntKind.u8 0),Leaf.v (Value.int IntKind.u8 0),Leaf.v (Value.int IntKind.u8 0),Leaf.v (Value.int IntKind.u8 0),Leaf.v (Value.int IntKind.u8 0),Leaf.v (Value.int IntKind.u8 0),Leaf.v (Value.int IntKind.u8 0),Leaf.v (Value.int IntKind.u8 0),Leaf.v (Value.int IntKind.u8 0),Leaf.v (Value.int IntKind.u8 0),Leaf.v (Value.int IntKind.u8 0),Leaf.v (Value.int IntKind.u8 0),Leaf.v (Value.int IntKind.u8 0),Leaf.v (Value.int IntKind.u8 0),Leaf.v (Value.int IntKind.u8 0),Leaf.v (Value.int IntKind.u8 0),Leaf.v (Value.int IntKind.u8 0),Leaf.v (Value.int IntKind.u8 0),Leaf.v (Value.int IntKind.u8 0),Leaf.v (Value.int IntKind.u8 0),Leaf.v (Value.int IntKind.u8 0),Leaf.v (Value.int IntKind.u8 0),Leaf.v (Value.int IntKind.u8 0),Leaf.v (Value.int IntKind.u8 0),Leaf.v (Value.int IntKind.u8 0),Leaf.v (Value.int IntKind.u8 0),Leaf.v (Value.int IntKind.u8 0),Leaf.v (Value.int IntKind.u8 0),Leaf.v (Value.int IntKind.u8 0),Leaf.v (Value.int IntKind.u8 0),Leaf.v (Value.int IntKind.u8 0),Leaf.v (Value.int IntKind.u8 0),Leaf.v (Value.int IntKind.u8 0),Leaf.v (Value.int IntKind.u8 0),Leaf.v (Value.int IntKind.u8 0),Leaf.v (Value.int IntKind.u8 0),Leaf.v (Value.int IntKind.u8 0),Leaf.v (Value.int IntKind.u8 0),Leaf.v (Value.int IntKind.u8 0)] 2 (tl (dcT (ea L k))))) (ag (el (TA.mk (ea L k).X (ea L k).Y (dcT (ea L k)))))∧(rws (smL L wAll k)).length=(smL L wAll k).length*258∧258=258∧IntKind.i64.wrap ((Nat.cast k:Int)+1)=(Nat.cast k:Int)+1∧RoundTo Tryz.prog ((getLoop 5 (Tryz.f80.body.getD Code.skip)).getD Code.skip) 5 (wkK 5 K) (St.mk [(0,SV.c (Cp.l (Leaf.p 0 0))),(1,SV.c (Cp.l (Leaf.f 81 []))),(4,SV.c (Cp.l (Leaf.p 2 0))),(5,SV.u),(6,SV.c (Cp.l (Leaf.p 3 0))),(17,SV.c (Cp.l (Leaf.o 1 L.length))),(18,iv IntKind.i64 (Nat.cast L.length:Int)),(19,iv IntKind.i64 ((Nat.cast k:Int)+1))] [(0,some (Blk.mk [Leaf.o 1 L.length,li (d+smC L wAll k+1)] (BT.t 125))),(1,some (Blk.mk (ens L) (BT.r 123 8 1))),(2,some (Blk.mk [Leaf.v (Value.slice none 0 0)] (BT.t 26))),(3,some (Blk.mk [Leaf.o 4 ((smL L wAll k).length+1)] (BT.t 26))),(4,some (Blk.mk (rws (smL L wAll k)++splice zA258 0 (el (TA.mk (ea L k).X (ea L k).Y (dcT (ea L k))))) (BT.r 42 258 4))),(5,some (Blk.mk (en (ea L k)) (BT.t 123))),(6,some (Blk.mk (tl (dcT (ea L k))) (BT.t 38))),(7,some (Blk.mk (splice zA258 0 (el (TA.mk (ea L k).X (ea L k).Y (dcT (ea L k))))) (BT.r 42 258 7))),(8,none)] 8 49 [3,4,7,6,6,0,5,5,4,3,2,0] 2))∧Le (ag (List.take 2 (en (ea L k)))) (ag [li (ea L k).X,li (ea L k).Y])∧Le (ag (List.take 256 (tl (dcT (ea L k))))) (ag (tl (dcT (ea L k))))∧Le (ag (splice [li (ea L k).X,li (ea L k).Y,Leaf.v (Value.int IntKind.u8 0),Leaf.v (Value.int IntKind.u8 0),Leaf.v (Value.int IntKind.u8 0),Leaf.v (Value.int IntKind.u8 0),Leaf.v (Value.int IntKind.u8 0),Leaf.v (Value.int IntKind.u8 0),Leaf.v (Value.int IntKind.u8 0),Leaf.v (Value.int IntKind.u8 0),Leaf.v (Value.int IntKind.u8 0),Leaf.v (Value.int IntKind.u8 0),Leaf.v (Value.int IntKind.u8 0),Leaf.v (Value.int IntKind.u8 0),Leaf.v (Value.int IntKind.u8 0),Leaf.v (Value.int IntKind.u8 0),Leaf.v (Value.int IntKind.u8 0),Leaf.v (Value.int IntKind.u8 0),Leaf.v (Value.int IntKind.u8 0),Leaf.v (Value.int IntKind.u8 0),Leaf.v (Value.int IntKind.u8 0),Leaf.v (Value.int IntKind.u8 0),Leaf.v (Value.int IntKind.u8 0),Leaf.v (Value.int IntKind.u8 0),Leaf.v (Value.int IntKind.u8 0),Leaf.v (Value.int IntKind.u8 0),Leaf.v (Value.int IntKind.u8 0),Leaf.v (Value.int IntKind.u8 0),Leaf.v (Value.int IntKind.u8 0),Leaf.v (Value.int IntKind.u8 0),Leaf.v (Value.int IntKind.u8 0),Leaf.v (Value.int IntKind.u8 0),Leaf.v (Value.int IntKind.u8 0),Leaf.v (Value.int IntKind.u8 0),Leaf.v (Value.int IntKind.u8 0),Leaf.v (Value.int IntKind.u8 0),Leaf.v (Value.int IntKind.u8 0),Leaf.v (Value.int IntKind.u8 0),Leaf.v (Value.int IntKind.u8 0),Leaf.v (Value.int IntKind.u8 0),Leaf.v (Value.int IntKind.u8 0),Leaf.v (Value.int IntKind.u8 0),Leaf.v (Value.int IntKind.u8 0),Leaf.v (Value.int IntKind.u8 0),Leaf.v (Value.int IntKind.u8 0),Leaf.v (Value.int IntKind.u8 0),Leaf.v (Value.int IntKind.u8 0),Leaf.v (Value.int IntKind.u8 0),Leaf.v (Value.int IntKind.u8 0),Leaf.v (Value.int IntKind.u8 0),Leaf.v (Value.int IntKind.u8 0),Leaf.v (Value.int IntKind.u8 0),Leaf.v (Value.int IntKind.u8 0),Leaf.v (Value.int IntKind.u8 0),Leaf.v (Value.int IntKind.u8 0),Leaf.v (Value.int IntKind.u8 0),Leaf.v (Value.int IntKind.u8 0),Leaf.v (Value.int IntKind.u8 0),Leaf.v (Value.int IntKind.u8 0),Leaf.v (Value.int IntKind.u8 0),Leaf.v (Value.int IntKind.u8 0),Leaf.v (Value.int IntKind.u8 0),Leaf.v (Value.int IntKind.u8 0),Leaf.v (Value.int IntKind.u8 0),Leaf.v (Value.int IntKind.u8 0),Leaf.v (Value.int IntKind.u8 0),Leaf.v (Value.int IntKind.u8 0),Leaf.v (Value.int IntKind.u8 0),Leaf.v (Value.int IntKind.u8 0),Leaf.v (Value.int IntKind.u8 0),Leaf.v (Value.int IntKind.u8 0),Leaf.v (Value.int IntKind.u8 0),Leaf.v (Value.int IntKind.u8 0),Leaf.v (Value.int IntKind.u8 0),Leaf.v (Value.int IntKind.u8 0),Leaf.v (Value.int IntKind.u8 0),Leaf.v (Value.int IntKind.u8 0),Leaf.v (Value.int IntKind.u8 0),Leaf.v (Value.int IntKind.u8 0),Leaf.v (Value.int IntKind.u8 0),Leaf.v (Value.int IntKind.u8 0),Leaf.v (Value.int IntKind.u8 0),Leaf.v (Value.int IntKind.u8 0),Leaf.v (Value.int IntKind.u8 0),Leaf.v (Value.int IntKind.u8 0),Leaf.v (Value.int IntKind.u8 0),Leaf.v (Value.int IntKind.u8 0),Leaf.v (Value.int IntKind.u8 0),Leaf.v (Value.int IntKind.u8 0),Leaf.v (Value.int IntKind.u8 0),Leaf.v (Value.int IntKind.u8 0),Leaf.v (Value.int IntKind.u8 0),Leaf.v (Value.int IntKind.u8 0),Leaf.v (Value.int IntKind.u8 0),Leaf.v (Value.int IntKind.u8 0),Leaf.v (Value.int IntKind.u8 0),Leaf.v (Value.int IntKind.u8 0),Leaf.v (Value.int IntKind.u8 0),Leaf.v (Value.int IntKind.u8 0),Leaf.v (Value.int IntKind.u8 0),Leaf.v (Value.int IntKind.u8 0),Leaf.v (Value.int IntKind.u8 0),Leaf.v (Value.int IntKind.u8 0),Leaf.v (Value.int IntKind.u8 0),Leaf.v (Value.int IntKind.u8 0),Leaf.v (Value.int IntKind.u8 0),Leaf.v (Value.int IntKind.u8 0),Leaf.v (Value.int IntKind.u8 0),Leaf.v (Value.int IntKind.u8 0),Leaf.v (Value.int IntKind.u8 0),Leaf.v (Value.int IntKind.u8 0),Leaf.v (Value.int IntKind.u8 0),Leaf.v (Value.int IntKind.u8 0),Leaf.v (Value.int IntKind.u8 0),Leaf.v (Value.int IntKind.u8 0),Leaf.v (Value.int IntKind.u8 0),Leaf.v (Value.int IntKind.u8 0),Leaf.v (Value.int IntKind.u8 0),Leaf.v (Value.int IntKind.u8 0),Leaf.v (Value.int IntKind.u8 0),Leaf.v (Value.int IntKind.u8 0),Leaf.v (Value.int IntKind.u8 0),Leaf.v (Value.int IntKind.u8 0),Leaf.v (Value.int IntKind.u8 0),Leaf.v (Value.int IntKind.u8 0),Leaf.v (Value.int IntKind.u8 0),Leaf.v (Value.int IntKind.u8 0),Leaf.v (Value.int IntKind.u8 0),Leaf.v (Value.int IntKind.u8 0),Leaf.v (Value.int IntKind.u8 0),Leaf.v (Value.int IntKind.u8 0),Leaf.v (Value.int IntKind.u8 0),Leaf.v (Value.int IntKind.u8 0),Leaf.v (Value.int IntKind.u8 0),Leaf.v (Value.int IntKind.u8 0),Leaf.v (Value.int IntKind.u8 0),Leaf.v (Value.int IntKind.u8 0),Leaf.v (Value.int IntKind.u8 0),Leaf.v (Value.int IntKind.u8 0),Leaf.v (Value.int IntKind.u8 0),Leaf.v (Value.int IntKind.u8 0),Leaf.v (Value.int IntKind.u8 0),Leaf.v (Value.int IntKind.u8 0),Leaf.v (Value.int IntKind.u8 0),Leaf.v (Value.int IntKind.u8 0),Leaf.v (Value.int IntKind.u8 0),Leaf.v (Value.int IntKind.u8 0),Leaf.v (Value.int IntKind.u8 0),Leaf.v (Value.int IntKind.u8 0),Leaf.v (Value.int IntKind.u8 0),Leaf.v (Value.int IntKind.u8 0),Leaf.v (Value.int IntKind.u8 0),Leaf.v (Value.int IntKind.u8 0),Leaf.v (Value.int IntKind.u8 0),Leaf.v (Value.int IntKind.u8 0),Leaf.v (Value.int IntKind.u8 0),Leaf.v (Value.int IntKind.u8 0),Leaf.v (Value.int IntKind.u8 0),Leaf.v (Value.int IntKind.u8 0),Leaf.v (Value.int IntKind.u8 0),Leaf.v (Value.int IntKind.u8 0),Leaf.v (Value.int IntKind.u8 0),Leaf.v (Value.int IntKind.u8 0),Leaf.v (Value.int IntKind.u8 0),Leaf.v (Value.int IntKind.u8 0),Leaf.v (Value.int IntKind.u8 0),Leaf.v (Value.int IntKind.u8 0),Leaf.v (Value.int IntKind.u8 0),Leaf.v (Value.int IntKind.u8 0),Leaf.v (Value.int IntKind.u8 0),Leaf.v (Value.int IntKind.u8 0),Leaf.v (Value.int IntKind.u8 0),Leaf.v (Value.int IntKind.u8 0),Leaf.v (Value.int IntKind.u8 0),Leaf.v (Value.int IntKind.u8 0),Leaf.v (Value.int IntKind.u8 0),Leaf.v (Value.int IntKind.u8 0),Leaf.v (Value.int IntKind.u8 0),Leaf.v (Value.int IntKind.u8 0),Leaf.v (Value.int IntKind.u8 0),Leaf.v (Value.int IntKind.u8 0),Leaf.v (Value.int IntKind.u8 0),Leaf.v (Value.int IntKind.u8 0),Leaf.v (Value.int IntKind.u8 0),Leaf.v (Value.int IntKind.u8 0),Leaf.v (Value.int IntKind.u8 0),Leaf.v (Value.int IntKind.u8 0),Leaf.v (Value.int IntKind.u8 0),Leaf.v (Value.int IntKind.u8 0),Leaf.v (Value.int IntKind.u8 0),Leaf.v (Value.int IntKind.u8 0),Leaf.v (Value.int IntKind.u8 0),Leaf.v (Value.int IntKind.u8 0),Leaf.v (Value.int IntKind.u8 0),Leaf.v (Value.int IntKind.u8 0),Leaf.v (Value.int IntKind.u8 0),Leaf.v (Value.int IntKind.u8 0),Leaf.v (Value.int IntKind.u8 0),Leaf.v (Value.int IntKind.u8 0),Leaf.v (Value.int IntKind.u8 0),Leaf.v (Value.int IntKind.u8 0),Leaf.v (Value.int IntKind.u8 0),Leaf.v (Value.int IntKind.u8 0),Leaf.v (Value.int IntKind.u8 0),Leaf.v (Value.int IntKind.u8 0),Leaf.v (Value.int IntKind.u8 0),Leaf.v (Value.int IntKind.u8 0),Leaf.v (Value.int IntKind.u8 0),Leaf.v (Value.int IntKind.u8 0),Leaf.v (Value.int IntKind.u8 0),Leaf.v (Value.int IntKind.u8 0),Leaf.v (Value.int IntKind.u8 0),Leaf.v (Value.int IntKind.u8 0),Leaf.v (Value.int IntKind.u8 0),Leaf.v (Value.int IntKind.u8 0),Leaf.v (Value.int IntKind.u8 0),Leaf.v (Value.int IntKind.u8 0),Leaf.v (Value.int IntKind.u8 0),Leaf.v (Value.int IntKind.u8 0),Leaf.v (Value.int IntKind.u8 0),Leaf.v (Value.int IntKind.u8 0),Leaf.v (Value.int IntKind.u8 0),Leaf.v (Value.int IntKind.u8 0),Leaf.v (Value.int IntKind.u8 0),Leaf.v (Value.int IntKind.u8 0),Leaf.v (Value.int IntKind.u8 0),Leaf.v (Value.int IntKind.u8 0),Leaf.v (Value.int IntKind.u8 0),Leaf.v (Value.int IntKind.u8 0),Leaf.v (Value.int IntKind.u8 0),Leaf.v (Value.int IntKind.u8 0),Leaf.v (Value.int IntKind.u8 0),Leaf.v (Value.int IntKind.u8 0),Leaf.v (Value.int IntKind.u8 0),Leaf.v (Value.int IntKind.u8 0),Leaf.v (Value.int IntKind.u8 0),Leaf.v (Value.int IntKind.u8 0),Leaf.v (Value.int IntKind.u8 0),Leaf.v (Value.int IntKind.u8 0),Leaf.v (Value.int IntKind.u8 0),Leaf.v (Value.int IntKind.u8 0),Leaf.v (Value.int IntKind.u8 0),Leaf.v (Value.int IntKind.u8 0),Leaf.v (Value.int IntKind.u8 0),Leaf.v (Value.int IntKind.u8 0),Leaf.v (Value.int IntKind.u8 0),Leaf.v (Value.int IntKind.u8 0),Leaf.v (Value.int IntKind.u8 0),Leaf.v (Value.int IntKind.u8 0),Leaf.v (Value.int IntKind.u8 0),Leaf.v (Value.int IntKind.u8 0),Leaf.v (Value.int IntKind.u8 0),Leaf.v (Value.int IntKind.u8 0),Leaf.v (Value.int IntKind.u8 0),Leaf.v (Value.int IntKind.u8 0),Leaf.v (Value.int IntKind.u8 0),Leaf.v (Value.int IntKind.u8 0),Leaf.v (Value.int IntKind.u8 0)] 2 (tl (dcT (ea L k))))) (ag (el (TA.mk (ea L k).X (ea L k).Y (dcT (ea L k)))))∧[(4,(smL L wAll k).length+1,false)]=[(4,(smL L wAll k).length+1,false)]∧ApB Tryz.prog 42 ((smL L wAll k).length+1)∧(rws (smL L wAll k)).length=(smL L wAll k).length*258∧258=258∧IntKind.i64.wrap ((Nat.cast k:Int)+1)=(Nat.cast k:Int)+1∧RoundTo Tryz.prog ((getLoop 5 (Tryz.f80.body.getD Code.skip)).getD Code.skip) 5 (wkK 5 K) (St.mk [(0,SV.c (Cp.l (Leaf.p 0 0))),(1,SV.c (Cp.l (Leaf.f 81 []))),(4,SV.c (Cp.l (Leaf.p 2 0))),(5,SV.u),(6,SV.c (Cp.l (Leaf.p 3 0))),(17,SV.c (Cp.l (Leaf.o 1 L.length))),(18,iv IntKind.i64 (Nat.cast L.length:Int)),(19,iv IntKind.i64 ((Nat.cast k:Int)+1))] [(0,some (Blk.mk [Leaf.o 1 L.length,li (d+smC L wAll k+1)] (BT.t 125))),(1,some (Blk.mk (ens L) (BT.r 123 8 1))),(2,some (Blk.mk [Leaf.v (Value.slice none 0 0)] (BT.t 26))),(3,some (Blk.mk [Leaf.o 8 ((smL L wAll k).length+1)] (BT.t 26))),(4,some (Blk.mk (rws (smL L wAll k)) (BT.r 42 258 4))),(5,some (Blk.mk (en (ea L k)) (BT.t 123))),(6,some (Blk.mk (tl (dcT (ea L k))) (BT.t 38))),(7,some (Blk.mk (splice zA258 0 (el (TA.mk (ea L k).X (ea L k).Y (dcT (ea L k))))) (BT.r 42 258 7))),(8,some (Blk.mk (rws (smL L wAll k)++splice zA258 0 (el (TA.mk (ea L k).X (ea L k).Y (dcT (ea L k))))) (BT.r 42 258 8)))] 9 49 [3,8,7,6,6,0,5,5,4,3,2,0] 2)))) (wkK 5 K (Exit.exit 0) (St.mk [(0,SV.c (Cp.l (Leaf.p 0 0))),(1,SV.c (Cp.l (Leaf.f 81 []))),(4,SV.c (Cp.l (Leaf.p 2 0))),(5,SV.u),(6,SV.c (Cp.l (Leaf.p 3 0))),(17,SV.c (Cp.l (Leaf.o 1 L.length))),(18,iv IntKind.i64 (Nat.cast L.length:Int)),(19,iv IntKind.i64 (Nat.cast k:Int))] [(0,some (Blk.mk [Leaf.o 1 L.length,li (d+smC L wAll k)] (BT.t 125))),(1,some (Blk.mk (ens L) (BT.r 123 8 1))),(2,some (Blk.mk [Leaf.v (Value.slice none 0 0)] (BT.t 26))),(3,some (Blk.mk [Leaf.o 4 (smL L wAll k).length] (BT.t 26))),(4,some (Blk.mk (rws (smL L wAll k)) (BT.r 42 258 4))),(5,none),(6,none),(7,none),(8,none)] 5 49 [4,3,2,0] 2))):WPL Tryz.prog ((getLoop 5 (Tryz.f80.body.getD .skip)).getD .skip) (I80a L d k) (wkK 5 K):=
 wp_roundT [0,1,4,5,6,17,18,19] [0,1,2,3,4,5,6,7,8] (cx:=cz_R80a L d k) rfl (of_eq (by kernel_rfl) h)
set_option maxRecDepth 100000 in
set_option maxHeartbeats 4000000 in
theorem L80a (L:List EN) (d:Int) (hG:GoodB L) (h0:0≤d) (hd:d≤900000000):∀(m k:Nat),L.length-k=m→k≤L.length→(∀j,j<k→okP L wAll j=true)→∀(K:Exit→St→Prop),((∀j,j<L.length→okP L wAll j=true)→K (.exit 0) (I80a L d L.length))→(∀j,j<L.length→(∀i,i<j→okP L wAll i=true)→okP L wAll j=false→K .ret (Q80a L d j))→WPL Tryz.prog ((getLoop 5 (Tryz.f80.body.getD .skip)).getD .skip) (I80a L d k) (wkK 5 K)
 |0,k,hm,hk,hall,K,hK,hR=>by
  have e:k=L.length:=by omega
  subst e
  refine R80a L d _ K (HB.mk (fun hne=>absurd (of_decide_eq_true hne) (by omega)) (fun he=>?_))
  exact wkK.to (I80a L d _) (Nat.le_refl _) (by kernel_rfl) (wkE_cons (LeN.sl (by kernel_rfl) rfl) (wkE_cons (LeN.sl (by kernel_rfl) rfl) (wkE_cons (LeN.sl (by kernel_rfl) rfl) (wkE_cons (LeN.sl (by kernel_rfl) rfl) (wkE_cons (LeN.sl (by kernel_rfl) rfl) (wkE_cons (LeN.sl (by kernel_rfl) rfl) (wkE_cons (LeN.sl (by kernel_rfl) rfl) trivial))))))) (wkH_cons (BkN.blk (k:=⟨[.o 1 L.length,li (d+(smC L wAll L.length))],.t 125⟩) (by kernel_rfl) (rfl) (by kernel_rfl)) (wkH_cons (BkN.plain (cs:=ens L) (b:=.r 123 8 1) (by kernel_rfl) (rfl) (plain_ens _) (by kernel_rfl)) (wkH_cons (BkN.blk (k:=⟨[.v (.slice none 0 0)],.t 26⟩) (by kernel_rfl) (rfl) (by kernel_rfl)) (wkH_cons (BkN.blk (k:=⟨[.o 4 (smL L wAll L.length).length],.t 26⟩) (by kernel_rfl) (rfl) (by kernel_rfl)) (wkH_cons (BkN.plain (cs:=rws (smL L wAll L.length)) (b:=.r 42 258 4) (by kernel_rfl) (rfl) (plain_rws _) (by kernel_rfl)) trivial))))) (hK hall)
 |m+1,k,hm,hk,hall,K,hK,hR=>by
  refine R80a L d k K (HB.mk (fun hne=>?_) (fun he=>absurd (show ((k:Nat):Int)<(L.length:Nat) by omega) (of_decide_eq_false he)))
  have hlt:k<L.length:=by omega
  have hlen:=hG.len
  have hbk0:=hG.2 k hlt
  have hbk:1≤(ea L k).blob.size∧(ea L k).blob.size≤1000000000000000:=by omega
  have hcb:=smC_bd L wAll k
  repeat' (first|exact trivial|with_reducible apply And.intro|(with_reducible apply HB.mk)|with_reducible intro _)
  all_goals first
   |(with_reducible exact Le.refl _)
   |(with_reducible rfl)
   |(((with_reducible refine decode_any _ L.length _ hbk.1 hbk.2 ?_ ?_ _ _ _ ?_ ?_ ?_)<;>omega))
   |(with_reducible exact C81 _ _ _)
   |(exact ⟨by omega,by omega⟩)
   |((rw[ens_len];omega))
   |((refine Le.of ?_;simp only[tn,Nat.zero_add,Nat.add_zero];rw[ens_at hlt]))
   |(with_reducible exact Le.bool (dNz_eq _))
   |(with_reducible exact Le.of (congrArg (fun l=>SV.c (.agg l)) (en_pos2 _)))
   |(with_reducible exact Le.of (congrArg (fun l=>SV.c (.agg l)) (tl_take _)))
   |(exact Le.of (congrArg (fun l=>SV.c (.agg l)) (build_el _ _ _)))
   |((rw[rws_len];omega))
   |((with_reducible refine apB42 ?_;have:=smL_len L wAll k;have:=hG.len;omega))
   |(have hcnd:(!(wAll (ea L k).X (ea L k).Y))=true:=(by with_reducible assumption);(with_reducible refine RoundTo.toN 6 (I80a L d (k+1)) ?_ ?_ ?_ ?_ ?_);exact Nat.le_refl _;kernel_rfl;exact (wkE_cons (LeN.sl (by kernel_rfl) rfl) (wkE_cons (LeN.sl (by kernel_rfl) rfl) (wkE_cons (LeN.sl (by kernel_rfl) rfl) (wkE_cons (LeN.sl (by kernel_rfl) rfl) (wkE_cons (LeN.sl (by kernel_rfl) rfl) (wkE_cons (LeN.sl (by kernel_rfl) rfl) (wkE_cons (LeN.sl (by kernel_rfl) rfl) trivial)))))));exact (wkH_cons (BkN.blk (k:=⟨[.o 1 L.length,li (d+(smC L wAll k))],.t 125⟩) (by kernel_rfl) (by rw[(sm_skip hcnd).2.1]) (by kernel_rfl)) (wkH_cons (BkN.plain (cs:=ens L) (b:=.r 123 8 1) (by kernel_rfl) (rfl) (plain_ens _) (by kernel_rfl)) (wkH_cons (BkN.blk (k:=⟨[.v (.slice none 0 0)],.t 26⟩) (by kernel_rfl) (rfl) (by kernel_rfl)) (wkH_cons (BkN.blk (k:=⟨[.o 4 (smL L wAll k).length],.t 26⟩) (by kernel_rfl) (by rw[(sm_skip hcnd).1]) (by kernel_rfl)) (wkH_cons (BkN.plain (cs:=rws (smL L wAll k)) (b:=.r 42 258 4) (by kernel_rfl) (by rw[(sm_skip hcnd).1]) (plain_rws _) (by kernel_rfl)) trivial)))));exact (L80a L d hG h0 hd m (k+1) (by omega) (by omega) (fun j hj=>by rcases Nat.lt_or_ge j k with h|h;exact hall j h;have e:j=k:=(by omega);subst e;exact (by first|exact (sm_skip (by with_reducible assumption)).2.2|exact sm_ok (by with_reducible assumption) (by with_reducible assumption))) K hK hR))
   |(have hcnd:(!(wAll (ea L k).X (ea L k).Y))=false:=(by with_reducible assumption);(with_reducible refine RoundTo.toN 8 (I80a L d (k+1)) ?_ ?_ ?_ ?_ ?_);exact Nat.le_refl _;kernel_rfl;exact (wkE_cons (LeN.sl (by kernel_rfl) rfl) (wkE_cons (LeN.sl (by kernel_rfl) rfl) (wkE_cons (LeN.sl (by kernel_rfl) rfl) (wkE_cons (LeN.sl (by kernel_rfl) rfl) (wkE_cons (LeN.sl (by kernel_rfl) rfl) (wkE_cons (LeN.sl (by kernel_rfl) rfl) (wkE_cons (LeN.sl (by kernel_rfl) rfl) trivial)))))));exact (wkH_cons (BkN.blk (k:=⟨[.o 1 L.length,li (d+(smC L wAll k)+1)],.t 125⟩) (by kernel_rfl) (by rw[(sm_keep hcnd).2,Int.add_assoc]) (by kernel_rfl)) (wkH_cons (BkN.plain (cs:=ens L) (b:=.r 123 8 1) (by kernel_rfl) (rfl) (plain_ens _) (by kernel_rfl)) (wkH_cons (BkN.blk (k:=⟨[.v (.slice none 0 0)],.t 26⟩) (by kernel_rfl) (rfl) (by kernel_rfl)) (wkH_cons (BkN.blk (k:=⟨[.o 4 ((smL L wAll k).length+1)],.t 26⟩) (by kernel_rfl) (by rw[(sm_rows hcnd).2]) (by kernel_rfl)) (wkH_cons (BkN.plain (cs:=rws (smL L wAll k)++splice zA258 0 (el ⟨(ea L k).X,(ea L k).Y,dcT (ea L k)⟩)) (b:=.r 42 258 4) (by kernel_rfl) (by rw[put_el,(sm_rows hcnd).1]) (plain_rws _) (by kernel_rfl)) trivial)))));exact (L80a L d hG h0 hd m (k+1) (by omega) (by omega) (fun j hj=>by rcases Nat.lt_or_ge j k with h|h;exact hall j h;have e:j=k:=(by omega);subst e;exact (by first|exact (sm_skip (by with_reducible assumption)).2.2|exact sm_ok (by with_reducible assumption) (by with_reducible assumption))) K hK hR))
   |(have hcnd:(!(wAll (ea L k).X (ea L k).Y))=false:=(by with_reducible assumption);(with_reducible refine RoundTo.reN 9 [(4,some 8)] (I80a L d (k+1)) ?_ ?_ ?_ ?_);kernel_rfl;exact (wkER_cons (LeR.of (by kernel_rfl)) (wkER_cons (LeR.of (by kernel_rfl)) (wkER_cons (LeR.of (by kernel_rfl)) (wkER_cons (LeR.of (by kernel_rfl)) (wkER_cons (LeR.of (by kernel_rfl)) (wkER_cons (LeR.of (by kernel_rfl)) (wkER_cons (LeR.of (by kernel_rfl)) trivial)))))));exact (wkHR_cons (j:=0) rfl (BkM.blk (k:=⟨[.o 1 L.length,li (d+(smC L wAll k)+1)],.t 125⟩) (k'':=⟨[.o 1 L.length,li (d+(smC L wAll k)+1)],.t 125⟩) (by kernel_rfl) (by kernel_rfl) (by rw[(sm_keep hcnd).2,Int.add_assoc])) (wkHR_cons (j:=1) rfl (BkM.plain (cs:=ens L) (b:=.r 123 8 1) (by kernel_rfl) (rfl) (plain_ens _) (by kernel_rfl)) (wkHR_cons (j:=2) rfl (BkM.blk (k:=⟨[.v (.slice none 0 0)],.t 26⟩) (k'':=⟨[.v (.slice none 0 0)],.t 26⟩) (by kernel_rfl) (by kernel_rfl) (rfl)) (wkHR_cons (j:=3) rfl (BkM.blk (k:=⟨[.o 8 ((smL L wAll k).length+1)],.t 26⟩) (k'':=⟨[.o 4 ((smL L wAll k).length+1)],.t 26⟩) (by kernel_rfl) (by kernel_rfl) (by rw[(sm_rows hcnd).2])) (wkHR_cons (j:=8) rfl (BkM.plain (cs:=rws (smL L wAll k)++splice zA258 0 (el ⟨(ea L k).X,(ea L k).Y,dcT (ea L k)⟩)) (b:=.r 42 258 8) (by kernel_rfl) (by rw[put_el,(sm_rows hcnd).1]) (plain_rws _) (by kernel_rfl)) trivial)))));exact (L80a L d hG h0 hd m (k+1) (by omega) (by omega) (fun j hj=>by rcases Nat.lt_or_ge j k with h|h;exact hall j h;have e:j=k:=(by omega);subst e;exact (by first|exact (sm_skip (by with_reducible assumption)).2.2|exact sm_ok (by with_reducible assumption) (by with_reducible assumption))) K hK hR))
   |(exact wkK.to (Q80a L d k) (Nat.le_refl _) (by kernel_rfl) (wkE_cons (LeN.sl (by kernel_rfl) rfl) (wkE_cons (LeN.sl (by kernel_rfl) rfl) trivial)) (wkH_cons (BkN.blk (k:=⟨[.o 1 L.length,li (d+(smC L wAll k)+1)],.t 125⟩) (by kernel_rfl) (by rw[Int.add_assoc]) (by kernel_rfl)) (wkH_cons (BkN.blk (k:=⟨[.v (.slice none 0 0)],.t 26⟩) (by kernel_rfl) (rfl) (by kernel_rfl)) trivial)) (hR k hlt hall ((sm_bad (by with_reducible assumption) (by with_reducible assumption)))))
   |(exact okw _ (by omega) (by omega))
   |(exact Le.of rfl)
end Ab
end Go.Proofs.YtpdckpifhniioaaGreat
end
section
set_option linter.unusedVariables false
set_option linter.unusedSimpArgs false
namespace Go.Proofs.YtpdckpifhniioaaGreat
open Go.RowKit
namespace Ab
attribute [local irreducible] CallOKd
def smF (L:List EN) (w:Int→Int→Bool):Option Nat:=(List.range L.length).find? fun j=>!okP L w j
def smE (L:List EN) (w:Int→Int→Bool):Int:=match smF L w with|some j=>dcE (ea L j)|none=>0
def smD (L:List EN) (w:Int→Int→Bool):Int:=match smF L w with|some j=>smC L w j+1|none=>smC L w L.length
theorem smF_none {L:List EN} {w:Int→Int→Bool} (h:∀j,j<L.length→okP L w j=true):smF L w=none:=by
 unfold smF
 rw[List.find?_eq_none]
 intro j hj
 rw[h j (List.mem_range.1 hj)];decide
theorem smF_some {L:List EN} {w:Int→Int→Bool} {j:Nat} (hj:j<L.length) (hb:∀i,i<j→okP L w i=true) (h:okP L w j=false):smF L w=some j:=
 find_range _ _ _ hj (by rw[h];rfl) (fun i hi=>by rw[hb i hi];rfl)
theorem smE_some {L:List EN} {w:Int→Int→Bool} {j:Nat} (h:smF L w=some j):smE L w=dcE (ea L j)∧smD L w=smC L w j+1:=by unfold smE smD;rw[h];exact ⟨rfl,rfl⟩
theorem enters80:Enters Tryz.prog 80:=fun args w=>by go_simp
def cz_C80ak (L:List EN) (d:Int):Cz:={
 ct:=(fun f=>match f with
 |_=>none)
 eq:=(fun t=>match t with
 |_=>none)
 raw:=[],sym:=[],nf:=[],ap:=true,off:=[],on:=[],lp:=fun r=>match r with|5=>some (fun _ K=>((∀j,j<L.length→okP L wAll j=true)→K (.exit 0) (I80a L d L.length))∧(∀j,j<L.length→(∀i,i<j→okP L wAll i=true)→okP L wAll j=false→K .ret (Q80a L d j)))|_=>none,un:=0,wh:=[26,38,123]}
def cz_C80ae (L:List EN) (d:Int):Cz:={
 ct:=(fun f=>match f with
 |_=>none)
 eq:=(fun t=>match t with
 |_=>none)
 raw:=[],sym:=[],nf:=[],ap:=true,off:=[],on:=[],lp:=fun r=>match r with|5=>some (fun _ K=>((∀j,j<L.length→okP L wAll j=true)→K (.exit 0) (I80a L d L.length))∧(∀j,j<L.length→(∀i,i<j→okP L wAll i=true)→okP L wAll j=false→K .ret (Q80a L d j)))|_=>none,un:=0,wh:=[26,38,123]}
set_option maxRecDepth 100000 in
set_option maxHeartbeats 400000 in
theorem C80ae (L:List EN) (d:Int) (hG:GoodB L) (h0:0≤d) (hd:d≤900000000) (hx:smF L wAll≠none):CallOK Tryz.prog 80 [.c (.l (.p 0 0)),.c (.l (.f 81 []))] [(0,⟨[.o 1 L.length,li d],.t 125⟩),(1,⟨ens L,.r 123 8 1⟩)] 2 (.tup [.agg [.v (.slice none 0 0)],.l (li (smE L wAll))]) [(0,⟨[.o 1 L.length,li (d+smD L wAll)],.t 125⟩)] 0:=by
 refine call_ok (cx:=cz_C80ae L d) (nm:=[]) rfl Tryz.func80 (body:=Tryz.f80.body.getD .skip) rfl enters80 (by unfold inck;simp only[List.all_cons,List.all_nil,blkLt_plain (plain_ens L) (show (BT.rn (rnId 2 0 []) (.r 123 8 1)).isSome=true from rfl),Bool.and_true,Bool.true_and];kernel_rfl) ?_
 apply of_eq (q:=(LoopOK Tryz.prog ((getLoop 5 (Tryz.f80.body.getD .skip)).getD .skip) (St.mk [(19,iv IntKind.i64 0),(18,iv IntKind.i64 (Nat.cast L.length:Int)),(17,SV.c (Cp.l (Leaf.o 1 L.length))),(16,SV.c (Cp.l (Leaf.p 0 0))),(15,SV.c (Cp.l (Leaf.p 0 0))),(14,SV.c (Cp.l (Leaf.p 0 0))),(6,SV.c (Cp.l (Leaf.p 3 0))),(12,bv false),(11,SV.c (Cp.l (Leaf.p 0 0))),(5,iv IntKind.i64 0),(4,SV.c (Cp.l (Leaf.p 2 0))),(0,SV.c (Cp.l (Leaf.p 0 0))),(1,SV.c (Cp.l (Leaf.f 81 [])))] [(3,some (Blk.mk [Leaf.v (Value.slice none 0 0)] (BT.t 26))),(2,some (Blk.mk [Leaf.v (Value.slice none 0 0)] (BT.t 26))),(0,some (Blk.mk [Leaf.o 1 L.length,li d] (BT.t 125))),(1,some (Blk.mk (ens L) (BT.r 123 8 1)))] 4 49 [3,2] 2) fun K=>((∀(j:Nat),j<L.length→okP L wAll j=true)→K (Exit.exit 0) (I80a L d L.length))∧∀(j:Nat),j<L.length→(∀(i:Nat),i<j→okP L wAll i=true)→okP L wAll j=false→K Exit.ret (Q80a L d j))∧((∀(j:Nat),j<L.length→okP L wAll j=true)→0=0∧1=1∧False)∧∀(j:Nat),j<L.length→(∀(i:Nat),i<j→okP L wAll i=true)→okP L wAll j=false→Le (SV.tup [Cp.agg [Leaf.v (Value.slice none 0 0)],Cp.l (li (dcE (ea L j)))]) (SV.tup [Cp.agg [Leaf.v (Value.slice none 0 0)],Cp.l (li (smE L wAll))])∧BkR (rnId 2 0 []) (Blk.mk [Leaf.o 1 L.length,li (d+(smC L wAll j+1))] (BT.t 125)) (Blk.mk [Leaf.o 1 L.length,li (d+smD L wAll)] (BT.t 125))∧True) (by kernel_rfl)
 repeat' (first|exact trivial|with_reducible apply And.intro|(with_reducible apply HB.mk)|with_reducible intro _)
 all_goals first
  |(with_reducible rfl)
  |(exact LoopOK.re [(4,none)] (I80a L d 0) (by kernel_rfl) (wkER_cons (LeR.of (by kernel_rfl)) (wkER_cons (LeR.of (by kernel_rfl)) (wkER_cons (LeR.of (by kernel_rfl)) (wkER_cons (LeR.of (by kernel_rfl)) (wkER_cons (LeR.of (by kernel_rfl)) (wkER_cons (LeR.of (by kernel_rfl)) (wkER_cons (LeR.of (by kernel_rfl)) trivial))))))) (wkHR_cons (j:=0) rfl (BkM.blk (k:=⟨[.o 1 L.length,li d],.t 125⟩) (k'':=⟨[.o 1 L.length,li d],.t 125⟩) (by kernel_rfl) (by kernel_rfl) (by rw[show smC L wAll 0=0 from rfl,Int.add_zero])) (wkHR_cons (j:=1) rfl (BkM.plain (cs:=ens L) (b:=.r 123 8 1) (by kernel_rfl) (rfl) (plain_ens _) (by kernel_rfl)) (wkHR_cons (j:=2) rfl (BkM.blk (k:=⟨[.v (.slice none 0 0)],.t 26⟩) (k'':=⟨[.v (.slice none 0 0)],.t 26⟩) (by kernel_rfl) (by kernel_rfl) (rfl)) (wkHR_cons (j:=3) rfl (BkM.lsB (xs:=[.v (.slice none 0 0)]) (by kernel_rfl) (LsR.cons (by show LfR _ 5 _ (.o 4 (smL L wAll 0).length);exact LfR.nil (show 4<5 by decide) rfl) LsR.nil)) (wkHR_nil rfl trivial))))) (fun K hT=>L80a L d hG h0 hd _ 0 rfl (Nat.zero_le _) (fun j hj=>absurd hj (Nat.not_lt_zero j)) K hT.1 hT.2))
  |(exact absurd (smF_none (by with_reducible assumption)) hx)
  |((refine Le.of ?_;rw[(smE_some (smF_some (by with_reducible assumption) (by with_reducible assumption) (by with_reducible assumption))).1];done))
  |((rw[(smE_some (smF_some (by with_reducible assumption) (by with_reducible assumption) (by with_reducible assumption))).2];exact BkR.of (by kernel_rfl)))
theorem some_ae (L:List EN) (d:Int) (hG:GoodB L) (h0:0≤d) (hd:d≤900000000) (hx:smF L wAll≠none) (n:Nat) (hn:2≤n):CallOK Tryz.prog 80 [.c (.l (.p 0 0)),.c (.l (.f 81 []))] [(0,⟨[.o 1 L.length,li d],.t 125⟩),(1,⟨ens L,.r 123 8 1⟩)] n (.tup [.agg [.v (.slice none 0 0)],.l (li (smE L wAll))]) [(0,⟨[.o 1 L.length,li (d+smD L wAll)],.t 125⟩)] 0:=by
 have key:=CallOKd.at2 (C80ae L d hG h0 hd hx) 0 1 n (by omega) (by omega) (by decide)
 simp only[List.map_cons,List.map_nil,Blk.ren,SV.ren,Cp.ren,Leaf.ren,BT.ren,ren_plain (plain_ens _)] at key
 exact key
theorem enters23:Enters Tryz.prog 23:=fun args w=>by go_simp
def cz_C23k (L:List EN) (d:Int):Cz:={
 ct:=(fun f=>match f with
 |80=>some fun _ _S ar=>match ar with | [.c (.l (.p i _)),_]=>some {v:=.tup [.agg [.o _S.n (smL L wAll L.length).length],.l (li 0)],rd:=[0,1],wr:=[(0,⟨[.o 1 L.length,li (d+smC L wAll L.length)],.t 125⟩),(_S.n,⟨rws (smL L wAll L.length),.r 42 258 _S.n⟩)],nw:=1}|_=>none
 |_=>none)
 eq:=(fun t=>match t with
 |_=>none)
 raw:=[],sym:=[],nf:=[],ap:=true,off:=[],on:=[],lp:=fun _=>none,un:=0,wh:=[26]}
def cz_C23e (L:List EN) (d:Int):Cz:={
 ct:=(fun f=>match f with
 |80=>some fun _ _S ar=>match ar with | [.c (.l (.p i _)),_]=>some {v:=.tup [.agg [.v (.slice none 0 0)],.l (li (smE L wAll))],rd:=[0,1],wr:=[(0,⟨[.o 1 L.length,li (d+smD L wAll)],.t 125⟩)],nw:=0}|_=>none
 |_=>none)
 eq:=(fun t=>match t with
 |_=>none)
 raw:=[],sym:=[],nf:=[],ap:=true,off:=[],on:=[],lp:=fun _=>none,un:=0,wh:=[26]}
set_option maxRecDepth 100000 in
set_option maxHeartbeats 400000 in
theorem C23e (L:List EN) (d:Int) (hG:GoodB L) (h0:0≤d) (hd:d≤900000000) (hx:smF L wAll≠none):CallOK Tryz.prog 23 [.c (.l (.p 0 0))] [(0,⟨[.o 1 L.length,li d],.t 125⟩),(1,⟨ens L,.r 123 8 1⟩)] 2 (.tup [.agg [.v (.slice none 0 0)],.l (li (smE L wAll))]) [(0,⟨[.o 1 L.length,li (d+smD L wAll)],.t 125⟩)] 0:=by
 refine call_ok (cx:=cz_C23e L d) (nm:=[]) rfl Tryz.func23 (body:=Tryz.f23.body.getD .skip) rfl enters23 (by unfold inck;simp only[List.all_cons,List.all_nil,blkLt_plain (plain_ens L) (show (BT.rn (rnId 2 0 []) (.r 123 8 1)).isSome=true from rfl),Bool.and_true,Bool.true_and];kernel_rfl) ?_
 apply of_eq (q:=CallOKd Tryz.prog 80 [] [SV.c (Cp.l (Leaf.p 0 0)),SV.c (Cp.l (Leaf.f 81 []))] [(0,Blk.mk [Leaf.o 1 L.length,li d] (BT.t 125)),(1,Blk.mk (ens L) (BT.r 123 8 1))] 3 (SV.tup [Cp.agg [Leaf.v (Value.slice none 0 0)],Cp.l (li (smE L wAll))]) [(0,Blk.mk [Leaf.o 1 L.length,li (d+smD L wAll)] (BT.t 125))] 0∧0=0∧1=1∧Le (SV.tup [Cp.agg [Leaf.v (Value.slice none 0 0)],Cp.l (li (smE L wAll))]) (SV.tup [Cp.agg [Leaf.v (Value.slice none 0 0)],Cp.l (li (smE L wAll))])∧BkR (rnId 2 0 []) (Blk.mk [Leaf.o 1 L.length,li (d+smD L wAll)] (BT.t 125)) (Blk.mk [Leaf.o 1 L.length,li (d+smD L wAll)] (BT.t 125))∧True) (by kernel_rfl)
 repeat' (first|exact trivial|with_reducible apply And.intro|(with_reducible apply HB.mk)|with_reducible intro _)
 all_goals first
  |(with_reducible exact Le.refl _)
  |(with_reducible rfl)
  |((with_reducible exact some_ae L d hG h0 hd hx _ (by omega)))
  |(exact BkR.of (by kernel_rfl))
theorem all_err (L:List EN) (d:Int) (hG:GoodB L) (h0:0≤d) (hd:d≤900000000) (hx:smF L wAll≠none) (id i n:Nat) (h1:id<n) (h2:i<n) (h3:id≠i):CallOK Tryz.prog 23 [.c (.l (.p id 0))] [(id,⟨[.o i L.length,li d],.t 125⟩),(i,⟨ens L,.r 123 8 i⟩)] n (.tup [.agg [.v (.slice none 0 0)],.l (li (smE L wAll))]) [(id,⟨[.o i L.length,li (d+smD L wAll)],.t 125⟩)] 0:=by
 have key:=CallOKd.at2 (C23e L d hG h0 hd hx) id i n h1 h2 h3
 simp only[List.map_cons,List.map_nil,Blk.ren,SV.ren,Cp.ren,Leaf.ren,BT.ren,ren_plain (plain_ens _)] at key
 exact key
end Ab
end Go.Proofs.YtpdckpifhniioaaGreat
end
section
set_option linter.unusedVariables false
set_option linter.unusedSimpArgs false
namespace Go.Proofs.YtpdckpifhniioaaGreat
open Go.RowKit
namespace Ab
attribute [local irreducible] CallOKd
def mT (l:List TA) (x y:Int) (j:Nat):Bool:=(at' l j).X==x&&(at' l j).Y==y
theorem rws_tl {l:List TA} {k:Nat} (h:k<l.length):List.take 256 (List.drop (k*258+2) (rws l))=tl (at' l k).t:=by
 obtain ⟨m,hm⟩:=rws_drop l k h
 rw[←List.drop_drop,hm]
 show List.take 256 (tl (at' l k).t++m)=_
 rw[List.take_append_of_le_length (by rw[tl_len];exact Nat.le_refl _),tl_take]
end Ab
end Go.Proofs.YtpdckpifhniioaaGreat
end
