/- Part 26 of what CodecBack rests on. -/
import Derived.Test.YtpdckpifhniioaaGreatPy
section
set_option linter.unusedVariables false
set_option linter.unusedSimpArgs false
namespace Go.Proofs.YtpdckpifhniioaaGreat
open Go.RowKit
namespace Ab
attribute [local irreducible] CallOKd
attribute [local irreducible] tl rws
def I80b (L:List EN) (d:Int) (c:R4) (k:Nat):St:=⟨[(19,iv .i64 (k:Nat)),(18,iv .i64 (L.length:Nat)),(17,.c (.l (.o 1 L.length))),(0,.c (.l (.p 0 0))),(1,.c (.l (.f 82 [(2,0)]))),(4,.c (.l (.p 3 0))),(6,.c (.l (.p 4 0)))],[(0,some ⟨[.o 1 L.length,li (d+(smC L (wR c) k))],.t 125⟩),(1,some ⟨ens L,.r 123 8 1⟩),(2,some ⟨[li c.x0,li c.y0,li c.x1,li c.y1],.t 66⟩),(3,some ⟨[.v (.slice none 0 0)],.t 26⟩),(4,some ⟨[.o 5 (smL L (wR c) k).length],.t 26⟩),(5,some ⟨rws (smL L (wR c) k),.r 42 258 5⟩)],6,49,[5,4,3,0],(3)⟩
def Q80b (L:List EN) (d:Int) (c:R4) (k:Nat):St:=⟨[(4,.c (.l (.p 3 0))),(5,iv .i64 (dcE (ea L k)))],[(0,some ⟨[.o 1 L.length,li (d+((smC L (wR c) k)+1))],.t 125⟩),(3,some ⟨[.v (.slice none 0 0)],.t 26⟩)],6,49,[5,4,3,0],(3)⟩
def cz_R80b (L:List EN) (d:Int) (c:R4) (k:Nat):Cz:={
 ct:=(fun f=>match f with
 |79=>some fun _ _S ar=>match ar with | [.c (.l (.p i _)),.c (.agg _)]=>some {v:=.tup [.agg (tl (dcT (ea L k))),.l (li (dcE (ea L k)))],rd:=[i],wr:=[(i,⟨[.o 1 L.length,li (d+(smC L (wR c) k)+1)],.t 125⟩)],nw:=0}|_=>none
 |82=>some fun _ap _S ar=>match _ap,ar with
  |_,[.c (.agg [.v (.int _ x),.v (.int _ y)]),.c (.l (.p i _))]=>some {v:=bv (wR c x y),rd:=[i],wr:=[],nw:=0,dc:=[]}
  |_,_=>none
 |_=>none)
 eq:=(fun t=>match t with
 |_=>none)
 raw:=[],sym:=[21,22,45],nf:=[(22,.c (.agg (en (ea L k)))),(25,.c (.agg [li (ea L k).X,li (ea L k).Y])),(41,.c (.agg [li (ea L k).X,li (ea L k).Y])),(27,bv (!((wR c) (ea L k).X (ea L k).Y))),(30,.c (.agg (en (ea L k)))),(32,.c (.agg (tl (dcT (ea L k))))),(35,bv (dNz (ea L k))),(42,.c (.agg (tl (dcT (ea L k))))),(43,.c (.agg (el ⟨(ea L k).X,(ea L k).Y,dcT (ea L k)⟩)))],ap:=true,off:=[],on:=[],lp:=fun _=>none,un:=0,wh:=[38,123]}
set_option maxRecDepth 100000 in
theorem R80b (L:List EN) (d:Int) (c:R4) (k:Nat)  (K:Exit→St→Prop) (h:HB (decide ((Nat.cast k:Int)<(Nat.cast L.length:Int))) (InR ((Nat.cast k:Int)) L.length∧((Nat.cast k:Int)).toNat*8+8≤(ens L).length∧Le (ag (List.take 8 (List.drop (((Nat.cast k:Int)).toNat*8) (ens L)))) (ag (en (ea L k)))∧0=0∧8=8∧Le (ag (List.take 2 (en (ea L k)))) (ag [li (ea L k).X,li (ea L k).Y])∧CallOKd Tryz.prog 82 [] [ag [li (ea L k).X,li (ea L k).Y],SV.c (Cp.l (Leaf.p 2 0))] [(2,Blk.mk [li c.x0,li c.y0,li c.x1,li c.y1] (BT.t 66))] 7 (bv (wR c (ea L k).X (ea L k).Y)) [] 0∧Le (bv !wR c (ea L k).X (ea L k).Y) (bv !wR c (ea L k).X (ea L k).Y)∧HB (!wR c (ea L k).X (ea L k).Y) (IntKind.i64.wrap ((Nat.cast k:Int)+1)=(Nat.cast k:Int)+1∧RoundTo Tryz.prog ((getLoop 5 (Tryz.f80.body.getD Code.skip)).getD Code.skip) 6 (wkK 6 K) (St.mk [(0,SV.c (Cp.l (Leaf.p 0 0))),(1,SV.c (Cp.l (Leaf.f 82 [(2,0)]))),(4,SV.c (Cp.l (Leaf.p 3 0))),(5,SV.u),(6,SV.c (Cp.l (Leaf.p 4 0))),(17,SV.c (Cp.l (Leaf.o 1 L.length))),(18,iv IntKind.i64 (Nat.cast L.length:Int)),(19,iv IntKind.i64 ((Nat.cast k:Int)+1))] [(0,some (Blk.mk [Leaf.o 1 L.length,li (d+smC L (wR c) k)] (BT.t 125))),(1,some (Blk.mk (ens L) (BT.r 123 8 1))),(2,some (Blk.mk [li c.x0,li c.y0,li c.x1,li c.y1] (BT.t 66))),(3,some (Blk.mk [Leaf.v (Value.slice none 0 0)] (BT.t 26))),(4,some (Blk.mk [Leaf.o 5 (smL L (wR c) k).length] (BT.t 26))),(5,some (Blk.mk (rws (smL L (wR c) k)) (BT.r 42 258 5))),(6,some (Blk.mk (en (ea L k)) (BT.t 123))),(7,none),(8,none),(9,none)] 7 49 [6,6,5,4,3,0] 3)) (Le (ag (List.take 8 (en (ea L k)))) (ag (en (ea L k)))∧CallOKd Tryz.prog 79 [] [SV.c (Cp.l (Leaf.p 0 0)),ag (en (ea L k))] [(0,Blk.mk [Leaf.o 1 L.length,li (d+smC L (wR c) k)] (BT.t 125))] 7 (SV.tup [Cp.agg (tl (dcT (ea L k))),Cp.l (li (dcE (ea L k)))]) [(0,Blk.mk [Leaf.o 1 L.length,li (d+smC L (wR c) k+1)] (BT.t 125))] 0∧Le (ag (tl (dcT (ea L k)))) (ag (tl (dcT (ea L k))))∧0=0∧256=256∧Le (bv (dcE (ea L k) != 0)) (bv (dNz (ea L k)))∧HB (dNz (ea L k)) (wkK 6 K Exit.ret (St.mk [(0,SV.c (Cp.l (Leaf.p 0 0))),(1,SV.c (Cp.l (Leaf.f 82 [(2,0)]))),(4,SV.c (Cp.l (Leaf.p 3 0))),(5,iv IntKind.i64 (dcE (ea L k))),(6,SV.c (Cp.l (Leaf.p 4 0))),(17,SV.c (Cp.l (Leaf.o 1 L.length))),(18,iv IntKind.i64 (Nat.cast L.length:Int)),(19,iv IntKind.i64 (Nat.cast k:Int))] [(0,some (Blk.mk [Leaf.o 1 L.length,li (d+smC L (wR c) k+1)] (BT.t 125))),(1,some (Blk.mk (ens L) (BT.r 123 8 1))),(2,some (Blk.mk [li c.x0,li c.y0,li c.x1,li c.y1] (BT.t 66))),(3,some (Blk.mk [Leaf.v (Value.slice none 0 0)] (BT.t 26))),(4,some (Blk.mk [Leaf.o 5 (smL L (wR c) k).length] (BT.t 26))),(5,some (Blk.mk (rws (smL L (wR c) k)) (BT.r 42 258 5))),(6,some (Blk.mk (en (ea L k)) (BT.t 123))),(7,some (Blk.mk (tl (dcT (ea L k))) (BT.t 38))),(8,none),(9,none)] 8 49 [3,7,7,0,6,6,5,4,3,0] 3)) ((Le (ag (List.take 2 (en (ea L k)))) (ag [li (ea L k).X,li (ea L k).Y])∧Le (ag (List.take 256 (tl (dcT (ea L k))))) (ag (tl (dcT (ea L k))))∧Le (ag (splice [li (ea L k).X,li (ea L k).Y,Leaf.v (Value.int IntKind.u8 0),Leaf.v (Value.int IntKind.u8 0),Leaf.v (Value.int IntKind.u8 0),Leaf.v (Value.int IntKind.u8 0),Leaf.v (Value.int IntKind.u8 0),Leaf.v (Value.int IntKind.u8 0),Leaf.v (Value.int IntKind.u8 0),Leaf.v (Value.int IntKind.u8 0),Leaf.v (Value.int IntKind.u8 0),Leaf.v (Value.int IntKind.u8 0),Leaf.v (Value.int IntKind.u8 0),Leaf.v (Value.int IntKind.u8 0),Leaf.v (Value.int IntKind.u8 0),Leaf.v (Value.int IntKind.u8 0),Leaf.v (Value.int IntKind.u8 0),Leaf.v (Value.int IntKind.u8 0),Leaf.v (Value.int IntKind.u8 0),Leaf.v (Value.int IntKind.u8 0),Leaf.v (Value.int IntKind.u8 0),Leaf.v (Value.int IntKind.u8 0),Leaf.v (Value.int IntKind.u8 0),Leaf.v (Value.int IntKind.u8 0),Leaf.v (Value.int IntKind.u8 0),Leaf.v (Value.int IntKind.u8 0),Leaf.v (Value.int IntKind.u8 0),Leaf.v (Value.int IntKind.u8 0),Leaf.v (Value.int IntKind.u8 0),Leaf.v (Value.int IntKind.u8 0),Leaf.v (Value.int IntKind.u8 0),Leaf.v (Value.int IntKind.u8 0),Leaf.v (Value.int IntKind.u8 0),Leaf.v (Value.int IntKind.u8 0),Leaf.v (Value.int IntKind.u8 0),Leaf.v (Value.int IntKind.u8 0),Leaf.v (Value.int IntKind.u8 0),Leaf.v (Value.int IntKind.u8 0),Leaf.v (Value.int IntKind.u8 0),Leaf.v (Value.int IntKind.u8 0),Leaf.v (Value.int IntKind.u8 0),Leaf.v (Value.int IntKind.u8 0),Leaf.v (Value.int IntKind.u8 0),Leaf.v (Value.int IntKind.u8 0),Leaf.v (Value.int IntKind.u8 0),Leaf.v (Value.int IntKind.u8 0),Leaf.v (Value.int IntKind.u8 0),Leaf.v (Value.int IntKind.u8 0),Leaf.v (Value.int IntKind.u8 0),Leaf.v (Value.int IntKind.u8 0),Leaf.v (Value.int IntKind.u8 0),Leaf.v (Value.int IntKind.u8 0),Leaf.v (Value.int IntKind.u8 0),Leaf.v (Value.int IntKind.u8 0),Leaf.v (Value.int IntKind.u8 0),Leaf.v (Value.int IntKind.u8 0),Leaf.v (Value.int IntKind.u8 0),Leaf.v (Value.int IntKind.u8 0),Leaf.v (Value.int IntKind.u8 0),Leaf.v (Value.int IntKind.u8 0),Leaf.v (Value.int IntKind.u8 0),Leaf.v (Value.int IntKind.u8 0),Leaf.v (Value.int IntKind.u8 0),Leaf.v (Value.int IntKind.u8 0),Leaf.v (Value.int IntKind.u8 0),Leaf.v (Value.int IntKind.u8 0),Leaf.v (Value.int IntKind.u8 0),Leaf.v (Value.int IntKind.u8 0),Leaf.v (Value.int IntKind.u8 0),Leaf.v (Value.int IntKind.u8 0),Leaf.v (Value.int IntKind.u8 0),Leaf.v (Value.int IntKind.u8 0),Leaf.v (Value.int IntKind.u8 0),Leaf.v (Value.int IntKind.u8 0),Leaf.v (Value.int IntKind.u8 0),Leaf.v (Value.int IntKind.u8 0),Leaf.v (Value.int IntKind.u8 0),Leaf.v (Value.int IntKind.u8 0),Leaf.v (Value.int IntKind.u8 0),Leaf.v (Value.int IntKind.u8 0),Leaf.v (Value.int IntKind.u8 0),Leaf.v (Value.int IntKind.u8 0),Leaf.v (Value.int IntKind.u8 0),Leaf.v (Value.int IntKind.u8 0),Leaf.v (Value.int IntKind.u8 0),Leaf.v (Value.int IntKind.u8 0),Leaf.v (Value.int IntKind.u8 0),Leaf.v (Value.int IntKind.u8 0),Leaf.v (Value.int IntKind.u8 0),Leaf.v (Value.int IntKind.u8 0),Leaf.v (Value.int IntKind.u8 0),Leaf.v (Value.int IntKind.u8 0),Leaf.v (Value.int IntKind.u8 0),Leaf.v (Value.int IntKind.u8 0),Leaf.v (Value.int IntKind.u8 0),Leaf.v (Value.int IntKind.u8 0),Leaf.v (Value.int IntKind.u8 0),Leaf.v (Value.int IntKind.u8 0),Leaf.v (Value.int IntKind.u8 0),Leaf.v (Value.int IntKind.u8 0),Leaf.v (Value.int IntKind.u8 0),Leaf.v (Value.int IntKind.u8 0),Leaf.v (Value.int IntKind.u8 0),Leaf.v (Value.int IntKind.u8 0),Leaf.v (Value.int IntKind.u8 0),Leaf.v (Value.int IntKind.u8 0),Leaf.v (Value.int IntKind.u8 0),Leaf.v (Value.int IntKind.u8 0),Leaf.v (Value.int IntKind.u8 0),Leaf.v (Value.int IntKind.u8 0),Leaf.v (Value.int IntKind.u8 0),Leaf.v (Value.int IntKind.u8 0),Leaf.v (Value.int IntKind.u8 0),Leaf.v (Value.int IntKind.u8 0),Leaf.v (Value.int IntKind.u8 0),Leaf.v (Value.int IntKind.u8 0),Leaf.v (Value.int IntKind.u8 0),Leaf.v (Value.int IntKind.u8 0),Leaf.v (Value.int IntKind.u8 0),Leaf.v (Value.int IntKind.u8 0),Leaf.v (Value.int IntKind.u8 0),Leaf.v (Value.int IntKind.u8 0),Leaf.v (Value.int IntKind.u8 0),Leaf.v (Value.int IntKind.u8 0),Leaf.v (Value.int IntKind.u8 0),Leaf.v (Value.int IntKind.u8 0),Leaf.v (Value.int IntKind.u8 0),Leaf.v (Value.int IntKind.u8 0),Leaf.v (Value.int IntKind.u8 0),Leaf.v (Value.int IntKind.u8 0),Leaf.v (Value.int IntKind.u8 0),Leaf.v (Value.int IntKind.u8 0),Leaf.v (Value.int IntKind.u8 0),Leaf.v (Value.int IntKind.u8 0),Leaf.v (Value.int IntKind.u8 0),Leaf.v (Value.int IntKind.u8 0),Leaf.v (Value.int IntKind.u8 0),Leaf.v (Value.int IntKind.u8 0),Leaf.v (Value.int IntKind.u8 0),Leaf.v (Value.int IntKind.u8 0),Leaf.v (Value.int IntKind.u8 0),Leaf.v (Value.int IntKind.u8 0),Leaf.v (Value.int IntKind.u8 0),Leaf.v (Value.int IntKind.u8 0),Leaf.v (Value.int IntKind.u8 0),Leaf.v (Value.int IntKind.u8 0),Leaf.v (Value.int IntKind.u8 0),Leaf.v (Value.int IntKind.u8 0),Leaf.v (Value.int IntKind.u8 0),Leaf.v (Value.int IntKind.u8 0),Leaf.v (Value.int IntKind.u8 0),Leaf.v (Value.int IntKind.u8 0),Leaf.v (Value.int IntKind.u8 0),Leaf.v (Value.int IntKind.u8 0),Leaf.v (Value.int IntKind.u8 0),Leaf.v (Value.int IntKind.u8 0),Leaf.v (Value.int IntKind.u8 0),Leaf.v (Value.int IntKind.u8 0),Leaf.v (Value.int IntKind.u8 0),Leaf.v (Value.int IntKind.u8 0),Leaf.v (Value.int IntKind.u8 0),Leaf.v (Value.int IntKind.u8 0),Leaf.v (Value.int IntKind.u8 0),Leaf.v (Value.int IntKind.u8 0),Leaf.v (Value.int IntKind.u8 0),Leaf.v (Value.int IntKind.u8 0),Leaf.v (Value.int IntKind.u8 0),Leaf.v (Value.int IntKind.u8 0),Leaf.v (Value.int IntKind.u8 0),Leaf.v (Value.int IntKind.u8 0),Leaf.v (Value.int IntKind.u8 0),Leaf.v (Value.int IntKind.u8 0),Leaf.v (Value.int IntKind.u8 0),Leaf.v (Value.int IntKind.u8 0),Leaf.v (Value.int IntKind.u8 0),Leaf.v (Value.int IntKind.u8 0),Leaf.v (Value.int IntKind.u8 0),Leaf.v (Value.int IntKind.u8 0),Leaf.v (Value.int IntKind.u8 0),Leaf.v (Value.int IntKind.u8 0),Leaf.v (Value.int IntKind.u8 0),Leaf.v (Value.int IntKind.u8 0),Leaf.v (Value.int IntKind.u8 0),Leaf.v (Value.int IntKind.u8 0),Leaf.v (Value.int IntKind.u8 0),Leaf.v (Value.int IntKind.u8 0),Leaf.v (Value.int IntKind.u8 0),Leaf.v (Value.int IntKind.u8 0),Leaf.v (Value.int IntKind.u8 0),Leaf.v (Value.int IntKind.u8 0),Leaf.v (Value.int IntKind.u8 0),Leaf.v (Value.int IntKind.u8 0),Leaf.v (Value.int IntKind.u8 0),Leaf.v (Value.int IntKind.u8 0),Leaf.v (Value.int IntKind.u8 0),Leaf.v (Value.int IntKind.u8 0),Leaf.v (Value.int IntKind.u8 0),Leaf.v (Value.int IntKind.u8 0),Leaf.v (Value.int IntKind.u8 0),Leaf.v (Value.int IntKind.u8 0),Leaf.v (Value.int IntKind.u8 0),Leaf.v (Value.int IntKind.u8 0),Leaf.v (Value.int IntKind.u8 0),Leaf.v (Value.int IntKind.u8 0),Leaf.v (Value.int IntKind.u8 0),Leaf.v (Value.int IntKind.u8 0),Leaf.v (Value.int IntKind.u8 0),Leaf.v (Value.int IntKind.u8 0),Leaf.v (Value.int IntKind.u8 0),Leaf.v (Value.int IntKind.u8 0),Leaf.v (Value.int IntKind.u8 0),Leaf.v (Value.int IntKind.u8 0),Leaf.v (Value.int IntKind.u8 0),Leaf.v (Value.int IntKind.u8 0),Leaf.v (Value.int IntKind.u8 0),Leaf.v (Value.int IntKind.u8 0),Leaf.v (Value.int IntKind.u8 0),Leaf.v (Value.int IntKind.u8 0),Leaf.v (Value.int IntKind.u8 0),Leaf.v (Value.int IntKind.u8 0),Leaf.v (Value.int IntKind.u8 0),Leaf.v (Value.int IntKind.u8 0),Leaf.v (Value.int IntKind.u8 0),Leaf.v (Value.int IntKind.u8 0),Leaf.v (Value.int IntKind.u8 0),Leaf.v (Value.int IntKind.u8 0),Leaf.v (Value.int IntKind.u8 0),Leaf.v (Value.int IntKind.u8 0),Leaf.v (Value.int IntKind.u8 0),Leaf.v (Value.int IntKind.u8 0),Leaf.v (Value.int IntKind.u8 0),Leaf.v (Value.int IntKind.u8 0),Leaf.v (Value.int IntKind.u8 0),Leaf.v (Value.int IntKind.u8 0),Leaf.v (Value.int IntKind.u8 0),Leaf.v (Value.int IntKind.u8 0),Leaf.v (Value.int IntKind.u8 0),Leaf.v (Value.int IntKind.u8 0),Leaf.v (Value.int IntKind.u8 0),Leaf.v (Value.int IntKind.u8 0),Leaf.v (Value.int IntKind.u8 0),Leaf.v (Value.int IntKind.u8 0),Leaf.v (Value.int IntKind.u8 0),Leaf.v (Value.int IntKind.u8 0),Leaf.v (Value.int IntKind.u8 0),Leaf.v (Value.int IntKind.u8 0),Leaf.v (Value.int IntKind.u8 0),Leaf.v (Value.int IntKind.u8 0),Leaf.v (Value.int IntKind.u8 0),Leaf.v (Value.int IntKind.u8 0),Leaf.v (Value.int IntKind.u8 0),Leaf.v (Value.int IntKind.u8 0),Leaf.v (Value.int IntKind.u8 0),Leaf.v (Value.int IntKind.u8 0),Leaf.v (Value.int IntKind.u8 0),Leaf.v (Value.int IntKind.u8 0),Leaf.v (Value.int IntKind.u8 0),Leaf.v (Value.int IntKind.u8 0)] 2 (tl (dcT (ea L k))))) (ag (el (TA.mk (ea L k).X (ea L k).Y (dcT (ea L k)))))∧(rws (smL L (wR c) k)).length=(smL L (wR c) k).length*258∧258=258∧IntKind.i64.wrap ((Nat.cast k:Int)+1)=(Nat.cast k:Int)+1∧RoundTo Tryz.prog ((getLoop 5 (Tryz.f80.body.getD Code.skip)).getD Code.skip) 6 (wkK 6 K) (St.mk [(0,SV.c (Cp.l (Leaf.p 0 0))),(1,SV.c (Cp.l (Leaf.f 82 [(2,0)]))),(4,SV.c (Cp.l (Leaf.p 3 0))),(5,SV.u),(6,SV.c (Cp.l (Leaf.p 4 0))),(17,SV.c (Cp.l (Leaf.o 1 L.length))),(18,iv IntKind.i64 (Nat.cast L.length:Int)),(19,iv IntKind.i64 ((Nat.cast k:Int)+1))] [(0,some (Blk.mk [Leaf.o 1 L.length,li (d+smC L (wR c) k+1)] (BT.t 125))),(1,some (Blk.mk (ens L) (BT.r 123 8 1))),(2,some (Blk.mk [li c.x0,li c.y0,li c.x1,li c.y1] (BT.t 66))),(3,some (Blk.mk [Leaf.v (Value.slice none 0 0)] (BT.t 26))),(4,some (Blk.mk [Leaf.o 5 ((smL L (wR c) k).length+1)] (BT.t 26))),(5,some (Blk.mk (rws (smL L (wR c) k)++splice zA258 0 (el (TA.mk (ea L k).X (ea L k).Y (dcT (ea L k))))) (BT.r 42 258 5))),(6,some (Blk.mk (en (ea L k)) (BT.t 123))),(7,some (Blk.mk (tl (dcT (ea L k))) (BT.t 38))),(8,some (Blk.mk (splice zA258 0 (el (TA.mk (ea L k).X (ea L k).Y (dcT (ea L k))))) (BT.r 42 258 8))),(9,none)] 9 49 [4,5,8,7,7,0,6,6,5,4,3,0] 3))∧Le (ag (List.take 2 (en (ea L k)))) (ag [li (ea L k).X,li (ea L k).Y])∧Le (ag (List.take 256 (tl (dcT (ea L k))))) (ag (tl (dcT (ea L k))))∧Le (ag (splice [li (ea L k).X,li (ea L k).Y,Leaf.v (Value.int IntKind.u8 0),Leaf.v (Value.int IntKind.u8 0),Leaf.v (Value.int IntKind.u8 0),Leaf.v (Value.int IntKind.u8 0),Leaf.v (Value.int IntKind.u8 0),Leaf.v (Value.int IntKind.u8 0),Leaf.v (Value.int IntKind.u8 0),Leaf.v (Value.int IntKind.u8 0),Leaf.v (Value.int IntKind.u8 0),Leaf.v (Value.int IntKind.u8 0),Leaf.v (Value.int IntKind.u8 0),Leaf.v (Value.int IntKind.u8 0),Leaf.v (Value.int IntKind.u8 0),Leaf.v (Value.int IntKind.u8 0),Leaf.v (Value.int IntKind.u8 0),Leaf.v (Value.int IntKind.u8 0),Leaf.v (Value.int IntKind.u8 0),Leaf.v (Value.int IntKind.u8 0),Leaf.v (Value.int IntKind.u8 0),Leaf.v (Value.int IntKind.u8 0),Leaf.v (Value.int IntKind.u8 0),Leaf.v (Value.int IntKind.u8 0),Leaf.v (Value.int IntKind.u8 0),Leaf.v (Value.int IntKind.u8 0),Leaf.v (Value.int IntKind.u8 0),Leaf.v (Value.int IntKind.u8 0),Leaf.v (Value.int IntKind.u8 0),Leaf.v (Value.int IntKind.u8 0),Leaf.v (Value.int IntKind.u8 0),Leaf.v (Value.int IntKind.u8 0),Leaf.v (Value.int IntKind.u8 0),Leaf.v (Value.int IntKind.u8 0),Leaf.v (Value.int IntKind.u8 0),Leaf.v (Value.int IntKind.u8 0),Leaf.v (Value.int IntKind.u8 0),Leaf.v (Value.int IntKind.u8 0),Leaf.v (Value.int IntKind.u8 0),Leaf.v (Value.int IntKind.u8 0),Leaf.v (Value.int IntKind.u8 0),Leaf.v (Value.int IntKind.u8 0),Leaf.v (Value.int IntKind.u8 0),Leaf.v (Value.int IntKind.u8 0),Leaf.v (Value.int IntKind.u8 0),Leaf.v (Value.int IntKind.u8 0),Leaf.v (Value.int IntKind.u8 0),Leaf.v (Value.int IntKind.u8 0),Leaf.v (Value.int IntKind.u8 0),Leaf.v (Value.int IntKind.u8 0),Leaf.v (Value.int IntKind.u8 0),Leaf.v (Value.int IntKind.u8 0),Leaf.v (Value.int IntKind.u8 0),Leaf.v (Value.int IntKind.u8 0),Leaf.v (Value.int IntKind.u8 0),Leaf.v (Value.int IntKind.u8 0),Leaf.v (Value.int IntKind.u8 0),Leaf.v (Value.int IntKind.u8 0),Leaf.v (Value.int IntKind.u8 0),Leaf.v (Value.int IntKind.u8 0),Leaf.v (Value.int IntKind.u8 0),Leaf.v (Value.int IntKind.u8 0),Leaf.v (Value.int IntKind.u8 0),Leaf.v (Value.int IntKind.u8 0),Leaf.v (Value.int IntKind.u8 0),Leaf.v (Value.int IntKind.u8 0),Leaf.v (Value.int IntKind.u8 0),Leaf.v (Value.int IntKind.u8 0),Leaf.v (Value.int IntKind.u8 0),Leaf.v (Value.int IntKind.u8 0),Leaf.v (Value.int IntKind.u8 0),Leaf.v (Value.int IntKind.u8 0),Leaf.v (Value.int IntKind.u8 0),Leaf.v (Value.int IntKind.u8 0),Leaf.v (Value.int IntKind.u8 0),Leaf.v (Value.int IntKind.u8 0),Leaf.v (Value.int IntKind.u8 0),Leaf.v (Value.int IntKind.u8 0),Leaf.v (Value.int IntKind.u8 0),Leaf.v (Value.int IntKind.u8 0),Leaf.v (Value.int IntKind.u8 0),Leaf.v (Value.int IntKind.u8 0),Leaf.v (Value.int IntKind.u8 0),Leaf.v (Value.int IntKind.u8 0),Leaf.v (Value.int IntKind.u8 0),Leaf.v (Value.int IntKind.u8 0),Leaf.v (Value.int IntKind.u8 0),Leaf.v (Value.int IntKind.u8 0),Leaf.v (Value.int IntKind.u8 0),Leaf.v (Value.int IntKind.u8 0),Leaf.v (Value.int IntKind.u8 0),Leaf.v (Value.int IntKind.u8 0),Leaf.v (Value.int IntKind.u8 0),Leaf.v (Value.int IntKind.u8 0),Leaf.v (Value.int IntKind.u8 0),Leaf.v (Value.int IntKind.u8 0),Leaf.v (Value.int IntKind.u8 0),Leaf.v (Value.int IntKind.u8 0),Leaf.v (Value.int IntKind.u8 0),Leaf.v (Value.int IntKind.u8 0),Leaf.v (Value.int IntKind.u8 0),Leaf.v (Value.int IntKind.u8 0),Leaf.v (Value.int IntKind.u8 0),Leaf.v (Value.int IntKind.u8 0),Leaf.v (Value.int IntKind.u8 0),Leaf.v (Value.int IntKind.u8 0),Leaf.v (Value.int IntKind.u8 0),Leaf.v (Value.int IntKind.u8 0),Leaf.v (Value.int IntKind.u8 0),Leaf.v (Value.int IntKind.u8 0),Leaf.v (Value.int IntKind.u8 0),Leaf.v (Value.int IntKind.u8 0),Leaf.v (Value.int IntKind.u8 0),Leaf.v (Value.int IntKind.u8 0),Leaf.v (Value.int IntKind.u8 0),Leaf.v (Value.int IntKind.u8 0),Leaf.v (Value.int IntKind.u8 0),Leaf.v (Value.int IntKind.u8 0),Leaf.v (Value.int IntKind.u8 0),Leaf.v (Value.int IntKind.u8 0),Leaf.v (Value.int IntKind.u8 0),Leaf.v (Value.int IntKind.u8 0),Leaf.v (Value.int IntKind.u8 0),Leaf.v (Value.int IntKind.u8 0),Leaf.v (Value.int IntKind.u8 0),Leaf.v (Value.int IntKind.u8 0),Leaf.v (Value.int IntKind.u8 0),Leaf.v (Value.int IntKind.u8 0),Leaf.v (Value.int IntKind.u8 0),Leaf.v (Value.int IntKind.u8 0),Leaf.v (Value.int IntKind.u8 0),Leaf.v (Value.int IntKind.u8 0),Leaf.v (Value.int IntKind.u8 0),Leaf.v (Value.int IntKind.u8 0),Leaf.v (Value.int IntKind.u8 0),Leaf.v (Value.int IntKind.u8 0),Leaf.v (Value.int IntKind.u8 0),Leaf.v (Value.int IntKind.u8 0),Leaf.v (Value.int IntKind.u8 0),Leaf.v (Value.int IntKind.u8 0),Leaf.v (Value.int IntKind.u8 0),Leaf.v (Value.int IntKind.u8 0),Leaf.v (Value.int IntKind.u8 0),Leaf.v (Value.int IntKind.u8 0),Leaf.v (Value.int IntKind.u8 0),Leaf.v (Value.int IntKind.u8 0),Leaf.v (Value.int IntKind.u8 0),Leaf.v (Value.int IntKind.u8 0),Leaf.v (Value.int IntKind.u8 0),Leaf.v (Value.int IntKind.u8 0),Leaf.v (Value.int IntKind.u8 0),Leaf.v (Value.int IntKind.u8 0),Leaf.v (Value.int IntKind.u8 0),Leaf.v (Value.int IntKind.u8 0),Leaf.v (Value.int IntKind.u8 0),Leaf.v (Value.int IntKind.u8 0),Leaf.v (Value.int IntKind.u8 0),Leaf.v (Value.int IntKind.u8 0),Leaf.v (Value.int IntKind.u8 0),Leaf.v (Value.int IntKind.u8 0),Leaf.v (Value.int IntKind.u8 0),Leaf.v (Value.int IntKind.u8 0),Leaf.v (Value.int IntKind.u8 0),Leaf.v (Value.int IntKind.u8 0),Leaf.v (Value.int IntKind.u8 0),Leaf.v (Value.int IntKind.u8 0),Leaf.v (Value.int IntKind.u8 0),Leaf.v (Value.int IntKind.u8 0),Leaf.v (Value.int IntKind.u8 0),Leaf.v (Value.int IntKind.u8 0),Leaf.v (Value.int IntKind.u8 0),Leaf.v (Value.int IntKind.u8 0),Leaf.v (Value.int IntKind.u8 0),Leaf.v (Value.int IntKind.u8 0),Leaf.v (Value.int IntKind.u8 0),Leaf.v (Value.int IntKind.u8 0),Leaf.v (Value.int IntKind.u8 0),Leaf.v (Value.int IntKind.u8 0),Leaf.v (Value.int IntKind.u8 0),Leaf.v (Value.int IntKind.u8 0),Leaf.v (Value.int IntKind.u8 0),Leaf.v (Value.int IntKind.u8 0),Leaf.v (Value.int IntKind.u8 0),Leaf.v (Value.int IntKind.u8 0),Leaf.v (Value.int IntKind.u8 0),Leaf.v (Value.int IntKind.u8 0),Leaf.v (Value.int IntKind.u8 0),Leaf.v (Value.int IntKind.u8 0),Leaf.v (Value.int IntKind.u8 0),Leaf.v (Value.int IntKind.u8 0),Leaf.v (Value.int IntKind.u8 0),Leaf.v (Value.int IntKind.u8 0),Leaf.v (Value.int IntKind.u8 0),Leaf.v (Value.int IntKind.u8 0),Leaf.v (Value.int IntKind.u8 0),Leaf.v (Value.int IntKind.u8 0),Leaf.v (Value.int IntKind.u8 0),Leaf.v (Value.int IntKind.u8 0),Leaf.v (Value.int IntKind.u8 0),Leaf.v (Value.int IntKind.u8 0),Leaf.v (Value.int IntKind.u8 0),Leaf.v (Value.int IntKind.u8 0),Leaf.v (Value.int IntKind.u8 0),Leaf.v (Value.int IntKind.u8 0),Leaf.v (Value.int IntKind.u8 0),Leaf.v (Value.int IntKind.u8 0),Leaf.v (Value.int IntKind.u8 0),Leaf.v (Value.int IntKind.u8 0),Leaf.v (Value.int IntKind.u8 0),Leaf.v (Value.int IntKind.u8 0),Leaf.v (Value.int IntKind.u8 0),Leaf.v (Value.int IntKind.u8 0),Leaf.v (Value.int IntKind.u8 0),Leaf.v (Value.int IntKind.u8 0),Leaf.v (Value.int IntKind.u8 0),Leaf.v (Value.int IntKind.u8 0),Leaf.v (Value.int IntKind.u8 0),Leaf.v (Value.int IntKind.u8 0),Leaf.v (Value.int IntKind.u8 0),Leaf.v (Value.int IntKind.u8 0),Leaf.v (Value.int IntKind.u8 0),Leaf.v (Value.int IntKind.u8 0),Leaf.v (Value.int IntKind.u8 0),Leaf.v (Value.int IntKind.u8 0),Leaf.v (Value.int IntKind.u8 0),Leaf.v (Value.int IntKind.u8 0),Leaf.v (Value.int IntKind.u8 0),Leaf.v (Value.int IntKind.u8 0),Leaf.v (Value.int IntKind.u8 0),Leaf.v (Value.int IntKind.u8 0),Leaf.v (Value.int IntKind.u8 0),Leaf.v (Value.int IntKind.u8 0),Leaf.v (Value.int IntKind.u8 0),Leaf.v (Value.int IntKind.u8 0),Leaf.v (Value.int IntKind.u8 0),Leaf.v (Value.int IntKind.u8 0),Leaf.v (Value.int IntKind.u8 0),Leaf.v (Value.int IntKind.u8 0),Leaf.v (Value.int IntKind.u8 0),Leaf.v (Value.int IntKind.u8 0),Leaf.v (Value.int IntKind.u8 0),Leaf.v (Value.int IntKind.u8 0),Leaf.v (Value.int IntKind.u8 0),Leaf.v (Value.int IntKind.u8 0),Leaf.v (Value.int IntKind.u8 0),Leaf.v (Value.int IntKind.u8 0),Leaf.v (Value.int IntKind.u8 0),Leaf.v (Value.int IntKind.u8 0),Leaf.v (Value.int IntKind.u8 0),Leaf.v (Value.int IntKind.u8 0),Leaf.v (Value.int IntKind.u8 0),Leaf.v (Value.int IntKind.u8 0),Leaf.v (Value.int IntKind.u8 0),Leaf.v (Value.int IntKind.u8 0),Leaf.v (Value.int IntKind.u8 0),Leaf.v (Value.int IntKind.u8 0),Leaf.v (Value.int IntKind.u8 0),Leaf.v (Value.int IntKind.u8 0)] 2 (tl (dcT (ea L k))))) (ag (el (TA.mk (ea L k).X (ea L k).Y (dcT (ea L k)))))∧[(5,(smL L (wR c) k).length+1,false)]=[(5,(smL L (wR c) k).length+1,false)]∧ApB Tryz.prog 42 ((smL L (wR c) k).length+1)∧(rws (smL L (wR c) k)).length=(smL L (wR c) k).length*258∧258=258∧IntKind.i64.wrap ((Nat.cast k:Int)+1)=(Nat.cast k:Int)+1∧RoundTo Tryz.prog ((getLoop 5 (Tryz.f80.body.getD Code.skip)).getD Code.skip) 6 (wkK 6 K) (St.mk [(0,SV.c (Cp.l (Leaf.p 0 0))),(1,SV.c (Cp.l (Leaf.f 82 [(2,0)]))),(4,SV.c (Cp.l (Leaf.p 3 0))),(5,SV.u),(6,SV.c (Cp.l (Leaf.p 4 0))),(17,SV.c (Cp.l (Leaf.o 1 L.length))),(18,iv IntKind.i64 (Nat.cast L.length:Int)),(19,iv IntKind.i64 ((Nat.cast k:Int)+1))] [(0,some (Blk.mk [Leaf.o 1 L.length,li (d+smC L (wR c) k+1)] (BT.t 125))),(1,some (Blk.mk (ens L) (BT.r 123 8 1))),(2,some (Blk.mk [li c.x0,li c.y0,li c.x1,li c.y1] (BT.t 66))),(3,some (Blk.mk [Leaf.v (Value.slice none 0 0)] (BT.t 26))),(4,some (Blk.mk [Leaf.o 9 ((smL L (wR c) k).length+1)] (BT.t 26))),(5,some (Blk.mk (rws (smL L (wR c) k)) (BT.r 42 258 5))),(6,some (Blk.mk (en (ea L k)) (BT.t 123))),(7,some (Blk.mk (tl (dcT (ea L k))) (BT.t 38))),(8,some (Blk.mk (splice zA258 0 (el (TA.mk (ea L k).X (ea L k).Y (dcT (ea L k))))) (BT.r 42 258 8))),(9,some (Blk.mk (rws (smL L (wR c) k)++splice zA258 0 (el (TA.mk (ea L k).X (ea L k).Y (dcT (ea L k))))) (BT.r 42 258 9)))] 10 49 [4,9,8,7,7,0,6,6,5,4,3,0] 3)))) (wkK 6 K (Exit.exit 0) (St.mk [(0,SV.c (Cp.l (Leaf.p 0 0))),(1,SV.c (Cp.l (Leaf.f 82 [(2,0)]))),(4,SV.c (Cp.l (Leaf.p 3 0))),(5,SV.u),(6,SV.c (Cp.l (Leaf.p 4 0))),(17,SV.c (Cp.l (Leaf.o 1 L.length))),(18,iv IntKind.i64 (Nat.cast L.length:Int)),(19,iv IntKind.i64 (Nat.cast k:Int))] [(0,some (Blk.mk [Leaf.o 1 L.length,li (d+smC L (wR c) k)] (BT.t 125))),(1,some (Blk.mk (ens L) (BT.r 123 8 1))),(2,some (Blk.mk [li c.x0,li c.y0,li c.x1,li c.y1] (BT.t 66))),(3,some (Blk.mk [Leaf.v (Value.slice none 0 0)] (BT.t 26))),(4,some (Blk.mk [Leaf.o 5 (smL L (wR c) k).length] (BT.t 26))),(5,some (Blk.mk (rws (smL L (wR c) k)) (BT.r 42 258 5))),(6,none),(7,none),(8,none),(9,none)] 6 49 [5,4,3,0] 3))):WPL Tryz.prog ((getLoop 5 (Tryz.f80.body.getD .skip)).getD .skip) (I80b L d c k) (wkK 6 K):=
 wp_roundT [0,1,4,5,6,17,18,19] [0,1,2,3,4,5,6,7,8,9] (cx:=cz_R80b L d c k) rfl (of_eq (by kernel_rfl) h)
set_option maxRecDepth 100000 in
set_option maxHeartbeats 4000000 in
theorem L80b (L:List EN) (d:Int) (c:R4) (hG:GoodB L) (h0:0≤d) (hd:d≤900000000) (hX:GoodX L):∀(m k:Nat),L.length-k=m→k≤L.length→(∀j,j<k→okP L (wR c) j=true)→∀(K:Exit→St→Prop),((∀j,j<L.length→okP L (wR c) j=true)→K (.exit 0) (I80b L d c L.length))→(∀j,j<L.length→(∀i,i<j→okP L (wR c) i=true)→okP L (wR c) j=false→K .ret (Q80b L d c j))→WPL Tryz.prog ((getLoop 5 (Tryz.f80.body.getD .skip)).getD .skip) (I80b L d c k) (wkK 6 K)
 |0,k,hm,hk,hall,K,hK,hR=>by
  have e:k=L.length:=by omega
  subst e
  refine R80b L d c _ K (HB.mk (fun hne=>absurd (of_decide_eq_true hne) (by omega)) (fun he=>?_))
  exact wkK.to (I80b L d c _) (Nat.le_refl _) (by kernel_rfl) (wkE_cons (LeN.sl (by kernel_rfl) rfl) (wkE_cons (LeN.sl (by kernel_rfl) rfl) (wkE_cons (LeN.sl (by kernel_rfl) rfl) (wkE_cons (LeN.sl (by kernel_rfl) rfl) (wkE_cons (LeN.sl (by kernel_rfl) rfl) (wkE_cons (LeN.sl (by kernel_rfl) rfl) (wkE_cons (LeN.sl (by kernel_rfl) rfl) trivial))))))) (wkH_cons (BkN.blk (k:=⟨[.o 1 L.length,li (d+(smC L (wR c) L.length))],.t 125⟩) (by kernel_rfl) (rfl) (by kernel_rfl)) (wkH_cons (BkN.plain (cs:=ens L) (b:=.r 123 8 1) (by kernel_rfl) (rfl) (plain_ens _) (by kernel_rfl)) (wkH_cons (BkN.blk (k:=⟨[li c.x0,li c.y0,li c.x1,li c.y1],.t 66⟩) (by kernel_rfl) (rfl) (by kernel_rfl)) (wkH_cons (BkN.blk (k:=⟨[.v (.slice none 0 0)],.t 26⟩) (by kernel_rfl) (rfl) (by kernel_rfl)) (wkH_cons (BkN.blk (k:=⟨[.o 5 (smL L (wR c) L.length).length],.t 26⟩) (by kernel_rfl) (rfl) (by kernel_rfl)) (wkH_cons (BkN.plain (cs:=rws (smL L (wR c) L.length)) (b:=.r 42 258 5) (by kernel_rfl) (rfl) (plain_rws _) (by kernel_rfl)) trivial)))))) (hK hall)
 |m+1,k,hm,hk,hall,K,hK,hR=>by
  refine R80b L d c k K (HB.mk (fun hne=>?_) (fun he=>absurd (show ((k:Nat):Int)<(L.length:Nat) by omega) (of_decide_eq_false he)))
  have hlt:k<L.length:=by omega
  have hlen:=hG.len
  have hbk0:=hG.2 k hlt
  have hbk:1≤(ea L k).blob.size∧(ea L k).blob.size≤1000000000000000:=by omega
  have hcb:=smC_bd L (wR c) k
  repeat' (first|exact trivial|with_reducible apply And.intro|(with_reducible apply HB.mk)|with_reducible intro _)
  all_goals first
   |(with_reducible exact Le.refl _)
   |(with_reducible rfl)
   |(((with_reducible refine decode_any _ L.length _ hbk.1 hbk.2 ?_ ?_ _ _ _ ?_ ?_ ?_)<;>omega))
   |(((with_reducible refine C82g _ _ _ ?_ ?_ _ _ ?_)<;>(have hx:=hX.x k hlt;have hy:=hX.y k hlt;omega)))
   |(exact ⟨by omega,by omega⟩)
   |((rw[ens_len];omega))
   |((refine Le.of ?_;simp only[tn,Nat.zero_add,Nat.add_zero];rw[ens_at hlt]))
   |(with_reducible exact Le.bool (dNz_eq _))
   |(with_reducible exact Le.of (congrArg (fun l=>SV.c (.agg l)) (en_pos2 _)))
   |(with_reducible exact Le.of (congrArg (fun l=>SV.c (.agg l)) (tl_take _)))
   |(exact Le.of (congrArg (fun l=>SV.c (.agg l)) (build_el _ _ _)))
   |((rw[rws_len];omega))
   |((with_reducible refine apB42 ?_;have:=smL_len L (wR c) k;have:=hG.len;omega))
   |(have hcnd:(!((wR c) (ea L k).X (ea L k).Y))=true:=(by with_reducible assumption);(with_reducible refine RoundTo.toN 7 (I80b L d c (k+1)) ?_ ?_ ?_ ?_ ?_);exact Nat.le_refl _;kernel_rfl;exact (wkE_cons (LeN.sl (by kernel_rfl) rfl) (wkE_cons (LeN.sl (by kernel_rfl) rfl) (wkE_cons (LeN.sl (by kernel_rfl) rfl) (wkE_cons (LeN.sl (by kernel_rfl) rfl) (wkE_cons (LeN.sl (by kernel_rfl) rfl) (wkE_cons (LeN.sl (by kernel_rfl) rfl) (wkE_cons (LeN.sl (by kernel_rfl) rfl) trivial)))))));exact (wkH_cons (BkN.blk (k:=⟨[.o 1 L.length,li (d+(smC L (wR c) k))],.t 125⟩) (by kernel_rfl) (by rw[(sm_skip hcnd).2.1]) (by kernel_rfl)) (wkH_cons (BkN.plain (cs:=ens L) (b:=.r 123 8 1) (by kernel_rfl) (rfl) (plain_ens _) (by kernel_rfl)) (wkH_cons (BkN.blk (k:=⟨[li c.x0,li c.y0,li c.x1,li c.y1],.t 66⟩) (by kernel_rfl) (rfl) (by kernel_rfl)) (wkH_cons (BkN.blk (k:=⟨[.v (.slice none 0 0)],.t 26⟩) (by kernel_rfl) (rfl) (by kernel_rfl)) (wkH_cons (BkN.blk (k:=⟨[.o 5 (smL L (wR c) k).length],.t 26⟩) (by kernel_rfl) (by rw[(sm_skip hcnd).1]) (by kernel_rfl)) (wkH_cons (BkN.plain (cs:=rws (smL L (wR c) k)) (b:=.r 42 258 5) (by kernel_rfl) (by rw[(sm_skip hcnd).1]) (plain_rws _) (by kernel_rfl)) trivial))))));exact (L80b L d c hG h0 hd hX m (k+1) (by omega) (by omega) (fun j hj=>by rcases Nat.lt_or_ge j k with h|h;exact hall j h;have e:j=k:=(by omega);subst e;exact (by first|exact (sm_skip (by with_reducible assumption)).2.2|exact sm_ok (by with_reducible assumption) (by with_reducible assumption))) K hK hR))
   |(have hcnd:(!((wR c) (ea L k).X (ea L k).Y))=false:=(by with_reducible assumption);(with_reducible refine RoundTo.toN 9 (I80b L d c (k+1)) ?_ ?_ ?_ ?_ ?_);exact Nat.le_refl _;kernel_rfl;exact (wkE_cons (LeN.sl (by kernel_rfl) rfl) (wkE_cons (LeN.sl (by kernel_rfl) rfl) (wkE_cons (LeN.sl (by kernel_rfl) rfl) (wkE_cons (LeN.sl (by kernel_rfl) rfl) (wkE_cons (LeN.sl (by kernel_rfl) rfl) (wkE_cons (LeN.sl (by kernel_rfl) rfl) (wkE_cons (LeN.sl (by kernel_rfl) rfl) trivial)))))));exact (wkH_cons (BkN.blk (k:=⟨[.o 1 L.length,li (d+(smC L (wR c) k)+1)],.t 125⟩) (by kernel_rfl) (by rw[(sm_keep hcnd).2,Int.add_assoc]) (by kernel_rfl)) (wkH_cons (BkN.plain (cs:=ens L) (b:=.r 123 8 1) (by kernel_rfl) (rfl) (plain_ens _) (by kernel_rfl)) (wkH_cons (BkN.blk (k:=⟨[li c.x0,li c.y0,li c.x1,li c.y1],.t 66⟩) (by kernel_rfl) (rfl) (by kernel_rfl)) (wkH_cons (BkN.blk (k:=⟨[.v (.slice none 0 0)],.t 26⟩) (by kernel_rfl) (rfl) (by kernel_rfl)) (wkH_cons (BkN.blk (k:=⟨[.o 5 ((smL L (wR c) k).length+1)],.t 26⟩) (by kernel_rfl) (by rw[(sm_rows hcnd).2]) (by kernel_rfl)) (wkH_cons (BkN.plain (cs:=rws (smL L (wR c) k)++splice zA258 0 (el ⟨(ea L k).X,(ea L k).Y,dcT (ea L k)⟩)) (b:=.r 42 258 5) (by kernel_rfl) (by rw[put_el,(sm_rows hcnd).1]) (plain_rws _) (by kernel_rfl)) trivial))))));exact (L80b L d c hG h0 hd hX m (k+1) (by omega) (by omega) (fun j hj=>by rcases Nat.lt_or_ge j k with h|h;exact hall j h;have e:j=k:=(by omega);subst e;exact (by first|exact (sm_skip (by with_reducible assumption)).2.2|exact sm_ok (by with_reducible assumption) (by with_reducible assumption))) K hK hR))
   |(have hcnd:(!((wR c) (ea L k).X (ea L k).Y))=false:=(by with_reducible assumption);(with_reducible refine RoundTo.reN 10 [(5,some 9)] (I80b L d c (k+1)) ?_ ?_ ?_ ?_);kernel_rfl;exact (wkER_cons (LeR.of (by kernel_rfl)) (wkER_cons (LeR.of (by kernel_rfl)) (wkER_cons (LeR.of (by kernel_rfl)) (wkER_cons (LeR.of (by kernel_rfl)) (wkER_cons (LeR.of (by kernel_rfl)) (wkER_cons (LeR.of (by kernel_rfl)) (wkER_cons (LeR.of (by kernel_rfl)) trivial)))))));exact (wkHR_cons (j:=0) rfl (BkM.blk (k:=⟨[.o 1 L.length,li (d+(smC L (wR c) k)+1)],.t 125⟩) (k'':=⟨[.o 1 L.length,li (d+(smC L (wR c) k)+1)],.t 125⟩) (by kernel_rfl) (by kernel_rfl) (by rw[(sm_keep hcnd).2,Int.add_assoc])) (wkHR_cons (j:=1) rfl (BkM.plain (cs:=ens L) (b:=.r 123 8 1) (by kernel_rfl) (rfl) (plain_ens _) (by kernel_rfl)) (wkHR_cons (j:=2) rfl (BkM.blk (k:=⟨[li c.x0,li c.y0,li c.x1,li c.y1],.t 66⟩) (k'':=⟨[li c.x0,li c.y0,li c.x1,li c.y1],.t 66⟩) (by kernel_rfl) (by kernel_rfl) rfl) (wkHR_cons (j:=3) rfl (BkM.blk (k:=⟨[.v (.slice none 0 0)],.t 26⟩) (k'':=⟨[.v (.slice none 0 0)],.t 26⟩) (by kernel_rfl) (by kernel_rfl) (rfl)) (wkHR_cons (j:=4) rfl (BkM.blk (k:=⟨[.o 9 ((smL L (wR c) k).length+1)],.t 26⟩) (k'':=⟨[.o 5 ((smL L (wR c) k).length+1)],.t 26⟩) (by kernel_rfl) (by kernel_rfl) (by rw[(sm_rows hcnd).2])) (wkHR_cons (j:=9) rfl (BkM.plain (cs:=rws (smL L (wR c) k)++splice zA258 0 (el ⟨(ea L k).X,(ea L k).Y,dcT (ea L k)⟩)) (b:=.r 42 258 9) (by kernel_rfl) (by rw[put_el,(sm_rows hcnd).1]) (plain_rws _) (by kernel_rfl)) trivial))))));exact (L80b L d c hG h0 hd hX m (k+1) (by omega) (by omega) (fun j hj=>by rcases Nat.lt_or_ge j k with h|h;exact hall j h;have e:j=k:=(by omega);subst e;exact (by first|exact (sm_skip (by with_reducible assumption)).2.2|exact sm_ok (by with_reducible assumption) (by with_reducible assumption))) K hK hR))
   |(exact wkK.to (Q80b L d c k) (Nat.le_refl _) (by kernel_rfl) (wkE_cons (LeN.sl (by kernel_rfl) rfl) (wkE_cons (LeN.sl (by kernel_rfl) rfl) trivial)) (wkH_cons (BkN.blk (k:=⟨[.o 1 L.length,li (d+(smC L (wR c) k)+1)],.t 125⟩) (by kernel_rfl) (by rw[Int.add_assoc]) (by kernel_rfl)) (wkH_cons (BkN.blk (k:=⟨[.v (.slice none 0 0)],.t 26⟩) (by kernel_rfl) (rfl) (by kernel_rfl)) trivial)) (hR k hlt hall ((sm_bad (by with_reducible assumption) (by with_reducible assumption)))))
   |(exact okw _ (by omega) (by omega))
   |(exact Le.of rfl)
def cz_C80bk (L:List EN) (d:Int) (c:R4):Cz:={
 ct:=(fun f=>match f with
 |_=>none)
 eq:=(fun t=>match t with
 |_=>none)
 raw:=[],sym:=[],nf:=[],ap:=true,off:=[],on:=[],lp:=fun r=>match r with|5=>some (fun _ K=>((∀j,j<L.length→okP L (wR c) j=true)→K (.exit 0) (I80b L d c L.length))∧(∀j,j<L.length→(∀i,i<j→okP L (wR c) i=true)→okP L (wR c) j=false→K .ret (Q80b L d c j)))|_=>none,un:=0,wh:=[26,38,123]}
set_option maxRecDepth 100000 in
set_option maxHeartbeats 400000 in
theorem C80bk (L:List EN) (d:Int) (c:R4) (hG:GoodB L) (h0:0≤d) (hd:d≤900000000) (hX:GoodX L) (hx:smF L (wR c)=none):CallOK Tryz.prog 80 [.c (.l (.p 0 0)),.c (.l (.f 82 [(2,0)]))] [(0,⟨[.o 1 L.length,li d],.t 125⟩),(1,⟨ens L,.r 123 8 1⟩),(2,⟨[li c.x0,li c.y0,li c.x1,li c.y1],.t 66⟩)] 3 (.tup [.agg [.o 3 (smL L (wR c) L.length).length],.l (li 0)]) [(0,⟨[.o 1 L.length,li (d+smC L (wR c) L.length)],.t 125⟩),(3,⟨rws (smL L (wR c) L.length),.r 42 258 3⟩)] 1:=by
 refine call_ok (cx:=cz_C80bk L d c) (nm:=[5]) rfl Tryz.func80 (body:=Tryz.f80.body.getD .skip) rfl enters80 (by unfold inck;simp only[List.all_cons,List.all_nil,blkLt_plain (plain_ens L) (show (BT.rn (rnId 3 0 []) (.r 123 8 1)).isSome=true from rfl),Bool.and_true,Bool.true_and];kernel_rfl) ?_
 apply of_eq (q:=(LoopOK Tryz.prog ((getLoop 5 (Tryz.f80.body.getD .skip)).getD .skip) (St.mk [(19,iv IntKind.i64 0),(18,iv IntKind.i64 (Nat.cast L.length:Int)),(17,SV.c (Cp.l (Leaf.o 1 L.length))),(16,SV.c (Cp.l (Leaf.p 0 0))),(15,SV.c (Cp.l (Leaf.p 0 0))),(14,SV.c (Cp.l (Leaf.p 0 0))),(6,SV.c (Cp.l (Leaf.p 4 0))),(12,bv false),(11,SV.c (Cp.l (Leaf.p 0 0))),(5,iv IntKind.i64 0),(4,SV.c (Cp.l (Leaf.p 3 0))),(0,SV.c (Cp.l (Leaf.p 0 0))),(1,SV.c (Cp.l (Leaf.f 82 [(2,0)])))] [(4,some (Blk.mk [Leaf.v (Value.slice none 0 0)] (BT.t 26))),(3,some (Blk.mk [Leaf.v (Value.slice none 0 0)] (BT.t 26))),(0,some (Blk.mk [Leaf.o 1 L.length,li d] (BT.t 125))),(1,some (Blk.mk (ens L) (BT.r 123 8 1))),(2,some (Blk.mk [li c.x0,li c.y0,li c.x1,li c.y1] (BT.t 66)))] 5 49 [4,3] 3) fun K=>((∀(j:Nat),j<L.length→okP L (wR c) j=true)→K (Exit.exit 0) (I80b L d c L.length))∧∀(j:Nat),j<L.length→(∀(i:Nat),i<j→okP L (wR c) i=true)→okP L (wR c) j=false→K Exit.ret (Q80b L d c j))∧((∀(j:Nat),j<L.length→okP L (wR c) j=true)→0=0∧1=1∧Le (SV.tup [Cp.agg [Leaf.o 3 (smL L (wR c) L.length).length],Cp.l (li 0)]) (SV.tup [Cp.agg [Leaf.o 3 (smL L (wR c) L.length).length],Cp.l (li 0)])∧BkR (rnId 3 0 [5]) (Blk.mk [Leaf.o 1 L.length,li (d+smC L (wR c) L.length)] (BT.t 125)) (Blk.mk [Leaf.o 1 L.length,li (d+smC L (wR c) L.length)] (BT.t 125))∧BkR (rnId 3 0 [5]) (Blk.mk (rws (smL L (wR c) L.length)) (BT.r 42 258 5)) (Blk.mk (rws (smL L (wR c) L.length)) (BT.r 42 258 3))∧True)∧∀(j:Nat),j<L.length→(∀(i:Nat),i<j→okP L (wR c) i=true)→okP L (wR c) j=false→Le (SV.tup [Cp.agg [Leaf.v (Value.slice none 0 0)],Cp.l (li (dcE (ea L j)))]) (SV.tup [Cp.agg [Leaf.o 3 (smL L (wR c) L.length).length],Cp.l (li 0)])∧BkR (rnId 3 0 [5]) (Blk.mk [Leaf.o 1 L.length,li (d+(smC L (wR c) j+1))] (BT.t 125)) (Blk.mk [Leaf.o 1 L.length,li (d+smC L (wR c) L.length)] (BT.t 125))∧False) (by kernel_rfl)
 repeat' (first|exact trivial|with_reducible apply And.intro|(with_reducible apply HB.mk)|with_reducible intro _)
 all_goals first
  |(with_reducible exact Le.refl _)
  |(with_reducible rfl)
  |(exact LoopOK.re [(5,none)] (I80b L d c 0) (by kernel_rfl) (wkER_cons (LeR.of (by kernel_rfl)) (wkER_cons (LeR.of (by kernel_rfl)) (wkER_cons (LeR.of (by kernel_rfl)) (wkER_cons (LeR.of (by kernel_rfl)) (wkER_cons (LeR.of (by kernel_rfl)) (wkER_cons (LeR.of (by kernel_rfl)) (wkER_cons (LeR.of (by kernel_rfl)) trivial))))))) (wkHR_cons (j:=0) rfl (BkM.blk (k:=⟨[.o 1 L.length,li d],.t 125⟩) (k'':=⟨[.o 1 L.length,li d],.t 125⟩) (by kernel_rfl) (by kernel_rfl) (by rw[show smC L (wR c) 0=0 from rfl,Int.add_zero])) (wkHR_cons (j:=1) rfl (BkM.plain (cs:=ens L) (b:=.r 123 8 1) (by kernel_rfl) (rfl) (plain_ens _) (by kernel_rfl)) (wkHR_cons (j:=2) rfl (BkM.blk (k:=⟨[li c.x0,li c.y0,li c.x1,li c.y1],.t 66⟩) (k'':=⟨[li c.x0,li c.y0,li c.x1,li c.y1],.t 66⟩) (by kernel_rfl) (by kernel_rfl) rfl) (wkHR_cons (j:=3) rfl (BkM.blk (k:=⟨[.v (.slice none 0 0)],.t 26⟩) (k'':=⟨[.v (.slice none 0 0)],.t 26⟩) (by kernel_rfl) (by kernel_rfl) (rfl)) (wkHR_cons (j:=4) rfl (BkM.lsB (xs:=[.v (.slice none 0 0)]) (by kernel_rfl) (LsR.cons (by show LfR _ 6 _ (.o 5 (smL L (wR c) 0).length);exact LfR.nil (show 5<6 by decide) rfl) LsR.nil)) (wkHR_nil rfl trivial)))))) (fun K hT=>L80b L d c hG h0 hd hX _ 0 rfl (Nat.zero_le _) (fun j hj=>absurd hj (Nat.not_lt_zero j)) K hT.1 hT.2))
  |(exact absurd (hx.symm.trans (smF_some (by with_reducible assumption) (by with_reducible assumption) (by with_reducible assumption))) (by simp))
  |(exact BkR.plain rfl (plain_rws _) (by kernel_rfl))
  |(exact BkR.of (by kernel_rfl))
end Ab
end Go.Proofs.YtpdckpifhniioaaGreat
end
section
set_option linter.unusedVariables false
set_option linter.unusedSimpArgs false
namespace Go.Proofs.YtpdckpifhniioaaGreat
open Go.RowKit
namespace Ab
attribute [local irreducible] CallOKd
theorem enters87:Enters Tryz.prog 87:=fun args w=>by go_simp
def cz_C87 (l:List TA):Cz:={
 ct:=(fun f=>match f with
 |46=>some fun _ _S ar=>match ar with | [.c (.agg [.o i _])]=>some {v:=bv true,rd:=[i],wr:=[],nw:=0}|_=>none
 |_=>none)
 eq:=(fun t=>match t with
 |_=>none)
 raw:=[],sym:=[],nf:=[(5,bv false)],ap:=true,off:=[],on:=[],lp:=fun _=>none,un:=0}
set_option maxRecDepth 100000 in
set_option maxHeartbeats 400000 in
theorem C87 (l:List TA) (hg:Good l):CallOK Tryz.prog 87 [.c (.agg [.o 0 l.length])] [(0,⟨rws l,.r 42 258 0⟩)] 1 (.c (.l (.o 0 l.length))) [] 0:=by
 refine call_ok (cx:=cz_C87 l) (nm:=[]) rfl Tryz.func87 (body:=Tryz.f87.body.getD .skip) rfl enters87 (by unfold inck;simp only[List.all_cons,List.all_nil,blkLt_plain (plain_rws l) (show (BT.rn (rnId 1 0 []) (.r 42 258 0)).isSome=true from rfl),Bool.and_true,Bool.true_and];kernel_rfl) ?_
 apply of_eq (q:=CallOKd Tryz.prog 46 [] [ag [Leaf.o 0 l.length]] [(0,Blk.mk (rws l) (BT.r 42 258 0))] 2 (bv true) [] 0∧Le (bv !true) (bv false)∧Le (SV.c (Cp.l (Leaf.o 0 l.length))) (SV.c (Cp.l (Leaf.o 0 l.length)))∧True) (by kernel_rfl)
 repeat' (first|exact trivial|with_reducible apply And.intro|(with_reducible apply HB.mk)|with_reducible intro _)
 all_goals first
  |(with_reducible exact Le.refl _)
  |((with_reducible exact C46g _ hg _ _ (by omega)))
  |(exact Le.bool rfl)
theorem tiles_any (l:List TA) (hg:Good l) (id n:Nat) (hi:id<n):CallOK Tryz.prog 87 [.c (.agg [.o id l.length])] [(id,⟨rws l,.r 42 258 id⟩)] n (.c (.l (.o id l.length))) [] 0:=by
 have key:=CallOK.at1 (C87 l hg) id n hi
 simp only[List.map_cons,List.map_nil,Blk.ren,SV.ren,Cp.ren,Leaf.ren,BT.ren,ren_plain (plain_rws _)] at key
 exact key
end Ab
end Go.Proofs.YtpdckpifhniioaaGreat
end
section
set_option linter.unusedVariables false
set_option linter.unusedSimpArgs false
namespace Go.Proofs.YtpdckpifhniioaaGreat
open Go.RowKit
namespace Ab
def XY (e:TA):Prop:=(-1000000≤e.X∧e.X≤1000000)∧(-1000000≤e.Y∧e.Y≤1000000)
theorem wf64 {n:Int} (h : -1000000≤n∧n≤1000000):(Lit.int .i64 n).wf=true:=by
 simp[Lit.wf,IntKind.min,IntKind.max,IntKind.bits,IntKind.signed]
 omega
theorem lits3 (D:Nat) {n:Int} (h : -1000000≤n∧n≤1000000):Tryz.prog.keyLits (D+1) 3 [.int .i64 n]=some [.int .i64 n]:=by
 unfold Program.keyLits
 simp only[Tryz.underlying3]
 simp[wf64 h]
theorem cells3:Tryz.prog.cellsOf 3=1:=by kernel_rfl
theorem cells40:Tryz.prog.cellsOf 40=2:=by kernel_rfl
theorem cells42:Tryz.prog.cellsOf 42=258:=by kernel_rfl
theorem lits40 (D:Nat) {x y:Int} (hx : -1000000≤x∧x≤1000000) (hy : -1000000≤y∧y≤1000000):Tryz.prog.keyLits (D+2) 40 [.int .i64 x,.int .i64 y]=some [.int .i64 x,.int .i64 y]:=by
 unfold Program.keyLits
 simp only[Tryz.underlying40,cells40]
 simp[cells3,lits3 D hx,lits3 D hy]
def litT (t:Nat→UInt8):List Lit:=((List.range 64).map fun k=>[bl (t (4*k)),bl (t (4*k+1)),bl (t (4*k+2)),bl (t (4*k+3))]).flatten
def evl (e:TA):List Value:=.int .i64 e.X::.int .i64 e.Y::tv e.t
theorem lits42 {e:TA} (h:XY e):Tryz.prog.keyLits 4 42 (evl e)=some (.int .i64 e.X::.int .i64 e.Y::litT e.t):=by
 unfold Program.keyLits
 simp only[Tryz.underlying42,cells42]
 have hl:(evl e).length=258:=by unfold evl;simp[tv_len]
 rw[if_pos ⟨hl,by kernel_rfl⟩]
 have h1:((evl e).drop 0).take 2=[.int .i64 e.X,.int .i64 e.Y]:=rfl
 have h2:((evl e).drop 2).take 256=tv e.t:=List.take_of_length_le (by show (tv e.t).length≤256;rw[tv_len];exact Nat.le_refl _)
 simp only[List.mapM_cons,List.mapM_nil,cells40,cells38]
 rw[h1,h2,lits40 1 h.1 h.2,lits38]
 simp[litT]
theorem evl_el (e:TA):(evl e).map .v=el e:=by unfold evl el;rw[List.map_cons,List.map_cons,tv_tl]
def eqTA (a b:TA):Bool:=decide (a.X=b.X)&&(decide (a.Y=b.Y)&&sameT a.t b.t)
theorem litT_inj (t u:Nat→UInt8):litT t=litT u↔sameT t u=true:=by
 unfold litT
 rw[flat_inj,sameT_iff]
 constructor
 ·intro h i hi
  obtain ⟨a,b,c,d⟩:=h (i / 4) (by simp;omega)
  have:i=4*(i / 4)+i % 4:=by omega
  have h4:i % 4<4:=by omega
  generalize i / 4=q at *
  match hm:i % 4,h4 with
  |0,_=>rw[this,hm];exact a
  |1,_=>rw[this,hm];exact b
  |2,_=>rw[this,hm];exact c
  |3,_=>rw[this,hm];exact d
 ·intro h k hk
  have hk:k<64:=by simpa using hk
  exact ⟨h _ (by omega),h _ (by omega),h _ (by omega),h _ (by omega)⟩
theorem eq42 {a b:TA} (ha:XY a) (hb:XY b):EqOK Tryz.prog 42 (el a) (el b) (eqTA a b):=by
 rw[←evl_el,←evl_el]
 have lf:∀e:TA,∀y∈evl e,leafy y=true:=by
  intro e y hy
  unfold evl at hy
  simp only[List.mem_cons,tv,List.mem_map] at hy
  rcases hy with rfl|rfl|⟨i,_,rfl⟩<;>rfl
 refine eq_key (t:=42) (m:=6) (D:=4) (D':=4) (by kernel_rfl) (by decide) (by kernel_rfl) (lf a) (lf b) (by simp[Value.formed,Tryz.underlying42,cells42,evl,tv_len]) (by simp[Value.formed,Tryz.underlying42,cells42,evl,tv_len]) (lits42 ha) (lits42 hb) _ ?_
 unfold eqTA
 simp only[Bool.and_eq_true,decide_eq_true_eq,List.cons.injEq,litT_inj,Lit.int.injEq,true_and]
end Ab
end Go.Proofs.YtpdckpifhniioaaGreat
end
section
set_option linter.unusedVariables false
set_option linter.unusedSimpArgs false
namespace Go.Proofs.YtpdckpifhniioaaGreat
open Go.RowKit
namespace Ab
attribute [local irreducible] CallOKd
def eqP (l u:List TA) (j:Nat):Bool:=eqTA (at' l j) (at' u j)
def eqRs (l u:List TA):Bool:=bif decide (l.length=u.length) then (List.range l.length).all (eqP l u) else false
def I86 (l u:List TA) (k:Nat):St:=⟨[(13,iv .i64 (k:Nat)),(12,iv .i64 (l.length:Nat)),(0,.c (.l (.o 0 l.length))),(1,.c (.l (.o 1 u.length)))],[(0,some ⟨rws l,.r 42 258 0⟩),(1,some ⟨rws u,.r 42 258 1⟩)],2,26,[],(2)⟩
def Q86:St:=⟨[(4,bv false)],[],2,26,[],(2)⟩
theorem eqRs_len {l u:List TA} (h:(((l.length:Nat):Int) != ((u.length:Nat):Int))=true):eqRs l u=false:=by
 unfold eqRs
 rw[decide_eq_false];rfl
 intro e;rw[e] at h;simp at h
theorem eqRs_t {l u:List TA} (h:(((l.length:Nat):Int) != ((u.length:Nat):Int))=false) (h2:∀j,j<l.length→eqP l u j=true):eqRs l u=true:=by
 have:l.length=u.length:=by
  have:((l.length:Nat):Int)=((u.length:Nat):Int):=by simpa using h
  omega
 unfold eqRs
 rw[decide_eq_true this]
 show List.all _ _=true
 rw[List.all_eq_true]
 exact fun j hj=>h2 j (List.mem_range.1 hj)
theorem eqRs_f {l u:List TA} {j:Nat} (hj:j<l.length) (h:eqP l u j=false):eqRs l u=false:=by
 unfold eqRs
 have:(List.range l.length).all (eqP l u)=false:=by
  rw[List.all_eq_false]
  exact ⟨j,List.mem_range.2 hj,by rw[h];decide⟩
 rw[this]
 cases decide (l.length=u.length)<;>rfl
theorem eqP_refl (l:List TA) (j:Nat):eqP l l j=true:=by
 unfold eqP eqTA
 rw[decide_eq_true rfl,decide_eq_true rfl,(sameT_iff _ _).2 fun i _=>rfl];rfl
theorem xy_good {l:List TA} (g:Good l):∀k,k<l.length→XY (at' l k):=fun k hk=>by
 have:=good_xy g hk
 exact ⟨by omega,by omega⟩
def cz_R86 (l u:List TA) (k:Nat):Cz:={
 ct:=(fun f=>match f with
 |_=>none)
 eq:=(fun t=>match t with
 |42=>some (fun _ _=>eqP l u k)
 |_=>none)
 raw:=[],sym:=[18,19,22,23],nf:=[(19,.c (.agg (el (at' l k)))),(23,.c (.agg (el (at' u k))))],ap:=true,off:=[],on:=[],lp:=fun _=>none,un:=0}
set_option maxRecDepth 100000 in
theorem R86 (l u:List TA) (k:Nat)  (K:Exit→St→Prop) (h:HB (decide ((Nat.cast k:Int)<(Nat.cast l.length:Int))) (InR ((Nat.cast k:Int)) l.length∧((Nat.cast k:Int)).toNat*258+258≤(rws l).length∧Le (ag (List.take 258 (List.drop (((Nat.cast k:Int)).toNat*258) (rws l)))) (ag (el (at' l k)))∧InR ((Nat.cast k:Int)) u.length∧((Nat.cast k:Int)).toNat*258+258≤(rws u).length∧Le (ag (List.take 258 (List.drop (((Nat.cast k:Int)).toNat*258) (rws u)))) (ag (el (at' u k)))∧EqOK Tryz.prog 42 (el (at' l k)) (el (at' u k)) (eqP l u k)∧HB (!eqP l u k) (wkK 2 K Exit.ret (St.mk [(0,SV.c (Cp.l (Leaf.o 0 l.length))),(1,SV.c (Cp.l (Leaf.o 1 u.length))),(4,bv false),(12,iv IntKind.i64 (Nat.cast l.length:Int)),(13,iv IntKind.i64 (Nat.cast k:Int))] [(0,some (Blk.mk (rws l) (BT.r 42 258 0))),(1,some (Blk.mk (rws u) (BT.r 42 258 1)))] 2 26 [] 2)) (IntKind.i64.wrap ((Nat.cast k:Int)+1)=(Nat.cast k:Int)+1∧RoundTo Tryz.prog ((getLoop 4 (Tryz.f86.body.getD Code.skip)).getD Code.skip) 2 (wkK 2 K) (St.mk [(0,SV.c (Cp.l (Leaf.o 0 l.length))),(1,SV.c (Cp.l (Leaf.o 1 u.length))),(4,SV.u),(12,iv IntKind.i64 (Nat.cast l.length:Int)),(13,iv IntKind.i64 ((Nat.cast k:Int)+1))] [(0,some (Blk.mk (rws l) (BT.r 42 258 0))),(1,some (Blk.mk (rws u) (BT.r 42 258 1)))] 2 26 [] 2))) (wkK 2 K (Exit.exit 0) (St.mk [(0,SV.c (Cp.l (Leaf.o 0 l.length))),(1,SV.c (Cp.l (Leaf.o 1 u.length))),(4,SV.u),(12,iv IntKind.i64 (Nat.cast l.length:Int)),(13,iv IntKind.i64 (Nat.cast k:Int))] [(0,some (Blk.mk (rws l) (BT.r 42 258 0))),(1,some (Blk.mk (rws u) (BT.r 42 258 1)))] 2 26 [] 2))):WPL Tryz.prog ((getLoop 4 (Tryz.f86.body.getD .skip)).getD .skip) (I86 l u k) (wkK 2 K):=
 wp_roundT [0,1,4,12,13] [0,1] (cx:=cz_R86 l u k) rfl (of_eq (by kernel_rfl) h)
set_option maxRecDepth 100000 in
set_option maxHeartbeats 4000000 in
theorem L86 (l u:List TA) (hl:∀k,k<l.length→XY (at' l k)) (hu:∀k,k<u.length→XY (at' u k)) (he:l.length=u.length) (h4:l.length≤1024):∀(m k:Nat),l.length-k=m→k≤l.length→(∀j,j<k→eqP l u j=true)→∀(K:Exit→St→Prop),((∀j,j<l.length→eqP l u j=true)→K (.exit 0) (I86 l u l.length))→(∀j,j<l.length→eqP l u j=false→K .ret (Q86))→WPL Tryz.prog ((getLoop 4 (Tryz.f86.body.getD .skip)).getD .skip) (I86 l u k) (wkK 2 K)
 |0,k,hm,hk,hall,K,hK,hR=>by
  have e:k=l.length:=by omega
  subst e
  refine R86 l u _ K (HB.mk (fun hne=>absurd (of_decide_eq_true hne) (by omega)) (fun he=>?_))
  exact wkK.to (I86 l u _) (Nat.le_refl _) (by kernel_rfl) (wkE_cons (LeN.sl (by kernel_rfl) rfl) (wkE_cons (LeN.sl (by kernel_rfl) rfl) (wkE_cons (LeN.sl (by kernel_rfl) rfl) (wkE_cons (LeN.sl (by kernel_rfl) rfl) trivial)))) (wkH_cons (BkN.plain (cs:=rws l) (b:=.r 42 258 0) (by kernel_rfl) (rfl) (plain_rws _) (by kernel_rfl)) (wkH_cons (BkN.plain (cs:=rws u) (b:=.r 42 258 1) (by kernel_rfl) (rfl) (plain_rws _) (by kernel_rfl)) trivial)) (hK hall)
 |m+1,k,hm,hk,hall,K,hK,hR=>by
  refine R86 l u k K (HB.mk (fun hne=>?_) (fun he=>absurd (show ((k:Nat):Int)<(l.length:Nat) by omega) (of_decide_eq_false he)))
  have hlt:k<l.length:=by omega
  repeat' (first|exact trivial|with_reducible apply And.intro|(with_reducible apply HB.mk)|with_reducible intro _)
  all_goals first
   |(exact ⟨by omega,by omega⟩)
   |((rw[rws_len,tn];omega))
   |((refine Le.of ?_;simp only[tn,Nat.zero_add,Nat.add_zero];rw[rws_at hlt]))
   |((refine Le.of ?_;simp only[tn,Nat.zero_add,Nat.add_zero];rw[rws_at (by omega)]))
   |(exact eq42 (hl k hlt) (hu k (by omega)))
   |(have hcnd:(!eqP l u k)=false:=(by with_reducible assumption);(with_reducible refine RoundTo.toN 2 (I86 l u (k+1)) ?_ ?_ ?_ ?_ ?_);exact Nat.le_refl _;kernel_rfl;exact (wkE_cons (LeN.sl (by kernel_rfl) rfl) (wkE_cons (LeN.sl (by kernel_rfl) rfl) (wkE_cons (LeN.sl (by kernel_rfl) rfl) (wkE_cons (LeN.sl (by kernel_rfl) rfl) trivial))));exact (wkH_cons (BkN.plain (cs:=rws l) (b:=.r 42 258 0) (by kernel_rfl) (rfl) (plain_rws _) (by kernel_rfl)) (wkH_cons (BkN.plain (cs:=rws u) (b:=.r 42 258 1) (by kernel_rfl) (rfl) (plain_rws _) (by kernel_rfl)) trivial));exact (L86 l u hl hu he h4 m (k+1) (by omega) (by omega) (fun j hj=>by rcases Nat.lt_or_ge j k with h|h;exact hall j h;have e:j=k:=(by omega);subst e;exact (not_t hcnd)) K hK hR))
   |(exact wkK.to (Q86) (Nat.le_refl _) (by kernel_rfl) (wkE_cons (LeN.sl (by kernel_rfl) rfl) trivial) trivial (hR k hlt ((not_f (by with_reducible assumption)))))
   |(exact okw _ (by omega) (by omega))
theorem enters86:Enters Tryz.prog 86:=fun args w=>by go_simp
def cz_C86 (l u:List TA):Cz:={
 ct:=(fun f=>match f with
 |_=>none)
 eq:=(fun t=>match t with
 |_=>none)
 raw:=[],sym:=[],nf:=[],ap:=true,off:=[],on:=[],lp:=fun r=>match r with|4=>some (fun _ K=>((∀j,j<l.length→eqP l u j=true)→K (.exit 0) (I86 l u l.length))∧(∀j,j<l.length→eqP l u j=false→K .ret (Q86)))|_=>none,un:=0}
set_option maxRecDepth 100000 in
set_option maxHeartbeats 400000 in
theorem C86 (l u:List TA) (hl:∀k,k<l.length→XY (at' l k)) (hu:∀k,k<u.length→XY (at' u k)) (h4:l.length≤1024):CallOK Tryz.prog 86 [.c (.l (.o 0 l.length)),.c (.l (.o 1 u.length))] [(0,⟨rws l,.r 42 258 0⟩),(1,⟨rws u,.r 42 258 1⟩)] 2 (bv (eqRs l u)) [] 0:=by
 refine call_ok (cx:=cz_C86 l u) (nm:=[]) rfl Tryz.func86 (body:=Tryz.f86.body.getD .skip) rfl enters86 (by unfold inck;simp only[List.all_cons,List.all_nil,blkLt_plain (plain_rws l) (show (BT.rn (rnId 2 0 []) (.r 42 258 0)).isSome=true from rfl),blkLt_plain (plain_rws u) (show (BT.rn (rnId 2 0 []) (.r 42 258 1)).isSome=true from rfl),Bool.and_true,Bool.true_and];kernel_rfl) ?_
 apply of_eq (q:=HB ((Nat.cast l.length:Int) != (Nat.cast u.length:Int)) (Le (bv false) (bv (eqRs l u))∧True) ((LoopOK Tryz.prog ((getLoop 4 (Tryz.f86.body.getD .skip)).getD .skip) (St.mk [(13,iv IntKind.i64 0),(12,iv IntKind.i64 (Nat.cast l.length:Int)),(11,SV.c (Cp.l (Leaf.o 0 l.length))),(10,bv ((Nat.cast l.length:Int) != (Nat.cast u.length:Int))),(9,iv IntKind.i64 (Nat.cast u.length:Int)),(8,SV.c (Cp.l (Leaf.o 1 u.length))),(7,iv IntKind.i64 (Nat.cast l.length:Int)),(6,SV.c (Cp.l (Leaf.o 0 l.length))),(4,bv false),(0,SV.c (Cp.l (Leaf.o 0 l.length))),(1,SV.c (Cp.l (Leaf.o 1 u.length)))] [(0,some (Blk.mk (rws l) (BT.r 42 258 0))),(1,some (Blk.mk (rws u) (BT.r 42 258 1)))] 2 26 [] 2) fun K=>((∀(j:Nat),j<l.length→eqP l u j=true)→K (Exit.exit 0) (I86 l u l.length))∧∀(j:Nat),j<l.length→eqP l u j=false→K Exit.ret Q86)∧((∀(j:Nat),j<l.length→eqP l u j=true)→Le (bv true) (bv (eqRs l u))∧True)∧∀(j:Nat),j<l.length→eqP l u j=false→Le (bv false) (bv (eqRs l u))∧True)) (by kernel_rfl)
 repeat' (first|exact trivial|with_reducible apply And.intro|(with_reducible apply HB.mk)|with_reducible intro _)
 all_goals first
  |(exact LoopOK.mk (I86 l u 0) rfl (by kernel_rfl) (wkE_cons (LeN.sl (by kernel_rfl) rfl) (wkE_cons (LeN.sl (by kernel_rfl) rfl) (wkE_cons (LeN.sl (by kernel_rfl) rfl) (wkE_cons (LeN.sl (by kernel_rfl) rfl) trivial)))) (wkH_cons (BkN.plain (cs:=rws l) (b:=.r 42 258 0) (by kernel_rfl) (rfl) (plain_rws _) (by kernel_rfl)) (wkH_cons (BkN.plain (cs:=rws u) (b:=.r 42 258 1) (by kernel_rfl) (rfl) (plain_rws _) (by kernel_rfl)) trivial)) (fun K hT=>L86 l u hl hu (by have:((l.length:Nat):Int)=((u.length:Nat):Int):=(by simpa using ((by with_reducible assumption):(((l.length:Nat):Int) != ((u.length:Nat):Int))=false));omega) h4 _ 0 rfl (Nat.zero_le _) (fun j hj=>absurd hj (Nat.not_lt_zero j)) K hT.1 hT.2))
  |((with_reducible refine Le.bool ?_;exact (eqRs_len (by with_reducible assumption)).symm))
  |((with_reducible refine Le.bool ?_;exact (eqRs_t (by with_reducible assumption) (by with_reducible assumption)).symm))
  |((with_reducible refine Le.bool ?_;exact (eqRs_f (by with_reducible assumption) (by with_reducible assumption)).symm))
theorem C86g (l u:List TA) (gl:Good l) (gu:Good u) (i j n:Nat) (h1:i<n) (h2:j<n) (h3:i≠j):CallOK Tryz.prog 86 [.c (.l (.o i l.length)),.c (.l (.o j u.length))] [(i,⟨rws l,.r 42 258 i⟩),(j,⟨rws u,.r 42 258 j⟩)] n (bv (eqRs l u)) [] 0:=by
 have key:=CallOKd.at2 (C86 l u (xy_good gl) (xy_good gu) gl.len) i j n h1 h2 h3
 simp only[List.map_cons,List.map_nil,Blk.ren,SV.ren,Cp.ren,Leaf.ren,BT.ren,ren_plain (plain_rws _)] at key
 exact key
theorem enters31:Enters Tryz.prog 31:=fun args w=>by go_simp
def cz_C31 (l u:List TA):Cz:={
 ct:=(fun f=>match f with
 |86=>some fun _ _S ar=>match ar with | [.c (.l (.o i _)),.c (.l (.o j _))]=>some {v:=bv (eqRs l u),rd:=[i,j],wr:=[],nw:=0}|_=>none
 |87=>some fun _ _S ar=>match ar with | [.c (.agg [.o i n])]=>some {v:=.c (.l (.o i n)),rd:=[i],wr:=[],nw:=0}|_=>none
 |_=>none)
 eq:=(fun t=>match t with
 |_=>none)
 raw:=[],sym:=[],nf:=[],ap:=true,off:=[],on:=[],lp:=fun _=>none,un:=0}
set_option maxRecDepth 100000 in
set_option maxHeartbeats 400000 in
theorem C31 (l u:List TA) (gl:Good l) (gu:Good u):CallOK Tryz.prog 31 [.c (.agg [.o 0 l.length]),.c (.agg [.o 1 u.length])] [(0,⟨rws l,.r 42 258 0⟩),(1,⟨rws u,.r 42 258 1⟩)] 2 (bv (eqRs l u)) [] 0:=by
 refine call_ok (cx:=cz_C31 l u) (nm:=[]) rfl Tryz.func31 (body:=Tryz.f31.body.getD .skip) rfl enters31 (by unfold inck;simp only[List.all_cons,List.all_nil,blkLt_plain (plain_rws l) (show (BT.rn (rnId 2 0 []) (.r 42 258 0)).isSome=true from rfl),blkLt_plain (plain_rws u) (show (BT.rn (rnId 2 0 []) (.r 42 258 1)).isSome=true from rfl),Bool.and_true,Bool.true_and];kernel_rfl) ?_
 apply of_eq (q:=CallOKd Tryz.prog 87 [] [ag [Leaf.o 0 l.length]] [(0,Blk.mk (rws l) (BT.r 42 258 0))] 4 (SV.c (Cp.l (Leaf.o 0 l.length))) [] 0∧CallOKd Tryz.prog 87 [] [ag [Leaf.o 1 u.length]] [(1,Blk.mk (rws u) (BT.r 42 258 1))] 4 (SV.c (Cp.l (Leaf.o 1 u.length))) [] 0∧CallOKd Tryz.prog 86 [] [SV.c (Cp.l (Leaf.o 0 l.length)),SV.c (Cp.l (Leaf.o 1 u.length))] [(0,Blk.mk (rws l) (BT.r 42 258 0)),(1,Blk.mk (rws u) (BT.r 42 258 1))] 4 (bv (eqRs l u)) [] 0∧Le (bv (eqRs l u)) (bv (eqRs l u))∧True) (by kernel_rfl)
 repeat' (first|exact trivial|with_reducible apply And.intro|(with_reducible apply HB.mk)|with_reducible intro _)
 all_goals first
  |(with_reducible exact Le.refl _)
  |(((with_reducible refine C86g l u gl gu _ _ _ ?_ ?_ ?_)<;>omega))
  |((first|exact tiles_any l gl _ _ (by omega)|exact tiles_any u gu _ _ (by omega)))
theorem equal_any (l u:List TA) (gl:Good l) (gu:Good u) (i j n:Nat) (h1:i<n) (h2:j<n) (h3:i≠j):CallOK Tryz.prog 31 [.c (.agg [.o i l.length]),.c (.agg [.o j u.length])] [(i,⟨rws l,.r 42 258 i⟩),(j,⟨rws u,.r 42 258 j⟩)] n (bv (eqRs l u)) [] 0:=by
 have key:=CallOKd.at2 (C31 l u gl gu) i j n h1 h2 h3
 simp only[List.map_cons,List.map_nil,Blk.ren,SV.ren,Cp.ren,Leaf.ren,BT.ren,ren_plain (plain_rws _)] at key
 exact key
theorem eqRs_refl (l:List TA):eqRs l l=true:=by
 unfold eqRs
 rw[decide_eq_true rfl]
 show List.all _ _=true
 rw[List.all_eq_true]
 exact fun j _=>eqP_refl l j
end Ab
end Go.Proofs.YtpdckpifhniioaaGreat
end
