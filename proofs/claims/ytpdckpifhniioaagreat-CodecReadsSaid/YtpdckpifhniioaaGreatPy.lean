/- Part 25 of what CodecReads rests on. -/
import Derived.Test.YtpdckpifhniioaaGreatPx
section
set_option linter.unusedVariables false
set_option linter.unusedSimpArgs false
namespace Go.Proofs.YtpdckpifhniioaaGreat
open Go.RowKit
namespace Ab
attribute [local irreducible] CallOKd
structure R4 where
 x0:Int
 y0:Int
 x1:Int
 y1:Int
def emp (r:R4):Bool:=bif decide (r.x0≥r.x1) then true else decide (r.y0≥r.y1)
def nrm (r:R4):R4:=bif emp r then R4.mk 0 0 0 0 else r
def isx (a b:R4):R4:=nrm ⟨imax a.x0 b.x0,imax a.y0 b.y0,imin a.x1 b.x1,imin a.y1 b.y1⟩
def ofP (x y:Int):R4:=⟨8*x,8*y,8*x+8,8*y+8⟩
def wR (c:R4) (x y:Int):Bool:=!emp (isx (ofP x y) c)
theorem nrm_t {r:R4} (h:emp r=true):nrm r=R4.mk 0 0 0 0:=by unfold nrm;rw[h];rfl
theorem nrm_f {r:R4} (h:emp r=false):nrm r=r:=by unfold nrm;rw[h];rfl
theorem enters28:Enters Tryz.prog 28:=fun args w=>by go_simp
def cz_C28:Cz:={
 ct:=(fun f=>match f with
 |_=>none)
 eq:=(fun t=>match t with
 |_=>none)
 raw:=[],sym:=[],nf:=[],ap:=true,off:=[],on:=[],lp:=fun _=>none,un:=0}
set_option maxRecDepth 100000 in
set_option maxHeartbeats 400000 in
theorem C28 (r:R4)  (n:Nat):CallOK Tryz.prog 28 [ag [li r.x0,li r.y0,li r.x1,li r.y1]] [] n (bv (emp r)) [] 0:=by
 refine CallOK.any ?_ (by kernel_rfl) (by kernel_rfl) n
 refine call_ok (cx:=cz_C28) (nm:=[]) rfl Tryz.func28 (body:=Tryz.f28.body.getD .skip) rfl enters28 (by kernel_rfl) ?_
 apply of_eq (q:=((!decide (r.x0≥r.x1))=true→(!decide (r.x0≥r.x1))=true∧True)∧((!decide (r.x0≥r.x1))=true→(!decide (r.x0≥r.x1))=true∧True)∧((!decide (r.x0≥r.x1))=true→(!decide (r.x0≥r.x1))=true∧(!decide (r.x0≥r.x1))=true∧True)∧(decide (r.x0≥r.x1)=false→(!decide (r.x0≥r.x1))=true)∧Le (bv (bif decide (r.x0≥r.x1) then true else decide (r.y0≥r.y1))) (bv (emp r))∧True) (by kernel_rfl)
 repeat' (first|exact trivial|with_reducible apply And.intro|(with_reducible apply HB.mk)|with_reducible intro _)
 all_goals first
  |(with_reducible assumption)
  |(exact Le.bool rfl)
  |(simp only[*,Bool.and_self,Bool.not_false,Bool.not_true];done)
theorem enters85:Enters Tryz.prog 85:=fun args w=>by go_simp
def cz_C85 (r:R4):Cz:={
 ct:=(fun f=>match f with
 |28=>some fun _ _S ar=>match ar with | [.c (.agg [.v (.int _ a0),.v (.int _ a1),.v (.int _ a2),.v (.int _ a3)])]=>some {v:=bv (emp ⟨a0,a1,a2,a3⟩),rd:=[],wr:=[],nw:=0}|_=>none
 |_=>none)
 eq:=(fun t=>match t with
 |_=>none)
 raw:=[],sym:=[],nf:=[(4,bv (emp r))],ap:=true,off:=[],on:=[],lp:=fun _=>none,un:=0,wh:=[66]}
set_option maxRecDepth 100000 in
set_option maxHeartbeats 400000 in
theorem C85 (r:R4)  (n:Nat):CallOK Tryz.prog 85 [ag [li r.x0,li r.y0,li r.x1,li r.y1]] [] n (ag [li (nrm r).x0,li (nrm r).y0,li (nrm r).x1,li (nrm r).y1]) [] 0:=by
 refine CallOK.any ?_ (by kernel_rfl) (by kernel_rfl) n
 refine call_ok (cx:=cz_C85 r) (nm:=[]) rfl Tryz.func85 (body:=Tryz.f85.body.getD .skip) rfl enters85 (by kernel_rfl) ?_
 apply of_eq (q:=CallOKd Tryz.prog 28 [] [ag [li r.x0,li r.y0,li r.x1,li r.y1]] [] 2 (bv (emp r)) [] 0∧Le (bv (emp r)) (bv (emp r))∧HB (emp r) (0=0∧4=4∧Le (ag [li 0,li 0,li 0,li 0]) (ag [li (nrm r).x0,li (nrm r).y0,li (nrm r).x1,li (nrm r).y1])∧True) (0=0∧4=4∧Le (ag [li r.x0,li r.y0,li r.x1,li r.y1]) (ag [li (nrm r).x0,li (nrm r).y0,li (nrm r).x1,li (nrm r).y1])∧True)) (by kernel_rfl)
 repeat' (first|exact trivial|with_reducible apply And.intro|(with_reducible apply HB.mk)|with_reducible intro _)
 all_goals first
  |(with_reducible exact Le.refl _)
  |(with_reducible rfl)
  |((with_reducible exact C28 ⟨_,_,_,_⟩ _))
  |((refine Le.of ?_;rw[nrm_t (by with_reducible assumption)];try rfl))
  |((refine Le.of ?_;rw[nrm_f (by with_reducible assumption)];try rfl))
theorem enters29:Enters Tryz.prog 29:=fun args w=>by go_simp
def cz_C29:Cz:={
 ct:=(fun f=>match f with
 |85=>some fun _ _S ar=>match ar with | [.c (.agg [.v (.int _ a0),.v (.int _ a1),.v (.int _ a2),.v (.int _ a3)])]=>some {v:=ag [li (nrm ⟨a0,a1,a2,a3⟩).x0,li (nrm ⟨a0,a1,a2,a3⟩).y0,li (nrm ⟨a0,a1,a2,a3⟩).x1,li (nrm ⟨a0,a1,a2,a3⟩).y1],rd:=[],wr:=[],nw:=0}|_=>none
 |_=>none)
 eq:=(fun t=>match t with
 |_=>none)
 raw:=[],sym:=[],nf:=[],ap:=true,off:=[],on:=[],lp:=fun _=>none,un:=0,wh:=[66]}
set_option maxRecDepth 100000 in
set_option maxHeartbeats 400000 in
theorem C29 (a b:R4)  (n:Nat):CallOK Tryz.prog 29 [ag [li a.x0,li a.y0,li a.x1,li a.y1],ag [li b.x0,li b.y0,li b.x1,li b.y1]] [] n (ag [li (isx a b).x0,li (isx a b).y0,li (isx a b).x1,li (isx a b).y1]) [] 0:=by
 refine CallOK.any ?_ (by kernel_rfl) (by kernel_rfl) n
 refine call_ok (cx:=cz_C29) (nm:=[]) rfl Tryz.func29 (body:=Tryz.f29.body.getD .skip) rfl enters29 (by kernel_rfl) ?_
 apply of_eq (q:=CallOKd Tryz.prog 85 [] [ag [li (imax a.x0 b.x0),li (imax a.y0 b.y0),li (imin a.x1 b.x1),li (imin a.y1 b.y1)]] [] 3 (ag [li (nrm (R4.mk (imax a.x0 b.x0) (imax a.y0 b.y0) (imin a.x1 b.x1) (imin a.y1 b.y1))).x0,li (nrm (R4.mk (imax a.x0 b.x0) (imax a.y0 b.y0) (imin a.x1 b.x1) (imin a.y1 b.y1))).y0,li (nrm (R4.mk (imax a.x0 b.x0) (imax a.y0 b.y0) (imin a.x1 b.x1) (imin a.y1 b.y1))).x1,li (nrm (R4.mk (imax a.x0 b.x0) (imax a.y0 b.y0) (imin a.x1 b.x1) (imin a.y1 b.y1))).y1]) [] 0∧0=0∧4=4∧Le (ag [li (nrm (R4.mk (imax a.x0 b.x0) (imax a.y0 b.y0) (imin a.x1 b.x1) (imin a.y1 b.y1))).x0,li (nrm (R4.mk (imax a.x0 b.x0) (imax a.y0 b.y0) (imin a.x1 b.x1) (imin a.y1 b.y1))).y0,li (nrm (R4.mk (imax a.x0 b.x0) (imax a.y0 b.y0) (imin a.x1 b.x1) (imin a.y1 b.y1))).x1,li (nrm (R4.mk (imax a.x0 b.x0) (imax a.y0 b.y0) (imin a.x1 b.x1) (imin a.y1 b.y1))).y1]) (ag [li (isx a b).x0,li (isx a b).y0,li (isx a b).x1,li (isx a b).y1])∧True) (by kernel_rfl)
 repeat' (first|exact trivial|with_reducible apply And.intro|(with_reducible apply HB.mk)|with_reducible intro _)
 all_goals first
  |(with_reducible rfl)
  |((with_reducible exact C85 ⟨_,_,_,_⟩ _))
  |(exact Le.of rfl)
  |(exact Le.of rfl)
theorem enters30:Enters Tryz.prog 30:=fun args w=>by go_simp
def cz_C30:Cz:={
 ct:=(fun f=>match f with
 |_=>none)
 eq:=(fun t=>match t with
 |_=>none)
 raw:=[],sym:=[],nf:=[],ap:=true,off:=[],on:=[],lp:=fun _=>none,un:=0,wh:=[66]}
set_option maxRecDepth 100000 in
set_option maxHeartbeats 400000 in
theorem C30 (x y:Int) (hx : -1000000≤x∧x≤1000000) (hy : -1000000≤y∧y≤1000000) (n:Nat):CallOK Tryz.prog 30 [ag [li x,li y]] [] n (ag [li (ofP x y).x0,li (ofP x y).y0,li (ofP x y).x1,li (ofP x y).y1]) [] 0:=by
 refine CallOK.any ?_ (by kernel_rfl) (by kernel_rfl) n
 refine call_ok (cx:=cz_C30) (nm:=[]) rfl Tryz.func30 (body:=Tryz.f30.body.getD .skip) rfl enters30 (by kernel_rfl) ?_
 apply of_eq (q:=IntKind.i64.wrap (8*x)=8*x∧IntKind.i64.wrap (8*y)=8*y∧IntKind.i64.wrap (8*x+8)=8*x+8∧IntKind.i64.wrap (8*y+8)=8*y+8∧0=0∧4=4∧Le (ag [li (8*x),li (8*y),li (8*x+8),li (8*y+8)]) (ag [li (ofP x y).x0,li (ofP x y).y0,li (ofP x y).x1,li (ofP x y).y1])∧True) (by kernel_rfl)
 repeat' (first|exact trivial|with_reducible apply And.intro|(with_reducible apply HB.mk)|with_reducible intro _)
 all_goals first
  |(with_reducible rfl)
  |((exact okw _ (by omega) (by omega)))
  |(exact Le.of rfl)
  |(exact Le.of rfl)
theorem enters82:Enters Tryz.prog 82:=fun args w=>by go_simp
def cz_C82:Cz:={
 ct:=(fun f=>match f with
 |28=>some fun _ _S ar=>match ar with | [.c (.agg [.v (.int _ a0),.v (.int _ a1),.v (.int _ a2),.v (.int _ a3)])]=>some {v:=bv (emp ⟨a0,a1,a2,a3⟩),rd:=[],wr:=[],nw:=0}|_=>none
 |29=>some fun _ _S ar=>match ar with | [.c (.agg [.v (.int _ a0),.v (.int _ a1),.v (.int _ a2),.v (.int _ a3)]),.c (.agg [.v (.int _ b0),.v (.int _ b1),.v (.int _ b2),.v (.int _ b3)])]=>some {v:=ag [li (isx ⟨a0,a1,a2,a3⟩ ⟨b0,b1,b2,b3⟩).x0,li (isx ⟨a0,a1,a2,a3⟩ ⟨b0,b1,b2,b3⟩).y0,li (isx ⟨a0,a1,a2,a3⟩ ⟨b0,b1,b2,b3⟩).x1,li (isx ⟨a0,a1,a2,a3⟩ ⟨b0,b1,b2,b3⟩).y1],rd:=[],wr:=[],nw:=0}|_=>none
 |30=>some fun _ _S ar=>match ar with | [.c (.agg [.v (.int _ X),.v (.int _ Y)])]=>some {v:=ag [li (ofP X Y).x0,li (ofP X Y).y0,li (ofP X Y).x1,li (ofP X Y).y1],rd:=[],wr:=[],nw:=0}|_=>none
 |_=>none)
 eq:=(fun t=>match t with
 |_=>none)
 raw:=[],sym:=[],nf:=[],ap:=true,off:=[],on:=[],lp:=fun _=>none,un:=0}
set_option maxRecDepth 100000 in
set_option maxHeartbeats 400000 in
theorem C82 (c:R4) (x y:Int) (hx : -1000000≤x∧x≤1000000) (hy : -1000000≤y∧y≤1000000):CallOK Tryz.prog 82 [ag [li x,li y],.c (.l (.p 0 0))] [(0,⟨[li c.x0,li c.y0,li c.x1,li c.y1],.t 66⟩)] 1 (bv (wR c x y)) [] 0:=by
 refine call_ok (cx:=cz_C82) (nm:=[]) rfl Tryz.func82 (body:=Tryz.f82.body.getD .skip) rfl enters82 (by kernel_rfl) ?_
 apply of_eq (q:=CallOKd Tryz.prog 30 [] [ag [li x,li y]] [] 2 (ag [li (ofP x y).x0,li (ofP x y).y0,li (ofP x y).x1,li (ofP x y).y1]) [] 0∧CallOKd Tryz.prog 29 [] [ag [li (ofP x y).x0,li (ofP x y).y0,li (ofP x y).x1,li (ofP x y).y1],ag [li c.x0,li c.y0,li c.x1,li c.y1]] [] 2 (ag [li (isx (ofP x y) c).x0,li (isx (ofP x y) c).y0,li (isx (ofP x y) c).x1,li (isx (ofP x y) c).y1]) [] 0∧CallOKd Tryz.prog 28 [] [ag [li (isx (ofP x y) c).x0,li (isx (ofP x y) c).y0,li (isx (ofP x y) c).x1,li (isx (ofP x y) c).y1]] [] 2 (bv (emp (isx (ofP x y) c))) [] 0∧Le (bv !emp (isx (ofP x y) c)) (bv (wR c x y))∧True) (by kernel_rfl)
 repeat' (first|exact trivial|with_reducible apply And.intro|(with_reducible apply HB.mk)|with_reducible intro _)
 all_goals first
  |((with_reducible exact C28 ⟨_,_,_,_⟩ _))
  |((with_reducible exact C29 ⟨_,_,_,_⟩ ⟨_,_,_,_⟩ _))
  |(((with_reducible refine C30 _ _ ?_ ?_ _)<;>omega))
  |(exact Le.bool rfl)
theorem C82g (c:R4) (x y:Int) (hx : -1000000≤x∧x≤1000000) (hy : -1000000≤y∧y≤1000000) (id n:Nat) (hi:id<n):CallOK Tryz.prog 82 [ag [li x,li y],.c (.l (.p id 0))] [(id,⟨[li c.x0,li c.y0,li c.x1,li c.y1],.t 66⟩)] n (bv (wR c x y)) [] 0:=CallOK.at1 (C82 c x y hx hy) id n hi
end Ab
end Go.Proofs.YtpdckpifhniioaaGreat
end
section
set_option linter.unusedVariables false
set_option linter.unusedSimpArgs false
namespace Go.Proofs.YtpdckpifhniioaaGreat
open Go.RowKit
namespace Ab
attribute [local irreducible] CallOKd
attribute [local irreducible] tl rws
def I80b (L:List EN) (d:Int) (c:R4) (k:Nat):St:=⟨[(19,iv .i64 (k:Nat)),(18,iv .i64 (L.length:Nat)),(17,.c (.l (.o 1 L.length))),(0,.c (.l (.p 0 0))),(1,.c (.l (.f 82 [(2,0)]))),(4,.c (.l (.p 3 0))),(6,.c (.l (.p 4 0)))],[(0,some ⟨[.o 1 L.length,li (d+(smC L (wR c) k))],.t 125⟩),(1,some ⟨ens L,.r 123 8 1⟩),(2,some ⟨[li c.x0,li c.y0,li c.x1,li c.y1],.t 66⟩),(3,some ⟨[.v (.slice none 0 0)],.t 26⟩),(4,some ⟨[.o 5 (smL L (wR c) k).length],.t 26⟩),(5,some ⟨rws (smL L (wR c) k),.r 42 258 5⟩)],6,49,[5,4,3,0],(3)⟩
def Q80b (L:List EN) (d:Int) (c:R4) (k:Nat):St:=⟨[(4,.c (.l (.p 3 0))),(5,iv .i64 (dcE (ea L k)))],[(0,some ⟨[.o 1 L.length,li (d+((smC L (wR c) k)+1))],.t 125⟩),(3,some ⟨[.v (.slice none 0 0)],.t 26⟩)],6,49,[5,4,3,0],(3)⟩
def cz_R80b (L:List EN) (d:Int) (c:R4) (k:Nat):Cz:={
 ct:=(fun f=>match f with
 |79=>some fun _ _S ar=>match ar with | [.c (.l (.p i _)),.c (.agg _)]=>some {v:=.tup [.agg (tl (dcT (ea L k))),.l (li (dcE (ea L k)))],rd:=[i],wr:=[(i,⟨[.o 1 L.length,li (d+(smC L (wR c) k)+1)],.t 125⟩)],nw:=0}|_=>none
 |82=>some fun _ap _S ar=>match _ap,ar with
  |_,[.c (.agg [.v (.int _ x),.v (.int _ y)]),.c (.l (.p i _))]=>some {v:=bv (wR c x y),rd:=[i],wr:=[],nw:=0,dc:=[]}
  |_,_=>none
 |_=>none)
 eq:=(fun t=>match t with
 |_=>none)
 raw:=[],sym:=[21,22,45],nf:=[(22,.c (.agg (en (ea L k)))),(25,.c (.agg [li (ea L k).X,li (ea L k).Y])),(41,.c (.agg [li (ea L k).X,li (ea L k).Y])),(27,bv (!((wR c) (ea L k).X (ea L k).Y))),(30,.c (.agg (en (ea L k)))),(32,.c (.agg (tl (dcT (ea L k))))),(35,bv (dNz (ea L k))),(42,.c (.agg (tl (dcT (ea L k))))),(43,.c (.agg (el ⟨(ea L k).X,(ea L k).Y,dcT (ea L k)⟩)))],ap:=true,off:=[],on:=[],lp:=fun _=>none,un:=0,wh:=[38,123]}
set_option maxRecDepth 100000 in
theorem R80b (L:List EN) (d:Int) (c:R4) (k:Nat)  (K:Exit→St→Prop) (h:HB (decide ((Nat.cast k:Int)<(Nat.cast L.length:Int))) (InR ((Nat.cast k:Int)) L.length∧((Nat.cast k:Int)).toNat*8+8≤(ens L).length∧Le (ag (List.take 8 (List.drop (((Nat.cast k:Int)).toNat*8) (ens L)))) (ag (en (ea L k)))∧0=0∧8=8∧Le (ag (List.take 2 (en (ea L k)))) (ag [li (ea L k).X,li (ea L k).Y])∧CallOKd Tryz.prog 82 [] [ag [li (ea L k).X,li (ea L k).Y],SV.c (Cp.l (Leaf.p 2 0))] [(2,Blk.mk [li c.x0,li c.y0,li c.x1,li c.y1] (BT.t 66))] 7 (bv (wR c (ea L k).X (ea L k).Y)) [] 0∧Le (bv !wR c (ea L k).X (ea L k).Y) (bv !wR c (ea L k).X (ea L k).Y)∧HB (!wR c (ea L k).X (ea L k).Y) (IntKind.i64.wrap ((Nat.cast k:Int)+1)=(Nat.cast k:Int)+1∧RoundTo Tryz.prog ((getLoop 5 (Tryz.f80.body.getD Code.skip)).getD Code.skip) 6 (wkK 6 K) (St.mk [(0,SV.c (Cp.l (Leaf.p 0 0))),(1,SV.c (Cp.l (Leaf.f 82 [(2,0)]))),(4,SV.c (Cp.l (Leaf.p 3 0))),(5,SV.u),(6,SV.c (Cp.l (Leaf.p 4 0))),(17,SV.c (Cp.l (Leaf.o 1 L.length))),(18,iv IntKind.i64 (Nat.cast L.length:Int)),(19,iv IntKind.i64 ((Nat.cast k:Int)+1))] [(0,some (Blk.mk [Leaf.o 1 L.length,li (d+smC L (wR c) k)] (BT.t 125))),(1,some (Blk.mk (ens L) (BT.r 123 8 1))),(2,some (Blk.mk [li c.x0,li c.y0,li c.x1,li c.y1] (BT.t 66))),(3,some (Blk.mk [Leaf.v (Value.slice none 0 0)] (BT.t 26))),(4,some (Blk.mk [Leaf.o 5 (smL L (wR c) k).length] (BT.t 26))),(5,some (Blk.mk (rws (smL L (wR c) k)) (BT.r 42 258 5))),(6,some (Blk.mk (en (ea L k)) (BT.t 123))),(7,none),(8,none),(9,none)] 7 49 [6,6,5,4,3,0] 3)) (Le (ag (List.take 8 (en (ea L k)))) (ag (en (ea L k)))∧CallOKd Tryz.prog 79 [] [SV.c (Cp.l (Leaf.p 0 0)),ag (en (ea L k))] [(0,Blk.mk [Leaf.o 1 L.length,li (d+smC L (wR c) k)] (BT.t 125))] 7 (SV.tup [Cp.agg (tl (dcT (ea L k))),Cp.l (li (dcE (ea L k)))]) [(0,Blk.mk [Leaf.o 1 L.length,li (d+smC L (wR c) k+1)] (BT.t 125))] 0∧Le (ag (tl (dcT (ea L k)))) (ag (tl (dcT (ea L k))))∧0=0∧256=256∧Le (bv (dcE (ea L k) != 0)) (bv (dNz (ea L k)))∧HB (dNz (ea L k)) (wkK 6 K Exit.ret (St.mk [(0,SV.c (Cp.l (Leaf.p 0 0))),(1,SV.c (Cp.l (Leaf.f 82 [(2,0)]))),(4,SV.c (Cp.l (Leaf.p 3 0))),(5,iv IntKind.i64 (dcE (ea L k))),(6,SV.c (Cp.l (Leaf.p 4 0))),(17,SV.c (Cp.l (Leaf.o 1 L.length))),(18,iv IntKind.i64 (Nat.cast L.length:Int)),(19,iv IntKind.i64 (Nat.cast k:Int))] [(0,some (Blk.mk [Leaf.o 1 L.length,li (d+smC L (wR c) k+1)] (BT.t 125))),(1,some (Blk.mk (ens L) (BT.r 123 8 1))),(2,some (Blk.mk [li c.x0,li c.y0,li c.x1,li c.y1] (BT.t 66))),(3,some (Blk.mk [Leaf.v (Value.slice none 0 0)] (BT.t 26))),(4,some (Blk.mk [Leaf.o 5 (smL L (wR c) k).length] (BT.t 26))),(5,some (Blk.mk (rws (smL L (wR c) k)) (BT.r 42 258 5))),(6,some (Blk.mk (en (ea L k)) (BT.t 123))),(7,some (Blk.mk (tl (dcT (ea L k))) (BT.t 38))),(8,none),(9,none)] 8 49 [3,7,7,0,6,6,5,4,3,0] 3)) ((Le (ag (List.take 2 (en (ea L k)))) (ag [li (ea L k).X,li (ea L k).Y])∧Le (ag (List.take 256 (tl (dcT (ea L k))))) (ag (tl (dcT (ea L k))))∧Le (ag (splice [li (ea L k).X,li (ea L k).Y,Leaf.v (Value.int IntKind.u8 0),Leaf.v (Value.int IntKind.u8 0),Leaf.v (Value.int IntKind.u8 0),Leaf.v (Value.int IntKind.u8 0),Leaf.v (Value.int IntKind.u8 0),Leaf.v (Value.int IntKind.u8 0),Leaf.v (Value.int IntKind.u8 0),Leaf.v (Value.int IntKind.u8 0),Leaf.v (Value.int IntKind.u8 0),Leaf.v (Value.int IntKind.u8 0),Leaf.v (Value.int IntKind.u8 0),Leaf.v (Value.int IntKind.u8 0),Leaf.v (Value.int IntKind.u8 0),Leaf.v (Value.int IntKind.u8 0),Leaf.v (Value.int IntKind.u8 0),Leaf.v (Value.int IntKind.u8 0),Leaf.v (Value.int IntKind.u8 0),Leaf.v (Value.int IntKind.u8 0),Leaf.v (Value.int IntKind.u8 0),Leaf.v (Value.int IntKind.u8 0),Leaf.v (Value.int IntKind.u8 0),Leaf.v (Value.int IntKind.u8 0),Leaf.v (Value.int IntKind.u8 0),Leaf.v (Value.int IntKind.u8 0),Leaf.v (Value.int IntKind.u8 0),Leaf.v (Value.int IntKind.u8 0),Leaf.v (Value.int IntKind.u8 0),Leaf.v (Value.int IntKind.u8 0),Leaf.v (Value.int IntKind.u8 0),Leaf.v (Value.int IntKind.u8 0),Leaf.v (Value.int IntKind.u8 0),Leaf.v (Value.int IntKind.u8 0),Leaf.v (Value.int IntKind.u8 0),Leaf.v (Value.int IntKind.u8 0),Leaf.v (Value.int IntKind.u8 0),Leaf.v (Value.int IntKind.u8 0),Leaf.v (Value.int IntKind.u8 0),Leaf.v (Value.int IntKind.u8 0),Leaf.v (Value.int IntKind.u8 0),Leaf.v (Value.int IntKind.u8 0),Leaf.v (Value.int IntKind.u8 0),Leaf.v (Value.int IntKind.u8 0),Leaf.v (Value.int IntKind.u8 0),Leaf.v (Value.int IntKind.u8 0),Leaf.v (Value.int IntKind.u8 0),Leaf.v (Value.int IntKind.u8 0),Leaf.v (Value.int IntKind.u8 0),Leaf.v (Value.int IntKind.u8 0),Leaf.v (Value.int IntKind.u8 0),Leaf.v (Value.int IntKind.u8 0),Leaf.v (Value.int IntKind.u8 0),Leaf.v (Value.int IntKind.u8 0),Leaf.v (Value.int IntKind.u8 0),Leaf.v (Value.int IntKind.u8 0),Leaf.v (Value.int IntKind.u8 0),Leaf.v (Value.int IntKind.u8 0),Leaf.v (Value.int IntKind.u8 0),Leaf.v (Value.int IntKind.u8 0),Leaf.v (Value.int IntKind.u8 0),Leaf.v (Value.int IntKind.u8 0),Leaf.v (Value.int IntKind.u8 0),Leaf.v (Value.int IntKind.u8 0),Leaf.v (Value.int IntKind.u8 0),Leaf.v (Value.int IntKind.u8 0),Leaf.v (Value.int IntKind.u8 0),Leaf.v (Value.int IntKind.u8 0),Leaf.v (Value.int IntKind.u8 0),Leaf.v (Value.int IntKind.u8 0),Leaf.v (Value.int IntKind.u8 0),Leaf.v (Value.int IntKind.u8 0),Leaf.v (Value.int IntKind.u8 0),Leaf.v (Value.int IntKind.u8 0),Leaf.v (Value.int IntKind.u8 0),Leaf.v (Value.int IntKind.u8 0),Leaf.v (Value.int IntKind.u8 0),Leaf.v (Value.int IntKind.u8 0),Leaf.v (Value.int IntKind.u8 0),Leaf.v (Value.int IntKind.u8 0),Leaf.v (Value.int IntKind.u8 0),Leaf.v (Value.int IntKind.u8 0),Leaf.v (Value.int IntKind.u8 0),Leaf.v (Value.int IntKind.u8 0),Leaf.v (Value.int IntKind.u8 0),Leaf.v (Value.int IntKind.u8 0),Leaf.v (Value.int IntKind.u8 0),Leaf.v (Value.int IntKind.u8 0),Leaf.v (Value.int IntKind.u8 0),Leaf.v (Value.int IntKind.u8 0),Leaf.v (Value.int IntKind.u8 0),Leaf.v (Value.int IntKind.u8 0),Leaf.v (Value.int IntKind.u8 0),Leaf.v (Value.int IntKind.u8 0),Leaf.v (Value.int IntKind.u8 0),Leaf.v (Value.int IntKind.u8 0),Leaf.v (Value.int IntKind.u8 0),Leaf.v (Value.int IntKind.u8 0),Leaf.v (Value.int IntKind.u8 0),Leaf.v (Value.int IntKind.u8 0),Leaf.v (Value.int IntKind.u8 0),Leaf.v (Value.int IntKind.u8 0),Leaf.v (Value.int IntKind.u8 0),Leaf.v (Value.int IntKind.u8 0),Leaf.v (Value.int IntKind.u8 0),Leaf.v (Value.int IntKind.u8 0),Leaf.v (Value.int IntKind.u8 0),Leaf.v (Value.int IntKind.u8 0),Leaf.v (Value.int IntKind.u8 0),Leaf.v (Value.int IntKind.u8 0),Leaf.v (Value.int IntKind.u8 0),Leaf.v (Value.int IntKind.u8 0),Leaf.v (Value.int IntKind.u8 0),Leaf.v (Value.int IntKind.u8 0),Leaf.v (Value.int IntKind.u8 0),Leaf.v (Value.int IntKind.u8 0),Leaf.v (Value.int IntKind.u8 0),Leaf.v (Value.int IntKind.u8 0),Leaf.v (Value.int IntKind.u8 0),Leaf.v (Value.int IntKind.u8 0),Leaf.v (Value.int IntKind.u8 0),Leaf.v (Value.int IntKind.u8 0),Leaf.v (Value.int IntKind.u8 0),Leaf.v (Value.int IntKind.u8 0),Leaf.v (Value.int IntKind.u8 0),Leaf.v (Value.int IntKind.u8 0),Leaf.v (Value.int IntKind.u8 0),Leaf.v (Value.int IntKind.u8 0),Leaf.v (Value.int IntKind.u8 0),Leaf.v (Value.int IntKind.u8 0),Leaf.v (Value.int IntKind.u8 0),Leaf.v (Value.int IntKind.u8 0),Leaf.v (Value.int IntKind.u8 0),Leaf.v (Value.int IntKind.u8 0),Leaf.v (Value.int IntKind.u8 0),Leaf.v (Value.int IntKind.u8 0),Leaf.v (Value.int IntKind.u8 0),Leaf.v (Value.int IntKind.u8 0),Leaf.v (Value.int IntKind.u8 0),Leaf.v (Value.int IntKind.u8 0),Leaf.v (Value.int IntKind.u8 0),Leaf.v (Value.int IntKind.u8 0),Leaf.v (Value.int IntKind.u8 0),Leaf.v (Value.int IntKind.u8 0),Leaf.v (Value.int IntKind.u8 0),Leaf.v (Value.int IntKind.u8 0),Leaf.v (Value.int IntKind.u8 0),Leaf.v (Value.int IntKind.u8 0),Leaf.v (Value.int IntKind.u8 0),Leaf.v (Value.int IntKind.u8 0),Leaf.v (Value.int IntKind.u8 0),Leaf.v (Value.int IntKind.u8 0),Leaf.v (Value.int IntKind.u8 0),Leaf.v (Value.int IntKind.u8 0),Leaf.v (Value.int IntKind.u8 0),Leaf.v (Value.int IntKind.u8 0),Leaf.v (Value.int IntKind.u8 0),Leaf.v (Value.int IntKind.u8 0),Leaf.v (Value.int IntKind.u8 0),Leaf.v (Value.int IntKind.u8 0),Leaf.v (Value.int IntKind.u8 0),Leaf.v (Value.int IntKind.u8 0),Leaf.v (Value.int IntKind.u8 0),Leaf.v (Value.int IntKind.u8 0),Leaf.v (Value.int IntKind.u8 0),Leaf.v (Value.int IntKind.u8 0),Leaf.v (Value.int IntKind.u8 0),Leaf.v (Value.int IntKind.u8 0),Leaf.v (Value.int IntKind.u8 0),Leaf.v (Value.int IntKind.u8 0),Leaf.v (Value.int IntKind.u8 0),Leaf.v (Value.int IntKind.u8 0),Leaf.v (Value.int IntKind.u8 0),Leaf.v (Value.int IntKind.u8 0),Leaf.v (Value.int IntKind.u8 0),Leaf.v (Value.int IntKind.u8 0),Leaf.v (Value.int IntKind.u8 0),Leaf.v (Value.int IntKind.u8 0),Leaf.v (Value.int IntKind.u8 0),Leaf.v (Value.int IntKind.u8 0),Leaf.v (Value.int IntKind.u8 0),Leaf.v (Value.int IntKind.u8 0),Leaf.v (Value.int IntKind.u8 0),Leaf.v (Value.int IntKind.u8 0),Leaf.v (Value.int IntKind.u8 0),Leaf.v (Value.int IntKind.u8 0),Leaf.v (Value.int IntKind.u8 0),Leaf.v (Value.int IntKind.u8 0),Leaf.v (Value.int IntKind.u8 0),Leaf.v (Value.int IntKind.u8 0),Leaf.v (Value.int IntKind.u8 0),Leaf.v (Value.int IntKind.u8 0),Leaf.v (Value.int IntKind.u8 0),Leaf.v (Value.int IntKind.u8 0),Leaf.v (Value.int IntKind.u8 0),Leaf.v (Value.int IntKind.u8 0),Leaf.v (Value.int IntKind.u8 0),Leaf.v (Value.int IntKind.u8 0),Leaf.v (Value.int IntKind.u8 0),Leaf.v (Value.int IntKind.u8 0),Leaf.v (Value.int IntKind.u8 0),Leaf.v (Value.int IntKind.u8 0),Leaf.v (Value.int IntKind.u8 0),Leaf.v (Value.int IntKind.u8 0),Leaf.v (Value.int IntKind.u8 0),Leaf.v (Value.int IntKind.u8 0),Leaf.v (Value.int IntKind.u8 0),Leaf.v (Value.int IntKind.u8 0),Leaf.v (Value.int IntKind.u8 0),Leaf.v (Value.int IntKind.u8 0),Leaf.v (Value.int IntKind.u8 0),Leaf.v (Value.int IntKind.u8 0),Leaf.v (Value.int IntKind.u8 0),Leaf.v (Value.int IntKind.u8 0),Leaf.v (Value.int IntKind.u8 0),Leaf.v (Value.int IntKind.u8 0),Leaf.v (Value.int IntKind.u8 0),Leaf.v (Value.int IntKind.u8 0),Leaf.v (Value.int IntKind.u8 0),Leaf.v (Value.int IntKind.u8 0),Leaf.v (Value.int IntKind.u8 0),Leaf.v (Value.int IntKind.u8 0),Leaf.v (Value.int IntKind.u8 0),Leaf.v (Value.int IntKind.u8 0),Leaf.v (Value.int IntKind.u8 0),Leaf.v (Value.int IntKind.u8 0),Leaf.v (Value.int IntKind.u8 0),Leaf.v (Value.int IntKind.u8 0),Leaf.v (Value.int IntKind.u8 0),Leaf.v (Value.int IntKind.u8 0),Leaf.v (Value.int IntKind.u8 0),Leaf.v (Value.int IntKind.u8 0),Leaf.v (Value.int IntKind.u8 0),Leaf.v (Value.int IntKind.u8 0),Leaf.v (Value.int IntKind.u8 0),Leaf.v (Value.int IntKind.u8 0),Leaf.v (Value.int IntKind.u8 0),Leaf.v (Value.int IntKind.u8 0),Leaf.v (Value.int IntKind.u8 0),Leaf.v (Value.int IntKind.u8 0),Leaf.v (Value.int IntKind.u8 0),Leaf.v (Value.int IntKind.u8 0),Leaf.v (Value.int IntKind.u8 0),Leaf.v (Value.int IntKind.u8 0),Leaf.v (Value.int IntKind.u8 0),Leaf.v (Value.int IntKind.u8 0),Leaf.v (Value.int IntKind.u8 0),Leaf.v (Value.int IntKind.u8 0),Leaf.v (Value.int IntKind.u8 0),Leaf.v (Value.int IntKind.u8 0),Leaf.v (Value.int IntKind.u8 0),Leaf.v (Value.int IntKind.u8 0),Leaf.v (Value.int IntKind.u8 0),Leaf.v (Value.int IntKind.u8 0),Leaf.v (Value.int IntKind.u8 0),Leaf.v (Value.int IntKind.u8 0),Leaf.v (Value.int IntKind.u8 0),Leaf.v (Value.int IntKind.u8 0)] 2 (tl (dcT (ea L k))))) (ag (el (TA.mk (ea L k).X (ea L k).Y (dcT (ea L k)))))∧(rws (smL L (wR c) k)).length=(smL L (wR c) k).length*258∧258=258∧IntKind.i64.wrap ((Nat.cast k:Int)+1)=(Nat.cast k:Int)+1∧RoundTo Tryz.prog ((getLoop 5 (Tryz.f80.body.getD Code.skip)).getD Code.skip) 6 (wkK 6 K) (St.mk [(0,SV.c (Cp.l (Leaf.p 0 0))),(1,SV.c (Cp.l (Leaf.f 82 [(2,0)]))),(4,SV.c (Cp.l (Leaf.p 3 0))),(5,SV.u),(6,SV.c (Cp.l (Leaf.p 4 0))),(17,SV.c (Cp.l (Leaf.o 1 L.length))),(18,iv IntKind.i64 (Nat.cast L.length:Int)),(19,iv IntKind.i64 ((Nat.cast k:Int)+1))] [(0,some (Blk.mk [Leaf.o 1 L.length,li (d+smC L (wR c) k+1)] (BT.t 125))),(1,some (Blk.mk (ens L) (BT.r 123 8 1))),(2,some (Blk.mk [li c.x0,li c.y0,li c.x1,li c.y1] (BT.t 66))),(3,some (Blk.mk [Leaf.v (Value.slice none 0 0)] (BT.t 26))),(4,some (Blk.mk [Leaf.o 5 ((smL L (wR c) k).length+1)] (BT.t 26))),(5,some (Blk.mk (rws (smL L (wR c) k)++splice zA258 0 (el (TA.mk (ea L k).X (ea L k).Y (dcT (ea L k))))) (BT.r 42 258 5))),(6,some (Blk.mk (en (ea L k)) (BT.t 123))),(7,some (Blk.mk (tl (dcT (ea L k))) (BT.t 38))),(8,some (Blk.mk (splice zA258 0 (el (TA.mk (ea L k).X (ea L k).Y (dcT (ea L k))))) (BT.r 42 258 8))),(9,none)] 9 49 [4,5,8,7,7,0,6,6,5,4,3,0] 3))∧Le (ag (List.take 2 (en (ea L k)))) (ag [li (ea L k).X,li (ea L k).Y])∧Le (ag (List.take 256 (tl (dcT (ea L k))))) (ag (tl (dcT (ea L k))))∧Le (ag (splice [li (ea L k).X,li (ea L k).Y,Leaf.v (Value.int IntKind.u8 0),Leaf.v (Value.int IntKind.u8 0),Leaf.v (Value.int IntKind.u8 0),Leaf.v (Value.int IntKind.u8 0),Leaf.v (Value.int IntKind.u8 0),Leaf.v (Value.int IntKind.u8 0),Leaf.v (Value.int IntKind.u8 0),Leaf.v (Value.int IntKind.u8 0),Leaf.v (Value.int IntKind.u8 0),Leaf.v (Value.int IntKind.u8 0),Leaf.v (Value.int IntKind.u8 0),Leaf.v (Value.int IntKind.u8 0),Leaf.v (Value.int IntKind.u8 0),Leaf.v (Value.int IntKind.u8 0),Leaf.v (Value.int IntKind.u8 0),Leaf.v (Value.int IntKind.u8 0),Leaf.v (Value.int IntKind.u8 0),Leaf.v (Value.int IntKind.u8 0),Leaf.v (Value.int IntKind.u8 0),Leaf.v (Value.int IntKind.u8 0),Leaf.v (Value.int IntKind.u8 0),Leaf.v (Value.int IntKind.u8 0),Leaf.v (Value.int IntKind.u8 0),Leaf.v (Value.int IntKind.u8 0),Leaf.v (Value.int IntKind.u8 0),Leaf.v (Value.int IntKind.u8 0),Leaf.v (Value.int IntKind.u8 0),Leaf.v (Value.int IntKind.u8 0),Leaf.v (Value.int IntKind.u8 0),Leaf.v (Value.int IntKind.u8 0),Leaf.v (Value.int IntKind.u8 0),Leaf.v (Value.int IntKind.u8 0),Leaf.v (Value.int IntKind.u8 0),Leaf.v (Value.int IntKind.u8 0),Leaf.v (Value.int IntKind.u8 0),Leaf.v (Value.int IntKind.u8 0),Leaf.v (Value.int IntKind.u8 0),Leaf.v (Value.int IntKind.u8 0),Leaf.v (Value.int IntKind.u8 0),Leaf.v (Value.int IntKind.u8 0),Leaf.v (Value.int IntKind.u8 0),Leaf.v (Value.int IntKind.u8 0),Leaf.v (Value.int IntKind.u8 0),Leaf.v (Value.int IntKind.u8 0),Leaf.v (Value.int IntKind.u8 0),Leaf.v (Value.int IntKind.u8 0),Leaf.v (Value.int IntKind.u8 0),Leaf.v (Value.int IntKind.u8 0),Leaf.v (Value.int IntKind.u8 0),Leaf.v (Value.int IntKind.u8 0),Leaf.v (Value.int IntKind.u8 0),Leaf.v (Value.int IntKind.u8 0),Leaf.v (Value.int IntKind.u8 0),Leaf.v (Value.int IntKind.u8 0),Leaf.v (Value.int IntKind.u8 0),Leaf.v (Value.int IntKind.u8 0),Leaf.v (Value.int IntKind.u8 0),Leaf.v (Value.int IntKind.u8 0),Leaf.v (Value.int IntKind.u8 0),Leaf.v (Value.int IntKind.u8 0),Leaf.v (Value.int IntKind.u8 0),Leaf.v (Value.int IntKind.u8 0),Leaf.v (Value.int IntKind.u8 0),Leaf.v (Value.int IntKind.u8 0),Leaf.v (Value.int IntKind.u8 0),Leaf.v (Value.int IntKind.u8 0),Leaf.v (Value.int IntKind.u8 0),Leaf.v (Value.int IntKind.u8 0),Leaf.v (Value.int IntKind.u8 0),Leaf.v (Value.int IntKind.u8 0),Leaf.v (Value.int IntKind.u8 0),Leaf.v (Value.int IntKind.u8 0),Leaf.v (Value.int IntKind.u8 0),Leaf.v (Value.int IntKind.u8 0),Leaf.v (Value.int IntKind.u8 0),Leaf.v (Value.int IntKind.u8 0),Leaf.v (Value.int IntKind.u8 0),Leaf.v (Value.int IntKind.u8 0),Leaf.v (Value.int IntKind.u8 0),Leaf.v (Value.int IntKind.u8 0),Leaf.v (Value.int IntKind.u8 0),Leaf.v (Value.int IntKind.u8 0),Leaf.v (Value.int IntKind.u8 0),Leaf.v (Value.int IntKind.u8 0),Leaf.v (Value.int IntKind.u8 0),Leaf.v (Value.int IntKind.u8 0),Leaf.v (Value.int IntKind.u8 0),Leaf.v (Value.int IntKind.u8 0),Leaf.v (Value.int IntKind.u8 0),Leaf.v (Value.int IntKind.u8 0),Leaf.v (Value.int IntKind.u8 0),Leaf.v (Value.int IntKind.u8 0),Leaf.v (Value.int IntKind.u8 0),Leaf.v (Value.int IntKind.u8 0),Leaf.v (Value.int IntKind.u8 0),Leaf.v (Value.int IntKind.u8 0),Leaf.v (Value.int IntKind.u8 0),Leaf.v (Value.int IntKind.u8 0),Leaf.v (Value.int IntKind.u8 0),Leaf.v (Value.int IntKind.u8 0),Leaf.v (Value.int IntKind.u8 0),Leaf.v (Value.int IntKind.u8 0),Leaf.v (Value.int IntKind.u8 0),Leaf.v (Value.int IntKind.u8 0),Leaf.v (Value.int IntKind.u8 0),Leaf.v (Value.int IntKind.u8 0),Leaf.v (Value.int IntKind.u8 0),Leaf.v (Value.int IntKind.u8 0),Leaf.v (Value.int IntKind.u8 0),Leaf.v (Value.int IntKind.u8 0),Leaf.v (Value.int IntKind.u8 0),Leaf.v (Value.int IntKind.u8 0),Leaf.v (Value.int IntKind.u8 0),Leaf.v (Value.int IntKind.u8 0),Leaf.v (Value.int IntKind.u8 0),Leaf.v (Value.int IntKind.u8 0),Leaf.v (Value.int IntKind.u8 0),Leaf.v (Value.int IntKind.u8 0),Leaf.v (Value.int IntKind.u8 0),Leaf.v (Value.int IntKind.u8 0),Leaf.v (Value.int IntKind.u8 0),Leaf.v (Value.int IntKind.u8 0),Leaf.v (Value.int IntKind.u8 0),Leaf.v (Value.int IntKind.u8 0),Leaf.v (Value.int IntKind.u8 0),Leaf.v (Value.int IntKind.u8 0),Leaf.v (Value.int IntKind.u8 0),Leaf.v (Value.int IntKind.u8 0),Leaf.v (Value.int IntKind.u8 0),Leaf.v (Value.int IntKind.u8 0),Leaf.v (Value.int IntKind.u8 0),Leaf.v (Value.int IntKind.u8 0),Leaf.v (Value.int IntKind.u8 0),Leaf.v (Value.int IntKind.u8 0),Leaf.v (Value.int IntKind.u8 0),Leaf.v (Value.int IntKind.u8 0),Leaf.v (Value.int IntKind.u8 0),Leaf.v (Value.int IntKind.u8 0),Leaf.v (Value.int IntKind.u8 0),Leaf.v (Value.int IntKind.u8 0),Leaf.v (Value.int IntKind.u8 0),Leaf.v (Value.int IntKind.u8 0),Leaf.v (Value.int IntKind.u8 0),Leaf.v (Value.int IntKind.u8 0),Leaf.v (Value.int IntKind.u8 0),Leaf.v (Value.int IntKind.u8 0),Leaf.v (Value.int IntKind.u8 0),Leaf.v (Value.int IntKind.u8 0),Leaf.v (Value.int IntKind.u8 0),Leaf.v (Value.int IntKind.u8 0),Leaf.v (Value.int IntKind.u8 0),Leaf.v (Value.int IntKind.u8 0),Leaf.v (Value.int IntKind.u8 0),Leaf.v (Value.int IntKind.u8 0),Leaf.v (Value.int IntKind.u8 0),Leaf.v (Value.int IntKind.u8 0),Leaf.v (Value.int IntKind.u8 0),Leaf.v (Value.int IntKind.u8 0),Leaf.v (Value.int IntKind.u8 0),Leaf.v (Value.int IntKind.u8 0),Leaf.v (Value.int IntKind.u8 0),Leaf.v (Value.int IntKind.u8 0),Leaf.v (Value.int IntKind.u8 0),Leaf.v (Value.int IntKind.u8 0),Leaf.v (Value.int IntKind.u8 0),Leaf.v (Value.int IntKind.u8 0),Leaf.v (Value.int IntKind.u8 0),Leaf.v (Value.int IntKind.u8 0),Leaf.v (Value.int IntKind.u8 0),Leaf.v (Value.int IntKind.u8 0),Leaf.v (Value.int IntKind.u8 0),Leaf.v (Value.int IntKind.u8 0),Leaf.v (Value.int IntKind.u8 0),Leaf.v (Value.int IntKind.u8 0),Leaf.v (Value.int IntKind.u8 0),Leaf.v (Value.int IntKind.u8 0),Leaf.v (Value.int IntKind.u8 0),Leaf.v (Value.int IntKind.u8 0),Leaf.v (Value.int IntKind.u8 0),Leaf.v (Value.int IntKind.u8 0),Leaf.v (Value.int IntKind.u8 0),Leaf.v (Value.int IntKind.u8 0),Leaf.v (Value.int IntKind.u8 0),Leaf.v (Value.int IntKind.u8 0),Leaf.v (Value.int IntKind.u8 0),Leaf.v (Value.int IntKind.u8 0),Leaf.v (Value.int IntKind.u8 0),Leaf.v (Value.int IntKind.u8 0),Leaf.v (Value.int IntKind.u8 0),Leaf.v (Value.int IntKind.u8 0),Leaf.v (Value.int IntKind.u8 0),Leaf.v (Value.int IntKind.u8 0),Leaf.v (Value.int IntKind.u8 0),Leaf.v (Value.int IntKind.u8 0),Leaf.v (Value.int IntKind.u8 0),Leaf.v (Value.int IntKind.u8 0),Leaf.v (Value.int IntKind.u8 0),Leaf.v (Value.int IntKind.u8 0),Leaf.v (Value.int IntKind.u8 0),Leaf.v (Value.int IntKind.u8 0),Leaf.v (Value.int IntKind.u8 0),Leaf.v (Value.int IntKind.u8 0),Leaf.v (Value.int IntKind.u8 0),Leaf.v (Value.int IntKind.u8 0),Leaf.v (Value.int IntKind.u8 0),Leaf.v (Value.int IntKind.u8 0),Leaf.v (Value.int IntKind.u8 0),Leaf.v (Value.int IntKind.u8 0),Leaf.v (Value.int IntKind.u8 0),Leaf.v (Value.int IntKind.u8 0),Leaf.v (Value.int IntKind.u8 0),Leaf.v (Value.int IntKind.u8 0),Leaf.v (Value.int IntKind.u8 0),Leaf.v (Value.int IntKind.u8 0),Leaf.v (Value.int IntKind.u8 0),Leaf.v (Value.int IntKind.u8 0),Leaf.v (Value.int IntKind.u8 0),Leaf.v (Value.int IntKind.u8 0),Leaf.v (Value.int IntKind.u8 0),Leaf.v (Value.int IntKind.u8 0),Leaf.v (Value.int IntKind.u8 0),Leaf.v (Value.int IntKind.u8 0),Leaf.v (Value.int IntKind.u8 0),Leaf.v (Value.int IntKind.u8 0),Leaf.v (Value.int IntKind.u8 0),Leaf.v (Value.int IntKind.u8 0),Leaf.v (Value.int IntKind.u8 0),Leaf.v (Value.int IntKind.u8 0),Leaf.v (Value.int IntKind.u8 0),Leaf.v (Value.int IntKind.u8 0),Leaf.v (Value.int IntKind.u8 0),Leaf.v (Value.int IntKind.u8 0),Leaf.v (Value.int IntKind.u8 0),Leaf.v (Value.int IntKind.u8 0),Leaf.v (Value.int IntKind.u8 0),Leaf.v (Value.int IntKind.u8 0),Leaf.v (Value.int IntKind.u8 0),Leaf.v (Value.int IntKind.u8 0),Leaf.v (Value.int IntKind.u8 0),Leaf.v (Value.int IntKind.u8 0),Leaf.v (Value.int IntKind.u8 0),Leaf.v (Value.int IntKind.u8 0),Leaf.v (Value.int IntKind.u8 0),Leaf.v (Value.int IntKind.u8 0),Leaf.v (Value.int IntKind.u8 0),Leaf.v (Value.int IntKind.u8 0),Leaf.v (Value.int IntKind.u8 0),Leaf.v (Value.int IntKind.u8 0),Leaf.v (Value.int IntKind.u8 0),Leaf.v (Value.int IntKind.u8 0),Leaf.v (Value.int IntKind.u8 0),Leaf.v (Value.int IntKind.u8 0),Leaf.v (Value.int IntKind.u8 0),Leaf.v (Value.int IntKind.u8 0),Leaf.v (Value.int IntKind.u8 0),Leaf.v (Value.int IntKind.u8 0)] 2 (tl (dcT (ea L k))))) (ag (el (TA.mk (ea L k).X (ea L k).Y (dcT (ea L k)))))∧[(5,(smL L (wR c) k).length+1,false)]=[(5,(smL L (wR c) k).length+1,false)]∧ApB Tryz.prog 42 ((smL L (wR c) k).length+1)∧(rws (smL L (wR c) k)).length=(smL L (wR c) k).length*258∧258=258∧IntKind.i64.wrap ((Nat.cast k:Int)+1)=(Nat.cast k:Int)+1∧RoundTo Tryz.prog ((getLoop 5 (Tryz.f80.body.getD Code.skip)).getD Code.skip) 6 (wkK 6 K) (St.mk [(0,SV.c (Cp.l (Leaf.p 0 0))),(1,SV.c (Cp.l (Leaf.f 82 [(2,0)]))),(4,SV.c (Cp.l (Leaf.p 3 0))),(5,SV.u),(6,SV.c (Cp.l (Leaf.p 4 0))),(17,SV.c (Cp.l (Leaf.o 1 L.length))),(18,iv IntKind.i64 (Nat.cast L.length:Int)),(19,iv IntKind.i64 ((Nat.cast k:Int)+1))] [(0,some (Blk.mk [Leaf.o 1 L.length,li (d+smC L (wR c) k+1)] (BT.t 125))),(1,some (Blk.mk (ens L) (BT.r 123 8 1))),(2,some (Blk.mk [li c.x0,li c.y0,li c.x1,li c.y1] (BT.t 66))),(3,some (Blk.mk [Leaf.v (Value.slice none 0 0)] (BT.t 26))),(4,some (Blk.mk [Leaf.o 9 ((smL L (wR c) k).length+1)] (BT.t 26))),(5,some (Blk.mk (rws (smL L (wR c) k)) (BT.r 42 258 5))),(6,some (Blk.mk (en (ea L k)) (BT.t 123))),(7,some (Blk.mk (tl (dcT (ea L k))) (BT.t 38))),(8,some (Blk.mk (splice zA258 0 (el (TA.mk (ea L k).X (ea L k).Y (dcT (ea L k))))) (BT.r 42 258 8))),(9,some (Blk.mk (rws (smL L (wR c) k)++splice zA258 0 (el (TA.mk (ea L k).X (ea L k).Y (dcT (ea L k))))) (BT.r 42 258 9)))] 10 49 [4,9,8,7,7,0,6,6,5,4,3,0] 3)))) (wkK 6 K (Exit.exit 0) (St.mk [(0,SV.c (Cp.l (Leaf.p 0 0))),(1,SV.c (Cp.l (Leaf.f 82 [(2,0)]))),(4,SV.c (Cp.l (Leaf.p 3 0))),(5,SV.u),(6,SV.c (Cp.l (Leaf.p 4 0))),(17,SV.c (Cp.l (Leaf.o 1 L.length))),(18,iv IntKind.i64 (Nat.cast L.length:Int)),(19,iv IntKind.i64 (Nat.cast k:Int))] [(0,some (Blk.mk [Leaf.o 1 L.length,li (d+smC L (wR c) k)] (BT.t 125))),(1,some (Blk.mk (ens L) (BT.r 123 8 1))),(2,some (Blk.mk [li c.x0,li c.y0,li c.x1,li c.y1] (BT.t 66))),(3,some (Blk.mk [Leaf.v (Value.slice none 0 0)] (BT.t 26))),(4,some (Blk.mk [Leaf.o 5 (smL L (wR c) k).length] (BT.t 26))),(5,some (Blk.mk (rws (smL L (wR c) k)) (BT.r 42 258 5))),(6,none),(7,none),(8,none),(9,none)] 6 49 [5,4,3,0] 3))):WPL Tryz.prog ((getLoop 5 (Tryz.f80.body.getD .skip)).getD .skip) (I80b L d c k) (wkK 6 K):=
 wp_roundT [0,1,4,5,6,17,18,19] [0,1,2,3,4,5,6,7,8,9] (cx:=cz_R80b L d c k) rfl (of_eq (by kernel_rfl) h)
set_option maxRecDepth 100000 in
set_option maxHeartbeats 4000000 in
theorem L80b (L:List EN) (d:Int) (c:R4) (hG:GoodB L) (h0:0≤d) (hd:d≤900000000) (hX:GoodX L):∀(m k:Nat),L.length-k=m→k≤L.length→(∀j,j<k→okP L (wR c) j=true)→∀(K:Exit→St→Prop),((∀j,j<L.length→okP L (wR c) j=true)→K (.exit 0) (I80b L d c L.length))→(∀j,j<L.length→(∀i,i<j→okP L (wR c) i=true)→okP L (wR c) j=false→K .ret (Q80b L d c j))→WPL Tryz.prog ((getLoop 5 (Tryz.f80.body.getD .skip)).getD .skip) (I80b L d c k) (wkK 6 K)
 |0,k,hm,hk,hall,K,hK,hR=>by
  have e:k=L.length:=by omega
  subst e
  refine R80b L d c _ K (HB.mk (fun hne=>absurd (of_decide_eq_true hne) (by omega)) (fun he=>?_))
  exact wkK.to (I80b L d c _) (Nat.le_refl _) (by kernel_rfl) (wkE_cons (LeN.sl (by kernel_rfl) rfl) (wkE_cons (LeN.sl (by kernel_rfl) rfl) (wkE_cons (LeN.sl (by kernel_rfl) rfl) (wkE_cons (LeN.sl (by kernel_rfl) rfl) (wkE_cons (LeN.sl (by kernel_rfl) rfl) (wkE_cons (LeN.sl (by kernel_rfl) rfl) (wkE_cons (LeN.sl (by kernel_rfl) rfl) trivial))))))) (wkH_cons (BkN.blk (k:=⟨[.o 1 L.length,li (d+(smC L (wR c) L.length))],.t 125⟩) (by kernel_rfl) (rfl) (by kernel_rfl)) (wkH_cons (BkN.plain (cs:=ens L) (b:=.r 123 8 1) (by kernel_rfl) (rfl) (plain_ens _) (by kernel_rfl)) (wkH_cons (BkN.blk (k:=⟨[li c.x0,li c.y0,li c.x1,li c.y1],.t 66⟩) (by kernel_rfl) (rfl) (by kernel_rfl)) (wkH_cons (BkN.blk (k:=⟨[.v (.slice none 0 0)],.t 26⟩) (by kernel_rfl) (rfl) (by kernel_rfl)) (wkH_cons (BkN.blk (k:=⟨[.o 5 (smL L (wR c) L.length).length],.t 26⟩) (by kernel_rfl) (rfl) (by kernel_rfl)) (wkH_cons (BkN.plain (cs:=rws (smL L (wR c) L.length)) (b:=.r 42 258 5) (by kernel_rfl) (rfl) (plain_rws _) (by kernel_rfl)) trivial)))))) (hK hall)
 |m+1,k,hm,hk,hall,K,hK,hR=>by
  refine R80b L d c k K (HB.mk (fun hne=>?_) (fun he=>absurd (show ((k:Nat):Int)<(L.length:Nat) by omega) (of_decide_eq_false he)))
  have hlt:k<L.length:=by omega
  have hlen:=hG.len
  have hbk0:=hG.2 k hlt
  have hbk:1≤(ea L k).blob.size∧(ea L k).blob.size≤1000000000000000:=by omega
  have hcb:=smC_bd L (wR c) k
  repeat' (first|exact trivial|with_reducible apply And.intro|(with_reducible apply HB.mk)|with_reducible intro _)
  all_goals first
   |(with_reducible exact Le.refl _)
   |(with_reducible rfl)
   |(((with_reducible refine decode_any _ L.length _ hbk.1 hbk.2 ?_ ?_ _ _ _ ?_ ?_ ?_)<;>omega))
   |(((with_reducible refine C82g _ _ _ ?_ ?_ _ _ ?_)<;>(have hx:=hX.x k hlt;have hy:=hX.y k hlt;omega)))
   |(exact ⟨by omega,by omega⟩)
   |((rw[ens_len];omega))
   |((refine Le.of ?_;simp only[tn,Nat.zero_add,Nat.add_zero];rw[ens_at hlt]))
   |(with_reducible exact Le.bool (dNz_eq _))
   |(with_reducible exact Le.of (congrArg (fun l=>SV.c (.agg l)) (en_pos2 _)))
   |(with_reducible exact Le.of (congrArg (fun l=>SV.c (.agg l)) (tl_take _)))
   |(exact Le.of (congrArg (fun l=>SV.c (.agg l)) (build_el _ _ _)))
   |((rw[rws_len];omega))
   |((with_reducible refine apB42 ?_;have:=smL_len L (wR c) k;have:=hG.len;omega))
   |(have hcnd:(!((wR c) (ea L k).X (ea L k).Y))=true:=(by with_reducible assumption);(with_reducible refine RoundTo.toN 7 (I80b L d c (k+1)) ?_ ?_ ?_ ?_ ?_);exact Nat.le_refl _;kernel_rfl;exact (wkE_cons (LeN.sl (by kernel_rfl) rfl) (wkE_cons (LeN.sl (by kernel_rfl) rfl) (wkE_cons (LeN.sl (by kernel_rfl) rfl) (wkE_cons (LeN.sl (by kernel_rfl) rfl) (wkE_cons (LeN.sl (by kernel_rfl) rfl) (wkE_cons (LeN.sl (by kernel_rfl) rfl) (wkE_cons (LeN.sl (by kernel_rfl) rfl) trivial)))))));exact (wkH_cons (BkN.blk (k:=⟨[.o 1 L.length,li (d+(smC L (wR c) k))],.t 125⟩) (by kernel_rfl) (by rw[(sm_skip hcnd).2.1]) (by kernel_rfl)) (wkH_cons (BkN.plain (cs:=ens L) (b:=.r 123 8 1) (by kernel_rfl) (rfl) (plain_ens _) (by kernel_rfl)) (wkH_cons (BkN.blk (k:=⟨[li c.x0,li c.y0,li c.x1,li c.y1],.t 66⟩) (by kernel_rfl) (rfl) (by kernel_rfl)) (wkH_cons (BkN.blk (k:=⟨[.v (.slice none 0 0)],.t 26⟩) (by kernel_rfl) (rfl) (by kernel_rfl)) (wkH_cons (BkN.blk (k:=⟨[.o 5 (smL L (wR c) k).length],.t 26⟩) (by kernel_rfl) (by rw[(sm_skip hcnd).1]) (by kernel_rfl)) (wkH_cons (BkN.plain (cs:=rws (smL L (wR c) k)) (b:=.r 42 258 5) (by kernel_rfl) (by rw[(sm_skip hcnd).1]) (plain_rws _) (by kernel_rfl)) trivial))))));exact (L80b L d c hG h0 hd hX m (k+1) (by omega) (by omega) (fun j hj=>by rcases Nat.lt_or_ge j k with h|h;exact hall j h;have e:j=k:=(by omega);subst e;exact (by first|exact (sm_skip (by with_reducible assumption)).2.2|exact sm_ok (by with_reducible assumption) (by with_reducible assumption))) K hK hR))
   |(have hcnd:(!((wR c) (ea L k).X (ea L k).Y))=false:=(by with_reducible assumption);(with_reducible refine RoundTo.toN 9 (I80b L d c (k+1)) ?_ ?_ ?_ ?_ ?_);exact Nat.le_refl _;kernel_rfl;exact (wkE_cons (LeN.sl (by kernel_rfl) rfl) (wkE_cons (LeN.sl (by kernel_rfl) rfl) (wkE_cons (LeN.sl (by kernel_rfl) rfl) (wkE_cons (LeN.sl (by kernel_rfl) rfl) (wkE_cons (LeN.sl (by kernel_rfl) rfl) (wkE_cons (LeN.sl (by kernel_rfl) rfl) (wkE_cons (LeN.sl (by kernel_rfl) rfl) trivial)))))));exact (wkH_cons (BkN.blk (k:=⟨[.o 1 L.length,li (d+(smC L (wR c) k)+1)],.t 125⟩) (by kernel_rfl) (by rw[(sm_keep hcnd).2,Int.add_assoc]) (by kernel_rfl)) (wkH_cons (BkN.plain (cs:=ens L) (b:=.r 123 8 1) (by kernel_rfl) (rfl) (plain_ens _) (by kernel_rfl)) (wkH_cons (BkN.blk (k:=⟨[li c.x0,li c.y0,li c.x1,li c.y1],.t 66⟩) (by kernel_rfl) (rfl) (by kernel_rfl)) (wkH_cons (BkN.blk (k:=⟨[.v (.slice none 0 0)],.t 26⟩) (by kernel_rfl) (rfl) (by kernel_rfl)) (wkH_cons (BkN.blk (k:=⟨[.o 5 ((smL L (wR c) k).length+1)],.t 26⟩) (by kernel_rfl) (by rw[(sm_rows hcnd).2]) (by kernel_rfl)) (wkH_cons (BkN.plain (cs:=rws (smL L (wR c) k)++splice zA258 0 (el ⟨(ea L k).X,(ea L k).Y,dcT (ea L k)⟩)) (b:=.r 42 258 5) (by kernel_rfl) (by rw[put_el,(sm_rows hcnd).1]) (plain_rws _) (by kernel_rfl)) trivial))))));exact (L80b L d c hG h0 hd hX m (k+1) (by omega) (by omega) (fun j hj=>by rcases Nat.lt_or_ge j k with h|h;exact hall j h;have e:j=k:=(by omega);subst e;exact (by first|exact (sm_skip (by with_reducible assumption)).2.2|exact sm_ok (by with_reducible assumption) (by with_reducible assumption))) K hK hR))
   |(have hcnd:(!((wR c) (ea L k).X (ea L k).Y))=false:=(by with_reducible assumption);(with_reducible refine RoundTo.reN 10 [(5,some 9)] (I80b L d c (k+1)) ?_ ?_ ?_ ?_);kernel_rfl;exact (wkER_cons (LeR.of (by kernel_rfl)) (wkER_cons (LeR.of (by kernel_rfl)) (wkER_cons (LeR.of (by kernel_rfl)) (wkER_cons (LeR.of (by kernel_rfl)) (wkER_cons (LeR.of (by kernel_rfl)) (wkER_cons (LeR.of (by kernel_rfl)) (wkER_cons (LeR.of (by kernel_rfl)) trivial)))))));exact (wkHR_cons (j:=0) rfl (BkM.blk (k:=⟨[.o 1 L.length,li (d+(smC L (wR c) k)+1)],.t 125⟩) (k'':=⟨[.o 1 L.length,li (d+(smC L (wR c) k)+1)],.t 125⟩) (by kernel_rfl) (by kernel_rfl) (by rw[(sm_keep hcnd).2,Int.add_assoc])) (wkHR_cons (j:=1) rfl (BkM.plain (cs:=ens L) (b:=.r 123 8 1) (by kernel_rfl) (rfl) (plain_ens _) (by kernel_rfl)) (wkHR_cons (j:=2) rfl (BkM.blk (k:=⟨[li c.x0,li c.y0,li c.x1,li c.y1],.t 66⟩) (k'':=⟨[li c.x0,li c.y0,li c.x1,li c.y1],.t 66⟩) (by kernel_rfl) (by kernel_rfl) rfl) (wkHR_cons (j:=3) rfl (BkM.blk (k:=⟨[.v (.slice none 0 0)],.t 26⟩) (k'':=⟨[.v (.slice none 0 0)],.t 26⟩) (by kernel_rfl) (by kernel_rfl) (rfl)) (wkHR_cons (j:=4) rfl (BkM.blk (k:=⟨[.o 9 ((smL L (wR c) k).length+1)],.t 26⟩) (k'':=⟨[.o 5 ((smL L (wR c) k).length+1)],.t 26⟩) (by kernel_rfl) (by kernel_rfl) (by rw[(sm_rows hcnd).2])) (wkHR_cons (j:=9) rfl (BkM.plain (cs:=rws (smL L (wR c) k)++splice zA258 0 (el ⟨(ea L k).X,(ea L k).Y,dcT (ea L k)⟩)) (b:=.r 42 258 9) (by kernel_rfl) (by rw[put_el,(sm_rows hcnd).1]) (plain_rws _) (by kernel_rfl)) trivial))))));exact (L80b L d c hG h0 hd hX m (k+1) (by omega) (by omega) (fun j hj=>by rcases Nat.lt_or_ge j k with h|h;exact hall j h;have e:j=k:=(by omega);subst e;exact (by first|exact (sm_skip (by with_reducible assumption)).2.2|exact sm_ok (by with_reducible assumption) (by with_reducible assumption))) K hK hR))
   |(exact wkK.to (Q80b L d c k) (Nat.le_refl _) (by kernel_rfl) (wkE_cons (LeN.sl (by kernel_rfl) rfl) (wkE_cons (LeN.sl (by kernel_rfl) rfl) trivial)) (wkH_cons (BkN.blk (k:=⟨[.o 1 L.length,li (d+(smC L (wR c) k)+1)],.t 125⟩) (by kernel_rfl) (by rw[Int.add_assoc]) (by kernel_rfl)) (wkH_cons (BkN.blk (k:=⟨[.v (.slice none 0 0)],.t 26⟩) (by kernel_rfl) (rfl) (by kernel_rfl)) trivial)) (hR k hlt hall ((sm_bad (by with_reducible assumption) (by with_reducible assumption)))))
   |(exact okw _ (by omega) (by omega))
   |(exact Le.of rfl)
def cz_C80bk (L:List EN) (d:Int) (c:R4):Cz:={
 ct:=(fun f=>match f with
 |_=>none)
 eq:=(fun t=>match t with
 |_=>none)
 raw:=[],sym:=[],nf:=[],ap:=true,off:=[],on:=[],lp:=fun r=>match r with|5=>some (fun _ K=>((∀j,j<L.length→okP L (wR c) j=true)→K (.exit 0) (I80b L d c L.length))∧(∀j,j<L.length→(∀i,i<j→okP L (wR c) i=true)→okP L (wR c) j=false→K .ret (Q80b L d c j)))|_=>none,un:=0,wh:=[26,38,123]}
set_option maxRecDepth 100000 in
set_option maxHeartbeats 400000 in
theorem C80bk (L:List EN) (d:Int) (c:R4) (hG:GoodB L) (h0:0≤d) (hd:d≤900000000) (hX:GoodX L) (hx:smF L (wR c)=none):CallOK Tryz.prog 80 [.c (.l (.p 0 0)),.c (.l (.f 82 [(2,0)]))] [(0,⟨[.o 1 L.length,li d],.t 125⟩),(1,⟨ens L,.r 123 8 1⟩),(2,⟨[li c.x0,li c.y0,li c.x1,li c.y1],.t 66⟩)] 3 (.tup [.agg [.o 3 (smL L (wR c) L.length).length],.l (li 0)]) [(0,⟨[.o 1 L.length,li (d+smC L (wR c) L.length)],.t 125⟩),(3,⟨rws (smL L (wR c) L.length),.r 42 258 3⟩)] 1:=by
 refine call_ok (cx:=cz_C80bk L d c) (nm:=[5]) rfl Tryz.func80 (body:=Tryz.f80.body.getD .skip) rfl enters80 (by unfold inck;simp only[List.all_cons,List.all_nil,blkLt_plain (plain_ens L) (show (BT.rn (rnId 3 0 []) (.r 123 8 1)).isSome=true from rfl),Bool.and_true,Bool.true_and];kernel_rfl) ?_
 apply of_eq (q:=(LoopOK Tryz.prog ((getLoop 5 (Tryz.f80.body.getD .skip)).getD .skip) (St.mk [(19,iv IntKind.i64 0),(18,iv IntKind.i64 (Nat.cast L.length:Int)),(17,SV.c (Cp.l (Leaf.o 1 L.length))),(16,SV.c (Cp.l (Leaf.p 0 0))),(15,SV.c (Cp.l (Leaf.p 0 0))),(14,SV.c (Cp.l (Leaf.p 0 0))),(6,SV.c (Cp.l (Leaf.p 4 0))),(12,bv false),(11,SV.c (Cp.l (Leaf.p 0 0))),(5,iv IntKind.i64 0),(4,SV.c (Cp.l (Leaf.p 3 0))),(0,SV.c (Cp.l (Leaf.p 0 0))),(1,SV.c (Cp.l (Leaf.f 82 [(2,0)])))] [(4,some (Blk.mk [Leaf.v (Value.slice none 0 0)] (BT.t 26))),(3,some (Blk.mk [Leaf.v (Value.slice none 0 0)] (BT.t 26))),(0,some (Blk.mk [Leaf.o 1 L.length,li d] (BT.t 125))),(1,some (Blk.mk (ens L) (BT.r 123 8 1))),(2,some (Blk.mk [li c.x0,li c.y0,li c.x1,li c.y1] (BT.t 66)))] 5 49 [4,3] 3) fun K=>((∀(j:Nat),j<L.length→okP L (wR c) j=true)→K (Exit.exit 0) (I80b L d c L.length))∧∀(j:Nat),j<L.length→(∀(i:Nat),i<j→okP L (wR c) i=true)→okP L (wR c) j=false→K Exit.ret (Q80b L d c j))∧((∀(j:Nat),j<L.length→okP L (wR c) j=true)→0=0∧1=1∧Le (SV.tup [Cp.agg [Leaf.o 3 (smL L (wR c) L.length).length],Cp.l (li 0)]) (SV.tup [Cp.agg [Leaf.o 3 (smL L (wR c) L.length).length],Cp.l (li 0)])∧BkR (rnId 3 0 [5]) (Blk.mk [Leaf.o 1 L.length,li (d+smC L (wR c) L.length)] (BT.t 125)) (Blk.mk [Leaf.o 1 L.length,li (d+smC L (wR c) L.length)] (BT.t 125))∧BkR (rnId 3 0 [5]) (Blk.mk (rws (smL L (wR c) L.length)) (BT.r 42 258 5)) (Blk.mk (rws (smL L (wR c) L.length)) (BT.r 42 258 3))∧True)∧∀(j:Nat),j<L.length→(∀(i:Nat),i<j→okP L (wR c) i=true)→okP L (wR c) j=false→Le (SV.tup [Cp.agg [Leaf.v (Value.slice none 0 0)],Cp.l (li (dcE (ea L j)))]) (SV.tup [Cp.agg [Leaf.o 3 (smL L (wR c) L.length).length],Cp.l (li 0)])∧BkR (rnId 3 0 [5]) (Blk.mk [Leaf.o 1 L.length,li (d+(smC L (wR c) j+1))] (BT.t 125)) (Blk.mk [Leaf.o 1 L.length,li (d+smC L (wR c) L.length)] (BT.t 125))∧False) (by kernel_rfl)
 repeat' (first|exact trivial|with_reducible apply And.intro|(with_reducible apply HB.mk)|with_reducible intro _)
 all_goals first
  |(with_reducible exact Le.refl _)
  |(with_reducible rfl)
  |(exact LoopOK.re [(5,none)] (I80b L d c 0) (by kernel_rfl) (wkER_cons (LeR.of (by kernel_rfl)) (wkER_cons (LeR.of (by kernel_rfl)) (wkER_cons (LeR.of (by kernel_rfl)) (wkER_cons (LeR.of (by kernel_rfl)) (wkER_cons (LeR.of (by kernel_rfl)) (wkER_cons (LeR.of (by kernel_rfl)) (wkER_cons (LeR.of (by kernel_rfl)) trivial))))))) (wkHR_cons (j:=0) rfl (BkM.blk (k:=⟨[.o 1 L.length,li d],.t 125⟩) (k'':=⟨[.o 1 L.length,li d],.t 125⟩) (by kernel_rfl) (by kernel_rfl) (by rw[show smC L (wR c) 0=0 from rfl,Int.add_zero])) (wkHR_cons (j:=1) rfl (BkM.plain (cs:=ens L) (b:=.r 123 8 1) (by kernel_rfl) (rfl) (plain_ens _) (by kernel_rfl)) (wkHR_cons (j:=2) rfl (BkM.blk (k:=⟨[li c.x0,li c.y0,li c.x1,li c.y1],.t 66⟩) (k'':=⟨[li c.x0,li c.y0,li c.x1,li c.y1],.t 66⟩) (by kernel_rfl) (by kernel_rfl) rfl) (wkHR_cons (j:=3) rfl (BkM.blk (k:=⟨[.v (.slice none 0 0)],.t 26⟩) (k'':=⟨[.v (.slice none 0 0)],.t 26⟩) (by kernel_rfl) (by kernel_rfl) (rfl)) (wkHR_cons (j:=4) rfl (BkM.lsB (xs:=[.v (.slice none 0 0)]) (by kernel_rfl) (LsR.cons (by show LfR _ 6 _ (.o 5 (smL L (wR c) 0).length);exact LfR.nil (show 5<6 by decide) rfl) LsR.nil)) (wkHR_nil rfl trivial)))))) (fun K hT=>L80b L d c hG h0 hd hX _ 0 rfl (Nat.zero_le _) (fun j hj=>absurd hj (Nat.not_lt_zero j)) K hT.1 hT.2))
  |(exact absurd (hx.symm.trans (smF_some (by with_reducible assumption) (by with_reducible assumption) (by with_reducible assumption))) (by simp))
  |(exact BkR.plain rfl (plain_rws _) (by kernel_rfl))
  |(exact BkR.of (by kernel_rfl))
end Ab
end Go.Proofs.YtpdckpifhniioaaGreat
end
section
set_option linter.unusedVariables false
set_option linter.unusedSimpArgs false
namespace Go.Proofs.YtpdckpifhniioaaGreat
open Go.RowKit
namespace Ab
attribute [local irreducible] CallOKd
theorem enters87:Enters Tryz.prog 87:=fun args w=>by go_simp
def cz_C87 (l:List TA):Cz:={
 ct:=(fun f=>match f with
 |46=>some fun _ _S ar=>match ar with | [.c (.agg [.o i _])]=>some {v:=bv true,rd:=[i],wr:=[],nw:=0}|_=>none
 |_=>none)
 eq:=(fun t=>match t with
 |_=>none)
 raw:=[],sym:=[],nf:=[(5,bv false)],ap:=true,off:=[],on:=[],lp:=fun _=>none,un:=0}
set_option maxRecDepth 100000 in
set_option maxHeartbeats 400000 in
theorem C87 (l:List TA) (hg:Good l):CallOK Tryz.prog 87 [.c (.agg [.o 0 l.length])] [(0,⟨rws l,.r 42 258 0⟩)] 1 (.c (.l (.o 0 l.length))) [] 0:=by
 refine call_ok (cx:=cz_C87 l) (nm:=[]) rfl Tryz.func87 (body:=Tryz.f87.body.getD .skip) rfl enters87 (by unfold inck;simp only[List.all_cons,List.all_nil,blkLt_plain (plain_rws l) (show (BT.rn (rnId 1 0 []) (.r 42 258 0)).isSome=true from rfl),Bool.and_true,Bool.true_and];kernel_rfl) ?_
 apply of_eq (q:=CallOKd Tryz.prog 46 [] [ag [Leaf.o 0 l.length]] [(0,Blk.mk (rws l) (BT.r 42 258 0))] 2 (bv true) [] 0∧Le (bv !true) (bv false)∧Le (SV.c (Cp.l (Leaf.o 0 l.length))) (SV.c (Cp.l (Leaf.o 0 l.length)))∧True) (by kernel_rfl)
 repeat' (first|exact trivial|with_reducible apply And.intro|(with_reducible apply HB.mk)|with_reducible intro _)
 all_goals first
  |(with_reducible exact Le.refl _)
  |((with_reducible exact C46g _ hg _ _ (by omega)))
  |(exact Le.bool rfl)
theorem tiles_any (l:List TA) (hg:Good l) (id n:Nat) (hi:id<n):CallOK Tryz.prog 87 [.c (.agg [.o id l.length])] [(id,⟨rws l,.r 42 258 id⟩)] n (.c (.l (.o id l.length))) [] 0:=by
 have key:=CallOK.at1 (C87 l hg) id n hi
 simp only[List.map_cons,List.map_nil,Blk.ren,SV.ren,Cp.ren,Leaf.ren,BT.ren,ren_plain (plain_rws _)] at key
 exact key
end Ab
end Go.Proofs.YtpdckpifhniioaaGreat
end
section
set_option linter.unusedVariables false
set_option linter.unusedSimpArgs false
namespace Go.Proofs.YtpdckpifhniioaaGreat
open Go.RowKit
namespace Ab
def XY (e:TA):Prop:=(-1000000≤e.X∧e.X≤1000000)∧(-1000000≤e.Y∧e.Y≤1000000)
end Ab
end Go.Proofs.YtpdckpifhniioaaGreat
end
section
set_option linter.unusedVariables false
set_option linter.unusedSimpArgs false
namespace Go.Proofs.YtpdckpifhniioaaGreat
open Go.RowKit
namespace Ab
attribute [local irreducible] CallOKd
theorem xy_good {l:List TA} (g:Good l):∀k,k<l.length→XY (at' l k):=fun k hk=>by
 have:=good_xy g hk
 exact ⟨by omega,by omega⟩
end Ab
end Go.Proofs.YtpdckpifhniioaaGreat
end
