/- Part 27 of what CodecBack rests on. -/
import Derived.Test.YtpdckpifhniioaaGreatPz
section
set_option linter.unusedVariables false
set_option linter.unusedSimpArgs false
namespace Go.Proofs.YtpdckpifhniioaaGreat
open Go.RowKit
namespace Ab
attribute [local irreducible] CallOKd
def hasR (c:R4) (x y:Int):Bool:=bif bif bif decide (c.x0≤x) then decide (x<c.x1) else false then decide (c.y0≤y) else false then decide (y<c.y1) else false
def crB (b:Bool) (x:UInt8):UInt8:=bif b then x else 0
theorem enters90:Enters Tryz.prog 90:=fun args w=>by go_simp
def cz_C90:Cz:={
 ct:=(fun f=>match f with
 |_=>none)
 eq:=(fun t=>match t with
 |_=>none)
 raw:=[],sym:=[],nf:=[],ap:=true,off:=[],on:=[],lp:=fun _=>none,un:=0}
set_option maxRecDepth 100000 in
set_option maxHeartbeats 400000 in
theorem C90 (c:R4) (x y:Int)  (n:Nat):CallOK Tryz.prog 90 [ag [li c.x0,li c.y0,li c.x1,li c.y1],ag [li x,li y]] [] n (bv (hasR c x y)) [] 0:=by
 refine CallOK.any ?_ (by kernel_rfl) (by kernel_rfl) n
 refine call_ok (cx:=cz_C90) (nm:=[]) rfl Tryz.func90 (body:=Tryz.f90.body.getD .skip) rfl enters90 (by kernel_rfl) ?_
 apply of_eq (q:=(decide (c.x0≤x)=true→decide (c.x0≤x)=true∧True)∧(decide (c.x0≤x)=true→decide (c.x0≤x)=true∧True)∧(decide (c.x0≤x)=true→decide (c.x0≤x)=true∧decide (c.x0≤x)=true∧True)∧(decide (c.x0≤x)=true→decide (c.x0≤x)=true)∧((bif decide (c.x0≤x) then decide (x<c.x1) else false)=true→(bif decide (c.x0≤x) then decide (x<c.x1) else false)=true∧True)∧((bif decide (c.x0≤x) then decide (x<c.x1) else false)=true→(bif decide (c.x0≤x) then decide (x<c.x1) else false)=true∧True)∧((bif decide (c.x0≤x) then decide (x<c.x1) else false)=true→(bif decide (c.x0≤x) then decide (x<c.x1) else false)=true∧(bif decide (c.x0≤x) then decide (x<c.x1) else false)=true∧True)∧((bif decide (c.x0≤x) then decide (x<c.x1) else false)=true→(bif decide (c.x0≤x) then decide (x<c.x1) else false)=true)∧((bif bif decide (c.x0≤x) then decide (x<c.x1) else false then decide (c.y0≤y) else false)=true→(bif bif decide (c.x0≤x) then decide (x<c.x1) else false then decide (c.y0≤y) else false)=true∧True)∧((bif bif decide (c.x0≤x) then decide (x<c.x1) else false then decide (c.y0≤y) else false)=true→(bif bif decide (c.x0≤x) then decide (x<c.x1) else false then decide (c.y0≤y) else false)=true∧True)∧((bif bif decide (c.x0≤x) then decide (x<c.x1) else false then decide (c.y0≤y) else false)=true→(bif bif decide (c.x0≤x) then decide (x<c.x1) else false then decide (c.y0≤y) else false)=true∧(bif bif decide (c.x0≤x) then decide (x<c.x1) else false then decide (c.y0≤y) else false)=true∧True)∧((bif bif decide (c.x0≤x) then decide (x<c.x1) else false then decide (c.y0≤y) else false)=true→(bif bif decide (c.x0≤x) then decide (x<c.x1) else false then decide (c.y0≤y) else false)=true)∧Le (bv (bif bif bif decide (c.x0≤x) then decide (x<c.x1) else false then decide (c.y0≤y) else false then decide (y<c.y1) else false)) (bv (hasR c x y))∧True) (by kernel_rfl)
 repeat' (first|exact trivial|with_reducible apply And.intro|(with_reducible apply HB.mk)|with_reducible intro _)
 all_goals first
  |(with_reducible assumption)
  |(exact Le.bool rfl)
theorem enters89:Enters Tryz.prog 89:=fun args w=>by go_simp
def cz_C89 (c:R4) (x y:Int):Cz:={
 ct:=(fun f=>match f with
 |90=>some fun _ _S ar=>match ar with | [.c (.agg [.v (.int _ a0),.v (.int _ a1),.v (.int _ a2),.v (.int _ a3)]),.c (.agg [.v (.int _ X),.v (.int _ Y)])]=>some {v:=bv (hasR ⟨a0,a1,a2,a3⟩ X Y),rd:=[],wr:=[],nw:=0}|_=>none
 |_=>none)
 eq:=(fun t=>match t with
 |_=>none)
 raw:=[],sym:=[],nf:=[(13,bv (!hasR c x y))],ap:=true,off:=[],on:=[],lp:=fun _=>none,un:=0,wh:=[36]}
set_option maxRecDepth 100000 in
set_option maxHeartbeats 400000 in
theorem C89 (c:R4) (x y:Int) (p0 p1 p2 p3:UInt8)  : CallOK Tryz.prog 89 [iv .i64 x,iv .i64 y,ag [ub p0,ub p1,ub p2,ub p3],.c (.l (.p 0 0))] [(0,⟨[li c.x0,li c.y0,li c.x1,li c.y1],.t 66⟩)] 1 (ag [ub (crB (hasR c x y) p0),ub (crB (hasR c x y) p1),ub (crB (hasR c x y) p2),ub (crB (hasR c x y) p3)]) [] 0:=by
 refine call_ok (cx:=cz_C89 c x y) (nm:=[]) rfl Tryz.func89 (body:=Tryz.f89.body.getD .skip) rfl enters89 (by kernel_rfl) ?_
 apply of_eq (q:=CallOKd Tryz.prog 90 [] [ag [li c.x0,li c.y0,li c.x1,li c.y1],ag [li x,li y]] [] 3 (bv (hasR c x y)) [] 0∧Le (bv !hasR c x y) (bv !hasR c x y)∧HB (!hasR c x y) (0=0∧4=4∧Le (ag [Leaf.v (Value.int IntKind.u8 0),Leaf.v (Value.int IntKind.u8 0),Leaf.v (Value.int IntKind.u8 0),Leaf.v (Value.int IntKind.u8 0)]) (ag [Leaf.v (Value.int IntKind.u8 (Nat.cast ((crB (hasR c x y) p0).toNat):Int)),Leaf.v (Value.int IntKind.u8 (Nat.cast ((crB (hasR c x y) p1).toNat):Int)),Leaf.v (Value.int IntKind.u8 (Nat.cast ((crB (hasR c x y) p2).toNat):Int)),Leaf.v (Value.int IntKind.u8 (Nat.cast ((crB (hasR c x y) p3).toNat):Int))])∧True) (0=0∧4=4∧Le (ag [Leaf.v (Value.int IntKind.u8 (Nat.cast p0.toNat:Int)),Leaf.v (Value.int IntKind.u8 (Nat.cast p1.toNat:Int)),Leaf.v (Value.int IntKind.u8 (Nat.cast p2.toNat:Int)),Leaf.v (Value.int IntKind.u8 (Nat.cast p3.toNat:Int))]) (ag [Leaf.v (Value.int IntKind.u8 (Nat.cast ((crB (hasR c x y) p0).toNat):Int)),Leaf.v (Value.int IntKind.u8 (Nat.cast ((crB (hasR c x y) p1).toNat):Int)),Leaf.v (Value.int IntKind.u8 (Nat.cast ((crB (hasR c x y) p2).toNat):Int)),Leaf.v (Value.int IntKind.u8 (Nat.cast ((crB (hasR c x y) p3).toNat):Int))])∧True)) (by kernel_rfl)
 repeat' (first|exact trivial|with_reducible apply And.intro|(with_reducible apply HB.mk)|with_reducible intro _)
 all_goals first
  |(with_reducible exact Le.refl _)
  |(with_reducible rfl)
  |((with_reducible exact C90 ⟨_,_,_,_⟩ _ _ _))
  |((refine Le.of ?_;rw[not_t ((by with_reducible assumption):(!hasR c x y)=false)];rfl))
  |((refine Le.of ?_;rw[not_f ((by with_reducible assumption):(!hasR c x y)=true)];rfl))
theorem C89g (c:R4) (x y:Int) (p0 p1 p2 p3:UInt8) (id n:Nat) (hi:id<n):CallOK Tryz.prog 89 [iv .i64 x,iv .i64 y,ag [ub p0,ub p1,ub p2,ub p3],.c (.l (.p id 0))] [(id,⟨[li c.x0,li c.y0,li c.x1,li c.y1],.t 66⟩)] n (ag [ub (crB (hasR c x y) p0),ub (crB (hasR c x y) p1),ub (crB (hasR c x y) p2),ub (crB (hasR c x y) p3)]) [] 0:=CallOK.at1 (C89 c x y p0 p1 p2 p3) id n hi
end Ab
end Go.Proofs.YtpdckpifhniioaaGreat
end
section
set_option linter.unusedVariables false
set_option linter.unusedSimpArgs false
namespace Go.Proofs.YtpdckpifhniioaaGreat
open Go.RowKit
namespace Ab
attribute [local irreducible] CallOKd
def crT (c:R4) (e:TA):Nat→UInt8:=fun i=>crB (hasR c (e.X*8+((i / 4:Nat):Int).tmod 8) (e.Y*8+((i / 4:Nat):Int).tdiv 8)) (e.t i)
def crE (c:R4) (e:TA):TA:=⟨e.X,e.Y,crT c e⟩
def crL (c:R4) (l:List TA):Nat→List TA
 |0=>[]
 |k+1=>bif zeroT (crT c (at' l k)) then crL c l k else crL c l k++[crE c (at' l k)]
def mixT (c:R4) (e:TA) (i:Nat):TA:=⟨e.X,e.Y,upTo i (crT c e) e.t⟩
def I88i (c:R4) (l:List TA) (k i:Nat):St:=⟨[(18,iv .i64 (i:Nat)),(17,.c (.agg (tl (at' l k).t))),(7,.c (.l (.p 3 0))),(1,.c (.l (.f 89 [(1,0)]))),(12,iv .i64 (k:Nat)),(11,iv .i64 (l.length:Nat)),(10,.c (.l (.o 0 l.length))),(5,.c (.l (.o 2 (crL c l k).length)))],[(0,some ⟨rws l,.r 42 258 0⟩),(1,some ⟨[li c.x0,li c.y0,li c.x1,li c.y1],.t 66⟩),(2,some ⟨rws (crL c l k),.r 42 258 2⟩),(3,some ⟨el (mixT c (at' l k) i),.t 42⟩)],4,53,[3,2],(2)⟩
theorem crT_px (c:R4) (e:TA) (i:Nat):[ub (crB (hasR c (e.X*8+((i:Nat):Int).tmod 8) (e.Y*8+((i:Nat):Int).tdiv 8)) (e.t (4*i))),ub (crB (hasR c (e.X*8+((i:Nat):Int).tmod 8) (e.Y*8+((i:Nat):Int).tdiv 8)) (e.t (4*i+1))),ub (crB (hasR c (e.X*8+((i:Nat):Int).tmod 8) (e.Y*8+((i:Nat):Int).tdiv 8)) (e.t (4*i+2))),ub (crB (hasR c (e.X*8+((i:Nat):Int).tmod 8) (e.Y*8+((i:Nat):Int).tdiv 8)) (e.t (4*i+3)))]=[ub (crT c e (4*i)),ub (crT c e (4*i+1)),ub (crT c e (4*i+2)),ub (crT c e (4*i+3))]:=by
 obtain ⟨h0,h1,h2,h3⟩:=qdiv0 i
 unfold crT
 rw[h0,h1,h2,h3]
theorem C89i (c:R4) (e:TA) (i:Nat) (id n:Nat) (hi:id<n):CallOK Tryz.prog 89 [iv .i64 (e.X*8+((i:Nat):Int).tmod 8),iv .i64 (e.Y*8+((i:Nat):Int).tdiv 8),ag [ub (e.t (4*i)),ub (e.t (4*i+1)),ub (e.t (4*i+2)),ub (e.t (4*i+3))],.c (.l (.p id 0))] [(id,⟨[li c.x0,li c.y0,li c.x1,li c.y1],.t 66⟩)] n (ag [ub (crT c e (4*i)),ub (crT c e (4*i+1)),ub (crT c e (4*i+2)),ub (crT c e (4*i+3))]) [] 0:=by
 rw[←crT_px];exact C89g c _ _ _ _ _ _ id n hi
theorem splice_cons {α:Type} (x:α):∀(m l:List α) (n:Nat),splice (x::l) (n+1) m=x::splice l n m
 |[],_,_=>rfl
 |a::m,l,n=>by rw[splice,splice,List.set_cons_succ,splice_cons x m]
theorem mix_set (c:R4) (e:TA) {i:Nat} (hi:i<64):splice (el (mixT c e i)) (2+i*4) [ub (crT c e (4*i)),ub (crT c e (4*i+1)),ub (crT c e (4*i+2)),ub (crT c e (4*i+3))]=el (mixT c e (i+1)):=by
 rw[show 2+i*4=i*4+1+1 by omega]
 unfold mixT el
 rw[splice_cons,splice_cons]
 rw[upTo_set i _ _ hi]
theorem mix_zero (c:R4) (e:TA):el (mixT c e 0)=el e:=by
 unfold mixT el
 rw[upTo_none]
theorem mix_full (c:R4) (e:TA):el (mixT c e 64)=el (crE c e):=by
 unfold mixT crE el
 rw[upTo_all]
theorem tl_ix (t:Nat→UInt8) {i:Nat} (h:i<64):List.take 4 (List.drop (((i:Nat):Int).toNat*4) (tl t))=[ub (t (4*i)),ub (t (4*i+1)),ub (t (4*i+2)),ub (t (4*i+3))]:=by
 rw[show ((i:Nat):Int).toNat*4=i*4 by omega,tl_pix _ h];rfl
def cz_R88i (c:R4) (l:List TA) (j:Nat) (k:Nat):Cz:={
 ct:=(fun f=>match f with
 |89=>some fun _ _S ar=>match ar with | [.c (.l (.v (.int _ _))),.c (.l (.v (.int _ _))),_,.c (.l (.p i _))]=>some {v:=ag [ub (crT c (at' l j) (4*k)),ub (crT c (at' l j) (4*k+1)),ub (crT c (at' l j) (4*k+2)),ub (crT c (at' l j) (4*k+3))],rd:=[i],wr:=[],nw:=0}|_=>none
 |_=>none)
 eq:=(fun t=>match t with
 |_=>none)
 raw:=[],sym:=[0,21,41],nf:=[(21,ag [ub ((at' l j).t (4*k)),ub ((at' l j).t (4*k+1)),ub ((at' l j).t (4*k+2)),ub ((at' l j).t (4*k+3))]),(26,iv .i64 (at' l j).X),(33,iv .i64 (at' l j).Y)],ap:=true,off:=[],on:=[],lp:=fun _=>none,un:=0}
set_option maxRecDepth 100000 in
theorem R88i (c:R4) (l:List TA) (j:Nat) (k:Nat)  (K:Exit→St→Prop) (h:HB (decide ((Nat.cast k:Int)<64)) (InR ((Nat.cast k:Int)) 64∧Le (ag (List.take 4 (List.drop (((Nat.cast k:Int)).toNat*4) (tl (at' l j).t)))) (ag [Leaf.v (Value.int IntKind.u8 (Nat.cast (((at' l j).t (4*k)).toNat):Int)),Leaf.v (Value.int IntKind.u8 (Nat.cast (((at' l j).t (4*k+1)).toNat):Int)),Leaf.v (Value.int IntKind.u8 (Nat.cast (((at' l j).t (4*k+2)).toNat):Int)),Leaf.v (Value.int IntKind.u8 (Nat.cast (((at' l j).t (4*k+3)).toNat):Int))])∧4≤4∧Le (iv IntKind.i64 (mixT c (at' l j) k).X) (iv IntKind.i64 (at' l j).X)∧IntKind.i64.wrap ((at' l j).X*8)=(at' l j).X*8∧(8:Int)≠0∧IntKind.i64.wrap ((at' l j).X*8+((Nat.cast k:Int)).tmod 8)=(at' l j).X*8+((Nat.cast k:Int)).tmod 8∧Le (iv IntKind.i64 (mixT c (at' l j) k).Y) (iv IntKind.i64 (at' l j).Y)∧IntKind.i64.wrap ((at' l j).Y*8)=(at' l j).Y*8∧(8:Int)≠0∧IntKind.i64.wrap (((Nat.cast k:Int)).tdiv 8)=((Nat.cast k:Int)).tdiv 8∧IntKind.i64.wrap ((at' l j).Y*8+((Nat.cast k:Int)).tdiv 8)=(at' l j).Y*8+((Nat.cast k:Int)).tdiv 8∧CallOKd Tryz.prog 89 [] [iv IntKind.i64 ((at' l j).X*8+((Nat.cast k:Int)).tmod 8),iv IntKind.i64 ((at' l j).Y*8+((Nat.cast k:Int)).tdiv 8),ag [Leaf.v (Value.int IntKind.u8 (Nat.cast (((at' l j).t (4*k)).toNat):Int)),Leaf.v (Value.int IntKind.u8 (Nat.cast (((at' l j).t (4*k+1)).toNat):Int)),Leaf.v (Value.int IntKind.u8 (Nat.cast (((at' l j).t (4*k+2)).toNat):Int)),Leaf.v (Value.int IntKind.u8 (Nat.cast (((at' l j).t (4*k+3)).toNat):Int))],SV.c (Cp.l (Leaf.p 1 0))] [(1,Blk.mk [li c.x0,li c.y0,li c.x1,li c.y1] (BT.t 66))] 5 (ag [Leaf.v (Value.int IntKind.u8 (Nat.cast ((crT c (at' l j) (4*k)).toNat):Int)),Leaf.v (Value.int IntKind.u8 (Nat.cast ((crT c (at' l j) (4*k+1)).toNat):Int)),Leaf.v (Value.int IntKind.u8 (Nat.cast ((crT c (at' l j) (4*k+2)).toNat):Int)),Leaf.v (Value.int IntKind.u8 (Nat.cast ((crT c (at' l j) (4*k+3)).toNat):Int))]) [] 0∧InR ((Nat.cast k:Int)) 64∧0+2+((Nat.cast k:Int)).toNat*4+4≤258∧IntKind.i64.wrap ((Nat.cast k:Int)+1)=(Nat.cast k:Int)+1∧RoundTo Tryz.prog ((getLoop 6 (Tryz.f88.body.getD Code.skip)).getD Code.skip) 4 (wkK 4 K) (St.mk [(1,SV.c (Cp.l (Leaf.f 89 [(1,0)]))),(5,SV.c (Cp.l (Leaf.o 2 (crL c l j).length))),(7,SV.c (Cp.l (Leaf.p 3 0))),(10,SV.c (Cp.l (Leaf.o 0 l.length))),(11,iv IntKind.i64 (Nat.cast l.length:Int)),(12,iv IntKind.i64 (Nat.cast j:Int)),(17,ag (tl (at' l j).t)),(18,iv IntKind.i64 ((Nat.cast k:Int)+1))] [(0,some (Blk.mk (rws l) (BT.r 42 258 0))),(1,some (Blk.mk [li c.x0,li c.y0,li c.x1,li c.y1] (BT.t 66))),(2,some (Blk.mk (rws (crL c l j)) (BT.r 42 258 2))),(3,some (Blk.mk (splice (el (mixT c (at' l j) k)) (0+2+((Nat.cast k:Int)).toNat*4) [Leaf.v (Value.int IntKind.u8 (Nat.cast ((crT c (at' l j) (4*k)).toNat):Int)),Leaf.v (Value.int IntKind.u8 (Nat.cast ((crT c (at' l j) (4*k+1)).toNat):Int)),Leaf.v (Value.int IntKind.u8 (Nat.cast ((crT c (at' l j) (4*k+2)).toNat):Int)),Leaf.v (Value.int IntKind.u8 (Nat.cast ((crT c (at' l j) (4*k+3)).toNat):Int))]) (BT.t 42))),(4,some (Blk.mk [Leaf.v (Value.int IntKind.u8 (Nat.cast (((at' l j).t (4*k)).toNat):Int)),Leaf.v (Value.int IntKind.u8 (Nat.cast (((at' l j).t (4*k+1)).toNat):Int)),Leaf.v (Value.int IntKind.u8 (Nat.cast (((at' l j).t (4*k+2)).toNat):Int)),Leaf.v (Value.int IntKind.u8 (Nat.cast (((at' l j).t (4*k+3)).toNat):Int))] (BT.t 36)))] 5 53 [3,4,4,3,2] 2)) (wkK 4 K (Exit.exit 2) (St.mk [(1,SV.c (Cp.l (Leaf.f 89 [(1,0)]))),(5,SV.c (Cp.l (Leaf.o 2 (crL c l j).length))),(7,SV.c (Cp.l (Leaf.p 3 0))),(10,SV.c (Cp.l (Leaf.o 0 l.length))),(11,iv IntKind.i64 (Nat.cast l.length:Int)),(12,iv IntKind.i64 (Nat.cast j:Int)),(17,ag (tl (at' l j).t)),(18,iv IntKind.i64 (Nat.cast k:Int))] [(0,some (Blk.mk (rws l) (BT.r 42 258 0))),(1,some (Blk.mk [li c.x0,li c.y0,li c.x1,li c.y1] (BT.t 66))),(2,some (Blk.mk (rws (crL c l j)) (BT.r 42 258 2))),(3,some (Blk.mk (el (mixT c (at' l j) k)) (BT.t 42))),(4,none)] 4 53 [3,2] 2))):WPL Tryz.prog ((getLoop 6 (Tryz.f88.body.getD .skip)).getD .skip) (I88i c l j k) (wkK 4 K):=
 wp_roundT [1,5,7,10,11,12,17,18] [0,1,2,3,4] (cx:=cz_R88i c l j k) rfl (of_eq (by kernel_rfl) h)
set_option maxRecDepth 100000 in
set_option maxHeartbeats 4000000 in
theorem L88i (c:R4) (l:List TA) (j:Nat) (hxy:XY (at' l j)):∀(m k:Nat),64-k=m→k≤64→∀(K:Exit→St→Prop),K (.exit 2) (I88i c l j 64)→WPL Tryz.prog ((getLoop 6 (Tryz.f88.body.getD .skip)).getD .skip) (I88i c l j k) (wkK 4 K)
 |0,k,hm,hk,K,hK=>by
  have e:k=64:=by omega
  subst e
  refine R88i c l j _ K (HB.mk (fun hne=>absurd (of_decide_eq_true hne) (by omega)) (fun he=>?_))
  exact wkK.to (I88i c l j _) (Nat.le_refl _) (by kernel_rfl) (wkE_cons (LeN.sl (by kernel_rfl) rfl) (wkE_cons (LeN.sl (by kernel_rfl) rfl) (wkE_cons (LeN.sl (by kernel_rfl) rfl) (wkE_cons (LeN.sl (by kernel_rfl) rfl) (wkE_cons (LeN.sl (by kernel_rfl) rfl) (wkE_cons (LeN.sl (by kernel_rfl) rfl) (wkE_cons (LeN.sl (by kernel_rfl) rfl) (wkE_cons (LeN.sl (by kernel_rfl) rfl) trivial)))))))) (wkH_cons (BkN.plain (cs:=rws l) (b:=.r 42 258 0) (by kernel_rfl) (rfl) (plain_rws _) (by kernel_rfl)) (wkH_cons (BkN.blk (k:=⟨[li c.x0,li c.y0,li c.x1,li c.y1],.t 66⟩) (by kernel_rfl) (rfl) (by kernel_rfl)) (wkH_cons (BkN.plain (cs:=rws (crL c l j)) (b:=.r 42 258 2) (by kernel_rfl) (rfl) (plain_rws _) (by kernel_rfl)) (wkH_cons (BkN.plain (cs:=el (mixT c (at' l j) 64)) (b:=.t 42) (by kernel_rfl) (rfl) (plain_el _) (by kernel_rfl)) trivial)))) hK
 |m+1,k,hm,hk,K,hK=>by
  refine R88i c l j k K (HB.mk (fun hne=>?_) (fun he=>absurd (show ((k:Nat):Int)<(64:Nat) by omega) (of_decide_eq_false he)))
  have hlt:k<64:=by omega
  have hx1:=hxy.1
  have hy1:=hxy.2
  have h8:=Int.tmod_lt_of_pos ((k:Nat):Int) (show (0:Int)<8 by decide)
  have h8n:=Int.tmod_nonneg (8:Int) (show (0:Int)≤((k:Nat):Int) by omega)
  have d8:((k:Nat):Int).tdiv 8=((k / 8:Nat):Int):=by rw[Int.tdiv_eq_ediv_of_nonneg (by omega)];rfl
  repeat' (first|exact trivial|with_reducible apply And.intro|(with_reducible apply HB.mk)|with_reducible intro _)
  all_goals first
   |((with_reducible exact C89i c _ _ _ _ (by omega)))
   |(exact ⟨by omega,by omega⟩)
   |(with_reducible exact Le.of (congrArg (fun l=>SV.c (.agg l)) (tl_ix _ hlt)))
   |(exact Le.int rfl)
   |((exact okw _ (by omega) (by omega)))
   |(omega)
   |((with_reducible refine RoundTo.toN 5 (I88i c l j (k+1)) ?_ ?_ ?_ ?_ ?_);exact Nat.le_refl _;kernel_rfl;exact (wkE_cons (LeN.sl (by kernel_rfl) rfl) (wkE_cons (LeN.sl (by kernel_rfl) rfl) (wkE_cons (LeN.sl (by kernel_rfl) rfl) (wkE_cons (LeN.sl (by kernel_rfl) rfl) (wkE_cons (LeN.sl (by kernel_rfl) rfl) (wkE_cons (LeN.sl (by kernel_rfl) rfl) (wkE_cons (LeN.sl (by kernel_rfl) rfl) (wkE_cons (LeN.sl (by kernel_rfl) rfl) trivial))))))));exact (wkH_cons (BkN.plain (cs:=rws l) (b:=.r 42 258 0) (by kernel_rfl) (rfl) (plain_rws _) (by kernel_rfl)) (wkH_cons (BkN.blk (k:=⟨[li c.x0,li c.y0,li c.x1,li c.y1],.t 66⟩) (by kernel_rfl) (rfl) (by kernel_rfl)) (wkH_cons (BkN.plain (cs:=rws (crL c l j)) (b:=.r 42 258 2) (by kernel_rfl) (rfl) (plain_rws _) (by kernel_rfl)) (wkH_cons (BkN.plain (cs:=splice (el (mixT c (at' l j) k)) (2+k*4) [ub (crT c (at' l j) (4*k)),ub (crT c (at' l j) (4*k+1)),ub (crT c (at' l j) (4*k+2)),ub (crT c (at' l j) (4*k+3))]) (b:=.t 42) (by kernel_rfl) (mix_set c _ hlt) (plain_el _) (by kernel_rfl)) trivial))));exact (L88i c l j hxy m (k+1) (by omega) (by omega) K hK))
end Ab
end Go.Proofs.YtpdckpifhniioaaGreat
end
section
set_option linter.unusedVariables false
set_option linter.unusedSimpArgs false
namespace Go.Proofs.YtpdckpifhniioaaGreat
open Go.RowKit
namespace Ab
attribute [local irreducible] CallOKd
attribute [local irreducible] tl rws
def I88 (c:R4) (l:List TA) (k:Nat):St:=⟨[(12,iv .i64 (k:Nat)),(11,iv .i64 (l.length:Nat)),(10,.c (.l (.o 0 l.length))),(1,.c (.l (.f 89 [(1,0)]))),(5,.c (.l (.o 2 (crL c l k).length)))],[(0,some ⟨rws l,.r 42 258 0⟩),(1,some ⟨[li c.x0,li c.y0,li c.x1,li c.y1],.t 66⟩),(2,some ⟨rws (crL c l k),.r 42 258 2⟩)],3,53,[2],(2)⟩
theorem cr_skip {c:R4} {l:List TA} {k:Nat} (h:(!(zeroT (crT c (at' l k))))=false):crL c l (k+1)=crL c l k:=by rw[crL,not_t h];rfl
theorem cr_keep {c:R4} {l:List TA} {k:Nat} (h:(!(zeroT (crT c (at' l k))))=true):rws (crL c l k)++el (crE c (at' l k))=rws (crL c l (k+1))∧(crL c l k).length+1=(crL c l (k+1)).length:=by
 rw[crL,not_f h]
 show _=rws (crL c l k++_)∧_=(crL c l k++_).length
 rw[rws_append,rws_one,List.length_append]
 exact ⟨rfl,rfl⟩
theorem crL_len (c:R4) (l:List TA):∀k,(crL c l k).length≤k
 |0=>Nat.le_refl _
 |k+1=>by
  have:=crL_len c l k
  rw[crL]
  cases zeroT (crT c (at' l k))
  ·show (crL c l k++_).length≤_
   rw[List.length_append];exact Nat.add_le_add_right this 1
  ·exact Nat.le_succ_of_le this
theorem el_tl (e:TA):List.take 256 (List.drop 2 (el e))=tl e.t:=by
 show List.take 256 (tl e.t)=_
 rw[tl_take]
theorem mix_tl (c:R4) (e:TA):List.take 256 (List.drop 2 (el (mixT c e 64)))=tl (crT c e):=by rw[mix_full,el_tl];rfl
theorem mix_el (c:R4) (e:TA):List.take 258 (el (mixT c e 64))=el (crE c e):=by
 rw[mix_full,List.take_of_length_le (by rw[el_len];exact Nat.le_refl _)]
def cz_R88 (c:R4) (l:List TA) (k:Nat):Cz:={
 ct:=(fun f=>match f with
 |108=>some fun _ _S ar=>match ar with | [.c (.agg l)]=>some {v:=bv (zeroT (lsB l)),rd:=[],wr:=[],nw:=0}|_=>none
 |_=>none)
 eq:=(fun t=>match t with
 |_=>none)
 raw:=[],sym:=[14,15,17,44,48,50],nf:=[(15,.c (.agg (el (at' l k)))),(17,.c (.agg (tl (at' l k).t))),(44,.c (.agg (tl (crT c (at' l k))))),(45,bv (zeroT (crT c (at' l k)))),(48,.c (.agg (el (crE c (at' l k)))))],ap:=true,off:=[],on:=[],lp:=fun r=>match r with|6=>some (fun _ K=>K (.exit 2) (I88i c l k 64))|_=>none,un:=0,wh:=[42]}
set_option maxRecDepth 100000 in
theorem R88 (c:R4) (l:List TA) (k:Nat)  (K:Exit→St→Prop) (h:HB (decide ((Nat.cast k:Int)<(Nat.cast l.length:Int))) (InR ((Nat.cast k:Int)) l.length∧((Nat.cast k:Int)).toNat*258+258≤(rws l).length∧Le (ag (List.take 258 (List.drop (((Nat.cast k:Int)).toNat*258) (rws l)))) (ag (el (at' l k)))∧0=0∧258=258∧258≤258∧Le (ag (List.take 256 (List.drop 2 (el (at' l k))))) (ag (tl (at' l k).t))∧(LoopOK Tryz.prog ((getLoop 6 (Tryz.f88.body.getD .skip)).getD .skip) (St.mk [(18,iv IntKind.i64 0),(17,ag (tl (at' l k).t)),(16,SV.c (Cp.l (Leaf.p 3 2))),(7,SV.c (Cp.l (Leaf.p 3 0))),(15,ag (el (at' l k))),(14,SV.c (Cp.l (Leaf.p 0 (((Nat.cast k:Int)).toNat*258)))),(13,bv (decide ((Nat.cast k:Int)<(Nat.cast l.length:Int)))),(12,iv IntKind.i64 (Nat.cast k:Int)),(11,iv IntKind.i64 (Nat.cast l.length:Int)),(10,SV.c (Cp.l (Leaf.o 0 l.length))),(1,SV.c (Cp.l (Leaf.f 89 [(1,0)]))),(5,SV.c (Cp.l (Leaf.o 2 (crL c l k).length)))] [(3,some (Blk.mk (el (at' l k)) (BT.t 42))),(3,some (Blk.mk zA258 (BT.t 42))),(0,some (Blk.mk (rws l) (BT.r 42 258 0))),(1,some (Blk.mk [li c.x0,li c.y0,li c.x1,li c.y1] (BT.t 66))),(2,some (Blk.mk (rws (crL c l k)) (BT.r 42 258 2)))] 4 53 [3,3,2] 2) fun K=>K (Exit.exit 2) (I88i c l k 64))∧258≤258∧Le (ag (List.take 256 (List.drop 2 (el (mixT c (at' l k) 64))))) (ag (tl (crT c (at' l k))))∧CallOKd Tryz.prog 108 [] [ag (tl (crT c (at' l k)))] [] 4 (bv (zeroT (lsB (tl (crT c (at' l k)))))) [] 0∧Le (bv (zeroT (lsB (tl (crT c (at' l k)))))) (bv (zeroT (crT c (at' l k))))∧HB (!zeroT (crT c (at' l k))) ((258≤258∧Le (ag (List.take 258 (el (mixT c (at' l k) 64)))) (ag (el (crE c (at' l k))))∧(rws (crL c l k)).length=(crL c l k).length*258∧258=258∧IntKind.i64.wrap ((Nat.cast k:Int)+1)=(Nat.cast k:Int)+1∧RoundTo Tryz.prog ((getLoop 3 (Tryz.f88.body.getD Code.skip)).getD Code.skip) 3 (wkK 3 K) (St.mk [(12,iv IntKind.i64 ((Nat.cast k:Int)+1)),(51,iv IntKind.i64 ((Nat.cast k:Int)+1)),(5,SV.c (Cp.l (Leaf.o 2 ((crL c l k).length+1)))),(50,SV.c (Cp.l (Leaf.o 2 ((crL c l k).length+1)))),(49,SV.c (Cp.l (Leaf.o 4 1))),(48,ag (el (crE c (at' l k)))),(47,SV.c (Cp.l (Leaf.o 2 (crL c l k).length))),(46,bv !zeroT (crT c (at' l k))),(45,bv (zeroT (crT c (at' l k)))),(44,ag (tl (crT c (at' l k)))),(43,SV.c (Cp.l (Leaf.p 3 2))),(18,iv IntKind.i64 (Nat.cast 64:Int)),(17,ag (tl (at' l k).t)),(7,SV.c (Cp.l (Leaf.p 3 0))),(1,SV.c (Cp.l (Leaf.f 89 [(1,0)]))),(12,iv IntKind.i64 (Nat.cast k:Int)),(11,iv IntKind.i64 (Nat.cast l.length:Int)),(10,SV.c (Cp.l (Leaf.o 0 l.length))),(5,SV.c (Cp.l (Leaf.o 2 (crL c l k).length)))] [(2,some (Blk.mk (rws (crL c l k)++splice zA258 0 (el (crE c (at' l k)))) (BT.r 42 258 2))),(4,some (Blk.mk (splice zA258 0 (el (crE c (at' l k)))) (BT.r 42 258 4))),(0,some (Blk.mk (rws l) (BT.r 42 258 0))),(1,some (Blk.mk [li c.x0,li c.y0,li c.x1,li c.y1] (BT.t 66))),(2,some (Blk.mk (rws (crL c l k)) (BT.r 42 258 2))),(3,some (Blk.mk (el (mixT c (at' l k) 64)) (BT.t 42)))] 5 53 [2,4,3,2] 2))∧258≤258∧Le (ag (List.take 258 (el (mixT c (at' l k) 64)))) (ag (el (crE c (at' l k))))∧[(2,(crL c l k).length+1,false)]=[(2,(crL c l k).length+1,false)]∧ApB Tryz.prog 42 ((crL c l k).length+1)∧(rws (crL c l k)).length=(crL c l k).length*258∧258=258∧IntKind.i64.wrap ((Nat.cast k:Int)+1)=(Nat.cast k:Int)+1∧RoundTo Tryz.prog ((getLoop 3 (Tryz.f88.body.getD Code.skip)).getD Code.skip) 3 (wkK 3 K) (St.mk [(12,iv IntKind.i64 ((Nat.cast k:Int)+1)),(51,iv IntKind.i64 ((Nat.cast k:Int)+1)),(5,SV.c (Cp.l (Leaf.o 5 ((crL c l k).length+1)))),(50,SV.c (Cp.l (Leaf.o 5 ((crL c l k).length+1)))),(49,SV.c (Cp.l (Leaf.o 4 1))),(48,ag (el (crE c (at' l k)))),(47,SV.c (Cp.l (Leaf.o 2 (crL c l k).length))),(46,bv !zeroT (crT c (at' l k))),(45,bv (zeroT (crT c (at' l k)))),(44,ag (tl (crT c (at' l k)))),(43,SV.c (Cp.l (Leaf.p 3 2))),(18,iv IntKind.i64 (Nat.cast 64:Int)),(17,ag (tl (at' l k).t)),(7,SV.c (Cp.l (Leaf.p 3 0))),(1,SV.c (Cp.l (Leaf.f 89 [(1,0)]))),(12,iv IntKind.i64 (Nat.cast k:Int)),(11,iv IntKind.i64 (Nat.cast l.length:Int)),(10,SV.c (Cp.l (Leaf.o 0 l.length))),(5,SV.c (Cp.l (Leaf.o 2 (crL c l k).length)))] [(5,some (Blk.mk (rws (crL c l k)++splice zA258 0 (el (crE c (at' l k)))) (BT.r 42 258 5))),(4,some (Blk.mk (splice zA258 0 (el (crE c (at' l k)))) (BT.r 42 258 4))),(0,some (Blk.mk (rws l) (BT.r 42 258 0))),(1,some (Blk.mk [li c.x0,li c.y0,li c.x1,li c.y1] (BT.t 66))),(2,some (Blk.mk (rws (crL c l k)) (BT.r 42 258 2))),(3,some (Blk.mk (el (mixT c (at' l k) 64)) (BT.t 42)))] 6 53 [5,4,3,2] 2)) (IntKind.i64.wrap ((Nat.cast k:Int)+1)=(Nat.cast k:Int)+1∧RoundTo Tryz.prog ((getLoop 3 (Tryz.f88.body.getD Code.skip)).getD Code.skip) 3 (wkK 3 K) (St.mk [(12,iv IntKind.i64 ((Nat.cast k:Int)+1)),(51,iv IntKind.i64 ((Nat.cast k:Int)+1)),(46,bv !zeroT (crT c (at' l k))),(45,bv (zeroT (crT c (at' l k)))),(44,ag (tl (crT c (at' l k)))),(43,SV.c (Cp.l (Leaf.p 3 2))),(18,iv IntKind.i64 (Nat.cast 64:Int)),(17,ag (tl (at' l k).t)),(7,SV.c (Cp.l (Leaf.p 3 0))),(1,SV.c (Cp.l (Leaf.f 89 [(1,0)]))),(12,iv IntKind.i64 (Nat.cast k:Int)),(11,iv IntKind.i64 (Nat.cast l.length:Int)),(10,SV.c (Cp.l (Leaf.o 0 l.length))),(5,SV.c (Cp.l (Leaf.o 2 (crL c l k).length)))] [(0,some (Blk.mk (rws l) (BT.r 42 258 0))),(1,some (Blk.mk [li c.x0,li c.y0,li c.x1,li c.y1] (BT.t 66))),(2,some (Blk.mk (rws (crL c l k)) (BT.r 42 258 2))),(3,some (Blk.mk (el (mixT c (at' l k) 64)) (BT.t 42)))] 4 53 [3,2] 2))) (wkK 3 K (Exit.exit 0) (St.mk [(13,bv (decide ((Nat.cast k:Int)<(Nat.cast l.length:Int)))),(12,iv IntKind.i64 (Nat.cast k:Int)),(11,iv IntKind.i64 (Nat.cast l.length:Int)),(10,SV.c (Cp.l (Leaf.o 0 l.length))),(1,SV.c (Cp.l (Leaf.f 89 [(1,0)]))),(5,SV.c (Cp.l (Leaf.o 2 (crL c l k).length)))] [(0,some (Blk.mk (rws l) (BT.r 42 258 0))),(1,some (Blk.mk [li c.x0,li c.y0,li c.x1,li c.y1] (BT.t 66))),(2,some (Blk.mk (rws (crL c l k)) (BT.r 42 258 2)))] 3 53 [2] 2))):WPL Tryz.prog ((getLoop 3 (Tryz.f88.body.getD .skip)).getD .skip) (I88 c l k) (wkK 3 K):=
 wp_round (cx:=cz_R88 c l k) rfl (of_eq (by kernel_rfl) h)
set_option maxRecDepth 100000 in
set_option maxHeartbeats 4000000 in
theorem L88 (c:R4) (l:List TA) (hl:∀k,k<l.length→XY (at' l k)) (h4:l.length≤1024):∀(m k:Nat),l.length-k=m→k≤l.length→∀(K:Exit→St→Prop),K (.exit 0) (I88 c l l.length)→WPL Tryz.prog ((getLoop 3 (Tryz.f88.body.getD .skip)).getD .skip) (I88 c l k) (wkK 3 K)
 |0,k,hm,hk,K,hK=>by
  have e:k=l.length:=by omega
  subst e
  refine R88 c l _ K (HB.mk (fun hne=>absurd (of_decide_eq_true hne) (by omega)) (fun he=>?_))
  exact wkK.to (I88 c l _) (Nat.le_refl _) (by kernel_rfl) (wkE_cons (LeN.sl (by kernel_rfl) rfl) (wkE_cons (LeN.sl (by kernel_rfl) rfl) (wkE_cons (LeN.sl (by kernel_rfl) rfl) (wkE_cons (LeN.sl (by kernel_rfl) rfl) (wkE_cons (LeN.sl (by kernel_rfl) rfl) trivial))))) (wkH_cons (BkN.plain (cs:=rws l) (b:=.r 42 258 0) (by kernel_rfl) (rfl) (plain_rws _) (by kernel_rfl)) (wkH_cons (BkN.blk (k:=⟨[li c.x0,li c.y0,li c.x1,li c.y1],.t 66⟩) (by kernel_rfl) (rfl) (by kernel_rfl)) (wkH_cons (BkN.plain (cs:=rws (crL c l l.length)) (b:=.r 42 258 2) (by kernel_rfl) (rfl) (plain_rws _) (by kernel_rfl)) trivial))) hK
 |m+1,k,hm,hk,K,hK=>by
  refine R88 c l k K (HB.mk (fun hne=>?_) (fun he=>absurd (show ((k:Nat):Int)<(l.length:Nat) by omega) (of_decide_eq_false he)))
  have hlt:k<l.length:=by omega
  repeat' (first|exact trivial|with_reducible apply And.intro|(with_reducible apply HB.mk)|with_reducible intro _)
  all_goals first
   |(with_reducible rfl)
   |((with_reducible exact C108L _ _ rfl _))
   |(exact LoopOK.mk (I88i c l k 0) rfl (by kernel_rfl) (wkE_cons (LeN.sl (by kernel_rfl) rfl) (wkE_cons (LeN.sl_plain (by kernel_rfl) (plain_tl _)) (wkE_cons (LeN.sl (by kernel_rfl) rfl) (wkE_cons (LeN.sl (by kernel_rfl) rfl) (wkE_cons (LeN.sl (by kernel_rfl) rfl) (wkE_cons (LeN.sl (by kernel_rfl) rfl) (wkE_cons (LeN.sl (by kernel_rfl) rfl) (wkE_cons (LeN.sl (by kernel_rfl) rfl) trivial)))))))) (wkH_cons (BkN.plain (cs:=rws l) (b:=.r 42 258 0) (by kernel_rfl) (rfl) (plain_rws _) (by kernel_rfl)) (wkH_cons (BkN.blk (k:=⟨[li c.x0,li c.y0,li c.x1,li c.y1],.t 66⟩) (by kernel_rfl) (rfl) (by kernel_rfl)) (wkH_cons (BkN.plain (cs:=rws (crL c l k)) (b:=.r 42 258 2) (by kernel_rfl) (rfl) (plain_rws _) (by kernel_rfl)) (wkH_cons (BkN.plain (cs:=el (at' l k)) (b:=.t 42) (by kernel_rfl) (by rw[mix_zero]) (plain_el _) (by kernel_rfl)) trivial)))) (fun K hT=>L88i c l k (hl k hlt) _ 0 rfl (by decide) K hT))
   |(exact ⟨by omega,by omega⟩)
   |((rw[rws_len,tn];omega))
   |((rw[rws_len];omega))
   |((refine Le.of ?_;simp only[tn,Nat.zero_add,Nat.add_zero];rw[rws_at hlt]))
   |(with_reducible exact Le.of (congrArg (fun l=>SV.c (.agg l)) (el_tl _)))
   |(with_reducible exact Le.of (congrArg (fun l=>SV.c (.agg l)) (mix_tl _ _)))
   |(with_reducible exact Le.of (congrArg (fun l=>SV.c (.agg l)) (mix_el _ _)))
   |(with_reducible exact Le.bool (zeroT_lsB _))
   |((with_reducible refine apB42 ?_;have:=crL_len c l k;omega))
   |(omega)
   |(have hcnd:(!(zeroT (crT c (at' l k))))=false:=(by with_reducible assumption);(with_reducible refine RoundTo.toN 4 (I88 c l (k+1)) ?_ ?_ ?_ ?_ ?_);exact Nat.le_refl _;kernel_rfl;exact (wkE_cons (LeN.sl (by kernel_rfl) rfl) (wkE_cons (LeN.sl (by kernel_rfl) rfl) (wkE_cons (LeN.sl (by kernel_rfl) rfl) (wkE_cons (LeN.sl (by kernel_rfl) rfl) (wkE_cons (by rw[cr_skip hcnd];exact LeN.sl (by kernel_rfl) rfl) trivial)))));exact (wkH_cons (BkN.plain (cs:=rws l) (b:=.r 42 258 0) (by kernel_rfl) (rfl) (plain_rws _) (by kernel_rfl)) (wkH_cons (BkN.blk (k:=⟨[li c.x0,li c.y0,li c.x1,li c.y1],.t 66⟩) (by kernel_rfl) (rfl) (by kernel_rfl)) (wkH_cons (BkN.plain (cs:=rws (crL c l k)) (b:=.r 42 258 2) (by kernel_rfl) (by rw[cr_skip hcnd]) (plain_rws _) (by kernel_rfl)) trivial)));exact (L88 c l hl h4 m (k+1) (by omega) (by omega) K hK))
   |(have hcnd:(!(zeroT (crT c (at' l k))))=true:=(by with_reducible assumption);(with_reducible refine RoundTo.toN 5 (I88 c l (k+1)) ?_ ?_ ?_ ?_ ?_);exact Nat.le_refl _;kernel_rfl;exact (wkE_cons (LeN.sl (by kernel_rfl) rfl) (wkE_cons (LeN.sl (by kernel_rfl) rfl) (wkE_cons (LeN.sl (by kernel_rfl) rfl) (wkE_cons (LeN.sl (by kernel_rfl) rfl) (wkE_cons (by rw[←(cr_keep hcnd).2];exact LeN.sl (by kernel_rfl) rfl) trivial)))));exact (wkH_cons (BkN.plain (cs:=rws l) (b:=.r 42 258 0) (by kernel_rfl) (rfl) (plain_rws _) (by kernel_rfl)) (wkH_cons (BkN.blk (k:=⟨[li c.x0,li c.y0,li c.x1,li c.y1],.t 66⟩) (by kernel_rfl) (rfl) (by kernel_rfl)) (wkH_cons (BkN.plain (cs:=rws (crL c l k)++splice zA258 0 (el (crE c (at' l k)))) (b:=.r 42 258 2) (by kernel_rfl) (by rw[put_el,(cr_keep hcnd).1]) (plain_rws _) (by kernel_rfl)) trivial)));exact (L88 c l hl h4 m (k+1) (by omega) (by omega) K hK))
   |(have hcnd:(!(zeroT (crT c (at' l k))))=true:=(by with_reducible assumption);(with_reducible refine RoundTo.reN 6 [(2,some 5)] (I88 c l (k+1)) ?_ ?_ ?_ ?_);kernel_rfl;exact (wkER_cons (LeR.of (by kernel_rfl)) (wkER_cons (LeR.of (by kernel_rfl)) (wkER_cons (LeR.of (by kernel_rfl)) (wkER_cons (LeR.of (by kernel_rfl)) (wkER_cons (by rw[←(cr_keep hcnd).2];exact LeR.of (by kernel_rfl)) trivial)))));exact (wkHR_cons (j:=0) rfl (BkM.plain (cs:=rws l) (b:=.r 42 258 0) (by kernel_rfl) (rfl) (plain_rws _) (by kernel_rfl)) (wkHR_cons (j:=1) rfl (BkM.blk (k:=⟨[li c.x0,li c.y0,li c.x1,li c.y1],.t 66⟩) (k'':=⟨[li c.x0,li c.y0,li c.x1,li c.y1],.t 66⟩) (by kernel_rfl) (by kernel_rfl) rfl) (wkHR_cons (j:=5) rfl (BkM.plain (cs:=rws (crL c l k)++splice zA258 0 (el (crE c (at' l k)))) (b:=.r 42 258 5) (by kernel_rfl) (by rw[put_el,(cr_keep hcnd).1]) (plain_rws _) (by kernel_rfl)) trivial)));exact (L88 c l hl h4 m (k+1) (by omega) (by omega) K hK))
   |(exact okw _ (by omega) (by omega))
end Ab
end Go.Proofs.YtpdckpifhniioaaGreat
end
section
set_option linter.unusedVariables false
set_option linter.unusedSimpArgs false
namespace Go.Proofs.YtpdckpifhniioaaGreat
open Go.RowKit
namespace Ab
attribute [local irreducible] CallOKd
theorem enters88:Enters Tryz.prog 88:=fun args w=>by go_simp
def cz_C88 (c:R4) (l:List TA):Cz:={
 ct:=(fun f=>match f with
 |_=>none)
 eq:=(fun t=>match t with
 |_=>none)
 raw:=[],sym:=[],nf:=[],ap:=true,off:=[],on:=[],lp:=fun r=>match r with|3=>some (fun _ K=>K (.exit 0) (I88 c l l.length))|_=>none,un:=0}
set_option maxRecDepth 100000 in
set_option maxHeartbeats 400000 in
theorem C88 (c:R4) (l:List TA) (hl:∀k,k<l.length→XY (at' l k)) (h4:l.length≤1024):CallOK Tryz.prog 88 [.c (.l (.o 0 l.length)),.c (.l (.f 89 [(1,0)]))] [(0,⟨rws l,.r 42 258 0⟩),(1,⟨[li c.x0,li c.y0,li c.x1,li c.y1],.t 66⟩)] 2 (.c (.l (.o 2 (crL c l l.length).length))) [(2,⟨rws (crL c l l.length),.r 42 258 2⟩)] 1:=by
 refine call_ok (cx:=cz_C88 c l) (nm:=[2]) rfl Tryz.func88 (body:=Tryz.f88.body.getD .skip) rfl enters88 (by unfold inck;simp only[List.all_cons,List.all_nil,blkLt_plain (plain_rws l) (show (BT.rn (rnId 2 0 []) (.r 42 258 0)).isSome=true from rfl),Bool.and_true,Bool.true_and];kernel_rfl) ?_
 apply of_eq (q:=(LoopOK Tryz.prog ((getLoop 3 (Tryz.f88.body.getD .skip)).getD .skip) (St.mk [(12,iv IntKind.i64 0),(11,iv IntKind.i64 (Nat.cast l.length:Int)),(10,SV.c (Cp.l (Leaf.o 0 l.length))),(5,SV.c (Cp.l (Leaf.v (Value.slice none 0 0)))),(4,SV.c (Cp.l (Leaf.v (Value.slice none 0 0)))),(0,SV.c (Cp.l (Leaf.o 0 l.length))),(1,SV.c (Cp.l (Leaf.f 89 [(1,0)])))] [(0,some (Blk.mk (rws l) (BT.r 42 258 0))),(1,some (Blk.mk [li c.x0,li c.y0,li c.x1,li c.y1] (BT.t 66)))] 2 53 [] 2) fun K=>K (Exit.exit 0) (I88 c l l.length))∧Le (SV.c (Cp.l (Leaf.o 2 (crL c l l.length).length))) (SV.c (Cp.l (Leaf.o 2 (crL c l l.length).length)))∧BkR (rnId 2 0 [2]) (Blk.mk (rws (crL c l l.length)) (BT.r 42 258 2)) (Blk.mk (rws (crL c l l.length)) (BT.r 42 258 2))∧True) (by kernel_rfl)
 repeat' (first|exact trivial|with_reducible apply And.intro|(with_reducible apply HB.mk)|with_reducible intro _)
 all_goals first
  |(with_reducible exact Le.refl _)
  |(exact LoopOK.re [(2,none)] (I88 c l 0) (by kernel_rfl) (wkER_cons (LeR.of (by kernel_rfl)) (wkER_cons (LeR.of (by kernel_rfl)) (wkER_cons (LeR.of (by kernel_rfl)) (wkER_cons (LeR.of (by kernel_rfl)) (wkER_cons (show LeR _ 3 _ (.c (.l (.o 2 0))) from LeR.nilS (by kernel_rfl) (show 2<3 by decide) rfl) trivial))))) (wkHR_cons (j:=0) rfl (BkM.plain (cs:=rws l) (b:=.r 42 258 0) (by kernel_rfl) (rfl) (plain_rws _) (by kernel_rfl)) (wkHR_cons (j:=1) rfl (BkM.blk (k:=⟨[li c.x0,li c.y0,li c.x1,li c.y1],.t 66⟩) (k'':=⟨[li c.x0,li c.y0,li c.x1,li c.y1],.t 66⟩) (by kernel_rfl) (by kernel_rfl) rfl) (wkHR_nil rfl trivial))) (fun K hT=>L88 c l hl h4 _ 0 rfl (Nat.zero_le _) K hT))
  |(exact BkR.plain rfl (plain_rws _) (by kernel_rfl))
theorem mapped_any (c:R4) (l:List TA) (gl:Good l) (i q n:Nat) (h1:i<n) (h2:q<n) (h3:i≠q):CallOK Tryz.prog 88 [.c (.l (.o i l.length)),.c (.l (.f 89 [(q,0)]))] [(i,⟨rws l,.r 42 258 i⟩),(q,⟨[li c.x0,li c.y0,li c.x1,li c.y1],.t 66⟩)] n (.c (.l (.o n (crL c l l.length).length))) [(n,⟨rws (crL c l l.length),.r 42 258 n⟩)] 1:=by
 have key:=CallOKd.at2 (C88 c l (xy_good gl) gl.len) i q n h1 h2 h3
 simp only[List.map_cons,List.map_nil,Blk.ren,SV.ren,Cp.ren,Leaf.ren,BT.ren,ren_plain (plain_rws _)] at key
 exact key
theorem enters32:Enters Tryz.prog 32:=fun args w=>by go_simp
def cz_C32 (c:R4) (l:List TA):Cz:={
 ct:=(fun f=>match f with
 |87=>some fun _ _S ar=>match ar with | [.c (.agg [.o i n])]=>some {v:=.c (.l (.o i n)),rd:=[i],wr:=[],nw:=0}|_=>none
 |88=>some fun _ _S ar=>match ar with | [.c (.l (.o i _)),.c (.l (.f _ [(q,_)]))]=>some {v:=.c (.l (.o _S.n (crL c l l.length).length)),rd:=[i,q],wr:=[(_S.n,⟨rws (crL c l l.length),.r 42 258 _S.n⟩)],nw:=1}|_=>none
 |_=>none)
 eq:=(fun t=>match t with
 |_=>none)
 raw:=[],sym:=[],nf:=[],ap:=true,off:=[],on:=[],lp:=fun _=>none,un:=0,wh:=[26]}
set_option maxRecDepth 100000 in
set_option maxHeartbeats 400000 in
theorem C32 (c:R4) (l:List TA) (gl:Good l):CallOK Tryz.prog 32 [.c (.agg [.o 0 l.length]),ag [li c.x0,li c.y0,li c.x1,li c.y1]] [(0,⟨rws l,.r 42 258 0⟩)] 1 (.c (.agg [.o 1 (crL c l l.length).length])) [(1,⟨rws (crL c l l.length),.r 42 258 1⟩)] 1:=by
 refine call_ok (cx:=cz_C32 c l) (nm:=[4]) rfl Tryz.func32 (body:=Tryz.f32.body.getD .skip) rfl enters32 (by unfold inck;simp only[List.all_cons,List.all_nil,blkLt_plain (plain_rws l) (show (BT.rn (rnId 1 0 []) (.r 42 258 0)).isSome=true from rfl),Bool.and_true,Bool.true_and];kernel_rfl) ?_
 apply of_eq (q:=CallOKd Tryz.prog 87 [] [ag [Leaf.o 0 l.length]] [(0,Blk.mk (rws l) (BT.r 42 258 0))] 4 (SV.c (Cp.l (Leaf.o 0 l.length))) [] 0∧CallOKd Tryz.prog 88 [] [SV.c (Cp.l (Leaf.o 0 l.length)),SV.c (Cp.l (Leaf.f 89 [(2,0)]))] [(0,Blk.mk (rws l) (BT.r 42 258 0)),(2,Blk.mk [li c.x0,li c.y0,li c.x1,li c.y1] (BT.t 66))] 4 (SV.c (Cp.l (Leaf.o 4 (crL c l l.length).length))) [(4,Blk.mk (rws (crL c l l.length)) (BT.r 42 258 4))] 1∧0=0∧1=1∧Le (ag [Leaf.o 1 (crL c l l.length).length]) (ag [Leaf.o 1 (crL c l l.length).length])∧BkR (rnId 1 0 [4]) (Blk.mk (rws (crL c l l.length)) (BT.r 42 258 4)) (Blk.mk (rws (crL c l l.length)) (BT.r 42 258 1))∧True) (by kernel_rfl)
 repeat' (first|exact trivial|with_reducible apply And.intro|(with_reducible apply HB.mk)|with_reducible intro _)
 all_goals first
  |(with_reducible exact Le.refl _)
  |(with_reducible rfl)
  |((exact tiles_any l gl _ _ (by omega)))
  |(((with_reducible refine mapped_any c l gl _ _ _ ?_ ?_ ?_)<;>omega))
  |(exact BkR.plain rfl (plain_rws _) (by kernel_rfl))
theorem crop_any (c:R4) (l:List TA) (gl:Good l) (id n:Nat) (hi:id<n):CallOK Tryz.prog 32 [.c (.agg [.o id l.length]),ag [li c.x0,li c.y0,li c.x1,li c.y1]] [(id,⟨rws l,.r 42 258 id⟩)] n (.c (.agg [.o n (crL c l l.length).length])) [(n,⟨rws (crL c l l.length),.r 42 258 n⟩)] 1:=by
 have key:=CallOK.at1 (C32 c l gl) id n hi
 simp only[List.map_cons,List.map_nil,Blk.ren,SV.ren,Cp.ren,Leaf.ren,BT.ren,ren_plain (plain_rws _)] at key
 exact key
end Ab
end Go.Proofs.YtpdckpifhniioaaGreat
end
section
set_option linter.unusedVariables false
set_option linter.unusedSimpArgs false
namespace Go.Proofs.YtpdckpifhniioaaGreat
open Go.RowKit
namespace Ab
def up3 (a b c n:Nat):Nat→Nat
 |0=>a
 |1=>b
 |2=>c
 |k+3=>n+k
theorem CallOKd.at3 {P:Program} {f:Nat} {dc:List (Nat×Nat×Bool)} {args:List SV} {H:List (Nat×Blk)} {v:SV} {wr:List (Nat×Blk)} {nw:Nat} (h:CallOKd P f dc args H 3 v wr nw) (a b c n:Nat) (ha:a<n) (hb:b<n) (hc:c<n) (h1:a≠b) (h2:a≠c) (h3:b≠c) :
  CallOKd P f (dc.map fun p=>(up3 a b c n p.1,p.2)) (args.map (SV.ren (up3 a b c n))) (H.map fun p=>(up3 a b c n p.1,p.2.ren (up3 a b c n))) n (v.ren (up3 a b c n)) (wr.map fun p=>(up3 a b c n p.1,p.2.ren (up3 a b c n))) nw:=
 CallOKd.ren h (up3 a b c n) n (fun i hi'=>by
  match i,hi' with
  |0,_=>exact ha
  |1,_=>exact hb
  |2,_=>exact hc) (fun i hi'=>by
  match i,hi' with
  |k+3,_=>show n+k=n+(k+3-3);omega) (fun i j hi hj e=>by
  match i,j,hi,hj,e with
  |0,0,_,_,_=>rfl
  |1,1,_,_,_=>rfl
  |2,2,_,_,_=>rfl
  |0,1,_,_,e=>exact absurd e h1
  |1,0,_,_,e=>exact absurd e.symm h1
  |0,2,_,_,e=>exact absurd e h2
  |2,0,_,_,e=>exact absurd e.symm h2
  |1,2,_,_,e=>exact absurd e h3
  |2,1,_,_,e=>exact absurd e.symm h3)
theorem kept_mem {l:List TA} {w:Int→Int→Bool}:∀k,∀e∈kept l w k,∃j,j<k∧e=at' l j
 |0,e,h=>by cases h
 |k+1,e,h=>by
  rw[kept] at h
  cases hw:w (at' l k).X (at' l k).Y with
  |false=>
   rw[hw] at h
   obtain ⟨j,hj,h1⟩:=kept_mem k e h
   exact ⟨j,by omega,h1⟩
  |true=>
   rw[hw] at h
   rcases List.mem_append.1 h with h|h
   ·obtain ⟨j,hj,h1⟩:=kept_mem k e h
    exact ⟨j,by omega,h1⟩
   ·rw[List.mem_singleton] at h
    exact ⟨k,Nat.lt_succ_self k,h⟩
theorem kept_len (l:List TA) (w:Int→Int→Bool):∀k,(kept l w k).length≤k
 |0=>Nat.le_refl _
 |k+1=>by
  have:=kept_len l w k
  rw[kept]
  cases w (at' l k).X (at' l k).Y
  ·exact Nat.le_succ_of_le this
  ·show (kept l w k++_).length≤_
   rw[List.length_append];exact Nat.add_le_add_right this 1
theorem kept_behind {l:List TA} (g:Good l) (w:Int→Int→Bool) {k:Nat} (hk:k<l.length):Behind (kept l w k) (at' l k).X (at' l k).Y:=fun i hi=>by
 obtain ⟨j,hj,h1⟩:=kept_mem k _ (at_mem hi)
 rw[h1]
 have:=good_lt g j (k-j-1) (by omega)
 rw[show j+(k-j-1)+1=k by omega] at this
 exact this
theorem kept_good {l:List TA} (g:Good l) (w:Int→Int→Bool):∀k,k≤l.length→Good (kept l w k)
 |0,_=>⟨Nat.zero_le 1024,fun k h=>absurd h (Nat.not_lt_zero k),fun k h=>absurd h (Nat.not_lt_zero k),fun k h=>absurd h (Nat.not_lt_zero k),fun k h=>absurd h (Nat.not_lt_zero _)⟩
 |k+1,hk=>by
  have ih:=kept_good g w k (by omega)
  rw[kept]
  cases w (at' l k).X (at' l k).Y with
  |false=>exact ih
  |true=>exact good_append ih (by have:=kept_len l w k;have:=g.len;omega) (kept_behind g w (by omega)) (g.inn k (by omega)) (g.nz k (by omega)) (g.cl k (by omega))
end Ab
end Go.Proofs.YtpdckpifhniioaaGreat
end
section
set_option linter.unusedVariables false
set_option linter.unusedSimpArgs false
namespace Go.Proofs.YtpdckpifhniioaaGreat
open Go.RowKit
namespace Ab
attribute [local irreducible] CallOKd
theorem some_pk (c:R4) (l:List TA) (d:Int) (gl:Good l) (h0:0≤d) (hd:d≤900000000) (n:Nat) (hn:3≤n):CallOK Tryz.prog 80 [.c (.l (.p 0 0)),.c (.l (.f 82 [(2,0)]))] [(0,⟨[.o 1 (l.map enO).length,li d],.t 125⟩),(1,⟨ens (l.map enO),.r 123 8 1⟩),(2,⟨[li c.x0,li c.y0,li c.x1,li c.y1],.t 66⟩)] n (.tup [.agg [.o n (kept l (wR c) l.length).length],.l (li 0)]) [(0,⟨[.o 1 (l.map enO).length,li (d+smC (l.map enO) (wR c) (l.map enO).length)],.t 125⟩),(n,⟨rws (kept l (wR c) l.length),.r 42 258 n⟩)] 1:=by
 have key:=CallOKd.at3 (C80bk (l.map enO) d c (goodB_of gl) h0 hd (goodX_of gl) (smF_back gl (wR c))) 0 1 2 n (by omega) (by omega) (by omega) (by decide) (by decide) (by decide)
 simp only[List.map_cons,List.map_nil,Blk.ren,SV.ren,Cp.ren,Leaf.ren,BT.ren,ren_plain (plain_ens _),ren_plain (plain_rws _)] at key
 obtain ⟨e1,e2⟩:=sm_rws gl (wR c) l.length (Nat.le_refl _)
 have e3:(l.map enO).length=l.length:=mapO_len l
 rw[←e1,←e2]
 have key2:=key
 rw[e3] at key2⊢
 exact key2
theorem enters24:Enters Tryz.prog 24:=fun args w=>by go_simp
def cz_C24k (c:R4) (l:List TA) (d:Int):Cz:={
 ct:=(fun f=>match f with
 |32=>some fun _ _S ar=>match ar with | [.c (.agg [.o i _]),_]=>some {v:=.c (.agg [.o _S.n (crL c (kept l (wR c) l.length) (kept l (wR c) l.length).length).length]),rd:=[i],wr:=[(_S.n,⟨rws (crL c (kept l (wR c) l.length) (kept l (wR c) l.length).length),.r 42 258 _S.n⟩)],nw:=1}|_=>none
 |80=>some fun _ _S ar=>match ar with | [_,_]=>some {v:=.tup [.agg [.o _S.n (kept l (wR c) l.length).length],.l (li 0)],rd:=[0,1,2],wr:=[(0,⟨[.o 1 (l.map enO).length,li (d+smC (l.map enO) (wR c) (l.map enO).length)],.t 125⟩),(_S.n,⟨rws (kept l (wR c) l.length),.r 42 258 _S.n⟩)],nw:=1}|_=>none
 |_=>none)
 eq:=(fun t=>match t with
 |_=>none)
 raw:=[],sym:=[],nf:=[],ap:=true,off:=[],on:=[],lp:=fun _=>none,un:=0,wh:=[26]}
set_option maxRecDepth 100000 in
set_option maxHeartbeats 400000 in
theorem C24k (c:R4) (l:List TA) (d:Int) (gl:Good l) (h0:0≤d) (hd:d≤900000000):CallOK Tryz.prog 24 [.c (.l (.p 0 0)),ag [li c.x0,li c.y0,li c.x1,li c.y1]] [(0,⟨[.o 1 (l.map enO).length,li d],.t 125⟩),(1,⟨ens (l.map enO),.r 123 8 1⟩)] 2 (.tup [.agg [.o 2 (crL c (kept l (wR c) l.length) (kept l (wR c) l.length).length).length],.l (li 0)]) [(0,⟨[.o 1 (l.map enO).length,li (d+smC (l.map enO) (wR c) (l.map enO).length)],.t 125⟩),(2,⟨rws (crL c (kept l (wR c) l.length) (kept l (wR c) l.length).length),.r 42 258 2⟩)] 1:=by
 refine call_ok (cx:=cz_C24k c l d) (nm:=[6]) rfl Tryz.func24 (body:=Tryz.f24.body.getD .skip) rfl enters24 (by unfold inck;simp only[List.all_cons,List.all_nil,blkLt_plain (plain_ens (l.map enO)) (show (BT.rn (rnId 2 0 []) (.r 123 8 1)).isSome=true from rfl),Bool.and_true,Bool.true_and];kernel_rfl) ?_
 apply of_eq (q:=CallOKd Tryz.prog 80 [] [SV.c (Cp.l (Leaf.p 0 0)),SV.c (Cp.l (Leaf.f 82 [(2,0)]))] [(0,Blk.mk [Leaf.o 1 (List.map enO l).length,li d] (BT.t 125)),(1,Blk.mk (ens (List.map enO l)) (BT.r 123 8 1)),(2,Blk.mk [li c.x0,li c.y0,li c.x1,li c.y1] (BT.t 66))] 4 (SV.tup [Cp.agg [Leaf.o 4 (kept l (wR c) l.length).length],Cp.l (li 0)]) [(0,Blk.mk [Leaf.o 1 (List.map enO l).length,li (d+smC (List.map enO l) (wR c) (List.map enO l).length)] (BT.t 125)),(4,Blk.mk (rws (kept l (wR c) l.length)) (BT.r 42 258 4))] 1∧0=0∧1=1∧CallOKd Tryz.prog 32 [] [ag [Leaf.o 4 (kept l (wR c) l.length).length],ag [li c.x0,li c.y0,li c.x1,li c.y1]] [(4,Blk.mk (rws (kept l (wR c) l.length)) (BT.r 42 258 4))] 6 (ag [Leaf.o 6 (crL c (kept l (wR c) l.length) (kept l (wR c) l.length).length).length]) [(6,Blk.mk (rws (crL c (kept l (wR c) l.length) (kept l (wR c) l.length).length)) (BT.r 42 258 6))] 1∧0=0∧1=1∧Le (SV.tup [Cp.agg [Leaf.o 2 (crL c (kept l (wR c) l.length) (kept l (wR c) l.length).length).length],Cp.l (li 0)]) (SV.tup [Cp.agg [Leaf.o 2 (crL c (kept l (wR c) l.length) (kept l (wR c) l.length).length).length],Cp.l (li 0)])∧BkR (rnId 2 0 [6]) (Blk.mk [Leaf.o 1 (List.map enO l).length,li (d+smC (List.map enO l) (wR c) (List.map enO l).length)] (BT.t 125)) (Blk.mk [Leaf.o 1 (List.map enO l).length,li (d+smC (List.map enO l) (wR c) (List.map enO l).length)] (BT.t 125))∧BkR (rnId 2 0 [6]) (Blk.mk (rws (crL c (kept l (wR c) l.length) (kept l (wR c) l.length).length)) (BT.r 42 258 6)) (Blk.mk (rws (crL c (kept l (wR c) l.length) (kept l (wR c) l.length).length)) (BT.r 42 258 2))∧True) (by kernel_rfl)
 repeat' (first|exact trivial|with_reducible apply And.intro|(with_reducible apply HB.mk)|with_reducible intro _)
 all_goals first
  |(with_reducible exact Le.refl _)
  |(with_reducible rfl)
  |((with_reducible exact crop_any c _ (kept_good gl _ _ (Nat.le_refl _)) _ _ (by omega)))
  |((with_reducible exact some_pk c l d gl h0 hd _ (by omega)))
  |(exact BkR.plain rfl (plain_rws _) (by kernel_rfl))
  |(exact BkR.of (by kernel_rfl))
theorem read_pk (c:R4) (l:List TA) (d:Int) (gl:Good l) (h0:0≤d) (hd:d≤900000000) (id i n:Nat) (h1:id<n) (h2:i<n) (h3:id≠i):CallOK Tryz.prog 24 [.c (.l (.p id 0)),ag [li c.x0,li c.y0,li c.x1,li c.y1]] [(id,⟨[.o i (l.map enO).length,li d],.t 125⟩),(i,⟨ens (l.map enO),.r 123 8 i⟩)] n (.tup [.agg [.o n (crL c (kept l (wR c) l.length) (kept l (wR c) l.length).length).length],.l (li 0)]) [(id,⟨[.o i (l.map enO).length,li (d+smC (l.map enO) (wR c) (l.map enO).length)],.t 125⟩),(n,⟨rws (crL c (kept l (wR c) l.length) (kept l (wR c) l.length).length),.r 42 258 n⟩)] 1:=by
 have key:=CallOKd.at2 (C24k c l d gl h0 hd) id i n h1 h2 h3
 simp only[List.map_cons,List.map_nil,Blk.ren,SV.ren,Cp.ren,Leaf.ren,BT.ren,ren_plain (plain_ens _),ren_plain (plain_rws _)] at key
 exact key
end Ab
end Go.Proofs.YtpdckpifhniioaaGreat
end
section
set_option linter.unusedVariables false
set_option linter.unusedSimpArgs false
namespace Go.Proofs.YtpdckpifhniioaaGreat
open Go.RowKit
namespace Ab
attribute [local irreducible] CallOKd
def smR (q0 q1 q2 q3:Int):R4:=R4.mk (rst q0 40-20) (rst q1 40-20) (rst q0 40-20+rst q2 40) (rst q1 40-20+rst q3 40)
theorem rst40 (x:Int):0≤rst x 40∧rst x 40<40:=by
 have:=rest_bd (x:=x) (n:=40) (by decide) (by decide)
 exact ⟨this.1,this.2.1⟩
theorem enters84:Enters Tryz.prog 84:=fun args w=>by go_simp
def cz_C84:Cz:={
 ct:=(fun f=>match f with
 |_=>none)
 eq:=(fun t=>match t with
 |_=>none)
 raw:=[],sym:=[],nf:=[],ap:=true,off:=[],on:=[],lp:=fun _=>none,un:=0}
set_option maxRecDepth 100000 in
set_option maxHeartbeats 400000 in
theorem C84 (x d:Int) (h0:0<d) (h1:d≤1000000000) (n:Nat):CallOK Tryz.prog 84 [iv .i64 x,iv .i64 d] [] n (iv .i64 (rst x d)) [] 0:=by
 refine CallOK.any ?_ (by kernel_rfl) (by kernel_rfl) n
 refine call_ok (cx:=cz_C84) (nm:=[]) rfl Tryz.func84 (body:=Tryz.f84.body.getD .skip) rfl enters84 (by kernel_rfl) ?_
 apply of_eq (q:=d≠0∧IntKind.i64.wrap (x.tmod d+d)=x.tmod d+d∧d≠0∧Le (iv IntKind.i64 ((x.tmod d+d).tmod d)) (iv IntKind.i64 (rst x d))∧True) (by kernel_rfl)
 repeat' (first|exact trivial|with_reducible apply And.intro|(with_reducible apply HB.mk)|with_reducible intro _)
 all_goals first
  |(omega)
  |(have:=rest_bd (x:=x) h0 h1;exact okw _ (by omega) (by omega))
  |(exact Le.int rfl)
theorem enters27:Enters Tryz.prog 27:=fun args w=>by go_simp
def cz_C27:Cz:={
 ct:=(fun f=>match f with
 |84=>some fun _ _S ar=>match ar with | [.c (.l (.v (.int _ x))),.c (.l (.v (.int _ n)))]=>some {v:=iv .i64 (rst x n),rd:=[],wr:=[],nw:=0}|_=>none
 |_=>none)
 eq:=(fun t=>match t with
 |_=>none)
 raw:=[],sym:=[],nf:=[],ap:=true,off:=[],on:=[],lp:=fun _=>none,un:=0,wh:=[66]}
set_option maxRecDepth 100000 in
set_option maxHeartbeats 400000 in
theorem C27 (q0 q1 q2 q3:Int)  (n:Nat):CallOK Tryz.prog 27 [ag [li q0,li q1,li q2,li q3]] [] n (ag [li (smR q0 q1 q2 q3).x0,li (smR q0 q1 q2 q3).y0,li (smR q0 q1 q2 q3).x1,li (smR q0 q1 q2 q3).y1]) [] 0:=by
 refine CallOK.any ?_ (by kernel_rfl) (by kernel_rfl) n
 refine call_ok (cx:=cz_C27) (nm:=[]) rfl Tryz.func27 (body:=Tryz.f27.body.getD .skip) rfl enters27 (by kernel_rfl) ?_
 apply of_eq (q:=CallOKd Tryz.prog 84 [] [iv IntKind.i64 q0,iv IntKind.i64 40] [] 2 (iv IntKind.i64 (rst q0 40)) [] 0∧IntKind.i64.wrap (rst q0 40-20)=rst q0 40-20∧CallOKd Tryz.prog 84 [] [iv IntKind.i64 q1,iv IntKind.i64 40] [] 2 (iv IntKind.i64 (rst q1 40)) [] 0∧IntKind.i64.wrap (rst q1 40-20)=rst q1 40-20∧CallOKd Tryz.prog 84 [] [iv IntKind.i64 q2,iv IntKind.i64 40] [] 2 (iv IntKind.i64 (rst q2 40)) [] 0∧IntKind.i64.wrap (rst q0 40-20+rst q2 40)=rst q0 40-20+rst q2 40∧CallOKd Tryz.prog 84 [] [iv IntKind.i64 q3,iv IntKind.i64 40] [] 2 (iv IntKind.i64 (rst q3 40)) [] 0∧IntKind.i64.wrap (rst q1 40-20+rst q3 40)=rst q1 40-20+rst q3 40∧0=0∧4=4∧Le (ag [li (rst q0 40-20),li (rst q1 40-20),li (rst q0 40-20+rst q2 40),li (rst q1 40-20+rst q3 40)]) (ag [li (smR q0 q1 q2 q3).x0,li (smR q0 q1 q2 q3).y0,li (smR q0 q1 q2 q3).x1,li (smR q0 q1 q2 q3).y1])∧True) (by kernel_rfl)
 repeat' (first|exact trivial|with_reducible apply And.intro|(with_reducible apply HB.mk)|with_reducible intro _)
 all_goals first
  |(with_reducible rfl)
  |(((with_reducible refine C84 _ _ ?_ ?_ _)<;>omega))
  |((have:=rst40 q0;have:=rst40 q1;have:=rst40 q2;have:=rst40 q3;exact okw _ (by omega) (by omega)))
  |(exact Le.of rfl)
  |(exact Le.of rfl)
end Ab
end Go.Proofs.YtpdckpifhniioaaGreat
end
section
set_option linter.unusedVariables false
set_option linter.unusedSimpArgs false
namespace Go.Proofs.YtpdckpifhniioaaGreat
open Go.RowKit
namespace Ab
theorem mE_map {l:List TA} {x y:Int} {j:Nat} (h:j<l.length):mE (l.map enO) x y j=mT l x y j:=by
 unfold mE mT
 rw[ea_map h]
 rfl
theorem find_congr {p q:Nat→Bool}:∀(xs:List Nat),(∀x∈xs,p x=q x)→xs.find? p=xs.find? q
 |[],_=>rfl
 |x::xs,h=>by
  rw[List.find?_cons,List.find?_cons,h x (List.mem_cons_self ..),find_congr xs fun y hy=>h y (List.mem_cons_of_mem _ hy)]
theorem fnd_map (l:List TA) (x y:Int):fnd (l.map enO) x y=fndT l x y:=by
 unfold fnd fndT
 rw[List.length_map,find_congr (q:=mT l x y) _ fun j hj=>mE_map (List.mem_range.1 hj)]
 rfl
theorem rT_same {l:List TA} (g:Good l) (x y:Int):sameT (rT l x y) zT=decide (fndT l x y<0):=by
 cases h:decide (fndT l x y<0) with
 |true=>rw[rT_t h];exact (sameT_iff _ _).2 fun i hi=>rfl
 |false=>
  rw[rT_f h]
  obtain ⟨h0,h1⟩:=fndT_in h
  have h2:=g.nz _ h1
  have h3:=g.cl _ h1
  unfold zeroT at h2
  rw[←h2]
  exact sameT_congr (fun i hi=>((sameT_iff _ _).1 h3 i hi).symm) fun i hi=>rfl
theorem tlC_map {l:List TA} (g:Good l) (x y:Int):tlC (l.map enO) x y=bif sameT (rT l x y) zT then 0 else 1:=by
 unfold tlC
 rw[fnd_map,rT_same g]
theorem fE_map {l:List TA} {x y:Int} (h:decide (fndT l x y<0)=false):fE (l.map enO) x y=enO (at' l (fndT l x y).toNat):=by
 unfold fE
 rw[fnd_map]
 exact ea_map (fndT_in h).2
theorem tlE_map {l:List TA} (g:Good l) (x y:Int):tlE (l.map enO) x y=0:=by
 unfold tlE
 rw[fnd_map]
 cases h:decide (fndT l x y<0) with
 |true=>rfl
 |false=>
  rw[fE_map h]
  exact (dec_enO (g.nz _ (fndT_in h).2) (g.cl _ (fndT_in h).2)).1
theorem tlT_map {l:List TA} (g:Good l) (x y:Int):tl (tlT (l.map enO) x y)=tl (rT l x y):=by
 unfold tlT
 rw[fnd_map]
 cases h:decide (fndT l x y<0) with
 |true=>rw[rT_t h];rfl
 |false=>
  rw[rT_f h,fE_map h]
  exact (dec_enO (g.nz _ (fndT_in h).2) (g.cl _ (fndT_in h).2)).2.tl
end Ab
end Go.Proofs.YtpdckpifhniioaaGreat
end
section
set_option linter.unusedVariables false
set_option linter.unusedSimpArgs false
namespace Go.Proofs.YtpdckpifhniioaaGreat
open Go.RowKit
namespace Ab
theorem crT_clean (c:R4) {e:TA} (h:sameT (clnT e.t) e.t=true):sameT (clnT (crT c e)) (crT c e)=true:=by
 rw[sameT_iff] at h⊢
 intro i hi
 have h1:=h i hi
 unfold clnT at h1⊢
 unfold crT
 rw[show (4*(i / 4)+3) / 4=i / 4 by omega]
 cases hasR c (e.X*8+((i / 4:Nat):Int).tmod 8) (e.Y*8+((i / 4:Nat):Int).tdiv 8) with
 |true=>exact h1
 |false=>show pcb 0 0=0;decide
theorem crL_mem {c:R4} {l:List TA}:∀k,∀e∈crL c l k,∃j,j<k∧e=crE c (at' l j)
 |0,e,h=>by cases h
 |k+1,e,h=>by
  rw[crL] at h
  cases hw:zeroT (crT c (at' l k)) with
  |true=>
   rw[hw] at h
   obtain ⟨j,hj,h1⟩:=crL_mem k e h
   exact ⟨j,by omega,h1⟩
  |false=>
   rw[hw] at h
   rcases List.mem_append.1 h with h|h
   ·obtain ⟨j,hj,h1⟩:=crL_mem k e h
    exact ⟨j,by omega,h1⟩
   ·rw[List.mem_singleton] at h
    exact ⟨k,Nat.lt_succ_self k,h⟩
theorem crL_behind {l:List TA} (g:Good l) (c:R4) {k:Nat} (hk:k<l.length):Behind (crL c l k) (at' l k).X (at' l k).Y:=fun i hi=>by
 obtain ⟨j,hj,h1⟩:=crL_mem k _ (at_mem hi)
 rw[h1]
 have:=good_lt g j (k-j-1) (by omega)
 rw[show j+(k-j-1)+1=k by omega] at this
 exact this
theorem crL_good {l:List TA} (g:Good l) (c:R4):∀k,k≤l.length→Good (crL c l k)
 |0,_=>⟨Nat.zero_le 1024,fun k h=>absurd h (Nat.not_lt_zero k),fun k h=>absurd h (Nat.not_lt_zero k),fun k h=>absurd h (Nat.not_lt_zero k),fun k h=>absurd h (Nat.not_lt_zero _)⟩
 |k+1,hk=>by
  have ih:=crL_good g c k (by omega)
  rw[crL]
  cases hz:zeroT (crT c (at' l k)) with
  |true=>exact ih
  |false=>exact good_append ih (by have:=crL_len c l k;have:=g.len;omega) (crL_behind g c (by omega)) (g.inn k (by omega)) hz (crT_clean c (g.cl k (by omega)))
theorem mm_iff (a b x:Int):imax a b≤x↔a≤x∧b≤x:=by
 unfold imax
 split<;>omega
theorem mn_iff (a b x:Int):x<imin a b↔x<a∧x<b:=by
 unfold imin
 split<;>omega
theorem emp_iff (r:R4):emp r=true↔r.x0≥r.x1∨r.y0≥r.y1:=by
 unfold emp
 by_cases h:r.x0≥r.x1
 ·rw[decide_eq_true h];exact ⟨fun _=>.inl h,fun _=>rfl⟩
 ·rw[decide_eq_false h]
  show decide (r.y0≥r.y1)=true↔_
  rw[decide_eq_true_iff]
  exact ⟨.inr,fun q=>q.resolve_left h⟩
theorem emp_nrm (r:R4):emp (nrm r)=emp r:=by
 cases h:emp r with
 |true=>rw[nrm_t h];rfl
 |false=>rw[nrm_f h,h]
theorem hasR_iff (c:R4) (x y:Int):hasR c x y=true↔(c.x0≤x∧x<c.x1)∧c.y0≤y∧y<c.y1:=by
 unfold hasR
 by_cases h0:c.x0≤x<;>by_cases h1:x<c.x1<;>by_cases h2:c.y0≤y<;>by_cases h3:y<c.y1<;>simp[h0,h1,h2,h3]
theorem out_of {c:R4} {X Y:Int} (h:wR c X Y=false) {i:Nat} (hi:i<64):hasR c (X*8+((i:Nat):Int).tmod 8) (Y*8+((i:Nat):Int).tdiv 8)=false:=by
 have h:emp (isx (ofP X Y) c)=true:=by
  unfold wR at h
  cases e:emp (isx (ofP X Y) c) with
  |true=>rfl
  |false=>rw[e] at h;cases h
 unfold isx at h
 rw[emp_nrm,emp_iff] at h
 have e8:((i:Nat):Int).tmod 8=((i % 8:Nat):Int):=by rw[Int.tmod_eq_emod_of_nonneg (by omega)];rfl
 have d8:((i:Nat):Int).tdiv 8=((i / 8:Nat):Int):=by rw[Int.tdiv_eq_ediv_of_nonneg (by omega)];rfl
 cases e:hasR c (X*8+((i:Nat):Int).tmod 8) (Y*8+((i:Nat):Int).tdiv 8) with
 |false=>rfl
 |true=>
  rw[hasR_iff,e8,d8] at e
  exfalso
  have p:∀a b:Int,imax a b=a∨imax a b=b:=fun a b=>by unfold imax;split<;>simp
  have x0:=(mm_iff (ofP X Y).x0 c.x0 (X*8+((i % 8:Nat):Int))).2 ⟨by show 8*X≤_;omega,e.1.1⟩
  have x1:=(mn_iff (ofP X Y).x1 c.x1 (X*8+((i % 8:Nat):Int))).2 ⟨by show _<8*X+8;omega,e.1.2⟩
  have y0:=(mm_iff (ofP X Y).y0 c.y0 (Y*8+((i / 8:Nat):Int))).2 ⟨by show 8*Y≤_;omega,e.2.1⟩
  have y1:=(mn_iff (ofP X Y).y1 c.y1 (Y*8+((i / 8:Nat):Int))).2 ⟨by show _<8*Y+8;omega,e.2.2⟩
  rcases h with h|h
  ·have h:imin (ofP X Y).x1 c.x1≤imax (ofP X Y).x0 c.x0:=h
   omega
  ·have h:imin (ofP X Y).y1 c.y1≤imax (ofP X Y).y0 c.y0:=h
   omega
theorem crT_out {c:R4} {e:TA} (h:wR c e.X e.Y=false):zeroT (crT c e)=true:=by
 unfold zeroT
 rw[sameT_iff]
 intro i hi
 unfold clnT crT
 rw[show (4*(i / 4)+3) / 4=i / 4 by omega,out_of h (show i / 4<64 by omega)]
 show pcb 0 0=0
 decide
theorem at_app {l m:List TA} {k:Nat} (h:k<l.length):at' (l++m) k=at' l k:=by
 unfold at'
 rw[List.getD_eq_getElem?_getD,List.getD_eq_getElem?_getD,List.getElem?_append_left h]
theorem crL_app (c:R4) (l m:List TA):∀k,k≤l.length→crL c (l++m) k=crL c l k
 |0,_=>rfl
 |k+1,h=>by
  rw[crL,crL,at_app (show k<l.length by omega),crL_app c l m k (by omega)]
theorem crL_kept (c:R4) (l:List TA):∀k,k≤l.length→crL c (kept l (wR c) k) (kept l (wR c) k).length=crL c l k
 |0,_=>rfl
 |k+1,h=>by
  have ih:=crL_kept c l k (by omega)
  rw[kept]
  cases hw:wR c (at' l k).X (at' l k).Y with
  |false=>
   show crL c (kept l (wR c) k) (kept l (wR c) k).length=_
   rw[ih]
   conv=>rhs;rw[crL]
   rw[crT_out hw];rfl
  |true=>
   show crL c (kept l (wR c) k++[at' l k]) (kept l (wR c) k++[at' l k]).length=_
   rw[List.length_append]
   show crL c (kept l (wR c) k++[at' l k]) ((kept l (wR c) k).length+1)=_
   have e:at' (kept l (wR c) k++[at' l k]) (kept l (wR c) k).length=at' l k:=by
    generalize kept l (wR c) k=K
    unfold at'
    simp
   rw[crL,e,crL_app c _ _ _ (Nat.le_refl _),ih]
   conv=>rhs;rw[crL]
end Ab
end Go.Proofs.YtpdckpifhniioaaGreat
end
