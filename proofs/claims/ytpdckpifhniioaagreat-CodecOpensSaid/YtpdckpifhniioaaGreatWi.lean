/- Part 9 of what CodecOpens rests on. -/
import Derived.Laws.StructEq
import Derived.Deep.QuietTactic
import Derived.BigQuiet
import Derived.Deep.RegionWith
import Derived.Test.YtpdckpifhniioaaGreatWh
open Go.Proofs.Tryz
set_option maxRecDepth 100000
set_option maxHeartbeats 8000000
set_option linter.unusedVariables false
set_option linter.unusedSimpArgs false
namespace Go.Proofs.YtpdckpifhniioaaGreat
open Go.RowKit
section
namespace Ab
attribute [local irreducible] j8
attribute [local irreducible] tl n8
theorem Z1 (t:Nat->UInt8) (e:Int):List.take 256 (t5 t e)=tl t:=by
 unfold t5
 rw[List.take_append_of_le_length (by rw[B8];exact Nat.le_refl _),t7]
def kP (L:List EN) (d:Int) (k:Nat):St:=⟨[(8,iv .i64 (k:Nat)),(0,.c (.l (.p 0 0))),(2,bv true),(4,.c (.l (.p 2 0))),(6,.c (.l (.p 3 0))),(7,.c (.l (.p 4 0)))],[(0,some ⟨[.o 1 L.length,li (d+(B6 L l2 k))],.t 91⟩),(1,some ⟨o4 L,.r 59 8 1⟩),(2,some ⟨[li (R4.mk 0 0 0 0).x0,li (R4.mk 0 0 0 0).y0,li (R4.mk 0 0 0 0).x1,li (R4.mk 0 0 0 0).y1],.t 66⟩),(3,some ⟨t5 zT 0,.t 85⟩),(4,some ⟨[.o 5 (v7 L l2 k).length],.t 26⟩),(5,some ⟨n8 (v7 L l2 k),.r 42 258 5⟩)],6,69,[5,4,3,2,0],(2)⟩
def Hk (L:List EN) (d:Int) (k:Nat):St:=⟨[(6,.c (.l (.p 3 0)))],[(0,some ⟨[.o 1 L.length,li (d+((B6 L l2 k)+1))],.t 91⟩),(3,some ⟨t5 zT (E0 (ea L k)),.t 85⟩)],6,69,[5,4,3,2,0],(2)⟩
def b9z:Rw:=some fun _ _=>fun | [.c (.agg [.v (.int _ X),.v (.int _ Y)])]=>some {v:=ag [li (N9 X Y).x0,li (N9 X Y).y0,li (N9 X Y).x1,li (N9 X Y).y1]}|_=>none
def c6b:Rw:=some fun _ _=>fun | [.c (.agg [.v (.int _ a0),.v (.int _ a1),.v (.int _ a2),.v (.int _ a3)])]=>some {v:=bv (R7 ⟨a0,a1,a2,a3⟩)}|_=>none
def c1d:Rw:=some fun _ _=>fun | [.c (.agg [.v (.int _ a0),.v (.int _ a1),.v (.int _ a2),.v (.int _ a3)]),.c (.agg [.v (.int _ b0),.v (.int _ b1),.v (.int _ b2),.v (.int _ b3)])]=>some {v:=ag [li (kM ⟨a0,a1,a2,a3⟩ ⟨b0,b1,b2,b3⟩).x0,li (kM ⟨a0,a1,a2,a3⟩ ⟨b0,b1,b2,b3⟩).y0,li (kM ⟨a0,a1,a2,a3⟩ ⟨b0,b1,b2,b3⟩).x1,li (kM ⟨a0,a1,a2,a3⟩ ⟨b0,b1,b2,b3⟩).y1]}|_=>none
def Zm (L:List EN) (d:Int) (k:Nat):Cz:={
 ct:=(fun f=>match f with
 |96=>some fun _ _=>fun | [.c (.l (.p i _)),_]=>some {v:=.c (.agg (t5 (C7 (ea L k)) (E0 (ea L k)))),rd:=[0,1],wr:=[(0,⟨[.o 1 L.length,li (d+(B6 L l2 k)+1)],.t 91⟩)]}|_=>none
 |102=>b9z
 |139=>c6b
 |140=>c1d
 |_=>none)
 sym:=[25,26,27,53,54,55,60],nf:=[(27,.c (.agg [li (ea L k).X,li (ea L k).Y])),(28,ag [li (N9 (ea L k).X (ea L k).Y).x0,li (N9 (ea L k).X (ea L k).Y).y0,li (N9 (ea L k).X (ea L k).Y).x1,li (N9 (ea L k).X (ea L k).Y).y1]),(31,bv (R7 (kM (N9 (ea L k).X (ea L k).Y) (R4.mk 0 0 0 0)))),(36,bv false),(42,bv (gU (ea L k))),(55,.c (.agg [li (ea L k).X,li (ea L k).Y])),(57,.c (.agg (tl (C7 (ea L k))))),(58,.c (.agg (el ⟨(ea L k).X,(ea L k).Y,C7 (ea L k)⟩)))],wh:=[85,66]}
theorem b7s (L:List EN) (d:Int) (k:Nat)  (K:Exit->St->Prop) (h:let a:=((k:Int));let b:=ag (List.take 2 (List.drop (a.toNat*8+0) (o4 L)));let e:=[li (ea L k).X,li (ea L k).Y];let f:=N9 (ea L k).X (ea L k).Y;let g:=[li f.x0,li f.y0,li f.x1,li f.y1];let i:=[li 0,li 0,li 0,li 0];let j:=kM f (R4.mk 0 0 0 0);let m:=[li j.x0,li j.y0,li j.x1,li j.y1];let n:=bv (R7 j);let q:=[Leaf.o 1 L.length,li (d+B6 L l2 k)];let s:=C7 (ea L k);let u:=t5 s (E0 (ea L k));let w:=[Leaf.o 1 L.length,li (d+B6 L l2 k+1)];let x:=[(0,j7 0 0),(2,bv true),(4,j7 2 0),(6,j7 3 0),(7,j7 4 0),(8,i8 (k:Int))];let y:=(0,some (j9 w 91));let z:=(1,some (o8 (o4 L) 59 8 1));let A:=(2,some (j9 i 66));let B:=v7 L l2 k;let C:=(4,some (j9 [Leaf.o 5 B.length] 26));let D:=(5,some (o8 (n8 B) 42 258 5));let E:=(6,some (j9 u 85));let G:=(8,none);let H:=ag (List.take 256 u);let I:=ag (j4 (e++List.replicate 256 (l8 0)) 2 (tl s));let J:=el (TA.mk (ea L k).X (ea L k).Y s);let M:=((k:Int)+1);let N:=(A2 3 (Tryz.f97.body.getD Code.skip)).getD Code.skip;let O:=[(0,j7 0 0),(2,bv true),(4,j7 2 0),(6,j7 3 0),(7,j7 4 0),(8,i8 M)];let P:=(3,some (j9 (t5 zT 0) 85));let Q:=B.length+1;let R:=n8 B++j4 A8 0 J;let T:=(7,some (o8 (j4 A8 0 J) 42 258 7));let U:=[(5,B.length+1,false)];HB (decide ((k:Int)<(L.length:Int))) (t0 a L.length/\a.toNat*8+0+2<=(o4 L).length/\Le b (ag e)/\Kd 102 [] [ag e] [] 6 (ag g) [] 0/\Le (ag g) (ag g)/\Kd 140 [] [ag g,ag i] [] 6 (ag m) [] 0/\Kd 139 [] [ag m] [] 6 n [] 0/\Le n n/\(R7 j=true->R7 j=true/\True)/\(R7 j=true->R7 j=true)/\Le (bv (bif R7 j then false else false)) (bv false)/\Kd 96 [] [j7 0 0,i8 (k:Int)] [(0,j9 q 91),(1,o8 (o4 L) 59 8 1)] 6 (ag u) [(0,j9 w 91)] 0/\0=0/\258=258/\Le (bv (E0 (ea L k) != 0)) (bv (gU (ea L k)))/\HB (gU (ea L k)) (0=0/\258=258/\wkK 6 K Exit.ret (St.mk x [y,z,A,(3,some (j9 (o7++[Leaf.v (Value.slice none 0 0),li (E0 (ea L k))]) 85)),C,D,E,(7,none),G] 7 69 [3,6,6,0,5,4,3,2,0] 2)) ((t0 a L.length/\a.toNat*8+0+2<=(o4 L).length/\Le b (ag e)/\Le H (ag (tl s))/\Le I (ag J)/\(n8 B).length=B.length*258/\258=258/\IntKind.i64.wrap M=(k:Int)+1/\RoundTo prog N 6 (wkK 6 K) (St.mk O [y,z,A,P,(4,some (j9 [Leaf.o 5 Q] 26)),(5,some (o8 R 42 258 5)),E,T,G] 8 69 [4,5,7,6,6,0,5,4,3,2,0] 2))/\t0 a L.length/\a.toNat*8+0+2<=(o4 L).length/\Le b (ag e)/\Le H (ag (tl s))/\Le I (ag J)/\U=U/\fW prog 42 Q/\(n8 B).length=B.length*258/\258=258/\IntKind.i64.wrap M=(k:Int)+1/\RoundTo prog N 6 (wkK 6 K) (St.mk O [y,z,A,P,(4,some (j9 [Leaf.o 8 Q] 26)),D,E,T,(8,some (o8 R 42 258 8))] 9 69 [4,8,7,6,6,0,5,4,3,2,0] 2))) (wkK 6 K (Exit.exit 0) (St.mk x [(0,some (j9 q 91)),z,A,P,C,D,(6,none),(7,none),G] 6 69 [5,4,3,2,0] 2))):z4 prog (gl 3 Tryz.f97) (kP L d k) (wkK 6 K):=
 m5 [0,2,4,6,7,8] [0,1,2,3,4,5,6,7,8] (cx:=Zm L d k) rfl (u3 (by kernel_rfl) h)
theorem a1l (L:List EN) (d:Int) (hG:x7 L) (hX:GoodX L) (h0:0<=d) (hd:d<=900000000):∀(m k:Nat),L.length-k=m->k<=L.length->(∀j,j<k->D0 L l2 j=true)->∀(K:Exit->St->Prop),((∀j,j<L.length->D0 L l2 j=true)->K (.exit 0) (kP L d L.length))->(∀j,j<L.length->(∀i,i<j->D0 L l2 i=true)->D0 L l2 j=false->K .ret (Hk L d j))->z4 prog (gl 3 Tryz.f97) (kP L d k) (wkK 6 K)
 |0,k,hm,hk,hall,K,hK,hR=>by
  have e:k=L.length:=by omega
  subst e
  refine b7s L d _ K (HB.no (by omega) ?_)
  exact wkK.tk (kP L d _) (by kernel_rfl) (d5 (l6.k (by kernel_rfl)) (d5 (l6.p (g9 _) (by kernel_rfl)) (d5 (l6.k (by kernel_rfl)) (d5 (l6.p (o9) (by kernel_rfl)) (d5 (l6.k (by kernel_rfl)) (d5 (l6.p (i9 _) (by kernel_rfl)) trivial)))))) (hK hall)
 |m+1,k,hm,hk,hall,K,hK,hR=>by
  refine b7s L d k K (HB.yes (by omega) ?_)
  have hlt:k<L.length:=by omega
  have hlen:=hG.len
  have hcb:=eQ L l2 k
  have hW:(!(l2 (ea L k).X (ea L k).Y))=false:=rfl
  with_reducible repeat' first|exact trivial|apply And.intro|apply HB.mk|intro _|assumption|exact Le.refl _|rfl
  all_goals first|(with_reducible refine aL L _ k hG ?_ ?_ hlt _ _ _ ?_ ?_ ?_)<;>omega|(with_reducible refine a7y _ _ ?_ ?_ _)<;>(have hx:=hX.x k hlt;have hy:=hX.y k hlt;omega)|(with_reducible first|exact Xf ⟨_,_,_,_⟩ _|exact b7p ⟨_,_,_,_⟩ ⟨_,_,_,_⟩ _)|(exact ⟨by omega,by omega⟩)|rw[y6];omega|refine Le.of ?_;simp only[tn,Nat.zero_add,Nat.add_zero];rw[cO hlt]|(with_reducible first|exact Le.bool (bT _)|exact Le.of (congrArg (fun l=>SV.c (.agg l)) (Z1 _ _)))|exact Le.of (congrArg (fun l=>SV.c (.agg l)) (bW _ _ _))|refine Le.bool ?_;cases (R7 (kM (N9 (ea L k).X (ea L k).Y) (R4.mk 0 0 0 0)))<;>rfl|rw[C6];omega|with_reducible refine rV ?_;have:=cR L l2 k;have:=hG.len;omega|(with_reducible refine RoundTo.tk 8 (kP L d (k+1)) ?_ ?_ ?_);kernel_rfl;exact (d5 (l6.blk (k:=⟨[.o 1 L.length,li (d+(B6 L l2 k)+1)],.t 91⟩) (by kernel_rfl) (by rw[(R6 hW).2,Int.add_assoc]) (by kernel_rfl)) (d5 (l6.p (g9 _) (by kernel_rfl)) (d5 (l6.k (by kernel_rfl)) (d5 (l6.p (o9) (by kernel_rfl)) (d5 (l6.blk (k:=⟨[.o 5 ((v7 L l2 k).length+1)],.t 26⟩) (by kernel_rfl) (by rw[(E1 hW).2]) (by kernel_rfl)) (d5 (l6.plain (cs:=n8 (v7 L l2 k)++j4 A8 0 (el ⟨(ea L k).X,(ea L k).Y,C7 (ea L k)⟩)) (b:=.r 42 258 5) (by kernel_rfl) (by rw[L2,(E1 hW).1]) (i9 _) (by kernel_rfl)) trivial))))));exact (a1l L d hG hX h0 hd m (k+1) (by omega) (by omega) (fun j hj=>by rcases Nat.lt_or_ge j k with h|h;exact hall j h;have e:j=k:=(by omega);subst e;exact (bM rfl (by with_reducible assumption))) K hK hR)|(with_reducible refine RoundTo.rk 9 [(5,some 8)] (kP L d (k+1)) ?_ ?_ ?_);kernel_rfl;exact (f5 (j:=0) rfl (v5.blk (k:=⟨[.o 1 L.length,li (d+(B6 L l2 k)+1)],.t 91⟩) (k'':=⟨[.o 1 L.length,li (d+(B6 L l2 k)+1)],.t 91⟩) (by kernel_rfl) (by kernel_rfl) (by rw[(R6 hW).2,Int.add_assoc])) (f5 (j:=1) rfl (v5.p (g9 _) (by kernel_rfl)) (f5 (j:=2) rfl (v5.k (by kernel_rfl)) (f5 (j:=3) rfl (v5.p (o9) (by kernel_rfl)) (f5 (j:=4) rfl (v5.blk (k:=⟨[.o 8 ((v7 L l2 k).length+1)],.t 26⟩) (k'':=⟨[.o 5 ((v7 L l2 k).length+1)],.t 26⟩) (by kernel_rfl) (by kernel_rfl) (by rw[(E1 hW).2])) (f5 (j:=8) rfl (v5.plain (cs:=n8 (v7 L l2 k)++j4 A8 0 (el ⟨(ea L k).X,(ea L k).Y,C7 (ea L k)⟩)) (b:=.r 42 258 8) (by kernel_rfl) (by rw[L2,(E1 hW).1]) (i9 _) (by kernel_rfl)) trivial))))));exact (a1l L d hG hX h0 hd m (k+1) (by omega) (by omega) (fun j hj=>by rcases Nat.lt_or_ge j k with h|h;exact hall j h;have e:j=k:=(by omega);subst e;exact (bM rfl (by with_reducible assumption))) K hK hR)|exact wkK.tk (Hk L d k) (by kernel_rfl) (d5 (l6.blk (k:=⟨[.o 1 L.length,li (d+(B6 L l2 k)+1)],.t 91⟩) (by kernel_rfl) (by rw[Int.add_assoc]) (by kernel_rfl)) (d5 (l6.plain (cs:=o7++[.v (.slice none 0 0),li (E0 (ea L k))]) (b:=.t 85) (by kernel_rfl) (J5 _) (o9) (by kernel_rfl)) trivial)) (hR k hlt hall ((uW rfl (by with_reducible assumption))))|exact C2 _ (by omega) (by omega)
def iG (L:List EN) (d:Int) (c:R4) (k:Nat):St:=⟨[(8,iv .i64 (k:Nat)),(0,.c (.l (.p 0 0))),(2,bv false),(4,.c (.l (.p 2 0))),(6,.c (.l (.p 3 0))),(7,.c (.l (.p 4 0)))],[(0,some ⟨[.o 1 L.length,li (d+(B6 L (wR c) k))],.t 91⟩),(1,some ⟨o4 L,.r 59 8 1⟩),(2,some ⟨[li c.x0,li c.y0,li c.x1,li c.y1],.t 66⟩),(3,some ⟨t5 zT 0,.t 85⟩),(4,some ⟨[.o 5 (v7 L (wR c) k).length],.t 26⟩),(5,some ⟨n8 (v7 L (wR c) k),.r 42 258 5⟩)],6,69,[5,4,3,2,0],(2)⟩
def Gw (L:List EN) (d:Int) (c:R4) (k:Nat):St:=⟨[(6,.c (.l (.p 3 0)))],[(0,some ⟨[.o 1 L.length,li (d+((B6 L (wR c) k)+1))],.t 91⟩),(3,some ⟨t5 zT (E0 (ea L k)),.t 85⟩)],6,69,[5,4,3,2,0],(2)⟩
def a2q (L:List EN) (d:Int) (c:R4) (k:Nat):Cz:={
 ct:=(fun f=>match f with
 |96=>some fun _ _=>fun | [.c (.l (.p i _)),_]=>some {v:=.c (.agg (t5 (C7 (ea L k)) (E0 (ea L k)))),rd:=[0,1],wr:=[(0,⟨[.o 1 L.length,li (d+(B6 L (wR c) k)+1)],.t 91⟩)]}|_=>none
 |102=>b9z
 |139=>c6b
 |140=>c1d
 |_=>none)
 sym:=[25,26,27,53,54,55,60],nf:=[(27,.c (.agg [li (ea L k).X,li (ea L k).Y])),(28,ag [li (N9 (ea L k).X (ea L k).Y).x0,li (N9 (ea L k).X (ea L k).Y).y0,li (N9 (ea L k).X (ea L k).Y).x1,li (N9 (ea L k).X (ea L k).Y).y1]),(31,bv (!(wR c (ea L k).X (ea L k).Y))),(36,bv (!(wR c (ea L k).X (ea L k).Y))),(42,bv (gU (ea L k))),(55,.c (.agg [li (ea L k).X,li (ea L k).Y])),(57,.c (.agg (tl (C7 (ea L k))))),(58,.c (.agg (el ⟨(ea L k).X,(ea L k).Y,C7 (ea L k)⟩)))],wh:=[85,66]}
theorem b9j (L:List EN) (d:Int) (c:R4) (k:Nat)  (K:Exit->St->Prop) (h:let a:=((k:Int));let b:=ag (List.take 2 (List.drop (a.toNat*8+0) (o4 L)));let e:=[li (ea L k).X,li (ea L k).Y];let f:=N9 (ea L k).X (ea L k).Y;let g:=[li f.x0,li f.y0,li f.x1,li f.y1];let i:=[li c.x0,li c.y0,li c.x1,li c.y1];let j:=kM f c;let m:=[li j.x0,li j.y0,li j.x1,li j.y1];let n:=bv !wR c (ea L k).X (ea L k).Y;let q:=!wR c (ea L k).X (ea L k).Y;let s:=((k:Int)+1);let u:=(A2 3 (Tryz.f97.body.getD Code.skip)).getD Code.skip;let w:=wkK 6 K;let x:=[(0,j7 0 0),(2,bv false),(4,j7 2 0),(6,j7 3 0),(7,j7 4 0),(8,i8 s)];let y:=[Leaf.o 1 L.length,li (d+B6 L (wR c) k)];let z:=(1,some (o8 (o4 L) 59 8 1));let A:=(2,some (j9 i 66));let B:=(3,some (j9 (t5 zT 0) 85));let C:=v7 L (wR c) k;let D:=(4,some (j9 [Leaf.o 5 C.length] 26));let E:=(5,some (o8 (n8 C) 42 258 5));let G:=(8,none);let H:=[(0,some (j9 y 91)),z,A,B,D,E,(6,none),(7,none),G];let I:=C7 (ea L k);let J:=t5 I (E0 (ea L k));let M:=[Leaf.o 1 L.length,li (d+B6 L (wR c) k+1)];let N:=[(0,j7 0 0),(2,bv false),(4,j7 2 0),(6,j7 3 0),(7,j7 4 0),(8,i8 (k:Int))];let O:=(0,some (j9 M 91));let P:=(6,some (j9 J 85));let Q:=ag (List.take 256 J);let R:=ag (j4 (e++List.replicate 256 (l8 0)) 2 (tl I));let T:=el (TA.mk (ea L k).X (ea L k).Y I);let U:=C.length+1;let V:=n8 C++j4 A8 0 T;let W:=(7,some (o8 (j4 A8 0 T) 42 258 7));let Z:=[(5,C.length+1,false)];HB (decide ((k:Int)<(L.length:Int))) (t0 a L.length/\a.toNat*8+0+2<=(o4 L).length/\Le b (ag e)/\Kd 102 [] [ag e] [] 6 (ag g) [] 0/\Le (ag g) (ag g)/\Kd 140 [] [ag g,ag i] [] 6 (ag m) [] 0/\Kd 139 [] [ag m] [] 6 (bv (R7 j)) [] 0/\Le (bv (R7 j)) n/\(q=true->q=true/\True)/\(q=true->q=true)/\Le (bv (bif !wR c (ea L k).X (ea L k).Y then !false else false)) n/\HB q (IntKind.i64.wrap s=(k:Int)+1/\RoundTo prog u 6 w (St.mk x H 6 69 [5,4,3,2,0] 2)) (Kd 96 [] [j7 0 0,i8 (k:Int)] [(0,j9 y 91),(1,o8 (o4 L) 59 8 1)] 6 (ag J) [(0,j9 M 91)] 0/\0=0/\258=258/\Le (bv (E0 (ea L k) != 0)) (bv (gU (ea L k)))/\HB (gU (ea L k)) (0=0/\258=258/\wkK 6 K Exit.ret (St.mk N [O,z,A,(3,some (j9 (o7++[Leaf.v (Value.slice none 0 0),li (E0 (ea L k))]) 85)),D,E,P,(7,none),G] 7 69 [3,6,6,0,5,4,3,2,0] 2)) ((t0 a L.length/\a.toNat*8+0+2<=(o4 L).length/\Le b (ag e)/\Le Q (ag (tl I))/\Le R (ag T)/\(n8 C).length=C.length*258/\258=258/\IntKind.i64.wrap s=(k:Int)+1/\RoundTo prog u 6 w (St.mk x [O,z,A,B,(4,some (j9 [Leaf.o 5 U] 26)),(5,some (o8 V 42 258 5)),P,W,G] 8 69 [4,5,7,6,6,0,5,4,3,2,0] 2))/\t0 a L.length/\a.toNat*8+0+2<=(o4 L).length/\Le b (ag e)/\Le Q (ag (tl I))/\Le R (ag T)/\Z=Z/\fW prog 42 U/\(n8 C).length=C.length*258/\258=258/\IntKind.i64.wrap s=(k:Int)+1/\RoundTo prog u 6 w (St.mk x [O,z,A,B,(4,some (j9 [Leaf.o 8 U] 26)),E,P,W,(8,some (o8 V 42 258 8))] 9 69 [4,8,7,6,6,0,5,4,3,2,0] 2)))) (wkK 6 K (Exit.exit 0) (St.mk N H 6 69 [5,4,3,2,0] 2))):z4 prog (gl 3 Tryz.f97) (iG L d c k) (wkK 6 K):=
 m5 [0,2,4,6,7,8] [0,1,2,3,4,5,6,7,8] (cx:=a2q L d c k) rfl (u3 (by kernel_rfl) h)
theorem Kf (L:List EN) (d:Int) (c:R4) (hG:x7 L) (hX:GoodX L) (h0:0<=d) (hd:d<=900000000):∀(m k:Nat),L.length-k=m->k<=L.length->(∀j,j<k->D0 L (wR c) j=true)->∀(K:Exit->St->Prop),((∀j,j<L.length->D0 L (wR c) j=true)->K (.exit 0) (iG L d c L.length))->(∀j,j<L.length->(∀i,i<j->D0 L (wR c) i=true)->D0 L (wR c) j=false->K .ret (Gw L d c j))->z4 prog (gl 3 Tryz.f97) (iG L d c k) (wkK 6 K)
 |0,k,hm,hk,hall,K,hK,hR=>by
  have e:k=L.length:=by omega
  subst e
  refine b9j L d c _ K (HB.no (by omega) ?_)
  exact wkK.tk (iG L d c _) (by kernel_rfl) (d5 (l6.k (by kernel_rfl)) (d5 (l6.p (g9 _) (by kernel_rfl)) (d5 (l6.k (by kernel_rfl)) (d5 (l6.p (o9) (by kernel_rfl)) (d5 (l6.k (by kernel_rfl)) (d5 (l6.p (i9 _) (by kernel_rfl)) trivial)))))) (hK hall)
 |m+1,k,hm,hk,hall,K,hK,hR=>by
  refine b9j L d c k K (HB.yes (by omega) ?_)
  have hlt:k<L.length:=by omega
  have hlen:=hG.len
  have hcb:=eQ L (wR c) k
  with_reducible repeat' first|exact trivial|apply And.intro|apply HB.mk|intro _|assumption|exact Le.refl _|rfl
  all_goals first|(with_reducible refine aL L _ k hG ?_ ?_ hlt _ _ _ ?_ ?_ ?_)<;>omega|(with_reducible refine a7y _ _ ?_ ?_ _)<;>(have hx:=hX.x k hlt;have hy:=hX.y k hlt;omega)|(with_reducible first|exact Xf ⟨_,_,_,_⟩ _|exact b7p ⟨_,_,_,_⟩ ⟨_,_,_,_⟩ _)|(exact ⟨by omega,by omega⟩)|rw[y6];omega|refine Le.of ?_;simp only[tn,Nat.zero_add,Nat.add_zero];rw[cO hlt]|(with_reducible first|exact Le.bool (bT _)|exact Le.of (congrArg (fun l=>SV.c (.agg l)) (Z1 _ _)))|exact Le.of (congrArg (fun l=>SV.c (.agg l)) (bW _ _ _))|refine Le.bool ?_;cases (!(wR c (ea L k).X (ea L k).Y))<;>rfl|refine Le.bool ?_;unfold wR;cases (R7 (kM (N9 (ea L k).X (ea L k).Y) c))<;>rfl|rw[C6];omega|with_reducible refine rV ?_;have:=cR L (wR c) k;have:=hG.len;omega|have hcnd:(!((wR c) (ea L k).X (ea L k).Y))=true:=(by with_reducible assumption);(with_reducible refine RoundTo.tk 6 (iG L d c (k+1)) ?_ ?_ ?_);kernel_rfl;exact (d5 (l6.blk (k:=⟨[.o 1 L.length,li (d+(B6 L (wR c) k))],.t 91⟩) (by kernel_rfl) (by rw[(C5 hcnd).2.1]) (by kernel_rfl)) (d5 (l6.p (g9 _) (by kernel_rfl)) (d5 (l6.k (by kernel_rfl)) (d5 (l6.p (o9) (by kernel_rfl)) (d5 (l6.blk (k:=⟨[.o 5 (v7 L (wR c) k).length],.t 26⟩) (by kernel_rfl) (by rw[(C5 hcnd).1]) (by kernel_rfl)) (d5 (l6.plain (cs:=n8 (v7 L (wR c) k)) (b:=.r 42 258 5) (by kernel_rfl) (by rw[(C5 hcnd).1]) (i9 _) (by kernel_rfl)) trivial))))));exact (Kf L d c hG hX h0 hd m (k+1) (by omega) (by omega) (fun j hj=>by rcases Nat.lt_or_ge j k with h|h;exact hall j h;have e:j=k:=(by omega);subst e;exact (by first|exact (C5 (by with_reducible assumption)).2.2|exact bM (by with_reducible assumption) (by with_reducible assumption))) K hK hR)|have hcnd:(!((wR c) (ea L k).X (ea L k).Y))=false:=(by with_reducible assumption);(with_reducible refine RoundTo.tk 8 (iG L d c (k+1)) ?_ ?_ ?_);kernel_rfl;exact (d5 (l6.blk (k:=⟨[.o 1 L.length,li (d+(B6 L (wR c) k)+1)],.t 91⟩) (by kernel_rfl) (by rw[(R6 hcnd).2,Int.add_assoc]) (by kernel_rfl)) (d5 (l6.p (g9 _) (by kernel_rfl)) (d5 (l6.k (by kernel_rfl)) (d5 (l6.p (o9) (by kernel_rfl)) (d5 (l6.blk (k:=⟨[.o 5 ((v7 L (wR c) k).length+1)],.t 26⟩) (by kernel_rfl) (by rw[(E1 hcnd).2]) (by kernel_rfl)) (d5 (l6.plain (cs:=n8 (v7 L (wR c) k)++j4 A8 0 (el ⟨(ea L k).X,(ea L k).Y,C7 (ea L k)⟩)) (b:=.r 42 258 5) (by kernel_rfl) (by rw[L2,(E1 hcnd).1]) (i9 _) (by kernel_rfl)) trivial))))));exact (Kf L d c hG hX h0 hd m (k+1) (by omega) (by omega) (fun j hj=>by rcases Nat.lt_or_ge j k with h|h;exact hall j h;have e:j=k:=(by omega);subst e;exact (by first|exact (C5 (by with_reducible assumption)).2.2|exact bM (by with_reducible assumption) (by with_reducible assumption))) K hK hR)|have hcnd:(!((wR c) (ea L k).X (ea L k).Y))=false:=(by with_reducible assumption);(with_reducible refine RoundTo.rk 9 [(5,some 8)] (iG L d c (k+1)) ?_ ?_ ?_);kernel_rfl;exact (f5 (j:=0) rfl (v5.blk (k:=⟨[.o 1 L.length,li (d+(B6 L (wR c) k)+1)],.t 91⟩) (k'':=⟨[.o 1 L.length,li (d+(B6 L (wR c) k)+1)],.t 91⟩) (by kernel_rfl) (by kernel_rfl) (by rw[(R6 hcnd).2,Int.add_assoc])) (f5 (j:=1) rfl (v5.p (g9 _) (by kernel_rfl)) (f5 (j:=2) rfl (v5.k (by kernel_rfl)) (f5 (j:=3) rfl (v5.p (o9) (by kernel_rfl)) (f5 (j:=4) rfl (v5.blk (k:=⟨[.o 8 ((v7 L (wR c) k).length+1)],.t 26⟩) (k'':=⟨[.o 5 ((v7 L (wR c) k).length+1)],.t 26⟩) (by kernel_rfl) (by kernel_rfl) (by rw[(E1 hcnd).2])) (f5 (j:=8) rfl (v5.plain (cs:=n8 (v7 L (wR c) k)++j4 A8 0 (el ⟨(ea L k).X,(ea L k).Y,C7 (ea L k)⟩)) (b:=.r 42 258 8) (by kernel_rfl) (by rw[L2,(E1 hcnd).1]) (i9 _) (by kernel_rfl)) trivial))))));exact (Kf L d c hG hX h0 hd m (k+1) (by omega) (by omega) (fun j hj=>by rcases Nat.lt_or_ge j k with h|h;exact hall j h;have e:j=k:=(by omega);subst e;exact (by first|exact (C5 (by with_reducible assumption)).2.2|exact bM (by with_reducible assumption) (by with_reducible assumption))) K hK hR)|exact wkK.tk (Gw L d c k) (by kernel_rfl) (d5 (l6.blk (k:=⟨[.o 1 L.length,li (d+(B6 L (wR c) k)+1)],.t 91⟩) (by kernel_rfl) (by rw[Int.add_assoc]) (by kernel_rfl)) (d5 (l6.plain (cs:=o7++[.v (.slice none 0 0),li (E0 (ea L k))]) (b:=.t 85) (by kernel_rfl) (J5 _) (o9) (by kernel_rfl)) trivial)) (hR k hlt hall ((uW (by with_reducible assumption) (by with_reducible assumption))))|exact C2 _ (by omega) (by omega)
end Ab
end
section
namespace Ab
attribute [local irreducible] j8
attribute [local irreducible] tl n8
def eZ (c:R4) (l:List TA) (k i:Nat):St:=⟨[(8,iv .i64 (i:Nat)),(7,.c (.l (.p 6 0))),(6,iv .i64 (k:Nat)),(5,.c (.l (.p 4 0))),(3,.c (.l (.p 2 0))),(2,.c (.l (.p 1 0))),(4,.c (.l (.p 3 0)))],[(0,some ⟨n8 l,.r 42 258 0⟩),(1,some ⟨[.o 0 l.length],.t 26⟩),(2,some ⟨[li c.x0,li c.y0,li c.x1,li c.y1],.t 66⟩),(3,some ⟨[.v (.slice none 0 0)],.t 26⟩),(4,some ⟨[.o 5 (C8 c l k).length],.t 26⟩),(5,some ⟨n8 (C8 c l k),.r 42 258 5⟩),(6,some ⟨el (U0 c (r8 l k) i),.t 42⟩)],7,64,[6,5,4,3,2,1],(1)⟩
def pT (c:R4) (l:List TA) (k:Nat):St:=⟨[(6,iv .i64 (k:Nat)),(5,.c (.l (.p 4 0))),(3,.c (.l (.p 2 0))),(2,.c (.l (.p 1 0))),(4,.c (.l (.p 3 0)))],[(0,some ⟨n8 l,.r 42 258 0⟩),(1,some ⟨[.o 0 l.length],.t 26⟩),(2,some ⟨[li c.x0,li c.y0,li c.x1,li c.y1],.t 66⟩),(3,some ⟨[.v (.slice none 0 0)],.t 26⟩),(4,some ⟨[.o 5 (C8 c l k).length],.t 26⟩),(5,some ⟨n8 (C8 c l k),.r 42 258 5⟩)],6,64,[5,4,3,2,1],(1)⟩
def Rh (c:R4) (e:TA) (i:Nat):Bool:=N4 c (e.X*8+((i:Nat):Int).tmod 8) (e.Y*8+((i:Nat):Int).tdiv 8)
theorem mO (c:R4) (e:TA) (i m:Nat) (hm:m<4):N6 c e (4*i+m)=vK (Rh c e i) (e.t (4*i+m)):=by
 unfold N6 Rh
 rw[show (4*i+m) / 4=i by omega]
theorem Mx {c:R4} {e:TA} {i:Nat} (hi:i<64) (h:(!(Rh c e i))=false):el (U0 c e i)=el (U0 c e (i+1)):=by
 have h:Rh c e i=true:=bH h
 unfold U0 el
 have e2:tl (C4 i (N6 c e) e.t)=tl (C4 (i+1) (N6 c e) e.t):=J4 fun j hj=>by
  unfold C4
  by_cases h1:j<4*i
  ·rw[if_pos h1,if_pos (by omega)]
  ·rw[if_neg h1]
   by_cases h2:j<4*(i+1)
   ·rw[if_pos h2]
    have:=mO c e i (j-4*i) (by omega)
    rw[show 4*i+(j-4*i)=j by omega,h] at this
    exact this.symm
   ·rw[if_neg h2]
 show li e.X::li e.Y::tl _=li e.X::li e.Y::tl _
 rw[e2]
theorem Hb {c:R4} {e:TA} {i z:Nat} (hi:i<64) (ez:z=2+i*4) (h:(!(Rh c e i))=true):j4 (el (U0 c e i)) z [u8 0,u8 0,u8 0,u8 0]=el (U0 c e (i+1)):=by
 have h:Rh c e i=false:=fF h
 subst ez
 rw[<-Dr c e hi]
 have a0:=mO c e i 0 (by decide);have a1:=mO c e i 1 (by decide);have a2:=mO c e i 2 (by decide);have a3:=mO c e i 3 (by decide)
 rw[h] at a0 a1 a2 a3
 rw[show N6 c e (4*i)=0 from a0,show N6 c e (4*i+1)=0 from a1,show N6 c e (4*i+2)=0 from a2,show N6 c e (4*i+3)=0 from a3];rfl
def Rk (c:R4) (l:List TA) (j:Nat) (k:Nat):Cz:={
 ct:=(fun f=>match f with
 |178=>some fun _ _=>fun | [.c (.agg [.v (.int _ a0),.v (.int _ a1),.v (.int _ a2),.v (.int _ a3)]),.c (.l (.v (.int _ x))),.c (.l (.v (.int _ y)))]=>some {v:=bv (N4 ⟨a0,a1,a2,a3⟩ x y)}|_=>none
 |_=>none)
 sym:=[0,51],nf:=[(33,iv .i64 (r8 l j).X),(40,iv .i64 (r8 l j).Y),(37,iv .i64 ((r8 l j).X*8+((k:Nat):Int).tmod 8)),(44,iv .i64 ((r8 l j).Y*8+((k:Nat):Int).tdiv 8)),(45,bv (Rh c (r8 l j) k))]}
theorem a5d (c:R4) (l:List TA) (j:Nat) (k:Nat)  (K:Exit->St->Prop) (h:let a:=r8 l j;let b:=U0 c a k;let d:=((k:Int));let e:=8*a.X+d.tmod 8;let f:=a.X*8+d.tmod 8;let g:=8*a.Y+d.tdiv 8;let i:=a.Y*8+d.tdiv 8;let m:=[li c.x0,li c.y0,li c.x1,li c.y1];let n:=bv (N4 c f i);let q:=((k:Int)+1);let s:=(A2 8 (Tryz.f141.body.getD Code.skip)).getD Code.skip;let u:=(6,i8 (j:Int));let w:=[(2,j7 1 0),(3,j7 2 0),(4,j7 3 0),(5,j7 4 0),u,(7,j7 6 0),(8,i8 q)];let x:=(0,some (o8 (n8 l) 42 258 0));let y:=(1,some (j9 [Leaf.o 0 l.length] 26));let z:=(2,some (j9 m 66));let A:=(3,some (j9 [Leaf.v (Value.slice none 0 0)] 26));let B:=(4,some (j9 [Leaf.o 5 (C8 c l j).length] 26));let C:=(5,some (o8 (n8 (C8 c l j)) 42 258 5));let D:=[x,y,z,A,B,C,(6,some (j9 (el b) 42))];let E:=[6,5,4,3,2,1];HB (decide ((k:Int)<64)) (Le (i8 b.X) (i8 a.X)/\IntKind.i64.wrap (8*a.X)=8*a.X/\(8:Int)≠0/\IntKind.i64.wrap e=8*a.X+d.tmod 8/\Le (i8 e) (i8 f)/\Le (i8 b.Y) (i8 a.Y)/\IntKind.i64.wrap (8*a.Y)=8*a.Y/\(8:Int)≠0/\IntKind.i64.wrap (d.tdiv 8)=d.tdiv 8/\IntKind.i64.wrap g=8*a.Y+d.tdiv 8/\Le (i8 g) (i8 i)/\Kd 178 [] [ag m,i8 f,i8 i] [] 7 n [] 0/\Le n (bv (Rh c a k))/\HB (!Rh c a k) (t0 d 64/\2+d.toNat*4+4<=258/\IntKind.i64.wrap q=(k:Int)+1/\RoundTo prog s 7 (wkK 7 K) (St.mk w [x,y,z,A,B,C,(6,some (j9 (j4 (el b) (2+d.toNat*4) [l8 0,l8 0,l8 0,l8 0]) 42))] 7 64 [6,6,5,4,3,2,1] 1)) (IntKind.i64.wrap q=(k:Int)+1/\RoundTo prog s 7 (wkK 7 K) (St.mk w D 7 64 E 1))) (wkK 7 K (Exit.exit 2) (St.mk [(2,j7 1 0),(3,j7 2 0),(4,j7 3 0),(5,j7 4 0),u,(7,j7 6 0),(8,i8 (k:Int))] D 7 64 E 1))):z4 prog (gl 8 Tryz.f141) (eZ c l j k) (wkK 7 K):=
 m5 [2,3,4,5,6,7,8] [0,1,2,3,4,5,6] (cx:=Rk c l j k) rfl (u3 (by kernel_rfl) h)
theorem Na (c:R4) (l:List TA) (j:Nat) (hxy:XY (r8 l j)):∀(m k:Nat),64-k=m->k<=64->∀(K:Exit->St->Prop),K (.exit 2) (eZ c l j 64)->z4 prog (gl 8 Tryz.f141) (eZ c l j k) (wkK 7 K)
 |0,k,hm,hk,K,hK=>by
  have e:k=64:=by omega
  subst e
  refine a5d c l j _ K (HB.no (by omega) ?_)
  exact wkK.tk (eZ c l j _) (by kernel_rfl) (d5 (l6.p (i9 _) (by kernel_rfl)) (d5 (l6.k (by kernel_rfl)) (d5 (l6.k (by kernel_rfl)) (d5 (l6.k (by kernel_rfl)) (d5 (l6.k (by kernel_rfl)) (d5 (l6.p (i9 _) (by kernel_rfl)) (d5 (l6.p (I3 _) (by kernel_rfl)) trivial))))))) hK
 |m+1,k,hm,hk,K,hK=>by
  refine a5d c l j k K (HB.yes (by omega) ?_)
  have hlt:k<64:=by omega
  have hx1:=hxy.1
  have hy1:=hxy.2
  have h8:=Int.tmod_lt_of_pos ((k:Nat):Int) (show (0:Int)<8 by decide)
  have h8n:=Int.tmod_nonneg (8:Int) (show (0:Int)<=((k:Nat):Int) by omega)
  have d8:((k:Nat):Int).tdiv 8=((k / 8:Nat):Int):=by rw[Int.tdiv_eq_ediv_of_nonneg (by omega)];rfl
  with_reducible repeat' first|exact trivial|apply And.intro|apply HB.mk|intro _
  all_goals first|with_reducible exact c8q ⟨_,_,_,_⟩ _ _ _|(exact ⟨by omega,by omega⟩)|exact Le.int rfl|exact Le.bool rfl|refine Le.int ?_;omega|exact C2 _ (by omega) (by omega)|omega|have hcnd:(!(Rh c (r8 l j) k))=false:=(by with_reducible assumption);(with_reducible refine RoundTo.tk 7 (eZ c l j (k+1)) ?_ ?_ ?_);kernel_rfl;exact (d5 (l6.p (i9 _) (by kernel_rfl)) (d5 (l6.k (by kernel_rfl)) (d5 (l6.k (by kernel_rfl)) (d5 (l6.k (by kernel_rfl)) (d5 (l6.k (by kernel_rfl)) (d5 (l6.p (i9 _) (by kernel_rfl)) (d5 (l6.plain (cs:=el (U0 c (r8 l j) k)) (b:=.t 42) (by kernel_rfl) (Mx hlt hcnd) (I3 _) (by kernel_rfl)) trivial)))))));exact (Na c l j hxy m (k+1) (by omega) (by omega) K hK)|have hcnd:(!(Rh c (r8 l j) k))=true:=(by with_reducible assumption);(with_reducible refine RoundTo.tk 7 (eZ c l j (k+1)) ?_ ?_ ?_);kernel_rfl;exact (d5 (l6.p (i9 _) (by kernel_rfl)) (d5 (l6.k (by kernel_rfl)) (d5 (l6.k (by kernel_rfl)) (d5 (l6.k (by kernel_rfl)) (d5 (l6.k (by kernel_rfl)) (d5 (l6.p (i9 _) (by kernel_rfl)) (d5 (l6.plain (cs:=j4 (el (U0 c (r8 l j) k)) (2+((k:Nat):Int).toNat*4) [u8 0,u8 0,u8 0,u8 0]) (b:=.t 42) (by kernel_rfl) (Hb hlt (by omega) hcnd) (I3 _) (by kernel_rfl)) trivial)))))));exact (Na c l j hxy m (k+1) (by omega) (by omega) K hK)
def Vq (c:R4) (l:List TA) (k:Nat):Cz:={
 ct:=(fun f=>match f with
 |44=>some fun _ _=>fun | [.c (.agg l)]=>some {v:=bv (n5 (A1 l))}|_=>none
 |_=>none)
 sym:=[24,25,61],nf:=[(25,.c (.agg (el (r8 l k)))),(53,.c (.agg (tl (N6 c (r8 l k))))),(54,bv (n5 (N6 c (r8 l k)))),(59,.c (.agg (el (Fv c (r8 l k)))))],lp:=fun r=>match r with|8=>some (fun _ K=>K (.exit 2) (eZ c l k 64))|_=>none,wh:=[42]}
theorem b7l (c:R4) (l:List TA) (k:Nat)  (K:Exit->St->Prop) (h:let a:=(l.length:Int);let b:=(decide ((k:Int)<a));let d:=((k:Int));let e:=r8 l k;let f:=Leaf.o 0 l.length;let g:=(6,i8 (k:Int));let i:=(5,j7 4 0);let j:=(3,j7 2 0);let m:=(2,j7 1 0);let n:=(4,j7 3 0);let q:=(0,some (o8 (n8 l) 42 258 0));let s:=(1,some (j9 [Leaf.o 0 l.length] 26));let w:=(2,some (j9 [li c.x0,li c.y0,li c.x1,li c.y1] 66));let x:=(3,some (j9 [Leaf.v (Value.slice none 0 0)] 26));let y:=C8 c l k;let z:=(4,some (j9 [Leaf.o 5 y.length] 26));let A:=(5,some (o8 (n8 y) 42 258 5));let B:=el (U0 c e 64);let C:=N6 c e;let D:=bv (n5 (A1 (tl C)));let E:=ag (List.take 258 B);let G:=el (Fv c e);let H:=((k:Int)+1);let I:=(A2 4 (Tryz.f141.body.getD Code.skip)).getD Code.skip;let J:=wkK 6 K;let L:=[m,j,n,i,(6,i8 H),(7,j7 6 0),(8,i8 (Nat.cast 64:Int))];let M:=y.length+1;let N:=n8 y++j4 A8 0 G;let O:=(6,some (j9 B 42));let P:=(7,some (o8 (j4 A8 0 G) 42 258 7));let Q:=(8,none);let R:=[(5,y.length+1,false)];HB b (t0 d l.length/\d.toNat*258+258<=(n8 l).length/\Le (ag (List.take 258 (List.drop (d.toNat*258) (n8 l)))) (ag (el e))/\0=0/\258=258/\(l3 prog (gl 8 Tryz.f141) (St.mk [(8,i8 0),(7,j7 6 0),(25,ag (el e)),(24,l4 (Leaf.p 0 (d.toNat*258))),(23,i8 (k:Int)),(22,l4 f),(21,j7 1 0),(18,bv b),(17,i8 a),(16,l4 f),(15,j7 1 0),(14,i8 (k:Int)),g,i,j,m,n] [(6,some (j9 (el e) 42)),(6,some (j9 A8 42)),q,s,w,x,z,A] 7 64 [6,6,5,4,3,2,1] 1) fun K=>K (Exit.exit 2) (eZ c l k 64))/\Le (ag (List.take 256 (List.drop 2 B))) (ag (tl C))/\Kd 44 [] [ag (tl C)] [] 7 D [] 0/\Le D (bv (n5 C))/\HB (!n5 C) ((Le E (ag G)/\(n8 y).length=y.length*258/\258=258/\IntKind.i64.wrap H=(k:Int)+1/\RoundTo prog I 6 J (St.mk L [q,s,w,x,(4,some (j9 [Leaf.o 5 M] 26)),(5,some (o8 N 42 258 5)),O,P,Q] 8 64 [4,5,7,6,5,4,3,2,1] 1))/\Le E (ag G)/\R=R/\fW prog 42 M/\(n8 y).length=y.length*258/\258=258/\IntKind.i64.wrap H=(k:Int)+1/\RoundTo prog I 6 J (St.mk L [q,s,w,x,(4,some (j9 [Leaf.o 8 M] 26)),A,O,P,(8,some (o8 N 42 258 8))] 9 64 [4,8,7,6,5,4,3,2,1] 1)) (IntKind.i64.wrap H=(k:Int)+1/\RoundTo prog I 6 J (St.mk L [q,s,w,x,z,A,O,(7,none),Q] 7 64 [6,5,4,3,2,1] 1))) (wkK 6 K (Exit.exit 0) (St.mk [m,j,n,i,g,(7,SV.u),(8,SV.u)] [q,s,w,x,z,A,(6,none),(7,none),Q] 6 64 [5,4,3,2,1] 1))):z4 prog (gl 4 Tryz.f141) (pT c l k) (wkK 6 K):=
 m5 [2,3,4,5,6,7,8] [0,1,2,3,4,5,6,7,8] (cx:=Vq c l k) rfl (u3 (by kernel_rfl) h)
theorem Yk (c:R4) (l:List TA) (hl:∀k,k<l.length->XY (r8 l k)) (h4:l.length<=1024):∀(m k:Nat),l.length-k=m->k<=l.length->∀(K:Exit->St->Prop),K (.exit 0) (pT c l l.length)->z4 prog (gl 4 Tryz.f141) (pT c l k) (wkK 6 K)
 |0,k,hm,hk,K,hK=>by
  have e:k=l.length:=by omega
  subst e
  refine b7l c l _ K (HB.no (by omega) ?_)
  exact wkK.tk (pT c l _) (by kernel_rfl) (d5 (l6.p (i9 _) (by kernel_rfl)) (d5 (l6.k (by kernel_rfl)) (d5 (l6.k (by kernel_rfl)) (d5 (l6.k (by kernel_rfl)) (d5 (l6.k (by kernel_rfl)) (d5 (l6.p (i9 _) (by kernel_rfl)) trivial)))))) hK
 |m+1,k,hm,hk,K,hK=>by
  refine b7l c l k K (HB.yes (by omega) ?_)
  have hlt:k<l.length:=by omega
  with_reducible repeat' first|exact trivial|apply And.intro|apply HB.mk|intro _
  all_goals first|(with_reducible first|rfl|exact Pt _ _ rfl _)|exact l3.tk (eZ c l k 0) (by kernel_rfl) (d5 (l6.p (i9 _) (by kernel_rfl)) (d5 (l6.k (by kernel_rfl)) (d5 (l6.k (by kernel_rfl)) (d5 (l6.k (by kernel_rfl)) (d5 (l6.k (by kernel_rfl)) (d5 (l6.p (i9 _) (by kernel_rfl)) (d5 (l6.plain (cs:=el (r8 l k)) (b:=.t 42) (by kernel_rfl) (by rw[zX]) (I3 _) (by kernel_rfl)) trivial))))))) (fun K hT=>Na c l k (hl k hlt) _ 0 rfl (by decide) K hT)|(exact ⟨by omega,by omega⟩)|rw[C6,tn];omega|rw[C6];omega|refine Le.of ?_;simp only[tn,Nat.zero_add,Nat.add_zero];rw[iY hlt]|(with_reducible first|exact Le.of (congrArg (fun l=>SV.c (.agg l)) (Pf _ _))|exact Le.of (congrArg (fun l=>SV.c (.agg l)) (Qw _ _))|exact Le.bool (J0 _))|with_reducible refine rV ?_;have:=lM c l k;omega|have hcnd:(!(n5 (N6 c (r8 l k))))=false:=(by with_reducible assumption);(with_reducible refine RoundTo.tk 7 (pT c l (k+1)) ?_ ?_ ?_);kernel_rfl;exact (d5 (l6.p (i9 _) (by kernel_rfl)) (d5 (l6.k (by kernel_rfl)) (d5 (l6.k (by kernel_rfl)) (d5 (l6.k (by kernel_rfl)) (d5 (l6.blk (k:=⟨[.o 5 (C8 c l k).length],.t 26⟩) (by kernel_rfl) (by rw[kU hcnd]) (by kernel_rfl)) (d5 (l6.plain (cs:=n8 (C8 c l k)) (b:=.r 42 258 5) (by kernel_rfl) (by rw[kU hcnd]) (i9 _) (by kernel_rfl)) trivial))))));exact (Yk c l hl h4 m (k+1) (by omega) (by omega) K hK)|have hcnd:(!(n5 (N6 c (r8 l k))))=true:=(by with_reducible assumption);(with_reducible refine RoundTo.tk 8 (pT c l (k+1)) ?_ ?_ ?_);kernel_rfl;exact (d5 (l6.p (i9 _) (by kernel_rfl)) (d5 (l6.k (by kernel_rfl)) (d5 (l6.k (by kernel_rfl)) (d5 (l6.k (by kernel_rfl)) (d5 (l6.blk (k:=⟨[.o 5 ((C8 c l k).length+1)],.t 26⟩) (by kernel_rfl) (by rw[(U8 hcnd).2]) (by kernel_rfl)) (d5 (l6.plain (cs:=n8 (C8 c l k)++j4 A8 0 (el (Fv c (r8 l k)))) (b:=.r 42 258 5) (by kernel_rfl) (by rw[L2,(U8 hcnd).1]) (i9 _) (by kernel_rfl)) trivial))))));exact (Yk c l hl h4 m (k+1) (by omega) (by omega) K hK)|have hcnd:(!(n5 (N6 c (r8 l k))))=true:=(by with_reducible assumption);(with_reducible refine RoundTo.rk 9 [(5,some 8)] (pT c l (k+1)) ?_ ?_ ?_);kernel_rfl;exact (f5 (j:=0) rfl (v5.p (i9 _) (by kernel_rfl)) (f5 (j:=1) rfl (v5.k (by kernel_rfl)) (f5 (j:=2) rfl (v5.k (by kernel_rfl)) (f5 (j:=3) rfl (v5.k (by kernel_rfl)) (f5 (j:=4) rfl (v5.blk (k:=⟨[.o 8 ((C8 c l k).length+1)],.t 26⟩) (k'':=⟨[.o 5 ((C8 c l k).length+1)],.t 26⟩) (by kernel_rfl) (by kernel_rfl) (by rw[(U8 hcnd).2])) (f5 (j:=8) rfl (v5.plain (cs:=n8 (C8 c l k)++j4 A8 0 (el (Fv c (r8 l k)))) (b:=.r 42 258 8) (by kernel_rfl) (by rw[L2,(U8 hcnd).1]) (i9 _) (by kernel_rfl)) trivial))))));exact (Yk c l hl h4 m (k+1) (by omega) (by omega) K hK)|exact C2 _ (by omega) (by omega)
end Ab
end
section
namespace Ab
attribute [local irreducible] j8
attribute [local irreducible] tl n8
theorem b5j:j6 prog 141:=fun args w=>by go_simp
def Vi (c:R4) (l:List TA):Cz:={
 ct:=(fun f=>match f with
 |99=>some fun _ _=>fun | [.c (.agg [.o i n])]=>some {v:=.c (.agg [.o i n]),rd:=[i]}|_=>none
 |_=>none)
 lp:=fun r=>match r with|4=>some (fun _ K=>K (.exit 0) (pT c l l.length))|_=>none,wh:=[26,66]}
set_option maxRecDepth 100000 in
set_option maxHeartbeats 400000 in
theorem d0j (c:R4) (l:List TA) (gl:Good l):f4 prog 141 [.c (.agg [.o 0 l.length]),ag [li c.x0,li c.y0,li c.x1,li c.y1]] [(0,⟨n8 l,.r 42 258 0⟩)] 1 (.c (.agg [.o 1 (C8 c l l.length).length])) [(1,⟨n8 (C8 c l l.length),.r 42 258 1⟩)] 1:=by
 refine lY (cx:=Vi c l) (nm:=[5]) rfl func141 (body:=Tryz.f141.body.getD .skip) rfl b5j (by unfold Q8;simp only[List.all_cons,List.all_nil,kD (i9 l) (show (BT.rn (x8 1 0 []) (.r 42 258 0)).isSome=true from rfl),Bool.and_true,Bool.true_and];kernel_rfl) ?_
 apply u3 (q:=0=0/\1=1/\j8 prog 99 [] [ag [Leaf.o 0 l.length]] [(0,n6.mk (n8 l) (BT.r 42 258 0))] 5 (ag [Leaf.o 0 l.length]) [] 0/\0=0/\1=1/\(l3 prog ((A2 4 (Tryz.f141.body.getD .skip)).getD .skip) (St.mk [(6,iv IntKind.i64 0),(13,ag [Leaf.o 0 l.length]),(12,ag [Leaf.o 0 l.length]),(5,SV.c (Cp.l (Leaf.p 4 0))),(11,ag [Leaf.v (Value.slice none 0 0)]),(4,SV.c (Cp.l (Leaf.p 3 0))),(3,SV.c (Cp.l (Leaf.p 2 0))),(2,SV.c (Cp.l (Leaf.p 1 0))),(0,ag [Leaf.o 0 l.length]),(1,ag [li c.x0,li c.y0,li c.x1,li c.y1])] [(1,some (n6.mk [Leaf.o 0 l.length] (BT.t 26))),(4,some (n6.mk [Leaf.v (Value.slice none 0 0)] (BT.t 26))),(4,some (n6.mk [Leaf.v (Value.slice none 0 0)] (BT.t 26))),(3,some (n6.mk [Leaf.v (Value.slice none 0 0)] (BT.t 26))),(2,some (n6.mk [li c.x0,li c.y0,li c.x1,li c.y1] (BT.t 66))),(1,some (n6.mk [Leaf.o 0 l.length] (BT.t 26))),(0,some (n6.mk (n8 l) (BT.r 42 258 0)))] 5 64 [1,4,4,3,2,1] 1) fun K=>K (Exit.exit 0) (pT c l l.length))/\0=0/\1=1/\Le (ag [Leaf.o 1 (C8 c l l.length).length]) (ag [Leaf.o 1 (C8 c l l.length).length])/\A5 (x8 1 0 [5]) (n6.mk (n8 (C8 c l l.length)) (BT.r 42 258 5)) (n6.mk (n8 (C8 c l l.length)) (BT.r 42 258 1))/\True) (by kernel_rfl)
 repeat' (first|exact trivial|with_reducible apply And.intro|(with_reducible apply HB.mk)|with_reducible intro _)
 all_goals first
  |(with_reducible exact Le.refl _)
  |(with_reducible rfl)
  |((with_reducible exact b3o l gl _ _ (by omega)))
  |(exact l3.re [(5,none)] (pT c l 0) (by kernel_rfl) (m9 (H8.of (by kernel_rfl)) (m9 (H8.of (by kernel_rfl)) (m9 (H8.of (by kernel_rfl)) (m9 (H8.of (by kernel_rfl)) (m9 (H8.of (by kernel_rfl)) trivial))))) (f5 (j:=0) rfl (v5.plain (cs:=n8 l) (b:=.r 42 258 0) (by kernel_rfl) (rfl) (i9 _) (by kernel_rfl)) (f5 (j:=1) rfl (v5.blk (k:=⟨[.o 0 l.length],.t 26⟩) (k'':=⟨[.o 0 l.length],.t 26⟩) (by kernel_rfl) (by kernel_rfl) (rfl)) (f5 (j:=2) rfl (v5.blk (k:=⟨[li c.x0,li c.y0,li c.x1,li c.y1],.t 66⟩) (k'':=⟨[li c.x0,li c.y0,li c.x1,li c.y1],.t 66⟩) (by kernel_rfl) (by kernel_rfl) (rfl)) (f5 (j:=3) rfl (v5.blk (k:=⟨[.v (.slice none 0 0)],.t 26⟩) (k'':=⟨[.v (.slice none 0 0)],.t 26⟩) (by kernel_rfl) (by kernel_rfl) (rfl)) (f5 (j:=4) rfl (v5.lsB (xs:=[.v (.slice none 0 0)]) (by kernel_rfl) (aY.cons (by show gT _ 6 _ (.o 5 (C8 c l 0).length);exact gT.nil (show 5<6 by decide) rfl) aY.nil)) (b6l rfl trivial)))))) (fun K hT=>Yk c l (lG gl) gl.len _ 0 rfl (Nat.zero_le _) K hT))
  |(exact A5.plain rfl (i9 _) (by kernel_rfl))
theorem Ji (c:R4) (l:List TA) (gl:Good l) (id n:Nat) (hi:id<n):f4 prog 141 [.c (.agg [.o id l.length]),ag [li c.x0,li c.y0,li c.x1,li c.y1]] [(id,⟨n8 l,.r 42 258 id⟩)] n (.c (.agg [.o n (C8 c l l.length).length])) [(n,⟨n8 (C8 c l l.length),.r 42 258 n⟩)] 1:=by
 have key:=f4.at1 (d0j c l gl) id n hi
 simp only[List.map_cons,List.map_nil,n6.ren,SV.ren,Cp.ren,Leaf.ren,BT.ren,j5 (i9 _)] at key
 exact key
theorem b7m:j6 prog 97:=fun args w=>by go_simp
def Lq (L:List EN) (d:Int):Cz:={
 ct:=fun _=>none
 lp:=fun r=>match r with|3=>some (fun _ K=>((∀j,j<L.length->D0 L l2 j=true)->K (.exit 0) (kP L d L.length))/\(∀j,j<L.length->(∀i,i<j->D0 L l2 i=true)->D0 L l2 j=false->K .ret (Hk L d j)))|_=>none,wh:=[26,66,85]}
theorem c1j (L:List EN) (d:Int) (hG:x7 L) (hX:GoodX L) (h0:0<=d) (hd:d<=900000000) (hx:P4 L l2=none):f4 prog 97 [.c (.l (.p 0 0)),ag [li 0,li 0,li 0,li 0],bv true] [(0,⟨[.o 1 L.length,li d],.t 91⟩),(1,⟨o4 L,.r 59 8 1⟩)] 2 (.c (.agg (tl zT++[.o 2 (v7 L l2 L.length).length,li 0]))) [(0,⟨[.o 1 L.length,li (d+B6 L l2 L.length)],.t 91⟩),(2,⟨n8 (v7 L l2 L.length),.r 42 258 2⟩)] 1:=by
 refine E3 (q:=let a:=[li 0,li 0,li 0,li 0];let b:=Value.slice none 0 0;let e:=(∀(j:Nat),j<L.length->D0 L l2 j=true);let f:=v7 L l2 L.length;let g:=[Leaf.o 2 f.length,li 0];let h:=ag (tl (zT)++g);let k:=x8 2 0 [5];let m:=(j9 [Leaf.o 1 L.length,li (d+B6 L l2 L.length)] 91);(l3 prog (gl 3 Tryz.f97) (St.mk [(8,i8 0),(7,j7 4 0),(6,j7 3 0),(4,j7 2 0),(0,j7 0 0),(1,ag a),(2,bv true)] [(4,some (j9 [Leaf.v b] 26)),(3,some (j9 (o7++[Leaf.v b,li 0]) 85)),(2,some (j9 a 66)),(0,some (j9 [Leaf.o 1 L.length,li d] 91)),(1,some (o8 (o4 L) 59 8 1))] 5 69 [4,3,2] 2) fun K=>(e->K (Exit.exit 0) (kP L d L.length))/\∀(j:Nat),j<L.length->(∀(i:Nat),i<j->D0 L l2 i=true)->D0 L l2 j=false->K Exit.ret (Hk L d j))/\(e->0=0/\258=258/\Le (ag (o7++g)) h/\A5 k m m/\A5 k (o8 (n8 f) 42 258 5) (o8 (n8 f) 42 258 2)/\True)/\∀(j:Nat),j<L.length->(∀(i:Nat),i<j->D0 L l2 i=true)->D0 L l2 j=false->Le (ag (tl (zT)++[Leaf.v b,li (E0 (ea L j))])) h/\A5 k (j9 [Leaf.o 1 L.length,li (d+(B6 L l2 j+1))] 91) m/\False) (Lq L d) [5] func97 (D9 (g9 L) (by kernel_rfl)) (by kernel_rfl) ?_
 with_reducible repeat' first|exact trivial|apply And.intro|apply HB.mk|intro _|rfl
 all_goals first|exact l3.rk [(5,none)] (kP L d 0) (by kernel_rfl) (f5 (j:=0) rfl (v5.blk (k:=⟨[.o 1 L.length,li d],.t 91⟩) (k'':=⟨[.o 1 L.length,li d],.t 91⟩) (by kernel_rfl) (by kernel_rfl) (by rw[show B6 L l2 0=0 from rfl,Int.add_zero])) (f5 (j:=1) rfl (v5.p (g9 _) (by kernel_rfl)) (f5 (j:=2) rfl (v5.k (by kernel_rfl)) (f5 (j:=3) rfl (v5.plain (cs:=o7++[.v (.slice none 0 0),li 0]) (b:=.t 85) (by kernel_rfl) (J5 0) (o9) (by kernel_rfl)) (f5 (j:=4) rfl (v5.lsB (xs:=[.v (.slice none 0 0)]) (by kernel_rfl) (aY.cons (by show gT _ 6 _ (.o 5 (v7 L l2 0).length);exact gT.nil (show 5<6 by decide) rfl) aY.nil)) (G0.k (by kernel_rfl))))))) (fun K hT=>a1l L d hG hX h0 hd _ 0 rfl (Nat.zero_le _) (fun j hj=>absurd hj (Nat.not_lt_zero j)) K hT.1 hT.2)|refine Le.of ?_;rw[q9];done|exact absurd (hx.symm.trans (F6 (by with_reducible assumption) (by with_reducible assumption) (by with_reducible assumption))) (by simp)|exact A5.plain rfl (i9 _) (by kernel_rfl)|exact A5.of (by kernel_rfl)
def Ki (L:List EN) (d:Int):Cz:={
 ct:=fun _=>none
 lp:=fun r=>match r with|3=>some (fun _ K=>((∀j,j<L.length->D0 L l2 j=true)->K (.exit 0) (kP L d L.length))/\(∀j,j<L.length->(∀i,i<j->D0 L l2 i=true)->D0 L l2 j=false->K .ret (Hk L d j)))|_=>none,wh:=[26,66,85]}
theorem b7i (L:List EN) (d:Int) (hG:x7 L) (hX:GoodX L) (h0:0<=d) (hd:d<=900000000) (hx:P4 L l2≠none):f4 prog 97 [.c (.l (.p 0 0)),ag [li 0,li 0,li 0,li 0],bv true] [(0,⟨[.o 1 L.length,li d],.t 91⟩),(1,⟨o4 L,.r 59 8 1⟩)] 2 (.c (.agg (t5 zT (M9 L l2)))) [(0,⟨[.o 1 L.length,li (d+A7 L l2)],.t 91⟩)] 0:=by
 refine E3 (q:=let a:=[li 0,li 0,li 0,li 0];let b:=Value.slice none 0 0;let e:=(∀(j:Nat),j<L.length->D0 L l2 j=true);(l3 prog (gl 3 Tryz.f97) (St.mk [(8,i8 0),(7,j7 4 0),(6,j7 3 0),(4,j7 2 0),(0,j7 0 0),(1,ag a),(2,bv true)] [(4,some (j9 [Leaf.v b] 26)),(3,some (j9 (o7++[Leaf.v b,li 0]) 85)),(2,some (j9 a 66)),(0,some (j9 [Leaf.o 1 L.length,li d] 91)),(1,some (o8 (o4 L) 59 8 1))] 5 69 [4,3,2] 2) fun K=>(e->K (Exit.exit 0) (kP L d L.length))/\∀(j:Nat),j<L.length->(∀(i:Nat),i<j->D0 L l2 i=true)->D0 L l2 j=false->K Exit.ret (Hk L d j))/\(e->0=0/\258=258/\False)/\∀(j:Nat),j<L.length->(∀(i:Nat),i<j->D0 L l2 i=true)->D0 L l2 j=false->Le (ag (tl (zT)++[Leaf.v b,li (E0 (ea L j))])) (ag (t5 zT (M9 L l2)))/\A5 (x8 2 0 []) (j9 [Leaf.o 1 L.length,li (d+(B6 L l2 j+1))] 91) (j9 [Leaf.o 1 L.length,li (d+A7 L l2)] 91)/\True) (Ki L d) [] func97 (D9 (g9 L) (by kernel_rfl)) (by kernel_rfl) ?_
 with_reducible repeat' first|exact trivial|apply And.intro|apply HB.mk|intro _|rfl
 all_goals first|exact l3.rk [(5,none)] (kP L d 0) (by kernel_rfl) (f5 (j:=0) rfl (v5.blk (k:=⟨[.o 1 L.length,li d],.t 91⟩) (k'':=⟨[.o 1 L.length,li d],.t 91⟩) (by kernel_rfl) (by kernel_rfl) (by rw[show B6 L l2 0=0 from rfl,Int.add_zero])) (f5 (j:=1) rfl (v5.p (g9 _) (by kernel_rfl)) (f5 (j:=2) rfl (v5.k (by kernel_rfl)) (f5 (j:=3) rfl (v5.plain (cs:=o7++[.v (.slice none 0 0),li 0]) (b:=.t 85) (by kernel_rfl) (J5 0) (o9) (by kernel_rfl)) (f5 (j:=4) rfl (v5.lsB (xs:=[.v (.slice none 0 0)]) (by kernel_rfl) (aY.cons (by show gT _ 6 _ (.o 5 (v7 L l2 0).length);exact gT.nil (show 5<6 by decide) rfl) aY.nil)) (G0.k (by kernel_rfl))))))) (fun K hT=>a1l L d hG hX h0 hd _ 0 rfl (Nat.zero_le _) (fun j hj=>absurd hj (Nat.not_lt_zero j)) K hT.1 hT.2)|exact absurd (gA (by with_reducible assumption)) hx|(refine Le.of ?_;rw[(P6 (F6 (by with_reducible assumption) (by with_reducible assumption) (by with_reducible assumption))).1];first|rfl|exact congrArg (fun l=>SV.c (.agg l)) (J5 _))|rw[(P6 (F6 (by with_reducible assumption) (by with_reducible assumption) (by with_reducible assumption))).2];exact A5.of (by kernel_rfl)
def Lc (L:List EN) (d:Int) (c:R4):Cz:={
 ct:=(fun f=>match f with
 |141=>some fun _ _S=>fun | [.c (.agg [.o i _]),_]=>some {v:=.c (.agg [.o _S.n (C8 c (v7 L (wR c) L.length) (v7 L (wR c) L.length).length).length]),rd:=[i],wr:=[(_S.n,⟨n8 (C8 c (v7 L (wR c) L.length) (v7 L (wR c) L.length).length),.r 42 258 _S.n⟩)],nw:=1}|_=>none
 |_=>none)
 lp:=fun r=>match r with|3=>some (fun _ K=>((∀j,j<L.length->D0 L (wR c) j=true)->K (.exit 0) (iG L d c L.length))/\(∀j,j<L.length->(∀i,i<j->D0 L (wR c) i=true)->D0 L (wR c) j=false->K .ret (Gw L d c j)))|_=>none,wh:=[26,66,85]}
set_option maxRecDepth 100000 in
set_option maxHeartbeats 400000 in
theorem b7b (L:List EN) (d:Int) (c:R4) (hG:x7 L) (hX:GoodX L) (h0:0<=d) (hd:d<=900000000) (hx:P4 L (wR c)=none) (gl:Good (v7 L (wR c) L.length)):f4 prog 97 [.c (.l (.p 0 0)),ag [li c.x0,li c.y0,li c.x1,li c.y1],bv false] [(0,⟨[.o 1 L.length,li d],.t 91⟩),(1,⟨o4 L,.r 59 8 1⟩)] 2 (.c (.agg (tl zT++[.o 2 (C8 c (v7 L (wR c) L.length) (v7 L (wR c) L.length).length).length,li 0]))) [(0,⟨[.o 1 L.length,li (d+B6 L (wR c) L.length)],.t 91⟩),(2,⟨n8 (C8 c (v7 L (wR c) L.length) (v7 L (wR c) L.length).length),.r 42 258 2⟩)] 1:=by
 refine lY (cx:=Lc L d c) (nm:=[6]) rfl func97 (body:=Tryz.f97.body.getD .skip) rfl b7m (by unfold Q8;simp only[List.all_cons,List.all_nil,kD (g9 L) (show (BT.rn (x8 2 0 []) (.r 59 8 1)).isSome=true from rfl),Bool.and_true,Bool.true_and];kernel_rfl) ?_
 apply u3 (q:=(l3 prog ((A2 3 (Tryz.f97.body.getD .skip)).getD .skip) (St.mk [(8,iv IntKind.i64 0),(7,SV.c (Cp.l (Leaf.p 4 0))),(6,SV.c (Cp.l (Leaf.p 3 0))),(4,SV.c (Cp.l (Leaf.p 2 0))),(0,SV.c (Cp.l (Leaf.p 0 0))),(1,ag [li c.x0,li c.y0,li c.x1,li c.y1]),(2,bv false)] [(4,some (n6.mk [Leaf.v (Value.slice none 0 0)] (BT.t 26))),(3,some (n6.mk (o7++[Leaf.v (Value.slice none 0 0),li 0]) (BT.t 85))),(2,some (n6.mk [li c.x0,li c.y0,li c.x1,li c.y1] (BT.t 66))),(0,some (n6.mk [Leaf.o 1 L.length,li d] (BT.t 91))),(1,some (n6.mk (o4 L) (BT.r 59 8 1)))] 5 69 [4,3,2] 2) fun K=>((∀(j:Nat),j<L.length->D0 L (wR c) j=true)->K (Exit.exit 0) (iG L d c L.length))/\∀(j:Nat),j<L.length->(∀(i:Nat),i<j->D0 L (wR c) i=true)->D0 L (wR c) j=false->K Exit.ret (Gw L d c j))/\((∀(j:Nat),j<L.length->D0 L (wR c) j=true)->j8 prog 141 [] [ag [Leaf.o 5 (v7 L (wR c) L.length).length],ag [li c.x0,li c.y0,li c.x1,li c.y1]] [(5,n6.mk (n8 (v7 L (wR c) L.length)) (BT.r 42 258 5))] 6 (ag [Leaf.o 6 (C8 c (v7 L (wR c) L.length) (v7 L (wR c) L.length).length).length]) [(6,n6.mk (n8 (C8 c (v7 L (wR c) L.length) (v7 L (wR c) L.length).length)) (BT.r 42 258 6))] 1/\0=0/\1=1/\0=0/\258=258/\Le (ag (o7++[Leaf.o 2 (C8 c (v7 L (wR c) L.length) (v7 L (wR c) L.length).length).length,li 0])) (ag (tl (zT)++[Leaf.o 2 (C8 c (v7 L (wR c) L.length) (v7 L (wR c) L.length).length).length,li 0]))/\A5 (x8 2 0 [6]) (n6.mk [Leaf.o 1 L.length,li (d+B6 L (wR c) L.length)] (BT.t 91)) (n6.mk [Leaf.o 1 L.length,li (d+B6 L (wR c) L.length)] (BT.t 91))/\A5 (x8 2 0 [6]) (n6.mk (n8 (C8 c (v7 L (wR c) L.length) (v7 L (wR c) L.length).length)) (BT.r 42 258 6)) (n6.mk (n8 (C8 c (v7 L (wR c) L.length) (v7 L (wR c) L.length).length)) (BT.r 42 258 2))/\True)/\∀(j:Nat),j<L.length->(∀(i:Nat),i<j->D0 L (wR c) i=true)->D0 L (wR c) j=false->Le (ag (tl (zT)++[Leaf.v (Value.slice none 0 0),li (E0 (ea L j))])) (ag (tl (zT)++[Leaf.o 2 (C8 c (v7 L (wR c) L.length) (v7 L (wR c) L.length).length).length,li 0]))/\A5 (x8 2 0 [6]) (n6.mk [Leaf.o 1 L.length,li (d+(B6 L (wR c) j+1))] (BT.t 91)) (n6.mk [Leaf.o 1 L.length,li (d+B6 L (wR c) L.length)] (BT.t 91))/\False) (by kernel_rfl)
 repeat' (first|exact trivial|with_reducible apply And.intro|(with_reducible apply HB.mk)|with_reducible intro _)
 all_goals first
  |(with_reducible rfl)
  |((exact Ji c _ gl _ _ (by omega)))
  |(exact l3.re [(5,none)] (iG L d c 0) (by kernel_rfl) (m9 (H8.of (by kernel_rfl)) (m9 (H8.of (by kernel_rfl)) (m9 (H8.of (by kernel_rfl)) (m9 (H8.of (by kernel_rfl)) (m9 (H8.of (by kernel_rfl)) (m9 (H8.of (by kernel_rfl)) trivial)))))) (f5 (j:=0) rfl (v5.blk (k:=⟨[.o 1 L.length,li d],.t 91⟩) (k'':=⟨[.o 1 L.length,li d],.t 91⟩) (by kernel_rfl) (by kernel_rfl) (by rw[show B6 L (wR c) 0=0 from rfl,Int.add_zero])) (f5 (j:=1) rfl (v5.plain (cs:=o4 L) (b:=.r 59 8 1) (by kernel_rfl) (rfl) (g9 _) (by kernel_rfl)) (f5 (j:=2) rfl (v5.blk (k:=⟨[li c.x0,li c.y0,li c.x1,li c.y1],.t 66⟩) (k'':=⟨[li c.x0,li c.y0,li c.x1,li c.y1],.t 66⟩) (by kernel_rfl) (by kernel_rfl) (rfl)) (f5 (j:=3) rfl (v5.plain (cs:=o7++[.v (.slice none 0 0),li 0]) (b:=.t 85) (by kernel_rfl) (J5 0) (o9) (by kernel_rfl)) (f5 (j:=4) rfl (v5.lsB (xs:=[.v (.slice none 0 0)]) (by kernel_rfl) (aY.cons (by show gT _ 6 _ (.o 5 (v7 L (wR c) 0).length);exact gT.nil (show 5<6 by decide) rfl) aY.nil)) (b6l rfl trivial)))))) (fun K hT=>Kf L d c hG hX h0 hd _ 0 rfl (Nat.zero_le _) (fun j hj=>absurd hj (Nat.not_lt_zero j)) K hT.1 hT.2))
  |((refine Le.of ?_;rw[q9];done))
  |(exact absurd (hx.symm.trans (F6 (by with_reducible assumption) (by with_reducible assumption) (by with_reducible assumption))) (by simp))
  |(exact A5.plain rfl (i9 _) (by kernel_rfl))
  |(exact A5.of (by kernel_rfl))
def Rg (L:List EN) (d:Int) (c:R4):Cz:={
 ct:=fun _=>none
 lp:=fun r=>match r with|3=>some (fun _ K=>((∀j,j<L.length->D0 L (wR c) j=true)->K (.exit 0) (iG L d c L.length))/\(∀j,j<L.length->(∀i,i<j->D0 L (wR c) i=true)->D0 L (wR c) j=false->K .ret (Gw L d c j)))|_=>none,wh:=[26,66,85]}
theorem b6g (L:List EN) (d:Int) (c:R4) (hG:x7 L) (hX:GoodX L) (h0:0<=d) (hd:d<=900000000) (hx:P4 L (wR c)≠none):f4 prog 97 [.c (.l (.p 0 0)),ag [li c.x0,li c.y0,li c.x1,li c.y1],bv false] [(0,⟨[.o 1 L.length,li d],.t 91⟩),(1,⟨o4 L,.r 59 8 1⟩)] 2 (.c (.agg (t5 zT (M9 L (wR c))))) [(0,⟨[.o 1 L.length,li (d+A7 L (wR c))],.t 91⟩)] 0:=by
 refine E3 (q:=let a:=[li c.x0,li c.y0,li c.x1,li c.y1];let b:=Value.slice none 0 0;let e:=(∀(j:Nat),j<L.length->D0 L (wR c) j=true);(l3 prog (gl 3 Tryz.f97) (St.mk [(8,i8 0),(7,j7 4 0),(6,j7 3 0),(4,j7 2 0),(0,j7 0 0),(1,ag a),(2,bv false)] [(4,some (j9 [Leaf.v b] 26)),(3,some (j9 (o7++[Leaf.v b,li 0]) 85)),(2,some (j9 a 66)),(0,some (j9 [Leaf.o 1 L.length,li d] 91)),(1,some (o8 (o4 L) 59 8 1))] 5 69 [4,3,2] 2) fun K=>(e->K (Exit.exit 0) (iG L d c L.length))/\∀(j:Nat),j<L.length->(∀(i:Nat),i<j->D0 L (wR c) i=true)->D0 L (wR c) j=false->K Exit.ret (Gw L d c j))/\(e->Bad 12 2)/\∀(j:Nat),j<L.length->(∀(i:Nat),i<j->D0 L (wR c) i=true)->D0 L (wR c) j=false->Le (ag (tl (zT)++[Leaf.v b,li (E0 (ea L j))])) (ag (t5 zT (M9 L (wR c))))/\A5 (x8 2 0 []) (j9 [Leaf.o 1 L.length,li (d+(B6 L (wR c) j+1))] 91) (j9 [Leaf.o 1 L.length,li (d+A7 L (wR c))] 91)/\True) (Rg L d c) [] func97 (D9 (g9 L) (by kernel_rfl)) (by kernel_rfl) ?_
 with_reducible repeat' first|exact trivial|apply And.intro|apply HB.mk|intro _
 all_goals first|exact l3.rk [(5,none)] (iG L d c 0) (by kernel_rfl) (f5 (j:=0) rfl (v5.blk (k:=⟨[.o 1 L.length,li d],.t 91⟩) (k'':=⟨[.o 1 L.length,li d],.t 91⟩) (by kernel_rfl) (by kernel_rfl) (by rw[show B6 L (wR c) 0=0 from rfl,Int.add_zero])) (f5 (j:=1) rfl (v5.p (g9 _) (by kernel_rfl)) (f5 (j:=2) rfl (v5.k (by kernel_rfl)) (f5 (j:=3) rfl (v5.plain (cs:=o7++[.v (.slice none 0 0),li 0]) (b:=.t 85) (by kernel_rfl) (J5 0) (o9) (by kernel_rfl)) (f5 (j:=4) rfl (v5.lsB (xs:=[.v (.slice none 0 0)]) (by kernel_rfl) (aY.cons (by show gT _ 6 _ (.o 5 (v7 L (wR c) 0).length);exact gT.nil (show 5<6 by decide) rfl) aY.nil)) (G0.k (by kernel_rfl))))))) (fun K hT=>Kf L d c hG hX h0 hd _ 0 rfl (Nat.zero_le _) (fun j hj=>absurd hj (Nat.not_lt_zero j)) K hT.1 hT.2)|exact absurd (gA (by with_reducible assumption)) hx|(refine Le.of ?_;rw[(P6 (F6 (by with_reducible assumption) (by with_reducible assumption) (by with_reducible assumption))).1];first|rfl|exact congrArg (fun l=>SV.c (.agg l)) (J5 _))|rw[(P6 (F6 (by with_reducible assumption) (by with_reducible assumption) (by with_reducible assumption))).2];exact A5.of (by kernel_rfl)
end Ab
end
section
namespace Ab
attribute [local irreducible] j8
attribute [local irreducible] tl n8
theorem Ln (L:List EN) (d:Int) (hG:x7 L) (hX:GoodX L) (h0:0<=d) (hd:d<=900000000) (hx:P4 L l2=none) (id i n:Nat) (h1:id<n) (h2:i<n) (h3:id≠i):f4 prog 97 [.c (.l (.p id 0)),ag [li 0,li 0,li 0,li 0],bv true] [(id,⟨[.o i L.length,li d],.t 91⟩),(i,⟨o4 L,.r 59 8 i⟩)] n (.c (.agg (tl zT++[.o n (v7 L l2 L.length).length,li 0]))) [(id,⟨[.o i L.length,li (d+B6 L l2 L.length)],.t 91⟩),(n,⟨n8 (v7 L l2 L.length),.r 42 258 n⟩)] 1:=by
 have key:=j8.at2 (c1j L d hG hX h0 hd hx) id i n h1 h2 h3
 simp only[List.map_cons,List.map_nil,List.map_append,n6.ren,SV.ren,Cp.ren,Leaf.ren,BT.ren,j5 o9,j5 (j3 _),j5 (g9 _),j5 (i9 _)] at key
 exact key
theorem Nz (L:List EN) (d:Int) (hG:x7 L) (hX:GoodX L) (h0:0<=d) (hd:d<=900000000) (hx:P4 L l2≠none) (id i n:Nat) (h1:id<n) (h2:i<n) (h3:id≠i):f4 prog 97 [.c (.l (.p id 0)),ag [li 0,li 0,li 0,li 0],bv true] [(id,⟨[.o i L.length,li d],.t 91⟩),(i,⟨o4 L,.r 59 8 i⟩)] n (.c (.agg (t5 zT (M9 L l2)))) [(id,⟨[.o i L.length,li (d+A7 L l2)],.t 91⟩)] 0:=by
 have key:=j8.at2 (b7i L d hG hX h0 hd hx) id i n h1 h2 h3
 simp only[List.map_cons,List.map_nil,List.map_append,n6.ren,SV.ren,Cp.ren,Leaf.ren,BT.ren,j5 o9,j5 (j3 _),j5 (g9 _),j5 (i9 _)] at key
 exact key
def a2u (L:List EN) (d:Int):Cz:={
 ct:=(fun f=>match f with
 |97=>some fun _ _S=>fun | [.c (.l (.p i _)),_,_]=>some {v:=.c (.agg (tl zT++[.o _S.n (v7 L l2 L.length).length,li 0])),rd:=[0,1],wr:=[(0,⟨[.o 1 L.length,li (d+B6 L l2 L.length)],.t 91⟩),(_S.n,⟨n8 (v7 L l2 L.length),.r 42 258 _S.n⟩)],nw:=1}|_=>none
 |_=>none)
 wh:=[85,66]}
theorem d0s (L:List EN) (d:Int) (hG:x7 L) (hX:GoodX L) (h0:0<=d) (hd:d<=900000000) (hx:P4 L l2=none):f4 prog 37 [.c (.l (.p 0 0))] [(0,⟨[.o 1 L.length,li d],.t 91⟩),(1,⟨o4 L,.r 59 8 1⟩)] 2 (.c (.agg (tl zT++[.o 2 (v7 L l2 L.length).length,li 0]))) [(0,⟨[.o 1 L.length,li (d+B6 L l2 L.length)],.t 91⟩),(2,⟨n8 (v7 L l2 L.length),.r 42 258 2⟩)] 1:=by
 refine E3 (q:=let a:=v7 L l2 L.length;let b:=[Leaf.o 1 L.length,li (d+B6 L l2 L.length)];let e:=(ag (tl (zT)++[Leaf.o 2 a.length,li 0]));Kd 97 [] [j7 0 0,ag [li 0,li 0,li 0,li 0],bv true] [(0,j9 [Leaf.o 1 L.length,li d] 91),(1,o8 (o4 L) 59 8 1)] 3 (ag (tl (zT)++[Leaf.o 3 a.length,li 0])) [(0,j9 b 91),(3,o8 (n8 a) 42 258 3)] 1/\0=0/\258=258/\Le e e/\A5 (x8 2 0 [3]) (j9 b 91) (j9 b 91)/\A5 (x8 2 0 [3]) (o8 (n8 a) 42 258 3) (o8 (n8 a) 42 258 2)/\True) (a2u L d) [3] func37 (D9 (g9 L) (by kernel_rfl)) (by kernel_rfl) ?_
 with_reducible repeat' first|exact trivial|apply And.intro|apply HB.mk|intro _|exact Le.refl _|rfl
 all_goals first|(with_reducible refine Ln L d hG hX h0 hd hx _ _ _ ?_ ?_ ?_)<;>omega|exact A5.plain rfl (i9 _) (by kernel_rfl)|exact A5.of (by kernel_rfl)
def a1g (L:List EN) (d:Int):Cz:={
 ct:=(fun f=>match f with
 |97=>some fun _ _=>fun | [.c (.l (.p i _)),_,_]=>some {v:=.c (.agg (t5 zT (M9 L l2))),rd:=[0,1],wr:=[(0,⟨[.o 1 L.length,li (d+A7 L l2)],.t 91⟩)]}|_=>none
 |_=>none)
 wh:=[85,66]}
theorem d0v (L:List EN) (d:Int) (hG:x7 L) (hX:GoodX L) (h0:0<=d) (hd:d<=900000000) (hx:P4 L l2≠none):f4 prog 37 [.c (.l (.p 0 0))] [(0,⟨[.o 1 L.length,li d],.t 91⟩),(1,⟨o4 L,.r 59 8 1⟩)] 2 (.c (.agg (t5 zT (M9 L l2)))) [(0,⟨[.o 1 L.length,li (d+A7 L l2)],.t 91⟩)] 0:=by
 refine E3 (q:=let a:=ag (t5 zT (M9 L l2));let b:=[Leaf.o 1 L.length,li (d+A7 L l2)];Kd 97 [] [j7 0 0,ag [li 0,li 0,li 0,li 0],bv true] [(0,j9 [Leaf.o 1 L.length,li d] 91),(1,o8 (o4 L) 59 8 1)] 3 a [(0,j9 b 91)] 0/\0=0/\258=258/\Le (ag (tl (zT)++[Leaf.v (Value.slice none 0 0),li (M9 L l2)])) a/\A5 (x8 2 0 []) (j9 b 91) (j9 b 91)/\True) (a1g L d) [] func37 (D9 (g9 L) (by kernel_rfl)) (by kernel_rfl) ?_
 with_reducible repeat' first|exact trivial|apply And.intro|apply HB.mk|intro _|rfl
 all_goals first|(with_reducible refine Nz L d hG hX h0 hd hx _ _ _ ?_ ?_ ?_)<;>omega|exact A5.of (by kernel_rfl)|exact Le.of rfl
theorem a0q (L:List EN) (d:Int) (hG:x7 L) (hX:GoodX L) (h0:0<=d) (hd:d<=900000000) (hx:P4 L l2=none) (id i n:Nat) (h1:id<n) (h2:i<n) (h3:id≠i):f4 prog 37 [.c (.l (.p id 0))] [(id,⟨[.o i L.length,li d],.t 91⟩),(i,⟨o4 L,.r 59 8 i⟩)] n (.c (.agg (tl zT++[.o n (v7 L l2 L.length).length,li 0]))) [(id,⟨[.o i L.length,li (d+B6 L l2 L.length)],.t 91⟩),(n,⟨n8 (v7 L l2 L.length),.r 42 258 n⟩)] 1:=by
 have key:=j8.at2 (d0s L d hG hX h0 hd hx) id i n h1 h2 h3
 simp only[List.map_cons,List.map_nil,List.map_append,n6.ren,SV.ren,Cp.ren,Leaf.ren,BT.ren,j5 o9,j5 (j3 _),j5 (g9 _),j5 (i9 _)] at key
 exact key
theorem Ry (L:List EN) (d:Int) (hG:x7 L) (hX:GoodX L) (h0:0<=d) (hd:d<=900000000) (hx:P4 L l2≠none) (id i n:Nat) (h1:id<n) (h2:i<n) (h3:id≠i):f4 prog 37 [.c (.l (.p id 0))] [(id,⟨[.o i L.length,li d],.t 91⟩),(i,⟨o4 L,.r 59 8 i⟩)] n (.c (.agg (t5 zT (M9 L l2)))) [(id,⟨[.o i L.length,li (d+A7 L l2)],.t 91⟩)] 0:=by
 have key:=j8.at2 (d0v L d hG hX h0 hd hx) id i n h1 h2 h3
 simp only[List.map_cons,List.map_nil,List.map_append,n6.ren,SV.ren,Cp.ren,Leaf.ren,BT.ren,j5 o9,j5 (j3 _),j5 (g9 _),j5 (i9 _)] at key
 exact key
theorem Kx (L:List EN) (d:Int) (c:R4) (hG:x7 L) (hX:GoodX L) (h0:0<=d) (hd:d<=900000000) (hx:P4 L (wR c)=none) (gl:Good (v7 L (wR c) L.length)) (id i n:Nat) (h1:id<n) (h2:i<n) (h3:id≠i):f4 prog 97 [.c (.l (.p id 0)),ag [li c.x0,li c.y0,li c.x1,li c.y1],bv false] [(id,⟨[.o i L.length,li d],.t 91⟩),(i,⟨o4 L,.r 59 8 i⟩)] n (.c (.agg (tl zT++[.o n (C8 c (v7 L (wR c) L.length) (v7 L (wR c) L.length).length).length,li 0]))) [(id,⟨[.o i L.length,li (d+B6 L (wR c) L.length)],.t 91⟩),(n,⟨n8 (C8 c (v7 L (wR c) L.length) (v7 L (wR c) L.length).length),.r 42 258 n⟩)] 1:=by
 have key:=j8.at2 (b7b L d c hG hX h0 hd hx gl) id i n h1 h2 h3
 simp only[List.map_cons,List.map_nil,List.map_append,n6.ren,SV.ren,Cp.ren,Leaf.ren,BT.ren,j5 o9,j5 (j3 _),j5 (g9 _),j5 (i9 _)] at key
 exact key
theorem Sg (L:List EN) (d:Int) (c:R4) (hG:x7 L) (hX:GoodX L) (h0:0<=d) (hd:d<=900000000) (hx:P4 L (wR c)≠none) (id i n:Nat) (h1:id<n) (h2:i<n) (h3:id≠i):f4 prog 97 [.c (.l (.p id 0)),ag [li c.x0,li c.y0,li c.x1,li c.y1],bv false] [(id,⟨[.o i L.length,li d],.t 91⟩),(i,⟨o4 L,.r 59 8 i⟩)] n (.c (.agg (t5 zT (M9 L (wR c))))) [(id,⟨[.o i L.length,li (d+A7 L (wR c))],.t 91⟩)] 0:=by
 have key:=j8.at2 (b6g L d c hG hX h0 hd hx) id i n h1 h2 h3
 simp only[List.map_cons,List.map_nil,List.map_append,n6.ren,SV.ren,Cp.ren,Leaf.ren,BT.ren,j5 o9,j5 (j3 _),j5 (g9 _),j5 (i9 _)] at key
 exact key
def Xm (L:List EN) (d:Int) (c:R4):Cz:={
 ct:=(fun f=>match f with
 |97=>some fun _ _S=>fun | [.c (.l (.p i _)),_,_]=>some {v:=.c (.agg (tl zT++[.o _S.n (C8 c (v7 L (wR c) L.length) (v7 L (wR c) L.length).length).length,li 0])),rd:=[0,1],wr:=[(0,⟨[.o 1 L.length,li (d+B6 L (wR c) L.length)],.t 91⟩),(_S.n,⟨n8 (C8 c (v7 L (wR c) L.length) (v7 L (wR c) L.length).length),.r 42 258 _S.n⟩)],nw:=1}|_=>none
 |_=>none)
 wh:=[85,66]}
theorem c7n (L:List EN) (d:Int) (c:R4) (hG:x7 L) (hX:GoodX L) (h0:0<=d) (hd:d<=900000000) (hx:P4 L (wR c)=none) (gl:Good (v7 L (wR c) L.length)):f4 prog 38 [.c (.l (.p 0 0)),ag [li c.x0,li c.y0,li c.x1,li c.y1]] [(0,⟨[.o 1 L.length,li d],.t 91⟩),(1,⟨o4 L,.r 59 8 1⟩)] 2 (.c (.agg (tl zT++[.o 2 (C8 c (v7 L (wR c) L.length) (v7 L (wR c) L.length).length).length,li 0]))) [(0,⟨[.o 1 L.length,li (d+B6 L (wR c) L.length)],.t 91⟩),(2,⟨n8 (C8 c (v7 L (wR c) L.length) (v7 L (wR c) L.length).length),.r 42 258 2⟩)] 1:=by
 refine E3 (q:=let a:=v7 L (wR c) L.length;let b:=C8 c a a.length;let e:=[Leaf.o 1 L.length,li (d+B6 L (wR c) L.length)];let f:=(ag (tl (zT)++[Leaf.o 2 b.length,li 0]));Kd 97 [] [j7 0 0,ag [li c.x0,li c.y0,li c.x1,li c.y1],bv false] [(0,j9 [Leaf.o 1 L.length,li d] 91),(1,o8 (o4 L) 59 8 1)] 4 (ag (tl (zT)++[Leaf.o 4 b.length,li 0])) [(0,j9 e 91),(4,o8 (n8 b) 42 258 4)] 1/\0=0/\258=258/\Le f f/\A5 (x8 2 0 [4]) (j9 e 91) (j9 e 91)/\A5 (x8 2 0 [4]) (o8 (n8 b) 42 258 4) (o8 (n8 b) 42 258 2)/\True) (Xm L d c) [4] func38 (D9 (g9 L) (by kernel_rfl)) (by kernel_rfl) ?_
 with_reducible repeat' first|exact trivial|apply And.intro|apply HB.mk|intro _|exact Le.refl _|rfl
 all_goals first|(with_reducible refine Kx L d c hG hX h0 hd hx gl _ _ _ ?_ ?_ ?_)<;>omega|exact A5.plain rfl (i9 _) (by kernel_rfl)|exact A5.of (by kernel_rfl)
def a0y (L:List EN) (d:Int) (c:R4):Cz:={
 ct:=(fun f=>match f with
 |97=>some fun _ _=>fun | [.c (.l (.p i _)),_,_]=>some {v:=.c (.agg (t5 zT (M9 L (wR c)))),rd:=[0,1],wr:=[(0,⟨[.o 1 L.length,li (d+A7 L (wR c))],.t 91⟩)]}|_=>none
 |_=>none)
 wh:=[85,66]}
theorem c9n (L:List EN) (d:Int) (c:R4) (hG:x7 L) (hX:GoodX L) (h0:0<=d) (hd:d<=900000000) (hx:P4 L (wR c)≠none):f4 prog 38 [.c (.l (.p 0 0)),ag [li c.x0,li c.y0,li c.x1,li c.y1]] [(0,⟨[.o 1 L.length,li d],.t 91⟩),(1,⟨o4 L,.r 59 8 1⟩)] 2 (.c (.agg (t5 zT (M9 L (wR c))))) [(0,⟨[.o 1 L.length,li (d+A7 L (wR c))],.t 91⟩)] 0:=by
 refine E3 (q:=let a:=ag (t5 zT (M9 L (wR c)));let b:=[Leaf.o 1 L.length,li (d+A7 L (wR c))];Kd 97 [] [j7 0 0,ag [li c.x0,li c.y0,li c.x1,li c.y1],bv false] [(0,j9 [Leaf.o 1 L.length,li d] 91),(1,o8 (o4 L) 59 8 1)] 4 a [(0,j9 b 91)] 0/\0=0/\258=258/\Le (ag (tl (zT)++[Leaf.v (Value.slice none 0 0),li (M9 L (wR c))])) a/\A5 (x8 2 0 []) (j9 b 91) (j9 b 91)/\True) (a0y L d c) [] func38 (D9 (g9 L) (by kernel_rfl)) (by kernel_rfl) ?_
 with_reducible repeat' first|exact trivial|apply And.intro|apply HB.mk|intro _|rfl
 all_goals first|(with_reducible refine Sg L d c hG hX h0 hd hx _ _ _ ?_ ?_ ?_)<;>omega|exact A5.of (by kernel_rfl)|exact Le.of rfl
theorem Mb (L:List EN) (d:Int) (c:R4) (hG:x7 L) (hX:GoodX L) (h0:0<=d) (hd:d<=900000000) (hx:P4 L (wR c)=none) (gl:Good (v7 L (wR c) L.length)) (id i n:Nat) (h1:id<n) (h2:i<n) (h3:id≠i):f4 prog 38 [.c (.l (.p id 0)),ag [li c.x0,li c.y0,li c.x1,li c.y1]] [(id,⟨[.o i L.length,li d],.t 91⟩),(i,⟨o4 L,.r 59 8 i⟩)] n (.c (.agg (tl zT++[.o n (C8 c (v7 L (wR c) L.length) (v7 L (wR c) L.length).length).length,li 0]))) [(id,⟨[.o i L.length,li (d+B6 L (wR c) L.length)],.t 91⟩),(n,⟨n8 (C8 c (v7 L (wR c) L.length) (v7 L (wR c) L.length).length),.r 42 258 n⟩)] 1:=by
 have key:=j8.at2 (c7n L d c hG hX h0 hd hx gl) id i n h1 h2 h3
 simp only[List.map_cons,List.map_nil,List.map_append,n6.ren,SV.ren,Cp.ren,Leaf.ren,BT.ren,j5 o9,j5 (j3 _),j5 (g9 _),j5 (i9 _)] at key
 exact key
theorem Id (L:List EN) (d:Int) (c:R4) (hG:x7 L) (hX:GoodX L) (h0:0<=d) (hd:d<=900000000) (hx:P4 L (wR c)≠none) (id i n:Nat) (h1:id<n) (h2:i<n) (h3:id≠i):f4 prog 38 [.c (.l (.p id 0)),ag [li c.x0,li c.y0,li c.x1,li c.y1]] [(id,⟨[.o i L.length,li d],.t 91⟩),(i,⟨o4 L,.r 59 8 i⟩)] n (.c (.agg (t5 zT (M9 L (wR c))))) [(id,⟨[.o i L.length,li (d+A7 L (wR c))],.t 91⟩)] 0:=by
 have key:=j8.at2 (c9n L d c hG hX h0 hd hx) id i n h1 h2 h3
 simp only[List.map_cons,List.map_nil,List.map_append,n6.ren,SV.ren,Cp.ren,Leaf.ren,BT.ren,j5 o9,j5 (j3 _),j5 (g9 _),j5 (i9 _)] at key
 exact key
end Ab
end
section
namespace Ab
attribute [local irreducible] j8
attribute [local irreducible] tl n8
def Md (L:List EN) (x y d:Int) (k:Nat):St:=⟨[(5,iv .i64 (k:Nat)),(0,.c (.l (.p 0 0))),(3,.c (.l (.p 2 0))),(4,.c (.l (.p 3 0)))],[(0,some ⟨[.o 1 L.length,li d],.t 91⟩),(1,some ⟨o4 L,.r 59 8 1⟩),(2,some ⟨[li x,li y],.t 40⟩),(3,some ⟨t5 zT 0,.t 85⟩)],4,29,[3,2,0],(2)⟩
def Q39 (L:List EN) (x y d:Int) (k:Nat):St:=⟨[(4,.c (.l (.p 3 0)))],[(0,some ⟨[.o 1 L.length,li (d+1)],.t 91⟩),(3,some ⟨t5 (C7 (ea L k)) (E0 (ea L k)),.t 85⟩)],4,29,[3,2,0],(2)⟩
def b3v (L:List EN) (x y d:Int) (k:Nat):Cz:={
 ct:=(fun f=>match f with
 |96=>some fun _ _=>fun | [.c (.l (.p i _)),_]=>some {v:=.c (.agg (t5 (C7 (ea L k)) (E0 (ea L k)))),rd:=[0,1],wr:=[(0,⟨[.o 1 L.length,li (d+1)],.t 91⟩)]}|_=>none
 |_=>none)
 eq:=(fun t=>match t with
 |40=>some (fun xs ys=>match xs,ys with | [.v (.int _ a0),.v (.int _ a1)],[.v (.int _ b0),.v (.int _ b1)]=>(a0==b0&&a1==b1)|_,_=>false)
 |_=>none)
 sym:=[20,21,22],nf:=[(22,.c (.agg [li (ea L k).X,li (ea L k).Y])),(24,bv (mE L x y k))],wh:=[85]}
theorem R39 (L:List EN) (x y d:Int) (k:Nat)  (K:Exit->St->Prop) (h:let a:=((k:Int));let b:=[li (ea L k).X,li (ea L k).Y];let e:=(ea L k).X==x&&(ea L k).Y==y;let f:=[Leaf.o 1 L.length,li d];let g:=t5 (C7 (ea L k)) (E0 (ea L k));let i:=[Leaf.o 1 L.length,li (d+1)];let j:=[(0,j7 0 0),(3,j7 2 0),(4,j7 3 0),(5,i8 (k:Int))];let m:=(1,some (o8 (o4 L) 59 8 1));let n:=(2,some (j9 [li x,li y] 40));let q:=[(0,some (j9 f 91)),m,n,(3,some (j9 (t5 zT 0) 85))];HB (decide ((k:Int)<(L.length:Int))) (t0 a L.length/\a.toNat*8+0+2<=(o4 L).length/\Le (ag (List.take 2 (List.drop (a.toNat*8+0) (o4 L)))) (ag b)/\H4 prog 40 b [li x,li y] e/\Le (bv e) (bv (mE L x y k))/\HB (mE L x y k) (Kd 96 [] [j7 0 0,i8 (k:Int)] [(0,j9 f 91),(1,o8 (o4 L) 59 8 1)] 4 (ag g) [(0,j9 i 91)] 0/\0=0/\258=258/\wkK 4 K Exit.ret (St.mk j [(0,some (j9 i 91)),m,n,(3,some (j9 g 85))] 4 29 [3,0,3,2,0] 2)) (IntKind.i64.wrap ((k:Int)+1)=(k:Int)+1/\RoundTo prog (gl 2 Tryz.f39) 4 (wkK 4 K) (St.mk [(0,j7 0 0),(3,j7 2 0),(4,j7 3 0),(5,i8 ((k:Int)+1))] q 4 29 [3,2,0] 2))) (wkK 4 K (Exit.exit 0) (St.mk j q 4 29 [3,2,0] 2))):z4 prog (gl 2 Tryz.f39) (Md L x y d k) (wkK 4 K):=
 m5 [0,3,4,5] [0,1,2,3] (cx:=b3v L x y d k) rfl (u3 (by kernel_rfl) h)
theorem L39 (L:List EN) (x y d:Int) (hG:x7 L) (h0:0<=d) (hd:d<=1000000000):∀(m k:Nat),L.length-k=m->k<=L.length->(∀j,j<k->(!mE L x y j)=true)->∀(K:Exit->St->Prop),((∀j,j<L.length->(!mE L x y j)=true)->K (.exit 0) (Md L x y d L.length))->(∀j,j<L.length->(∀i,i<j->(!mE L x y i)=true)->(!mE L x y j)=false->K .ret (Q39 L x y d j))->z4 prog (gl 2 Tryz.f39) (Md L x y d k) (wkK 4 K)
 |0,k,hm,hk,hall,K,hK,hR=>by
  have e:k=L.length:=by omega
  subst e
  refine R39 L x y d _ K (HB.no (by omega) ?_)
  exact wkK.tk (Md L x y d _) (by kernel_rfl) (d5 (l6.k (by kernel_rfl)) (d5 (l6.p (g9 _) (by kernel_rfl)) (d5 (l6.k (by kernel_rfl)) (d5 (l6.p (o9) (by kernel_rfl)) trivial)))) (hK hall)
 |m+1,k,hm,hk,hall,K,hK,hR=>by
  refine R39 L x y d k K (HB.yes (by omega) ?_)
  have hlt:k<L.length:=by omega
  have hlen:=hG.len
  with_reducible repeat' first|exact trivial|apply And.intro|apply HB.mk|intro _|rfl
  all_goals first|(with_reducible refine aL L d k hG h0 hd hlt _ _ _ ?_ ?_ ?_)<;>omega|(exact ⟨by omega,by omega⟩)|rw[y6];omega|refine Le.of ?_;simp only[tn,Nat.zero_add,Nat.add_zero];rw[cO hlt]|exact b2e _ _ _ _|with_reducible exact Le.bool (a4y _ _ _ _)|have hcnd:(mE L x y k)=false:=(by with_reducible assumption);(with_reducible refine RoundTo.tk 4 (Md L x y d (k+1)) ?_ ?_ ?_);kernel_rfl;exact (d5 (l6.k (by kernel_rfl)) (d5 (l6.p (g9 _) (by kernel_rfl)) (d5 (l6.k (by kernel_rfl)) (d5 (l6.p (o9) (by kernel_rfl)) trivial))));exact (L39 L x y d hG h0 hd m (k+1) (by omega) (by omega) (fun j hj=>by rcases Nat.lt_or_ge j k with h|h;exact hall j h;have e:j=k:=(by omega);subst e;exact (Sc hcnd)) K hK hR)|exact wkK.tk (Q39 L x y d k) (by kernel_rfl) (d5 (l6.k (by kernel_rfl)) (d5 (l6.p (o9) (by kernel_rfl)) trivial)) (hR k hlt hall ((c5r (by with_reducible assumption))))|exact C2 _ (by omega) (by omega)
theorem Um {L:List EN} {x y:Int} {j:Nat} (hj:j<L.length) (hb:∀i,i<j->(!mE L x y i)=true) (h:(!mE L x y j)=false):fE L x y=ea L j:=by
 unfold fE;rw[pA hj hb h];rfl
def Yq (L:List EN) (x y d:Int):Cz:={
 ct:=fun _=>none
 lp:=fun r=>match r with|2=>some (fun _ K=>((∀j,j<L.length->(!mE L x y j)=true)->K (.exit 0) (Md L x y d L.length))/\(∀j,j<L.length->(∀i,i<j->(!mE L x y i)=true)->(!mE L x y j)=false->K .ret (Q39 L x y d j)))|_=>none,wh:=[85,40]}
theorem c8j (L:List EN) (x y d:Int) (hG:x7 L) (h0:0<=d) (hd:d<=1000000000) (hf:fN L x y<0):f4 prog 39 [.c (.l (.p 0 0)),ag [li x,li y]] [(0,⟨[.o 1 L.length,li d],.t 91⟩),(1,⟨o4 L,.r 59 8 1⟩)] 2 (.c (.agg (t5 zT 0))) [(0,⟨[.o 1 L.length,li d],.t 91⟩)] 0:=by
 refine E3 (q:=let a:=Value.slice none 0 0;let b:=(o7++[Leaf.v a,li 0]);let e:=(j9 [Leaf.o 1 L.length,li d] 91);let f:=(∀(j:Nat),j<L.length->(!mE L x y j)=true);let g:=ag (t5 zT 0);(l3 prog (gl 2 Tryz.f39) (St.mk [(5,i8 0),(4,j7 3 0),(3,j7 2 0),(0,j7 0 0),(1,ag [li x,li y])] [(3,some (j9 b 85)),(2,some (j9 [li x,li y] 40)),(0,some e),(1,some (o8 (o4 L) 59 8 1))] 4 29 [3,2] 2) fun K=>(f->K (Exit.exit 0) (Md L x y d L.length))/\∀(j:Nat),j<L.length->(∀(i:Nat),i<j->(!mE L x y i)=true)->(!mE L x y j)=false->K Exit.ret (Q39 L x y d j))/\(f->0=0/\258=258/\Le (ag b) g/\A5 (x8 2 0 []) e e/\True)/\∀(j:Nat),j<L.length->(∀(i:Nat),i<j->(!mE L x y i)=true)->(!mE L x y j)=false->Le (ag (tl (C7 (ea L j))++[Leaf.v a,li (E0 (ea L j))])) g/\A5 (x8 2 0 []) (j9 [Leaf.o 1 L.length,li (d+1)] 91) e/\True) (Yq L x y d) [] func39 (D9 (g9 L) (by kernel_rfl)) (by kernel_rfl) ?_
 with_reducible repeat' first|exact trivial|apply And.intro|apply HB.mk|intro _|rfl
 all_goals first|exact l3.tk (Md L x y d 0) (by kernel_rfl) (d5 (l6.k (by kernel_rfl)) (d5 (l6.p (g9 _) (by kernel_rfl)) (d5 (l6.k (by kernel_rfl)) (d5 (l6.plain (cs:=o7++[.v (.slice none 0 0),li 0]) (b:=.t 85) (by kernel_rfl) (J5 0) (o9) (by kernel_rfl)) trivial)))) (fun K hT=>L39 L x y d hG h0 hd _ 0 rfl (Nat.zero_le _) (fun j hj=>absurd hj (Nat.not_lt_zero j)) K hT.1 hT.2)|exact absurd (pA (by with_reducible assumption) (by with_reducible assumption) (by with_reducible assumption)) (by omega)|exact A5.of (by kernel_rfl)|exact Le.of (congrArg (fun l=>SV.c (.agg l)) (J5 0))
def Vp (L:List EN) (x y d:Int):Cz:={
 ct:=fun _=>none
 lp:=fun r=>match r with|2=>some (fun _ K=>((∀j,j<L.length->(!mE L x y j)=true)->K (.exit 0) (Md L x y d L.length))/\(∀j,j<L.length->(∀i,i<j->(!mE L x y i)=true)->(!mE L x y j)=false->K .ret (Q39 L x y d j)))|_=>none,wh:=[85,40]}
theorem c9u (L:List EN) (x y d:Int) (hG:x7 L) (h0:0<=d) (hd:d<=1000000000) (hf:0<=fN L x y):f4 prog 39 [.c (.l (.p 0 0)),ag [li x,li y]] [(0,⟨[.o 1 L.length,li d],.t 91⟩),(1,⟨o4 L,.r 59 8 1⟩)] 2 (.c (.agg (t5 (C7 (fE L x y)) (E0 (fE L x y))))) [(0,⟨[.o 1 L.length,li (d+1)],.t 91⟩)] 0:=by
 refine E3 (q:=let a:=Value.slice none 0 0;let b:=(o7++[Leaf.v a,li 0]);let e:=(j9 [Leaf.o 1 L.length,li d] 91);let f:=(∀(j:Nat),j<L.length->(!mE L x y j)=true);let g:=ag (t5 (C7 (fE L x y)) (E0 (fE L x y)));let h:=(j9 [Leaf.o 1 L.length,li (d+1)] 91);(l3 prog (gl 2 Tryz.f39) (St.mk [(5,i8 0),(4,j7 3 0),(3,j7 2 0),(0,j7 0 0),(1,ag [li x,li y])] [(3,some (j9 b 85)),(2,some (j9 [li x,li y] 40)),(0,some e),(1,some (o8 (o4 L) 59 8 1))] 4 29 [3,2] 2) fun K=>(f->K (Exit.exit 0) (Md L x y d L.length))/\∀(j:Nat),j<L.length->(∀(i:Nat),i<j->(!mE L x y i)=true)->(!mE L x y j)=false->K Exit.ret (Q39 L x y d j))/\(f->0=0/\258=258/\Le (ag b) g/\A5 (x8 2 0 []) e h/\True)/\∀(j:Nat),j<L.length->(∀(i:Nat),i<j->(!mE L x y i)=true)->(!mE L x y j)=false->Le (ag (tl (C7 (ea L j))++[Leaf.v a,li (E0 (ea L j))])) g/\A5 (x8 2 0 []) h h/\True) (Vp L x y d) [] func39 (D9 (g9 L) (by kernel_rfl)) (by kernel_rfl) ?_
 with_reducible repeat' first|exact trivial|apply And.intro|apply HB.mk|intro _|rfl
 all_goals first|exact l3.tk (Md L x y d 0) (by kernel_rfl) (d5 (l6.k (by kernel_rfl)) (d5 (l6.p (g9 _) (by kernel_rfl)) (d5 (l6.k (by kernel_rfl)) (d5 (l6.plain (cs:=o7++[.v (.slice none 0 0),li 0]) (b:=.t 85) (by kernel_rfl) (J5 0) (o9) (by kernel_rfl)) trivial)))) (fun K hT=>L39 L x y d hG h0 hd _ 0 rfl (Nat.zero_le _) (fun j hj=>absurd hj (Nat.not_lt_zero j)) K hT.1 hT.2)|exact absurd (xN (by with_reducible assumption)) (by omega)|(refine Le.of ?_;rw[Um (by with_reducible assumption) (by with_reducible assumption) (by with_reducible assumption)];first|rfl|done)|exact A5.of (by kernel_rfl)
theorem Br (L:List EN) (x y d:Int) (hG:x7 L) (h0:0<=d) (hd:d<=1000000000) (id i n:Nat) (h1:id<n) (h2:i<n) (h3:id≠i) :
  f4 prog 39 [.c (.l (.p id 0)),ag [li x,li y]] [(id,⟨[.o i L.length,li d],.t 91⟩),(i,⟨o4 L,.r 59 8 i⟩)] n (.c (.agg (t5 (pQ L x y) (pL L x y)))) [(id,⟨[.o i L.length,li (d+vO L x y)],.t 91⟩)] 0:=by
 unfold pQ pL vO
 by_cases hf:fN L x y<0
 ·rw[decide_eq_true hf]
  have key:=j8.at2 (c8j L x y d hG h0 hd hf) id i n h1 h2 h3
  simp only[List.map_cons,List.map_nil,n6.ren,SV.ren,Cp.ren,Leaf.ren,BT.ren,j5 o9,j5 (g9 _)] at key
  show f4 _ _ _ _ _ (.c (.agg (t5 zT 0))) [(id,⟨[.o i L.length,li (d+0)],.t 91⟩)] _
  rw[Int.add_zero]
  exact key
 ·rw[decide_eq_false hf]
  have key:=j8.at2 (c9u L x y d hG h0 hd (by omega)) id i n h1 h2 h3
  simp only[List.map_cons,List.map_nil,n6.ren,SV.ren,Cp.ren,Leaf.ren,BT.ren,j5 o9,j5 (g9 _)] at key
  exact key
end Ab
end
section
namespace Ab
attribute [local irreducible] j8
attribute [local irreducible] tl n8
def U6 (L:List EN):Nat->R4
 |0=>R4.mk 0 0 0 0
 |k+1=>eM (U6 L k) (N9 (ea L k).X (ea L k).Y)
def I42 (L:List EN) (d:Int) (k:Nat):St:=⟨[(4,iv .i64 (k:Nat)),(0,.c (.l (.p 0 0))),(3,.c (.l (.p 3 0))),(2,.c (.l (.p 2 0)))],[(0,some ⟨[.o 1 L.length,li d],.t 91⟩),(1,some ⟨o4 L,.r 59 8 1⟩),(2,some ⟨[li 0,li 0,li 0,li 0],.t 66⟩),(3,some ⟨[li (U6 L k).x0,li (U6 L k).y0,li (U6 L k).x1,li (U6 L k).y1],.t 66⟩)],4,26,[3,2],(2)⟩
def I26 (L:List EN) (d:Int) (k:Nat):St:=⟨[(13,iv .i64 (k:Nat)),(12,iv .i64 (L.length:Nat)),(11,.c (.l (.o 1 L.length))),(3,.c (.l (.p 3 0))),(2,.c (.l (.p 2 0)))],[(0,some ⟨[.o 1 L.length,li d],.t 125⟩),(1,some ⟨o4 L,.r 123 8 1⟩),(2,some ⟨[li 0,li 0,li 0,li 0],.t 66⟩),(3,some ⟨[li (U6 L k).x0,li (U6 L k).y0,li (U6 L k).x1,li (U6 L k).y1],.t 66⟩)],4,24,[3,2],(2)⟩
def c4e:Rw:=some fun _ _=>fun | [.c (.agg [.v (.int _ a0),.v (.int _ a1),.v (.int _ a2),.v (.int _ a3)]),.c (.agg [.v (.int _ b0),.v (.int _ b1),.v (.int _ b2),.v (.int _ b3)])]=>some {v:=ag [li (eM ⟨a0,a1,a2,a3⟩ ⟨b0,b1,b2,b3⟩).x0,li (eM ⟨a0,a1,a2,a3⟩ ⟨b0,b1,b2,b3⟩).y0,li (eM ⟨a0,a1,a2,a3⟩ ⟨b0,b1,b2,b3⟩).x1,li (eM ⟨a0,a1,a2,a3⟩ ⟨b0,b1,b2,b3⟩).y1]}|_=>none
def c0d:Rw:=some fun _ _=>fun | [.c (.agg [.v (.int _ X),.v (.int _ Y)])]=>some {v:=ag [li (N9 X Y).x0,li (N9 X Y).y0,li (N9 X Y).x1,li (N9 X Y).y1]}|_=>none
def b0k (L:List EN) (d:Int) (k:Nat):Cz:={
 ct:=(fun f=>match f with
 |101=>c4e
 |102=>c0d
 |_=>none)
 sym:=[20,21,22],nf:=[(22,.c (.agg [li (ea L k).X,li (ea L k).Y])),(23,ag [li (N9 (ea L k).X (ea L k).Y).x0,li (N9 (ea L k).X (ea L k).Y).y0,li (N9 (ea L k).X (ea L k).Y).x1,li (N9 (ea L k).X (ea L k).Y).y1]),(24,ag [li (eM (U6 L k) (N9 (ea L k).X (ea L k).Y)).x0,li (eM (U6 L k) (N9 (ea L k).X (ea L k).Y)).y0,li (eM (U6 L k) (N9 (ea L k).X (ea L k).Y)).x1,li (eM (U6 L k) (N9 (ea L k).X (ea L k).Y)).y1])],wh:=[66]}
theorem R42 (L:List EN) (d:Int) (k:Nat)  (K:Exit->St->Prop) (h:let a:=((k:Int));let b:=[li (ea L k).X,li (ea L k).Y];let e:=N9 (ea L k).X (ea L k).Y;let f:=[li e.x0,li e.y0,li e.x1,li e.y1];let g:=U6 L k;let i:=[li g.x0,li g.y0,li g.x1,li g.y1];let j:=eM g e;let m:=[li j.x0,li j.y0,li j.x1,li j.y1];let n:=(0,some (j9 [Leaf.o 1 L.length,li d] 91));let q:=(1,some (o8 (o4 L) 59 8 1));let s:=(2,some (j9 [li 0,li 0,li 0,li 0] 66));HB (decide ((k:Int)<(L.length:Int))) (t0 a L.length/\a.toNat*8+0+2<=(o4 L).length/\Le (ag (List.take 2 (List.drop (a.toNat*8+0) (o4 L)))) (ag b)/\Kd 102 [] [ag b] [] 4 (ag f) [] 0/\Le (ag f) (ag f)/\Kd 101 [] [ag i,ag f] [] 4 (ag m) [] 0/\Le (ag m) (ag m)/\0=0/\4=4/\IntKind.i64.wrap ((k:Int)+1)=(k:Int)+1/\RoundTo prog (gl 3 Tryz.f42) 4 (wkK 4 K) (St.mk [(0,j7 0 0),(2,j7 2 0),(3,j7 3 0),(4,i8 ((k:Int)+1))] [n,q,s,(3,some (j9 m 66))] 4 26 [3,3,2] 2)) (wkK 4 K (Exit.exit 0) (St.mk [(0,j7 0 0),(2,j7 2 0),(3,j7 3 0),(4,i8 (k:Int))] [n,q,s,(3,some (j9 i 66))] 4 26 [3,2] 2))):z4 prog (gl 3 Tryz.f42) (I42 L d k) (wkK 4 K):=
 m5 [0,2,3,4] [0,1,2,3] (cx:=b0k L d k) rfl (u3 (by kernel_rfl) h)
theorem L42 (L:List EN) (d:Int) (hL:L.length<=1024) (hX:GoodX L):∀(m k:Nat),L.length-k=m->k<=L.length->∀(K:Exit->St->Prop),K (.exit 0) (I42 L d L.length)->z4 prog (gl 3 Tryz.f42) (I42 L d k) (wkK 4 K)
 |0,k,hm,hk,K,hK=>by
  have e:k=L.length:=by omega
  subst e
  refine R42 L d _ K (HB.no (by omega) ?_)
  exact wkK.tk (I42 L d _) (by kernel_rfl) (d5 (l6.k (by kernel_rfl)) (d5 (l6.p (g9 _) (by kernel_rfl)) (N0.k (by kernel_rfl)))) hK
 |m+1,k,hm,hk,K,hK=>by
  refine R42 L d k K (HB.yes (by omega) ?_)
  have hlt:k<L.length:=by omega
  with_reducible repeat' first|exact trivial|apply And.intro|apply HB.mk|intro _
  all_goals first|(with_reducible first|exact Le.refl _|rfl|exact c9y ⟨_,_,_,_⟩ ⟨_,_,_,_⟩ _)|(with_reducible refine a7y _ _ ?_ ?_ _)<;>(have hx:=hX.x k hlt;have hy:=hX.y k hlt;omega)|(exact ⟨by omega,by omega⟩)|rw[y6];omega|refine Le.of ?_;simp only[tn,Nat.zero_add,Nat.add_zero];rw[cO hlt]|(with_reducible refine RoundTo.tk 4 (I42 L d (k+1)) ?_ ?_ ?_);kernel_rfl;exact (d5 (l6.k (by kernel_rfl)) (d5 (l6.p (g9 _) (by kernel_rfl)) (N0.k (by kernel_rfl))));exact (L42 L d hL hX m (k+1) (by omega) (by omega) K hK)|exact C2 _ (by omega) (by omega)
def a6q (L:List EN) (d:Int):Cz:={
 ct:=fun _=>none
 lp:=fun r=>match r with|3=>some (fun _ K=>K (.exit 0) (I42 L d L.length))|_=>none,wh:=[66]}
theorem C42 (L:List EN) (d:Int) (hL:L.length<=1024) (hX:GoodX L):f4 prog 42 [.c (.l (.p 0 0))] [(0,⟨[.o 1 L.length,li d],.t 91⟩),(1,⟨o4 L,.r 59 8 1⟩)] 2 (ag [li (U6 L L.length).x0,li (U6 L L.length).y0,li (U6 L L.length).x1,li (U6 L L.length).y1]) [] 0:=by
 refine E3 (q:=let a:=(j9 [li 0,li 0,li 0,li 0] 66);let b:=U6 L L.length;let e:=(ag [li b.x0,li b.y0,li b.x1,li b.y1]);(l3 prog (gl 3 Tryz.f42) (St.mk [(4,i8 0),(3,j7 3 0),(2,j7 2 0),(0,j7 0 0)] [(3,some a),(2,some a),(0,some (j9 [Leaf.o 1 L.length,li d] 91)),(1,some (o8 (o4 L) 59 8 1))] 4 26 [3,2] 2) fun K=>K (Exit.exit 0) (I42 L d L.length))/\0=0/\4=4/\Le e e/\True) (a6q L d) [] func42 (D9 (g9 L) (by kernel_rfl)) (by kernel_rfl) ?_
 with_reducible repeat' first|exact trivial|apply And.intro|apply HB.mk|intro _|exact Le.refl _|rfl
 all_goals first|exact l3.tk (I42 L d 0) (by kernel_rfl) (d5 (l6.k (by kernel_rfl)) (d5 (l6.p (g9 _) (by kernel_rfl)) (N0.k (by kernel_rfl)))) (fun K hT=>L42 L d hL hX _ 0 rfl (by first|decide|omega) K hT)
def a6d (L:List EN) (d:Int) (k:Nat):Cz:={
 ct:=(fun f=>match f with
 |30=>c0d
 |83=>c4e
 |_=>none)
 sym:=[15,16],nf:=[(16,.c (.agg (en (ea L k)))),(19,.c (.agg [li (ea L k).X,li (ea L k).Y])),(20,ag [li (N9 (ea L k).X (ea L k).Y).x0,li (N9 (ea L k).X (ea L k).Y).y0,li (N9 (ea L k).X (ea L k).Y).x1,li (N9 (ea L k).X (ea L k).Y).y1]),(21,ag [li (eM (U6 L k) (N9 (ea L k).X (ea L k).Y)).x0,li (eM (U6 L k) (N9 (ea L k).X (ea L k).Y)).y0,li (eM (U6 L k) (N9 (ea L k).X (ea L k).Y)).x1,li (eM (U6 L k) (N9 (ea L k).X (ea L k).Y)).y1])],wh:=[66,123]}
theorem R26 (L:List EN) (d:Int) (k:Nat)  (K:Exit->St->Prop) (h:let a:=(L.length:Int);let b:=((k:Int));let e:=[li (ea L k).X,li (ea L k).Y];let f:=N9 (ea L k).X (ea L k).Y;let g:=[li f.x0,li f.y0,li f.x1,li f.y1];let i:=U6 L k;let j:=[li i.x0,li i.y0,li i.x1,li i.y1];let m:=eM i f;let n:=[li m.x0,li m.y0,li m.x1,li m.y1];let q:=(11,l4 (Leaf.o 1 L.length));let s:=(0,some (j9 [Leaf.o 1 L.length,li d] 125));let u:=(1,some (o8 (o4 L) 123 8 1));let v:=(2,some (j9 [li 0,li 0,li 0,li 0] 66));HB (decide ((k:Int)<a)) (t0 b L.length/\b.toNat*8+8<=(o4 L).length/\Le (ag (List.take 8 (List.drop (b.toNat*8) (o4 L)))) (ag (en (ea L k)))/\0=0/\8=8/\Le (ag (List.take 2 (en (ea L k)))) (ag e)/\Kd 30 [] [ag e] [] 5 (ag g) [] 0/\Le (ag g) (ag g)/\Kd 83 [] [ag j,ag g] [] 5 (ag n) [] 0/\Le (ag n) (ag n)/\0=0/\4=4/\IntKind.i64.wrap ((k:Int)+1)=(k:Int)+1/\RoundTo prog (gl 4 Tryz.f26) 4 (wkK 4 K) (St.mk [(2,j7 2 0),(3,j7 3 0),q,(12,i8 a),(13,i8 ((k:Int)+1))] [s,u,v,(3,some (j9 n 66))] 5 24 [3,4,4,3,2] 2)) (wkK 4 K (Exit.exit 0) (St.mk [(2,j7 2 0),(3,j7 3 0),q,(12,i8 a),(13,i8 (k:Int))] [s,u,v,(3,some (j9 j 66))] 4 24 [3,2] 2))):z4 prog (gl 4 Tryz.f26) (I26 L d k) (wkK 4 K):=
 m5 [2,3,11,12,13] [0,1,2,3] (cx:=a6d L d k) rfl (u3 (by kernel_rfl) h)
theorem L26 (L:List EN) (d:Int) (hL:L.length<=1024) (hX:GoodX L):∀(m k:Nat),L.length-k=m->k<=L.length->∀(K:Exit->St->Prop),K (.exit 0) (I26 L d L.length)->z4 prog (gl 4 Tryz.f26) (I26 L d k) (wkK 4 K)
 |0,k,hm,hk,K,hK=>by
  have e:k=L.length:=by omega
  subst e
  refine R26 L d _ K (HB.no (by omega) ?_)
  exact wkK.tk (I26 L d _) (by kernel_rfl) (d5 (l6.k (by kernel_rfl)) (d5 (l6.p (g9 _) (by kernel_rfl)) (N0.k (by kernel_rfl)))) hK
 |m+1,k,hm,hk,K,hK=>by
  refine R26 L d k K (HB.yes (by omega) ?_)
  have hlt:k<L.length:=by omega
  with_reducible repeat' first|exact trivial|apply And.intro|apply HB.mk|intro _|exact Le.refl _|rfl
  all_goals first|(with_reducible refine C30 _ _ ?_ ?_ _)<;>(have hx:=hX.x k hlt;have hy:=hX.y k hlt;omega)|with_reducible exact C83 ⟨_,_,_,_⟩ ⟨_,_,_,_⟩ _|(exact ⟨by omega,by omega⟩)|rw[y6];omega|refine Le.of ?_;simp only[tn,Nat.zero_add,Nat.add_zero];rw[bG hlt]|with_reducible exact Le.of (congrArg (fun l=>SV.c (.agg l)) (sP _))|(with_reducible refine RoundTo.tk 5 (I26 L d (k+1)) ?_ ?_ ?_);kernel_rfl;exact (d5 (l6.k (by kernel_rfl)) (d5 (l6.p (g9 _) (by kernel_rfl)) (N0.k (by kernel_rfl))));exact (L26 L d hL hX m (k+1) (by omega) (by omega) K hK)|exact C2 _ (by omega) (by omega)
def b1q (L:List EN) (d:Int):Cz:={
 ct:=fun _=>none
 lp:=fun r=>match r with|4=>some (fun _ K=>K (.exit 0) (I26 L d L.length))|_=>none,wh:=[66]}
theorem C26 (L:List EN) (d:Int) (hL:L.length<=1024) (hX:GoodX L):f4 prog 26 [.c (.l (.p 0 0))] [(0,⟨[.o 1 L.length,li d],.t 125⟩),(1,⟨o4 L,.r 123 8 1⟩)] 2 (ag [li (U6 L L.length).x0,li (U6 L L.length).y0,li (U6 L L.length).x1,li (U6 L L.length).y1]) [] 0:=by
 refine E3 (q:=let a:=(j9 [li 0,li 0,li 0,li 0] 66);let b:=U6 L L.length;let e:=(ag [li b.x0,li b.y0,li b.x1,li b.y1]);(l3 prog (gl 4 Tryz.f26) (St.mk [(13,i8 0),(12,i8 (L.length:Int)),(11,l4 (Leaf.o 1 L.length)),(10,j7 0 0),(9,j7 0 0),(8,j7 0 0),(7,bv true),(6,j7 0 0),(3,j7 3 0),(2,j7 2 0),(0,j7 0 0)] [(3,some a),(2,some a),(0,some (j9 [Leaf.o 1 L.length,li d] 125)),(1,some (o8 (o4 L) 123 8 1))] 4 24 [3,2] 2) fun K=>K (Exit.exit 0) (I26 L d L.length))/\0=0/\4=4/\Le e e/\True) (b1q L d) [] func26 (D9 (g9 L) (by kernel_rfl)) (by kernel_rfl) ?_
 with_reducible repeat' first|exact trivial|apply And.intro|apply HB.mk|intro _|exact Le.refl _|rfl
 all_goals first|exact l3.tk (I26 L d 0) (by kernel_rfl) (d5 (l6.k (by kernel_rfl)) (d5 (l6.p (g9 _) (by kernel_rfl)) (N0.k (by kernel_rfl)))) (fun K hT=>L26 L d hL hX _ 0 rfl (by first|decide|omega) K hT)
theorem xK (L:List EN) (d:Int) (hL:L.length<=1024) (hX:GoodX L) (id i n:Nat) (h1:id<n) (h2:i<n) (h3:id≠i):f4 prog 42 [.c (.l (.p id 0))] [(id,⟨[.o i L.length,li d],.t 91⟩),(i,⟨o4 L,.r 59 8 i⟩)] n (ag [li (U6 L L.length).x0,li (U6 L L.length).y0,li (U6 L L.length).x1,li (U6 L L.length).y1]) [] 0:=by
 have key:=j8.at2 (C42 L d hL hX) id i n h1 h2 h3
 simp only[List.map_cons,List.map_nil,n6.ren,SV.ren,Cp.ren,Leaf.ren,BT.ren,j5 (g9 _)] at key
 exact key
theorem Cc (L:List EN) (d:Int) (hL:L.length<=1024) (hX:GoodX L) (id i n:Nat) (h1:id<n) (h2:i<n) (h3:id≠i):f4 prog 26 [.c (.l (.p id 0))] [(id,⟨[.o i L.length,li d],.t 125⟩),(i,⟨o4 L,.r 123 8 i⟩)] n (ag [li (U6 L L.length).x0,li (U6 L L.length).y0,li (U6 L L.length).x1,li (U6 L L.length).y1]) [] 0:=by
 have key:=j8.at2 (C26 L d hL hX) id i n h1 h2 h3
 simp only[List.map_cons,List.map_nil,n6.ren,SV.ren,Cp.ren,Leaf.ren,BT.ren,j5 (g9 _)] at key
 exact key
def Uw (L:List EN) (d px py:Int) (k:Nat):St:=⟨[(6,iv .i64 (k:Nat)),(0,.c (.l (.p 0 0))),(5,.c (.l (.p 4 0))),(3,.c (.l (.p 2 0))),(4,.c (.l (.p 3 0)))],[(0,some ⟨[.o 1 L.length,li d],.t 91⟩),(1,some ⟨o4 L,.r 59 8 1⟩),(2,some ⟨[li px,li py],.t 40⟩),(3,some ⟨tl zT,.t 38⟩),(4,some ⟨tl (m8 (X8 L px py k)),.t 38⟩)],5,73,[4,3,2],(2)⟩
theorem c7p {L:List EN} {k z:Nat} (hk:k<L.length) (e:z=k*8):SV.c (.l ((o4 L).getD z .u))=.c (.l (li (ea L k).X)):=by
 subst e
 obtain ⟨m,hm⟩:=M1 L k hk
 rw[List.getD_eq_getElem?_getD,show k*8=k*8+0 from rfl,<-List.getElem?_drop,hm];rfl
theorem c9p {L:List EN} {k z:Nat} (hk:k<L.length) (e:z=k*8+1):SV.c (.l ((o4 L).getD z .u))=.c (.l (li (ea L k).Y)):=by
 subst e
 obtain ⟨m,hm⟩:=M1 L k hk
 rw[List.getD_eq_getElem?_getD,<-List.getElem?_drop,hm];rfl
theorem a5u {L:List EN} {k z:Nat} (hk:k<L.length) (e:z=k*8+2):List.take 4 (List.drop z (o4 L))=[ub (ea L k).a,ub (ea L k).b,ub (ea L k).c,ub (ea L k).d]:=by
 subst e
 obtain ⟨m,hm⟩:=M1 L k hk
 rw[<-List.drop_drop,hm];rfl
theorem Vk (t:Nat->UInt8) {q:Nat} (hq:q<64) (a b c d:UInt8):tl (U2 (m8 t) q (N7 d a) (N7 d b) (N7 d c) (N7 d d))=tl (m8 (U2 t q a b c d)):=J4 fun i hi=>by
 have h4:i % 4<4:=Nat.mod_lt _ (by decide)
 have hi':i=4*(i / 4)+i % 4:=by omega
 by_cases e:i / 4=q
 ·unfold m8
  rw[e]
  have s3:U2 t q a b c d (4*q+3)=d:=by unfold U2;rw[if_neg (by omega),if_neg (by omega),if_neg (by omega),if_pos rfl]
  rw[s3]
  unfold U2
  by_cases h0:i=4*q
  ·rw[if_pos h0,if_pos h0]
  ·rw[if_neg h0,if_neg h0]
   by_cases h1:i=4*q+1
   ·rw[if_pos h1,if_pos h1]
   ·rw[if_neg h1,if_neg h1]
    by_cases h2:i=4*q+2
    ·rw[if_pos h2,if_pos h2]
    ·rw[if_neg h2,if_neg h2,if_pos (by omega),if_pos (by omega)]
 ·have n:∀j,j / 4=i / 4->U2 t q a b c d j=t j:=fun j hj=>by
   unfold U2;rw[if_neg (by omega),if_neg (by omega),if_neg (by omega),if_neg (by omega)]
  unfold m8
  rw[n i rfl,n (4*(i / 4)+3) (by omega)]
  unfold U2;rw[if_neg (by omega),if_neg (by omega),if_neg (by omega),if_neg (by omega)]
theorem c4v:tl (m8 zT)=tl zT:=J4 fun i hi=>by unfold m8 zT;rfl
theorem b0j {L:List EN} {px py:Int} {k z:Nat} (h:vP L px py k=true) (e:z=Yh L px py k*4):j4 (tl (m8 (X8 L px py k))) z [ub (N7 (ea L k).d (ea L k).a),ub (N7 (ea L k).d (ea L k).b),ub (N7 (ea L k).d (ea L k).c),ub (N7 (ea L k).d (ea L k).d)]=tl (m8 (X8 L px py (k+1))):=by
 have hi:=tG (show eY _ _=true from h)
 have hq:Yh L px py k<64:=by unfold Yh;omega
 subst e
 rw[eO _ hq,Vk _ hq,X8,h];rfl
def a8r (L:List EN) (d px py:Int) (k:Nat):Cz:={
 ct:=(fun f=>match f with
 |100=>some fun _ _=>fun | [.c (.agg [.v (.int _ a),.v (.int _ b),.v (.int _ c),.v (.int _ e)])]=>some {v:=ag [u8 (F5 e a),u8 (F5 e b),u8 (F5 e c),u8 (F5 e e)]}|_=>none
 |_=>none)
 sym:=[0,23,24,25,26,36,37,38,39,67,68,69,71],nf:=[(26,iv .i64 (ea L k).X),(39,iv .i64 (ea L k).Y),(57,bv (vP L px py k)),(69,ag [ub (ea L k).a,ub (ea L k).b,ub (ea L k).c,ub (ea L k).d]),(70,ag [ub (N7 (ea L k).d (ea L k).a),ub (N7 (ea L k).d (ea L k).b),ub (N7 (ea L k).d (ea L k).c),ub (N7 (ea L k).d (ea L k).d)])]}
theorem R41 (L:List EN) (d px py:Int) (k:Nat)  (K:Exit->St->Prop) (h:let e:=((k:Int));let f:=(ea L k).X-8*px;let g:=(ea L k).Y-8*py;let i:=(ea L k).X-8*px>=0;let j:=(ea L k).X-8*px<8;let m:=bif decide i then decide j else false;let n:=(ea L k).Y-8*py>=0;let q:=bif bif decide i then decide j else false then decide n else false;let s:=8*g+f;let w:=((ea L k).a.toNat:Int);let x:=((ea L k).b.toNat:Int);let y:=((ea L k).c.toNat:Int);let z:=((ea L k).d.toNat:Int);let A:=[l8 w,l8 x,l8 y,l8 z];let B:=(ag [l8 (F5 z w),l8 (F5 z x),l8 (F5 z y),l8 (F5 z z)]);let C:=[l8 (Nat.cast ((N7 (ea L k).d (ea L k).a).toNat):Int),l8 (Nat.cast ((N7 (ea L k).d (ea L k).b).toNat):Int),l8 (Nat.cast ((N7 (ea L k).d (ea L k).c).toNat):Int),l8 (Nat.cast ((N7 (ea L k).d (ea L k).d).toNat):Int)];let D:=((k:Int)+1);let E:=(A2 3 (Tryz.f41.body.getD Code.skip)).getD Code.skip;let G:=[(0,j7 0 0),(3,j7 2 0),(4,j7 3 0),(5,j7 4 0),(6,i8 D)];let H:=(0,some (j9 [Leaf.o 1 L.length,li d] 91));let I:=(1,some (o8 (o4 L) 59 8 1));let J:=(2,some (j9 [li px,li py] 40));let M:=(3,some (j9 (tl zT) 38));let N:=tl (m8 (X8 L px py k));let O:=[H,I,J,M,(4,some (j9 N 38))];HB (decide ((k:Int)<(L.length:Int))) (t0 e L.length/\e.toNat*8+0+0<(o4 L).length/\Le (l4 ((o4 L).getD (e.toNat*8+0+0) Leaf.u)) (i8 (ea L k).X)/\IntKind.i64.wrap (8*px)=8*px/\IntKind.i64.wrap f=(ea L k).X-8*px/\t0 e L.length/\e.toNat*8+0+1<(o4 L).length/\Le (l4 ((o4 L).getD (e.toNat*8+0+1) Leaf.u)) (i8 (ea L k).Y)/\IntKind.i64.wrap (8*py)=8*py/\IntKind.i64.wrap g=(ea L k).Y-8*py/\(decide i=true->decide i=true/\True)/\(decide i=true->decide i=true)/\(m=true->m=true/\True)/\(m=true->m=true)/\(q=true->q=true/\True)/\(q=true->q=true)/\Le (bv (bif bif bif decide i then decide j else false then decide n else false then decide ((ea L k).Y-8*py<8) else false)) (bv (vP L px py k))/\HB (vP L px py k) (IntKind.i64.wrap (8*g)=8*g/\IntKind.i64.wrap s=8*g+f/\t0 e L.length/\e.toNat*8+2+4<=(o4 L).length/\Le (ag (List.take 4 (List.drop (e.toNat*8+2) (o4 L)))) (ag A)/\Kd 100 [] [ag A] [] 5 B [] 0/\Le B (ag C)/\t0 s 64/\0+s.toNat*4+4<=256/\IntKind.i64.wrap D=(k:Int)+1/\RoundTo prog E 5 (wkK 5 K) (St.mk G [H,I,J,M,(4,some (j9 (j4 N (0+s.toNat*4) C) 38))] 5 73 [4,4,3,2] 2)) (IntKind.i64.wrap D=(k:Int)+1/\RoundTo prog E 5 (wkK 5 K) (St.mk G O 5 73 [4,3,2] 2))) (wkK 5 K (Exit.exit 0) (St.mk [(0,j7 0 0),(3,j7 2 0),(4,j7 3 0),(5,j7 4 0),(6,i8 (k:Int))] O 5 73 [4,3,2] 2))):z4 prog (gl 3 Tryz.f41) (Uw L d px py k) (wkK 5 K):=
 m5 [0,3,4,5,6] [0,1,2,3,4] (cx:=a8r L d px py k) rfl (u3 (by kernel_rfl) h)
theorem L41 (L:List EN) (d px py:Int) (hL:L.length<=1024) (hX:GoodX L) (hx : -1000000<=px/\px<=1000000) (hy : -1000000<=py/\py<=1000000):∀(m k:Nat),L.length-k=m->k<=L.length->∀(K:Exit->St->Prop),K (.exit 0) (Uw L d px py L.length)->z4 prog (gl 3 Tryz.f41) (Uw L d px py k) (wkK 5 K)
 |0,k,hm,hk,K,hK=>by
  have e:k=L.length:=by omega
  subst e
  refine R41 L d px py _ K (HB.no (by omega) ?_)
  exact wkK.tk (Uw L d px py _) (by kernel_rfl) (d5 (l6.k (by kernel_rfl)) (d5 (l6.p (g9 _) (by kernel_rfl)) (d5 (l6.k (by kernel_rfl)) (d5 (l6.p (j3 _) (by kernel_rfl)) (d5 (l6.p (j3 _) (by kernel_rfl)) trivial))))) hK
 |m+1,k,hm,hk,K,hK=>by
  refine R41 L d px py k K (HB.yes (by omega) ?_)
  have hlt:k<L.length:=by omega
  have gx:=hX.x k hlt
  have gy:=hX.y k hlt
  with_reducible repeat' first|exact trivial|apply And.intro|apply HB.mk|intro _
  all_goals first|(with_reducible first|assumption|exact a1t _ _ _ _ _)|(exact ⟨by omega,by omega⟩)|(have hi:=tG (show eY _ _=true from (by with_reducible assumption:vP L px py k=true));exact ⟨by omega,by omega⟩)|have hi:=tG (show eY _ _=true from (by with_reducible assumption:vP L px py k=true));omega|rw[y6];omega|(with_reducible refine Le.of (c7p hlt ?_))<;>omega|(with_reducible refine Le.of (c9p hlt ?_))<;>omega|(with_reducible first|exact Le.bool (Qd _ _ _ _)|exact Le.of (a5w _ _ _ _))|(refine Le.of (congrArg (fun l=>SV.c (.agg l)) (a5u hlt ?_)))<;>omega|exact C2 _ (by omega) (by omega)|have hcnd:vP L px py k=false:=(by with_reducible assumption);(with_reducible refine RoundTo.tk 5 (Uw L d px py (k+1)) ?_ ?_ ?_);kernel_rfl;exact (d5 (l6.k (by kernel_rfl)) (d5 (l6.p (g9 _) (by kernel_rfl)) (d5 (l6.k (by kernel_rfl)) (d5 (l6.p (j3 _) (by kernel_rfl)) (d5 (l6.plain (cs:=tl (m8 (X8 L px py k))) (b:=.t 38) (by kernel_rfl) (by rw[c0h hcnd]) (j3 _) (by kernel_rfl)) trivial)))));exact (L41 L d px py hL hX hx hy m (k+1) (by omega) (by omega) K hK)|have hcnd:vP L px py k=true:=(by with_reducible assumption);(with_reducible refine RoundTo.tk 5 (Uw L d px py (k+1)) ?_ ?_ ?_);kernel_rfl;exact (d5 (l6.k (by kernel_rfl)) (d5 (l6.p (g9 _) (by kernel_rfl)) (d5 (l6.k (by kernel_rfl)) (d5 (l6.p (j3 _) (by kernel_rfl)) (d5 (l6.plain (cs:=j4 (tl (m8 (X8 L px py k))) (0+(8*((ea L k).Y-8*py)+((ea L k).X-8*px)).toNat*4) [ub (N7 (ea L k).d (ea L k).a),ub (N7 (ea L k).d (ea L k).b),ub (N7 (ea L k).d (ea L k).c),ub (N7 (ea L k).d (ea L k).d)]) (b:=.t 38) (by kernel_rfl) (b0j hcnd (by unfold Yh;omega)) (j3 _) (by kernel_rfl)) trivial)))));exact (L41 L d px py hL hX hx hy m (k+1) (by omega) (by omega) K hK)
def a7b (L:List EN) (d px py:Int):Cz:={
 ct:=fun _=>none
 nf:=[(72,.c (.agg (tl (m8 (X8 L px py L.length)))))],lp:=fun r=>match r with|3=>some (fun _ K=>K (.exit 0) (Uw L d px py L.length))|_=>none,wh:=[38,40]}
theorem C41 (L:List EN) (d px py:Int) (hL:L.length<=1024) (hX:GoodX L) (hx : -1000000<=px/\px<=1000000) (hy : -1000000<=py/\py<=1000000):f4 prog 41 [.c (.l (.p 0 0)),ag [li px,li py]] [(0,⟨[.o 1 L.length,li d],.t 91⟩),(1,⟨o4 L,.r 59 8 1⟩)] 2 (.c (.agg (tl (m8 (X8 L px py L.length))))) [] 0:=by
 refine E3 (q:=let a:=tl (m8 (X8 L px py L.length));(l3 prog (gl 3 Tryz.f41) (St.mk [(6,i8 0),(5,j7 4 0),(4,j7 3 0),(3,j7 2 0),(0,j7 0 0),(1,ag [li px,li py])] [(4,some (j9 o7 38)),(3,some (j9 o7 38)),(2,some (j9 [li px,li py] 40)),(0,some (j9 [Leaf.o 1 L.length,li d] 91)),(1,some (o8 (o4 L) 59 8 1))] 5 73 [4,3,2] 2) fun K=>K (Exit.exit 0) (Uw L d px py L.length))/\Le (ag (List.take 256 a)) (ag a)/\0=0/\256=256/\Le (ag a) (ag a)/\True) (a7b L d px py) [] func41 (D9 (g9 L) (by kernel_rfl)) (by kernel_rfl) ?_
 with_reducible repeat' first|exact trivial|apply And.intro|apply HB.mk|intro _|exact Le.refl _|rfl
 all_goals first|exact l3.tk (Uw L d px py 0) (by kernel_rfl) (d5 (l6.k (by kernel_rfl)) (d5 (l6.p (g9 _) (by kernel_rfl)) (d5 (l6.k (by kernel_rfl)) (d5 (l6.plain (cs:=o7) (b:=.t 38) (by kernel_rfl) (q9) (j3 _) (by kernel_rfl)) (d5 (l6.plain (cs:=o7) (b:=.t 38) (by kernel_rfl) (q9.trans c4v.symm) (j3 _) (by kernel_rfl)) trivial))))) (fun K hT=>L41 L d px py hL hX hx hy _ 0 rfl (by first|decide|omega) K hT)|with_reducible exact Le.of (congrArg (fun l=>SV.c (.agg l)) (t7 _))
theorem tE (L:List EN) (d px py:Int) (hL:L.length<=1024) (hX:GoodX L) (hx : -1000000<=px/\px<=1000000) (hy : -1000000<=py/\py<=1000000) (id i n:Nat) (h1:id<n) (h2:i<n) (h3:id≠i):f4 prog 41 [.c (.l (.p id 0)),ag [li px,li py]] [(id,⟨[.o i L.length,li d],.t 91⟩),(i,⟨o4 L,.r 59 8 i⟩)] n (.c (.agg (tl (m8 (X8 L px py L.length))))) [] 0:=by
 have key:=j8.at2 (C41 L d px py hL hX hx hy) id i n h1 h2 h3
 simp only[List.map_cons,List.map_nil,n6.ren,SV.ren,Cp.ren,Leaf.ren,BT.ren,j5 (g9 _),j5 (j3 _)] at key
 exact key
end Ab
end
section
namespace Oct
theorem jZ (w:World):Calls prog 46 #[.agg #[.slice none 0 0]] w fun e w'=>e=.returned (.bool true)/\n7 w w':=by
 go_enter func46,ntmps46
 go_wp2
 refine wp_loop_rounds 1 ?_
 rw[rounds_succ]
 go_wp2
 go_ret
 exact ⟨rfl,(Below.refl _ _).alloc (Nat.le_refl _) _⟩
def a3z:ByteArray:=⟨#[71,1,1,0,210,2,239,141]⟩
theorem HB.nil {b:Nat} {w:World} (h:w.heap[b]? = some (.cells #[.pointer none,.slice none 0 0] 101 (0,0))):HB b [] w:=
 ⟨_,_,h,.inl rfl,World.ownsRow_nil _ _ _ _,fun _=>rfl⟩
theorem c7w:(⟨(Fo ⟨#[0]⟩).toArray⟩:ByteArray)=⟨#[1,0]⟩:=by decide +kernel
theorem d2d:((M.sum (⟨#[0]⟩:ByteArray).data.toList:Nat):Int)=3523407757:=by decide +kernel
theorem c8t:(⟨(M.be (sz 4) (Q7 3523407757)).toArray⟩:ByteArray)=⟨#[210,2,239,141]⟩:=by decide +kernel
abbrev BO:Obj:=.cells #[.pointer none,.slice none 0 0] 101
theorem d0f:(⟨(M.R2 (Q7 0)).toArray⟩:ByteArray)=⟨#[0]⟩:=by decide +kernel
theorem Cs (w:World):Calls prog 12 #[.agg #[.slice none 0 0]] w fun e w'=>e=.returned (.tuple #[.string a3z,.int .i64 0])/\Below w.heap.size w w':=by
 go_enter func12,ntmps12
 go_wp2_with fail
 refine (jZ _).mono ?_
 rintro e w1 ⟨rfl,g1⟩
 have r1:w1.heap[w.heap.size]? = some (.cells #[.slice none 0 0] 26 (0,0)):=g1.block (heap_alloc_new _ _)
 have b1:Below w.heap.size w w1:=((Below.refl _ w).alloc (Nat.le_refl _) _).trans (Below.mono g1 (by simp))
 have lt1:w.heap.size<w1.heap.size:=(Array.getElem?_eq_some_iff.1 r1).1
 have r2:((w1.alloc BO).alloc BO).heap[w.heap.size]? = some (.cells #[.slice none 0 0] 26 (0,0)):=by
  rw[Below.heap_alloc _ _ _ (by simp;omega),Below.heap_alloc _ _ _ lt1];exact r1
 have c2:((w1.alloc BO).alloc BO).cell? ⟨w.heap.size,0,none⟩=some (.slice none 0 0):=by rw[cell_of_row _ _ 0 _ _ _ r2];rfl
 have p1:((w1.alloc BO).alloc BO).heap[w1.heap.size]? = some BO:=heap_alloc2_old _ _ _
 have p2:((w1.alloc BO).alloc BO).heap[w1.heap.size+1]? = some BO:=heap_alloc2_new _ _ _
 have b2:Below w.heap.size w ((w1.alloc BO).alloc BO):=(b1.alloc (Nat.le_of_lt lt1) _).alloc (by simp;omega) _
 have sz2:((w1.alloc BO).alloc BO).heap.size=w1.heap.size+2:=by simp
 replace r2:=Lib.hid r2
 replace p1:=Lib.hid p1
 replace p2:=Lib.hid p2
 replace b2:=Lib.hid b2
 replace sz2:=Lib.hid sz2
 clear g1 r1 b1
 go_wp2_with fail
 generalize ((w1.alloc BO).alloc BO)=W at *
 clear c2
 refine (Gh _ _).mono ?_
 rintro e w2 ⟨rfl,g2⟩
 rw[d0f]
 have hz:=sz2.out
 have r3:w2.heap[w.heap.size]? = some (.cells #[.slice none 0 0] 26 (0,0)):=(g2.block _ (by omega)).trans r2.out
 have p3:w2.heap[w1.heap.size]? = some BO:=(g2.block _ (by omega)).trans p1.out
 have p4:w2.heap[w1.heap.size+1]? = some BO:=(g2.block _ (by omega)).trans p2.out
 have b3:Below w.heap.size w w2:=b2.out.trans (Below.mono g2 (by omega))
 have sz3:w1.heap.size+2<=w2.heap.size:=by have:=g2.size;omega
 clear r2 p1 p2 b2 sz2 g2 hz
 replace r3:=Lib.hid r3
 replace p3:=Lib.hid p3
 replace p4:=Lib.hid p4
 replace b3:=Lib.hid b3
 replace sz3:=Lib.hid sz3
 go_wp2_with fail
 refine (d1v _ [] _ _ (HB.nil p3.out) (by decide)).mono ?_
 rintro e w3 ⟨rfl,hB,g3,k3⟩
 have r4:w3.heap[w.heap.size]? = some (.cells #[.slice none 0 0] 26 (0,0)):=(k3 _ _ _ _ r3.out (by decide) (by omega)).trans r3.out
 have p5:w3.heap[w1.heap.size+1]? = some BO:=(k3 _ _ _ _ p4.out (by decide) (by omega)).trans p4.out
 have b4:Below w.heap.size w w3:=b3.out.trans (Below.mono g3 (by omega))
 have c4:w3.cell? ⟨w.heap.size,0,none⟩=some (.slice none 0 0):=by rw[cell_of_row _ _ 0 _ _ _ r4];rfl
 clear r3 p3 p4 b3 g3 k3 r4 sz3
 replace hB:=Lib.hid hB
 replace p5:=Lib.hid p5
 replace b4:=Lib.hid b4
 go_wp2_with fail
 refine wp_loop_rounds 1 ?_
 rw[rounds_succ]
 go_wp2_with fail
 refine (fX _ _ _ hB.out.hf).mono ?_
 rintro e w4 ⟨rfl,hF,g4,k4⟩
 have p6:w4.heap[w1.heap.size+1]? = some BO:=(k4 _ _ _ _ p5.out (by decide) (by omega)).trans p5.out
 have b5:Below w.heap.size w w4:=b4.out.trans (Below.mono g4 (by omega))
 clear c4 hB p5 b4 hF g4 k4
 replace p6:=Lib.hid p6
 replace b5:=Lib.hid b5
 go_wp2_with fail
 refine (Pp _ _ (by decide)).mono ?_
 rintro e w5 ⟨rfl,g5⟩
 rw[c7w]
 have p7:w5.heap[w1.heap.size+1]? = some BO:=(g5.block _ (Array.getElem?_eq_some_iff.1 p6.out).1).trans p6.out
 have b6:Below w.heap.size w w5:=b5.out.trans (Below.mono g5 b5.out.size)
 clear p6 b5 g5
 replace p7:=Lib.hid p7
 replace b6:=Lib.hid b6
 go_wp2_with fail
 refine (Et _ _ (by decide)).mono ?_
 rintro e w6 ⟨rfl,g6⟩
 rw[d2d]
 have p8:w6.heap[w1.heap.size+1]? = some BO:=(g6.block _ (Array.getElem?_eq_some_iff.1 p7.out).1).trans p7.out
 have b7:Below w.heap.size w w6:=b6.out.trans (Below.mono g6 b6.out.size)
 clear p7 b6 g6
 replace p8:=Lib.hid p8
 replace b7:=Lib.hid b7
 go_wp2_with fail
 refine (a3i _ _ _).mono ?_
 rintro e w7 ⟨rfl,g7⟩
 rw[c8t]
 have p9:w7.heap[w1.heap.size+1]? = some BO:=(g7.block _ (Array.getElem?_eq_some_iff.1 p8.out).1).trans p8.out
 have b8:Below w.heap.size w w7:=b7.out.trans (Below.mono g7 b7.out.size)
 clear p8 b7 g7
 replace p9:=Lib.hid p9
 replace b8:=Lib.hid b8
 go_wp2_with fail
 refine (fX _ _ _ (HB.nil p9.out).hf).mono ?_
 rintro e w8 ⟨rfl,hF,g8,k8⟩
 have b9:Below w.heap.size w w8:=b8.out.trans (Below.mono g8 (by omega))
 clear p9 b8 hF g8 k8
 replace b9:=Lib.hid b9
 go_wp2
 go_ret2
 exact ⟨rfl,b9.out⟩
end Oct
end
section
namespace Ab
attribute [local irreducible] j8
attribute [local irreducible] tl n8
theorem a9j (n:Nat):f4 prog 46 [ag [.v (.slice none 0 0)]] [] n (bv true) [] 0:=
 B9 vZ (vals:=[.agg #[.slice none 0 0]]) (y:=.bool true) rfl rfl n fun x=>(Oct.jZ x)
def a4i:Cz:={
 ct:=(fun f=>match f with
 |46=>some fun _ _=>fun | [.c (.agg [.v (.slice none _ _)])]=>some {v:=bv true}|_=>none
 |_=>none)
 wh:=[26]}
theorem d1n   (n:Nat):f4 prog 87 [ag [.v (.slice none 0 0)]] [] n (.c (.l (.v (.slice none 0 0)))) [] 0:=by
 refine v6 (q:=let a:=Value.slice none 0 0;let b:=l4 (Leaf.v a);Kd 46 [] [ag [Leaf.v a]] [] 1 (bv true) [] 0/\Le b b/\True) (a4i) func87 n (by kernel_rfl) (by kernel_rfl) ?_
 with_reducible repeat' first|exact trivial|apply And.intro|apply HB.mk|intro _
 all_goals first|(with_reducible first|exact Le.refl _|exact a9j _)
def a1r (c:R4):Cz:={
 ct:=fun _=>none
 un:=2}
theorem d1u (c:R4)  : f4 prog 88 [.c (.l (.v (.slice none 0 0))),.c (.l (.f 89 [(0,0)]))] [(0,⟨[li c.x0,li c.y0,li c.x1,li c.y1],.t 66⟩)] 1 (.c (.l (.v (.slice none 0 0)))) [] 0:=by
 refine E3 (q:=let a:=l4 (Leaf.v (Value.slice none 0 0));Le a a/\True) (a1r c) [] func88 (by kernel_rfl) (by kernel_rfl) ?_
 with_reducible repeat' first|exact trivial|apply And.intro|apply HB.mk|intro _
 all_goals first|with_reducible exact Le.refl _
theorem b7f (c:R4) (id n:Nat) (hi:id<n):f4 prog 88 [.c (.l (.v (.slice none 0 0))),.c (.l (.f 89 [(id,0)]))] [(id,⟨[li c.x0,li c.y0,li c.x1,li c.y1],.t 66⟩)] n (.c (.l (.v (.slice none 0 0)))) [] 0:=f4.at1 (d1u c) id n hi
def Zi (c:R4):Cz:={
 ct:=(fun f=>match f with
 |87=>some fun _ _=>fun | [.c (.agg [.v (.slice none _ _)])]=>some {v:=.c (.l (.v (.slice none 0 0)))}|_=>none
 |88=>some fun _ _=>fun | [_,.c (.l (.f _ [(q,_)]))]=>some {v:=.c (.l (.v (.slice none 0 0))),rd:=[q]}|_=>none
 |_=>none)
 wh:=[26,66]}
theorem d2f (c:R4)  (n:Nat):f4 prog 32 [ag [.v (.slice none 0 0)],ag [li c.x0,li c.y0,li c.x1,li c.y1]] [] n (ag [.v (.slice none 0 0)]) [] 0:=by
 refine v6 (q:=let a:=Value.slice none 0 0;let b:=l4 (Leaf.v a);Kd 87 [] [ag [Leaf.v a]] [] 3 b [] 0/\Kd 88 [] [l4 (Leaf.v a),l4 (Leaf.f 89 [(1,0)])] [(1,j9 [li c.x0,li c.y0,li c.x1,li c.y1] 66)] 3 b [] 0/\0=0/\1=1/\Le (ag [Leaf.v a]) (ag [Leaf.v a])/\True) (Zi c) func32 n (by kernel_rfl) (by kernel_rfl) ?_
 with_reducible repeat' first|exact trivial|apply And.intro|apply HB.mk|intro _
 all_goals first|(with_reducible first|exact Le.refl _|rfl|exact d1n _|exact b7f c _ _ (by omega))
def Ze:Cz:={
 ct:=fun _=>none
 un:=2,wh:=[26]}
theorem d1p   (n:Nat):f4 prog 56 [ag [.v (.slice none 0 0)]] [] n (bv true) [] 0:=by
 refine v6 (q:=Le (bv true) (bv true)/\True) (Ze) func56 n (by kernel_rfl) (by kernel_rfl) ?_
 with_reducible repeat' first|exact trivial|apply And.intro|apply HB.mk|intro _
 all_goals first|with_reducible exact Le.refl _
def a0g:Cz:={
 ct:=(fun f=>match f with
 |56=>some fun _ _=>fun | [_]=>some {v:=bv true}|_=>none
 |_=>none)
 wh:=[26]}
theorem c8y   (n:Nat):f4 prog 99 [ag [.v (.slice none 0 0)]] [] n (ag [.v (.slice none 0 0)]) [] 0:=by
 refine v6 (q:=let a:=[Leaf.v (Value.slice none 0 0)];Kd 56 [] [ag a] [] 2 (bv true) [] 0/\0=0/\1=1/\Le (ag a) (ag a)/\True) (a0g) func99 n (by kernel_rfl) (by kernel_rfl) ?_
 with_reducible repeat' first|exact trivial|apply And.intro|apply HB.mk|intro _
 all_goals first|(with_reducible first|exact Le.refl _|rfl|exact d1p _)
theorem b9r:j6 prog 98:=fun args w=>by go_simp
def Vy:Cz:={
 ct:=fun _=>none
 un:=2,wh:=[26]}
theorem d1d   (n:Nat):f4 prog 98 [ag [.v (.slice none 0 0)],ag [.v (.slice none 0 0)]] [] n (bv true) [] 0:=by
 refine v6 (q:=Le (bv true) (bv true)/\True) (Vy) func98 n (by kernel_rfl) (by kernel_rfl) ?_
 with_reducible repeat' first|exact trivial|apply And.intro|apply HB.mk|intro _
 all_goals first|with_reducible exact Le.refl _
def Ui:Cz:={
 ct:=(fun f=>match f with
 |98=>some fun _ _=>fun | [_,_]=>some {v:=bv true}|_=>none
 |99=>some fun _ _=>fun | [_]=>some {v:=ag [.v (.slice none 0 0)]}|_=>none
 |_=>none)
 wh:=[26]}
theorem d0b   (n:Nat):f4 prog 40 [ag [.v (.slice none 0 0)],ag [.v (.slice none 0 0)]] [] n (bv true) [] 0:=by
 refine v6 (q:=let a:=[Leaf.v (Value.slice none 0 0)];let b:=bv true;Kd 99 [] [ag a] [] 2 (ag a) [] 0/\Kd 99 [] [ag a] [] 2 (ag a) [] 0/\Kd 98 [] [ag a,ag a] [] 2 b [] 0/\Le b b/\True) (Ui) func40 n (by kernel_rfl) (by kernel_rfl) ?_
 with_reducible repeat' first|exact trivial|apply And.intro|apply HB.mk|intro _
 all_goals first|(with_reducible first|exact Le.refl _|exact d1d _|exact c8y _)
def I98 (l:List TA) (k:Nat):St:=⟨[(5,iv .i64 (k:Nat)),(3,.c (.l (.p 3 0))),(2,.c (.l (.p 2 0)))],[(0,some ⟨n8 l,.r 42 258 0⟩),(1,some ⟨n8 l,.r 42 258 1⟩),(2,some ⟨[.o 0 l.length],.t 26⟩),(3,some ⟨[.o 1 l.length],.t 26⟩)],4,31,[3,2],(2)⟩
theorem Je (e:TA):(!Dp e e)=false:=by
 unfold Dp
 rw[decide_eq_true rfl,decide_eq_true rfl,(B1 _ _).2 fun i _=>rfl];rfl
theorem Zl (n:Nat):(((n:Nat):Int) != ((n:Nat):Int))=false:=by simp
def b0g (l:List TA) (k:Nat):Cz:={
 ct:=fun _=>none
 eq:=(fun t=>match t with
 |42=>some (fun _ _=>Dp (r8 l k) (r8 l k))
 |_=>none)
 sym:=[23,24,28,29],nf:=[(24,.c (.agg (el (r8 l k)))),(29,.c (.agg (el (r8 l k)))),(30,bv false)]}
theorem R98 (l:List TA) (k:Nat)  (K:Exit->St->Prop) (h:let a:=((k:Int));let b:=ag (List.take 258 (List.drop (a.toNat*258) (n8 l)));let d:=r8 l k;let e:=[(0,some (o8 (n8 l) 42 258 0)),(1,some (o8 (n8 l) 42 258 1)),(2,some (j9 [Leaf.o 0 l.length] 26)),(3,some (j9 [Leaf.o 1 l.length] 26))];HB (decide ((k:Int)<(l.length:Int))) (t0 a l.length/\a.toNat*258+258<=(n8 l).length/\Le b (ag (el d))/\t0 a l.length/\a.toNat*258+258<=(n8 l).length/\Le b (ag (el d))/\H4 prog 42 (el d) (el d) (Dp d d)/\Le (bv !Dp d d) (bv false)/\IntKind.i64.wrap ((k:Int)+1)=(k:Int)+1/\RoundTo prog (gl 4 Tryz.f98) 4 (wkK 4 K) (St.mk [(2,j7 2 0),(3,j7 3 0),(5,i8 ((k:Int)+1))] e 4 31 [3,2] 2)) (wkK 4 K (Exit.exit 0) (St.mk [(2,j7 2 0),(3,j7 3 0),(5,i8 (k:Int))] e 4 31 [3,2] 2))):z4 prog (gl 4 Tryz.f98) (I98 l k) (wkK 4 K):=
 m5 [2,3,5] [0,1,2,3] (cx:=b0g l k) rfl (u3 (by kernel_rfl) h)
set_option maxRecDepth 100000 in
set_option maxHeartbeats 4000000 in
theorem L98 (l:List TA) (gl:Good l):∀(m k:Nat),l.length-k=m->k<=l.length->∀(K:Exit->St->Prop),K (.exit 0) (I98 l l.length)->z4 prog ((A2 4 (Tryz.f98.body.getD .skip)).getD .skip) (I98 l k) (wkK 4 K)
 |0,k,hm,hk,K,hK=>by
  have e:k=l.length:=by omega
  subst e
  refine R98 l _ K (HB.mk (fun hne=>absurd (of_decide_eq_true hne) (by omega)) (fun he=>?_))
  exact wkK.to (I98 l _) (Nat.le_refl _) (by kernel_rfl) (q7 (J7.sl (by kernel_rfl) rfl) (q7 (J7.sl (by kernel_rfl) rfl) (q7 (J7.sl (by kernel_rfl) rfl) trivial))) (d5 (l6.plain (cs:=n8 l) (b:=.r 42 258 0) (by kernel_rfl) (rfl) (i9 _) (by kernel_rfl)) (d5 (l6.plain (cs:=n8 l) (b:=.r 42 258 1) (by kernel_rfl) (rfl) (i9 _) (by kernel_rfl)) (d5 (l6.blk (k:=⟨[.o 0 l.length],.t 26⟩) (by kernel_rfl) (rfl) (by kernel_rfl)) (d5 (l6.blk (k:=⟨[.o 1 l.length],.t 26⟩) (by kernel_rfl) (rfl) (by kernel_rfl)) trivial)))) hK
 |m+1,k,hm,hk,K,hK=>by
  refine R98 l k K (HB.mk (fun hne=>?_) (fun he=>absurd (show ((k:Nat):Int)<(l.length:Nat) by omega) (of_decide_eq_false he)))
  have hlt:k<l.length:=by omega
  have h4:=gl.len
  repeat' (first|exact trivial|with_reducible apply And.intro|(with_reducible apply HB.mk)|with_reducible intro _)
  all_goals first
   |(exact ⟨by omega,by omega⟩)
   |((rw[C6,tn];omega))
   |((refine Le.of ?_;simp only[tn,Nat.zero_add,Nat.add_zero];rw[iY hlt]))
   |(exact d0n (lG gl k hlt) (lG gl k hlt))
   |(with_reducible exact Le.bool (Je _))
   |((with_reducible refine RoundTo.toN 4 (I98 l (k+1)) ?_ ?_ ?_ ?_ ?_);exact Nat.le_refl _;kernel_rfl;exact (q7 (J7.sl (by kernel_rfl) rfl) (q7 (J7.sl (by kernel_rfl) rfl) (q7 (J7.sl (by kernel_rfl) rfl) trivial)));exact (d5 (l6.plain (cs:=n8 l) (b:=.r 42 258 0) (by kernel_rfl) (rfl) (i9 _) (by kernel_rfl)) (d5 (l6.plain (cs:=n8 l) (b:=.r 42 258 1) (by kernel_rfl) (rfl) (i9 _) (by kernel_rfl)) (d5 (l6.blk (k:=⟨[.o 0 l.length],.t 26⟩) (by kernel_rfl) (rfl) (by kernel_rfl)) (d5 (l6.blk (k:=⟨[.o 1 l.length],.t 26⟩) (by kernel_rfl) (rfl) (by kernel_rfl)) trivial))));exact (L98 l gl m (k+1) (by omega) (by omega) K hK))
   |(exact C2 _ (by omega) (by omega))
def b3w (l:List TA):Cz:={
 ct:=fun _=>none
 nf:=[(12,bv false)],lp:=fun r=>match r with|4=>some (fun _ K=>K (.exit 0) (I98 l l.length))|_=>none,wh:=[26]}
set_option maxRecDepth 100000 in
set_option maxHeartbeats 400000 in
theorem C98 (l:List TA) (gl:Good l):f4 prog 98 [.c (.agg [.o 0 l.length]),.c (.agg [.o 1 l.length])] [(0,⟨n8 l,.r 42 258 0⟩),(1,⟨n8 l,.r 42 258 1⟩)] 2 (bv true) [] 0:=by
 refine lY (cx:=b3w l) (nm:=[]) rfl func98 (body:=Tryz.f98.body.getD .skip) rfl b9r (by unfold Q8;simp only[List.all_cons,List.all_nil,kD (i9 l) (show (BT.rn (x8 2 0 []) (.r 42 258 0)).isSome=true from rfl),kD (i9 l) (show (BT.rn (x8 2 0 []) (.r 42 258 1)).isSome=true from rfl),Bool.and_true,Bool.true_and];kernel_rfl) ?_
 apply u3 (q:=Le (bv ((Nat.cast l.length:Int) != (Nat.cast l.length:Int))) (bv false)/\(l3 prog ((A2 4 (Tryz.f98.body.getD .skip)).getD .skip) (St.mk [(5,iv IntKind.i64 0),(12,bv false),(11,iv IntKind.i64 (Nat.cast l.length:Int)),(10,SV.c (Cp.l (Leaf.o 1 l.length))),(9,SV.c (Cp.l (Leaf.p 3 0))),(8,iv IntKind.i64 (Nat.cast l.length:Int)),(7,SV.c (Cp.l (Leaf.o 0 l.length))),(6,SV.c (Cp.l (Leaf.p 2 0))),(4,bv false),(3,SV.c (Cp.l (Leaf.p 3 0))),(2,SV.c (Cp.l (Leaf.p 2 0))),(0,ag [Leaf.o 0 l.length]),(1,ag [Leaf.o 1 l.length])] [(3,some (n6.mk [Leaf.o 1 l.length] (BT.t 26))),(2,some (n6.mk [Leaf.o 0 l.length] (BT.t 26))),(0,some (n6.mk (n8 l) (BT.r 42 258 0))),(1,some (n6.mk (n8 l) (BT.r 42 258 1)))] 4 31 [3,2] 2) fun K=>K (Exit.exit 0) (I98 l l.length))/\Le (bv true) (bv true)/\True) (by kernel_rfl)
 repeat' (first|exact trivial|with_reducible apply And.intro|(with_reducible apply HB.mk)|with_reducible intro _)
 all_goals first
  |(with_reducible exact Le.refl _)
  |(exact l3.mk (I98 l 0) rfl (by kernel_rfl) (q7 (J7.sl (by kernel_rfl) rfl) (q7 (J7.sl (by kernel_rfl) rfl) (q7 (J7.sl (by kernel_rfl) rfl) trivial))) (d5 (l6.plain (cs:=n8 l) (b:=.r 42 258 0) (by kernel_rfl) (rfl) (i9 _) (by kernel_rfl)) (d5 (l6.plain (cs:=n8 l) (b:=.r 42 258 1) (by kernel_rfl) (rfl) (i9 _) (by kernel_rfl)) (d5 (l6.blk (k:=⟨[.o 0 l.length],.t 26⟩) (by kernel_rfl) (rfl) (by kernel_rfl)) (d5 (l6.blk (k:=⟨[.o 1 l.length],.t 26⟩) (by kernel_rfl) (rfl) (by kernel_rfl)) trivial)))) (fun K hT=>L98 l gl _ 0 rfl (by first|decide|omega) K hT))
  |(with_reducible exact Le.bool (Zl _))
theorem c8w (l:List TA) (gl:Good l) (i j n:Nat) (h1:i<n) (h2:j<n) (h3:i≠j):f4 prog 98 [.c (.agg [.o i l.length]),.c (.agg [.o j l.length])] [(i,⟨n8 l,.r 42 258 i⟩),(j,⟨n8 l,.r 42 258 j⟩)] n (bv true) [] 0:=by
 have key:=j8.at2 (C98 l gl) i j n h1 h2 h3
 simp only[List.map_cons,List.map_nil,n6.ren,SV.ren,Cp.ren,Leaf.ren,BT.ren,j5 (i9 _)] at key
 exact key
def a9m (l:List TA):Cz:={
 ct:=(fun f=>match f with
 |98=>some fun _ _=>fun | [.c (.agg [.o i _]),.c (.agg [.o j _])]=>some {v:=bv true,rd:=[i,j]}|_=>none
 |99=>some fun _ _=>fun | [.c (.agg [.o i n])]=>some {v:=.c (.agg [.o i n]),rd:=[i]}|_=>none
 |_=>none)
 wh:=[26]}
theorem C40 (l:List TA) (gl:Good l):f4 prog 40 [.c (.agg [.o 0 l.length]),.c (.agg [.o 1 l.length])] [(0,⟨n8 l,.r 42 258 0⟩),(1,⟨n8 l,.r 42 258 1⟩)] 2 (bv true) [] 0:=by
 refine E3 (q:=let a:=[Leaf.o 0 l.length];let b:=(0,o8 (n8 l) 42 258 0);let c:=[Leaf.o 1 l.length];let d:=(1,o8 (n8 l) 42 258 1);let e:=bv true;Kd 99 [] [ag a] [b] 4 (ag a) [] 0/\Kd 99 [] [ag c] [d] 4 (ag c) [] 0/\Kd 98 [] [ag a,ag c] [b,d] 4 e [] 0/\Le e e/\True) (a9m l) [] func40 (iB (i9 l) (D9 (i9 l) (by kernel_rfl))) (by kernel_rfl) ?_
 with_reducible repeat' first|exact trivial|apply And.intro|apply HB.mk|intro _|exact Le.refl _
 all_goals first|(with_reducible refine c8w l gl _ _ _ ?_ ?_ ?_)<;>omega|with_reducible exact b3o l gl _ _ (by omega)
theorem nX (l:List TA) (gl:Good l) (i j n:Nat) (h1:i<n) (h2:j<n) (h3:i≠j):f4 prog 40 [.c (.agg [.o i l.length]),.c (.agg [.o j l.length])] [(i,⟨n8 l,.r 42 258 i⟩),(j,⟨n8 l,.r 42 258 j⟩)] n (bv true) [] 0:=by
 have key:=j8.at2 (C40 l gl) i j n h1 h2 h3
 simp only[List.map_cons,List.map_nil,n6.ren,SV.ren,Cp.ren,Leaf.ren,BT.ren,j5 (i9 _)] at key
 exact key
end Ab
end
section
namespace Ab
end Ab
end
section
namespace Ab
theorem Gp (c:R4) {e:TA} (h:m7 (m8 e.t) e.t=true):m7 (m8 (N6 c e)) (N6 c e)=true:=by
 rw[B1] at h⊢
 intro i hi
 have h1:=h i hi
 unfold m8 at h1⊢
 unfold N6
 rw[show (4*(i / 4)+3) / 4=i / 4 by omega]
 cases N4 c (e.X*8+((i / 4:Nat):Int).tmod 8) (e.Y*8+((i / 4:Nat):Int).tdiv 8) with
 |true=>exact h1
 |false=>show N7 0 0=0;decide
theorem tP {c:R4} {l:List TA}:∀k,∀e∈C8 c l k,∃j,j<k/\e=Fv c (r8 l j)
 |0,e,h=>by cases h
 |k+1,e,h=>by
  rw[C8] at h
  cases hw:n5 (N6 c (r8 l k)) with
  |true=>
   rw[hw] at h
   obtain ⟨j,hj,h1⟩:=tP k e h
   exact ⟨j,by omega,h1⟩
  |false=>
   rw[hw] at h
   rcases List.mem_append.1 h with h|h
   ·obtain ⟨j,hj,h1⟩:=tP k e h
    exact ⟨j,by omega,h1⟩
   ·rw[List.mem_singleton] at h
    exact ⟨k,Nat.lt_succ_self k,h⟩
theorem An {l:List TA} (g:Good l) (c:R4) {k:Nat} (hk:k<l.length):S8 (C8 c l k) (r8 l k).X (r8 l k).Y:=fun i hi=>by
 obtain ⟨j,hj,h1⟩:=tP k _ (Cu hi)
 rw[h1]
 have:=Fu g j (k-j-1) (by omega)
 rw[show j+(k-j-1)+1=k by omega] at this
 exact this
theorem zL {l:List TA} (g:Good l) (c:R4):∀k,k<=l.length->Good (C8 c l k)
 |0,_=>⟨Nat.zero_le 1024,fun k h=>absurd h (Nat.not_lt_zero k),fun k h=>absurd h (Nat.not_lt_zero k),fun k h=>absurd h (Nat.not_lt_zero k),fun k h=>absurd h (Nat.not_lt_zero _)⟩
 |k+1,hk=>by
  have ih:=zL g c k (by omega)
  rw[C8]
  cases hz:n5 (N6 c (r8 l k)) with
  |true=>exact ih
  |false=>exact cC ih (by have:=lM c l k;have:=g.len;omega) (An g c (by omega)) (g.inn k (by omega)) hz (Gp c (g.cl k (by omega)))
end Ab
end
section
namespace Ab
structure GoodO (L:List EN):Prop where
 b:x7 L
 x:GoodX L
 ord:∀k,k+1<L.length->(ea L k).Y<(ea L (k+1)).Y\/((ea L k).Y=(ea L (k+1)).Y/\(ea L k).X<(ea L (k+1)).X)
theorem Ub {s:ByteArray} (h:t9 s=0):A4 (m6 s)=true/\z3 s=aZ s:=by
 have hp:=oP h
 refine ⟨hp,?_⟩
 unfold t9 at h
 generalize z3 s=u at h⊢
 generalize aZ s=v at h⊢
 cases h1:(!aT s) with
 |true=>rw[h1] at h;exact absurd h (by simp)
 |false=>
  cases h2:(D2 s).2 with
  |true=>rw[h1,h2] at h;exact absurd h (by simp)
  |false=>
   cases h3:L8 s with
   |true=>rw[h1,h2,h3] at h;exact absurd h (by simp)
   |false=>
    rw[h1,h2,h3,hp] at h
    by_cases h5:u<v
    ·rw[decide_eq_true h5] at h;exact absurd h (by simp)
    ·rw[decide_eq_false h5] at h
     by_cases h6:u>v
     ·rw[decide_eq_true h6] at h;exact absurd h (by simp)
     ·omega
theorem Ns (s:ByteArray) {k:Nat} (hk:k<nN (m6 s)):ea (z6 s) k=(C1 (m6 s) k).bl (qK s k):=by simp[ea,z6,List.getD,hk]
theorem Aq {s:ByteArray} {j:Nat} (h:M0 s j=true):I6 s (o3 s j)=false/\kQ s j=false:=by
 unfold M0 at h
 cases h1:I6 s (o3 s j)<;>cases h2:kQ s j<;>rw[h1,h2] at h<;>first|exact ⟨rfl,rfl⟩|cases h
theorem a6z {a b x y:Int} (h:N3 a b x y=true):b<y\/(b=y/\a<x):=by
 exact of_decide_eq_true h
theorem a9k (o r:Nat) (t z:Int) (h1:0<=t) (h2:1<=z) (h5:o+(t+z).toNat<=r):((min (o+(t+z).toNat) r-(o+t.toNat):Nat):Int)=z:=by omega
theorem Mi {s:ByteArray} (hp:A4 (m6 s)=true) (hl:z3 s=aZ s) {k:Nat} (hk:k<nN (m6 s)):((qK s k).size:Int)=J3 (m6 s) k:=by
 obtain ⟨_,hok,_⟩:=I7 hp
 have h1:0<=N8 (m6 s) k:=Int.le_trans (Int.natCast_nonneg k) (iA hok k (Nat.le_of_lt hk)).1
 have h2:=wO (hok k hk)
 have h5:=tA hp hl (k:=k+1) hk
 unfold qK
 rw[fT hp hl hk]
 show (((A3 s).extract (F8 s k) (F8 s (k+1))).size:Int)=_
 rw[ByteArray.size_extract]
 exact a9k _ _ _ _ h1 h2.1 h5
theorem Sx {a:Int} (h:0<=a) (h2:a-8192<8192) : -8192<=a-8192/\a-8192<=8191:=by omega
theorem b0t {n:Nat} {z:Int} (h:(n:Int)=z) (h2:1<=z/\z<=257):1<=n/\n<=257:=by omega
theorem b2y (e:EN) (b:ByteArray):(e.bl b).X=e.X:=rfl
theorem b1h (e:EN) (b:ByteArray):(e.bl b).Y=e.Y:=rfl
theorem d1z (e:EN) (b:ByteArray):(e.bl b).blob=b:=rfl
theorem b9a (s:ByteArray) (k:Nat):(C1 s k).X=lA s (o3 s k)-8192:=rfl
theorem c2x (s:ByteArray) (k:Nat):(C1 s k).Y=kY s (o3 s k)-8192:=rfl
theorem a2g (f:Nat->EN) (k:Nat) (h:(bif decide (((k+1:Nat):Int)>0) then !N3 (f (k+1-1)).X (f (k+1-1)).Y (f (k+1)).X (f (k+1)).Y else false)=false):(f k).Y<(f (k+1)).Y\/((f k).Y=(f (k+1)).Y/\(f k).X<(f (k+1)).X):=by
 rw[decide_eq_true (show ((k+1:Nat):Int)>0 by omega),Nat.add_sub_cancel] at h
 generalize f (k+1)=v at h⊢
 generalize f k=u at h⊢
 exact a6z (bH h)
theorem a7f {s:ByteArray} {k:Nat} (h:kQ s (k+1)=false):(C1 s k).Y<(C1 s (k+1)).Y\/((C1 s k).Y=(C1 s (k+1)).Y/\(C1 s k).X<(C1 s (k+1)).X):=a2g (C1 s) k h
attribute [local irreducible] lA kY C1 qK o3 m6 J3
theorem iK {s:ByteArray} (h:t9 s=0):GoodO (z6 s):=by
 obtain ⟨hp,hl⟩:=Ub h
 obtain ⟨hh,hok,_⟩:=I7 hp
 have hlen:=iC s
 have hat:∀k,k<nN (m6 s)->ea (z6 s) k=(C1 (m6 s) k).bl (qK s k):=fun k hk=>Ns s hk
 have hB:∀k,k<nN (m6 s)->1<=(qK s k).size/\(qK s k).size<=257:=fun k hk=>b0t (Mi hp hl hk) (wO (hok k hk))
 have hX:∀k,k<nN (m6 s)->-8192<=(C1 (m6 s) k).X/\(C1 (m6 s) k).X<=8191:=fun k hk=>by
  rw[b9a];exact Sx (Df (m6 s) (o3 (m6 s) k)).1 (M5 (Aq (hok k hk)).1).2.1
 have hY:∀k,k<nN (m6 s)->-8192<=(C1 (m6 s) k).Y/\(C1 (m6 s) k).Y<=8191:=fun k hk=>by
  rw[c2x];exact Sx (Ca (m6 s) (o3 (m6 s) k)).1 (M5 (Aq (hok k hk)).1).2.2.1
 have hO:∀k,k+1<nN (m6 s)->(C1 (m6 s) k).Y<(C1 (m6 s) (k+1)).Y\/((C1 (m6 s) k).Y=(C1 (m6 s) (k+1)).Y/\(C1 (m6 s) k).X<(C1 (m6 s) (k+1)).X):=fun k hk=>a7f (Aq (hok (k+1) hk)).2
 have hN:=oF hp
 clear hh hok hl hp h
 generalize z6 s=L at *
 generalize m6 s=I at *
 generalize nN I=N at *
 refine ⟨⟨by rw[hlen];exact hN,fun k hk=>?_⟩,⟨fun k hk=>?_,fun k hk=>?_⟩,fun k hk=>?_⟩
 ·rw[hlen] at hk
  rw[hat k hk,d1z];exact hB k hk
 ·rw[hlen] at hk
  rw[hat k hk,b2y];exact hX k hk
 ·rw[hlen] at hk
  rw[hat k hk,b1h];exact hY k hk
 ·rw[hlen] at hk
  rw[hat k (Nat.lt_of_succ_lt hk),hat (k+1) hk,b2y,b1h,b2y,b1h];exact hO k hk
theorem Fw {L:List EN} (g:GoodO L) (j:Nat):∀d,j+d+1<L.length->(ea L j).Y<(ea L (j+d+1)).Y\/((ea L j).Y=(ea L (j+d+1)).Y/\(ea L j).X<(ea L (j+d+1)).X)
 |0,h=>g.ord j h
 |d+1,h=>by
  have h1:=Fw g j d (by omega)
  have h2:=g.ord (j+d+1) (by omega)
  rw[show j+(d+1)+1=j+d+1+1 by omega]
  omega
theorem sT {L:List EN} {w:Int->Int->Bool}:∀k,∀e∈v7 L w k,∃j,j<k/\e.X=(ea L j).X/\e.Y=(ea L j).Y
 |0,e,h=>by cases h
 |k+1,e,h=>by
  rw[v7] at h
  cases hw:w (ea L k).X (ea L k).Y with
  |false=>
   rw[hw] at h
   obtain ⟨j,hj,h1⟩:=sT k e h
   exact ⟨j,by omega,h1⟩
  |true=>
   rw[hw] at h
   rcases List.mem_append.1 h with h|h
   ·obtain ⟨j,hj,h1⟩:=sT k e h
    exact ⟨j,by omega,h1⟩
   ·rw[List.mem_singleton] at h
    subst h
    exact ⟨k,Nat.lt_succ_self k,rfl,rfl⟩
theorem Bo {L:List EN} (g:GoodO L) (w:Int->Int->Bool) {k:Nat} (hk:k<L.length):S8 (v7 L w k) (ea L k).X (ea L k).Y:=fun i hi=>by
 obtain ⟨j,hj,h1,h2⟩:=sT k _ (Cu hi)
 rw[h1,h2]
 have:=Fw g j (k-j-1) (by omega)
 rw[show j+(k-j-1)+1=k by omega] at this
 exact this
theorem Y9 {e:EN} (h:E0 e=0):n5 (C7 e)=false/\m7 (m8 (C7 e)) (C7 e)=true:=by
 unfold E0 at h
 cases h1:lS e with
 |true=>rw[h1] at h;exact absurd h (by simp)
 |false=>
  rw[h1] at h
  cases h2:Ka e.blob with
  |false=>rw[h2] at h;exact absurd h (by simp)
  |true=>
   have ht:C7 e=qB e.blob:=by unfold C7;rw[h1,h2];rfl
   rw[ht]
   unfold Ka uY at h2
   cases h3:n5 (qB e.blob) with
   |true=>rw[h3] at h2;cases hb:pM e.blob<;>rw[hb] at h2<;>cases h2
   |false=>
    refine ⟨rfl,?_⟩
    cases h4:m7 (qB e.blob) (m8 (qB e.blob)) with
    |false=>rw[h3,h4] at h2;cases hb:pM e.blob<;>rw[hb] at h2<;>cases h2
    |true=>
     rw[B1] at h4⊢
     exact fun i hi=>(h4 i hi).symm
theorem bU {L:List EN} (g:GoodO L) (w:Int->Int->Bool) (h:P4 L w=none):∀k,k<=L.length->Good (v7 L w k)
 |0,_=>Ko
 |k+1,hk=>by
  have ih:=bU g w h k (by omega)
  rw[v7]
  cases hw:w (ea L k).X (ea L k).Y with
  |false=>exact ih
  |true=>
   have ho:=xV h k (by omega)
   unfold D0 at ho
   rw[hw] at ho
   have hd:E0 (ea L k)=0:=by
    cases e:(E0 (ea L k) != 0) with
    |true=>rw[e] at ho;cases ho
    |false=>simpa using e
   have:=g.b.len
   have:=cR L w k
   refine cC ih (by omega) (Bo g w (by omega)) ?_ (Y9 hd).1 (Y9 hd).2
   have hx:=g.x.x k (by omega);have hy:=g.x.y k (by omega)
   exact decide_eq_true ⟨hx.1,hx.2,hy.1,hy.2⟩
end Ab
end
section
namespace Ab
theorem b6d (a0 a1 a2 a3 b0 b1 b2 b3:Int) (W:World):(binOp .eql 66 (.agg #[.int .i64 a0,.int .i64 a1,.int .i64 a2,.int .i64 a3]) (.agg #[.int .i64 b0,.int .i64 b1,.int .i64 b2,.int .i64 b3])).run prog W=.ok (.bool (a0==b0&&(a1==b1&&(a2==b2&&a3==b3)))) W:=by
 by_cases h0:a0=b0
 ·by_cases h1:a1=b1
  ·by_cases h2:a2=b2
   ·by_cases h3:a3=b3
    ·subst h0 h1 h2 h3;go_simp
    ·subst h0 h1 h2;go_simp
   ·subst h0 h1;go_simp
  ·subst h0;go_simp
 ·go_simp
theorem c0o (a0 a1 a2 a3 b0 b1 b2 b3:Int) (W:World):(binOp .neq 66 (.agg #[.int .i64 a0,.int .i64 a1,.int .i64 a2,.int .i64 a3]) (.agg #[.int .i64 b0,.int .i64 b1,.int .i64 b2,.int .i64 b3])).run prog W=.ok (.bool (!(a0==b0&&(a1==b1&&(a2==b2&&a3==b3))))) W:=by
 by_cases h0:a0=b0
 ·by_cases h1:a1=b1
  ·by_cases h2:a2=b2
   ·by_cases h3:a3=b3
    ·subst h0 h1 h2 h3;go_simp
    ·subst h0 h1 h2;go_simp
   ·subst h0 h1;go_simp
  ·subst h0;go_simp
 ·go_simp
theorem a8n (a0 a1 a2 a3 b0 b1 b2 b3:Int):H4 prog 66 [li a0,li a1,li a2,li a3] [li b0,li b1,li b2,li b3] (a0==b0&&(a1==b1&&(a2==b2&&a3==b3))):=by
 intro β u v x y w hu hv
 rw[(I1 (ys:=[.int .i64 a0,.int .i64 a1,.int .i64 a2,.int .i64 a3]) rfl β u).1 hu,(I1 (ys:=[.int .i64 b0,.int .i64 b1,.int .i64 b2,.int .i64 b3]) rfl β v).1 hv]
 have h1:=b6d a0 a1 a2 a3 b0 b1 b2 b3 w
 have h2:=c0o a0 a1 a2 a3 b0 b1 b2 b3 w
 have g:∀op,(eqGuard op 66 x y (.agg [.int .i64 a0,.int .i64 a1,.int .i64 a2,.int .i64 a3].toArray) (.agg [.int .i64 b0,.int .i64 b1,.int .i64 b2,.int .i64 b3].toArray)).run prog w=.ok () w:=by
  intro op;unfold eqGuard;cases op<;>go_simp
 constructor
 ·rw[Sem.run_bind,g];exact h1
 ·rw[Sem.run_bind,g];exact h2
end Ab
end
section
namespace Ab
def b1k:Rw:=some fun _ _S=>fun | [.c (.l (.v (.string s)))]=>some {v:=.c (.l (.p _S.n 0)),wr:=[(_S.n,⟨[.v (.string s),.v (.int .i64 0),.v (.bool false)],.t 174⟩)],nw:=1}|_=>none
def a8u:Rw:=some fun _ _S=>fun | [.c (.l (.p i _)),.c (.l (.v (.int _ m)))]=>some {v:=V60 _S i m,rd:=[i],wr:=[(i,W60 _S i m)]}|_=>none
def b3c:Rw:=some fun _ _S=>fun | [.c (.l (.p i _))]=>some {v:=V61 _S i,rd:=[i]}|_=>none
def a9h:Rw:=some fun _ _S=>fun | [.c (.l (.p i _))]=>some {v:=V63 _S i,rd:=[i]}|_=>none
def a8m:Rw:=some fun _ _S=>fun | [.c (.l (.p i _)),.c (.l (.v (.int _ m)))]=>some {v:=V64 _S i m,rd:=[i],wr:=[(i,W64 _S i m)]}|_=>none
def b3b:Cz:={
 ct:=(fun f=>match f with
 |58=>b1k
 |60=>a8u
 |61=>b3c
 |63=>a9h
 |64=>a8m
 |125=>some fun _ _S=>fun | [.c (.l (.p i _))]=>some {v:=c8u _S i,rd:=[i],wr:=[(i,c7k _S i)]}|_=>none
 |_=>none)
 nf:=[(16,iv .i64 0),(18,bv false),(26,bv false)],un:=2}
theorem C62   (n:Nat):f4 prog 62 [.c (.l (.v (.string ⟨#[0]⟩)))] [] n (.tup [.l (.v (.slice none 0 0)),.l (.v (.slice none 0 0)),.l (li 0)]) [] 0:=by
 refine v6 (q:=let a:=ByteArray.mk #[0];let b:=[(0,j9 [l9 a,li 0,lb false] 174)];let d:=[j7 0 0];let e:=Oct.l7 a (Int.toNat 0) false;let f:=(Nat.cast (e.snd.fst):Int);let g:=[(0,j9 [l9 a,li f,lb e.snd.snd] 174)];let h:=!decide (0<0);let i:=Leaf.v (Value.slice none 0 0);let j:=(SV.tup [Cp.l i,Cp.l i,Cp.l (li 0)]);Kd 58 [] [l4 (l9 a)] [] 0 (j7 0 0) b 1/\Kd 125 [] d b 1 (i8 e.fst) g 0/\Le (i8 e.fst) (i8 0)/\Kd 61 [] d g 1 (bv e.snd.snd) [] 0/\Le (bv e.snd.snd) (bv false)/\(true=true->true=true/\True)/\(false=false->true=true)/\(h=true->h=true/\True)/\((decide (0<0))=false->h=true)/\Le (bv (bif decide (0<0) then true else decide (0>1024))) (bv false)/\Kd 63 [] d g 1 (i8 ((a.size:Int)-f)) [] 0/\Le j j/\True) (b3b) func62 n (by kernel_rfl) (by kernel_rfl) ?_
 with_reducible repeat' first|exact trivial|apply And.intro|apply HB.mk|intro _
 all_goals first|assumption|(with_reducible first|exact Le.refl _|exact C58 _ _)|((refine C61 _ _ _ _ ?_ _)<;>first|assumption|decide +kernel|omega)|((refine C63 _ _ _ _ ?_ ?_ ?_ _)<;>first|assumption|decide +kernel|omega)|((refine a9u _ _ _ _ ?_ ?_ ?_ _)<;>first|assumption|decide +kernel|omega)|exact Le.of (by kernel_rfl)|simp only[*,Bool.and_self,Bool.not_false,Bool.not_true];done
def c0e:Rw:=some fun _ _=>fun | [.c (.l (.v (.string s)))]=>some {v:=iv .u32 (Oct.M.sum s.data.toList:Nat)}|_=>none
def c6z:Rw:=some fun _ _=>fun | [.c (.l (.v (.string s))),.c (.l (.v (.string t)))]=>some {v:=.tup [.l (.v (.string (P9 s t).1)),.l (.v (.bool (P9 s t).2))]}|_=>none
def b6e:Rw:=some fun _ _S=>fun | [.c (.l (.p i _))]=>some {v:=V59 _S i,rd:=[i],wr:=[(i,W59 _S i)]}|_=>none
def c6w:Rw:=some fun _ _=>fun | [.c (.l (.v (.string s)))]=>some {v:=.tup [.l (.v (.slice none 0 0)),.l (.v (.slice none 0 0)),.l (li 0)]}|_=>none
def Yt:Cz:={
 ct:=(fun f=>match f with
 |53=>c0e
 |57=>c6z
 |58=>b1k
 |59=>b6e
 |60=>a8u
 |61=>b3c
 |62=>c6w
 |63=>a9h
 |64=>a8m
 |_=>none)
 nf:=[(19,.tup [.l (.v (.string ⟨#[1,0,210,2,239,141]⟩)),.l (lb true)]),(27,.c (.l (.v (.string ⟨#[0]⟩)))),(29,iv .i64 3523407757),(32,bv false),(36,iv .u32 3523407757),(38,bv false),(63,bv false),(68,bv false)],un:=2}
theorem d0x   : f4 prog 15 [.c (.l (.v (.string ⟨#[71,1,1,0,210,2,239,141]⟩)))] [] 0 (.tup [.l (.p 0 0),.l (li 0)]) [(0,⟨[.v (.slice none 0 0),li 0],.t 125⟩)] ([1]:List Nat).length:=by
 refine E3 (q:=let a:=(ByteArray.mk #[71,1,1,0,210,2,239,141]);let b:=(ByteArray.mk #[71,1]);let d:=(SV.tup [Cp.l (l9 ((P9 a b).fst)),Cp.l (lb (P9 a b).snd)]);let e:=(ByteArray.mk #[1,0,210,2,239,141]);let f:=[(0,j9 [l9 e,li 0,lb false] 174)];let g:=[j7 0 0];let h:=Oct.y5 e (Int.toNat 0) false;let i:=l4 (l9 (h.fst));let j:=(Nat.cast (h.snd.fst):Int);let k:=[(0,j9 [l9 e,li j,lb h.snd.snd] 174)];let m:=ByteArray.mk #[0];let n:=(Oct.l5 e (j).toNat h.snd.snd (Nat.cast ((Oct.sz 4)):Int));let o:=(i8 (wrap64 (Nat.cast ((Oct.kR n.fst.data.toList)):Int)));let r:=(Nat.cast (n.snd.fst):Int);let s:=[(0,j9 [l9 e,li r,lb n.snd.snd] 174)];let ud:=bv false;let w:=(iv .u32 (Nat.cast ((Oct.M.sum m.data.toList)):Int));let x:=Value.slice none 0 0;let y:=(e.size:Int);let z:=(SV.tup [Cp.l (Leaf.p 0 0),Cp.l (li 0)]);let A:=(j9 [Leaf.v x,li 0] 125);Kd 57 [] [l4 (l9 a),l4 (l9 b)] [] 0 d [] 0/\Le d (SV.tup [Cp.l (l9 e),Cp.l (lb true)])/\Kd 58 [] [l4 (l9 e)] [] 0 (j7 0 0) f 1/\Kd 59 [] g f 1 i k 0/\Le i (l4 (l9 m))/\Kd 60 [] [j7 0 0,i8 4] k 1 o s 0/\Le o (i8 3523407757)/\Kd 61 [] g s 1 (bv n.snd.snd) [] 0/\Le (bv n.snd.snd) ud/\Kd 53 [] [l4 (l9 m)] [] 1 w [] 0/\Le w (iv .u32 3523407757)/\Le (bv (3523407757 != IntKind.i64.wrap 3523407757)) ud/\Kd 62 [] [l4 (l9 m)] [] 1 (SV.tup [Cp.l (Leaf.v x),Cp.l (Leaf.v x),Cp.l (li 0)]) [] 0/\Kd 63 [] g s 1 (i8 (y-r)) [] 0/\Le (bv (decide (y-r<0))) ud/\Kd 63 [] g s 1 (i8 (y-r)) [] 0/\Le (bv (decide (y-r>0))) ud/\Le z z/\A5 (x8 0 0 [1]) A A/\True) (Yt) [1] func15 (by kernel_rfl) (by kernel_rfl) ?_
 with_reducible repeat' first|exact trivial|apply And.intro|apply HB.mk|intro _|exact Le.refl _
 all_goals first|((refine C53 _ ?_ _);first|assumption|decide +kernel|(simp;omega))|((refine C57 _ _ ?_ _);first|assumption|decide +kernel)|with_reducible exact C58 _ _|((refine C59 _ _ _ _ ?_ ?_ ?_ _)<;>first|assumption|decide +kernel|omega)|((refine C60 _ _ _ _ _ ?_ ?_ ?_ _)<;>first|assumption|decide +kernel|omega)|((refine C61 _ _ _ _ ?_ _)<;>first|assumption|decide +kernel|omega)|with_reducible exact C62 _|((refine C63 _ _ _ _ ?_ ?_ ?_ _)<;>first|assumption|decide +kernel|omega)|exact Le.of (by kernel_rfl)|exact A5.of (by kernel_rfl)
def Va:Cz:={
 ct:=(fun f=>match f with
 |53=>c0e
 |57=>c6z
 |58=>b1k
 |59=>b6e
 |60=>a8u
 |61=>b3c
 |62=>c6w
 |63=>a9h
 |64=>a8m
 |_=>none)
 nf:=[(19,.tup [.l (.v (.string ⟨#[71]⟩)),.l (lb false)])],un:=2}
theorem d2e   (n:Nat):f4 prog 15 [.c (.l (.v (.string ⟨#[71]⟩)))] [] n (.tup [.l (.v (.pointer none)),.l (li 11)]) [] 0:=by
 refine v6 (q:=let a:=ByteArray.mk #[71];let b:=(ByteArray.mk #[71,1]);let d:=(SV.tup [Cp.l (l9 ((P9 a b).fst)),Cp.l (lb (P9 a b).snd)]);let e:=(SV.tup [Cp.l (Leaf.v (Value.pointer none)),Cp.l (li 11)]);Kd 57 [] [l4 (l9 a),l4 (l9 b)] [] 0 d [] 0/\Le d (SV.tup [Cp.l (l9 a),Cp.l (lb false)])/\Le e e/\True) (Va) func15 n (by kernel_rfl) (by kernel_rfl) ?_
 with_reducible repeat' first|exact trivial|apply And.intro|apply HB.mk|intro _|exact Le.refl _
 all_goals first|((refine C57 _ _ ?_ _);first|assumption|decide +kernel)|exact Le.of (by kernel_rfl)
theorem d2k (n:Nat):f4 prog 12 [ag [.v (.slice none 0 0)]] [] n (.tup [.l (.v (.string ⟨#[71,1,1,0,210,2,239,141]⟩)),.l (li 0)]) [] 0:=
 B9 Ov (vals:=[.agg #[.slice none 0 0]]) (y:=.tuple #[.string ⟨#[71,1,1,0,210,2,239,141]⟩,.int .i64 0]) rfl rfl n fun x=>Oct.Cs x
def Oy:Cz:={
  ct:=fun _=>none
   }
theorem b7v   : f4 prog 25 [.c (.l (.p 0 0))] [(0,⟨[.v (.slice none 0 0),li 0],.t 125⟩)] 2 (iv .i64 0) [] ([]:List Nat).length:=by
 refine E3 (q:=Le (i8 (Nat.cast 0:Int)) (i8 0)/\True) (Oy) [] func25 (by kernel_rfl) (by kernel_rfl) ?_
 with_reducible repeat' first|exact trivial|apply And.intro|apply HB.mk|intro _
 all_goals first|exact Le.of rfl
def Ow:Cz:={
 ct:=fun _=>none
 un:=2}
theorem b9b   : f4 prog 26 [.c (.l (.p 0 0))] [(0,⟨[.v (.slice none 0 0),li 0],.t 125⟩)] 2 (ag [li 0,li 0,li 0,li 0]) [] ([]:List Nat).length:=by
 refine E3 (q:=let a:=(ag [li 0,li 0,li 0,li 0]);Le a a/\True) (Ow) [] func26 (by kernel_rfl) (by kernel_rfl) ?_
 with_reducible repeat' first|exact trivial|apply And.intro|apply HB.mk|intro _
 all_goals first|with_reducible exact Le.refl _
def a8b:Cz:={
 ct:=(fun f=>match f with
 |12=>some fun _ _=>fun | [.c (.agg [.v (.slice none _ _)])]=>some {v:=.tup [.l (.v (.string ⟨#[71,1,1,0,210,2,239,141]⟩)),.l (li 0)]}|_=>none
 |15=>some fun _ _S=>fun | [.c (.l (.v (.string s)))]=>some {v:=(match s.size with|8=>.tup [.l (.p _S.n 0),.l (li 0)]|_=>.tup [.l (.v (.pointer none)),.l (li 11)]),wr:=(match s.size with|8=>[(_S.n,⟨[.v (.slice none 0 0),li 0],.t 125⟩)]|_=>[]),nw:=(match s.size with|8=>1|_=>0)}|_=>none
 |25=>some fun _ _=>fun | [.c (.l (.p i _))]=>some {v:=iv .i64 0,rd:=[i]}|_=>none
 |26=>some fun _ _=>fun | [.c (.l (.p i _))]=>some {v:=ag [li 0,li 0,li 0,li 0],rd:=[i]}|_=>none
 |_=>none)
 eq:=(fun t=>match t with
 |66=>some (fun xs ys=>match xs,ys with | [.v (.int _ a0),.v (.int _ a1),.v (.int _ a2),.v (.int _ a3)],[.v (.int _ b0),.v (.int _ b1),.v (.int _ b2),.v (.int _ b3)]=>(a0==b0&&(a1==b1&&(a2==b2&&a3==b3)))|_,_=>false)
 |_=>none)
 nf:=[(27,bv true),(32,.c (.l (.v (.string ⟨#[71,1,1,0]⟩)))),(34,bv true),(38,bv true),(42,bv true),(47,bv true),(53,bv true),(57,bv true)],on:=[31]}
theorem C10   (n:Nat):f4 prog 10 [] [] n (bv true) [] 0:=by
 refine v6 (q:=let a:=Value.slice none 0 0;let b:=(ByteArray.mk #[71,1,1,0,210,2,239,141]);let d:=[(0,j9 [Leaf.v a,li 0] 125)];let e:=true=true->true=true/\True;let f:=true=true->true=true;let g:=bv true;let h:=(ByteArray.mk #[71,1,1,0]);let i:=[li 0,li 0,li 0,li 0];Kd 12 [] [ag [Leaf.v a]] [] 0 (SV.tup [Cp.l (l9 b),Cp.l (li 0)]) [] 0/\Kd 15 [] [l4 (l9 b)] [] 0 (SV.tup [Cp.l (Leaf.p 0 0),Cp.l (li 0)]) d 1/\Kd 15 [] [l4 (l9 (ByteArray.mk #[71]))] [] 1 (SV.tup [Cp.l (Leaf.v (Value.pointer none)),Cp.l (li 11)]) [] 0/\e/\e/\f/\Le (bv ((b.size:Int)==8)) g/\(true=true->true=true/\O6 0 4 (b.size:Int)/\True)/\true=true/\(true=true->D8 71/\D8 1/\D8 1/\D8 0/\Le (l4 (l9 (strOf [71,1,1,0]))) (l4 (l9 h))/\True)/\(true=true->true=true/\true=true/\True)/\f/\Le (bv (bif true then (b.extract (Int.toNat 0) (Int.toNat 4)).toList==h.toList else false)) g/\e/\f/\Le g g/\e/\f/\Le g g/\(true=true->true=true/\Kd 25 [] [j7 0 0] d 2 (i8 0) [] 0/\True)/\e/\f/\Le g g/\(true=true->true=true/\Kd 26 [] [j7 0 0] d 2 (ag i) [] 0/\True)/\(true=true->true=true/\true=true/\H4 prog 66 i i true/\True)/\f/\Le g g/\e/\f/\Le g g/\Le g g/\True) (a8b) func10 n (by kernel_rfl) (by kernel_rfl) ?_
 with_reducible repeat' first|exact trivial|apply And.intro|apply HB.mk|intro _
 all_goals first|assumption|(with_reducible first|exact Le.refl _|exact d2k _)|(first|exact d0x|exact d2e _)|exact b7v|exact b9b|exact Le.of (by kernel_rfl)|decide|exact a8n 0 0 0 0 0 0 0 0|unfold O6;decide|unfold D8;decide
end Ab
end
section
namespace Ab
attribute [local irreducible] j8
attribute [local irreducible] tl n8 C0
def LM (s:List Int):List EN:=(C0 s (F2 s)).map pO
theorem G3 (s:List Int):(C0 s (F2 s)).length<=1024:=Nat.le_trans (Sl s) (by decide)
theorem K7 (s:List Int):(LM s).length=(C0 s (F2 s)).length:=Sb _
theorem c8n (s:List Int):GoodX (LM s):=Pj (cJ s)
theorem d0i (s:List Int):x7 (LM s):=xH (cJ s)
attribute [local irreducible] LM
end Ab
namespace codecPreviews
end codecPreviews
namespace Ab
end Ab
end
section
namespace Ab
attribute [local irreducible] j8
attribute [local irreducible] tl n8
def mnP (e:EN):Bool:=pq [ub (x9 (C7 e) 0),ub (x9 (C7 e) 1),ub (x9 (C7 e) 2),ub (x9 (C7 e) 3)] [ub e.a,ub e.b,ub e.c,ub e.d]
def Gz (e:EN):Bool:=stB e.blob (!mnP e)
def Ty (e:EN):Int:=bif gU e then E0 e else bif Gz e then 11 else 0
def bS (e:EN):Bool:=bif gU e then true else Gz e
def ckF (L:List EN):Option Nat:=(List.range L.length).find? fun j=>bS (ea L j)
def Pu (L:List EN):Int:=match ckF L with|some j=>Ty (ea L j)|none=>0
def yO (L:List EN) (k:Nat):St:=⟨[(22,iv .i64 (k:Nat)),(21,iv .i64 (L.length:Nat)),(20,.c (.l (.o 1 L.length))),(3,.c (.l (.p 0 0)))],[(0,some ⟨[.o 1 L.length,li (k:Nat)],.t 125⟩),(1,some ⟨o4 L,.r 123 8 1⟩)],2,43,[1,0],(0)⟩
def Nw (L:List EN) (k:Nat):St:=⟨[(2,iv .i64 (Ty (ea L k)))],[],2,43,[1,0],(0)⟩
def xL (L:List EN) (k:Nat):St:=⟨[(4,iv .i64 (k:Nat)),(3,.c (.l (.p 2 0)))],[(0,some ⟨[.o 1 L.length,li (k:Nat)],.t 91⟩),(1,some ⟨o4 L,.r 59 8 1⟩),(2,some ⟨[.p 0 0,li 0],.t 82⟩)],3,45,[2,1,0],(0)⟩
def Rl (L:List EN) (k:Nat):St:=⟨[(2,iv .i64 (Ty (ea L k)))],[],3,45,[2,1,0],(0)⟩
theorem a9n (e:EN):(!mnP e)=Gz e:=(mD _ _).symm
theorem Od (e:EN):(!pq [ub (x9 (C7 e) 0),ub (x9 (C7 e) 1),ub (x9 (C7 e) 2),ub (x9 (C7 e) 3)] [ub e.a,ub e.b,ub e.c,ub e.d])=Gz e:=a9n e
theorem a4u {e:EN} (h:gU e=true):E0 e=Ty e:=by unfold Ty;rw[h];rfl
theorem a4t {e:EN} (h:gU e=false) (h2:Gz e=true):(11:Int)=Ty e:=by unfold Ty;rw[h,h2];rfl
theorem a5i {e:EN} (h:gU e=true):(!bS e)=false:=by unfold bS;rw[h];rfl
theorem a5h {e:EN} (h:gU e=false) (h2:Gz e=true):(!bS e)=false:=by unfold bS;rw[h,h2];rfl
theorem a5s {e:EN} (h:gU e=false) (h2:Gz e=false):(!bS e)=true:=by unfold bS;rw[h,h2];rfl
theorem yZ {L:List EN} (h:∀j,j<L.length->(!bS (ea L j))=true):Pu L=0:=by
 unfold Pu ckF
 have:(List.range L.length).find? (fun j=>bS (ea L j))=none:=by
  rw[List.find?_eq_none]
  intro j hj
  rw[fF (h j (List.mem_range.1 hj))];decide
 rw[this]
theorem yK {L:List EN} {j:Nat} (hj:j<L.length) (hb:∀i,i<j->(!bS (ea L i))=true) (h:(!bS (ea L j))=false):Pu L=Ty (ea L j):=by
 unfold Pu ckF
 rw[dV _ _ _ hj (bH h) (fun i hi=>fF (hb i hi))]
def c1g (L:List EN) (k:Nat):Rw:=some fun _ _=>fun | [.c (.agg _)]=>some {v:=ag (bZ (C7 (ea L k)))}|_=>none
def Xu (L:List EN) (k:Nat):Cz:={
 ct:=(fun f=>match f with
 |52=>c1g L k
 |79=>some fun _ _=>fun | [.c (.l (.p i _)),.c (.agg _)]=>some {v:=.tup [.agg (tl (C7 (ea L k))),.l (li (E0 (ea L k)))],rd:=[i],wr:=[(i,⟨[.o 1 L.length,li ((k:Nat)+1)],.t 125⟩)]}|_=>none
 |_=>none)
 eq:=(fun t=>match t with
 |36=>some pq
 |_=>none)
 sym:=[24,25],nf:=[(25,.c (.agg (en (ea L k)))),(28,.c (.agg (en (ea L k)))),(34,bv (gU (ea L k))),(37,.c (.agg (tl (C7 (ea L k))))),(38,ag [ub (x9 (C7 (ea L k)) 0),ub (x9 (C7 (ea L k)) 1),ub (x9 (C7 (ea L k)) 2),ub (x9 (C7 (ea L k)) 3)]),(40,ag [ub (ea L k).a,ub (ea L k).b,ub (ea L k).c,ub (ea L k).d]),(41,bv (Gz (ea L k)))],wh:=[38,123]}
theorem b9p (L:List EN) (k:Nat)  (K:Exit->St->Prop) (h:let e:=(L.length:Int);let f:=((k:Int));let g:=en (ea L k);let i:=[Leaf.o 1 L.length,li (k:Int)];let j:=C7 (ea L k);let m:=((k:Int)+1);let n:=[Leaf.o 1 L.length,li m];let q:=(3,j7 0 0);let s:=(20,l4 (Leaf.o 1 L.length));let w:=(21,i8 e);let x:=(22,i8 (k:Int));let y:=(1,some (o8 (o4 L) 123 8 1));let z:=[(0,some (j9 n 125)),y];let A:=[3,3,0,2,2,1,0];let B:=[l8 (Nat.cast ((x9 j 0).toNat):Int),l8 (Nat.cast ((x9 j 1).toNat):Int),l8 (Nat.cast ((x9 j 2).toNat):Int),l8 (Nat.cast ((x9 j 3).toNat):Int)];let C:=[l8 ((ea L k).a.toNat:Int),l8 ((ea L k).b.toNat:Int),l8 ((ea L k).c.toNat:Int),l8 ((ea L k).d.toNat:Int)];let D:=[ub (x9 j 0),ub (x9 j 1),ub (x9 j 2),ub (x9 j 3)];let E:=[ub (ea L k).a,ub (ea L k).b,ub (ea L k).c,ub (ea L k).d];HB (decide ((k:Int)<e)) (t0 f L.length/\f.toNat*8+8<=(o4 L).length/\Le (ag (List.take 8 (List.drop (f.toNat*8) (o4 L)))) (ag g)/\0=0/\8=8/\Le (ag (List.take 8 g)) (ag g)/\Kd 79 [] [j7 0 0,ag g] [(0,j9 i 125)] 3 (SV.tup [Cp.agg (tl j),Cp.l (li (E0 (ea L k)))]) [(0,j9 n 125)] 0/\0=0/\256=256/\Le (bv (E0 (ea L k) != 0)) (bv (gU (ea L k)))/\HB (gU (ea L k)) (wkK 2 K Exit.ret (St.mk [(2,i8 (E0 (ea L k))),q,s,w,x] z 4 43 A 0)) (Le (ag (List.take 256 (tl j))) (ag (tl j))/\Kd 52 [] [ag (tl j)] [] 4 (ag (bZ j)) [] 0/\Le (ag (bZ j)) (ag B)/\Le (ag (List.take 4 (List.drop 2 g))) (ag C)/\H4 prog 36 B C (pq D E)/\Le (bv !pq D E) (bv (Gz (ea L k)))/\HB (Gz (ea L k)) (wkK 2 K Exit.ret (St.mk [(2,i8 11),q,s,w,x] z 4 43 A 0)) (IntKind.i64.wrap m=(k:Int)+1/\RoundTo prog (gl 5 Tryz.f33) 2 (wkK 2 K) (St.mk [(2,SV.u),q,s,w,(22,i8 m)] z 4 43 A 0)))) (wkK 2 K (Exit.exit 0) (St.mk [(2,SV.u),q,s,w,x] [(0,some (j9 i 125)),y] 2 43 [1,0] 0))):z4 prog (gl 5 Tryz.f33) (yO L k) (wkK 2 K):=
 m5 [2,3,20,21,22] [0,1] (cx:=Xu L k) rfl (u3 (by kernel_rfl) h)
theorem b6n (L:List EN) (hG:x7 L):∀(m k:Nat),L.length-k=m->k<=L.length->(∀j,j<k->(!bS (ea L j))=true)->∀(K:Exit->St->Prop),((∀j,j<L.length->(!bS (ea L j))=true)->K (.exit 0) (yO L L.length))->(∀j,j<L.length->(∀i,i<j->(!bS (ea L i))=true)->(!bS (ea L j))=false->K .ret (Nw L j))->z4 prog (gl 5 Tryz.f33) (yO L k) (wkK 2 K)
 |0,k,hm,hk,hall,K,hK,hR=>by
  have e:k=L.length:=by omega
  subst e
  refine b9p L _ K (HB.no (by omega) ?_)
  exact wkK.tk (yO L _) (by kernel_rfl) (d5 (l6.k (by kernel_rfl)) (d5 (l6.p (g9 _) (by kernel_rfl)) trivial)) (hK hall)
 |m+1,k,hm,hk,hall,K,hK,hR=>by
  refine b9p L k K (HB.yes (by omega) ?_)
  have hlt:k<L.length:=by omega
  have h4:=hG.len
  have hbk:=gB hG hlt
  with_reducible repeat' first|exact trivial|apply And.intro|apply HB.mk|intro _
  all_goals first|(with_reducible first|rfl|exact C52 _ _)|(with_reducible refine O7 _ L.length _ hbk.1 hbk.2 ?_ ?_ _ _ _ ?_ ?_ ?_)<;>omega|(exact ⟨by omega,by omega⟩)|rw[y6];omega|refine Le.of ?_;simp only[tn,Nat.zero_add,Nat.add_zero];rw[bG hlt]|(with_reducible first|exact Le.of (congrArg (fun l=>SV.c (.agg l)) (a4l _))|exact Le.bool (bT _)|exact Le.bool (Od _)|exact Le.of (congrArg (fun l=>SV.c (.agg l)) (t7 _))|exact Le.of (congrArg (fun l=>SV.c (.agg l)) (oB _)))|exact Dw _ _ _ _ _ _ _ _|exact wkK.to (Nw L k) (Nat.le_refl _) (by kernel_rfl) (q7 (J7.sl_int (y:=E0 (ea L k)) (by kernel_rfl) (a4u (by with_reducible assumption))) trivial) trivial (hR k hlt hall (a5i (by with_reducible assumption)))|exact wkK.to (Nw L k) (Nat.le_refl _) (by kernel_rfl) (q7 (J7.sl_int (y:=11) (by kernel_rfl) (a4t (by with_reducible assumption) (by with_reducible assumption))) trivial) trivial (hR k hlt hall (a5h (by with_reducible assumption) (by with_reducible assumption)))|(with_reducible refine RoundTo.tk 4 (yO L (k+1)) ?_ ?_ ?_);kernel_rfl;exact (d5 (l6.k (by kernel_rfl)) (d5 (l6.p (g9 _) (by kernel_rfl)) trivial));exact (b6n L hG m (k+1) (by omega) (by omega) (fun j hj=>by rcases Nat.lt_or_ge j k with h|h;exact hall j h;have e:j=k:=(by omega);subst e;exact (a5s (by with_reducible assumption) (by with_reducible assumption))) K hK hR)|exact C2 _ (by omega) (by omega)|exact Le.of rfl
def a2v (L:List EN) (k:Nat):Cz:={
 ct:=(fun f=>match f with
 |17=>c1g L k
 |96=>some fun _ _=>fun | [.c (.l (.p i _)),_]=>some {v:=.c (.agg (t5 (C7 (ea L k)) (E0 (ea L k)))),rd:=[0,1],wr:=[(0,⟨[.o 1 L.length,li ((k:Nat)+1)],.t 91⟩)]}|_=>none
 |_=>none)
 eq:=(fun t=>match t with
 |36=>some pq
 |_=>none)
 sym:=[41,42,43],nf:=[(29,bv (gU (ea L k))),(33,.c (.agg (tl (C7 (ea L k))))),(34,ag [ub (x9 (C7 (ea L k)) 0),ub (x9 (C7 (ea L k)) 1),ub (x9 (C7 (ea L k)) 2),ub (x9 (C7 (ea L k)) 3)]),(43,ag [ub (ea L k).a,ub (ea L k).b,ub (ea L k).c,ub (ea L k).d]),(44,bv (Gz (ea L k)))],wh:=[85]}
theorem c0b (L:List EN) (k:Nat)  (K:Exit->St->Prop) (h:let e:=[Leaf.o 1 L.length,li (k:Int)];let f:=C7 (ea L k);let g:=t5 f (E0 (ea L k));let i:=((k:Int)+1);let j:=[Leaf.o 1 L.length,li i];let m:=(3,j7 2 0);let n:=(4,i8 (k:Int));let q:=(1,some (o8 (o4 L) 59 8 1));let s:=(2,some (j9 [Leaf.p 0 0,li 0] 82));let w:=[(0,some (j9 j 91)),q,s];let x:=[3,3,0,2,1,0];let y:=[l8 (Nat.cast ((x9 f 0).toNat):Int),l8 (Nat.cast ((x9 f 1).toNat):Int),l8 (Nat.cast ((x9 f 2).toNat):Int),l8 (Nat.cast ((x9 f 3).toNat):Int)];let z:=((k:Int));let A:=[l8 ((ea L k).a.toNat:Int),l8 ((ea L k).b.toNat:Int),l8 ((ea L k).c.toNat:Int),l8 ((ea L k).d.toNat:Int)];let B:=[ub (x9 f 0),ub (x9 f 1),ub (x9 f 2),ub (x9 f 3)];let C:=[ub (ea L k).a,ub (ea L k).b,ub (ea L k).c,ub (ea L k).d];HB (decide ((k:Int)<(L.length:Int))) (Kd 96 [] [j7 0 0,i8 (k:Int)] [(0,j9 e 91),(1,o8 (o4 L) 59 8 1)] 3 (ag g) [(0,j9 j 91)] 0/\0=0/\258=258/\Le (bv (E0 (ea L k) != 0)) (bv (gU (ea L k)))/\HB (gU (ea L k)) (wkK 3 K Exit.ret (St.mk [(2,i8 (E0 (ea L k))),m,n] w 4 45 x 0)) (Le (ag (List.take 256 g)) (ag (tl f))/\Kd 17 [] [ag (tl f)] [] 4 (ag (bZ f)) [] 0/\Le (ag (bZ f)) (ag y)/\t0 z L.length/\z.toNat*8+2+4<=(o4 L).length/\Le (ag (List.take 4 (List.drop (z.toNat*8+2) (o4 L)))) (ag A)/\H4 prog 36 y A (pq B C)/\Le (bv !pq B C) (bv (Gz (ea L k)))/\HB (Gz (ea L k)) (wkK 3 K Exit.ret (St.mk [(2,i8 11),m,n] w 4 45 x 0)) (IntKind.i64.wrap i=(k:Int)+1/\RoundTo prog (gl 5 Tryz.f36) 3 (wkK 3 K) (St.mk [(2,SV.u),m,(4,i8 i)] w 4 45 x 0)))) (wkK 3 K (Exit.exit 0) (St.mk [(2,SV.u),m,n] [(0,some (j9 e 91)),q,s] 3 45 [2,1,0] 0))):z4 prog (gl 5 Tryz.f36) (xL L k) (wkK 3 K):=
 m5 [2,3,4] [0,1,2] (cx:=a2v L k) rfl (u3 (by kernel_rfl) h)
theorem b8y (L:List EN) (hG:x7 L):∀(m k:Nat),L.length-k=m->k<=L.length->(∀j,j<k->(!bS (ea L j))=true)->∀(K:Exit->St->Prop),((∀j,j<L.length->(!bS (ea L j))=true)->K (.exit 0) (xL L L.length))->(∀j,j<L.length->(∀i,i<j->(!bS (ea L i))=true)->(!bS (ea L j))=false->K .ret (Rl L j))->z4 prog (gl 5 Tryz.f36) (xL L k) (wkK 3 K)
 |0,k,hm,hk,hall,K,hK,hR=>by
  have e:k=L.length:=by omega
  subst e
  refine c0b L _ K (HB.no (by omega) ?_)
  exact wkK.tk (xL L _) (by kernel_rfl) (d5 (l6.k (by kernel_rfl)) (d5 (l6.p (g9 _) (by kernel_rfl)) (N0.k (by kernel_rfl)))) (hK hall)
 |m+1,k,hm,hk,hall,K,hK,hR=>by
  refine c0b L k K (HB.yes (by omega) ?_)
  have hlt:k<L.length:=by omega
  have h4:=hG.len
  have hbk:=gB hG hlt
  with_reducible repeat' first|exact trivial|apply And.intro|apply HB.mk|intro _
  all_goals first|(with_reducible first|rfl|exact C17 _ _)|(with_reducible refine aL L _ k hG ?_ ?_ hlt _ _ _ ?_ ?_ ?_)<;>omega|(exact ⟨by omega,by omega⟩)|rw[y6];omega|(with_reducible first|exact Le.bool (bT _)|exact Le.bool (Od _)|exact Le.of (congrArg (fun l=>SV.c (.agg l)) (Z1 _ _))|exact Le.of (congrArg (fun l=>SV.c (.agg l)) (oB _)))|(refine Le.of (congrArg (fun l=>SV.c (.agg l)) (a5u hlt ?_)))<;>omega|exact Dw _ _ _ _ _ _ _ _|exact wkK.to (Rl L k) (Nat.le_refl _) (by kernel_rfl) (q7 (J7.sl_int (y:=E0 (ea L k)) (by kernel_rfl) (a4u (by with_reducible assumption))) trivial) trivial (hR k hlt hall (a5i (by with_reducible assumption)))|exact wkK.to (Rl L k) (Nat.le_refl _) (by kernel_rfl) (q7 (J7.sl_int (y:=11) (by kernel_rfl) (a4t (by with_reducible assumption) (by with_reducible assumption))) trivial) trivial (hR k hlt hall (a5h (by with_reducible assumption) (by with_reducible assumption)))|(with_reducible refine RoundTo.tk 4 (xL L (k+1)) ?_ ?_ ?_);kernel_rfl;exact (d5 (l6.k (by kernel_rfl)) (d5 (l6.p (g9 _) (by kernel_rfl)) (N0.k (by kernel_rfl))));exact (b8y L hG m (k+1) (by omega) (by omega) (fun j hj=>by rcases Nat.lt_or_ge j k with h|h;exact hall j h;have e:j=k:=(by omega);subst e;exact (a5s (by with_reducible assumption) (by with_reducible assumption))) K hK hR)|exact C2 _ (by omega) (by omega)
theorem b9q {k:Int} (h:k≠0):(k != 0)=true:=by simpa using h
def Zk (s:ByteArray):Cz:={
 ct:=(fun f=>match f with
 |15=>some fun _ _=>fun | [.c (.l (.v (.string q)))]=>some {v:=.tup [.l (.v (.pointer none)),.l (li (t9 s))]}|_=>none
 |_=>none)
 nf:=[(15,bv true)],lp:=fun _=>some (fun _ _=>True)}
theorem d1f (s:ByteArray) (hs:s.size<=1000000000000000000) (he:t9 s≠0) (n:Nat):f4 prog 33 [.c (.l (.v (.string s)))] [] n (iv .i64 (t9 s)) [] 0:=by
 refine v6 (q:=Kd 15 [] [l4 (l9 s)] [] 0 (SV.tup [Cp.l (Leaf.v (Value.pointer none)),Cp.l (li (t9 s))]) [] 0/\Le (bv (t9 s != 0)) (bv true)/\Le (i8 (t9 s)) (i8 (t9 s))/\True) (Zk s) func33 n (by kernel_rfl) (by kernel_rfl) ?_
 with_reducible repeat' first|exact trivial|apply And.intro|apply HB.mk|intro _|exact Le.refl _
 all_goals first|exact zK s hs he _|with_reducible exact Le.bool (b9q he)
def Vb (s:ByteArray):Cz:={
 ct:=(fun f=>match f with
 |15=>some fun _ _S=>fun | [.c (.l (.v (.string q)))]=>some {v:=.tup [.l (.p _S.n 0),.l (li 0)],wr:=[(_S.n,⟨[.o (_S.n+1) (z6 s).length,li 0],.t 125⟩),(_S.n+1,⟨o4 (z6 s),.r 123 8 (_S.n+1)⟩)],nw:=2}|_=>none
 |_=>none)
 lp:=fun r=>match r with|5=>some (fun _ K=>((∀j,j<(z6 s).length->(!bS (ea (z6 s) j))=true)->K (.exit 0) (yO (z6 s) (z6 s).length))/\(∀j,j<(z6 s).length->(∀i,i<j->(!bS (ea (z6 s) i))=true)->(!bS (ea (z6 s) j))=false->K .ret (Nw (z6 s) j)))|_=>none}
theorem c8o (s:ByteArray) (hs:s.size<=1000000000000000000) (he:t9 s=0) (n:Nat):f4 prog 33 [.c (.l (.v (.string s)))] [] n (iv .i64 (Pu (z6 s))) [] 0:=by
 refine v6 (q:=let a:=[Cp.l (Leaf.p 0 0),Cp.l (li 0)];let b:=z6 s;let d:=[Leaf.o 1 b.length,li 0];let e:=(∀(j:Nat),j<b.length->(!bS (ea b j))=true);Kd 15 [] [l4 (l9 s)] [] 0 (SV.tup a) [(0,j9 d 125),(1,o8 (o4 b) 123 8 1)] 2/\(l3 prog (gl 5 Tryz.f33) (St.mk [(22,i8 0),(21,i8 (b.length:Int)),(20,l4 (Leaf.o 1 b.length)),(19,j7 0 0),(18,j7 0 0),(17,j7 0 0),(15,bv false),(14,i8 0),(4,i8 0),(3,j7 0 0),(13,i8 0),(12,j7 0 0),(9,SV.tup a),(11,SV.tup a),(10,l4 (l9 s)),(2,i8 0),(0,l4 (l9 s))] [(0,some (j9 d 125)),(1,some (o8 (o4 b) 123 8 1))] 2 43 [0,1] 0) fun K=>(e->K (Exit.exit 0) (yO b b.length))/\∀(j:Nat),j<b.length->(∀(i:Nat),i<j->(!bS (ea b i))=true)->(!bS (ea b j))=false->K Exit.ret (Nw b j))/\(e->Le (i8 0) (i8 (Pu b))/\True)/\∀(j:Nat),j<b.length->(∀(i:Nat),i<j->(!bS (ea b i))=true)->(!bS (ea b j))=false->Le (i8 (Ty (ea b j))) (i8 (Pu b))/\True) (Vb s) func33 n (by kernel_rfl) (by kernel_rfl) ?_
 with_reducible repeat' first|exact trivial|apply And.intro|apply HB.mk|intro _
 all_goals first|exact Dx s hs he _|exact l3.tk (yO (z6 s) 0) (by kernel_rfl) (d5 (l6.k (by kernel_rfl)) (d5 (l6.p (g9 _) (by kernel_rfl)) trivial)) (fun K hT=>b6n (z6 s) (iK he).b _ 0 rfl (Nat.zero_le _) (fun j hj=>absurd hj (Nat.not_lt_zero j)) K hT.1 hT.2)|refine Le.int ?_;exact (yZ (by with_reducible assumption)).symm|refine Le.int ?_;exact (yK (by with_reducible assumption) (by with_reducible assumption) (by with_reducible assumption)).symm
def a2w (s:ByteArray):Cz:={
 ct:=(fun f=>match f with
 |35=>some fun _ _=>fun | [.c (.l (.v (.string q)))]=>some {v:=ag [.v (.pointer none),li (t9 s)]}|_=>none
 |_=>none)
 nf:=[(10,bv true)],lp:=fun _=>some (fun _ _=>True),wh:=[82]}
theorem c9a (s:ByteArray) (hs:s.size<=1000000000000000000) (he:t9 s≠0) (n:Nat):f4 prog 36 [.c (.l (.v (.string s)))] [] n (iv .i64 (t9 s)) [] 0:=by
 refine v6 (q:=Kd 35 [] [l4 (l9 s)] [] 0 (ag [Leaf.v (Value.pointer none),li (t9 s)]) [] 0/\0=0/\2=2/\Le (bv (t9 s != 0)) (bv true)/\Le (i8 (t9 s)) (i8 (t9 s))/\True) (a2w s) func36 n (by kernel_rfl) (by kernel_rfl) ?_
 with_reducible repeat' first|exact trivial|apply And.intro|apply HB.mk|intro _|exact Le.refl _|rfl
 all_goals first|exact kG s hs he _|with_reducible exact Le.bool (b9q he)
def Vm (s:ByteArray):Cz:={
 ct:=(fun f=>match f with
 |35=>some fun _ _S=>fun | [.c (.l (.v (.string q)))]=>some {v:=ag [.p _S.n 0,li 0],wr:=[(_S.n,⟨[.o (_S.n+1) (z6 s).length,li 0],.t 91⟩),(_S.n+1,⟨o4 (z6 s),.r 59 8 (_S.n+1)⟩)],nw:=2}|_=>none
 |_=>none)
 lp:=fun r=>match r with|5=>some (fun _ K=>((∀j,j<(z6 s).length->(!bS (ea (z6 s) j))=true)->K (.exit 0) (xL (z6 s) (z6 s).length))/\(∀j,j<(z6 s).length->(∀i,i<j->(!bS (ea (z6 s) i))=true)->(!bS (ea (z6 s) j))=false->K .ret (Rl (z6 s) j)))|_=>none,wh:=[82]}
theorem d1h (s:ByteArray) (hs:s.size<=1000000000000000000) (he:t9 s=0) (n:Nat):f4 prog 36 [.c (.l (.v (.string s)))] [] n (iv .i64 (Pu (z6 s))) [] 0:=by
 refine v6 (q:=let a:=[Leaf.p 0 0,li 0];let b:=z6 s;let d:=[Leaf.o 1 b.length,li 0];let e:=(∀(j:Nat),j<b.length->(!bS (ea b j))=true);Kd 35 [] [l4 (l9 s)] [] 0 (ag a) [(0,j9 d 91),(1,o8 (o4 b) 59 8 1)] 2/\0=0/\2=2/\(l3 prog (gl 5 Tryz.f36) (St.mk [(4,i8 0),(10,bv false),(9,i8 0),(8,j7 2 1),(3,j7 2 0),(7,ag a),(6,l4 (l9 s)),(2,i8 0),(0,l4 (l9 s))] [(2,some (j9 a 82)),(2,some (j9 [Leaf.v (Value.pointer none),li 0] 82)),(0,some (j9 d 91)),(1,some (o8 (o4 b) 59 8 1))] 3 45 [2,2,0,1] 0) fun K=>(e->K (Exit.exit 0) (xL b b.length))/\∀(j:Nat),j<b.length->(∀(i:Nat),i<j->(!bS (ea b i))=true)->(!bS (ea b j))=false->K Exit.ret (Rl b j))/\(e->Le (i8 0) (i8 (Pu b))/\True)/\∀(j:Nat),j<b.length->(∀(i:Nat),i<j->(!bS (ea b i))=true)->(!bS (ea b j))=false->Le (i8 (Ty (ea b j))) (i8 (Pu b))/\True) (Vm s) func36 n (by kernel_rfl) (by kernel_rfl) ?_
 with_reducible repeat' first|exact trivial|apply And.intro|apply HB.mk|intro _|rfl
 all_goals first|exact oJ s hs he _|exact l3.tk (xL (z6 s) 0) (by kernel_rfl) (d5 (l6.k (by kernel_rfl)) (d5 (l6.p (g9 _) (by kernel_rfl)) (N0.k (by kernel_rfl)))) (fun K hT=>b8y (z6 s) (iK he).b _ 0 rfl (Nat.zero_le _) (fun j hj=>absurd hj (Nat.not_lt_zero j)) K hT.1 hT.2)|refine Le.int ?_;exact (yZ (by with_reducible assumption)).symm|refine Le.int ?_;exact (yK (by with_reducible assumption) (by with_reducible assumption) (by with_reducible assumption)).symm
def jS (s:ByteArray):Int:=if t9 s=0 then Pu (z6 s) else t9 s
theorem rX (s:ByteArray) (hs:s.size<=1000000000000000000) (n:Nat):f4 prog 33 [.c (.l (.v (.string s)))] [] n (iv .i64 (jS s)) [] 0:=by
 unfold jS
 by_cases he:t9 s=0
 ·rw[if_pos he];exact c8o s hs he n
 ·rw[if_neg he];exact d1f s hs he n
theorem oR (s:ByteArray) (hs:s.size<=1000000000000000000) (n:Nat):f4 prog 36 [.c (.l (.v (.string s)))] [] n (iv .i64 (jS s)) [] 0:=by
 unfold jS
 by_cases he:t9 s=0
 ·rw[if_pos he];exact d1h s hs he n
 ·rw[if_neg he];exact c9a s hs he n
end Ab
end
section
namespace Ab
attribute [local irreducible] j8
attribute [local irreducible] tl n8
theorem a1q (L:List EN) (d:Int) (c:R4) (hG:x7 L) (hX:GoodX L) (h0:0<=d) (hd:d<=900000000) (hx:P4 L (wR c)=none) (n:Nat) (hn:3<=n):f4 prog 80 [.c (.l (.p 0 0)),.c (.l (.f 82 [(2,0)]))] [(0,⟨[.o 1 L.length,li d],.t 125⟩),(1,⟨o4 L,.r 123 8 1⟩),(2,⟨[li c.x0,li c.y0,li c.x1,li c.y1],.t 66⟩)] n (.tup [.agg [.o n (v7 L (wR c) L.length).length],.l (li 0)]) [(0,⟨[.o 1 L.length,li (d+B6 L (wR c) L.length)],.t 125⟩),(n,⟨n8 (v7 L (wR c) L.length),.r 42 258 n⟩)] 1:=by
 have key:=j8.at3 (c5c L d c hG h0 hd hX hx) 0 1 2 n (by omega) (by omega) (by omega) (by decide) (by decide) (by decide)
 simp only[List.map_cons,List.map_nil,n6.ren,SV.ren,Cp.ren,Leaf.ren,BT.ren,j5 (g9 _),j5 (i9 _)] at key
 exact key
theorem Vs (L:List EN) (d:Int) (c:R4) (hG:x7 L) (hX:GoodX L) (h0:0<=d) (hd:d<=900000000) (hx:P4 L (wR c)≠none) (n:Nat) (hn:3<=n):f4 prog 80 [.c (.l (.p 0 0)),.c (.l (.f 82 [(2,0)]))] [(0,⟨[.o 1 L.length,li d],.t 125⟩),(1,⟨o4 L,.r 123 8 1⟩),(2,⟨[li c.x0,li c.y0,li c.x1,li c.y1],.t 66⟩)] n (.tup [.agg [.v (.slice none 0 0)],.l (li (M9 L (wR c)))]) [(0,⟨[.o 1 L.length,li (d+A7 L (wR c))],.t 125⟩)] 0:=by
 have key:=j8.at3 (c2o L d c hG h0 hd hX hx) 0 1 2 n (by omega) (by omega) (by omega) (by decide) (by decide) (by decide)
 simp only[List.map_cons,List.map_nil,n6.ren,SV.ren,Cp.ren,Leaf.ren,BT.ren,j5 (g9 _)] at key
 exact key
def a3u (L:List EN) (d:Int) (c:R4):Cz:={
 ct:=(fun f=>match f with
 |32=>some fun _ _S=>fun | [.c (.agg [.o i _]),_]=>some {v:=.c (.agg [.o _S.n (C8 c (v7 L (wR c) L.length) (v7 L (wR c) L.length).length).length]),rd:=[i],wr:=[(_S.n,⟨n8 (C8 c (v7 L (wR c) L.length) (v7 L (wR c) L.length).length),.r 42 258 _S.n⟩)],nw:=1}|_=>none
 |80=>some fun _ _S=>fun | [_,_]=>some {v:=.tup [.agg [.o _S.n (v7 L (wR c) L.length).length],.l (li 0)],rd:=[0,1,2],wr:=[(0,⟨[.o 1 L.length,li (d+B6 L (wR c) L.length)],.t 125⟩),(_S.n,⟨n8 (v7 L (wR c) L.length),.r 42 258 _S.n⟩)],nw:=1}|_=>none
 |_=>none)
 wh:=[26,66]}
theorem d1x (L:List EN) (d:Int) (c:R4) (hG:x7 L) (hX:GoodX L) (h0:0<=d) (hd:d<=900000000) (hx:P4 L (wR c)=none) (gl:Good (v7 L (wR c) L.length)):f4 prog 24 [.c (.l (.p 0 0)),ag [li c.x0,li c.y0,li c.x1,li c.y1]] [(0,⟨[.o 1 L.length,li d],.t 125⟩),(1,⟨o4 L,.r 123 8 1⟩)] 2 (.tup [.agg [.o 2 (C8 c (v7 L (wR c) L.length) (v7 L (wR c) L.length).length).length],.l (li 0)]) [(0,⟨[.o 1 L.length,li (d+B6 L (wR c) L.length)],.t 125⟩),(2,⟨n8 (C8 c (v7 L (wR c) L.length) (v7 L (wR c) L.length).length),.r 42 258 2⟩)] 1:=by
 refine E3 (q:=let a:=[li c.x0,li c.y0,li c.x1,li c.y1];let b:=v7 L (wR c) L.length;let e:=[Leaf.o 4 b.length];let g:=[Leaf.o 1 L.length,li (d+B6 L (wR c) L.length)];let h:=(4,o8 (n8 b) 42 258 4);let i:=C8 c b b.length;let j:=(SV.tup [Cp.agg [Leaf.o 2 i.length],Cp.l (li 0)]);Kd 80 [] [j7 0 0,l4 (Leaf.f 82 [(2,0)])] [(0,j9 [Leaf.o 1 L.length,li d] 125),(1,o8 (o4 L) 123 8 1),(2,j9 a 66)] 4 (SV.tup [Cp.agg e,Cp.l (li 0)]) [(0,j9 g 125),h] 1/\0=0/\1=1/\Kd 32 [] [ag e,ag a] [h] 6 (ag [Leaf.o 6 i.length]) [(6,o8 (n8 i) 42 258 6)] 1/\0=0/\1=1/\Le j j/\A5 (x8 2 0 [6]) (j9 g 125) (j9 g 125)/\A5 (x8 2 0 [6]) (o8 (n8 i) 42 258 6) (o8 (n8 i) 42 258 2)/\True) (a3u L d c) [6] func24 (D9 (g9 L) (by kernel_rfl)) (by kernel_rfl) ?_
 with_reducible repeat' first|exact trivial|apply And.intro|apply HB.mk|intro _
 all_goals first|(with_reducible first|exact Le.refl _|rfl|exact Rz c _ gl _ _ (by omega)|exact a1q L d c hG hX h0 hd hx _ (by omega))|exact A5.plain rfl (i9 _) (by kernel_rfl)|exact A5.of (by kernel_rfl)
def a3a (L:List EN) (d:Int) (c:R4):Cz:={
 ct:=(fun f=>match f with
 |32=>some fun _ _=>fun | [.c (.agg [.v (.slice none _ _)]),_]=>some {v:=ag [.v (.slice none 0 0)]}|_=>none
 |80=>some fun _ _=>fun | [_,_]=>some {v:=.tup [.agg [.v (.slice none 0 0)],.l (li (M9 L (wR c)))],rd:=[0,1,2],wr:=[(0,⟨[.o 1 L.length,li (d+A7 L (wR c))],.t 125⟩)]}|_=>none
 |_=>none)
 wh:=[26,66]}
theorem c7g (L:List EN) (d:Int) (c:R4) (hG:x7 L) (hX:GoodX L) (h0:0<=d) (hd:d<=900000000) (hx:P4 L (wR c)≠none):f4 prog 24 [.c (.l (.p 0 0)),ag [li c.x0,li c.y0,li c.x1,li c.y1]] [(0,⟨[.o 1 L.length,li d],.t 125⟩),(1,⟨o4 L,.r 123 8 1⟩)] 2 (.tup [.agg [.v (.slice none 0 0)],.l (li (M9 L (wR c)))]) [(0,⟨[.o 1 L.length,li (d+A7 L (wR c))],.t 125⟩)] 0:=by
 refine E3 (q:=let a:=[li c.x0,li c.y0,li c.x1,li c.y1];let b:=[Leaf.v (Value.slice none 0 0)];let e:=(SV.tup [Cp.agg b,Cp.l (li (M9 L (wR c)))]);let g:=[Leaf.o 1 L.length,li (d+A7 L (wR c))];Kd 80 [] [j7 0 0,l4 (Leaf.f 82 [(2,0)])] [(0,j9 [Leaf.o 1 L.length,li d] 125),(1,o8 (o4 L) 123 8 1),(2,j9 a 66)] 4 e [(0,j9 g 125)] 0/\0=0/\1=1/\Kd 32 [] [ag b,ag a] [] 5 (ag b) [] 0/\0=0/\1=1/\Le e e/\A5 (x8 2 0 []) (j9 g 125) (j9 g 125)/\True) (a3a L d c) [] func24 (D9 (g9 L) (by kernel_rfl)) (by kernel_rfl) ?_
 with_reducible repeat' first|exact trivial|apply And.intro|apply HB.mk|intro _
 all_goals first|(with_reducible first|exact Le.refl _|rfl|exact d2f c _|exact Vs L d c hG hX h0 hd hx _ (by omega))|exact A5.of (by kernel_rfl)
theorem Ws (L:List EN) (d:Int) (c:R4) (hG:x7 L) (hX:GoodX L) (h0:0<=d) (hd:d<=900000000) (hx:P4 L (wR c)=none) (gl:Good (v7 L (wR c) L.length)) (id i n:Nat) (h1:id<n) (h2:i<n) (h3:id≠i):f4 prog 24 [.c (.l (.p id 0)),ag [li c.x0,li c.y0,li c.x1,li c.y1]] [(id,⟨[.o i L.length,li d],.t 125⟩),(i,⟨o4 L,.r 123 8 i⟩)] n (.tup [.agg [.o n (C8 c (v7 L (wR c) L.length) (v7 L (wR c) L.length).length).length],.l (li 0)]) [(id,⟨[.o i L.length,li (d+B6 L (wR c) L.length)],.t 125⟩),(n,⟨n8 (C8 c (v7 L (wR c) L.length) (v7 L (wR c) L.length).length),.r 42 258 n⟩)] 1:=by
 have key:=j8.at2 (d1x L d c hG hX h0 hd hx gl) id i n h1 h2 h3
 simp only[List.map_cons,List.map_nil,n6.ren,SV.ren,Cp.ren,Leaf.ren,BT.ren,j5 (g9 _),j5 (i9 _)] at key
 exact key
theorem Nj (L:List EN) (d:Int) (c:R4) (hG:x7 L) (hX:GoodX L) (h0:0<=d) (hd:d<=900000000) (hx:P4 L (wR c)≠none) (id i n:Nat) (h1:id<n) (h2:i<n) (h3:id≠i):f4 prog 24 [.c (.l (.p id 0)),ag [li c.x0,li c.y0,li c.x1,li c.y1]] [(id,⟨[.o i L.length,li d],.t 125⟩),(i,⟨o4 L,.r 123 8 i⟩)] n (.tup [.agg [.v (.slice none 0 0)],.l (li (M9 L (wR c)))]) [(id,⟨[.o i L.length,li (d+A7 L (wR c))],.t 125⟩)] 0:=by
 have key:=j8.at2 (c7g L d c hG hX h0 hd hx) id i n h1 h2 h3
 simp only[List.map_cons,List.map_nil,n6.ren,SV.ren,Cp.ren,Leaf.ren,BT.ren,j5 (g9 _)] at key
 exact key
end Ab
end
section
namespace Ab
attribute [local irreducible] j8
attribute [local irreducible] tl n8 D1
structure GoodW (L:List EN):Prop where
 len:L.length<=1024
 x:∀k,k<L.length->-10000<=(ea L k).X/\(ea L k).X<=10000
 y:∀k,k<L.length->-10000<=(ea L k).Y/\(ea L k).Y<=10000
 s:∀k,k<L.length->0<=(ea L k).sum/\(ea L k).sum<8589934592
 b:∀k,k<L.length->(ea L k).blob.size<=258
theorem lI {L:List EN} (g:GoodW L):∀k,k<=L.length->(Tk L k).size<=258*k
 |0,_=>Nat.le_refl _
 |k+1,h=>by
  have h1:=lI g k (by omega)
  have h2:=g.b k (by omega)
  rw[Tk,ByteArray.size_append]
  omega
def xI (L:List EN) (k:Nat):St:=⟨[(5,iv .i64 (k:Nat)),(3,.c (.l (.v (.string (lU L k))))),(4,.c (.l (.v (.string (Tk L k))))),(0,.c (.l (.o 0 L.length)))],[(0,some ⟨o4 L,.r 59 8 0⟩)],1,62,[],(1)⟩
def c3z:Rw:=some fun _ _=>fun | [.c (.l (.v (.string s)))]=>some {v:=iv .u32 (Oct.M.sum s.data.toList:Nat)}|_=>none
def c4s:Rw:=some fun _ _=>fun | [.c (.agg [.v (.int _ a),.v (.int _ b),.v (.int _ c),.v (.int _ e)])]=>some {v:=.c (.l (.v (.string ⟨#[C9 a,C9 b,C9 c,C9 e]⟩)))}|_=>none
def b7q:Rw:=some fun _ _=>fun | [.c (.l (.v (.string s)))]=>some {v:=.c (.l (.v (.string ⟨(Oct.Fo s).toArray⟩)))}|_=>none
def a0j (L:List EN) (k:Nat):Cz:={
 ct:=(fun f=>match f with
 |72=>c3z
 |73=>some fun _ _=>fun | [.c (.l (.v (.int _ k)))]=>some {v:=.c (.l (.v (.string ⟨(Oct.M.R2 (Oct.Q7 k)).toArray⟩)))}|_=>none
 |74=>some fun _ _=>fun | [.c (.l (.v (.int _ k))),.c (.l (.v (.int _ m)))]=>some {v:=.c (.l (.v (.string ⟨(Oct.M.be (Oct.sz m) (Oct.Q7 k)).toArray⟩)))}|_=>none
 |75=>c4s
 |76=>b7q
 |_=>none)
 sym:=[18,19],nf:=[(19,.c (.agg (en (ea L k)))),(25,.c (.l (.v (.string (K9 ((ea L k).X+8192) 2))))),(31,.c (.l (.v (.string (K9 ((ea L k).Y+8192) 2))))),(35,.c (.l (.v (.string (dJ (ea L k)))))),(40,.c (.l (.v (.string (sL (ea L k).blob.size))))),(44,.c (.l (.v (.string (K9 (ea L k).sum 4)))))],wh:=[59]}
theorem c6i (L:List EN) (k:Nat)  (K:Exit->St->Prop) (h:let e:=((k:Int));let f:=((ea L k).a.toNat:Int);let g:=((ea L k).b.toNat:Int);let i:=((ea L k).c.toNat:Int);let j:=((ea L k).d.toNat:Int);let m:=(ea L k).X+8192;let n:=l4 (l9 (ByteArray.mk (Oct.M.be (Oct.sz 2) (Oct.Q7 m)).toArray));let p:=(ea L k).Y+8192;let q:=l4 (l9 (ByteArray.mk (Oct.M.be (Oct.sz 2) (Oct.Q7 p)).toArray));let s:=(l4 (l9 (ByteArray.mk #[C9 f,C9 g,C9 i,C9 j])));let t:=dJ (ea L k);let u:=((ea L k).blob.size:Int);let w:=l4 (l9 (ByteArray.mk (Oct.M.R2 (Oct.Q7 u)).toArray));let x:=l4 (l9 (ByteArray.mk (Oct.M.be (Oct.sz 4) (Oct.Q7 (ea L k).sum)).toArray));let y:=K9 (ea L k).sum 4;let z:=(0,l4 (Leaf.o 0 L.length));let A:=[(0,some (o8 (o4 L) 59 8 0))];HB (decide ((k:Int)<(L.length:Int))) (t0 e L.length/\e.toNat*8+8<=(o4 L).length/\Le (ag (List.take 8 (List.drop (e.toNat*8) (o4 L)))) (ag [li (ea L k).X,li (ea L k).Y,l8 f,l8 g,l8 i,l8 j,li (ea L k).sum,l9 ((ea L k).blob)])/\0=0/\8=8/\IntKind.i64.wrap m=(ea L k).X+8192/\Kd 74 [] [i8 m,i8 2] [] 2 n [] 0/\Le n (l4 (l9 (K9 m 2)))/\(Nat.cast (((lU L k).size+(K9 m 2).size)):Int)<=IntKind.i64.max/\IntKind.i64.wrap p=(ea L k).Y+8192/\Kd 74 [] [i8 p,i8 2] [] 2 q [] 0/\Le q (l4 (l9 (K9 p 2)))/\(Nat.cast (((lU L k++K9 m 2).size+(K9 p 2).size)):Int)<=IntKind.i64.max/\Kd 75 [] [ag [l8 f,l8 g,l8 i,l8 j]] [] 2 s [] 0/\Le s (l4 (l9 t))/\(Nat.cast (((lU L k++K9 m 2++K9 p 2).size+t.size)):Int)<=IntKind.i64.max/\Kd 73 [] [i8 u] [] 2 w [] 0/\Le w (l4 (l9 (sL u)))/\(Nat.cast (((lU L k++K9 m 2++K9 p 2++dJ (ea L k)).size+(sL u).size)):Int)<=IntKind.i64.max/\Kd 74 [] [i8 (ea L k).sum,i8 4] [] 2 x [] 0/\Le x (l4 (l9 y))/\(Nat.cast (((lU L k++K9 m 2++K9 p 2++dJ (ea L k)++sL u).size+y.size)):Int)<=IntKind.i64.max/\(Nat.cast (((Tk L k).size+(ea L k).blob.size)):Int)<=IntKind.i64.max/\IntKind.i64.wrap ((k:Int)+1)=(k:Int)+1/\RoundTo prog (gl 4 Tryz.f21) 1 (wkK 1 K) (St.mk [z,(3,l4 (l9 (lU L k++K9 m 2++K9 p 2++dJ (ea L k)++sL u++K9 (ea L k).sum 4))),(4,l4 (l9 (Tk L k++(ea L k).blob))),(5,i8 ((k:Int)+1))] A 2 62 [1,1] 1)) (wkK 1 K (Exit.exit 0) (St.mk [z,(3,l4 (l9 (lU L k))),(4,l4 (l9 (Tk L k))),(5,i8 (k:Int))] A 1 62 [] 1))):z4 prog (gl 4 Tryz.f21) (xI L k) (wkK 1 K):=
 m5 [0,3,4,5] [0] (cx:=a0j L k) rfl (u3 (by kernel_rfl) h)
theorem c4m (L:List EN) (g:GoodW L):∀(m k:Nat),L.length-k=m->k<=L.length->∀(K:Exit->St->Prop),K (.exit 0) (xI L L.length)->z4 prog (gl 4 Tryz.f21) (xI L k) (wkK 1 K)
 |0,k,hm,hk,K,hK=>by
  have e:k=L.length:=by omega
  subst e
  refine c6i L _ K (HB.no (by omega) ?_)
  exact wkK.tk (xI L _) (by kernel_rfl) (d5 (l6.p (g9 _) (by kernel_rfl)) trivial) hK
 |m+1,k,hm,hk,K,hK=>by
  refine c6i L k K (HB.yes (by omega) ?_)
  have hlt:k<L.length:=by omega
  have h4:=g.len
  have hX:=g.x k hlt
  have hY:=g.y k hlt
  have hb:=g.b k hlt
  have hs:=g.s k hlt
  have hh:=tH L k
  have hbl:=lI g k (by omega)
  have hv:=uP (ea L k).blob.size
  with_reducible repeat' first|exact trivial|apply And.intro|apply HB.mk|intro _
  all_goals first|(with_reducible first|rfl|exact C73 _ _|exact C74 _ _ _|exact b7o _ _ _ _ _)|(exact ⟨by omega,by omega⟩)|rw[y6];omega|refine Le.of ?_;simp only[tn,Nat.zero_add,Nat.add_zero];rw[bG hlt];rfl|exact C2 _ (by omega) (by omega)|refine Le.of ?_;rw[c5t];done|rw[IntKind.max_i64];(try simp only[ByteArray.size_append,kX,sz2,sz4,Lr]);omega|(with_reducible refine RoundTo.toN 2 (xI L (k+1)) ?_ ?_ ?_ ?_ ?_);exact Nat.le_refl _;kernel_rfl;exact (q7 (J7.k (by kernel_rfl)) (q7 (by rw[<-Ob];exact J7.sl (by kernel_rfl) rfl) (q7 (by rw[Tk];exact J7.sl (by kernel_rfl) rfl) (eD.k (by kernel_rfl)))));exact (d5 (l6.p (g9 _) (by kernel_rfl)) trivial);exact (c4m L g m (k+1) (by omega) (by omega) K hK)|exact Le.of rfl
def a0w (L:List EN):Cz:={
 ct:=(fun f=>match f with
 |72=>c3z
 |73=>some fun _ _=>fun | [.c (.l (.v (.int _ k)))]=>some {v:=.c (.l (.v (.string ⟨(Oct.M.R2 (Oct.Q7 k)).toArray⟩)))}|_=>none
 |74=>some fun _ _=>fun | [.c (.l (.v (.int _ k))),.c (.l (.v (.int _ m)))]=>some {v:=.c (.l (.v (.string ⟨(Oct.M.be (Oct.sz m) (Oct.Q7 k)).toArray⟩)))}|_=>none
 |75=>c4s
 |76=>b7q
 |_=>none)
 nf:=[(9,.c (.l (.v (.string (lU L 0))))),(51,.c (.l (.v (.string ⟨#[71,1]⟩)))),(53,.c (.l (.v (.string (yJ (lU L L.length)))))),(57,iv .i64 (z7 (lU L L.length))),(58,.c (.l (.v (.string (K9 (z7 (lU L L.length)) 4))))),(61,.c (.l (.v (.string (n9 L)))))],lp:=fun r=>match r with|4=>some (fun _ K=>K (.exit 0) (xI L L.length))|_=>none}
theorem d0o (L:List EN) (g:GoodW L):f4 prog 21 [.c (.l (.o 0 L.length))] [(0,⟨o4 L,.r 59 8 0⟩)] 1 (.c (.l (.v (.string (n9 L))))) [] 0:=by
 have h4:=g.len
 have hh:=tH L L.length
 have hbl:=lI g L.length (Nat.le_refl _)
 have ht:=Dv (lU L L.length) (by omega)
 have e71:(⟨#[71,1]⟩:ByteArray).size=2:=rfl
 refine E3 (q:=let a:=(L.length:Int);let b:=l4 (l9 (ByteArray.mk (Oct.M.R2 (Oct.Q7 a)).toArray));let d:=l9 (lU L 0);let e:=l9 (ByteArray.mk #[]);let f:=Leaf.o 0 L.length;let g:=(ByteArray.mk #[71,1]);let h:=lU L L.length;let i:=l4 (l9 (ByteArray.mk (Oct.Fo h).toArray));let j:=(Nat.cast ((Oct.M.sum h.data.toList)):Int);let k:=z7 h;let m:=l4 (l9 (ByteArray.mk (Oct.M.be (Oct.sz 4) (Oct.Q7 k)).toArray));let n:=l4 (l9 (n9 L));Kd 73 [] [i8 a] [] 1 b [] 0/\Le b (l4 d)/\(l3 prog (gl 4 Tryz.f21) (St.mk [(5,i8 0),(4,l4 e),(3,l4 d),(9,l4 d),(8,i8 a),(7,l4 f),(2,l4 e),(0,l4 f)] [(0,some (o8 (o4 L) 59 8 0))] 1 62 [] 1) fun K=>K (Exit.exit 0) (xI L L.length))/\D8 71/\D8 1/\Le (l4 (l9 (strOf [71,1]))) (l4 (l9 g))/\Kd 76 [] [l4 (l9 h)] [] 2 i [] 0/\Le i (l4 (l9 (yJ h)))/\(Nat.cast ((g.size+(yJ h).size)):Int)<=IntKind.i64.max/\Kd 72 [] [l4 (l9 h)] [] 2 (iv .u32 j) [] 0/\Le (i8 (IntKind.i64.wrap j)) (i8 k)/\Kd 74 [] [i8 k,i8 4] [] 2 m [] 0/\Le m (l4 (l9 (K9 k 4)))/\(Nat.cast (((ByteArray.mk #[71,1]++yJ h).size+(K9 k 4).size)):Int)<=IntKind.i64.max/\(Nat.cast (((ByteArray.mk #[71,1]++yJ h++K9 k 4).size+(Tk L L.length).size)):Int)<=IntKind.i64.max/\Le (l4 (l9 (ByteArray.mk #[71,1]++yJ h++K9 k 4++Tk L L.length))) n/\Le n n/\True) (a0w L) [] func21 (iB (g9 L) (by kernel_rfl)) (by kernel_rfl) ?_
 with_reducible repeat' first|exact trivial|apply And.intro|apply HB.mk|intro _|exact Le.refl _
 all_goals first|(with_reducible refine C72 _ ?_ _)<;>omega|(with_reducible first|exact C73 _ _|exact C74 _ _ _)|(with_reducible refine C76 _ ?_ _)<;>omega|exact l3.tk (xI L 0) (by kernel_rfl) (d5 (l6.p (g9 _) (by kernel_rfl)) trivial) (fun K hT=>c4m L g _ 0 rfl (by first|decide|omega) K hT)|with_reducible exact Le.int (Mj _)|unfold D8;decide|exact Le.of (congrArg (fun s=>SV.c (.l (.v (.string s)))) (P7 [71,1]))|rw[IntKind.max_i64];(try simp only[ByteArray.size_append,kX,sz2,sz4,e71]);omega|exact Le.of rfl
theorem oM (L:List EN) (g:GoodW L) (id n:Nat) (hi:id<n):f4 prog 21 [.c (.l (.o id L.length))] [(id,⟨o4 L,.r 59 8 id⟩)] n (.c (.l (.v (.string (n9 L))))) [] 0:=by
 have key:=f4.at1 (d0o L g) id n hi
 simp only[List.map_cons,List.map_nil,n6.ren,SV.ren,Cp.ren,Leaf.ren,BT.ren,j5 (g9 _)] at key
 exact key
end Ab
end
section
namespace Ab
def vQ (s:ByteArray) (i:Nat) (v:UInt8):ByteArray:=⟨(s.data.toList.set i v).toArray⟩
theorem nY (s:ByteArray) (i:Nat) (v:UInt8):(vQ s i v).size=s.size:=by
 show (s.data.toList.set i v).toArray.size=s.data.size
 simp
section
variable {l:List TA} {K:Nat} {nb:ByteArray}
variable (g:Good l) (hK:K<l.length) (hne:z7 nb≠z7 (D1 (r8 l K).t))
include hne in
end
end Ab
end
end Go.Proofs.YtpdckpifhniioaaGreat
