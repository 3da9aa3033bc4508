/- Part 7 of what CodecOpens rests on. -/
import Derived.Deep.DeepCutAuto
import Derived.Deep.CutBlock
import Derived.Deep.LoopGhost
import Derived.Deep.WholeRow
import Derived.Laws.OwnMore
import Derived.BigQuiet
import Derived.Lib.Strings
import Derived.Test.YtpdckpifhniioaaGreatWf
open Go.Proofs.Tryz
set_option maxRecDepth 100000
set_option maxHeartbeats 8000000
set_option linter.unusedVariables false
set_option linter.unusedSimpArgs false
namespace Go.Proofs.YtpdckpifhniioaaGreat
open Go.RowKit
section
namespace Ab
attribute [local irreducible] j8
def N6 (c:R4) (e:TA):Nat->UInt8:=fun i=>vK (N4 c (e.X*8+((i / 4:Nat):Int).tmod 8) (e.Y*8+((i / 4:Nat):Int).tdiv 8)) (e.t i)
def Fv (c:R4) (e:TA):TA:=⟨e.X,e.Y,N6 c e⟩
def C8 (c:R4) (l:List TA):Nat->List TA
 |0=>[]
 |k+1=>bif n5 (N6 c (r8 l k)) then C8 c l k else C8 c l k++[Fv c (r8 l k)]
def U0 (c:R4) (e:TA) (i:Nat):TA:=⟨e.X,e.Y,C4 i (N6 c e) e.t⟩
def vY (c:R4) (l:List TA) (k i:Nat):St:=⟨[(18,iv .i64 (i:Nat)),(17,.c (.agg (tl (r8 l k).t))),(7,.c (.l (.p 3 0))),(1,.c (.l (.f 89 [(1,0)]))),(12,iv .i64 (k:Nat)),(11,iv .i64 (l.length:Nat)),(10,.c (.l (.o 0 l.length))),(5,.c (.l (.o 2 (C8 c l k).length)))],[(0,some ⟨n8 l,.r 42 258 0⟩),(1,some ⟨[li c.x0,li c.y0,li c.x1,li c.y1],.t 66⟩),(2,some ⟨n8 (C8 c l k),.r 42 258 2⟩),(3,some ⟨el (U0 c (r8 l k) i),.t 42⟩)],4,53,[3,2],(2)⟩
theorem b0e (c:R4) (e:TA) (i:Nat):[ub (vK (N4 c (e.X*8+((i:Nat):Int).tmod 8) (e.Y*8+((i:Nat):Int).tdiv 8)) (e.t (4*i))),ub (vK (N4 c (e.X*8+((i:Nat):Int).tmod 8) (e.Y*8+((i:Nat):Int).tdiv 8)) (e.t (4*i+1))),ub (vK (N4 c (e.X*8+((i:Nat):Int).tmod 8) (e.Y*8+((i:Nat):Int).tdiv 8)) (e.t (4*i+2))),ub (vK (N4 c (e.X*8+((i:Nat):Int).tmod 8) (e.Y*8+((i:Nat):Int).tdiv 8)) (e.t (4*i+3)))]=[ub (N6 c e (4*i)),ub (N6 c e (4*i+1)),ub (N6 c e (4*i+2)),ub (N6 c e (4*i+3))]:=by
 obtain ⟨h0,h1,h2,h3⟩:=a5t i
 unfold N6
 rw[h0,h1,h2,h3]
theorem c8i (c:R4) (e:TA) (i:Nat) (id n:Nat) (hi:id<n):f4 prog 89 [iv .i64 (e.X*8+((i:Nat):Int).tmod 8),iv .i64 (e.Y*8+((i:Nat):Int).tdiv 8),ag [ub (e.t (4*i)),ub (e.t (4*i+1)),ub (e.t (4*i+2)),ub (e.t (4*i+3))],.c (.l (.p id 0))] [(id,⟨[li c.x0,li c.y0,li c.x1,li c.y1],.t 66⟩)] n (ag [ub (N6 c e (4*i)),ub (N6 c e (4*i+1)),ub (N6 c e (4*i+2)),ub (N6 c e (4*i+3))]) [] 0:=by
 rw[<-b0e];exact c7e c _ _ _ _ _ _ id n hi
theorem bK {α:Type} (x:α):∀(m l:List α) (n:Nat),j4 (x::l) (n+1) m=x::j4 l n m
 |[],_,_=>rfl
 |a::m,l,n=>by rw[j4,j4,List.set_cons_succ,bK x m]
theorem Dr (c:R4) (e:TA) {i:Nat} (hi:i<64):j4 (el (U0 c e i)) (2+i*4) [ub (N6 c e (4*i)),ub (N6 c e (4*i+1)),ub (N6 c e (4*i+2)),ub (N6 c e (4*i+3))]=el (U0 c e (i+1)):=by
 rw[show 2+i*4=i*4+1+1 by omega]
 unfold U0 el
 rw[bK,bK]
 rw[M4 i _ _ hi]
theorem zX (c:R4) (e:TA):el (U0 c e 0)=el e:=by
 unfold U0 el
 rw[L7]
theorem zS (c:R4) (e:TA):el (U0 c e 64)=el (Fv c e):=by
 unfold U0 Fv el
 rw[T7]
theorem b9g (t:Nat->UInt8) {i:Nat} (h:i<64):List.take 4 (List.drop (((i:Nat):Int).toNat*4) (tl t))=[ub (t (4*i)),ub (t (4*i+1)),ub (t (4*i+2)),ub (t (4*i+3))]:=by
 rw[show ((i:Nat):Int).toNat*4=i*4 by omega,cE _ h];rfl
def Zx (c:R4) (l:List TA) (j:Nat) (k:Nat):Cz:={
 ct:=(fun f=>match f with
 |89=>some fun _ _=>fun | [.c (.l (.v (.int _ _))),.c (.l (.v (.int _ _))),_,.c (.l (.p i _))]=>some {v:=ag [ub (N6 c (r8 l j) (4*k)),ub (N6 c (r8 l j) (4*k+1)),ub (N6 c (r8 l j) (4*k+2)),ub (N6 c (r8 l j) (4*k+3))],rd:=[i]}|_=>none
 |_=>none)
 sym:=[0,21,41],nf:=[(21,ag [ub ((r8 l j).t (4*k)),ub ((r8 l j).t (4*k+1)),ub ((r8 l j).t (4*k+2)),ub ((r8 l j).t (4*k+3))]),(26,iv .i64 (r8 l j).X),(33,iv .i64 (r8 l j).Y)]}
theorem b9y (c:R4) (l:List TA) (j:Nat) (k:Nat)  (K:Exit->St->Prop) (h:let a:=((k:Int));let b:=r8 l j;let d:=[l8 (Nat.cast ((b.t (4*k)).toNat):Int),l8 (Nat.cast ((b.t (4*k+1)).toNat):Int),l8 (Nat.cast ((b.t (4*k+2)).toNat):Int),l8 (Nat.cast ((b.t (4*k+3)).toNat):Int)];let e:=U0 c b k;let g:=b.X*8+a.tmod 8;let i:=b.Y*8+a.tdiv 8;let m:=[li c.x0,li c.y0,li c.x1,li c.y1];let n:=[l8 (Nat.cast ((N6 c b (4*k)).toNat):Int),l8 (Nat.cast ((N6 c b (4*k+1)).toNat):Int),l8 (Nat.cast ((N6 c b (4*k+2)).toNat):Int),l8 (Nat.cast ((N6 c b (4*k+3)).toNat):Int)];let q:=(1,l4 (Leaf.f 89 [(1,0)]));let s:=(5,l4 (Leaf.o 2 (C8 c l j).length));let u:=(10,l4 (Leaf.o 0 l.length));let w:=(11,i8 (l.length:Int));let x:=(12,i8 (j:Int));let y:=(17,ag (tl b.t));let z:=(0,some (o8 (n8 l) 42 258 0));let A:=(1,some (j9 m 66));let B:=(2,some (o8 (n8 (C8 c l j)) 42 258 2));HB (decide ((k:Int)<64)) (t0 a 64/\Le (ag (List.take 4 (List.drop (a.toNat*4) (tl b.t)))) (ag d)/\4<=4/\Le (i8 e.X) (i8 b.X)/\IntKind.i64.wrap (b.X*8)=b.X*8/\(8:Int)≠0/\IntKind.i64.wrap g=b.X*8+a.tmod 8/\Le (i8 e.Y) (i8 b.Y)/\IntKind.i64.wrap (b.Y*8)=b.Y*8/\(8:Int)≠0/\IntKind.i64.wrap (a.tdiv 8)=a.tdiv 8/\IntKind.i64.wrap i=b.Y*8+a.tdiv 8/\Kd 89 [] [i8 g,i8 i,ag d,j7 1 0] [(1,j9 m 66)] 5 (ag n) [] 0/\t0 a 64/\0+2+a.toNat*4+4<=258/\IntKind.i64.wrap ((k:Int)+1)=(k:Int)+1/\RoundTo prog (gl 6 Tryz.f88) 4 (wkK 4 K) (St.mk [q,s,(7,j7 3 0),u,w,x,y,(18,i8 ((k:Int)+1))] [z,A,B,(3,some (j9 (j4 (el e) (0+2+a.toNat*4) n) 42))] 5 53 [3,4,4,3,2] 2)) (wkK 4 K (Exit.exit 2) (St.mk [q,s,(7,j7 3 0),u,w,x,y,(18,i8 (k:Int))] [z,A,B,(3,some (j9 (el e) 42))] 4 53 [3,2] 2))):z4 prog (gl 6 Tryz.f88) (vY c l j k) (wkK 4 K):=
 m5 [1,5,7,10,11,12,17,18] [0,1,2,3] (cx:=Zx c l j k) rfl (u3 (by kernel_rfl) h)
theorem c5w (c:R4) (l:List TA) (j:Nat) (hxy:XY (r8 l j)):∀(m k:Nat),64-k=m->k<=64->∀(K:Exit->St->Prop),K (.exit 2) (vY c l j 64)->z4 prog (gl 6 Tryz.f88) (vY c l j k) (wkK 4 K)
 |0,k,hm,hk,K,hK=>by
  have e:k=64:=by omega
  subst e
  refine b9y c l j _ K (HB.no (by omega) ?_)
  exact wkK.tk (vY c l j _) (by kernel_rfl) (d5 (l6.p (i9 _) (by kernel_rfl)) (d5 (l6.k (by kernel_rfl)) (d5 (l6.p (i9 _) (by kernel_rfl)) (d5 (l6.p (I3 _) (by kernel_rfl)) trivial)))) hK
 |m+1,k,hm,hk,K,hK=>by
  refine b9y c l j k K (HB.yes (by omega) ?_)
  have hlt:k<64:=by omega
  have hx1:=hxy.1
  have hy1:=hxy.2
  have h8:=Int.tmod_lt_of_pos ((k:Nat):Int) (show (0:Int)<8 by decide)
  have h8n:=Int.tmod_nonneg (8:Int) (show (0:Int)<=((k:Nat):Int) by omega)
  have d8:((k:Nat):Int).tdiv 8=((k / 8:Nat):Int):=by rw[Int.tdiv_eq_ediv_of_nonneg (by omega)];rfl
  with_reducible repeat' first|exact trivial|apply And.intro|apply HB.mk|intro _
  all_goals first|with_reducible exact c8i c _ _ _ _ (by omega)|(exact ⟨by omega,by omega⟩)|with_reducible exact Le.of (congrArg (fun l=>SV.c (.agg l)) (b9g _ hlt))|exact Le.int rfl|exact C2 _ (by omega) (by omega)|omega|(with_reducible refine RoundTo.tk 5 (vY c l j (k+1)) ?_ ?_ ?_);kernel_rfl;exact (d5 (l6.p (i9 _) (by kernel_rfl)) (d5 (l6.k (by kernel_rfl)) (d5 (l6.p (i9 _) (by kernel_rfl)) (d5 (l6.plain (cs:=j4 (el (U0 c (r8 l j) k)) (2+k*4) [ub (N6 c (r8 l j) (4*k)),ub (N6 c (r8 l j) (4*k+1)),ub (N6 c (r8 l j) (4*k+2)),ub (N6 c (r8 l j) (4*k+3))]) (b:=.t 42) (by kernel_rfl) (Dr c _ hlt) (I3 _) (by kernel_rfl)) trivial))));exact (c5w c l j hxy m (k+1) (by omega) (by omega) K hK)
end Ab
end
section
namespace Ab
attribute [local irreducible] j8
attribute [local irreducible] tl n8
def Tu (c:R4) (l:List TA) (k:Nat):St:=⟨[(12,iv .i64 (k:Nat)),(11,iv .i64 (l.length:Nat)),(10,.c (.l (.o 0 l.length))),(1,.c (.l (.f 89 [(1,0)]))),(5,.c (.l (.o 2 (C8 c l k).length)))],[(0,some ⟨n8 l,.r 42 258 0⟩),(1,some ⟨[li c.x0,li c.y0,li c.x1,li c.y1],.t 66⟩),(2,some ⟨n8 (C8 c l k),.r 42 258 2⟩)],3,53,[2],(2)⟩
theorem kU {c:R4} {l:List TA} {k:Nat} (h:(!(n5 (N6 c (r8 l k))))=false):C8 c l (k+1)=C8 c l k:=by rw[C8,bH h];rfl
theorem U8 {c:R4} {l:List TA} {k:Nat} (h:(!(n5 (N6 c (r8 l k))))=true):n8 (C8 c l k)++el (Fv c (r8 l k))=n8 (C8 c l (k+1))/\(C8 c l k).length+1=(C8 c l (k+1)).length:=by
 rw[C8,fF h]
 show _=n8 (C8 c l k++_)/\_=(C8 c l k++_).length
 rw[T5,fO,List.length_append]
 exact ⟨rfl,rfl⟩
theorem lM (c:R4) (l:List TA):∀k,(C8 c l k).length<=k
 |0=>Nat.le_refl _
 |k+1=>by
  have:=lM c l k
  rw[C8]
  cases n5 (N6 c (r8 l k))
  ·show (C8 c l k++_).length<=_
   rw[List.length_append];exact Nat.add_le_add_right this 1
  ·exact Nat.le_succ_of_le this
theorem a5e (e:TA):List.take 256 (List.drop 2 (el e))=tl e.t:=by
 show List.take 256 (tl e.t)=_
 rw[t7]
theorem Pf (c:R4) (e:TA):List.take 256 (List.drop 2 (el (U0 c e 64)))=tl (N6 c e):=by rw[zS,a5e];rfl
theorem Qw (c:R4) (e:TA):List.take 258 (el (U0 c e 64))=el (Fv c e):=by
 rw[zS,List.take_of_length_le (by rw[dS];exact Nat.le_refl _)]
def a9z (c:R4) (l:List TA) (k:Nat):Cz:={
 ct:=(fun f=>match f with
 |108=>some fun _ _=>fun | [.c (.agg l)]=>some {v:=bv (n5 (A1 l))}|_=>none
 |_=>none)
 sym:=[14,15,17,44,48,50],nf:=[(15,.c (.agg (el (r8 l k)))),(17,.c (.agg (tl (r8 l k).t))),(44,.c (.agg (tl (N6 c (r8 l k))))),(45,bv (n5 (N6 c (r8 l k)))),(48,.c (.agg (el (Fv c (r8 l k)))))],lp:=fun r=>match r with|6=>some (fun _ K=>K (.exit 2) (vY c l k 64))|_=>none,wh:=[42]}
theorem R88 (c:R4) (l:List TA) (k:Nat)  (K:Exit->St->Prop) (h:let a:=(l.length:Int);let b:=(decide ((k:Int)<a));let d:=((k:Int));let e:=r8 l k;let g:=(17,ag (tl e.t));let i:=(7,j7 3 0);let j:=(12,i8 (k:Int));let m:=(11,i8 a);let n:=(10,l4 (Leaf.o 0 l.length));let q:=(1,l4 (Leaf.f 89 [(1,0)]));let s:=C8 c l k;let v:=(5,l4 (Leaf.o 2 s.length));let w:=(0,some (o8 (n8 l) 42 258 0));let x:=(1,some (j9 [li c.x0,li c.y0,li c.x1,li c.y1] 66));let y:=(2,some (o8 (n8 s) 42 258 2));let z:=el (U0 c e 64);let A:=N6 c e;let B:=bv (n5 (A1 (tl A)));let C:=ag (List.take 258 z);let D:=el (Fv c e);let E:=((k:Int)+1);let G:=(A2 3 (Tryz.f88.body.getD Code.skip)).getD Code.skip;let H:=wkK 3 K;let I:=s.length+1;let J:=(12,i8 E);let L:=(18,i8 (Nat.cast 64:Int));let M:=n8 s++j4 A8 0 D;let N:=(3,some (j9 z 42));let O:=(4,some (o8 (j4 A8 0 D) 42 258 4));let P:=(5,none);let Q:=[(2,s.length+1,false)];HB b (t0 d l.length/\d.toNat*258+258<=(n8 l).length/\Le (ag (List.take 258 (List.drop (d.toNat*258) (n8 l)))) (ag (el e))/\0=0/\258=258/\258<=258/\Le (ag (List.take 256 (List.drop 2 (el e)))) (ag (tl e.t))/\(l3 prog (gl 6 Tryz.f88) (St.mk [(18,i8 0),g,(16,j7 3 2),i,(15,ag (el e)),(14,l4 (Leaf.p 0 (d.toNat*258))),(13,bv b),j,m,n,q,v] [(3,some (j9 (el e) 42)),(3,some (j9 A8 42)),w,x,y] 4 53 [3,3,2] 2) fun K=>K (Exit.exit 2) (vY c l k 64))/\258<=258/\Le (ag (List.take 256 (List.drop 2 z))) (ag (tl A))/\Kd 108 [] [ag (tl A)] [] 4 B [] 0/\Le B (bv (n5 A))/\HB (!n5 A) ((258<=258/\Le C (ag D)/\(n8 s).length=s.length*258/\258=258/\IntKind.i64.wrap E=(k:Int)+1/\RoundTo prog G 3 H (St.mk [q,(5,l4 (Leaf.o 2 I)),i,n,m,J,g,L] [w,x,(2,some (o8 M 42 258 2)),N,O,P] 5 53 [2,4,3,2] 2))/\258<=258/\Le C (ag D)/\Q=Q/\fW prog 42 I/\(n8 s).length=s.length*258/\258=258/\IntKind.i64.wrap E=(k:Int)+1/\RoundTo prog G 3 H (St.mk [q,(5,l4 (Leaf.o 5 I)),i,n,m,J,g,L] [w,x,y,N,O,(5,some (o8 M 42 258 5))] 6 53 [5,4,3,2] 2)) (IntKind.i64.wrap E=(k:Int)+1/\RoundTo prog G 3 H (St.mk [q,v,i,n,m,J,g,L] [w,x,y,N,(4,none),P] 4 53 [3,2] 2))) (wkK 3 K (Exit.exit 0) (St.mk [q,v,(7,SV.u),n,m,j,(17,SV.u),(18,SV.u)] [w,x,y,(3,none),(4,none),P] 3 53 [2] 2))):z4 prog (gl 3 Tryz.f88) (Tu c l k) (wkK 3 K):=
 m5 [1,5,7,10,11,12,17,18] [0,1,2,3,4,5] (cx:=a9z c l k) rfl (u3 (by kernel_rfl) h)
theorem L88 (c:R4) (l:List TA) (hl:∀k,k<l.length->XY (r8 l k)) (h4:l.length<=1024):∀(m k:Nat),l.length-k=m->k<=l.length->∀(K:Exit->St->Prop),K (.exit 0) (Tu c l l.length)->z4 prog (gl 3 Tryz.f88) (Tu c l k) (wkK 3 K)
 |0,k,hm,hk,K,hK=>by
  have e:k=l.length:=by omega
  subst e
  refine R88 c l _ K (HB.no (by omega) ?_)
  exact wkK.tk (Tu c l _) (by kernel_rfl) (d5 (l6.p (i9 _) (by kernel_rfl)) (d5 (l6.k (by kernel_rfl)) (d5 (l6.p (i9 _) (by kernel_rfl)) trivial))) hK
 |m+1,k,hm,hk,K,hK=>by
  refine R88 c l k K (HB.yes (by omega) ?_)
  have hlt:k<l.length:=by omega
  with_reducible repeat' first|exact trivial|apply And.intro|apply HB.mk|intro _
  all_goals first|(with_reducible first|rfl|exact xA _ _ rfl _)|exact l3.mk (vY c l k 0) rfl (by kernel_rfl) (q7 (J7.k (by kernel_rfl)) (q7 (J7.sl_plain (by kernel_rfl) (j3 _)) (eD.k (by kernel_rfl)))) (d5 (l6.p (i9 _) (by kernel_rfl)) (d5 (l6.k (by kernel_rfl)) (d5 (l6.p (i9 _) (by kernel_rfl)) (d5 (l6.plain (cs:=el (r8 l k)) (b:=.t 42) (by kernel_rfl) (by rw[zX]) (I3 _) (by kernel_rfl)) trivial)))) (fun K hT=>c5w c l k (hl k hlt) _ 0 rfl (by decide) K hT)|(exact ⟨by omega,by omega⟩)|rw[C6,tn];omega|rw[C6];omega|refine Le.of ?_;simp only[tn,Nat.zero_add,Nat.add_zero];rw[iY hlt]|(with_reducible first|exact Le.of (congrArg (fun l=>SV.c (.agg l)) (a5e _))|exact Le.of (congrArg (fun l=>SV.c (.agg l)) (Pf _ _))|exact Le.of (congrArg (fun l=>SV.c (.agg l)) (Qw _ _))|exact Le.bool (J0 _))|with_reducible refine rV ?_;have:=lM c l k;omega|omega|have hcnd:(!(n5 (N6 c (r8 l k))))=false:=(by with_reducible assumption);(with_reducible refine RoundTo.toN 4 (Tu c l (k+1)) ?_ ?_ ?_ ?_ ?_);exact Nat.le_refl _;kernel_rfl;exact (q7 (J7.k (by kernel_rfl)) (q7 (J7.k (by kernel_rfl)) (q7 (J7.k (by kernel_rfl)) (q7 (J7.k (by kernel_rfl)) (q7 (by rw[kU hcnd];exact J7.sl (by kernel_rfl) rfl) trivial)))));exact (d5 (l6.p (i9 _) (by kernel_rfl)) (d5 (l6.k (by kernel_rfl)) (d5 (l6.plain (cs:=n8 (C8 c l k)) (b:=.r 42 258 2) (by kernel_rfl) (by rw[kU hcnd]) (i9 _) (by kernel_rfl)) trivial)));exact (L88 c l hl h4 m (k+1) (by omega) (by omega) K hK)|have hcnd:(!(n5 (N6 c (r8 l k))))=true:=(by with_reducible assumption);(with_reducible refine RoundTo.toN 5 (Tu c l (k+1)) ?_ ?_ ?_ ?_ ?_);exact Nat.le_refl _;kernel_rfl;exact (q7 (J7.k (by kernel_rfl)) (q7 (J7.k (by kernel_rfl)) (q7 (J7.k (by kernel_rfl)) (q7 (J7.k (by kernel_rfl)) (q7 (by rw[<-(U8 hcnd).2];exact J7.sl (by kernel_rfl) rfl) trivial)))));exact (d5 (l6.p (i9 _) (by kernel_rfl)) (d5 (l6.k (by kernel_rfl)) (d5 (l6.plain (cs:=n8 (C8 c l k)++j4 A8 0 (el (Fv c (r8 l k)))) (b:=.r 42 258 2) (by kernel_rfl) (by rw[L2,(U8 hcnd).1]) (i9 _) (by kernel_rfl)) trivial)));exact (L88 c l hl h4 m (k+1) (by omega) (by omega) K hK)|have hcnd:(!(n5 (N6 c (r8 l k))))=true:=(by with_reducible assumption);(with_reducible refine RoundTo.reN 6 [(2,some 5)] (Tu c l (k+1)) ?_ ?_ ?_ ?_);kernel_rfl;exact (m9 (H8.k (by kernel_rfl)) (m9 (H8.k (by kernel_rfl)) (m9 (H8.k (by kernel_rfl)) (m9 (H8.k (by kernel_rfl)) (m9 (by rw[<-(U8 hcnd).2];exact H8.of (by kernel_rfl)) trivial)))));exact (f5 (j:=0) rfl (v5.p (i9 _) (by kernel_rfl)) (f5 (j:=1) rfl (v5.k (by kernel_rfl)) (f5 (j:=5) rfl (v5.plain (cs:=n8 (C8 c l k)++j4 A8 0 (el (Fv c (r8 l k)))) (b:=.r 42 258 5) (by kernel_rfl) (by rw[L2,(U8 hcnd).1]) (i9 _) (by kernel_rfl)) trivial)));exact (L88 c l hl h4 m (k+1) (by omega) (by omega) K hK)|exact C2 _ (by omega) (by omega)
end Ab
end
section
namespace Ab
attribute [local irreducible] j8
def a7x (c:R4) (l:List TA):Cz:={
 ct:=fun _=>none
 lp:=fun r=>match r with|3=>some (fun _ K=>K (.exit 0) (Tu c l l.length))|_=>none}
theorem C88 (c:R4) (l:List TA) (hl:∀k,k<l.length->XY (r8 l k)) (h4:l.length<=1024):f4 prog 88 [.c (.l (.o 0 l.length)),.c (.l (.f 89 [(1,0)]))] [(0,⟨n8 l,.r 42 258 0⟩),(1,⟨[li c.x0,li c.y0,li c.x1,li c.y1],.t 66⟩)] 2 (.c (.l (.o 2 (C8 c l l.length).length))) [(2,⟨n8 (C8 c l l.length),.r 42 258 2⟩)] 1:=by
 refine E3 (q:=let a:=Leaf.o 0 l.length;let b:=Leaf.v (Value.slice none 0 0);let d:=C8 c l l.length;let e:=l4 (Leaf.o 2 d.length);let g:=o8 (n8 d) 42 258 2;(l3 prog (gl 3 Tryz.f88) (St.mk [(12,i8 0),(11,i8 (l.length:Int)),(10,l4 a),(5,l4 b),(4,l4 b),(0,l4 a),(1,l4 (Leaf.f 89 [(1,0)]))] [(0,some (o8 (n8 l) 42 258 0)),(1,some (j9 [li c.x0,li c.y0,li c.x1,li c.y1] 66))] 2 53 [] 2) fun K=>K (Exit.exit 0) (Tu c l l.length))/\Le e e/\A5 (x8 2 0 [2]) g g/\True) (a7x c l) [2] func88 (iB (i9 l) (by kernel_rfl)) (by kernel_rfl) ?_
 with_reducible repeat' first|exact trivial|apply And.intro|apply HB.mk|intro _|exact Le.refl _
 all_goals first|exact l3.re [(2,none)] (Tu c l 0) (by kernel_rfl) (m9 (H8.k (by kernel_rfl)) (m9 (H8.k (by kernel_rfl)) (m9 (H8.k (by kernel_rfl)) (m9 (H8.k (by kernel_rfl)) (m9 (show H8 _ 3 _ (.c (.l (.o 2 0))) from H8.nilS (by kernel_rfl) (show 2<3 by decide) rfl) trivial))))) (f5 (j:=0) rfl (v5.p (i9 _) (by kernel_rfl)) (G0.k (by kernel_rfl))) (fun K hT=>L88 c l hl h4 _ 0 rfl (Nat.zero_le _) K hT)|exact A5.plain rfl (i9 _) (by kernel_rfl)
theorem Az (c:R4) (l:List TA) (gl:Good l) (i q n:Nat) (h1:i<n) (h2:q<n) (h3:i≠q):f4 prog 88 [.c (.l (.o i l.length)),.c (.l (.f 89 [(q,0)]))] [(i,⟨n8 l,.r 42 258 i⟩),(q,⟨[li c.x0,li c.y0,li c.x1,li c.y1],.t 66⟩)] n (.c (.l (.o n (C8 c l l.length).length))) [(n,⟨n8 (C8 c l l.length),.r 42 258 n⟩)] 1:=by
 have key:=j8.at2 (C88 c l (lG gl) gl.len) i q n h1 h2 h3
 simp only[List.map_cons,List.map_nil,n6.ren,SV.ren,Cp.ren,Leaf.ren,BT.ren,j5 (i9 _)] at key
 exact key
def b1i (c:R4) (l:List TA):Cz:={
 ct:=(fun f=>match f with
 |87=>some fun _ _=>fun | [.c (.agg [.o i n])]=>some {v:=.c (.l (.o i n)),rd:=[i]}|_=>none
 |88=>some fun _ _S=>fun | [.c (.l (.o i _)),.c (.l (.f _ [(q,_)]))]=>some {v:=.c (.l (.o _S.n (C8 c l l.length).length)),rd:=[i,q],wr:=[(_S.n,⟨n8 (C8 c l l.length),.r 42 258 _S.n⟩)],nw:=1}|_=>none
 |_=>none)
 wh:=[26]}
theorem C32 (c:R4) (l:List TA) (gl:Good l):f4 prog 32 [.c (.agg [.o 0 l.length]),ag [li c.x0,li c.y0,li c.x1,li c.y1]] [(0,⟨n8 l,.r 42 258 0⟩)] 1 (.c (.agg [.o 1 (C8 c l l.length).length])) [(1,⟨n8 (C8 c l l.length),.r 42 258 1⟩)] 1:=by
 refine E3 (q:=let a:=(0,o8 (n8 l) 42 258 0);let b:=Leaf.o 0 l.length;let d:=C8 c l l.length;let e:=ag [Leaf.o 1 d.length];Kd 87 [] [ag [Leaf.o 0 l.length]] [a] 4 (l4 b) [] 0/\Kd 88 [] [l4 b,l4 (Leaf.f 89 [(2,0)])] [a,(2,j9 [li c.x0,li c.y0,li c.x1,li c.y1] 66)] 4 (l4 (Leaf.o 4 d.length)) [(4,o8 (n8 d) 42 258 4)] 1/\0=0/\1=1/\Le e e/\A5 (x8 1 0 [4]) (o8 (n8 d) 42 258 4) (o8 (n8 d) 42 258 1)/\True) (b1i c l) [4] func32 (iB (i9 l) (by kernel_rfl)) (by kernel_rfl) ?_
 with_reducible repeat' first|exact trivial|apply And.intro|apply HB.mk|intro _|exact Le.refl _|rfl
 all_goals first|exact It l gl _ _ (by omega)|(with_reducible refine Az c l gl _ _ _ ?_ ?_ ?_)<;>omega|exact A5.plain rfl (i9 _) (by kernel_rfl)
theorem Rz (c:R4) (l:List TA) (gl:Good l) (id n:Nat) (hi:id<n):f4 prog 32 [.c (.agg [.o id l.length]),ag [li c.x0,li c.y0,li c.x1,li c.y1]] [(id,⟨n8 l,.r 42 258 id⟩)] n (.c (.agg [.o n (C8 c l l.length).length])) [(n,⟨n8 (C8 c l l.length),.r 42 258 n⟩)] 1:=by
 have key:=f4.at1 (C32 c l gl) id n hi
 simp only[List.map_cons,List.map_nil,n6.ren,SV.ren,Cp.ren,Leaf.ren,BT.ren,j5 (i9 _)] at key
 exact key
end Ab
end
section
namespace Ab
def up3 (a b c n:Nat):Nat->Nat
 |0=>a
 |1=>b
 |2=>c
 |k+3=>n+k
theorem j8.at3 {P:Program} {f:Nat} {dc:List (Nat×Nat×Bool)} {args:List SV} {H:List (Nat×n6)} {v:SV} {wr:List (Nat×n6)} {nw:Nat} (h:j8 P f dc args H 3 v wr nw) (a b c n:Nat) (ha:a<n) (hb:b<n) (hc:c<n) (h1:a≠b) (h2:a≠c) (h3:b≠c) :
  j8 P f (dc.map fun p=>(up3 a b c n p.1,p.2)) (args.map (SV.ren (up3 a b c n))) (H.map fun p=>(up3 a b c n p.1,p.2.ren (up3 a b c n))) n (v.ren (up3 a b c n)) (wr.map fun p=>(up3 a b c n p.1,p.2.ren (up3 a b c n))) nw:=
 j8.ren h (up3 a b c n) n (fun i hi'=>by
  match i,hi' with
  |0,_=>exact ha
  |1,_=>exact hb
  |2,_=>exact hc) (fun i hi'=>by
  match i,hi' with
  |k+3,_=>show n+k=n+(k+3-3);omega) (fun i j hi hj e=>by
  match i,j,hi,hj,e with
  |0,0,_,_,_=>rfl
  |1,1,_,_,_=>rfl
  |2,2,_,_,_=>rfl
  |0,1,_,_,e=>exact absurd e h1
  |1,0,_,_,e=>exact absurd e.symm h1
  |0,2,_,_,e=>exact absurd e h2
  |2,0,_,_,e=>exact absurd e.symm h2
  |1,2,_,_,e=>exact absurd e h3
  |2,1,_,_,e=>exact absurd e.symm h3)
end Ab
end
section
namespace Ab
attribute [local irreducible] j8
end Ab
end
section
namespace Ab
attribute [local irreducible] j8
def S1 (q0 q1 q2 q3:Int):R4:=R4.mk (o6 q0 40-20) (o6 q1 40-20) (o6 q0 40-20+o6 q2 40) (o6 q1 40-20+o6 q3 40)
theorem Gb (x:Int):0<=o6 x 40/\o6 x 40<40:=by
 have:=cQ (x:=x) (n:=40) (by decide) (by decide)
 exact ⟨this.1,this.2.1⟩
def b2m:Cz:={
  ct:=fun _=>none
   }
theorem C84 (x d:Int) (h0:0<d) (h1:d<=1000000000) (n:Nat):f4 prog 84 [iv .i64 x,iv .i64 d] [] n (iv .i64 (o6 x d)) [] 0:=by
 refine v6 (q:=d≠0/\IntKind.i64.wrap (x.tmod d+d)=x.tmod d+d/\d≠0/\Le (i8 ((x.tmod d+d).tmod d)) (i8 (o6 x d))/\True) (b2m) func84 n (by kernel_rfl) (by kernel_rfl) ?_
 with_reducible repeat' first|exact trivial|apply And.intro|apply HB.mk|intro _
 all_goals first|omega|have:=cQ (x:=x) h0 h1;exact C2 _ (by omega) (by omega)|exact Le.int rfl
def a6p:Cz:={
 ct:=(fun f=>match f with
 |84=>some fun _ _=>fun | [.c (.l (.v (.int _ x))),.c (.l (.v (.int _ n)))]=>some {v:=iv .i64 (o6 x n)}|_=>none
 |_=>none)
 wh:=[66]}
theorem C27 (q0 q1 q2 q3:Int)  (n:Nat):f4 prog 27 [ag [li q0,li q1,li q2,li q3]] [] n (ag [li (S1 q0 q1 q2 q3).x0,li (S1 q0 q1 q2 q3).y0,li (S1 q0 q1 q2 q3).x1,li (S1 q0 q1 q2 q3).y1]) [] 0:=by
 refine v6 (q:=let a:=o6 q0 40-20;let b:=o6 q1 40-20;let c:=o6 q0 40-20+o6 q2 40;let d:=o6 q1 40-20+o6 q3 40;let e:=S1 q0 q1 q2 q3;Kd 84 [] [i8 q0,i8 40] [] 2 (i8 (o6 q0 40)) [] 0/\IntKind.i64.wrap a=o6 q0 40-20/\Kd 84 [] [i8 q1,i8 40] [] 2 (i8 (o6 q1 40)) [] 0/\IntKind.i64.wrap b=o6 q1 40-20/\Kd 84 [] [i8 q2,i8 40] [] 2 (i8 (o6 q2 40)) [] 0/\IntKind.i64.wrap c=o6 q0 40-20+o6 q2 40/\Kd 84 [] [i8 q3,i8 40] [] 2 (i8 (o6 q3 40)) [] 0/\IntKind.i64.wrap d=o6 q1 40-20+o6 q3 40/\0=0/\4=4/\Le (ag [li a,li b,li c,li d]) (ag [li e.x0,li e.y0,li e.x1,li e.y1])/\True) (a6p) func27 n (by kernel_rfl) (by kernel_rfl) ?_
 with_reducible repeat' first|exact trivial|apply And.intro|apply HB.mk|intro _|rfl
 all_goals first|(with_reducible refine C84 _ _ ?_ ?_ _)<;>omega|have:=Gb q0;have:=Gb q1;have:=Gb q2;have:=Gb q3;exact C2 _ (by omega) (by omega)|exact Le.of rfl|exact Le.of rfl
end Ab
end
section
namespace Ab
attribute [local irreducible] j8
attribute [local irreducible] tl n8
theorem Ku (t:Nat->UInt8):tl (A6 (C9 ((t 0).toNat:Nat)) (C9 ((t 1).toNat:Nat)) (C9 ((t 2).toNat:Nat)) (C9 ((t 3).toNat:Nat)))=tl (A6 (t 0) (t 1) (t 2) (t 3)):=by rw[v8,v8,v8,v8]
theorem b2x (t:Nat->UInt8):m7 (A1 (tl t)) (A1 (tl (A6 (t 0) (t 1) (t 2) (t 3))))=N2 t:=by rw[M8];rfl
theorem a0i {t:Nat->UInt8} (h:N2 t=true):[ub (F4 t 0),ub (F4 t 1),ub (F4 t 2),ub (F4 t 3)]=[ub (t 0),ub (t 1),ub (t 2),ub (t 3)]:=by
 unfold F4;rw[if_pos h,if_pos h,if_pos h,if_pos h]
theorem Ym {t:Nat->UInt8} (h:N2 t=false):[ub (F4 t 0),ub (F4 t 1),ub (F4 t 2),ub (F4 t 3)]=[u8 0,u8 0,u8 0,u8 0]:=by
 unfold F4;rw[if_neg (by simp[h]),if_neg (by simp[h]),if_neg (by simp[h]),if_neg (by simp[h])];rfl
def Vt (t:Nat->UInt8):Cz:={
 ct:=(fun f=>match f with
 |121=>some fun _ _=>fun | [.c (.agg l),.c (.agg m)]=>some {v:=bv (m7 (A1 l) (A1 m))}|_=>none
 |161=>some fun _ _=>fun | [.c (.agg [.v (.int _ a),.v (.int _ b),.v (.int _ c),.v (.int _ e)])]=>some {v:=.c (.agg (tl (A6 (C9 a) (C9 b) (C9 c) (C9 e))))}|_=>none
 |_=>none)
 nf:=[(4,.c (.agg (tl t))),(6,ag [ub (t 0),ub (t 1),ub (t 2),ub (t 3)]),(7,.c (.agg (tl (A6 (t 0) (t 1) (t 2) (t 3))))),(8,bv (N2 t)),(10,ag [ub (t 0),ub (t 1),ub (t 2),ub (t 3)])],wh:=[38,36]}
theorem c7f (t:Nat->UInt8)  (n:Nat):f4 prog 131 [.c (.agg (tl t))] [] n (.tup [.agg [ub (F4 t 0),ub (F4 t 1),ub (F4 t 2),ub (F4 t 3)],.l (.v (.bool (N2 t)))]) [] 0:=by
 refine v6 (q:=let a:=ag (List.take 4 (tl t));let b:=((t 0).toNat:Int);let c:=((t 1).toNat:Int);let d:=((t 2).toNat:Int);let e:=((t 3).toNat:Int);let f:=[l8 b,l8 c,l8 d,l8 e];let g:=ag (tl (A6 (C9 b) (C9 c) (C9 d) (C9 e)));let h:=tl (A6 (t 0) (t 1) (t 2) (t 3));let i:=bv (m7 (A1 (tl t)) (A1 h));let j:=(SV.tup [Cp.agg [l8 ((F4 t 0).toNat:Int),l8 ((F4 t 1).toNat:Int),l8 ((F4 t 2).toNat:Int),l8 ((F4 t 3).toNat:Int)],Cp.l (lb (N2 t))]);Le (ag (List.take 256 (tl t))) (ag (tl t))/\Le a (ag f)/\Kd 161 [] [ag f] [] 2 g [] 0/\Le g (ag h)/\Kd 121 [] [ag (tl t),ag h] [] 2 i [] 0/\Le i (bv (N2 t))/\HB (N2 t) (Le a (ag f)/\0=0/\4=4/\Le (SV.tup [Cp.agg f,Cp.l (lb true)]) j/\True) (0=0/\4=4/\Le (SV.tup [Cp.agg [l8 0,l8 0,l8 0,l8 0],Cp.l (lb false)]) j/\True)) (Vt t) func131 n (by kernel_rfl) (by kernel_rfl) ?_
 with_reducible repeat' first|exact trivial|apply And.intro|apply HB.mk|intro _
 all_goals first|(with_reducible first|rfl|exact Pn _ _ _ _ rfl rfl _|exact a5l _ _ _ _ _|exact Le.of (congrArg (fun l=>SV.c (.agg l)) (t7 _))|exact Le.of (congrArg (fun l=>SV.c (.agg l)) (Nm _))|exact Le.of (congrArg (fun l=>SV.c (.agg l)) (Ku _))|exact Le.bool (b2x _))|(refine Le.of ?_;rw[show [u8 0,u8 0,u8 0,u8 0]=[ub (F4 t 0),ub (F4 t 1),ub (F4 t 2),ub (F4 t 3)] from (Ym (by with_reducible assumption)).symm,show N2 t=false by with_reducible assumption];done)|(refine Le.of ?_;rw[show [ub (t 0),ub (t 1),ub (t 2),ub (t 3)]=[ub (F4 t 0),ub (F4 t 1),ub (F4 t 2),ub (F4 t 3)] from (a0i (by with_reducible assumption)).symm,show N2 t=true by with_reducible assumption];done)
def vH (t:Nat->UInt8) (k:Nat):St:=⟨[(4,iv .i64 (k:Nat)),(3,.c (.l (.o 1 (4*k)))),(1,.c (.l (.p 0 0)))],[(0,some ⟨tl t,.t 38⟩),(1,some ⟨tb t (4*k),.r 5 1 1⟩)],2,31,[1,0],(0)⟩
theorem Lo (t:Nat->UInt8) {k:Nat} (hk:k<64) (c:Nat) (hc:c<4):SV.c (.l ((tl t).getD (k*4+c) .u))=.c (.l (ub (t (4*k+c)))):=by
 rw[show k*4+c=4*k+c by omega,lX t (by omega)]
theorem Nc (t:Nat->UInt8) {k:Nat} (hk:k<64):SV.c (.l ((tl t).getD (k*4) .u))=.c (.l (ub (t (4*k)))):=Lo t hk 0 (by decide)
def Xg (t:Nat->UInt8) (k:Nat):Cz:={
 ct:=fun _=>none
 sym:=[12,14,16,18,20,22,24,26,28],nf:=[(14,.c (.l (ub (t (4*k))))),(18,.c (.l (ub (t (4*k+1))))),(22,.c (.l (ub (t (4*k+2))))),(26,.c (.l (ub (t (4*k+3)))))]}
theorem b9l (t:Nat->UInt8) (k:Nat)  (K:Exit->St->Prop) (h:let a:=((k:Int));let b:=l4 ((tl t).getD (0+a.toNat*4+0) Leaf.u);let d:=(Nat.cast ((t (4*k)).toNat):Int);let e:=iv .u8 d;let f:=l4 ((tl t).getD (0+a.toNat*4+1) Leaf.u);let g:=(Nat.cast ((t (4*k+1)).toNat):Int);let i:=iv .u8 g;let j:=l4 ((tl t).getD (0+a.toNat*4+2) Leaf.u);let m:=(Nat.cast ((t (4*k+2)).toNat):Int);let n:=iv .u8 m;let q:=l4 ((tl t).getD (0+a.toNat*4+3) Leaf.u);let s:=(Nat.cast ((t (4*k+3)).toNat):Int);let w:=iv .u8 s;let x:=tb t (4*k);let y:=((k:Int)+1);let z:=(A2 3 (Tryz.f135.body.getD Code.skip)).getD Code.skip;let A:=(1,j7 0 0);let B:=4*k+4;let C:=(0,some (j9 (tl t) 38));let D:=[l8 d,l8 g,l8 m,l8 s];let E:=tb t (4*k)++D;let G:=(2,some (o8 D 5 1 2));let H:=[(1,4*k+4,false)];let I:=(1,some (o8 x 5 1 1));HB (decide ((k:Int)<64)) ((t0 a 64/\0+a.toNat*4+0<256/\Le b e/\t0 a 64/\0+a.toNat*4+1<256/\Le f i/\t0 a 64/\0+a.toNat*4+2<256/\Le j n/\t0 a 64/\0+a.toNat*4+3<256/\Le q w/\x.length=4*k*1/\4=4/\IntKind.i64.wrap y=(k:Int)+1/\RoundTo prog z 2 (wkK 2 K) (St.mk [A,(3,l4 (Leaf.o 1 B)),(4,i8 y)] [C,(1,some (o8 E 5 1 1)),G,(3,none)] 3 31 [1,2,1,0] 0))/\t0 a 64/\0+a.toNat*4+0<256/\Le b e/\t0 a 64/\0+a.toNat*4+1<256/\Le f i/\t0 a 64/\0+a.toNat*4+2<256/\Le j n/\t0 a 64/\0+a.toNat*4+3<256/\Le q w/\H=H/\fW prog 5 B/\x.length=4*k*1/\4=4/\IntKind.i64.wrap y=(k:Int)+1/\RoundTo prog z 2 (wkK 2 K) (St.mk [A,(3,l4 (Leaf.o 3 B)),(4,i8 y)] [C,I,G,(3,some (o8 E 5 1 3))] 4 31 [3,2,1,0] 0)) (wkK 2 K (Exit.exit 0) (St.mk [A,(3,l4 (Leaf.o 1 (4*k))),(4,i8 (k:Int))] [C,I,(2,none),(3,none)] 2 31 [1,0] 0))):z4 prog (gl 3 Tryz.f135) (vH t k) (wkK 2 K):=
 m5 [1,3,4] [0,1,2,3] (cx:=Xg t k) rfl (u3 (by kernel_rfl) h)
theorem b2s (t:Nat->UInt8)  : ∀(m k:Nat),64-k=m->k<=64->∀(K:Exit->St->Prop),K (.exit 0) (vH t 64)->z4 prog (gl 3 Tryz.f135) (vH t k) (wkK 2 K)
 |0,k,hm,hk,K,hK=>by
  have e:k=64:=by omega
  subst e
  refine b9l t _ K (HB.no (by omega) ?_)
  exact wkK.tk (vH t _) (by kernel_rfl) (d5 (l6.p (j3 t) (by kernel_rfl)) (d5 (l6.p (I2 _ _) (by kernel_rfl)) trivial)) hK
 |m+1,k,hm,hk,K,hK=>by
  refine b9l t k K (HB.yes (by omega) ?_)
  have hlt:k<64:=by omega
  with_reducible repeat' first|exact trivial|apply And.intro|apply HB.mk|intro _|rfl
  all_goals first|(exact ⟨by omega,by omega⟩)|rw[uT];omega|(refine Le.of ?_;simp only[tn,Nat.zero_add,Nat.add_zero];first|exact Nc t hlt|exact Lo t hlt _ (by decide))|omega|exact apB (bytes:=1) (by kernel_rfl) (by omega)|(with_reducible refine RoundTo.toN 3 (vH t (k+1)) ?_ ?_ ?_ ?_ ?_);exact Nat.le_refl _;kernel_rfl;exact (q7 (J7.k (by kernel_rfl)) (q7 (J7.sl_o (m:=4*k+4) (by kernel_rfl) rfl (by omega)) (eD.k (by kernel_rfl))));exact (d5 (l6.p (j3 t) (by kernel_rfl)) (d5 (l6.plain (cs:=tb t (4*k)++[ub (t (4*k)),ub (t (4*k+1)),ub (t (4*k+2)),ub (t (4*k+3))]) (b:=.r 5 1 1) (by kernel_rfl) (Fa t k) (I2 _ _) (by kernel_rfl)) trivial));exact (b2s t  m (k+1) (by omega) (by omega) K hK)|(with_reducible refine RoundTo.reN 4 [(1,some 3)] (vH t (k+1)) ?_ ?_ ?_ ?_);kernel_rfl;exact (m9 (H8.k (by kernel_rfl)) (m9 (H8.sl_o (j:=3) (m:=4*k+4) (by kernel_rfl) rfl (by omega)) (W4.k (by kernel_rfl))));exact (f5 (j:=0) rfl (v5.p (j3 t) (by kernel_rfl)) (f5 (j:=3) rfl (v5.plain (cs:=tb t (4*k)++[ub (t (4*k)),ub (t (4*k+1)),ub (t (4*k+2)),ub (t (4*k+3))]) (b:=.r 5 1 3) (by kernel_rfl) (Fa t k) (I2 _ _) (by kernel_rfl)) trivial));exact (b2s t  m (k+1) (by omega) (by omega) K hK)|exact C2 _ (by omega) (by omega)
def Wt (t:Nat->UInt8):Cz:={
 ct:=fun _=>none
 sym:=[30],lp:=fun r=>match r with|3=>some (fun _ K=>K (.exit 0) (vH t 64))|_=>none,wh:=[38]}
theorem c7d (t:Nat->UInt8)  (n:Nat):f4 prog 135 [.c (.agg (tl t))] [] n (.c (.l (.v (.string (L0 t))))) [] 0:=by
 refine v6 (q:=(l3 prog (gl 3 Tryz.f135) (St.mk [(4,i8 0),(3,l4 (Leaf.o 1 0)),(5,l4 (Leaf.o 1 0)),(2,l4 (l9 (ByteArray.mk #[]))),(1,j7 0 0),(0,ag (tl t))] [(1,some (o8 [] 5 1 1)),(0,some (j9 (tl t) 38))] 2 31 [1,0] 0) fun K=>K (Exit.exit 0) (vH t 64))/\256=256/\G1 (tb t (4*64))/\Le (l4 (l9 (D4 (tb t (4*64))))) (l4 (l9 (L0 t)))/\True) (Wt t) func135 n (by kernel_rfl) (by kernel_rfl) ?_
 with_reducible repeat' first|exact trivial|apply And.intro|apply HB.mk|intro _|rfl
 all_goals first|exact l3.tk (vH t 0) (by kernel_rfl) (d5 (l6.p (j3 t) (by kernel_rfl)) (d5 (l6.p (I2 _ _) (by kernel_rfl)) trivial)) (fun K hT=>b2s t  _ 0 rfl (by first|decide|omega) K hT)|exact Ce t 256|refine Le.of ?_;rw[Kr];rfl
end Ab
end
section
namespace Ab
attribute [local irreducible] j8
def dA (l u c x:Int):Int:=F1 (l+u-c-x) (0-(l+u-c-x))
def Xj (l u c:Int):Bool:=bif decide (dA l u c l<=dA l u c u) then decide (dA l u c l<=dA l u c c) else false
def pc2 (l u c:Int):Bool:=decide (dA l u c u<=dA l u c c)
def qZ (l u c:Int):Int:=Prd.M.jQ l u c
def qL (l u c:Int):Int:=Prd.M.cB l u c
def mc1 (l u c:Int):Bool:=decide (c>=F1 l u)
def mc2 (l u c:Int):Bool:=decide (c<=E7 l u)
theorem To (x:Int):IntKind.u8.wrap x=x % 256:=by
 simp[IntKind.wrap,IntKind.bits,IntKind.signed]
theorem td2 (b:UInt8):((b.toNat:Nat):Int).tdiv 2=((b / 2).toNat:Nat):=by
 rw[Int.tdiv_eq_ediv_of_nonneg (by omega),UInt8.toNat_div];rfl
theorem Qg (b:UInt8):IntKind.u8.wrap (((b.toNat:Nat):Int).tdiv 2)=((b / 2).toNat:Nat):=by
 have:=(b / 2).toNat_lt
 rw[td2,To];omega
theorem Sw (a b:UInt8):IntKind.u8.wrap (((a.toNat:Nat):Int)-((b.toNat:Nat):Int))=((a-b).toNat:Nat):=by
 have:=a.toNat_lt;have:=b.toNat_lt
 rw[To,UInt8.toNat_sub];omega
theorem Eu (a b:UInt8):IntKind.u8.wrap (((a.toNat:Nat):Int)+((b.toNat:Nat):Int))=((a+b).toNat:Nat):=by
 have:=a.toNat_lt;have:=b.toNat_lt
 rw[To,UInt8.toNat_add];omega
def a0z (r g b:UInt8):Cz:={
 ct:=fun _=>none
 raw:=[10,15,19,23],nf:=[(10,.c (.l (ub ((r-b))))),(14,.c (.l (ub ((r-b) / 2)))),(15,.c (.l (ub ((b+(r-b) / 2))))),(19,.c (.l (ub ((g-(b+(r-b) / 2)))))),(22,.c (.l (ub ((g-(b+(r-b) / 2)) / 2)))),(23,.c (.l (ub ((b+(r-b) / 2+(g-(b+(r-b) / 2)) / 2)))))],wh:=[245,242]}
theorem c7l (r g b:UInt8)  (n:Nat):f4 prog 191 [ag [ub r,ub g,ub b]] [] n (ag [ub (b+(r-b) / 2+(g-(b+(r-b) / 2)) / 2),ub (r-b),ub (g-(b+(r-b) / 2))]) [] 0:=by
 refine v6 (q:=let a:=((r-b).toNat:Int);let c:=(Nat.cast (((r-b) / 2).toNat):Int);let d:=b+(r-b) / 2;let e:=(Nat.cast (d.toNat):Int);let f:=(Nat.cast ((g-d).toNat):Int);let h:=(Nat.cast (((g-d) / 2).toNat):Int);let i:=(Nat.cast ((b+(r-b) / 2+(g-d) / 2).toNat):Int);let j:=(ag [l8 i,l8 a,l8 f]);Le (iv .u8 (IntKind.u8.wrap ((r.toNat:Int)-(b.toNat:Int)))) (iv .u8 a)/\(2:Int)≠0/\Le (iv .u8 (IntKind.u8.wrap ((a).tdiv 2))) (iv .u8 c)/\Le (iv .u8 (IntKind.u8.wrap ((b.toNat:Int)+c))) (iv .u8 e)/\Le (iv .u8 (IntKind.u8.wrap ((g.toNat:Int)-e))) (iv .u8 f)/\(2:Int)≠0/\Le (iv .u8 (IntKind.u8.wrap ((f).tdiv 2))) (iv .u8 h)/\Le (iv .u8 (IntKind.u8.wrap (e+h))) (iv .u8 i)/\0=0/\3=3/\Le j j/\True) (a0z r g b) func191 n (by kernel_rfl) (by kernel_rfl) ?_
 with_reducible repeat' first|exact trivial|apply And.intro|apply HB.mk|intro _|exact Le.refl _|rfl
 all_goals first|exact Le.int (Sw _ _)|exact Le.int (Eu _ _)|exact Le.int (Qg _)|simp_all [mX];done
def Uk:Cz:={
  ct:=fun _=>none
   }
theorem c8s (x:Int) (h : -100000<=x/\x<=100000) (n:Nat):f4 prog 205 [iv .i64 x] [] n (iv .i64 (F1 x (0-x))) [] 0:=by
 refine v6 (q:=let a:=i8 (F1 x (0-x));IntKind.i64.wrap (0-x)=0-x/\Le a a/\True) (Uk) func205 n (by kernel_rfl) (by kernel_rfl) ?_
 with_reducible repeat' first|exact trivial|apply And.intro|apply HB.mk|intro _|exact Le.refl _
 all_goals first|exact C2 _ (by omega) (by omega)
theorem dR (l u c x:Int):dA l u c x=Prd.M.W7 l u c x:=by
 unfold dA Prd.M.W7 F1
 split<;>omega
theorem b6z {l u c:Int} (h:Xj l u c=true):l=qZ l u c:=by
 unfold qZ
 unfold Xj at h
 rw[dR,dR,dR] at h
 unfold Prd.M.jQ
 by_cases h1:Prd.M.W7 l u c l<=Prd.M.W7 l u c u
 ·rw[decide_eq_true h1] at h
  have h2:Prd.M.W7 l u c l<=Prd.M.W7 l u c c:=of_decide_eq_true h
  rw[if_neg (by omega),if_neg (by omega)]
 ·rw[decide_eq_false h1] at h;cases h
theorem a5a {l u c:Int} (h:Xj l u c=false):¬(Prd.M.W7 l u c l<=Prd.M.W7 l u c u/\Prd.M.W7 l u c l<=Prd.M.W7 l u c c):=by
 unfold Xj at h
 rw[dR,dR,dR] at h
 rintro ⟨h1,h2⟩
 rw[decide_eq_true h1,decide_eq_true h2] at h;cases h
theorem c3g {l u c:Int} (h:Xj l u c=false) (k:pc2 l u c=true):u=qZ l u c:=by
 unfold qZ
 have h:=a5a h
 unfold pc2 at k
 rw[dR,dR] at k
 have k:=of_decide_eq_true k
 unfold Prd.M.jQ
 by_cases h1:Prd.M.W7 l u c u<Prd.M.W7 l u c l
 ·rw[if_pos h1,if_neg (by omega)]
 ·exact absurd (show _/\_ from ⟨by omega,by omega⟩) h
theorem c4o {l u c:Int} (h:Xj l u c=false) (k:pc2 l u c=false):c=qZ l u c:=by
 unfold qZ
 have h:=a5a h
 unfold pc2 at k
 rw[dR,dR] at k
 have k:=of_decide_eq_false k
 unfold Prd.M.jQ
 by_cases h1:Prd.M.W7 l u c u<Prd.M.W7 l u c l
 ·rw[if_pos h1,if_pos (by omega)]
 ·rw[if_neg h1,if_pos (by omega)]
def Wa (l u c:Int):Cz:={
 ct:=(fun f=>match f with
 |205=>some fun _ _=>fun | [.c (.l (.v (.int _ x)))]=>some {v:=iv .i64 (F1 x (0-x))}|_=>none
 |_=>none)
 nf:=[(35,bv (Xj l u c)),(39,bv (pc2 l u c))]}
theorem a1v (l u c:Int) (hl:0<=l/\l<=255) (hu:0<=u/\u<=255) (hc:0<=c/\c<=255) (n:Nat):f4 prog 192 [iv .i64 l,iv .i64 u,iv .i64 c] [] n (iv .i64 (qZ l u c)) [] 0:=by
 refine v6 (q:=let a:=l+u-c-l;let b:=l+u-c-u;let d:=l+u-c-c;let e:=F1 a (0-a)<=F1 b (0-b);let f:=i8 (qZ l u c);IntKind.i64.wrap (l+u)=l+u/\IntKind.i64.wrap (l+u-c)=l+u-c/\IntKind.i64.wrap a=l+u-c-l/\Kd 205 [] [i8 a] [] 0 (i8 (F1 a (0-a))) [] 0/\IntKind.i64.wrap b=l+u-c-u/\Kd 205 [] [i8 b] [] 0 (i8 (F1 b (0-b))) [] 0/\IntKind.i64.wrap d=l+u-c-c/\Kd 205 [] [i8 d] [] 0 (i8 (F1 d (0-d))) [] 0/\(decide e=true->decide e=true/\decide e=true/\True)/\(decide e=true->decide e=true)/\Le (bv (bif decide e then decide (F1 a (0-a)<=F1 d (0-d)) else false)) (bv (Xj l u c))/\HB (Xj l u c) (Le (i8 l) f/\True) (Le (bv (decide (F1 b (0-b)<=F1 d (0-d)))) (bv (pc2 l u c))/\HB (pc2 l u c) (Le (i8 u) f/\True) (Le (i8 c) f/\True))) (Wa l u c) func192 n (by kernel_rfl) (by kernel_rfl) ?_
 with_reducible repeat' first|exact trivial|apply And.intro|apply HB.mk|intro _|assumption
 all_goals first|(with_reducible refine c8s _ ?_ _)<;>omega|exact C2 _ (by omega) (by omega)|exact Le.bool rfl|(with_reducible first|exact Le.int (b6z (l:=l) (u:=u) (c:=c) (by with_reducible assumption))|exact Le.int (c3g (l:=l) (u:=u) (c:=c) (by with_reducible assumption) (by with_reducible assumption))|exact Le.int (c4o (l:=l) (u:=u) (c:=c) (by with_reducible assumption) (by with_reducible assumption)))
theorem c3t {l u c:Int} (h:mc1 l u c=true):E7 l u=qL l u c:=by
 unfold qL
 have h:=of_decide_eq_true h
 unfold F1 at h
 unfold Prd.M.cB E7
 split<;>(split at h<;>omega)
theorem b9o {l u c:Int} (h:mc1 l u c=false) (k:mc2 l u c=true):F1 l u=qL l u c:=by
 unfold qL
 have h:=of_decide_eq_false h
 have k:=of_decide_eq_true k
 unfold F1 at h
 unfold E7 at k
 unfold Prd.M.cB F1
 split<;>(split at h<;>(split at k<;>omega))
theorem c6h {l u c:Int} (h:mc1 l u c=false) (k:mc2 l u c=false):l+u-c=qL l u c:=by
 unfold qL
 have h:=of_decide_eq_false h
 have k:=of_decide_eq_false k
 unfold F1 at h
 unfold E7 at k
 unfold Prd.M.cB
 split at h<;>(split at k<;>omega)
def Zg (l u c:Int):Cz:={
 ct:=fun _=>none
 nf:=[(11,bv (mc1 l u c)),(19,bv (mc2 l u c))]}
theorem Uh (l u c:Int) (hl:0<=l/\l<=255) (hu:0<=u/\u<=255) (hc:0<=c/\c<=255) (n:Nat):f4 prog 193 [iv .i64 l,iv .i64 u,iv .i64 c] [] n (iv .i64 (qL l u c)) [] 0:=by
 refine v6 (q:=let a:=i8 (qL l u c);Le (bv (decide (c>=F1 l u))) (bv (mc1 l u c))/\HB (mc1 l u c) (Le (i8 (E7 l u)) a/\True) (Le (bv (decide (c<=E7 l u))) (bv (mc2 l u c))/\HB (mc2 l u c) (Le (i8 (F1 l u)) a/\True) (IntKind.i64.wrap (l+u)=l+u/\IntKind.i64.wrap (l+u-c)=l+u-c/\Le (i8 (l+u-c)) a/\True))) (Zg l u c) func193 n (by kernel_rfl) (by kernel_rfl) ?_
 with_reducible repeat' first|exact trivial|apply And.intro|apply HB.mk|intro _
 all_goals first|exact C2 _ (by omega) (by omega)|exact Le.bool rfl|(with_reducible first|exact Le.int (c3t (l:=l) (u:=u) (c:=c) (by with_reducible assumption))|exact Le.int (b9o (l:=l) (u:=u) (c:=c) (by with_reducible assumption) (by with_reducible assumption))|exact Le.int (c6h (l:=l) (u:=u) (c:=c) (by with_reducible assumption) (by with_reducible assumption)))
end Ab
end
section
namespace Ab
attribute [local irreducible] j8
attribute [local irreducible] tl n8
theorem pD (f:Nat->UInt8) {j:Nat} (h:j<256) (x:UInt8):j4 (tl f) j [ub x]=tl (Prd.M.put f j x):=by
 apply List.ext_getElem?
 intro i
 simp only[j4]
 by_cases hi:i<256
 ·rw[cD _ hi]
  by_cases e:j=i
  ·subst e
   rw[List.getElem?_set_self (by rw[B8];exact h)]
   simp[Prd.M.put]
  ·rw[List.getElem?_set_ne e,cD _ hi]
   simp[Prd.M.put,show i≠j from fun q=>e q.symm]
 ·rw[lD _ (by omega),List.getElem?_eq_none (by rw[List.length_set,B8];omega)]
theorem a7i (t:Nat->UInt8) {k:Nat} (hk:k<64):j4 (j4 (j4 (j4 (tl (Prd.Jw t k)) k [ub (t (4*k+2)+(t (4*k)-t (4*k+2)) / 2+(t (4*k+1)-(t (4*k+2)+(t (4*k)-t (4*k+2)) / 2)) / 2)]) (64+k) [ub (t (4*k)-t (4*k+2))]) (128+k) [ub (t (4*k+1)-(t (4*k+2)+(t (4*k)-t (4*k+2)) / 2))]) (192+k) [ub (t (4*k+3))]=tl (Prd.Jw t (k+1)):=by
 rw[pD _ (by omega),pD _ (by omega),pD _ (by omega),pD _ (by omega)]
 exact J4 fun i hi=>Prd.a4f t k hk i hi
theorem b1x (t:Nat->UInt8):tl (Prd.Jw t 64)=tl (Prd.Xs t):=J4 fun i hi=>Prd.Li t i
theorem a3q (t:Nat->UInt8):o7=tl (Prd.Jw t 0):=by rw[q9];exact J4 fun i hi=>by rw[Prd.Kt];rfl
def vX (t:Nat->UInt8) (k:Nat):Nat->UInt8:=Prd.Jw t k
def dB (t:Nat->UInt8):Nat->UInt8:=Prd.Xs t
def wC (t:Nat->UInt8) (k:Nat):St:=⟨[(4,iv .i64 (k:Nat)),(3,.c (.l (.p 2 0))),(2,.c (.l (.p 1 0))),(1,.c (.l (.p 0 0)))],[(0,some ⟨tl t,.t 38⟩),(1,some ⟨tl zT,.t 211⟩),(2,some ⟨tl (vX t k),.t 211⟩)],3,48,[2,1,0],(0)⟩
theorem a2c (t:Nat->UInt8) {k:Nat} (hk:k<64):j4 (j4 (j4 (j4 (tl (vX t k)) (0+Int.toNat 0*64+((k:Nat):Int).toNat*1) [ub (t (4*k+2)+(t (4*k)-t (4*k+2)) / 2+(t (4*k+1)-(t (4*k+2)+(t (4*k)-t (4*k+2)) / 2)) / 2)]) (0+Int.toNat 1*64+((k:Nat):Int).toNat*1) [ub (t (4*k)-t (4*k+2))]) (0+Int.toNat 2*64+((k:Nat):Int).toNat*1) [ub (t (4*k+1)-(t (4*k+2)+(t (4*k)-t (4*k+2)) / 2))]) (0+Int.toNat 3*64+((k:Nat):Int).toNat*1) [ub (t (4*k+3))]=tl (vX t (k+1)):=by
 rw[show (0+Int.toNat 0*64+((k:Nat):Int).toNat*1)=k by omega,show (0+Int.toNat 1*64+((k:Nat):Int).toNat*1)=64+k by omega,show (0+Int.toNat 2*64+((k:Nat):Int).toNat*1)=128+k by omega,show (0+Int.toNat 3*64+((k:Nat):Int).toNat*1)=192+k by omega]
 exact a7i t hk
def We (t:Nat->UInt8) (k:Nat):Cz:={
 ct:=(fun f=>match f with
 |191=>some fun _ _=>fun | [.c (.agg _)]=>some {v:=ag [ub (t (4*k+2)+(t (4*k)-t (4*k+2)) / 2+(t (4*k+1)-(t (4*k+2)+(t (4*k)-t (4*k+2)) / 2)) / 2),ub (t (4*k)-t (4*k+2)),ub (t (4*k+1)-(t (4*k+2)+(t (4*k)-t (4*k+2)) / 2))]}|_=>none
 |_=>none)
 sym:=[0,12,14,16,18,20,22,29,34,39,42,44,46],nf:=[(14,.c (.l (ub (t (4*k))))),(18,.c (.l (ub (t (4*k+1))))),(22,.c (.l (ub (t (4*k+2))))),(27,.c (.l (ub ((t (4*k+2)+(t (4*k)-t (4*k+2)) / 2+(t (4*k+1)-(t (4*k+2)+(t (4*k)-t (4*k+2)) / 2)) / 2))))),(32,.c (.l (ub ((t (4*k)-t (4*k+2)))))),(37,.c (.l (ub ((t (4*k+1)-(t (4*k+2)+(t (4*k)-t (4*k+2)) / 2)))))),(44,.c (.l (ub (t (4*k+3)))))],wh:=[242]}
theorem b7u (t:Nat->UInt8) (k:Nat)  (K:Exit->St->Prop) (h:let a:=((k:Int));let b:=(Nat.cast ((t (4*k)).toNat):Int);let d:=(Nat.cast ((t (4*k+1)).toNat):Int);let e:=4*k+2;let f:=(Nat.cast ((t e).toNat):Int);let g:=t (4*k)-t e;let i:=t (4*k+1)-(t e+g / 2);let j:=(Nat.cast ((t e+g / 2+i / 2).toNat):Int);let m:=(Nat.cast (g.toNat):Int);let n:=(Nat.cast (i.toNat):Int);let o:=iv .u8 j;let q:=iv .u8 m;let r:=j4 (tl (vX t k)) (0+Int.toNat 0*64+a.toNat*1) [l8 j];let s:=iv .u8 n;let w:=j4 r (0+Int.toNat 1*64+a.toNat*1) [l8 m];let x:=(Nat.cast ((t (4*k+3)).toNat):Int);let y:=j4 w (0+Int.toNat 2*64+a.toNat*1) [l8 n];let z:=(0,some (j9 (tl t) 38));let A:=(1,some (j9 (tl zT) 211));HB (decide ((k:Int)<64)) (t0 a 64/\0+a.toNat*4+0<256/\Le (l4 ((tl t).getD (0+a.toNat*4+0) Leaf.u)) (iv .u8 b)/\t0 a 64/\0+a.toNat*4+1<256/\Le (l4 ((tl t).getD (0+a.toNat*4+1) Leaf.u)) (iv .u8 d)/\t0 a 64/\0+a.toNat*4+2<256/\Le (l4 ((tl t).getD (0+a.toNat*4+2) Leaf.u)) (iv .u8 f)/\Kd 191 [] [ag [l8 b,l8 d,l8 f]] [] 3 (ag [l8 j,l8 m,l8 n]) [] 0/\3<=3/\0=0/\3=3/\Le o o/\t0 a 64/\0+Int.toNat 0*64+a.toNat*1+1<=256/\Le q q/\t0 a 64/\0+Int.toNat 1*64+a.toNat*1+1<=r.length/\Le s s/\t0 a 64/\0+Int.toNat 2*64+a.toNat*1+1<=w.length/\t0 a 64/\0+a.toNat*4+3<256/\Le (l4 ((tl t).getD (0+a.toNat*4+3) Leaf.u)) (iv .u8 x)/\t0 a 64/\0+Int.toNat 3*64+a.toNat*1+1<=y.length/\IntKind.i64.wrap ((k:Int)+1)=(k:Int)+1/\RoundTo prog (gl 3 Tryz.f166) 3 (wkK 3 K) (St.mk [(1,j7 0 0),(2,j7 1 0),(3,j7 2 0),(4,i8 ((k:Int)+1))] [z,A,(2,some (j9 (j4 y (0+Int.toNat 3*64+a.toNat*1) [l8 x]) 211))] 4 48 [2,2,2,2,3,3,2,1,0] 0)) (wkK 3 K (Exit.exit 0) (St.mk [(1,j7 0 0),(2,j7 1 0),(3,j7 2 0),(4,i8 (k:Int))] [z,A,(2,some (j9 (tl (vX t k)) 211))] 3 48 [2,1,0] 0))):z4 prog (gl 3 Tryz.f166) (wC t k) (wkK 3 K):=
 m5 [1,2,3,4] [0,1,2] (cx:=We t k) rfl (u3 (by kernel_rfl) h)
theorem c3f (t:Nat->UInt8)  : ∀(m k:Nat),64-k=m->k<=64->∀(K:Exit->St->Prop),K (.exit 0) (wC t 64)->z4 prog (gl 3 Tryz.f166) (wC t k) (wkK 3 K)
 |0,k,hm,hk,K,hK=>by
  have e:k=64:=by omega
  subst e
  refine b7u t _ K (HB.no (by omega) ?_)
  exact wkK.tk (wC t _) (by kernel_rfl) (d5 (l6.p (j3 t) (by kernel_rfl)) (d5 (l6.p (j3 _) (by kernel_rfl)) (d5 (l6.p (j3 _) (by kernel_rfl)) trivial))) hK
 |m+1,k,hm,hk,K,hK=>by
  refine b7u t k K (HB.yes (by omega) ?_)
  have hlt:k<64:=by omega
  with_reducible repeat' first|exact trivial|apply And.intro|apply HB.mk|intro _
  all_goals first|(with_reducible first|exact Le.refl _|rfl|exact c7l _ _ _ _)|omega|(exact ⟨by omega,by omega⟩)|simp only[u4,B8];omega|(refine Le.of ?_;simp only[tn,Nat.zero_add,Nat.add_zero];first|exact Nc t hlt|exact Lo t hlt _ (by decide))|(with_reducible refine RoundTo.tk 4 (wC t (k+1)) ?_ ?_ ?_);kernel_rfl;exact (d5 (l6.p (j3 t) (by kernel_rfl)) (d5 (l6.p (j3 _) (by kernel_rfl)) (d5 (l6.plain (cs:=j4 (j4 (j4 (j4 (tl (vX t k)) (0+Int.toNat 0*64+((k:Nat):Int).toNat*1) [ub (t (4*k+2)+(t (4*k)-t (4*k+2)) / 2+(t (4*k+1)-(t (4*k+2)+(t (4*k)-t (4*k+2)) / 2)) / 2)]) (0+Int.toNat 1*64+((k:Nat):Int).toNat*1) [ub (t (4*k)-t (4*k+2))]) (0+Int.toNat 2*64+((k:Nat):Int).toNat*1) [ub (t (4*k+1)-(t (4*k+2)+(t (4*k)-t (4*k+2)) / 2))]) (0+Int.toNat 3*64+((k:Nat):Int).toNat*1) [ub (t (4*k+3))]) (b:=.t 211) (by kernel_rfl) (a2c t hlt) (j3 _) (by kernel_rfl)) trivial)));exact (c3f t  m (k+1) (by omega) (by omega) K hK)|exact C2 _ (by omega) (by omega)
def Vr (t:Nat->UInt8):Cz:={
 ct:=fun _=>none
 nf:=[(47,.c (.agg (tl (dB t))))],lp:=fun r=>match r with|3=>some (fun _ K=>K (.exit 0) (wC t 64))|_=>none,wh:=[38,211]}
theorem d1t (t:Nat->UInt8)  (n:Nat):f4 prog 166 [.c (.agg (tl t))] [] n (.c (.agg (tl (dB t)))) [] 0:=by
 refine v6 (q:=let a:=(2,some (j9 o7 211));let b:=ag (tl (dB t));0=0/\256=256/\(l3 prog (gl 3 Tryz.f166) (St.mk [(4,i8 0),(3,j7 2 0),(6,ag o7),(2,j7 1 0),(1,j7 0 0),(0,ag (tl t))] [a,a,(1,some (j9 o7 211)),(0,some (j9 (tl t) 38))] 3 48 [2,2,1,0] 0) fun K=>K (Exit.exit 0) (wC t 64))/\Le (ag (List.take 256 (tl (vX t 64)))) b/\0=0/\256=256/\Le b b/\True) (Vr t) func166 n (by kernel_rfl) (by kernel_rfl) ?_
 with_reducible repeat' first|exact trivial|apply And.intro|apply HB.mk|intro _|exact Le.refl _|rfl
 all_goals first|exact l3.tk (wC t 0) (by kernel_rfl) (d5 (l6.p (j3 t) (by kernel_rfl)) (d5 (l6.plain (cs:=o7) (b:=.t 211) (by kernel_rfl) (q9) (j3 _) (by kernel_rfl)) (d5 (l6.plain (cs:=o7) (b:=.t 211) (by kernel_rfl) (a3q t) (j3 _) (by kernel_rfl)) trivial))) (fun K hT=>c3f t  _ 0 rfl (by first|decide|omega) K hT)|refine Le.of ?_;rw[show tl (vX t 64)=tl (dB t) from b1x t,t7];done
end Ab
end
section
namespace Ab
attribute [local irreducible] j8
attribute [local irreducible] tl n8
def Ci (k l u c:Int):Int:=Prd.M.vR k.toNat l u c
def gsR (k:Int) (q:Nat->UInt8) (i:Nat):UInt8:=Prd.M.gs k.toNat q i
theorem Wi {k l u c:Int} (h:(k==1)=true):l=Ci k l u c:=by rw[eq_of_beq h];rfl
theorem a2k {k l u c:Int} (h:(k==2)=true):u=Ci k l u c:=by rw[eq_of_beq h];rfl
theorem a4b {k l u c:Int} (hl:0<=l) (hu:0<=u) (h:(k==3)=true):(l+u).tdiv 2=Ci k l u c:=by
 rw[eq_of_beq h,Int.tdiv_eq_ediv_of_nonneg (by omega)];rfl
theorem Ue {k l u c:Int} (h:(k==4)=true):qZ l u c=Ci k l u c:=by rw[eq_of_beq h];rfl
theorem Wh {k l u c:Int} (h:(k==5)=true):qL l u c=Ci k l u c:=by rw[eq_of_beq h];rfl
theorem Yn {k l u c:Int} (h0:0<=k) (hk:k<6) (h1:(k==1)=false) (h2:(k==2)=false) (h3:(k==3)=false) (h4:(k==4)=false) (h5:(k==5)=false):0=Ci k l u c:=by
 simp at h1 h2 h3 h4 h5
 rw[show k=0 by omega];rfl
theorem Dy {l u c:Int} (hl:0<=l/\l<=255) (hu:0<=u/\u<=255) (hc:0<=c/\c<=255):0<=qZ l u c/\qZ l u c<=255:=Prd.M.sC 4 _ _ _ hl hu hc
theorem Fp {l u c:Int} (hl:0<=l/\l<=255) (hu:0<=u/\u<=255) (hc:0<=c/\c<=255):0<=qL l u c/\qL l u c<=255:=Prd.M.sC 5 _ _ _ hl hu hc
theorem Jx {x:Int} (h:0<=x/\x<=255):IntKind.u8.wrap x=x:=by rw[To];omega
theorem b1o (t:Nat->UInt8) {m j:Nat} (h:j<m):(tb t m).getD j .u=ub (t j):=by
 unfold tb
 simp[List.getD,h]
theorem tbU (q:Nat->UInt8) {i:Nat} (j:Nat) (z:Int) (e:z.toNat=j) (h:j<64):SV.c (.l ((tb q 64).getD z.toNat .u))=.c (.l (ub (q j))):=by
 rw[e,b1o _ h]
def Wn:Rw:=some fun _ _=>fun | [.c (.l (.v (.int _ l))),.c (.l (.v (.int _ u))),.c (.l (.v (.int _ c)))]=>some {v:=iv .i64 (qZ l u c)}|_=>none
def a2p:Rw:=some fun _ _=>fun | [.c (.l (.v (.int _ l))),.c (.l (.v (.int _ u))),.c (.l (.v (.int _ c)))]=>some {v:=iv .i64 (qL l u c)}|_=>none
def Sp (q:Nat->UInt8) (i:Nat) (k:Int):Cz:={
 ct:=(fun f=>match f with
 |192=>Wn
 |193=>a2p
 |_=>none)
 sym:=[17,18,24,25,35,36],nf:=[(19,iv .i64 ((q (i-8)).toNat:Nat)),(26,iv .i64 ((q (i-1)).toNat:Nat)),(37,iv .i64 ((q (i-9)).toNat:Nat)),(54,iv .u8 0),(58,iv .u8 0),(65,iv .u8 ((0+0:Int).tdiv 2)),(72,iv .u8 (qZ 0 0 0)),(79,iv .u8 (qL 0 0 0)),(12,iv .i64 ((i % 8:Nat):Nat)),(18,.c (.l (ub (q (i-8))))),(25,.c (.l (ub (q (i-1))))),(36,.c (.l (ub (q (i-9))))),(14,bv false),(21,bv false),(32,bv false),(39,bv true),(47,bv false)],wh:=[189]}
theorem b6c (q:Nat->UInt8) (i:Nat) (k:Int) (h0:0<=k) (hk:k<6) (hi:i=0) (n:Nat):f4 prog 167 [.c (.agg (tb q 64)),iv .i64 (i:Nat),iv .i64 k] [] n (iv .u8 (Ci k 0 0 0)) [] 0:=by
 refine f4.any ?_ (by kernel_rfl) (by kernel_rfl) n
 have b1:=(q (i-1)).toNat_lt
 have b8:=(q (i-8)).toNat_lt
 have b9:=(q (i-9)).toNat_lt
 have hm:=Int.tmod_eq_emod_of_nonneg (b:=8) (show (0:Int)<=((i:Nat):Int) by omega)
 have htd:=Int.tdiv_eq_ediv_of_nonneg (b:=2) (show (0:Int)<=0+0 by omega)
 refine E3 (q:=let a:=(Nat.cast ((i % 8)):Int);let b:=((i:Int)>=8);let c:=bv false;let d:=a>0;let e:=((i:Int)<8);let f:=iv .u8 0;let g:=iv .u8 (Ci k 0 0 0);let h:=Le (iv .u8 (IntKind.u8.wrap 0)) f/\Le f g/\True;let j:=((0+0:Int).tdiv 2);let l:=iv .u8 j;let m:=[i8 0,i8 0,i8 0];let n:=qZ 0 0 0;let o:=iv .u8 n;let p:=qL 0 0 0;let r:=iv .u8 p;(8:Int)≠0/\Le (i8 (((i:Int)).tmod 8)) (i8 a)/\Le (bv (decide b)) c/\Le (bv (decide d)) c/\(decide d=true->decide d=true/\True)/\(decide d=true->decide d=true)/\Le (bv (bif decide d then decide b else false)) c/\Le (bv (a==0)) (bv true)/\(decide e=true->decide e=true/\True)/\(decide e=true->decide e=true)/\Le (bv (bif decide e then decide d else false)) c/\HB (k==1) h (HB (k==2) h (HB (k==3) (IntKind.i64.wrap (0+0)=0+0/\(2:Int)≠0/\IntKind.i64.wrap j=(0+0:Int).tdiv 2/\Le (iv .u8 (IntKind.u8.wrap j)) l/\Le l g/\True) (HB (k==4) (Kd 192 [] m [] 1 (i8 n) [] 0/\Le (iv .u8 (IntKind.u8.wrap n)) o/\Le o g/\True) (HB (k==5) (Kd 193 [] m [] 1 (i8 p) [] 0/\Le (iv .u8 (IntKind.u8.wrap p)) r/\Le r g/\True) (Le f g/\True)))))) (Sp q i k) [] func167 (by kernel_rfl) (by kernel_rfl) ?_
 with_reducible repeat' first|exact trivial|apply And.intro|apply HB.mk|intro _|assumption
 all_goals first|(with_reducible refine a1v _ _ _ ?_ ?_ ?_ _)<;>omega|(with_reducible refine Uh _ _ _ ?_ ?_ ?_ _)<;>omega|omega|exact C2 _ (by omega) (by omega)|refine Le.int ?_;exact Jx (by omega)|refine Le.int ?_;exact Jx (Dy (by omega) (by omega) (by omega))|refine Le.int ?_;exact Jx (Fp (by omega) (by omega) (by omega))|(with_reducible first|exact Le.int (Wi (l:=0) (u:=0) (c:=0) (by with_reducible assumption))|exact Le.int (a2k (l:=0) (u:=0) (c:=0) (by with_reducible assumption))|exact Le.int (a4b (l:=0) (u:=0) (c:=0) (by omega) (by omega) (by with_reducible assumption))|exact Le.int (Ue (l:=0) (u:=0) (c:=0) (by with_reducible assumption))|exact Le.int (Wh (l:=0) (u:=0) (c:=0) (by with_reducible assumption))|exact Le.int (Yn (l:=0) (u:=0) (c:=0) h0 hk (by with_reducible assumption) (by with_reducible assumption) (by with_reducible assumption) (by with_reducible assumption) (by with_reducible assumption)))|refine Le.int ?_;omega|refine Le.bool (decide_eq_true ?_);omega|refine Le.bool (decide_eq_false ?_);omega|refine Le.bool ?_;simp;omega
def Tf (q:Nat->UInt8) (i:Nat) (k:Int):Cz:={
 ct:=(fun f=>match f with
 |192=>Wn
 |193=>a2p
 |_=>none)
 sym:=[17,18,24,25,35,36],nf:=[(19,iv .i64 ((q (i-8)).toNat:Nat)),(26,iv .i64 ((q (i-1)).toNat:Nat)),(37,iv .i64 ((q (i-9)).toNat:Nat)),(54,iv .u8 ((q (i-1)).toNat:Nat)),(58,iv .u8 ((q (i-1)).toNat:Nat)),(65,iv .u8 ((((q (i-1)).toNat:Nat)+((q (i-1)).toNat:Nat):Int).tdiv 2)),(72,iv .u8 (qZ ((q (i-1)).toNat:Nat) ((q (i-1)).toNat:Nat) ((q (i-1)).toNat:Nat))),(79,iv .u8 (qL ((q (i-1)).toNat:Nat) ((q (i-1)).toNat:Nat) ((q (i-1)).toNat:Nat))),(12,iv .i64 ((i % 8:Nat):Nat)),(18,.c (.l (ub (q (i-8))))),(25,.c (.l (ub (q (i-1))))),(36,.c (.l (ub (q (i-9))))),(14,bv false),(21,bv true),(32,bv false),(39,bv false),(47,bv true)],wh:=[189]}
theorem c3n (q:Nat->UInt8) (i:Nat) (k:Int) (h0:0<=k) (hk:k<6) (hi:0<i) (hj:i<8) (n:Nat):f4 prog 167 [.c (.agg (tb q 64)),iv .i64 (i:Nat),iv .i64 k] [] n (iv .u8 (Ci k ((q (i-1)).toNat:Nat) ((q (i-1)).toNat:Nat) ((q (i-1)).toNat:Nat))) [] 0:=by
 refine f4.any ?_ (by kernel_rfl) (by kernel_rfl) n
 have b1:=(q (i-1)).toNat_lt
 have b8:=(q (i-8)).toNat_lt
 have b9:=(q (i-9)).toNat_lt
 have hm:=Int.tmod_eq_emod_of_nonneg (b:=8) (show (0:Int)<=((i:Nat):Int) by omega)
 have htd:=Int.tdiv_eq_ediv_of_nonneg (b:=2) (show (0:Int)<=((q (i-1)).toNat:Nat)+((q (i-1)).toNat:Nat) by omega)
 refine E3 (q:=let a:=(Nat.cast ((i % 8)):Int);let b:=((i:Int)>=8);let d:=bv false;let e:=a>0;let f:=((i:Int)-1);let g:=(Nat.cast ((q (i-1)).toNat):Int);let h:=iv .u8 g;let j:=((i:Int)<8);let m:=iv .u8 (Ci k g g g);let n:=Le (iv .u8 (IntKind.u8.wrap g)) h/\Le h m/\True;let o:=(g+g).tdiv 2;let p:=iv .u8 o;let r:=[i8 g,i8 g,i8 g];let s:=qZ g g g;let t:=iv .u8 s;let v:=qL g g g;let w:=iv .u8 v;(8:Int)≠0/\Le (i8 (((i:Int)).tmod 8)) (i8 a)/\Le (bv (decide b)) d/\Le (bv (decide e)) (bv true)/\IntKind.i64.wrap f=(i:Int)-1/\t0 f 64/\0+f.toNat*1<64/\Le (l4 ((tb q 64).getD (0+f.toNat*1) Leaf.u)) h/\Le (i8 (IntKind.i64.wrap g)) (i8 g)/\(decide e=true->decide e=true/\True)/\(decide e=true->decide e=true)/\Le (bv (bif decide e then decide b else false)) d/\Le (bv (a==0)) d/\(decide j=true->decide j=true/\True)/\(decide j=true->decide j=true)/\Le (bv (bif decide j then decide e else false)) (bv true)/\HB (k==1) n (HB (k==2) n (HB (k==3) (IntKind.i64.wrap (g+g)=g+g/\(2:Int)≠0/\IntKind.i64.wrap o=(g+g).tdiv 2/\Le (iv .u8 (IntKind.u8.wrap o)) p/\Le p m/\True) (HB (k==4) (Kd 192 [] r [] 1 (i8 s) [] 0/\Le (iv .u8 (IntKind.u8.wrap s)) t/\Le t m/\True) (HB (k==5) (Kd 193 [] r [] 1 (i8 v) [] 0/\Le (iv .u8 (IntKind.u8.wrap v)) w/\Le w m/\True) (Le (iv .u8 0) m/\True)))))) (Tf q i k) [] func167 (by kernel_rfl) (by kernel_rfl) ?_
 with_reducible repeat' first|exact trivial|apply And.intro|apply HB.mk|intro _|assumption
 all_goals first|(with_reducible refine a1v _ _ _ ?_ ?_ ?_ _)<;>omega|(with_reducible refine Uh _ _ _ ?_ ?_ ?_ _)<;>omega|(exact ⟨by omega,by omega⟩)|omega|exact C2 _ (by omega) (by omega)|refine Le.int ?_;exact C2 _ (by omega) (by omega)|refine Le.int ?_;exact Jx (by omega)|refine Le.int ?_;exact Jx (Dy (by omega) (by omega) (by omega))|refine Le.int ?_;exact Jx (Fp (by omega) (by omega) (by omega))|refine Le.of ?_;simp only[Nat.zero_add,Nat.add_zero,Nat.mul_one];exact tbU (i:=i) q _ _ (by omega) (by omega)|(with_reducible first|exact Le.int (Wi (l:=((q (i-1)).toNat:Nat)) (u:=((q (i-1)).toNat:Nat)) (c:=((q (i-1)).toNat:Nat)) (by with_reducible assumption))|exact Le.int (a2k (l:=((q (i-1)).toNat:Nat)) (u:=((q (i-1)).toNat:Nat)) (c:=((q (i-1)).toNat:Nat)) (by with_reducible assumption))|exact Le.int (a4b (l:=((q (i-1)).toNat:Nat)) (u:=((q (i-1)).toNat:Nat)) (c:=((q (i-1)).toNat:Nat)) (by omega) (by omega) (by with_reducible assumption))|exact Le.int (Ue (l:=((q (i-1)).toNat:Nat)) (u:=((q (i-1)).toNat:Nat)) (c:=((q (i-1)).toNat:Nat)) (by with_reducible assumption))|exact Le.int (Wh (l:=((q (i-1)).toNat:Nat)) (u:=((q (i-1)).toNat:Nat)) (c:=((q (i-1)).toNat:Nat)) (by with_reducible assumption))|exact Le.int (Yn (l:=((q (i-1)).toNat:Nat)) (u:=((q (i-1)).toNat:Nat)) (c:=((q (i-1)).toNat:Nat)) h0 hk (by with_reducible assumption) (by with_reducible assumption) (by with_reducible assumption) (by with_reducible assumption) (by with_reducible assumption)))|refine Le.int ?_;omega|refine Le.bool (decide_eq_true ?_);omega|refine Le.bool (decide_eq_false ?_);omega|refine Le.bool ?_;simp;omega
def Oe (q:Nat->UInt8) (i:Nat) (k:Int):Cz:={
 ct:=(fun f=>match f with
 |192=>Wn
 |193=>a2p
 |_=>none)
 sym:=[17,18,24,25,35,36],nf:=[(19,iv .i64 ((q (i-8)).toNat:Nat)),(26,iv .i64 ((q (i-1)).toNat:Nat)),(37,iv .i64 ((q (i-9)).toNat:Nat)),(54,iv .u8 ((q (i-8)).toNat:Nat)),(58,iv .u8 ((q (i-8)).toNat:Nat)),(65,iv .u8 ((((q (i-8)).toNat:Nat)+((q (i-8)).toNat:Nat):Int).tdiv 2)),(72,iv .u8 (qZ ((q (i-8)).toNat:Nat) ((q (i-8)).toNat:Nat) ((q (i-8)).toNat:Nat))),(79,iv .u8 (qL ((q (i-8)).toNat:Nat) ((q (i-8)).toNat:Nat) ((q (i-8)).toNat:Nat))),(12,iv .i64 ((i % 8:Nat):Nat)),(18,.c (.l (ub (q (i-8))))),(25,.c (.l (ub (q (i-1))))),(36,.c (.l (ub (q (i-9))))),(14,bv true),(21,bv false),(32,bv false),(39,bv true),(47,bv false)],wh:=[189]}
theorem c1m (q:Nat->UInt8) (i:Nat) (k:Int) (h0:0<=k) (hk:k<6) (hi:8<=i) (hj:i<64) (hx:i % 8=0) (n:Nat):f4 prog 167 [.c (.agg (tb q 64)),iv .i64 (i:Nat),iv .i64 k] [] n (iv .u8 (Ci k ((q (i-8)).toNat:Nat) ((q (i-8)).toNat:Nat) ((q (i-8)).toNat:Nat))) [] 0:=by
 refine f4.any ?_ (by kernel_rfl) (by kernel_rfl) n
 have b1:=(q (i-1)).toNat_lt
 have b8:=(q (i-8)).toNat_lt
 have b9:=(q (i-9)).toNat_lt
 have hm:=Int.tmod_eq_emod_of_nonneg (b:=8) (show (0:Int)<=((i:Nat):Int) by omega)
 have htd:=Int.tdiv_eq_ediv_of_nonneg (b:=2) (show (0:Int)<=((q (i-8)).toNat:Nat)+((q (i-8)).toNat:Nat) by omega)
 refine E3 (q:=let a:=(Nat.cast ((i % 8)):Int);let b:=((i:Int)>=8);let d:=((i:Int)-8);let e:=(Nat.cast ((q (i-8)).toNat):Int);let f:=iv .u8 e;let g:=a>0;let h:=bv false;let j:=((i:Int)<8);let m:=iv .u8 (Ci k e e e);let n:=Le (iv .u8 (IntKind.u8.wrap e)) f/\Le f m/\True;let o:=(e+e).tdiv 2;let p:=iv .u8 o;let r:=[i8 e,i8 e,i8 e];let s:=qZ e e e;let t:=iv .u8 s;let v:=qL e e e;let w:=iv .u8 v;(8:Int)≠0/\Le (i8 (((i:Int)).tmod 8)) (i8 a)/\Le (bv (decide b)) (bv true)/\IntKind.i64.wrap d=(i:Int)-8/\t0 d 64/\0+d.toNat*1<64/\Le (l4 ((tb q 64).getD (0+d.toNat*1) Leaf.u)) f/\Le (i8 (IntKind.i64.wrap e)) (i8 e)/\Le (bv (decide g)) h/\(decide g=true->decide g=true/\True)/\(decide g=true->decide g=true)/\Le (bv (bif decide g then decide b else false)) h/\Le (bv (a==0)) (bv true)/\(decide j=true->decide j=true/\True)/\(decide j=true->decide j=true)/\Le (bv (bif decide j then decide g else false)) h/\HB (k==1) n (HB (k==2) n (HB (k==3) (IntKind.i64.wrap (e+e)=e+e/\(2:Int)≠0/\IntKind.i64.wrap o=(e+e).tdiv 2/\Le (iv .u8 (IntKind.u8.wrap o)) p/\Le p m/\True) (HB (k==4) (Kd 192 [] r [] 1 (i8 s) [] 0/\Le (iv .u8 (IntKind.u8.wrap s)) t/\Le t m/\True) (HB (k==5) (Kd 193 [] r [] 1 (i8 v) [] 0/\Le (iv .u8 (IntKind.u8.wrap v)) w/\Le w m/\True) (Le (iv .u8 0) m/\True)))))) (Oe q i k) [] func167 (by kernel_rfl) (by kernel_rfl) ?_
 with_reducible repeat' first|exact trivial|apply And.intro|apply HB.mk|intro _|assumption
 all_goals first|(with_reducible refine a1v _ _ _ ?_ ?_ ?_ _)<;>omega|(with_reducible refine Uh _ _ _ ?_ ?_ ?_ _)<;>omega|(exact ⟨by omega,by omega⟩)|omega|exact C2 _ (by omega) (by omega)|refine Le.int ?_;exact C2 _ (by omega) (by omega)|refine Le.int ?_;exact Jx (by omega)|refine Le.int ?_;exact Jx (Dy (by omega) (by omega) (by omega))|refine Le.int ?_;exact Jx (Fp (by omega) (by omega) (by omega))|refine Le.of ?_;simp only[Nat.zero_add,Nat.add_zero,Nat.mul_one];exact tbU (i:=i) q _ _ (by omega) (by omega)|(with_reducible first|exact Le.int (Wi (l:=((q (i-8)).toNat:Nat)) (u:=((q (i-8)).toNat:Nat)) (c:=((q (i-8)).toNat:Nat)) (by with_reducible assumption))|exact Le.int (a2k (l:=((q (i-8)).toNat:Nat)) (u:=((q (i-8)).toNat:Nat)) (c:=((q (i-8)).toNat:Nat)) (by with_reducible assumption))|exact Le.int (a4b (l:=((q (i-8)).toNat:Nat)) (u:=((q (i-8)).toNat:Nat)) (c:=((q (i-8)).toNat:Nat)) (by omega) (by omega) (by with_reducible assumption))|exact Le.int (Ue (l:=((q (i-8)).toNat:Nat)) (u:=((q (i-8)).toNat:Nat)) (c:=((q (i-8)).toNat:Nat)) (by with_reducible assumption))|exact Le.int (Wh (l:=((q (i-8)).toNat:Nat)) (u:=((q (i-8)).toNat:Nat)) (c:=((q (i-8)).toNat:Nat)) (by with_reducible assumption))|exact Le.int (Yn (l:=((q (i-8)).toNat:Nat)) (u:=((q (i-8)).toNat:Nat)) (c:=((q (i-8)).toNat:Nat)) h0 hk (by with_reducible assumption) (by with_reducible assumption) (by with_reducible assumption) (by with_reducible assumption) (by with_reducible assumption)))|refine Le.int ?_;omega|refine Le.bool (decide_eq_true ?_);omega|refine Le.bool (decide_eq_false ?_);omega|refine Le.bool ?_;simp;omega
def Oo (q:Nat->UInt8) (i:Nat) (k:Int):Cz:={
 ct:=(fun f=>match f with
 |192=>Wn
 |193=>a2p
 |_=>none)
 sym:=[17,18,24,25,35,36],nf:=[(19,iv .i64 ((q (i-8)).toNat:Nat)),(26,iv .i64 ((q (i-1)).toNat:Nat)),(37,iv .i64 ((q (i-9)).toNat:Nat)),(54,iv .u8 ((q (i-1)).toNat:Nat)),(58,iv .u8 ((q (i-8)).toNat:Nat)),(65,iv .u8 ((((q (i-1)).toNat:Nat)+((q (i-8)).toNat:Nat):Int).tdiv 2)),(72,iv .u8 (qZ ((q (i-1)).toNat:Nat) ((q (i-8)).toNat:Nat) ((q (i-9)).toNat:Nat))),(79,iv .u8 (qL ((q (i-1)).toNat:Nat) ((q (i-8)).toNat:Nat) ((q (i-9)).toNat:Nat))),(12,iv .i64 ((i % 8:Nat):Nat)),(18,.c (.l (ub (q (i-8))))),(25,.c (.l (ub (q (i-1))))),(36,.c (.l (ub (q (i-9))))),(14,bv true),(21,bv true),(32,bv true),(39,bv false),(47,bv false)],wh:=[189]}
theorem c3i (q:Nat->UInt8) (i:Nat) (k:Int) (h0:0<=k) (hk:k<6) (hi:8<=i) (hj:i<64) (hx:i % 8≠0) (n:Nat):f4 prog 167 [.c (.agg (tb q 64)),iv .i64 (i:Nat),iv .i64 k] [] n (iv .u8 (Ci k ((q (i-1)).toNat:Nat) ((q (i-8)).toNat:Nat) ((q (i-9)).toNat:Nat))) [] 0:=by
 refine f4.any ?_ (by kernel_rfl) (by kernel_rfl) n
 have b1:=(q (i-1)).toNat_lt
 have b8:=(q (i-8)).toNat_lt
 have b9:=(q (i-9)).toNat_lt
 have hm:=Int.tmod_eq_emod_of_nonneg (b:=8) (show (0:Int)<=((i:Nat):Int) by omega)
 have htd:=Int.tdiv_eq_ediv_of_nonneg (b:=2) (show (0:Int)<=((q (i-1)).toNat:Nat)+((q (i-8)).toNat:Nat) by omega)
 refine E3 (q:=let a:=(Nat.cast ((i % 8)):Int);let b:=((i:Int)>=8);let d:=bv true;let e:=((i:Int)-8);let f:=tb q 64;let g:=(Nat.cast ((q (i-8)).toNat):Int);let h:=iv .u8 g;let j:=a>0;let m:=((i:Int)-1);let n:=(Nat.cast ((q (i-1)).toNat):Int);let o:=iv .u8 n;let p:=((i:Int)-9);let r:=(Nat.cast ((q (i-9)).toNat):Int);let s:=((i:Int)<8);let t:=iv .u8 (Ci k n g r);let v:=(n+g).tdiv 2;let w:=iv .u8 v;let x:=[i8 n,i8 g,i8 r];let y:=qZ n g r;let z:=iv .u8 y;let A:=qL n g r;let B:=iv .u8 A;(8:Int)≠0/\Le (i8 (((i:Int)).tmod 8)) (i8 a)/\Le (bv (decide b)) d/\IntKind.i64.wrap e=(i:Int)-8/\t0 e 64/\0+e.toNat*1<64/\Le (l4 (f.getD (0+e.toNat*1) Leaf.u)) h/\Le (i8 (IntKind.i64.wrap g)) (i8 g)/\Le (bv (decide j)) d/\IntKind.i64.wrap m=(i:Int)-1/\t0 m 64/\0+m.toNat*1<64/\Le (l4 (f.getD (0+m.toNat*1) Leaf.u)) o/\Le (i8 (IntKind.i64.wrap n)) (i8 n)/\(decide j=true->decide j=true/\True)/\(decide j=true->decide j=true)/\Le (bv (bif decide j then decide b else false)) d/\IntKind.i64.wrap p=(i:Int)-9/\t0 p 64/\0+p.toNat*1<64/\Le (l4 (f.getD (0+p.toNat*1) Leaf.u)) (iv .u8 r)/\Le (i8 (IntKind.i64.wrap r)) (i8 r)/\Le (bv (a==0)) (bv false)/\(decide s=true->decide s=true/\True)/\(decide s=true->decide s=true)/\Le (bv (bif decide s then decide j else false)) (bv false)/\HB (k==1) (Le (iv .u8 (IntKind.u8.wrap n)) o/\Le o t/\True) (HB (k==2) (Le (iv .u8 (IntKind.u8.wrap g)) h/\Le h t/\True) (HB (k==3) (IntKind.i64.wrap (n+g)=n+g/\(2:Int)≠0/\IntKind.i64.wrap v=(n+g).tdiv 2/\Le (iv .u8 (IntKind.u8.wrap v)) w/\Le w t/\True) (HB (k==4) (Kd 192 [] x [] 1 (i8 y) [] 0/\Le (iv .u8 (IntKind.u8.wrap y)) z/\Le z t/\True) (HB (k==5) (Kd 193 [] x [] 1 (i8 A) [] 0/\Le (iv .u8 (IntKind.u8.wrap A)) B/\Le B t/\True) (Le (iv .u8 0) t/\True)))))) (Oo q i k) [] func167 (by kernel_rfl) (by kernel_rfl) ?_
 with_reducible repeat' first|exact trivial|apply And.intro|apply HB.mk|intro _|assumption
 all_goals first|(with_reducible refine a1v _ _ _ ?_ ?_ ?_ _)<;>omega|(with_reducible refine Uh _ _ _ ?_ ?_ ?_ _)<;>omega|(exact ⟨by omega,by omega⟩)|omega|exact C2 _ (by omega) (by omega)|refine Le.int ?_;exact C2 _ (by omega) (by omega)|refine Le.int ?_;exact Jx (by omega)|refine Le.int ?_;exact Jx (Dy (by omega) (by omega) (by omega))|refine Le.int ?_;exact Jx (Fp (by omega) (by omega) (by omega))|refine Le.of ?_;simp only[Nat.zero_add,Nat.add_zero,Nat.mul_one];exact tbU (i:=i) q _ _ (by omega) (by omega)|(with_reducible first|exact Le.int (Wi (l:=((q (i-1)).toNat:Nat)) (u:=((q (i-8)).toNat:Nat)) (c:=((q (i-9)).toNat:Nat)) (by with_reducible assumption))|exact Le.int (a2k (l:=((q (i-1)).toNat:Nat)) (u:=((q (i-8)).toNat:Nat)) (c:=((q (i-9)).toNat:Nat)) (by with_reducible assumption))|exact Le.int (a4b (l:=((q (i-1)).toNat:Nat)) (u:=((q (i-8)).toNat:Nat)) (c:=((q (i-9)).toNat:Nat)) (by omega) (by omega) (by with_reducible assumption))|exact Le.int (Ue (l:=((q (i-1)).toNat:Nat)) (u:=((q (i-8)).toNat:Nat)) (c:=((q (i-9)).toNat:Nat)) (by with_reducible assumption))|exact Le.int (Wh (l:=((q (i-1)).toNat:Nat)) (u:=((q (i-8)).toNat:Nat)) (c:=((q (i-9)).toNat:Nat)) (by with_reducible assumption))|exact Le.int (Yn (l:=((q (i-1)).toNat:Nat)) (u:=((q (i-8)).toNat:Nat)) (c:=((q (i-9)).toNat:Nat)) h0 hk (by with_reducible assumption) (by with_reducible assumption) (by with_reducible assumption) (by with_reducible assumption) (by with_reducible assumption)))|refine Le.int ?_;omega|refine Le.bool (decide_eq_true ?_);omega|refine Le.bool (decide_eq_false ?_);omega|refine Le.bool ?_;simp;omega
end Ab
end
section
namespace Ab
attribute [local irreducible] j8
attribute [local irreducible] tl n8
def dF (k:Int) (t:Nat->UInt8) (j:Nat):UInt8:=Prd.M.res k.toNat (dB t) j
def plR (t:Nat->UInt8) (j:Nat):Nat->UInt8:=Prd.M.pl (dB t) j
theorem a5f (q:Nat->UInt8) (i:Nat) (k:Int) (h0:0<=k) (hk:k<6) (hi:i<64) (n:Nat):f4 prog 167 [.c (.agg (tb q 64)),iv .i64 (i:Nat),iv .i64 k] [] n (iv .u8 ((gsR k q i).toNat:Nat)) [] 0:=by
 have e:((gsR k q i).toNat:Int)=Ci k (Prd.M.nbL q i) (Prd.M.nbU q i) (Prd.M.nbC q i):=Prd.M.Nk _ _ _
 rw[e]
 unfold Prd.M.nbL Prd.M.nbU Prd.M.nbC
 by_cases h1:i=0
 ·rw[if_pos h1,if_pos h1,if_pos h1];exact b6c q i k h0 hk h1 n
 ·rw[if_neg h1,if_neg h1,if_neg h1]
  by_cases h2:i<8
  ·rw[if_pos h2,if_pos h2,if_pos h2];exact c3n q i k h0 hk (by omega) h2 n
  ·rw[if_neg h2,if_neg h2,if_neg h2]
   by_cases h3:i % 8=0
   ·rw[if_pos h3,if_pos h3];exact c1m q i k h0 hk (by omega) hi h3 n
   ·rw[if_neg h3,if_neg h3];exact c3i q i k h0 hk (by omega) hi h3 n
theorem Er (t:Nat->UInt8) (m:Nat):tb t m++[ub (t m)]=tb t (m+1):=by
 unfold tb
 rw[List.range_succ,List.map_append];rfl
theorem a9v (k:Int) (t:Nat->UInt8) {j i:Nat} (hi:i<64):IntKind.u8.wrap (((dB t (64*j+i)).toNat:Nat)-((gsR k (plR t j) i).toNat:Nat))=((dF k t (64*j+i)).toNat:Nat):=by
 rw[Sw]
 unfold dF Prd.M.res
 rw[show (64*j+i) / 64=j by omega,show (64*j+i) % 64=i by omega]
 rfl
theorem c2p (t:Nat->UInt8) {j:Nat} (hj:j<4):List.take 64 (List.drop (j*64) (tl (dB t)))=tb (plR t j) 64:=by
 apply List.ext_getElem?
 intro i
 by_cases hi:i<64
 ·rw[List.getElem?_take_of_lt hi,List.getElem?_drop,cD _ (by omega)]
  unfold tb plR Prd.M.pl
  simp[hi]
  rw[show j*64+i=64*j+i by omega]
 ·rw[List.getElem?_eq_none (by rw[List.length_take];omega),List.getElem?_eq_none (by rw[uT];omega)]
theorem c1f (f:Nat->UInt8) {j i:Nat} (hj:j<4) (hi:i<64):SV.c (.l ((tl f).getD (j*64+i) .u))=.c (.l (ub (f (64*j+i)))):=by
 rw[lX f (by omega),show j*64+i=64*j+i by omega]
def gK (t:Nat->UInt8) (k:Int) (j i:Nat):St:=⟨[(8,iv .i64 (i:Nat)),(7,iv .i64 (j:Nat)),(6,.c (.l (.o 3 (64*j+i)))),(5,.c (.l (.p 2 0))),(1,iv .i64 k),(4,.c (.l (.p 1 0)))],[(0,some ⟨tl t,.t 38⟩),(1,some ⟨[.v (.string ⟨#[]⟩),.v (.int .i64 0)],.t 177⟩),(2,some ⟨tl (dB t),.t 211⟩),(3,some ⟨tb (dF k t) (64*j+i),.r 5 1 3⟩)],4,45,[3,2,1,0],(0)⟩
def wF (t:Nat->UInt8) (k:Int) (j:Nat):St:=⟨[(7,iv .i64 (j:Nat)),(6,.c (.l (.o 3 (64*j)))),(5,.c (.l (.p 2 0))),(1,iv .i64 k),(4,.c (.l (.p 1 0)))],[(0,some ⟨tl t,.t 38⟩),(1,some ⟨[.v (.string ⟨#[]⟩),.v (.int .i64 0)],.t 177⟩),(2,some ⟨tl (dB t),.t 211⟩),(3,some ⟨tb (dF k t) (64*j),.r 5 1 3⟩)],4,45,[3,2,1,0],(0)⟩
def Pv (t:Nat->UInt8) (p:Int) (j:Nat) (k:Nat):Cz:={
 ct:=(fun f=>match f with
 |167=>some fun _ _=>fun | [_,.c (.l (.v (.int _ i))),_]=>some {v:=iv .u8 ((gsR p (plR t j) k).toNat:Nat)}|_=>none
 |_=>none)
 raw:=[39],sym:=[30,31,32,34,35,41],nf:=[(32,.c (.l (ub (dB t (64*j+k))))),(35,.c (.agg (tb (plR t j) 64))),(39,iv .u8 ((dF p t (64*j+k)).toNat:Nat))]}
theorem a4r (t:Nat->UInt8) (p:Int) (j:Nat) (k:Nat)  (K:Exit->St->Prop) (h:let a:=((j:Int));let b:=((k:Int));let d:=tl (dB t);let e:=l4 (d.getD (0+a.toNat*64+b.toNat*1) Leaf.u);let f:=64*j+k;let g:=(Nat.cast ((dB t f).toNat):Int);let i:=iv .u8 g;let m:=ag (List.take 64 (List.drop (0+a.toNat*64) d));let n:=tb (plR t j) 64;let q:=[ag n,i8 (k:Int),i8 p];let s:=(Nat.cast ((gsR p (plR t j) k).toNat):Int);let w:=iv .u8 s;let x:=iv .u8 (IntKind.u8.wrap (g-s));let y:=(Nat.cast ((dF p t f).toNat):Int);let z:=iv .u8 y;let A:=tb (dF p t) f;let B:=((k:Int)+1);let C:=(A2 9 (Tryz.f134.body.getD Code.skip)).getD Code.skip;let D:=(1,i8 p);let E:=(4,j7 1 0);let G:=(5,j7 2 0);let H:=64*j+k+1;let I:=(7,i8 (j:Int));let J:=(0,some (j9 (tl t) 38));let L:=(1,some (j9 [l9 (ByteArray.mk #[]),li 0] 177));let M:=(2,some (j9 d 211));let N:=tb (dF p t) f++[l8 y];let O:=(4,some (o8 [l8 y] 5 1 4));let P:=[(3,64*j+k+1,false)];let Q:=(3,some (o8 A 5 1 3));HB (decide ((k:Int)<64)) ((t0 a 4/\t0 b 64/\0+a.toNat*64+b.toNat*1<256/\Le e i/\t0 a 4/\0+a.toNat*64+64<=256/\Le m (ag n)/\Kd 167 [] q [] 4 w [] 0/\Le x z/\A.length=f*1/\1=1/\IntKind.i64.wrap B=(k:Int)+1/\RoundTo prog C 4 (wkK 4 K) (St.mk [D,E,G,(6,l4 (Leaf.o 3 H)),I,(8,i8 B)] [J,L,M,(3,some (o8 N 5 1 3)),O,(5,none)] 5 45 [3,4,3,2,1,0] 0))/\t0 a 4/\t0 b 64/\0+a.toNat*64+b.toNat*1<256/\Le e i/\t0 a 4/\0+a.toNat*64+64<=256/\Le m (ag n)/\Kd 167 [] q [] 4 w [] 0/\Le x z/\P=P/\fW prog 5 H/\A.length=f*1/\1=1/\IntKind.i64.wrap B=(k:Int)+1/\RoundTo prog C 4 (wkK 4 K) (St.mk [D,E,G,(6,l4 (Leaf.o 5 H)),I,(8,i8 B)] [J,L,M,Q,O,(5,some (o8 N 5 1 5))] 6 45 [5,4,3,2,1,0] 0)) (wkK 4 K (Exit.exit 2) (St.mk [D,E,G,(6,l4 (Leaf.o 3 f)),I,(8,i8 (k:Int))] [J,L,M,Q,(4,none),(5,none)] 4 45 [3,2,1,0] 0))):z4 prog (gl 9 Tryz.f134) (gK t p j k) (wkK 4 K):=
 m5 [1,4,5,6,7,8] [0,1,2,3,4,5] (cx:=Pv t p j k) rfl (u3 (by kernel_rfl) h)
theorem Rt (t:Nat->UInt8) (p:Int) (j:Nat) (h0:0<=p) (hp:p<6) (hj:j<4):∀(m k:Nat),64-k=m->k<=64->∀(K:Exit->St->Prop),K (.exit 2) (gK t p j 64)->z4 prog (gl 9 Tryz.f134) (gK t p j k) (wkK 4 K)
 |0,k,hm,hk,K,hK=>by
  have e:k=64:=by omega
  subst e
  refine a4r t p j _ K (HB.no (by omega) ?_)
  exact wkK.tk (gK t p j _) (by kernel_rfl) (d5 (l6.p (j3 t) (by kernel_rfl)) (d5 (l6.k (by kernel_rfl)) (d5 (l6.p (j3 _) (by kernel_rfl)) (d5 (l6.p (I2 _ _) (by kernel_rfl)) trivial)))) hK
 |m+1,k,hm,hk,K,hK=>by
  refine a4r t p j k K (HB.yes (by omega) ?_)
  have hlt:k<64:=by omega
  with_reducible repeat' first|exact trivial|apply And.intro|apply HB.mk|intro _|rfl
  all_goals first|(with_reducible refine a5f _ _ _ ?_ ?_ ?_ _)<;>omega|(exact ⟨by omega,by omega⟩)|rw[uT];omega|omega|exact apB (bytes:=1) (by kernel_rfl) (by omega)|exact C2 _ (by omega) (by omega)|refine Le.of ?_;simp only[tn,Nat.zero_add,Nat.add_zero,Nat.mul_one];exact c1f _ hj hlt|refine Le.of ?_;simp only[tn,Nat.zero_add,Nat.add_zero,Nat.mul_one];exact congrArg (fun l=>SV.c (.agg l)) (c2p t hj)|with_reducible exact Le.int (a9v p t hlt)|(with_reducible refine RoundTo.toN 5 (gK t p j (k+1)) ?_ ?_ ?_ ?_ ?_);exact Nat.le_refl _;kernel_rfl;exact (q7 (J7.k (by kernel_rfl)) (q7 (J7.k (by kernel_rfl)) (q7 (J7.sl_o (m:=64*j+k+1) (by kernel_rfl) rfl (by omega)) (eD.k (by kernel_rfl)))));exact (d5 (l6.p (j3 t) (by kernel_rfl)) (d5 (l6.k (by kernel_rfl)) (d5 (l6.p (j3 _) (by kernel_rfl)) (d5 (l6.plain (cs:=tb (dF p t) (64*j+k)++[ub (dF p t (64*j+k))]) (b:=.r 5 1 3) (by kernel_rfl) (Er _ _) (I2 _ _) (by kernel_rfl)) trivial))));exact (Rt t p j h0 hp hj m (k+1) (by omega) (by omega) K hK)|(with_reducible refine RoundTo.reN 6 [(3,some 5)] (gK t p j (k+1)) ?_ ?_ ?_ ?_);kernel_rfl;exact (m9 (H8.k (by kernel_rfl)) (m9 (H8.k (by kernel_rfl)) (m9 (H8.sl_o (j:=5) (m:=64*j+k+1) (by kernel_rfl) rfl (by omega)) (W4.k (by kernel_rfl)))));exact (f5 (j:=0) rfl (v5.p (j3 t) (by kernel_rfl)) (f5 (j:=1) rfl (v5.k (by kernel_rfl)) (f5 (j:=2) rfl (v5.p (j3 _) (by kernel_rfl)) (f5 (j:=5) rfl (v5.plain (cs:=tb (dF p t) (64*j+k)++[ub (dF p t (64*j+k))]) (b:=.r 5 1 5) (by kernel_rfl) (Er _ _) (I2 _ _) (by kernel_rfl)) trivial))));exact (Rt t p j h0 hp hj m (k+1) (by omega) (by omega) K hK)
def a2t (t:Nat->UInt8) (p:Int) (k:Nat):Cz:={
 ct:=fun _=>none
 lp:=fun r=>match r with|9=>some (fun _ K=>K (.exit 2) (gK t p k 64))|_=>none}
theorem b8l (t:Nat->UInt8) (p:Int) (k:Nat)  (K:Exit->St->Prop) (h:let a:=(decide ((k:Int)<4));let b:=(7,i8 (k:Int));let d:=(6,l4 (Leaf.o 3 (64*k)));let e:=(5,j7 2 0);let f:=(1,i8 p);let g:=(4,j7 1 0);let i:=(0,some (j9 (tl t) 38));let j:=(1,some (j9 [l9 (ByteArray.mk #[]),li 0] 177));let m:=(2,some (j9 (tl (dB t)) 211));let n:=[i,j,m,(3,some (o8 (tb (dF p t) (64*k)) 5 1 3))];let q:=[3,2,1,0];HB a ((l3 prog (gl 9 Tryz.f134) (St.mk [(8,i8 0),(20,bv a),(19,i8 (k:Int)),b,d,e,f,g] n 4 45 q 0) fun K=>K (Exit.exit 2) (gK t p k 64))/\IntKind.i64.wrap ((k:Int)+1)=(k:Int)+1/\RoundTo prog (gl 6 Tryz.f134) 4 (wkK 4 K) (St.mk [f,g,e,(6,l4 (Leaf.o 3 (64*k+64))),(7,i8 ((k:Int)+1)),(8,i8 (Nat.cast 64:Int))] [i,j,m,(3,some (o8 (tb (dF p t) (64*k+64)) 5 1 3))] 4 45 q 0)) (wkK 4 K (Exit.exit 0) (St.mk [f,g,e,d,b,(8,SV.u)] n 4 45 q 0))):z4 prog (gl 6 Tryz.f134) (wF t p k) (wkK 4 K):=
 m5 [1,4,5,6,7,8] [0,1,2,3] (cx:=a2t t p k) rfl (u3 (by kernel_rfl) h)
theorem c1w (t:Nat->UInt8) (p:Int) (h0:0<=p) (hp:p<6):∀(m k:Nat),4-k=m->k<=4->∀(K:Exit->St->Prop),K (.exit 0) (wF t p 4)->z4 prog (gl 6 Tryz.f134) (wF t p k) (wkK 4 K)
 |0,k,hm,hk,K,hK=>by
  have e:k=4:=by omega
  subst e
  refine b8l t p _ K (HB.no (by omega) ?_)
  exact wkK.tk (wF t p _) (by kernel_rfl) (d5 (l6.p (j3 t) (by kernel_rfl)) (d5 (l6.k (by kernel_rfl)) (d5 (l6.p (j3 _) (by kernel_rfl)) (d5 (l6.p (I2 _ _) (by kernel_rfl)) trivial)))) hK
 |m+1,k,hm,hk,K,hK=>by
  refine b8l t p k K (HB.yes (by omega) ?_)
  have hlt:k<4:=by omega
  with_reducible repeat' first|exact trivial|apply And.intro|apply HB.mk|intro _
  all_goals first|exact l3.tk (gK t p k 0) (by kernel_rfl) (d5 (l6.p (j3 t) (by kernel_rfl)) (d5 (l6.k (by kernel_rfl)) (d5 (l6.p (j3 _) (by kernel_rfl)) (d5 (l6.p (I2 _ _) (by kernel_rfl)) trivial)))) (fun K hT=>Rt t p k h0 hp hlt _ 0 rfl (by decide) K hT)|(with_reducible refine RoundTo.toN 4 (wF t p (k+1)) ?_ ?_ ?_ ?_ ?_);exact Nat.le_refl _;kernel_rfl;exact (q7 (J7.k (by kernel_rfl)) (q7 (J7.sl_o (m:=64*k+64) (by kernel_rfl) rfl (by omega)) (eD.k (by kernel_rfl))));exact (d5 (l6.p (j3 t) (by kernel_rfl)) (d5 (l6.k (by kernel_rfl)) (d5 (l6.p (j3 _) (by kernel_rfl)) (d5 (l6.plain (cs:=tb (dF p t) (64*k+64)) (b:=.r 5 1 3) (by kernel_rfl) (by rw[show 64*k+64=64*(k+1) by omega]) (I2 _ _) (by kernel_rfl)) trivial))));exact (c1w t p h0 hp m (k+1) (by omega) (by omega) K hK)|exact C2 _ (by omega) (by omega)
def vM (k:Int) (t:Nat->UInt8):ByteArray:=Prd.fw k.toNat t
def Yj (t:Nat->UInt8) (p:Int):Cz:={
 ct:=(fun f=>match f with
 |166=>some fun _ _=>fun | [.c (.agg _)]=>some {v:=.c (.agg (tl (dB t)))}|_=>none
 |_=>none)
 sym:=[43],nf:=[(14,bv false),(16,.c (.agg (tl t))),(43,.c (.l (.v (.string (vM p t)))))],lp:=fun r=>match r with|6=>some (fun _ K=>K (.exit 0) (wF t p 4))|_=>none,wh:=[38,211,177]}
theorem c1h (t:Nat->UInt8) (p:Int) (h0:0<=p) (hp:p<6) (n:Nat):f4 prog 134 [.c (.agg (tl t)),iv .i64 p] [] n (ag [.v (.string (vM p t)),li 0]) [] 0:=by
 refine v6 (q:=let a:=!decide (p<0);let b:=tl (dB t);let d:=decide (p<0);let e:=tb (dF p t) (64*4);let f:=(ag [l9 (vM p t),li 0]);(a=true->a=true/\True)/\(decide (p<0)=false->a=true)/\Le (bv (bif decide (p<0) then true else decide (p>5))) (bv false)/\Le (ag (List.take 256 (tl t))) (ag (tl t))/\Kd 166 [] [ag (tl t)] [] 2 (ag b) [] 0/\0=0/\256=256/\(l3 prog (gl 6 Tryz.f134) (St.mk [(7,i8 0),(6,l4 (Leaf.o 3 0)),(18,l4 (Leaf.o 3 0)),(5,j7 2 0),(17,ag b),(16,ag (tl t)),(14,bv false),(13,SV.g a (Cp.l (lb (decide (p>5))))),(12,SV.g a (Cp.l (li p))),(11,bv d),(10,bv d),(9,i8 p),(4,j7 1 0),(2,j7 0 0),(0,ag (tl t)),(1,i8 p)] [(3,some (o8 [] 5 1 3)),(2,some (j9 b 211)),(2,some (j9 o7 211)),(1,some (j9 [l9 (ByteArray.mk #[]),li 0] 177)),(0,some (j9 (tl t) 38))] 4 45 [3,2,2,1,0] 0) fun K=>K (Exit.exit 0) (wF t p 4))/\256=256/\G1 e/\Le (l4 (l9 (D4 e))) (l4 (l9 (vM p t)))/\0=0/\2=2/\Le f f/\True) (Yj t p) func134 n (by kernel_rfl) (by kernel_rfl) ?_
 with_reducible repeat' first|exact trivial|apply And.intro|apply HB.mk|intro _
 all_goals first|(with_reducible first|assumption|exact Le.refl _|rfl|exact d1t _ _)|exact l3.tk (wF t p 0) (by kernel_rfl) (d5 (l6.p (j3 t) (by kernel_rfl)) (d5 (l6.k (by kernel_rfl)) (d5 (l6.p (j3 _) (by kernel_rfl)) (d5 (l6.p (I2 _ _) (by kernel_rfl)) trivial)))) (fun K hT=>c1w t p h0 hp _ 0 rfl (by first|decide|omega) K hT)|rw[t7];exact Le.refl _|exact Ce _ 256|refine Le.of ?_;rw[Kr];rfl|refine Le.bool ?_;rw[decide_eq_false (by omega),decide_eq_false (by omega)];rfl|simp only[*,Bool.and_self,Bool.not_false,Bool.not_true];done
end Ab
end
section
namespace Cod
theorem aQ {B:Nat} {W w w':World} (h:Below B W w) (hB:B<=w.heap.size) (hg:n7 w w'):Below B W w':=h.trans (Below.mono hg hB)
section
theorem nU {x:World} {B g:Nat} {T N:Nat} {Y:Nat->Value} {v:Value} {n:Nat} {xs:List Value} (h:x.ownsRow B 5 1 v n xs) (hT:T≠5) (hb:n6 x g T N Y) (i:Nat) (u:Value):(x.setCell ⟨g,i,none⟩ u).ownsRow B 5 1 v n xs:=
 h.kept (row:=some g) ⟨rfl,rfl,rfl,by simp[World.setCell],fun j hj hr=>heap_setCell_other _ _ _ _ (by intro e';exact hr (by rw[e']))⟩ (.inr (H9 h hb hT).symm)
theorem Gg (T N:Nat) (hT:T≠5) (hN:258<=N) (g:Nat) (s:M.St) (hs:M.Ok s) (c bit:Int) (X:Nat->Value) (w:World) (hB:n6 w g T N (cr s.p s.lo s.hi X)) :
  Calls prog 190 #[.pointer (some ⟨g,0,none⟩),.int .i64 c,.int .i64 bit] w fun e w'=>∃v,e=.returned v/\
   n6 w' g T N (cr (M.nxt s (cx c) (bit % 2)).p (M.nxt s (cx c) (bit % 2)).lo (M.nxt s (cx c) (bit % 2)).hi X)/\w'.ownsRow w.heap.size 5 1 v (M.M2 s (cx c) (bit % 2)).length (t4 (M.M2 s (cx c) (bit % 2)))/\Chg g none w w'/\v≠.slice none 0 0:=by
 have hk:=oE c
 have hgw:=hB.lt
 have c0:=hB.cell (cx c) (by omega)
 rw[Xh _ hk] at c0
 have HM:=Lib.hid (zB g s hs c w c0 (by rw[hB.cell 256 (by omega),rF]) (by rw[hB.cell 257 (by omega),xB]))
 obtain ⟨p1,p2⟩:=hs.p (cx c)
 have HI:=Lib.hid (M.iv1 hs (cx c) (bit % 2))
 have HX:=Lib.hid (show M.nxt s (cx c) (bit % 2)=⟨M.put s.p (cx c) (M.np (s.p (cx c)) (bit % 2)),(M.N5 4 (M.jY s (cx c) (bit % 2)) (M.jF s (cx c) (bit % 2))).2.1,(M.N5 4 (M.jY s (cx c) (bit % 2)) (M.jF s (cx c) (bit % 2))).2.2⟩ from rfl)
 have HO:=Lib.hid (show M.M2 s (cx c) (bit % 2)=(M.N5 4 (M.jY s (cx c) (bit % 2)) (M.jF s (cx c) (bit % 2))).1 from rfl)
 have hmd:=M.Ds hs (cx c)
 have hl0:=hs.lo
 have hh1:=hs.hi
 have ha:=eX c
 rw[<-oS] at ha
 have hb:=zH bit
 go_enter func190,ntmps190
 go_wp2_with fail
 refine HM.out.mono ?_
 rintro e x ⟨rfl,nn,rfl⟩
 have HB:=Lib.hid (show n6 (w.drewN nn) g T N (cr s.p s.lo s.hi X) from hB)
 have HC:=Lib.hid (show Chg g none w (w.drewN nn) from ⟨rfl,rfl,rfl,Nat.le_refl _,fun _ _ _ _=>rfl⟩)
 clear HM hB hs
 replace c0:(w.drewN nn).cell? ⟨g,cx c,none⟩=some (.int .i64 (s.p (cx c))):=c0
 generalize w.drewN nn=W at *
 go_upto_if 22 with fail
 have m0:0<=M.md s (cx c):=by omega
 have m1:IntKind.u32.wrap (M.md s (cx c)+1)=M.md s (cx c)+1:=Ft _ (by omega) (by omega)
 have c6:W.cell? ⟨g,256,none⟩=some (.int .u32 s.lo):=by rw[HB.out.cell 256 (by omega),rF]
 have c7:W.cell? ⟨g,257,none⟩=some (.int .u32 s.hi):=by rw[HB.out.cell 257 (by omega),xB]
 have f6:=HB.out.free 256
 have f7:=HB.out.free 257
 go_cut [8] (fun s10 wx=>s10=.int .i64 (M.np (s.p (cx c)) (bit % 2))/\n6 wx g T N (cr s.p (M.jY s (cx c) (bit % 2)) (M.jF s (cx c) (bit % 2)) X)/\Chg g none w wx)
 case first=>
  by_cases hbit:bit % 2=1
  ·rw[hbit]
   go_wp2
   go_meet
   refine ⟨?_,?_,HC.out.set _ _⟩
   ·unfold M.np;rw[if_pos hbit]
   ·have:=HB.out.set 257 (.int .u32 (M.md s (cx c)))
    rw[iW] at this
    rw[show M.jY s (cx c) (bit % 2)=s.lo from if_pos hbit,show M.jF s (cx c) (bit % 2)=M.md s (cx c) from if_pos hbit]
    exact this
  ·obtain hbit:bit % 2=0:=by omega
   rw[hbit]
   go_wp2
   go_meet
   refine ⟨?_,?_,HC.out.set _ _⟩
   ·unfold M.np;rw[if_neg (by omega)]
   ·have:=HB.out.set 256 (.int .u32 (M.md s (cx c)+1))
    rw[rA] at this
    rw[show M.jY s (cx c) (bit % 2)=M.md s (cx c)+1 from if_neg (by omega),show M.jF s (cx c) (bit % 2)=s.hi from if_neg (by omega)]
    exact this
 case rest=>
 clear HB HC m0 m1 c6 c7 f6 f7 c0 hmd hl0 hh1 hb
 obtain ⟨rfl,hB,hC⟩:=hcut
 obtain ⟨W1,hW1⟩:∃W1:World,W1=wc:=⟨_,rfl⟩
 subst hW1
 have n0:=M.Es ⟨p1,p2⟩ (bit % 2)
 have c0:=hB.cell (cx c) (by omega)
 rw[Xh _ hk] at c0
 have f0:=hB.free (cx c)
 have HB:=Lib.hid (yF (cx c) hk _▸hB.set (cx c) (.int .i64 (M.np (s.p (cx c)) (bit % 2))))
 have HC:=Lib.hid (hC.set (cx c) (.int .i64 (M.np (s.p (cx c)) (bit % 2))))
 clear hB hC
 generalize M.np (s.p (cx c)) (bit % 2)=np at *
 generalize M.jY s (cx c) (bit % 2)=lo0 at *
 generalize M.jF s (cx c) (bit % 2)=hi0 at *
 clear p1 p2
 go_upto_block 1 with fail
 have hsz:w.heap.size<=W1.heap.size:=by have:=HC.out.size;simpa [World.setCell] using this
 go_loopg [9] 4 (fun k s9 wr=>∃(l':List UInt8) (lo hi:Int),Hid (M.Iv k lo hi/\l'++(M.N5 k lo hi).1=(M.N5 4 lo0 hi0).1/\(M.N5 k lo hi).2=(M.N5 4 lo0 hi0).2/\l'.length+k<=4/\n6 wr g T N (cr (M.put s.p (cx c) np) lo hi X)/\wr.ownsRow w.heap.size 5 1 s9 l'.length (t4 l')/\Chg g none w wr)/\s9≠.slice none 0 0)
 case atStart=>
  refine ⟨[],lo0,hi0,Lib.hid ⟨HI.out,rfl,rfl,Nat.le_refl _,HB.out.grow (n7.alloc _ _),?_,HC.out.trans (.inl rfl) (Chg.of_grow (n7.alloc _ _))⟩,fun e=>by cases e⟩
  exact ⟨rfl,Or.inr ⟨W1.heap.size,0,#[],rfl,hsz,by have:=heap_alloc_new (W1.setCell ⟨g,cx c,none⟩ (.int .i64 np)) (.cells #[] 5);simpa [World.setCell] using this,Nat.le_refl _,by unfold maxLen;omega,rfl,rfl⟩⟩
 case round=>
  obtain ⟨l',lo,hi,HR,hn9⟩:=hrel
  replace hn9:=Lib.hid hn9
  clear HB HC HI
  obtain ⟨i1,i2,i3,i4,i5,i6,i7⟩:=id HR.out
  have j0:=i1.lo
  have j1:=i1.le
  have j2:=i1.hi
  have c6:wr.cell? ⟨g,256,none⟩=some (.int .u32 lo):=by rw[i5.cell 256 (by omega),rF]
  have c7:wr.cell? ⟨g,257,none⟩=some (.int .u32 hi):=by rw[i5.cell 257 (by omega),xB]
  have f6:=i5.free 256
  have f7:=i5.free 257
  clear i1 i2 i3 i4 i5 i6 i7
  go_upto_region 10 with fail
  refine K2 (C:=fun x=>∃n,x=wr.drewN n) (by kernel_rfl) (by kernel_rfl) ⟨1,rfl⟩ ?_
  repeat (first
   |go_big_quiet_skip
   |(go_big_quiet_want;refine aV ?_;apply Exists.intro;refine ⟨fun x hx=>?_,?_⟩;(focus (obtain ⟨n,rfl⟩:=hx;go_simp<;>rfl));simp only[Act.put,List.setIfInBounds_toArray,List.set_cons_zero,List.set_cons_succ];go_big_quiet_on))
  refine wpQuiet_nil ?_
  rintro x ⟨n,rfl⟩
  go_upto_if 59 with fail
  have HR2:=Lib.hid (show M.Iv gk lo hi/\l'++(M.N5 gk lo hi).1=(M.N5 4 lo0 hi0).1/\(M.N5 gk lo hi).2=(M.N5 4 lo0 hi0).2/\l'.length+gk<=4/\n6 (wr.drewN n) g T N (cr (M.put s.p (cx c) np) lo hi X)/\(wr.drewN n).ownsRow w.heap.size 5 1 u9 l'.length (t4 l')/\Chg g none w (wr.drewN n) from
   ⟨HR.out.1,HR.out.2.1,HR.out.2.2.1,HR.out.2.2.2.1,HR.out.2.2.2.2.1,HR.out.2.2.2.2.2.1,⟨HR.out.2.2.2.2.2.2.os,HR.out.2.2.2.2.2.2.tape,HR.out.2.2.2.2.2.2.output,HR.out.2.2.2.2.2.2.size,HR.out.2.2.2.2.2.2.block⟩⟩)
  replace c6:(wr.drewN n).cell? ⟨g,256,none⟩=some (.int .u32 lo):=c6
  clear HR c7 f6 f7
  generalize wr.drewN n=W2 at *
  cases e:(lo / 16777216==hi / 16777216) with
  |true=>
   have e':lo / 16777216=hi / 16777216:=by simpa using e
   obtain ⟨i1,i2,i3,i4,i5,i6,i7⟩:=HR2.out
   clear HR2
   cases gk with
   |zero=>exact absurd e' i1.stop
   |succ k=>
    rw[M.mM k lo hi e'] at i2 i3
    have in':=i1.next e'
    have hby:=(M.uI j0 (by omega)).symm
    have HP:=Lib.hid (And.intro i2 (And.intro i3 (And.intro i4 in')))
    have H5:=Lib.hid i5
    have H7:=Lib.hid i7
    have hw2:=i7.size
    have hl4:l'.length<=4:=by omega
    clear i1 i2 i3 i4 i5 i7 in' e'
    replace hby:=Lib.hid hby
    go_wp2_with (at_builtin;refine fQ _ rfl _ _ 57 5 rfl underlying57 (.int .u8 0) 1 eJ rfl w.heap.size _ _ _ rfl i6 _ _ rfl rfl (by omega) (by omega) hw2 ?_)
    intro v3 W3 hown hnil hb3 hz3
    have hB3:n6 W3 g T N (cr (M.put s.p (cx c) np) lo hi X):=by
     have:=hb3.block g hgw
     have h5:=H5.out
     unfold n6 at h5⊢;rw[this];exact h5
    have hC3:Chg g none w W3:=⟨hb3.os.trans H7.out.os,hb3.tape.trans H7.out.tape,hb3.output.trans H7.out.output,Nat.le_trans H7.out.size hb3.size,fun j hj hg hr=>(hb3.block j hj).trans (H7.out.block j hj hg hr)⟩
    have d6:W3.cell? ⟨g,256,none⟩=some (.int .u32 lo):=by rw[hB3.cell 256 (by omega),rF]
    have d7:W3.cell? ⟨g,257,none⟩=some (.int .u32 hi):=by rw[hB3.cell 257 (by omega),xB]
    have f6:=hB3.free 256
    have f7:=hB3.free 257
    have HB3:=Lib.hid hB3
    have HC3:=Lib.hid hC3
    have HN3:=Lib.hid hown
    clear hB3 hC3 hown H5 H7 i6 hb3 c6
    go_wp2
    go_roundg k
    case measure=>omega
    case rel=>
     obtain ⟨i2,i3,i4,in'⟩:=HP.out
     have hsp:(hi*256+255) % 4294967296=hi*256 % 4294967296+255:=by omega
     rw[hsp] at in' i3
     have hB4:=HB3.out.set 256 (.int .u32 (lo*256 % 4294967296))
     rw[rA] at hB4
     have hB5:=hB4.set 257 (.int .u32 (hi*256 % 4294967296+255))
     rw[iW] at hB5
     have hO5:=nU (nU HN3.out hT HB3.out 256 (.int .u32 (lo*256 % 4294967296))) hT hB4 257 (.int .u32 (hi*256 % 4294967296+255))
     rw[hsp] at i2
     refine ⟨l'++[M.Tx lo],_,_,Lib.hid ⟨in',by rw[<-i2,List.append_assoc];rfl,i3,by rw[List.length_append,List.length_singleton];omega,hB5,?_,((HC3.out.set _ _).set _ _)⟩,hnil⟩
     rw[C3,List.length_append]
     rw[show t4 [M.Tx lo]=[.int .u8 (lo / 16777216)] by rw[hby.out];rfl]
     exact hO5
  |false=>
   obtain ⟨i1,i2,i3,i4,i5,i6,i7⟩:=HR2.out
   clear HR2
   have e':lo / 16777216≠hi / 16777216:=by simpa using e
   rw[M.nK _ lo hi e'] at i2 i3
   go_wp2
   go_ret
   refine ⟨_,rfl,?_,?_,i7,hn9.out⟩
   ·rw[HX.out]
    show n6 _ _ _ _ (cr _ (M.N5 4 _ _).2.1 (M.N5 4 _ _).2.2 _)
    rw[<-i3];exact i5
   ·rw[HO.out,<-i2];simpa using i6
end
section
theorem c4x {B:Nat} {W w w':World} (h:Below B W w) (hB:B<=w.heap.size) (hg:n7 w w'):Below B W w':=h.trans (Below.mono hg hB)
theorem Tryz.zero236 (w:World):(zeroValue 236).run prog w=.ok (.agg (cv 258 (cr (fun _=>0) 0 0 (fun _=>undef)))) w:=by kernel_rfl
theorem Vd (w:World):(isAgg 236).run prog w=.ok true w:=by kernel_rfl
theorem Nb (w:World):(sizeOf 236).run prog w=.ok 258 w:=by kernel_rfl
theorem Tg {o:Oper} {ρ:Operand->Value} {x:World} {y:Operand} (a:Addr) (S:Array Value) (ho:o.op=.load 236 y) (hy:ρ y=.pointer (some a)) (h:(loadCellsFrom a 0 258 #[]).run prog x=.ok S x):(execOp ρ o).run prog x=.ok (.value (.agg S)) x:=by
 unfold execOp;rw[ho];simp only[hy]
 simp only[Instr.loadAt,Instr.sureAddr,loadVar,Sem.run_bind,Sem.run_pure,Result.andThen,Vd,Nb,loadCells,h,if_true]
theorem mB {fn:Func} {t:Tmp} (h:fn.results = #[.cell t 236]) (tmps:Array Value) (p:Addr) (S:Array Value) (w:World) (ht:tmps[t]?.getD undef=.pointer (some p)) (hl:(loadCellsFrom p 0 258 #[]).run prog w=.ok S w) :
  (results fn tmps).run prog w=.ok (.agg S) w:=by
 simp[results,h,ht,asAddr,loadVar,loadCells,hl]
theorem b0y (n:Nat) (C:Nat->Value) (h:∀i,i<n->(C i).oneCell'=true):(cv n C).all (·.oneCell')=true:=by
 rw[Array.all_eq_true]
 intro i hi
 have hi':i<n:=by simpa [D5] using hi
 have:=oV n C i hi'
 rw[Array.getElem?_eq_getElem hi] at this
 rw[Option.some.inj this]
 exact h i hi'
theorem Lj (p:Nat->Int) (lo hi:Int) (X:Nat->Value):∀i,i<258->(cr p lo hi X i).oneCell'=true:=by
 intro i h
 unfold cr
 by_cases h1:i<256
 ·rw[if_pos h1];rfl
 ·rw[if_neg h1]
  by_cases h2:i=256
  ·rw[if_pos h2];rfl
  ·rw[if_neg h2,if_pos (by omega)];rfl
theorem yA {w:World} {g t n:Nat} {C:Nat->Value} (h:n6 w g t n C) (m:Nat) (hm:m<=n):(loadCellsFrom ⟨g,0,none⟩ 0 m #[]).run prog w=.ok (cv m C) w:=by
 have:=run_loadCells (P:=prog) (w:=w) ⟨g,0,none⟩ m C (fun j hj=>by
  have hadd:(⟨g,0,none⟩:Addr).add j=⟨g,j,none⟩:=by unfold Addr.add;split<;>simp_all
  rw[hadd];exact h.cell j (by omega))
 exact this
theorem rP {w:World} {g t n:Nat} {C D:Nat->Value} (h:n6 w g t n C) (h1:∀i,i<n->(D i).oneCell'=true):∃w',(storeCells ⟨g,0,none⟩ (cv n D).toList 0).run prog w=.ok () w'/\n6 w' g t n D/\Chg g none w w':=by
 refine ⟨_,run_storeCells_from (P:=prog) g t _ 0 _ w h (by simp[D5]) (fun v hv=>?_),?_,?_⟩
 ·have:=Array.all_eq_true.1 (b0y n D h1)
  obtain ⟨i,hi,rfl⟩:=Array.mem_iff_getElem.1 (Array.mem_toList_iff.1 hv)
  exact this i hi
 ·unfold n6
  rw[setRow_heap w g _ _ t (0,0) h]
  simp
 ·refine ⟨rfl,rfl,rfl,by simp[World.setRow],fun k hk hg _=>?_⟩
  simp only[World.setRow,Array.getElem?_modify]
  rw[if_neg (Ne.symm hg)]
theorem rB (w:World):Calls prog 189 #[] w fun e w'=>e=.returned (.agg (cv 258 (cr M.start.p M.start.lo M.start.hi (fun _=>undef))))/\n7 w w':=by
 have hz:=Tryz.zero236
 have hset:=tT 258 (cr (fun _=>0) 0 0 (fun _=>undef)) 257 (.int .u32 4294967295)
 rw[iW] at hset
 have hzs:¬(cv 258 (cr (fun _=>0) 0 0 (fun _=>undef))).size<258:=by rw[D5];omega
 have hze:(cv 258 (cr (fun _=>0) 0 0 (fun _=>undef))).size=258:=D5 _ _
 have hb0:n6 ((w.alloc (.cells (cv 258 (cr (fun _=>0) 0 0 (fun _=>undef))) 236)).alloc (.cells (cv 258 (cr (fun _=>0) 0 0 (fun _=>undef))) 236)) w.heap.size 236 258 (cr (fun _=>0) 0 0 (fun _=>undef)):=(n7.alloc _ _).block (heap_alloc_new _ _)
 have hb1:n6 ((w.alloc (.cells (cv 258 (cr (fun _=>0) 0 0 (fun _=>undef))) 236)).alloc (.cells (cv 258 (cr (fun _=>0) 0 0 (fun _=>undef))) 236)) (w.heap.size+1) 236 258 (cr (fun _=>0) 0 0 (fun _=>undef)):=by
  have:=heap_alloc_new (w.alloc (.cells (cv 258 (cr (fun _=>0) 0 0 (fun _=>undef))) 236)) (.cells (cv 258 (cr (fun _=>0) 0 0 (fun _=>undef))) 236)
  unfold n6;simpa using this
 obtain ⟨W1,hst,hb2,hc⟩:=rP (D:=cr (fun _=>0) 0 4294967295 (fun _=>undef)) hb1 (Lj _ _ _ _)
 rw[<-hset] at hst
 rw[Array.toList_setIfInBounds] at hst
 have hG:Hid (n7 w W1/\n6 W1 w.heap.size 236 258 (cr (fun _=>0) 0 0 (fun _=>undef))/\n6 W1 (w.heap.size+1) 236 258 (cr (fun k=>if k<0 then 2048 else 0) 0 4294967295 (fun _=>undef))):=by
  refine Lib.hid ⟨?_,hc.blk hb0 (by omega) (by simp),hb2⟩
  have g1:Below w.heap.size w (w.alloc (.cells (cv 258 (cr (fun _=>0) 0 0 (fun _=>undef))) 236)):=n7.alloc _ _
  have g2:=c4x g1 (by simp) (n7.alloc _ (.cells (cv 258 (cr (fun _=>0) 0 0 (fun _=>undef))) 236))
  exact g2.trans (hc.below (by omega) (by simp) g2.size)
 clear hb0 hb1 hb2 hc
 generalize hZ:cv 258 (cr (fun _=>0) 0 0 (fun _=>undef))=Z at *
 clear hZ
 replace hset:=Lib.hid hset
 go_enter func189,ntmps189
 go_upto_block 1 with fail
 clear hst hz hzs hze hset
 obtain ⟨g0,hg0⟩:∃g0,g0=w.heap.size:=⟨_,rfl⟩
 go_loopg [2] 256 (fun k s2 wr=>∃i,i+k=256/\s2=.int .i64 (i:Int)/\Hid (n7 w wr/\n6 wr w.heap.size 236 258 (cr (fun _=>0) 0 0 (fun _=>undef))/\n6 wr (w.heap.size+1) 236 258 (cr (fun k=>if k<i then 2048 else 0) 0 4294967295 (fun _=>undef))))
 case atStart=>exact ⟨0,rfl,rfl,hG⟩
 case round=>
  obtain ⟨i,hik,rfl,HR⟩:=hrel
  clear hG
  cases gk with
  |zero=>
   obtain rfl:i=256:=by omega
   obtain ⟨r1,r2,r3⟩:=HR.out
   have hC:∀j,j<258->cr (fun k=>if k<256 then 2048 else 0) 0 4294967295 (fun _=>undef) j=cr M.start.p M.start.lo M.start.hi (fun _=>undef) j:=by
    intro j hj
    unfold cr
    by_cases h1:j<256
    ·simp[h1,M.start]
    ·rw[if_neg h1,if_neg h1];rfl
   replace r3:=r3.congr hC
   have hld:=yA r3 258 (Nat.le_refl _)
   obtain ⟨W2,hst,s1,s2⟩:=rP (D:=cr M.start.p M.start.lo M.start.hi (fun _=>undef)) r2 (Lj _ _ _ _)
   have hld2:=yA s1 258 (Nat.le_refl _)
   have hG2:Hid (n7 w W2):=Lib.hid (Below.trans (B:=w.heap.size) r1 (s2.below (by omega) (by simp) (Below.size r1)))
   clear r1 r2 r3 s1 s2 HR hC
   have hSs:(cv 258 (cr M.start.p M.start.lo M.start.hi (fun _=>undef))).size=258:=D5 _ _
   generalize hSe:cv 258 (cr M.start.p M.start.lo M.start.hi (fun _=>undef))=S at *
   replace hSe:=Lib.hid hSe
   go_wp2
   unfold Oper.wp
   rw[Tg ⟨w.heap.size+1,0,none⟩ S rfl rfl hld,Oper.upon_value]
   go_wp2
   exact bodyPost_ret (mB rfl _ ⟨w.heap.size,0,none⟩ S _ rfl hld2) rfl ⟨by rw[hSe.out],hG2.out⟩
  |succ k=>
   have hlt:(i:Int)<256:=by omega
   obtain ⟨r1,r2,r3⟩:=HR.out
   have c0:wr.cell? ⟨w.heap.size+1,i,none⟩=some (.int .i64 (if i<i then 2048 else 0)):=by rw[r3.cell i (by omega),Xh i (by omega)]
   rw[if_neg (by omega)] at c0
   have f0:=r3.free i
   have hN:Hid (n7 w (wr.setCell ⟨w.heap.size+1,i,none⟩ (.int .i64 2048))/\n6 (wr.setCell ⟨w.heap.size+1,i,none⟩ (.int .i64 2048)) w.heap.size 236 258 (cr (fun _=>0) 0 0 (fun _=>undef))/\n6 (wr.setCell ⟨w.heap.size+1,i,none⟩ (.int .i64 2048)) (w.heap.size+1) 236 258 (cr (fun k=>if k<i+1 then 2048 else 0) 0 4294967295 (fun _=>undef))):=by
    refine Lib.hid ⟨?_,r2.other _ _ (by show w.heap.size≠w.heap.size+1;omega),?_⟩
    ·exact Below.setCell (B:=w.heap.size) r1 (p:=⟨w.heap.size+1,i,none⟩) (by show w.heap.size<=w.heap.size+1;omega) _
    ·have:=r3.set i (.int .i64 2048)
     rw[yF i (by omega)] at this
     refine this.congr fun j hj=>?_
     congr 1
     funext t
     unfold M.put
     dsimp only
     by_cases h1:t=i
     ·subst h1;simp
     ·rw[if_neg h1]
      by_cases h2:t<i
      ·rw[if_pos h2,if_pos (by omega)]
      ·rw[if_neg h2,if_neg (by omega)]
   clear r1 r2 r3 HR
   go_wp2
   go_roundg k
   case measure=>omega
   case rel=>exact ⟨i+1,by omega,by rw[Int.natCast_add];rfl,hN⟩
end
section
theorem Tryz.zero239 (w:World):(zeroValue 239).run prog w=.ok (.agg (cv 259 (cr (fun _=>0) 0 0 (fun _=>.slice none 0 0)))) w:=by kernel_rfl
theorem rC:∀(l:List (Value×Nat)) (Z:Array Value),(l.foldl (fun cs x=>cs.setIfInBounds x.2 x.1) Z).size=Z.size
 |[],Z=>rfl
 |x::l,Z=>by rw[List.foldl_cons,rC l];simp
theorem wB:∀(l:List Value) (k:Nat) (Z:Array Value) (j:Nat),j<Z.size->((l.zipIdx k).foldl (fun cs x=>cs.setIfInBounds x.2 x.1) Z)[j]? = if k<=j/\j<k+l.length then l[j-k]? else Z[j]?
 |[],k,Z,j,hj=>by
  rw[if_neg (by simp)];rfl
 |v::l,k,Z,j,hj=>by
  rw[List.zipIdx_cons,List.foldl_cons,wB l (k+1) _ j (by simpa using hj)]
  by_cases h1:k+1<=j/\j<k+1+l.length
  ·rw[if_pos h1,if_pos (by simp only[List.length_cons];omega),show j-k=(j-(k+1))+1 by omega,List.getElem?_cons_succ]
  ·rw[if_neg h1]
   dsimp only
   rw[Array.getElem?_setIfInBounds]
   by_cases h2:k=j
   ·subst h2
    rw[if_pos rfl,if_pos hj,if_pos (by simp only[List.length_cons];omega),Nat.sub_self];rfl
   ·rw[if_neg h2,if_neg (by simp only[List.length_cons];omega)]
theorem Ed (n m:Nat) (hm:m<=n) (C D:Nat->Value):Array.foldl (fun cs x=>cs.setIfInBounds x.snd x.fst) (cv n D) (cv m C).zipIdx 0 m=cv n (fun i=>if i<m then C i else D i):=by
 have hs:(cv m C).zipIdx.size=m:=by simp[D5]
 have e:Array.foldl (fun cs x=>cs.setIfInBounds x.snd x.fst) (cv n D) (cv m C).zipIdx 0 m=Array.foldl (fun cs x=>cs.setIfInBounds x.snd x.fst) (cv n D) (cv m C).zipIdx:=by rw[hs]
 rw[e,<-Array.foldl_toList,Array.toList_zipIdx]
 apply Array.ext_getElem?
 intro j
 by_cases hj:j<n
 ·rw[wB _ _ _ _ (by rw[D5];exact hj),oV n _ j hj,oV n _ j hj]
  have hl:(cv m C).toList.length=m:=by simp[D5]
  rw[hl]
  by_cases h:j<m
  ·rw[if_pos (by omega),if_pos h,Nat.sub_zero,Array.getElem?_toList,oV m C j h]
  ·rw[if_neg (by omega),if_neg h]
 ·rw[Array.getElem?_eq_none (by rw[rC,D5];omega),uN _ _ _ (by omega)]
theorem Cl (w:World):Calls prog 163 #[] w fun e w'=>∃g,w.heap.size<=g/\e=.returned (.pointer (some ⟨g,0,none⟩))/\n6 w' g 239 259 (cr M.start.p M.start.lo M.start.hi (fun _=>.slice none 0 0))/\n7 w w':=by
 have HB:=Lib.hid (rB w)
 have hz:=Tryz.zero239
 have hs1:¬(cv 259 (cr (fun _=>0) 0 0 (fun _=>.slice none 0 0))).size<258:=by rw[D5];omega
 have hs2:(cv 258 (cr M.start.p M.start.lo M.start.hi (fun _=>undef))).size=258:=D5 _ _
 have hf:=Lib.hid (Ed 259 258 (by omega) (cr M.start.p M.start.lo M.start.hi (fun _=>undef)) (cr (fun _=>0) 0 0 (fun _=>.slice none 0 0)))
 generalize hA:cv 258 (cr M.start.p M.start.lo M.start.hi (fun _=>undef))=A at *
 generalize hZ:cv 259 (cr (fun _=>0) 0 0 (fun _=>.slice none 0 0))=Z at *
 clear hA hZ
 go_enter func163,ntmps163
 go_wp2_with fail
 refine HB.out.mono ?_
 rintro e x ⟨rfl,hg⟩
 go_wp2
 go_ret
 refine ⟨x.heap.size,Below.size hg,rfl,?_,hg.trans (n7.alloc _ _)⟩
 rw[hf.out]
 refine n6.congr (heap_alloc_new _ _) fun i hi=>?_
 by_cases h:i<258
 ·rw[if_pos h]
  unfold cr
  by_cases h1:i<256
  ·rw[if_pos h1,if_pos h1]
  ·by_cases h2:i=256
   ·rw[if_neg h1,if_pos h2,if_neg h1,if_pos h2]
   ·rw[if_neg h1,if_neg h2,if_pos (by omega),if_neg h1,if_neg h2,if_pos (by omega)]
 ·rw[if_neg h,kL i (by omega),kL i (by omega)]
end
section
theorem Gm {ops:Array Oper} {rest:List Oper} {o:Oper} {a:Act} {Q:Exit->Act->World->Prop} (w:World) (hgd:o.guard=none) (s x:Operand)
  (ho:o.op=.call {callee:=.builtin .append,args:=#[s,x],argTypes:=#[57,57]}) (hty:o.type=57)
  (base:Nat) (v:Value) (n:Nat) (xs:List Value) (hs:a.eval s=v) (hown:w.ownsRow base 5 1 v n xs)
  (ad:Addr) (m c:Nat) (news:List Value) (hx:a.eval x=.slice (some ad) m c) (hl:news.length=m) (hnews:∀j u,news[j]? = some u->w.cell? (ad.add j)=some u) (h1:∀u∈news,u.oneCell'=true)
  (h63:n+m<=1000000000) (hbase:base<=w.heap.size)
  (h:∀v' w',w'.ownsRow base 5 1 v' (n+m) (xs++news)->w.grownBy w' v.ownBlock->Ae v.ownBlock v'.ownBlock w->v'≠.slice none 0 0\/n+m=0->wpList prog ops Q rest (a.put o.dst v') w'):wpList prog ops Q (o::rest) a w:=by
 obtain ⟨i0,hi,hz0,hz1,hz2⟩:=info_parts eJ
 obtain ⟨v',w',hr,h2,h3,h4,h5⟩:=run_append_own_at (P:=prog) w base 57 57 5 i0 (.int .u8 0) 1 1 underlying57 hi hz0 hz1 hz2 rfl (by decide) v n xs hown ad m c news (by omega) hnews h1 (by unfold maxLen;omega) (by omega) hbase
 refine wpList_plain hgd fun K hK=>?_
 unfold Oper.wp
 rw[rZ (x':=w') (v:=v') v (.slice (some ad) m c) ho hs hx (by rw[hty];exact hr)]
 refine hK _ _ (h v' w' h2 h3 ?_ ?_)
 ·rcases h5 with h5|h5
  ·exact .inl h5
  ·exact .inr ⟨_,h5,Nat.le_refl _⟩
 ·by_cases e:v'=.slice none 0 0
  ·right
   rw[e] at h2
   rcases h2.2 with ⟨_,h0⟩|⟨k,cap,cur,hv,_⟩
   ·exact h0
   ·cases hv
  ·exact .inl e
theorem vG {ops:Array Oper} {rest:List Oper} {o:Oper} {a:Act} {Q:Exit->Act->World->Prop} (w:World) (hgd:o.guard=none) (s x:Operand)
  (ho:o.op=.call {callee:=.builtin .append,args:=#[s,x],argTypes:=#[57,57]}) (hty:o.type=57)
  (base:Nat) (v:Value) (n:Nat) (xs:List Value) (hs:a.eval s=v) (hown:w.ownsRow base 5 1 v n xs)
  (B2:Nat) (t:Value) (m:Nat) (news:List Value) (hx:a.eval x=t) (ho2:w.ownsRow B2 5 1 t m news) (h1:∀u∈news,u.oneCell'=true)
  (h63:n+m<=1000000000) (hbase:base<=w.heap.size)
  (h:∀v' w',w'.ownsRow base 5 1 v' (n+m) (xs++news)->w.grownBy w' v.ownBlock->Ae v.ownBlock v'.ownBlock w->wpList prog ops Q rest (a.put o.dst v') w'):wpList prog ops Q (o::rest) a w:=by
 rcases ho2.2 with ⟨rfl,rfl⟩|⟨k,cap,cur,rfl,_⟩
 ·have hn:news=[]:=List.length_eq_zero_iff.1 (by simpa using ho2.1)
  subst hn
  obtain ⟨i0,hi,hz0,hz1,hz2⟩:=info_parts eJ
  refine wpList_plain hgd fun K hK=>?_
  unfold Oper.wp
  rw[rZ (x':=w) (v:=v) v (.slice none 0 0) ho hs hx (by rw[hty];exact run_append_owned_none (P:=prog) (w:=w) base 57 57 5 i0 1 underlying57 hi v n xs hown)]
  exact hK _ _ (h v w (by simpa using hown) ⟨rfl,rfl,rfl,Nat.le_refl _,fun _ _ _=>rfl⟩ (.inl rfl))
 ·refine Gm w hgd s x ho hty base v n xs hs hown ⟨k,0,none⟩ m cap news hx (by simpa using ho2.1) (ho2.cells (g:=k) rfl) h1 h63 hbase fun v' w' r1 r2 r3 _=>h v' w' r1 r2 r3
structure RW (B g:Nat) (ro:Option Nat) (s:M.St) (l:List UInt8) (w:World):Prop where
 ok:M.Ok s
 bd:B<=w.heap.size
 ge:B<=g
 ex:∃X,n6 w g 239 259 (cr s.p s.lo s.hi X)/\w.ownsRow B 5 1 (X 258) l.length (t4 l)/\(X 258).ownBlock=ro
theorem RW.ro_ge {B g ro s l w} (h:RW B g ro s l w) (k:Nat) (e:ro=some k):B<=k/\k<w.heap.size:=by
 obtain ⟨X,h1,h2,h3⟩:=h.ex
 have h4:=h2.lt k (by rw[h3,e])
 exact ⟨h4.1,h4.2⟩
theorem RW.below {B g ro s l w w'} (h:RW B g ro s l w) (k:Chg g ro w w'):Below B w w':=k.below h.ge (fun j e=>(h.ro_ge j e).1) h.bd
theorem qI (w:World):Calls prog 163 #[] w fun e w'=>∃g,e=.returned (.pointer (some ⟨g,0,none⟩))/\RW w.heap.size g none M.start [] w'/\n7 w w':=by
 refine (Cl w).mono ?_
 rintro e w' ⟨g,hg,rfl,h1,h2⟩
 refine ⟨g,rfl,⟨M.cG,Below.size h2,hg,_,h1,⟨rfl,.inl ⟨rfl,rfl⟩⟩,rfl⟩,h2⟩
theorem Chg.trans' {g ro x y z} (h:Chg g none x y) (k:Chg g ro y z) (v:Value):Chg g ro x (z.setCell ⟨g,258,none⟩ v):=by
 have h2:Chg g ro x z:=⟨k.os.trans h.os,k.tape.trans h.tape,k.output.trans h.output,Nat.le_trans h.size k.size,fun j hj hg hr=>(k.block j (Nat.lt_of_lt_of_le hj h.size) hg hr).trans (h.block j hj hg (by simp))⟩
 exact h2.set 258 v
theorem Ys {B g ro s l w} (h:RW B g ro s l w) (c bit:Int) (hl:l.length+4<=100000000) :
  Calls prog 164 #[.pointer (some ⟨g,0,none⟩),.int .i64 c,.int .i64 bit] w fun e w'=>e=.returned (.tuple #[])/\∃ro',RW B g ro' (M.nxt s (cx c) (bit % 2)) (l++M.M2 s (cx c) (bit % 2)) w'/\Ae ro ro' w/\Chg g ro w w':=by
 obtain ⟨X,x1,x2,x3⟩:=h.ex
 have HN:=Lib.hid (Gg 239 259 (by decide) (by omega) g s h.ok c bit X w x1)
 have hlen:=M.fP s (cx c) (bit % 2)
 have hok:=Lib.hid (M.nF h.ok (cx c) (bit % 2))
 generalize M.M2 s (cx c) (bit % 2)=ob at *
 generalize M.nxt s (cx c) (bit % 2)=sn at *
 have hx:=x1.lt
 have n1:=H9 x2 x1 (by decide)
 have hB:=h.bd
 have hge:=Lib.hid h.ge
 replace x1:=Lib.hid x1
 replace x2:=Lib.hid x2
 clear h
 go_enter func164,ntmps164
 go_wp2_with fail
 refine HN.out.mono ?_
 rintro e x ⟨v,rfl,b1,o1,c1,nn⟩
 have o2:x.ownsRow B 5 1 (X 258) l.length (t4 l):=x2.out.kept (row:=some g) ⟨c1.os,c1.tape,c1.output,c1.size,fun j hj hr=>c1.block j hj (fun e=>hr (by rw[e])) (by simp)⟩ (.inr n1.symm)
 have d8:x.cell? ⟨g,258,none⟩=some (X 258):=by rw[b1.cell 258 (by omega),kL 258 (by omega)]
 obtain ⟨so,sc,hv⟩:=G6 o2
 obtain ⟨k,cap,cur,hvk⟩:∃k cap,∃_:Nat,v=.slice (some ⟨k,0,none⟩) ob.length cap:=by
  rcases o1.2 with ⟨e1,_⟩|⟨k,cap,cur,e1,_⟩
  ·exact absurd e1 nn
  ·exact ⟨k,cap,0,e1⟩
 subst hvk
 have hcells:=o1.cells (g:=k) rfl
 have hsz:=c1.size
 rw[hv] at d8
 have hlb:(t4 ob).length=ob.length:=M7 ob
 have hone:∀u∈t4 ob,u.oneCell'=true:=by
  intro u hu
  unfold t4 at hu
  obtain ⟨b,_,rfl⟩:=List.mem_map.1 hu
  rfl
 replace b1:=Lib.hid b1
 replace c1:=Lib.hid c1
 rw[hv] at o2
 have hv':=Lib.hid hv
 clear HN o1 nn hv
 go_wp2_with (at_builtin;refine Gm _ rfl _ _ rfl rfl B _ _ _ rfl o2 ⟨k,0,none⟩ _ _ (t4 ob) rfl hlb hcells hone (by omega) (by omega) ?_)
 intro v' W hown hgr hn _
 have hrow:(Value.slice so l.length sc).ownBlock=ro:=by rw[<-hv'.out];exact x3
 rw[hrow] at hgr hn
 have n2:some g≠ro:=by rw[<-x3];exact n1
 have hW:n6 W g 239 259 (cr sn.p sn.lo sn.hi X):=by
  have:=hgr.block g b1.out.lt n2
  have h5:=b1.out
  unfold n6 at h5⊢;rw[this];exact h5
 have e8:W.cell? ⟨g,258,none⟩=some (.slice so l.length sc):=by rw[hW.cell 258 (by omega),kL 258 (by omega),hv'.out]
 have f8:=hW.free 258
 obtain ⟨so',sc',hv2⟩:=G6 hown
 have HF:Hid (RW B g v'.ownBlock sn (l++ob) (W.setCell ⟨g,258,none⟩ v')/\Ae ro v'.ownBlock w/\Chg g ro w (W.setCell ⟨g,258,none⟩ v')):=by
  have hset:=hW.set 258 v'
  rw[mI 258 (by omega)] at hset
  refine Lib.hid ⟨⟨hok.out,?_,hge.out,_,hset,?_,by simp[H6]⟩,?_,?_⟩
  ·have:=hgr.size
   simp[World.setCell];omega
  ·have e2:H6 X 258 v' 258=v':=by simp[H6]
   rw[e2,List.length_append,C3]
   exact nU hown (by decide) hW 258 v'
  ·exact Ae.trans (.inl rfl) hsz hn
  ·exact c1.out.trans' ⟨hgr.os,hgr.tape,hgr.output,hgr.size,fun j hj hg hr=>hgr.block j hj hr⟩ v'
 subst hv2
 clear hown hgr hn hW hcells hone hlb o2
 go_wp2
 refine bodyPost_end (results_none rfl _ _ _) rfl ⟨rfl,_,HF.out⟩
end
section
theorem Hj (l:List UInt8):∀u∈t4 l,u.oneCell'=true:=by
 intro u hu
 unfold t4 at hu
 obtain ⟨b,_,rfl⟩:=List.mem_map.1 hu
 rfl
theorem Hn {B g ro s l w} (h:RW B g ro s l w) (hl:l.length<=100000000) :
  Calls prog 165 #[.pointer (some ⟨g,0,none⟩)] w fun e w'=>e=.returned (.string ⟨(l++M.Ag s.lo).toArray⟩)/\n7 w w':=by
 obtain ⟨X,x1,x2,x3⟩:=h.ex
 have h0:=h.ok.lo
 have h1:s.lo<=4294967295:=by have:=h.ok.le;have:=h.ok.hi;omega
 have c6:w.cell? ⟨g,256,none⟩=some (.int .u32 s.lo):=by rw[x1.cell 256 (by omega),rF]
 obtain ⟨so,sc,hv⟩:=G6 x2
 have c8:w.cell? ⟨g,258,none⟩=some (.slice so l.length sc):=by rw[x1.cell 258 (by omega),kL 258 (by omega),hv]
 have hgw:=x1.lt
 rw[hv] at x2
 have x4:=fH x2 (n7.alloc w (.cells #[] 5))
 have o0:(w.alloc (.cells #[] 5)).ownsRow w.heap.size 5 1 (.slice (some ⟨w.heap.size,0,none⟩) 0 0) 0 []:=by
  have:=World.ownsRow_lit (e:=5) (size:=1) (base:=w.heap.size) w #[] 0 (Nat.le_refl _) (by unfold maxLen;omega) rfl
  simpa using this
 replace x4:=Lib.hid x4
 have hbv:=M7 l
 clear x1 x2 h
 generalize s.lo=lo at *
 go_enter func165,ntmps165
 go_wp2_with (at_builtin;refine vG _ rfl _ _ rfl rfl w.heap.size _ 0 [] rfl o0 B _ l.length (t4 l) rfl x4.out (Hj l) (by omega) (by simp) ?_)
 intro v1 W1 ho hgr _
 have hG1:Below w.heap.size w W1:=((Below.refl w.heap.size w).alloc (Nat.le_refl _) _).grown hgr (by simp) (fun k hk=>by have:=(o0.lt k hk).1;exact this)
 have hsz:=hG1.size
 have hln:l.length+4<=1000000000:=by omega
 replace hG1:=Lib.hid hG1
 have ho2:=ho.alloc
 replace ho:=Lib.hid ho
 clear o0 x4 hgr
 obtain ⟨so1,sc1,hv1⟩:=G6 ho.out
 subst hv1
 go_wp2_with (at_builtin;refine vG _ rfl _ _ rfl rfl w.heap.size _ l.length (t4 l) rfl (ho2 _) W1.heap.size _ 4 _ rfl (World.ownsRow_lit (e:=5) (size:=1) (base:=W1.heap.size) W1 _ 4 (Nat.le_refl _) (by unfold maxLen;omega) rfl) ?_ hln ?_ ?_)
 ·exact ⟨rfl,rfl,rfl,rfl⟩
 ·simp;omega
 ·intro v2 W2 ho3 hgr3 _
  have hG2:Below w.heap.size w W2:=(hG1.out.alloc hsz _).grown hgr3 (by simp;omega) (fun k hk=>(ho.out.lt k hk).1)
  replace hG2:=Lib.hid hG2
  have hbe:t4 l++[.int .u8 (lo / 16777216),.int .u8 (lo / 65536 % 256),.int .u8 (lo / 256 % 256),.int .u8 (lo % 256)]=t4 (l++M.Ag lo):=by
   rw[C3]
   congr 1
   show _=[Value.int .u8 ((UInt8.ofNat (lo / 16777216).toNat).toNat:Int),.int .u8 ((UInt8.ofNat (lo / 65536).toNat).toNat:Int),.int .u8 ((UInt8.ofNat (lo / 256).toNat).toNat:Int),.int .u8 ((UInt8.ofNat lo.toNat).toNat:Int)]
   rw[M.O1,M.O1,M.O1,M.O1,show ((lo / 16777216).toNat:Int) % 256=lo / 16777216 by omega,show ((lo / 65536).toNat:Int) % 256=lo / 65536 % 256 by omega,show ((lo / 256).toNat:Int) % 256=lo / 256 % 256 by omega,show (lo.toNat:Int) % 256=lo % 256 by omega]
  rw[hbe] at ho3
  have hcv:=U1 (P:=prog) W2 57 9 5 underlying57 underlying5 underlying9 w.heap.size _ _ _ ho3
  obtain ⟨so2,sc2,hv2⟩:=G6 ho3
  subst hv2
  clear ho3 hgr3 ho2 ho hbe
  go_wp2
  go_ret
  exact ⟨rfl,hG2.out⟩
end
section
structure ER (W:World) (g:Nat) (s:M.St) (l:List UInt8) (w:World):Prop where
 rw:∃ro,RW W.heap.size g ro s l w
 below:Below W.heap.size W w
theorem ER.bit {W g s l w} (h:ER W g s l w) (c b:Int) (hl:l.length+4<=100000000) :
  Calls prog 164 #[.pointer (some ⟨g,0,none⟩),.int .i64 c,.int .i64 b] w fun e w'=>e=.returned (.tuple #[])/\ER W g (M.nxt s (cx c) (b % 2)) (l++M.M2 s (cx c) (b % 2)) w':=by
 obtain ⟨ro,k⟩:=h.rw
 refine (Ys k c b hl).mono ?_
 rintro e w' ⟨rfl,ro',k1,k2,k3⟩
 exact ⟨rfl,⟨ro',k1⟩,h.below.trans (k.below k3)⟩
theorem jT (f:ByteArray) (W:World) (hf:f.size<=2500000) :
  Calls prog 133 #[.string f] W fun e w'=>e=.returned (.string ⟨(M.enc f.data.toList).toArray⟩)/\n7 W w':=by
 have HN:=Lib.hid (qI W)
 go_enter func133,ntmps133
 go_wp2_with fail
 refine HN.out.mono ?_
 rintro e x ⟨g,rfl,hw,hg⟩
 have hE:Hid (ER W g (M.bI M.start (M.A9 (f.data.toList.take 0))) (M.X6 M.start (M.A9 (f.data.toList.take 0))) x):=Lib.hid ⟨⟨_,hw⟩,hg⟩
 clear HN hw hg
 go_upto_block 1 with fail
 go_loopg [4] f.size (fun k s4 wr=>∃i,i+k=f.size/\s4=.int .i64 (i:Int)/\Hid (ER W g (M.bI M.start (M.A9 (f.data.toList.take i))) (M.X6 M.start (M.A9 (f.data.toList.take i))) wr))
 case atStart=>exact ⟨0,by omega,rfl,hE⟩
 case round=>
  obtain ⟨i,hik,rfl,HR⟩:=hrel
  clear hE
  have hlen:=M.T3 (M.A9 (f.data.toList.take i)) M.start
  rw[M.V6] at hlen
  have htl:(f.data.toList.take i).length<=i:=by rw[List.length_take];omega
  cases gk with
  |zero=>
   obtain rfl:i=f.size:=by omega
   have htk:f.data.toList.take f.size=f.data.toList:=List.take_of_length_le (by simp[<-ByteArray.size_data])
   obtain ⟨ro,k⟩:=HR.out.rw
   have HB:=Lib.hid (Hn k (by omega))
   have hbe:=Lib.hid HR.out.below
   rw[htk] at HB
   clear htk hlen htl HR k
   go_wp2_with fail
   refine HB.out.mono ?_
   rintro e y ⟨rfl,g2⟩
   go_wp2
   go_ret
   exact ⟨rfl,aQ hbe.out hbe.out.size g2⟩
  |succ k=>
   have hlt:i<f.size:=by omega
   have hlt2:(i:Int)<f.size:=by omega
   have hts:=dN f i hlt
   generalize hSo:M.bI M.start (M.A9 (f.data.toList.take i))=S at *
   generalize hLo:M.X6 M.start (M.A9 (f.data.toList.take i))=L at *
   go_upto_block 2 with fail
   have hx:=f[i].toNat_lt
   have hb31:=yC f[i]
   have hcn:=yX f[i].toNat
   have hcx:=fun k=>Lb f[i].toNat k hx
   have hbt:=M.gZ f[i].toNat
   replace hts:=Lib.hid hts
   replace hb31:=Lib.hid hb31
   replace hcn:=Lib.hid hcn
   replace hcx:=Lib.hid hcx
   replace hbt:=Lib.hid hbt
   replace hLo:=Lib.hid hLo
   replace hSo:=Lib.hid hSo
   refine wp_block ?_
   go_loopg [5,6] 8 (fun k s5 s6 wi=>∃j,j+k=8/\s5=.int .i64 (((256+f[i].toNat) / 2 ^ (8-j):Nat):Int)/\s6=.int .i64 (7-(j:Int))/\Hid (ER W g (M.bI S (Ai f[i] j)) (L++M.X6 S (Ai f[i] j)) wi))
   case atStart=>
    refine ⟨0,rfl,?_,rfl,by simpa [Ai,M.bI,M.X6] using HR⟩
    rw[show (256+f[i].toNat) / 2 ^ (8-0)=1 by omega];rfl
   case round=>
    obtain ⟨j,hjk,rfl,rfl,HI⟩:=hrel
    clear HR
    cases gk with
    |zero=>
     obtain rfl:j=8:=by omega
     have hneg:¬7-((8:Nat):Int)>=0:=by omega
     go_wp2
     go_roundg k
     case measure=>omega
     case rel=>
      refine ⟨i+1,by omega,by rw[Int.natCast_add];rfl,?_⟩
      rw[hts.out,M.Q1,M.P8,hSo.out,hLo.out]
      exact HI
    |succ kk=>
     have hpos:7-(j:Int)>=0:=by omega
     have hj8:(j:Int)<=7:=by omega
     obtain ⟨C,hC⟩:∃C:Nat,C=(256+f[i].toNat) / 2 ^ (8-j):=⟨_,rfl⟩
     have h1:=hcn.out j (by omega)
     have h2:=hcx.out j (by omega)
     have h3:=hbt.out j
     have hb:=hb31.out j (by omega)
     have hbo:=M.T3 (Ai f[i] j) S
     have hbl:(Ai f[i] j).length=j:=by simp[Ai]
     have hC1:C<=511:=by rw[hC];exact Nat.le_trans (Nat.div_le_self _ _) (by omega)
     rw[<-hC] at h1 h2⊢
     have HB:=Lib.hid (HI.out.bit (C:Int) (M.J2 f[i].toNat j).2 (by rw[List.length_append];omega))
     rw[h2,show (M.J2 f[i].toNat j).2 % 2=(M.J2 f[i].toNat j).2 by omega] at HB
     have hbe:bits .and .i64 ((f[i].toNat:Int) / 2 ^ (7-j)) 1=(M.J2 f[i].toNat j).2:=by rw[zH,hb]
     have hsu:=Lib.hid (xU f[i] j)
     generalize hbt2:(M.J2 f[i].toNat j).2=bt at *
     replace h1:=Lib.hid h1
     replace hC:=Lib.hid hC
     clear hb h2 hbo hbl
     go_wp2_with fail
     refine HB.out.mono ?_
     rintro e y ⟨rfl,hy⟩
     replace hy:=Lib.hid hy
     go_wp2
     go_roundg kk
     case measure=>omega
     case rel=>
      refine ⟨j+1,by omega,by rw[h1.out],by rw[Int.natCast_add];congr 1;omega,?_⟩
      rw[hsu.out,M.Q1,M.P8,<-List.append_assoc]
      have h5:=hy.out
      rw[<-hbt2] at h5
      refine Lib.hid ?_
      simpa [M.bI,M.X6] using h5
end
end Cod
end
section
namespace Ab
attribute [local irreducible] j8
attribute [local irreducible] tl n8
def bR (t:Nat->UInt8) (k:Nat):Nat:=(De t k).1
def X9 (s:ByteArray) (k:Nat):Int:=(Prd.M.Z8 (s.data.toList.take k):Nat)
def wX (s:ByteArray) (k:Nat):St:=⟨[(4,iv .i64 (k:Nat)),(3,iv .i64 (X9 s k)),(0,.c (.l (.v (.string s))))],[],0,24,[],(0)⟩
theorem a9q (s:ByteArray) (k:Nat):0<=X9 s k/\X9 s k<=128*k:=by
 have:=Prd.M.Fm (s.data.toList.take k)
 have h:=List.length_take_le k s.data.toList
 unfold X9
 omega
theorem a7h (b:UInt8):E7 ((b.toNat:Nat):Int) (256-((b.toNat:Nat):Int))=(Prd.M.cb b:Nat):=by
 have:=b.toNat_lt
 unfold E7 Prd.M.cb
 split<;>omega
theorem Pc (s:ByteArray) {k:Nat} (hk:k<s.size):X9 s k+(Prd.M.cb (s.get! k):Nat)=X9 s (k+1):=by
 have hk':k<s.data.size:=hk
 unfold X9
 have e:s.data.toList.take (k+1)=s.data.toList.take k++[s.get! k]:=by
  rw[List.take_succ_eq_append_getElem (by simpa using hk')]
  congr 2
  show s.data[k]=s.data[k]!
  rw[getElem!_pos s.data k hk']
 rw[e,Prd.M.zC,Prd.M.rL]
 show _=(((_+(_+0):Nat)):Int)
 omega
def Xo (s:ByteArray) (k:Nat):Cz:={
 ct:=fun _=>none
 sym:=[14,18],nf:=[(15,iv .i64 (((s.get! k).toNat:Nat):Int)),(19,iv .i64 (((s.get! k).toNat:Nat):Int)),(21,iv .i64 (Prd.M.cb (s.get! k):Nat))]}
theorem c2s (s:ByteArray) (k:Nat)  (K:Exit->St->Prop) (h:let a:=((k:Int));let b:=(i8 (IntKind.i64.wrap (Nat.cast ((s.get! a.toNat).toNat):Int)));let d:=((s.get! k).toNat:Int);let e:=(Nat.cast ((Prd.M.cb (s.get! k))):Int);let f:=(0,l4 (l9 s));HB (decide ((k:Int)<(s.size:Int))) (t0 a s.size/\Le b (i8 d)/\t0 a s.size/\Le b (i8 d)/\IntKind.i64.wrap (256-d)=256-d/\Le (i8 (E7 (d) (256-d))) (i8 e)/\IntKind.i64.wrap (X9 s k+e)=X9 s k+e/\IntKind.i64.wrap ((k:Int)+1)=(k:Int)+1/\RoundTo prog (gl 3 Tryz.f162) 0 (wkK 0 K) (St.mk [f,(3,i8 (X9 s k+e)),(4,i8 ((k:Int)+1))] [] 0 24 [] 0)) (wkK 0 K (Exit.exit 0) (St.mk [f,(3,i8 (X9 s k)),(4,i8 (k:Int))] [] 0 24 [] 0))):z4 prog (gl 3 Tryz.f162) (wX s k) (wkK 0 K):=
 m5 [0,3,4] [] (cx:=Xo s k) rfl (u3 (by kernel_rfl) h)
theorem c4g (s:ByteArray) (hs:s.size<=1000000):∀(m k:Nat),s.size-k=m->k<=s.size->∀(K:Exit->St->Prop),K (.exit 0) (wX s s.size)->z4 prog (gl 3 Tryz.f162) (wX s k) (wkK 0 K)
 |0,k,hm,hk,K,hK=>by
  have e:k=s.size:=by omega
  subst e
  refine c2s s _ K (HB.no (by omega) ?_)
  exact wkK.tk (wX s _) (by kernel_rfl) trivial hK
 |m+1,k,hm,hk,K,hK=>by
  refine c2s s k K (HB.yes (by omega) ?_)
  have hlt:k<s.size:=by omega
  have hcb:=a9q s k
  have hb:=(s.get! k).toNat_lt
  have hc1:=Prd.M.a5y (s.get! k)
  with_reducible repeat' first|exact trivial|apply And.intro|apply HB.mk|intro _
  all_goals first|(exact ⟨by omega,by omega⟩)|exact C2 _ (by omega) (by omega)|with_reducible exact Le.int (a7h _)|refine Le.int ?_;simp only[tn];exact C2 _ (by omega) (by omega)|(with_reducible refine RoundTo.toN 0 (wX s (k+1)) ?_ ?_ ?_ ?_ ?_);exact Nat.le_refl _;kernel_rfl;exact (q7 (J7.k (by kernel_rfl)) (q7 (J7.sl_int (y:=X9 s k+(Prd.M.cb (s.get! k):Nat)) (by kernel_rfl) (Pc s hlt)) (eD.k (by kernel_rfl))));exact trivial;exact (c4g s hs m (k+1) (by omega) (by omega) K hK)
def a2r (s:ByteArray):Cz:={
 ct:=fun _=>none
 lp:=fun r=>match r with|3=>some (fun _ K=>K (.exit 0) (wX s s.size))|_=>none}
theorem c8v (s:ByteArray) (hs:s.size<=1000000) (n:Nat):f4 prog 162 [.c (.l (.v (.string s)))] [] n (iv .i64 (X9 s s.size)) [] 0:=by
 refine v6 (q:=let a:=i8 (X9 s s.size);(l3 prog (gl 3 Tryz.f162) (St.mk [(4,i8 0),(3,i8 0),(2,i8 0),(0,l4 (l9 s))] [] 0 24 [] 0) fun K=>K (Exit.exit 0) (wX s s.size))/\Le a a/\True) (a2r s) func162 n (by kernel_rfl) (by kernel_rfl) ?_
 with_reducible repeat' first|exact trivial|apply And.intro|apply HB.mk|intro _|exact Le.refl _
 all_goals first|exact l3.tk (wX s 0) (by kernel_rfl) trivial (fun K hT=>c4g s hs _ 0 rfl (Nat.zero_le _) K hT)
def tB (t:Nat->UInt8) (k:Nat):St:=⟨[(4,iv .i64 (k:Nat)),(3,iv .i64 (bR t k:Nat)),(1,.c (.l (.p 0 0)))],[(0,some ⟨tl t,.t 38⟩)],1,22,[0],(0)⟩
theorem Zc (t:Nat->UInt8) (k:Nat):X9 (vM (k:Nat) t) (vM (k:Nat) t).size=L3 k t:=by
 unfold X9 L3 vM
 rw[Int.toNat_natCast,List.take_of_length_le]
 rw[Array.length_toList];exact Nat.le_refl _
theorem nG (t:Nat->UInt8) (k:Nat):Prd.M.Z8 (Prd.fw k t).data.toList<1073741824:=by
 have h:=Prd.M.Fm (Prd.fw k t).data.toList
 have e:(Prd.fw k t).data.toList.length=256:=by rw[Array.length_toList];exact Bl k t
 omega
theorem a4o (t:Nat->UInt8):∀k,0<k->(De t k).2=Prd.M.Z8 (Prd.fw (De t k).1 t).data.toList
 |0,h=>absurd h (Nat.lt_irrefl 0)
 |k+1,_=>by
  rw[De]
  by_cases h:(Prd.M.Z8 (Prd.fw k t).data.toList:Nat)<(De t k).2
  ·rw[decide_eq_true h];rfl
  ·rw[decide_eq_false h]
   rcases Nat.eq_zero_or_pos k with rfl|hk
   ·exact absurd (nG t 0) h
   ·exact a4o t k hk
theorem Nt (b:Bool) (x:Nat):(bif b then x else x)=x:=by cases b<;>rfl
theorem Fr (t:Nat->UInt8) (k:Nat):bR t (k+1)=bif decide (L3 k t<L3 (bR t k) t) then k else bR t k:=by
 unfold bR L3
 rw[De]
 rcases Nat.eq_zero_or_pos k with rfl|hk
 ·have h:=nG t 0
  rw[show (De t 0)=(0,1073741824) from rfl,decide_eq_true h];exact (Nt _ 0).symm
 ·rw[a4o t k hk]
  by_cases h:Prd.M.Z8 (Prd.fw k t).data.toList<Prd.M.Z8 (Prd.fw (De t k).1 t).data.toList
  ·rw[decide_eq_true h,decide_eq_true (by omega)];rfl
  ·rw[decide_eq_false h,decide_eq_false (by omega)];rfl
theorem c8m {t:Nat->UInt8} {k:Nat} (h:decide (L3 k t<L3 (bR t k) t)=true):((k:Nat):Int)=(bR t (k+1):Nat):=by rw[Fr,h];rfl
theorem c1i {t:Nat->UInt8} {k:Nat} (h:decide (L3 k t<L3 (bR t k) t)=false):((bR t k:Nat):Int)=(bR t (k+1):Nat):=by rw[Fr,h];rfl
theorem b8z (t:Nat->UInt8):∀k,bR t k<6\/6<=bR t k/\bR t k<k:=fun k=>by
 rcases Nat.eq_zero_or_pos k with rfl|hk
 ·exact .inl (show (0:Nat)<6 by decide)
 ·have:=Ba t k hk
  unfold bR
  omega
theorem d0k (t:Nat->UInt8):(0:Int)=(bR t 1:Nat):=c1i (k:=0) (decide_eq_false (Int.lt_irrefl _))
theorem d1m (t:Nat->UInt8):((bR t 6:Nat):Int)=(G8 t:Nat):=rfl
theorem Kg (k:Int) (t:Nat->UInt8):(vM k t).size=256:=Bl _ _
attribute [local irreducible] X9 L3 vM bR De
def b9k (t:Nat->UInt8):Rw:=some fun _ _=>fun | [.c (.agg _),.c (.l (.v (.int _ p)))]=>some {v:=ag [.v (.string (vM p t)),li 0]}|_=>none
def c5i:Rw:=some fun _ _=>fun | [.c (.l (.v (.string s)))]=>some {v:=iv .i64 (X9 s s.size)}|_=>none
def Xw (t:Nat->UInt8) (k:Nat):Cz:={
 ct:=(fun f=>match f with
 |134=>b9k t
 |162=>c5i
 |_=>none)
 nf:=[(9,.c (.agg (tl t))),(14,.c (.agg (tl t))),(13,iv .i64 (L3 k t)),(18,iv .i64 (L3 (bR t k) t))],wh:=[38]}
theorem b7c (t:Nat->UInt8) (k:Nat)  (K:Exit->St->Prop) (h:let a:=ag (List.take 256 (tl t));let b:=(vM ((k:Int)) t);let d:=i8 (X9 b b.size);let e:=(Nat.cast ((bR t k)):Int);let f:=vM (e) t;let g:=i8 (X9 f f.size);let i:=((k:Int)+1);let j:=(A2 3 (Tryz.f132.body.getD Code.skip)).getD Code.skip;let m:=(1,j7 0 0);let n:=[(0,some (j9 (tl t) 38))];HB (decide ((k:Int)<6)) (Le a (ag (tl t))/\Kd 134 [] [ag (tl t),i8 (k:Int)] [] 1 (ag [l9 b,li 0]) [] 0/\Kd 162 [] [l4 (l9 b)] [] 1 d [] 0/\Le d (i8 (L3 k t))/\Le a (ag (tl t))/\Kd 134 [] [ag (tl t),i8 e] [] 1 (ag [l9 f,li 0]) [] 0/\Kd 162 [] [l4 (l9 f)] [] 1 g [] 0/\Le g (i8 (L3 (bR t k) t))/\HB (decide (L3 k t<L3 (bR t k) t)) (IntKind.i64.wrap i=(k:Int)+1/\RoundTo prog j 1 (wkK 1 K) (St.mk [m,(3,i8 (k:Int)),(4,i8 i)] n 1 22 [0] 0)) (IntKind.i64.wrap i=(k:Int)+1/\RoundTo prog j 1 (wkK 1 K) (St.mk [m,(3,i8 e),(4,i8 i)] n 1 22 [0] 0))) (wkK 1 K (Exit.exit 0) (St.mk [m,(3,i8 e),(4,i8 (k:Int))] n 1 22 [0] 0))):z4 prog (gl 3 Tryz.f132) (tB t k) (wkK 1 K):=
 m5 [1,3,4] [0] (cx:=Xw t k) rfl (u3 (by kernel_rfl) h)
theorem a7z (t:Nat->UInt8)  : ∀(m k:Nat),6-k=m->k<=6->∀(K:Exit->St->Prop),K (.exit 0) (tB t 6)->z4 prog (gl 3 Tryz.f132) (tB t k) (wkK 1 K)
 |0,k,hm,hk,K,hK=>by
  have e:k=6:=by omega
  subst e
  refine b7c t _ K (HB.no (by omega) ?_)
  exact wkK.tk (tB t _) (by kernel_rfl) (d5 (l6.p (j3 t) (by kernel_rfl)) trivial) hK
 |m+1,k,hm,hk,K,hK=>by
  refine b7c t k K (HB.yes (by omega) ?_)
  have hlt:k<6:=by omega
  have hbr:=b8z t k
  with_reducible repeat' first|exact trivial|apply And.intro|apply HB.mk|intro _
  all_goals first|(with_reducible refine c1h t _ ?_ ?_ _)<;>omega|(with_reducible refine c8v _ ?_ _);rw[Kg];decide|(with_reducible first|exact Le.of (congrArg (fun l=>SV.c (.agg l)) (t7 _))|exact Le.int (Zc _ _))|exact C2 _ (by omega) (by omega)|have hcnd:decide (L3 k t<L3 (bR t k) t)=true:=(by with_reducible assumption);(with_reducible refine RoundTo.toN 1 (tB t (k+1)) ?_ ?_ ?_ ?_ ?_);exact Nat.le_refl _;kernel_rfl;exact (q7 (J7.k (by kernel_rfl)) (q7 (J7.sl_int (y:=((k:Nat):Int)) (by kernel_rfl) (c8m hcnd)) (eD.k (by kernel_rfl))));exact (d5 (l6.p (j3 t) (by kernel_rfl)) trivial);exact (a7z t  m (k+1) (by omega) (by omega) K hK)|have hcnd:decide (L3 k t<L3 (bR t k) t)=false:=(by with_reducible assumption);(with_reducible refine RoundTo.toN 1 (tB t (k+1)) ?_ ?_ ?_ ?_ ?_);exact Nat.le_refl _;kernel_rfl;exact (q7 (J7.k (by kernel_rfl)) (q7 (J7.sl_int (y:=((bR t k:Nat):Int)) (by kernel_rfl) (c1i hcnd)) (eD.k (by kernel_rfl))));exact (d5 (l6.p (j3 t) (by kernel_rfl)) trivial);exact (a7z t  m (k+1) (by omega) (by omega) K hK)
def Yf (t:Nat->UInt8):Cz:={
 ct:=(fun f=>match f with
 |134=>b9k t
 |162=>c5i
 |_=>none)
 lp:=fun r=>match r with|3=>some (fun _ K=>K (.exit 0) (tB t 6))|_=>none,wh:=[38]}
theorem c8g (t:Nat->UInt8)  (n:Nat):f4 prog 132 [.c (.agg (tl t))] [] n (iv .i64 (G8 t:Nat)) [] 0:=by
 refine v6 (q:=(l3 prog (gl 3 Tryz.f132) (St.mk [(4,i8 1),(3,i8 0),(2,i8 0),(1,j7 0 0),(0,ag (tl t))] [(0,some (j9 (tl t) 38))] 1 22 [0] 0) fun K=>K (Exit.exit 0) (tB t 6))/\Le (i8 (Nat.cast ((bR t 6)):Int)) (i8 (Nat.cast ((G8 t)):Int))/\True) (Yf t) func132 n (by kernel_rfl) (by kernel_rfl) ?_
 with_reducible repeat' first|exact trivial|apply And.intro|apply HB.mk|intro _
 all_goals first|exact l3.mk (tB t 1) rfl (by kernel_rfl) (q7 (J7.k (by kernel_rfl)) (q7 (J7.sl_int (y:=0) (by kernel_rfl) (d0k t)) (eD.k (by kernel_rfl)))) (d5 (l6.p (j3 t) (by kernel_rfl)) trivial) (fun K hT=>a7z t _ 1 rfl (by decide) K hT)|exact Le.int (d1m t)
end Ab
end
section
namespace Ab
attribute [local irreducible] j8
theorem Gs:j6 prog 133:=fun args w=>by go_simp
theorem Kl:j6 prog 72:=fun args w=>by go_simp
theorem Tp:j6 prog 73:=fun args w=>by go_simp
theorem Su:j6 prog 74:=fun args w=>by go_simp
theorem Lx:j6 prog 76:=fun args w=>by go_simp
theorem c7i (s:ByteArray) (hs:s.size<=2500000) (n:Nat):f4 prog 133 [.c (.l (.v (.string s)))] [] n (.c (.l (.v (.string ⟨(Cod.M.enc s.data.toList).toArray⟩)))) [] 0:=
 B9 Gs (vals:=[.string s]) (y:=.string ⟨(Cod.M.enc s.data.toList).toArray⟩) rfl rfl n fun x=>(Cod.jT s x hs).mono fun e x' h=>⟨h.1,h.2⟩
theorem C72 (s:ByteArray) (hs:s.size<=1000000000000000000) (n:Nat):f4 prog 72 [.c (.l (.v (.string s)))] [] n (iv .u32 (Oct.M.sum s.data.toList:Nat)) [] 0:=
 B9 Kl (vals:=[.string s]) (y:=.int .u32 (Oct.M.sum s.data.toList:Nat)) rfl rfl n fun x=>(Oct.Wp s x hs).mono fun e x' h=>⟨h.1,by first|exact h.2|exact h.2▸n7.refl _⟩
theorem C73 (k:Int) (n:Nat):f4 prog 73 [iv .i64 k] [] n (.c (.l (.v (.string ⟨(Oct.M.R2 (Oct.Q7 k)).toArray⟩)))) [] 0:=
 B9 Tp (vals:=[.int .i64 k]) (y:=.string ⟨(Oct.M.R2 (Oct.Q7 k)).toArray⟩) rfl rfl n fun x=>(Oct.tY k x).mono fun e x' h=>⟨h.1,by first|exact h.2|exact h.2▸n7.refl _⟩
theorem C74 (k m:Int) (n:Nat):f4 prog 74 [iv .i64 k,iv .i64 m] [] n (.c (.l (.v (.string ⟨(Oct.M.be (Oct.sz m) (Oct.Q7 k)).toArray⟩)))) [] 0:=
 B9 Su (vals:=[.int .i64 k,.int .i64 m]) (y:=.string ⟨(Oct.M.be (Oct.sz m) (Oct.Q7 k)).toArray⟩) rfl rfl n fun x=>(Oct.a4h k m x).mono fun e x' h=>⟨h.1,by first|exact h.2|exact h.2▸n7.refl _⟩
theorem C76 (s:ByteArray) (hs:s.size<=1000000000000000000) (n:Nat):f4 prog 76 [.c (.l (.v (.string s)))] [] n (.c (.l (.v (.string ⟨(Oct.Fo s).toArray⟩)))) [] 0:=
 B9 Lx (vals:=[.string s]) (y:=.string ⟨(Oct.Fo s).toArray⟩) rfl rfl n fun x=>(Oct.Se s x hs).mono fun e x' h=>⟨h.1,by first|exact h.2|exact h.2▸n7.refl _⟩
def b0a:Cz:={
 ct:=fun _=>none
 wh:=[36]}
theorem C75 (a b c e:UInt8)  (n:Nat):f4 prog 75 [ag [ub a,ub b,ub c,ub e]] [] n (.c (.l (.v (.string ⟨#[a,b,c,e]⟩)))) [] 0:=by
 refine v6 (q:=D8 (a.toNat:Int)/\D8 (b.toNat:Int)/\D8 (c.toNat:Int)/\D8 (e.toNat:Int)/\Le (l4 (l9 (strOf [(a.toNat:Int),(b.toNat:Int),(c.toNat:Int),(e.toNat:Int)]))) (l4 (l9 (ByteArray.mk #[a,b,c,e])))/\True) (b0a) func75 n (by kernel_rfl) (by kernel_rfl) ?_
 with_reducible repeat' first|exact trivial|apply And.intro|apply HB.mk|intro _
 all_goals first|exact inb _|exact Le.of (congrArg (fun s=>SV.c (.l (.v (.string s)))) (P7 [a,b,c,e]))
theorem b7o (a b c e:UInt8) (n:Nat):f4 prog 75 [ag [ub a,ub b,ub c,ub e]] [] n (.c (.l (.v (.string ⟨#[C9 ((a.toNat:Nat):Int),C9 ((b.toNat:Nat):Int),C9 ((c.toNat:Nat):Int),C9 ((e.toNat:Nat):Int)]⟩)))) [] 0:=by
 rw[v8,v8,v8,v8];exact C75 a b c e n
def wQ (t:Nat->UInt8):ByteArray:=⟨(Cod.M.enc (vM (G8 t:Nat) t).data.toList).toArray⟩
theorem Pz (t:Nat->UInt8):(⟨#[2,UInt8.ofNat (G8 t)]⟩:ByteArray)++wQ t=V7 t:=rfl
theorem b9f (t:Nat->UInt8) (n:Nat):f4 prog 133 [.c (.l (.v (.string (vM (G8 t:Nat) t))))] [] n (.c (.l (.v (.string (wQ t))))) [] 0:=c7i _ (by rw[Kg];decide) n
theorem Wq (t:Nat->UInt8):(wQ t).size<=8196:=Sm (G8 t) t
attribute [local irreducible] N2 V7 G8 D1 L0 tl m7 wQ vM
theorem c4i:j6 prog 71:=fun args w=>by go_simp
def a6w (t:Nat->UInt8):Cz:={
 ct:=(fun f=>match f with
 |75=>some fun _ _=>fun | [.c (.agg [.v (.int _ a),.v (.int _ b),.v (.int _ c),.v (.int _ e)])]=>some {v:=.c (.l (.v (.string ⟨#[C9 a,C9 b,C9 c,C9 e]⟩)))}|_=>none
 |131=>some fun _ _=>fun | [.c (.agg _)]=>some {v:=.tup [.agg [ub (F4 t 0),ub (F4 t 1),ub (F4 t 2),ub (F4 t 3)],.l (.v (.bool (N2 t)))]}|_=>none
 |132=>some fun _ _=>fun | [.c (.agg _)]=>some {v:=iv .i64 (G8 t:Nat)}|_=>none
 |133=>some fun _ _=>fun | [.c (.l (.v (.string s)))]=>some {v:=.c (.l (.v (.string (wQ t))))}|_=>none
 |134=>some fun _ _=>fun | [.c (.agg _),.c (.l (.v (.int _ p)))]=>some {v:=ag [.v (.string (vM p t)),li 0]}|_=>none
 |135=>some fun _ _=>fun | [.c (.agg _)]=>some {v:=.c (.l (.v (.string (L0 t))))}|_=>none
 |_=>none)
 nf:=[(8,.c (.agg (tl t))),(14,.c (.l (.v (.string ⟨#[0]⟩)))),(15,ag [ub (t 0),ub (t 1),ub (t 2),ub (t 3)]),(16,.c (.l (.v (.string ⟨#[t 0,t 1,t 2,t 3]⟩)))),(18,.c (.agg (tl t))),(21,iv .u8 ((UInt8.ofNat (G8 t)).toNat:Nat)),(23,.c (.l (.v (.string ⟨#[2,UInt8.ofNat (G8 t)]⟩)))),(24,.c (.agg (tl t))),(29,.c (.l (.v (.string (V7 t))))),(35,.c (.l (.v (.string ⟨#[1]⟩)))),(36,.c (.agg (tl t)))],wh:=[38,36]}
set_option maxRecDepth 100000 in
set_option maxHeartbeats 400000 in
theorem C71 (t:Nat->UInt8)  (n:Nat):f4 prog 71 [.c (.agg (tl t))] [] n (.c (.l (.v (.string (D1 t))))) [] 0:=by
 refine f4.any ?_ (by kernel_rfl) (by kernel_rfl) n
 have hb6:=Ad t
 have hcs:=Zo t
 have hes:=Wq t
 have hbs:=eG t
 refine lY (cx:=a6w t) (nm:=[]) rfl func71 (body:=Tryz.f71.body.getD .skip) rfl c4i (by kernel_rfl) ?_
 apply u3 (q:=Le (ag (List.take 256 (tl t))) (ag (tl t))/\j8 prog 131 [] [ag (tl t)] [] 1 (SV.tup [Cp.agg [Leaf.v (Value.int IntKind.u8 (Nat.cast ((F4 t 0).toNat):Int)),Leaf.v (Value.int IntKind.u8 (Nat.cast ((F4 t 1).toNat):Int)),Leaf.v (Value.int IntKind.u8 (Nat.cast ((F4 t 2).toNat):Int)),Leaf.v (Value.int IntKind.u8 (Nat.cast ((F4 t 3).toNat):Int))],Cp.l (lb (N2 t))]) [] 0/\0=0/\4=4/\HB (N2 t) (D8 0/\Le (SV.c (Cp.l (Leaf.v (Value.string (strOf [0]))))) (SV.c (Cp.l (Leaf.v (Value.string (ByteArray.mk #[0])))))/\Le (ag [Leaf.v (Value.int IntKind.u8 (Nat.cast ((F4 t 0).toNat):Int)),Leaf.v (Value.int IntKind.u8 (Nat.cast ((F4 t 1).toNat):Int)),Leaf.v (Value.int IntKind.u8 (Nat.cast ((F4 t 2).toNat):Int)),Leaf.v (Value.int IntKind.u8 (Nat.cast ((F4 t 3).toNat):Int))]) (ag [Leaf.v (Value.int IntKind.u8 (Nat.cast ((t 0).toNat):Int)),Leaf.v (Value.int IntKind.u8 (Nat.cast ((t 1).toNat):Int)),Leaf.v (Value.int IntKind.u8 (Nat.cast ((t 2).toNat):Int)),Leaf.v (Value.int IntKind.u8 (Nat.cast ((t 3).toNat):Int))])/\j8 prog 75 [] [ag [Leaf.v (Value.int IntKind.u8 (Nat.cast ((t 0).toNat):Int)),Leaf.v (Value.int IntKind.u8 (Nat.cast ((t 1).toNat):Int)),Leaf.v (Value.int IntKind.u8 (Nat.cast ((t 2).toNat):Int)),Leaf.v (Value.int IntKind.u8 (Nat.cast ((t 3).toNat):Int))]] [] 3 (SV.c (Cp.l (Leaf.v (Value.string (ByteArray.mk #[C9 (Nat.cast ((t 0).toNat):Int),C9 (Nat.cast ((t 1).toNat):Int),C9 (Nat.cast ((t 2).toNat):Int),C9 (Nat.cast ((t 3).toNat):Int)]))))) [] 0/\Le (SV.c (Cp.l (Leaf.v (Value.string (ByteArray.mk #[C9 (Nat.cast ((t 0).toNat):Int),C9 (Nat.cast ((t 1).toNat):Int),C9 (Nat.cast ((t 2).toNat):Int),C9 (Nat.cast ((t 3).toNat):Int)]))))) (SV.c (Cp.l (Leaf.v (Value.string (ByteArray.mk #[t 0,t 1,t 2,t 3])))))/\(Nat.cast (((ByteArray.mk #[0]).size+(ByteArray.mk #[t 0,t 1,t 2,t 3]).size)):Int)<=IntKind.i64.max/\Le (SV.c (Cp.l (Leaf.v (Value.string (ByteArray.mk #[0]++ByteArray.mk #[t 0,t 1,t 2,t 3]))))) (SV.c (Cp.l (Leaf.v (Value.string (D1 t)))))/\True) (Le (ag (List.take 256 (tl t))) (ag (tl t))/\j8 prog 132 [] [ag (tl t)] [] 2 (iv IntKind.i64 (Nat.cast ((G8 t)):Int)) [] 0/\Le (iv IntKind.u8 (IntKind.u8.wrap (Nat.cast ((G8 t)):Int))) (iv IntKind.u8 (Nat.cast ((UInt8.ofNat (G8 t)).toNat):Int))/\D8 2/\D8 (Nat.cast ((UInt8.ofNat (G8 t)).toNat):Int)/\Le (SV.c (Cp.l (Leaf.v (Value.string (strOf [2,(Nat.cast ((UInt8.ofNat (G8 t)).toNat):Int)]))))) (SV.c (Cp.l (Leaf.v (Value.string (ByteArray.mk #[2,UInt8.ofNat (G8 t)])))))/\Le (ag (List.take 256 (tl t))) (ag (tl t))/\j8 prog 134 [] [ag (tl t),iv IntKind.i64 (Nat.cast ((G8 t)):Int)] [] 3 (ag [Leaf.v (Value.string (vM ((Nat.cast ((G8 t)):Int)) t)),li 0]) [] 0/\j8 prog 133 [] [SV.c (Cp.l (Leaf.v (Value.string (vM ((Nat.cast ((G8 t)):Int)) t))))] [] 3 (SV.c (Cp.l (Leaf.v (Value.string (wQ t))))) [] 0/\(Nat.cast (((ByteArray.mk #[2,UInt8.ofNat (G8 t)]).size+(wQ t).size)):Int)<=IntKind.i64.max/\Le (SV.c (Cp.l (Leaf.v (Value.string (ByteArray.mk #[2,UInt8.ofNat (G8 t)]++wQ t))))) (SV.c (Cp.l (Leaf.v (Value.string (V7 t)))))/\HB (decide ((Nat.cast ((V7 t).size):Int)<257)) (Le (SV.c (Cp.l (Leaf.v (Value.string (V7 t))))) (SV.c (Cp.l (Leaf.v (Value.string (D1 t)))))/\True) (D8 1/\Le (SV.c (Cp.l (Leaf.v (Value.string (strOf [1]))))) (SV.c (Cp.l (Leaf.v (Value.string (ByteArray.mk #[1])))))/\Le (ag (List.take 256 (tl t))) (ag (tl t))/\j8 prog 135 [] [ag (tl t)] [] 4 (SV.c (Cp.l (Leaf.v (Value.string (L0 t))))) [] 0/\(Nat.cast (((ByteArray.mk #[1]).size+(L0 t).size)):Int)<=IntKind.i64.max/\Le (SV.c (Cp.l (Leaf.v (Value.string (ByteArray.mk #[1]++L0 t))))) (SV.c (Cp.l (Leaf.v (Value.string (D1 t)))))/\True))) (by kernel_rfl)
 repeat' (first|exact trivial|with_reducible apply And.intro|(with_reducible apply HB.mk)|with_reducible intro _)
 all_goals first
  |(with_reducible rfl)
  |((with_reducible exact b7o _ _ _ _ _))
  |((with_reducible exact c7f t _))
  |((with_reducible exact c8g t _))
  |((with_reducible exact b9f t _))
  |(((with_reducible refine c1h t _ ?_ ?_ _)<;>omega))
  |((with_reducible exact c7d t _))
  |(with_reducible exact Le.of (congrArg (fun l=>SV.c (.agg l)) (t7 _)))
  |(exact inb _)
  |(with_reducible exact Le.of (congrArg (fun l=>SV.c (.agg l)) (Wl (by with_reducible assumption:N2 t=true))))
  |((refine Le.of ?_;rw[v8,v8,v8,v8];done))
  |((refine Le.of ?_;rw[a1z (by with_reducible assumption:N2 t=true)];done))
  |((refine Le.of ?_;rw[c4l];done))
  |((refine Le.of ?_;rw[Pz];done))
  |((refine Le.of ?_;rw[a2m (by with_reducible assumption:N2 t=false) (by with_reducible assumption:decide (((V7 t).size:Int)<257)=true)];done))
  |((refine Le.of ?_;rw[Ur (by with_reducible assumption:N2 t=false) (by with_reducible assumption:decide (((V7 t).size:Int)<257)=false)];done))
  |(exact Le.of (congrArg (fun s=>SV.c (.l (.v (.string s)))) (P7 [2,UInt8.ofNat (G8 t)])))
  |(exact Le.of (congrArg (fun s=>SV.c (.l (.v (.string s)))) (P7 [1])))
  |(exact Le.of (congrArg (fun s=>SV.c (.l (.v (.string s)))) (P7 [0])))
  |((rw[IntKind.max_i64];have e0:(⟨#[0]⟩:ByteArray).size=1:=rfl;have e4:(⟨#[t 0,t 1,t 2,t 3]⟩:ByteArray).size=4:=rfl;have e2:(⟨#[2,UInt8.ofNat (G8 t)]⟩:ByteArray).size=2:=rfl;have e1:(⟨#[1]⟩:ByteArray).size=1:=rfl;omega))
  |(unfold D8;decide)
end Ab
end
section
namespace Ab
attribute [local irreducible] j8
attribute [local irreducible] tl n8 D1
def LE (l:List TA) (k:Nat):List EN:=(l.take k).map pO
def I20 (l:List TA) (k:Nat):St:=⟨[(4,iv .i64 (k:Nat)),(3,.c (.l (.o 2 k))),(1,.c (.l (.p 1 0)))],[(0,some ⟨n8 l,.r 42 258 0⟩),(1,some ⟨[.o 0 l.length],.t 26⟩),(2,some ⟨o4 (LE l k),.r 59 8 2⟩)],3,42,[2,1],(1)⟩
theorem Fs {l:List TA} {k:Nat} (hk:k<l.length):o4 (LE l k)++en (pO (r8 l k))=o4 (LE l (k+1)):=by
 have e:LE l (k+1)=LE l k++[pO (r8 l k)]:=by
  unfold LE
  rw[List.take_succ_eq_append_getElem hk,List.map_append,List.map_cons,List.map_nil]
  congr 2
  have h:=b3a hk
  rw[List.getElem?_eq_getElem hk] at h
  exact congrArg pO (Option.some.inj h)
 rw[e]
 unfold o4
 rw[List.map_append,List.flatten_append]
 simp
theorem a8v {l:List TA} {k:Nat} (hk:k<=l.length):(o4 (LE l k)).length=8*k:=by
 rw[y6]
 unfold LE
 rw[List.length_map,List.length_take]
 omega
theorem b3g (l:List TA):LE l l.length=l.map pO:=by
 unfold LE
 rw[List.take_length]
theorem Kq (e:TA):[li e.X,li e.Y,ub (x9 e.t 0),ub (x9 e.t 1),ub (x9 e.t 2),ub (x9 e.t 3),li (z7 (D1 e.t)),.v (.string (D1 e.t))]=en (pO e):=rfl
theorem Mj (s:ByteArray):IntKind.i64.wrap ((Oct.M.sum s.data.toList:Nat):Int)=z7 s:=by
 have h:=G9 s
 unfold z7 at h⊢
 exact C2 _ (by omega) (by omega)
theorem a5j {need:Nat} (k:need*49<=140737488355328):fW prog 59 need:=apB (bytes:=48) (by kernel_rfl) k
def b8n:Rw:=some fun _ _=>fun | [.c (.l (.v (.string s)))]=>some {v:=iv .u32 (Oct.M.sum s.data.toList:Nat)}|_=>none
def b2a (l:List TA) (k:Nat):Cz:={
 ct:=(fun f=>match f with
 |17=>some fun _ _=>fun | [.c (.agg _)]=>some {v:=ag (bZ (r8 l k).t)}|_=>none
 |71=>some fun _ _=>fun | [.c (.agg _)]=>some {v:=.c (.l (.v (.string (D1 (r8 l k).t))))}|_=>none
 |72=>b8n
 |_=>none)
 sym:=[16,18,24,26,30,32,40],nf:=[(18,.c (.agg (tl (r8 l k).t))),(26,ag [li (r8 l k).X,li (r8 l k).Y]),(32,.c (.agg (tl (r8 l k).t))),(33,ag [ub (x9 (r8 l k).t 0),ub (x9 (r8 l k).t 1),ub (x9 (r8 l k).t 2),ub (x9 (r8 l k).t 3)]),(36,iv .i64 (z7 (D1 (r8 l k).t))),(38,.c (.agg (en (pO (r8 l k)))))]}
theorem R20 (l:List TA) (k:Nat)  (K:Exit->St->Prop) (h:let a:=((k:Int));let b:=ag (List.take 256 (List.drop (a.toNat*258+2) (n8 l)));let d:=r8 l k;let e:=ag (tl d.t);let f:=[ag (tl d.t)];let g:=D1 d.t;let i:=ag (List.take 2 (List.drop (a.toNat*258+0) (n8 l)));let j:=(ag [li d.X,li d.Y]);let m:=ag (bZ d.t);let n:=(Nat.cast ((x9 d.t 0).toNat):Int);let q:=(Nat.cast ((x9 d.t 1).toNat):Int);let s:=(Nat.cast ((x9 d.t 2).toNat):Int);let u:=(Nat.cast ((x9 d.t 3).toNat):Int);let w:=(ag [l8 n,l8 q,l8 s,l8 u]);let x:=(Nat.cast ((Oct.M.sum g.data.toList)):Int);let y:=iv .u32 x;let z:=i8 (IntKind.i64.wrap x);let A:=(ag [li d.X,li d.Y,l8 n,l8 q,l8 s,l8 u,li (z7 g),l9 g]);let B:=en (pO d);let C:=o4 (LE l k);let D:=((k:Int)+1);let E:=(A2 3 (Tryz.f20.body.getD Code.skip)).getD Code.skip;let G:=(1,j7 1 0);let H:=(0,some (o8 (n8 l) 42 258 0));let I:=(1,some (j9 [Leaf.o 0 l.length] 26));let J:=[li 0,li 0,l8 0,l8 0,l8 0,l8 0,li 0,l9 (ByteArray.mk #[])];let L:=o4 (LE l k)++j4 J 0 B;let N:=(3,some (o8 (j4 J 0 B) 59 8 3));let O:=[(2,k+1,false)];let P:=(2,some (o8 C 59 8 2));HB (decide ((k:Int)<(l.length:Int))) (t0 a l.length/\a.toNat*258+2+256<=(n8 l).length/\Le b e/\Kd 71 [] f [] 3 (l4 (l9 g)) [] 0/\(t0 a l.length/\a.toNat*258+0+2<=(n8 l).length/\Le i j/\t0 a l.length/\a.toNat*258+2+256<=(n8 l).length/\Le b e/\Kd 17 [] f [] 3 m [] 0/\Le m w/\Kd 72 [] [l4 (l9 g)] [] 3 y [] 0/\Le z (i8 (z7 g))/\Le A (ag B)/\C.length=k*8/\8=8/\IntKind.i64.wrap D=(k:Int)+1/\RoundTo prog E 3 (wkK 3 K) (St.mk [G,(3,l4 (Leaf.o 2 (k+1))),(4,i8 D)] [H,I,(2,some (o8 L 59 8 2)),N,(4,none)] 4 42 [2,3,2,1] 1))/\t0 a l.length/\a.toNat*258+0+2<=(n8 l).length/\Le i j/\t0 a l.length/\a.toNat*258+2+256<=(n8 l).length/\Le b e/\Kd 17 [] f [] 3 m [] 0/\Le m w/\Kd 72 [] [l4 (l9 g)] [] 3 y [] 0/\Le z (i8 (z7 g))/\Le A (ag B)/\O=O/\fW prog 59 (k+1)/\C.length=k*8/\8=8/\IntKind.i64.wrap D=(k:Int)+1/\RoundTo prog E 3 (wkK 3 K) (St.mk [G,(3,l4 (Leaf.o 4 (k+1))),(4,i8 D)] [H,I,P,N,(4,some (o8 L 59 8 4))] 5 42 [4,3,2,1] 1)) (wkK 3 K (Exit.exit 0) (St.mk [G,(3,l4 (Leaf.o 2 k)),(4,i8 (k:Int))] [H,I,P,(3,none),(4,none)] 3 42 [2,1] 1))):z4 prog (gl 3 Tryz.f20) (I20 l k) (wkK 3 K):=
 m5 [1,3,4] [0,1,2,3,4] (cx:=b2a l k) rfl (u3 (by kernel_rfl) h)
set_option maxRecDepth 100000 in
set_option maxHeartbeats 4000000 in
theorem L20 (l:List TA) (gl:Good l):∀(m k:Nat),l.length-k=m->k<=l.length->∀(K:Exit->St->Prop),K (.exit 0) (I20 l l.length)->z4 prog ((A2 3 (Tryz.f20.body.getD .skip)).getD .skip) (I20 l k) (wkK 3 K)
 |0,k,hm,hk,K,hK=>by
  have e:k=l.length:=by omega
  subst e
  refine R20 l _ K (HB.mk (fun hne=>absurd (of_decide_eq_true hne) (by omega)) (fun he=>?_))
  exact wkK.to (I20 l _) (Nat.le_refl _) (by kernel_rfl) (q7 (J7.sl (by kernel_rfl) rfl) (q7 (J7.sl (by kernel_rfl) rfl) (q7 (J7.sl (by kernel_rfl) rfl) trivial))) (d5 (l6.plain (cs:=n8 l) (b:=.r 42 258 0) (by kernel_rfl) (rfl) (i9 _) (by kernel_rfl)) (d5 (l6.blk (k:=⟨[.o 0 l.length],.t 26⟩) (by kernel_rfl) (rfl) (by kernel_rfl)) (d5 (l6.plain (cs:=o4 (LE l l.length)) (b:=.r 59 8 2) (by kernel_rfl) (rfl) (g9 _) (by kernel_rfl)) trivial))) hK
 |m+1,k,hm,hk,K,hK=>by
  refine R20 l k K (HB.mk (fun hne=>?_) (fun he=>absurd (show ((k:Nat):Int)<(l.length:Nat) by omega) (of_decide_eq_false he)))
  have hlt:k<l.length:=by omega
  have h4:=gl.len
  have hbl:=Aa (r8 l k).t
  repeat' (first|exact trivial|with_reducible apply And.intro|(with_reducible apply HB.mk)|with_reducible intro _)
  all_goals first
   |(with_reducible rfl)
   |((with_reducible exact C17 _ _))
   |((with_reducible exact C71 _ _))
   |(((with_reducible refine C72 _ ?_ _)<;>omega))
   |(exact ⟨by omega,by omega⟩)
   |((rw[C6,tn];omega))
   |((rw[a8v (Nat.le_of_lt hlt)];omega))
   |((refine Le.of ?_;simp only[tn,Nat.zero_add,Nat.add_zero];rw[lW hlt]))
   |((refine Le.of ?_;simp only[tn,Nat.zero_add,Nat.add_zero];rw[b2r hlt]))
   |(with_reducible exact Le.of (congrArg (fun l=>SV.c (.agg l)) (oB _)))
   |(with_reducible exact Le.int (Mj _))
   |(exact Le.of (congrArg (fun l=>SV.c (.agg l)) (Kq _)))
   |((with_reducible refine a5j ?_;omega))
   |((with_reducible refine RoundTo.toN 4 (I20 l (k+1)) ?_ ?_ ?_ ?_ ?_);exact Nat.le_refl _;kernel_rfl;exact (q7 (J7.sl (by kernel_rfl) rfl) (q7 (J7.sl (by kernel_rfl) rfl) (q7 (J7.sl (by kernel_rfl) rfl) trivial)));exact (d5 (l6.plain (cs:=n8 l) (b:=.r 42 258 0) (by kernel_rfl) (rfl) (i9 _) (by kernel_rfl)) (d5 (l6.blk (k:=⟨[.o 0 l.length],.t 26⟩) (by kernel_rfl) (rfl) (by kernel_rfl)) (d5 (l6.plain (cs:=o4 (LE l k)++en (pO (r8 l k))) (b:=.r 59 8 2) (by kernel_rfl) (Fs hlt) (g9 _) (by kernel_rfl)) trivial)));exact (L20 l gl m (k+1) (by omega) (by omega) K hK))
   |((with_reducible refine RoundTo.reN 5 [(2,some 4)] (I20 l (k+1)) ?_ ?_ ?_ ?_);kernel_rfl;exact (m9 (H8.of (by kernel_rfl)) (m9 (H8.of (by kernel_rfl)) (m9 (H8.of (by kernel_rfl)) trivial)));exact (f5 (j:=0) rfl (v5.plain (cs:=n8 l) (b:=.r 42 258 0) (by kernel_rfl) (rfl) (i9 _) (by kernel_rfl)) (f5 (j:=1) rfl (v5.blk (k:=⟨[.o 0 l.length],.t 26⟩) (k'':=⟨[.o 0 l.length],.t 26⟩) (by kernel_rfl) (by kernel_rfl) rfl) (f5 (j:=4) rfl (v5.plain (cs:=o4 (LE l k)++en (pO (r8 l k))) (b:=.r 59 8 4) (by kernel_rfl) (Fs hlt) (g9 _) (by kernel_rfl)) trivial)));exact (L20 l gl m (k+1) (by omega) (by omega) K hK))
   |(exact C2 _ (by omega) (by omega))
theorem c6s:j6 prog 20:=fun args w=>by go_simp
def a7v (l:List TA):Cz:={
 ct:=(fun f=>match f with
 |72=>b8n
 |_=>none)
 lp:=fun r=>match r with|3=>some (fun _ K=>K (.exit 0) (I20 l l.length))|_=>none,wh:=[26]}
set_option maxRecDepth 100000 in
set_option maxHeartbeats 400000 in
theorem C20 (l:List TA) (gl:Good l):f4 prog 20 [.c (.agg [.o 0 l.length])] [(0,⟨n8 l,.r 42 258 0⟩)] 1 (.c (.l (.o 1 l.length))) [(1,⟨o4 (l.map pO),.r 59 8 1⟩)] 1:=by
 refine lY (cx:=a7v l) (nm:=[2]) rfl func20 (body:=Tryz.f20.body.getD .skip) rfl c6s (by unfold Q8;simp only[List.all_cons,List.all_nil,kD (i9 l) (show (BT.rn (x8 1 0 []) (.r 42 258 0)).isSome=true from rfl),Bool.and_true,Bool.true_and];kernel_rfl) ?_
 apply u3 (q:=(l3 prog ((A2 3 (Tryz.f20.body.getD .skip)).getD .skip) (St.mk [(4,iv IntKind.i64 0),(3,SV.c (Cp.l (Leaf.v (Value.slice none 0 0)))),(2,SV.c (Cp.l (Leaf.v (Value.slice none 0 0)))),(1,SV.c (Cp.l (Leaf.p 1 0))),(0,ag [Leaf.o 0 l.length])] [(1,some (n6.mk [Leaf.o 0 l.length] (BT.t 26))),(0,some (n6.mk (n8 l) (BT.r 42 258 0)))] 2 42 [1] 1) fun K=>K (Exit.exit 0) (I20 l l.length))/\Le (SV.c (Cp.l (Leaf.o 1 l.length))) (SV.c (Cp.l (Leaf.o 1 l.length)))/\A5 (x8 1 0 [2]) (n6.mk (o4 (LE l l.length)) (BT.r 59 8 2)) (n6.mk (o4 (List.map pO l)) (BT.r 59 8 1))/\True) (by kernel_rfl)
 repeat' (first|exact trivial|with_reducible apply And.intro|(with_reducible apply HB.mk)|with_reducible intro _)
 all_goals first
  |(with_reducible exact Le.refl _)
  |(exact l3.re [(0,some 0),(1,some 1),(2,none)] (I20 l 0) (by kernel_rfl) (m9 (H8.of (by kernel_rfl)) (m9 (show H8 _ 3 _ (.c (.l (.o 2 0))) from H8.nilS (by kernel_rfl) (show 2<3 by decide) rfl) (m9 (H8.of (by kernel_rfl)) trivial))) (f5 (j:=0) rfl (v5.plain (cs:=n8 l) (b:=.r 42 258 0) (by kernel_rfl) (rfl) (i9 _) (by kernel_rfl)) (f5 (j:=1) rfl (v5.blk (k:=⟨[.o 0 l.length],.t 26⟩) (k'':=⟨[.o 0 l.length],.t 26⟩) (by kernel_rfl) (by kernel_rfl) rfl) (b6l rfl trivial))) (fun K hT=>L20 l gl _ 0 rfl (Nat.zero_le _) K hT))
  |(exact A5.plain (by rw[b3g]) (g9 _) (by kernel_rfl))
theorem xR (l:List TA) (gl:Good l) (id n:Nat) (hi:id<n):f4 prog 20 [.c (.agg [.o id l.length])] [(id,⟨n8 l,.r 42 258 id⟩)] n (.c (.l (.o n l.length))) [(n,⟨o4 (l.map pO),.r 59 8 n⟩)] 1:=by
 have key:=f4.at1 (C20 l gl) id n hi
 simp only[List.map_cons,List.map_nil,n6.ren,SV.ren,Cp.ren,Leaf.ren,BT.ren,j5 (i9 _),j5 (g9 _)] at key
 exact key
end Ab
end
section
namespace Ab
attribute [local irreducible] j8
attribute [local irreducible] tl n8 D1
theorem Ob (L:List EN) (k:Nat):lU L k++K9 ((ea L k).X+8192) 2++K9 ((ea L k).Y+8192) 2++dJ (ea L k)++sL (ea L k).blob.size++K9 (ea L k).sum 4=lU L (k+1):=by
 rw[lU]
 unfold Nu
 simp only[ByteArray.append_assoc]
theorem c5t (e:EN):(⟨#[C9 ((e.a.toNat:Nat):Int),C9 ((e.b.toNat:Nat):Int),C9 ((e.c.toNat:Nat):Int),C9 ((e.d.toNat:Nat):Int)]⟩:ByteArray)=dJ e:=by
 rw[v8,v8,v8,v8];rfl
theorem Lr (e:EN):(dJ e).size=4:=rfl
end Ab
end
section
namespace Oct
theorem Ax (b:Nat) (s:ByteArray) (p:Nat) (w:World) (n:Int) (h:Rd 149 b s p true w) :
  Calls prog 94 #[.pointer (some ⟨b,0,none⟩),.int .i64 n] w fun e w'=>e=.returned (.string ⟨#[]⟩)/\w.grownBy w' (some b)/\Rd 149 b s p true w':=by
 have h2:=h.c2
 have hf:=h.fz 2
 go_enter func94,ntmps94
 go_wp2_with fail
 go_quiet (fail)
 have hf':(w.drewN nq).frozen? ⟨b,2,none⟩=false:=hf
 have h2':(w.drewN nq).cell? ⟨b,2,none⟩=some (.bool true):=h2
 go_wp2_with fail
 go_ret
 exact ⟨rfl,w9 (y7 (B0 _ _)) _ _,(h.drewN nq).put2 _⟩
theorem Jl (b:Nat) (s:ByteArray) (p:Nat) (w:World) (n:Int) (h:Rd 149 b s p false w) (hn:n<0) :
  Calls prog 94 #[.pointer (some ⟨b,0,none⟩),.int .i64 n] w fun e w'=>e=.returned (.string ⟨#[]⟩)/\w.grownBy w' (some b)/\Rd 149 b s p true w':=by
 have h2:=h.c2
 have hf:=h.fz 2
 have hd:decide (n<0)=true:=decide_eq_true hn
 go_enter func94,ntmps94
 go_wp2_with fail
 go_quiet (fail)
 have hf':(w.drewN nq).frozen? ⟨b,2,none⟩=false:=hf
 have h2':(w.drewN nq).cell? ⟨b,2,none⟩=some (.bool false):=h2
 go_wp2_with fail
 go_ret
 exact ⟨rfl,w9 (y7 (B0 _ _)) _ _,(h.drewN nq).put2 _⟩
theorem Cj (b:Nat) (s:ByteArray) (p:Nat) (w:World) (n:Int) (h:Rd 149 b s p false w) (hs:s.size<=1000000000000000000) (hp:p<=s.size) (hn:¬n<0) (ho:(s.size:Int)-p<n) :
  Calls prog 94 #[.pointer (some ⟨b,0,none⟩),.int .i64 n] w fun e w'=>e=.returned (.string ⟨#[]⟩)/\w.grownBy w' (some b)/\Rd 149 b s p true w':=by
 have h0:=h.c0
 have h1:=h.c1
 have h2:=h.c2
 have hf:=h.fz 2
 have hd:decide (n<0)=false:=decide_eq_false hn
 have e1:IntKind.i64.wrap ((s.size:Int)-p)=(s.size:Int)-p:=IntWalk.i64_in _ (by omega)
 go_enter func94,ntmps94
 go_wp2_with fail
 go_quiet (fail)
 have hf':(w.drewN nq).frozen? ⟨b,2,none⟩=false:=hf
 have h2':(w.drewN nq).cell? ⟨b,2,none⟩=some (.bool false):=h2
 clear e1
 go_wp2_with fail
 go_ret
 exact ⟨rfl,w9 (y7 (B0 _ _)) _ _,(h.drewN nq).put2 _⟩
theorem Ih (b:Nat) (s:ByteArray) (p:Nat) (w:World) (n:Nat) (h:Rd 149 b s p false w) (hs:s.size<=1000000000000000000) (hp:p+n<=s.size) :
  Calls prog 94 #[.pointer (some ⟨b,0,none⟩),.int .i64 n] w fun e w'=>e=.returned (.string (s.extract p (p+n)))/\w.grownBy w' (some b)/\Rd 149 b s (p+n) false w':=by
 have h0:=h.c0
 have h1:=h.c1
 have h2:=h.c2
 have hf:=h.fz 1
 have hd:decide ((n:Int)<0)=false:=decide_eq_false (by omega)
 have e1:IntKind.i64.wrap ((s.size:Int)-p)=(s.size:Int)-p:=IntWalk.i64_in _ (by omega)
 have hd2:decide ((s.size:Int)-p<(n:Int))=false:=decide_eq_false (by omega)
 go_enter func94,ntmps94
 go_wp2_with fail
 go_quiet (fail)
 have h0':(w.drewN nq).cell? ⟨b,0,none⟩=some (.string s):=h0
 have h1':(w.drewN nq).cell? ⟨b,1,none⟩=some (.int .i64 (p:Int)):=h1
 have hf':(w.drewN nq).frozen? ⟨b,1,none⟩=false:=hf
 clear e1 hd hd2 h0 h1 h2 hf
 go_wp2_with fail
 go_quiet (fail)
 go_wp2_with fail
 go_ret
 exact ⟨rfl,y7 (w9 (y7 (B0 _ _)) _ _),(Rd.put1 (Rd.drewN h _) (p+n)).drewN _⟩
theorem jA (b:Nat) (s:ByteArray) (p:Nat) (f:Bool) (w:World) (n:Int) (h:Rd 149 b s p f w) (hs:s.size<=1000000000000000000) (hp:p<=s.size) :
  Calls prog 94 #[.pointer (some ⟨b,0,none⟩),.int .i64 n] w fun e w'=>e=.returned (.string (l5 s p f n).1)/\w.grownBy w' (some b)/\Rd 149 b s (l5 s p f n).2.1 (l5 s p f n).2.2 w':=by
 by_cases hn:f=true\/n<0\/(s.size:Int)-p<n
 ·have e:l5 s p f n=(⟨#[]⟩,p,true):=by unfold l5;rw[if_pos hn]
  rw[e]
  cases f with
  |true=>exact Ax b s p w n h
  |false=>
   by_cases h0:n<0
   ·exact Jl b s p w n h h0
   ·exact Cj b s p w n h hs hp h0 (by rcases hn with h|h|h<;>first|omega|simp at h)
 ·have e:l5 s p f n=(s.extract p (p+n.toNat),p+n.toNat,false):=by unfold l5;rw[if_neg hn]
  rw[e]
  have hf:f=false:=by cases f<;>simp_all
  subst hf
  obtain ⟨m,rfl⟩:=Int.eq_ofNat_of_zero_le (show 0<=n by omega)
  rw[Int.toNat_natCast]
  exact Ih b s p w m h hs (by omega)
theorem Oz (b:Nat) (s:ByteArray) (p:Nat) (f:Bool) (w:World) (n:Int) (h:Rd 149 b s p f w) (hs:s.size<=1000000000000000000) (hp:p<=s.size) :
  Calls prog 92 #[.pointer (some ⟨b,0,none⟩),.int .i64 n] w fun e w'=>e=.returned (.int .i64 (wrap64 (kR (l5 s p f (sz n)).1.data.toList)))/\w.grownBy w' (some b)/\Rd 149 b s (l5 s p f (sz n)).2.1 (l5 s p f (sz n)).2.2 w':=by
 go_enter func92,ntmps92
 go_wp2_with fail
 refine (yU n _).mono ?_
 rintro e x1 ⟨rfl,rfl⟩
 go_wp2_with fail
 refine (jA b s p f _ (sz n) h hs hp).mono ?_
 rintro e x2 ⟨rfl,g2,r2⟩
 have hsz:=rT s p f n
 generalize ht:(l5 s p f (sz n)).1=t at *
 have HT:=Lib.hid ht
 clear ht h
 have hlen:t.data.toList.length=t.size:=Array.length_toList
 go_wp2_with fail
 go_loop [6,7] (fun a i=>∃j:Nat,j<=t.size/\i=.int .i64 j/\a=.int .u64 (kR (t.data.toList.take j):Nat)) (fun a i=>t.size-(intOf i).toNat)
 case atStart=>exact ⟨0,Nat.zero_le _,rfl,by rw[List.take_zero];rfl⟩
 case round=>
  obtain ⟨j,hj,rfl,rfl⟩:=hrel
  by_cases hlt:j<t.size
  ·have hu:=Ef t.data.toList j (by omega)
   have hc:=UInt8.toNat_lt t[j]
   have HE:Hid (kR (t.data.toList.take (j+1))=kR (t.data.toList.take j)*256+t[j].toNat):=by
    show _=_
    rw[oN t j hlt,xG];rfl
   generalize kR (t.data.toList.take j)=u at *
   go_wp2_with fail
   go_round
   case rel=>
    refine ⟨j+1,by omega,by go_num,?_⟩
    rw[HE.out]
    congr 1
   case measure=>simp[intOf];omega
  ·have hje:j=t.size:=by omega
   have hfin:t.data.toList.take j=t.data.toList:=List.take_of_length_le (by omega)
   rw[hfin]
   clear hfin
   go_wp2_with fail
   go_ret
   exact ⟨F0 (by rw[HT.out]),g2,r2⟩
theorem a2d (i B3 u k:Nat) (B:UInt8) (hu:u=B3 % 18446744073709551616) (hk:k=128 ^ i % 18446744073709551616) :
  ∃u2:Nat,IntKind.u64.wrap ((u:Int)+IntKind.u64.wrap ((B.toNat:Int) % 128*(k:Int)))=(u2:Int)/\u2=(B3+B.toNat % 128*128 ^ i) % 18446744073709551616:=by
 refine ⟨(B3+B.toNat % 128*128 ^ i) % 18446744073709551616,?_,rfl⟩
 rw[IntKind.wrap_u64,IntKind.wrap_u64,hu,hk]
 generalize 128 ^ i=x
 have h2:B.toNat % 128*(x % 18446744073709551616) % 18446744073709551616=B.toNat % 128*x % 18446744073709551616:=Nat.mul_mod_mod _ _ _
 have h3:((B.toNat:Int) % 128*((x % 18446744073709551616:Nat):Int))=((B.toNat % 128*(x % 18446744073709551616):Nat):Int):=by
  rw[Int.natCast_mul,Int.natCast_emod];rfl
 rw[h3]
 generalize B.toNat % 128*(x % 18446744073709551616)=q1 at *
 generalize B.toNat % 128*x=q2 at *
 omega
theorem Qc (u2:Nat) (h:u2<18446744073709551616):Q7 (wrap64 (u2:Int))=u2:=by
 unfold Q7 wrap64;omega
theorem Vg (i k:Nat) (hk:k=128 ^ i % 18446744073709551616):∃k2:Nat,IntKind.u64.wrap ((k:Int)*128)=(k2:Int)/\k2=128 ^ (i+1) % 18446744073709551616:=by
 refine ⟨128 ^ (i+1) % 18446744073709551616,?_,rfl⟩
 rw[IntKind.wrap_u64,hk,Nat.pow_succ]
 generalize 128 ^ i=x
 omega
theorem Xl (D:List UInt8) (i B3:Nat) (b:UInt8) (rest:List UInt8) (hd:M.X7 0 0 D=M.X7 i B3 (b::rest)) (hi:i<10) (hb:b.toNat<128) (hl:D.drop i=b::rest) (u2:Nat)
  (hu:u2=(B3+b.toNat % 128*128 ^ i) % 18446744073709551616) :
  (M.R2 u2=D.take (i+1)->M.X7 0 0 D=some (u2,i+1))/\(M.R2 u2≠D.take (i+1)->M.X7 0 0 D=none):=by
 have hlen:i+1<=D.length:=by
  have:=congrArg List.length hl
  simp at this;omega
 have hu2:u2<18446744073709551616:=by rw[hu];exact Nat.mod_lt _ (by omega)
 constructor
 ·intro h
  refine (M.uO _ _ _).2 ⟨hu2,?_,D.drop (i+1),?_⟩
  ·rw[h,List.length_take];omega
  ·rw[h,List.take_append_drop]
 ·intro h
  cases hx:M.X7 0 0 D with
  |none=>rfl
  |some x=>
   exfalso
   obtain ⟨v,n⟩:=x
   rw[hd] at hx
   unfold M.X7 at hx
   rw[if_neg (by omega),if_neg (by omega)] at hx
   split at hx
   ·simp at hx
   ·simp only[Option.some.injEq,Prod.mk.injEq] at hx
    obtain ⟨hv,hn⟩:=hx
    have hx2:M.X7 0 0 D=some (v,i+1):=by
     rw[hd];unfold M.X7;rw[if_neg (by omega),if_neg (by omega),if_neg (by assumption),hv]
    obtain ⟨h1,h2,r,h3⟩:=(M.uO _ _ _).1 hx2
    have hvu:v=u2:=by
     rw[hu,Nat.mod_eq_of_lt hb,hv,Nat.mod_eq_of_lt h1]
    subst hvu
    exact h (by rw[h3,h2,List.take_left])
theorem Iw (b:Nat) (s:ByteArray) (p:Nat) (w:World) (h:Rd 149 b s p false w) (hs:s.size<=1000000000000000000) (hp:p<=s.size) :
  Calls prog 93 #[.pointer (some ⟨b,0,none⟩)] w fun e w'=>e=.returned (.int .i64 (l7 s p false).1)/\w.grownBy w' (some b)/\Rd 149 b s (l7 s p false).2.1 (l7 s p false).2.2 w':=by
 go_enter func93,ntmps93
 go_wp2_with fail
 go_loopw [3,4,5] (fun u m i wr=>∃k B3 y z:Nat,k<=10/\i=.int .i64 k/\u=.int .u64 y/\m=.int .u64 z/\Hid (y=B3 % 18446744073709551616)/\Hid (z=128 ^ k % 18446744073709551616)/\
   Hid (M.X7 0 0 (s.data.toList.drop p)=M.X7 k B3 ((s.data.toList.drop p).drop k))/\Rd 149 b s p false wr/\w.grownBy wr (some b)) (fun _ _ i _=>10-(intOf i).toNat)
 case atStart=>exact ⟨0,0,0,1,by omega,rfl,rfl,rfl,rfl,rfl,rfl,h,B0 _ _⟩
 case round=>
  clear h
  obtain ⟨k,B3,y,z,hk,rfl,rfl,rfl,HY,HZ,HD,hrd,hg⟩:=hrel
  have h0:=hrd.c0
  have h1:=hrd.c1
  have h2:=hrd.c2
  have e1:IntKind.i64.wrap ((p:Int)+k)=(p:Int)+k:=IntWalk.i64_in _ (by omega)
  by_cases hlt:p+k<s.size
  ·have hd1:decide ((p:Int)+k<(s.size:Int))=true:=decide_eq_true (by omega)
   by_cases hk10:k<10
   ·have hd2:decide ((k:Int)<10)=true:=decide_eq_true (by omega)
    obtain ⟨B,hB⟩:∃B:UInt8,s[p+k]'hlt=B:=⟨_,rfl⟩
    have HL:Hid ((s.data.toList.drop p).drop k=B::(s.data.toList.drop p).drop (k+1)):=by rw[<-hB];exact Gi s p k hlt
    have e2:(0:Int)<=(p:Int)+k:=by omega
    have e3:((p:Int)+k).toNat=p+k:=by omega
    have e4:(p:Int)+k<s.size:=by omega
    obtain ⟨u2,hU,hu2⟩:=a2d k B3 y z B HY.out HZ.out
    obtain ⟨k2,hK,hk2⟩:=Vg k z HZ.out
    have HU2:=Lib.hid hu2
    have HK2:=Lib.hid hk2
    clear hu2 hk2
    have hBl:(B.toNat:Int)<256:=by have:=B.toNat_lt;omega
    go_wp2_with fail
    go_quiet (fail)
    have hrd':Rd 149 b s p false (wr.drewN nq):=hrd
    have hg':w.grownBy (wr.drewN nq) (some b):=y7 hg
    clear hrd hg h0 h1 h2
    generalize wr.drewN nq=wt at *
    have h0:=hrd'.c0
    have h1:=hrd'.c1
    go_wp2_with fail
    go_quiet (fail)
    have hrd:Rd 149 b s p false (wt.drewN nq):=hrd'
    have hg:w.grownBy (wt.drewN nq) (some b):=y7 hg'
    clear hrd' hg' h0 h1 hB e2 e3 e4 hd1 hd2
    generalize wt.drewN nq=wt2 at *
    by_cases hb8:128<=B.toNat
    ·go_wp2_with fail
     go_roundw
     case rel=>
      refine ⟨k+1,B3+B.toNat % 128*128 ^ k,u2,k2,by omega,by go_num,rfl,rfl,HU2.out,HK2.out,?_,hrd,hg⟩
      show _=_
      rw[HD.out,HL.out,M.gQ k B3 B _ hk10 hb8]
     case measure=>simp[intOf];omega
    ·have hend:=Xl (s.data.toList.drop p) k B3 B _ (by rw[HD.out,HL.out]) hk10 (by omega) HL.out u2 HU2.out
     have hu64:=Qc u2 (by rw[HU2.out];exact Nat.mod_lt _ (by omega))
     have hext:s.extract p (p+k+1)=⟨((s.data.toList.drop p).take (k+1)).toArray⟩:=by
      rw[Lib.extract_eq]
      congr 3
      omega
     have HEX:=Lib.hid hext
     have HEND:=Lib.hid hend
     have HU64:=Lib.hid hu64
     clear hext hend hu64
     go_wp2_with fail
     refine (tY _ _).mono ?_
     rintro e x5 ⟨rfl,hb5⟩
     rw[HU64.out]
     have hrd5:=hrd.keep hb5
     have hg5:=L6 hg (kE (b:=b) hb5)
     clear hrd hg hb5 HU64
     have h0:=hrd5.c0
     have h1:=hrd5.c1
     have e5:IntKind.i64.wrap ((p:Int)+k+1)=(p:Int)+k+1:=IntWalk.i64_in _ (by omega)
     have e6:(0:Int)<=(p:Int)+k+1:=by omega
     have e7:(p:Int)<=(p:Int)+k+1:=by omega
     have e8:(p:Int)+k+1<=s.size:=by omega
     have e9:((p:Int)+k+1).toNat=p+k+1:=by omega
     go_wp2_with fail
     go_quiet (fail)
     have hrd6:Rd 149 b s p false (x5.drewN nq):=hrd5
     have hg6:w.grownBy (x5.drewN nq) (some b):=y7 hg5
     clear hrd5 hg5 h0 h1 e6 e7 e8 e9
     generalize x5.drewN nq=x6 at *
     have h1:=hrd6.c1
     have h2:=hrd6.c2
     have f1:=hrd6.fz 1
     have f2:=hrd6.fz 2
     go_wp2_with fail
     ·have hq:(M.R2 u2==(s.extract p (p+k+1)).toList)=true:=by assumption
      rw[HEX.out,dZ,beq_iff_eq] at hq
      have HF:Hid (l7 s p false=(wrap64 (u2:Int),p+(k+1),false)):=by
       show _=_
       unfold l7;rw[if_neg (by simp),HEND.out.1 hq]
      clear hq HEX HEND
      go_ret
      rw[HF.out]
      exact ⟨rfl,w9 hg6 _ _,hrd6.put1 (p+(k+1))⟩
     ·have hq:(M.R2 u2==(s.extract p (p+k+1)).toList)=false:=by assumption
      rw[HEX.out,dZ] at hq
      have HF:Hid (l7 s p false=(0,p,true)):=by
       show _=_
       unfold l7;rw[if_neg (by simp),HEND.out.2 (by simpa using hq)]
      clear hq HEX HEND
      go_ret
      rw[HF.out]
      exact ⟨rfl,w9 hg6 _ _,hrd6.put2 _⟩
   ·have hd2:decide ((k:Int)<10)=false:=decide_eq_false (by omega)
    go_wp2_with fail
    go_quiet (fail)
    have hrd':Rd 149 b s p false (wr.drewN nq):=hrd
    have hg':w.grownBy (wr.drewN nq) (some b):=y7 hg
    clear hrd hg h0 h1 h2
    generalize wr.drewN nq=wt at *
    have h2:=hrd'.c2
    have f2:=hrd'.fz 2
    have HF:Hid (l7 s p false=(0,p,true)):=by
     show _=_
     unfold l7;rw[if_neg (by simp),HD.out,M.sR _ _ _ (by omega)]
    go_wp2_with fail
    go_ret
    rw[HF.out]
    exact ⟨rfl,w9 hg' _ _,hrd'.put2 _⟩
  ·have hd1:decide ((p:Int)+k<(s.size:Int))=false:=decide_eq_false (by omega)
   go_wp2_with fail
   go_quiet (fail)
   have hrd':Rd 149 b s p false (wr.drewN nq):=hrd
   have hg':w.grownBy (wr.drewN nq) (some b):=y7 hg
   clear hrd hg h0 h1 h2
   generalize wr.drewN nq=wt at *
   have h2:=hrd'.c2
   have f2:=hrd'.fz 2
   have HF:Hid (l7 s p false=(0,p,true)):=by
    show _=_
    unfold l7
    have e1:s.data.toList.length=s.size:=Array.length_toList
    rw[if_neg (by simp),HD.out,List.drop_drop,List.drop_of_length_le (by omega)]
    rfl
   go_wp2_with fail
   go_ret
   rw[HF.out]
   exact ⟨rfl,w9 hg' _ _,hrd'.put2 _⟩
theorem qD (b:Nat) (s:ByteArray) (p:Nat) (w:World) (h:Rd 149 b s p true w) :
  Calls prog 93 #[.pointer (some ⟨b,0,none⟩)] w fun e w'=>e=.returned (.int .i64 0)/\w.grownBy w' (some b)/\Rd 149 b s p true w':=by
 have h2:=h.c2
 go_enter func93,ntmps93
 go_wp2_with fail
 refine wp_loop_rounds 1 ?_
 rw[rounds_succ]
 go_wp2_with fail
 go_quiet (fail)
 have hrd':Rd 149 b s p true (w.drewN nq):=h
 have hg':w.grownBy (w.drewN nq) (some b):=y7 (B0 _ _)
 clear h2
 generalize w.drewN nq=wt at *
 have h2:=hrd'.c2
 have f2:=hrd'.fz 2
 go_wp2_with fail
 go_ret
 exact ⟨rfl,w9 hg' _ _,hrd'.put2 _⟩
theorem oZ (b:Nat) (s:ByteArray) (p:Nat) (f:Bool) (w:World) (h:Rd 149 b s p f w) (hs:s.size<=1000000000000000000) (hp:p<=s.size) :
  Calls prog 93 #[.pointer (some ⟨b,0,none⟩)] w fun e w'=>e=.returned (.int .i64 (l7 s p f).1)/\w.grownBy w' (some b)/\Rd 149 b s (l7 s p f).2.1 (l7 s p f).2.2 w':=by
 cases f with
 |true=>exact qD b s p w h
 |false=>exact Iw b s p w h hs hp
theorem wZ (b:Nat) (s:ByteArray) (p:Nat) (f:Bool) (w:World) (h:Rd 149 b s p f w) (hs:s.size<=1000000000000000000) (hp:p<=s.size) :
  Calls prog 91 #[.pointer (some ⟨b,0,none⟩)] w fun e w'=>e=.returned (.string (y5 s p f).1)/\w.grownBy w' (some b)/\Rd 149 b s (y5 s p f).2.1 (y5 s p f).2.2 w':=by
 have hle:=Y0 s p f hp
 have h1:=h.c1
 go_enter func91,ntmps91
 go_wp2_with fail
 refine (oZ b s p f _ h hs hp).mono ?_
 rintro e x1 ⟨rfl,g1,r1⟩
 clear h1
 go_wp2_with fail
 refine (jA b s _ _ _ _ r1 hs hle).mono ?_
 rintro e x2 ⟨rfl,g2,r2⟩
 have e2:=r2.c2
 have e1:=r2.fz 1
 have e3:=r2.c1
 have HT:Hid (y5 s p f=if (l5 s (l7 s p f).2.1 (l7 s p f).2.2 (l7 s p f).1).2.2=true then (⟨#[]⟩,p,true) else ((l5 s (l7 s p f).2.1 (l7 s p f).2.2 (l7 s p f).1).1,(l5 s (l7 s p f).2.1 (l7 s p f).2.2 (l7 s p f).1).2.1,false)):=rfl
 generalize l5 s (l7 s p f).2.1 (l7 s p f).2.2 (l7 s p f).1=t at *
 obtain ⟨t1,t2,t3⟩:=t
 simp only at *
 cases t3 with
 |true=>
  go_wp2_with fail
  go_ret
  rw[HT.out]
  exact ⟨rfl,w9 (L6 g1 g2) _ _,r2.put1 _⟩
 |false=>
  go_wp2_with fail
  go_ret
  rw[HT.out]
  exact ⟨rfl,L6 g1 g2,r2⟩
end Oct
end
section
namespace Ab
abbrev wW (s:ByteArray) (p:Nat) (f:Bool):n6:=⟨[.v (.string s),.v (.int .i64 (p:Int)),.v (.bool f)],149⟩
theorem a6r {β:Bt} {x:World} {b:Nat} {s:ByteArray} {p:Nat} {f:Bool} (h:y9 β x b (wW s p f)):Oct.Rd 149 b s p f x:=by
 rcases h with (⟨h,_⟩|⟨h,_⟩)|⟨ys,zs,h1,h2,_⟩
 ·cases h
 ·cases h
 have:ys=[.string s,.int .i64 (p:Int),.bool f]:=(I1 (ys:=[.string s,.int .i64 (p:Int),.bool f]) rfl β ys).1 h2
 subst this
 exact ⟨zs,h1⟩
theorem b1m {β:Bt} {x:World} {b:Nat} {s:ByteArray} {p:Nat} {f:Bool} (h:Oct.Rd 149 b s p f x):y9 β x b (wW s p f):=by
 obtain ⟨zs,h⟩:=h
 exact .inr ⟨_,zs,h,⟨⟨rfl,rfl⟩,⟨rfl,rfl⟩,⟨rfl,rfl⟩,trivial⟩,trivial⟩
theorem sZ {F id n:Nat} (hent:j6 prog F) {s:ByteArray} {p p':Nat} {f f':Bool} {ar:List SV} {vals:List Value} {v:SV} {y:Value} (ha:Ra ar=some vals) (hv:v.pl=some y)
  (h:∀b w,Oct.Rd 149 b s p f w->Calls prog F (.pointer (some ⟨b,0,none⟩)::vals).toArray w fun e w'=>e=.returned y/\w.grownBy w' (some b)/\Oct.Rd 149 b s p' f' w') :
  f4 prog F (.c (.l (.p id 0))::ar) [(id,wW s p f)] n v [(id,wW s p' f')] 0:=by
 refine ⟨hent,fun β x vs hvs hinj hlt hnew hH _=>?_⟩
 match vs,hvs with
 |q::vs,⟨hq,hr⟩=>
  obtain ⟨b,hb,rfl⟩:=hq
  have hvs:=(U9 ha β vs).1 hr
  subst hvs
  refine (h b x (a6r (hH id b _ hb (o5 _ _ _)))).mono ?_
  rintro e x' ⟨rfl,hg,hr'⟩
  refine ⟨y,β,rfl,⟨(SV.pl_iff hv β y).2 rfl,Ext.refl β,fun i c hc=>.inl hc,fun i c hc=>.inl hc,hinj,fun i c hc=>Nat.lt_of_lt_of_le (hlt i c hc) hg.size,hg.os,hg.tape,hg.output,hg.size,fun k hk hne=>hg.block k hk (fun e=>?_),fun i c k hc hk=>?_⟩⟩
  ·have e:k=b:=by simpa using e
   subst e
   have:=hne id hb
   rw[o5] at this;cases this
  ·have hi:i=id:=by
    have:=M3 hk
    simp only[List.mem_singleton,Prod.mk.injEq] at this;exact this.1
   subst hi
   rw[o5] at hk
   cases hk
   rw[hb] at hc
   cases hc
   exact b1m hr'
end Ab
end
end Go.Proofs.YtpdckpifhniioaaGreat
