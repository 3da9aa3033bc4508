/- Part 10 of what CodecOpens rests on. -/
import Derived.WalkKit
import Derived.ProofKit
import Derived.OpenShut
import Derived.SliceStrings
import Derived.SizedLaws
import Derived.Test.YtpdckpifhniioaaGreatWi
open Go.Proofs.Tryz
set_option maxRecDepth 100000
set_option maxHeartbeats 8000000
set_option linter.unusedVariables false
set_option linter.unusedSimpArgs false
namespace Go.Proofs.YtpdckpifhniioaaGreat
open Go.RowKit
section
namespace Ab
attribute [local irreducible] j8
def b8 (z:Int):UInt8:=UInt8.ofNat (z % 256).toNat
def dQ (q3:Int):Bool:=o6 q3 4==0
def eA (q3:Int):Bool:=o6 q3 4==1
def Q9 (p:ByteArray) (n:Int):ByteArray:=p.extract 0 n.toNat
def gS (q2 q3:Int) (p:ByteArray):ByteArray:=bif dQ q3 then vQ p (o6 q2 p.size).toNat (b8 (q3.tdiv 4)) else bif eA q3 then Q9 p (o6 q2 (p.size+1)) else p
def kW (s:List Int) (q0:Int):Nat:=(o6 q0 (C0 s (F2 s)).length).toNat
def u5 (s:List Int) (q0:Int):EN:=pO (r8 (C0 s (F2 s)) (kW s q0))
def v9 (s:List Int) (q0:Int) (e:EN):List EN:=(LM s).set (kW s q0) e
theorem sY (z:Int):IntKind.u8.wrap z=((b8 z).toNat:Nat):=by
 rw[To]
 unfold b8
 rw[UInt8.toNat_ofNat']
 omega
theorem w4 {z:Int} (h : -9223372036854775808<=z/\z<=9223372036854775807):IntKind.i64.wrap (z.tdiv 4)=z.tdiv 4:=by
 have e:(z.tdiv 4).natAbs=z.natAbs / 4:=Int.natAbs_tdiv z 4
 exact C2 _ (by omega) (by omega)
theorem E5 {x n:Int} (h0:0<n) (h1:n<=1000000000):0<=o6 x n/\o6 x n<n:=⟨(cQ h0 h1).1,(cQ h0 h1).2.1⟩
theorem J1 {s:List Int} (q0:Int) (h:0<(C0 s (F2 s)).length):kW s q0<(C0 s (F2 s)).length/\0<=o6 q0 (C0 s (F2 s)).length/\o6 q0 (C0 s (F2 s)).length<(C0 s (F2 s)).length:=by
 have h4:=G3 s
 have hk:=E5 (x:=q0) (n:=((C0 s (F2 s)).length:Nat)) (by omega) (by omega)
 unfold kW;omega
theorem Mp {s:List Int} (q0:Int) (h:0<(C0 s (F2 s)).length):ea (LM s) (kW s q0)=u5 s q0:=Z6 (J1 q0 h).1
theorem Nf (b:ByteArray) {i j:Nat} (v:UInt8) (e:j=i):j4 (A0 b) j [ub v]=A0 (vQ b i v):=by
 subst e
 show (A0 b).set j (ub v)=_
 unfold A0 vQ
 rw[<-List.map_set]
theorem W6 (b:ByteArray) (n:Nat):G1 (List.take n (List.drop 0 (A0 b))):=fun x hx=>zJ b x (List.mem_of_mem_drop (List.mem_of_mem_take hx))
theorem X3 (b:ByteArray) {n:Nat} (h:n=b.size):D4 (List.take n (List.drop 0 (A0 b)))=b:=by
 subst h
 rw[List.drop_zero,List.take_of_length_le (by rw[q8];exact Nat.le_refl _)]
 exact kI _
theorem R3 (b:ByteArray) (i:Nat) (v:UInt8) {j:Nat} (e:j=i) (n:Nat):G1 (List.take n (List.drop 0 (j4 (A0 b) j [ub v]))):=by rw[Nf b v e];exact W6 _ _
theorem X4 (b:ByteArray) (i:Nat) (v:UInt8) {j n:Nat} (e:j=i) (h:n=b.size):D4 (List.take n (List.drop 0 (j4 (A0 b) j [ub v])))=vQ b i v:=by
 rw[Nf b v e];exact X3 _ (by rw[nY];exact h)
theorem S0 (b:ByteArray) (z:Int) {n:Nat} (h:n=z.toNat):D4 (List.take n (List.drop 0 (A0 b)))=Q9 b z:=by
 subst h
 have e:A0 (Q9 b z)=List.take z.toNat (A0 b):=by
  unfold A0 Q9
  rw[ByteArray.data_extract,Array.toList_extract,List.extract_eq_take_drop,List.drop_zero,Nat.sub_zero,List.map_take]
 rw[List.drop_zero,<-e];exact kI _
theorem tK {q2 q3:Int} {p:ByteArray} (h:dQ q3=true):vQ p (o6 q2 p.size).toNat (b8 (q3.tdiv 4))=gS q2 q3 p:=by unfold gS;rw[h];rfl
theorem vE {q2 q3:Int} {p:ByteArray} (h:dQ q3=false) (k:eA q3=true):Q9 p (o6 q2 (p.size+1))=gS q2 q3 p:=by unfold gS;rw[h,k];rfl
theorem tL {q2 q3:Int} {p:ByteArray} (h:dQ q3=false) (k:eA q3=false):p=gS q2 q3 p:=by unfold gS;rw[h,k];rfl
theorem dK {L:List EN} (g:GoodW L):2<=(n9 L).size/\(n9 L).size<=100000000:=by
 have h1:=tH L L.length
 have h2:=lI g _ (Nat.le_refl _)
 have h3:=g.len
 have h4:=Dv (lU L L.length) (by omega)
 unfold n9
 simp only[ByteArray.size_append,kX,sz4]
 have e2:(⟨#[71,1]⟩:ByteArray).size=2:=rfl
 omega
theorem nR (s:List Int) (g:GoodW (LM s)) (id n:Nat) (hi:id<n):f4 prog 21 [.c (.l (.o id (C0 s (F2 s)).length))] [(id,⟨o4 (LM s),.r 59 8 id⟩)] n (.c (.l (.v (.string (n9 (LM s)))))) [] 0:=by
 rw[<-K7 s];exact oM _ g id n hi
theorem I5 (s:List Int) (id n:Nat) (hi:id<n):f4 prog 20 [.c (.agg [.o id (C0 s (F2 s)).length])] [(id,⟨n8 (C0 s (F2 s)),.r 42 258 id⟩)] n (.c (.l (.o n (C0 s (F2 s)).length))) [(n,⟨o4 (LM s),.r 59 8 n⟩)] 1:=xR (C0 s (F2 s)) (cJ s) id n hi
attribute [local irreducible] tl n8 C0 LM n9 gS
theorem qG {x:Leaf} {p m:Nat} {s:List Int} {A:List SV} {c:Bool} (hx:G4 x p s) (h:(Q8 (.u::A) [(0,⟨[],.q⟩)] 1 m [] []&&c)=true):(Q8 (.c (.l x)::A) [(0,⟨J8 p s,.q⟩)] 1 m [] []&&c)=true:=by
 rw[<-h]
 unfold Q8
 simp only[List.all_cons,hx.lt,List.length_cons,show vL 1 .u=true from rfl,show L4 1 ⟨[],.q⟩=true from rfl,gW (E9 p s) (show (BT.rn (x8 1 0 []) (.q)).isSome=true from rfl)]
def tR (s:List Int):Rw:=some fun _ _S=>fun | [.c (.l _)]=>some {v:=.c (.agg [.o _S.n (C0 s (F2 s)).length]),rd:=[0],wr:=[(_S.n,⟨n8 (C0 s (F2 s)),.r 42 258 _S.n⟩)],nw:=1}|_=>none
def uC (s:List Int):Rw:=some fun _ _S=>fun | [.c (.agg [.o i _])]=>some {v:=.c (.l (.o _S.n (C0 s (F2 s)).length)),rd:=[i],wr:=[(_S.n,⟨o4 (LM s),.r 59 8 _S.n⟩)],nw:=1}|_=>none
def c0k (s:List Int):Rw:=some fun _ _=>fun | [.c (.l (.o i _))]=>some {v:=.c (.l (.v (.string (n9 (LM s))))),rd:=[i]}|_=>none
def Rm (x:Leaf) (p:Nat) (s:List Int) (q0 q1 q2 q3:Int):Cz:={
 ct:=(fun f=>match f with
 |11=>tR s
 |14=>some fun _ _=>fun | [.c (.l (.v (.int _ x))),.c (.l (.v (.int _ n)))]=>some {v:=iv .i64 (o6 x n)}|_=>none
 |20=>uC s
 |21=>c0k s
 |_=>none)
 sym:=[0,131,147,157,159],nf:=[(15,bv true),(23,iv .i64 7),(136,bv (dQ q3)),(149,bv (eA q3)),(146,.c (.l (ub (b8 (q3.tdiv 4)))))],wh:=[69,26]}
theorem b7r (x:Leaf) (p:Nat) (s:List Int) (q0 q1 q2 q3:Int) (hx:G4 x p s) (hq3 : -9223372036854775808<=q3/\q3<=9223372036854775807) (hl:0<(C0 s (F2 s)).length) (hm:o6 q1 8=7) (hw:GoodW (LM s)):f4 prog 34 [.c (.l x),ag [li q0,li q1,li q2,li q3]] [(0,⟨J8 p s,.q⟩)] 1 (.c (.l (.v (.string (gS q2 q3 (n9 (LM s))))))) [] 0:=by
 have hlen:=G3 s
 have hwz:=dK hw
 have hr1:=E5 (x:=q2) (n:=(((n9 (LM s)).size:Nat):Int)) (by omega) (by omega)
 have hr2:=E5 (x:=q2) (n:=(((n9 (LM s)).size:Nat):Int)+1) (by omega) (by omega)
 refine E3 (q:=let a:=C0 s (F2 s);let b:=[Leaf.o 2 a.length];let d:=[(2,o8 (n8 a) 42 258 2)];let e:=Leaf.o 3 a.length;let f:=[(3,o8 (o4 (LM s)) 59 8 3)];let g:=(Nat.cast (a.length):Int);let h:=i8 (o6 q1 8);let i:=n9 (LM s);let j:=(Nat.cast (i.size):Int);let k:=o6 q2 j;let m:=q3.tdiv 4;let n:=(Nat.cast ((b8 m).toNat):Int);let t:=A0 i;let u:=j4 t (0+k.toNat*1) [l8 n];let w:=List.take i.size (List.drop 0 u);let y:=l4 (l9 (gS q2 q3 i));let z:=j+1;let A:=o6 q2 z-0;Kd 11 [] [l4 x] [(0,n6.mk (J8 p s) BT.q)] 2 (ag b) d 1/\Kd 20 [] [ag b] d 3 (l4 e) f 1/\Le (bv (decide (g>0))) (bv true)/\Kd 14 [] [i8 q0,i8 g] [] 4 (i8 (o6 q0 g)) [] 0/\Kd 14 [] [i8 q1,i8 8] [] 4 h [] 0/\Le h (i8 7)/\Kd 21 [] [l4 e] f 4 (l4 (l9 i)) [] 0/\Kd 14 [] [i8 q3,i8 4] [] 5 (i8 (o6 q3 4)) [] 0/\Le (bv (o6 q3 4==0)) (bv (dQ q3))/\HB (dQ q3) (Kd 14 [] [i8 q2,i8 j] [] 5 (i8 k) [] 0/\(4:Int)≠0/\IntKind.i64.wrap m=q3.tdiv 4/\Le (iv .u8 (IntKind.u8.wrap m)) (iv .u8 n)/\t0 k i.size/\0+k.toNat*1+1<=t.length/\0+i.size<=u.length/\G1 w/\Le (l4 (l9 (D4 w))) y/\True) (Le (bv (o6 q3 4==1)) (bv (eA q3))/\HB (eA q3) (IntKind.i64.wrap z=j+1/\Kd 14 [] [i8 q2,i8 z] [] 5 (i8 (o6 q2 z)) [] 0/\pR 0 (o6 q2 z) j/\0+A.toNat<=t.length/\G1 (List.take A.toNat t)/\Le (l4 (l9 (D4 (List.take A.toNat (List.drop 0 t))))) y/\True) (0+i.size<=t.length/\G1 (List.take i.size t)/\Le (l4 (l9 (D4 (List.take i.size (List.drop 0 t))))) y/\True))) (Rm x p s q0 q1 q2 q3) [] func34 (qG hx (by kernel_rfl)) (by kernel_rfl) ?_
 with_reducible repeat' first|exact trivial|apply And.intro|apply HB.mk|intro _
 all_goals first|exact M6 hx _ (by omega)|(with_reducible refine Iu _ _ ?_ ?_ _)<;>omega|exact I5 s _ _ (by omega)|exact nR s hw _ _ (by omega)|exact Le.bool rfl|with_reducible exact Le.int hm|refine Le.bool (decide_eq_true ?_);omega|with_reducible exact Le.int (sY _)|(exact ⟨by omega,by omega⟩)|rw[q8];omega|unfold pR;omega|rw[q8];omega|exact w4 hq3|rw[u4,q8];omega|exact R3 _ _ _ rfl _|exact W6 _ _|refine Le.of ?_;rw[X4 _ (o6 q2 (n9 (LM s)).size).toNat _ (by omega) (by omega),tK (by with_reducible assumption)];done|refine Le.of ?_;rw[S0 _ (o6 q2 ((n9 (LM s)).size+1)) (by omega),vE (by with_reducible assumption) (by with_reducible assumption)];done|exact Le.of (congrArg (fun s=>SV.c (.l (.v (.string s)))) ((X3 _ rfl).trans (tL (by with_reducible assumption) (by with_reducible assumption))))|exact C2 _ (by omega) (by omega)|omega
theorem Ve (L:List EN) (E:EN) (v:Leaf) {k j z:Nat} (hk:k<L.length) (hj:j<8) (ez:z=k*8+j) (he:(en (ea L k)).set j v=en E):j4 (o4 L) z [v]=o4 (L.set k E):=by
 subst ez
 show (o4 L).set _ _=_
 induction L generalizing k with
 |nil=>exact absurd hk (Nat.not_lt_zero k)
 |cons a L ih=>
  have e1:∀(a:EN) (A:List EN),o4 (a::A)=en a++o4 A:=fun a A=>rfl
  cases k with
  |zero=>
   rw[List.set_cons_zero,e1,e1,List.set_append_left _ _ (by show _<8;omega),show 0*8+j=j by omega]
   exact congrArg (·++o4 L) he
  |succ k=>
   have h:=ih (k:=k) (by simpa using hk) he
   rw[List.set_cons_succ,e1,e1]
   rw[List.set_append_right _ _ (by show 8<=_;omega),show (k+1)*8+j-(en a).length=k*8+j by show (k+1)*8+j-8=_;omega]
   exact congrArg (en a++·) h
theorem oI {s:List Int} (q0:Int) (hl:0<(C0 s (F2 s)).length) (E:EN) (v:Leaf) (j:Nat) (hj:j<8) {z:Nat} (ez:z=kW s q0*8+j) (he:(en (u5 s q0)).set j v=en E):j4 (o4 (LM s)) z [v]=o4 (v9 s q0 E):=
 Ve (LM s) E v (by rw[K7];exact (J1 q0 hl).1) hj ez (by rw[Mp q0 hl];exact he)
theorem K6 {s:List Int} {q0:Int} {E:EN} (g:GoodW (v9 s q0 E)) {cs:List Leaf} (hc:cs=o4 (v9 s q0 E)) (id n:Nat) (hi:id<n):f4 prog 21 [.c (.l (.o id (C0 s (F2 s)).length))] [(id,⟨cs,.r 59 8 id⟩)] n (.c (.l (.v (.string (n9 (v9 s q0 E)))))) [] 0:=by
 subst hc
 have e:(C0 s (F2 s)).length=(v9 s q0 E).length:=by unfold v9;rw[List.length_set,K7]
 rw[e];exact oM _ g id n hi
theorem a9o {s:List Int} (q0:Int) (hl:0<(C0 s (F2 s)).length) {z:Nat} (e:z=kW s q0*8+7):SV.c (.l ((o4 (LM s)).getD z .u))=.c (.l (.v (.string (u5 s q0).blob))):=by
 rw[<-Mp q0 hl];exact Mf (by rw[K7];exact (J1 q0 hl).1) e
theorem d1g {s:List Int} (q0:Int) (hl:0<(C0 s (F2 s)).length) {z:Nat} (e:z=kW s q0*8+6):SV.c (.l ((o4 (LM s)).getD z .u))=.c (.l (li (u5 s q0).sum)):=by
 rw[<-Mp q0 hl];exact Pr (by rw[K7];exact (J1 q0 hl).1) e
theorem c9o {L:List EN} {k z:Nat} (hk:k<L.length) (e:z=k*8+2):SV.c (.l ((o4 L).getD z .u))=.c (.l (ub (ea L k).a)):=by
 subst e
 obtain ⟨m,hm⟩:=M1 L k hk
 rw[List.getD_eq_getElem?_getD,<-List.getElem?_drop,hm];rfl
theorem a_W {s:List Int} (q0:Int) (hl:0<(C0 s (F2 s)).length) {z:Nat} (e:z=kW s q0*8+2):SV.c (.l ((o4 (LM s)).getD z .u))=.c (.l (ub (u5 s q0).a)):=by
 rw[<-Mp q0 hl];exact c9o (by rw[K7];exact (J1 q0 hl).1) e
theorem dL {s:List Int} (q0:Int) (hl:0<(C0 s (F2 s)).length):1<=(u5 s q0).blob.size/\(u5 s q0).blob.size<=257/\0<=(u5 s q0).sum/\(u5 s q0).sum<4294967296:=by
 have hb:=(xH (cJ s)).2 (kW s q0) (by rw[List.length_map];exact (J1 q0 hl).1)
 rw[Z6 (J1 q0 hl).1] at hb
 have hs:=G9 (D1 (r8 (C0 s (F2 s)) (kW s q0)).t)
 have e:(u5 s q0).sum=z7 (D1 (r8 (C0 s (F2 s)) (kW s q0)).t):=rfl
 rw[e]
 exact ⟨hb.1,hb.2,hs.1,by omega⟩
theorem b8f (a:UInt8):IntKind.u8.wrap (((a.toNat:Nat):Int)+1)=((a+1).toNat:Nat):=Eu a 1
theorem B4 (s:List Int) (q0:Int):(o6 q0 (C0 s (F2 s)).length).toNat=kW s q0:=rfl
def Qk (x:Leaf) (p:Nat) (s:List Int) (q0 q1 q2 q3:Int):Cz:={
 ct:=(fun f=>match f with
 |11=>tR s
 |14=>some fun _ _=>fun | [.c (.l (.v (.int _ x))),.c (.l (.v (.int _ n)))]=>some {v:=iv .i64 (o6 x n)}|_=>none
 |20=>uC s
 |21=>some fun _ _=>fun | [.c (.l (.o i _))]=>some {v:=.c (.l (.v (.string (n9 (v9 s q0 {u5 s q0 with X:=q2.tmod 9000}))))),rd:=[i]}|_=>none
 |_=>none)
 sym:=[0,131,147,157,159,31,32,33],nf:=[(15,bv true),(23,iv .i64 0),(136,bv (dQ q3)),(149,bv (eA q3)),(146,.c (.l (ub (b8 (q3.tdiv 4)))))],wh:=[69,26]}
theorem c6q (x:Leaf) (p:Nat) (s:List Int) (q0 q1 q2 q3:Int) (hx:G4 x p s) (hq3 : -9223372036854775808<=q3/\q3<=9223372036854775807) (hl:0<(C0 s (F2 s)).length) (hm:o6 q1 8=0) (hw:GoodW (v9 s q0 {u5 s q0 with X:=q2.tmod 9000})):f4 prog 34 [.c (.l x),ag [li q0,li q1,li q2,li q3]] [(0,⟨J8 p s,.q⟩)] 1 (.c (.l (.v (.string (gS q2 q3 (n9 (v9 s q0 {u5 s q0 with X:=q2.tmod 9000}))))))) [] 0:=by
 have hlen:=G3 s
 have hwz:=dK hw
 have hr1:=E5 (x:=q2) (n:=(((n9 (v9 s q0 {u5 s q0 with X:=q2.tmod 9000})).size:Nat):Int)) (by omega) (by omega)
 have hr2:=E5 (x:=q2) (n:=(((n9 (v9 s q0 {u5 s q0 with X:=q2.tmod 9000})).size:Nat):Int)+1) (by omega) (by omega)
 refine E3 (q:=let e:=C0 s (F2 s);let f:=[Leaf.o 2 e.length];let g:=[(2,o8 (n8 e) 42 258 2)];let h:=Leaf.o 3 e.length;let i:=o4 (LM s);let j:=(Nat.cast (e.length):Int);let k:=o6 q0 j;let m:=i8 (o6 q1 8);let n:=q2.tmod 9000;let t:=(n9 (v9 s q0 (have __src:=u5 s q0;EN.mk n __src.Y __src.a __src.b __src.c __src.d __src.sum __src.blob)));let u:=(Nat.cast (t.size):Int);let w:=o6 q2 u;let y:=q3.tdiv 4;let z:=(Nat.cast ((b8 y).toNat):Int);let A:=A0 t;let B:=j4 A (0+w.toNat*1) [l8 z];let C:=List.take t.size (List.drop 0 B);let D:=(l4 (l9 (gS q2 q3 (n9 (v9 s q0 (let __src:=u5 s q0;EN.mk n __src.Y __src.a __src.b __src.c __src.d __src.sum __src.blob))))));let E:=u+1;let G:=o6 q2 E-0;Kd 11 [] [l4 x] [(0,n6.mk (J8 p s) BT.q)] 2 (ag f) g 1/\Kd 20 [] [ag f] g 3 (l4 h) [(3,o8 i 59 8 3)] 1/\Le (bv (decide (j>0))) (bv true)/\Kd 14 [] [i8 q0,i8 j] [] 4 (i8 k) [] 0/\Kd 14 [] [i8 q1,i8 8] [] 4 m [] 0/\Le m (i8 0)/\(9000:Int)≠0/\t0 k e.length/\k.toNat*8+0+0+1<=i.length/\Kd 21 [] [l4 h] [(3,o8 (j4 i (k.toNat*8+0+0) [li n]) 59 8 3)] 4 (l4 (l9 t)) [] 0/\Kd 14 [] [i8 q3,i8 4] [] 5 (i8 (o6 q3 4)) [] 0/\Le (bv (o6 q3 4==0)) (bv (dQ q3))/\HB (dQ q3) (Kd 14 [] [i8 q2,i8 u] [] 5 (i8 w) [] 0/\(4:Int)≠0/\IntKind.i64.wrap y=q3.tdiv 4/\Le (iv .u8 (IntKind.u8.wrap y)) (iv .u8 z)/\t0 w t.size/\0+w.toNat*1+1<=A.length/\0+t.size<=B.length/\G1 C/\Le (l4 (l9 (D4 C))) D/\True) (Le (bv (o6 q3 4==1)) (bv (eA q3))/\HB (eA q3) (IntKind.i64.wrap E=u+1/\Kd 14 [] [i8 q2,i8 E] [] 5 (i8 (o6 q2 E)) [] 0/\pR 0 (o6 q2 E) u/\0+G.toNat<=A.length/\G1 (List.take G.toNat A)/\Le (l4 (l9 (D4 (List.take G.toNat (List.drop 0 A))))) D/\True) (0+t.size<=A.length/\G1 (List.take t.size A)/\Le (l4 (l9 (D4 (List.take t.size (List.drop 0 A))))) D/\True))) (Qk x p s q0 q1 q2 q3) [] func34 (qG hx (by kernel_rfl)) (by kernel_rfl) ?_
 with_reducible repeat' first|exact trivial|apply And.intro|apply HB.mk|intro _
 all_goals first|exact M6 hx _ (by omega)|(with_reducible refine Iu _ _ ?_ ?_ _)<;>omega|exact I5 s _ _ (by omega)|exact K6 hw (oI q0 hl _ _ 0 (by decide) (by have hk:=B4 s q0;omega) rfl) _ _ (by omega)|(have hk:=B4 s q0;have hk2:=J1 q0 hl;exact ⟨by omega,by omega⟩)|have hk:=B4 s q0;have hk2:=J1 q0 hl;rw[y6,K7];omega|exact Le.bool rfl|with_reducible exact Le.int hm|refine Le.bool (decide_eq_true ?_);omega|with_reducible exact Le.int (sY _)|(exact ⟨by omega,by omega⟩)|rw[q8];omega|unfold pR;omega|rw[q8];omega|exact w4 hq3|rw[u4,q8];omega|exact R3 _ _ _ rfl _|exact W6 _ _|refine Le.of ?_;rw[X4 _ (o6 q2 (n9 (v9 s q0 {u5 s q0 with X:=q2.tmod 9000})).size).toNat _ (by omega) (by omega),tK (by with_reducible assumption)];done|refine Le.of ?_;rw[S0 _ (o6 q2 ((n9 (v9 s q0 {u5 s q0 with X:=q2.tmod 9000})).size+1)) (by omega),vE (by with_reducible assumption) (by with_reducible assumption)];done|exact Le.of (congrArg (fun s=>SV.c (.l (.v (.string s)))) ((X3 _ rfl).trans (tL (by with_reducible assumption) (by with_reducible assumption))))|exact C2 _ (by omega) (by omega)|omega
def Qm (x:Leaf) (p:Nat) (s:List Int) (q0 q1 q2 q3:Int):Cz:={
 ct:=(fun f=>match f with
 |11=>tR s
 |14=>some fun _ _=>fun | [.c (.l (.v (.int _ x))),.c (.l (.v (.int _ n)))]=>some {v:=iv .i64 (o6 x n)}|_=>none
 |20=>uC s
 |21=>some fun _ _=>fun | [.c (.l (.o i _))]=>some {v:=.c (.l (.v (.string (n9 (v9 s q0 {u5 s q0 with Y:=o6 q2 9}))))),rd:=[i]}|_=>none
 |_=>none)
 sym:=[0,131,147,157,159,41,42,43],nf:=[(15,bv true),(23,iv .i64 1),(136,bv (dQ q3)),(149,bv (eA q3)),(146,.c (.l (ub (b8 (q3.tdiv 4)))))],wh:=[69,26]}
theorem b8i (x:Leaf) (p:Nat) (s:List Int) (q0 q1 q2 q3:Int) (hx:G4 x p s) (hq3 : -9223372036854775808<=q3/\q3<=9223372036854775807) (hl:0<(C0 s (F2 s)).length) (hm:o6 q1 8=1) (hw:GoodW (v9 s q0 {u5 s q0 with Y:=o6 q2 9})):f4 prog 34 [.c (.l x),ag [li q0,li q1,li q2,li q3]] [(0,⟨J8 p s,.q⟩)] 1 (.c (.l (.v (.string (gS q2 q3 (n9 (v9 s q0 {u5 s q0 with Y:=o6 q2 9}))))))) [] 0:=by
 have hlen:=G3 s
 have hwz:=dK hw
 have hr1:=E5 (x:=q2) (n:=(((n9 (v9 s q0 {u5 s q0 with Y:=o6 q2 9})).size:Nat):Int)) (by omega) (by omega)
 have hr2:=E5 (x:=q2) (n:=(((n9 (v9 s q0 {u5 s q0 with Y:=o6 q2 9})).size:Nat):Int)+1) (by omega) (by omega)
 refine E3 (q:=let e:=C0 s (F2 s);let f:=[Leaf.o 2 e.length];let g:=[(2,o8 (n8 e) 42 258 2)];let h:=Leaf.o 3 e.length;let i:=o4 (LM s);let j:=(Nat.cast (e.length):Int);let k:=o6 q0 j;let m:=i8 (o6 q1 8);let n:=o6 q2 9;let t:=(n9 (v9 s q0 (have __src:=u5 s q0;EN.mk __src.X n __src.a __src.b __src.c __src.d __src.sum __src.blob)));let u:=(Nat.cast (t.size):Int);let w:=o6 q2 u;let y:=q3.tdiv 4;let z:=(Nat.cast ((b8 y).toNat):Int);let A:=A0 t;let B:=j4 A (0+w.toNat*1) [l8 z];let C:=List.take t.size (List.drop 0 B);let D:=(l4 (l9 (gS q2 q3 (n9 (v9 s q0 (let __src:=u5 s q0;EN.mk __src.X n __src.a __src.b __src.c __src.d __src.sum __src.blob))))));let E:=u+1;let G:=o6 q2 E-0;Kd 11 [] [l4 x] [(0,n6.mk (J8 p s) BT.q)] 2 (ag f) g 1/\Kd 20 [] [ag f] g 3 (l4 h) [(3,o8 i 59 8 3)] 1/\Le (bv (decide (j>0))) (bv true)/\Kd 14 [] [i8 q0,i8 j] [] 4 (i8 k) [] 0/\Kd 14 [] [i8 q1,i8 8] [] 4 m [] 0/\Le m (i8 1)/\Kd 14 [] [i8 q2,i8 9] [] 4 (i8 n) [] 0/\t0 k e.length/\k.toNat*8+0+1+1<=i.length/\Kd 21 [] [l4 h] [(3,o8 (j4 i (k.toNat*8+0+1) [li n]) 59 8 3)] 4 (l4 (l9 t)) [] 0/\Kd 14 [] [i8 q3,i8 4] [] 5 (i8 (o6 q3 4)) [] 0/\Le (bv (o6 q3 4==0)) (bv (dQ q3))/\HB (dQ q3) (Kd 14 [] [i8 q2,i8 u] [] 5 (i8 w) [] 0/\(4:Int)≠0/\IntKind.i64.wrap y=q3.tdiv 4/\Le (iv .u8 (IntKind.u8.wrap y)) (iv .u8 z)/\t0 w t.size/\0+w.toNat*1+1<=A.length/\0+t.size<=B.length/\G1 C/\Le (l4 (l9 (D4 C))) D/\True) (Le (bv (o6 q3 4==1)) (bv (eA q3))/\HB (eA q3) (IntKind.i64.wrap E=u+1/\Kd 14 [] [i8 q2,i8 E] [] 5 (i8 (o6 q2 E)) [] 0/\pR 0 (o6 q2 E) u/\0+G.toNat<=A.length/\G1 (List.take G.toNat A)/\Le (l4 (l9 (D4 (List.take G.toNat (List.drop 0 A))))) D/\True) (0+t.size<=A.length/\G1 (List.take t.size A)/\Le (l4 (l9 (D4 (List.take t.size (List.drop 0 A))))) D/\True))) (Qm x p s q0 q1 q2 q3) [] func34 (qG hx (by kernel_rfl)) (by kernel_rfl) ?_
 with_reducible repeat' first|exact trivial|apply And.intro|apply HB.mk|intro _
 all_goals first|exact M6 hx _ (by omega)|(with_reducible refine Iu _ _ ?_ ?_ _)<;>omega|exact I5 s _ _ (by omega)|exact K6 hw (oI q0 hl _ _ 1 (by decide) (by have hk:=B4 s q0;omega) rfl) _ _ (by omega)|(have hk:=B4 s q0;have hk2:=J1 q0 hl;exact ⟨by omega,by omega⟩)|have hk:=B4 s q0;have hk2:=J1 q0 hl;rw[y6,K7];omega|exact Le.bool rfl|with_reducible exact Le.int hm|refine Le.bool (decide_eq_true ?_);omega|with_reducible exact Le.int (sY _)|(exact ⟨by omega,by omega⟩)|rw[q8];omega|unfold pR;omega|rw[q8];omega|exact w4 hq3|rw[u4,q8];omega|exact R3 _ _ _ rfl _|exact W6 _ _|refine Le.of ?_;rw[X4 _ (o6 q2 (n9 (v9 s q0 {u5 s q0 with Y:=o6 q2 9})).size).toNat _ (by omega) (by omega),tK (by with_reducible assumption)];done|refine Le.of ?_;rw[S0 _ (o6 q2 ((n9 (v9 s q0 {u5 s q0 with Y:=o6 q2 9})).size+1)) (by omega),vE (by with_reducible assumption) (by with_reducible assumption)];done|exact Le.of (congrArg (fun s=>SV.c (.l (.v (.string s)))) ((X3 _ rfl).trans (tL (by with_reducible assumption) (by with_reducible assumption))))|exact C2 _ (by omega) (by omega)|omega
def Ou (x:Leaf) (p:Nat) (s:List Int) (q0 q1 q2 q3:Int):Cz:={
 ct:=(fun f=>match f with
 |11=>tR s
 |14=>some fun _ _=>fun | [.c (.l (.v (.int _ x))),.c (.l (.v (.int _ n)))]=>some {v:=iv .i64 (o6 x n)}|_=>none
 |20=>uC s
 |21=>some fun _ _=>fun | [.c (.l (.o i _))]=>some {v:=.c (.l (.v (.string (n9 (v9 s q0 {u5 s q0 with sum:=(u5 s q0).sum+1}))))),rd:=[i]}|_=>none
 |_=>none)
 sym:=[0,131,147,157,159,50,51,52,54,55],nf:=[(15,bv true),(52,iv .i64 (u5 s q0).sum),(23,iv .i64 2),(136,bv (dQ q3)),(149,bv (eA q3)),(146,.c (.l (ub (b8 (q3.tdiv 4)))))],wh:=[69,26]}
theorem c4k (x:Leaf) (p:Nat) (s:List Int) (q0 q1 q2 q3:Int) (hx:G4 x p s) (hq3 : -9223372036854775808<=q3/\q3<=9223372036854775807) (hl:0<(C0 s (F2 s)).length) (hm:o6 q1 8=2) (hw:GoodW (v9 s q0 {u5 s q0 with sum:=(u5 s q0).sum+1})):f4 prog 34 [.c (.l x),ag [li q0,li q1,li q2,li q3]] [(0,⟨J8 p s,.q⟩)] 1 (.c (.l (.v (.string (gS q2 q3 (n9 (v9 s q0 {u5 s q0 with sum:=(u5 s q0).sum+1}))))))) [] 0:=by
 have hlen:=G3 s
 have hwz:=dK hw
 have hr1:=E5 (x:=q2) (n:=(((n9 (v9 s q0 {u5 s q0 with sum:=(u5 s q0).sum+1})).size:Nat):Int)) (by omega) (by omega)
 have hr2:=E5 (x:=q2) (n:=(((n9 (v9 s q0 {u5 s q0 with sum:=(u5 s q0).sum+1})).size:Nat):Int)+1) (by omega) (by omega)
 refine E3 (q:=let e:=C0 s (F2 s);let f:=[Leaf.o 2 e.length];let g:=[(2,o8 (n8 e) 42 258 2)];let h:=Leaf.o 3 e.length;let i:=o4 (LM s);let j:=(Nat.cast (e.length):Int);let k:=o6 q0 j;let m:=i8 (o6 q1 8);let n:=k.toNat*8+6;let t:=u5 s q0;let w:=t.sum+1;let y:=(n9 (v9 s q0 (have __src:=u5 s q0;EN.mk __src.X __src.Y __src.a __src.b __src.c __src.d w __src.blob)));let z:=(Nat.cast (y.size):Int);let A:=o6 q2 z;let B:=q3.tdiv 4;let C:=(Nat.cast ((b8 B).toNat):Int);let D:=A0 y;let E:=j4 D (0+A.toNat*1) [l8 C];let G:=List.take y.size (List.drop 0 E);let H:=(l4 (l9 (gS q2 q3 (n9 (v9 s q0 (let __src:=u5 s q0;EN.mk __src.X __src.Y __src.a __src.b __src.c __src.d w __src.blob))))));let I:=z+1;let J:=o6 q2 I-0;Kd 11 [] [l4 x] [(0,n6.mk (J8 p s) BT.q)] 2 (ag f) g 1/\Kd 20 [] [ag f] g 3 (l4 h) [(3,o8 i 59 8 3)] 1/\Le (bv (decide (j>0))) (bv true)/\Kd 14 [] [i8 q0,i8 j] [] 4 (i8 k) [] 0/\Kd 14 [] [i8 q1,i8 8] [] 4 m [] 0/\Le m (i8 2)/\t0 k e.length/\k.toNat*8+6<i.length/\Le (l4 (i.getD n Leaf.u)) (i8 t.sum)/\IntKind.i64.wrap w=t.sum+1/\t0 k e.length/\k.toNat*8+6+1<=i.length/\Kd 21 [] [l4 h] [(3,o8 (j4 i n [li w]) 59 8 3)] 4 (l4 (l9 y)) [] 0/\Kd 14 [] [i8 q3,i8 4] [] 5 (i8 (o6 q3 4)) [] 0/\Le (bv (o6 q3 4==0)) (bv (dQ q3))/\HB (dQ q3) (Kd 14 [] [i8 q2,i8 z] [] 5 (i8 A) [] 0/\(4:Int)≠0/\IntKind.i64.wrap B=q3.tdiv 4/\Le (iv .u8 (IntKind.u8.wrap B)) (iv .u8 C)/\t0 A y.size/\0+A.toNat*1+1<=D.length/\0+y.size<=E.length/\G1 G/\Le (l4 (l9 (D4 G))) H/\True) (Le (bv (o6 q3 4==1)) (bv (eA q3))/\HB (eA q3) (IntKind.i64.wrap I=z+1/\Kd 14 [] [i8 q2,i8 I] [] 5 (i8 (o6 q2 I)) [] 0/\pR 0 (o6 q2 I) z/\0+J.toNat<=D.length/\G1 (List.take J.toNat D)/\Le (l4 (l9 (D4 (List.take J.toNat (List.drop 0 D))))) H/\True) (0+y.size<=D.length/\G1 (List.take y.size D)/\Le (l4 (l9 (D4 (List.take y.size (List.drop 0 D))))) H/\True))) (Ou x p s q0 q1 q2 q3) [] func34 (qG hx (by kernel_rfl)) (by kernel_rfl) ?_
 with_reducible repeat' first|exact trivial|apply And.intro|apply HB.mk|intro _
 all_goals first|exact M6 hx _ (by omega)|(with_reducible refine Iu _ _ ?_ ?_ _)<;>omega|exact I5 s _ _ (by omega)|exact K6 hw (oI q0 hl _ _ 6 (by decide) (by have hk:=B4 s q0;omega) rfl) _ _ (by omega)|(have hk:=B4 s q0;have hk2:=J1 q0 hl;exact ⟨by omega,by omega⟩)|have hk:=B4 s q0;have hk2:=J1 q0 hl;rw[y6,K7];omega|have hk:=B4 s q0;with_reducible refine Le.of (d1g q0 hl ?_);omega|have hb:=dL q0 hl;exact C2 _ (by omega) (by omega)|exact Le.bool rfl|with_reducible exact Le.int hm|refine Le.bool (decide_eq_true ?_);omega|with_reducible exact Le.int (sY _)|(exact ⟨by omega,by omega⟩)|rw[q8];omega|unfold pR;omega|rw[q8];omega|exact w4 hq3|rw[u4,q8];omega|exact R3 _ _ _ rfl _|exact W6 _ _|refine Le.of ?_;rw[X4 _ (o6 q2 (n9 (v9 s q0 {u5 s q0 with sum:=(u5 s q0).sum+1})).size).toNat _ (by omega) (by omega),tK (by with_reducible assumption)];done|refine Le.of ?_;rw[S0 _ (o6 q2 ((n9 (v9 s q0 {u5 s q0 with sum:=(u5 s q0).sum+1})).size+1)) (by omega),vE (by with_reducible assumption) (by with_reducible assumption)];done|exact Le.of (congrArg (fun s=>SV.c (.l (.v (.string s)))) ((X3 _ rfl).trans (tL (by with_reducible assumption) (by with_reducible assumption))))|omega
def Sk (x:Leaf) (p:Nat) (s:List Int) (q0 q1 q2 q3:Int):Cz:={
 ct:=(fun f=>match f with
 |11=>tR s
 |14=>some fun _ _=>fun | [.c (.l (.v (.int _ x))),.c (.l (.v (.int _ n)))]=>some {v:=iv .i64 (o6 x n)}|_=>none
 |20=>uC s
 |21=>some fun _ _=>fun | [.c (.l (.o i _))]=>some {v:=.c (.l (.v (.string (n9 (v9 s q0 {u5 s q0 with a:=(u5 s q0).a+1}))))),rd:=[i]}|_=>none
 |_=>none)
 raw:=[66],sym:=[0,131,147,157,159,62,63,64,65,67,68,69],nf:=[(15,bv true),(65,.c (.l (ub ((u5 s q0).a)))),(66,.c (.l (ub ((u5 s q0).a+1)))),(23,iv .i64 3),(136,bv (dQ q3)),(149,bv (eA q3)),(146,.c (.l (ub (b8 (q3.tdiv 4)))))],wh:=[69,26]}
theorem c3c (x:Leaf) (p:Nat) (s:List Int) (q0 q1 q2 q3:Int) (hx:G4 x p s) (hq3 : -9223372036854775808<=q3/\q3<=9223372036854775807) (hl:0<(C0 s (F2 s)).length) (hm:o6 q1 8=3) (hw:GoodW (v9 s q0 {u5 s q0 with a:=(u5 s q0).a+1})):f4 prog 34 [.c (.l x),ag [li q0,li q1,li q2,li q3]] [(0,⟨J8 p s,.q⟩)] 1 (.c (.l (.v (.string (gS q2 q3 (n9 (v9 s q0 {u5 s q0 with a:=(u5 s q0).a+1}))))))) [] 0:=by
 have hlen:=G3 s
 have hwz:=dK hw
 have hr1:=E5 (x:=q2) (n:=(((n9 (v9 s q0 {u5 s q0 with a:=(u5 s q0).a+1})).size:Nat):Int)) (by omega) (by omega)
 have hr2:=E5 (x:=q2) (n:=(((n9 (v9 s q0 {u5 s q0 with a:=(u5 s q0).a+1})).size:Nat):Int)+1) (by omega) (by omega)
 refine E3 (q:=let e:=C0 s (F2 s);let f:=[Leaf.o 2 e.length];let g:=[(2,o8 (n8 e) 42 258 2)];let h:=Leaf.o 3 e.length;let i:=o4 (LM s);let j:=(Nat.cast (e.length):Int);let k:=o6 q0 j;let m:=i8 (o6 q1 8);let n:=k.toNat*8+2+0;let t:=((u5 s q0).a.toNat:Int);let w:=(u5 s q0).a+1;let y:=(Nat.cast (w.toNat):Int);let z:=(n9 (v9 s q0 (have __src:=u5 s q0;EN.mk __src.X __src.Y w __src.b __src.c __src.d __src.sum __src.blob)));let A:=(Nat.cast (z.size):Int);let B:=o6 q2 A;let C:=q3.tdiv 4;let D:=(Nat.cast ((b8 C).toNat):Int);let E:=A0 z;let G:=j4 E (0+B.toNat*1) [l8 D];let H:=List.take z.size (List.drop 0 G);let I:=(l4 (l9 (gS q2 q3 (n9 (v9 s q0 (let __src:=u5 s q0;EN.mk __src.X __src.Y w __src.b __src.c __src.d __src.sum __src.blob))))));let J:=A+1;let L:=o6 q2 J-0;Kd 11 [] [l4 x] [(0,n6.mk (J8 p s) BT.q)] 2 (ag f) g 1/\Kd 20 [] [ag f] g 3 (l4 h) [(3,o8 i 59 8 3)] 1/\Le (bv (decide (j>0))) (bv true)/\Kd 14 [] [i8 q0,i8 j] [] 4 (i8 k) [] 0/\Kd 14 [] [i8 q1,i8 8] [] 4 m [] 0/\Le m (i8 3)/\t0 k e.length/\k.toNat*8+2+0<i.length/\Le (l4 (i.getD n Leaf.u)) (iv .u8 t)/\Le (iv .u8 (IntKind.u8.wrap (t+1))) (iv .u8 y)/\t0 k e.length/\k.toNat*8+2+0+1<=i.length/\Kd 21 [] [l4 h] [(3,o8 (j4 i n [l8 y]) 59 8 3)] 4 (l4 (l9 z)) [] 0/\Kd 14 [] [i8 q3,i8 4] [] 5 (i8 (o6 q3 4)) [] 0/\Le (bv (o6 q3 4==0)) (bv (dQ q3))/\HB (dQ q3) (Kd 14 [] [i8 q2,i8 A] [] 5 (i8 B) [] 0/\(4:Int)≠0/\IntKind.i64.wrap C=q3.tdiv 4/\Le (iv .u8 (IntKind.u8.wrap C)) (iv .u8 D)/\t0 B z.size/\0+B.toNat*1+1<=E.length/\0+z.size<=G.length/\G1 H/\Le (l4 (l9 (D4 H))) I/\True) (Le (bv (o6 q3 4==1)) (bv (eA q3))/\HB (eA q3) (IntKind.i64.wrap J=A+1/\Kd 14 [] [i8 q2,i8 J] [] 5 (i8 (o6 q2 J)) [] 0/\pR 0 (o6 q2 J) A/\0+L.toNat<=E.length/\G1 (List.take L.toNat E)/\Le (l4 (l9 (D4 (List.take L.toNat (List.drop 0 E))))) I/\True) (0+z.size<=E.length/\G1 (List.take z.size E)/\Le (l4 (l9 (D4 (List.take z.size (List.drop 0 E))))) I/\True))) (Sk x p s q0 q1 q2 q3) [] func34 (qG hx (by kernel_rfl)) (by kernel_rfl) ?_
 with_reducible repeat' first|exact trivial|apply And.intro|apply HB.mk|intro _
 all_goals first|exact M6 hx _ (by omega)|(with_reducible refine Iu _ _ ?_ ?_ _)<;>omega|exact I5 s _ _ (by omega)|exact K6 hw (oI q0 hl _ _ 2 (by decide) (by have hk:=B4 s q0;omega) rfl) _ _ (by omega)|(have hk:=B4 s q0;have hk2:=J1 q0 hl;exact ⟨by omega,by omega⟩)|have hk:=B4 s q0;have hk2:=J1 q0 hl;rw[y6,K7];omega|have hk:=B4 s q0;with_reducible refine Le.of (a_W q0 hl ?_);omega|with_reducible exact Le.int (b8f _)|exact Le.bool rfl|with_reducible exact Le.int hm|refine Le.bool (decide_eq_true ?_);omega|with_reducible exact Le.int (sY _)|(exact ⟨by omega,by omega⟩)|rw[q8];omega|unfold pR;omega|rw[q8];omega|exact w4 hq3|rw[u4,q8];omega|exact R3 _ _ _ rfl _|exact W6 _ _|refine Le.of ?_;rw[X4 _ (o6 q2 (n9 (v9 s q0 {u5 s q0 with a:=(u5 s q0).a+1})).size).toNat _ (by omega) (by omega),tK (by with_reducible assumption)];done|refine Le.of ?_;rw[S0 _ (o6 q2 ((n9 (v9 s q0 {u5 s q0 with a:=(u5 s q0).a+1})).size+1)) (by omega),vE (by with_reducible assumption) (by with_reducible assumption)];done|exact Le.of (congrArg (fun s=>SV.c (.l (.v (.string s)))) ((X3 _ rfl).trans (tL (by with_reducible assumption) (by with_reducible assumption))))|exact C2 _ (by omega) (by omega)|omega
def Ke (x:Leaf) (p:Nat) (s:List Int) (q0 q1 q2 q3:Int):Cz:={
 ct:=(fun f=>match f with
 |11=>tR s
 |14=>some fun _ _=>fun | [.c (.l (.v (.int _ x))),.c (.l (.v (.int _ n)))]=>some {v:=iv .i64 (o6 x n)}|_=>none
 |20=>uC s
 |21=>some fun _ _=>fun | [.c (.l (.o i _))]=>some {v:=.c (.l (.v (.string (n9 (v9 s q0 {u5 s q0 with blob:=vQ (u5 s q0).blob (o6 q2 (u5 s q0).blob.size).toNat (b8 q3)}))))),rd:=[i]}|_=>none
 |_=>none)
 sym:=[0,131,147,157,159,74,75,76,77,87,91,92,93],nf:=[(15,bv true),(76,.c (.l (.v (.string (u5 s q0).blob)))),(86,.c (.l (ub (b8 q3)))),(91,.c (.l (.v (.string (vQ (u5 s q0).blob (o6 q2 (u5 s q0).blob.size).toNat (b8 q3)))))),(23,iv .i64 4),(136,bv (dQ q3)),(149,bv (eA q3)),(146,.c (.l (ub (b8 (q3.tdiv 4)))))],wh:=[69,26]}
theorem c3l (x:Leaf) (p:Nat) (s:List Int) (q0 q1 q2 q3:Int) (hx:G4 x p s) (hq3 : -9223372036854775808<=q3/\q3<=9223372036854775807) (hl:0<(C0 s (F2 s)).length) (hm:o6 q1 8=4) (hw:GoodW (v9 s q0 {u5 s q0 with blob:=vQ (u5 s q0).blob (o6 q2 (u5 s q0).blob.size).toNat (b8 q3)})):f4 prog 34 [.c (.l x),ag [li q0,li q1,li q2,li q3]] [(0,⟨J8 p s,.q⟩)] 1 (.c (.l (.v (.string (gS q2 q3 (n9 (v9 s q0 {u5 s q0 with blob:=vQ (u5 s q0).blob (o6 q2 (u5 s q0).blob.size).toNat (b8 q3)}))))))) [] 0:=by
 have hlen:=G3 s
 have hwz:=dK hw
 have hr1:=E5 (x:=q2) (n:=(((n9 (v9 s q0 {u5 s q0 with blob:=vQ (u5 s q0).blob (o6 q2 (u5 s q0).blob.size).toNat (b8 q3)})).size:Nat):Int)) (by omega) (by omega)
 have hr2:=E5 (x:=q2) (n:=(((n9 (v9 s q0 {u5 s q0 with blob:=vQ (u5 s q0).blob (o6 q2 (u5 s q0).blob.size).toNat (b8 q3)})).size:Nat):Int)+1) (by omega) (by omega)
 refine E3 (q:=let e:=C0 s (F2 s);let f:=[Leaf.o 2 e.length];let g:=[(2,o8 (n8 e) 42 258 2)];let h:=Leaf.o 3 e.length;let i:=o4 (LM s);let j:=(Nat.cast (e.length):Int);let k:=o6 q0 j;let m:=i8 (o6 q1 8);let n:=k.toNat*8+7;let t:=u5 s q0;let w:=(t.blob.size:Int);let y:=o6 q2 w;let z:=((b8 q3).toNat:Int);let A:=j4 (A0 t.blob) (0+y.toNat*1) [l8 z];let B:=List.take t.blob.size (List.drop 0 A);let C:=vQ t.blob y.toNat (b8 q3);let D:=(n9 (v9 s q0 (have __src:=u5 s q0;EN.mk __src.X __src.Y __src.a __src.b __src.c __src.d __src.sum C)));let E:=(Nat.cast (D.size):Int);let G:=o6 q2 E;let H:=q3.tdiv 4;let I:=(Nat.cast ((b8 H).toNat):Int);let J:=A0 D;let L:=j4 J (0+G.toNat*1) [l8 I];let M:=List.take D.size (List.drop 0 L);let N:=(l4 (l9 (gS q2 q3 (n9 (v9 s q0 (let __src:=u5 s q0;EN.mk __src.X __src.Y __src.a __src.b __src.c __src.d __src.sum C))))));let O:=E+1;let P:=o6 q2 O-0;Kd 11 [] [l4 x] [(0,n6.mk (J8 p s) BT.q)] 2 (ag f) g 1/\Kd 20 [] [ag f] g 3 (l4 h) [(3,o8 i 59 8 3)] 1/\Le (bv (decide (j>0))) (bv true)/\Kd 14 [] [i8 q0,i8 j] [] 4 (i8 k) [] 0/\Kd 14 [] [i8 q1,i8 8] [] 4 m [] 0/\Le m (i8 4)/\t0 k e.length/\k.toNat*8+7<i.length/\Le (l4 (i.getD n Leaf.u)) (l4 (l9 (t.blob)))/\Kd 14 [] [i8 q2,i8 w] [] 5 (i8 y) [] 0/\Le (iv .u8 (IntKind.u8.wrap q3)) (iv .u8 z)/\t0 y t.blob.size/\0+y.toNat*1+1<=(A0 t.blob).length/\0+t.blob.size<=A.length/\G1 B/\Le (l4 (l9 (D4 B))) (l4 (l9 C))/\t0 k e.length/\k.toNat*8+7+1<=i.length/\Kd 21 [] [l4 h] [(3,o8 (j4 i n [l9 C]) 59 8 3)] 5 (l4 (l9 D)) [] 0/\Kd 14 [] [i8 q3,i8 4] [] 6 (i8 (o6 q3 4)) [] 0/\Le (bv (o6 q3 4==0)) (bv (dQ q3))/\HB (dQ q3) (Kd 14 [] [i8 q2,i8 E] [] 6 (i8 G) [] 0/\(4:Int)≠0/\IntKind.i64.wrap H=q3.tdiv 4/\Le (iv .u8 (IntKind.u8.wrap H)) (iv .u8 I)/\t0 G D.size/\0+G.toNat*1+1<=J.length/\0+D.size<=L.length/\G1 M/\Le (l4 (l9 (D4 M))) N/\True) (Le (bv (o6 q3 4==1)) (bv (eA q3))/\HB (eA q3) (IntKind.i64.wrap O=E+1/\Kd 14 [] [i8 q2,i8 O] [] 6 (i8 (o6 q2 O)) [] 0/\pR 0 (o6 q2 O) E/\0+P.toNat<=J.length/\G1 (List.take P.toNat J)/\Le (l4 (l9 (D4 (List.take P.toNat (List.drop 0 J))))) N/\True) (0+D.size<=J.length/\G1 (List.take D.size J)/\Le (l4 (l9 (D4 (List.take D.size (List.drop 0 J))))) N/\True))) (Ke x p s q0 q1 q2 q3) [] func34 (qG hx (by kernel_rfl)) (by kernel_rfl) ?_
 with_reducible repeat' first|exact trivial|apply And.intro|apply HB.mk|intro _
 all_goals first|exact M6 hx _ (by omega)|(with_reducible refine Iu _ _ ?_ ?_ _)<;>omega|exact I5 s _ _ (by omega)|exact K6 hw (oI q0 hl _ _ 7 (by decide) (by have hk:=B4 s q0;omega) rfl) _ _ (by omega)|(have hk:=B4 s q0;have hk2:=J1 q0 hl;exact ⟨by omega,by omega⟩)|have hk:=B4 s q0;have hk2:=J1 q0 hl;rw[y6,K7];omega|have hk:=B4 s q0;with_reducible refine Le.of (a9o q0 hl ?_);omega|(have hb:=dL q0 hl;have hr:=E5 (x:=q2) (n:=(((u5 s q0).blob.size:Nat):Int)) (by omega) (by omega);exact ⟨by omega,by omega⟩)|have hb:=dL q0 hl;have hr:=E5 (x:=q2) (n:=(((u5 s q0).blob.size:Nat):Int)) (by omega) (by omega);rw[q8];omega|have hb:=dL q0 hl;with_reducible refine Iu _ _ ?_ ?_ _<;>omega|exact Le.of (congrArg (fun s=>SV.c (.l (.v (.string s)))) (X4 _ _ _ (by omega) rfl))|exact Le.bool rfl|with_reducible exact Le.int hm|refine Le.bool (decide_eq_true ?_);omega|with_reducible exact Le.int (sY _)|(exact ⟨by omega,by omega⟩)|rw[q8];omega|unfold pR;omega|rw[q8];omega|exact w4 hq3|rw[u4,q8];omega|exact R3 _ _ _ rfl _|exact W6 _ _|refine Le.of ?_;rw[X4 _ (o6 q2 (n9 (v9 s q0 {u5 s q0 with blob:=vQ (u5 s q0).blob (o6 q2 (u5 s q0).blob.size).toNat (b8 q3)})).size).toNat _ (by omega) (by omega),tK (by with_reducible assumption)];done|refine Le.of ?_;rw[S0 _ (o6 q2 ((n9 (v9 s q0 {u5 s q0 with blob:=vQ (u5 s q0).blob (o6 q2 (u5 s q0).blob.size).toNat (b8 q3)})).size+1)) (by omega),vE (by with_reducible assumption) (by with_reducible assumption)];done|exact Le.of (congrArg (fun s=>SV.c (.l (.v (.string s)))) ((X3 _ rfl).trans (tL (by with_reducible assumption) (by with_reducible assumption))))|exact C2 _ (by omega) (by omega)|omega
def Pb (x:Leaf) (p:Nat) (s:List Int) (q0 q1 q2 q3:Int):Cz:={
 ct:=(fun f=>match f with
 |11=>tR s
 |14=>some fun _ _=>fun | [.c (.l (.v (.int _ x))),.c (.l (.v (.int _ n)))]=>some {v:=iv .i64 (o6 x n)}|_=>none
 |20=>uC s
 |21=>some fun _ _=>fun | [.c (.l (.o i _))]=>some {v:=.c (.l (.v (.string (n9 (v9 s q0 {u5 s q0 with blob:=Q9 (u5 s q0).blob (o6 q2 ((u5 s q0).blob.size+1))}))))),rd:=[i]}|_=>none
 |_=>none)
 sym:=[0,131,147,157,159,100,101,102,107,108,109,113,114,115],nf:=[(15,bv true),(102,.c (.l (.v (.string (u5 s q0).blob)))),(109,.c (.l (.v (.string (u5 s q0).blob)))),(113,.c (.l (.v (.string (Q9 (u5 s q0).blob (o6 q2 ((u5 s q0).blob.size+1))))))),(23,iv .i64 5),(136,bv (dQ q3)),(149,bv (eA q3)),(146,.c (.l (ub (b8 (q3.tdiv 4)))))],wh:=[69,26]}
theorem c4b (x:Leaf) (p:Nat) (s:List Int) (q0 q1 q2 q3:Int) (hx:G4 x p s) (hq3 : -9223372036854775808<=q3/\q3<=9223372036854775807) (hl:0<(C0 s (F2 s)).length) (hm:o6 q1 8=5) (hw:GoodW (v9 s q0 {u5 s q0 with blob:=Q9 (u5 s q0).blob (o6 q2 ((u5 s q0).blob.size+1))})):f4 prog 34 [.c (.l x),ag [li q0,li q1,li q2,li q3]] [(0,⟨J8 p s,.q⟩)] 1 (.c (.l (.v (.string (gS q2 q3 (n9 (v9 s q0 {u5 s q0 with blob:=Q9 (u5 s q0).blob (o6 q2 ((u5 s q0).blob.size+1))}))))))) [] 0:=by
 have hlen:=G3 s
 have hwz:=dK hw
 have hr1:=E5 (x:=q2) (n:=(((n9 (v9 s q0 {u5 s q0 with blob:=Q9 (u5 s q0).blob (o6 q2 ((u5 s q0).blob.size+1))})).size:Nat):Int)) (by omega) (by omega)
 have hr2:=E5 (x:=q2) (n:=(((n9 (v9 s q0 {u5 s q0 with blob:=Q9 (u5 s q0).blob (o6 q2 ((u5 s q0).blob.size+1))})).size:Nat):Int)+1) (by omega) (by omega)
 refine E3 (q:=let e:=C0 s (F2 s);let f:=[Leaf.o 2 e.length];let g:=[(2,o8 (n8 e) 42 258 2)];let h:=Leaf.o 3 e.length;let i:=o4 (LM s);let j:=(Nat.cast (e.length):Int);let k:=o6 q0 j;let m:=i8 (o6 q1 8);let n:=k.toNat*8+7;let t:=l4 (i.getD n Leaf.u);let w:=u5 s q0;let y:=l4 (l9 (w.blob));let z:=(w.blob.size:Int);let A:=o6 q2 (z+1);let B:=Q9 w.blob A;let C:=(n9 (v9 s q0 (have __src:=u5 s q0;EN.mk __src.X __src.Y __src.a __src.b __src.c __src.d __src.sum B)));let D:=(Nat.cast (C.size):Int);let E:=o6 q2 D;let G:=q3.tdiv 4;let H:=(Nat.cast ((b8 G).toNat):Int);let I:=A0 C;let J:=j4 I (0+E.toNat*1) [l8 H];let L:=List.take C.size (List.drop 0 J);let M:=(l4 (l9 (gS q2 q3 (n9 (v9 s q0 (let __src:=u5 s q0;EN.mk __src.X __src.Y __src.a __src.b __src.c __src.d __src.sum B))))));let N:=D+1;let O:=o6 q2 N-0;Kd 11 [] [l4 x] [(0,n6.mk (J8 p s) BT.q)] 2 (ag f) g 1/\Kd 20 [] [ag f] g 3 (l4 h) [(3,o8 i 59 8 3)] 1/\Le (bv (decide (j>0))) (bv true)/\Kd 14 [] [i8 q0,i8 j] [] 4 (i8 k) [] 0/\Kd 14 [] [i8 q1,i8 8] [] 4 m [] 0/\Le m (i8 5)/\t0 k e.length/\k.toNat*8+7<i.length/\Le t y/\t0 k e.length/\k.toNat*8+7<i.length/\Le t y/\IntKind.i64.wrap (z+1)=z+1/\Kd 14 [] [i8 q2,i8 (z+1)] [] 4 (i8 A) [] 0/\O6 0 A z/\Le (l4 (l9 (w.blob.extract (Int.toNat 0) A.toNat))) (l4 (l9 B))/\t0 k e.length/\k.toNat*8+7+1<=i.length/\Kd 21 [] [l4 h] [(3,o8 (j4 i n [l9 B]) 59 8 3)] 4 (l4 (l9 C)) [] 0/\Kd 14 [] [i8 q3,i8 4] [] 5 (i8 (o6 q3 4)) [] 0/\Le (bv (o6 q3 4==0)) (bv (dQ q3))/\HB (dQ q3) (Kd 14 [] [i8 q2,i8 D] [] 5 (i8 E) [] 0/\(4:Int)≠0/\IntKind.i64.wrap G=q3.tdiv 4/\Le (iv .u8 (IntKind.u8.wrap G)) (iv .u8 H)/\t0 E C.size/\0+E.toNat*1+1<=I.length/\0+C.size<=J.length/\G1 L/\Le (l4 (l9 (D4 L))) M/\True) (Le (bv (o6 q3 4==1)) (bv (eA q3))/\HB (eA q3) (IntKind.i64.wrap N=D+1/\Kd 14 [] [i8 q2,i8 N] [] 5 (i8 (o6 q2 N)) [] 0/\pR 0 (o6 q2 N) D/\0+O.toNat<=I.length/\G1 (List.take O.toNat I)/\Le (l4 (l9 (D4 (List.take O.toNat (List.drop 0 I))))) M/\True) (0+C.size<=I.length/\G1 (List.take C.size I)/\Le (l4 (l9 (D4 (List.take C.size (List.drop 0 I))))) M/\True))) (Pb x p s q0 q1 q2 q3) [] func34 (qG hx (by kernel_rfl)) (by kernel_rfl) ?_
 with_reducible repeat' first|exact trivial|apply And.intro|apply HB.mk|intro _
 all_goals first|exact M6 hx _ (by omega)|(with_reducible refine Iu _ _ ?_ ?_ _)<;>omega|exact I5 s _ _ (by omega)|exact K6 hw (oI q0 hl _ _ 7 (by decide) (by have hk:=B4 s q0;omega) rfl) _ _ (by omega)|(have hk:=B4 s q0;have hk2:=J1 q0 hl;exact ⟨by omega,by omega⟩)|have hk:=B4 s q0;have hk2:=J1 q0 hl;rw[y6,K7];omega|have hk:=B4 s q0;with_reducible refine Le.of (a9o q0 hl ?_);omega|have hb:=dL q0 hl;have hr:=E5 (x:=q2) (n:=(((u5 s q0).blob.size:Nat):Int)+1) (by omega) (by omega);unfold O6;omega|have hb:=dL q0 hl;with_reducible refine Iu _ _ ?_ ?_ _<;>omega|have hb:=dL q0 hl;exact C2 _ (by omega) (by omega)|exact Le.bool rfl|with_reducible exact Le.int hm|refine Le.bool (decide_eq_true ?_);omega|with_reducible exact Le.int (sY _)|(exact ⟨by omega,by omega⟩)|rw[q8];omega|unfold pR;omega|rw[q8];omega|exact w4 hq3|rw[u4,q8];omega|exact R3 _ _ _ rfl _|exact W6 _ _|refine Le.of ?_;rw[X4 _ (o6 q2 (n9 (v9 s q0 {u5 s q0 with blob:=Q9 (u5 s q0).blob (o6 q2 ((u5 s q0).blob.size+1))})).size).toNat _ (by omega) (by omega),tK (by with_reducible assumption)];done|refine Le.of ?_;rw[S0 _ (o6 q2 ((n9 (v9 s q0 {u5 s q0 with blob:=Q9 (u5 s q0).blob (o6 q2 ((u5 s q0).blob.size+1))})).size+1)) (by omega),vE (by with_reducible assumption) (by with_reducible assumption)];done|exact Le.of (congrArg (fun s=>SV.c (.l (.v (.string s)))) ((X3 _ rfl).trans (tL (by with_reducible assumption) (by with_reducible assumption))))|omega|exact Le.of rfl
def Qp (x:Leaf) (p:Nat) (s:List Int) (q0 q1 q2 q3:Int):Cz:={
 ct:=(fun f=>match f with
 |11=>tR s
 |14=>some fun _ _=>fun | [.c (.l (.v (.int _ x))),.c (.l (.v (.int _ n)))]=>some {v:=iv .i64 (o6 x n)}|_=>none
 |20=>uC s
 |21=>some fun _ _=>fun | [.c (.l (.o i _))]=>some {v:=.c (.l (.v (.string (n9 (v9 s q0 {u5 s q0 with blob:=(u5 s q0).blob++⟨#[120]⟩}))))),rd:=[i]}|_=>none
 |_=>none)
 sym:=[0,131,147,157,159,122,123,124,126,127],nf:=[(15,bv true),(124,.c (.l (.v (.string (u5 s q0).blob)))),(125,.c (.l (.v (.string ((u5 s q0).blob++⟨#[120]⟩))))),(23,iv .i64 6),(136,bv (dQ q3)),(149,bv (eA q3)),(146,.c (.l (ub (b8 (q3.tdiv 4)))))],wh:=[69,26]}
theorem b9d (x:Leaf) (p:Nat) (s:List Int) (q0 q1 q2 q3:Int) (hx:G4 x p s) (hq3 : -9223372036854775808<=q3/\q3<=9223372036854775807) (hl:0<(C0 s (F2 s)).length) (hm:o6 q1 8=6) (hw:GoodW (v9 s q0 {u5 s q0 with blob:=(u5 s q0).blob++⟨#[120]⟩})):f4 prog 34 [.c (.l x),ag [li q0,li q1,li q2,li q3]] [(0,⟨J8 p s,.q⟩)] 1 (.c (.l (.v (.string (gS q2 q3 (n9 (v9 s q0 {u5 s q0 with blob:=(u5 s q0).blob++⟨#[120]⟩}))))))) [] 0:=by
 have hlen:=G3 s
 have hwz:=dK hw
 have hr1:=E5 (x:=q2) (n:=(((n9 (v9 s q0 {u5 s q0 with blob:=(u5 s q0).blob++⟨#[120]⟩})).size:Nat):Int)) (by omega) (by omega)
 have hr2:=E5 (x:=q2) (n:=(((n9 (v9 s q0 {u5 s q0 with blob:=(u5 s q0).blob++⟨#[120]⟩})).size:Nat):Int)+1) (by omega) (by omega)
 refine E3 (q:=let e:=C0 s (F2 s);let f:=[Leaf.o 2 e.length];let g:=[(2,o8 (n8 e) 42 258 2)];let h:=Leaf.o 3 e.length;let i:=o4 (LM s);let j:=(Nat.cast (e.length):Int);let k:=o6 q0 j;let m:=i8 (o6 q1 8);let n:=k.toNat*8+7;let t:=u5 s q0;let w:=t.blob++ByteArray.mk #[120];let y:=(n9 (v9 s q0 (have __src:=u5 s q0;EN.mk __src.X __src.Y __src.a __src.b __src.c __src.d __src.sum w)));let z:=(Nat.cast (y.size):Int);let A:=o6 q2 z;let B:=q3.tdiv 4;let C:=(Nat.cast ((b8 B).toNat):Int);let D:=A0 y;let E:=j4 D (0+A.toNat*1) [l8 C];let G:=List.take y.size (List.drop 0 E);let H:=(l4 (l9 (gS q2 q3 (n9 (v9 s q0 (let __src:=u5 s q0;EN.mk __src.X __src.Y __src.a __src.b __src.c __src.d __src.sum w))))));let I:=z+1;let J:=o6 q2 I-0;Kd 11 [] [l4 x] [(0,n6.mk (J8 p s) BT.q)] 2 (ag f) g 1/\Kd 20 [] [ag f] g 3 (l4 h) [(3,o8 i 59 8 3)] 1/\Le (bv (decide (j>0))) (bv true)/\Kd 14 [] [i8 q0,i8 j] [] 4 (i8 k) [] 0/\Kd 14 [] [i8 q1,i8 8] [] 4 m [] 0/\Le m (i8 6)/\t0 k e.length/\k.toNat*8+7<i.length/\Le (l4 (i.getD n Leaf.u)) (l4 (l9 (t.blob)))/\(Nat.cast ((t.blob.size+(ByteArray.mk #[120]).size)):Int)<=IntKind.i64.max/\Le (l4 (l9 w)) (l4 (l9 w))/\t0 k e.length/\k.toNat*8+7+1<=i.length/\Kd 21 [] [l4 h] [(3,o8 (j4 i n [l9 w]) 59 8 3)] 4 (l4 (l9 y)) [] 0/\Kd 14 [] [i8 q3,i8 4] [] 5 (i8 (o6 q3 4)) [] 0/\Le (bv (o6 q3 4==0)) (bv (dQ q3))/\HB (dQ q3) (Kd 14 [] [i8 q2,i8 z] [] 5 (i8 A) [] 0/\(4:Int)≠0/\IntKind.i64.wrap B=q3.tdiv 4/\Le (iv .u8 (IntKind.u8.wrap B)) (iv .u8 C)/\t0 A y.size/\0+A.toNat*1+1<=D.length/\0+y.size<=E.length/\G1 G/\Le (l4 (l9 (D4 G))) H/\True) (Le (bv (o6 q3 4==1)) (bv (eA q3))/\HB (eA q3) (IntKind.i64.wrap I=z+1/\Kd 14 [] [i8 q2,i8 I] [] 5 (i8 (o6 q2 I)) [] 0/\pR 0 (o6 q2 I) z/\0+J.toNat<=D.length/\G1 (List.take J.toNat D)/\Le (l4 (l9 (D4 (List.take J.toNat (List.drop 0 D))))) H/\True) (0+y.size<=D.length/\G1 (List.take y.size D)/\Le (l4 (l9 (D4 (List.take y.size (List.drop 0 D))))) H/\True))) (Qp x p s q0 q1 q2 q3) [] func34 (qG hx (by kernel_rfl)) (by kernel_rfl) ?_
 with_reducible repeat' first|exact trivial|apply And.intro|apply HB.mk|intro _|exact Le.refl _
 all_goals first|exact M6 hx _ (by omega)|(with_reducible refine Iu _ _ ?_ ?_ _)<;>omega|exact I5 s _ _ (by omega)|exact K6 hw (oI q0 hl _ _ 7 (by decide) (by have hk:=B4 s q0;omega) rfl) _ _ (by omega)|(have hk:=B4 s q0;have hk2:=J1 q0 hl;exact ⟨by omega,by omega⟩)|have hk:=B4 s q0;have hk2:=J1 q0 hl;rw[y6,K7];omega|have hk:=B4 s q0;with_reducible refine Le.of (a9o q0 hl ?_);omega|have hb:=dL q0 hl;rw[IntKind.max_i64];have e1:(⟨#[120]⟩:ByteArray).size=1:=rfl;omega|exact Le.bool rfl|with_reducible exact Le.int hm|refine Le.bool (decide_eq_true ?_);omega|with_reducible exact Le.int (sY _)|(exact ⟨by omega,by omega⟩)|rw[q8];omega|unfold pR;omega|rw[q8];omega|exact w4 hq3|rw[u4,q8];omega|exact R3 _ _ _ rfl _|exact W6 _ _|refine Le.of ?_;rw[X4 _ (o6 q2 (n9 (v9 s q0 {u5 s q0 with blob:=(u5 s q0).blob++⟨#[120]⟩})).size).toNat _ (by omega) (by omega),tK (by with_reducible assumption)];done|refine Le.of ?_;rw[S0 _ (o6 q2 ((n9 (v9 s q0 {u5 s q0 with blob:=(u5 s q0).blob++⟨#[120]⟩})).size+1)) (by omega),vE (by with_reducible assumption) (by with_reducible assumption)];done|exact Le.of (congrArg (fun s=>SV.c (.l (.v (.string s)))) ((X3 _ rfl).trans (tL (by with_reducible assumption) (by with_reducible assumption))))|exact C2 _ (by omega) (by omega)|omega
def Lv (x:Leaf) (p:Nat) (s:List Int) (q0 q1 q2 q3:Int):Cz:={
 ct:=(fun f=>match f with
 |11=>tR s
 |14=>some fun _ _=>fun | [.c (.l (.v (.int _ x))),.c (.l (.v (.int _ n)))]=>some {v:=iv .i64 (o6 x n)}|_=>none
 |20=>uC s
 |21=>c0k s
 |_=>none)
 sym:=[0,131,147,157,159],nf:=[(15,bv false),(23,iv .i64 8),(136,bv (dQ q3)),(149,bv (eA q3)),(146,.c (.l (ub (b8 (q3.tdiv 4)))))],wh:=[69,26]}
theorem b6p (x:Leaf) (p:Nat) (s:List Int) (q0 q1 q2 q3:Int) (hx:G4 x p s) (hq3 : -9223372036854775808<=q3/\q3<=9223372036854775807) (hl:(C0 s (F2 s)).length=0) (hw:GoodW (LM s)):f4 prog 34 [.c (.l x),ag [li q0,li q1,li q2,li q3]] [(0,⟨J8 p s,.q⟩)] 1 (.c (.l (.v (.string (gS q2 q3 (n9 (LM s))))))) [] 0:=by
 have hlen:=G3 s
 have hwz:=dK hw
 have hr1:=E5 (x:=q2) (n:=(((n9 (LM s)).size:Nat):Int)) (by omega) (by omega)
 have hr2:=E5 (x:=q2) (n:=(((n9 (LM s)).size:Nat):Int)+1) (by omega) (by omega)
 refine E3 (q:=let a:=C0 s (F2 s);let b:=[Leaf.o 2 a.length];let d:=[(2,o8 (n8 a) 42 258 2)];let e:=Leaf.o 3 a.length;let f:=[(3,o8 (o4 (LM s)) 59 8 3)];let g:=n9 (LM s);let h:=(Nat.cast (g.size):Int);let i:=o6 q2 h;let j:=q3.tdiv 4;let k:=(Nat.cast ((b8 j).toNat):Int);let m:=A0 g;let n:=j4 m (0+i.toNat*1) [l8 k];let t:=List.take g.size (List.drop 0 n);let ud:=l4 (l9 (gS q2 q3 g));let w:=h+1;let y:=o6 q2 w-0;Kd 11 [] [l4 x] [(0,n6.mk (J8 p s) BT.q)] 2 (ag b) d 1/\Kd 20 [] [ag b] d 3 (l4 e) f 1/\Le (bv (decide ((Nat.cast (a.length):Int)>0))) (bv false)/\Kd 21 [] [l4 e] f 4 (l4 (l9 g)) [] 0/\Kd 14 [] [i8 q3,i8 4] [] 5 (i8 (o6 q3 4)) [] 0/\Le (bv (o6 q3 4==0)) (bv (dQ q3))/\HB (dQ q3) (Kd 14 [] [i8 q2,i8 h] [] 5 (i8 i) [] 0/\(4:Int)≠0/\IntKind.i64.wrap j=q3.tdiv 4/\Le (iv .u8 (IntKind.u8.wrap j)) (iv .u8 k)/\t0 i g.size/\0+i.toNat*1+1<=m.length/\0+g.size<=n.length/\G1 t/\Le (l4 (l9 (D4 t))) ud/\True) (Le (bv (o6 q3 4==1)) (bv (eA q3))/\HB (eA q3) (IntKind.i64.wrap w=h+1/\Kd 14 [] [i8 q2,i8 w] [] 5 (i8 (o6 q2 w)) [] 0/\pR 0 (o6 q2 w) h/\0+y.toNat<=m.length/\G1 (List.take y.toNat m)/\Le (l4 (l9 (D4 (List.take y.toNat (List.drop 0 m))))) ud/\True) (0+g.size<=m.length/\G1 (List.take g.size m)/\Le (l4 (l9 (D4 (List.take g.size (List.drop 0 m))))) ud/\True))) (Lv x p s q0 q1 q2 q3) [] func34 (qG hx (by kernel_rfl)) (by kernel_rfl) ?_
 with_reducible repeat' first|exact trivial|apply And.intro|apply HB.mk|intro _
 all_goals first|exact M6 hx _ (by omega)|(with_reducible refine Iu _ _ ?_ ?_ _)<;>omega|exact I5 s _ _ (by omega)|exact nR s hw _ _ (by omega)|refine Le.bool (decide_eq_false ?_);omega|exact Le.bool rfl|with_reducible exact Le.int (sY _)|(exact ⟨by omega,by omega⟩)|rw[q8];omega|unfold pR;omega|rw[q8];omega|exact w4 hq3|rw[u4,q8];omega|exact R3 _ _ _ rfl _|exact W6 _ _|refine Le.of ?_;rw[X4 _ (o6 q2 (n9 (LM s)).size).toNat _ (by omega) (by omega),tK (by with_reducible assumption)];done|refine Le.of ?_;rw[S0 _ (o6 q2 ((n9 (LM s)).size+1)) (by omega),vE (by with_reducible assumption) (by with_reducible assumption)];done|exact Le.of (congrArg (fun s=>SV.c (.l (.v (.string s)))) ((X3 _ rfl).trans (tL (by with_reducible assumption) (by with_reducible assumption))))|exact C2 _ (by omega) (by omega)|omega
end Ab
end
section
namespace Ab
theorem a8g (L:List EN) (k:Nat) (E:EN) {j:Nat} (hj:j<L.length):ea (L.set k E) j=if j=k then E else ea L j:=by
 unfold ea
 rw[List.getD_eq_getElem?_getD,List.getD_eq_getElem?_getD,List.getElem?_set]
 by_cases e:k=j
 ·subst e
  rw[if_pos rfl,if_pos hj,if_pos rfl];rfl
 ·rw[if_neg e,if_neg (fun h=>e h.symm)]
structure OkW (E:EN):Prop where
 x : -10000<=E.X/\E.X<=10000
 y : -10000<=E.Y/\E.Y<=10000
 s:0<=E.sum/\E.sum<8589934592
 b:E.blob.size<=258
theorem O3 {L:List EN} (g:GoodW L) (k:Nat) {E:EN} (h:OkW E):GoodW (L.set k E):=by
 have hl:(L.set k E).length=L.length:=List.length_set
 refine ⟨by rw[hl];exact g.len,fun j hj=>?_,fun j hj=>?_,fun j hj=>?_,fun j hj=>?_⟩<;>(rw[hl] at hj;rw[a8g L k E hj];by_cases e:j=k)
 ·rw[if_pos e];exact h.x
 ·rw[if_neg e];exact g.x j hj
 ·rw[if_pos e];exact h.y
 ·rw[if_neg e];exact g.y j hj
 ·rw[if_pos e];exact h.s
 ·rw[if_neg e];exact g.s j hj
 ·rw[if_pos e];exact h.b
 ·rw[if_neg e];exact g.b j hj
theorem a9r {L:List EN} (g:GoodW L) {k:Nat} (hk:k<L.length):OkW (ea L k):=⟨g.x k hk,g.y k hk,g.s k hk,g.b k hk⟩
theorem F9 (s:List Int):GoodW (LM s):=by
 have hb:=d0i s
 have hx:=c8n s
 refine ⟨hb.1,fun k h=>by have:=hx.x k h;omega,fun k h=>by have:=hx.y k h;omega,fun k h=>?_,fun k h=>by have:=hb.2 k h;omega⟩
 have h2:k<(C0 s (F2 s)).length:=by rwa [K7] at h
 have e:ea (LM s) k=pO (r8 (C0 s (F2 s)) k):=Z6 h2
 rw[e]
 have hs:=G9 (D1 (r8 (C0 s (F2 s)) k).t)
 show 0<=z7 _/\z7 _<8589934592
 omega
def LWc (s:List Int) (q0 q1 q2 q3:Int):List EN:=
 if (C0 s (F2 s)).length=0 then LM s
 else if o6 q1 8=0 then v9 s q0 {u5 s q0 with X:=q2.tmod 9000}
 else if o6 q1 8=1 then v9 s q0 {u5 s q0 with Y:=o6 q2 9}
 else if o6 q1 8=2 then v9 s q0 {u5 s q0 with sum:=(u5 s q0).sum+1}
 else if o6 q1 8=3 then v9 s q0 {u5 s q0 with a:=(u5 s q0).a+1}
 else if o6 q1 8=4 then v9 s q0 {u5 s q0 with blob:=vQ (u5 s q0).blob (o6 q2 (u5 s q0).blob.size).toNat (b8 q3)}
 else if o6 q1 8=5 then v9 s q0 {u5 s q0 with blob:=Q9 (u5 s q0).blob (o6 q2 ((u5 s q0).blob.size+1))}
 else if o6 q1 8=6 then v9 s q0 {u5 s q0 with blob:=(u5 s q0).blob++⟨#[120]⟩}
 else LM s
def Qu (s:List Int) (q0 q1 q2 q3:Int):ByteArray:=gS q2 q3 (n9 (LWc s q0 q1 q2 q3))
theorem Ec (p:ByteArray) (n:Int):(Q9 p n).size<=p.size:=by
 unfold Q9
 rw[ByteArray.size_extract];omega
theorem b2d (q2 q3:Int) (p:ByteArray):(gS q2 q3 p).size<=p.size:=by
 unfold gS
 cases dQ q3 with
 |true=>exact Nat.le_of_eq (nY _ _ _)
 |false=>
  cases eA q3 with
  |true=>exact Ec _ _
  |false=>exact Nat.le_refl _
theorem c5b (q1:Int):0<=o6 q1 8/\o6 q1 8<8:=E5 (by decide) (by decide)
section
variable {s:List Int} {q0:Int} (hl:0<(C0 s (F2 s)).length)
include hl
theorem G7:OkW (u5 s q0):=by
 rw[<-Mp q0 hl];exact a9r (F9 s) (by rw[K7];exact (J1 q0 hl).1)
theorem c3s (q2:Int):GoodW (v9 s q0 {u5 s q0 with X:=q2.tmod 9000}):=O3 (F9 s) _ ⟨by
 show -10000<=q2.tmod 9000/\q2.tmod 9000<=10000
 have h1:=Int.tmod_lt_of_pos q2 (show (0:Int)<9000 by decide)
 have e:(q2.tmod 9000).natAbs=q2.natAbs % 9000:=Int.natAbs_tmod q2 9000
 omega,(G7 hl).y,(G7 hl).s,(G7 hl).b⟩
theorem c4d (q2:Int):GoodW (v9 s q0 {u5 s q0 with Y:=o6 q2 9}):=O3 (F9 s) _ ⟨(G7 hl).x,by
 have h:=E5 (x:=q2) (n:=9) (by decide) (by decide)
 exact ⟨Int.le_trans (by decide) h.1,Int.le_of_lt (Int.lt_of_lt_of_le h.2 (by decide))⟩,(G7 hl).s,(G7 hl).b⟩
theorem b6w:GoodW (v9 s q0 {u5 s q0 with sum:=(u5 s q0).sum+1}):=O3 (F9 s) _ ⟨(G7 hl).x,(G7 hl).y,by
 have h:=(dL q0 hl).2.2
 generalize (u5 s q0).sum=z at h⊢
 show 0<=z+1/\z+1<8589934592
 omega,(G7 hl).b⟩
theorem c0g:GoodW (v9 s q0 {u5 s q0 with a:=(u5 s q0).a+1}):=O3 (F9 s) _ ⟨(G7 hl).x,(G7 hl).y,(G7 hl).s,(G7 hl).b⟩
theorem c2i (q2 q3:Int):GoodW (v9 s q0 {u5 s q0 with blob:=vQ (u5 s q0).blob (o6 q2 (u5 s q0).blob.size).toNat (b8 q3)}):=O3 (F9 s) _ ⟨(G7 hl).x,(G7 hl).y,(G7 hl).s,by
 show (vQ _ _ _).size<=258
 rw[nY];exact (G7 hl).b⟩
theorem b8b (q2:Int):GoodW (v9 s q0 {u5 s q0 with blob:=Q9 (u5 s q0).blob (o6 q2 ((u5 s q0).blob.size+1))}):=O3 (F9 s) _ ⟨(G7 hl).x,(G7 hl).y,(G7 hl).s,Nat.le_trans (Ec _ _) (G7 hl).b⟩
theorem b6b:GoodW (v9 s q0 {u5 s q0 with blob:=(u5 s q0).blob++⟨#[120]⟩}):=O3 (F9 s) _ ⟨(G7 hl).x,(G7 hl).y,(G7 hl).s,by
 show ((u5 s q0).blob++⟨#[120]⟩).size<=258
 rw[ByteArray.size_append]
 exact Nat.succ_le_succ (dL q0 hl).2.1⟩
end
theorem d2b (s:List Int) (q0 q1 q2 q3:Int):GoodW (LWc s q0 q1 q2 q3):=by
 unfold LWc
 by_cases h:(C0 s (F2 s)).length=0
 ·rw[if_pos h];exact F9 s
 have hl:0<(C0 s (F2 s)).length:=Nat.pos_of_ne_zero h
 rw[if_neg h]
 repeat' split
 ·exact c3s hl q2
 ·exact c4d hl q2
 ·exact b6w hl
 ·exact c0g hl
 ·exact c2i hl q2 q3
 ·exact b8b hl q2
 ·exact b6b hl
 ·exact F9 s
theorem b3q (s:List Int) (q0 q1 q2 q3:Int):(Qu s q0 q1 q2 q3).size<=100000000:=
 Nat.le_trans (b2d _ _ _) (dK (d2b s q0 q1 q2 q3)).2
theorem Hp (x:Leaf) (p:Nat) (s:List Int) (q0 q1 q2 q3:Int) (hx:G4 x p s) (hq3 : -9223372036854775808<=q3/\q3<=9223372036854775807):f4 prog 34 [.c (.l x),ag [li q0,li q1,li q2,li q3]] [(0,⟨J8 p s,.q⟩)] 1 (.c (.l (.v (.string (Qu s q0 q1 q2 q3))))) [] 0:=by
 unfold Qu LWc
 by_cases h:(C0 s (F2 s)).length=0
 ·rw[if_pos h];exact b6p x p s q0 q1 q2 q3 hx hq3 h (F9 s)
 have hl:0<(C0 s (F2 s)).length:=Nat.pos_of_ne_zero h
 rw[if_neg h]
 by_cases h0:o6 q1 8=0
 ·rw[if_pos h0];exact c6q x p s q0 q1 q2 q3 hx hq3 hl h0 (c3s hl q2)
 rw[if_neg h0]
 by_cases h1:o6 q1 8=1
 ·rw[if_pos h1];exact b8i x p s q0 q1 q2 q3 hx hq3 hl h1 (c4d hl q2)
 rw[if_neg h1]
 by_cases h2:o6 q1 8=2
 ·rw[if_pos h2];exact c4k x p s q0 q1 q2 q3 hx hq3 hl h2 (b6w hl)
 rw[if_neg h2]
 by_cases h3:o6 q1 8=3
 ·rw[if_pos h3];exact c3c x p s q0 q1 q2 q3 hx hq3 hl h3 (c0g hl)
 rw[if_neg h3]
 by_cases h4:o6 q1 8=4
 ·rw[if_pos h4];exact c3l x p s q0 q1 q2 q3 hx hq3 hl h4 (c2i hl q2 q3)
 rw[if_neg h4]
 by_cases h5:o6 q1 8=5
 ·rw[if_pos h5];exact c4b x p s q0 q1 q2 q3 hx hq3 hl h5 (b8b hl q2)
 rw[if_neg h5]
 by_cases h6:o6 q1 8=6
 ·rw[if_pos h6];exact b9d x p s q0 q1 q2 q3 hx hq3 hl h6 (b6b hl)
 rw[if_neg h6]
 have h8:=c5b q1
 exact b7r x p s q0 q1 q2 q3 hx hq3 hl (by omega) (F9 s)
end Ab
end
section
namespace Ab
attribute [local irreducible] j8
attribute [local irreducible] tl n8 t9 z6 jS Qu
def fS (f1 f2:ByteArray) (k:Nat):ByteArray:=if k=0 then f1 else f2
def oL (f1 f2:ByteArray) (k:Nat):List EN:=z6 (fS f1 f2 k)
def I9 (q0 q1 q2 q3:Int) (f1 f2:ByteArray) (k:Nat):St:=⟨[(9,iv .i64 (k:Nat)),(8,.c (.l (.p 2 0))),(7,bv true),(4,.c (.l (.p 1 0)))],[(1,some ⟨[li q0,li q1,li q2,li q3],.t 69⟩),(2,some ⟨[.v (.string f1),.v (.string f2)],.t 79⟩)],3,207,[2,1],(1)⟩
theorem xQ {x:Leaf} {p:Nat} {s:List Int} (q0 q1 q2 q3:Int) (h:G4 x p s) (hq3 : -9223372036854775808<=q3/\q3<=9223372036854775807) (n:Nat) (hn:0<n):f4 prog 34 [.c (.l x),ag [li q0,li q1,li q2,li q3]] [(0,⟨J8 p s,.q⟩)] n (.c (.l (.v (.string (Qu s q0 q1 q2 q3))))) [] 0:=by
 have e1:∀σ,(J8 p s).map (Leaf.ren σ)=J8 p s:=(E9 p s).2
 have c:=Hp x p s q0 q1 q2 q3 h hq3
 rcases h.2 with rfl|⟨rfl,rfl,o,c',rfl⟩
 ·have key:=f4.at1 c 0 n hn
  simp only[List.map_cons,List.map_nil,n6.ren,SV.ren,Cp.ren,Leaf.ren,BT.ren,e1] at key
  exact key
 ·have key:=f4.at1 c 0 n hn
  simp only[List.map_cons,List.map_nil,n6.ren,SV.ren,Cp.ren,Leaf.ren,BT.ren,e1] at key
  exact key
theorem a4v (f1 f2:ByteArray) {k z:Nat} (hk:k<2) (e:z=k):SV.c (.l ([.v (.string f1),.v (.string f2)].getD z .u))=.c (.l (.v (.string (fS f1 f2 k)))):=by
 subst e
 match z,hk with
 |0,_=>rfl
 |1,_=>rfl
theorem b7z {f1 f2:ByteArray} (h1:f1.size<=100000000) (h2:f2.size<=100000000) (k:Nat):(fS f1 f2 k).size<=100000000:=by
 unfold fS;split<;>assumption
theorem mP (x:Int):(x != x)=false:=by simp
def pU:Rw:=some fun _ _=>fun | [.c (.l (.v (.string q)))]=>some {v:=iv .i64 (jS q)}|_=>none
def a6m (q0 q1 q2 q3:Int) (f1 f2:ByteArray) (k:Nat):Cz:={
 ct:=(fun f=>match f with
 |15=>some fun _ _=>fun | [.c (.l (.v (.string q)))]=>some {v:=.tup [.l (.v (.pointer none)),.l (li (t9 q))]}|_=>none
 |33=>pU
 |35=>some fun _ _=>fun | [.c (.l (.v (.string q)))]=>some {v:=ag [.v (.pointer none),li (t9 q)]}|_=>none
 |36=>pU
 |_=>none)
 sym:=[43,44,49,50,66,67,70,71],nf:=[(44,.c (.l (.v (.string (fS f1 f2 k))))),(50,.c (.l (.v (.string (fS f1 f2 k))))),(67,.c (.l (.v (.string (fS f1 f2 k))))),(71,.c (.l (.v (.string (fS f1 f2 k))))),(55,bv false),(73,bv false)],wh:=[82]}
theorem R9e (q0 q1 q2 q3:Int) (f1 f2:ByteArray) (k:Nat)  (K:Exit->St->Prop) (h:let a:=((k:Int));let b:=[l9 f1,l9 f2];let d:=l4 (b.getD (0+a.toNat*1) Leaf.u);let e:=fS f1 f2 k;let f:=l4 (l9 e);let g:=[l4 (l9 e)];let i:=Value.pointer none;let j:=true=true->true=true/\True;let m:=false=false->true=true;let n:=true=true->true=true/\t0 a 2/\True;let o:=true=true->true=true/\0+a.toNat*1<2/\Le d f/\True;let q:=[(1,some (j9 [li q0,li q1,li q2,li q3] 69)),(2,some (j9 b 79))];HB (decide ((k:Int)<2)) (t0 a 2/\0+a.toNat*1<2/\Le d f/\Kd 15 [] g [] 3 (SV.tup [Cp.l (Leaf.v i),Cp.l (li (t9 e))]) [] 0/\t0 a 2/\0+a.toNat*1<2/\Le d f/\Kd 35 [] g [] 3 (ag [Leaf.v i,li (t9 e)]) [] 0/\0=0/\2=2/\Le (bv (t9 e != t9 e)) (bv false)/\j/\j/\j/\(true=true->true=true/\true=true/\True)/\m/\n/\o/\(true=true->true=true/\Kd 33 [] g [] 4 (i8 (jS e)) [] 0/\True)/\n/\o/\(true=true->true=true/\Kd 36 [] g [] 4 (i8 (jS e)) [] 0/\True)/\(true=true->true=true/\true=true/\Le (bv (jS e != jS e)) (bv false)/\True)/\m/\IntKind.i64.wrap ((k:Int)+1)=(k:Int)+1/\RoundTo prog (gl 4 Tryz.f9) 3 (wkK 3 K) (St.mk [(4,j7 1 0),(7,bv true),(8,j7 2 0),(9,i8 ((k:Int)+1))] q 4 207 [3,3,2,1] 1)) (wkK 3 K (Exit.exit 0) (St.mk [(4,j7 1 0),(7,bv true),(8,j7 2 0),(9,i8 (k:Int))] q 3 207 [2,1] 1))):z4 prog (gl 4 Tryz.f9) (I9 q0 q1 q2 q3 f1 f2 k) (wkK 3 K):=
 m5 [4,7,8,9] [1,2] (cx:=a6m q0 q1 q2 q3 f1 f2 k) rfl (u3 (by kernel_rfl) h)
theorem X5 {L:List EN} (w:Int->Int->Bool) (h:L.length<=1024):0<=A7 L w/\A7 L w<=1025:=by
 unfold A7
 cases e:P4 L w with
 |none=>
  have:=eQ L w L.length
  show 0<=B6 L w L.length/\B6 L w L.length<=1025
  omega
 |some j=>
  have hj:j<L.length:=by
   unfold P4 at e
   exact List.mem_range.1 (List.mem_of_find?_eq_some e)
  have:=eQ L w j
  show 0<=B6 L w j+1/\B6 L w j+1<=1025
  omega
theorem Vn {L:List EN} (g:GoodO L) (hx:P4 L l2=none) (id i n:Nat) (h1:id<n) (h2:i<n) (h3:id≠i):f4 prog 23 [.c (.l (.p id 0))] [(id,⟨[.o i L.length,li 0],.t 125⟩),(i,⟨o4 L,.r 123 8 i⟩)] n (.tup [.agg [.o n (v7 L l2 L.length).length],.l (li 0)]) [(id,⟨[.o i L.length,li (A7 L l2)],.t 125⟩),(n,⟨n8 (v7 L l2 L.length),.r 42 258 n⟩)] 1:=by
 have hb:=X5 (L:=L) l2 g.b.len
 have key:=a7n L 0 g.b (by decide) (by decide) hx id i n h1 h2 h3
 rw[<-(fU hx).2] at key
 rw[Int.zero_add] at key
 exact key
theorem Oq {L:List EN} (g:GoodO L) (hx:P4 L l2≠none) (id i n:Nat) (h1:id<n) (h2:i<n) (h3:id≠i):f4 prog 23 [.c (.l (.p id 0))] [(id,⟨[.o i L.length,li 0],.t 125⟩),(i,⟨o4 L,.r 123 8 i⟩)] n (.tup [.agg [.v (.slice none 0 0)],.l (li (M9 L l2))]) [(id,⟨[.o i L.length,li (A7 L l2)],.t 125⟩)] 0:=by
 have hb:=X5 (L:=L) l2 g.b.len
 have key:=a3d L 0 g.b (by decide) (by decide) hx id i n h1 h2 h3
 rw[Int.zero_add] at key
 exact key
theorem a0p {L:List EN} (g:GoodO L) (hx:P4 L l2=none) (id i n:Nat) (h1:id<n) (h2:i<n) (h3:id≠i):f4 prog 37 [.c (.l (.p id 0))] [(id,⟨[.o i L.length,li 0],.t 91⟩),(i,⟨o4 L,.r 59 8 i⟩)] n (.c (.agg (tl zT++[.o n (v7 L l2 L.length).length,li 0]))) [(id,⟨[.o i L.length,li (A7 L l2)],.t 91⟩),(n,⟨n8 (v7 L l2 L.length),.r 42 258 n⟩)] 1:=by
 have hb:=X5 (L:=L) l2 g.b.len
 have key:=a0q L 0 g.b g.x (by decide) (by decide) hx id i n h1 h2 h3
 rw[<-(fU hx).2] at key
 rw[Int.zero_add] at key
 exact key
theorem Ri {L:List EN} (g:GoodO L) (hx:P4 L l2≠none) (id i n:Nat) (h1:id<n) (h2:i<n) (h3:id≠i):f4 prog 37 [.c (.l (.p id 0))] [(id,⟨[.o i L.length,li 0],.t 91⟩),(i,⟨o4 L,.r 59 8 i⟩)] n (.c (.agg (t5 zT (M9 L l2)))) [(id,⟨[.o i L.length,li (A7 L l2)],.t 91⟩)] 0:=by
 have hb:=X5 (L:=L) l2 g.b.len
 have key:=Ry L 0 g.b g.x (by decide) (by decide) hx id i n h1 h2 h3
 rw[Int.zero_add] at key
 exact key
theorem a1u {L:List EN} {c:R4} (g:GoodO L) (hx:P4 L (wR c)=none) (id i n:Nat) (h1:id<n) (h2:i<n) (h3:id≠i):f4 prog 24 [.c (.l (.p id 0)),ag [li c.x0,li c.y0,li c.x1,li c.y1]] [(id,⟨[.o i L.length,li (A7 L l2)],.t 125⟩),(i,⟨o4 L,.r 123 8 i⟩)] n (.tup [.agg [.o n (C8 c (v7 L (wR c) L.length) (v7 L (wR c) L.length).length).length],.l (li 0)]) [(id,⟨[.o i L.length,li ((A7 L l2)+A7 L (wR c))],.t 125⟩),(n,⟨n8 (C8 c (v7 L (wR c) L.length) (v7 L (wR c) L.length).length),.r 42 258 n⟩)] 1:=by
 have hb:=X5 (L:=L) l2 g.b.len
 have key:=Ws L (A7 L l2) c g.b g.x (by omega) (by omega) hx (bU g (wR c) hx _ (Nat.le_refl _)) id i n h1 h2 h3
 rw[<-(fU hx).2] at key
 rw[<-Int.add_zero ((A7 L l2)+A7 L (wR c)),Int.add_zero] at key
 exact key
theorem Re {L:List EN} {c:R4} (g:GoodO L) (hx:P4 L (wR c)≠none) (id i n:Nat) (h1:id<n) (h2:i<n) (h3:id≠i):f4 prog 24 [.c (.l (.p id 0)),ag [li c.x0,li c.y0,li c.x1,li c.y1]] [(id,⟨[.o i L.length,li (A7 L l2)],.t 125⟩),(i,⟨o4 L,.r 123 8 i⟩)] n (.tup [.agg [.v (.slice none 0 0)],.l (li (M9 L (wR c)))]) [(id,⟨[.o i L.length,li ((A7 L l2)+A7 L (wR c))],.t 125⟩)] 0:=by
 have hb:=X5 (L:=L) l2 g.b.len
 have key:=Nj L (A7 L l2) c g.b g.x (by omega) (by omega) hx id i n h1 h2 h3
 rw[<-Int.add_zero ((A7 L l2)+A7 L (wR c)),Int.add_zero] at key
 exact key
theorem a3w {L:List EN} {c:R4} (g:GoodO L) (hx:P4 L (wR c)=none) (id i n:Nat) (h1:id<n) (h2:i<n) (h3:id≠i):f4 prog 38 [.c (.l (.p id 0)),ag [li c.x0,li c.y0,li c.x1,li c.y1]] [(id,⟨[.o i L.length,li (A7 L l2)],.t 91⟩),(i,⟨o4 L,.r 59 8 i⟩)] n (.c (.agg (tl zT++[.o n (C8 c (v7 L (wR c) L.length) (v7 L (wR c) L.length).length).length,li 0]))) [(id,⟨[.o i L.length,li ((A7 L l2)+A7 L (wR c))],.t 91⟩),(n,⟨n8 (C8 c (v7 L (wR c) L.length) (v7 L (wR c) L.length).length),.r 42 258 n⟩)] 1:=by
 have hb:=X5 (L:=L) l2 g.b.len
 have key:=Mb L (A7 L l2) c g.b g.x (by omega) (by omega) hx (bU g (wR c) hx _ (Nat.le_refl _)) id i n h1 h2 h3
 rw[<-(fU hx).2] at key
 rw[<-Int.add_zero ((A7 L l2)+A7 L (wR c)),Int.add_zero] at key
 exact key
theorem Km {L:List EN} {c:R4} (g:GoodO L) (hx:P4 L (wR c)≠none) (id i n:Nat) (h1:id<n) (h2:i<n) (h3:id≠i):f4 prog 38 [.c (.l (.p id 0)),ag [li c.x0,li c.y0,li c.x1,li c.y1]] [(id,⟨[.o i L.length,li (A7 L l2)],.t 91⟩),(i,⟨o4 L,.r 59 8 i⟩)] n (.c (.agg (t5 zT (M9 L (wR c))))) [(id,⟨[.o i L.length,li ((A7 L l2)+A7 L (wR c))],.t 91⟩)] 0:=by
 have hb:=X5 (L:=L) l2 g.b.len
 have key:=Id L (A7 L l2) c g.b g.x (by omega) (by omega) hx id i n h1 h2 h3
 rw[<-Int.add_zero ((A7 L l2)+A7 L (wR c)),Int.add_zero] at key
 exact key
def d0d (S:St) (i:Nat):SV:=match S.blk i with|some ⟨[_,.v (.int _ d)],_⟩=>iv .i64 d|_=>.u
theorem Kh {f1 f2:ByteArray} {k:Nat} (hs:(fS f1 f2 k).size<=1000000000000000000) (he:t9 (fS f1 f2 k)=0) (n:Nat):f4 prog 15 [.c (.l (.v (.string (fS f1 f2 k))))] [] n (.tup [.l (.p n 0),.l (li 0)]) [(n,⟨[.o (n+1) (oL f1 f2 k).length,li 0],.t 125⟩),(n+1,⟨o4 (oL f1 f2 k),.r 123 8 (n+1)⟩)] 2:=Dx _ hs he n
theorem Gq {f1 f2:ByteArray} {k:Nat} (hs:(fS f1 f2 k).size<=1000000000000000000) (he:t9 (fS f1 f2 k)=0) (n:Nat):f4 prog 35 [.c (.l (.v (.string (fS f1 f2 k))))] [] n (ag [.p n 0,li 0]) [(n,⟨[.o (n+1) (oL f1 f2 k).length,li 0],.t 91⟩),(n+1,⟨o4 (oL f1 f2 k),.r 59 8 (n+1)⟩)] 2:=oJ _ hs he n
def Yc:Rw:=some fun _ _=>fun | [.c (.l (.v (.int _ x))),.c (.l (.v (.int _ n)))]=>some {v:=iv .i64 (o6 x n)}|_=>none
def Xi (f1:ByteArray) (f2:ByteArray) (k:Nat):Rw:=some fun _ _S=>fun | [.c (.l (.v (.string q)))]=>some {v:=.tup [.l (.p _S.n 0),.l (li 0)],wr:=[(_S.n,⟨[.o (_S.n+1) (oL f1 f2 k).length,li 0],.t 125⟩),(_S.n+1,⟨o4 (oL f1 f2 k),.r 123 8 (_S.n+1)⟩)],nw:=2}|_=>none
def Vh (q2:Int) (f1:ByteArray) (f2:ByteArray) (k:Nat):Rw:=some fun _ _=>fun | [.c (.l (.p i _)),_]=>some {v:=.tup [.agg (tl (m8 (X8 (oL f1 f2 k) (o6 q2 3-1) 0 (oL f1 f2 k).length))),.l (li 0)],rd:=[i,i+1]}|_=>none
def Uz:Rw:=some fun _ _S=>fun | [.c (.l (.p i _))]=>some {v:=d0d _S i,rd:=[i]}|_=>none
def Uj (q0:Int) (q1:Int) (q2:Int) (q3:Int) (f1:ByteArray) (f2:ByteArray) (k:Nat):Rw:=some fun _ _=>fun | [.c (.l (.p i _)),_]=>some {v:=.tup [.agg (tl (pQ (oL f1 f2 k) (o6 q0 9-3) (o6 q1 4))),.l (li (pL (oL f1 f2 k) (o6 q0 9-3) (o6 q1 4)))],rd:=[i,i+1],wr:=[(i,⟨[.o (i+1) (oL f1 f2 k).length,li ((A7 (oL f1 f2 k) l2+A7 (oL f1 f2 k) (wR (S1 q0 q1 q2 q3)))+vO (oL f1 f2 k) (o6 q0 9-3) (o6 q1 4))],.t 125⟩)]}|_=>none
def c3p (f1:ByteArray) (f2:ByteArray) (k:Nat):Rw:=some fun _ _S=>fun | [.c (.l (.p i _))]=>some {v:=.tup [.agg [.o _S.n (v7 (oL f1 f2 k) l2 (oL f1 f2 k).length).length],.l (li 0)],rd:=[i,i+1],wr:=[(i,⟨[.o (i+1) (oL f1 f2 k).length,li (A7 (oL f1 f2 k) l2)],.t 125⟩),(_S.n,⟨n8 (v7 (oL f1 f2 k) l2 (oL f1 f2 k).length),.r 42 258 _S.n⟩)],nw:=1}|_=>none
def b6f (q0:Int) (q1:Int) (q2:Int) (q3:Int) (f1:ByteArray) (f2:ByteArray) (k:Nat):Rw:=some fun _ _S=>fun | [.c (.l (.p i _)),_]=>some {v:=.tup [.agg [.o _S.n (C8 (S1 q0 q1 q2 q3) (v7 (oL f1 f2 k) (wR (S1 q0 q1 q2 q3)) (oL f1 f2 k).length) (v7 (oL f1 f2 k) (wR (S1 q0 q1 q2 q3)) (oL f1 f2 k).length).length).length],.l (li 0)],rd:=[i,i+1],wr:=[(i,⟨[.o (i+1) (oL f1 f2 k).length,li (A7 (oL f1 f2 k) l2+A7 (oL f1 f2 k) (wR (S1 q0 q1 q2 q3)))],.t 125⟩),(_S.n,⟨n8 (C8 (S1 q0 q1 q2 q3) (v7 (oL f1 f2 k) (wR (S1 q0 q1 q2 q3)) (oL f1 f2 k).length) (v7 (oL f1 f2 k) (wR (S1 q0 q1 q2 q3)) (oL f1 f2 k).length).length),.r 42 258 _S.n⟩)],nw:=1}|_=>none
def Tz (f1:ByteArray) (f2:ByteArray) (k:Nat):Rw:=some fun _ _=>fun | [.c (.l (.p i _))]=>some {v:=iv .i64 ((oL f1 f2 k).length:Nat),rd:=[i]}|_=>none
def yT (f1:ByteArray) (f2:ByteArray) (k:Nat):Rw:=some fun _ _=>fun | [.c (.l (.p i _))]=>some {v:=ag [li (U6 (oL f1 f2 k) (oL f1 f2 k).length).x0,li (U6 (oL f1 f2 k) (oL f1 f2 k).length).y0,li (U6 (oL f1 f2 k) (oL f1 f2 k).length).x1,li (U6 (oL f1 f2 k) (oL f1 f2 k).length).y1],rd:=[i,i+1]}|_=>none
def a0b (f1:ByteArray) (f2:ByteArray) (k:Nat):Rw:=some fun _ _S=>fun | [.c (.l (.v (.string q)))]=>some {v:=ag [.p _S.n 0,li 0],wr:=[(_S.n,⟨[.o (_S.n+1) (oL f1 f2 k).length,li 0],.t 91⟩),(_S.n+1,⟨o4 (oL f1 f2 k),.r 59 8 (_S.n+1)⟩)],nw:=2}|_=>none
def c5m (f1:ByteArray) (f2:ByteArray) (k:Nat):Rw:=some fun _ _S=>fun | [.c (.l (.p i _))]=>some {v:=.c (.agg (tl zT++[.o _S.n (v7 (oL f1 f2 k) l2 (oL f1 f2 k).length).length,li 0])),rd:=[i,i+1],wr:=[(i,⟨[.o (i+1) (oL f1 f2 k).length,li (A7 (oL f1 f2 k) l2)],.t 91⟩),(_S.n,⟨n8 (v7 (oL f1 f2 k) l2 (oL f1 f2 k).length),.r 42 258 _S.n⟩)],nw:=1}|_=>none
def c4t (q0:Int) (q1:Int) (q2:Int) (q3:Int) (f1:ByteArray) (f2:ByteArray) (k:Nat):Rw:=some fun _ _S=>fun | [.c (.l (.p i _)),_]=>some {v:=.c (.agg (tl zT++[.o _S.n (C8 (S1 q0 q1 q2 q3) (v7 (oL f1 f2 k) (wR (S1 q0 q1 q2 q3)) (oL f1 f2 k).length) (v7 (oL f1 f2 k) (wR (S1 q0 q1 q2 q3)) (oL f1 f2 k).length).length).length,li 0])),rd:=[i,i+1],wr:=[(i,⟨[.o (i+1) (oL f1 f2 k).length,li (A7 (oL f1 f2 k) l2+A7 (oL f1 f2 k) (wR (S1 q0 q1 q2 q3)))],.t 91⟩),(_S.n,⟨n8 (C8 (S1 q0 q1 q2 q3) (v7 (oL f1 f2 k) (wR (S1 q0 q1 q2 q3)) (oL f1 f2 k).length) (v7 (oL f1 f2 k) (wR (S1 q0 q1 q2 q3)) (oL f1 f2 k).length).length),.r 42 258 _S.n⟩)],nw:=1}|_=>none
def a2o (q0:Int) (q1:Int) (q2:Int) (q3:Int) (f1:ByteArray) (f2:ByteArray) (k:Nat):Rw:=some fun _ _=>fun | [.c (.l (.p i _)),_]=>some {v:=.c (.agg (t5 (pQ (oL f1 f2 k) (o6 q0 9-3) (o6 q1 4)) (pL (oL f1 f2 k) (o6 q0 9-3) (o6 q1 4)))),rd:=[i,i+1],wr:=[(i,⟨[.o (i+1) (oL f1 f2 k).length,li ((A7 (oL f1 f2 k) l2+A7 (oL f1 f2 k) (wR (S1 q0 q1 q2 q3)))+vO (oL f1 f2 k) (o6 q0 9-3) (o6 q1 4))],.t 91⟩)]}|_=>none
def Xq (q2:Int) (f1:ByteArray) (f2:ByteArray) (k:Nat):Rw:=some fun _ _=>fun | [.c (.l (.p i _)),_]=>some {v:=.c (.agg (tl (m8 (X8 (oL f1 f2 k) (o6 q2 3-1) 0 (oL f1 f2 k).length)))),rd:=[i,i+1]}|_=>none
def a1j (q0 q1 q2 q3:Int) (f1 f2:ByteArray) (k:Nat):Cz:={
 ct:=(fun f=>match f with
 |14=>Yc
 |15=>Xi f1 f2 k
 |16=>Vh q2 f1 f2 k
 |19=>Uz
 |22=>Uj q0 q1 q2 q3 f1 f2 k
 |23=>c3p f1 f2 k
 |24=>b6f q0 q1 q2 q3 f1 f2 k
 |25=>Tz f1 f2 k
 |26=>yT f1 f2 k
 |27=>some fun _ _=>fun | [.c (.agg [.v (.int _ q0),.v (.int _ q1),.v (.int _ q2),.v (.int _ q3)])]=>some {v:=ag [li (S1 q0 q1 q2 q3).x0,li (S1 q0 q1 q2 q3).y0,li (S1 q0 q1 q2 q3).x1,li (S1 q0 q1 q2 q3).y1]}|_=>none
 |33=>pU
 |35=>a0b f1 f2 k
 |36=>pU
 |37=>c5m f1 f2 k
 |38=>c4t q0 q1 q2 q3 f1 f2 k
 |39=>a2o q0 q1 q2 q3 f1 f2 k
 |40=>some fun _ap _S ar=>match _ap,ar with
  |_,[.c (.agg [.o i _]),.c (.agg [.o j _])]=>some {v:=bv true,rd:=[i,j]}
  |_,[.c (.agg [.v _]),.c (.agg [.v _])]=>some {v:=bv true}
  |_,_=>none
 |41=>Xq q2 f1 f2 k
 |42=>yT f1 f2 k
 |_=>none)
 eq:=(fun t=>match t with
 |38=>some (fun xs ys=>m7 (A1 xs) (A1 ys))
 |66=>some (fun xs ys=>match xs,ys with | [.v (.int _ a0),.v (.int _ a1),.v (.int _ a2),.v (.int _ a3)],[.v (.int _ b0),.v (.int _ b1),.v (.int _ b2),.v (.int _ b3)]=>(a0==b0&&(a1==b1&&(a2==b2&&a3==b3)))|_,_=>false)
 |_=>none)
 sym:=[43,44,49,50,66,67,70,71],nf:=[(44,.c (.l (.v (.string (fS f1 f2 k))))),(50,.c (.l (.v (.string (fS f1 f2 k))))),(67,.c (.l (.v (.string (fS f1 f2 k))))),(71,.c (.l (.v (.string (fS f1 f2 k))))),(55,bv false),(73,bv false),(147,bv false),(153,bv false),(159,bv false),(171,bv false),(186,bv false),(194,bv false),(204,bv false),(136,.c (.agg (tl (pQ (oL f1 f2 k) (o6 q0 9-3) (o6 q1 4))))),(138,.c (.agg (tl (pQ (oL f1 f2 k) (o6 q0 9-3) (o6 q1 4))))),(139,bv true),(162,.c (.agg (tl (m8 (X8 (oL f1 f2 k) (o6 q2 3-1) 0 (oL f1 f2 k).length)))))],wh:=[82,66,40,26,38,85]}
theorem d0u (q0 q1 q2 q3:Int) (f1 f2:ByteArray) (k:Nat)  (K:Exit->St->Prop) (h:let a:=((k:Int));let b:=[l9 f1,l9 f2];let d:=l4 (b.getD (0+a.toNat*1) Leaf.u);let e:=fS f1 f2 k;let f:=l4 (l9 e);let g:=[l4 (l9 e)];let i:=oL f1 f2 k;let j:=(4,o8 (o4 i) 123 8 4);let m:=[(3,j9 [Leaf.o 4 i.length,li 0] 125),j];let n:=(6,o8 (o4 i) 59 8 6);let q:=[(5,j9 [Leaf.o 6 i.length,li 0] 91),n];let s:=bv false;let w:=true=true->true=true/\True;let x:=false=false->true=true;let y:=true=true->true=true/\t0 a 2/\True;let z:=true=true->true=true/\0+a.toNat*1<2/\Le d f/\True;let A:=[li q0,li q1,li q2,li q3];let B:=S1 q0 q1 q2 q3;let C:=[li B.x0,li B.y0,li B.x1,li B.y1];let D:=o6 q0 9-3;let E:=o6 q1 4;let G:=[j7 3 0];let H:=v7 i l2 i.length;let I:=[Leaf.o 10 H.length];let J:=(3,j9 [Leaf.o 4 i.length,li (A7 i l2)] 125);let L:=(10,o8 (n8 H) 42 258 10);let M:=wR B;let N:=v7 i M i.length;let O:=C8 B N N.length;let P:=[Leaf.o 12 O.length];let Q:=A7 i l2+A7 i M;let R:=(3,j9 [Leaf.o 4 i.length,li Q] 125);let T:=(12,o8 (n8 O) 42 258 12);let U:=tl (pQ i D E);let V:=A7 i l2+A7 i M+vO i D E;let W:=(3,j9 [Leaf.o 4 i.length,li V] 125);let X:=i8 (o6 q2 3);let Y:=o6 q2 3-1;let Z:=tl (m8 (X8 i Y 0 i.length));let aa:=(5,j9 [Leaf.o 6 i.length,li (A7 i l2)] 91);let ab:=(16,o8 (n8 H) 42 258 16);let ac:=(5,j9 [Leaf.o 6 i.length,li Q] 91);let ad:=(18,o8 (n8 O) 42 258 18);let ae:=t5 (pQ i D E) (pL i D E);let af:=(5,j9 [Leaf.o 6 i.length,li V] 91);let ah:=bv true;let ai:=true=true->true=true;let aj:=m7 (A1 U) (A1 U);let ak:=true=true->true=true/\true=true/\Le s s/\True;let al:=A1 Z;let am:=(i.length:Int);let an:=U6 i i.length;let ao:=[li an.x0,li an.y0,li an.x1,li an.y1];let ap:=an.x0==an.x0&&(an.y0==an.y0&&(an.x1==an.x1&&an.y1==an.y1));let aq:=[(1,some (j9 A 69)),(2,some (j9 b 79))];HB (decide ((k:Int)<2)) (t0 a 2/\0+a.toNat*1<2/\Le d f/\Kd 15 [] g [] 3 (SV.tup [Cp.l (Leaf.p 3 0),Cp.l (li 0)]) m 2/\t0 a 2/\0+a.toNat*1<2/\Le d f/\Kd 35 [] g [] 5 (ag [Leaf.p 5 0,li 0]) q 2/\0=0/\2=2/\Le s s/\w/\w/\w/\(true=true->true=true/\true=true/\True)/\x/\y/\z/\(true=true->true=true/\Kd 33 [] g [] 8 (i8 (jS e)) [] 0/\True)/\y/\z/\(true=true->true=true/\Kd 36 [] g [] 8 (i8 (jS e)) [] 0/\True)/\(true=true->true=true/\true=true/\Le (bv (jS e != jS e)) s/\True)/\x/\Kd 27 [] [ag A] [] 8 (ag C) [] 0/\0=0/\4=4/\Kd 14 [] [i8 q0,i8 9] [] 9 (i8 (o6 q0 9)) [] 0/\IntKind.i64.wrap D=o6 q0 9-3/\Kd 14 [] [i8 q1,i8 4] [] 9 (i8 E) [] 0/\0=0/\2=2/\Kd 23 [] G m 10 (SV.tup [Cp.agg I,Cp.l (li 0)]) [J,L] 1/\0=0/\1=1/\Kd 24 [] [j7 3 0,ag C] [J,j] 12 (SV.tup [Cp.agg P,Cp.l (li 0)]) [R,T] 1/\0=0/\1=1/\Kd 22 [] [j7 3 0,ag [li D,li E]] [R,j] 14 (SV.tup [Cp.agg U,Cp.l (li (pL i D E))]) [W] 0/\0=0/\256=256/\Kd 14 [] [i8 q2,i8 3] [] 15 X [] 0/\IntKind.i64.wrap Y=o6 q2 3-1/\Kd 16 [] [j7 3 0,ag [li Y,li 0]] [W,j] 15 (SV.tup [Cp.agg Z,Cp.l (li 0)]) [] 0/\0=0/\256=256/\Kd 37 [] [j7 5 0] q 16 (ag (tl (zT)++[Leaf.o 16 H.length,li 0])) [aa,ab] 1/\0=0/\258=258/\Kd 38 [] [j7 5 0,ag C] [aa,n] 18 (ag (tl (zT)++[Leaf.o 18 O.length,li 0])) [ac,ad] 1/\0=0/\258=258/\Kd 39 [] [j7 5 0,ag [li D,li E]] [ac,n] 20 (ag ae) [af] 0/\0=0/\258=258/\Kd 40 [] [ag I,ag [Leaf.o 16 H.length]] [L,ab] 21 ah [] 0/\w/\(true=true->true=true/\true=true/\Kd 40 [] [ag P,ag [Leaf.o 18 O.length]] [T,ad] 21 ah [] 0/\True)/\ai/\(true=true->Le (ag (List.take 256 U)) (ag U)/\True)/\(true=true->true=true/\Le (ag (List.take 256 ae)) (ag U)/\True)/\(true=true->true=true/\true=true/\H4 prog 38 U U aj/\Le (bv aj) ah/\True)/\ai/\w/\ak/\x/\w/\ak/\x/\w/\(true=true->true=true/\true=true/\Le (bv (pL i D E != pL i D E)) s/\True)/\x/\(true=true->Le (ag (List.take 256 Z)) (ag Z)/\True)/\w/\w/\(true=true->true=true/\Kd 14 [] [i8 q2,i8 3] [] 21 X [] 0/\True)/\(true=true->true=true/\IntKind.i64.wrap Y=o6 q2 3-1/\True)/\w/\(true=true->true=true/\true=true/\Kd 41 [] [j7 5 0,ag [li Y,li 0]] [af,n] 21 (ag Z) [] 0/\True)/\(true=true->true=true/\true=true/\H4 prog 38 Z Z (m7 al al)/\Le (bv !m7 al al) s/\True)/\x/\w/\x/\(true=true->true=true/\Kd 25 [] G [W] 21 (i8 am) [] 0/\True)/\w/\w/\w/\w/\w/\(true=true->true=true/\true=true/\Le (bv (am != am)) s/\True)/\x/\(true=true->true=true/\Kd 26 [] G [W,j] 21 (ag ao) [] 0/\True)/\w/\(true=true->true=true/\Kd 42 [] [j7 5 0] [af,n] 21 (ag ao) [] 0/\True)/\(true=true->true=true/\true=true/\H4 prog 66 ao ao ap/\Le (bv !ap) s/\True)/\x/\(true=true->true=true/\Kd 19 [] G [W] 21 (i8 V) [] 0/\True)/\w/\w/\w/\w/\(true=true->true=true/\true=true/\Le (bv (A7 i l2+A7 i M+vO i D E != A7 i l2+A7 i M+vO i D E)) s/\True)/\x/\IntKind.i64.wrap ((k:Int)+1)=(k:Int)+1/\RoundTo prog (gl 4 Tryz.f9) 3 (wkK 3 K) (St.mk [(4,j7 1 0),(7,bv true),(8,j7 2 0),(9,i8 ((k:Int)+1))] aq 21 207 [20,20,5,19,19,5,18,17,17,5,16,15,15,14,14,3,13,13,3,12,11,11,3,10,9,9,8,8,7,7,5,6,3,4,2,1] 1)) (wkK 3 K (Exit.exit 0) (St.mk [(4,j7 1 0),(7,bv true),(8,j7 2 0),(9,i8 (k:Int))] aq 3 207 [2,1] 1))):z4 prog (gl 4 Tryz.f9) (I9 q0 q1 q2 q3 f1 f2 k) (wkK 3 K):=
 m5 [4,7,8,9] [1,2] (cx:=a1j q0 q1 q2 q3 f1 f2 k) rfl (u3 (by kernel_rfl) h)
def c5e (q0:Int) (q1:Int) (q2:Int) (q3:Int) (f1:ByteArray) (f2:ByteArray) (k:Nat):Rw:=some fun _ _=>fun | [.c (.l (.p i _)),_]=>some {v:=.tup [.agg [.v (.slice none 0 0)],.l (li (M9 (oL f1 f2 k) (wR (S1 q0 q1 q2 q3))))],rd:=[i,i+1],wr:=[(i,⟨[.o (i+1) (oL f1 f2 k).length,li (A7 (oL f1 f2 k) l2+A7 (oL f1 f2 k) (wR (S1 q0 q1 q2 q3)))],.t 125⟩)]}|_=>none
def c2f (q0:Int) (q1:Int) (q2:Int) (q3:Int) (f1:ByteArray) (f2:ByteArray) (k:Nat):Rw:=some fun _ _=>fun | [.c (.l (.p i _)),_]=>some {v:=.c (.agg (t5 zT (M9 (oL f1 f2 k) (wR (S1 q0 q1 q2 q3))))),rd:=[i,i+1],wr:=[(i,⟨[.o (i+1) (oL f1 f2 k).length,li (A7 (oL f1 f2 k) l2+A7 (oL f1 f2 k) (wR (S1 q0 q1 q2 q3)))],.t 91⟩)]}|_=>none
def Xz (q0 q1 q2 q3:Int) (f1 f2:ByteArray) (k:Nat):Cz:={
 ct:=(fun f=>match f with
 |14=>Yc
 |15=>Xi f1 f2 k
 |16=>Vh q2 f1 f2 k
 |19=>Uz
 |22=>Uj q0 q1 q2 q3 f1 f2 k
 |23=>c3p f1 f2 k
 |24=>c5e q0 q1 q2 q3 f1 f2 k
 |25=>Tz f1 f2 k
 |26=>yT f1 f2 k
 |27=>some fun _ _=>fun | [.c (.agg [.v (.int _ q0),.v (.int _ q1),.v (.int _ q2),.v (.int _ q3)])]=>some {v:=ag [li (S1 q0 q1 q2 q3).x0,li (S1 q0 q1 q2 q3).y0,li (S1 q0 q1 q2 q3).x1,li (S1 q0 q1 q2 q3).y1]}|_=>none
 |33=>pU
 |35=>a0b f1 f2 k
 |36=>pU
 |37=>c5m f1 f2 k
 |38=>c2f q0 q1 q2 q3 f1 f2 k
 |39=>a2o q0 q1 q2 q3 f1 f2 k
 |40=>some fun _ap _S ar=>match _ap,ar with
  |_,[.c (.agg [.o i _]),.c (.agg [.o j _])]=>some {v:=bv true,rd:=[i,j]}
  |_,[.c (.agg [.v _]),.c (.agg [.v _])]=>some {v:=bv true}
  |_,_=>none
 |41=>Xq q2 f1 f2 k
 |42=>yT f1 f2 k
 |_=>none)
 eq:=(fun t=>match t with
 |38=>some (fun xs ys=>m7 (A1 xs) (A1 ys))
 |66=>some (fun xs ys=>match xs,ys with | [.v (.int _ a0),.v (.int _ a1),.v (.int _ a2),.v (.int _ a3)],[.v (.int _ b0),.v (.int _ b1),.v (.int _ b2),.v (.int _ b3)]=>(a0==b0&&(a1==b1&&(a2==b2&&a3==b3)))|_,_=>false)
 |_=>none)
 sym:=[43,44,49,50,66,67,70,71],nf:=[(44,.c (.l (.v (.string (fS f1 f2 k))))),(50,.c (.l (.v (.string (fS f1 f2 k))))),(67,.c (.l (.v (.string (fS f1 f2 k))))),(71,.c (.l (.v (.string (fS f1 f2 k))))),(55,bv false),(73,bv false),(147,bv false),(153,bv false),(159,bv false),(171,bv false),(186,bv false),(194,bv false),(204,bv false),(136,.c (.agg (tl (pQ (oL f1 f2 k) (o6 q0 9-3) (o6 q1 4))))),(138,.c (.agg (tl (pQ (oL f1 f2 k) (o6 q0 9-3) (o6 q1 4))))),(139,bv true),(162,.c (.agg (tl (m8 (X8 (oL f1 f2 k) (o6 q2 3-1) 0 (oL f1 f2 k).length))))),(132,ag [.v (.slice none 0 0)])],wh:=[82,66,40,26,38,85]}
theorem d0a (q0 q1 q2 q3:Int) (f1 f2:ByteArray) (k:Nat)  (K:Exit->St->Prop) (h:let a:=((k:Int));let b:=[l9 f1,l9 f2];let d:=l4 (b.getD (0+a.toNat*1) Leaf.u);let e:=fS f1 f2 k;let f:=l4 (l9 e);let g:=[l4 (l9 e)];let i:=oL f1 f2 k;let j:=(4,o8 (o4 i) 123 8 4);let m:=[(3,j9 [Leaf.o 4 i.length,li 0] 125),j];let n:=(6,o8 (o4 i) 59 8 6);let q:=[(5,j9 [Leaf.o 6 i.length,li 0] 91),n];let s:=bv false;let w:=true=true->true=true/\True;let x:=false=false->true=true;let y:=true=true->true=true/\t0 a 2/\True;let z:=true=true->true=true/\0+a.toNat*1<2/\Le d f/\True;let A:=[li q0,li q1,li q2,li q3];let B:=S1 q0 q1 q2 q3;let C:=[li B.x0,li B.y0,li B.x1,li B.y1];let D:=o6 q0 9-3;let E:=o6 q1 4;let G:=[j7 3 0];let H:=v7 i l2 i.length;let I:=[Leaf.o 10 H.length];let J:=(3,j9 [Leaf.o 4 i.length,li (A7 i l2)] 125);let L:=(10,o8 (n8 H) 42 258 10);let M:=[Leaf.v (Value.slice none 0 0)];let N:=wR B;let O:=A7 i l2+A7 i N;let P:=(3,j9 [Leaf.o 4 i.length,li O] 125);let Q:=tl (pQ i D E);let R:=A7 i l2+A7 i N+vO i D E;let T:=(3,j9 [Leaf.o 4 i.length,li R] 125);let U:=i8 (o6 q2 3);let V:=o6 q2 3-1;let W:=tl (m8 (X8 i V 0 i.length));let X:=(5,j9 [Leaf.o 6 i.length,li (A7 i l2)] 91);let Y:=(15,o8 (n8 H) 42 258 15);let Z:=t5 zT (M9 i N);let aa:=(5,j9 [Leaf.o 6 i.length,li O] 91);let ab:=t5 (pQ i D E) (pL i D E);let ac:=(5,j9 [Leaf.o 6 i.length,li R] 91);let ad:=bv true;let ae:=true=true->true=true;let af:=m7 (A1 Q) (A1 Q);let ah:=A1 W;let ai:=(i.length:Int);let aj:=U6 i i.length;let ak:=[li aj.x0,li aj.y0,li aj.x1,li aj.y1];let al:=aj.x0==aj.x0&&(aj.y0==aj.y0&&(aj.x1==aj.x1&&aj.y1==aj.y1));let am:=[(1,some (j9 A 69)),(2,some (j9 b 79))];HB (decide ((k:Int)<2)) (t0 a 2/\0+a.toNat*1<2/\Le d f/\Kd 15 [] g [] 3 (SV.tup [Cp.l (Leaf.p 3 0),Cp.l (li 0)]) m 2/\t0 a 2/\0+a.toNat*1<2/\Le d f/\Kd 35 [] g [] 5 (ag [Leaf.p 5 0,li 0]) q 2/\0=0/\2=2/\Le s s/\w/\w/\w/\(true=true->true=true/\true=true/\True)/\x/\y/\z/\(true=true->true=true/\Kd 33 [] g [] 8 (i8 (jS e)) [] 0/\True)/\y/\z/\(true=true->true=true/\Kd 36 [] g [] 8 (i8 (jS e)) [] 0/\True)/\(true=true->true=true/\true=true/\Le (bv (jS e != jS e)) s/\True)/\x/\Kd 27 [] [ag A] [] 8 (ag C) [] 0/\0=0/\4=4/\Kd 14 [] [i8 q0,i8 9] [] 9 (i8 (o6 q0 9)) [] 0/\IntKind.i64.wrap D=o6 q0 9-3/\Kd 14 [] [i8 q1,i8 4] [] 9 (i8 E) [] 0/\0=0/\2=2/\Kd 23 [] G m 10 (SV.tup [Cp.agg I,Cp.l (li 0)]) [J,L] 1/\0=0/\1=1/\Kd 24 [] [j7 3 0,ag C] [J,j] 12 (SV.tup [Cp.agg M,Cp.l (li (M9 i N))]) [P] 0/\0=0/\1=1/\Kd 22 [] [j7 3 0,ag [li D,li E]] [P,j] 13 (SV.tup [Cp.agg Q,Cp.l (li (pL i D E))]) [T] 0/\0=0/\256=256/\Kd 14 [] [i8 q2,i8 3] [] 14 U [] 0/\IntKind.i64.wrap V=o6 q2 3-1/\Kd 16 [] [j7 3 0,ag [li V,li 0]] [T,j] 14 (SV.tup [Cp.agg W,Cp.l (li 0)]) [] 0/\0=0/\256=256/\Kd 37 [] [j7 5 0] q 15 (ag (tl (zT)++[Leaf.o 15 H.length,li 0])) [X,Y] 1/\0=0/\258=258/\Kd 38 [] [j7 5 0,ag C] [X,n] 17 (ag Z) [aa] 0/\0=0/\258=258/\Kd 39 [] [j7 5 0,ag [li D,li E]] [aa,n] 18 (ag ab) [ac] 0/\0=0/\258=258/\Kd 40 [] [ag I,ag [Leaf.o 15 H.length]] [L,Y] 19 ad [] 0/\(true=true->true=true/\Le (ag (List.take 1 (List.drop 256 Z))) (ag M)/\True)/\(true=true->true=true/\true=true/\Kd 40 [] [ag M,ag M] [] 19 ad [] 0/\True)/\ae/\(true=true->Le (ag (List.take 256 Q)) (ag Q)/\True)/\(true=true->true=true/\Le (ag (List.take 256 ab)) (ag Q)/\True)/\(true=true->true=true/\true=true/\H4 prog 38 Q Q af/\Le (bv af) ad/\True)/\ae/\w/\(true=true->true=true/\true=true/\Le s s/\True)/\x/\w/\(true=true->true=true/\true=true/\Le (bv (M9 i N != M9 i N)) s/\True)/\x/\w/\(true=true->true=true/\true=true/\Le (bv (pL i D E != pL i D E)) s/\True)/\x/\(true=true->Le (ag (List.take 256 W)) (ag W)/\True)/\w/\w/\(true=true->true=true/\Kd 14 [] [i8 q2,i8 3] [] 19 U [] 0/\True)/\(true=true->true=true/\IntKind.i64.wrap V=o6 q2 3-1/\True)/\w/\(true=true->true=true/\true=true/\Kd 41 [] [j7 5 0,ag [li V,li 0]] [ac,n] 19 (ag W) [] 0/\True)/\(true=true->true=true/\true=true/\H4 prog 38 W W (m7 ah ah)/\Le (bv !m7 ah ah) s/\True)/\x/\w/\x/\(true=true->true=true/\Kd 25 [] G [T] 19 (i8 ai) [] 0/\True)/\w/\w/\w/\w/\w/\(true=true->true=true/\true=true/\Le (bv (ai != ai)) s/\True)/\x/\(true=true->true=true/\Kd 26 [] G [T,j] 19 (ag ak) [] 0/\True)/\w/\(true=true->true=true/\Kd 42 [] [j7 5 0] [ac,n] 19 (ag ak) [] 0/\True)/\(true=true->true=true/\true=true/\H4 prog 66 ak ak al/\Le (bv !al) s/\True)/\x/\(true=true->true=true/\Kd 19 [] G [T] 19 (i8 R) [] 0/\True)/\w/\w/\w/\w/\(true=true->true=true/\true=true/\Le (bv (A7 i l2+A7 i N+vO i D E != A7 i l2+A7 i N+vO i D E)) s/\True)/\x/\IntKind.i64.wrap ((k:Int)+1)=(k:Int)+1/\RoundTo prog (gl 4 Tryz.f9) 3 (wkK 3 K) (St.mk [(4,j7 1 0),(7,bv true),(8,j7 2 0),(9,i8 ((k:Int)+1))] am 19 207 [18,18,5,17,17,5,16,16,5,15,14,14,13,13,3,12,12,3,11,11,3,10,9,9,8,8,7,7,5,6,3,4,2,1] 1)) (wkK 3 K (Exit.exit 0) (St.mk [(4,j7 1 0),(7,bv true),(8,j7 2 0),(9,i8 (k:Int))] am 3 207 [2,1] 1))):z4 prog (gl 4 Tryz.f9) (I9 q0 q1 q2 q3 f1 f2 k) (wkK 3 K):=
 m5 [4,7,8,9] [1,2] (cx:=Xz q0 q1 q2 q3 f1 f2 k) rfl (u3 (by kernel_rfl) h)
def c4f (f1:ByteArray) (f2:ByteArray) (k:Nat):Rw:=some fun _ _=>fun | [.c (.l (.p i _))]=>some {v:=.tup [.agg [.v (.slice none 0 0)],.l (li (M9 (oL f1 f2 k) l2))],rd:=[i,i+1],wr:=[(i,⟨[.o (i+1) (oL f1 f2 k).length,li (A7 (oL f1 f2 k) l2)],.t 125⟩)]}|_=>none
def b6i (f1:ByteArray) (f2:ByteArray) (k:Nat):Rw:=some fun _ _=>fun | [.c (.l (.p i _))]=>some {v:=.c (.agg (t5 zT (M9 (oL f1 f2 k) l2))),rd:=[i,i+1],wr:=[(i,⟨[.o (i+1) (oL f1 f2 k).length,li (A7 (oL f1 f2 k) l2)],.t 91⟩)]}|_=>none
def Vv (q0 q1 q2 q3:Int) (f1 f2:ByteArray) (k:Nat):Cz:={
 ct:=(fun f=>match f with
 |14=>Yc
 |15=>Xi f1 f2 k
 |16=>Vh q2 f1 f2 k
 |19=>Uz
 |22=>Uj q0 q1 q2 q3 f1 f2 k
 |23=>c4f f1 f2 k
 |24=>b6f q0 q1 q2 q3 f1 f2 k
 |25=>Tz f1 f2 k
 |26=>yT f1 f2 k
 |27=>some fun _ _=>fun | [.c (.agg [.v (.int _ q0),.v (.int _ q1),.v (.int _ q2),.v (.int _ q3)])]=>some {v:=ag [li (S1 q0 q1 q2 q3).x0,li (S1 q0 q1 q2 q3).y0,li (S1 q0 q1 q2 q3).x1,li (S1 q0 q1 q2 q3).y1]}|_=>none
 |33=>pU
 |35=>a0b f1 f2 k
 |36=>pU
 |37=>b6i f1 f2 k
 |38=>c4t q0 q1 q2 q3 f1 f2 k
 |39=>a2o q0 q1 q2 q3 f1 f2 k
 |40=>some fun _ap _S ar=>match _ap,ar with
  |_,[.c (.agg [.o i _]),.c (.agg [.o j _])]=>some {v:=bv true,rd:=[i,j]}
  |_,[.c (.agg [.v _]),.c (.agg [.v _])]=>some {v:=bv true}
  |_,_=>none
 |41=>Xq q2 f1 f2 k
 |42=>yT f1 f2 k
 |_=>none)
 eq:=(fun t=>match t with
 |38=>some (fun xs ys=>m7 (A1 xs) (A1 ys))
 |66=>some (fun xs ys=>match xs,ys with | [.v (.int _ a0),.v (.int _ a1),.v (.int _ a2),.v (.int _ a3)],[.v (.int _ b0),.v (.int _ b1),.v (.int _ b2),.v (.int _ b3)]=>(a0==b0&&(a1==b1&&(a2==b2&&a3==b3)))|_,_=>false)
 |_=>none)
 sym:=[43,44,49,50,66,67,70,71],nf:=[(44,.c (.l (.v (.string (fS f1 f2 k))))),(50,.c (.l (.v (.string (fS f1 f2 k))))),(67,.c (.l (.v (.string (fS f1 f2 k))))),(71,.c (.l (.v (.string (fS f1 f2 k))))),(55,bv false),(73,bv false),(147,bv false),(153,bv false),(159,bv false),(171,bv false),(186,bv false),(194,bv false),(204,bv false),(136,.c (.agg (tl (pQ (oL f1 f2 k) (o6 q0 9-3) (o6 q1 4))))),(138,.c (.agg (tl (pQ (oL f1 f2 k) (o6 q0 9-3) (o6 q1 4))))),(139,bv true),(162,.c (.agg (tl (m8 (X8 (oL f1 f2 k) (o6 q2 3-1) 0 (oL f1 f2 k).length))))),(127,ag [.v (.slice none 0 0)])],wh:=[82,66,40,26,38,85]}
theorem c8c (q0 q1 q2 q3:Int) (f1 f2:ByteArray) (k:Nat)  (K:Exit->St->Prop) (h:let a:=((k:Int));let b:=[l9 f1,l9 f2];let d:=l4 (b.getD (0+a.toNat*1) Leaf.u);let e:=fS f1 f2 k;let f:=l4 (l9 e);let g:=[l4 (l9 e)];let i:=oL f1 f2 k;let j:=(4,o8 (o4 i) 123 8 4);let m:=[(3,j9 [Leaf.o 4 i.length,li 0] 125),j];let n:=(6,o8 (o4 i) 59 8 6);let q:=[(5,j9 [Leaf.o 6 i.length,li 0] 91),n];let s:=bv false;let w:=true=true->true=true/\True;let x:=false=false->true=true;let y:=true=true->true=true/\t0 a 2/\True;let z:=true=true->true=true/\0+a.toNat*1<2/\Le d f/\True;let A:=[li q0,li q1,li q2,li q3];let B:=S1 q0 q1 q2 q3;let C:=[li B.x0,li B.y0,li B.x1,li B.y1];let D:=o6 q0 9-3;let E:=o6 q1 4;let G:=[j7 3 0];let H:=[Leaf.v (Value.slice none 0 0)];let I:=(3,j9 [Leaf.o 4 i.length,li (A7 i l2)] 125);let J:=wR B;let L:=v7 i J i.length;let M:=C8 B L L.length;let N:=[Leaf.o 11 M.length];let O:=A7 i l2+A7 i J;let P:=(3,j9 [Leaf.o 4 i.length,li O] 125);let Q:=(11,o8 (n8 M) 42 258 11);let R:=tl (pQ i D E);let T:=A7 i l2+A7 i J+vO i D E;let U:=(3,j9 [Leaf.o 4 i.length,li T] 125);let V:=i8 (o6 q2 3);let W:=o6 q2 3-1;let X:=tl (m8 (X8 i W 0 i.length));let Y:=t5 zT (M9 i l2);let Z:=(5,j9 [Leaf.o 6 i.length,li (A7 i l2)] 91);let aa:=(5,j9 [Leaf.o 6 i.length,li O] 91);let ab:=(16,o8 (n8 M) 42 258 16);let ac:=t5 (pQ i D E) (pL i D E);let ad:=(5,j9 [Leaf.o 6 i.length,li T] 91);let ae:=bv true;let af:=true=true->true=true;let ah:=m7 (A1 R) (A1 R);let ai:=A1 X;let aj:=(i.length:Int);let ak:=U6 i i.length;let al:=[li ak.x0,li ak.y0,li ak.x1,li ak.y1];let am:=ak.x0==ak.x0&&(ak.y0==ak.y0&&(ak.x1==ak.x1&&ak.y1==ak.y1));let an:=[(1,some (j9 A 69)),(2,some (j9 b 79))];HB (decide ((k:Int)<2)) (t0 a 2/\0+a.toNat*1<2/\Le d f/\Kd 15 [] g [] 3 (SV.tup [Cp.l (Leaf.p 3 0),Cp.l (li 0)]) m 2/\t0 a 2/\0+a.toNat*1<2/\Le d f/\Kd 35 [] g [] 5 (ag [Leaf.p 5 0,li 0]) q 2/\0=0/\2=2/\Le s s/\w/\w/\w/\(true=true->true=true/\true=true/\True)/\x/\y/\z/\(true=true->true=true/\Kd 33 [] g [] 8 (i8 (jS e)) [] 0/\True)/\y/\z/\(true=true->true=true/\Kd 36 [] g [] 8 (i8 (jS e)) [] 0/\True)/\(true=true->true=true/\true=true/\Le (bv (jS e != jS e)) s/\True)/\x/\Kd 27 [] [ag A] [] 8 (ag C) [] 0/\0=0/\4=4/\Kd 14 [] [i8 q0,i8 9] [] 9 (i8 (o6 q0 9)) [] 0/\IntKind.i64.wrap D=o6 q0 9-3/\Kd 14 [] [i8 q1,i8 4] [] 9 (i8 E) [] 0/\0=0/\2=2/\Kd 23 [] G m 10 (SV.tup [Cp.agg H,Cp.l (li (M9 i l2))]) [I] 0/\0=0/\1=1/\Kd 24 [] [j7 3 0,ag C] [I,j] 11 (SV.tup [Cp.agg N,Cp.l (li 0)]) [P,Q] 1/\0=0/\1=1/\Kd 22 [] [j7 3 0,ag [li D,li E]] [P,j] 13 (SV.tup [Cp.agg R,Cp.l (li (pL i D E))]) [U] 0/\0=0/\256=256/\Kd 14 [] [i8 q2,i8 3] [] 14 V [] 0/\IntKind.i64.wrap W=o6 q2 3-1/\Kd 16 [] [j7 3 0,ag [li W,li 0]] [U,j] 14 (SV.tup [Cp.agg X,Cp.l (li 0)]) [] 0/\0=0/\256=256/\Kd 37 [] [j7 5 0] q 15 (ag Y) [Z] 0/\0=0/\258=258/\Kd 38 [] [j7 5 0,ag C] [Z,n] 16 (ag (tl (zT)++[Leaf.o 16 M.length,li 0])) [aa,ab] 1/\0=0/\258=258/\Kd 39 [] [j7 5 0,ag [li D,li E]] [aa,n] 18 (ag ac) [ad] 0/\0=0/\258=258/\Le (ag (List.take 1 (List.drop 256 Y))) (ag H)/\Kd 40 [] [ag H,ag H] [] 19 ae [] 0/\w/\(true=true->true=true/\true=true/\Kd 40 [] [ag N,ag [Leaf.o 16 M.length]] [Q,ab] 19 ae [] 0/\True)/\af/\(true=true->Le (ag (List.take 256 R)) (ag R)/\True)/\(true=true->true=true/\Le (ag (List.take 256 ac)) (ag R)/\True)/\(true=true->true=true/\true=true/\H4 prog 38 R R ah/\Le (bv ah) ae/\True)/\af/\w/\(true=true->true=true/\true=true/\Le (bv (M9 i l2 != M9 i l2)) s/\True)/\x/\w/\(true=true->true=true/\true=true/\Le s s/\True)/\x/\w/\(true=true->true=true/\true=true/\Le (bv (pL i D E != pL i D E)) s/\True)/\x/\(true=true->Le (ag (List.take 256 X)) (ag X)/\True)/\w/\w/\(true=true->true=true/\Kd 14 [] [i8 q2,i8 3] [] 19 V [] 0/\True)/\(true=true->true=true/\IntKind.i64.wrap W=o6 q2 3-1/\True)/\w/\(true=true->true=true/\true=true/\Kd 41 [] [j7 5 0,ag [li W,li 0]] [ad,n] 19 (ag X) [] 0/\True)/\(true=true->true=true/\true=true/\H4 prog 38 X X (m7 ai ai)/\Le (bv !m7 ai ai) s/\True)/\x/\w/\x/\(true=true->true=true/\Kd 25 [] G [U] 19 (i8 aj) [] 0/\True)/\w/\w/\w/\w/\w/\(true=true->true=true/\true=true/\Le (bv (aj != aj)) s/\True)/\x/\(true=true->true=true/\Kd 26 [] G [U,j] 19 (ag al) [] 0/\True)/\w/\(true=true->true=true/\Kd 42 [] [j7 5 0] [ad,n] 19 (ag al) [] 0/\True)/\(true=true->true=true/\true=true/\H4 prog 66 al al am/\Le (bv !am) s/\True)/\x/\(true=true->true=true/\Kd 19 [] G [U] 19 (i8 T) [] 0/\True)/\w/\w/\w/\w/\(true=true->true=true/\true=true/\Le (bv (A7 i l2+A7 i J+vO i D E != A7 i l2+A7 i J+vO i D E)) s/\True)/\x/\IntKind.i64.wrap ((k:Int)+1)=(k:Int)+1/\RoundTo prog (gl 4 Tryz.f9) 3 (wkK 3 K) (St.mk [(4,j7 1 0),(7,bv true),(8,j7 2 0),(9,i8 ((k:Int)+1))] an 19 207 [18,18,5,17,17,5,16,15,15,5,14,14,13,13,3,12,12,3,11,10,10,3,9,9,8,8,7,7,5,6,3,4,2,1] 1)) (wkK 3 K (Exit.exit 0) (St.mk [(4,j7 1 0),(7,bv true),(8,j7 2 0),(9,i8 (k:Int))] an 3 207 [2,1] 1))):z4 prog (gl 4 Tryz.f9) (I9 q0 q1 q2 q3 f1 f2 k) (wkK 3 K):=
 m5 [4,7,8,9] [1,2] (cx:=Vv q0 q1 q2 q3 f1 f2 k) rfl (u3 (by kernel_rfl) h)
def Wv (q0 q1 q2 q3:Int) (f1 f2:ByteArray) (k:Nat):Cz:={
 ct:=(fun f=>match f with
 |14=>Yc
 |15=>Xi f1 f2 k
 |16=>Vh q2 f1 f2 k
 |19=>Uz
 |22=>Uj q0 q1 q2 q3 f1 f2 k
 |23=>c4f f1 f2 k
 |24=>c5e q0 q1 q2 q3 f1 f2 k
 |25=>Tz f1 f2 k
 |26=>yT f1 f2 k
 |27=>some fun _ _=>fun | [.c (.agg [.v (.int _ q0),.v (.int _ q1),.v (.int _ q2),.v (.int _ q3)])]=>some {v:=ag [li (S1 q0 q1 q2 q3).x0,li (S1 q0 q1 q2 q3).y0,li (S1 q0 q1 q2 q3).x1,li (S1 q0 q1 q2 q3).y1]}|_=>none
 |33=>pU
 |35=>a0b f1 f2 k
 |36=>pU
 |37=>b6i f1 f2 k
 |38=>c2f q0 q1 q2 q3 f1 f2 k
 |39=>a2o q0 q1 q2 q3 f1 f2 k
 |40=>some fun _ap _S ar=>match _ap,ar with
  |_,[.c (.agg [.o i _]),.c (.agg [.o j _])]=>some {v:=bv true,rd:=[i,j]}
  |_,[.c (.agg [.v _]),.c (.agg [.v _])]=>some {v:=bv true}
  |_,_=>none
 |41=>Xq q2 f1 f2 k
 |42=>yT f1 f2 k
 |_=>none)
 eq:=(fun t=>match t with
 |38=>some (fun xs ys=>m7 (A1 xs) (A1 ys))
 |66=>some (fun xs ys=>match xs,ys with | [.v (.int _ a0),.v (.int _ a1),.v (.int _ a2),.v (.int _ a3)],[.v (.int _ b0),.v (.int _ b1),.v (.int _ b2),.v (.int _ b3)]=>(a0==b0&&(a1==b1&&(a2==b2&&a3==b3)))|_,_=>false)
 |_=>none)
 sym:=[43,44,49,50,66,67,70,71],nf:=[(44,.c (.l (.v (.string (fS f1 f2 k))))),(50,.c (.l (.v (.string (fS f1 f2 k))))),(67,.c (.l (.v (.string (fS f1 f2 k))))),(71,.c (.l (.v (.string (fS f1 f2 k))))),(55,bv false),(73,bv false),(147,bv false),(153,bv false),(159,bv false),(171,bv false),(186,bv false),(194,bv false),(204,bv false),(136,.c (.agg (tl (pQ (oL f1 f2 k) (o6 q0 9-3) (o6 q1 4))))),(138,.c (.agg (tl (pQ (oL f1 f2 k) (o6 q0 9-3) (o6 q1 4))))),(139,bv true),(162,.c (.agg (tl (m8 (X8 (oL f1 f2 k) (o6 q2 3-1) 0 (oL f1 f2 k).length))))),(127,ag [.v (.slice none 0 0)]),(132,ag [.v (.slice none 0 0)])],wh:=[82,66,40,26,38,85]}
theorem c9i (q0 q1 q2 q3:Int) (f1 f2:ByteArray) (k:Nat)  (K:Exit->St->Prop) (h:let a:=((k:Int));let b:=[l9 f1,l9 f2];let d:=l4 (b.getD (0+a.toNat*1) Leaf.u);let e:=fS f1 f2 k;let f:=l4 (l9 e);let g:=[l4 (l9 e)];let i:=oL f1 f2 k;let j:=(4,o8 (o4 i) 123 8 4);let m:=[(3,j9 [Leaf.o 4 i.length,li 0] 125),j];let n:=(6,o8 (o4 i) 59 8 6);let q:=[(5,j9 [Leaf.o 6 i.length,li 0] 91),n];let s:=bv false;let w:=true=true->true=true/\True;let x:=false=false->true=true;let y:=true=true->true=true/\t0 a 2/\True;let z:=true=true->true=true/\0+a.toNat*1<2/\Le d f/\True;let A:=[li q0,li q1,li q2,li q3];let B:=S1 q0 q1 q2 q3;let C:=[li B.x0,li B.y0,li B.x1,li B.y1];let D:=o6 q0 9-3;let E:=o6 q1 4;let G:=[j7 3 0];let H:=[Leaf.v (Value.slice none 0 0)];let I:=(3,j9 [Leaf.o 4 i.length,li (A7 i l2)] 125);let J:=wR B;let L:=A7 i l2+A7 i J;let M:=(3,j9 [Leaf.o 4 i.length,li L] 125);let N:=tl (pQ i D E);let O:=A7 i l2+A7 i J+vO i D E;let P:=(3,j9 [Leaf.o 4 i.length,li O] 125);let Q:=i8 (o6 q2 3);let R:=o6 q2 3-1;let T:=tl (m8 (X8 i R 0 i.length));let U:=t5 zT (M9 i l2);let V:=(5,j9 [Leaf.o 6 i.length,li (A7 i l2)] 91);let W:=t5 zT (M9 i J);let X:=(5,j9 [Leaf.o 6 i.length,li L] 91);let Y:=t5 (pQ i D E) (pL i D E);let Z:=(5,j9 [Leaf.o 6 i.length,li O] 91);let aa:=bv true;let ab:=true=true->true=true;let ac:=m7 (A1 N) (A1 N);let ad:=A1 T;let ae:=(i.length:Int);let af:=U6 i i.length;let ah:=[li af.x0,li af.y0,li af.x1,li af.y1];let ai:=af.x0==af.x0&&(af.y0==af.y0&&(af.x1==af.x1&&af.y1==af.y1));let aj:=[(1,some (j9 A 69)),(2,some (j9 b 79))];HB (decide ((k:Int)<2)) (t0 a 2/\0+a.toNat*1<2/\Le d f/\Kd 15 [] g [] 3 (SV.tup [Cp.l (Leaf.p 3 0),Cp.l (li 0)]) m 2/\t0 a 2/\0+a.toNat*1<2/\Le d f/\Kd 35 [] g [] 5 (ag [Leaf.p 5 0,li 0]) q 2/\0=0/\2=2/\Le s s/\w/\w/\w/\(true=true->true=true/\true=true/\True)/\x/\y/\z/\(true=true->true=true/\Kd 33 [] g [] 8 (i8 (jS e)) [] 0/\True)/\y/\z/\(true=true->true=true/\Kd 36 [] g [] 8 (i8 (jS e)) [] 0/\True)/\(true=true->true=true/\true=true/\Le (bv (jS e != jS e)) s/\True)/\x/\Kd 27 [] [ag A] [] 8 (ag C) [] 0/\0=0/\4=4/\Kd 14 [] [i8 q0,i8 9] [] 9 (i8 (o6 q0 9)) [] 0/\IntKind.i64.wrap D=o6 q0 9-3/\Kd 14 [] [i8 q1,i8 4] [] 9 (i8 E) [] 0/\0=0/\2=2/\Kd 23 [] G m 10 (SV.tup [Cp.agg H,Cp.l (li (M9 i l2))]) [I] 0/\0=0/\1=1/\Kd 24 [] [j7 3 0,ag C] [I,j] 11 (SV.tup [Cp.agg H,Cp.l (li (M9 i J))]) [M] 0/\0=0/\1=1/\Kd 22 [] [j7 3 0,ag [li D,li E]] [M,j] 12 (SV.tup [Cp.agg N,Cp.l (li (pL i D E))]) [P] 0/\0=0/\256=256/\Kd 14 [] [i8 q2,i8 3] [] 13 Q [] 0/\IntKind.i64.wrap R=o6 q2 3-1/\Kd 16 [] [j7 3 0,ag [li R,li 0]] [P,j] 13 (SV.tup [Cp.agg T,Cp.l (li 0)]) [] 0/\0=0/\256=256/\Kd 37 [] [j7 5 0] q 14 (ag U) [V] 0/\0=0/\258=258/\Kd 38 [] [j7 5 0,ag C] [V,n] 15 (ag W) [X] 0/\0=0/\258=258/\Kd 39 [] [j7 5 0,ag [li D,li E]] [X,n] 16 (ag Y) [Z] 0/\0=0/\258=258/\Le (ag (List.take 1 (List.drop 256 U))) (ag H)/\Kd 40 [] [ag H,ag H] [] 17 aa [] 0/\(true=true->true=true/\Le (ag (List.take 1 (List.drop 256 W))) (ag H)/\True)/\(true=true->true=true/\true=true/\Kd 40 [] [ag H,ag H] [] 17 aa [] 0/\True)/\ab/\(true=true->Le (ag (List.take 256 N)) (ag N)/\True)/\(true=true->true=true/\Le (ag (List.take 256 Y)) (ag N)/\True)/\(true=true->true=true/\true=true/\H4 prog 38 N N ac/\Le (bv ac) aa/\True)/\ab/\w/\(true=true->true=true/\true=true/\Le (bv (M9 i l2 != M9 i l2)) s/\True)/\x/\w/\(true=true->true=true/\true=true/\Le (bv (M9 i J != M9 i J)) s/\True)/\x/\w/\(true=true->true=true/\true=true/\Le (bv (pL i D E != pL i D E)) s/\True)/\x/\(true=true->Le (ag (List.take 256 T)) (ag T)/\True)/\w/\w/\(true=true->true=true/\Kd 14 [] [i8 q2,i8 3] [] 17 Q [] 0/\True)/\(true=true->true=true/\IntKind.i64.wrap R=o6 q2 3-1/\True)/\w/\(true=true->true=true/\true=true/\Kd 41 [] [j7 5 0,ag [li R,li 0]] [Z,n] 17 (ag T) [] 0/\True)/\(true=true->true=true/\true=true/\H4 prog 38 T T (m7 ad ad)/\Le (bv !m7 ad ad) s/\True)/\x/\w/\x/\(true=true->true=true/\Kd 25 [] G [P] 17 (i8 ae) [] 0/\True)/\w/\w/\w/\w/\w/\(true=true->true=true/\true=true/\Le (bv (ae != ae)) s/\True)/\x/\(true=true->true=true/\Kd 26 [] G [P,j] 17 (ag ah) [] 0/\True)/\w/\(true=true->true=true/\Kd 42 [] [j7 5 0] [Z,n] 17 (ag ah) [] 0/\True)/\(true=true->true=true/\true=true/\H4 prog 66 ah ah ai/\Le (bv !ai) s/\True)/\x/\(true=true->true=true/\Kd 19 [] G [P] 17 (i8 O) [] 0/\True)/\w/\w/\w/\w/\(true=true->true=true/\true=true/\Le (bv (A7 i l2+A7 i J+vO i D E != A7 i l2+A7 i J+vO i D E)) s/\True)/\x/\IntKind.i64.wrap ((k:Int)+1)=(k:Int)+1/\RoundTo prog (gl 4 Tryz.f9) 3 (wkK 3 K) (St.mk [(4,j7 1 0),(7,bv true),(8,j7 2 0),(9,i8 ((k:Int)+1))] aj 17 207 [16,16,5,15,15,5,14,14,5,13,13,12,12,3,11,11,3,10,10,3,9,9,8,8,7,7,5,6,3,4,2,1] 1)) (wkK 3 K (Exit.exit 0) (St.mk [(4,j7 1 0),(7,bv true),(8,j7 2 0),(9,i8 (k:Int))] aj 3 207 [2,1] 1))):z4 prog (gl 4 Tryz.f9) (I9 q0 q1 q2 q3 f1 f2 k) (wkK 3 K):=
 m5 [4,7,8,9] [1,2] (cx:=Wv q0 q1 q2 q3 f1 f2 k) rfl (u3 (by kernel_rfl) h)
theorem Fk (t:Nat->UInt8) (e:Int):List.take 1 (List.drop 256 (t5 t e))=[.v (.slice none 0 0)]:=by
 unfold t5
 rw[List.drop_append_of_le_length (by rw[B8];exact Nat.le_refl _),List.drop_of_length_le (by rw[B8];exact Nat.le_refl _)];rfl
theorem iS (t:Nat->UInt8):m7 (A1 (tl t)) (A1 (tl t))=true:=(B1 _ _).2 fun _ _=>rfl
theorem oH (t:Nat->UInt8):(!m7 (A1 (tl t)) (A1 (tl t)))=false:=by rw[iS];rfl
theorem Eb (a b c d:Int):(!(a==a&&(b==b&&(c==c&&d==d))))=false:=by simp
theorem r9b (x:Int):(0<=o6 x 9/\o6 x 9<9)/\(0<=o6 x 4/\o6 x 4<4)/\(0<=o6 x 3/\o6 x 3<3):=⟨E5 (by decide) (by decide),E5 (by decide) (by decide),E5 (by decide) (by decide)⟩
theorem L9 (q0 q1 q2 q3:Int) (f1 f2:ByteArray) (h1:f1.size<=100000000) (h2:f2.size<=100000000):∀(m k:Nat),2-k=m->k<=2->∀(K:Exit->St->Prop),K (.exit 0) (I9 q0 q1 q2 q3 f1 f2 2)->z4 prog (gl 4 Tryz.f9) (I9 q0 q1 q2 q3 f1 f2 k) (wkK 3 K)
 |0,k,hm,hk,K,hK=>by
  have e:k=2:=by omega
  subst e
  refine R9e q0 q1 q2 q3 f1 f2 _ K (HB.no (by omega) ?_)
  exact wkK.tk (I9 q0 q1 q2 q3 f1 f2 _) (by kernel_rfl) (N0.k (by kernel_rfl)) hK
 |m+1,k,hm,hk,K,hK=>by
  have hlt:k<2:=by omega
  have hfs:(fS f1 f2 k).size<=1000000000000000000:=Nat.le_trans (b7z h1 h2 k) (by decide)
  have b0:=r9b q0
  have b1:=r9b q1
  have b2:=r9b q2
  by_cases he:t9 (fS f1 f2 k)=0
  ·have gO:GoodO (oL f1 f2 k):=iK he
   have d1:=X5 l2 gO.b.len
   have d2:=X5 (wR (S1 q0 q1 q2 q3)) gO.b.len
   rcases Classical.em (P4 (oL f1 f2 k) l2=none) with hA|hA<;>rcases Classical.em (P4 (oL f1 f2 k) (wR (S1 q0 q1 q2 q3))=none) with hB|hB
   refine d0u q0 q1 q2 q3 f1 f2 k K (HB.yes (by omega) ?_)
   rotate_left
   refine d0a q0 q1 q2 q3 f1 f2 k K (HB.yes (by omega) ?_)
   rotate_left
   refine c8c q0 q1 q2 q3 f1 f2 k K (HB.yes (by omega) ?_)
   rotate_left
   refine c9i q0 q1 q2 q3 f1 f2 k K (HB.yes (by omega) ?_)
   rotate_left
   all_goals
    with_reducible repeat' first|exact trivial|apply And.intro|apply HB.mk|intro _|assumption|rfl
    all_goals first|(with_reducible refine Iu _ _ ?_ ?_ _)<;>omega|exact Kh hfs he _|(with_reducible refine yL (oL f1 f2 k) _ _ _ gO.b.len gO.x (by omega) (by omega) _ _ _ ?_ ?_ ?_)<;>omega|(with_reducible refine vS (oL f1 f2 k) _ _ _ _ ?_ ?_ ?_)<;>omega|(with_reducible refine Pm (oL f1 f2 k) _ _ _ gO.b ?_ ?_ _ _ _ ?_ ?_ ?_)<;>omega|(with_reducible refine Oq gO hA _ _ _ ?_ ?_ ?_)<;>omega|(with_reducible refine Vn gO hA _ _ _ ?_ ?_ ?_)<;>omega|(with_reducible refine Re gO hB _ _ _ ?_ ?_ ?_)<;>omega|(with_reducible refine a1u gO hB _ _ _ ?_ ?_ ?_)<;>omega|(with_reducible refine Ir (oL f1 f2 k) _ _ _ _ ?_ ?_ ?_)<;>omega|(with_reducible refine Cc (oL f1 f2 k) _ gO.b.len gO.x _ _ _ ?_ ?_ ?_)<;>omega|with_reducible exact C27 _ _ _ _ _|exact rX _ hfs _|exact Gq hfs he _|exact oR _ hfs _|(with_reducible refine Ri gO hA _ _ _ ?_ ?_ ?_)<;>omega|(with_reducible refine a0p gO hA _ _ _ ?_ ?_ ?_)<;>omega|(with_reducible refine Km gO hB _ _ _ ?_ ?_ ?_)<;>omega|(with_reducible refine a3w gO hB _ _ _ ?_ ?_ ?_)<;>omega|(with_reducible refine Br (oL f1 f2 k) _ _ _ gO.b ?_ ?_ _ _ _ ?_ ?_ ?_)<;>omega|(first|exact d0b _|(with_reducible refine nX _ (bU gO l2 hA _ (Nat.le_refl _)) _ _ _ ?_ ?_ ?_)|(with_reducible refine nX _ (zL (bU gO (wR (S1 q0 q1 q2 q3)) hB _ (Nat.le_refl _)) _ _ (Nat.le_refl _)) _ _ _ ?_ ?_ ?_))<;>omega|(with_reducible refine tE (oL f1 f2 k) _ _ _ gO.b.len gO.x (by omega) (by omega) _ _ _ ?_ ?_ ?_)<;>omega|(with_reducible refine xK (oL f1 f2 k) _ gO.b.len gO.x _ _ _ ?_ ?_ ?_)<;>omega|(exact ⟨by omega,by omega⟩)|(with_reducible refine Le.of (a4v _ _ hlt ?_))<;>omega|with_reducible exact Le.bool (mP _)|exact C2 _ (by omega) (by omega)|(with_reducible first|exact Le.of (congrArg (fun l=>SV.c (.agg l)) (Z1 _ _))|exact Le.of (congrArg (fun l=>SV.c (.agg l)) (t7 _))|exact mC rfl rfl)|exact Le.of (congrArg (fun l=>SV.c (.agg l)) (Fk _ _))|exact a8n _ _ _ _ _ _ _ _|(with_reducible first|exact Le.bool (iS _)|exact Le.bool (oH _)|exact Le.bool (Eb _ _ _ _))|exact Le.bool rfl|omega|(with_reducible refine RoundTo.tk 17 (I9 q0 q1 q2 q3 f1 f2 (k+1)) ?_ ?_ ?_);kernel_rfl;exact (N0.k (by kernel_rfl));exact (L9 q0 q1 q2 q3 f1 f2 h1 h2 m (k+1) (by omega) (by omega) K hK)|(with_reducible refine RoundTo.tk 19 (I9 q0 q1 q2 q3 f1 f2 (k+1)) ?_ ?_ ?_);kernel_rfl;exact (N0.k (by kernel_rfl));exact (L9 q0 q1 q2 q3 f1 f2 h1 h2 m (k+1) (by omega) (by omega) K hK)|(with_reducible refine RoundTo.tk 21 (I9 q0 q1 q2 q3 f1 f2 (k+1)) ?_ ?_ ?_);kernel_rfl;exact (N0.k (by kernel_rfl));exact (L9 q0 q1 q2 q3 f1 f2 h1 h2 m (k+1) (by omega) (by omega) K hK)|simp only[*,Bool.and_self,Bool.not_false,Bool.not_true];done
  ·refine R9e q0 q1 q2 q3 f1 f2 k K (HB.yes (by omega) ?_)
   with_reducible repeat' first|exact trivial|apply And.intro|apply HB.mk|intro _|assumption|rfl
   all_goals first|exact zK _ hfs he _|exact rX _ hfs _|exact kG _ hfs he _|exact oR _ hfs _|(exact ⟨by omega,by omega⟩)|(with_reducible refine Le.of (a4v _ _ hlt ?_))<;>omega|with_reducible exact Le.bool (mP _)|exact C2 _ (by omega) (by omega)|(with_reducible first|exact Le.of (congrArg (fun l=>SV.c (.agg l)) (Z1 _ _))|exact Le.of (congrArg (fun l=>SV.c (.agg l)) (t7 _))|exact mC rfl rfl)|exact Le.of (congrArg (fun l=>SV.c (.agg l)) (Fk _ _))|exact a8n _ _ _ _ _ _ _ _|(with_reducible first|exact Le.bool (iS _)|exact Le.bool (oH _)|exact Le.bool (Eb _ _ _ _))|exact Le.bool rfl|omega|(with_reducible refine RoundTo.tk 4 (I9 q0 q1 q2 q3 f1 f2 (k+1)) ?_ ?_ ?_);kernel_rfl;exact (N0.k (by kernel_rfl));exact (L9 q0 q1 q2 q3 f1 f2 h1 h2 m (k+1) (by omega) (by omega) K hK)|simp only[*,Bool.and_self,Bool.not_false,Bool.not_true];done
end Ab
end
section
namespace Ab
attribute [local irreducible] j8
attribute [local irreducible] tl n8 Qu
theorem c2v (t:ByteArray):(Q9 t (E7 (t.size:Nat) 40)).size<=100000000:=by
 unfold Q9
 rw[ByteArray.size_extract]
 have:E7 (t.size:Nat) 40<=40:=by unfold E7;split<;>omega
 omega
theorem a2i (t:ByteArray):0<=E7 (t.size:Nat) 40/\E7 (t.size:Nat) 40<=(t.size:Nat):=by unfold E7;split<;>omega
theorem b2l {z:Int} (h:(Lit.int .i64 z).wf=true) : -9223372036854775808<=z/\z<=9223372036854775807:=by
 have h:(decide (IntKind.i64.min<=z)&&decide (z<=IntKind.i64.max))=true:=h
 rw[Bool.and_eq_true] at h
 have h1:IntKind.i64.min<=z:=of_decide_eq_true h.1
 have h2:z<=IntKind.i64.max:=of_decide_eq_true h.2
 exact ⟨h1,h2⟩
def c0x (x:Leaf) (p:Nat) (s:List Int) (q0 q1 q2 q3:Int) (t:ByteArray):Cz:={
 ct:=(fun f=>match f with
 |10=>some fun _ _=>fun | []=>some {v:=bv true}|_=>none
 |34=>some fun _ _=>fun | [_,_]=>some {v:=.c (.l (.v (.string (Qu s q0 q1 q2 q3)))),rd:=[0]}|_=>none
 |_=>none)
 nf:=[(35,.c (.l (.v (.string (Q9 t (E7 (t.size:Nat) 40))))))],lp:=fun r=>match r with|4=>some (fun _ K=>K (.exit 0) (I9 q0 q1 q2 q3 (Qu s q0 q1 q2 q3) (Q9 t (E7 (t.size:Nat) 40)) 2))|_=>none,wh:=[69,79]}
theorem W9 (x:Leaf) (p:Nat) (s:List Int) (q0 q1 q2 q3:Int) (t:ByteArray) (hx:G4 x p s) (hq3 : -9223372036854775808<=q3/\q3<=9223372036854775807) (ht:t.size<=1000000000000000000):f4 prog 9 [.c (.l x),ag [li q0,li q1,li q2,li q3],.c (.l (.v (.string t)))] [(0,⟨J8 p s,.q⟩)] 1 (bv true) [] 0:=by
 refine E3 (q:=let a:=bv true;let b:=[li q0,li q1,li q2,li q3];let d:=Qu s q0 q1 q2 q3;let e:=(t.size:Int);let f:=E7 (e) 40;let g:=Q9 t f;let h:=ByteArray.mk #[];Kd 10 [] [] [] 2 a [] 0/\Kd 34 [] [l4 x,ag b] [(0,n6.mk (J8 p s) BT.q)] 2 (l4 (l9 d)) [] 0/\O6 0 f e/\Le (l4 (l9 (t.extract (Int.toNat 0) f.toNat))) (l4 (l9 g))/\0=0/\2=2/\(l3 prog (gl 4 Tryz.f9) (St.mk [(9,i8 0),(8,j7 2 0),(36,ag [l9 d,l9 g]),(35,l4 (l9 g)),(34,i8 f),(33,i8 e),(32,l4 (l9 t)),(31,l4 (l9 t)),(30,l4 (l9 d)),(29,ag b),(28,l4 x),(7,bv true),(27,bv true),(6,bv false),(4,j7 1 0),(0,l4 x),(1,ag b),(2,l4 (l9 t))] [(2,some (j9 [l9 d,l9 g] 79)),(2,some (j9 [l9 h,l9 h] 79)),(1,some (j9 b 69)),(0,some (n6.mk (J8 p s) BT.q))] 3 207 [2,2,1] 1) fun K=>K (Exit.exit 0) (I9 q0 q1 q2 q3 d g 2))/\Le a a/\True) (c0x x p s q0 q1 q2 q3 t) [] func9 (qG hx (by kernel_rfl)) (by kernel_rfl) ?_
 with_reducible repeat' first|exact trivial|apply And.intro|apply HB.mk|intro _
 all_goals first|(with_reducible first|exact Le.refl _|rfl|exact C10 _)|exact xQ q0 q1 q2 q3 hx hq3 _ (by omega)|exact l3.mk (I9 q0 q1 q2 q3 (Qu s q0 q1 q2 q3) (Q9 t (E7 (t.size:Nat) 40)) 0) rfl (by kernel_rfl) (eD.k (by kernel_rfl)) (N0.k (by kernel_rfl)) (fun K hT=>L9 q0 q1 q2 q3 (Qu s q0 q1 q2 q3) (Q9 t (E7 (t.size:Nat) 40)) (b3q _ _ _ _ _) (c2v _) _ 0 rfl (by decide) K hT)|exact Le.of rfl|have:=a2i t;unfold O6;omega|exact Le.of rfl
end Ab
namespace codecOpens
theorem walk (o:Option Addr) (zs:List Int) (n cap:Nat) (a b c d:Int) (t:ByteArray) (w:World) (w0:n*8<=140737488351232) (hn:zs.length=n) (hcap:n<=cap)
  (hc:∀i (h:i<zs.length),∃a,o=some a/\a.block<w.heap.size/\w.cell? (a.add i)=some (.int .i64 zs[i])) (hwf:∀z∈zs,(Lit.int .i64 z).wf=true) (wf1:(Lit.int .i64 a).wf=true) (wf2:(Lit.int .i64 b).wf=true) (wf3:(Lit.int .i64 c).wf=true) (wf4:(Lit.int .i64 d).wf=true) (ws:t.size<=140737488351232) :
  Calls prog 9 #[.slice o n cap,.agg #[.int .i64 a,.int .i64 b,.int .i64 c,.int .i64 d],.string t] w fun e w'=>e=.returned (.bool true)/\Below w.heap.size w w':=
 Ab.Hd (pre:=[]) (post:=[Ab.ag [Ab.li a,Ab.li b,Ab.li c,Ab.li d],.c (.l (.v (.string t)))]) rfl rfl (fun x p s hx=>Ab.W9 x p s a b c d t hx (Ab.b2l wf4) (Nat.le_trans ws (by decide))) o zs n cap w w0 hn hcap hc
end codecOpens
namespace Ab
end Ab
end
section
open Go.WideShapes
def K5:List IntKind->List Value->Prop
 |[],cs=>cs=[]
 |k::ks,cs=>∃z rest,cs=.int k z::rest/\(Lit.int k z).wf=true/\K5 ks rest
theorem K5.append:∀ {ks ks':List IntKind} {cs cs':List Value},K5 ks cs->K5 ks' cs'->K5 (ks++ks') (cs++cs')
 |[],ks',cs,cs',h,h'=>by rw[show cs=[] from h];exact h'
 |k::ks,ks',cs,cs',h,h'=>by
  obtain ⟨z,rest,rfl,hw,h2⟩:=h
  exact ⟨z,rest++cs',rfl,hw,h2.append h'⟩
theorem K5.chunks {ks:List IntKind}:∀(m:Nat) (cs:List Value),cs.length=m*ks.length->(∀i,i<m->K5 ks ((cs.drop (i*ks.length)).take ks.length))->K5 (List.replicate m ks).flatten cs
 |0,cs,hl,_=>by
  have:cs=[]:=List.eq_nil_of_length_eq_zero (by simpa using hl)
  subst this;rfl
 |m+1,cs,hl,h=>by
  have h0:=h 0 (by omega)
  simp only[Nat.zero_mul,List.drop_zero] at h0
  have h1:=K5.chunks (ks:=ks) m (cs.drop ks.length) (by rw[List.length_drop,hl,Nat.add_mul];omega) (fun i hi=>by
   have:=h (i+1) (by omega)
   rw[List.drop_drop]
   rwa [Nat.add_mul,Nat.one_mul,Nat.add_comm] at this)
  have:=h0.append h1
  rw[List.take_append_drop] at this
  simpa [List.replicate_succ] using this
def K8 (P:Program) (rec:TypeId->Option (List IntKind)):List Field->Nat->Option (List IntKind)
 |[],_=>some []
 |f::fs,a=>
  match rec f.type with
  |none=>none
  |some ks=>if f.offset=a/\P.cellsOf f.type=ks.length then (K8 P rec fs (a+ks.length)).map (ks++·) else none
def eU (P:Program):Nat->TypeId->Option (List IntKind)
 |0,_=>none
 |n+1,t=>
  match P.underlying t with
  |some (.int k)=>some [k]
  |some (.array m e)=>
   match eU P n e with
   |none=>none
   |some ks=>if P.cellsOf e=ks.length/\P.cellsOf t=m*ks.length then some (List.replicate m ks).flatten else none
  |some (.struct fs)=>
   match K8 P (eU P n) fs.toList 0 with
   |none=>none
   |some ks=>if P.cellsOf t=ks.length then some ks else none
  |_=>none
section
variable {H:Type} {enc:TypeId×Value->H} {P:Program} {w:World} {base:Nat} {spare:Nat->Bool} {held:Bool}
theorem jR {rec:TypeId->Option (List IntKind)} {m:Nat} (hrec:∀t ks cs x,rec t=some ks->DataW.trod enc P w base spare held m t cs=some x->K5 ks cs) (cs:List Value) :
  ∀(fs:List Field) (a:Nat) (ks:List IntKind),K8 P rec fs a=some ks->
   (∀(i:Nat) (f:Field),fs[i]? = some f->∃x,DataW.trod enc P w base spare held m f.type ((cs.drop f.offset).take (P.cellsOf f.type))=some x)->
   K5 ks ((cs.drop a).take ks.length)
 |[],a,ks,h,_=>by
  have:ks=[]:=by simpa [K8] using h.symm
  subst this
  simp[K5]
 |f::fs,a,ks,h,hx=>by
  unfold K8 at h
  cases hr:rec f.type with
  |none=>simp[hr] at h
  |some k0=>
   simp only[hr] at h
   split at h
   ·rename_i hc
    obtain ⟨hoff,hcell⟩:=hc
    cases hf:K8 P rec fs (a+k0.length) with
    |none=>simp[hf] at h
    |some k1=>
     have hk:k0++k1=ks:=by simpa [hf] using h
     subst hk
     obtain ⟨x,hx0⟩:=hx 0 f rfl
     have h0:=hrec _ _ _ _ hr hx0
     rw[hoff,hcell] at h0
     have h1:=jR hrec cs fs (a+k0.length) k1 hf (fun i g hg=>hx (i+1) g (by simpa using hg))
     have:=h0.append h1
     have e:(cs.drop a).take k0.length++(cs.drop (a+k0.length)).take k1.length=(cs.drop a).take (k0++k1).length:=by
      rw[List.length_append,List.take_add,List.drop_drop]
     rwa [e] at this
   ·simp at h
theorem iQ:∀(n:Nat) (t:TypeId) (ks:List IntKind) (fuel:Nat) (cs:List Value) (x:DataW H×List MemPlace),eU P n t=some ks->
  DataW.trod enc P w base spare held fuel t cs=some x->K5 ks cs
 |0,t,ks,fuel,cs,x,h,_=>by simp[eU] at h
 |n+1,t,ks,fuel,cs,x,h,hx=>by
  unfold eU at h
  split at h
  ·rename_i k hu
   have:ks=[k]:=by simpa using h.symm
   subst this
   obtain ⟨z,rfl,_,hw⟩:=DataW.trod_int hu hx
   exact ⟨z,[],rfl,hw,rfl⟩
  ·rename_i m e hu
   cases hr:eU P n e with
   |none=>simp[hr] at h
   |some k0=>
    simp only[hr] at h
    split at h
    ·rename_i hc
     obtain ⟨hc1,hc2⟩:=hc
     have:ks=(List.replicate m k0).flatten:=by simpa using h.symm
     subst this
     obtain ⟨xs,mm,_,_,hl,hxs,hel⟩:=DataW.trod_array hu hx
     refine K5.chunks m cs (by rw[hl,hc2]) fun i hi=>?_
     have hxi:=hel i hi
     rw[hc1,List.getElem?_eq_getElem (by omega)] at hxi
     exact iQ n e k0 mm _ _ hr hxi
    ·simp at h
  ·rename_i fs hu
   cases hr:K8 P (eU P n) fs.toList 0 with
   |none=>simp[hr] at h
   |some k0=>
    simp only[hr] at h
    split at h
    ·rename_i hc
     have:ks=k0:=by simpa using h.symm
     subst this
     obtain ⟨xs,mm,_,_,hl,hxs,hel⟩:=DataW.trod_struct hu hx
     have:=jR (rec:=eU P n) (m:=mm) (fun t ks cs x h1 h2=>iQ n t ks mm cs x h1 h2) cs fs.toList 0 ks hr (fun i f hf=>by
      have hf':fs[i]? = some f:=by simpa using hf
      have:=hel i f hf'
      rw[List.getElem?_eq_getElem (by
       have:=(Array.getElem?_eq_some_iff.1 hf').1
       omega)] at this
      exact ⟨_,this⟩)
     rw[List.drop_zero,List.take_of_length_le (by rw[hl,hc];exact Nat.le_refl _)] at this
     exact this
    ·simp at h
  ·simp at h
theorem Hu {t:TypeId} {v:Value} {d:DataW H} {p:List MemPlace} {ks:List IntKind} (n:Nat) (hk:eU P n t=some ks) (hagg:∃C,v=.agg C)
  (h:DataW.Trod enc P w base spare held t v d p):∃cs,v=.agg cs.toArray/\K5 ks cs:=by
 obtain ⟨C,rfl⟩:=hagg
 obtain ⟨fuel,hf⟩:=h
 exact ⟨C.toList,by simp,iQ n t ks fuel _ _ hk (by simpa [Value.cells] using hf)⟩
theorem Ha {r:Reach} {t:TypeId} {v:Value} {n:Nat} {e:TypeId} (hs:P.underlying t=some (.array n e)) (hv:Value.okWide P w r base t v):∃C,v=.agg C:=by
 unfold Value.okWide at hv
 rw[hs] at hv
 obtain ⟨C,h,_⟩:=hv
 exact ⟨C,h⟩
end
end
section
open Go.WideShapes Go.ChangeShapes
section
variable {H:Type} {enc:TypeId×Value->H} {P:Program} {W:World} {base:Nat}
theorem a7k {p:List MemPlace} {a:Addr} {n i:Nat} (hp:p=MemPlace.row a n) (hi:i<n) (hlt:∀x∈p,x.block<W.heap.size):a.block<W.heap.size:=by
 obtain ⟨b,off,spot⟩:=a
 exact hlt (.cell b off) (by rw[hp];exact MemPlace.mem_row.2 ⟨0,by omega,by simp⟩)
theorem oG {t e:TypeId} {k:IntKind} {r:Reach} {b0:Nat} {v:Value} {d:DataW H} {p:List MemPlace} (ht:P.underlying t=some (.slice e)) (he:P.underlying e=some (.int k)) (hc:P.cellsOf e=1)
  (hv:Value.okWide P W r b0 t v) (h:DataW.Trod enc P W base (fun _=>true) true t v d p) (hlt:∀x∈p,x.block<W.heap.size) :
  ∃(o:Option Addr) (n cap:Nat) (zs:List Int),v=.slice o n cap/\zs.length=n/\n<=cap/\(∀z∈zs,(Lit.int k z).wf=true)/\
   (∀i (h:i<zs.length),∃a,o=some a/\a.block<W.heap.size/\W.cell? (a.add i)=some (.int k zs[i]))/\(d=.nil/\n=0\/∃elems spare,d=.slice elems spare/\elems.length=n):=by
 obtain ⟨o,len,cap,rfl⟩:=okWide_slice ht hv
 obtain ⟨fuel,hf⟩:=h
 rcases open_ints ht he hc hf with ⟨hcs,hx⟩|⟨a,len',cap',zs,hcs,_,hl,hm,hz,hx,hcell,hwz⟩
 ·simp[Value.cells] at hcs
  obtain ⟨rfl,rfl,rfl⟩:=hcs
  simp only[Prod.mk.injEq] at hx
  obtain ⟨rfl,rfl⟩:=hx
  exact ⟨none,0,0,[],rfl,rfl,Nat.le_refl _,by simp,fun i h=>by simp at h,Or.inl ⟨rfl,rfl⟩⟩
 ·simp[Value.cells] at hcs
  obtain ⟨rfl,rfl,rfl⟩:=hcs
  simp only[Prod.mk.injEq] at hx
  obtain ⟨rfl,hp⟩:=hx
  simp only[if_true] at hz
  refine ⟨some a,len,cap,zs.take len,rfl,by rw[List.length_take];omega,hl,fun z hzz=>hwz z (List.mem_of_mem_take hzz),fun i hi=>?_,Or.inr ⟨_,_,rfl,by simp[lits];omega⟩⟩
  rw[List.length_take] at hi
  refine ⟨a,rfl,a7k hp (show i<zs.length by omega) hlt,?_⟩
  rw[hcell i (by omega),List.getElem_take,List.getD_eq_getElem?_getD,List.getElem?_eq_getElem (by omega)];rfl
theorem xE {ts:List TypeId} {ds:List (DataW H)} {j:Nat} {t e:TypeId} {d:DataW H} {n:Nat} (h:(DataW.weightsEach P ts ds).all (·<=reachBytes)=true) (ht:ts[j]? = some t) (hd:ds[j]? = some d)
  (hu:P.underlying t=some (.slice e)) (hs:d=.nil/\n=0\/∃elems spare,d=.slice elems spare/\elems.length=n):n*P.bytesOf e<=140737488351232:=by
 rcases hs with ⟨_,rfl⟩|⟨elems,spare,rfl,rfl⟩
 ·simp
 ·have:=sized_slice h ht hd hu
  refine Nat.le_trans (Nat.mul_le_mul_right _ (Nat.le_add_right _ _)) (show _<=140737488351232 from this)
end
end
end Go.Proofs.YtpdckpifhniioaaGreat
