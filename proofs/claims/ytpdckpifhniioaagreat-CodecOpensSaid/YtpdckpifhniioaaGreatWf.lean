/- Part 6 of what CodecOpens rests on. -/
import Derived.Test.YtpdckpifhniioaaGreatWe
open Go.Proofs.Tryz
set_option maxRecDepth 100000
set_option maxHeartbeats 8000000
set_option linter.unusedVariables false
set_option linter.unusedSimpArgs false
namespace Go.Proofs.YtpdckpifhniioaaGreat
open Go.RowKit
section
namespace Ab
attribute [local irreducible] j8
def A4 (s:ByteArray):Bool:=bif E8 s then false else bif (List.range (nN s)).all (M0 s) then !decide ((s.size:Int)-((o3 s (nN s):Nat):Int)>0) else false
theorem yS {s:ByteArray} {j:Nat} (hj:j<nN s) (h:M0 s j=false):A4 s=false:=by
 unfold A4
 have:(List.range (nN s)).all (M0 s)=false:=by
  rw[List.all_eq_false]
  exact ⟨j,List.mem_range.2 hj,by rw[h];decide⟩
 rw[this]
 cases E8 s<;>rfl
theorem wV {s:ByteArray} (h:E8 s=true):A4 s=false:=by unfold A4;rw[h];rfl
theorem iF {s:ByteArray} (h1:E8 s=false) (h2:∀j,j<nN s->M0 s j=true):A4 s = !decide ((s.size:Int)-((o3 s (nN s):Nat):Int)>0):=by
 unfold A4
 have:(List.range (nN s)).all (M0 s)=true:=by
  rw[List.all_eq_true]
  exact fun j hj=>h2 j (List.mem_range.1 hj)
 rw[h1,this];rfl
theorem I7 {s:ByteArray} (h:A4 s=true):E8 s=false/\(∀j,j<nN s->M0 s j=true)/\o3 s (nN s)=s.size:=by
 have h1:E8 s=false:=by
  cases e:E8 s with
  |false=>rfl
  |true=>rw[wV e] at h;cases h
 have h2:∀j,j<nN s->M0 s j=true:=fun j hj=>by
  cases e:M0 s j with
  |true=>rfl
  |false=>rw[yS hj e] at h;cases h
 refine ⟨h1,h2,?_⟩
 rw[iF h1 h2] at h
 have h3:=cM s (nN s)
 have h4:¬((s.size:Int)-((o3 s (nN s):Nat):Int)>0):=by simpa using h
 omega
theorem H8.nilS {l:List (Nat×Option Nat)} {S:St} {n t i:Nat} (h:S.sl t=.c (.l (.v (.slice none 0 0)))) (hi:i<n) (hs:sg l i=none):H8 l n (S.sl t) (.c (.l (.o i 0))):=by
 rw[h];exact fun β y hd=>gT.nil hi hs β y hd
theorem Vw {s:ByteArray} (h1:E8 s=false) (h2:∀j,j<nN s->M0 s j=true) (h3:decide ((s.size:Int)-((o3 s (nN s):Nat):Int)>0)=true):A4 s=false:=by rw[iF h1 h2,h3];rfl
theorem Fh {s:ByteArray} (h1:E8 s=false) (h2:∀j,j<nN s->M0 s j=true) (h3:decide ((s.size:Int)-((o3 s (nN s):Nat):Int)>0)=false):A4 s=true:=by rw[iF h1 h2,h3];rfl
theorem rd0 (s:ByteArray) (hs:s.size<=1000000000000000000) (id n:Nat):f4 prog 125 [.c (.l (.p id 0))] [(id,⟨[.v (.string s),.v (.int .i64 0),.v (.bool false)],.t 174⟩)] n (iv .i64 (nP s)) [(id,⟨[.v (.string s),.v (.int .i64 (o3 s 0:Nat)),.v (.bool (Oct.l7 s 0 false).2.2)],.t 174⟩)] 0:=a9u id s (0:Nat) false hs (by decide) (Int.natCast_nonneg _) n
theorem rd7 (s:ByteArray) (k:Nat) (hs:s.size<=1000000000000000000) (f:Bool) (id n:Nat):f4 prog 63 [.c (.l (.p id 0))] [(id,⟨[.v (.string s),.v (.int .i64 (o3 s k:Nat)),.v (.bool f)],.t 174⟩)] n (iv .i64 (s.size-(o3 s k:Nat))) [] 0:=C63 id s (o3 s k:Nat) f hs (Int.natCast_nonneg _) (Int.ofNat_le.2 (cM s k)) n
theorem rd8 (s:ByteArray) (p:Nat) (f:Bool) (id n:Nat):f4 prog 61 [.c (.l (.p id 0))] [(id,⟨[.v (.string s),.v (.int .i64 (p:Nat)),.v (.bool f)],.t 174⟩)] n (bv f) [] 0:=C61 id s (p:Nat) f (Int.natCast_nonneg _) n
def b9t (s:ByteArray):Rw:=some fun _ _=>fun | [.c (.l (.p i _))]=>some {v:=bv (Oct.l7 s 0 false).2.2,rd:=[i]}|_=>none
def c2r (s:ByteArray):Rw:=some fun _ _=>fun | [.c (.l (.p i _))]=>some {v:=iv .i64 (s.size-(o3 s (nN s):Nat)),rd:=[i]}|_=>none
def c2y (s:ByteArray):Rw:=some fun _ _=>fun | [.c (.l (.p i _))]=>some {v:=iv .i64 (nP s),rd:=[i],wr:=[(i,⟨[.v (.string s),.v (.int .i64 (o3 s 0:Nat)),.v (.bool (Oct.l7 s 0 false).2.2)],.t 174⟩)]}|_=>none
def Zd (s:ByteArray):Cz:={
 ct:=(fun f=>match f with
 |58=>some fun _ _S=>fun | [.c (.l (.v (.string s)))]=>some {v:=.c (.l (.p _S.n 0)),wr:=[(_S.n,⟨[.v (.string s),.v (.int .i64 0),.v (.bool false)],.t 174⟩)],nw:=1}|_=>none
 |61=>b9t s
 |63=>c2r s
 |125=>c2y s
 |_=>none)
 nf:=[(26,bv (E8 s))],lp:=fun r=>match r with|6=>some (fun _ K=>((∀j,j<(nN s)->M0 s j=true)->K (.exit 0) (Eg s (nN s)))/\(∀j,j<(nN s)->M0 s j=false->K .ret (Q62)))|_=>none}
theorem d0c (s:ByteArray) (hs:s.size<=1000000000000000000) (hb:A4 s=false) (n:Nat):f4 prog 62 [.c (.l (.v (.string s)))] [] n (.tup [.l (.v (.slice none 0 0)),.l (.v (.slice none 0 0)),.l (li 11)]) [] 0:=by
 refine v6 (q:=let a:=[l9 s,li 0,lb false];let b:=[(0,j9 a 174)];let d:=[j7 0 0];let e:=Oct.l7 s 0 false;let f:=[l9 s,li (Nat.cast ((o3 s 0)):Int),lb e.snd.snd];let h:=[(0,j9 f 174)];let i:=!e.snd.snd;let k:=nP s<0;let m:=!bif e.snd.snd then true else decide k;let n:=bif e.snd.snd then true else decide k;let o:=E8 s;let r:=Leaf.v (Value.slice none 0 0);let ud:=(SV.tup [Cp.l r,Cp.l r,Cp.l (li 11)]);let w:=Le ud ud/\True;let x:=Cp.l (li (nP s));let y:=(∀(j:Nat),j<nN s->M0 s j=true);let z:=(Nat.cast ((o3 s (nN s))):Int);Kd 58 [] [l4 (l9 s)] [] 0 (j7 0 0) b 1/\Kd 125 [] d b 1 (i8 (nP s)) h 0/\Kd 61 [] d h 1 (bv e.snd.snd) [] 0/\(i=true->i=true/\True)/\(e.snd.snd=false->i=true)/\(m=true->m=true/\True)/\(n=false->m=true)/\Le (bv (bif bif e.snd.snd then true else decide k then true else decide (nP s>1024))) (bv o)/\HB o w ((l3 prog (gl 6 Tryz.f62) (St.mk [(28,i8 0),(27,i8 (nP s)),(26,bv o),(25,SV.g m (Cp.l (lb (decide (nP s>1024))))),(24,SV.g m x),(23,bv n),(22,bv n),(21,SV.g i (Cp.l (lb (decide k)))),(20,SV.g i x),(19,bv e.snd.snd),(18,bv e.snd.snd),(17,j7 0 0),(6,i8 (nP s)),(16,i8 (nP s)),(15,j7 0 0),(5,j7 0 0),(14,j7 0 0),(13,l4 (l9 s)),(4,i8 0),(3,l4 r),(2,l4 r),(0,l4 (l9 s))] [(0,some (j9 f 174)),(0,some (j9 a 174))] 1 96 [0,0] 0) fun K=>(y->K (Exit.exit 0) (Eg s (nN s)))/\∀(j:Nat),j<nN s->M0 s j=false->K Exit.ret Q62)/\(y->Kd 63 [] d [(0,j9 [l9 s,li z,lb false] 174)] 3 (i8 ((s.size:Int)-z)) [] 0/\HB (decide ((s.size:Int)-z>0)) w False)/\∀(j:Nat),j<nN s->M0 s j=false->Le ud ud/\True)) (Zd s) func62 n (by kernel_rfl) (by kernel_rfl) ?_
 with_reducible repeat' first|exact trivial|apply And.intro|apply HB.mk|intro _
 all_goals first|assumption|(with_reducible first|exact Le.refl _|exact C58 _ _|exact rd8 _ _ _ _ _|exact rd7 _ _ hs _ _ _|exact rd0 _ hs _ _)|exact l3.re [(1,none),(2,none)] (Eg s 0) (by kernel_rfl) (m9 (H8.k (by kernel_rfl)) (m9 (H8.sl_int (y:=nP s) (by kernel_rfl) ((E2 ‹E8 s=false›).2.1)) (m9 (H8.k (by kernel_rfl)) (m9 (H8.nilS (by kernel_rfl) (show 1<3 by decide) rfl) (m9 (H8.nilS (by kernel_rfl) (show 2<3 by decide) rfl) trivial))))) (f5 (j:=0) rfl (v5.blk (k:=⟨[.v (.string s),.v (.int .i64 (o3 s 0:Nat)),.v (.bool (Oct.l7 s 0 false).2.2)],.t 174⟩) (k'':=⟨[.v (.string s),.v (.int .i64 (o3 s 0:Nat)),.v (.bool (Oct.l7 s 0 false).2.2)],.t 174⟩) (by kernel_rfl) (by kernel_rfl) (by rw[(E2 ‹E8 s=false›).1])) (G0.k (by kernel_rfl))) (fun K hT=>Ix s hs (E2 ‹E8 s=false›).2.2 _ 0 rfl (Nat.zero_le _) (fun j hj=>absurd hj (Nat.not_lt_zero j)) K hT.1 hT.2)|exact Le.bool rfl|exact absurd (hb.symm.trans (Fh (by with_reducible assumption) (by with_reducible assumption) (by with_reducible assumption))) (by decide)|simp only[*,Bool.and_self,Bool.not_false,Bool.not_true];done
def Zn (s:ByteArray):Cz:={
 ct:=(fun f=>match f with
 |58=>some fun _ _S=>fun | [.c (.l (.v (.string s)))]=>some {v:=.c (.l (.p _S.n 0)),wr:=[(_S.n,⟨[.v (.string s),.v (.int .i64 0),.v (.bool false)],.t 174⟩)],nw:=1}|_=>none
 |61=>b9t s
 |63=>c2r s
 |125=>c2y s
 |_=>none)
 nf:=[(26,bv (E8 s))],lp:=fun r=>match r with|6=>some (fun _ K=>((∀j,j<(nN s)->M0 s j=true)->K (.exit 0) (Eg s (nN s)))/\(∀j,j<(nN s)->M0 s j=false->K .ret (Q62)))|_=>none}
theorem d0h (s:ByteArray) (hs:s.size<=1000000000000000000) (hb:A4 s=true):f4 prog 62 [.c (.l (.v (.string s)))] [] 0 (.tup [.l (.o 0 (nN s)),.l (.o 1 (nN s)),.l (li 0)]) [(0,⟨o4 (E4 s (nN s)),.r 123 8 0⟩),(1,⟨U5 s (nN s),.r 3 1 1⟩)] 2:=by
 refine E3 (q:=let a:=[l9 s,li 0,lb false];let b:=[(0,j9 a 174)];let d:=[j7 0 0];let e:=Oct.l7 s 0 false;let f:=[l9 s,li (Nat.cast ((o3 s 0)):Int),lb e.snd.snd];let h:=[(0,j9 f 174)];let i:=!e.snd.snd;let k:=nP s<0;let m:=!bif e.snd.snd then true else decide k;let n:=bif e.snd.snd then true else decide k;let u:=E8 s;let w:=Leaf.v (Value.slice none 0 0);let x:=(SV.tup [Cp.l w,Cp.l w,Cp.l (li 11)]);let y:=(SV.tup [Cp.l (Leaf.o 0 (nN s)),Cp.l (Leaf.o 1 (nN s)),Cp.l (li 0)]);let z:=Cp.l (li (nP s));let A:=(∀(j:Nat),j<nN s->M0 s j=true);let B:=(Nat.cast ((o3 s (nN s))):Int);let C:=(x8 0 0 [1,2]);let D:=o4 (E4 s (nN s));let E:=o8 (U5 s (nN s)) 3 1 2;let G:=o8 (U5 s (nN s)) 3 1 1;Kd 58 [] [l4 (l9 s)] [] 0 (j7 0 0) b 1/\Kd 125 [] d b 1 (i8 (nP s)) h 0/\Kd 61 [] d h 1 (bv e.snd.snd) [] 0/\(i=true->i=true/\True)/\(e.snd.snd=false->i=true)/\(m=true->m=true/\True)/\(n=false->m=true)/\Le (bv (bif bif e.snd.snd then true else decide k then true else decide (nP s>1024))) (bv u)/\HB u (Le x y/\False) ((l3 prog (gl 6 Tryz.f62) (St.mk [(28,i8 0),(27,i8 (nP s)),(26,bv u),(25,SV.g m (Cp.l (lb (decide (nP s>1024))))),(24,SV.g m z),(23,bv n),(22,bv n),(21,SV.g i (Cp.l (lb (decide k)))),(20,SV.g i z),(19,bv e.snd.snd),(18,bv e.snd.snd),(17,j7 0 0),(6,i8 (nP s)),(16,i8 (nP s)),(15,j7 0 0),(5,j7 0 0),(14,j7 0 0),(13,l4 (l9 s)),(4,i8 0),(3,l4 w),(2,l4 w),(0,l4 (l9 s))] [(0,some (j9 f 174)),(0,some (j9 a 174))] 1 96 [0,0] 0) fun K=>(A->K (Exit.exit 0) (Eg s (nN s)))/\∀(j:Nat),j<nN s->M0 s j=false->K Exit.ret Q62)/\(A->Kd 63 [] d [(0,j9 [l9 s,li B,lb false] 174)] 3 (i8 ((s.size:Int)-B)) [] 0/\HB (decide ((s.size:Int)-B>0)) (Le x y/\A5 C (o8 D 123 8 1) (o8 D 123 8 0)/\A5 C E G/\True) (Le y y/\A5 C (o8 D 123 8 1) (o8 D 123 8 0)/\A5 C E G/\True))/\∀(j:Nat),j<nN s->M0 s j=false->Le x y/\False)) (Zn s) [1,2] func62 (by kernel_rfl) (by kernel_rfl) ?_
 with_reducible repeat' first|exact trivial|apply And.intro|apply HB.mk|intro _
 all_goals first|assumption|(with_reducible first|exact Le.refl _|exact C58 _ _|exact rd8 _ _ _ _ _|exact rd7 _ _ hs _ _ _|exact rd0 _ hs _ _)|exact l3.re [(1,none),(2,none)] (Eg s 0) (by kernel_rfl) (m9 (H8.k (by kernel_rfl)) (m9 (H8.sl_int (y:=nP s) (by kernel_rfl) ((E2 ‹E8 s=false›).2.1)) (m9 (H8.k (by kernel_rfl)) (m9 (H8.nilS (by kernel_rfl) (show 1<3 by decide) rfl) (m9 (H8.nilS (by kernel_rfl) (show 2<3 by decide) rfl) trivial))))) (f5 (j:=0) rfl (v5.blk (k:=⟨[.v (.string s),.v (.int .i64 (o3 s 0:Nat)),.v (.bool (Oct.l7 s 0 false).2.2)],.t 174⟩) (k'':=⟨[.v (.string s),.v (.int .i64 (o3 s 0:Nat)),.v (.bool (Oct.l7 s 0 false).2.2)],.t 174⟩) (by kernel_rfl) (by kernel_rfl) (by rw[(E2 ‹E8 s=false›).1])) (G0.k (by kernel_rfl))) (fun K hT=>Ix s hs (E2 ‹E8 s=false›).2.2 _ 0 rfl (Nat.zero_le _) (fun j hj=>absurd hj (Nat.not_lt_zero j)) K hT.1 hT.2)|exact Le.bool rfl|exact A5.plain rfl (g9 _) (by kernel_rfl)|exact A5.plain rfl (v4 _ _) (by kernel_rfl)|exact absurd (hb.symm.trans (wV (by with_reducible assumption))) (by decide)|exact absurd (hb.symm.trans (yS (by with_reducible assumption) (by with_reducible assumption))) (by decide)|exact absurd (hb.symm.trans (Vw (by with_reducible assumption) (by with_reducible assumption) (by with_reducible assumption))) (by decide)|simp only[*,Bool.and_self,Bool.not_false,Bool.not_true];done
end Ab
end
section
namespace Ab
attribute [local irreducible] j8
def A3 (s:ByteArray):ByteArray:=(P9 s ⟨#[71,1]⟩).1
def aT (s:ByteArray):Bool:=(P9 s ⟨#[71,1]⟩).2
def dE (s:ByteArray):Nat×Bool:=(Oct.y5 (A3 s) 0 false).2
def m6 (s:ByteArray):ByteArray:=(Oct.y5 (A3 s) 0 false).1
def D2 (s:ByteArray):Nat×Bool:=(Oct.l5 (A3 s) (dE s).1 (dE s).2 (Oct.sz 4)).2
def dD (s:ByteArray):Int:=Bm (A3 s) (dE s).1 (dE s).2 4
def N8 (s:ByteArray):Nat->Int
 |0=>0
 |k+1=>N8 s k+J3 s k
def stB (s:ByteArray) (b:Bool):Bool:=match s.data.toList with | []=>b|_::_=>b
def L8 (s:ByteArray):Bool:=stB s (dD s != z7 (m6 s))
def aZ (s:ByteArray):Int:=N8 (m6 s) (nN (m6 s))
def z3 (s:ByteArray):Int:=((A3 s).size:Int)-(((D2 s).1:Nat):Int)
def t9 (s:ByteArray):Int:=bif !aT s then 11 else bif (D2 s).2 then 10 else bif L8 s then 12 else bif !A4 (m6 s) then 11 else bif decide (z3 s<aZ s) then 10 else bif decide (z3 s>aZ s) then 11 else 0
def F8 (s:ByteArray) (k:Nat):Nat:=(D2 s).1+(N8 (m6 s) k).toNat
def qK (s:ByteArray) (k:Nat):ByteArray:=(Oct.l5 (A3 s) (F8 s k) false (J3 (m6 s) k)).1
def EN.bl (e:EN) (b:ByteArray):EN:={e with blob:=b}
def U7 (s:ByteArray) (k:Nat):List EN:=(List.range (nN (m6 s))).map fun j=>if j<k then (C1 (m6 s) j).bl (qK s j) else C1 (m6 s) j
def z6 (s:ByteArray):List EN:=(List.range (nN (m6 s))).map fun j=>(C1 (m6 s) j).bl (qK s j)
theorem mD (s:ByteArray) (b:Bool):stB s b=b:=by unfold stB;split<;>rfl
theorem cK (s:ByteArray):(dD s != z7 (m6 s))=L8 s:=(mD s _).symm
theorem sJ (s:ByteArray) {i j k:Nat} (e:i=j) (h:j<k):(U5 s k).getD i .u=li (J3 s j):=by subst e;exact b1w s h
theorem op7 (q:ByteArray) (h:q.size<=1000000000000000000) (n:Nat):f4 prog 53 [.c (.l (.v (.string q)))] [] n (iv .u32 (z7 q)) [] 0:=C53 q h n
theorem a0n (s t:ByteArray):(P9 s t).1.size<=s.size:=by
 unfold P9
 cases Y5 s t
 ·exact Nat.le_refl _
 ·show (s.extract t.size s.size).size<=_
  rw[ByteArray.size_extract];omega
theorem jK (s:ByteArray):(A3 s).size<=s.size:=a0n _ _
theorem Ga (s:ByteArray) (p:Nat) (f:Bool) (hp:p<=s.size):(Oct.y5 s p f).2.1<=s.size/\(Oct.y5 s p f).1.size<=s.size:=by
 unfold Oct.y5
 have h1:=Oct.P0 s (Oct.l7 s p f).2.1 (Oct.l7 s p f).2.2 (Oct.l7 s p f).1 (Oct.Y0 s p f hp)
 have h2:=Oct.tI s (Oct.l7 s p f).2.1 (Oct.l7 s p f).2.2 (Oct.l7 s p f).1
 simp only[]
 split
 ·exact ⟨hp,Nat.zero_le _⟩
 ·exact ⟨h1,h2⟩
theorem Bw (s:ByteArray):(dE s).1<=(A3 s).size:=(Ga _ _ _ (Nat.zero_le _)).1
theorem hM (s:ByteArray):(m6 s).size<=(A3 s).size:=(Ga _ _ _ (Nat.zero_le _)).2
theorem Av (s:ByteArray):(D2 s).1<=(A3 s).size:=Oct.P0 _ _ _ _ (Bw s)
theorem wO {s:ByteArray} {j:Nat} (h:M0 s j=true):1<=J3 s j/\J3 s j<=257:=by
 unfold M0 at h
 have h1:I6 s (o3 s j)=false:=by
  cases e:I6 s (o3 s j) with
  |false=>rfl
  |true=>rw[e] at h;cases h
 exact (M5 h1).2.2.2
theorem iA {s:ByteArray} {n:Nat} (h:∀j,j<n->M0 s j=true):∀k,k<=n->(k:Int)<=N8 s k/\N8 s k<=257*k
 |0,_=>⟨Int.le_refl _,Int.le_refl _⟩
 |k+1,hk=>by
  have h1:=iA h k (by omega)
  have h2:=wO (h k hk)
  show _<=N8 s k+J3 s k/\N8 s k+J3 s k<=_
  omega
theorem pG {s:ByteArray} {n:Nat} (h:∀j,j<n->M0 s j=true) {k:Nat}:∀m,k+m<=n->N8 s k<=N8 s (k+m)
 |0,_=>Int.le_refl _
 |m+1,hk=>by
  have h1:=pG (k:=k) h m (by omega)
  have h2:=wO (h (k+m) (by omega))
  show _<=N8 s (k+m)+J3 s (k+m)
  omega
theorem fT {s:ByteArray} (hp:A4 (m6 s)=true) (hl:z3 s=aZ s) {k:Nat} (hk:k<nN (m6 s)) :
  Oct.l5 (A3 s) (F8 s k) false (J3 (m6 s) k)=((A3 s).extract (F8 s k) (F8 s (k+1)),F8 s (k+1),false):=by
 obtain ⟨_,hok,_⟩:=I7 hp
 have h1:=iA hok k (by omega)
 have h2:=wO (hok k hk)
 have h3:=pG hok (k:=k+1) (nN (m6 s)-(k+1)) (by omega)
 rw[show k+1+(nN (m6 s)-(k+1))=nN (m6 s) by omega] at h3
 have h4:N8 (m6 s) (k+1)=N8 (m6 s) k+J3 (m6 s) k:=rfl
 have h5:((F8 s k:Nat):Int)=((D2 s).1:Nat)+N8 (m6 s) k:=by unfold F8;omega
 have h6:F8 s k+(J3 (m6 s) k).toNat=F8 s (k+1):=by unfold F8;omega
 have h7:((A3 s).size:Int)-(((D2 s).1:Nat):Int)=N8 (m6 s) (nN (m6 s)):=hl
 unfold Oct.l5
 rw[if_neg (by
  rintro (h|h|h)
  ·cases h
  ·omega
  ·omega),h6]
theorem tA {s:ByteArray} (hp:A4 (m6 s)=true) (hl:z3 s=aZ s) {k:Nat} (hk:k<=nN (m6 s)):F8 s k<=(A3 s).size:=by
 obtain ⟨_,hok,_⟩:=I7 hp
 have h1:=iA hok k hk
 have h3:=pG hok (k:=k) (nN (m6 s)-k) (by omega)
 rw[show k+(nN (m6 s)-k)=nN (m6 s) by omega] at h3
 have h7:((A3 s).size:Int)-(((D2 s).1:Nat):Int)=N8 (m6 s) (nN (m6 s)):=hl
 unfold F8;omega
theorem oF {s:ByteArray} (hp:A4 s=true):nN s<=1024:=(E2 (I7 hp).1).2.2
theorem gL (s:ByteArray) (k:Nat):(U7 s k).length=nN (m6 s):=by simp[U7]
theorem iC (s:ByteArray):(z6 s).length=nN (m6 s):=by simp[z6]
theorem cZ (s:ByteArray):U7 s 0=E4 (m6 s) (nN (m6 s)):=by
 unfold U7 E4
 exact List.map_congr_left fun j _=>if_neg (Nat.not_lt_zero j)
theorem yN (s:ByteArray):U7 s (nN (m6 s))=z6 s:=by
 unfold U7 z6
 exact List.map_congr_left fun j hj=>if_pos (List.mem_range.1 hj)
theorem Mt (s:ByteArray) {k:Nat} (hk:k<nN (m6 s)):(U7 s k).set k ((C1 (m6 s) k).bl (qK s k))=U7 s (k+1):=by
 apply List.ext_getElem?
 intro i
 rw[List.getElem?_set,gL]
 unfold U7
 simp only[List.getElem?_map,List.getElem?_range]
 by_cases hi:i<nN (m6 s)
 ·rw[List.getElem?_range hi]
  by_cases e:k=i
  ·subst e;rw[if_pos rfl,if_pos hk];simp
  ·rw[if_neg e]
   simp only[Option.map_some,Option.some.injEq]
   by_cases h1:i<k
   ·rw[if_pos h1,if_pos (by omega)]
   ·rw[if_neg h1,if_neg (by omega)]
 ·rw[if_neg (by omega:¬k=i),List.getElem?_eq_none (by rw[List.length_range];omega)];rfl
theorem a0o (s:ByteArray) {k:Nat} (hk:k<nN (m6 s)):ea (U7 s k) k=C1 (m6 s) k:=by simp[ea,U7,List.getD,hk]
theorem zO:∀(l:List EN) (k:Nat) (b:ByteArray),k<l.length->(o4 l).set (k*8+7) (.v (.string b))=o4 (l.set k ((ea l k).bl b))
 |[],k,b,h=>by simp at h
 |e::l,0,b,h=>by simp[o4,ea,en,EN.bl]
 |e::l,k+1,b,h=>by
  have ih:=zO l k b (by simpa using h)
  have e1:o4 (e::l)=en e++o4 l:=by simp[o4]
  have e2:o4 ((e::l).set (k+1) ((ea (e::l) (k+1)).bl b))=en e++o4 (l.set k ((ea l k).bl b)):=by simp[o4,ea]
  rw[e1,e2,<-ih,List.set_append_right _ _ (by show 8<=_;omega)]
  rw[show (en e).length=8 from rfl,show (k+1)*8+7-8=k*8+7 by omega]
theorem xT (s:ByteArray) {k:Nat} (hk:k<nN (m6 s)):j4 (o4 (U7 s k)) (k*8+7) [.v (.string (qK s k))]=o4 (U7 s (k+1)):=by
 show (o4 (U7 s k)).set (k*8+7) _=_
 rw[zO _ _ _ (by rw[gL];exact hk),a0o s hk,Mt s hk]
theorem Us {s:ByteArray} {n k:Nat} (h:∀j,j<n->M0 s j=true) (hk:k<n) (hn:n<=1024):IntKind.i64.wrap (N8 s k+J3 s k)=N8 s k+J3 s k:=by
 have h1:=iA h (k+1) hk
 have h2:N8 s (k+1)=N8 s k+J3 s k:=rfl
 rw[h2] at h1
 generalize N8 s k+J3 s k=z at *
 exact C2 _ (by omega) (by omega)
theorem op1 (s:ByteArray) (hs:s.size<=1000000000000000000) (n:Nat):f4 prog 57 [.c (.l (.v (.string s))),.c (.l (.v (.string ⟨#[71,1]⟩)))] [] n (.tup [.l (.v (.string (A3 s))),.l (.v (.bool (aT s)))]) [] 0:=C57 s _ hs n
theorem op2 (s:ByteArray) (hs:(A3 s).size<=1000000000000000000) (id n:Nat):f4 prog 59 [.c (.l (.p id 0))] [(id,⟨[.v (.string (A3 s)),.v (.int .i64 0),.v (.bool false)],.t 174⟩)] n (.c (.l (.v (.string (m6 s))))) [(id,⟨[.v (.string (A3 s)),.v (.int .i64 ((dE s).1:Nat)),.v (.bool (dE s).2)],.t 174⟩)] 0:=C59 id (A3 s) (0:Nat) false hs (by decide) (Int.natCast_nonneg _) n
theorem op3 (s:ByteArray) (hs:(A3 s).size<=1000000000000000000) (id n:Nat):f4 prog 60 [.c (.l (.p id 0)),iv .i64 4] [(id,⟨[.v (.string (A3 s)),.v (.int .i64 ((dE s).1:Nat)),.v (.bool (dE s).2)],.t 174⟩)] n (iv .i64 (dD s)) [(id,⟨[.v (.string (A3 s)),.v (.int .i64 ((D2 s).1:Nat)),.v (.bool (D2 s).2)],.t 174⟩)] 0:=C60 id (A3 s) ((dE s).1:Nat) (dE s).2 4 hs (Int.natCast_nonneg _) (Int.ofNat_le.2 (Bw s)) n
theorem op4 (s:ByteArray) (id n:Nat):f4 prog 61 [.c (.l (.p id 0))] [(id,⟨[.v (.string (A3 s)),.v (.int .i64 ((D2 s).1:Nat)),.v (.bool (D2 s).2)],.t 174⟩)] n (bv (D2 s).2) [] 0:=C61 id (A3 s) ((D2 s).1:Nat) (D2 s).2 (Int.natCast_nonneg _) n
theorem op5 (s:ByteArray) (f:Bool) (hs:(A3 s).size<=1000000000000000000) (id n:Nat):f4 prog 63 [.c (.l (.p id 0))] [(id,⟨[.v (.string (A3 s)),.v (.int .i64 ((D2 s).1:Nat)),.v (.bool f)],.t 174⟩)] n (iv .i64 (z3 s)) [] 0:=C63 id (A3 s) ((D2 s).1:Nat) f hs (Int.natCast_nonneg _) (Int.ofNat_le.2 (Av s)) n
theorem op6 (s:ByteArray) (hs:(A3 s).size<=1000000000000000000) (hp:A4 (m6 s)=true) (hl:z3 s=aZ s) {k:Nat} (hk:k<nN (m6 s)) (id n:Nat):f4 prog 64 [.c (.l (.p id 0)),iv .i64 (J3 (m6 s) k)] [(id,⟨[.v (.string (A3 s)),.v (.int .i64 (F8 s k:Nat)),.v (.bool false)],.t 174⟩)] n (.c (.l (.v (.string (qK s k))))) [(id,⟨[.v (.string (A3 s)),.v (.int .i64 (F8 s (k+1):Nat)),.v (.bool false)],.t 174⟩)] 0:=by
 have key:=C64 id (A3 s) (F8 s k:Nat) false (J3 (m6 s) k) hs (Int.natCast_nonneg _) (Int.ofNat_le.2 (tA hp hl (Nat.le_of_lt hk))) n
 have e:((F8 s k:Nat):Int).toNat=F8 s k:=rfl
 rw[e,show (Oct.l5 (A3 s) (F8 s k) false (J3 (m6 s) k)).2.1=F8 s (k+1) by rw[fT hp hl hk],show (Oct.l5 (A3 s) (F8 s k) false (J3 (m6 s) k)).2.2=false by rw[fT hp hl hk]] at key
 exact key
theorem oP {s:ByteArray} (h:t9 s=0):A4 (m6 s)=true:=by
 unfold t9 at h
 cases h1:aT s<;>cases h2:(D2 s).2<;>cases h3:L8 s<;>cases h4:A4 (m6 s)<;>simp_all
theorem Gf {s:ByteArray} (h1:(!aT s)=false) (h2:(D2 s).2=false) (h3:L8 s=false) (h4:A4 (m6 s)=true) (h5:decide (z3 s<aZ s)=false) (h6:decide (z3 s>aZ s)=false):t9 s=0:=by
 unfold t9
 rw[h1,h2,h3,h4,h5,h6];rfl
def nM (s:ByteArray) (k:Nat):St:=⟨[(47,iv .i64 (k:Nat)),(46,iv .i64 (nN (m6 s):Nat)),(45,.c (.l (.o 2 (nN (m6 s))))),(12,iv .i64 (N8 (m6 s) k)),(6,.c (.l (.p 0 0))),(9,.c (.l (.o 1 (nN (m6 s))))),(10,.c (.l (.o 2 (nN (m6 s))))),(11,iv .i64 0)],[(0,some ⟨[.v (.string (A3 s)),.v (.int .i64 ((D2 s).1:Nat)),.v (.bool false)],.t 174⟩),(1,some ⟨o4 (E4 (m6 s) (nN (m6 s))),.r 123 8 1⟩),(2,some ⟨U5 (m6 s) (nN (m6 s)),.r 3 1 2⟩)],3,87,[2,1,0],(0)⟩
def oT (s:ByteArray) (k:Nat):St:=⟨[(71,iv .i64 (k:Nat)),(70,iv .i64 (nN (m6 s):Nat)),(69,.c (.l (.o 2 (nN (m6 s))))),(6,.c (.l (.p 0 0))),(9,.c (.l (.o 1 (nN (m6 s)))))],[(0,some ⟨[.v (.string (A3 s)),.v (.int .i64 (F8 s k:Nat)),.v (.bool false)],.t 174⟩),(1,some ⟨o4 (U7 s k),.r 123 8 1⟩),(2,some ⟨U5 (m6 s) (nN (m6 s)),.r 3 1 2⟩)],3,87,[2,1,0],(0)⟩
def Zw (s:ByteArray) (k:Nat):Cz:={
 ct:=fun _=>none
 sym:=[49,50],nf:=[(50,iv .i64 (J3 (m6 s) k)),(53,iv .i64 (N8 (m6 s) (k+1)))]}
theorem b6r (s:ByteArray) (k:Nat)  (K:Exit->St->Prop) (h:let a:=nN (m6 s);let b:=(Nat.cast (a):Int);let d:=((k:Int));let e:=U5 (m6 s) a;let f:=N8 (m6 s) k+J3 (m6 s) k;let g:=N8 (m6 s) (k+1);let i:=(9,l4 (Leaf.o 1 a));let j:=(10,l4 (Leaf.o 2 a));let m:=(45,l4 (Leaf.o 2 a));let n:=[(0,some (j9 [l9 (A3 s),li ((D2 s).fst:Int),lb false] 174)),(1,some (o8 (o4 (E4 (m6 s) a)) 123 8 1)),(2,some (o8 e 3 1 2))];HB (decide ((k:Int)<b)) (t0 d a/\d.toNat*1<e.length/\Le (l4 (e.getD (d.toNat*1) Leaf.u)) (i8 (J3 (m6 s) k))/\IntKind.i64.wrap f=N8 (m6 s) k+J3 (m6 s) k/\Le (i8 f) (i8 g)/\IntKind.i64.wrap ((k:Int)+1)=(k:Int)+1/\RoundTo prog (gl 13 Tryz.f15) 3 (wkK 3 K) (St.mk [(6,j7 0 0),i,j,(11,i8 0),(12,i8 g),m,(46,i8 b),(47,i8 ((k:Int)+1))] n 3 87 [2,1,0] 0)) (wkK 3 K (Exit.exit 1) (St.mk [(6,j7 0 0),i,j,(11,i8 0),(12,i8 (N8 (m6 s) k)),m,(46,i8 b),(47,i8 (k:Int))] n 3 87 [2,1,0] 0))):z4 prog (gl 13 Tryz.f15) (nM s k) (wkK 3 K):=
 m5 [6,9,10,11,12,45,46,47] [0,1,2] (cx:=Zw s k) rfl (u3 (by kernel_rfl) h)
theorem b0x (s:ByteArray) (hok:∀j,j<(nN (m6 s))->M0 (m6 s) j=true) (hn:(nN (m6 s))<=1024):∀(m k:Nat),(nN (m6 s))-k=m->k<=(nN (m6 s))->∀(K:Exit->St->Prop),K (.exit 1) (nM s (nN (m6 s)))->z4 prog (gl 13 Tryz.f15) (nM s k) (wkK 3 K)
 |0,k,hm,hk,K,hK=>by
  have e:k=(nN (m6 s)):=by omega
  subst e
  refine b6r s _ K (HB.no (by omega) ?_)
  exact wkK.tk (nM s _) (by kernel_rfl) (d5 (l6.k (by kernel_rfl)) (d5 (l6.p (g9 _) (by kernel_rfl)) (d5 (l6.p (v4 _ _) (by kernel_rfl)) trivial))) hK
 |m+1,k,hm,hk,K,hK=>by
  refine b6r s k K (HB.yes (by omega) ?_)
  have hlt:k<(nN (m6 s)):=by omega
  with_reducible repeat' first|exact trivial|apply And.intro|apply HB.mk|intro _
  all_goals first|(exact ⟨by omega,by omega⟩)|rw[gC];omega|exact Le.of (congrArg (fun l=>SV.c (.l l)) (sJ _ (by omega) hlt))|exact Us hok hlt hn|exact Le.int rfl|(with_reducible refine RoundTo.tk 3 (nM s (k+1)) ?_ ?_ ?_);kernel_rfl;exact (d5 (l6.k (by kernel_rfl)) (d5 (l6.p (g9 _) (by kernel_rfl)) (d5 (l6.p (v4 _ _) (by kernel_rfl)) trivial)));exact (b0x s hok hn m (k+1) (by omega) (by omega) K hK)|exact C2 _ (by omega) (by omega)
def Zy (s:ByteArray) (k:Nat):Cz:={
 ct:=(fun f=>match f with
 |64=>some fun _ _=>fun | [.c (.l (.p i _)),.c (.l (.v (.int _ m)))]=>some {v:=.c (.l (.v (.string (qK s k)))),rd:=[i],wr:=[(i,⟨[.v (.string (A3 s)),.v (.int .i64 (F8 s (k+1):Nat)),.v (.bool false)],.t 174⟩)]}|_=>none
 |_=>none)
 sym:=[0,74,75,81],nf:=[(75,iv .i64 (J3 (m6 s) k))]}
theorem b8o (s:ByteArray) (k:Nat)  (K:Exit->St->Prop) (h:let a:=nN (m6 s);let b:=(Nat.cast (a):Int);let d:=((k:Int));let e:=U5 (m6 s) a;let f:=[l9 (A3 s),li (Nat.cast ((F8 s k)):Int),lb false];let g:=[l9 (A3 s),li (Nat.cast ((F8 s (k+1))):Int),lb false];let i:=o4 (U7 s k);let j:=(9,l4 (Leaf.o 1 a));let m:=(69,l4 (Leaf.o 2 a));let n:=(2,some (o8 e 3 1 2));HB (decide ((k:Int)<b)) (t0 d a/\d.toNat*1<e.length/\Le (l4 (e.getD (d.toNat*1) Leaf.u)) (i8 (J3 (m6 s) k))/\Kd 64 [] [j7 0 0,i8 (J3 (m6 s) k)] [(0,j9 f 174)] 3 (l4 (l9 (qK s k))) [(0,j9 g 174)] 0/\t0 d a/\d.toNat*8+7+1<=i.length/\IntKind.i64.wrap ((k:Int)+1)=(k:Int)+1/\RoundTo prog (gl 24 Tryz.f15) 3 (wkK 3 K) (St.mk [(6,j7 0 0),j,m,(70,i8 b),(71,i8 ((k:Int)+1))] [(0,some (j9 g 174)),(1,some (o8 (j4 i (d.toNat*8+7) [l9 (qK s k)]) 123 8 1)),n] 3 87 [1,0,2,1,0] 0)) (wkK 3 K (Exit.exit 4) (St.mk [(6,j7 0 0),j,m,(70,i8 b),(71,i8 (k:Int))] [(0,some (j9 f 174)),(1,some (o8 i 123 8 1)),n] 3 87 [2,1,0] 0))):z4 prog (gl 24 Tryz.f15) (oT s k) (wkK 3 K):=
 m5 [6,9,69,70,71] [0,1,2] (cx:=Zy s k) rfl (u3 (by kernel_rfl) h)
theorem b2j (s:ByteArray) (hr:(A3 s).size<=1000000000000000000) (hp:A4 (m6 s)=true) (hl:z3 s=aZ s):∀(m k:Nat),(nN (m6 s))-k=m->k<=(nN (m6 s))->∀(K:Exit->St->Prop),K (.exit 4) (oT s (nN (m6 s)))->z4 prog (gl 24 Tryz.f15) (oT s k) (wkK 3 K)
 |0,k,hm,hk,K,hK=>by
  have e:k=(nN (m6 s)):=by omega
  subst e
  refine b8o s _ K (HB.no (by omega) ?_)
  exact wkK.tk (oT s _) (by kernel_rfl) (d5 (l6.k (by kernel_rfl)) (d5 (l6.p (g9 _) (by kernel_rfl)) (d5 (l6.p (v4 _ _) (by kernel_rfl)) trivial))) hK
 |m+1,k,hm,hk,K,hK=>by
  refine b8o s k K (HB.yes (by omega) ?_)
  have hlt:k<(nN (m6 s)):=by omega
  have hn:=oF hp
  with_reducible repeat' first|exact trivial|apply And.intro|apply HB.mk|intro _
  all_goals first|with_reducible exact op6 s hr hp hl hlt _ _|(exact ⟨by omega,by omega⟩)|rw[gC];omega|rw[y6,gL];omega|exact Le.of (congrArg (fun l=>SV.c (.l l)) (sJ _ (by omega) hlt))|(with_reducible refine RoundTo.tk 3 (oT s (k+1)) ?_ ?_ ?_);kernel_rfl;exact (d5 (l6.k (by kernel_rfl)) (d5 (l6.plain (cs:=j4 (o4 (U7 s k)) (k*8+7) [.v (.string (qK s k))]) (b:=.r 123 8 1) (by kernel_rfl) (xT s hlt) (g9 _) (by kernel_rfl)) (d5 (l6.p (v4 _ _) (by kernel_rfl)) trivial)));exact (b2j s hr hp hl m (k+1) (by omega) (by omega) K hK)|exact C2 _ (by omega) (by omega)
attribute [local irreducible] Oct.M.sum
def b1d:Rw:=some fun _ _=>fun | [.c (.l (.v (.string q)))]=>some {v:=iv .u32 (z7 q)}|_=>none
def a6u (s:ByteArray):Rw:=some fun _ _=>fun | [_,_]=>some {v:=.tup [.l (.v (.string (A3 s))),.l (.v (.bool (aT s)))]}|_=>none
def a6g:Rw:=some fun _ _S=>fun | [.c (.l (.v (.string q)))]=>some {v:=.c (.l (.p _S.n 0)),wr:=[(_S.n,⟨[.v (.string q),.v (.int .i64 0),.v (.bool false)],.t 174⟩)],nw:=1}|_=>none
def a7u (s:ByteArray):Rw:=some fun _ _=>fun | [.c (.l (.p i _))]=>some {v:=.c (.l (.v (.string (m6 s)))),rd:=[i],wr:=[(i,⟨[.v (.string (A3 s)),.v (.int .i64 ((dE s).1:Nat)),.v (.bool (dE s).2)],.t 174⟩)]}|_=>none
def a9x (s:ByteArray):Rw:=some fun _ _=>fun | [.c (.l (.p i _)),_]=>some {v:=iv .i64 (dD s),rd:=[i],wr:=[(i,⟨[.v (.string (A3 s)),.v (.int .i64 ((D2 s).1:Nat)),.v (.bool (D2 s).2)],.t 174⟩)]}|_=>none
def b0b (s:ByteArray):Rw:=some fun _ _=>fun | [.c (.l (.p i _))]=>some {v:=bv (D2 s).2,rd:=[i]}|_=>none
def a8a (s:ByteArray):Rw:=some fun _ _=>fun | [.c (.l (.p i _))]=>some {v:=iv .i64 (z3 s),rd:=[i]}|_=>none
def a2e (s:ByteArray):Cz:={
 ct:=(fun f=>match f with
 |53=>b1d
 |57=>a6u s
 |58=>a6g
 |59=>a7u s
 |60=>a9x s
 |61=>b0b s
 |62=>some fun _ _=>fun | [.c (.l (.v (.string q)))]=>some {v:=.tup [.l (.v (.slice none 0 0)),.l (.v (.slice none 0 0)),.l (li 11)]}|_=>none
 |63=>a8a s
 |_=>none)
 nf:=[(37,iv .i64 (z7 (m6 s))),(38,bv (L8 s))],un:=2}
theorem d0t (s:ByteArray) (hs:s.size<=1000000000000000000) (hp:A4 (m6 s)=false) (n:Nat):f4 prog 15 [.c (.l (.v (.string s)))] [] n (.tup [.l (.v (.pointer none)),.l (li (t9 s))]) [] 0:=by
 refine f4.any ?_ (by kernel_rfl) (by kernel_rfl) n
 have hr:(A3 s).size<=1000000000000000000:=Nat.le_trans (jK s) hs
 have hi:(m6 s).size<=1000000000000000000:=Nat.le_trans (hM s) hr
 refine E3 (q:=let a:=Leaf.v (Value.pointer none);let b:=(SV.tup [Cp.l a,Cp.l (li 11)]);let d:=(SV.tup [Cp.l a,Cp.l (li (t9 s))]);let e:=[(0,j9 [l9 (A3 s),li 0,lb false] 174)];let f:=[(0,j9 [l9 (A3 s),li ((dE s).fst:Int),lb (dE s).snd] 174)];let g:=[(0,j9 [l9 (A3 s),li ((D2 s).fst:Int),lb (D2 s).snd] 174)];let h:=[l4 (l9 (m6 s))];let i:=z7 (m6 s);let j:=Leaf.v (Value.slice none 0 0);Kd 57 [] [l4 (l9 s),l4 (l9 (ByteArray.mk #[71,1]))] [] 0 (SV.tup [Cp.l (l9 (A3 s)),Cp.l (lb (aT s))]) [] 0/\HB (!aT s) (Le b d/\True) (Kd 58 [] [l4 (l9 (A3 s))] [] 0 (j7 0 0) e 1/\Kd 59 [] [j7 0 0] e 1 (l4 (l9 (m6 s))) f 0/\Kd 60 [] [j7 0 0,i8 4] f 1 (i8 (dD s)) g 0/\Kd 61 [] [j7 0 0] g 1 (bv (D2 s).snd) [] 0/\HB (D2 s).snd (Le (SV.tup [Cp.l a,Cp.l (li 10)]) d/\True) (Kd 53 [] h [] 1 (iv .u32 i) [] 0/\Le (i8 (IntKind.i64.wrap i)) (i8 i)/\Le (bv (dD s != z7 (m6 s))) (bv (L8 s))/\HB (L8 s) (Le (SV.tup [Cp.l a,Cp.l (li 12)]) d/\True) (Kd 62 [] h [] 1 (SV.tup [Cp.l j,Cp.l j,Cp.l (li 11)]) [] 0/\Le b d/\True)))) (a2e s) [] func15 (by kernel_rfl) (by kernel_rfl) ?_
 with_reducible repeat' first|exact trivial|apply And.intro|apply HB.mk|intro _
 all_goals first|(with_reducible first|exact op7 _ hi _|exact op1 s hs _|exact C58 _ _|exact op2 s hr _ _|exact op3 s hr _ _|exact op4 s _ _|exact d0c _ hi hp _)|refine Le.int ?_;rw[IntKind.wrap_i64];have:=G9 (m6 s);omega|exact Le.bool (cK s)|refine Le.of ?_;simp[t9, *];done
theorem j8.off {P:Program} {f:Nat} {dc:List (Nat×Nat×Bool)} {args:List SV} {v:SV} {wr:List (Nat×n6)} {nw:Nat} (h:j8 P f dc args [] 0 v wr nw) (n:Nat) :
  j8 P f (dc.map fun p=>(n+p.1,p.2)) (args.map (SV.ren (n + ·))) [] n (v.ren (n + ·)) (wr.map fun p=>(n+p.1,p.2.ren (n + ·))) nw:=
 j8.ren h (n + ·) n (fun i h=>absurd h (Nat.not_lt_zero i)) (fun i _=>rfl) (fun i j h _ _=>absurd h (Nat.not_lt_zero i))
theorem c2b (s:ByteArray) (hs:s.size<=1000000000000000000) (hb:A4 s=true) (n:Nat):f4 prog 62 [.c (.l (.v (.string s)))] [] n (.tup [.l (.o n (nN s)),.l (.o (n+1) (nN s)),.l (li 0)]) [(n,⟨o4 (E4 s (nN s)),.r 123 8 n⟩),(n+1,⟨U5 s (nN s),.r 3 1 (n+1)⟩)] 2:=by
 have key:=j8.off (d0h s hs hb) n
 simp only[List.map_cons,List.map_nil,n6.ren,SV.ren,Cp.ren,Leaf.ren,BT.ren,j5 (g9 _),j5 (v4 _ _),Nat.add_zero] at key
 exact key
theorem Z5 {s:ByteArray} (h1:decide (z3 s<aZ s)=false) (h2:decide (z3 s>aZ s)=false):z3 s=aZ s:=by
 have:=of_decide_eq_false h1
 have:=of_decide_eq_false h2
 omega
def c5g:Rw:=some fun _ _S=>fun | [.c (.l (.v (.string q)))]=>some {v:=.tup [.l (.o _S.n (nN q)),.l (.o (_S.n+1) (nN q)),.l (li 0)],wr:=[(_S.n,⟨o4 (E4 q (nN q)),.r 123 8 _S.n⟩),(_S.n+1,⟨U5 q (nN q),.r 3 1 (_S.n+1)⟩)],nw:=2}|_=>none
def a3x (s:ByteArray):Cz:={
 ct:=(fun f=>match f with
 |53=>b1d
 |57=>a6u s
 |58=>a6g
 |59=>a7u s
 |60=>a9x s
 |61=>b0b s
 |62=>c5g
 |63=>a8a s
 |_=>none)
 nf:=[(37,iv .i64 (z7 (m6 s))),(38,bv (L8 s)),(63,bv (decide (z3 s<aZ s))),(68,bv (decide (z3 s>aZ s)))],lp:=fun r=>match r with|13=>some (fun _ K=>K (.exit 1) (nM s (nN (m6 s))))|24=>some (fun _ K=>K (.exit 4) (oT s (nN (m6 s))))|_=>none}
theorem c9q (s:ByteArray) (hs:s.size<=1000000000000000000) (hp:A4 (m6 s)=true) (he:t9 s≠0) (n:Nat):f4 prog 15 [.c (.l (.v (.string s)))] [] n (.tup [.l (.v (.pointer none)),.l (li (t9 s))]) [] 0:=by
 refine f4.any ?_ (by kernel_rfl) (by kernel_rfl) n
 have hr:(A3 s).size<=1000000000000000000:=Nat.le_trans (jK s) hs
 have hi:(m6 s).size<=1000000000000000000:=Nat.le_trans (hM s) hr
 have hok:=(I7 hp).2.1
 have hn:=oF hp
 refine E3 (q:=let a:=l9 (A3 s);let b:=[Cp.l a,Cp.l (lb (aT s))];let d:=Leaf.v (Value.pointer none);let e:=(SV.tup [Cp.l d,Cp.l (li (t9 s))]);let f:=(Le (SV.tup [Cp.l d,Cp.l (li 11)]) e/\True);let g:=[l9 (A3 s),li 0,lb false];let h:=[(0,j9 g 174)];let i:=[j7 0 0];let j:=l9 (m6 s);let k:=[l9 (A3 s),li ((dE s).fst:Int),lb (dE s).snd];let m:=[(0,j9 k 174)];let n:=((D2 s).fst:Int);let u:=[l9 (A3 s),li n,lb (D2 s).snd];let w:=[(0,j9 u 174)];let x:=(Le (SV.tup [Cp.l d,Cp.l (li 10)]) e/\True);let y:=z7 (m6 s);let z:=nN (m6 s);let A:=Leaf.o 1 z;let B:=Leaf.o 2 z;let C:=[Cp.l A,Cp.l B,Cp.l (li 0)];let D:=o4 (E4 (m6 s) z);let E:=(Nat.cast (z):Int);let G:=(1,some (o8 D 123 8 1));let H:=(2,some (o8 (U5 (m6 s) z) 3 1 2));let I:=[l9 (A3 s),li n,lb false];let J:=[(0,j9 I 174)];let L:=decide (z3 s<aZ s);let M:=decide (z3 s>aZ s);let N:=N8 (m6 s) z;Kd 57 [] [l4 (l9 s),l4 (l9 (ByteArray.mk #[71,1]))] [] 0 (SV.tup b) [] 0/\HB (!aT s) f (Kd 58 [] [l4 a] [] 0 (j7 0 0) h 1/\Kd 59 [] i h 1 (l4 j) m 0/\Kd 60 [] [j7 0 0,i8 4] m 1 (i8 (dD s)) w 0/\Kd 61 [] i w 1 (bv (D2 s).snd) [] 0/\HB (D2 s).snd x (Kd 53 [] [l4 j] [] 1 (iv .u32 y) [] 0/\Le (i8 (IntKind.i64.wrap y)) (i8 y)/\Le (bv (dD s != z7 (m6 s))) (bv (L8 s))/\HB (L8 s) (Le (SV.tup [Cp.l d,Cp.l (li 12)]) e/\True) (Kd 62 [] [l4 j] [] 1 (SV.tup C) [(1,o8 D 123 8 1),(2,o8 (U5 (m6 s) z) 3 1 2)] 2/\(l3 prog (gl 13 Tryz.f15) (St.mk [(47,i8 0),(46,i8 E),(45,l4 B),(12,i8 0),(11,i8 0),(10,l4 B),(9,l4 A),(44,i8 0),(43,l4 B),(42,l4 A),(39,SV.tup C),(41,SV.tup C),(40,l4 j),(33,bv (L8 s)),(38,bv (L8 s)),(37,i8 y),(36,iv .u32 y),(35,l4 j),(34,i8 (dD s)),(30,bv (D2 s).snd),(32,bv (D2 s).snd),(31,j7 0 0),(8,i8 (dD s)),(7,l4 j),(29,i8 (dD s)),(28,j7 0 0),(27,l4 j),(26,j7 0 0),(6,j7 0 0),(25,j7 0 0),(24,l4 a),(23,bv !aT s),(22,bv (aT s)),(5,bv (aT s)),(4,l4 a),(21,bv (aT s)),(20,l4 a),(17,SV.tup b),(19,SV.tup b),(18,l4 (l9 s)),(3,i8 0),(2,l4 d),(0,l4 (l9 s))] [G,H,(0,some (j9 u 174)),(0,some (j9 k 174)),(0,some (j9 g 174))] 3 87 [1,2,0,0,0] 0) fun K=>K (Exit.exit 1) (nM s z))/\Kd 63 [] i J 3 (i8 (z3 s)) [] 0/\Le (bv (decide (z3 s<N8 (m6 s) z))) (bv L)/\HB L x (Kd 63 [] i J 3 (i8 (z3 s)) [] 0/\Le (bv (decide (z3 s>N8 (m6 s) z))) (bv M)/\HB M f ((l3 prog (gl 24 Tryz.f15) (St.mk [(71,i8 0),(70,i8 E),(69,l4 B),(64,bv M),(68,bv M),(67,i8 N),(66,i8 (z3 s)),(65,j7 0 0),(59,bv L),(63,bv L),(62,i8 N),(61,i8 (z3 s)),(60,j7 0 0),(55,bv false),(57,bv false),(56,i8 0),(47,i8 E),(46,i8 E),(45,l4 B),(12,i8 N),(6,j7 0 0),(9,l4 A),(10,l4 B),(11,i8 0)] [(0,some (j9 I 174)),G,H] 3 87 [2,1,0] 0) fun K=>K (Exit.exit 4) (oT s z))/\False)))))) (a3x s) [] func15 (by kernel_rfl) (by kernel_rfl) ?_
 with_reducible repeat' first|exact trivial|apply And.intro|apply HB.mk|intro _
 all_goals first|(with_reducible first|exact op7 _ hi _|exact op1 s hs _|exact C58 _ _|exact op2 s hr _ _|exact op3 s hr _ _|exact op4 s _ _|exact c2b _ hi hp _|exact op5 s _ hr _ _)|exact l3.tk (nM s 0) (by kernel_rfl) (d5 (l6.blk (k:=⟨[.v (.string (A3 s)),.v (.int .i64 ((D2 s).1:Nat)),.v (.bool (D2 s).2)],.t 174⟩) (by kernel_rfl) (by rw[show (D2 s).2=false from (by with_reducible assumption)]) (by kernel_rfl)) (d5 (l6.p (g9 _) (by kernel_rfl)) (d5 (l6.p (v4 _ _) (by kernel_rfl)) trivial))) (fun K hT=>b0x s hok hn _ 0 rfl (Nat.zero_le _) K hT)|exact l3.tk (oT s 0) (by kernel_rfl) (d5 (l6.k (by kernel_rfl)) (d5 (l6.plain (cs:=o4 (E4 (m6 s) (nN (m6 s)))) (b:=.r 123 8 1) (by kernel_rfl) (by rw[cZ]) (g9 _) (by kernel_rfl)) (d5 (l6.p (v4 _ _) (by kernel_rfl)) trivial))) (fun K hT=>b2j s hr hp (Z5 (by with_reducible assumption) (by with_reducible assumption)) _ 0 rfl (Nat.zero_le _) K hT)|refine Le.int ?_;rw[IntKind.wrap_i64];have:=G9 (m6 s);omega|exact Le.bool (cK s)|exact absurd (Gf (by with_reducible assumption) (by with_reducible assumption) (by with_reducible assumption) hp (by with_reducible assumption) (by with_reducible assumption)) he|refine Le.of ?_;simp[t9, *];done|exact Le.of rfl
def Xa (s:ByteArray):Cz:={
 ct:=(fun f=>match f with
 |53=>b1d
 |57=>a6u s
 |58=>a6g
 |59=>a7u s
 |60=>a9x s
 |61=>b0b s
 |62=>c5g
 |63=>a8a s
 |_=>none)
 nf:=[(37,iv .i64 (z7 (m6 s))),(38,bv (L8 s)),(63,bv (decide (z3 s<aZ s))),(68,bv (decide (z3 s>aZ s)))],lp:=fun r=>match r with|13=>some (fun _ K=>K (.exit 1) (nM s (nN (m6 s))))|24=>some (fun _ K=>K (.exit 4) (oT s (nN (m6 s))))|_=>none}
theorem d1r (s:ByteArray) (hs:s.size<=1000000000000000000) (he:t9 s=0):f4 prog 15 [.c (.l (.v (.string s)))] [] 0 (.tup [.l (.p 0 0),.l (li 0)]) [(0,⟨[.o 1 (nN (m6 s)),li 0],.t 125⟩),(1,⟨o4 (z6 s),.r 123 8 1⟩)] 2:=by
 have hp:=oP he
 have hr:(A3 s).size<=1000000000000000000:=Nat.le_trans (jK s) hs
 have hi:(m6 s).size<=1000000000000000000:=Nat.le_trans (hM s) hr
 have hok:=(I7 hp).2.1
 have hn:=oF hp
 refine E3 (q:=let a:=l9 (A3 s);let b:=[Cp.l a,Cp.l (lb (aT s))];let d:=Leaf.v (Value.pointer none);let e:=(SV.tup [Cp.l (Leaf.p 0 0),Cp.l (li 0)]);let f:=(Le (SV.tup [Cp.l d,Cp.l (li 11)]) e/\False);let g:=[l9 (A3 s),li 0,lb false];let h:=[(0,j9 g 174)];let i:=[j7 0 0];let j:=l9 (m6 s);let k:=[l9 (A3 s),li ((dE s).fst:Int),lb (dE s).snd];let m:=[(0,j9 k 174)];let n:=((D2 s).fst:Int);let u:=[l9 (A3 s),li n,lb (D2 s).snd];let w:=[(0,j9 u 174)];let x:=(Le (SV.tup [Cp.l d,Cp.l (li 10)]) e/\False);let y:=z7 (m6 s);let z:=nN (m6 s);let A:=Leaf.o 1 z;let B:=Leaf.o 2 z;let C:=[Cp.l A,Cp.l B,Cp.l (li 0)];let D:=o4 (E4 (m6 s) z);let E:=(Nat.cast (z):Int);let G:=(1,some (o8 D 123 8 1));let H:=(2,some (o8 (U5 (m6 s) z) 3 1 2));let I:=[l9 (A3 s),li n,lb false];let J:=[(0,j9 I 174)];let L:=decide (z3 s<aZ s);let M:=decide (z3 s>aZ s);let N:=N8 (m6 s) z;let O:=(x8 0 0 [3,1]);let P:=(j9 [Leaf.o 1 z,li 0] 125);Kd 57 [] [l4 (l9 s),l4 (l9 (ByteArray.mk #[71,1]))] [] 0 (SV.tup b) [] 0/\HB (!aT s) f (Kd 58 [] [l4 a] [] 0 (j7 0 0) h 1/\Kd 59 [] i h 1 (l4 j) m 0/\Kd 60 [] [j7 0 0,i8 4] m 1 (i8 (dD s)) w 0/\Kd 61 [] i w 1 (bv (D2 s).snd) [] 0/\HB (D2 s).snd x (Kd 53 [] [l4 j] [] 1 (iv .u32 y) [] 0/\Le (i8 (IntKind.i64.wrap y)) (i8 y)/\Le (bv (dD s != z7 (m6 s))) (bv (L8 s))/\HB (L8 s) (Le (SV.tup [Cp.l d,Cp.l (li 12)]) e/\False) (Kd 62 [] [l4 j] [] 1 (SV.tup C) [(1,o8 D 123 8 1),(2,o8 (U5 (m6 s) z) 3 1 2)] 2/\(l3 prog (gl 13 Tryz.f15) (St.mk [(47,i8 0),(46,i8 E),(45,l4 B),(12,i8 0),(11,i8 0),(10,l4 B),(9,l4 A),(44,i8 0),(43,l4 B),(42,l4 A),(39,SV.tup C),(41,SV.tup C),(40,l4 j),(33,bv (L8 s)),(38,bv (L8 s)),(37,i8 y),(36,iv .u32 y),(35,l4 j),(34,i8 (dD s)),(30,bv (D2 s).snd),(32,bv (D2 s).snd),(31,j7 0 0),(8,i8 (dD s)),(7,l4 j),(29,i8 (dD s)),(28,j7 0 0),(27,l4 j),(26,j7 0 0),(6,j7 0 0),(25,j7 0 0),(24,l4 a),(23,bv !aT s),(22,bv (aT s)),(5,bv (aT s)),(4,l4 a),(21,bv (aT s)),(20,l4 a),(17,SV.tup b),(19,SV.tup b),(18,l4 (l9 s)),(3,i8 0),(2,l4 d),(0,l4 (l9 s))] [G,H,(0,some (j9 u 174)),(0,some (j9 k 174)),(0,some (j9 g 174))] 3 87 [1,2,0,0,0] 0) fun K=>K (Exit.exit 1) (nM s z))/\Kd 63 [] i J 3 (i8 (z3 s)) [] 0/\Le (bv (decide (z3 s<N8 (m6 s) z))) (bv L)/\HB L x (Kd 63 [] i J 3 (i8 (z3 s)) [] 0/\Le (bv (decide (z3 s>N8 (m6 s) z))) (bv M)/\HB M f ((l3 prog (gl 24 Tryz.f15) (St.mk [(71,i8 0),(70,i8 E),(69,l4 B),(64,bv M),(68,bv M),(67,i8 N),(66,i8 (z3 s)),(65,j7 0 0),(59,bv L),(63,bv L),(62,i8 N),(61,i8 (z3 s)),(60,j7 0 0),(55,bv false),(57,bv false),(56,i8 0),(47,i8 E),(46,i8 E),(45,l4 B),(12,i8 N),(6,j7 0 0),(9,l4 A),(10,l4 B),(11,i8 0)] [(0,some (j9 I 174)),G,H] 3 87 [2,1,0] 0) fun K=>K (Exit.exit 4) (oT s z))/\Le e e/\A5 O P P/\A5 O (o8 (o4 (U7 s z)) 123 8 1) (o8 (o4 (z6 s)) 123 8 1)/\True)))))) (Xa s) [3,1] func15 (by kernel_rfl) (by kernel_rfl) ?_
 with_reducible repeat' first|exact trivial|apply And.intro|apply HB.mk|intro _
 all_goals first|(with_reducible first|exact Le.refl _|exact op7 _ hi _|exact op1 s hs _|exact C58 _ _|exact op2 s hr _ _|exact op3 s hr _ _|exact op4 s _ _|exact c2b _ hi hp _|exact op5 s _ hr _ _)|exact l3.tk (nM s 0) (by kernel_rfl) (d5 (l6.blk (k:=⟨[.v (.string (A3 s)),.v (.int .i64 ((D2 s).1:Nat)),.v (.bool (D2 s).2)],.t 174⟩) (by kernel_rfl) (by rw[show (D2 s).2=false from (by with_reducible assumption)]) (by kernel_rfl)) (d5 (l6.p (g9 _) (by kernel_rfl)) (d5 (l6.p (v4 _ _) (by kernel_rfl)) trivial))) (fun K hT=>b0x s hok hn _ 0 rfl (Nat.zero_le _) K hT)|exact l3.tk (oT s 0) (by kernel_rfl) (d5 (l6.k (by kernel_rfl)) (d5 (l6.plain (cs:=o4 (E4 (m6 s) (nN (m6 s)))) (b:=.r 123 8 1) (by kernel_rfl) (by rw[cZ]) (g9 _) (by kernel_rfl)) (d5 (l6.p (v4 _ _) (by kernel_rfl)) trivial))) (fun K hT=>b2j s hr hp (Z5 (by with_reducible assumption) (by with_reducible assumption)) _ 0 rfl (Nat.zero_le _) K hT)|refine Le.int ?_;rw[IntKind.wrap_i64];have:=G9 (m6 s);omega|exact Le.bool (cK s)|exact A5.plain (by rw[yN]) (g9 _) (by kernel_rfl)|exfalso;simp_all [t9];done|exact Le.of rfl|exact A5.of rfl
theorem zK (s:ByteArray) (hs:s.size<=1000000000000000000) (he:t9 s≠0) (n:Nat):f4 prog 15 [.c (.l (.v (.string s)))] [] n (.tup [.l (.v (.pointer none)),.l (li (t9 s))]) [] 0:=by
 cases hp:A4 (m6 s) with
 |false=>exact d0t s hs hp n
 |true=>exact c9q s hs hp he n
theorem Dx (s:ByteArray) (hs:s.size<=1000000000000000000) (he:t9 s=0) (n:Nat):f4 prog 15 [.c (.l (.v (.string s)))] [] n (.tup [.l (.p n 0),.l (li 0)]) [(n,⟨[.o (n+1) (z6 s).length,li 0],.t 125⟩),(n+1,⟨o4 (z6 s),.r 123 8 (n+1)⟩)] 2:=by
 have key:=j8.off (d1r s hs he) n
 simp only[List.map_cons,List.map_nil,n6.ren,SV.ren,Cp.ren,Leaf.ren,BT.ren,j5 (g9 _),Nat.add_zero] at key
 rw[iC]
 exact key
end Ab
end
section
namespace Ab
def pJ (s:ByteArray):List UInt8:=s.data.toList
theorem cL (s:ByteArray):(pJ s).length=s.size:=by unfold pJ;rw[Array.length_toList];rfl
theorem lC {s t:ByteArray} (h:pJ s=pJ t):s=t:=by
 obtain ⟨⟨a⟩⟩:=s
 obtain ⟨⟨b⟩⟩:=t
 have:a=b:=h
 rw[this]
theorem b0f (l:List UInt8):pJ ⟨l.toArray⟩=l:=rfl
theorem V5 (s:ByteArray) (i j:Nat):pJ (s.extract i j)=((pJ s).drop i).take (j-i):=by
 unfold pJ
 rw[ByteArray.data_extract,Array.toList_extract,List.extract_eq_take_drop]
def dJ (e:EN):ByteArray:=⟨#[e.a,e.b,e.c,e.d]⟩
def Nu (e:EN):ByteArray:=K9 (e.X+8192) 2++K9 (e.Y+8192) 2++dJ e++sL e.blob.size++K9 e.sum 4
def lU (L:List EN):Nat->ByteArray
 |0=>sL L.length
 |k+1=>lU L k++Nu (ea L k)
def Tk (L:List EN):Nat->ByteArray
 |0=>⟨#[]⟩
 |k+1=>Tk L k++(ea L k).blob
def n9 (L:List EN):ByteArray:=⟨#[71,1]⟩++yJ (lU L L.length)++K9 (z7 (lU L L.length)) 4++Tk L L.length
structure GoodE (L:List EN):Prop where
 len:L.length<=1024
 x:∀k,k<L.length->-8192<=(ea L k).X/\(ea L k).X<=8191
 y:∀k,k<L.length->-8192<=(ea L k).Y/\(ea L k).Y<=8191
 s:∀k,k<L.length->0<=(ea L k).sum/\(ea L k).sum<4294967296
 b:∀k,k<L.length->1<=(ea L k).blob.size/\(ea L k).blob.size<=257
 ord:∀k,k+1<L.length->(ea L k).Y<(ea L (k+1)).Y\/((ea L k).Y=(ea L (k+1)).Y/\(ea L k).X<(ea L (k+1)).X)
section
variable {L:List EN} (g:GoodE L)
include g
end
end Ab
end
section
namespace Ab
theorem a2h (e:EN):(Nu e).size<=22:=by
 unfold Nu
 simp only[ByteArray.size_append,kX,sz2,sz4]
 have h:=uP e.blob.size
 have:(dJ e).size=4:=rfl
 omega
theorem tH (L:List EN):∀k,(lU L k).size<=10+22*k
 |0=>uP _
 |k+1=>by
  show (lU L k++Nu (ea L k)).size<=_
  rw[ByteArray.size_append]
  have:=tH L k
  have:=a2h (ea L k)
  omega
section
variable {L:List EN} (g:GoodE L)
include g
end
def pO (e:TA):EN:=⟨e.X,e.Y,x9 e.t 0,x9 e.t 1,x9 e.t 2,x9 e.t 3,z7 (D1 e.t),D1 e.t⟩
theorem Z6 {l:List TA} {k:Nat} (h:k<l.length):ea (l.map pO) k=pO (r8 l k):=by
 unfold ea r8
 simp[List.getD,h]
theorem aM {l:List TA} (g:Good l):GoodE (l.map pO):=by
 refine ⟨by rw[List.length_map];exact g.len,fun k hk=>?_,fun k hk=>?_,fun k hk=>?_,fun k hk=>?_,fun k hk=>?_⟩
 all_goals rw[List.length_map] at hk
 ·rw[Z6 hk];exact ⟨(lL g hk).1,(lL g hk).2.1⟩
 ·rw[Z6 hk];exact (lL g hk).2.2
 ·rw[Z6 hk]
  have:=G9 (D1 (r8 l k).t)
  exact ⟨this.1,by show z7 _<_;omega⟩
 ·rw[Z6 hk];exact ⟨Hm _,Aa _⟩
 ·rw[Z6 hk,Z6 (by omega)];exact g.ord k hk
end Ab
end
section
namespace Ab
attribute [local irreducible] j8
def B5 (s:ByteArray):Nat->UInt8:=fun i=>s.get! i
def V3 (s:ByteArray):Nat->UInt8:=A6 (s.get! 0) (s.get! 1) (s.get! 2) (s.get! 3)
def pK (s:ByteArray):Bool:=decide (s.size=4)
def qU (s:ByteArray):Nat->UInt8:=bif pK s then V3 s else zT
def iZ (s:ByteArray):Bool:=decide (s.size=256)
def lN (s:ByteArray):Nat->UInt8:=bif iZ s then B5 s else zT
def d1E (s:ByteArray):Int:=bif iZ s then 0 else 11
def yD (s:ByteArray) (k:Nat):St:=⟨[(10,iv .i64 (k:Nat)),(0,.c (.l (.v (.string s)))),(2,.c (.l (.p 0 0)))],[(0,some ⟨tl (C4 k (B5 s) zT),.t 38⟩)],1,33,[0],(0)⟩
theorem Fd (s:ByteArray) {a b j:Nat} (h:a+j<b) (hb:b<=s.size):(s.extract a b).get! j=s.get! (a+j):=by
 have h1:a+j<s.data.size:=Nat.lt_of_lt_of_le h hb
 have h2:j<(s.data.extract a b).size:=by
  rw[Array.size_extract];show j<min b s.size-a;omega
 show (s.extract a b).data[j]! = s.data[a+j]!
 rw[ByteArray.data_extract,getElem!_pos _ j h2,getElem!_pos _ (a+j) h1,Array.getElem_extract]
theorem Zr (s:ByteArray) (k j:Nat) (hj:j<4) (h:4*k+4<=s.size):(((s.extract (4*k) (4*k+4)).get! j).toNat:Int)=((B5 s (4*k+j)).toNat:Nat):=by rw[Fd s (by omega) h];rfl
theorem a8o (s:ByteArray) (k:Nat) (h:4*k+4<=s.size):(((s.extract (4*k) (4*k+4)).get! (Int.toNat 0)).toNat:Int)=((B5 s (4*k)).toNat:Nat):=Zr s k 0 (by decide) h
theorem b2c (s:ByteArray) (k:Nat) (h:4*k+4<=s.size):(((s.extract (4*k) (4*k+4)).get! (Int.toNat 1)).toNat:Int)=((B5 s (4*k+1)).toNat:Nat):=Zr s k 1 (by decide) h
theorem b2b (s:ByteArray) (k:Nat) (h:4*k+4<=s.size):(((s.extract (4*k) (4*k+4)).get! (Int.toNat 2)).toNat:Int)=((B5 s (4*k+2)).toNat:Nat):=Zr s k 2 (by decide) h
theorem a6s (s:ByteArray) (k:Nat) (h:4*k+4<=s.size):(((s.extract (4*k) (4*k+4)).get! (Int.toNat 3)).toNat:Int)=((B5 s (4*k+3)).toNat:Nat):=Zr s k 3 (by decide) h
theorem a9y {s:ByteArray} (h:(((s.size:Nat):Int) != 4)=false):pK s=true/\qU s=V3 s/\s.size=4:=by
 have h1:s.size=4:=by
  have:((s.size:Nat):Int)=4:=by simpa using h
  omega
 have h2:pK s=true:=decide_eq_true h1
 exact ⟨h2,by unfold qU;rw[h2];rfl,h1⟩
theorem c3k {s:ByteArray} (h:(((s.size:Nat):Int) != 4)=true):pK s=false/\qU s=zT:=by
 have h1:¬s.size=4:=fun e=>by rw[e] at h;exact absurd h (by decide)
 have h2:pK s=false:=decide_eq_false h1
 exact ⟨h2,by unfold qU;rw[h2];rfl⟩
theorem a8q {s:ByteArray} (h:(((s.size:Nat):Int) != 256)=false):iZ s=true/\lN s=B5 s/\s.size=256:=by
 have h1:s.size=256:=by
  have:((s.size:Nat):Int)=256:=by simpa using h
  omega
 have h2:iZ s=true:=decide_eq_true h1
 exact ⟨h2,by unfold lN;rw[h2];rfl,h1⟩
theorem c4j {s:ByteArray} (h:(((s.size:Nat):Int) != 256)=true):iZ s=false/\lN s=zT:=by
 have h1:¬s.size=256:=fun e=>by rw[e] at h;exact absurd h (by decide)
 have h2:iZ s=false:=decide_eq_false h1
 exact ⟨h2,by unfold lN;rw[h2];rfl⟩
theorem xC (s:ByteArray):tl (A6 (C9 ((s.get! 0).toNat:Nat)) (C9 ((s.get! 1).toNat:Nat)) (C9 ((s.get! 2).toNat:Nat)) (C9 ((s.get! 3).toNat:Nat)))=tl (V3 s):=by rw[v8,v8,v8,v8];rfl
def Wo (s:ByteArray):Cz:={
 ct:=(fun f=>match f with
 |127=>some fun _ _=>fun | [.c (.l (.v (.string q)))]=>some {v:=ag [ub (q.get! 0),ub (q.get! 1),ub (q.get! 2),ub (q.get! 3)]}|_=>none
 |146=>some fun _ _=>fun | [.c (.agg [.v (.int _ a),.v (.int _ b),.v (.int _ c),.v (.int _ e)])]=>some {v:=.c (.agg (tl (A6 (C9 a) (C9 b) (C9 c) (C9 e))))}|_=>none
 |_=>none)
 nf:=[(10,.c (.agg (tl (V3 s))))],wh:=[38]}
theorem c9l (s:ByteArray)  (n:Nat):f4 prog 168 [.c (.l (.v (.string s)))] [] n (.tup [.agg (tl (qU s)),.l (.v (.bool (pK s)))]) [] 0:=by
 refine v6 (q:=let a:=(SV.tup [Cp.agg (tl (qU s)),Cp.l (lb (pK s))]);let b:=((s.get! 0).toNat:Int);let d:=((s.get! 1).toNat:Int);let e:=((s.get! 2).toNat:Int);let f:=((s.get! 3).toNat:Int);let g:=[l8 b,l8 d,l8 e,l8 f];let h:=ag (tl (A6 (C9 b) (C9 d) (C9 e) (C9 f)));HB ((s.size:Int) != 4) (0=0/\256=256/\Le (SV.tup [Cp.agg o7,Cp.l (lb false)]) a/\True) (Kd 127 [] [l4 (l9 s)] [] 1 (ag g) [] 0/\Kd 146 [] [ag g] [] 1 h [] 0/\Le h (ag (tl (V3 s)))/\0=0/\256=256/\Le (SV.tup [Cp.agg (tl (V3 s)),Cp.l (lb true)]) a/\True)) (Wo s) func168 n (by kernel_rfl) (by kernel_rfl) ?_
 with_reducible repeat' first|exact trivial|apply And.intro|apply HB.mk|intro _
 all_goals first|(with_reducible first|rfl|exact c0m _ _ _ _ _)|exact b9u _ (a9y (by with_reducible assumption)).2.2 _|refine Le.of ?_;rw[xC];done|refine Le.of ?_;rw[(a9y (by with_reducible assumption)).1,(a9y (by with_reducible assumption)).2.1];done|refine Le.of ?_;rw[(c3k (by with_reducible assumption)).1,(c3k (by with_reducible assumption)).2,<-q9];done
def a0a (s:ByteArray) (k:Nat):Cz:={
 ct:=fun _=>none
 sym:=[0,22,24,26,28,30],nf:=[(19,.c (.l (.v (.string (s.extract (4*k) (4*k+4)))))),(22,iv .u8 ((B5 s (4*k)).toNat:Nat)),(24,iv .u8 ((B5 s (4*k+1)).toNat:Nat)),(26,iv .u8 ((B5 s (4*k+2)).toNat:Nat)),(28,iv .u8 ((B5 s (4*k+3)).toNat:Nat))]}
theorem c3a (s:ByteArray) (k:Nat)  (K:Exit->St->Prop) (h:let a:=(4*(k:Int));let b:=(4*(k:Int)+4);let d:=s.extract (4*k) (4*k+4);let e:=(Nat.cast ((B5 s (4*k)).toNat):Int);let f:=(Nat.cast ((B5 s (4*k+1)).toNat):Int);let g:=(Nat.cast ((B5 s (4*k+2)).toNat):Int);let i:=(Nat.cast ((B5 s (4*k+3)).toNat):Int);let j:=((k:Int));let m:=(0,l4 (l9 s));let n:=tl (C4 k (B5 s) zT);HB (decide ((k:Int)<64)) (IntKind.i64.wrap a=4*(k:Int)/\IntKind.i64.wrap a=4*(k:Int)/\IntKind.i64.wrap b=4*(k:Int)+4/\O6 a b (s.size:Int)/\Le (l4 (l9 (s.extract a.toNat b.toNat))) (l4 (l9 d))/\t0 0 d.size/\Le (iv .u8 (Nat.cast ((d.get! (Int.toNat 0)).toNat):Int)) (iv .u8 e)/\t0 1 d.size/\Le (iv .u8 (Nat.cast ((d.get! (Int.toNat 1)).toNat):Int)) (iv .u8 f)/\t0 2 d.size/\Le (iv .u8 (Nat.cast ((d.get! (Int.toNat 2)).toNat):Int)) (iv .u8 g)/\t0 3 d.size/\Le (iv .u8 (Nat.cast ((d.get! (Int.toNat 3)).toNat):Int)) (iv .u8 i)/\t0 j 64/\0+j.toNat*4+4<=256/\IntKind.i64.wrap ((k:Int)+1)=(k:Int)+1/\RoundTo prog (gl 4 Tryz.f170) 1 (wkK 1 K) (St.mk [m,(2,j7 0 0),(10,i8 ((k:Int)+1))] [(0,some (j9 (j4 n (0+j.toNat*4) [l8 e,l8 f,l8 g,l8 i]) 38))] 1 33 [0,0] 0)) (wkK 1 K (Exit.exit 0) (St.mk [m,(2,j7 0 0),(10,i8 (k:Int))] [(0,some (j9 n 38))] 1 33 [0] 0))):z4 prog (gl 4 Tryz.f170) (yD s k) (wkK 1 K):=
 m5 [0,2,10] [0] (cx:=a0a s k) rfl (u3 (by kernel_rfl) h)
theorem c1q (s:ByteArray) (hs:s.size=256):∀(m k:Nat),64-k=m->k<=64->∀(K:Exit->St->Prop),K (.exit 0) (yD s 64)->z4 prog (gl 4 Tryz.f170) (yD s k) (wkK 1 K)
 |0,k,hm,hk,K,hK=>by
  have e:k=64:=by omega
  subst e
  refine c3a s _ K (HB.no (by omega) ?_)
  exact wkK.tk (yD s _) (by kernel_rfl) (d5 (l6.p (j3 _) (by kernel_rfl)) trivial) hK
 |m+1,k,hm,hk,K,hK=>by
  refine c3a s k K (HB.yes (by omega) ?_)
  have hlt:k<64:=by omega
  with_reducible repeat' first|exact trivial|apply And.intro|apply HB.mk|intro _
  all_goals first|(exact ⟨by omega,by omega⟩)|(refine ⟨by omega,?_⟩;rw[ByteArray.size_extract];omega)|(refine Le.of ?_;rw[show (4*((k:Nat):Int)).toNat=4*k by omega,show (4*((k:Nat):Int)+4).toNat=4*k+4 by omega];done)|with_reducible refine Le.int (a8o s k ?_);omega|with_reducible refine Le.int (b2c s k ?_);omega|with_reducible refine Le.int (b2b s k ?_);omega|with_reducible refine Le.int (a6s s k ?_);omega|omega|(with_reducible refine RoundTo.tk 1 (yD s (k+1)) ?_ ?_ ?_);kernel_rfl;exact (d5 (l6.plain (cs:=j4 (tl (C4 k (B5 s) zT)) (0+k*4) [ub (B5 s (4*k)),ub (B5 s (4*k+1)),ub (B5 s (4*k+2)),ub (B5 s (4*k+3))]) (b:=.t 38) (by kernel_rfl) (by rw[Nat.zero_add,M4 k _ _ hlt]) (j3 _) (by kernel_rfl)) trivial);exact (c1q s hs m (k+1) (by omega) (by omega) K hK)|exact C2 _ (by omega) (by omega)
def Uf (s:ByteArray):Cz:={
 ct:=fun _=>none
 nf:=[(32,.c (.agg (tl (B5 s))))],lp:=fun r=>match r with|4=>some (fun _ K=>K (.exit 0) (yD s 64))|_=>none,wh:=[38]}
theorem d1y (s:ByteArray)  (n:Nat):f4 prog 170 [.c (.l (.v (.string s)))] [] n (.tup [.agg (tl (lN s)),.l (li (d1E s))]) [] 0:=by
 refine v6 (q:=let a:=((s.size:Int) != 256);let b:=(SV.tup [Cp.agg (tl (lN s)),Cp.l (li (d1E s))]);HB a (0=0/\256=256/\Le (SV.tup [Cp.agg o7,Cp.l (li 11)]) b/\True) ((l3 prog (gl 4 Tryz.f170) (St.mk [(10,i8 0),(8,bv a),(7,i8 (s.size:Int)),(6,l4 (l9 s)),(3,i8 0),(2,j7 0 0),(0,l4 (l9 s))] [(0,some (j9 o7 38))] 1 33 [0] 0) fun K=>K (Exit.exit 0) (yD s 64))/\Le (ag (List.take 256 (tl (C4 64 (B5 s) zT)))) (ag (tl (B5 s)))/\0=0/\256=256/\Le (SV.tup [Cp.agg (tl (B5 s)),Cp.l (li 0)]) b/\True)) (Uf s) func170 n (by kernel_rfl) (by kernel_rfl) ?_
 with_reducible repeat' first|exact trivial|apply And.intro|apply HB.mk|intro _|rfl
 all_goals first|exact l3.tk (yD s 0) (by kernel_rfl) (d5 (l6.plain (cs:=o7) (b:=.t 38) (by kernel_rfl) (by rw[L7];exact q9) (j3 _) (by kernel_rfl)) trivial) (fun K hT=>c1q s (a8q (by with_reducible assumption)).2.2 _ 0 rfl (by decide) K hT)|refine Le.of ?_;rw[T7,t7];done|refine Le.of ?_;unfold d1E;rw[(a8q (by with_reducible assumption)).1,(a8q (by with_reducible assumption)).2.1];rfl|refine Le.of ?_;unfold d1E;rw[(c4j (by with_reducible assumption)).1,(c4j (by with_reducible assumption)).2,<-q9];rfl
theorem b3d (s:ByteArray):(d1E s==0)=iZ s:=by unfold d1E;cases iZ s<;>rfl
def a0d (s:ByteArray):Cz:={
 ct:=(fun f=>match f with
 |170=>some fun _ _=>fun | [.c (.l (.v (.string q)))]=>some {v:=.tup [.agg (tl (lN q)),.l (li (d1E q))]}|_=>none
 |_=>none)
 nf:=[(11,.c (.agg (tl (lN s)))),(13,bv (iZ s))],wh:=[38]}
theorem d2i (s:ByteArray)  (n:Nat):f4 prog 169 [.c (.l (.v (.string s)))] [] n (.tup [.agg (tl (lN s)),.l (.v (.bool (iZ s)))]) [] 0:=by
 refine v6 (q:=let a:=tl (lN s);let b:=(SV.tup [Cp.agg a,Cp.l (lb (iZ s))]);Kd 170 [] [l4 (l9 s)] [] 1 (SV.tup [Cp.agg a,Cp.l (li (d1E s))]) [] 0/\0=0/\256=256/\Le (ag (List.take 256 a)) (ag a)/\Le (bv (d1E s==0)) (bv (iZ s))/\0=0/\256=256/\Le b b/\True) (a0d s) func169 n (by kernel_rfl) (by kernel_rfl) ?_
 with_reducible repeat' first|exact trivial|apply And.intro|apply HB.mk|intro _
 all_goals first|(with_reducible first|exact Le.refl _|rfl|exact d1y _ _)|refine Le.of ?_;rw[t7];done|refine Le.bool ?_;rw[b3d];done
end Ab
end
section
namespace Ab
attribute [local irreducible] j8
def gV (s:ByteArray):ByteArray×Int:=Cod.gI (s.extract 1 s.size) 256
def dX (s:ByteArray):Int:=((s.get! 0).toNat:Nat)
def Ar (s:ByteArray):Bool:=stB s ((gV s).2 != 0)
def dW (s:ByteArray):Bool:=bif decide (s.size=0) then false else bif Ar s then false else decide (dX s<6)
def b6u (k:Nat) (f:Nat->UInt8):Nat->UInt8:=Prd.Bu (Prd.M.vN k f 256)
def lQ (s:ByteArray):Nat->UInt8:=bif dW s then b6u (dX s).toNat (B5 (gV s).1) else zT
def nC (k:Int):Int:=bif decide (k<6) then 0 else 1
def nD (q:ByteArray) (k:Int):Nat->UInt8:=bif decide (k<6) then b6u k.toNat (B5 q) else zT
theorem b2o {q:ByteArray} (h:q.size=256):Prd.St (B5 q)=q:=by
 apply lC
 apply List.ext_getElem?
 intro i
 unfold Prd.St
 rw[b0f]
 by_cases hi:i<256
 ·have h1:i<q.data.size:=by show i<q.size;omega
  rw[List.getElem?_eq_getElem (by rw[Prd.M.S9];exact hi),Prd.M.Gk]
  show some (q.data[i]!)=q.data.toList[i]?
  rw[getElem!_pos q.data i h1,Array.getElem?_toList,Array.getElem?_eq_getElem h1]
 ·rw[List.getElem?_eq_none (by rw[Prd.M.S9];omega),List.getElem?_eq_none (by rw[cL];omega)]
theorem oX (s:ByteArray):((gV s).2 != 0)=Ar s:=(mD s _).symm
theorem jJ {s:ByteArray} (h:Ar s=false):(gV s).1.size=256:=by
 rw[<-oX] at h
 have h1:(gV s).2=0:=by simpa using h
 unfold gV Cod.gI at h1⊢
 split at h1
 ·rename_i hh
  rw[if_pos hh]
  show (Cod.M.X7 _ 256).length=256
  unfold Cod.M.X7
  exact Cod.M.gF _ _ _ _
 ·simp at h1
def Te (q:ByteArray) (k:Int):Cz:={
 ct:=(fun f=>match f with
 |147=>some fun _ _=>fun | []=>some {v:=iv .i64 6}|_=>none
 |_=>none)
 nf:=[(13,bv false),(18,bv true),(22,bv true)],lp:=fun _=>some (fun _ _=>True),wh:=[38]}
theorem c1v (q:ByteArray) (k:Int) (h0:0<=k) (hk:¬k<6) (n:Nat):f4 prog 173 [.c (.l (.v (.string q))),iv .i64 k] [] n (.tup [.agg o7,.l (li 1)]) [] 0:=by
 refine v6 (q:=let a:=(SV.tup [Cp.agg o7,Cp.l (li 1)]);Le (bv (decide (k<0))) (bv false)/\(true=true->Kd 147 [] [] [] 1 (i8 6) [] 0/\True)/\(true=true->true=true/\true=true/\True)/\(false=false->true=true)/\Le (bv (decide (k>=6))) (bv true)/\0=0/\256=256/\Le a a/\True) (Te q k) func173 n (by kernel_rfl) (by kernel_rfl) ?_
 with_reducible repeat' first|exact trivial|apply And.intro|apply HB.mk|intro _
 all_goals first|assumption|(with_reducible first|exact Le.refl _|rfl|exact c8a _)|refine Le.bool (decide_eq_false ?_);omega|refine Le.bool ?_;show (bif false then true else decide (k>=6))=true;rw[decide_eq_true (by omega)];rfl|simp only[*,Bool.and_self,Bool.not_false,Bool.not_true];done
theorem Up (q:ByteArray) (hq:q.size=256) (k:Int) (h0:0<=k) (n:Nat):f4 prog 173 [.c (.l (.v (.string q))),iv .i64 k] [] n (.tup [.agg (tl (nD q k)),.l (li (nC k))]) [] 0:=by
 unfold nD nC
 by_cases hk:k<6
 ·rw[decide_eq_true hk]
  have key:=c7r (B5 q) k h0 hk n
  rw[b2o hq] at key
  exact key
 ·rw[decide_eq_false hk]
  have key:=c1v q k h0 hk n
  show f4 _ _ _ _ _ (.tup [.agg (tl zT),.l (li 1)]) _ _
  rw[<-q9];exact key
theorem qQ (b:UInt8):IntKind.i64.wrap (b.toNat:Nat)=(b.toNat:Nat):=C2 _ (by have:=b.toNat_lt;omega) (by have:=b.toNat_lt;omega)
theorem mG (s:ByteArray):s.toList=pJ s:=by
 have h:=Oct.dZ (pJ s)
 rwa [show (⟨(pJ s).toArray⟩:ByteArray)=s from lC rfl] at h
theorem c0j (s:ByteArray):(s.toList==(⟨#[]⟩:ByteArray).toList)=decide (s.size=0):=by
 rw[mG,mG]
 by_cases h:s.size=0
 ·have:pJ s=[]:=List.eq_nil_of_length_eq_zero (by rw[cL];exact h)
  rw[decide_eq_true h,this];rfl
 ·rw[decide_eq_false h,beq_eq_false_iff_ne]
  intro e
  apply h
  have h1:=congrArg List.length e
  rw[cL] at h1
  exact h1
theorem Zq (s:ByteArray) (hs:s.size<=1000000000000000) (n:Nat):f4 prog 172 [.c (.l (.v (.string (s.extract 1 s.size)))),iv .i64 256] [] n (.tup [.l (.v (.string (gV s).1)),.l (li (gV s).2)]) [] 0:=c9h _ 256 (by decide) (by decide) (by rw[ByteArray.size_extract];omega) n
theorem c1t {s:ByteArray} (h:decide (s.size=0)=true):dW s=false/\lQ s=zT:=by
 have h1:dW s=false:=by unfold dW;rw[h];rfl
 exact ⟨h1,by unfold lQ;rw[h1];rfl⟩
theorem c0i {s:ByteArray} (h:decide (s.size=0)=false) (h':Ar s=true):dW s=false/\lQ s=zT:=by
 have h1:dW s=false:=by unfold dW;rw[h,h'];rfl
 exact ⟨h1,by unfold lQ;rw[h1];rfl⟩
theorem c6y {s:ByteArray} (h:decide (s.size=0)=false) (h':Ar s=false):(nC (dX s)==0)=dW s/\nD (gV s).1 (dX s)=lQ s:=by
 unfold lQ
 have h1:dW s=decide (dX s<6):=by unfold dW;rw[h,h'];rfl
 rw[h1]
 unfold nC nD
 cases decide (dX s<6)<;>exact ⟨rfl,rfl⟩
def a1c (s:ByteArray):Cz:={
 ct:=(fun f=>match f with
 |172=>some fun _ _=>fun | [.c (.l (.v (.string q))),_]=>some {v:=.tup [.l (.v (.string (gV s).1)),.l (li (gV s).2)]}|_=>none
 |173=>some fun _ _=>fun | [.c (.l (.v (.string q))),.c (.l (.v (.int _ k)))]=>some {v:=.tup [.agg (tl (nD q k)),.l (li (nC k))]}|_=>none
 |_=>none)
 sym:=[22],nf:=[(8,bv (decide (s.size=0))),(12,.c (.l (.v (.string (s.extract 1 s.size))))),(17,bv (Ar s)),(23,iv .i64 (dX s)),(27,.c (.agg (tl (lQ s)))),(29,bv (dW s))],wh:=[38]}
theorem d1j (s:ByteArray) (hs:s.size<=1000000000000000) (n:Nat):f4 prog 171 [.c (.l (.v (.string s)))] [] n (.tup [.agg (tl (lQ s)),.l (.v (.bool (dW s)))]) [] 0:=by
 refine v6 (q:=let a:=decide (s.size=0);let b:=(SV.tup [Cp.agg (tl (lQ s)),Cp.l (lb (dW s))]);let d:=(0=0/\256=256/\Le (SV.tup [Cp.agg o7,Cp.l (lb false)]) b/\True);let e:=(s.size:Int);let f:=l9 (s.extract 1 s.size);let g:=l9 ((gV s).fst);let h:=tl (nD (gV s).fst (dX s));Le (bv (s.toList==(ByteArray.mk #[]).toList)) (bv a)/\HB a d (O6 1 e e/\Le (l4 (l9 (s.extract (Int.toNat 1) (e).toNat))) (l4 f)/\Kd 172 [] [l4 f,i8 256] [] 1 (SV.tup [Cp.l g,Cp.l (li (gV s).snd)]) [] 0/\Le (bv ((gV s).snd != 0)) (bv (Ar s))/\HB (Ar s) d (t0 0 s.size/\Le (i8 (IntKind.i64.wrap (Nat.cast ((s.get! (Int.toNat 0)).toNat):Int))) (i8 (dX s))/\Kd 173 [] [l4 g,i8 (dX s)] [] 1 (SV.tup [Cp.agg h,Cp.l (li (nC (dX s)))]) [] 0/\0=0/\256=256/\Le (ag (List.take 256 h)) (ag (tl (lQ s)))/\Le (bv (nC (dX s)==0)) (bv (dW s))/\0=0/\256=256/\Le b b/\True))) (a1c s) func171 n (by kernel_rfl) (by kernel_rfl) ?_
 with_reducible repeat' first|exact trivial|apply And.intro|apply HB.mk|intro _
 all_goals first|(with_reducible first|exact Le.refl _|rfl|exact Zq _ hs _)|exact Up _ (jJ (by with_reducible assumption)) _ (Int.natCast_nonneg _) _|refine Le.bool ?_;rw[c0j];done|exact Le.of rfl|exact Le.bool (oX s)|refine Le.int ?_;exact qQ _|refine Le.of ?_;rw[(c6y (by with_reducible assumption) (by with_reducible assumption)).2,t7];done|refine Le.bool ?_;rw[(c6y (by with_reducible assumption) (by with_reducible assumption)).1];done|refine Le.of ?_;rw[(c1t (by with_reducible assumption)).1,(c1t (by with_reducible assumption)).2,<-q9];done|refine Le.of ?_;rw[(c0i (by with_reducible assumption) (by with_reducible assumption)).1,(c0i (by with_reducible assumption) (by with_reducible assumption)).2,<-q9];done|have:=of_decide_eq_false (by with_reducible assumption:decide (s.size=0)=false);unfold O6;omega|(have:=of_decide_eq_false (by with_reducible assumption:decide (s.size=0)=false);exact ⟨by omega,by omega⟩)|exact Le.of rfl
end Ab
end
section
namespace Ab
attribute [local irreducible] j8
def kB (b:ByteArray):Int:=((b.get! 0).toNat:Nat)
def z9 (b:ByteArray):ByteArray:=b.extract 1 b.size
def pM (b:ByteArray):Bool:=if kB b=0 then pK (z9 b) else if kB b=1 then iZ (z9 b) else if kB b=2 then dW (z9 b) else false
def qB (b:ByteArray):Nat->UInt8:=if kB b=0 then qU (z9 b) else if kB b=1 then lN (z9 b) else if kB b=2 then lQ (z9 b) else zT
def uY (t:Nat->UInt8) (ok:Bool):Bool:=bif (bif !ok then true else n5 t) then true else !m7 t (m8 t)
def Ka (b:ByteArray):Bool:=!uY (qB b) (pM b)
def lS (e:EN):Bool:=stB e.blob (z7 e.blob != e.sum)
def E0 (e:EN):Int:=bif lS e then 12 else bif Ka e.blob then 0 else 11
def C7 (e:EN):Nat->UInt8:=bif lS e then zT else bif Ka e.blob then qB e.blob else zT
theorem nT (e:EN):(z7 e.blob != e.sum)=lS e:=(mD _ _).symm
theorem qA {e:EN} (h:lS e=true):E0 e=12/\C7 e=zT:=by unfold E0 C7;rw[h];exact ⟨rfl,rfl⟩
theorem yB {e:EN} {T:Nat->UInt8} {B:Bool} (h:lS e=false) (ht:qB e.blob=T) (hb:pM e.blob=B) (hf:uY T B=true):E0 e=11/\C7 e=zT:=by
 have:Ka e.blob=false:=by unfold Ka;rw[ht,hb,hf];rfl
 unfold E0 C7;rw[h,this];exact ⟨rfl,rfl⟩
theorem Ht {e:EN} {T:Nat->UInt8} {B:Bool} (h:lS e=false) (ht:qB e.blob=T) (hb:pM e.blob=B) (hf:uY T B=false):E0 e=0/\C7 e=T:=by
 have:Ka e.blob=true:=by unfold Ka;rw[ht,hb,hf];rfl
 unfold E0 C7;rw[h,this,ht];exact ⟨rfl,rfl⟩
theorem uH (b:ByteArray):b.extract (Int.toNat 1) ((b.size:Nat):Int).toNat=z9 b:=rfl
theorem Ck (t:Nat->UInt8) (ok:Bool):(bif (bif !ok then true else n5 t) then true else !m7 t (m8 t))=uY t ok:=rfl
theorem bF (t:Nat->UInt8):tl (m8 (A1 (tl t)))=tl (m8 t):=cX t
theorem k0 {b:ByteArray} (h:kB b=0):qB b=qU (z9 b)/\pM b=pK (z9 b):=by unfold qB pM;rw[h];exact ⟨rfl,rfl⟩
theorem k1 {b:ByteArray} (h:kB b=1):qB b=lN (z9 b)/\pM b=iZ (z9 b):=by unfold qB pM;rw[h];exact ⟨rfl,rfl⟩
theorem k2 {b:ByteArray} (h:kB b=2):qB b=lQ (z9 b)/\pM b=dW (z9 b):=by unfold qB pM;rw[h];exact ⟨rfl,rfl⟩
theorem k3 {b:ByteArray} (h:kB b>=3):qB b=zT/\pM b=false:=by unfold qB pM;rw[if_neg (by omega),if_neg (by omega),if_neg (by omega),if_neg (by omega),if_neg (by omega),if_neg (by omega)];exact ⟨rfl,rfl⟩
def a0c:Cz:={
  ct:=fun _=>none
   }
theorem Wy   (n:Nat):f4 prog 137 [] [] n (.c (.agg [.f 168 [],.f 169 [],.f 171 []])) [] 0:=by
 refine v6 (q:=let a:=(ag [Leaf.f 168 [],Leaf.f 169 [],Leaf.f 171 []]);Le a a/\True) (a0c) func137 n (by kernel_rfl) (by kernel_rfl) ?_
 with_reducible repeat' first|exact trivial|apply And.intro|apply HB.mk|intro _
 all_goals first|with_reducible exact Le.refl _
def Uo:Rw:=some fun _ _=>fun | [.c (.l (.v (.string q)))]=>some {v:=iv .u32 (z7 q)}|_=>none
def a3t:Rw:=some fun _ _=>fun | [.c (.agg l)]=>some {v:=.c (.agg (tl (m8 (A1 l))))}|_=>none
def a4e:Rw:=some fun _ _=>fun | [.c (.agg l)]=>some {v:=bv (n5 (A1 l))}|_=>none
def Ye:Rw:=some fun _ _=>fun | []=>some {v:=.c (.agg [.f 168 [],.f 169 [],.f 171 []])}|_=>none
def a0v:Rw:=some fun _ _=>fun | [.c (.l (.v (.string q)))]=>some {v:=.tup [.agg (tl (qU q)),.l (.v (.bool (pK q)))]}|_=>none
def Xy:Rw:=some fun _ _=>fun | [.c (.l (.v (.string q)))]=>some {v:=.tup [.agg (tl (lN q)),.l (.v (.bool (iZ q)))]}|_=>none
def a2s:Rw:=some fun _ _=>fun | [.c (.l (.v (.string q)))]=>some {v:=.tup [.agg (tl (lQ q)),.l (.v (.bool (dW q)))]}|_=>none
def Rp (e:EN) (N:Nat) (d:Int):Cz:={
 ct:=(fun f=>match f with
 |53=>Uo
 |66=>a3t
 |108=>a4e
 |137=>Ye
 |168=>a0v
 |169=>Xy
 |171=>a2s
 |_=>none)
 eq:=(fun t=>match t with
 |38=>some (fun xs ys=>m7 (A1 xs) (A1 ys))
 |_=>none)
 sym:=[28],nf:=[(20,iv .i64 (z7 e.blob)),(23,bv (lS e)),(29,iv .i64 0),(39,.c (.l (.v (.string (z9 e.blob))))),(46,.c (.agg (tl (qU (z9 e.blob))))),(47,bv (n5 (qU (z9 e.blob)))),(50,.c (.agg (tl (qU (z9 e.blob))))),(51,.c (.agg (tl (qU (z9 e.blob))))),(52,.c (.agg (tl (m8 (qU (z9 e.blob)))))),(53,bv (!m7 (qU (z9 e.blob)) (m8 (qU (z9 e.blob))))),(54,bv (uY (qU (z9 e.blob)) (pK (z9 e.blob)))),(56,.c (.agg (tl (qU (z9 e.blob)))))],wh:=[38,180]}
theorem b7w (e:EN) (N:Nat) (d:Int) (hb:1<=e.blob.size) (hz:e.blob.size<=1000000000000000) (h0:0<=d) (hd:d<=1000000000) (hk:kB e.blob=0):f4 prog 79 [.c (.l (.p 0 0)),ag [li e.X,li e.Y,ub e.a,ub e.b,ub e.c,ub e.d,li e.sum,.v (.string e.blob)]] [(0,⟨[.o 1 N,li d],.t 125⟩)] 2 (.tup [.agg (tl (C7 e)),.l (li (E0 e))]) [(0,⟨[.o 1 N,li (d+1)],.t 125⟩)] 0:=by
 refine E3 (q:=let a:=z7 e.blob;let b:=(SV.tup [Cp.agg (tl (C7 e)),Cp.l (li (E0 e))]);let g:=x8 2 0 [];let h:=(j9 [Leaf.o 1 N,li (d+1)] 125);let i:=(e.blob.size:Int);let j:=z9 e.blob;let k:=qU j;let m:=tl k;let n:=!!pK j;let p:=ag (List.take 256 m);let r:=A1 m;let s:=!bif !pK j then true else n5 k;let u:=s=true->Le p (ag m)/\True;let w:=ag (tl (m8 r));let x:=tl (m8 k);IntKind.i64.wrap (d+1)=d+1/\Kd 53 [] [l4 (l9 e.blob)] [] 4 (iv .u32 a) [] 0/\Le (i8 (IntKind.i64.wrap a)) (i8 a)/\Le (bv (z7 e.blob != e.sum)) (bv (lS e))/\HB (lS e) (0=0/\256=256/\Le (SV.tup [Cp.agg o7,Cp.l (li 12)]) b/\A5 g h h/\True) (Kd 137 [] [] [] 4 (ag [Leaf.f 168 [],Leaf.f 169 [],Leaf.f 171 []]) [] 0/\0=0/\3=3/\t0 0 e.blob.size/\Le (i8 (IntKind.i64.wrap (Nat.cast ((e.blob.get! (Int.toNat 0)).toNat):Int))) (i8 0)/\O6 1 i i/\Le (l4 (l9 (e.blob.extract (Int.toNat 1) (i).toNat))) (l4 (l9 j))/\Kd 168 [] [l4 (l9 j)] [] 5 (SV.tup [Cp.agg m,Cp.l (lb (pK j))]) [] 0/\0=0/\256=256/\(n=true->Le p (ag m)/\True)/\(n=true->n=true/\Kd 108 [] [ag m] [] 6 (bv (n5 r)) [] 0/\Le (bv (n5 r)) (bv (n5 k))/\True)/\((!pK j)=false->n=true)/\u/\u/\(s=true->s=true/\Kd 66 [] [ag m] [] 6 w [] 0/\Le w (ag x)/\True)/\(s=true->s=true/\s=true/\H4 prog 38 m x (m7 r (A1 x))/\Le (bv !m7 r (A1 x)) (bv !m7 k (m8 k))/\True)/\((bif !pK j then true else n5 k)=false->s=true)/\Le (bv (bif bif !pK j then true else n5 k then true else !m7 k (m8 k))) (bv (uY k (pK j)))/\HB (uY k (pK j)) (0=0/\256=256/\Le (SV.tup [Cp.agg o7,Cp.l (li 11)]) b/\A5 g h h/\True) (Le p (ag m)/\0=0/\256=256/\Le (SV.tup [Cp.agg m,Cp.l (li 0)]) b/\A5 g h h/\True))) (Rp e N d) [] func79 (by kernel_rfl) (by kernel_rfl) ?_
 with_reducible repeat' first|exact trivial|apply And.intro|apply HB.mk|intro _|assumption|rfl
 all_goals first|with_reducible refine op7 _ ?_ _;omega|(with_reducible first|exact Jf _ _ rfl _|exact xA _ _ rfl _|exact Wy _|exact c9l _ _)|refine Le.int ?_;rw[IntKind.wrap_i64];have:=G9 e.blob;omega|with_reducible exact Le.bool (nT e)|(exact ⟨by omega,by omega⟩)|exact C2 _ (by omega) (by omega)|refine Le.of ?_;rw[(qA (by with_reducible assumption)).1,(qA (by with_reducible assumption)).2,<-q9];done|refine Le.int ?_;exact (qQ _).trans hk|(with_reducible first|exact Le.of (congrArg (fun q=>SV.c (.l (.v (.string q)))) (uH _))|exact Le.of (congrArg (fun l=>SV.c (.agg l)) (t7 _))|exact Le.bool (J0 _)|exact Le.of (congrArg (fun l=>SV.c (.agg l)) (bF _))|exact Le.bool (congrArg Bool.not (M8 _ _))|exact mC rfl rfl|exact Le.bool (Ck _ _))|refine Le.of ?_;rw[(yB (by with_reducible assumption) (k0 hk).1 (k0 hk).2 (by with_reducible assumption)).1,(yB (by with_reducible assumption) (k0 hk).1 (k0 hk).2 (by with_reducible assumption)).2,<-q9];done|refine Le.of ?_;rw[(Ht (by with_reducible assumption) (k0 hk).1 (k0 hk).2 (by with_reducible assumption)).1,(Ht (by with_reducible assumption) (k0 hk).1 (k0 hk).2 (by with_reducible assumption)).2];done|exact A5.of (by kernel_rfl)|simp only[*,Bool.and_self,Bool.not_false,Bool.not_true];done
def Qf (e:EN) (N:Nat) (d:Int):Cz:={
 ct:=(fun f=>match f with
 |53=>Uo
 |66=>a3t
 |108=>a4e
 |137=>Ye
 |168=>a0v
 |169=>Xy
 |171=>a2s
 |_=>none)
 eq:=(fun t=>match t with
 |38=>some (fun xs ys=>m7 (A1 xs) (A1 ys))
 |_=>none)
 sym:=[28],nf:=[(20,iv .i64 (z7 e.blob)),(23,bv (lS e)),(29,iv .i64 1),(39,.c (.l (.v (.string (z9 e.blob))))),(46,.c (.agg (tl (lN (z9 e.blob))))),(47,bv (n5 (lN (z9 e.blob)))),(50,.c (.agg (tl (lN (z9 e.blob))))),(51,.c (.agg (tl (lN (z9 e.blob))))),(52,.c (.agg (tl (m8 (lN (z9 e.blob)))))),(53,bv (!m7 (lN (z9 e.blob)) (m8 (lN (z9 e.blob))))),(54,bv (uY (lN (z9 e.blob)) (iZ (z9 e.blob)))),(56,.c (.agg (tl (lN (z9 e.blob)))))],wh:=[38,180]}
theorem b8h (e:EN) (N:Nat) (d:Int) (hb:1<=e.blob.size) (hz:e.blob.size<=1000000000000000) (h0:0<=d) (hd:d<=1000000000) (hk:kB e.blob=1):f4 prog 79 [.c (.l (.p 0 0)),ag [li e.X,li e.Y,ub e.a,ub e.b,ub e.c,ub e.d,li e.sum,.v (.string e.blob)]] [(0,⟨[.o 1 N,li d],.t 125⟩)] 2 (.tup [.agg (tl (C7 e)),.l (li (E0 e))]) [(0,⟨[.o 1 N,li (d+1)],.t 125⟩)] 0:=by
 refine E3 (q:=let a:=z7 e.blob;let b:=(SV.tup [Cp.agg (tl (C7 e)),Cp.l (li (E0 e))]);let g:=x8 2 0 [];let h:=(j9 [Leaf.o 1 N,li (d+1)] 125);let i:=(e.blob.size:Int);let j:=z9 e.blob;let k:=lN j;let m:=tl k;let n:=!!iZ j;let p:=ag (List.take 256 m);let r:=A1 m;let s:=!bif !iZ j then true else n5 k;let u:=s=true->Le p (ag m)/\True;let w:=ag (tl (m8 r));let x:=tl (m8 k);IntKind.i64.wrap (d+1)=d+1/\Kd 53 [] [l4 (l9 e.blob)] [] 4 (iv .u32 a) [] 0/\Le (i8 (IntKind.i64.wrap a)) (i8 a)/\Le (bv (z7 e.blob != e.sum)) (bv (lS e))/\HB (lS e) (0=0/\256=256/\Le (SV.tup [Cp.agg o7,Cp.l (li 12)]) b/\A5 g h h/\True) (Kd 137 [] [] [] 4 (ag [Leaf.f 168 [],Leaf.f 169 [],Leaf.f 171 []]) [] 0/\0=0/\3=3/\t0 0 e.blob.size/\Le (i8 (IntKind.i64.wrap (Nat.cast ((e.blob.get! (Int.toNat 0)).toNat):Int))) (i8 1)/\O6 1 i i/\Le (l4 (l9 (e.blob.extract (Int.toNat 1) (i).toNat))) (l4 (l9 j))/\Kd 169 [] [l4 (l9 j)] [] 5 (SV.tup [Cp.agg m,Cp.l (lb (iZ j))]) [] 0/\0=0/\256=256/\(n=true->Le p (ag m)/\True)/\(n=true->n=true/\Kd 108 [] [ag m] [] 6 (bv (n5 r)) [] 0/\Le (bv (n5 r)) (bv (n5 k))/\True)/\((!iZ j)=false->n=true)/\u/\u/\(s=true->s=true/\Kd 66 [] [ag m] [] 6 w [] 0/\Le w (ag x)/\True)/\(s=true->s=true/\s=true/\H4 prog 38 m x (m7 r (A1 x))/\Le (bv !m7 r (A1 x)) (bv !m7 k (m8 k))/\True)/\((bif !iZ j then true else n5 k)=false->s=true)/\Le (bv (bif bif !iZ j then true else n5 k then true else !m7 k (m8 k))) (bv (uY k (iZ j)))/\HB (uY k (iZ j)) (0=0/\256=256/\Le (SV.tup [Cp.agg o7,Cp.l (li 11)]) b/\A5 g h h/\True) (Le p (ag m)/\0=0/\256=256/\Le (SV.tup [Cp.agg m,Cp.l (li 0)]) b/\A5 g h h/\True))) (Qf e N d) [] func79 (by kernel_rfl) (by kernel_rfl) ?_
 with_reducible repeat' first|exact trivial|apply And.intro|apply HB.mk|intro _|assumption|rfl
 all_goals first|with_reducible refine op7 _ ?_ _;omega|(with_reducible first|exact Jf _ _ rfl _|exact xA _ _ rfl _|exact Wy _|exact d2i _ _)|refine Le.int ?_;rw[IntKind.wrap_i64];have:=G9 e.blob;omega|with_reducible exact Le.bool (nT e)|(exact ⟨by omega,by omega⟩)|exact C2 _ (by omega) (by omega)|refine Le.of ?_;rw[(qA (by with_reducible assumption)).1,(qA (by with_reducible assumption)).2,<-q9];done|refine Le.int ?_;exact (qQ _).trans hk|(with_reducible first|exact Le.of (congrArg (fun q=>SV.c (.l (.v (.string q)))) (uH _))|exact Le.of (congrArg (fun l=>SV.c (.agg l)) (t7 _))|exact Le.bool (J0 _)|exact Le.of (congrArg (fun l=>SV.c (.agg l)) (bF _))|exact Le.bool (congrArg Bool.not (M8 _ _))|exact mC rfl rfl|exact Le.bool (Ck _ _))|refine Le.of ?_;rw[(yB (by with_reducible assumption) (k1 hk).1 (k1 hk).2 (by with_reducible assumption)).1,(yB (by with_reducible assumption) (k1 hk).1 (k1 hk).2 (by with_reducible assumption)).2,<-q9];done|refine Le.of ?_;rw[(Ht (by with_reducible assumption) (k1 hk).1 (k1 hk).2 (by with_reducible assumption)).1,(Ht (by with_reducible assumption) (k1 hk).1 (k1 hk).2 (by with_reducible assumption)).2];done|exact A5.of (by kernel_rfl)|simp only[*,Bool.and_self,Bool.not_false,Bool.not_true];done
def Lz (e:EN) (N:Nat) (d:Int):Cz:={
 ct:=(fun f=>match f with
 |53=>Uo
 |66=>a3t
 |108=>a4e
 |137=>Ye
 |168=>a0v
 |169=>Xy
 |171=>a2s
 |_=>none)
 eq:=(fun t=>match t with
 |38=>some (fun xs ys=>m7 (A1 xs) (A1 ys))
 |_=>none)
 sym:=[28],nf:=[(20,iv .i64 (z7 e.blob)),(23,bv (lS e)),(29,iv .i64 2),(39,.c (.l (.v (.string (z9 e.blob))))),(46,.c (.agg (tl (lQ (z9 e.blob))))),(47,bv (n5 (lQ (z9 e.blob)))),(50,.c (.agg (tl (lQ (z9 e.blob))))),(51,.c (.agg (tl (lQ (z9 e.blob))))),(52,.c (.agg (tl (m8 (lQ (z9 e.blob)))))),(53,bv (!m7 (lQ (z9 e.blob)) (m8 (lQ (z9 e.blob))))),(54,bv (uY (lQ (z9 e.blob)) (dW (z9 e.blob)))),(56,.c (.agg (tl (lQ (z9 e.blob)))))],wh:=[38,180]}
theorem c4c (e:EN) (N:Nat) (d:Int) (hb:1<=e.blob.size) (hz:e.blob.size<=1000000000000000) (h0:0<=d) (hd:d<=1000000000) (hk:kB e.blob=2):f4 prog 79 [.c (.l (.p 0 0)),ag [li e.X,li e.Y,ub e.a,ub e.b,ub e.c,ub e.d,li e.sum,.v (.string e.blob)]] [(0,⟨[.o 1 N,li d],.t 125⟩)] 2 (.tup [.agg (tl (C7 e)),.l (li (E0 e))]) [(0,⟨[.o 1 N,li (d+1)],.t 125⟩)] 0:=by
 refine E3 (q:=let a:=z7 e.blob;let b:=(SV.tup [Cp.agg (tl (C7 e)),Cp.l (li (E0 e))]);let g:=x8 2 0 [];let h:=(j9 [Leaf.o 1 N,li (d+1)] 125);let i:=(e.blob.size:Int);let j:=z9 e.blob;let k:=lQ j;let m:=tl k;let n:=!!dW j;let p:=ag (List.take 256 m);let r:=A1 m;let s:=!bif !dW j then true else n5 k;let u:=s=true->Le p (ag m)/\True;let w:=ag (tl (m8 r));let x:=tl (m8 k);IntKind.i64.wrap (d+1)=d+1/\Kd 53 [] [l4 (l9 e.blob)] [] 4 (iv .u32 a) [] 0/\Le (i8 (IntKind.i64.wrap a)) (i8 a)/\Le (bv (z7 e.blob != e.sum)) (bv (lS e))/\HB (lS e) (0=0/\256=256/\Le (SV.tup [Cp.agg o7,Cp.l (li 12)]) b/\A5 g h h/\True) (Kd 137 [] [] [] 4 (ag [Leaf.f 168 [],Leaf.f 169 [],Leaf.f 171 []]) [] 0/\0=0/\3=3/\t0 0 e.blob.size/\Le (i8 (IntKind.i64.wrap (Nat.cast ((e.blob.get! (Int.toNat 0)).toNat):Int))) (i8 2)/\O6 1 i i/\Le (l4 (l9 (e.blob.extract (Int.toNat 1) (i).toNat))) (l4 (l9 j))/\Kd 171 [] [l4 (l9 j)] [] 5 (SV.tup [Cp.agg m,Cp.l (lb (dW j))]) [] 0/\0=0/\256=256/\(n=true->Le p (ag m)/\True)/\(n=true->n=true/\Kd 108 [] [ag m] [] 6 (bv (n5 r)) [] 0/\Le (bv (n5 r)) (bv (n5 k))/\True)/\((!dW j)=false->n=true)/\u/\u/\(s=true->s=true/\Kd 66 [] [ag m] [] 6 w [] 0/\Le w (ag x)/\True)/\(s=true->s=true/\s=true/\H4 prog 38 m x (m7 r (A1 x))/\Le (bv !m7 r (A1 x)) (bv !m7 k (m8 k))/\True)/\((bif !dW j then true else n5 k)=false->s=true)/\Le (bv (bif bif !dW j then true else n5 k then true else !m7 k (m8 k))) (bv (uY k (dW j)))/\HB (uY k (dW j)) (0=0/\256=256/\Le (SV.tup [Cp.agg o7,Cp.l (li 11)]) b/\A5 g h h/\True) (Le p (ag m)/\0=0/\256=256/\Le (SV.tup [Cp.agg m,Cp.l (li 0)]) b/\A5 g h h/\True))) (Lz e N d) [] func79 (by kernel_rfl) (by kernel_rfl) ?_
 with_reducible repeat' first|exact trivial|apply And.intro|apply HB.mk|intro _|assumption|rfl
 all_goals first|with_reducible refine op7 _ ?_ _;omega|(with_reducible first|exact Jf _ _ rfl _|exact xA _ _ rfl _|exact Wy _)|with_reducible refine d1j _ ?_ _;unfold z9;rw[ByteArray.size_extract];omega|refine Le.int ?_;rw[IntKind.wrap_i64];have:=G9 e.blob;omega|with_reducible exact Le.bool (nT e)|(exact ⟨by omega,by omega⟩)|exact C2 _ (by omega) (by omega)|refine Le.of ?_;rw[(qA (by with_reducible assumption)).1,(qA (by with_reducible assumption)).2,<-q9];done|refine Le.int ?_;exact (qQ _).trans hk|(with_reducible first|exact Le.of (congrArg (fun q=>SV.c (.l (.v (.string q)))) (uH _))|exact Le.of (congrArg (fun l=>SV.c (.agg l)) (t7 _))|exact Le.bool (J0 _)|exact Le.of (congrArg (fun l=>SV.c (.agg l)) (bF _))|exact Le.bool (congrArg Bool.not (M8 _ _))|exact mC rfl rfl|exact Le.bool (Ck _ _))|refine Le.of ?_;rw[(yB (by with_reducible assumption) (k2 hk).1 (k2 hk).2 (by with_reducible assumption)).1,(yB (by with_reducible assumption) (k2 hk).1 (k2 hk).2 (by with_reducible assumption)).2,<-q9];done|refine Le.of ?_;rw[(Ht (by with_reducible assumption) (k2 hk).1 (k2 hk).2 (by with_reducible assumption)).1,(Ht (by with_reducible assumption) (k2 hk).1 (k2 hk).2 (by with_reducible assumption)).2];done|exact A5.of (by kernel_rfl)|simp only[*,Bool.and_self,Bool.not_false,Bool.not_true];done
def Rs (e:EN) (N:Nat) (d:Int):Cz:={
 ct:=(fun f=>match f with
 |53=>Uo
 |66=>a3t
 |108=>a4e
 |137=>Ye
 |168=>a0v
 |169=>Xy
 |171=>a2s
 |_=>none)
 eq:=(fun t=>match t with
 |38=>some (fun xs ys=>m7 (A1 xs) (A1 ys))
 |_=>none)
 sym:=[28],nf:=[(20,iv .i64 (z7 e.blob)),(23,bv (lS e)),(29,iv .i64 (kB e.blob)),(31,bv true)],wh:=[38,180]}
theorem b8r (e:EN) (N:Nat) (d:Int) (hb:1<=e.blob.size) (hz:e.blob.size<=1000000000000000) (h0:0<=d) (hd:d<=1000000000) (hk:kB e.blob>=3):f4 prog 79 [.c (.l (.p 0 0)),ag [li e.X,li e.Y,ub e.a,ub e.b,ub e.c,ub e.d,li e.sum,.v (.string e.blob)]] [(0,⟨[.o 1 N,li d],.t 125⟩)] 2 (.tup [.agg (tl (C7 e)),.l (li (E0 e))]) [(0,⟨[.o 1 N,li (d+1)],.t 125⟩)] 0:=by
 refine E3 (q:=let a:=z7 e.blob;let b:=(SV.tup [Cp.agg (tl (C7 e)),Cp.l (li (E0 e))]);let g:=(j9 [Leaf.o 1 N,li (d+1)] 125);IntKind.i64.wrap (d+1)=d+1/\Kd 53 [] [l4 (l9 e.blob)] [] 4 (iv .u32 a) [] 0/\Le (i8 (IntKind.i64.wrap a)) (i8 a)/\Le (bv (z7 e.blob != e.sum)) (bv (lS e))/\HB (lS e) (0=0/\256=256/\Le (SV.tup [Cp.agg o7,Cp.l (li 12)]) b/\A5 (x8 2 0 []) g g/\True) (Kd 137 [] [] [] 4 (ag [Leaf.f 168 [],Leaf.f 169 [],Leaf.f 171 []]) [] 0/\0=0/\3=3/\t0 0 e.blob.size/\Le (i8 (IntKind.i64.wrap (Nat.cast ((e.blob.get! (Int.toNat 0)).toNat):Int))) (i8 (kB e.blob))/\Le (bv (decide (kB e.blob>=3))) (bv true)/\0=0/\256=256/\Le (SV.tup [Cp.agg o7,Cp.l (li 11)]) b/\A5 (x8 2 0 []) g g/\True)) (Rs e N d) [] func79 (by kernel_rfl) (by kernel_rfl) ?_
 with_reducible repeat' first|exact trivial|apply And.intro|apply HB.mk|intro _|rfl
 all_goals first|with_reducible refine op7 _ ?_ _;omega|with_reducible exact Wy _|refine Le.int ?_;rw[IntKind.wrap_i64];have:=G9 e.blob;omega|with_reducible exact Le.bool (nT e)|(exact ⟨by omega,by omega⟩)|exact C2 _ (by omega) (by omega)|refine Le.of ?_;rw[(qA (by with_reducible assumption)).1,(qA (by with_reducible assumption)).2,<-q9];done|refine Le.int ?_;exact qQ _|refine Le.bool ?_;exact decide_eq_true hk|refine Le.of ?_;rw[(yB (by with_reducible assumption) (k3 hk).1 (k3 hk).2 rfl).1,(yB (by with_reducible assumption) (k3 hk).1 (k3 hk).2 rfl).2,<-q9];done|exact A5.of (by kernel_rfl)
end Ab
end
section
namespace Ab
attribute [local irreducible] j8
theorem Sc {b:Bool} (h:b=false):(!b)=true:=by rw[h];rfl
theorem c5r {b:Bool} (h:b=true):(!b)=false:=by rw[h];rfl
theorem Ly (e:EN) (N:Nat) (d:Int) (hb:1<=e.blob.size) (hz:e.blob.size<=1000000000000000) (h0:0<=d) (hd:d<=1000000000):f4 prog 79 [.c (.l (.p 0 0)),ag [li e.X,li e.Y,ub e.a,ub e.b,ub e.c,ub e.d,li e.sum,.v (.string e.blob)]] [(0,⟨[.o 1 N,li d],.t 125⟩)] 2 (.tup [.agg (tl (C7 e)),.l (li (E0 e))]) [(0,⟨[.o 1 N,li (d+1)],.t 125⟩)] 0:=by
 by_cases k0:kB e.blob=0
 ·exact b7w e N d hb hz h0 hd k0
 ·by_cases k1:kB e.blob=1
  ·exact b8h e N d hb hz h0 hd k1
  ·by_cases k2:kB e.blob=2
   ·exact c4c e N d hb hz h0 hd k2
   ·refine b8r e N d hb hz h0 hd ?_
    have:0<=kB e.blob:=Int.natCast_nonneg _
    omega
theorem O7 (e:EN) (N:Nat) (d:Int) (hb:1<=e.blob.size) (hz:e.blob.size<=1000000000000000) (h0:0<=d) (hd:d<=1000000000) (id i n:Nat) (h1:id<n) (h2:i<n) (h3:id≠i) :
  f4 prog 79 [.c (.l (.p id 0)),.c (.agg (en e))] [(id,⟨[.o i N,li d],.t 125⟩)] n (.tup [.agg (tl (C7 e)),.l (li (E0 e))]) [(id,⟨[.o i N,li (d+1)],.t 125⟩)] 0:=by
 have key:=j8.at2 (Ly e N d hb hz h0 hd) id i n h1 h2 h3
 simp only[List.map_cons,List.map_nil,n6.ren,SV.ren,Cp.ren,j5 (j3 _)] at key
 exact key
def mE (L:List EN) (x y:Int) (j:Nat):Bool:=(ea L j).X==x&&(ea L j).Y==y
def fN (L:List EN) (x y:Int):Int:=match (List.range L.length).find? (mE L x y) with|some j=>((j:Nat):Int)|none=>-1
def I77 (L:List EN) (x y:Int) (k:Nat):St:=⟨[(8,iv .i64 (k:Nat)),(7,iv .i64 (L.length:Nat)),(0,.c (.l (.o 0 L.length))),(1,.c (.l (.f 78 [(1,0)])))],[(0,some ⟨o4 L,.r 123 8 0⟩),(1,some ⟨[li x,li y],.t 40⟩)],2,19,[],(2)⟩
def Q77 (L:List EN) (x y:Int) (k:Nat):St:=⟨[(4,iv .i64 (k:Nat))],[],2,19,[],(2)⟩
theorem xN {L:List EN} {x y:Int} (h:∀j,j<L.length->(!mE L x y j)=true):fN L x y = -1:=by
 unfold fN
 have:(List.range L.length).find? (mE L x y)=none:=by
  rw[List.find?_eq_none]
  intro j hj
  have:=h j (List.mem_range.1 hj)
  simpa using this
 rw[this]
theorem dV (p:Nat->Bool):∀(n j:Nat),j<n->p j=true->(∀i,i<j->p i=false)->(List.range n).find? p=some j:=by
 intro n j hj hp hb
 rw[List.find?_range_eq_some]
 exact ⟨hp,List.mem_range.2 hj,fun i hi=>by simpa using hb i hi⟩
theorem pA {L:List EN} {x y:Int} {j:Nat} (hj:j<L.length) (hb:∀i,i<j->(!mE L x y i)=true) (h:(!mE L x y j)=false):fN L x y=((j:Nat):Int):=by
 unfold fN
 rw[dV _ _ _ hj (by simpa using h) (fun i hi=>by simpa using hb i hi)]
theorem a8d (L:List EN) (x y:Int):fN L x y = -1\/(0<=fN L x y/\fN L x y<L.length):=by
 unfold fN
 cases h:(List.range L.length).find? (mE L x y) with
 |none=>exact .inl rfl
 |some j=>
  have:=List.mem_range.1 (List.mem_of_find?_eq_some h)
  right
  show 0<=((j:Nat):Int)/\((j:Nat):Int)<_
  omega
theorem a4y (L:List EN) (x y:Int) (k:Nat):((ea L k).X==x&&(ea L k).Y==y)=mE L x y k:=rfl
def a8z (e:EN) (x y:Int):Cz:={
  ct:=fun _=>none
  eq:=(fun t=>match t with
  |40=>some (fun xs ys=>match xs,ys with | [.v (.int _ a0),.v (.int _ a1)],[.v (.int _ b0),.v (.int _ b1)]=>(a0==b0&&a1==b1)|_,_=>false)
  | _ => none)
   }
theorem C78 (e:EN) (x y:Int)  : f4 prog 78 [ag [li e.X,li e.Y,ub e.a,ub e.b,ub e.c,ub e.d,li e.sum,.v (.string e.blob)],.c (.l (.p 0 0))] [(0,⟨[li x,li y],.t 40⟩)] 1 (bv (e.X==x&&e.Y==y)) [] 0:=by
 refine E3 (q:=let a:=e.X==x&&e.Y==y;H4 prog 40 [li e.X,li e.Y] [li x,li y] a/\Le (bv a) (bv a)/\True) (a8z e x y) [] func78 (by kernel_rfl) (by kernel_rfl) ?_
 with_reducible repeat' first|exact trivial|apply And.intro|apply HB.mk|intro _|exact Le.refl _
 all_goals first|exact b2e _ _ _ _
theorem c9d (e:EN) (x y:Int) (id n:Nat) (hi:id<n):f4 prog 78 [.c (.agg (en e)),.c (.l (.p id 0))] [(id,⟨[li x,li y],.t 40⟩)] n (bv (e.X==x&&e.Y==y)) [] 0:=f4.at1 (C78 e x y) id n hi
def b1a (L:List EN) (x y:Int) (k:Nat):Cz:={
 ct:=(fun f=>match f with
 |78=>some fun _ _=>fun | [.c (.agg [.v (.int _ X),.v (.int _ Y),_,_,_,_,_,_]),.c (.l (.p i _))]=>some {v:=bv (X==x&&Y==y),rd:=[i]}|_=>none
 |_=>none)
 sym:=[14,15],nf:=[(15,.c (.agg (en (ea L k)))),(16,bv (mE L x y k))]}
theorem R77 (L:List EN) (x y:Int) (k:Nat)  (K:Exit->St->Prop) (h:let a:=(L.length:Int);let b:=((k:Int));let d:=bv ((ea L k).X==x&&(ea L k).Y==y);let e:=(0,l4 (Leaf.o 0 L.length));let g:=(1,l4 (Leaf.f 78 [(1,0)]));let i:=(7,i8 a);let j:=(8,i8 (k:Int));let m:=[(0,some (o8 (o4 L) 123 8 0)),(1,some (j9 [li x,li y] 40))];HB (decide ((k:Int)<a)) (t0 b L.length/\b.toNat*8+8<=(o4 L).length/\Le (ag (List.take 8 (List.drop (b.toNat*8) (o4 L)))) (ag (en (ea L k)))/\Kd 78 [] [ag (en (ea L k)),j7 1 0] [(1,j9 [li x,li y] 40)] 2 d [] 0/\Le d (bv (mE L x y k))/\HB (mE L x y k) (wkK 2 K Exit.ret (St.mk [e,g,(4,i8 (k:Int)),i,j] m 2 19 [] 2)) (IntKind.i64.wrap ((k:Int)+1)=(k:Int)+1/\RoundTo prog (gl 2 Tryz.f77) 2 (wkK 2 K) (St.mk [e,g,(4,SV.u),i,(8,i8 ((k:Int)+1))] m 2 19 [] 2))) (wkK 2 K (Exit.exit 0) (St.mk [e,g,(4,SV.u),i,j] m 2 19 [] 2))):z4 prog (gl 2 Tryz.f77) (I77 L x y k) (wkK 2 K):=
 m5 [0,1,4,7,8] [0,1] (cx:=b1a L x y k) rfl (u3 (by kernel_rfl) h)
theorem L77 (L:List EN) (x y:Int) (hL:L.length<=1024):∀(m k:Nat),L.length-k=m->k<=L.length->(∀j,j<k->(!mE L x y j)=true)->∀(K:Exit->St->Prop),((∀j,j<L.length->(!mE L x y j)=true)->K (.exit 0) (I77 L x y L.length))->(∀j,j<L.length->(∀i,i<j->(!mE L x y i)=true)->(!mE L x y j)=false->K .ret (Q77 L x y j))->z4 prog (gl 2 Tryz.f77) (I77 L x y k) (wkK 2 K)
 |0,k,hm,hk,hall,K,hK,hR=>by
  have e:k=L.length:=by omega
  subst e
  refine R77 L x y _ K (HB.no (by omega) ?_)
  exact wkK.tk (I77 L x y _) (by kernel_rfl) (d5 (l6.p (g9 _) (by kernel_rfl)) (N0.k (by kernel_rfl))) (hK hall)
 |m+1,k,hm,hk,hall,K,hK,hR=>by
  refine R77 L x y k K (HB.yes (by omega) ?_)
  have hlt:k<L.length:=by omega
  with_reducible repeat' first|exact trivial|apply And.intro|apply HB.mk|intro _
  all_goals first|with_reducible exact c9d _ x y _ _ (by omega)|(exact ⟨by omega,by omega⟩)|rw[y6];omega|refine Le.of ?_;simp only[tn,Nat.zero_add,Nat.add_zero];rw[bG hlt]|with_reducible exact Le.bool (a4y _ _ _ _)|have hcnd:(mE L x y k)=false:=(by with_reducible assumption);(with_reducible refine RoundTo.tk 2 (I77 L x y (k+1)) ?_ ?_ ?_);kernel_rfl;exact (d5 (l6.p (g9 _) (by kernel_rfl)) (N0.k (by kernel_rfl)));exact (L77 L x y hL m (k+1) (by omega) (by omega) (fun j hj=>by rcases Nat.lt_or_ge j k with h|h;exact hall j h;have e:j=k:=(by omega);subst e;exact (Sc hcnd)) K hK hR)|exact wkK.tk (Q77 L x y k) (by kernel_rfl) trivial (hR k hlt hall ((c5r (by with_reducible assumption))))|exact C2 _ (by omega) (by omega)
def a9w (L:List EN) (x y:Int):Cz:={
 ct:=fun _=>none
 lp:=fun r=>match r with|2=>some (fun _ K=>((∀j,j<L.length->(!mE L x y j)=true)->K (.exit 0) (I77 L x y L.length))/\(∀j,j<L.length->(∀i,i<j->(!mE L x y i)=true)->(!mE L x y j)=false->K .ret (Q77 L x y j)))|_=>none}
theorem C77 (L:List EN) (x y:Int) (hL:L.length<=1024):f4 prog 77 [.c (.l (.o 0 L.length)),.c (.l (.f 78 [(1,0)]))] [(0,⟨o4 L,.r 123 8 0⟩),(1,⟨[li x,li y],.t 40⟩)] 2 (iv .i64 (fN L x y)) [] 0:=by
 refine E3 (q:=let a:=Leaf.o 0 L.length;let b:=(∀(j:Nat),j<L.length->(!mE L x y j)=true);let d:=i8 (fN L x y);(l3 prog (gl 2 Tryz.f77) (St.mk [(8,i8 0),(7,i8 (L.length:Int)),(6,l4 a),(4,i8 0),(0,l4 a),(1,l4 (Leaf.f 78 [(1,0)]))] [(0,some (o8 (o4 L) 123 8 0)),(1,some (j9 [li x,li y] 40))] 2 19 [] 2) fun K=>(b->K (Exit.exit 0) (I77 L x y L.length))/\∀(j:Nat),j<L.length->(∀(i:Nat),i<j->(!mE L x y i)=true)->(!mE L x y j)=false->K Exit.ret (Q77 L x y j))/\(b->Le (i8 (-1)) d/\True)/\∀(j:Nat),j<L.length->(∀(i:Nat),i<j->(!mE L x y i)=true)->(!mE L x y j)=false->Le (i8 (j:Int)) d/\True) (a9w L x y) [] func77 (iB (g9 L) (by kernel_rfl)) (by kernel_rfl) ?_
 with_reducible repeat' first|exact trivial|apply And.intro|apply HB.mk|intro _
 all_goals first|exact l3.tk (I77 L x y 0) (by kernel_rfl) (d5 (l6.p (g9 _) (by kernel_rfl)) (N0.k (by kernel_rfl))) (fun K hT=>L77 L x y hL _ 0 rfl (Nat.zero_le _) (fun j hj=>absurd hj (Nat.not_lt_zero j)) K hT.1 hT.2)|refine Le.int ?_;exact (xN (by with_reducible assumption)).symm|refine Le.int ?_;exact (pA (by with_reducible assumption) (by with_reducible assumption) (by with_reducible assumption)).symm
end Ab
end
section
namespace Ab
attribute [local irreducible] j8
theorem a2x {P:Program} {f:Nat} {dc:List (Nat×Nat×Bool)} {args:List SV} {H:List (Nat×n6)} {n:Nat} {v:SV} (h:j8 P f dc args H n v [] 0) (id:Nat) (k:n6) (hk:lk H id=some k):j8 P f dc args H n v [(id,k)] 0:=by
 unfold j8 at h⊢
 refine ⟨h.1,fun β x vals ha hi hl hn hb hd=>(h.2 β x vals ha hi hl hn hb hd).mono ?_⟩
 rintro e x' ⟨y,β',rfl,D⟩
 refine ⟨y,β',rfl,D.den,D.ext,D.new,D.newc,D.inj,D.lt,D.os,D.tape,D.output,D.size,fun q hq _=>D.keep q hq (fun _ _=>rfl),fun i b k' hb' hk'=>?_⟩
 by_cases e:id=i
 ·subst e
  rw[o5] at hk'
  obtain rfl:=Option.some.inj hk'
  rcases D.new id b hb' with h1|⟨h1,h2,h3⟩
  ·exact (hb id b _ h1 hk).ext D.ext (D.keep b (hl id b h1) (fun _ _=>rfl))
  ·omega
 ·rw[t6 _ _ e] at hk';cases hk'
def x7 (L:List EN):Prop:=L.length<=1024/\∀k,k<L.length->1<=(ea L k).blob.size/\(ea L k).blob.size<=257
def fE (L:List EN) (x y:Int):EN:=ea L (fN L x y).toNat
def pQ (L:List EN) (x y:Int):Nat->UInt8:=bif decide (fN L x y<0) then zT else C7 (fE L x y)
def pL (L:List EN) (x y:Int):Int:=bif decide (fN L x y<0) then 0 else E0 (fE L x y)
def vO (L:List EN) (x y:Int):Int:=bif decide (fN L x y<0) then 0 else 1
theorem x7.len {L:List EN} (h:x7 L):L.length<=1024:=h.1
theorem c4q (L:List EN) (x y:Int) (hL:L.length<=1024) (i q n:Nat) (h1:i<n) (h2:q<n) (h3:i≠q):f4 prog 77 [.c (.l (.o i L.length)),.c (.l (.f 78 [(q,0)]))] [(i,⟨o4 L,.r 123 8 i⟩),(q,⟨[li x,li y],.t 40⟩)] n (iv .i64 (fN L x y)) [] 0:=by
 have key:=j8.at2 (C77 L x y hL) i q n h1 h2 h3
 simp only[List.map_cons,List.map_nil,n6.ren,SV.ren,Cp.ren,Leaf.ren,BT.ren,j5 (g9 _)] at key
 exact key
theorem Xc {L:List EN} {x y:Int} (hf:0<=fN L x y):(fN L x y).toNat<L.length:=by
 rcases a8d L x y with h|h<;>omega
theorem c2k {L:List EN} {x y:Int} (hG:x7 L) (hf:0<=fN L x y):1<=(fE L x y).blob.size/\(fE L x y).blob.size<=1000000000000000:=by
 have:=hG.2 _ (Xc hf)
 unfold fE
 omega
def b9c (L:List EN) (x:Int) (y:Int):Rw:=some fun _ _=>fun | [.c (.l (.o i _)),.c (.l (.f _ [(q,_)]))]=>some {v:=iv .i64 (fN L x y),rd:=[i,q]}|_=>none
def c5u (L:List EN) (x:Int) (y:Int) (d:Int):Rw:=some fun _ _=>fun | [.c (.l (.p i _)),.c (.agg _)]=>some {v:=.tup [.agg (tl (C7 (fE L x y))),.l (li (E0 (fE L x y)))],rd:=[i],wr:=[(i,⟨[.o 1 L.length,li (d+1)],.t 125⟩)]}|_=>none
def Uc (L:List EN) (x y d:Int):Cz:={
 ct:=(fun f=>match f with
 |77=>b9c L x y
 |79=>c5u L x y d
 |_=>none)
 nf:=[(17,bv true)],wh:=[38]}
theorem c9m (L:List EN) (x y d:Int) (hG:x7 L) (hf:fN L x y<0):f4 prog 22 [.c (.l (.p 0 0)),ag [li x,li y]] [(0,⟨[.o 1 L.length,li d],.t 125⟩),(1,⟨o4 L,.r 123 8 1⟩)] 2 (.tup [.agg (tl zT),.l (li 0)]) [] 0:=by
 refine E3 (q:=Kd 77 [] [l4 (Leaf.o 1 L.length),l4 (Leaf.f 78 [(2,0)])] [(1,o8 (o4 L) 123 8 1),(2,j9 [li x,li y] 40)] 4 (i8 (fN L x y)) [] 0/\Le (bv (decide (fN L x y<0))) (bv true)/\0=0/\256=256/\Le (SV.tup [Cp.agg o7,Cp.l (li 0)]) (SV.tup [Cp.agg (tl zT),Cp.l (li 0)])/\True) (Uc L x y d) [] func22 (D9 (g9 L) (by kernel_rfl)) (by kernel_rfl) ?_
 with_reducible repeat' first|exact trivial|apply And.intro|apply HB.mk|intro _|rfl
 all_goals first|(with_reducible refine c4q L x y hG.len _ _ _ ?_ ?_ ?_)<;>omega|with_reducible exact Le.bool (decide_eq_true hf)|refine Le.of ?_;rw[<-q9];done
def a1d (L:List EN) (x y d:Int):Cz:={
 ct:=(fun f=>match f with
 |77=>b9c L x y
 |79=>c5u L x y d
 |_=>none)
 sym:=[25,26],nf:=[(17,bv false),(26,.c (.agg (en (fE L x y))))],wh:=[38]}
theorem c9s (L:List EN) (x y d:Int) (hG:x7 L) (h0:0<=d) (hd:d<=1000000000) (hf:0<=fN L x y):f4 prog 22 [.c (.l (.p 0 0)),ag [li x,li y]] [(0,⟨[.o 1 L.length,li d],.t 125⟩),(1,⟨o4 L,.r 123 8 1⟩)] 2 (.tup [.agg (tl (C7 (fE L x y))),.l (li (E0 (fE L x y)))]) [(0,⟨[.o 1 L.length,li (d+1)],.t 125⟩)] 0:=by
 refine E3 (q:=let a:=fN L x y;let b:=fE L x y;let e:=(SV.tup [Cp.agg (tl (C7 b)),Cp.l (li (E0 b))]);let g:=[Leaf.o 1 L.length,li (d+1)];Kd 77 [] [l4 (Leaf.o 1 L.length),l4 (Leaf.f 78 [(2,0)])] [(1,o8 (o4 L) 123 8 1),(2,j9 [li x,li y] 40)] 4 (i8 a) [] 0/\Le (bv (decide (fN L x y<0))) (bv false)/\t0 a L.length/\a.toNat*8+8<=(o4 L).length/\Le (ag (List.take 8 (List.drop (a.toNat*8) (o4 L)))) (ag (en b))/\Kd 79 [] [j7 0 0,ag (en b)] [(0,j9 [Leaf.o 1 L.length,li d] 125)] 4 e [(0,j9 g 125)] 0/\0=0/\256=256/\Le e e/\A5 (x8 2 0 []) (j9 g 125) (j9 g 125)/\True) (a1d L x y d) [] func22 (D9 (g9 L) (by kernel_rfl)) (by kernel_rfl) ?_
 with_reducible repeat' first|exact trivial|apply And.intro|apply HB.mk|intro _|exact Le.refl _|rfl
 all_goals first|(with_reducible refine c4q L x y hG.len _ _ _ ?_ ?_ ?_)<;>omega|(with_reducible refine O7 (fE L x y) L.length d (c2k hG hf).1 (c2k hG hf).2 h0 hd _ _ _ ?_ ?_ ?_)<;>omega|refine Le.bool (decide_eq_false ?_);omega|(have:=Xc hf;exact ⟨by omega,by omega⟩)|have:=Xc hf;rw[y6];omega|refine Le.of ?_;rw[bG (Xc hf)];rfl|exact A5.of (by kernel_rfl)
def a3k (L:List EN) (d:Int):Cz:={
  ct:=fun _=>none
   }
theorem d1e (L:List EN) (d:Int)  : f4 prog 25 [.c (.l (.p 0 0))] [(0,⟨[.o 1 L.length,li d],.t 125⟩)] 2 (iv .i64 (L.length:Nat)) [] 0:=by
 refine E3 (q:=let a:=(i8 (L.length:Int));Le a a/\True) (a3k L d) [] func25 (by kernel_rfl) (by kernel_rfl) ?_
 with_reducible repeat' first|exact trivial|apply And.intro|apply HB.mk|intro _
 all_goals first|with_reducible exact Le.refl _
def Yu (L:List EN) (d:Int):Cz:={
  ct:=fun _=>none
   }
theorem c9t (L:List EN) (d:Int)  : f4 prog 19 [.c (.l (.p 0 0))] [(0,⟨[.o 1 L.length,li d],.t 125⟩)] 2 (iv .i64 d) [] 0:=by
 refine E3 (q:=Le (i8 d) (i8 d)/\True) (Yu L d) [] func19 (by kernel_rfl) (by kernel_rfl) ?_
 with_reducible repeat' first|exact trivial|apply And.intro|apply HB.mk|intro _
 all_goals first|with_reducible exact Le.refl _
theorem Pm (L:List EN) (x y d:Int) (hG:x7 L) (h0:0<=d) (hd:d<=1000000000) (id i n:Nat) (h1:id<n) (h2:i<n) (h3:id≠i) :
  f4 prog 22 [.c (.l (.p id 0)),ag [li x,li y]] [(id,⟨[.o i L.length,li d],.t 125⟩),(i,⟨o4 L,.r 123 8 i⟩)] n (.tup [.agg (tl (pQ L x y)),.l (li (pL L x y))]) [(id,⟨[.o i L.length,li (d+vO L x y)],.t 125⟩)] 0:=by
 unfold pQ pL vO
 by_cases hf:fN L x y<0
 ·rw[decide_eq_true hf]
  have key:=j8.at2 (a2x (c9m L x y d hG hf) 0 _ rfl) id i n h1 h2 h3
  simp only[List.map_cons,List.map_nil,n6.ren,SV.ren,Cp.ren,Leaf.ren,BT.ren,j5 (j3 _),j5 (g9 _)] at key
  show f4 _ _ _ _ _ (.tup [.agg (tl zT),.l (li 0)]) [(id,⟨[.o i L.length,li (d+0)],.t 125⟩)] _
  rw[Int.add_zero]
  exact key
 ·rw[decide_eq_false hf]
  have key:=j8.at2 (c9s L x y d hG h0 hd (by omega)) id i n h1 h2 h3
  simp only[List.map_cons,List.map_nil,n6.ren,SV.ren,Cp.ren,Leaf.ren,BT.ren,j5 (j3 _),j5 (g9 _)] at key
  exact key
theorem Ir (L:List EN) (d:Int) (id i n:Nat) (h1:id<n) (h2:i<n) (h3:id≠i):f4 prog 25 [.c (.l (.p id 0))] [(id,⟨[.o i L.length,li d],.t 125⟩)] n (iv .i64 (L.length:Nat)) [] 0:=j8.at2 (d1e L d) id i n h1 h2 h3
theorem vS (L:List EN) (d:Int) (id i n:Nat) (h1:id<n) (h2:i<n) (h3:id≠i):f4 prog 19 [.c (.l (.p id 0))] [(id,⟨[.o i L.length,li d],.t 125⟩)] n (iv .i64 d) [] 0:=j8.at2 (c9t L d) id i n h1 h2 h3
end Ab
end
section
namespace Ab
attribute [local irreducible] j8
def D0 (L:List EN) (w:Int->Int->Bool) (j:Nat):Bool:=bif w (ea L j).X (ea L j).Y then !(E0 (ea L j) != 0) else true
def v7 (L:List EN) (w:Int->Int->Bool):Nat->List TA
 |0=>[]
 |k+1=>bif w (ea L k).X (ea L k).Y then v7 L w k++[⟨(ea L k).X,(ea L k).Y,C7 (ea L k)⟩] else v7 L w k
def B6 (L:List EN) (w:Int->Int->Bool):Nat->Int
 |0=>0
 |k+1=>bif w (ea L k).X (ea L k).Y then B6 L w k+1 else B6 L w k
def gU (e:EN):Bool:=stB e.blob (E0 e != 0)
theorem bT (e:EN):(E0 e != 0)=gU e:=(mD _ _).symm
section
variable {L:List EN} {w:Int->Int->Bool} {k:Nat}
theorem C5 (h:(!w (ea L k).X (ea L k).Y)=true):v7 L w (k+1)=v7 L w k/\B6 L w (k+1)=B6 L w k/\D0 L w k=true:=by
 have h:w (ea L k).X (ea L k).Y=false:=fF h
 unfold D0
 rw[v7,B6,h];exact ⟨rfl,rfl,rfl⟩
theorem R6 (h:(!w (ea L k).X (ea L k).Y)=false):v7 L w (k+1)=v7 L w k++[⟨(ea L k).X,(ea L k).Y,C7 (ea L k)⟩]/\B6 L w (k+1)=B6 L w k+1:=by
 have h:w (ea L k).X (ea L k).Y=true:=bH h
 rw[v7,B6,h];exact ⟨rfl,rfl⟩
theorem bM (h:(!w (ea L k).X (ea L k).Y)=false) (h':gU (ea L k)=false):D0 L w k=true:=by
 have h:w (ea L k).X (ea L k).Y=true:=bH h
 unfold D0
 rw[h,bT,h'];rfl
theorem uW (h:(!w (ea L k).X (ea L k).Y)=false) (h':gU (ea L k)=true):D0 L w k=false:=by
 have h:w (ea L k).X (ea L k).Y=true:=bH h
 unfold D0
 rw[h,bT,h'];rfl
theorem E1 (h:(!w (ea L k).X (ea L k).Y)=false):n8 (v7 L w k)++el ⟨(ea L k).X,(ea L k).Y,C7 (ea L k)⟩=n8 (v7 L w (k+1))/\(v7 L w k).length+1=(v7 L w (k+1)).length:=by
 rw[(R6 h).1,T5,fO,List.length_append]
 exact ⟨rfl,rfl⟩
end
theorem cR (L:List EN) (w:Int->Int->Bool):∀k,(v7 L w k).length<=k
 |0=>Nat.le_refl _
 |k+1=>by
  have:=cR L w k
  rw[v7]
  cases w (ea L k).X (ea L k).Y
  ·exact Nat.le_succ_of_le this
  ·show (v7 L w k++_).length<=_
   rw[List.length_append];exact Nat.add_le_add_right this 1
theorem eQ (L:List EN) (w:Int->Int->Bool):∀k,0<=B6 L w k/\B6 L w k<=k
 |0=>⟨Int.le_refl _,Int.le_refl _⟩
 |k+1=>by
  have:=eQ L w k
  rw[B6]
  cases w (ea L k).X (ea L k).Y
  ·show 0<=B6 L w k/\B6 L w k<=_;omega
  ·show 0<=B6 L w k+1/\B6 L w k+1<=_;omega
theorem sP (e:EN):List.take 2 (en e)=[li e.X,li e.Y]:=rfl
theorem rV {need:Nat} (k:need*273<=140737488355328):fW prog 42 need:=apB (bytes:=272) (by kernel_rfl) k
attribute [local irreducible] tl n8
def l2 (x y:Int):Bool:=true
def b2h:Cz:={
  ct:=fun _=>none
   }
theorem C81 (x y:Int)  (n:Nat):f4 prog 81 [ag [li x,li y]] [] n (bv (l2 x y)) [] 0:=by
 refine v6 (q:=Le (bv true) (bv (l2 x y))/\True) (b2h) func81 n (by kernel_rfl) (by kernel_rfl) ?_
 with_reducible repeat' first|exact trivial|apply And.intro|apply HB.mk|intro _
 all_goals first|exact Le.bool rfl
def hJ (L:List EN) (d:Int) (k:Nat):St:=⟨[(19,iv .i64 (k:Nat)),(18,iv .i64 (L.length:Nat)),(17,.c (.l (.o 1 L.length))),(0,.c (.l (.p 0 0))),(1,.c (.l (.f 81 []))),(4,.c (.l (.p 2 0))),(6,.c (.l (.p 3 0)))],[(0,some ⟨[.o 1 L.length,li (d+(B6 L l2 k))],.t 125⟩),(1,some ⟨o4 L,.r 123 8 1⟩),(2,some ⟨[.v (.slice none 0 0)],.t 26⟩),(3,some ⟨[.o 4 (v7 L l2 k).length],.t 26⟩),(4,some ⟨n8 (v7 L l2 k),.r 42 258 4⟩)],5,49,[4,3,2,0],(2)⟩
def Jc (L:List EN) (d:Int) (k:Nat):St:=⟨[(4,.c (.l (.p 2 0))),(5,iv .i64 (E0 (ea L k)))],[(0,some ⟨[.o 1 L.length,li (d+((B6 L l2 k)+1))],.t 125⟩),(2,some ⟨[.v (.slice none 0 0)],.t 26⟩)],5,49,[4,3,2,0],(2)⟩
def a1w (L:List EN) (d:Int) (k:Nat):Cz:={
 ct:=(fun f=>match f with
 |79=>some fun _ _=>fun | [.c (.l (.p i _)),.c (.agg _)]=>some {v:=.tup [.agg (tl (C7 (ea L k))),.l (li (E0 (ea L k)))],rd:=[i],wr:=[(i,⟨[.o 1 L.length,li (d+(B6 L l2 k)+1)],.t 125⟩)]}|_=>none
 |81=>some fun _ap _S ar=>match _ap,ar with
  |_,[.c (.agg [.v (.int _ x),.v (.int _ y)])]=>some {v:=bv (l2 x y)}
  |_,_=>none
 |_=>none)
 sym:=[21,22,45],nf:=[(22,.c (.agg (en (ea L k)))),(25,.c (.agg [li (ea L k).X,li (ea L k).Y])),(41,.c (.agg [li (ea L k).X,li (ea L k).Y])),(27,bv (!(l2 (ea L k).X (ea L k).Y))),(30,.c (.agg (en (ea L k)))),(32,.c (.agg (tl (C7 (ea L k))))),(35,bv (gU (ea L k))),(42,.c (.agg (tl (C7 (ea L k))))),(43,.c (.agg (el ⟨(ea L k).X,(ea L k).Y,C7 (ea L k)⟩)))],wh:=[38,123]}
theorem b8k (L:List EN) (d:Int) (k:Nat)  (K:Exit->St->Prop) (h:let a:=(L.length:Int);let b:=((k:Int));let e:=en (ea L k);let g:=ag (List.take 2 e);let i:=[li (ea L k).X,li (ea L k).Y];let j:=bv !l2 (ea L k).X (ea L k).Y;let m:=((k:Int)+1);let n:=(A2 5 (Tryz.f80.body.getD Code.skip)).getD Code.skip;let q:=wkK 5 K;let s:=(0,j7 0 0);let w:=(1,l4 (Leaf.f 81 []));let x:=(4,j7 2 0);let y:=(6,j7 3 0);let z:=(17,l4 (Leaf.o 1 L.length));let A:=(18,i8 a);let B:=[s,w,x,(5,SV.u),y,z,A,(19,i8 m)];let C:=[Leaf.o 1 L.length,li (d+B6 L l2 k)];let D:=(0,some (j9 C 125));let E:=(1,some (o8 (o4 L) 123 8 1));let G:=(2,some (j9 [Leaf.v (Value.slice none 0 0)] 26));let H:=v7 L l2 k;let I:=(3,some (j9 [Leaf.o 4 H.length] 26));let J:=(4,some (o8 (n8 H) 42 258 4));let M:=(5,some (j9 e 123));let N:=(7,none);let O:=(8,none);let P:=tl (C7 (ea L k));let Q:=[Leaf.o 1 L.length,li (d+B6 L l2 k+1)];let R:=(19,i8 (k:Int));let T:=(0,some (j9 Q 125));let U:=(6,some (j9 P 38));let V:=ag (List.take 256 P);let W:=ag (j4 (i++List.replicate 256 (l8 0)) 2 P);let Z:=el (TA.mk (ea L k).X (ea L k).Y (C7 (ea L k)));let aa:=H.length+1;let ab:=n8 H++j4 A8 0 Z;let ac:=(7,some (o8 (j4 A8 0 Z) 42 258 7));let ad:=[(4,H.length+1,false)];HB (decide ((k:Int)<a)) (t0 b L.length/\b.toNat*8+8<=(o4 L).length/\Le (ag (List.take 8 (List.drop (b.toNat*8) (o4 L)))) (ag e)/\0=0/\8=8/\Le g (ag i)/\Kd 81 [] [ag i] [] 6 (bv (l2 (ea L k).X (ea L k).Y)) [] 0/\Le j j/\HB (!l2 (ea L k).X (ea L k).Y) (IntKind.i64.wrap m=(k:Int)+1/\RoundTo prog n 5 q (St.mk B [D,E,G,I,J,M,(6,none),N,O] 6 49 [5,5,4,3,2,0] 2)) (Le (ag (List.take 8 e)) (ag e)/\Kd 79 [] [j7 0 0,ag e] [(0,j9 C 125)] 6 (SV.tup [Cp.agg P,Cp.l (li (E0 (ea L k)))]) [(0,j9 Q 125)] 0/\Le (ag P) (ag P)/\0=0/\256=256/\Le (bv (E0 (ea L k) != 0)) (bv (gU (ea L k)))/\HB (gU (ea L k)) (wkK 5 K Exit.ret (St.mk [s,w,x,(5,i8 (E0 (ea L k))),y,z,A,R] [T,E,G,I,J,M,U,N,O] 7 49 [2,6,6,0,5,5,4,3,2,0] 2)) ((Le g (ag i)/\Le V (ag P)/\Le W (ag Z)/\(n8 H).length=H.length*258/\258=258/\IntKind.i64.wrap m=(k:Int)+1/\RoundTo prog n 5 q (St.mk B [T,E,G,(3,some (j9 [Leaf.o 4 aa] 26)),(4,some (o8 ab 42 258 4)),M,U,ac,O] 8 49 [3,4,7,6,6,0,5,5,4,3,2,0] 2))/\Le g (ag i)/\Le V (ag P)/\Le W (ag Z)/\ad=ad/\fW prog 42 aa/\(n8 H).length=H.length*258/\258=258/\IntKind.i64.wrap m=(k:Int)+1/\RoundTo prog n 5 q (St.mk B [T,E,G,(3,some (j9 [Leaf.o 8 aa] 26)),J,M,U,ac,(8,some (o8 ab 42 258 8))] 9 49 [3,8,7,6,6,0,5,5,4,3,2,0] 2)))) (wkK 5 K (Exit.exit 0) (St.mk [s,w,x,(5,SV.u),y,z,A,R] [D,E,G,I,J,(5,none),(6,none),N,O] 5 49 [4,3,2,0] 2))):z4 prog (gl 5 Tryz.f80) (hJ L d k) (wkK 5 K):=
 m5 [0,1,4,5,6,17,18,19] [0,1,2,3,4,5,6,7,8] (cx:=a1w L d k) rfl (u3 (by kernel_rfl) h)
theorem Nr (L:List EN) (d:Int) (hG:x7 L) (h0:0<=d) (hd:d<=900000000):∀(m k:Nat),L.length-k=m->k<=L.length->(∀j,j<k->D0 L l2 j=true)->∀(K:Exit->St->Prop),((∀j,j<L.length->D0 L l2 j=true)->K (.exit 0) (hJ L d L.length))->(∀j,j<L.length->(∀i,i<j->D0 L l2 i=true)->D0 L l2 j=false->K .ret (Jc L d j))->z4 prog (gl 5 Tryz.f80) (hJ L d k) (wkK 5 K)
 |0,k,hm,hk,hall,K,hK,hR=>by
  have e:k=L.length:=by omega
  subst e
  refine b8k L d _ K (HB.no (by omega) ?_)
  exact wkK.tk (hJ L d _) (by kernel_rfl) (d5 (l6.k (by kernel_rfl)) (d5 (l6.p (g9 _) (by kernel_rfl)) (d5 (l6.k (by kernel_rfl)) (d5 (l6.k (by kernel_rfl)) (d5 (l6.p (i9 _) (by kernel_rfl)) trivial))))) (hK hall)
 |m+1,k,hm,hk,hall,K,hK,hR=>by
  refine b8k L d k K (HB.yes (by omega) ?_)
  have hlt:k<L.length:=by omega
  have hlen:=hG.len
  have hbk0:=hG.2 k hlt
  have hbk:1<=(ea L k).blob.size/\(ea L k).blob.size<=1000000000000000:=by omega
  have hcb:=eQ L l2 k
  with_reducible repeat' first|exact trivial|apply And.intro|apply HB.mk|intro _|exact Le.refl _|rfl
  all_goals first|(with_reducible refine O7 _ L.length _ hbk.1 hbk.2 ?_ ?_ _ _ _ ?_ ?_ ?_)<;>omega|with_reducible exact C81 _ _ _|(exact ⟨by omega,by omega⟩)|rw[y6];omega|refine Le.of ?_;simp only[tn,Nat.zero_add,Nat.add_zero];rw[bG hlt]|(with_reducible first|exact Le.bool (bT _)|exact Le.of (congrArg (fun l=>SV.c (.agg l)) (sP _))|exact Le.of (congrArg (fun l=>SV.c (.agg l)) (t7 _)))|exact Le.of (congrArg (fun l=>SV.c (.agg l)) (bW _ _ _))|rw[C6];omega|with_reducible refine rV ?_;have:=cR L l2 k;have:=hG.len;omega|have hcnd:(!(l2 (ea L k).X (ea L k).Y))=true:=(by with_reducible assumption);(with_reducible refine RoundTo.tk 6 (hJ L d (k+1)) ?_ ?_ ?_);kernel_rfl;exact (d5 (l6.blk (k:=⟨[.o 1 L.length,li (d+(B6 L l2 k))],.t 125⟩) (by kernel_rfl) (by rw[(C5 hcnd).2.1]) (by kernel_rfl)) (d5 (l6.p (g9 _) (by kernel_rfl)) (d5 (l6.k (by kernel_rfl)) (d5 (l6.blk (k:=⟨[.o 4 (v7 L l2 k).length],.t 26⟩) (by kernel_rfl) (by rw[(C5 hcnd).1]) (by kernel_rfl)) (d5 (l6.plain (cs:=n8 (v7 L l2 k)) (b:=.r 42 258 4) (by kernel_rfl) (by rw[(C5 hcnd).1]) (i9 _) (by kernel_rfl)) trivial)))));exact (Nr L d hG h0 hd m (k+1) (by omega) (by omega) (fun j hj=>by rcases Nat.lt_or_ge j k with h|h;exact hall j h;have e:j=k:=(by omega);subst e;exact (by first|exact (C5 (by with_reducible assumption)).2.2|exact bM (by with_reducible assumption) (by with_reducible assumption))) K hK hR)|have hcnd:(!(l2 (ea L k).X (ea L k).Y))=false:=(by with_reducible assumption);(with_reducible refine RoundTo.tk 8 (hJ L d (k+1)) ?_ ?_ ?_);kernel_rfl;exact (d5 (l6.blk (k:=⟨[.o 1 L.length,li (d+(B6 L l2 k)+1)],.t 125⟩) (by kernel_rfl) (by rw[(R6 hcnd).2,Int.add_assoc]) (by kernel_rfl)) (d5 (l6.p (g9 _) (by kernel_rfl)) (d5 (l6.k (by kernel_rfl)) (d5 (l6.blk (k:=⟨[.o 4 ((v7 L l2 k).length+1)],.t 26⟩) (by kernel_rfl) (by rw[(E1 hcnd).2]) (by kernel_rfl)) (d5 (l6.plain (cs:=n8 (v7 L l2 k)++j4 A8 0 (el ⟨(ea L k).X,(ea L k).Y,C7 (ea L k)⟩)) (b:=.r 42 258 4) (by kernel_rfl) (by rw[L2,(E1 hcnd).1]) (i9 _) (by kernel_rfl)) trivial)))));exact (Nr L d hG h0 hd m (k+1) (by omega) (by omega) (fun j hj=>by rcases Nat.lt_or_ge j k with h|h;exact hall j h;have e:j=k:=(by omega);subst e;exact (by first|exact (C5 (by with_reducible assumption)).2.2|exact bM (by with_reducible assumption) (by with_reducible assumption))) K hK hR)|have hcnd:(!(l2 (ea L k).X (ea L k).Y))=false:=(by with_reducible assumption);(with_reducible refine RoundTo.rk 9 [(4,some 8)] (hJ L d (k+1)) ?_ ?_ ?_);kernel_rfl;exact (f5 (j:=0) rfl (v5.blk (k:=⟨[.o 1 L.length,li (d+(B6 L l2 k)+1)],.t 125⟩) (k'':=⟨[.o 1 L.length,li (d+(B6 L l2 k)+1)],.t 125⟩) (by kernel_rfl) (by kernel_rfl) (by rw[(R6 hcnd).2,Int.add_assoc])) (f5 (j:=1) rfl (v5.p (g9 _) (by kernel_rfl)) (f5 (j:=2) rfl (v5.k (by kernel_rfl)) (f5 (j:=3) rfl (v5.blk (k:=⟨[.o 8 ((v7 L l2 k).length+1)],.t 26⟩) (k'':=⟨[.o 4 ((v7 L l2 k).length+1)],.t 26⟩) (by kernel_rfl) (by kernel_rfl) (by rw[(E1 hcnd).2])) (f5 (j:=8) rfl (v5.plain (cs:=n8 (v7 L l2 k)++j4 A8 0 (el ⟨(ea L k).X,(ea L k).Y,C7 (ea L k)⟩)) (b:=.r 42 258 8) (by kernel_rfl) (by rw[L2,(E1 hcnd).1]) (i9 _) (by kernel_rfl)) trivial)))));exact (Nr L d hG h0 hd m (k+1) (by omega) (by omega) (fun j hj=>by rcases Nat.lt_or_ge j k with h|h;exact hall j h;have e:j=k:=(by omega);subst e;exact (by first|exact (C5 (by with_reducible assumption)).2.2|exact bM (by with_reducible assumption) (by with_reducible assumption))) K hK hR)|exact wkK.tk (Jc L d k) (by kernel_rfl) (d5 (l6.blk (k:=⟨[.o 1 L.length,li (d+(B6 L l2 k)+1)],.t 125⟩) (by kernel_rfl) (by rw[Int.add_assoc]) (by kernel_rfl)) (N0.k (by kernel_rfl))) (hR k hlt hall ((uW (by with_reducible assumption) (by with_reducible assumption))))|exact C2 _ (by omega) (by omega)|exact Le.of rfl
end Ab
end
section
namespace Ab
attribute [local irreducible] j8
def P4 (L:List EN) (w:Int->Int->Bool):Option Nat:=(List.range L.length).find? fun j=>!D0 L w j
def M9 (L:List EN) (w:Int->Int->Bool):Int:=match P4 L w with|some j=>E0 (ea L j)|none=>0
def A7 (L:List EN) (w:Int->Int->Bool):Int:=match P4 L w with|some j=>B6 L w j+1|none=>B6 L w L.length
theorem gA {L:List EN} {w:Int->Int->Bool} (h:∀j,j<L.length->D0 L w j=true):P4 L w=none:=by
 unfold P4
 rw[List.find?_eq_none]
 intro j hj
 rw[h j (List.mem_range.1 hj)];decide
theorem F6 {L:List EN} {w:Int->Int->Bool} {j:Nat} (hj:j<L.length) (hb:∀i,i<j->D0 L w i=true) (h:D0 L w j=false):P4 L w=some j:=
 dV _ _ _ hj (by rw[h];rfl) (fun i hi=>by rw[hb i hi];rfl)
theorem P6 {L:List EN} {w:Int->Int->Bool} {j:Nat} (h:P4 L w=some j):M9 L w=E0 (ea L j)/\A7 L w=B6 L w j+1:=by unfold M9 A7;rw[h];exact ⟨rfl,rfl⟩
theorem fU {L:List EN} {w:Int->Int->Bool} (h:P4 L w=none):M9 L w=0/\A7 L w=B6 L w L.length:=by unfold M9 A7;rw[h];exact ⟨rfl,rfl⟩
theorem xV {L:List EN} {w:Int->Int->Bool} (h:P4 L w=none):∀j,j<L.length->D0 L w j=true:=fun j hj=>by
 unfold P4 at h
 rw[List.find?_eq_none] at h
 have:=h j (List.mem_range.2 hj)
 simpa using this
def Nn (L:List EN) (d:Int):Cz:={
 ct:=fun _=>none
 lp:=fun r=>match r with|5=>some (fun _ K=>((∀j,j<L.length->D0 L l2 j=true)->K (.exit 0) (hJ L d L.length))/\(∀j,j<L.length->(∀i,i<j->D0 L l2 i=true)->D0 L l2 j=false->K .ret (Jc L d j)))|_=>none,wh:=[26,38,123]}
theorem b8j (L:List EN) (d:Int) (hG:x7 L) (h0:0<=d) (hd:d<=900000000) (hx:P4 L l2=none):f4 prog 80 [.c (.l (.p 0 0)),.c (.l (.f 81 []))] [(0,⟨[.o 1 L.length,li d],.t 125⟩),(1,⟨o4 L,.r 123 8 1⟩)] 2 (.tup [.agg [.o 2 (v7 L l2 L.length).length],.l (li 0)]) [(0,⟨[.o 1 L.length,li (d+B6 L l2 L.length)],.t 125⟩),(2,⟨n8 (v7 L l2 L.length),.r 42 258 2⟩)] 1:=by
 refine E3 (q:=let a:=[Leaf.v (Value.slice none 0 0)];let b:=(∀(j:Nat),j<L.length->D0 L l2 j=true);let e:=v7 L l2 L.length;let g:=(SV.tup [Cp.agg [Leaf.o 2 e.length],Cp.l (li 0)]);let h:=x8 2 0 [4];let k:=(j9 [Leaf.o 1 L.length,li (d+B6 L l2 L.length)] 125);(l3 prog (gl 5 Tryz.f80) (St.mk [(19,i8 0),(18,i8 (L.length:Int)),(17,l4 (Leaf.o 1 L.length)),(16,j7 0 0),(15,j7 0 0),(14,j7 0 0),(6,j7 3 0),(12,bv false),(11,j7 0 0),(5,i8 0),(4,j7 2 0),(0,j7 0 0),(1,l4 (Leaf.f 81 []))] [(3,some (j9 a 26)),(2,some (j9 a 26)),(0,some (j9 [Leaf.o 1 L.length,li d] 125)),(1,some (o8 (o4 L) 123 8 1))] 4 49 [3,2] 2) fun K=>(b->K (Exit.exit 0) (hJ L d L.length))/\∀(j:Nat),j<L.length->(∀(i:Nat),i<j->D0 L l2 i=true)->D0 L l2 j=false->K Exit.ret (Jc L d j))/\(b->0=0/\1=1/\Le g g/\A5 h k k/\A5 h (o8 (n8 e) 42 258 4) (o8 (n8 e) 42 258 2)/\True)/\∀(j:Nat),j<L.length->(∀(i:Nat),i<j->D0 L l2 i=true)->D0 L l2 j=false->Le (SV.tup [Cp.agg a,Cp.l (li (E0 (ea L j)))]) g/\A5 h (j9 [Leaf.o 1 L.length,li (d+(B6 L l2 j+1))] 125) k/\False) (Nn L d) [4] func80 (D9 (g9 L) (by kernel_rfl)) (by kernel_rfl) ?_
 with_reducible repeat' first|exact trivial|apply And.intro|apply HB.mk|intro _|exact Le.refl _|rfl
 all_goals first|exact l3.rk [(4,none)] (hJ L d 0) (by kernel_rfl) (f5 (j:=0) rfl (v5.blk (k:=⟨[.o 1 L.length,li d],.t 125⟩) (k'':=⟨[.o 1 L.length,li d],.t 125⟩) (by kernel_rfl) (by kernel_rfl) (by rw[show B6 L l2 0=0 from rfl,Int.add_zero])) (f5 (j:=1) rfl (v5.p (g9 _) (by kernel_rfl)) (f5 (j:=2) rfl (v5.k (by kernel_rfl)) (f5 (j:=3) rfl (v5.lsB (xs:=[.v (.slice none 0 0)]) (by kernel_rfl) (aY.cons (by show gT _ 5 _ (.o 4 (v7 L l2 0).length);exact gT.nil (show 4<5 by decide) rfl) aY.nil)) (G0.k (by kernel_rfl)))))) (fun K hT=>Nr L d hG h0 hd _ 0 rfl (Nat.zero_le _) (fun j hj=>absurd hj (Nat.not_lt_zero j)) K hT.1 hT.2)|exact absurd (hx.symm.trans (F6 (by with_reducible assumption) (by with_reducible assumption) (by with_reducible assumption))) (by simp)|exact A5.plain rfl (i9 _) (by kernel_rfl)|exact A5.of (by kernel_rfl)
def Lt (L:List EN) (d:Int):Cz:={
 ct:=fun _=>none
 lp:=fun r=>match r with|5=>some (fun _ K=>((∀j,j<L.length->D0 L l2 j=true)->K (.exit 0) (hJ L d L.length))/\(∀j,j<L.length->(∀i,i<j->D0 L l2 i=true)->D0 L l2 j=false->K .ret (Jc L d j)))|_=>none,wh:=[26,38,123]}
theorem c0s (L:List EN) (d:Int) (hG:x7 L) (h0:0<=d) (hd:d<=900000000) (hx:P4 L l2≠none):f4 prog 80 [.c (.l (.p 0 0)),.c (.l (.f 81 []))] [(0,⟨[.o 1 L.length,li d],.t 125⟩),(1,⟨o4 L,.r 123 8 1⟩)] 2 (.tup [.agg [.v (.slice none 0 0)],.l (li (M9 L l2))]) [(0,⟨[.o 1 L.length,li (d+A7 L l2)],.t 125⟩)] 0:=by
 refine E3 (q:=let a:=[Leaf.v (Value.slice none 0 0)];let b:=(∀(j:Nat),j<L.length->D0 L l2 j=true);(l3 prog (gl 5 Tryz.f80) (St.mk [(19,i8 0),(18,i8 (L.length:Int)),(17,l4 (Leaf.o 1 L.length)),(16,j7 0 0),(15,j7 0 0),(14,j7 0 0),(6,j7 3 0),(12,bv false),(11,j7 0 0),(5,i8 0),(4,j7 2 0),(0,j7 0 0),(1,l4 (Leaf.f 81 []))] [(3,some (j9 a 26)),(2,some (j9 a 26)),(0,some (j9 [Leaf.o 1 L.length,li d] 125)),(1,some (o8 (o4 L) 123 8 1))] 4 49 [3,2] 2) fun K=>(b->K (Exit.exit 0) (hJ L d L.length))/\∀(j:Nat),j<L.length->(∀(i:Nat),i<j->D0 L l2 i=true)->D0 L l2 j=false->K Exit.ret (Jc L d j))/\(b->0=0/\1=1/\False)/\∀(j:Nat),j<L.length->(∀(i:Nat),i<j->D0 L l2 i=true)->D0 L l2 j=false->Le (SV.tup [Cp.agg a,Cp.l (li (E0 (ea L j)))]) (SV.tup [Cp.agg a,Cp.l (li (M9 L l2))])/\A5 (x8 2 0 []) (j9 [Leaf.o 1 L.length,li (d+(B6 L l2 j+1))] 125) (j9 [Leaf.o 1 L.length,li (d+A7 L l2)] 125)/\True) (Lt L d) [] func80 (D9 (g9 L) (by kernel_rfl)) (by kernel_rfl) ?_
 with_reducible repeat' first|exact trivial|apply And.intro|apply HB.mk|intro _|rfl
 all_goals first|exact l3.rk [(4,none)] (hJ L d 0) (by kernel_rfl) (f5 (j:=0) rfl (v5.blk (k:=⟨[.o 1 L.length,li d],.t 125⟩) (k'':=⟨[.o 1 L.length,li d],.t 125⟩) (by kernel_rfl) (by kernel_rfl) (by rw[show B6 L l2 0=0 from rfl,Int.add_zero])) (f5 (j:=1) rfl (v5.p (g9 _) (by kernel_rfl)) (f5 (j:=2) rfl (v5.k (by kernel_rfl)) (f5 (j:=3) rfl (v5.lsB (xs:=[.v (.slice none 0 0)]) (by kernel_rfl) (aY.cons (by show gT _ 5 _ (.o 4 (v7 L l2 0).length);exact gT.nil (show 4<5 by decide) rfl) aY.nil)) (G0.k (by kernel_rfl)))))) (fun K hT=>Nr L d hG h0 hd _ 0 rfl (Nat.zero_le _) (fun j hj=>absurd hj (Nat.not_lt_zero j)) K hT.1 hT.2)|exact absurd (gA (by with_reducible assumption)) hx|refine Le.of ?_;rw[(P6 (F6 (by with_reducible assumption) (by with_reducible assumption) (by with_reducible assumption))).1];done|rw[(P6 (F6 (by with_reducible assumption) (by with_reducible assumption) (by with_reducible assumption))).2];exact A5.of (by kernel_rfl)
theorem a0m (L:List EN) (d:Int) (hG:x7 L) (h0:0<=d) (hd:d<=900000000) (hx:P4 L l2=none) (n:Nat) (hn:2<=n):f4 prog 80 [.c (.l (.p 0 0)),.c (.l (.f 81 []))] [(0,⟨[.o 1 L.length,li d],.t 125⟩),(1,⟨o4 L,.r 123 8 1⟩)] n (.tup [.agg [.o n (v7 L l2 L.length).length],.l (li 0)]) [(0,⟨[.o 1 L.length,li (d+B6 L l2 L.length)],.t 125⟩),(n,⟨n8 (v7 L l2 L.length),.r 42 258 n⟩)] 1:=by
 have key:=j8.at2 (b8j L d hG h0 hd hx) 0 1 n (by omega) (by omega) (by decide)
 simp only[List.map_cons,List.map_nil,n6.ren,SV.ren,Cp.ren,Leaf.ren,BT.ren,j5 (g9 _),j5 (i9 _)] at key
 exact key
theorem a1m (L:List EN) (d:Int) (hG:x7 L) (h0:0<=d) (hd:d<=900000000) (hx:P4 L l2≠none) (n:Nat) (hn:2<=n):f4 prog 80 [.c (.l (.p 0 0)),.c (.l (.f 81 []))] [(0,⟨[.o 1 L.length,li d],.t 125⟩),(1,⟨o4 L,.r 123 8 1⟩)] n (.tup [.agg [.v (.slice none 0 0)],.l (li (M9 L l2))]) [(0,⟨[.o 1 L.length,li (d+A7 L l2)],.t 125⟩)] 0:=by
 have key:=j8.at2 (c0s L d hG h0 hd hx) 0 1 n (by omega) (by omega) (by decide)
 simp only[List.map_cons,List.map_nil,n6.ren,SV.ren,Cp.ren,Leaf.ren,BT.ren,j5 (g9 _)] at key
 exact key
def Ug (L:List EN) (d:Int):Cz:={
 ct:=(fun f=>match f with
 |80=>some fun _ _S=>fun | [.c (.l (.p i _)),_]=>some {v:=.tup [.agg [.o _S.n (v7 L l2 L.length).length],.l (li 0)],rd:=[0,1],wr:=[(0,⟨[.o 1 L.length,li (d+B6 L l2 L.length)],.t 125⟩),(_S.n,⟨n8 (v7 L l2 L.length),.r 42 258 _S.n⟩)],nw:=1}|_=>none
 |_=>none)
 wh:=[26]}
theorem c8b (L:List EN) (d:Int) (hG:x7 L) (h0:0<=d) (hd:d<=900000000) (hx:P4 L l2=none):f4 prog 23 [.c (.l (.p 0 0))] [(0,⟨[.o 1 L.length,li d],.t 125⟩),(1,⟨o4 L,.r 123 8 1⟩)] 2 (.tup [.agg [.o 2 (v7 L l2 L.length).length],.l (li 0)]) [(0,⟨[.o 1 L.length,li (d+B6 L l2 L.length)],.t 125⟩),(2,⟨n8 (v7 L l2 L.length),.r 42 258 2⟩)] 1:=by
 refine E3 (q:=let a:=v7 L l2 L.length;let b:=[Leaf.o 1 L.length,li (d+B6 L l2 L.length)];let e:=(SV.tup [Cp.agg [Leaf.o 2 a.length],Cp.l (li 0)]);Kd 80 [] [j7 0 0,l4 (Leaf.f 81 [])] [(0,j9 [Leaf.o 1 L.length,li d] 125),(1,o8 (o4 L) 123 8 1)] 3 (SV.tup [Cp.agg [Leaf.o 3 a.length],Cp.l (li 0)]) [(0,j9 b 125),(3,o8 (n8 a) 42 258 3)] 1/\0=0/\1=1/\Le e e/\A5 (x8 2 0 [3]) (j9 b 125) (j9 b 125)/\A5 (x8 2 0 [3]) (o8 (n8 a) 42 258 3) (o8 (n8 a) 42 258 2)/\True) (Ug L d) [3] func23 (D9 (g9 L) (by kernel_rfl)) (by kernel_rfl) ?_
 with_reducible repeat' first|exact trivial|apply And.intro|apply HB.mk|intro _
 all_goals first|(with_reducible first|exact Le.refl _|rfl|exact a0m L d hG h0 hd hx _ (by omega))|exact A5.plain rfl (i9 _) (by kernel_rfl)|exact A5.of (by kernel_rfl)
def a4a (L:List EN) (d:Int):Cz:={
 ct:=(fun f=>match f with
 |80=>some fun _ _=>fun | [.c (.l (.p i _)),_]=>some {v:=.tup [.agg [.v (.slice none 0 0)],.l (li (M9 L l2))],rd:=[0,1],wr:=[(0,⟨[.o 1 L.length,li (d+A7 L l2)],.t 125⟩)]}|_=>none
 |_=>none)
 wh:=[26]}
theorem c9z (L:List EN) (d:Int) (hG:x7 L) (h0:0<=d) (hd:d<=900000000) (hx:P4 L l2≠none):f4 prog 23 [.c (.l (.p 0 0))] [(0,⟨[.o 1 L.length,li d],.t 125⟩),(1,⟨o4 L,.r 123 8 1⟩)] 2 (.tup [.agg [.v (.slice none 0 0)],.l (li (M9 L l2))]) [(0,⟨[.o 1 L.length,li (d+A7 L l2)],.t 125⟩)] 0:=by
 refine E3 (q:=let a:=(SV.tup [Cp.agg [Leaf.v (Value.slice none 0 0)],Cp.l (li (M9 L l2))]);let b:=[Leaf.o 1 L.length,li (d+A7 L l2)];Kd 80 [] [j7 0 0,l4 (Leaf.f 81 [])] [(0,j9 [Leaf.o 1 L.length,li d] 125),(1,o8 (o4 L) 123 8 1)] 3 a [(0,j9 b 125)] 0/\0=0/\1=1/\Le a a/\A5 (x8 2 0 []) (j9 b 125) (j9 b 125)/\True) (a4a L d) [] func23 (D9 (g9 L) (by kernel_rfl)) (by kernel_rfl) ?_
 with_reducible repeat' first|exact trivial|apply And.intro|apply HB.mk|intro _
 all_goals first|(with_reducible first|exact Le.refl _|rfl|exact a1m L d hG h0 hd hx _ (by omega))|exact A5.of (by kernel_rfl)
theorem a7n (L:List EN) (d:Int) (hG:x7 L) (h0:0<=d) (hd:d<=900000000) (hx:P4 L l2=none) (id i n:Nat) (h1:id<n) (h2:i<n) (h3:id≠i):f4 prog 23 [.c (.l (.p id 0))] [(id,⟨[.o i L.length,li d],.t 125⟩),(i,⟨o4 L,.r 123 8 i⟩)] n (.tup [.agg [.o n (v7 L l2 L.length).length],.l (li 0)]) [(id,⟨[.o i L.length,li (d+B6 L l2 L.length)],.t 125⟩),(n,⟨n8 (v7 L l2 L.length),.r 42 258 n⟩)] 1:=by
 have key:=j8.at2 (c8b L d hG h0 hd hx) id i n h1 h2 h3
 simp only[List.map_cons,List.map_nil,n6.ren,SV.ren,Cp.ren,Leaf.ren,BT.ren,j5 (g9 _),j5 (i9 _)] at key
 exact key
theorem a3d (L:List EN) (d:Int) (hG:x7 L) (h0:0<=d) (hd:d<=900000000) (hx:P4 L l2≠none) (id i n:Nat) (h1:id<n) (h2:i<n) (h3:id≠i):f4 prog 23 [.c (.l (.p id 0))] [(id,⟨[.o i L.length,li d],.t 125⟩),(i,⟨o4 L,.r 123 8 i⟩)] n (.tup [.agg [.v (.slice none 0 0)],.l (li (M9 L l2))]) [(id,⟨[.o i L.length,li (d+A7 L l2)],.t 125⟩)] 0:=by
 have key:=j8.at2 (c9z L d hG h0 hd hx) id i n h1 h2 h3
 simp only[List.map_cons,List.map_nil,n6.ren,SV.ren,Cp.ren,Leaf.ren,BT.ren,j5 (g9 _)] at key
 exact key
end Ab
end
section
namespace Ab
attribute [local irreducible] j8
theorem b2r {l:List TA} {k:Nat} (h:k<l.length):List.take 256 (List.drop (k*258+2) (n8 l))=tl (r8 l k).t:=by
 obtain ⟨m,hm⟩:=gG l k h
 rw[<-List.drop_drop,hm]
 show List.take 256 (tl (r8 l k).t++m)=_
 rw[List.take_append_of_le_length (by rw[B8];exact Nat.le_refl _),t7]
end Ab
end
section
namespace Ab
attribute [local irreducible] j8
def a3s:Cz:={
  ct:=fun _=>none
   }
theorem c7x (a b:Int) (h0:0<=a) (h1:a<=1000000000) (b0:0<b) (b1:b<=1000000000) (n:Nat):f4 prog 130 [iv .i64 a,iv .i64 b] [] n (iv .i64 (S6 a b)) [] 0:=by
 refine v6 (q:=let c:=2*a+b;let d:=c.tdiv (2*b);IntKind.i64.wrap (2*a)=2*a/\IntKind.i64.wrap c=2*a+b/\IntKind.i64.wrap (2*b)=2*b/\2*b≠0/\IntKind.i64.wrap d=c.tdiv (2*b)/\Le (i8 d) (i8 (S6 a b))/\True) (a3s) func130 n (by kernel_rfl) (by kernel_rfl) ?_
 with_reducible repeat' first|exact trivial|apply And.intro|apply HB.mk|intro _
 all_goals first|have:=Rv h0 h1 b0 b1;unfold S6 at this;exact C2 _ (by omega) (by omega)|omega|exact Le.of rfl
def a9d (a b d e:Int):Cz:={
 ct:=fun _=>none
 nf:=[(8,bv false),(10,iv .i64 1),(13,iv .i64 e),(15,iv .i64 e),(42,iv .i64 a),(55,iv .i64 b),(68,iv .i64 d)]}
theorem C67 (s0 s1 s2 s3 c:Int) (a b d e:Int) (h0:0<=s0/\s0<=1000000000) (h1:0<=s1/\s1<=1000000000) (h2:0<=s2/\s2<=1000000000) (h3:0<=s3/\s3<=1000000000) (h4:0<=c/\c<=1000000000) (ha:0<=a/\a<256) (hb:0<=b/\b<256) (hd:0<=d/\d<256) (he:0<=e/\e<256):f4 prog 67 [.c (.l (.p 0 0)),ag [u8 a,u8 b,u8 d,u8 e],iv .i64 1] [(0,⟨[li s3,li s0,li s1,li s2,li c],.t 130⟩)] 1 (.tup []) [(0,⟨[li (s3+e),li (s0+e*a),li (s1+e*b),li (s2+e*d),li (c+1)],.t 130⟩)] 0:=by
 have pa:=dY he ha
 have pb:=dY he hb
 have pd:=dY he hd
 have wa:=u8w ha
 have wb:=u8w hb
 have wd:=u8w hd
 have we:=u8w he
 refine E3 (q:=let f:=(j9 [li (s3+e),li (s0+e*a),li (s1+e*b),li (s2+e*d),li (c+1)] 130);Le (bv (decide (1<1))) (bv false)/\Le (i8 (E7 1 65536)) (i8 1)/\Le (i8 (IntKind.i64.wrap e)) (i8 e)/\IntKind.i64.wrap (e*1)=e*1/\Le (i8 (e*1)) (i8 e)/\IntKind.i64.wrap (c+1)=c+1/\IntKind.i64.wrap (s3+e)=s3+e/\Le (i8 (IntKind.i64.wrap a)) (i8 a)/\IntKind.i64.wrap (e*a)=e*a/\IntKind.i64.wrap (s0+e*a)=s0+e*a/\Le (i8 (IntKind.i64.wrap b)) (i8 b)/\IntKind.i64.wrap (e*b)=e*b/\IntKind.i64.wrap (s1+e*b)=s1+e*b/\Le (i8 (IntKind.i64.wrap d)) (i8 d)/\IntKind.i64.wrap (e*d)=e*d/\IntKind.i64.wrap (s2+e*d)=s2+e*d/\Le (SV.tup []) (SV.tup [])/\A5 (x8 1 0 []) f f/\True) (a9d a b d e) [] func67 (by kernel_rfl) (by kernel_rfl) ?_
 with_reducible repeat' first|exact trivial|apply And.intro|apply HB.mk|intro _
 all_goals first|(with_reducible first|exact Le.refl _|exact Le.int wa|exact Le.int wb|exact Le.int wd|exact Le.int we|exact Le.int (Int.mul_one _))|exact Le.bool rfl|exact Le.int rfl|rw[Int.mul_one];exact C2 _ (by omega) (by omega)|exact A5.of (by kernel_rfl)|exact C2 _ (by omega) (by omega)
theorem d2c (s0 s1 s2 s3 c:Int) (a b d e:Int) (h0:0<=s0/\s0<=1000000000) (h1:0<=s1/\s1<=1000000000) (h2:0<=s2/\s2<=1000000000) (h3:0<=s3/\s3<=1000000000) (h4:0<=c/\c<=1000000000) (ha:0<=a/\a<256) (hb:0<=b/\b<256) (hd:0<=d/\d<256) (he:0<=e/\e<256) (id n:Nat) (hi:id<n):f4 prog 67 [.c (.l (.p id 0)),ag [u8 a,u8 b,u8 d,u8 e],iv .i64 1] [(id,⟨[li s3,li s0,li s1,li s2,li c],.t 130⟩)] n (.tup []) [(id,⟨[li (s3+e),li (s0+e*a),li (s1+e*b),li (s2+e*d),li (c+1)],.t 130⟩)] 0:=
 f4.at1 (C67 s0 s1 s2 s3 c a b d e h0 h1 h2 h3 h4 ha hb hd he) id n hi
def b0w:Cz:={
 ct:=(fun f=>match f with
 |130=>some fun _ _=>fun | [.c (.l (.v (.int _ a))),.c (.l (.v (.int _ b)))]=>some {v:=iv .i64 (S6 a b)}|_=>none
 |_=>none)
 nf:=[(8,bv false)],wh:=[36]}
theorem C68 (s0 s1 s2 s3:Int) (h0:0<=s0/\s0<=10000000) (h1:0<=s1/\s1<=10000000) (h2:0<=s2/\s2<=10000000) (h3:0<=s3/\s3<=10000000):f4 prog 68 [.c (.l (.p 0 0))] [(0,⟨[li s3,li s0,li s1,li s2,li 64],.t 130⟩)] 1 (ag [u8 (X1 s0 s3),u8 (X1 s1 s3),u8 (X1 s2 s3),u8 (sO s3)]) [] 0:=by
 have hpos:=El (s:=s3) h3.1
 refine E3 (q:=let a:=(ag [l8 (X1 s0 s3),l8 (X1 s1 s3),l8 (X1 s2 s3),l8 (sO s3)]);Le (bv false) (bv false)/\Kd 130 [] [i8 s3,i8 64] [] 2 (i8 (S6 s3 64)) [] 0/\HB (S6 s3 64==0) (0=0/\4=4/\Le (ag [l8 0,l8 0,l8 0,l8 0]) a/\True) (Kd 130 [] [i8 s0,i8 s3] [] 2 (i8 (S6 s0 s3)) [] 0/\Kd 130 [] [i8 s1,i8 s3] [] 2 (i8 (S6 s1 s3)) [] 0/\Kd 130 [] [i8 s2,i8 s3] [] 2 (i8 (S6 s2 s3)) [] 0/\0=0/\4=4/\Le (ag [l8 (IntKind.u8.wrap (S6 s0 s3)),l8 (IntKind.u8.wrap (S6 s1 s3)),l8 (IntKind.u8.wrap (S6 s2 s3)),l8 (IntKind.u8.wrap (S6 s3 64))]) a/\True)) (b0w) [] func68 (by kernel_rfl) (by kernel_rfl) ?_
 with_reducible repeat' first|exact trivial|apply And.intro|apply HB.mk|intro _|rfl
 all_goals first|((with_reducible refine c7x _ _ ?_ ?_ ?_ ?_ _)<;>first|omega|exact hpos (by with_reducible assumption))|exact Le.bool rfl|refine Le.of ?_;unfold X1 sO;rw[((by with_reducible assumption):(S6 s3 64==0)=true)];rfl|refine Le.of ?_;unfold X1 sO;rw[((by with_reducible assumption):(S6 s3 64==0)=false)];rfl
theorem d1w (s0 s1 s2 s3:Int) (h0:0<=s0/\s0<=10000000) (h1:0<=s1/\s1<=10000000) (h2:0<=s2/\s2<=10000000) (h3:0<=s3/\s3<=10000000) (id n:Nat) (hi:id<n):f4 prog 68 [.c (.l (.p id 0))] [(id,⟨[li s3,li s0,li s1,li s2,li 64],.t 130⟩)] n (ag [u8 (X1 s0 s3),u8 (X1 s1 s3),u8 (X1 s2 s3),u8 (sO s3)]) [] 0:=
 f4.at1 (C68 s0 s1 s2 s3 h0 h1 h2 h3) id n hi
def I17 (t:Nat->UInt8) (k:Nat):St:=⟨[(4,iv .i64 (k:Nat)),(3,.c (.l (.p 2 0))),(2,.c (.l (.p 1 0))),(1,.c (.l (.p 0 0)))],[(0,some ⟨tl t,.t 38⟩),(1,some ⟨[u8 0,u8 0,u8 0,u8 0],.t 36⟩),(2,some ⟨[li (mS t 3 k),li (mS t 0 k),li (mS t 1 k),li (mS t 2 k),li (k:Nat)],.t 130⟩)],3,18,[2,1,0],(0)⟩
def W67 (S:St) (i:Nat) (a b d e:Int):n6:=match S.blk i with|some ⟨[.v (.int _ s3),.v (.int _ s0),.v (.int _ s1),.v (.int _ s2),.v (.int _ c)],_⟩=>⟨[li (s3+e),li (s0+e*a),li (s1+e*b),li (s2+e*d),li (c+1)],.t 130⟩|_=>⟨[],.t 0⟩
def V68 (S:St) (i:Nat):SV:=match S.blk i with|some ⟨[.v (.int _ s3),.v (.int _ s0),.v (.int _ s1),.v (.int _ s2),_],_⟩=>ag [u8 (X1 s0 s3),u8 (X1 s1 s3),u8 (X1 s2 s3),u8 (sO s3)]|_=>.u
theorem mS3 (t:Nat->UInt8) (k:Nat):mS t 3 k+((t (4*k+3)).toNat:Nat)=mS t 3 (k+1):=by
 rw[mS];show _=mS t 3 k+_*1;rw[Int.mul_one]
theorem a3e (t:Nat->UInt8) {k:Nat} (h:k<64):List.take 4 (List.drop (0+((k:Nat):Int).toNat*4) (tl t))=[ub (t (4*k)),ub (t (4*k+1)),ub (t (4*k+2)),ub (t (4*k+3))]:=by
 rw[show 0+((k:Nat):Int).toNat*4=k*4 by omega,cE _ h];rfl
def c2u:Rw:=some fun _ _S=>fun | [.c (.l (.p i _)),.c (.agg [.v (.int _ a),.v (.int _ b),.v (.int _ d),.v (.int _ e)]),.c (.l (.v (.int _ 1)))]=>some {v:=.tup [],rd:=[i],wr:=[(i,W67 _S i a b d e)]}|_=>none
def b9i:Rw:=some fun _ _S=>fun | [.c (.l (.p i _))]=>some {v:=V68 _S i,rd:=[i]}|_=>none
def b3f (t:Nat->UInt8) (k:Nat):Cz:={
 ct:=(fun f=>match f with
 |67=>c2u
 |68=>b9i
 |_=>none)
 sym:=[13,14],nf:=[(14,.c (.agg [ub (t (4*k)),ub (t (4*k+1)),ub (t (4*k+2)),ub (t (4*k+3))]))]}
theorem R17 (t:Nat->UInt8) (k:Nat)  (K:Exit->St->Prop) (h:let a:=((k:Int));let b:=(Nat.cast ((t (4*k)).toNat):Int);let d:=(Nat.cast ((t (4*k+1)).toNat):Int);let e:=(Nat.cast ((t (4*k+2)).toNat):Int);let f:=(Nat.cast ((t (4*k+3)).toNat):Int);let g:=[l8 b,l8 d,l8 e,l8 f];let i:=[li (mS t 3 k),li (mS t 0 k),li (mS t 1 k),li (mS t 2 k),li (k:Int)];let j:=((k:Int)+1);let m:=[li (mS t 3 k+f),li (mS t 0 k+f*b),li (mS t 1 k+f*d),li (mS t 2 k+f*e),li j];let n:=(0,some (j9 (tl t) 38));let o:=(1,some (j9 [l8 0,l8 0,l8 0,l8 0] 36));HB (decide ((k:Int)<64)) (t0 a 64/\0+a.toNat*4+4<=256/\Le (ag (List.take 4 (List.drop (0+a.toNat*4) (tl t)))) (ag g)/\Kd 67 [] [j7 2 0,ag g,i8 1] [(2,j9 i 130)] 3 (SV.tup []) [(2,j9 m 130)] 0/\IntKind.i64.wrap j=(k:Int)+1/\RoundTo prog (gl 3 Tryz.f17) 3 (wkK 3 K) (St.mk [(1,j7 0 0),(2,j7 1 0),(3,j7 2 0),(4,i8 j)] [n,o,(2,some (j9 m 130))] 3 18 [2,2,1,0] 0)) (wkK 3 K (Exit.exit 0) (St.mk [(1,j7 0 0),(2,j7 1 0),(3,j7 2 0),(4,i8 (k:Int))] [n,o,(2,some (j9 i 130))] 3 18 [2,1,0] 0))):z4 prog (gl 3 Tryz.f17) (I17 t k) (wkK 3 K):=
 m5 [1,2,3,4] [0,1,2] (cx:=b3f t k) rfl (u3 (by kernel_rfl) h)
theorem L17 (t:Nat->UInt8)  : ∀(m k:Nat),64-k=m->k<=64->∀(K:Exit->St->Prop),K (.exit 0) (I17 t 64)->z4 prog (gl 3 Tryz.f17) (I17 t k) (wkK 3 K)
 |0,k,hm,hk,K,hK=>by
  have e:k=64:=by omega
  subst e
  refine R17 t _ K (HB.no (by omega) ?_)
  exact wkK.tk (I17 t _) (by kernel_rfl) (d5 (l6.p (j3 t) (by kernel_rfl)) (N0.k (by kernel_rfl))) hK
 |m+1,k,hm,hk,K,hK=>by
  refine R17 t k K (HB.yes (by omega) ?_)
  have hlt:k<64:=by omega
  with_reducible repeat' first|exact trivial|apply And.intro|apply HB.mk|intro _
  all_goals first|((with_reducible refine d2c _ _ _ _ _ _ _ _ _ ?_ ?_ ?_ ?_ ?_ ?_ ?_ ?_ ?_ _ _ ?_)<;>first|exact okb _|exact a4p t _ (Nat.le_of_lt hlt)|omega)|(exact ⟨by omega,by omega⟩)|exact Le.of (congrArg (fun l=>SV.c (.agg l)) (a3e t hlt))|omega|(with_reducible refine RoundTo.tk 3 (I17 t (k+1)) ?_ ?_ ?_);kernel_rfl;exact (d5 (l6.p (j3 t) (by kernel_rfl)) (d5 (l6.k (by kernel_rfl)) (d5 (l6.blk (k:=⟨[li (mS t 3 k+((t (4*k+3)).toNat:Nat)),li (mS t 0 k+((t (4*k+3)).toNat:Nat)*((t (4*k)).toNat:Nat)),li (mS t 1 k+((t (4*k+3)).toNat:Nat)*((t (4*k+1)).toNat:Nat)),li (mS t 2 k+((t (4*k+3)).toNat:Nat)*((t (4*k+2)).toNat:Nat)),li (((k:Nat):Int)+1)],.t 130⟩) (by kernel_rfl) (by rw[mS3];rfl) (by kernel_rfl)) trivial)));exact (L17 t  m (k+1) (by omega) (by omega) K hK)|exact C2 _ (by omega) (by omega)
def b0n (t:Nat->UInt8):Cz:={
 ct:=(fun f=>match f with
 |67=>c2u
 |68=>b9i
 |_=>none)
 lp:=fun r=>match r with|3=>some (fun _ K=>K (.exit 0) (I17 t 64))|_=>none,wh:=[36]}
theorem C17 (t:Nat->UInt8)  (n:Nat):f4 prog 17 [.c (.agg (tl t))] [] n (ag (bZ t)) [] 0:=by
 refine v6 (q:=let a:=[li 0,li 0,li 0,li 0,li 0];let b:=mS t 3 64;let d:=(ag [l8 (X1 (mS t 0 64) b),l8 (X1 (mS t 1 64) b),l8 (X1 (mS t 2 64) b),l8 (sO b)]);(l3 prog (gl 3 Tryz.f17) (St.mk [(4,i8 0),(3,j7 2 0),(6,j7 2 0),(5,ag a),(2,j7 1 0),(1,j7 0 0),(0,ag (tl t))] [(2,some (j9 a 130)),(1,some (j9 [l8 0,l8 0,l8 0,l8 0] 36)),(0,some (j9 (tl t) 38))] 3 18 [2,1,0] 0) fun K=>K (Exit.exit 0) (I17 t 64))/\Kd 68 [] [j7 2 0] [(2,j9 [li b,li (mS t 0 64),li (mS t 1 64),li (mS t 2 64),li (Nat.cast 64:Int)] 130)] 3 d [] 0/\0=0/\4=4/\Le d d/\True) (b0n t) func17 n (by kernel_rfl) (by kernel_rfl) ?_
 with_reducible repeat' first|exact trivial|apply And.intro|apply HB.mk|intro _|exact Le.refl _|rfl
 all_goals first|exact l3.tk (I17 t 0) (by kernel_rfl) (d5 (l6.p (j3 t) (by kernel_rfl)) (N0.k (by kernel_rfl))) (fun K hT=>L17 t  _ 0 rfl (by first|decide|omega) K hT)|(((refine d1w _ _ _ _ ?_ ?_ ?_ ?_ _ _ ?_))<;>first|exact c1b t _ (Nat.le_refl _)|decide)
end Ab
end
section
namespace Ab
attribute [local irreducible] j8
def eY (x y:Int):Bool:=bif bif bif decide (x>=0) then decide (x<8) else false then decide (y>=0) else false then decide (y<8) else false
structure GoodX (L:List EN):Prop where
 x:∀k,k<L.length->-8192<=(ea L k).X/\(ea L k).X<=8191
 y:∀k,k<L.length->-8192<=(ea L k).Y/\(ea L k).Y<=8191
def vP (L:List EN) (px py:Int) (k:Nat):Bool:=eY ((ea L k).X-8*px) ((ea L k).Y-8*py)
def Yh (L:List EN) (px py:Int) (k:Nat):Nat:=(8*((ea L k).Y-8*py)+((ea L k).X-8*px)).toNat
def X8 (L:List EN) (px py:Int):Nat->Nat->UInt8
 |0=>zT
 |k+1=>bif vP L px py k then U2 (X8 L px py k) (Yh L px py k) (ea L k).a (ea L k).b (ea L k).c (ea L k).d else X8 L px py k
def I16 (L:List EN) (px py:Int) (k:Nat):St:=⟨[(19,iv .i64 (k:Nat)),(18,iv .i64 (L.length:Nat)),(17,.c (.l (.o 1 L.length))),(3,.c (.l (.p 2 0))),(4,.c (.l (.p 3 0))),(6,.c (.l (.p 4 0)))],[(1,some ⟨o4 L,.r 123 8 1⟩),(2,some ⟨[li px,li py],.t 40⟩),(3,some ⟨tl zT,.t 38⟩),(4,some ⟨tl (X8 L px py k),.t 38⟩)],5,60,[4,3,2],(2)⟩
theorem tG {x y:Int} (h:eY x y=true):0<=x/\x<8/\0<=y/\y<8:=by
 unfold eY at h
 by_cases h1:x>=0
 ·by_cases h2:x<8
  ·by_cases h3:y>=0
   ·by_cases h4:y<8
    ·exact ⟨h1,h2,h3,h4⟩
    ·simp[h1,h2,h3,h4] at h
   ·simp[h1,h2,h3] at h
  ·simp[h1,h2] at h
 ·simp[h1] at h
theorem Uq {x y:Int} (h:0<=x/\x<8/\0<=y/\y<8):eY x y=true:=by
 unfold eY
 rw[decide_eq_true h.1,decide_eq_true h.2.1,decide_eq_true h.2.2.1,decide_eq_true h.2.2.2];rfl
theorem c7m {L:List EN} {px py:Int} {k:Nat} (h:vP L px py k=true):tl (U2 (X8 L px py k) (Yh L px py k) (ea L k).a (ea L k).b (ea L k).c (ea L k).d)=tl (X8 L px py (k+1)):=by
 rw[X8,h];rfl
theorem c0h {L:List EN} {px py:Int} {k:Nat} (h:vP L px py k=false):X8 L px py (k+1)=X8 L px py k:=by
 rw[X8,h];rfl
theorem Qd (L:List EN) (px py:Int) (k:Nat):(bif bif bif decide ((ea L k).X-8*px>=0) then decide ((ea L k).X-8*px<8) else false then decide ((ea L k).Y-8*py>=0) else false then decide ((ea L k).Y-8*py<8) else false)=vP L px py k:=rfl
theorem a7s (t:Nat->UInt8) {k:Nat} (h:k<64) (a b c d:UInt8):List.take 256 (List.drop 0 (j4 (tl t) (0+k*4) [ub a,ub b,ub c,ub d]))=tl (U2 t k a b c d):=by rw[List.drop_zero,Nat.zero_add,eO _ h,t7]
theorem a4l (e:EN):List.take 4 (List.drop 2 (en e))=[ub e.a,ub e.b,ub e.c,ub e.d]:=rfl
def a3l:Cz:={
  ct:=fun _=>none
   }
theorem d2m (x y:Int)  (n:Nat):f4 prog 128 [iv .i64 x,iv .i64 y] [] n (bv (eY x y)) [] 0:=by
 refine v6 (q:=let a:=bif decide (x>=0) then decide (x<8) else false;let b:=bif bif decide (x>=0) then decide (x<8) else false then decide (y>=0) else false;(decide (x>=0)=true->decide (x>=0)=true/\True)/\(decide (x>=0)=true->decide (x>=0)=true)/\(a=true->a=true/\True)/\(a=true->a=true)/\(b=true->b=true/\True)/\(b=true->b=true)/\Le (bv (bif bif bif decide (x>=0) then decide (x<8) else false then decide (y>=0) else false then decide (y<8) else false)) (bv (eY x y))/\True) (a3l) func128 n (by kernel_rfl) (by kernel_rfl) ?_
 with_reducible repeat' first|exact trivial|apply And.intro|apply HB.mk|intro _|assumption
 all_goals first|exact Le.bool rfl
def b2t (t:Nat->UInt8) (x y:Int) (a b c e:UInt8):Cz:={
 ct:=(fun f=>match f with
 |128=>some fun _ _=>fun | [.c (.l (.v (.int _ x))),.c (.l (.v (.int _ y)))]=>some {v:=bv (eY x y)}|_=>none
 |_=>none)
 sym:=[0,17,18],nf:=[(11,bv true),(18,.c (.agg (tl (U2 t (8*y+x).toNat a b c e))))],wh:=[38]}
theorem C65 (t:Nat->UInt8) (x y:Int) (a b c e:UInt8) (h:0<=x/\x<8/\0<=y/\y<8) (n:Nat):f4 prog 65 [.c (.agg (tl t)),iv .i64 x,iv .i64 y,ag [ub a,ub b,ub c,ub e]] [] n (.c (.agg (tl (U2 t (8*y+x).toNat a b c e)))) [] 0:=by
 refine v6 (q:=let d:=8*y+x;let f:=(j4 (tl t) (0+d.toNat*4) [l8 (a.toNat:Int),l8 (b.toNat:Int),l8 (c.toNat:Int),l8 (e.toNat:Int)]);let g:=ag (tl (U2 t d.toNat a b c e));Kd 128 [] [i8 x,i8 y] [] 3 (bv (eY x y)) [] 0/\Le (bv (eY x y)) (bv true)/\IntKind.i64.wrap (8*y)=8*y/\IntKind.i64.wrap d=8*y+x/\t0 d 64/\0+d.toNat*4+4<=256/\256<=f.length/\Le (ag (List.take 256 (List.drop 0 f))) g/\256<=256/\0=0/\256=256/\Le g g/\True) (b2t t x y a b c e) func65 n (by kernel_rfl) (by kernel_rfl) ?_
 with_reducible repeat' first|exact trivial|apply And.intro|apply HB.mk|intro _
 all_goals first|(with_reducible first|exact Le.refl _|rfl|exact d2m _ _ _)|with_reducible refine Le.bool ?_;exact Uq h|(exact ⟨by omega,by omega⟩)|rw[u4,B8];omega|exact C2 _ (by omega) (by omega)|exact Le.of (congrArg (fun l=>SV.c (.agg l)) (a7s t (by omega) a b c e))|omega
theorem c9r (l:List Leaf) (t:Nat->UInt8) (hl:l=tl t) (x y:Int) (a b c e:UInt8) (h:0<=x/\x<8/\0<=y/\y<8) (n:Nat):f4 prog 65 [.c (.agg l),iv .i64 x,iv .i64 y,ag [ub a,ub b,ub c,ub e]] [] n (.c (.agg (tl (U2 t (8*y+x).toNat a b c e)))) [] 0:=by subst hl;exact C65 t x y a b c e h n
def b3r (L:List EN) (px py:Int) (k:Nat):Cz:={
 ct:=(fun f=>match f with
 |65=>some fun _ _=>fun | [.c (.agg _),.c (.l (.v (.int _ x))),.c (.l (.v (.int _ y))),_]=>some {v:=.c (.agg (tl (U2 (X8 L px py k) (Yh L px py k) (ea L k).a (ea L k).b (ea L k).c (ea L k).d)))}|_=>none
 |_=>none)
 sym:=[21,22],nf:=[(22,.c (.agg (en (ea L k)))),(50,bv (vP L px py k)),(51,.c (.agg (tl (X8 L px py k)))),(55,ag [ub (ea L k).a,ub (ea L k).b,ub (ea L k).c,ub (ea L k).d])],wh:=[38,123]}
theorem R16 (L:List EN) (px py:Int) (k:Nat)  (K:Exit->St->Prop) (h:let e:=(L.length:Int);let f:=((k:Int));let g:=(ea L k).X-8*px;let i:=(ea L k).Y-8*py;let j:=(ea L k).X-8*px>=0;let m:=(ea L k).X-8*px<8;let n:=bif decide j then decide m else false;let q:=(ea L k).Y-8*py>=0;let s:=bif bif decide j then decide m else false then decide q else false;let u:=tl (X8 L px py k);let w:=[l8 ((ea L k).a.toNat:Int),l8 ((ea L k).b.toNat:Int),l8 ((ea L k).c.toNat:Int),l8 ((ea L k).d.toNat:Int)];let x:=tl (U2 (X8 L px py k) (Yh L px py k) (ea L k).a (ea L k).b (ea L k).c (ea L k).d);let y:=((k:Int)+1);let z:=(A2 5 (Tryz.f16.body.getD Code.skip)).getD Code.skip;let A:=(17,l4 (Leaf.o 1 L.length));let B:=[(3,j7 2 0),(4,j7 3 0),(6,j7 4 0),A,(18,i8 e),(19,i8 y)];let C:=(1,some (o8 (o4 L) 123 8 1));let D:=(2,some (j9 [li px,li py] 40));let E:=(3,some (j9 (tl zT) 38));let G:=[C,D,E,(4,some (j9 u 38))];HB (decide ((k:Int)<e)) (t0 f L.length/\f.toNat*8+8<=(o4 L).length/\Le (ag (List.take 8 (List.drop (f.toNat*8) (o4 L)))) (ag (en (ea L k)))/\0=0/\8=8/\IntKind.i64.wrap (8*px)=8*px/\IntKind.i64.wrap g=(ea L k).X-8*px/\IntKind.i64.wrap (8*py)=8*py/\IntKind.i64.wrap i=(ea L k).Y-8*py/\(decide j=true->decide j=true/\True)/\(decide j=true->decide j=true)/\(n=true->n=true/\True)/\(n=true->n=true)/\(s=true->s=true/\True)/\(s=true->s=true)/\Le (bv (bif bif bif decide j then decide m else false then decide q else false then decide ((ea L k).Y-8*py<8) else false)) (bv (vP L px py k))/\HB (vP L px py k) (Le (ag (List.take 256 u)) (ag u)/\Le (ag (List.take 4 (List.drop 2 (en (ea L k))))) (ag w)/\Kd 65 [] [ag u,i8 g,i8 i,ag w] [] 6 (ag x) [] 0/\0=0/\256=256/\IntKind.i64.wrap y=(k:Int)+1/\RoundTo prog z 5 (wkK 5 K) (St.mk B [C,D,E,(4,some (j9 x 38))] 6 60 [4,5,5,4,3,2] 2)) (IntKind.i64.wrap y=(k:Int)+1/\RoundTo prog z 5 (wkK 5 K) (St.mk B G 6 60 [5,5,4,3,2] 2))) (wkK 5 K (Exit.exit 0) (St.mk [(3,j7 2 0),(4,j7 3 0),(6,j7 4 0),A,(18,i8 e),(19,i8 (k:Int))] G 5 60 [4,3,2] 2))):z4 prog (gl 5 Tryz.f16) (I16 L px py k) (wkK 5 K):=
 m5 [3,4,6,17,18,19] [1,2,3,4] (cx:=b3r L px py k) rfl (u3 (by kernel_rfl) h)
theorem L16 (L:List EN) (px py:Int) (hL:L.length<=1024) (hX:GoodX L) (hx : -1000000<=px/\px<=1000000) (hy : -1000000<=py/\py<=1000000):∀(m k:Nat),L.length-k=m->k<=L.length->∀(K:Exit->St->Prop),K (.exit 0) (I16 L px py L.length)->z4 prog (gl 5 Tryz.f16) (I16 L px py k) (wkK 5 K)
 |0,k,hm,hk,K,hK=>by
  have e:k=L.length:=by omega
  subst e
  refine R16 L px py _ K (HB.no (by omega) ?_)
  exact wkK.tk (I16 L px py _) (by kernel_rfl) (d5 (l6.p (g9 _) (by kernel_rfl)) (d5 (l6.k (by kernel_rfl)) (d5 (l6.p (j3 _) (by kernel_rfl)) (d5 (l6.p (j3 _) (by kernel_rfl)) trivial)))) hK
 |m+1,k,hm,hk,K,hK=>by
  refine R16 L px py k K (HB.yes (by omega) ?_)
  have hlt:k<L.length:=by omega
  have gx:=hX.x k hlt
  have gy:=hX.y k hlt
  with_reducible repeat' first|exact trivial|apply And.intro|apply HB.mk|intro _|assumption|rfl
  all_goals first|exact c9r _ _ rfl _ _ _ _ _ _ (tG (show eY _ _=true from (by with_reducible assumption:vP L px py k=true))) _|(exact ⟨by omega,by omega⟩)|rw[y6];omega|refine Le.of ?_;simp only[tn,Nat.zero_add,Nat.add_zero];rw[bG hlt]|(with_reducible first|exact Le.bool (Qd _ _ _ _)|exact Le.of (congrArg (fun l=>SV.c (.agg l)) (t7 _))|exact Le.of (congrArg (fun l=>SV.c (.agg l)) (a4l _)))|exact C2 _ (by omega) (by omega)|have hcnd:vP L px py k=false:=(by with_reducible assumption);(with_reducible refine RoundTo.tk 6 (I16 L px py (k+1)) ?_ ?_ ?_);kernel_rfl;exact (d5 (l6.p (g9 _) (by kernel_rfl)) (d5 (l6.k (by kernel_rfl)) (d5 (l6.p (j3 _) (by kernel_rfl)) (d5 (l6.plain (cs:=tl (X8 L px py k)) (b:=.t 38) (by kernel_rfl) (by rw[c0h hcnd]) (j3 _) (by kernel_rfl)) trivial))));exact (L16 L px py hL hX hx hy m (k+1) (by omega) (by omega) K hK)|have hcnd:vP L px py k=true:=(by with_reducible assumption);(with_reducible refine RoundTo.tk 6 (I16 L px py (k+1)) ?_ ?_ ?_);kernel_rfl;exact (d5 (l6.p (g9 _) (by kernel_rfl)) (d5 (l6.k (by kernel_rfl)) (d5 (l6.p (j3 _) (by kernel_rfl)) (d5 (l6.plain (cs:=(tl (U2 (X8 L px py k) (Yh L px py k) (ea L k).a (ea L k).b (ea L k).c (ea L k).d))) (b:=.t 38) (by kernel_rfl) (c7m hcnd) (j3 _) (by kernel_rfl)) trivial))));exact (L16 L px py hL hX hx hy m (k+1) (by omega) (by omega) K hK)
def b0z (L:List EN) (d px py:Int):Cz:={
 ct:=(fun f=>match f with
 |66=>some fun _ _=>fun | [.c (.agg l)]=>some {v:=.c (.agg (tl (m8 (A1 l))))}|_=>none
 |_=>none)
 nf:=[(58,.c (.agg (tl (X8 L px py L.length)))),(59,.c (.agg (tl (m8 (X8 L px py L.length)))))],lp:=fun r=>match r with|5=>some (fun _ K=>K (.exit 0) (I16 L px py L.length))|_=>none,wh:=[38]}
theorem C16 (L:List EN) (d px py:Int) (hL:L.length<=1024) (hX:GoodX L) (hx : -1000000<=px/\px<=1000000) (hy : -1000000<=py/\py<=1000000):f4 prog 16 [.c (.l (.p 0 0)),ag [li px,li py]] [(0,⟨[.o 1 L.length,li d],.t 125⟩),(1,⟨o4 L,.r 123 8 1⟩)] 2 (.tup [.agg (tl (m8 (X8 L px py L.length))),.l (li 0)]) [] 0:=by
 refine E3 (q:=let a:=X8 L px py L.length;let b:=ag (tl (m8 (A1 (tl a))));let e:=(SV.tup [Cp.agg (tl (m8 a)),Cp.l (li 0)]);(l3 prog (gl 5 Tryz.f16) (St.mk [(19,i8 0),(18,i8 (L.length:Int)),(17,l4 (Leaf.o 1 L.length)),(16,j7 0 0),(15,j7 0 0),(14,j7 0 0),(6,j7 4 0),(12,bv false),(11,j7 0 0),(5,i8 0),(4,j7 3 0),(3,j7 2 0),(0,j7 0 0),(1,ag [li px,li py])] [(4,some (j9 o7 38)),(3,some (j9 o7 38)),(2,some (j9 [li px,li py] 40)),(0,some (j9 [Leaf.o 1 L.length,li d] 125)),(1,some (o8 (o4 L) 123 8 1))] 5 60 [4,3,2] 2) fun K=>K (Exit.exit 0) (I16 L px py L.length))/\Le (ag (List.take 256 (tl a))) (ag (tl a))/\Kd 66 [] [ag (tl a)] [] 5 b [] 0/\Le b (ag (tl (m8 a)))/\0=0/\256=256/\Le e e/\True) (b0z L d px py) [] func16 (D9 (g9 L) (by kernel_rfl)) (by kernel_rfl) ?_
 with_reducible repeat' first|exact trivial|apply And.intro|apply HB.mk|intro _
 all_goals first|(with_reducible first|exact Le.refl _|rfl|exact Jf _ _ rfl _)|exact l3.tk (I16 L px py 0) (by kernel_rfl) (d5 (l6.p (g9 _) (by kernel_rfl)) (d5 (l6.k (by kernel_rfl)) (d5 (l6.plain (cs:=o7) (b:=.t 38) (by kernel_rfl) (q9) (j3 _) (by kernel_rfl)) (d5 (l6.plain (cs:=o7) (b:=.t 38) (by kernel_rfl) (q9) (j3 _) (by kernel_rfl)) trivial)))) (fun K hT=>L16 L px py hL hX hx hy _ 0 rfl (by first|decide|omega) K hT)|(with_reducible first|exact Le.of (congrArg (fun l=>SV.c (.agg l)) (t7 _))|exact Le.of (congrArg (fun l=>SV.c (.agg l)) (bF _)))
theorem yL (L:List EN) (d px py:Int) (hL:L.length<=1024) (hX:GoodX L) (hx : -1000000<=px/\px<=1000000) (hy : -1000000<=py/\py<=1000000) (id i n:Nat) (h1:id<n) (h2:i<n) (h3:id≠i):f4 prog 16 [.c (.l (.p id 0)),ag [li px,li py]] [(id,⟨[.o i L.length,li d],.t 125⟩),(i,⟨o4 L,.r 123 8 i⟩)] n (.tup [.agg (tl (m8 (X8 L px py L.length))),.l (li 0)]) [] 0:=by
 have key:=j8.at2 (C16 L d px py hL hX hx hy) id i n h1 h2 h3
 simp only[List.map_cons,List.map_nil,n6.ren,SV.ren,Cp.ren,Leaf.ren,BT.ren,j5 (g9 _),j5 (j3 _)] at key
 exact key
end Ab
end
section
namespace Ab
theorem Fu {l:List TA} (g:Good l) (j:Nat):∀d,j+d+1<l.length->(r8 l j).Y<(r8 l (j+d+1)).Y\/((r8 l j).Y=(r8 l (j+d+1)).Y/\(r8 l j).X<(r8 l (j+d+1)).X)
 |0,h=>g.ord j h
 |d+1,h=>by
  have h1:=Fu g j d (by omega)
  have h2:=g.ord (j+d+1) (by omega)
  rw[show j+(d+1)+1=j+d+1+1 by omega]
  omega
section
variable {l:List TA} (g:Good l) {px py:Int} {i c:Nat} (hi:i<64) (hc:c<4)
include hi hc
end
theorem Pj {l:List TA} (g:Good l):GoodX (l.map pO):=⟨(aM g).x,(aM g).y⟩
theorem xH {l:List TA} (g:Good l):x7 (l.map pO):=⟨(aM g).len,(aM g).b⟩
theorem Sb (l:List TA):(l.map pO).length=l.length:=List.length_map ..
end Ab
end
section
namespace Ab
theorem b3a {l:List TA} {k:Nat} (h:k<l.length):l[k]? = some (r8 l k):=Dl h
end Ab
end
section
namespace Ab
attribute [local irreducible] j8
structure R4 where
 x0:Int
 y0:Int
 x1:Int
 y1:Int
def R7 (r:R4):Bool:=bif decide (r.x0>=r.x1) then true else decide (r.y0>=r.y1)
def R5 (r:R4):R4:=bif R7 r then R4.mk 0 0 0 0 else r
def kM (a b:R4):R4:=R5 ⟨F1 a.x0 b.x0,F1 a.y0 b.y0,E7 a.x1 b.x1,E7 a.y1 b.y1⟩
def N9 (x y:Int):R4:=⟨8*x,8*y,8*x+8,8*y+8⟩
def wR (c:R4) (x y:Int):Bool:=!R7 (kM (N9 x y) c)
theorem a6b {r:R4} (h:R7 r=true):R5 r=R4.mk 0 0 0 0:=by unfold R5;rw[h];rfl
theorem a5v {r:R4} (h:R7 r=false):R5 r=r:=by unfold R5;rw[h];rfl
def b1j:Cz:={
  ct:=fun _=>none
   }
theorem C28 (r:R4)  (n:Nat):f4 prog 28 [ag [li r.x0,li r.y0,li r.x1,li r.y1]] [] n (bv (R7 r)) [] 0:=by
 refine v6 (q:=let a:=r.x0>=r.x1;let b:=!decide a;let c:=b=true->b=true/\True;c/\c/\(b=true->b=true/\b=true/\True)/\(decide a=false->b=true)/\Le (bv (bif decide a then true else decide (r.y0>=r.y1))) (bv (R7 r))/\True) (b1j) func28 n (by kernel_rfl) (by kernel_rfl) ?_
 with_reducible repeat' first|exact trivial|apply And.intro|apply HB.mk|intro _|assumption
 all_goals first|exact Le.bool rfl|simp only[*,Bool.and_self,Bool.not_false,Bool.not_true];done
def c5s:Rw:=some fun _ _=>fun | [.c (.agg [.v (.int _ a0),.v (.int _ a1),.v (.int _ a2),.v (.int _ a3)])]=>some {v:=bv (R7 ⟨a0,a1,a2,a3⟩)}|_=>none
def a6t (r:R4):Cz:={
 ct:=(fun f=>match f with
 |28=>c5s
 |_=>none)
 nf:=[(4,bv (R7 r))],wh:=[66]}
theorem C85 (r:R4)  (n:Nat):f4 prog 85 [ag [li r.x0,li r.y0,li r.x1,li r.y1]] [] n (ag [li (R5 r).x0,li (R5 r).y0,li (R5 r).x1,li (R5 r).y1]) [] 0:=by
 refine v6 (q:=let a:=[li r.x0,li r.y0,li r.x1,li r.y1];let b:=bv (R7 r);let c:=(ag [li (R5 r).x0,li (R5 r).y0,li (R5 r).x1,li (R5 r).y1]);Kd 28 [] [ag a] [] 2 b [] 0/\Le b b/\HB (R7 r) (0=0/\4=4/\Le (ag [li 0,li 0,li 0,li 0]) c/\True) (0=0/\4=4/\Le (ag a) c/\True)) (a6t r) func85 n (by kernel_rfl) (by kernel_rfl) ?_
 with_reducible repeat' first|exact trivial|apply And.intro|apply HB.mk|intro _
 all_goals first|(with_reducible first|exact Le.refl _|rfl|exact C28 ⟨_,_,_,_⟩ _)|refine Le.of ?_;rw[a6b (by with_reducible assumption)];try rfl|refine Le.of ?_;rw[a5v (by with_reducible assumption)];try rfl
def a7r:Cz:={
 ct:=(fun f=>match f with
 |85=>some fun _ _=>fun | [.c (.agg [.v (.int _ a0),.v (.int _ a1),.v (.int _ a2),.v (.int _ a3)])]=>some {v:=ag [li (R5 ⟨a0,a1,a2,a3⟩).x0,li (R5 ⟨a0,a1,a2,a3⟩).y0,li (R5 ⟨a0,a1,a2,a3⟩).x1,li (R5 ⟨a0,a1,a2,a3⟩).y1]}|_=>none
 |_=>none)
 wh:=[66]}
theorem C29 (a b:R4)  (n:Nat):f4 prog 29 [ag [li a.x0,li a.y0,li a.x1,li a.y1],ag [li b.x0,li b.y0,li b.x1,li b.y1]] [] n (ag [li (kM a b).x0,li (kM a b).y0,li (kM a b).x1,li (kM a b).y1]) [] 0:=by
 refine v6 (q:=let c:=F1 a.x0 b.x0;let d:=F1 a.y0 b.y0;let e:=E7 a.x1 b.x1;let f:=E7 a.y1 b.y1;let g:=R5 (R4.mk c d e f);let h:=(ag [li g.x0,li g.y0,li g.x1,li g.y1]);let i:=kM a b;Kd 85 [] [ag [li c,li d,li e,li f]] [] 3 h [] 0/\0=0/\4=4/\Le h (ag [li i.x0,li i.y0,li i.x1,li i.y1])/\True) (a7r) func29 n (by kernel_rfl) (by kernel_rfl) ?_
 with_reducible repeat' first|exact trivial|apply And.intro|apply HB.mk|intro _
 all_goals first|(with_reducible first|rfl|exact C85 ⟨_,_,_,_⟩ _)|exact Le.of rfl|exact Le.of rfl
def b1y:Cz:={
 ct:=fun _=>none
 wh:=[66]}
theorem C30 (x y:Int) (hx : -1000000<=x/\x<=1000000) (hy : -1000000<=y/\y<=1000000) (n:Nat):f4 prog 30 [ag [li x,li y]] [] n (ag [li (N9 x y).x0,li (N9 x y).y0,li (N9 x y).x1,li (N9 x y).y1]) [] 0:=by
 refine v6 (q:=let a:=N9 x y;IntKind.i64.wrap (8*x)=8*x/\IntKind.i64.wrap (8*y)=8*y/\IntKind.i64.wrap (8*x+8)=8*x+8/\IntKind.i64.wrap (8*y+8)=8*y+8/\0=0/\4=4/\Le (ag [li (8*x),li (8*y),li (8*x+8),li (8*y+8)]) (ag [li a.x0,li a.y0,li a.x1,li a.y1])/\True) (b1y) func30 n (by kernel_rfl) (by kernel_rfl) ?_
 with_reducible repeat' first|exact trivial|apply And.intro|apply HB.mk|intro _|rfl
 all_goals first|exact C2 _ (by omega) (by omega)|exact Le.of rfl|exact Le.of rfl
def a9l:Cz:={
  ct:=(fun f=>match f with
  |28=>c5s
  |29=>some fun _ _=>fun | [.c (.agg [.v (.int _ a0),.v (.int _ a1),.v (.int _ a2),.v (.int _ a3)]),.c (.agg [.v (.int _ b0),.v (.int _ b1),.v (.int _ b2),.v (.int _ b3)])]=>some {v:=ag [li (kM ⟨a0,a1,a2,a3⟩ ⟨b0,b1,b2,b3⟩).x0,li (kM ⟨a0,a1,a2,a3⟩ ⟨b0,b1,b2,b3⟩).y0,li (kM ⟨a0,a1,a2,a3⟩ ⟨b0,b1,b2,b3⟩).x1,li (kM ⟨a0,a1,a2,a3⟩ ⟨b0,b1,b2,b3⟩).y1]}|_=>none
  |30=>some fun _ _=>fun | [.c (.agg [.v (.int _ X),.v (.int _ Y)])]=>some {v:=ag [li (N9 X Y).x0,li (N9 X Y).y0,li (N9 X Y).x1,li (N9 X Y).y1]}|_=>none
  | _ => none)
   }
theorem C82 (c:R4) (x y:Int) (hx : -1000000<=x/\x<=1000000) (hy : -1000000<=y/\y<=1000000):f4 prog 82 [ag [li x,li y],.c (.l (.p 0 0))] [(0,⟨[li c.x0,li c.y0,li c.x1,li c.y1],.t 66⟩)] 1 (bv (wR c x y)) [] 0:=by
 refine E3 (q:=let a:=N9 x y;let b:=[li a.x0,li a.y0,li a.x1,li a.y1];let d:=kM a c;let e:=[li d.x0,li d.y0,li d.x1,li d.y1];Kd 30 [] [ag [li x,li y]] [] 2 (ag b) [] 0/\Kd 29 [] [ag b,ag [li c.x0,li c.y0,li c.x1,li c.y1]] [] 2 (ag e) [] 0/\Kd 28 [] [ag e] [] 2 (bv (R7 d)) [] 0/\Le (bv !R7 d) (bv (wR c x y))/\True) (a9l) [] func82 (by kernel_rfl) (by kernel_rfl) ?_
 with_reducible repeat' first|exact trivial|apply And.intro|apply HB.mk|intro _
 all_goals first|(with_reducible first|exact C28 ⟨_,_,_,_⟩ _|exact C29 ⟨_,_,_,_⟩ ⟨_,_,_,_⟩ _)|(with_reducible refine C30 _ _ ?_ ?_ _)<;>omega|exact Le.bool rfl
theorem c8k (c:R4) (x y:Int) (hx : -1000000<=x/\x<=1000000) (hy : -1000000<=y/\y<=1000000) (id n:Nat) (hi:id<n):f4 prog 82 [ag [li x,li y],.c (.l (.p id 0))] [(id,⟨[li c.x0,li c.y0,li c.x1,li c.y1],.t 66⟩)] n (bv (wR c x y)) [] 0:=f4.at1 (C82 c x y hx hy) id n hi
end Ab
end
section
namespace Ab
attribute [local irreducible] j8
attribute [local irreducible] tl n8
def iV (L:List EN) (d:Int) (c:R4) (k:Nat):St:=⟨[(19,iv .i64 (k:Nat)),(18,iv .i64 (L.length:Nat)),(17,.c (.l (.o 1 L.length))),(0,.c (.l (.p 0 0))),(1,.c (.l (.f 82 [(2,0)]))),(4,.c (.l (.p 3 0))),(6,.c (.l (.p 4 0)))],[(0,some ⟨[.o 1 L.length,li (d+(B6 L (wR c) k))],.t 125⟩),(1,some ⟨o4 L,.r 123 8 1⟩),(2,some ⟨[li c.x0,li c.y0,li c.x1,li c.y1],.t 66⟩),(3,some ⟨[.v (.slice none 0 0)],.t 26⟩),(4,some ⟨[.o 5 (v7 L (wR c) k).length],.t 26⟩),(5,some ⟨n8 (v7 L (wR c) k),.r 42 258 5⟩)],6,49,[5,4,3,0],(3)⟩
def Gu (L:List EN) (d:Int) (c:R4) (k:Nat):St:=⟨[(4,.c (.l (.p 3 0))),(5,iv .i64 (E0 (ea L k)))],[(0,some ⟨[.o 1 L.length,li (d+((B6 L (wR c) k)+1))],.t 125⟩),(3,some ⟨[.v (.slice none 0 0)],.t 26⟩)],6,49,[5,4,3,0],(3)⟩
def a0x (L:List EN) (d:Int) (c:R4) (k:Nat):Cz:={
 ct:=(fun f=>match f with
 |79=>some fun _ _=>fun | [.c (.l (.p i _)),.c (.agg _)]=>some {v:=.tup [.agg (tl (C7 (ea L k))),.l (li (E0 (ea L k)))],rd:=[i],wr:=[(i,⟨[.o 1 L.length,li (d+(B6 L (wR c) k)+1)],.t 125⟩)]}|_=>none
 |82=>some fun _ap _S ar=>match _ap,ar with
  |_,[.c (.agg [.v (.int _ x),.v (.int _ y)]),.c (.l (.p i _))]=>some {v:=bv (wR c x y),rd:=[i]}
  |_,_=>none
 |_=>none)
 sym:=[21,22,45],nf:=[(22,.c (.agg (en (ea L k)))),(25,.c (.agg [li (ea L k).X,li (ea L k).Y])),(41,.c (.agg [li (ea L k).X,li (ea L k).Y])),(27,bv (!((wR c) (ea L k).X (ea L k).Y))),(30,.c (.agg (en (ea L k)))),(32,.c (.agg (tl (C7 (ea L k))))),(35,bv (gU (ea L k))),(42,.c (.agg (tl (C7 (ea L k))))),(43,.c (.agg (el ⟨(ea L k).X,(ea L k).Y,C7 (ea L k)⟩)))],wh:=[38,123]}
theorem b8t (L:List EN) (d:Int) (c:R4) (k:Nat)  (K:Exit->St->Prop) (h:let a:=(L.length:Int);let b:=((k:Int));let e:=en (ea L k);let g:=ag (List.take 2 e);let i:=[li (ea L k).X,li (ea L k).Y];let j:=[li c.x0,li c.y0,li c.x1,li c.y1];let m:=bv !wR c (ea L k).X (ea L k).Y;let n:=((k:Int)+1);let q:=(A2 5 (Tryz.f80.body.getD Code.skip)).getD Code.skip;let s:=wkK 6 K;let w:=(0,j7 0 0);let x:=(1,l4 (Leaf.f 82 [(2,0)]));let y:=(4,j7 3 0);let z:=(6,j7 4 0);let A:=(17,l4 (Leaf.o 1 L.length));let B:=(18,i8 a);let C:=[w,x,y,(5,SV.u),z,A,B,(19,i8 n)];let D:=[Leaf.o 1 L.length,li (d+B6 L (wR c) k)];let E:=(0,some (j9 D 125));let G:=(1,some (o8 (o4 L) 123 8 1));let H:=(2,some (j9 j 66));let I:=(3,some (j9 [Leaf.v (Value.slice none 0 0)] 26));let J:=v7 L (wR c) k;let M:=(4,some (j9 [Leaf.o 5 J.length] 26));let N:=(5,some (o8 (n8 J) 42 258 5));let O:=(6,some (j9 e 123));let P:=(8,none);let Q:=(9,none);let R:=tl (C7 (ea L k));let T:=[Leaf.o 1 L.length,li (d+B6 L (wR c) k+1)];let U:=(19,i8 (k:Int));let V:=(0,some (j9 T 125));let W:=(7,some (j9 R 38));let Z:=ag (List.take 256 R);let aa:=ag (j4 (i++List.replicate 256 (l8 0)) 2 R);let ab:=el (TA.mk (ea L k).X (ea L k).Y (C7 (ea L k)));let ac:=J.length+1;let ad:=n8 J++j4 A8 0 ab;let ae:=(8,some (o8 (j4 A8 0 ab) 42 258 8));let af:=[(5,J.length+1,false)];HB (decide ((k:Int)<a)) (t0 b L.length/\b.toNat*8+8<=(o4 L).length/\Le (ag (List.take 8 (List.drop (b.toNat*8) (o4 L)))) (ag e)/\0=0/\8=8/\Le g (ag i)/\Kd 82 [] [ag i,j7 2 0] [(2,j9 j 66)] 7 (bv (wR c (ea L k).X (ea L k).Y)) [] 0/\Le m m/\HB (!wR c (ea L k).X (ea L k).Y) (IntKind.i64.wrap n=(k:Int)+1/\RoundTo prog q 6 s (St.mk C [E,G,H,I,M,N,O,(7,none),P,Q] 7 49 [6,6,5,4,3,0] 3)) (Le (ag (List.take 8 e)) (ag e)/\Kd 79 [] [j7 0 0,ag e] [(0,j9 D 125)] 7 (SV.tup [Cp.agg R,Cp.l (li (E0 (ea L k)))]) [(0,j9 T 125)] 0/\Le (ag R) (ag R)/\0=0/\256=256/\Le (bv (E0 (ea L k) != 0)) (bv (gU (ea L k)))/\HB (gU (ea L k)) (wkK 6 K Exit.ret (St.mk [w,x,y,(5,i8 (E0 (ea L k))),z,A,B,U] [V,G,H,I,M,N,O,W,P,Q] 8 49 [3,7,7,0,6,6,5,4,3,0] 3)) ((Le g (ag i)/\Le Z (ag R)/\Le aa (ag ab)/\(n8 J).length=J.length*258/\258=258/\IntKind.i64.wrap n=(k:Int)+1/\RoundTo prog q 6 s (St.mk C [V,G,H,I,(4,some (j9 [Leaf.o 5 ac] 26)),(5,some (o8 ad 42 258 5)),O,W,ae,Q] 9 49 [4,5,8,7,7,0,6,6,5,4,3,0] 3))/\Le g (ag i)/\Le Z (ag R)/\Le aa (ag ab)/\af=af/\fW prog 42 ac/\(n8 J).length=J.length*258/\258=258/\IntKind.i64.wrap n=(k:Int)+1/\RoundTo prog q 6 s (St.mk C [V,G,H,I,(4,some (j9 [Leaf.o 9 ac] 26)),N,O,W,ae,(9,some (o8 ad 42 258 9))] 10 49 [4,9,8,7,7,0,6,6,5,4,3,0] 3)))) (wkK 6 K (Exit.exit 0) (St.mk [w,x,y,(5,SV.u),z,A,B,U] [E,G,H,I,M,N,(6,none),(7,none),P,Q] 6 49 [5,4,3,0] 3))):z4 prog (gl 5 Tryz.f80) (iV L d c k) (wkK 6 K):=
 m5 [0,1,4,5,6,17,18,19] [0,1,2,3,4,5,6,7,8,9] (cx:=a0x L d c k) rfl (u3 (by kernel_rfl) h)
theorem Tl (L:List EN) (d:Int) (c:R4) (hG:x7 L) (h0:0<=d) (hd:d<=900000000) (hX:GoodX L):∀(m k:Nat),L.length-k=m->k<=L.length->(∀j,j<k->D0 L (wR c) j=true)->∀(K:Exit->St->Prop),((∀j,j<L.length->D0 L (wR c) j=true)->K (.exit 0) (iV L d c L.length))->(∀j,j<L.length->(∀i,i<j->D0 L (wR c) i=true)->D0 L (wR c) j=false->K .ret (Gu L d c j))->z4 prog (gl 5 Tryz.f80) (iV L d c k) (wkK 6 K)
 |0,k,hm,hk,hall,K,hK,hR=>by
  have e:k=L.length:=by omega
  subst e
  refine b8t L d c _ K (HB.no (by omega) ?_)
  exact wkK.tk (iV L d c _) (by kernel_rfl) (d5 (l6.k (by kernel_rfl)) (d5 (l6.p (g9 _) (by kernel_rfl)) (d5 (l6.k (by kernel_rfl)) (d5 (l6.k (by kernel_rfl)) (d5 (l6.k (by kernel_rfl)) (d5 (l6.p (i9 _) (by kernel_rfl)) trivial)))))) (hK hall)
 |m+1,k,hm,hk,hall,K,hK,hR=>by
  refine b8t L d c k K (HB.yes (by omega) ?_)
  have hlt:k<L.length:=by omega
  have hlen:=hG.len
  have hbk0:=hG.2 k hlt
  have hbk:1<=(ea L k).blob.size/\(ea L k).blob.size<=1000000000000000:=by omega
  have hcb:=eQ L (wR c) k
  with_reducible repeat' first|exact trivial|apply And.intro|apply HB.mk|intro _|exact Le.refl _|rfl
  all_goals first|(with_reducible refine O7 _ L.length _ hbk.1 hbk.2 ?_ ?_ _ _ _ ?_ ?_ ?_)<;>omega|(with_reducible refine c8k _ _ _ ?_ ?_ _ _ ?_)<;>(have hx:=hX.x k hlt;have hy:=hX.y k hlt;omega)|(exact ⟨by omega,by omega⟩)|rw[y6];omega|refine Le.of ?_;simp only[tn,Nat.zero_add,Nat.add_zero];rw[bG hlt]|(with_reducible first|exact Le.bool (bT _)|exact Le.of (congrArg (fun l=>SV.c (.agg l)) (sP _))|exact Le.of (congrArg (fun l=>SV.c (.agg l)) (t7 _)))|exact Le.of (congrArg (fun l=>SV.c (.agg l)) (bW _ _ _))|rw[C6];omega|with_reducible refine rV ?_;have:=cR L (wR c) k;have:=hG.len;omega|have hcnd:(!((wR c) (ea L k).X (ea L k).Y))=true:=(by with_reducible assumption);(with_reducible refine RoundTo.tk 7 (iV L d c (k+1)) ?_ ?_ ?_);kernel_rfl;exact (d5 (l6.blk (k:=⟨[.o 1 L.length,li (d+(B6 L (wR c) k))],.t 125⟩) (by kernel_rfl) (by rw[(C5 hcnd).2.1]) (by kernel_rfl)) (d5 (l6.p (g9 _) (by kernel_rfl)) (d5 (l6.k (by kernel_rfl)) (d5 (l6.k (by kernel_rfl)) (d5 (l6.blk (k:=⟨[.o 5 (v7 L (wR c) k).length],.t 26⟩) (by kernel_rfl) (by rw[(C5 hcnd).1]) (by kernel_rfl)) (d5 (l6.plain (cs:=n8 (v7 L (wR c) k)) (b:=.r 42 258 5) (by kernel_rfl) (by rw[(C5 hcnd).1]) (i9 _) (by kernel_rfl)) trivial))))));exact (Tl L d c hG h0 hd hX m (k+1) (by omega) (by omega) (fun j hj=>by rcases Nat.lt_or_ge j k with h|h;exact hall j h;have e:j=k:=(by omega);subst e;exact (by first|exact (C5 (by with_reducible assumption)).2.2|exact bM (by with_reducible assumption) (by with_reducible assumption))) K hK hR)|have hcnd:(!((wR c) (ea L k).X (ea L k).Y))=false:=(by with_reducible assumption);(with_reducible refine RoundTo.tk 9 (iV L d c (k+1)) ?_ ?_ ?_);kernel_rfl;exact (d5 (l6.blk (k:=⟨[.o 1 L.length,li (d+(B6 L (wR c) k)+1)],.t 125⟩) (by kernel_rfl) (by rw[(R6 hcnd).2,Int.add_assoc]) (by kernel_rfl)) (d5 (l6.p (g9 _) (by kernel_rfl)) (d5 (l6.k (by kernel_rfl)) (d5 (l6.k (by kernel_rfl)) (d5 (l6.blk (k:=⟨[.o 5 ((v7 L (wR c) k).length+1)],.t 26⟩) (by kernel_rfl) (by rw[(E1 hcnd).2]) (by kernel_rfl)) (d5 (l6.plain (cs:=n8 (v7 L (wR c) k)++j4 A8 0 (el ⟨(ea L k).X,(ea L k).Y,C7 (ea L k)⟩)) (b:=.r 42 258 5) (by kernel_rfl) (by rw[L2,(E1 hcnd).1]) (i9 _) (by kernel_rfl)) trivial))))));exact (Tl L d c hG h0 hd hX m (k+1) (by omega) (by omega) (fun j hj=>by rcases Nat.lt_or_ge j k with h|h;exact hall j h;have e:j=k:=(by omega);subst e;exact (by first|exact (C5 (by with_reducible assumption)).2.2|exact bM (by with_reducible assumption) (by with_reducible assumption))) K hK hR)|have hcnd:(!((wR c) (ea L k).X (ea L k).Y))=false:=(by with_reducible assumption);(with_reducible refine RoundTo.rk 10 [(5,some 9)] (iV L d c (k+1)) ?_ ?_ ?_);kernel_rfl;exact (f5 (j:=0) rfl (v5.blk (k:=⟨[.o 1 L.length,li (d+(B6 L (wR c) k)+1)],.t 125⟩) (k'':=⟨[.o 1 L.length,li (d+(B6 L (wR c) k)+1)],.t 125⟩) (by kernel_rfl) (by kernel_rfl) (by rw[(R6 hcnd).2,Int.add_assoc])) (f5 (j:=1) rfl (v5.p (g9 _) (by kernel_rfl)) (f5 (j:=2) rfl (v5.k (by kernel_rfl)) (f5 (j:=3) rfl (v5.k (by kernel_rfl)) (f5 (j:=4) rfl (v5.blk (k:=⟨[.o 9 ((v7 L (wR c) k).length+1)],.t 26⟩) (k'':=⟨[.o 5 ((v7 L (wR c) k).length+1)],.t 26⟩) (by kernel_rfl) (by kernel_rfl) (by rw[(E1 hcnd).2])) (f5 (j:=9) rfl (v5.plain (cs:=n8 (v7 L (wR c) k)++j4 A8 0 (el ⟨(ea L k).X,(ea L k).Y,C7 (ea L k)⟩)) (b:=.r 42 258 9) (by kernel_rfl) (by rw[L2,(E1 hcnd).1]) (i9 _) (by kernel_rfl)) trivial))))));exact (Tl L d c hG h0 hd hX m (k+1) (by omega) (by omega) (fun j hj=>by rcases Nat.lt_or_ge j k with h|h;exact hall j h;have e:j=k:=(by omega);subst e;exact (by first|exact (C5 (by with_reducible assumption)).2.2|exact bM (by with_reducible assumption) (by with_reducible assumption))) K hK hR)|exact wkK.tk (Gu L d c k) (by kernel_rfl) (d5 (l6.blk (k:=⟨[.o 1 L.length,li (d+(B6 L (wR c) k)+1)],.t 125⟩) (by kernel_rfl) (by rw[Int.add_assoc]) (by kernel_rfl)) (N0.k (by kernel_rfl))) (hR k hlt hall ((uW (by with_reducible assumption) (by with_reducible assumption))))|exact C2 _ (by omega) (by omega)|exact Le.of rfl
def Ol (L:List EN) (d:Int) (c:R4):Cz:={
 ct:=fun _=>none
 lp:=fun r=>match r with|5=>some (fun _ K=>((∀j,j<L.length->D0 L (wR c) j=true)->K (.exit 0) (iV L d c L.length))/\(∀j,j<L.length->(∀i,i<j->D0 L (wR c) i=true)->D0 L (wR c) j=false->K .ret (Gu L d c j)))|_=>none,wh:=[26,38,123]}
theorem c5c (L:List EN) (d:Int) (c:R4) (hG:x7 L) (h0:0<=d) (hd:d<=900000000) (hX:GoodX L) (hx:P4 L (wR c)=none):f4 prog 80 [.c (.l (.p 0 0)),.c (.l (.f 82 [(2,0)]))] [(0,⟨[.o 1 L.length,li d],.t 125⟩),(1,⟨o4 L,.r 123 8 1⟩),(2,⟨[li c.x0,li c.y0,li c.x1,li c.y1],.t 66⟩)] 3 (.tup [.agg [.o 3 (v7 L (wR c) L.length).length],.l (li 0)]) [(0,⟨[.o 1 L.length,li (d+B6 L (wR c) L.length)],.t 125⟩),(3,⟨n8 (v7 L (wR c) L.length),.r 42 258 3⟩)] 1:=by
 refine E3 (q:=let a:=[Leaf.v (Value.slice none 0 0)];let b:=(∀(j:Nat),j<L.length->D0 L (wR c) j=true);let e:=v7 L (wR c) L.length;let g:=(SV.tup [Cp.agg [Leaf.o 3 e.length],Cp.l (li 0)]);let h:=x8 3 0 [5];let k:=(j9 [Leaf.o 1 L.length,li (d+B6 L (wR c) L.length)] 125);(l3 prog (gl 5 Tryz.f80) (St.mk [(19,i8 0),(18,i8 (L.length:Int)),(17,l4 (Leaf.o 1 L.length)),(16,j7 0 0),(15,j7 0 0),(14,j7 0 0),(6,j7 4 0),(12,bv false),(11,j7 0 0),(5,i8 0),(4,j7 3 0),(0,j7 0 0),(1,l4 (Leaf.f 82 [(2,0)]))] [(4,some (j9 a 26)),(3,some (j9 a 26)),(0,some (j9 [Leaf.o 1 L.length,li d] 125)),(1,some (o8 (o4 L) 123 8 1)),(2,some (j9 [li c.x0,li c.y0,li c.x1,li c.y1] 66))] 5 49 [4,3] 3) fun K=>(b->K (Exit.exit 0) (iV L d c L.length))/\∀(j:Nat),j<L.length->(∀(i:Nat),i<j->D0 L (wR c) i=true)->D0 L (wR c) j=false->K Exit.ret (Gu L d c j))/\(b->0=0/\1=1/\Le g g/\A5 h k k/\A5 h (o8 (n8 e) 42 258 5) (o8 (n8 e) 42 258 3)/\True)/\∀(j:Nat),j<L.length->(∀(i:Nat),i<j->D0 L (wR c) i=true)->D0 L (wR c) j=false->Le (SV.tup [Cp.agg a,Cp.l (li (E0 (ea L j)))]) g/\A5 h (j9 [Leaf.o 1 L.length,li (d+(B6 L (wR c) j+1))] 125) k/\False) (Ol L d c) [5] func80 (D9 (g9 L) (by kernel_rfl)) (by kernel_rfl) ?_
 with_reducible repeat' first|exact trivial|apply And.intro|apply HB.mk|intro _|exact Le.refl _|rfl
 all_goals first|exact l3.rk [(5,none)] (iV L d c 0) (by kernel_rfl) (f5 (j:=0) rfl (v5.blk (k:=⟨[.o 1 L.length,li d],.t 125⟩) (k'':=⟨[.o 1 L.length,li d],.t 125⟩) (by kernel_rfl) (by kernel_rfl) (by rw[show B6 L (wR c) 0=0 from rfl,Int.add_zero])) (f5 (j:=1) rfl (v5.p (g9 _) (by kernel_rfl)) (f5 (j:=2) rfl (v5.k (by kernel_rfl)) (f5 (j:=3) rfl (v5.k (by kernel_rfl)) (f5 (j:=4) rfl (v5.lsB (xs:=[.v (.slice none 0 0)]) (by kernel_rfl) (aY.cons (by show gT _ 6 _ (.o 5 (v7 L (wR c) 0).length);exact gT.nil (show 5<6 by decide) rfl) aY.nil)) (G0.k (by kernel_rfl))))))) (fun K hT=>Tl L d c hG h0 hd hX _ 0 rfl (Nat.zero_le _) (fun j hj=>absurd hj (Nat.not_lt_zero j)) K hT.1 hT.2)|exact absurd (hx.symm.trans (F6 (by with_reducible assumption) (by with_reducible assumption) (by with_reducible assumption))) (by simp)|exact A5.plain rfl (i9 _) (by kernel_rfl)|exact A5.of (by kernel_rfl)
def La (L:List EN) (d:Int) (c:R4):Cz:={
 ct:=fun _=>none
 lp:=fun r=>match r with|5=>some (fun _ K=>((∀j,j<L.length->D0 L (wR c) j=true)->K (.exit 0) (iV L d c L.length))/\(∀j,j<L.length->(∀i,i<j->D0 L (wR c) i=true)->D0 L (wR c) j=false->K .ret (Gu L d c j)))|_=>none,wh:=[26,38,123]}
theorem c2o (L:List EN) (d:Int) (c:R4) (hG:x7 L) (h0:0<=d) (hd:d<=900000000) (hX:GoodX L) (hx:P4 L (wR c)≠none):f4 prog 80 [.c (.l (.p 0 0)),.c (.l (.f 82 [(2,0)]))] [(0,⟨[.o 1 L.length,li d],.t 125⟩),(1,⟨o4 L,.r 123 8 1⟩),(2,⟨[li c.x0,li c.y0,li c.x1,li c.y1],.t 66⟩)] 3 (.tup [.agg [.v (.slice none 0 0)],.l (li (M9 L (wR c)))]) [(0,⟨[.o 1 L.length,li (d+A7 L (wR c))],.t 125⟩)] 0:=by
 refine E3 (q:=let a:=[Leaf.v (Value.slice none 0 0)];let b:=(∀(j:Nat),j<L.length->D0 L (wR c) j=true);(l3 prog (gl 5 Tryz.f80) (St.mk [(19,i8 0),(18,i8 (L.length:Int)),(17,l4 (Leaf.o 1 L.length)),(16,j7 0 0),(15,j7 0 0),(14,j7 0 0),(6,j7 4 0),(12,bv false),(11,j7 0 0),(5,i8 0),(4,j7 3 0),(0,j7 0 0),(1,l4 (Leaf.f 82 [(2,0)]))] [(4,some (j9 a 26)),(3,some (j9 a 26)),(0,some (j9 [Leaf.o 1 L.length,li d] 125)),(1,some (o8 (o4 L) 123 8 1)),(2,some (j9 [li c.x0,li c.y0,li c.x1,li c.y1] 66))] 5 49 [4,3] 3) fun K=>(b->K (Exit.exit 0) (iV L d c L.length))/\∀(j:Nat),j<L.length->(∀(i:Nat),i<j->D0 L (wR c) i=true)->D0 L (wR c) j=false->K Exit.ret (Gu L d c j))/\(b->0=0/\1=1/\False)/\∀(j:Nat),j<L.length->(∀(i:Nat),i<j->D0 L (wR c) i=true)->D0 L (wR c) j=false->Le (SV.tup [Cp.agg a,Cp.l (li (E0 (ea L j)))]) (SV.tup [Cp.agg a,Cp.l (li (M9 L (wR c)))])/\A5 (x8 3 0 []) (j9 [Leaf.o 1 L.length,li (d+(B6 L (wR c) j+1))] 125) (j9 [Leaf.o 1 L.length,li (d+A7 L (wR c))] 125)/\True) (La L d c) [] func80 (D9 (g9 L) (by kernel_rfl)) (by kernel_rfl) ?_
 with_reducible repeat' first|exact trivial|apply And.intro|apply HB.mk|intro _|rfl
 all_goals first|exact l3.rk [(5,none)] (iV L d c 0) (by kernel_rfl) (f5 (j:=0) rfl (v5.blk (k:=⟨[.o 1 L.length,li d],.t 125⟩) (k'':=⟨[.o 1 L.length,li d],.t 125⟩) (by kernel_rfl) (by kernel_rfl) (by rw[show B6 L (wR c) 0=0 from rfl,Int.add_zero])) (f5 (j:=1) rfl (v5.p (g9 _) (by kernel_rfl)) (f5 (j:=2) rfl (v5.k (by kernel_rfl)) (f5 (j:=3) rfl (v5.k (by kernel_rfl)) (f5 (j:=4) rfl (v5.lsB (xs:=[.v (.slice none 0 0)]) (by kernel_rfl) (aY.cons (by show gT _ 6 _ (.o 5 (v7 L (wR c) 0).length);exact gT.nil (show 5<6 by decide) rfl) aY.nil)) (G0.k (by kernel_rfl))))))) (fun K hT=>Tl L d c hG h0 hd hX _ 0 rfl (Nat.zero_le _) (fun j hj=>absurd hj (Nat.not_lt_zero j)) K hT.1 hT.2)|exact absurd (gA (by with_reducible assumption)) hx|refine Le.of ?_;rw[(P6 (F6 (by with_reducible assumption) (by with_reducible assumption) (by with_reducible assumption))).1];done|rw[(P6 (F6 (by with_reducible assumption) (by with_reducible assumption) (by with_reducible assumption))).2];exact A5.of (by kernel_rfl)
end Ab
end
section
namespace Ab
attribute [local irreducible] j8
def b2u (l:List TA):Cz:={
 ct:=(fun f=>match f with
 |46=>some fun _ _=>fun | [.c (.agg [.o i _])]=>some {v:=bv true,rd:=[i]}|_=>none
 |_=>none)
 nf:=[(5,bv false)]}
theorem C87 (l:List TA) (hg:Good l):f4 prog 87 [.c (.agg [.o 0 l.length])] [(0,⟨n8 l,.r 42 258 0⟩)] 1 (.c (.l (.o 0 l.length))) [] 0:=by
 refine E3 (q:=let a:=l4 (Leaf.o 0 l.length);Kd 46 [] [ag [Leaf.o 0 l.length]] [(0,o8 (n8 l) 42 258 0)] 2 (bv true) [] 0/\Le (bv !true) (bv false)/\Le a a/\True) (b2u l) [] func87 (iB (i9 l) (by kernel_rfl)) (by kernel_rfl) ?_
 with_reducible repeat' first|exact trivial|apply And.intro|apply HB.mk|intro _
 all_goals first|(with_reducible first|exact Le.refl _|exact c8x _ hg _ _ (by omega))|exact Le.bool rfl
theorem It (l:List TA) (hg:Good l) (id n:Nat) (hi:id<n):f4 prog 87 [.c (.agg [.o id l.length])] [(id,⟨n8 l,.r 42 258 id⟩)] n (.c (.l (.o id l.length))) [] 0:=by
 have key:=f4.at1 (C87 l hg) id n hi
 simp only[List.map_cons,List.map_nil,n6.ren,SV.ren,Cp.ren,Leaf.ren,BT.ren,j5 (i9 _)] at key
 exact key
end Ab
end
section
namespace Ab
def XY (e:TA):Prop:=(-1000000<=e.X/\e.X<=1000000)/\(-1000000<=e.Y/\e.Y<=1000000)
theorem d0m {n:Int} (h : -1000000<=n/\n<=1000000):(Lit.int .i64 n).wf=true:=by
 simp[Lit.wf,IntKind.min,IntKind.max,IntKind.bits,IntKind.signed]
 omega
theorem a4n (D:Nat) {n:Int} (h : -1000000<=n/\n<=1000000):prog.keyLits (D+1) 3 [.int .i64 n]=some [.int .i64 n]:=by
 unfold Program.keyLits
 simp only[underlying3]
 simp[d0m h]
theorem a7c:prog.cellsOf 3=1:=by kernel_rfl
theorem Ff:prog.cellsOf 40=2:=by kernel_rfl
theorem sA:prog.cellsOf 42=258:=by kernel_rfl
theorem b1f (D:Nat) {x y:Int} (hx : -1000000<=x/\x<=1000000) (hy : -1000000<=y/\y<=1000000):prog.keyLits (D+2) 40 [.int .i64 x,.int .i64 y]=some [.int .i64 x,.int .i64 y]:=by
 unfold Program.keyLits
 simp only[underlying40,Ff]
 simp[a7c,a4n D hx,a4n D hy]
def Sf (t:Nat->UInt8):List Lit:=((List.range 64).map fun k=>[bl (t (4*k)),bl (t (4*k+1)),bl (t (4*k+2)),bl (t (4*k+3))]).flatten
def Lu (e:TA):List Value:=.int .i64 e.X::.int .i64 e.Y::tv e.t
theorem Lf {e:TA} (h:XY e):prog.keyLits 4 42 (Lu e)=some (.int .i64 e.X::.int .i64 e.Y::Sf e.t):=by
 unfold Program.keyLits
 simp only[underlying42,sA]
 have hl:(Lu e).length=258:=by unfold Lu;simp[dT]
 rw[if_pos ⟨hl,by kernel_rfl⟩]
 have h1:((Lu e).drop 0).take 2=[.int .i64 e.X,.int .i64 e.Y]:=rfl
 have h2:((Lu e).drop 2).take 256=tv e.t:=List.take_of_length_le (by show (tv e.t).length<=256;rw[dT];exact Nat.le_refl _)
 simp only[List.mapM_cons,List.mapM_nil,Ff,kV]
 rw[h1,h2,b1f 1 h.1 h.2,Dd]
 simp[Sf]
theorem Ni (e:TA):(Lu e).map .v=el e:=by unfold Lu el;rw[List.map_cons,List.map_cons,Ez]
def Dp (a b:TA):Bool:=decide (a.X=b.X)&&(decide (a.Y=b.Y)&&m7 a.t b.t)
theorem Sn (t u:Nat->UInt8):Sf t=Sf u↔m7 t u=true:=by
 unfold Sf
 rw[nL,B1]
 constructor
 ·intro h i hi
  obtain ⟨a,b,c,d⟩:=h (i / 4) (by simp;omega)
  have:i=4*(i / 4)+i % 4:=by omega
  have h4:i % 4<4:=by omega
  generalize i / 4=q at *
  match hm:i % 4,h4 with
  |0,_=>rw[this,hm];exact a
  |1,_=>rw[this,hm];exact b
  |2,_=>rw[this,hm];exact c
  |3,_=>rw[this,hm];exact d
 ·intro h k hk
  have hk:k<64:=by simpa using hk
  exact ⟨h _ (by omega),h _ (by omega),h _ (by omega),h _ (by omega)⟩
theorem d0n {a b:TA} (ha:XY a) (hb:XY b):H4 prog 42 (el a) (el b) (Dp a b):=by
 rw[<-Ni,<-Ni]
 have lf:∀e:TA,∀y∈Lu e,K1 y=true:=by
  intro e y hy
  unfold Lu at hy
  simp only[List.mem_cons,tv,List.mem_map] at hy
  rcases hy with rfl|rfl|⟨i,_,rfl⟩<;>rfl
 refine Ap (t:=42) (m:=6) (D:=4) (D':=4) (by kernel_rfl) (by decide) (by kernel_rfl) (lf a) (lf b) (by simp[Value.formed,underlying42,sA,Lu,dT]) (by simp[Value.formed,underlying42,sA,Lu,dT]) (Lf ha) (Lf hb) _ ?_
 unfold Dp
 simp only[Bool.and_eq_true,decide_eq_true_eq,List.cons.injEq,Sn,Lit.int.injEq,true_and]
end Ab
end
section
namespace Ab
attribute [local irreducible] j8
theorem lG {l:List TA} (g:Good l):∀k,k<l.length->XY (r8 l k):=fun k hk=>by
 have:=lL g hk
 exact ⟨by omega,by omega⟩
end Ab
end
section
namespace Ab
attribute [local irreducible] j8
def N4 (c:R4) (x y:Int):Bool:=bif bif bif decide (c.x0<=x) then decide (x<c.x1) else false then decide (c.y0<=y) else false then decide (y<c.y1) else false
def vK (b:Bool) (x:UInt8):UInt8:=bif b then x else 0
def b3e:Cz:={
  ct:=fun _=>none
   }
theorem C90 (c:R4) (x y:Int)  (n:Nat):f4 prog 90 [ag [li c.x0,li c.y0,li c.x1,li c.y1],ag [li x,li y]] [] n (bv (N4 c x y)) [] 0:=by
 refine v6 (q:=let a:=c.x0<=x;let b:=decide a=true->decide a=true/\True;let d:=x<c.x1;let e:=bif decide a then decide d else false;let f:=e=true->e=true/\True;let g:=bif bif decide a then decide d else false then decide (c.y0<=y) else false;let h:=g=true->g=true/\True;b/\b/\(decide a=true->decide a=true/\decide a=true/\True)/\(decide a=true->decide a=true)/\f/\f/\(e=true->e=true/\e=true/\True)/\(e=true->e=true)/\h/\h/\(g=true->g=true/\g=true/\True)/\(g=true->g=true)/\Le (bv (bif bif bif decide a then decide d else false then decide (c.y0<=y) else false then decide (y<c.y1) else false)) (bv (N4 c x y))/\True) (b3e) func90 n (by kernel_rfl) (by kernel_rfl) ?_
 with_reducible repeat' first|exact trivial|apply And.intro|apply HB.mk|intro _|assumption
 all_goals first|exact Le.bool rfl
def b0p (c:R4) (x y:Int):Cz:={
 ct:=(fun f=>match f with
 |90=>some fun _ _=>fun | [.c (.agg [.v (.int _ a0),.v (.int _ a1),.v (.int _ a2),.v (.int _ a3)]),.c (.agg [.v (.int _ X),.v (.int _ Y)])]=>some {v:=bv (N4 ⟨a0,a1,a2,a3⟩ X Y)}|_=>none
 |_=>none)
 nf:=[(13,bv (!N4 c x y))],wh:=[36]}
theorem C89 (c:R4) (x y:Int) (p0 p1 p2 p3:UInt8)  : f4 prog 89 [iv .i64 x,iv .i64 y,ag [ub p0,ub p1,ub p2,ub p3],.c (.l (.p 0 0))] [(0,⟨[li c.x0,li c.y0,li c.x1,li c.y1],.t 66⟩)] 1 (ag [ub (vK (N4 c x y) p0),ub (vK (N4 c x y) p1),ub (vK (N4 c x y) p2),ub (vK (N4 c x y) p3)]) [] 0:=by
 refine E3 (q:=let a:=N4 c x y;let b:=bv !N4 c x y;let d:=(ag [l8 (Nat.cast ((vK a p0).toNat):Int),l8 (Nat.cast ((vK a p1).toNat):Int),l8 (Nat.cast ((vK a p2).toNat):Int),l8 (Nat.cast ((vK a p3).toNat):Int)]);Kd 90 [] [ag [li c.x0,li c.y0,li c.x1,li c.y1],ag [li x,li y]] [] 3 (bv a) [] 0/\Le b b/\HB (!N4 c x y) (0=0/\4=4/\Le (ag [l8 0,l8 0,l8 0,l8 0]) d/\True) (0=0/\4=4/\Le (ag [l8 (p0.toNat:Int),l8 (p1.toNat:Int),l8 (p2.toNat:Int),l8 (p3.toNat:Int)]) d/\True)) (b0p c x y) [] func89 (by kernel_rfl) (by kernel_rfl) ?_
 with_reducible repeat' first|exact trivial|apply And.intro|apply HB.mk|intro _
 all_goals first|(with_reducible first|exact Le.refl _|rfl|exact C90 ⟨_,_,_,_⟩ _ _ _)|refine Le.of ?_;rw[bH ((by with_reducible assumption):(!N4 c x y)=false)];rfl|refine Le.of ?_;rw[fF ((by with_reducible assumption):(!N4 c x y)=true)];rfl
theorem c7e (c:R4) (x y:Int) (p0 p1 p2 p3:UInt8) (id n:Nat) (hi:id<n):f4 prog 89 [iv .i64 x,iv .i64 y,ag [ub p0,ub p1,ub p2,ub p3],.c (.l (.p id 0))] [(id,⟨[li c.x0,li c.y0,li c.x1,li c.y1],.t 66⟩)] n (ag [ub (vK (N4 c x y) p0),ub (vK (N4 c x y) p1),ub (vK (N4 c x y) p2),ub (vK (N4 c x y) p3)]) [] 0:=f4.at1 (C89 c x y p0 p1 p2 p3) id n hi
end Ab
end
end Go.Proofs.YtpdckpifhniioaaGreat
