/- Part 8 of what CodecOpens rests on. -/
import Derived.Test.YtpdckpifhniioaaGreatWg
open Go.Proofs.Tryz
set_option maxRecDepth 100000
set_option maxHeartbeats 8000000
set_option linter.unusedVariables false
set_option linter.unusedSimpArgs false
namespace Go.Proofs.YtpdckpifhniioaaGreat
open Go.RowKit
section
namespace Ab
attribute [local irreducible] j8
theorem Ss:j6 prog 93:=fun args w=>by go_simp
theorem C93 (id:Nat) (s:ByteArray) (P:Int) (f:Bool)  (hs:s.size<=1000000000000000000) (h0:0<=P) (hP:P<=s.size) (n:Nat) :
  f4 prog 93 [.c (.l (.p id 0))] [(id,⟨[.v (.string s),.v (.int .i64 P),.v (.bool f)],.t 149⟩)] n (iv .i64 (Oct.l7 s P.toNat f).1) [(id,⟨[.v (.string s),.v (.int .i64 ((Oct.l7 s P.toNat f).2.1:Nat)),.v (.bool (Oct.l7 s P.toNat f).2.2)],.t 149⟩)] 0:=by
 have hp:P.toNat<=s.size:=by omega
 have e:P=(P.toNat:Int):=by omega
 have key:=sZ (id:=id) (n:=n) (F:=93) Ss (s:=s) (p:=P.toNat) (p':=(Oct.l7 s P.toNat f).2.1) (f:=f) (f':=(Oct.l7 s P.toNat f).2.2) (ar:=[]) (vals:=[]) (v:=iv .i64 (Oct.l7 s P.toNat f).1) (y:=.int .i64 (Oct.l7 s P.toNat f).1) rfl rfl (fun b w h=>Oct.oZ b s P.toNat f w h hs hp)
 unfold wW at key
 rw[<-e] at key
 exact key
theorem Lk:j6 prog 91:=fun args w=>by go_simp
theorem C91 (id:Nat) (s:ByteArray) (P:Int) (f:Bool)  (hs:s.size<=1000000000000000000) (h0:0<=P) (hP:P<=s.size) (n:Nat) :
  f4 prog 91 [.c (.l (.p id 0))] [(id,⟨[.v (.string s),.v (.int .i64 P),.v (.bool f)],.t 149⟩)] n (.c (.l (.v (.string (Oct.y5 s P.toNat f).1)))) [(id,⟨[.v (.string s),.v (.int .i64 ((Oct.y5 s P.toNat f).2.1:Nat)),.v (.bool (Oct.y5 s P.toNat f).2.2)],.t 149⟩)] 0:=by
 have hp:P.toNat<=s.size:=by omega
 have e:P=(P.toNat:Int):=by omega
 have key:=sZ (id:=id) (n:=n) (F:=91) Lk (s:=s) (p:=P.toNat) (p':=(Oct.y5 s P.toNat f).2.1) (f:=f) (f':=(Oct.y5 s P.toNat f).2.2) (ar:=[]) (vals:=[]) (v:=.c (.l (.v (.string (Oct.y5 s P.toNat f).1)))) (y:=.string (Oct.y5 s P.toNat f).1) rfl rfl (fun b w h=>Oct.wZ b s P.toNat f w h hs hp)
 unfold wW at key
 rw[<-e] at key
 exact key
theorem Tm:j6 prog 92:=fun args w=>by go_simp
theorem C92 (id:Nat) (s:ByteArray) (P:Int) (f:Bool) (m:Int) (hs:s.size<=1000000000000000000) (h0:0<=P) (hP:P<=s.size) (n:Nat) :
  f4 prog 92 [.c (.l (.p id 0)),iv .i64 m] [(id,⟨[.v (.string s),.v (.int .i64 P),.v (.bool f)],.t 149⟩)] n (iv .i64 (wrap64 (Oct.kR (Oct.l5 s P.toNat f (Oct.sz m)).1.data.toList))) [(id,⟨[.v (.string s),.v (.int .i64 ((Oct.l5 s P.toNat f (Oct.sz m)).2.1:Nat)),.v (.bool (Oct.l5 s P.toNat f (Oct.sz m)).2.2)],.t 149⟩)] 0:=by
 have hp:P.toNat<=s.size:=by omega
 have e:P=(P.toNat:Int):=by omega
 have key:=sZ (id:=id) (n:=n) (F:=92) Tm (s:=s) (p:=P.toNat) (p':=(Oct.l5 s P.toNat f (Oct.sz m)).2.1) (f:=f) (f':=(Oct.l5 s P.toNat f (Oct.sz m)).2.2) (ar:=[iv .i64 m]) (vals:=[.int .i64 m]) (v:=iv .i64 (wrap64 (Oct.kR (Oct.l5 s P.toNat f (Oct.sz m)).1.data.toList))) (y:=.int .i64 (wrap64 (Oct.kR (Oct.l5 s P.toNat f (Oct.sz m)).1.data.toList))) rfl rfl (fun b w h=>Oct.Oz b s P.toNat f w m h hs hp)
 unfold wW at key
 rw[<-e] at key
 exact key
theorem Mu:j6 prog 94:=fun args w=>by go_simp
theorem C94 (id:Nat) (s:ByteArray) (P:Int) (f:Bool) (m:Int) (hs:s.size<=1000000000000000000) (h0:0<=P) (hP:P<=s.size) (n:Nat) :
  f4 prog 94 [.c (.l (.p id 0)),iv .i64 m] [(id,⟨[.v (.string s),.v (.int .i64 P),.v (.bool f)],.t 149⟩)] n (.c (.l (.v (.string (Oct.l5 s P.toNat f m).1)))) [(id,⟨[.v (.string s),.v (.int .i64 ((Oct.l5 s P.toNat f m).2.1:Nat)),.v (.bool (Oct.l5 s P.toNat f m).2.2)],.t 149⟩)] 0:=by
 have hp:P.toNat<=s.size:=by omega
 have e:P=(P.toNat:Int):=by omega
 have key:=sZ (id:=id) (n:=n) (F:=94) Mu (s:=s) (p:=P.toNat) (p':=(Oct.l5 s P.toNat f m).2.1) (f:=f) (f':=(Oct.l5 s P.toNat f m).2.2) (ar:=[iv .i64 m]) (vals:=[.int .i64 m]) (v:=.c (.l (.v (.string (Oct.l5 s P.toNat f m).1)))) (y:=.string (Oct.l5 s P.toNat f m).1) rfl rfl (fun b w h=>Oct.jA b s P.toNat f w m h hs hp)
 unfold wW at key
 rw[<-e] at key
 exact key
theorem rf1 (s:ByteArray) (p:Nat) (hs:s.size<=1000000000000000000) (hp:p<=s.size) (id n:Nat):f4 prog 92 [.c (.l (.p id 0)),iv .i64 2] [(id,⟨[.v (.string s),.v (.int .i64 (p:Nat)),.v (.bool false)],.t 149⟩)] n (iv .i64 (lA s p)) [(id,⟨[.v (.string s),.v (.int .i64 ((fA s p).1:Nat)),.v (.bool (fA s p).2)],.t 149⟩)] 0:=by
 have h1:=O0 hp
 have h2:=O8 hp
 have h3:=O4 hp
 have h4:=O2 hp
 exact C92 id s ((p:Nat):Int) (false) 2 hs (by omega) (by omega) n
theorem rf2 (s:ByteArray) (p:Nat) (hs:s.size<=1000000000000000000) (hp:p<=s.size) (id n:Nat):f4 prog 92 [.c (.l (.p id 0)),iv .i64 2] [(id,⟨[.v (.string s),.v (.int .i64 ((fA s p).1:Nat)),.v (.bool (fA s p).2)],.t 149⟩)] n (iv .i64 (kY s p)) [(id,⟨[.v (.string s),.v (.int .i64 ((dG s p).1:Nat)),.v (.bool (dG s p).2)],.t 149⟩)] 0:=by
 have h1:=O0 hp
 have h2:=O8 hp
 have h3:=O4 hp
 have h4:=O2 hp
 exact C92 id s (((fA s p).1:Nat):Int) ((fA s p).2) 2 hs (by omega) (by omega) n
theorem rf3 (s:ByteArray) (p:Nat) (hs:s.size<=1000000000000000000) (hp:p<=s.size) (id n:Nat):f4 prog 94 [.c (.l (.p id 0)),iv .i64 4] [(id,⟨[.v (.string s),.v (.int .i64 ((dG s p).1:Nat)),.v (.bool (dG s p).2)],.t 149⟩)] n (.c (.l (.v (.string (Dk s p))))) [(id,⟨[.v (.string s),.v (.int .i64 ((gH s p).1:Nat)),.v (.bool (gH s p).2)],.t 149⟩)] 0:=by
 have h1:=O0 hp
 have h2:=O8 hp
 have h3:=O4 hp
 have h4:=O2 hp
 exact C94 id s (((dG s p).1:Nat):Int) ((dG s p).2) 4 hs (by omega) (by omega) n
theorem rf4 (s:ByteArray) (p:Nat) (hs:s.size<=1000000000000000000) (hp:p<=s.size) (id n:Nat):f4 prog 93 [.c (.l (.p id 0))] [(id,⟨[.v (.string s),.v (.int .i64 ((gH s p).1:Nat)),.v (.bool (gH s p).2)],.t 149⟩)] n (iv .i64 (kO s p)) [(id,⟨[.v (.string s),.v (.int .i64 ((fK s p).1:Nat)),.v (.bool (fK s p).2)],.t 149⟩)] 0:=by
 have h1:=O0 hp
 have h2:=O8 hp
 have h3:=O4 hp
 have h4:=O2 hp
 exact C93 id s (((gH s p).1:Nat):Int) ((gH s p).2)  hs (by omega) (by omega) n
theorem rf5 (s:ByteArray) (p:Nat) (hs:s.size<=1000000000000000000) (hp:p<=s.size) (id n:Nat):f4 prog 92 [.c (.l (.p id 0)),iv .i64 4] [(id,⟨[.v (.string s),.v (.int .i64 ((fK s p).1:Nat)),.v (.bool (fK s p).2)],.t 149⟩)] n (iv .i64 (Rx s p)) [(id,⟨[.v (.string s),.v (.int .i64 ((Q4 s p).1:Nat)),.v (.bool (Q4 s p).2)],.t 149⟩)] 0:=by
 have h1:=O0 hp
 have h2:=O8 hp
 have h3:=O4 hp
 have h4:=O2 hp
 exact C92 id s (((fK s p).1:Nat):Int) ((fK s p).2) 4 hs (by omega) (by omega) n
def b1s:Cz:={
 ct:=fun _=>none
 wh:=[40]}
theorem C95 (ax ay bx by_:Int)  (n:Nat):f4 prog 95 [ag [li ax,li ay],ag [li bx,li by_]] [] n (bv (N3 ax ay bx by_)) [] 0:=by
 refine v6 (q:=let a:=ay<by_;let b:=!decide a;let c:=b=true->b=true/\True;let d:=!decide a&&ay==by_;let e:=d=true->d=true/\True;c/\c/\(b=true->b=true/\b=true/\True)/\c/\e/\e/\(d=true->d=true/\d=true/\True)/\(b=true->b=true/\((ay==by_)=true->d=true)/\True)/\(decide a=false->b=true)/\Le (bv (bif decide a then true else bif ay==by_ then decide (ax<bx) else false)) (bv (N3 ax ay bx by_))/\True) (b1s) func95 n (by kernel_rfl) (by kernel_rfl) ?_
 with_reducible repeat' first|exact trivial|apply And.intro|apply HB.mk|intro _|assumption
 all_goals first|refine Le.bool ?_;unfold N3;by_cases h1:ay<by_<;>by_cases h2:ay=by_<;>by_cases h3:ax<bx<;>simp[h1,h2,h3]|simp only[*,Bool.and_self,Bool.not_false,Bool.not_true];done
def vA (s t:ByteArray) (p k:Nat):St:=⟨[(11,iv .i64 (k:Nat)),(7,iv .i64 (nN s:Nat)),(10,iv .i64 (N8 s k)),(8,.c (.l (.p 3 0))),(6,.c (.l (.p 2 0))),(3,.c (.l (.p 1 0))),(9,.c (.l (.o 5 k))),(4,.c (.l (.v (.string s)))),(2,.c (.l (.p 0 0)))],[(0,some ⟨[.v (.pointer none),.v (.int .i64 0)],.t 82⟩),(1,some ⟨[.v (.string t),.v (.int .i64 (p:Nat)),.v (.bool false)],.t 149⟩),(2,some ⟨[.v (.string s),.v (.int .i64 (o3 s k:Nat)),.v (.bool false)],.t 149⟩),(3,some ⟨[.o 4 k,li 0],.t 91⟩),(4,some ⟨o4 (E4 s k),.r 59 8 4⟩),(5,some ⟨U5 s k,.r 3 1 5⟩)],6,215,[5,4,3,2,1,0],(0)⟩
def Q35:St:=⟨[(2,.c (.l (.p 0 0)))],[(0,some ⟨[.v (.pointer none),.v (.int .i64 11)],.t 82⟩)],6,215,[5,4,3,2,1,0],(0)⟩
theorem b8x {s:ByteArray} {k:Nat} (h1:I6 s (o3 s k)=false) (h:(!N3 (C1 s (k-1)).X (C1 s (k-1)).Y (C1 s k).X (C1 s k).Y)=true) (h0:decide (((k:Nat):Int)>0)=true):M0 s k=false:=by
 unfold M0 kQ
 rw[h0,h,h1];rfl
theorem Ew {s:ByteArray} {k:Nat} (h1:I6 s (o3 s k)=false) (h:(!N3 (C1 s (k-1)).X (C1 s (k-1)).Y (C1 s k).X (C1 s k).Y)=false):M0 s k=true:=by
 unfold M0 kQ
 rw[h,h1]
 cases decide (((k:Nat):Int)>0)<;>rfl
theorem Dz {s:ByteArray} {k:Nat} (h1:I6 s (o3 s k)=false) (h0:decide (((k:Nat):Int)>0)=false):M0 s k=true:=by
 unfold M0 kQ
 rw[h0,h1];rfl
theorem Ip (s:ByteArray) (k:Nat):k=0\/(0<k/\N3 (C1 s (k-1)).X (C1 s (k-1)).Y (C1 s k).X (C1 s k).Y=true)\/(0<k/\N3 (C1 s (k-1)).X (C1 s (k-1)).Y (C1 s k).X (C1 s k).Y=false):=by
 rcases Nat.eq_zero_or_pos k with h|h
 ·exact .inl h
 ·cases N3 (C1 s (k-1)).X (C1 s (k-1)).Y (C1 s k).X (C1 s k).Y
  ·exact .inr (.inr ⟨h,rfl⟩)
  ·exact .inr (.inl ⟨h,rfl⟩)
theorem d1s {s:ByteArray} {k:Nat} (h:I6 s (o3 s k)=false):(Dk s (o3 s k)).size=4:=yR (M5 h).1
def a7l (s:ByteArray) (k:Nat):Rw:=some fun _ _S=>fun | [.c (.l (.p i _)),.c (.l (.v (.int _ m)))]=>(match _S.E with|(75,_)::_=>some ⟨iv .i64 (lA s (o3 s k)),[i],[(i,⟨[.v (.string s),.v (.int .i64 ((fA s (o3 s k)).1:Nat)),.v (.bool (fA s (o3 s k)).2)],.t 149⟩)],0,[]⟩|(80,_)::_=>some ⟨iv .i64 (kY s (o3 s k)),[i],[(i,⟨[.v (.string s),.v (.int .i64 ((dG s (o3 s k)).1:Nat)),.v (.bool (dG s (o3 s k)).2)],.t 149⟩)],0,[]⟩|(89,_)::_=>some ⟨iv .i64 (Rx s (o3 s k)),[i],[(i,⟨[.v (.string s),.v (.int .i64 ((Q4 s (o3 s k)).1:Nat)),.v (.bool (Q4 s (o3 s k)).2)],.t 149⟩)],0,[]⟩|_=>none)|_=>none
def a7q (s:ByteArray) (k:Nat):Rw:=some fun _ _S=>fun | [.c (.l (.p i _))]=>(match _S.E with|(87,_)::_=>some ⟨iv .i64 (kO s (o3 s k)),[i],[(i,⟨[.v (.string s),.v (.int .i64 ((fK s (o3 s k)).1:Nat)),.v (.bool (fK s (o3 s k)).2)],.t 149⟩)],0,[]⟩|_=>none)|_=>none
def a8c (s:ByteArray) (k:Nat):Rw:=some fun _ _S=>fun | [.c (.l (.p i _)),.c (.l (.v (.int _ m)))]=>(match _S.E with|(85,_)::_=>some ⟨.c (.l (.v (.string (Dk s (o3 s k))))),[i],[(i,⟨[.v (.string s),.v (.int .i64 ((gH s (o3 s k)).1:Nat)),.v (.bool (gH s (o3 s k)).2)],.t 149⟩)],0,[]⟩|_=>none)|_=>none
def b1c:Rw:=some fun _ _=>fun | [.c (.agg [.v (.int _ ax),.v (.int _ ay)]),.c (.agg [.v (.int _ cx),.v (.int _ cy)])]=>some {v:=bv (N3 ax ay cx cy)}|_=>none
def Ml (s t:ByteArray) (p:Nat) (k:Nat):Cz:={
 ct:=(fun f=>match f with
 |92=>a7l s k
 |93=>a7q s k
 |94=>a8c s k
 |95=>b1c
 |_=>none)
 sym:=[125,127,135,137,139,141,151,157],nf:=[(77,iv .i64 (C1 s k).X),(82,iv .i64 (C1 s k).Y),(101,bv (pP s (o3 s k))),(107,bv (pN s (o3 s k))),(111,bv (pI s (o3 s k))),(115,bv (I6 s (o3 s k))),(127,.c (.agg [li (C1 s (k-1)).X,li (C1 s (k-1)).Y])),(129,.c (.agg [li (C1 s k).X,li (C1 s k).Y])),(149,.c (.agg (en (C1 s k)))),(155,iv .i64 (J3 s k)),(159,iv .i64 (J3 s k)),(118,bv false)],wh:=[59,40]}
theorem a4k (s t:ByteArray) (p:Nat) (k:Nat)  (K:Exit->St->Prop) (h:let a:=(Nat.cast ((nN s)):Int);let b:=[j7 2 0,i8 2];let d:=o3 s k;let e:=[l9 s,li (Nat.cast (d):Int),lb false];let f:=[l9 s,li (Nat.cast ((fA s d).fst):Int),lb (fA s d).snd];let g:=[(2,j9 f 149)];let i:=lA s d-8192;let j:=C1 s k;let m:=[l9 s,li (Nat.cast ((dG s d).fst):Int),lb (dG s d).snd];let n:=[(2,j9 m 149)];let q:=kY s d-8192;let u:=[j7 2 0,i8 4];let w:=Dk s d;let x:=[l9 s,li (Nat.cast ((gH s d).fst):Int),lb (gH s d).snd];let y:=[(2,j9 x 149)];let z:=i8 (kO s d);let A:=[l9 s,li (Nat.cast ((fK s d).fst):Int),lb (fK s d).snd];let B:=[(2,j9 A 149)];let C:=Rx s d;let D:=Q4 s d;let E:=[l9 s,li (Nat.cast (D.fst):Int),lb D.snd];let G:=(!D.snd)=true->(!D.snd)=true/\True;let H:=!pP s d;let I:=H=true->H=true/\True;let J:=!pN s d;let L:=!pI s d;let M:=(2,j7 0 0);let N:=(3,j7 1 0);let O:=(4,l4 (l9 s));let P:=(6,j7 2 0);let Q:=(7,i8 a);let R:=(8,j7 3 0);let T:=[M,N,O,P,Q,R,(9,l4 (Leaf.o 5 k)),(10,i8 (N8 s k)),(11,i8 (k:Int))];let U:=Value.pointer none;let V:=ByteArray.mk #[];let W:=(6,some (j9 [li j.X,li j.Y,l8 0,l8 0,l8 0,l8 0,li C,l9 V] 59));let Z:=(2,some (j9 E 149));let aa:=(2,some (j9 A 149));let ab:=(2,some (j9 x 149));let ac:=(6,some (j9 [li j.X,li j.Y,l8 0,l8 0,l8 0,l8 0,li 0,l9 V] 59));let ad:=(2,some (j9 m 149));let ae:=(6,some (j9 [li j.X,li 0,l8 0,l8 0,l8 0,l8 0,li 0,l9 V] 59));let af:=[li 0,li 0,l8 0,l8 0,l8 0,l8 0,li 0,l9 V];let ah:=(6,some (j9 af 59));let ai:=(2,some (j9 f 149));let aj:=(0,some (j9 [Leaf.v U,li 0] 82));let ak:=(1,some (j9 [l9 t,li (p:Int),lb false] 149));let al:=(2,some (j9 e 149));let am:=(3,some (j9 [Leaf.o 4 k,li 0] 91));let an:=o4 (E4 s k);let ao:=(4,some (o8 an 59 8 4));let ap:=U5 s k;let aq:=(5,some (o8 ap 3 1 5));let ar:=[li j.X,li j.Y,l8 (Nat.cast ((w.get! (Int.toNat 0)).toNat):Int),l8 (Nat.cast ((w.get! (Int.toNat 1)).toNat):Int),l8 (Nat.cast ((w.get! (Int.toNat 2)).toNat):Int),l8 (Nat.cast ((w.get! (Int.toNat 3)).toNat):Int),li C,l9 V];let au:=i8 (J3 s k);let av:=N8 s k+J3 s k;let aw:=((k:Int)+1);let ax:=(A2 18 (Tryz.f35.body.getD Code.skip)).getD Code.skip;let ay:=wkK 6 K;let az:=(10,i8 av);let a0:=(11,i8 aw);let a1:=[M,N,O,P,Q,R,(9,l4 (Leaf.o 5 (k+1))),az,a0];let a2:=[li (J3 s k)];let a3:=U5 s k++a2;let a4:=(5,some (o8 a3 3 1 5));let a5:=(8,some (o8 a2 3 1 8));let a6:=(3,some (j9 [Leaf.o 4 (k+1),li 0] 91));let a7:=o4 (E4 s k)++j4 af 0 (en j);let a8:=(4,some (o8 a7 59 8 4));let a9:=(7,some (o8 (j4 af 0 (en j)) 59 8 7));let aA:=(6,some (j9 ar 59));let aB:=[(5,k+1,false)];let aC:=[(4,k+1,false)];let aD:=(9,some (o8 a2 3 1 9));let aE:=(3,some (j9 [Leaf.o 8 (k+1),li 0] 91));let aF:=(8,some (o8 a7 59 8 8));HB (decide ((k:Int)<a)) (Kd 92 [] b [(2,j9 e 149)] 6 (i8 (lA s d)) g 0/\IntKind.i64.wrap i=lA s d-8192/\Le (i8 i) (i8 j.X)/\0=0/\8=8/\Kd 92 [] b g 7 (i8 (kY s d)) n 0/\IntKind.i64.wrap q=kY s d-8192/\Le (i8 q) (i8 j.Y)/\Kd 94 [] u n 7 (l4 (l9 w)) y 0/\Kd 93 [] [j7 2 0] y 7 z B 0/\Kd 92 [] u B 7 (i8 C) [(2,j9 E 149)] 0/\G/\G/\G/\(D.snd=false->(!D.snd)=true)/\Le (bv (bif D.snd then true else decide (j.X>8191))) (bv (pP s d))/\I/\I/\I/\(pP s d=false->H=true)/\Le (bv (bif pP s d then true else decide (j.Y>8191))) (bv (pN s d))/\(J=true->J=true/\True)/\(pN s d=false->J=true)/\Le (bv (bif pN s d then true else decide (kO s d<1))) (bv (pI s d))/\(L=true->L=true/\True)/\(pI s d=false->L=true)/\Le (bv (bif pI s d then true else decide (kO s d>257))) (bv (I6 s d))/\HB (I6 s d) (wkK 6 K Exit.ret (St.mk T [(0,some (j9 [Leaf.v U,li 11] 82)),W,Z,aa,ab,ac,ad,ae,ah,ai,aj,ak,al,am,ao,aq] 7 215 [0,6,2,2,2,6,2,6,6,2,5,4,3,2,1,0] 0)) (Le (bv (decide ((k:Int)>0))) (bv false)/\t0 0 w.size/\t0 1 w.size/\t0 2 w.size/\t0 3 w.size/\(Le (ag ar) (ag (en j))/\an.length=k*8/\8=8/\(Le z au/\ap.length=k*1/\1=1/\Le z au/\IntKind.i64.wrap av=N8 s k+J3 s k/\IntKind.i64.wrap aw=(k:Int)+1/\RoundTo prog ax 6 ay (St.mk a1 [a4,a5,a6,a8,a9,aA,W,Z,aa,ab,ac,ad,ae,ah,ai,aj,ak,al,am,ao,aq] 9 215 [5,8,3,4,7,6,6,2,2,2,6,2,6,6,2,5,4,3,2,1,0] 0))/\Le z au/\aB=aB/\fW prog 3 (k+1)/\ap.length=k*1/\1=1/\Le z au/\IntKind.i64.wrap av=N8 s k+J3 s k/\IntKind.i64.wrap aw=(k:Int)+1/\RoundTo prog ax 6 ay (St.mk [M,N,O,P,Q,R,(9,l4 (Leaf.o 9 (k+1))),az,a0] [(9,some (o8 a3 3 1 9)),a5,a6,a8,a9,aA,W,Z,aa,ab,ac,ad,ae,ah,ai,aj,ak,al,am,ao,aq] 10 215 [9,8,3,4,7,6,6,2,2,2,6,2,6,6,2,5,4,3,2,1,0] 0))/\Le (ag ar) (ag (en j))/\aC=aC/\fW prog 59 (k+1)/\an.length=k*8/\8=8/\(Le z au/\ap.length=k*1/\1=1/\Le z au/\IntKind.i64.wrap av=N8 s k+J3 s k/\IntKind.i64.wrap aw=(k:Int)+1/\RoundTo prog ax 6 ay (St.mk a1 [a4,aD,aE,aF,a9,aA,W,Z,aa,ab,ac,ad,ae,ah,ai,aj,ak,al,am,ao,aq] 10 215 [5,9,3,8,7,6,6,2,2,2,6,2,6,6,2,5,4,3,2,1,0] 0))/\Le z au/\aB=aB/\fW prog 3 (k+1)/\ap.length=k*1/\1=1/\Le z au/\IntKind.i64.wrap av=N8 s k+J3 s k/\IntKind.i64.wrap aw=(k:Int)+1/\RoundTo prog ax 6 ay (St.mk [M,N,O,P,Q,R,(9,l4 (Leaf.o 10 (k+1))),az,a0] [(10,some (o8 a3 3 1 10)),aD,aE,aF,a9,aA,W,Z,aa,ab,ac,ad,ae,ah,ai,aj,ak,al,am,ao,aq] 11 215 [10,9,3,8,7,6,6,2,2,2,6,2,6,6,2,5,4,3,2,1,0] 0))) (wkK 6 K (Exit.exit 0) (St.mk T [aj,ak,al,am,ao,aq] 6 215 [5,4,3,2,1,0] 0))):z4 prog (gl 18 Tryz.f35) (vA s t p k) (wkK 6 K):=
 cT [2,3,4,6,7,8,9,10,11] (cx:=Ml s t p k) rfl (u3 (by kernel_rfl) h)
def Pi (s t:ByteArray) (p:Nat) (k:Nat):Cz:={
 ct:=(fun f=>match f with
 |92=>a7l s k
 |93=>a7q s k
 |94=>a8c s k
 |95=>b1c
 |_=>none)
 sym:=[125,127,135,137,139,141,151,157],nf:=[(77,iv .i64 (C1 s k).X),(82,iv .i64 (C1 s k).Y),(101,bv (pP s (o3 s k))),(107,bv (pN s (o3 s k))),(111,bv (pI s (o3 s k))),(115,bv (I6 s (o3 s k))),(127,.c (.agg [li (C1 s (k-1)).X,li (C1 s (k-1)).Y])),(129,.c (.agg [li (C1 s k).X,li (C1 s k).Y])),(149,.c (.agg (en (C1 s k)))),(155,iv .i64 (J3 s k)),(159,iv .i64 (J3 s k)),(118,bv true),(130,bv true)],wh:=[59,40]}
theorem c1e (s t:ByteArray) (p:Nat) (k:Nat)  (K:Exit->St->Prop) (h:let a:=(Nat.cast ((nN s)):Int);let b:=[j7 2 0,i8 2];let d:=o3 s k;let e:=[l9 s,li (Nat.cast (d):Int),lb false];let f:=[l9 s,li (Nat.cast ((fA s d).fst):Int),lb (fA s d).snd];let g:=[(2,j9 f 149)];let i:=lA s d-8192;let j:=C1 s k;let m:=[l9 s,li (Nat.cast ((dG s d).fst):Int),lb (dG s d).snd];let n:=[(2,j9 m 149)];let q:=kY s d-8192;let u:=[j7 2 0,i8 4];let w:=Dk s d;let x:=[l9 s,li (Nat.cast ((gH s d).fst):Int),lb (gH s d).snd];let y:=[(2,j9 x 149)];let z:=i8 (kO s d);let A:=[l9 s,li (Nat.cast ((fK s d).fst):Int),lb (fK s d).snd];let B:=[(2,j9 A 149)];let C:=Rx s d;let D:=Q4 s d;let E:=[l9 s,li (Nat.cast (D.fst):Int),lb D.snd];let G:=(!D.snd)=true->(!D.snd)=true/\True;let H:=!pP s d;let I:=H=true->H=true/\True;let J:=!pN s d;let L:=!pI s d;let M:=(2,j7 0 0);let N:=(3,j7 1 0);let O:=(4,l4 (l9 s));let P:=(6,j7 2 0);let Q:=(7,i8 a);let R:=(8,j7 3 0);let T:=[M,N,O,P,Q,R,(9,l4 (Leaf.o 5 k)),(10,i8 (N8 s k)),(11,i8 (k:Int))];let U:=Value.pointer none;let V:=ByteArray.mk #[];let W:=(6,some (j9 [li j.X,li j.Y,l8 0,l8 0,l8 0,l8 0,li C,l9 V] 59));let Z:=(2,some (j9 E 149));let aa:=(2,some (j9 A 149));let ab:=(2,some (j9 x 149));let ac:=(6,some (j9 [li j.X,li j.Y,l8 0,l8 0,l8 0,l8 0,li 0,l9 V] 59));let ad:=(2,some (j9 m 149));let ae:=(6,some (j9 [li j.X,li 0,l8 0,l8 0,l8 0,l8 0,li 0,l9 V] 59));let af:=[li 0,li 0,l8 0,l8 0,l8 0,l8 0,li 0,l9 V];let ah:=(6,some (j9 af 59));let ai:=(2,some (j9 f 149));let aj:=(0,some (j9 [Leaf.v U,li 0] 82));let ak:=(1,some (j9 [l9 t,li (p:Int),lb false] 149));let al:=(2,some (j9 e 149));let am:=(3,some (j9 [Leaf.o 4 k,li 0] 91));let an:=o4 (E4 s k);let ao:=(4,some (o8 an 59 8 4));let ap:=U5 s k;let aq:=(5,some (o8 ap 3 1 5));let ar:=((k:Int)-1);let au:=C1 s (k-1);let av:=[li au.X,li au.Y];let aw:=[li j.X,li j.Y];let ax:=bv (N3 au.X au.Y j.X j.Y);let ay:=[li j.X,li j.Y,l8 (Nat.cast ((w.get! (Int.toNat 0)).toNat):Int),l8 (Nat.cast ((w.get! (Int.toNat 1)).toNat):Int),l8 (Nat.cast ((w.get! (Int.toNat 2)).toNat):Int),l8 (Nat.cast ((w.get! (Int.toNat 3)).toNat):Int),li C,l9 V];let az:=i8 (J3 s k);let a0:=N8 s k+J3 s k;let a1:=((k:Int)+1);let a2:=(A2 18 (Tryz.f35.body.getD Code.skip)).getD Code.skip;let a3:=wkK 6 K;let a4:=(10,i8 a0);let a5:=(11,i8 a1);let a6:=[M,N,O,P,Q,R,(9,l4 (Leaf.o 5 (k+1))),a4,a5];let a7:=[li (J3 s k)];let a8:=U5 s k++a7;let a9:=(5,some (o8 a8 3 1 5));let aA:=(8,some (o8 a7 3 1 8));let aB:=(3,some (j9 [Leaf.o 4 (k+1),li 0] 91));let aC:=o4 (E4 s k)++j4 af 0 (en j);let aD:=(4,some (o8 aC 59 8 4));let aE:=(7,some (o8 (j4 af 0 (en j)) 59 8 7));let aF:=(6,some (j9 ay 59));let aG:=[(5,k+1,false)];let aH:=[(4,k+1,false)];let aI:=(9,some (o8 a7 3 1 9));let aJ:=(3,some (j9 [Leaf.o 8 (k+1),li 0] 91));let aK:=(8,some (o8 aC 59 8 8));HB (decide ((k:Int)<a)) (Kd 92 [] b [(2,j9 e 149)] 6 (i8 (lA s d)) g 0/\IntKind.i64.wrap i=lA s d-8192/\Le (i8 i) (i8 j.X)/\0=0/\8=8/\Kd 92 [] b g 7 (i8 (kY s d)) n 0/\IntKind.i64.wrap q=kY s d-8192/\Le (i8 q) (i8 j.Y)/\Kd 94 [] u n 7 (l4 (l9 w)) y 0/\Kd 93 [] [j7 2 0] y 7 z B 0/\Kd 92 [] u B 7 (i8 C) [(2,j9 E 149)] 0/\G/\G/\G/\(D.snd=false->(!D.snd)=true)/\Le (bv (bif D.snd then true else decide (j.X>8191))) (bv (pP s d))/\I/\I/\I/\(pP s d=false->H=true)/\Le (bv (bif pP s d then true else decide (j.Y>8191))) (bv (pN s d))/\(J=true->J=true/\True)/\(pN s d=false->J=true)/\Le (bv (bif pN s d then true else decide (kO s d<1))) (bv (pI s d))/\(L=true->L=true/\True)/\(pI s d=false->L=true)/\Le (bv (bif pI s d then true else decide (kO s d>257))) (bv (I6 s d))/\HB (I6 s d) (wkK 6 K Exit.ret (St.mk T [(0,some (j9 [Leaf.v U,li 11] 82)),W,Z,aa,ab,ac,ad,ae,ah,ai,aj,ak,al,am,ao,aq] 7 215 [0,6,2,2,2,6,2,6,6,2,5,4,3,2,1,0] 0)) (Le (bv (decide ((k:Int)>0))) (bv true)/\IntKind.i64.wrap ar=(k:Int)-1/\t0 ar k/\ar.toNat*8+0+2<=an.length/\Le (ag (List.take 2 (List.drop (ar.toNat*8+0) an))) (ag av)/\Le (ag aw) (ag aw)/\Kd 95 [] [ag av,ag aw] [] 7 ax [] 0/\Le ax (bv true)/\t0 0 w.size/\t0 1 w.size/\t0 2 w.size/\t0 3 w.size/\(Le (ag ay) (ag (en j))/\an.length=k*8/\8=8/\(Le z az/\ap.length=k*1/\1=1/\Le z az/\IntKind.i64.wrap a0=N8 s k+J3 s k/\IntKind.i64.wrap a1=(k:Int)+1/\RoundTo prog a2 6 a3 (St.mk a6 [a9,aA,aB,aD,aE,aF,W,Z,aa,ab,ac,ad,ae,ah,ai,aj,ak,al,am,ao,aq] 9 215 [5,8,3,4,7,6,6,2,2,2,6,2,6,6,2,5,4,3,2,1,0] 0))/\Le z az/\aG=aG/\fW prog 3 (k+1)/\ap.length=k*1/\1=1/\Le z az/\IntKind.i64.wrap a0=N8 s k+J3 s k/\IntKind.i64.wrap a1=(k:Int)+1/\RoundTo prog a2 6 a3 (St.mk [M,N,O,P,Q,R,(9,l4 (Leaf.o 9 (k+1))),a4,a5] [(9,some (o8 a8 3 1 9)),aA,aB,aD,aE,aF,W,Z,aa,ab,ac,ad,ae,ah,ai,aj,ak,al,am,ao,aq] 10 215 [9,8,3,4,7,6,6,2,2,2,6,2,6,6,2,5,4,3,2,1,0] 0))/\Le (ag ay) (ag (en j))/\aH=aH/\fW prog 59 (k+1)/\an.length=k*8/\8=8/\(Le z az/\ap.length=k*1/\1=1/\Le z az/\IntKind.i64.wrap a0=N8 s k+J3 s k/\IntKind.i64.wrap a1=(k:Int)+1/\RoundTo prog a2 6 a3 (St.mk a6 [a9,aI,aJ,aK,aE,aF,W,Z,aa,ab,ac,ad,ae,ah,ai,aj,ak,al,am,ao,aq] 10 215 [5,9,3,8,7,6,6,2,2,2,6,2,6,6,2,5,4,3,2,1,0] 0))/\Le z az/\aG=aG/\fW prog 3 (k+1)/\ap.length=k*1/\1=1/\Le z az/\IntKind.i64.wrap a0=N8 s k+J3 s k/\IntKind.i64.wrap a1=(k:Int)+1/\RoundTo prog a2 6 a3 (St.mk [M,N,O,P,Q,R,(9,l4 (Leaf.o 10 (k+1))),a4,a5] [(10,some (o8 a8 3 1 10)),aI,aJ,aK,aE,aF,W,Z,aa,ab,ac,ad,ae,ah,ai,aj,ak,al,am,ao,aq] 11 215 [10,9,3,8,7,6,6,2,2,2,6,2,6,6,2,5,4,3,2,1,0] 0))) (wkK 6 K (Exit.exit 0) (St.mk T [aj,ak,al,am,ao,aq] 6 215 [5,4,3,2,1,0] 0))):z4 prog (gl 18 Tryz.f35) (vA s t p k) (wkK 6 K):=
 cT [2,3,4,6,7,8,9,10,11] (cx:=Pi s t p k) rfl (u3 (by kernel_rfl) h)
def Mo (s t:ByteArray) (p:Nat) (k:Nat):Cz:={
 ct:=(fun f=>match f with
 |92=>a7l s k
 |93=>a7q s k
 |94=>a8c s k
 |95=>b1c
 |_=>none)
 sym:=[125,127,135,137,139,141,151,157],nf:=[(77,iv .i64 (C1 s k).X),(82,iv .i64 (C1 s k).Y),(101,bv (pP s (o3 s k))),(107,bv (pN s (o3 s k))),(111,bv (pI s (o3 s k))),(115,bv (I6 s (o3 s k))),(127,.c (.agg [li (C1 s (k-1)).X,li (C1 s (k-1)).Y])),(129,.c (.agg [li (C1 s k).X,li (C1 s k).Y])),(149,.c (.agg (en (C1 s k)))),(155,iv .i64 (J3 s k)),(159,iv .i64 (J3 s k)),(118,bv true),(130,bv false)],wh:=[59,40]}
theorem c0l (s t:ByteArray) (p:Nat) (k:Nat)  (K:Exit->St->Prop) (h:let a:=(Nat.cast ((nN s)):Int);let b:=[j7 2 0,i8 2];let d:=o3 s k;let e:=[l9 s,li (Nat.cast (d):Int),lb false];let f:=[l9 s,li (Nat.cast ((fA s d).fst):Int),lb (fA s d).snd];let g:=[(2,j9 f 149)];let i:=lA s d-8192;let j:=C1 s k;let m:=[l9 s,li (Nat.cast ((dG s d).fst):Int),lb (dG s d).snd];let n:=[(2,j9 m 149)];let q:=kY s d-8192;let u:=[j7 2 0,i8 4];let w:=[l9 s,li (Nat.cast ((gH s d).fst):Int),lb (gH s d).snd];let x:=[(2,j9 w 149)];let y:=[l9 s,li (Nat.cast ((fK s d).fst):Int),lb (fK s d).snd];let z:=[(2,j9 y 149)];let A:=Q4 s d;let B:=[l9 s,li (Nat.cast (A.fst):Int),lb A.snd];let C:=(!A.snd)=true->(!A.snd)=true/\True;let D:=!pP s d;let E:=D=true->D=true/\True;let G:=!pN s d;let H:=!pI s d;let I:=[(2,j7 0 0),(3,j7 1 0),(4,l4 (l9 s)),(6,j7 2 0),(7,i8 a),(8,j7 3 0),(9,l4 (Leaf.o 5 k)),(10,i8 (N8 s k)),(11,i8 (k:Int))];let J:=Value.pointer none;let L:=ByteArray.mk #[];let M:=(0,some (j9 [Leaf.v J,li 0] 82));let N:=(1,some (j9 [l9 t,li (p:Int),lb false] 149));let O:=(2,some (j9 e 149));let P:=(3,some (j9 [Leaf.o 4 k,li 0] 91));let Q:=o4 (E4 s k);let R:=(4,some (o8 Q 59 8 4));let T:=(5,some (o8 (U5 s k) 3 1 5));let U:=(St.mk I [(0,some (j9 [Leaf.v J,li 11] 82)),(6,some (j9 [li j.X,li j.Y,l8 0,l8 0,l8 0,l8 0,li (Rx s d),l9 L] 59)),(2,some (j9 B 149)),(2,some (j9 y 149)),(2,some (j9 w 149)),(6,some (j9 [li j.X,li j.Y,l8 0,l8 0,l8 0,l8 0,li 0,l9 L] 59)),(2,some (j9 m 149)),(6,some (j9 [li j.X,li 0,l8 0,l8 0,l8 0,l8 0,li 0,l9 L] 59)),(6,some (j9 [li 0,li 0,l8 0,l8 0,l8 0,l8 0,li 0,l9 L] 59)),(2,some (j9 f 149)),M,N,O,P,R,T] 7 215 [0,6,2,2,2,6,2,6,6,2,5,4,3,2,1,0] 0);let V:=((k:Int)-1);let W:=C1 s (k-1);let Z:=[li W.X,li W.Y];let aa:=[li j.X,li j.Y];let ab:=bv (N3 W.X W.Y j.X j.Y);HB (decide ((k:Int)<a)) (Kd 92 [] b [(2,j9 e 149)] 6 (i8 (lA s d)) g 0/\IntKind.i64.wrap i=lA s d-8192/\Le (i8 i) (i8 j.X)/\0=0/\8=8/\Kd 92 [] b g 7 (i8 (kY s d)) n 0/\IntKind.i64.wrap q=kY s d-8192/\Le (i8 q) (i8 j.Y)/\Kd 94 [] u n 7 (l4 (l9 (Dk s d))) x 0/\Kd 93 [] [j7 2 0] x 7 (i8 (kO s d)) z 0/\Kd 92 [] u z 7 (i8 (Rx s d)) [(2,j9 B 149)] 0/\C/\C/\C/\(A.snd=false->(!A.snd)=true)/\Le (bv (bif A.snd then true else decide (j.X>8191))) (bv (pP s d))/\E/\E/\E/\(pP s d=false->D=true)/\Le (bv (bif pP s d then true else decide (j.Y>8191))) (bv (pN s d))/\(G=true->G=true/\True)/\(pN s d=false->G=true)/\Le (bv (bif pN s d then true else decide (kO s d<1))) (bv (pI s d))/\(H=true->H=true/\True)/\(pI s d=false->H=true)/\Le (bv (bif pI s d then true else decide (kO s d>257))) (bv (I6 s d))/\HB (I6 s d) (wkK 6 K Exit.ret U) (Le (bv (decide ((k:Int)>0))) (bv true)/\IntKind.i64.wrap V=(k:Int)-1/\t0 V k/\V.toNat*8+0+2<=Q.length/\Le (ag (List.take 2 (List.drop (V.toNat*8+0) Q))) (ag Z)/\Le (ag aa) (ag aa)/\Kd 95 [] [ag Z,ag aa] [] 7 ab [] 0/\Le ab (bv false)/\wkK 6 K Exit.ret U)) (wkK 6 K (Exit.exit 0) (St.mk I [M,N,O,P,R,T] 6 215 [5,4,3,2,1,0] 0))):z4 prog (gl 18 Tryz.f35) (vA s t p k) (wkK 6 K):=
 cT [2,3,4,6,7,8,9,10,11] (cx:=Mo s t p k) rfl (u3 (by kernel_rfl) h)
theorem Cm (s t:ByteArray) (p:Nat) (hs:s.size<=1000000000000000000) (hn:nN s<=1024):∀(m k:Nat),(nN s)-k=m->k<=(nN s)->(∀j,j<k->M0 s j=true)->∀(K:Exit->St->Prop),((∀j,j<(nN s)->M0 s j=true)->K (.exit 0) (vA s t p (nN s)))->(∀j,j<(nN s)->M0 s j=false->K .ret (Q35))->z4 prog (gl 18 Tryz.f35) (vA s t p k) (wkK 6 K)
 |0,k,hm,hk,hall,K,hK,hR=>by
  have e:k=(nN s):=by omega
  subst e
  refine a4k s t p _ K (HB.no (by omega) ?_)
  exact wkK.tk (vA s t p _) (by kernel_rfl) (d5 (l6.k (by kernel_rfl)) (d5 (l6.k (by kernel_rfl)) (d5 (l6.k (by kernel_rfl)) (d5 (l6.k (by kernel_rfl)) (d5 (l6.p (g9 _) (by kernel_rfl)) (d5 (l6.p (v4 _ _) (by kernel_rfl)) trivial)))))) (hK hall)
 |m+1,k,hm,hk,hall,K,hK,hR=>by
  have hlt:k<(nN s):=by omega
  rcases Ip s k with hz|⟨hz,hl⟩|⟨hz,hl⟩
  refine a4k s t p k K (HB.yes (by omega) ?_)
  rotate_left
  refine c1e s t p k K (HB.yes (by omega) ?_)
  rotate_left
  refine c0l s t p k K (HB.yes (by omega) ?_)
  rotate_left
  all_goals
   have hp0:=cM s k
   have hp1:=O0 hp0
   have hp2:=O8 hp0
   have hp3:=O4 hp0
   have hp4:=O2 hp0
   have hp5:=Ak hp0
   with_reducible repeat' first|exact trivial|apply And.intro|apply HB.mk|intro _|assumption|exact Le.refl _|rfl
   all_goals first|(with_reducible first|exact rf1 _ _ hs hp0 _ _|exact rf2 _ _ hs hp0 _ _|exact rf5 _ _ hs hp0 _ _)|(with_reducible first|exact rf4 _ _ hs hp0 _ _|exact rf3 _ _ hs hp0 _ _|exact C95 _ _ _ _ _)|(exact ⟨by omega,by omega⟩)|(have:=d1s (by with_reducible assumption);exact ⟨by omega,by omega⟩)|have:=hz;rw[y6,cF];omega|refine Le.int ?_;rfl|exact Le.of rfl|have:=hz;refine Le.of ?_;simp only[nO (show 0<k by omega),Nat.zero_add,Nat.add_zero];rw[cO (by rw[cF];omega),Ej s (by omega)]|with_reducible exact Le.bool hl|rw[gC];omega|with_reducible refine a5j ?_;omega|with_reducible refine c3y ?_;omega|exact sS _ (Df _ _)|exact sS _ (Ca _ _)|exact C2 _ (by omega) (by omega)|have ht:=iA hall k (Nat.le_refl _);have hb:=M5 (by with_reducible assumption:I6 s (o3 s k)=false);have e:J3 s k=kO s (o3 s k):=rfl;exact C2 _ (by omega) (by omega)|refine Le.bool (decide_eq_true ?_);omega|refine Le.bool (decide_eq_false ?_);omega|have hcnd:I6 s (o3 s k)=false:=(by with_reducible assumption);(with_reducible refine RoundTo.tk 9 (vA s t p (k+1)) ?_ ?_ ?_);kernel_rfl;exact (d5 (l6.k (by kernel_rfl)) (d5 (l6.k (by kernel_rfl)) (d5 (l6.blk (k:=⟨[.v (.string s),.v (.int .i64 ((Q4 s (o3 s k)).1:Nat)),.v (.bool (Q4 s (o3 s k)).2)],.t 149⟩) (by kernel_rfl) (by rw[(M5 hcnd).1];rfl) (by kernel_rfl)) (d5 (l6.k (by kernel_rfl)) (d5 (l6.plain (cs:=o4 (E4 s k)++en (C1 s k)) (b:=.r 59 8 4) (by kernel_rfl) (L5 s k) (g9 _) (by kernel_rfl)) (d5 (l6.plain (cs:=U5 s k++[li (J3 s k)]) (b:=.r 3 1 5) (by kernel_rfl) (Q3 s k) (v4 _ _) (by kernel_rfl)) trivial))))));exact (Cm s t p hs hn m (k+1) (by omega) (by omega) (fun j hj=>by rcases Nat.lt_or_ge j k with h|h;exact hall j h;have e:j=k:=(by omega);subst e;exact (by first|exact Dz hcnd (decide_eq_false (by omega))|exact Ew hcnd (by rw[hl];rfl))) K hK hR)|have hcnd:I6 s (o3 s k)=false:=(by with_reducible assumption);(with_reducible refine RoundTo.rkH 10 9 [(4,some 8)] (vA s t p (k+1)) ?_ ?_ ?_);kernel_rfl;exact (f5 (j:=0) rfl (v5.k (by kernel_rfl)) (f5 (j:=1) rfl (v5.k (by kernel_rfl)) (f5 (j:=2) rfl (v5.blk (k:=⟨[.v (.string s),.v (.int .i64 ((Q4 s (o3 s k)).1:Nat)),.v (.bool (Q4 s (o3 s k)).2)],.t 149⟩) (k'':=⟨[.v (.string s),.v (.int .i64 ((Q4 s (o3 s k)).1:Nat)),.v (.bool (Q4 s (o3 s k)).2)],.t 149⟩) (by kernel_rfl) (by kernel_rfl) (by rw[(M5 hcnd).1];rfl)) (f5 (j:=3) rfl (v5.k (by kernel_rfl)) (f5 (j:=8) rfl (v5.plain (cs:=o4 (E4 s k)++en (C1 s k)) (b:=.r 59 8 8) (by kernel_rfl) (L5 s k) (g9 _) (by kernel_rfl)) (f5 (j:=5) rfl (v5.plain (cs:=U5 s k++[li (J3 s k)]) (b:=.r 3 1 5) (by kernel_rfl) (Q3 s k) (v4 _ _) (by kernel_rfl)) trivial))))));exact (Cm s t p hs hn m (k+1) (by omega) (by omega) (fun j hj=>by rcases Nat.lt_or_ge j k with h|h;exact hall j h;have e:j=k:=(by omega);subst e;exact (by first|exact Dz hcnd (decide_eq_false (by omega))|exact Ew hcnd (by rw[hl];rfl))) K hK hR)|have hcnd:I6 s (o3 s k)=false:=(by with_reducible assumption);(with_reducible refine RoundTo.rkH 10 8 [(5,some 9)] (vA s t p (k+1)) ?_ ?_ ?_);kernel_rfl;exact (f5 (j:=0) rfl (v5.k (by kernel_rfl)) (f5 (j:=1) rfl (v5.k (by kernel_rfl)) (f5 (j:=2) rfl (v5.blk (k:=⟨[.v (.string s),.v (.int .i64 ((Q4 s (o3 s k)).1:Nat)),.v (.bool (Q4 s (o3 s k)).2)],.t 149⟩) (k'':=⟨[.v (.string s),.v (.int .i64 ((Q4 s (o3 s k)).1:Nat)),.v (.bool (Q4 s (o3 s k)).2)],.t 149⟩) (by kernel_rfl) (by kernel_rfl) (by rw[(M5 hcnd).1];rfl)) (f5 (j:=3) rfl (v5.k (by kernel_rfl)) (f5 (j:=4) rfl (v5.plain (cs:=o4 (E4 s k)++en (C1 s k)) (b:=.r 59 8 4) (by kernel_rfl) (L5 s k) (g9 _) (by kernel_rfl)) (f5 (j:=9) rfl (v5.plain (cs:=U5 s k++[li (J3 s k)]) (b:=.r 3 1 9) (by kernel_rfl) (Q3 s k) (v4 _ _) (by kernel_rfl)) trivial))))));exact (Cm s t p hs hn m (k+1) (by omega) (by omega) (fun j hj=>by rcases Nat.lt_or_ge j k with h|h;exact hall j h;have e:j=k:=(by omega);subst e;exact (by first|exact Dz hcnd (decide_eq_false (by omega))|exact Ew hcnd (by rw[hl];rfl))) K hK hR)|have hcnd:I6 s (o3 s k)=false:=(by with_reducible assumption);(with_reducible refine RoundTo.rk 11 [(4,some 8),(5,some 10)] (vA s t p (k+1)) ?_ ?_ ?_);kernel_rfl;exact (f5 (j:=0) rfl (v5.k (by kernel_rfl)) (f5 (j:=1) rfl (v5.k (by kernel_rfl)) (f5 (j:=2) rfl (v5.blk (k:=⟨[.v (.string s),.v (.int .i64 ((Q4 s (o3 s k)).1:Nat)),.v (.bool (Q4 s (o3 s k)).2)],.t 149⟩) (k'':=⟨[.v (.string s),.v (.int .i64 ((Q4 s (o3 s k)).1:Nat)),.v (.bool (Q4 s (o3 s k)).2)],.t 149⟩) (by kernel_rfl) (by kernel_rfl) (by rw[(M5 hcnd).1];rfl)) (f5 (j:=3) rfl (v5.k (by kernel_rfl)) (f5 (j:=8) rfl (v5.plain (cs:=o4 (E4 s k)++en (C1 s k)) (b:=.r 59 8 8) (by kernel_rfl) (L5 s k) (g9 _) (by kernel_rfl)) (f5 (j:=10) rfl (v5.plain (cs:=U5 s k++[li (J3 s k)]) (b:=.r 3 1 10) (by kernel_rfl) (Q3 s k) (v4 _ _) (by kernel_rfl)) trivial))))));exact (Cm s t p hs hn m (k+1) (by omega) (by omega) (fun j hj=>by rcases Nat.lt_or_ge j k with h|h;exact hall j h;have e:j=k:=(by omega);subst e;exact (by first|exact Dz hcnd (decide_eq_false (by omega))|exact Ew hcnd (by rw[hl];rfl))) K hK hR)|exact wkK.tk (Q35) (by kernel_rfl) (N0.k (by kernel_rfl)) (hR k hlt ((by first|exact a5r (by with_reducible assumption)|exact b8x (by with_reducible assumption) (by rw[hl];rfl) (decide_eq_true (by omega)))))|exact Le.of rfl|simp only[*,Bool.and_self,Bool.not_false,Bool.not_true];done|simp_all [mX];done
end Ab
end
section
namespace Ab
attribute [local irreducible] j8
def iX (s:ByteArray) (k:Nat):St:=⟨[(16,iv .i64 (k:Nat)),(7,iv .i64 ((nN (m6 s)):Nat)),(8,.c (.l (.p 3 0))),(3,.c (.l (.p 1 0))),(9,.c (.l (.o 5 (nN (m6 s))))),(2,.c (.l (.p 0 0)))],[(0,some ⟨[.v (.pointer none),.v (.int .i64 0)],.t 82⟩),(1,some ⟨[.v (.string (A3 s)),.v (.int .i64 (F8 s k:Nat)),.v (.bool false)],.t 149⟩),(3,some ⟨[.o 4 (nN (m6 s)),li 0],.t 91⟩),(4,some ⟨o4 (U7 s k),.r 59 8 4⟩),(5,some ⟨U5 (m6 s) (nN (m6 s)),.r 3 1 5⟩)],6,215,[5,4,3,2,1,0],(0)⟩
theorem cW {b:Bool} (h:(!b)=false):b=true:=bH h
theorem of1 (s:ByteArray) (hr:(A3 s).size<=1000000000000000000) (id n:Nat):f4 prog 91 [.c (.l (.p id 0))] [(id,⟨[.v (.string (A3 s)),.v (.int .i64 0),.v (.bool false)],.t 149⟩)] n (.c (.l (.v (.string (m6 s))))) [(id,⟨[.v (.string (A3 s)),.v (.int .i64 ((dE s).1:Nat)),.v (.bool (dE s).2)],.t 149⟩)] 0:=C91 id (A3 s) (0:Nat) false hr (by decide) (Int.natCast_nonneg _) n
theorem of2 (s:ByteArray) (hr:(A3 s).size<=1000000000000000000) (id n:Nat):f4 prog 92 [.c (.l (.p id 0)),iv .i64 4] [(id,⟨[.v (.string (A3 s)),.v (.int .i64 ((dE s).1:Nat)),.v (.bool (dE s).2)],.t 149⟩)] n (iv .i64 (dD s)) [(id,⟨[.v (.string (A3 s)),.v (.int .i64 ((D2 s).1:Nat)),.v (.bool (D2 s).2)],.t 149⟩)] 0:=C92 id (A3 s) ((dE s).1:Nat) (dE s).2 4 hr (Int.natCast_nonneg _) (Int.ofNat_le.2 (Bw s)) n
theorem of3 (q:ByteArray) (h:q.size<=1000000000000000000) (n:Nat):f4 prog 72 [.c (.l (.v (.string q)))] [] n (iv .u32 (z7 q)) [] 0:=C72 q h n
theorem of4 (s:ByteArray) (hs:s.size<=1000000000000000000) (id n:Nat):f4 prog 93 [.c (.l (.p id 0))] [(id,⟨[.v (.string s),.v (.int .i64 0),.v (.bool false)],.t 149⟩)] n (iv .i64 (nP s)) [(id,⟨[.v (.string s),.v (.int .i64 (o3 s 0:Nat)),.v (.bool (Oct.l7 s 0 false).2.2)],.t 149⟩)] 0:=C93 id s (0:Nat) false hs (by decide) (Int.natCast_nonneg _) n
theorem of6 (s:ByteArray) (hs:(A3 s).size<=1000000000000000000) (hp:A4 (m6 s)=true) (hl:z3 s=aZ s) {k:Nat} (hk:k<nN (m6 s)) (id n:Nat):f4 prog 94 [.c (.l (.p id 0)),iv .i64 (J3 (m6 s) k)] [(id,⟨[.v (.string (A3 s)),.v (.int .i64 (F8 s k:Nat)),.v (.bool false)],.t 149⟩)] n (.c (.l (.v (.string (qK s k))))) [(id,⟨[.v (.string (A3 s)),.v (.int .i64 (F8 s (k+1):Nat)),.v (.bool false)],.t 149⟩)] 0:=by
 have key:=C94 id (A3 s) (F8 s k:Nat) false (J3 (m6 s) k) hs (Int.natCast_nonneg _) (Int.ofNat_le.2 (tA hp hl (Nat.le_of_lt hk))) n
 have e:((F8 s k:Nat):Int).toNat=F8 s k:=rfl
 rw[e,show (Oct.l5 (A3 s) (F8 s k) false (J3 (m6 s) k)).2.1=F8 s (k+1) by rw[fT hp hl hk],show (Oct.l5 (A3 s) (F8 s k) false (J3 (m6 s) k)).2.2=false by rw[fT hp hl hk]] at key
 exact key
def a2b (s:ByteArray) (k:Nat):Cz:={
 ct:=(fun f=>match f with
 |94=>some fun _ _=>fun | [.c (.l (.p i _)),.c (.l (.v (.int _ m)))]=>some {v:=.c (.l (.v (.string (qK s k)))),rd:=[i],wr:=[(i,⟨[.v (.string (A3 s)),.v (.int .i64 (F8 s (k+1):Nat)),.v (.bool false)],.t 149⟩)]}|_=>none
 |_=>none)
 sym:=[0,208,209,211],nf:=[(209,iv .i64 (J3 (m6 s) k))]}
theorem c2g (s:ByteArray) (k:Nat)  (K:Exit->St->Prop) (h:let a:=nN (m6 s);let b:=(Nat.cast (a):Int);let d:=((k:Int));let e:=U5 (m6 s) a;let f:=[l9 (A3 s),li (Nat.cast ((F8 s k)):Int),lb false];let g:=[l9 (A3 s),li (Nat.cast ((F8 s (k+1))):Int),lb false];let i:=o4 (U7 s k);let j:=(9,l4 (Leaf.o 5 a));let m:=(0,some (j9 [Leaf.v (Value.pointer none),li 0] 82));let n:=(3,some (j9 [Leaf.o 4 a,li 0] 91));let q:=(5,some (o8 e 3 1 5));HB (decide ((k:Int)<b)) (t0 d a/\d.toNat*1<e.length/\Le (l4 (e.getD (d.toNat*1) Leaf.u)) (i8 (J3 (m6 s) k))/\Kd 94 [] [j7 1 0,i8 (J3 (m6 s) k)] [(1,j9 f 149)] 6 (l4 (l9 (qK s k))) [(1,j9 g 149)] 0/\t0 d a/\d.toNat*8+7+1<=i.length/\IntKind.i64.wrap ((k:Int)+1)=(k:Int)+1/\RoundTo prog (gl 42 Tryz.f35) 6 (wkK 6 K) (St.mk [(2,j7 0 0),(3,j7 1 0),(7,i8 b),(8,j7 3 0),j,(16,i8 ((k:Int)+1))] [m,(1,some (j9 g 149)),n,(4,some (o8 (j4 i (d.toNat*8+7) [l9 (qK s k)]) 59 8 4)),q] 6 215 [4,1,5,4,3,2,1,0] 0)) (wkK 6 K (Exit.exit 2) (St.mk [(2,j7 0 0),(3,j7 1 0),(7,i8 b),(8,j7 3 0),j,(16,i8 (k:Int))] [m,(1,some (j9 f 149)),n,(4,some (o8 i 59 8 4)),q] 6 215 [5,4,3,2,1,0] 0))):z4 prog (gl 42 Tryz.f35) (iX s k) (wkK 6 K):=
 m5 [2,3,7,8,9,16] [0,1,3,4,5] (cx:=a2b s k) rfl (u3 (by kernel_rfl) h)
theorem b2w (s:ByteArray) (hr:(A3 s).size<=1000000000000000000) (hp:A4 (m6 s)=true) (hl:z3 s=aZ s):∀(m k:Nat),(nN (m6 s))-k=m->k<=(nN (m6 s))->∀(K:Exit->St->Prop),K (.exit 2) (iX s (nN (m6 s)))->z4 prog (gl 42 Tryz.f35) (iX s k) (wkK 6 K)
 |0,k,hm,hk,K,hK=>by
  have e:k=(nN (m6 s)):=by omega
  subst e
  refine c2g s _ K (HB.no (by omega) ?_)
  exact wkK.tk (iX s _) (by kernel_rfl) (d5 (l6.k (by kernel_rfl)) (d5 (l6.k (by kernel_rfl)) (d5 (l6.k (by kernel_rfl)) (d5 (l6.p (g9 _) (by kernel_rfl)) (d5 (l6.p (v4 _ _) (by kernel_rfl)) trivial))))) hK
 |m+1,k,hm,hk,K,hK=>by
  refine c2g s k K (HB.yes (by omega) ?_)
  have hlt:k<(nN (m6 s)):=by omega
  have hn:=oF hp
  with_reducible repeat' first|exact trivial|apply And.intro|apply HB.mk|intro _
  all_goals first|with_reducible exact of6 s hr hp hl hlt _ _|(exact ⟨by omega,by omega⟩)|rw[gC];omega|rw[y6,gL];omega|exact Le.of (congrArg (fun l=>SV.c (.l l)) (sJ _ (by omega) hlt))|(with_reducible refine RoundTo.tk 6 (iX s (k+1)) ?_ ?_ ?_);kernel_rfl;exact (d5 (l6.k (by kernel_rfl)) (d5 (l6.k (by kernel_rfl)) (d5 (l6.k (by kernel_rfl)) (d5 (l6.plain (cs:=j4 (o4 (U7 s k)) (k*8+7) [.v (.string (qK s k))]) (b:=.r 59 8 4) (by kernel_rfl) (xT s hlt) (g9 _) (by kernel_rfl)) (d5 (l6.p (v4 _ _) (by kernel_rfl)) trivial)))));exact (b2w s hr hp hl m (k+1) (by omega) (by omega) K hK)|exact C2 _ (by omega) (by omega)
theorem tl2 (a b:UInt8):(⟨#[a,b]⟩:ByteArray).toList=[a,b]:=by
 unfold ByteArray.toList
 unfold ByteArray.toList.loop
 rw[if_pos (by show 0<2;decide)]
 unfold ByteArray.toList.loop
 rw[if_pos (by show 0+1<2;decide)]
 unfold ByteArray.toList.loop
 rw[if_neg (by show ¬0+1+1<2;decide)]
 rfl
theorem c7t {s:ByteArray} (h:2<=s.size):s.extract 0 2=⟨#[s.get! 0,s.get! 1]⟩:=lC (by
 rw[V5,List.drop_zero]
 have e0:s.get! 0=(pJ s).getD 0 0:=by
  have h0:0<s.data.size:=Nat.lt_of_lt_of_le (by decide) h
  show s.data[0]! = _
  rw[getElem!_pos s.data 0 h0];unfold pJ;simp[List.getD];rw[Array.getElem?_eq_getElem h0];rfl
 have e1:s.get! 1=(pJ s).getD 1 0:=by
  have h0:1<s.data.size:=Nat.lt_of_lt_of_le (by decide) h
  show s.data[1]! = _
  rw[getElem!_pos s.data 1 h0];unfold pJ;simp[List.getD];rw[Array.getElem?_eq_getElem h0];rfl
 rw[e0,e1]
 have hl:=cL s
 show List.take 2 (pJ s)=[(pJ s).getD 0 0,(pJ s).getD 1 0]
 match q:pJ s,(show 2<=(pJ s).length by rw[cL];exact h) with
 |a::b::l,_=>rfl)
theorem c7u (s:ByteArray):(bif (bif decide (((s.size:Nat):Int)<2) then true else ((((s.get! 0).toNat:Nat):Int) != 71)) then true else ((((s.get! 1).toNat:Nat):Int) != 1)) = !Y5 s ⟨#[71,1]⟩:=by
 unfold Y5
 by_cases h:2<=s.size
 ·have e2:(⟨#[71,1]⟩:ByteArray).size=2:=rfl
  rw[decide_eq_false (by omega),decide_eq_true (by rw[e2];omega)]
  show (bif ((((s.get! 0).toNat:Nat):Int) != 71) then true else ((((s.get! 1).toNat:Nat):Int) != 1)) = !((s.extract 0 2).toList==(⟨#[71,1]⟩:ByteArray).toList)
  rw[c7t h,tl2,tl2]
  generalize s.get! 0=a
  generalize s.get! 1=b
  have ha:((((a.toNat:Nat):Int) != 71)) = !(a==71):=by
   by_cases q:a=71
   ·subst q;rfl
   ·have q2:a.toNat≠71:=fun e=>q (UInt8.toNat_inj.1 e)
    rw[show (a==71)=false by simpa using q]
    simpa using (by omega:¬((a.toNat:Nat):Int)=71)
  have hb:((((b.toNat:Nat):Int) != 1)) = !(b==1):=by
   by_cases q:b=1
   ·subst q;rfl
   ·have q2:b.toNat≠1:=fun e=>q (UInt8.toNat_inj.1 e)
    rw[show (b==1)=false by simpa using q]
    simpa using (by omega:¬((b.toNat:Nat):Int)=1)
  rw[ha,hb]
  show _ = !(a==71&&(b==1&&([]:List UInt8) == []))
  cases (a==71)<;>cases (b==1)<;>rfl
 ·have e2:(⟨#[71,1]⟩:ByteArray).size=2:=rfl
  rw[decide_eq_true (by omega),decide_eq_false (by rw[e2];omega)];rfl
theorem a8s (s:ByteArray):(bif (bif decide (((s.size:Nat):Int)<2) then true else ((((s.get! 0).toNat:Nat):Int) != 71)) then true else ((((s.get! 1).toNat:Nat):Int) != 1)) = !aT s:=by
 rw[c7u]
 unfold aT P9
 cases Y5 s ⟨#[71,1]⟩<;>rfl
theorem Cd {s:ByteArray} (h:aT s=true):2<=s.size:=by
 unfold aT P9 at h
 cases h2:Y5 s ⟨#[71,1]⟩ with
 |true=>exact tN h2
 |false=>rw[h2] at h;cases h
theorem b3h {s:ByteArray} (h:aT s=true):s.extract 2 s.size=A3 s:=by
 unfold aT P9 at h
 unfold A3 P9
 cases h2:Y5 s ⟨#[71,1]⟩ with
 |true=>rfl
 |false=>rw[h2] at h;cases h
theorem a6y (s:ByteArray):(((o3 s (nN s):Nat):Int) != ((s.size:Nat):Int))=decide ((s.size:Int)-((o3 s (nN s):Nat):Int)>0):=by
 have:=cM s (nN s)
 by_cases h:o3 s (nN s)=s.size
 ·rw[decide_eq_false (by omega),h];simp
 ·rw[decide_eq_true (by omega)];simpa using (by omega:¬((o3 s (nN s):Nat):Int)=((s.size:Nat):Int))
theorem Ox (q:ByteArray):IntKind.i64.wrap (z7 q)=z7 q:=by
 have:=G9 q
 exact C2 _ (by omega) (by omega)
attribute [local irreducible] Oct.M.sum
def b0c:Rw:=some fun _ _=>fun | [.c (.l (.v (.string q)))]=>some {v:=iv .u32 (z7 q)}|_=>none
def b3j (s:ByteArray):Rw:=some fun _ _=>fun | [.c (.l (.p i _))]=>some {v:=.c (.l (.v (.string (m6 s)))),rd:=[i],wr:=[(i,⟨[.v (.string (A3 s)),.v (.int .i64 ((dE s).1:Nat)),.v (.bool (dE s).2)],.t 149⟩)]}|_=>none
def a8x (s:ByteArray):Rw:=some fun _ _=>fun | [.c (.l (.p i _)),_]=>some {v:=iv .i64 (dD s),rd:=[i],wr:=[(i,⟨[.v (.string (A3 s)),.v (.int .i64 ((D2 s).1:Nat)),.v (.bool (D2 s).2)],.t 149⟩)]}|_=>none
def a8t (s:ByteArray):Rw:=some fun _ _=>fun | [.c (.l (.p i _))]=>some {v:=iv .i64 (nP (m6 s)),rd:=[i],wr:=[(i,⟨[.v (.string (m6 s)),.v (.int .i64 (o3 (m6 s) 0:Nat)),.v (.bool (Oct.l7 (m6 s) 0 false).2.2)],.t 149⟩)]}|_=>none
def Wz (s:ByteArray):Cz:={
 ct:=(fun f=>match f with
 |72=>b0c
 |91=>b3j s
 |92=>a8x s
 |93=>a8t s
 |_=>none)
 sym:=[22,27,32],nf:=[(29,bv (!aT s)),(32,.c (.l (.v (.string (A3 s))))),(47,iv .i64 (z7 (m6 s))),(48,bv (L8 s)),(68,bv (E8 (m6 s))),(167,bv (decide (((m6 s).size:Int)-((o3 (m6 s) (nN (m6 s)):Nat):Int)>0))),(178,iv .i64 (z3 s)),(180,bv (decide (z3 s<aZ s))),(191,iv .i64 (z3 s)),(193,bv (decide (z3 s>aZ s)))],lp:=fun r=>match r with|18=>some (fun _ K=>((∀j,j<(nN (m6 s))->M0 (m6 s) j=true)->K (.exit 0) (vA (m6 s) (A3 s) (D2 s).1 (nN (m6 s))))/\(∀j,j<(nN (m6 s))->M0 (m6 s) j=false->K .ret Q35))|42=>some (fun _ K=>K (.exit 2) (iX s (nN (m6 s))))|_=>none,wh:=[82]}
theorem c9b (s:ByteArray) (hs:s.size<=1000000000000000000) (hp:A4 (m6 s)=false) (n:Nat):f4 prog 35 [.c (.l (.v (.string s)))] [] n (ag [.v (.pointer none),li (t9 s)]) [] 0:=by
 refine f4.any ?_ (by kernel_rfl) (by kernel_rfl) n
 have hr:(A3 s).size<=1000000000000000000:=Nat.le_trans (jK s) hs
 have hi:(m6 s).size<=1000000000000000000:=Nat.le_trans (hM s) hr
 refine E3 (q:=let a:=(s.size:Int);let b:=a<2;let d:=!decide b;let e:=(Nat.cast ((s.get! (Int.toNat 0)).toNat):Int);let f:=!bif decide b then true else e != 71;let h:=bif decide b then true else e != 71;let i:=(Nat.cast ((s.get! (Int.toNat 1)).toNat):Int);let k:=Value.pointer none;let m:=(ag [Leaf.v k,li 11]);let n:=(ag [Leaf.v k,li (t9 s)]);let u:=0=0/\2=2/\Le m n/\True;let w:=l9 (A3 s);let x:=[l9 (A3 s),li 0,lb false];let y:=l9 (m6 s);let z:=[l9 (A3 s),li ((dE s).fst:Int),lb (dE s).snd];let A:=[(1,j9 z 149)];let B:=((D2 s).fst:Int);let C:=[l9 (A3 s),li B,lb (D2 s).snd];let D:=(0=0/\2=2/\Le (ag [Leaf.v k,li 10]) n/\True);let E:=z7 (m6 s);let G:=[l9 (m6 s),li 0,lb false];let H:=nP (m6 s);let I:=Oct.l7 (m6 s) 0 false;let J:=[l9 (m6 s),li (Nat.cast ((o3 (m6 s) 0)):Int),lb I.snd.snd];let L:=!I.snd.snd;let M:=nP (m6 s)<0;let N:=!bif I.snd.snd then true else decide M;let O:=bif I.snd.snd then true else decide M;let P:=nP (m6 s)>1024;let Q:=E8 (m6 s);let R:=Value.slice none 0 0;let T:=[Leaf.v R,li 0];let U:=(0,some (j9 [Leaf.v k,li 0] 82));let V:=(∀(j:Nat),j<nN (m6 s)->M0 (m6 s) j=true);let W:=nN (m6 s);let X:=(Nat.cast ((o3 (m6 s) W)):Int);let Y:=((m6 s).size:Int);let Z:=decide (Y-X>0);let aa:=((A3 s).size:Int);let ab:=decide (z3 s<aZ s);let ac:=decide (z3 s>aZ s);let ad:=N8 (m6 s) W;let ae:=(Nat.cast (W):Int);(d=true->d=true/\t0 0 s.size/\True)/\(d=true->d=true/\True)/\(decide b=false->d=true)/\(f=true->f=true/\t0 1 s.size/\True)/\(f=true->f=true/\True)/\(h=false->f=true)/\Le (bv (bif bif decide b then true else e != 71 then true else i != 1)) (bv !aT s)/\HB (!aT s) u (O6 2 a a/\Le (l4 (l9 (s.extract (Int.toNat 2) (a).toNat))) (l4 w)/\Kd 91 [] [j7 1 0] [(1,j9 x 149)] 2 (l4 y) A 0/\Kd 92 [] [j7 1 0,i8 4] A 2 (i8 (dD s)) [(1,j9 C 149)] 0/\HB (D2 s).snd D (Kd 72 [] [l4 y] [] 2 (iv .u32 E) [] 0/\Le (i8 (IntKind.i64.wrap E)) (i8 E)/\Le (bv (dD s != z7 (m6 s))) (bv (L8 s))/\HB (L8 s) (0=0/\2=2/\Le (ag [Leaf.v k,li 12]) n/\True) (Kd 93 [] [j7 2 0] [(2,j9 G 149)] 3 (i8 H) [(2,j9 J 149)] 0/\(L=true->L=true/\True)/\(I.snd.snd=false->L=true)/\(N=true->N=true/\True)/\(O=false->N=true)/\Le (bv (bif bif I.snd.snd then true else decide M then true else decide P)) (bv Q)/\HB Q u ((l3 prog (gl 18 Tryz.f35) (St.mk [(11,i8 0),(10,i8 0),(9,l4 (Leaf.v R)),(68,bv Q),(67,SV.g N (Cp.l (lb (decide P)))),(66,SV.g N (Cp.l (li H))),(65,bv O),(64,bv O),(63,SV.g L (Cp.l (lb (decide M)))),(62,SV.g L (Cp.l (li H))),(61,bv I.snd.snd),(60,bv I.snd.snd),(59,j7 2 2),(58,j7 2 0),(57,j7 2 0),(8,j7 3 0),(56,j7 3 0),(55,ag T),(7,i8 H),(54,i8 H),(53,j7 2 0),(6,j7 2 0),(52,j7 2 0),(51,ag G),(50,l4 y),(48,bv (L8 s)),(47,i8 E),(46,iv .u32 E),(45,l4 y),(44,i8 (dD s)),(42,bv (D2 s).snd),(41,j7 1 2),(40,j7 1 0),(39,j7 1 0),(5,i8 (dD s)),(38,i8 (dD s)),(37,j7 1 0),(4,l4 y),(36,l4 y),(35,j7 1 0),(3,j7 1 0),(34,j7 1 0),(33,ag x),(32,l4 w),(31,l4 (l9 s)),(29,bv !aT s),(28,SV.g f (Cp.l (lb (i != 1)))),(27,SV.g f (Cp.l (l8 i))),(26,SV.g f (Cp.l (l9 s))),(25,bv h),(24,bv h),(23,SV.g d (Cp.l (lb (e != 71)))),(22,SV.g d (Cp.l (l8 e))),(21,SV.g d (Cp.l (l9 s))),(20,bv (decide b)),(19,bv (decide b)),(18,i8 a),(17,l4 (l9 s)),(2,j7 0 0),(0,l4 (l9 s))] [(3,some (j9 T 91)),(2,some (j9 J 149)),(2,some (j9 G 149)),(1,some (j9 C 149)),(1,some (j9 z 149)),(1,some (j9 x 149)),U] 4 215 [3,2,2,1,1,1,0] 0) fun K=>(V->K (Exit.exit 0) (vA (m6 s) (A3 s) (D2 s).fst W))/\∀(j:Nat),j<nN (m6 s)->M0 (m6 s) j=false->K Exit.ret Q35)/\(V->Le (bv (X != Y)) (bv Z)/\HB Z u (IntKind.i64.wrap (aa-B)=aa-B/\Le (i8 (aa-B)) (i8 (z3 s))/\Le (bv (decide (z3 s<N8 (m6 s) W))) (bv ab)/\HB ab D (IntKind.i64.wrap (aa-B)=aa-B/\Le (i8 (aa-B)) (i8 (z3 s))/\Le (bv (decide (z3 s>N8 (m6 s) W))) (bv ac)/\HB ac u ((l3 prog (gl 42 Tryz.f35) (St.mk [(16,i8 0),(193,bv ac),(192,i8 ad),(191,i8 (z3 s)),(190,i8 B),(189,j7 1 1),(188,j7 1 0),(187,j7 1 0),(186,i8 aa),(185,l4 w),(184,j7 1 0),(183,j7 1 0),(182,j7 1 0),(180,bv ab),(179,i8 ad),(178,i8 (z3 s)),(177,i8 B),(176,j7 1 1),(175,j7 1 0),(174,j7 1 0),(173,i8 aa),(172,l4 w),(171,j7 1 0),(170,j7 1 0),(169,j7 1 0),(167,bv Z),(166,i8 Y),(165,l4 y),(164,i8 X),(163,j7 2 1),(162,j7 2 0),(161,j7 2 0),(11,i8 ae),(7,i8 ae),(10,i8 ad),(8,j7 3 0),(6,j7 2 0),(3,j7 1 0),(9,l4 (Leaf.o 5 W)),(4,l4 y),(2,j7 0 0)] [U,(1,some (j9 [l9 (A3 s),li B,lb false] 149)),(2,some (j9 [l9 (m6 s),li X,lb false] 149)),(3,some (j9 [Leaf.o 4 W,li 0] 91)),(4,some (o8 (o4 (E4 (m6 s) W)) 59 8 4)),(5,some (o8 (U5 (m6 s) W) 3 1 5))] 6 215 [5,4,3,2,1,0] 0) fun K=>K (Exit.exit 2) (iX s W))/\0=0/\2=2/\False))))/\∀(j:Nat),j<nN (m6 s)->M0 (m6 s) j=false->Le m n/\True))))) (Wz s) [] func35 (by kernel_rfl) (by kernel_rfl) ?_
 with_reducible repeat' first|exact trivial|apply And.intro|apply HB.mk|intro _
 all_goals first|(with_reducible first|assumption|rfl|exact of3 _ hi _|exact of1 s hr _ _|exact of2 s hr _ _|exact of4 _ hi _ _)|exact l3.re [(4,none),(5,none)] (vA (m6 s) (A3 s) (D2 s).1 0) (by kernel_rfl) (m9 (H8.k (by kernel_rfl)) (m9 (H8.sl_int (y:=nP (m6 s)) (by kernel_rfl) ((E2 (by with_reducible assumption:E8 (m6 s)=false)).2.1)) (m9 (H8.k (by kernel_rfl)) (m9 (H8.k (by kernel_rfl)) (m9 (H8.k (by kernel_rfl)) (m9 (H8.k (by kernel_rfl)) (m9 (H8.nilS (by kernel_rfl) (show 5<6 by decide) rfl) (W4.k (by kernel_rfl))))))))) (f5 (j:=0) rfl (v5.k (by kernel_rfl)) (f5 (j:=1) rfl (v5.blk (k:=⟨[.v (.string (A3 s)),.v (.int .i64 ((D2 s).1:Nat)),.v (.bool (D2 s).2)],.t 149⟩) (k'':=⟨[.v (.string (A3 s)),.v (.int .i64 ((D2 s).1:Nat)),.v (.bool (D2 s).2)],.t 149⟩) (by kernel_rfl) (by kernel_rfl) (by rw[show (D2 s).2=false from (by with_reducible assumption)])) (f5 (j:=2) rfl (v5.blk (k:=⟨[.v (.string (m6 s)),.v (.int .i64 (o3 (m6 s) 0:Nat)),.v (.bool (Oct.l7 (m6 s) 0 false).2.2)],.t 149⟩) (k'':=⟨[.v (.string (m6 s)),.v (.int .i64 (o3 (m6 s) 0:Nat)),.v (.bool (Oct.l7 (m6 s) 0 false).2.2)],.t 149⟩) (by kernel_rfl) (by kernel_rfl) (by rw[(E2 (by with_reducible assumption:E8 (m6 s)=false)).1])) (f5 (j:=3) rfl (v5.lsB (xs:=[.v (.slice none 0 0),li 0]) (by kernel_rfl) (aY.cons (gT.nil (show 4<6 by decide) rfl) (aY.of rfl))) (G0.k (by kernel_rfl)))))) (fun K hT=>Cm (m6 s) (A3 s) (D2 s).1 hi (E2 (by with_reducible assumption:E8 (m6 s)=false)).2.2 _ 0 rfl (Nat.zero_le _) (fun j hj=>absurd hj (Nat.not_lt_zero j)) K hT.1 hT.2)|with_reducible exact Le.bool (a8s _)|(refine ⟨by omega,?_⟩;simp at *;omega)|have:=Cd (cW (by with_reducible assumption));unfold O6;omega|refine Le.of ?_;rw[<-b3h (cW (by with_reducible assumption))];rfl|(with_reducible first|exact Le.int (Ox _)|exact Le.bool (cK s)|exact Le.bool (a6y _))|exact Le.bool rfl|exact Le.int rfl|exact absurd (hp.symm.trans (Fh (by with_reducible assumption) (by with_reducible assumption) (by with_reducible assumption))) (by decide)|refine Le.of ?_;simp[t9, *];done|simp only[*,Bool.and_self,Bool.not_false,Bool.not_true];done
def a3o (s:ByteArray):Cz:={
 ct:=(fun f=>match f with
 |72=>b0c
 |91=>b3j s
 |92=>a8x s
 |93=>a8t s
 |_=>none)
 sym:=[22,27,32],nf:=[(29,bv (!aT s)),(32,.c (.l (.v (.string (A3 s))))),(47,iv .i64 (z7 (m6 s))),(48,bv (L8 s)),(68,bv false),(167,bv false),(178,iv .i64 (z3 s)),(180,bv (decide (z3 s<aZ s))),(191,iv .i64 (z3 s)),(193,bv (decide (z3 s>aZ s)))],lp:=fun r=>match r with|18=>some (fun _ K=>((∀j,j<(nN (m6 s))->M0 (m6 s) j=true)->K (.exit 0) (vA (m6 s) (A3 s) (D2 s).1 (nN (m6 s))))/\(∀j,j<(nN (m6 s))->M0 (m6 s) j=false->K .ret Q35))|42=>some (fun _ K=>K (.exit 2) (iX s (nN (m6 s))))|_=>none,wh:=[82]}
theorem d0q (s:ByteArray) (hs:s.size<=1000000000000000000) (hp:A4 (m6 s)=true) (he:t9 s≠0) (n:Nat):f4 prog 35 [.c (.l (.v (.string s)))] [] n (ag [.v (.pointer none),li (t9 s)]) [] 0:=by
 refine f4.any ?_ (by kernel_rfl) (by kernel_rfl) n
 have hr:(A3 s).size<=1000000000000000000:=Nat.le_trans (jK s) hs
 have hi:(m6 s).size<=1000000000000000000:=Nat.le_trans (hM s) hr
 have hok:=(I7 hp).2.1
 have hn:=oF hp
 have hhd:=(I7 hp).1
 have hpl:=(I7 hp).2.2
 refine E3 (q:=let a:=(s.size:Int);let b:=a<2;let d:=!decide b;let e:=(Nat.cast ((s.get! (Int.toNat 0)).toNat):Int);let f:=!bif decide b then true else e != 71;let h:=bif decide b then true else e != 71;let i:=(Nat.cast ((s.get! (Int.toNat 1)).toNat):Int);let k:=Value.pointer none;let m:=(ag [Leaf.v k,li 11]);let n:=(ag [Leaf.v k,li (t9 s)]);let u:=0=0/\2=2/\Le m n/\True;let w:=l9 (A3 s);let x:=[l9 (A3 s),li 0,lb false];let y:=l9 (m6 s);let z:=[l9 (A3 s),li ((dE s).fst:Int),lb (dE s).snd];let A:=[(1,j9 z 149)];let B:=((D2 s).fst:Int);let C:=[l9 (A3 s),li B,lb (D2 s).snd];let D:=(0=0/\2=2/\Le (ag [Leaf.v k,li 10]) n/\True);let E:=z7 (m6 s);let G:=[l9 (m6 s),li 0,lb false];let H:=nP (m6 s);let I:=Oct.l7 (m6 s) 0 false;let J:=[l9 (m6 s),li (Nat.cast ((o3 (m6 s) 0)):Int),lb I.snd.snd];let L:=!I.snd.snd;let M:=nP (m6 s)<0;let N:=!bif I.snd.snd then true else decide M;let O:=bif I.snd.snd then true else decide M;let P:=nP (m6 s)>1024;let Q:=Value.slice none 0 0;let R:=[Leaf.v Q,li 0];let T:=(0,some (j9 [Leaf.v k,li 0] 82));let U:=(∀(j:Nat),j<nN (m6 s)->M0 (m6 s) j=true);let V:=nN (m6 s);let W:=(Nat.cast ((o3 (m6 s) V)):Int);let X:=((m6 s).size:Int);let Y:=((A3 s).size:Int);let Z:=decide (z3 s<aZ s);let aa:=decide (z3 s>aZ s);let ab:=N8 (m6 s) V;let ac:=(Nat.cast (V):Int);(d=true->d=true/\t0 0 s.size/\True)/\(d=true->d=true/\True)/\(decide b=false->d=true)/\(f=true->f=true/\t0 1 s.size/\True)/\(f=true->f=true/\True)/\(h=false->f=true)/\Le (bv (bif bif decide b then true else e != 71 then true else i != 1)) (bv !aT s)/\HB (!aT s) u (O6 2 a a/\Le (l4 (l9 (s.extract (Int.toNat 2) (a).toNat))) (l4 w)/\Kd 91 [] [j7 1 0] [(1,j9 x 149)] 2 (l4 y) A 0/\Kd 92 [] [j7 1 0,i8 4] A 2 (i8 (dD s)) [(1,j9 C 149)] 0/\HB (D2 s).snd D (Kd 72 [] [l4 y] [] 2 (iv .u32 E) [] 0/\Le (i8 (IntKind.i64.wrap E)) (i8 E)/\Le (bv (dD s != z7 (m6 s))) (bv (L8 s))/\HB (L8 s) (0=0/\2=2/\Le (ag [Leaf.v k,li 12]) n/\True) (Kd 93 [] [j7 2 0] [(2,j9 G 149)] 3 (i8 H) [(2,j9 J 149)] 0/\(L=true->L=true/\True)/\(I.snd.snd=false->L=true)/\(N=true->N=true/\True)/\(O=false->N=true)/\Le (bv (bif bif I.snd.snd then true else decide M then true else decide P)) (bv false)/\(l3 prog (gl 18 Tryz.f35) (St.mk [(11,i8 0),(10,i8 0),(9,l4 (Leaf.v Q)),(68,bv false),(67,SV.g N (Cp.l (lb (decide P)))),(66,SV.g N (Cp.l (li H))),(65,bv O),(64,bv O),(63,SV.g L (Cp.l (lb (decide M)))),(62,SV.g L (Cp.l (li H))),(61,bv I.snd.snd),(60,bv I.snd.snd),(59,j7 2 2),(58,j7 2 0),(57,j7 2 0),(8,j7 3 0),(56,j7 3 0),(55,ag R),(7,i8 H),(54,i8 H),(53,j7 2 0),(6,j7 2 0),(52,j7 2 0),(51,ag G),(50,l4 y),(48,bv (L8 s)),(47,i8 E),(46,iv .u32 E),(45,l4 y),(44,i8 (dD s)),(42,bv (D2 s).snd),(41,j7 1 2),(40,j7 1 0),(39,j7 1 0),(5,i8 (dD s)),(38,i8 (dD s)),(37,j7 1 0),(4,l4 y),(36,l4 y),(35,j7 1 0),(3,j7 1 0),(34,j7 1 0),(33,ag x),(32,l4 w),(31,l4 (l9 s)),(29,bv !aT s),(28,SV.g f (Cp.l (lb (i != 1)))),(27,SV.g f (Cp.l (l8 i))),(26,SV.g f (Cp.l (l9 s))),(25,bv h),(24,bv h),(23,SV.g d (Cp.l (lb (e != 71)))),(22,SV.g d (Cp.l (l8 e))),(21,SV.g d (Cp.l (l9 s))),(20,bv (decide b)),(19,bv (decide b)),(18,i8 a),(17,l4 (l9 s)),(2,j7 0 0),(0,l4 (l9 s))] [(3,some (j9 R 91)),(2,some (j9 J 149)),(2,some (j9 G 149)),(1,some (j9 C 149)),(1,some (j9 z 149)),(1,some (j9 x 149)),T] 4 215 [3,2,2,1,1,1,0] 0) fun K=>(U->K (Exit.exit 0) (vA (m6 s) (A3 s) (D2 s).fst V))/\∀(j:Nat),j<nN (m6 s)->M0 (m6 s) j=false->K Exit.ret Q35)/\(U->Le (bv (W != X)) (bv false)/\IntKind.i64.wrap (Y-B)=Y-B/\Le (i8 (Y-B)) (i8 (z3 s))/\Le (bv (decide (z3 s<N8 (m6 s) V))) (bv Z)/\HB Z D (IntKind.i64.wrap (Y-B)=Y-B/\Le (i8 (Y-B)) (i8 (z3 s))/\Le (bv (decide (z3 s>N8 (m6 s) V))) (bv aa)/\HB aa u ((l3 prog (gl 42 Tryz.f35) (St.mk [(16,i8 0),(193,bv aa),(192,i8 ab),(191,i8 (z3 s)),(190,i8 B),(189,j7 1 1),(188,j7 1 0),(187,j7 1 0),(186,i8 Y),(185,l4 w),(184,j7 1 0),(183,j7 1 0),(182,j7 1 0),(180,bv Z),(179,i8 ab),(178,i8 (z3 s)),(177,i8 B),(176,j7 1 1),(175,j7 1 0),(174,j7 1 0),(173,i8 Y),(172,l4 w),(171,j7 1 0),(170,j7 1 0),(169,j7 1 0),(167,bv false),(166,i8 X),(165,l4 y),(164,i8 W),(163,j7 2 1),(162,j7 2 0),(161,j7 2 0),(11,i8 ac),(7,i8 ac),(10,i8 ab),(8,j7 3 0),(6,j7 2 0),(3,j7 1 0),(9,l4 (Leaf.o 5 V)),(4,l4 y),(2,j7 0 0)] [T,(1,some (j9 [l9 (A3 s),li B,lb false] 149)),(2,some (j9 [l9 (m6 s),li W,lb false] 149)),(3,some (j9 [Leaf.o 4 V,li 0] 91)),(4,some (o8 (o4 (E4 (m6 s) V)) 59 8 4)),(5,some (o8 (U5 (m6 s) V) 3 1 5))] 6 215 [5,4,3,2,1,0] 0) fun K=>K (Exit.exit 2) (iX s V))/\0=0/\2=2/\False)))/\∀(j:Nat),j<nN (m6 s)->M0 (m6 s) j=false->Le m n/\True)))) (a3o s) [] func35 (by kernel_rfl) (by kernel_rfl) ?_
 with_reducible repeat' first|exact trivial|apply And.intro|apply HB.mk|intro _
 all_goals first|(with_reducible first|assumption|rfl|exact of3 _ hi _|exact of1 s hr _ _|exact of2 s hr _ _|exact of4 _ hi _ _)|exact l3.re [(4,none),(5,none)] (vA (m6 s) (A3 s) (D2 s).1 0) (by kernel_rfl) (m9 (H8.k (by kernel_rfl)) (m9 (H8.sl_int (y:=nP (m6 s)) (by kernel_rfl) ((E2 hhd).2.1)) (m9 (H8.k (by kernel_rfl)) (m9 (H8.k (by kernel_rfl)) (m9 (H8.k (by kernel_rfl)) (m9 (H8.k (by kernel_rfl)) (m9 (H8.nilS (by kernel_rfl) (show 5<6 by decide) rfl) (W4.k (by kernel_rfl))))))))) (f5 (j:=0) rfl (v5.k (by kernel_rfl)) (f5 (j:=1) rfl (v5.blk (k:=⟨[.v (.string (A3 s)),.v (.int .i64 ((D2 s).1:Nat)),.v (.bool (D2 s).2)],.t 149⟩) (k'':=⟨[.v (.string (A3 s)),.v (.int .i64 ((D2 s).1:Nat)),.v (.bool (D2 s).2)],.t 149⟩) (by kernel_rfl) (by kernel_rfl) (by rw[show (D2 s).2=false from (by with_reducible assumption)])) (f5 (j:=2) rfl (v5.blk (k:=⟨[.v (.string (m6 s)),.v (.int .i64 (o3 (m6 s) 0:Nat)),.v (.bool (Oct.l7 (m6 s) 0 false).2.2)],.t 149⟩) (k'':=⟨[.v (.string (m6 s)),.v (.int .i64 (o3 (m6 s) 0:Nat)),.v (.bool (Oct.l7 (m6 s) 0 false).2.2)],.t 149⟩) (by kernel_rfl) (by kernel_rfl) (by rw[(E2 hhd).1])) (f5 (j:=3) rfl (v5.lsB (xs:=[.v (.slice none 0 0),li 0]) (by kernel_rfl) (aY.cons (gT.nil (show 4<6 by decide) rfl) (aY.of rfl))) (G0.k (by kernel_rfl)))))) (fun K hT=>Cm (m6 s) (A3 s) (D2 s).1 hi (E2 hhd).2.2 _ 0 rfl (Nat.zero_le _) (fun j hj=>absurd hj (Nat.not_lt_zero j)) K hT.1 hT.2)|exact l3.tk (iX s 0) (by kernel_rfl) (d5 (l6.k (by kernel_rfl)) (d5 (l6.blk (k:=⟨[.v (.string (A3 s)),.v (.int .i64 ((D2 s).1:Nat)),.v (.bool false)],.t 149⟩) (by kernel_rfl) (by show _=_;rfl) (by kernel_rfl)) (d5 (l6.k (by kernel_rfl)) (d5 (l6.plain (cs:=o4 (E4 (m6 s) (nN (m6 s)))) (b:=.r 59 8 4) (by kernel_rfl) (by rw[cZ]) (g9 _) (by kernel_rfl)) (d5 (l6.p (v4 _ _) (by kernel_rfl)) trivial))))) (fun K hT=>b2w s hr hp (Z5 (by with_reducible assumption) (by with_reducible assumption)) _ 0 rfl (Nat.zero_le _) K hT)|refine Le.bool ?_;exact hhd|have:=Av s;exact C2 _ (by omega) (by omega)|refine Le.bool ?_;rw[hpl];simp;done|with_reducible exact Le.bool (a8s _)|(refine ⟨by omega,?_⟩;simp at *;omega)|have:=Cd (cW (by with_reducible assumption));unfold O6;omega|refine Le.of ?_;rw[<-b3h (cW (by with_reducible assumption))];rfl|(with_reducible first|exact Le.int (Ox _)|exact Le.bool (cK s))|exact Le.bool rfl|exact Le.int rfl|exact absurd (Gf (by with_reducible assumption) (by with_reducible assumption) (by with_reducible assumption) hp (by with_reducible assumption) (by with_reducible assumption)) he|rename_i hj hb2;exact absurd (hb2.symm.trans (hok _ hj)) (by decide)|refine Le.of ?_;simp[t9, *];done|simp only[*,Bool.and_self,Bool.not_false,Bool.not_true];done
def Un (s:ByteArray):Cz:={
 ct:=(fun f=>match f with
 |72=>b0c
 |91=>b3j s
 |92=>a8x s
 |93=>a8t s
 |_=>none)
 sym:=[22,27,32],nf:=[(29,bv (!aT s)),(32,.c (.l (.v (.string (A3 s))))),(47,iv .i64 (z7 (m6 s))),(48,bv (L8 s)),(68,bv false),(167,bv false),(178,iv .i64 (z3 s)),(180,bv (decide (z3 s<aZ s))),(191,iv .i64 (z3 s)),(193,bv (decide (z3 s>aZ s)))],lp:=fun r=>match r with|18=>some (fun _ K=>((∀j,j<(nN (m6 s))->M0 (m6 s) j=true)->K (.exit 0) (vA (m6 s) (A3 s) (D2 s).1 (nN (m6 s))))/\(∀j,j<(nN (m6 s))->M0 (m6 s) j=false->K .ret Q35))|42=>some (fun _ K=>K (.exit 2) (iX s (nN (m6 s))))|_=>none,wh:=[82]}
theorem d0p (s:ByteArray) (hs:s.size<=1000000000000000000) (he:t9 s=0):f4 prog 35 [.c (.l (.v (.string s)))] [] 0 (ag [.p 0 0,li 0]) [(0,⟨[.o 1 (nN (m6 s)),li 0],.t 91⟩),(1,⟨o4 (z6 s),.r 59 8 1⟩)] 2:=by
 have hp:=oP he
 have hr:(A3 s).size<=1000000000000000000:=Nat.le_trans (jK s) hs
 have hi:(m6 s).size<=1000000000000000000:=Nat.le_trans (hM s) hr
 have hok:=(I7 hp).2.1
 have hn:=oF hp
 have hhd:=(I7 hp).1
 have hpl:=(I7 hp).2.2
 refine E3 (q:=let a:=(s.size:Int);let b:=a<2;let d:=!decide b;let e:=(Nat.cast ((s.get! (Int.toNat 0)).toNat):Int);let f:=!bif decide b then true else e != 71;let h:=bif decide b then true else e != 71;let i:=(Nat.cast ((s.get! (Int.toNat 1)).toNat):Int);let k:=Value.pointer none;let m:=(ag [Leaf.v k,li 11]);let n:=(ag [Leaf.p 0 0,li 0]);let ud:=l9 (A3 s);let w:=[l9 (A3 s),li 0,lb false];let x:=l9 (m6 s);let y:=[l9 (A3 s),li ((dE s).fst:Int),lb (dE s).snd];let z:=[(1,j9 y 149)];let A:=((D2 s).fst:Int);let B:=[l9 (A3 s),li A,lb (D2 s).snd];let C:=(ag [Leaf.v k,li 10]);let D:=z7 (m6 s);let E:=[l9 (m6 s),li 0,lb false];let G:=nP (m6 s);let H:=Oct.l7 (m6 s) 0 false;let I:=[l9 (m6 s),li (Nat.cast ((o3 (m6 s) 0)):Int),lb H.snd.snd];let J:=!H.snd.snd;let L:=nP (m6 s)<0;let M:=!bif H.snd.snd then true else decide L;let N:=bif H.snd.snd then true else decide L;let O:=nP (m6 s)>1024;let P:=Value.slice none 0 0;let Q:=[Leaf.v P,li 0];let R:=(0,some (j9 [Leaf.v k,li 0] 82));let T:=(∀(j:Nat),j<nN (m6 s)->M0 (m6 s) j=true);let U:=nN (m6 s);let V:=(Nat.cast ((o3 (m6 s) U)):Int);let W:=((m6 s).size:Int);let X:=((A3 s).size:Int);let Y:=decide (z3 s<aZ s);let Z:=(x8 0 0 [3,4]);let aa:=(j9 [Leaf.o 4 U,li 0] 91);let ab:=(j9 [Leaf.o 1 U,li 0] 91);let ac:=o8 (o4 (E4 (m6 s) U)) 59 8 4;let ad:=o8 (o4 (z6 s)) 59 8 1;let ae:=decide (z3 s>aZ s);let af:=N8 (m6 s) U;let ah:=(Nat.cast (U):Int);(d=true->d=true/\t0 0 s.size/\True)/\(d=true->d=true/\True)/\(decide b=false->d=true)/\(f=true->f=true/\t0 1 s.size/\True)/\(f=true->f=true/\True)/\(h=false->f=true)/\Le (bv (bif bif decide b then true else e != 71 then true else i != 1)) (bv !aT s)/\HB (!aT s) (0=0/\2=2/\Le m n/\False) (O6 2 a a/\Le (l4 (l9 (s.extract (Int.toNat 2) (a).toNat))) (l4 ud)/\Kd 91 [] [j7 1 0] [(1,j9 w 149)] 2 (l4 x) z 0/\Kd 92 [] [j7 1 0,i8 4] z 2 (i8 (dD s)) [(1,j9 B 149)] 0/\HB (D2 s).snd (0=0/\2=2/\Le C n/\False) (Kd 72 [] [l4 x] [] 2 (iv .u32 D) [] 0/\Le (i8 (IntKind.i64.wrap D)) (i8 D)/\Le (bv (dD s != z7 (m6 s))) (bv (L8 s))/\HB (L8 s) (0=0/\2=2/\Le (ag [Leaf.v k,li 12]) n/\False) (Kd 93 [] [j7 2 0] [(2,j9 E 149)] 3 (i8 G) [(2,j9 I 149)] 0/\(J=true->J=true/\True)/\(H.snd.snd=false->J=true)/\(M=true->M=true/\True)/\(N=false->M=true)/\Le (bv (bif bif H.snd.snd then true else decide L then true else decide O)) (bv false)/\(l3 prog (gl 18 Tryz.f35) (St.mk [(11,i8 0),(10,i8 0),(9,l4 (Leaf.v P)),(68,bv false),(67,SV.g M (Cp.l (lb (decide O)))),(66,SV.g M (Cp.l (li G))),(65,bv N),(64,bv N),(63,SV.g J (Cp.l (lb (decide L)))),(62,SV.g J (Cp.l (li G))),(61,bv H.snd.snd),(60,bv H.snd.snd),(59,j7 2 2),(58,j7 2 0),(57,j7 2 0),(8,j7 3 0),(56,j7 3 0),(55,ag Q),(7,i8 G),(54,i8 G),(53,j7 2 0),(6,j7 2 0),(52,j7 2 0),(51,ag E),(50,l4 x),(48,bv (L8 s)),(47,i8 D),(46,iv .u32 D),(45,l4 x),(44,i8 (dD s)),(42,bv (D2 s).snd),(41,j7 1 2),(40,j7 1 0),(39,j7 1 0),(5,i8 (dD s)),(38,i8 (dD s)),(37,j7 1 0),(4,l4 x),(36,l4 x),(35,j7 1 0),(3,j7 1 0),(34,j7 1 0),(33,ag w),(32,l4 ud),(31,l4 (l9 s)),(29,bv !aT s),(28,SV.g f (Cp.l (lb (i != 1)))),(27,SV.g f (Cp.l (l8 i))),(26,SV.g f (Cp.l (l9 s))),(25,bv h),(24,bv h),(23,SV.g d (Cp.l (lb (e != 71)))),(22,SV.g d (Cp.l (l8 e))),(21,SV.g d (Cp.l (l9 s))),(20,bv (decide b)),(19,bv (decide b)),(18,i8 a),(17,l4 (l9 s)),(2,j7 0 0),(0,l4 (l9 s))] [(3,some (j9 Q 91)),(2,some (j9 I 149)),(2,some (j9 E 149)),(1,some (j9 B 149)),(1,some (j9 y 149)),(1,some (j9 w 149)),R] 4 215 [3,2,2,1,1,1,0] 0) fun K=>(T->K (Exit.exit 0) (vA (m6 s) (A3 s) (D2 s).fst U))/\∀(j:Nat),j<nN (m6 s)->M0 (m6 s) j=false->K Exit.ret Q35)/\(T->Le (bv (V != W)) (bv false)/\IntKind.i64.wrap (X-A)=X-A/\Le (i8 (X-A)) (i8 (z3 s))/\Le (bv (decide (z3 s<N8 (m6 s) U))) (bv Y)/\HB Y (0=0/\2=2/\Le C n/\A5 Z aa ab/\A5 Z ac ad/\True) (IntKind.i64.wrap (X-A)=X-A/\Le (i8 (X-A)) (i8 (z3 s))/\Le (bv (decide (z3 s>N8 (m6 s) U))) (bv ae)/\HB ae (0=0/\2=2/\Le m n/\A5 Z aa ab/\A5 Z ac ad/\True) ((l3 prog (gl 42 Tryz.f35) (St.mk [(16,i8 0),(193,bv ae),(192,i8 af),(191,i8 (z3 s)),(190,i8 A),(189,j7 1 1),(188,j7 1 0),(187,j7 1 0),(186,i8 X),(185,l4 ud),(184,j7 1 0),(183,j7 1 0),(182,j7 1 0),(180,bv Y),(179,i8 af),(178,i8 (z3 s)),(177,i8 A),(176,j7 1 1),(175,j7 1 0),(174,j7 1 0),(173,i8 X),(172,l4 ud),(171,j7 1 0),(170,j7 1 0),(169,j7 1 0),(167,bv false),(166,i8 W),(165,l4 x),(164,i8 V),(163,j7 2 1),(162,j7 2 0),(161,j7 2 0),(11,i8 ah),(7,i8 ah),(10,i8 af),(8,j7 3 0),(6,j7 2 0),(3,j7 1 0),(9,l4 (Leaf.o 5 U)),(4,l4 x),(2,j7 0 0)] [R,(1,some (j9 [l9 (A3 s),li A,lb false] 149)),(2,some (j9 [l9 (m6 s),li V,lb false] 149)),(3,some aa),(4,some ac),(5,some (o8 (U5 (m6 s) U) 3 1 5))] 6 215 [5,4,3,2,1,0] 0) fun K=>K (Exit.exit 2) (iX s U))/\0=0/\2=2/\Le n n/\A5 Z aa ab/\A5 Z (o8 (o4 (U7 s U)) 59 8 4) ad/\True)))/\∀(j:Nat),j<nN (m6 s)->M0 (m6 s) j=false->Le m n/\False)))) (Un s) [3,4] func35 (by kernel_rfl) (by kernel_rfl) ?_
 with_reducible repeat' first|exact trivial|apply And.intro|apply HB.mk|intro _
 all_goals first|(with_reducible first|assumption|exact Le.refl _|rfl|exact of3 _ hi _|exact of1 s hr _ _|exact of2 s hr _ _|exact of4 _ hi _ _)|exact l3.re [(4,none),(5,none)] (vA (m6 s) (A3 s) (D2 s).1 0) (by kernel_rfl) (m9 (H8.k (by kernel_rfl)) (m9 (H8.sl_int (y:=nP (m6 s)) (by kernel_rfl) ((E2 hhd).2.1)) (m9 (H8.k (by kernel_rfl)) (m9 (H8.k (by kernel_rfl)) (m9 (H8.k (by kernel_rfl)) (m9 (H8.k (by kernel_rfl)) (m9 (H8.nilS (by kernel_rfl) (show 5<6 by decide) rfl) (W4.k (by kernel_rfl))))))))) (f5 (j:=0) rfl (v5.k (by kernel_rfl)) (f5 (j:=1) rfl (v5.blk (k:=⟨[.v (.string (A3 s)),.v (.int .i64 ((D2 s).1:Nat)),.v (.bool (D2 s).2)],.t 149⟩) (k'':=⟨[.v (.string (A3 s)),.v (.int .i64 ((D2 s).1:Nat)),.v (.bool (D2 s).2)],.t 149⟩) (by kernel_rfl) (by kernel_rfl) (by rw[show (D2 s).2=false from (by with_reducible assumption)])) (f5 (j:=2) rfl (v5.blk (k:=⟨[.v (.string (m6 s)),.v (.int .i64 (o3 (m6 s) 0:Nat)),.v (.bool (Oct.l7 (m6 s) 0 false).2.2)],.t 149⟩) (k'':=⟨[.v (.string (m6 s)),.v (.int .i64 (o3 (m6 s) 0:Nat)),.v (.bool (Oct.l7 (m6 s) 0 false).2.2)],.t 149⟩) (by kernel_rfl) (by kernel_rfl) (by rw[(E2 hhd).1])) (f5 (j:=3) rfl (v5.lsB (xs:=[.v (.slice none 0 0),li 0]) (by kernel_rfl) (aY.cons (gT.nil (show 4<6 by decide) rfl) (aY.of rfl))) (G0.k (by kernel_rfl)))))) (fun K hT=>Cm (m6 s) (A3 s) (D2 s).1 hi (E2 hhd).2.2 _ 0 rfl (Nat.zero_le _) (fun j hj=>absurd hj (Nat.not_lt_zero j)) K hT.1 hT.2)|exact l3.tk (iX s 0) (by kernel_rfl) (d5 (l6.k (by kernel_rfl)) (d5 (l6.blk (k:=⟨[.v (.string (A3 s)),.v (.int .i64 ((D2 s).1:Nat)),.v (.bool false)],.t 149⟩) (by kernel_rfl) (by show _=_;rfl) (by kernel_rfl)) (d5 (l6.k (by kernel_rfl)) (d5 (l6.plain (cs:=o4 (E4 (m6 s) (nN (m6 s)))) (b:=.r 59 8 4) (by kernel_rfl) (by rw[cZ]) (g9 _) (by kernel_rfl)) (d5 (l6.p (v4 _ _) (by kernel_rfl)) trivial))))) (fun K hT=>b2w s hr hp (Z5 (by with_reducible assumption) (by with_reducible assumption)) _ 0 rfl (Nat.zero_le _) K hT)|refine Le.bool ?_;exact hhd|have:=Av s;exact C2 _ (by omega) (by omega)|refine Le.bool ?_;rw[hpl];simp;done|with_reducible exact Le.bool (a8s _)|(refine ⟨by omega,?_⟩;simp at *;omega)|have:=Cd (cW (by with_reducible assumption));unfold O6;omega|refine Le.of ?_;rw[<-b3h (cW (by with_reducible assumption))];rfl|(with_reducible first|exact Le.int (Ox _)|exact Le.bool (cK s))|exact Le.bool rfl|exact Le.int rfl|exact A5.plain (by rw[yN]) (g9 _) (by kernel_rfl)|rename_i hj hb2;exact absurd (hb2.symm.trans (hok _ hj)) (by decide)|exfalso;simp_all [t9];done|exact A5.of rfl|simp only[*,Bool.and_self,Bool.not_false,Bool.not_true];done
theorem kG (s:ByteArray) (hs:s.size<=1000000000000000000) (he:t9 s≠0) (n:Nat):f4 prog 35 [.c (.l (.v (.string s)))] [] n (ag [.v (.pointer none),li (t9 s)]) [] 0:=by
 cases hp:A4 (m6 s) with
 |false=>exact c9b s hs hp n
 |true=>exact d0q s hs hp he n
theorem oJ (s:ByteArray) (hs:s.size<=1000000000000000000) (he:t9 s=0) (n:Nat):f4 prog 35 [.c (.l (.v (.string s)))] [] n (ag [.p n 0,li 0]) [(n,⟨[.o (n+1) (z6 s).length,li 0],.t 91⟩),(n+1,⟨o4 (z6 s),.r 59 8 (n+1)⟩)] 2:=by
 have key:=j8.off (d0p s hs he) n
 simp only[List.map_cons,List.map_nil,n6.ren,SV.ren,Cp.ren,Leaf.ren,BT.ren,j5 (g9 _),Nat.add_zero] at key
 rw[iC]
 exact key
end Ab
end
section
namespace Ab
attribute [local irreducible] j8
attribute [local irreducible] tl n8
def I8 (t:Nat->UInt8) (e:Int):List Leaf:=tl t++[li e]
def xW (s:ByteArray) (k:Nat):St:=⟨[(4,iv .i64 (k:Nat)),(3,.c (.l (.p 1 0))),(0,.c (.l (.v (.string s)))),(2,.c (.l (.p 0 0)))],[(0,some ⟨I8 zT 0,.t 219⟩),(1,some ⟨tl (C4 k (B5 s) zT),.t 38⟩)],2,38,[1,0],(0)⟩
theorem D3 {t:Nat->UInt8} {e:Int}:B7 (I8 t e):=(j3 t).append (B7.cons B7.nil)
theorem c7c (t:Nat->UInt8) (e:Int):(I8 t e).length=257:=by
 unfold I8
 rw[List.length_append,B8];rfl
theorem Tb (e:Int):o7++[li e]=I8 zT e:=by
 unfold I8
 rw[q9]
theorem b1p (s:ByteArray) {k:Nat} (hk:k<64) (h:s.size=256):j4 (tl (C4 k (B5 s) zT)) (0+((k:Nat):Int).toNat*4) [ub (s.get! (4*k)),ub (s.get! (4*k+1)),ub (s.get! (4*k+2)),ub (s.get! (4*k+3))]=tl (C4 (k+1) (B5 s) zT):=by
 rw[show 0+((k:Nat):Int).toNat*4=k*4 by omega]
 exact M4 k _ _ hk
def Ux (s:ByteArray) (k:Nat):Cz:={
 ct:=fun _=>none
 sym:=[0,18,23,28,33,35],nf:=[(18,.c (.l (ub (s.get! (4*k))))),(23,.c (.l (ub (s.get! (4*k+1))))),(28,.c (.l (ub (s.get! (4*k+2))))),(33,.c (.l (ub (s.get! (4*k+3)))))]}
theorem c5v (s:ByteArray) (k:Nat)  (K:Exit->St->Prop) (h:let a:=(4*(k:Int));let b:=(Nat.cast ((s.get! (4*k)).toNat):Int);let d:=(4*(k:Int)+1);let e:=(Nat.cast ((s.get! (4*k+1)).toNat):Int);let f:=(4*(k:Int)+2);let g:=(Nat.cast ((s.get! (4*k+2)).toNat):Int);let i:=(4*(k:Int)+3);let j:=(Nat.cast ((s.get! (4*k+3)).toNat):Int);let m:=((k:Int));let n:=(0,l4 (l9 s));let o:=(0,some (j9 (I8 zT 0) 219));let q:=tl (C4 k (B5 s) zT);HB (decide ((k:Int)<64)) (IntKind.i64.wrap a=4*(k:Int)/\t0 a s.size/\Le (iv .u8 (Nat.cast ((s.get! a.toNat).toNat):Int)) (iv .u8 b)/\IntKind.i64.wrap a=4*(k:Int)/\IntKind.i64.wrap d=4*(k:Int)+1/\t0 d s.size/\Le (iv .u8 (Nat.cast ((s.get! d.toNat).toNat):Int)) (iv .u8 e)/\IntKind.i64.wrap a=4*(k:Int)/\IntKind.i64.wrap f=4*(k:Int)+2/\t0 f s.size/\Le (iv .u8 (Nat.cast ((s.get! f.toNat).toNat):Int)) (iv .u8 g)/\IntKind.i64.wrap a=4*(k:Int)/\IntKind.i64.wrap i=4*(k:Int)+3/\t0 i s.size/\Le (iv .u8 (Nat.cast ((s.get! i.toNat).toNat):Int)) (iv .u8 j)/\t0 m 64/\0+m.toNat*4+4<=256/\IntKind.i64.wrap ((k:Int)+1)=(k:Int)+1/\RoundTo prog (gl 5 Tryz.f175) 2 (wkK 2 K) (St.mk [n,(2,j7 0 0),(3,j7 1 0),(4,i8 ((k:Int)+1))] [o,(1,some (j9 (j4 q (0+m.toNat*4) [l8 b,l8 e,l8 g,l8 j]) 38))] 2 38 [1,1,0] 0)) (wkK 2 K (Exit.exit 0) (St.mk [n,(2,j7 0 0),(3,j7 1 0),(4,i8 (k:Int))] [o,(1,some (j9 q 38))] 2 38 [1,0] 0))):z4 prog (gl 5 Tryz.f175) (xW s k) (wkK 2 K):=
 m5 [0,2,3,4] [0,1] (cx:=Ux s k) rfl (u3 (by kernel_rfl) h)
theorem c3o (s:ByteArray) (hs:s.size=256):∀(m k:Nat),64-k=m->k<=64->∀(K:Exit->St->Prop),K (.exit 0) (xW s 64)->z4 prog (gl 5 Tryz.f175) (xW s k) (wkK 2 K)
 |0,k,hm,hk,K,hK=>by
  have e:k=64:=by omega
  subst e
  refine c5v s _ K (HB.no (by omega) ?_)
  exact wkK.tk (xW s _) (by kernel_rfl) (d5 (l6.p (D3) (by kernel_rfl)) (d5 (l6.p (j3 _) (by kernel_rfl)) trivial)) hK
 |m+1,k,hm,hk,K,hK=>by
  refine c5v s k K (HB.yes (by omega) ?_)
  have hlt:k<64:=by omega
  with_reducible repeat' first|exact trivial|apply And.intro|apply HB.mk|intro _
  all_goals first|(exact ⟨by omega,by omega⟩)|exact C2 _ (by omega) (by omega)|omega|(with_reducible refine RoundTo.tk 2 (xW s (k+1)) ?_ ?_ ?_);kernel_rfl;exact (d5 (l6.p (D3) (by kernel_rfl)) (d5 (l6.plain (cs:=j4 (tl (C4 k (B5 s) zT)) (0+((k:Nat):Int).toNat*4) [ub (s.get! (4*k)),ub (s.get! (4*k+1)),ub (s.get! (4*k+2)),ub (s.get! (4*k+3))]) (b:=.t 38) (by kernel_rfl) (b1p s hlt hs) (j3 _) (by kernel_rfl)) trivial));exact (c3o s hs m (k+1) (by omega) (by omega) K hK)|exact Le.of rfl
theorem Tq (t:Nat->UInt8):j4 (o7++[li 0]) 0 (tl t)=I8 t 0:=by
 unfold I8
 rw[P3 _ _ _ _ (by rw[B8,q9,B8];exact Nat.le_refl _),eP (by rw[q9,B8,B8])]
theorem b3i (s:ByteArray):tl (C4 64 (B5 s) zT)=tl (B5 s):=by rw[T7]
theorem Eo {s:ByteArray} (h:s.size=256):(((s.size:Nat):Int) != 256)=false:=by rw[h];rfl
def a3n (s:ByteArray):Cz:={
 ct:=fun _=>none
 nf:=[(7,bv false),(36,.c (.agg (tl (B5 s)))),(37,.c (.agg (I8 (B5 s) 0)))],lp:=fun r=>match r with|5=>some (fun _ K=>K (.exit 0) (xW s 64))|_=>none,wh:=[38,219]}
theorem d0z (s:ByteArray) (hs:s.size=256) (n:Nat):f4 prog 175 [.c (.l (.v (.string s)))] [] n (.c (.agg (I8 (B5 s) 0))) [] 0:=by
 refine v6 (q:=let a:=(1,some (j9 o7 38));let b:=o7++[li 0];let d:=ag (I8 (B5 s) 0);Le (bv ((s.size:Int) != 256)) (bv false)/\0=0/\256=256/\(l3 prog (gl 5 Tryz.f175) (St.mk [(4,i8 0),(3,j7 1 0),(9,ag o7),(7,bv false),(6,i8 (s.size:Int)),(5,l4 (l9 s)),(2,j7 0 0),(0,l4 (l9 s))] [a,a,(0,some (j9 b 219))] 2 38 [1,1,0] 0) fun K=>K (Exit.exit 0) (xW s 64))/\Le (ag (List.take 256 (tl (C4 64 (B5 s) zT)))) (ag (tl (B5 s)))/\Le (ag (j4 b 0 (tl (B5 s)))) d/\0=0/\257=257/\Le (ag (tl (B5 s)++[li 0])) d/\True) (a3n s) func175 n (by kernel_rfl) (by kernel_rfl) ?_
 with_reducible repeat' first|exact trivial|apply And.intro|apply HB.mk|intro _|rfl
 all_goals first|exact l3.tk (xW s 0) (by kernel_rfl) (d5 (l6.plain (cs:=o7++[li 0]) (b:=.t 219) (by kernel_rfl) (Tb 0) (D3) (by kernel_rfl)) (d5 (l6.plain (cs:=o7) (b:=.t 38) (by kernel_rfl) (by rw[L7];exact q9) (j3 _) (by kernel_rfl)) trivial)) (fun K hT=>c3o s hs _ 0 rfl (by first|decide|omega) K hT)|refine Le.of ?_;rw[b3i,t7];done|with_reducible exact Le.bool (Eo hs)|exact Le.of (congrArg (fun l=>SV.c (.agg l)) (Tq _))|exact Le.of rfl
end Ab
end
section
namespace Ab
attribute [local irreducible] j8
attribute [local irreducible] tl n8
def bR' (y u v:UInt8):UInt8:=Prd.M.bkR y u v
def bG' (y v:UInt8):UInt8:=Prd.M.bkG y v
def bB' (y u v:UInt8):UInt8:=Prd.M.bkB y u v
def fD (p:Int) (s:ByteArray) (m:Nat):Nat->UInt8:=Prd.M.vN p.toNat (B5 s) m
def plU (p:Int) (s:ByteArray) (j i:Nat):Nat->UInt8:=Prd.M.pl (fD p s (64*j+i)) j
def upv (p:Int) (s:ByteArray) (j i:Nat):UInt8:=s.get! (64*j+i)+gsR p (plU p s j i) i
def F7 (p:Int) (s:ByteArray):Nat->UInt8:=fD p s 256
def qF (p:Int) (s:ByteArray) (k:Nat):Nat->UInt8:=Prd.iP (F7 p s) k
def a1n (y u v:UInt8):Cz:={
 ct:=fun _=>none
 raw:=[10,15,19,23],nf:=[(9,.c (.l (ub (v / 2)))),(10,.c (.l (ub (y-v / 2)))),(14,.c (.l (ub (u / 2)))),(15,.c (.l (ub (y-v / 2-u / 2)))),(19,.c (.l (ub (y-v / 2-u / 2+u)))),(23,.c (.l (ub (v+(y-v / 2)))))],wh:=[242,245]}
theorem c8h (y u v:UInt8)  (n:Nat):f4 prog 201 [ag [ub y,ub u,ub v]] [] n (ag [ub (bR' y u v),ub (bG' y v),ub (bB' y u v)]) [] 0:=by
 refine v6 (q:=let a:=((v / 2).toNat:Int);let b:=((y-v / 2).toNat:Int);let c:=((u / 2).toNat:Int);let d:=((y-v / 2-u / 2).toNat:Int);let e:=((y-v / 2-u / 2+u).toNat:Int);let f:=(Nat.cast ((v+(y-v / 2)).toNat):Int);(2:Int)≠0/\Le (iv .u8 (IntKind.u8.wrap (((v.toNat:Int)).tdiv 2))) (iv .u8 a)/\Le (iv .u8 (IntKind.u8.wrap ((y.toNat:Int)-a))) (iv .u8 b)/\(2:Int)≠0/\Le (iv .u8 (IntKind.u8.wrap (((u.toNat:Int)).tdiv 2))) (iv .u8 c)/\Le (iv .u8 (IntKind.u8.wrap (b-c))) (iv .u8 d)/\Le (iv .u8 (IntKind.u8.wrap (d+(u.toNat:Int)))) (iv .u8 e)/\Le (iv .u8 (IntKind.u8.wrap ((v.toNat:Int)+b))) (iv .u8 f)/\0=0/\3=3/\Le (ag [l8 e,l8 f,l8 d]) (ag [l8 ((bR' y u v).toNat:Int),l8 ((bG' y v).toNat:Int),l8 ((bB' y u v).toNat:Int)])/\True) (a1n y u v) func201 n (by kernel_rfl) (by kernel_rfl) ?_
 with_reducible repeat' first|exact trivial|apply And.intro|apply HB.mk|intro _|rfl
 all_goals first|exact Le.int (Sw _ _)|exact Le.int (Eu _ _)|exact Le.int (Qg _)|exact Le.of rfl|exact Le.of rfl|simp_all [mX];done
theorem a6i (f:Nat->UInt8) {z m:Nat} (e:z=m) (h:m<256):SV.c (.l ((tl f).getD z .u))=.c (.l (ub (f m))):=by
 subst e;rw[lX f h]
theorem a4d (p:Int) (s:ByteArray) {j i z:Nat} (hi:i<64) (hj:j<4) (e:z=64*j+i):j4 (tl (fD p s (64*j+i))) z [ub (upv p s j i)]=tl (fD p s (64*j+(i+1))):=by
 subst e
 rw[pD _ (by omega)]
 unfold fD upv plU gsR
 rw[show 64*j=j*64 by omega]
 exact congrArg tl (Prd.Em p.toNat (B5 s) j i hi)
theorem c6r (U:Nat->UInt8) {j:Nat} (hj:j<4) {z:Nat} (e:z=64*j):List.take 64 (List.drop z (tl U))=tb (Prd.M.pl U j) 64:=by
 subst e
 apply List.ext_getElem?
 intro i
 by_cases hi:i<64
 ·rw[List.getElem?_take_of_lt hi,List.getElem?_drop,cD _ (by omega)]
  unfold tb Prd.M.pl
  simp[hi]
 ·rw[List.getElem?_eq_none (by rw[List.length_take];omega),List.getElem?_eq_none (by rw[uT];omega)]
theorem Mw (p:Int) (s:ByteArray):o7=tl (fD p s 0):=by rw[q9];rfl
theorem Ps (p:Int) (s:ByteArray):o7=tl (qF p s 0):=by
 rw[q9]
 exact J4 fun i hi=>by unfold qF;rw[Prd.rW];rfl
theorem Wb (p:Int) (s:ByteArray) {k z:Nat} (hk:k<64) (e:z=4*k):j4 (tl (qF p s k)) z [ub (bR' (F7 p s k) (F7 p s (64+k)) (F7 p s (128+k))),ub (bG' (F7 p s k) (F7 p s (128+k))),ub (bB' (F7 p s k) (F7 p s (64+k)) (F7 p s (128+k))),ub (F7 p s (192+k))]=tl (qF p s (k+1)):=by
 subst e
 rw[show 4*k=k*4 by omega,eO _ hk]
 refine J4 fun i hi=>?_
 have key:=Prd.yY (F7 p s) k i
 unfold qF
 rw[<-key]
 unfold U2 Prd.M.put
 unfold bR' bG' bB'
 by_cases h0:i=4*k
 ·subst h0
  rw[if_pos rfl,if_neg (by omega),if_neg (by omega),if_neg (by omega),if_pos (by omega)]
 ·by_cases h1:i=4*k+1
  ·subst h1
   rw[if_neg (by omega),if_pos rfl,if_neg (by omega),if_neg (by omega),if_pos (by omega)]
  ·by_cases h2:i=4*k+2
   ·subst h2
    rw[if_neg (by omega),if_neg (by omega),if_pos rfl,if_neg (by omega),if_pos (by omega)]
   ·by_cases h3:i=4*k+3
    ·subst h3
     rw[if_neg (by omega),if_neg (by omega),if_neg (by omega),if_pos rfl,if_pos (by omega)]
    ·rw[if_neg h0,if_neg h1,if_neg h2,if_neg h3,if_neg (by omega),if_neg (by omega),if_neg (by omega),if_neg (by omega)]
def jX (s:ByteArray) (p:Int) (j i:Nat):St:=⟨[(7,iv .i64 (i:Nat)),(6,iv .i64 (j:Nat)),(5,.c (.l (.p 1 0))),(1,iv .i64 p),(0,.c (.l (.v (.string s)))),(4,.c (.l (.p 0 0)))],[(0,some ⟨I8 zT 0,.t 223⟩),(1,some ⟨tl (fD p s (64*j+i)),.t 211⟩)],2,82,[1,0],(0)⟩
def uR (s:ByteArray) (p:Int) (j:Nat):St:=⟨[(6,iv .i64 (j:Nat)),(5,.c (.l (.p 1 0))),(1,iv .i64 p),(0,.c (.l (.v (.string s)))),(4,.c (.l (.p 0 0)))],[(0,some ⟨I8 zT 0,.t 223⟩),(1,some ⟨tl (fD p s (64*j)),.t 211⟩)],2,82,[1,0],(0)⟩
def fM (s:ByteArray) (p:Int) (k:Nat):St:=⟨[(9,iv .i64 (k:Nat)),(8,.c (.l (.p 2 0))),(5,.c (.l (.p 1 0))),(1,iv .i64 p),(0,.c (.l (.v (.string s)))),(4,.c (.l (.p 0 0)))],[(0,some ⟨I8 zT 0,.t 223⟩),(1,some ⟨tl (F7 p s),.t 211⟩),(2,some ⟨tl (qF p s k),.t 38⟩)],3,82,[2,1,0],(0)⟩
def So (s:ByteArray) (p:Int) (j:Nat) (k:Nat):Cz:={
 ct:=(fun f=>match f with
 |167=>some fun _ _=>fun | [_,.c (.l (.v (.int _ i))),_]=>some {v:=iv .u8 ((gsR p (plU p s j k) k).toNat:Nat)}|_=>none
 |_=>none)
 raw:=[45],sym:=[0,38,40,41,46,47],nf:=[(38,.c (.l (ub (s.get! (64*j+k))))),(41,.c (.agg (tb (plU p s j k) 64))),(45,.c (.l (ub (upv p s j k))))]}
theorem a6c (s:ByteArray) (p:Int) (j:Nat) (k:Nat)  (K:Exit->St->Prop) (h:let a:=(64*(j:Int)+(k:Int));let b:=(Nat.cast ((s.get! (64*j+k)).toNat):Int);let d:=((j:Int));let e:=tl (fD p s (64*j+k));let f:=tb (plU p s j k) 64;let g:=(Nat.cast ((gsR p (plU p s j k) k).toNat):Int);let i:=((upv p s j k).toNat:Int);let m:=((k:Int));let n:=(0,l4 (l9 s));let o:=(6,i8 (j:Int));let q:=(0,some (j9 (I8 zT 0) 223));HB (decide ((k:Int)<64)) (IntKind.i64.wrap (64*(j:Int))=64*(j:Int)/\IntKind.i64.wrap a=64*(j:Int)+(k:Int)/\t0 a s.size/\Le (iv .u8 (Nat.cast ((s.get! a.toNat).toNat):Int)) (iv .u8 b)/\t0 d 4/\0+d.toNat*64+64<=256/\Le (ag (List.take 64 (List.drop (0+d.toNat*64) e))) (ag f)/\Kd 167 [] [ag f,i8 (k:Int),i8 p] [] 2 (iv .u8 g) [] 0/\Le (iv .u8 (IntKind.u8.wrap (b+g))) (iv .u8 i)/\t0 d 4/\t0 m 64/\0+d.toNat*64+m.toNat*1+1<=256/\IntKind.i64.wrap ((k:Int)+1)=(k:Int)+1/\RoundTo prog (gl 10 Tryz.f177) 2 (wkK 2 K) (St.mk [n,(1,i8 p),(4,j7 0 0),(5,j7 1 0),o,(7,i8 ((k:Int)+1))] [q,(1,some (j9 (j4 e (0+d.toNat*64+m.toNat*1) [l8 i]) 211))] 2 82 [1,1,0] 0)) (wkK 2 K (Exit.exit 2) (St.mk [n,(1,i8 p),(4,j7 0 0),(5,j7 1 0),o,(7,i8 (k:Int))] [q,(1,some (j9 e 211))] 2 82 [1,0] 0))):z4 prog (gl 10 Tryz.f177) (jX s p j k) (wkK 2 K):=
 m5 [0,1,4,5,6,7] [0,1] (cx:=So s p j k) rfl (u3 (by kernel_rfl) h)
theorem a4z (s:ByteArray) (p:Int) (j:Nat) (hs:s.size=256) (h0:0<=p) (hp:p<6) (hj:j<4):∀(m k:Nat),64-k=m->k<=64->∀(K:Exit->St->Prop),K (.exit 2) (jX s p j 64)->z4 prog (gl 10 Tryz.f177) (jX s p j k) (wkK 2 K)
 |0,k,hm,hk,K,hK=>by
  have e:k=64:=by omega
  subst e
  refine a6c s p j _ K (HB.no (by omega) ?_)
  exact wkK.tk (jX s p j _) (by kernel_rfl) (d5 (l6.p (D3) (by kernel_rfl)) (d5 (l6.p (j3 _) (by kernel_rfl)) trivial)) hK
 |m+1,k,hm,hk,K,hK=>by
  refine a6c s p j k K (HB.yes (by omega) ?_)
  have hlt:k<64:=by omega
  with_reducible repeat' first|exact trivial|apply And.intro|apply HB.mk|intro _
  all_goals first|(with_reducible refine a5f _ _ _ ?_ ?_ ?_ _)<;>omega|(exact ⟨by omega,by omega⟩)|omega|exact C2 _ (by omega) (by omega)|refine Le.of ?_;simp only[tn,Nat.zero_add,Nat.add_zero,Nat.mul_one];exact congrArg (fun l=>SV.c (.agg l)) (c6r _ hj (by omega))|with_reducible exact Le.int (Eu _ _)|(with_reducible refine RoundTo.tk 2 (jX s p j (k+1)) ?_ ?_ ?_);kernel_rfl;exact (d5 (l6.p (D3) (by kernel_rfl)) (d5 (l6.plain (cs:=j4 (tl (fD p s (64*j+k))) (0+((j:Nat):Int).toNat*64+((k:Nat):Int).toNat*1) [ub (upv p s j k)]) (b:=.t 211) (by kernel_rfl) (a4d p s hlt hj (by omega)) (j3 _) (by kernel_rfl)) trivial));exact (a4z s p j hs h0 hp hj m (k+1) (by omega) (by omega) K hK)|exact Le.of rfl
def Yz (s:ByteArray) (p:Int) (k:Nat):Cz:={
 ct:=fun _=>none
 lp:=fun r=>match r with|10=>some (fun _ K=>K (.exit 2) (jX s p k 64))|_=>none}
theorem b8w (s:ByteArray) (p:Int) (k:Nat)  (K:Exit->St->Prop) (h:let a:=(decide ((k:Int)<4));let b:=(6,i8 (k:Int));let d:=(5,j7 1 0);let e:=(1,i8 p);let f:=(0,l4 (l9 s));let g:=(4,j7 0 0);let i:=(0,some (j9 (I8 zT 0) 223));let j:=[i,(1,some (j9 (tl (fD p s (64*k))) 211))];HB a ((l3 prog (gl 10 Tryz.f177) (St.mk [(7,i8 0),(24,bv a),(23,i8 (k:Int)),b,d,e,f,g] j 2 82 [1,0] 0) fun K=>K (Exit.exit 2) (jX s p k 64))/\IntKind.i64.wrap ((k:Int)+1)=(k:Int)+1/\RoundTo prog (gl 7 Tryz.f177) 2 (wkK 2 K) (St.mk [f,e,g,d,(6,i8 ((k:Int)+1)),(7,i8 (Nat.cast 64:Int))] [i,(1,some (j9 (tl (fD p s (64*k+64))) 211))] 2 82 [1,0] 0)) (wkK 2 K (Exit.exit 0) (St.mk [f,e,g,d,b,(7,SV.u)] j 2 82 [1,0] 0))):z4 prog (gl 7 Tryz.f177) (uR s p k) (wkK 2 K):=
 m5 [0,1,4,5,6,7] [0,1] (cx:=Yz s p k) rfl (u3 (by kernel_rfl) h)
theorem c0a (s:ByteArray) (p:Int) (hs:s.size=256) (h0:0<=p) (hp:p<6):∀(m k:Nat),4-k=m->k<=4->∀(K:Exit->St->Prop),K (.exit 0) (uR s p 4)->z4 prog (gl 7 Tryz.f177) (uR s p k) (wkK 2 K)
 |0,k,hm,hk,K,hK=>by
  have e:k=4:=by omega
  subst e
  refine b8w s p _ K (HB.no (by omega) ?_)
  exact wkK.tk (uR s p _) (by kernel_rfl) (d5 (l6.p (D3) (by kernel_rfl)) (d5 (l6.p (j3 _) (by kernel_rfl)) trivial)) hK
 |m+1,k,hm,hk,K,hK=>by
  refine b8w s p k K (HB.yes (by omega) ?_)
  have hlt:k<4:=by omega
  with_reducible repeat' first|exact trivial|apply And.intro|apply HB.mk|intro _
  all_goals first|exact l3.tk (jX s p k 0) (by kernel_rfl) (d5 (l6.p (D3) (by kernel_rfl)) (d5 (l6.p (j3 _) (by kernel_rfl)) trivial)) (fun K hT=>a4z s p k hs h0 hp hlt _ 0 rfl (by decide) K hT)|(with_reducible refine RoundTo.tk 2 (uR s p (k+1)) ?_ ?_ ?_);kernel_rfl;exact (d5 (l6.p (D3) (by kernel_rfl)) (d5 (l6.plain (cs:=tl (fD p s (64*k+64))) (b:=.t 211) (by kernel_rfl) (by rw[show 64*k+64=64*(k+1) by omega]) (j3 _) (by kernel_rfl)) trivial));exact (c0a s p hs h0 hp m (k+1) (by omega) (by omega) K hK)|exact C2 _ (by omega) (by omega)
def Mh (s:ByteArray) (p:Int) (k:Nat):Cz:={
 ct:=(fun f=>match f with
 |201=>some fun _ _=>fun | [.c (.agg [.v (.int _ _),.v (.int _ _),.v (.int _ _)])]=>some {v:=ag [ub (bR' (F7 p s k) (F7 p s (64+k)) (F7 p s (128+k))),ub (bG' (F7 p s k) (F7 p s (128+k))),ub (bB' (F7 p s k) (F7 p s (64+k)) (F7 p s (128+k)))]}|_=>none
 |_=>none)
 sym:=[0,55,56,59,60,63,64,76,77,79],nf:=[(56,.c (.l (ub (F7 p s (k))))),(60,.c (.l (ub (F7 p s (64+k))))),(64,.c (.l (ub (F7 p s (128+k))))),(77,.c (.l (ub (F7 p s (192+k)))))],wh:=[245,242]}
theorem a4m (s:ByteArray) (p:Int) (k:Nat)  (K:Exit->St->Prop) (h:let a:=((k:Int));let b:=tl (F7 p s);let d:=F7 p s k;let e:=F7 p s (64+k);let f:=(Nat.cast (e.toNat):Int);let g:=F7 p s (128+k);let i:=(Nat.cast (g.toNat):Int);let j:=(Nat.cast ((bR' d e g).toNat):Int);let m:=(Nat.cast ((bG' d g).toNat):Int);let n:=(Nat.cast ((bB' d e g).toNat):Int);let o:=(Nat.cast ((F7 p s (192+k)).toNat):Int);let q:=(0,l4 (l9 s));let r:=(0,some (j9 (I8 zT 0) 223));let w:=(1,some (j9 b 211));let x:=tl (qF p s k);HB (decide ((k:Int)<64)) (t0 a 64/\0+a.toNat*1<256/\Le (l4 (b.getD (0+a.toNat*1) Leaf.u)) (iv .u8 (d.toNat:Int))/\t0 a 64/\64+a.toNat*1<256/\Le (l4 (b.getD (64+a.toNat*1) Leaf.u)) (iv .u8 f)/\t0 a 64/\128+a.toNat*1<256/\Le (l4 (b.getD (128+a.toNat*1) Leaf.u)) (iv .u8 i)/\Kd 201 [] [ag [l8 (d.toNat:Int),l8 f,l8 i]] [] 3 (ag [l8 j,l8 m,l8 n]) [] 0/\3<=3/\0=0/\3=3/\t0 a 64/\192+a.toNat*1<256/\Le (l4 (b.getD (192+a.toNat*1) Leaf.u)) (iv .u8 o)/\t0 a 64/\0+a.toNat*4+4<=256/\IntKind.i64.wrap ((k:Int)+1)=(k:Int)+1/\RoundTo prog (gl 15 Tryz.f177) 3 (wkK 3 K) (St.mk [q,(1,i8 p),(4,j7 0 0),(5,j7 1 0),(8,j7 2 0),(9,i8 ((k:Int)+1))] [r,w,(2,some (j9 (j4 x (0+a.toNat*4) [l8 j,l8 m,l8 n,l8 o]) 38))] 4 82 [2,3,3,2,1,0] 0)) (wkK 3 K (Exit.exit 4) (St.mk [q,(1,i8 p),(4,j7 0 0),(5,j7 1 0),(8,j7 2 0),(9,i8 (k:Int))] [r,w,(2,some (j9 x 38))] 3 82 [2,1,0] 0))):z4 prog (gl 15 Tryz.f177) (fM s p k) (wkK 3 K):=
 m5 [0,1,4,5,8,9] [0,1,2] (cx:=Mh s p k) rfl (u3 (by kernel_rfl) h)
theorem a5q (s:ByteArray) (p:Int)  : ∀(m k:Nat),64-k=m->k<=64->∀(K:Exit->St->Prop),K (.exit 4) (fM s p 64)->z4 prog (gl 15 Tryz.f177) (fM s p k) (wkK 3 K)
 |0,k,hm,hk,K,hK=>by
  have e:k=64:=by omega
  subst e
  refine a4m s p _ K (HB.no (by omega) ?_)
  exact wkK.tk (fM s p _) (by kernel_rfl) (d5 (l6.p (D3) (by kernel_rfl)) (d5 (l6.p (j3 _) (by kernel_rfl)) (d5 (l6.p (j3 _) (by kernel_rfl)) trivial))) hK
 |m+1,k,hm,hk,K,hK=>by
  refine a4m s p k K (HB.yes (by omega) ?_)
  have hlt:k<64:=by omega
  with_reducible repeat' first|exact trivial|apply And.intro|apply HB.mk|intro _
  all_goals first|(with_reducible first|rfl|exact c8h _ _ _ _)|(exact ⟨by omega,by omega⟩)|omega|(with_reducible refine Le.of (a6i _ ?_ ?_))<;>omega|(with_reducible refine RoundTo.tk 4 (fM s p (k+1)) ?_ ?_ ?_);kernel_rfl;exact (d5 (l6.p (D3) (by kernel_rfl)) (d5 (l6.p (j3 _) (by kernel_rfl)) (d5 (l6.plain (cs:=j4 (tl (qF p s k)) (0+((k:Nat):Int).toNat*4) [ub (bR' (F7 p s k) (F7 p s (64+k)) (F7 p s (128+k))),ub (bG' (F7 p s k) (F7 p s (128+k))),ub (bB' (F7 p s k) (F7 p s (64+k)) (F7 p s (128+k))),ub (F7 p s (192+k))]) (b:=.t 38) (by kernel_rfl) (Wb p s hlt (by omega)) (j3 _) (by kernel_rfl)) trivial)));exact (a5q s p  m (k+1) (by omega) (by omega) K hK)|exact C2 _ (by omega) (by omega)
theorem Wr {s:ByteArray} {p:Int} (hp:p<6):tl (qF p s 64)=tl (nD s p):=by
 unfold nD
 rw[decide_eq_true hp]
 exact J4 fun i hi=>Prd.rQ _ i hi
theorem b9m {p:Int} (h0:0<=p) (h:p<6):(bif decide (p<0) then true else decide (p>5))=false:=by rw[decide_eq_false (by omega),decide_eq_false (by omega)];rfl
theorem c4r {p:Int} (h0:0<=p) (h:¬p<6):(bif decide (p<0) then true else decide (p>5))=true:=by rw[decide_eq_false (by omega),decide_eq_true (by omega)];rfl
def Xv (s:ByteArray) (p:Int):Cz:={
 ct:=fun _=>none
 nf:=[(16,bv false),(20,bv false),(80,.c (.agg (tl (nD s p)))),(81,.c (.agg (I8 (nD s p) 0)))],lp:=fun r=>match r with|7=>some (fun _ K=>K (.exit 0) (uR s p 4))|15=>some (fun _ K=>K (.exit 4) (fM s p 64))|_=>none,wh:=[38,211,223]}
theorem d1i (s:ByteArray) (p:Int) (hs:s.size=256) (h0:0<=p) (hp:p<6) (n:Nat):f4 prog 177 [.c (.l (.v (.string s))),iv .i64 p] [] n (.c (.agg (I8 (nD s p) 0))) [] 0:=by
 refine v6 (q:=let a:=!decide (p<0);let b:=decide (p<0);let d:=(0,l4 (l9 s));let e:=(1,some (j9 o7 211));let f:=o7++[li 0];let h:=(2,some (j9 o7 38));let i:=nD s p;(a=true->a=true/\True)/\(decide (p<0)=false->a=true)/\Le (bv (bif decide (p<0) then true else decide (p>5))) (bv false)/\Le (bv ((s.size:Int) != 256)) (bv false)/\0=0/\256=256/\(l3 prog (gl 7 Tryz.f177) (St.mk [(6,i8 0),(5,j7 1 0),(22,ag o7),(20,bv false),(19,i8 (s.size:Int)),(18,l4 (l9 s)),(16,bv false),(15,SV.g a (Cp.l (lb (decide (p>5))))),(14,SV.g a (Cp.l (li p))),(13,bv b),(12,bv b),(11,i8 p),(4,j7 0 0),d,(1,i8 p)] [e,e,(0,some (j9 f 223))] 2 82 [1,1,0] 0) fun K=>K (Exit.exit 0) (uR s p 4))/\0=0/\256=256/\(l3 prog (gl 15 Tryz.f177) (St.mk [(9,i8 0),(8,j7 2 0),(48,ag o7),(6,i8 (Nat.cast 4:Int)),(5,j7 1 0),(1,i8 p),d,(4,j7 0 0)] [h,h,(0,some (j9 (I8 zT 0) 223)),(1,some (j9 (tl (fD p s (64*4))) 211))] 3 82 [2,2,1,0] 0) fun K=>K (Exit.exit 4) (fM s p 64))/\Le (ag (List.take 256 (tl (qF p s 64)))) (ag (tl i))/\Le (ag (j4 f 0 (tl i))) (ag (I8 i 0))/\0=0/\257=257/\Le (ag (tl i++[li 0])) (ag (I8 i 0))/\True) (Xv s p) func177 n (by kernel_rfl) (by kernel_rfl) ?_
 with_reducible repeat' first|exact trivial|apply And.intro|apply HB.mk|intro _|assumption|rfl
 all_goals first|exact l3.tk (uR s p 0) (by kernel_rfl) (d5 (l6.plain (cs:=o7++[li 0]) (b:=.t 223) (by kernel_rfl) (Tb 0) (D3) (by kernel_rfl)) (d5 (l6.plain (cs:=o7) (b:=.t 211) (by kernel_rfl) (Mw p s) (j3 _) (by kernel_rfl)) trivial)) (fun K hT=>c0a s p hs h0 hp _ 0 rfl (by first|decide|omega) K hT)|exact l3.tk (fM s p 0) (by kernel_rfl) (d5 (l6.p (D3) (by kernel_rfl)) (d5 (l6.p (j3 _) (by kernel_rfl)) (d5 (l6.plain (cs:=o7) (b:=.t 38) (by kernel_rfl) (Ps p s) (j3 _) (by kernel_rfl)) trivial))) (fun K hT=>a5q s p  _ 0 rfl (by first|decide|omega) K hT)|(with_reducible first|exact Le.bool (b9m h0 hp)|exact Le.bool (Eo hs))|refine Le.of ?_;rw[Wr hp,t7];done|exact Le.of (congrArg (fun l=>SV.c (.agg l)) (Tq _))|exact Le.of rfl|simp only[*,Bool.and_self,Bool.not_false,Bool.not_true];done
def Mr (s:ByteArray) (p:Int):Cz:={
 ct:=fun _=>none
 nf:=[(16,bv true)],lp:=fun r=>match r with|7=>some (fun _ K=>K (.exit 0) (uR s p 4))|15=>some (fun _ K=>K (.exit 4) (fM s p 64))|_=>none,wh:=[38,211,223]}
theorem b7y (s:ByteArray) (p:Int) (h0:0<=p) (hp:¬p<6) (n:Nat):f4 prog 177 [.c (.l (.v (.string s))),iv .i64 p] [] n (.c (.agg (I8 zT 1))) [] 0:=by
 refine v6 (q:=let a:=!decide (p<0);(a=true->a=true/\True)/\(decide (p<0)=false->a=true)/\Le (bv (bif decide (p<0) then true else decide (p>5))) (bv true)/\0=0/\257=257/\Le (ag (o7++[li 1])) (ag (I8 zT 1))/\True) (Mr s p) func177 n (by kernel_rfl) (by kernel_rfl) ?_
 with_reducible repeat' first|exact trivial|apply And.intro|apply HB.mk|intro _
 all_goals first|(with_reducible first|assumption|rfl|exact Le.bool (c4r h0 hp))|exact Le.of (congrArg (fun l=>SV.c (.agg l)) (Tb 1))|simp only[*,Bool.and_self,Bool.not_false,Bool.not_true];done
theorem zY (s:ByteArray) (hs:s.size=256) (p:Int) (h0:0<=p) (n:Nat):f4 prog 177 [.c (.l (.v (.string s))),iv .i64 p] [] n (.c (.agg (I8 (nD s p) (nC p)))) [] 0:=by
 by_cases hp:p<6
 ·have e:nC p=0:=by unfold nC;rw[decide_eq_true hp];rfl
  rw[e];exact d1i s p hs h0 hp n
 ·have e:nC p=1:=by unfold nC;rw[decide_eq_false hp];rfl
  have e2:nD s p=zT:=by unfold nD;rw[decide_eq_false hp];rfl
  rw[e,e2];exact b7y s p h0 hp n
end Ab
end
section
namespace Cod
section
theorem Fi (g:Nat) (f:ByteArray) (n:Nat) (p:Nat->Int) (lo en:Int) (w:World) (hB:n6 w g 261 261 (cr p lo en (RX f n))) (hn:n<=1000000000000) (hf:f.size<=1000000000000000) :
  Calls prog 208 #[.pointer (some ⟨g,0,none⟩)] w fun e w'=>e=.returned (.tuple #[])/\n6 w' g 261 261 (cr p lo en (RX f (n+1)))/\Chg g none w w':=by
 obtain ⟨v0,v1⟩:=a4w f.data.toList n
 have c8:w.cell? ⟨g,258,none⟩=some (.string f):=hB.cell 258 (by omega)
 have c9:w.cell? ⟨g,259,none⟩=some (.int .i64 (n:Int)):=hB.cell 259 (by omega)
 have c10:w.cell? ⟨g,260,none⟩=some (.int .u32 (vv f.data.toList n)):=hB.cell 260 (by omega)
 have fr:=fun i=>hB.free i
 have HB:=Lib.hid hB
 clear hB
 go_enter func208,ntmps208
 go_upto_region 1 with fail
 refine K2 (C:=fun x=>∃n,x=w.drewN n) (by kernel_rfl) (by kernel_rfl) ⟨1,rfl⟩ ?_
 repeat (first
  |go_big_quiet_skip
  |(go_big_quiet_want;refine aV ?_;apply Exists.intro;refine ⟨fun x hx=>?_,?_⟩;(focus (obtain ⟨n,rfl⟩:=hx;go_simp<;>rfl));simp only[Act.put,List.setIfInBounds_toArray,List.set_cons_zero,List.set_cons_succ];go_big_quiet_on))
 refine wpQuiet_nil ?_
 rintro x ⟨nn,rfl⟩
 go_upto_if 12 with fail
 replace HB:=Lib.hid (show n6 (w.drewN nn) _ _ _ _ from HB.out)
 have HC:=Lib.hid (show Chg g none w (w.drewN nn) from ⟨rfl,rfl,rfl,Nat.le_refl _,fun _ _ _ _=>rfl⟩)
 replace c8:(w.drewN nn).cell? ⟨g,258,none⟩=some (.string f):=c8
 replace c9:(w.drewN nn).cell? ⟨g,259,none⟩=some (.int .i64 (n:Int)):=c9
 replace c10:(w.drewN nn).cell? ⟨g,260,none⟩=some (.int .u32 (vv f.data.toList n)):=c10
 replace fr:∀i,(w.drewN nn).frozen? ⟨g,i,none⟩=false:=fr
 generalize w.drewN nn=W2 at *
 go_cut [2] (fun s2 wx=>s2=.int .i64 (M.r8 f.data.toList n)/\∃m,wx=W2.drewN m)
 case first=>
  by_cases hlt:n<f.size
  ·go_upto_region 2 with fail
   refine K2 (C:=fun x=>∃n,x=W2.drewN n) (by kernel_rfl) (by kernel_rfl) ⟨1,rfl⟩ ?_
   repeat (first
    |go_big_quiet_skip
    |(go_big_quiet_want;refine aV ?_;apply Exists.intro;refine ⟨fun x hx=>?_,?_⟩;(focus (obtain ⟨n,rfl⟩:=hx;go_simp<;>rfl));simp only[Act.put,List.setIfInBounds_toArray,List.set_cons_zero,List.set_cons_succ];go_big_quiet_on))
   refine wpQuiet_nil ?_
   rintro x ⟨mm,rfl⟩
   have hby:(f[n].toNat:Int)=M.r8 f.data.toList n:=by
    unfold M.r8
    rw[List.getD_eq_getElem?_getD]
    have:f.data.toList[n]? = some f[n]:=by
     rw[Array.getElem?_toList,Array.getElem?_eq_getElem hlt];rfl
    rw[this];rfl
   have hwr:IntKind.i64.wrap (f[n].toNat:Int)=M.r8 f.data.toList n:=by rw[hby,IntKind.wrap_i64];have:=M.P5 f.data.toList n;omega
   rw[hwr]
   go_wp2
   go_meet
   exact ⟨rfl,mm,rfl⟩
  ·have hz:M.r8 f.data.toList n=0:=by
    unfold M.r8
    rw[List.getD_eq_getElem?_getD,List.getElem?_eq_none (by simpa using hlt)];rfl
   go_wp2
   go_meet
   exact ⟨by rw[hz],0,rfl⟩
 case rest=>
 obtain ⟨rfl,mm,hw⟩:=hcut
 rw[hw]
 replace HB:=Lib.hid (show n6 (W2.drewN mm) _ _ _ _ from HB.out)
 replace HC:=Lib.hid (show Chg g none w (W2.drewN mm) from ⟨HC.out.os,HC.out.tape,HC.out.output,HC.out.size,HC.out.block⟩)
 replace c9:(W2.drewN mm).cell? ⟨g,259,none⟩=some (.int .i64 (n:Int)):=c9
 replace c10:(W2.drewN mm).cell? ⟨g,260,none⟩=some (.int .u32 (vv f.data.toList n)):=c10
 replace fr:∀i,(W2.drewN mm).frozen? ⟨g,i,none⟩=false:=fr
 clear hw
 generalize W2.drewN mm=W3 at *
 have hb:=M.P5 f.data.toList n
 have hvv:vv f.data.toList (n+1)=vv f.data.toList n*256 % 4294967296+M.r8 f.data.toList n:=rfl
 have hwa:IntKind.u32.wrap (M.r8 f.data.toList n)=M.r8 f.data.toList n:=Ft _ (by omega) (by omega)
 replace hvv:=Lib.hid hvv
 generalize M.r8 f.data.toList n=bt at *
 have h1:=HB.out.set 260 (.int .u32 (vv f.data.toList n*256 % 4294967296+bt))
 rw[mI 260 (by omega)] at h1
 have h2:=h1.set 259 (.int .i64 ((n:Int)+1))
 rw[mI 259 (by omega)] at h2
 have hC2:=Lib.hid ((HC.out.set 260 (.int .u32 (vv f.data.toList n*256 % 4294967296+bt))).set 259 (.int .i64 ((n:Int)+1)))
 have d9:(W3.setCell ⟨g,260,none⟩ (.int .u32 (vv f.data.toList n*256 % 4294967296+bt))).cell? ⟨g,259,none⟩=some (.int .i64 (n:Int)):=by rw[h1.cell 259 (by omega),kL 259 (by omega)];rfl
 replace h1:=Lib.hid h1
 replace h2:=Lib.hid h2
 go_wp2
 refine bodyPost_end (results_none rfl _ _ _) rfl ⟨rfl,h2.out.congr fun i hi=>?_,hC2.out⟩
 by_cases h:i<258
 ·unfold cr
  by_cases h1:i<256
  ·simp[h1]
  ·by_cases h2:i=256
   ·simp[h2]
   ·simp[show i=257 by omega]
 ·rw[kL i (by omega),kL i (by omega)]
  obtain rfl|rfl|rfl:i=258\/i=259\/i=260:=by omega
  ·rfl
  ·show Value.int .i64 ((n:Int)+1)=.int .i64 ((n+1:Nat):Int)
   rw[Int.natCast_add];rfl
  ·show Value.int .u32 _=.int .u32 (vv f.data.toList (n+1))
   rw[hvv.out]
end
section
theorem Tryz.zero261 (w:World):(zeroValue 261).run prog w=.ok (.agg (cv 261 (cr (fun _=>0) 0 0 (RX ⟨#[]⟩ 0)))) w:=by kernel_rfl
theorem Bg (f:ByteArray) (w:World) (hf:f.size<=1000000000000000):Calls prog 199 #[.string f] w fun e w'=>∃g,w.heap.size<=g/\e=.returned (.pointer (some ⟨g,0,none⟩))/\n6 w' g 261 261 (cr M.start.p M.start.lo M.start.hi (RX f 4))/\n7 w w':=by
 have HB:=Lib.hid (rB w)
 have hz:=Tryz.zero261
 have hs1:¬(cv 261 (cr (fun _=>0) 0 0 (RX ⟨#[]⟩ 0))).size<258:=by rw[D5];omega
 have hs2:(cv 258 (cr M.start.p M.start.lo M.start.hi (fun _=>undef))).size=258:=D5 _ _
 have hf0:=Ed 261 258 (by omega) (cr M.start.p M.start.lo M.start.hi (fun _=>undef)) (cr (fun _=>0) 0 0 (RX ⟨#[]⟩ 0))
 have hset:=tT 261 (fun i=>if i<258 then cr M.start.p M.start.lo M.start.hi (fun _=>undef) i else cr (fun _=>0) 0 0 (RX ⟨#[]⟩ 0) i) 258 (.string f)
 rw[<-hf0] at hset
 have hs3:¬(Array.foldl (fun cs x=>cs.setIfInBounds x.snd x.fst) (cv 261 (cr (fun _=>0) 0 0 (RX ⟨#[]⟩ 0))) (cv 258 (cr M.start.p M.start.lo M.start.hi (fun _=>undef))).zipIdx 0 258).size<259:=by rw[hf0,D5];omega
 generalize hA:cv 258 (cr M.start.p M.start.lo M.start.hi (fun _=>undef))=A at *
 generalize hZ:cv 261 (cr (fun _=>0) 0 0 (RX ⟨#[]⟩ 0))=Z at *
 clear hA hZ hf0
 replace hset:=Lib.hid hset
 go_enter func199,ntmps199
 go_wp2_with fail
 refine HB.out.mono ?_
 rintro e x ⟨rfl,hg⟩
 replace hg:=Lib.hid hg
 clear HB
 go_upto_block 1 with fail
 have hW:Hid (n7 w (x.alloc (.cells ((Array.foldl (fun cs x=>cs.setIfInBounds x.snd x.fst) Z A.zipIdx 0 258).setIfInBounds 258 (.string f)) 261))/\n6 (x.alloc (.cells ((Array.foldl (fun cs x=>cs.setIfInBounds x.snd x.fst) Z A.zipIdx 0 258).setIfInBounds 258 (.string f)) 261)) x.heap.size 261 261 (cr M.start.p M.start.lo M.start.hi (RX f 0))):=by
  rw[hset.out]
  refine Lib.hid ⟨hg.out.trans (n7.alloc _ _),n6.congr (heap_alloc_new _ _) fun i hi=>?_⟩
  unfold H6
  by_cases h0:i=258
  ·rw[if_pos h0,kL i (by omega),h0];rfl
  ·rw[if_neg h0]
   dsimp only
   by_cases h:i<258
   ·rw[if_pos h]
    unfold cr
    by_cases h1:i<256
    ·rw[if_pos h1,if_pos h1]
    ·by_cases h2:i=256
     ·rw[if_neg h1,if_pos h2,if_neg h1,if_pos h2]
     ·rw[if_neg h1,if_neg h2,if_pos (by omega),if_neg h1,if_neg h2,if_pos (by omega)]
   ·rw[if_neg h,kL i (by omega),kL i (by omega)]
    unfold RX
    rw[if_neg h0,if_neg h0]
    rfl
 have hxw:=Below.size hg.out
 generalize x.alloc (.cells ((Array.foldl (fun cs x=>cs.setIfInBounds x.snd x.fst) Z A.zipIdx 0 258).setIfInBounds 258 (.string f)) 261)=W0 at *
 clear hset hg hs1 hs2 hs3
 go_loopg [4] 4 (fun k s4 wr=>∃i,i+k=4/\s4=.int .i64 (i:Int)/\Hid (n7 w wr/\n6 wr x.heap.size 261 261 (cr M.start.p M.start.lo M.start.hi (RX f i))))
 case atStart=>exact ⟨0,rfl,rfl,hW⟩
 case round=>
  obtain ⟨i,hik,rfl,HR⟩:=hrel
  clear hW
  cases gk with
  |zero=>
   obtain rfl:i=4:=by omega
   go_wp2
   go_ret
   exact ⟨x.heap.size,hxw,rfl,HR.out.2,HR.out.1⟩
  |succ k=>
   have hlt:(i:Int)<4:=by omega
   have HX:=Lib.hid (Fi x.heap.size f i _ _ _ wr HR.out.2 (by omega) hf)
   go_wp2_with fail
   refine HX.out.mono ?_
   rintro e y ⟨rfl,h1,h2⟩
   have hN:Hid (n7 w y/\n6 y x.heap.size 261 261 (cr M.start.p M.start.lo M.start.hi (RX f (i+1)))):=Lib.hid ⟨Below.trans (B:=w.heap.size) HR.out.1 (h2.below hxw (by simp) (Below.size HR.out.1)),h1⟩
   clear h1 h2 HX HR
   go_wp2
   go_roundg k
   case measure=>omega
   case rel=>exact ⟨i+1,by omega,by rw[Int.natCast_add];rfl,hN⟩
end
section
structure RR (g:Nat) (f:ByteArray) (m:Nat) (s:M.St) (w:World):Prop where
 ok:M.Ok s
 blk:n6 w g 261 261 (cr s.p s.lo s.hi (RX f (m+4)))
theorem RR.grow {g f m s w w'} (h:RR g f m s w) (hg:n7 w w'):RR g f m s w':=⟨h.ok,h.blk.grow hg⟩
theorem pV (f:ByteArray) (w:World) (hf:f.size<=1000000000000000):Calls prog 199 #[.string f] w fun e w'=>∃g,w.heap.size<=g/\e=.returned (.pointer (some ⟨g,0,none⟩))/\RR g f 0 M.start w'/\n7 w w':=by
 refine (Bg f w hf).mono ?_
 rintro e w' ⟨g,h1,h2,h3,h4⟩
 exact ⟨g,h1,h2,⟨M.cG,h3⟩,h4⟩
theorem Yl {g f m s w} (h:RR g f m s w) (c:Int) (hm:m<=90000000) (hf:f.size<=1000000000000000) :
  Calls prog 200 #[.pointer (some ⟨g,0,none⟩),.int .i64 c] w fun e w'=>e=.returned (.int .i64 (nb f m s c))/\RR g f (m+(M.M2 s (cx c) (nb f m s c)).length) (M.nxt s (cx c) (nb f m s c)) w'/\Chg g none w w':=by
 have hk:=oE c
 have x1:=h.blk
 have hs:=h.ok
 have c10:w.cell? ⟨g,260,none⟩=some (.int .u32 (M.val f.data.toList m)):=by
  rw[x1.cell 260 (by omega),kL 260 (by omega)]
  show some (Value.int .u32 (vv f.data.toList (m+4)))=_
  rw[Bc]
 have c0:=x1.cell (cx c) (by omega)
 rw[Xh _ hk] at c0
 have HM:=Lib.hid (fun k=>zB g s hs c (w.drewN k) c0 (by show w.cell? _=_;rw[x1.cell 256 (by omega),rF]) (by show w.cell? _=_;rw[x1.cell 257 (by omega),xB]))
 have hb:nb f m s c=M.rb s (cx c) (M.val f.data.toList m):=rfl
 have hb01:=b1u f m s c
 have HN:=Lib.hid (fun k=>Gg 261 261 (by decide) (by omega) g s hs c (nb f m s c) (RX f (m+4)) (w.drewN k) x1)
 rw[show nb f m s c % 2=nb f m s c by omega] at HN
 have hol:=M.fP s (cx c) (nb f m s c)
 have hok:=Lib.hid (M.nF hs (cx c) (nb f m s c))
 generalize nb f m s c=b at *
 obtain ⟨vb0,vb1⟩:=M.a8h f.data.toList m
 generalize M.val f.data.toList m=V at *
 replace hb:=Lib.hid hb
 replace hb01:=Lib.hid hb01
 generalize M.M2 s (cx c) b=ob at *
 generalize M.nxt s (cx c) b=sn at *
 have hgw:=x1.lt
 clear h x1 c0
 go_enter func200,ntmps200
 go_upto_region 2 with fail
 refine K2 (C:=fun y=>∃n,y=w.drewN n) (by kernel_rfl) (by kernel_rfl) ⟨1,rfl⟩ ?_
 repeat (first
  |go_big_quiet_skip
  |(go_big_quiet_want;refine aV ?_;apply Exists.intro;refine ⟨fun x hx=>?_,?_⟩;(focus (obtain ⟨n,rfl⟩:=hx;go_simp<;>rfl));simp only[Act.put,List.setIfInBounds_toArray,List.set_cons_zero,List.set_cons_succ];go_big_quiet_on)
  |(go_big_quiet_want;refine mK 204 ?_;apply Exists.intro;refine ⟨fun x hx=>?_,?_⟩;(focus (go_simp<;>rfl));apply Exists.intro;refine ⟨fun x hx=>?_,?_⟩;(focus (obtain ⟨n,rfl⟩:=hx;exact (HM.out n).mono fun e w' h=>⟨h.1,by obtain ⟨k,e⟩:=h.2;exact ⟨n+k,by rw[e];exact qS w n k⟩⟩));simp only[Act.put,List.setIfInBounds_toArray,List.set_cons_zero,List.set_cons_succ];go_big_quiet_on))
 refine wpQuiet_nil ?_
 rintro y ⟨k,rfl⟩
 go_upto_if 17 with fail
 go_cut [5] (fun s5 wx=>s5=.int .i64 b/\wx=w.drewN k)
 case first=>
  by_cases hV:V<=M.md s (cx c)
  ·go_wp2
   go_meet
   exact ⟨by rw[hb.out];unfold M.rb;rw[if_pos hV],rfl⟩
  ·go_wp2
   go_meet
   exact ⟨by rw[hb.out];unfold M.rb;rw[if_neg (by omega)],rfl⟩
 case rest=>
 obtain ⟨rfl,rfl⟩:=hcut
 have HN2:=Lib.hid (HN.out k)
 clear HN HM
 go_wp2_with fail
 refine HN2.out.mono ?_
 rintro e z ⟨v,rfl,h3,h4,h5,h6⟩
 obtain ⟨so,sc,hv⟩:=G6 h4
 subst hv
 have hC:Hid (Chg g none w z):=Lib.hid ⟨h5.os,h5.tape,h5.output,h5.size,h5.block⟩
 replace h3:=Lib.hid h3
 clear HN2 h4 h5 h6
 go_upto_block 1 with fail
 go_loopg [7] ob.length (fun k s7 wr=>∃i,i+k=ob.length/\s7=.int .i64 (i:Int)/\Hid (Chg g none w wr/\n6 wr g 261 261 (cr sn.p sn.lo sn.hi (RX f (m+4+i)))))
 case atStart=>exact ⟨0,by omega,rfl,Lib.hid ⟨hC.out,h3.out⟩⟩
 case round=>
  obtain ⟨i,hik,rfl,HR⟩:=hrel
  clear hC h3
  cases gk with
  |zero=>
   obtain rfl:i=ob.length:=by omega
   have hlt:¬(ob.length:Int)<ob.length:=by omega
   go_wp2
   go_ret
   exact ⟨rfl,⟨hok.out,by rw[show m+ob.length+4=m+4+ob.length by omega];exact HR.out.2⟩,HR.out.1⟩
  |succ k=>
   have hlt:(i:Int)<ob.length:=by omega
   have HX:=Lib.hid (Fi g f (m+4+i) _ _ _ wr HR.out.2 (by omega) hf)
   go_wp2_with fail
   refine HX.out.mono ?_
   rintro e y ⟨rfl,h1,h2⟩
   have hN:Hid (Chg g none w y/\n6 y g 261 261 (cr sn.p sn.lo sn.hi (RX f (m+4+(i+1))))):=Lib.hid ⟨HR.out.1.trans (.inl rfl) h2,h1⟩
   clear h1 h2 HX HR
   go_wp2
   go_roundg k
   case measure=>omega
   case rel=>exact ⟨i+1,by omega,by rw[Int.natCast_add];rfl,hN⟩
end
section
structure DR (W:World) (g rc:Nat) (f:ByteArray) (l:List UInt8) (m:Nat) (s:M.St) (v:Value) (w:World):Prop where
 rr:RR g f m s w
 own:w.ownsRow W.heap.size 5 1 v l.length (t4 l)
 rc:w.heap[rc]? = some (.cells #[.string ⟨#[]⟩,.int .i64 0] 221 (0,0))
 below:Below W.heap.size W w
 ge:W.heap.size<=g
theorem DR.bit {W g rc f l m s v w} (h:DR W g rc f l m s v w) (c:Nat) (hc:c<256) (hm:m<=90000000) (hf:f.size<=1000000000000000) :
  Calls prog 200 #[.pointer (some ⟨g,0,none⟩),.int .i64 (c:Int)] w fun e w'=>e=.returned (.int .i64 (M.rb s c (M.val f.data.toList m)))/\DR W g rc f l (m+(M.M2 s c (M.rb s c (M.val f.data.toList m))).length) (M.nxt s c (M.rb s c (M.val f.data.toList m))) v w':=by
 have hcx:cx (c:Int)=c:=by unfold cx;omega
 have hr:=Yl h.rr (c:Int) hm hf
 unfold nb at hr
 rw[hcx] at hr
 refine hr.mono ?_
 rintro e x ⟨rfl,k1,k2⟩
 have n1:=H9 h.own h.rr.blk (by decide)
 refine ⟨rfl,k1,h.own.kept (row:=some g) ⟨k2.os,k2.tape,k2.output,k2.size,fun j hj hr=>k2.block j hj (fun e=>hr (by rw[e])) (by simp)⟩ (.inr n1.symm),?_,h.below.trans (k2.below h.ge (by simp) h.below.size),h.ge⟩
 have n2:rc≠g:=jC h.rr.blk h.rc (by decide)
 rw[k2.block rc (Array.getElem?_eq_some_iff.1 h.rc).1 n2 (by simp)];exact h.rc
theorem DR.push {W g rc f l m s v w} (h:DR W g rc f l m s v w) {v':Value} {w2:World} {b:UInt8} {o:Obj} (hown:w2.ownsRow W.heap.size 5 1 v' (l.length+1) (t4 l++[.int .u8 (b.toNat:Int)])) (hgr:(w.alloc o).grownBy w2 v.ownBlock):DR W g rc f (l++[b]) m s v' w2:=by
 have n1:=H9 h.own h.rr.blk (by decide)
 have n2:=H9 h.own h.rc (by decide)
 have x1:=h.rr.blk.grow (n7.alloc w o)
 have x2:=(n7.alloc w o).block h.rc
 refine ⟨⟨h.rr.ok,?_⟩,by rw[List.length_append,C3];exact hown,?_,?_,h.ge⟩
 ·have:=hgr.block g x1.lt n1
  unfold n6 at x1⊢;rw[this];exact x1
 ·rw[hgr.block rc (Array.getElem?_eq_some_iff.1 x2).1 n2];exact x2
 ·exact (h.below.alloc h.below.size o).grown hgr (by have:=h.below.size;simp;omega) (fun k hk=>(h.own.lt k hk).1)
theorem Ls {y:World} {g:Nat} {a b:Value} (h:y.heap[g]? = some (.cells #[a,b] 221 (0,0))) (u v:Value):((y.setCell ⟨g,0,none⟩ u).setCell ⟨g,1,none⟩ v).heap[g]? = some (.cells #[u,v] 221 (0,0)):=by
 rw[heap_setCell_same _ _ _ _ _ _ (heap_setCell_same _ _ _ _ _ _ h)]
 rfl
theorem bE {fn:Func} {t:Tmp} (h:fn.results = #[.cell t 221]) (tmps:Array Value) (g:Nat) (a b:Value) (w:World) (ht:tmps[t]?.getD undef=.pointer (some ⟨g,0,none⟩)) (hl:w.heap[g]? = some (.cells #[a,b] 221 (0,0))) :
  (results fn tmps).run prog w=.ok (.agg #[a,b]) w:=by
 have c0:w.cell? ⟨g,0,none⟩=some a:=by rw[cell_of_row w _ 0 _ _ _ hl];rfl
 have c1:w.cell? ⟨g,1,none⟩=some b:=by rw[cell_of_row w _ 1 _ _ _ hl];rfl
 simp[results,h,ht,asAddr,loadVar,loadCells,loadCellsFrom,Addr.add,c0,c1]
def Yw (f:ByteArray) (n:Nat):Value:=.agg #[.string (gI f n).1,.int .i64 (gI f n).2]
theorem wP (f:ByteArray) (n:Nat) (hn:n<=65536) (hf:f.size<=1000000000000000) (W:World) :
  Calls prog 176 #[.string f,.int .i64 (n:Int)] W fun e w'=>e=.returned (Yw f n)/\n7 W w':=by
 have HN:=Lib.hid (pV f (W.alloc (.cells #[.string ⟨#[]⟩,.int .i64 0] 221)) hf)
 have n1:¬(n:Int)<0:=by omega
 have n2:¬(n:Int)>65536:=by omega
 go_enter func176,ntmps176
 go_wp2_with fail
 refine HN.out.mono ?_
 rintro e x ⟨g,hg,rfl,hr,hgr⟩
 have hsz:(W.alloc (.cells #[.string ⟨#[]⟩,.int .i64 0] 221)).heap.size=W.heap.size+1:=by simp
 rw[hsz] at hg
 have hD:Hid (DR W g W.heap.size f (M.V1 f.data.toList 0 M.start 0).1 (M.V1 f.data.toList 0 M.start 0).2.2 (M.V1 f.data.toList 0 M.start 0).2.1 (.slice (some ⟨x.heap.size,0,none⟩) 0 0) (x.alloc (.cells #[] 5))):=by
  have b1:Below W.heap.size W x:=aQ (show Below W.heap.size W _ from n7.alloc W (.cells #[.string ⟨#[]⟩,.int .i64 0] 221)) (by simp) hgr
  refine Lib.hid ⟨hr.grow (n7.alloc _ _),?_,(n7.alloc _ _).block (hgr.block (heap_alloc_new _ _)),aQ b1 b1.size (n7.alloc _ _),by omega⟩
  have:=World.ownsRow_lit (e:=5) (size:=1) (base:=W.heap.size) x #[] 0 b1.size (by unfold maxLen;omega) rfl
  rw[M.wU]
  simpa [t4] using this
 clear HN hr hgr hsz
 go_upto_block 1 with fail
 go_loopg [6,7] n (fun k s6 s7 wr=>∃i,i+k=n/\s7=.int .i64 (i:Int)/\Hid (DR W g W.heap.size f (M.V1 f.data.toList i M.start 0).1 (M.V1 f.data.toList i M.start 0).2.2 (M.V1 f.data.toList i M.start 0).2.1 s6 wr))
 case atStart=>exact ⟨0,by omega,rfl,hD⟩
 case round=>
  obtain ⟨i,hik,rfl,HR⟩:=hrel
  clear hD
  obtain ⟨q1,q2⟩:=M.Bx f.data.toList i
  have hll:=M.gF f.data.toList i M.start 0
  cases gk with
  |zero=>
   obtain rfl:i=n:=by omega
   have hlt:¬(i:Int)<i:=by omega
   have hown:=HR.out.own
   have hcv:=U1 (P:=prog) wr 57 9 5 underlying57 underlying5 underlying9 _ _ _ _ hown
   obtain ⟨so,sc,hv⟩:=G6 hown
   subst hv
   have hls:(⟨(M.V1 f.data.toList i M.start 0).1.toArray⟩:ByteArray).size<=2500000:=by show (M.V1 f.data.toList i M.start 0).1.toArray.size<=_;simp;omega
   replace hll:=Lib.hid hll
   have HE:=Lib.hid (jT ⟨(M.V1 f.data.toList i M.start 0).1.toArray⟩ wr hls)
   have hds:gI f i=if (⟨(M.enc (M.V1 f.data.toList i M.start 0).1).toArray⟩:ByteArray)=f then (⟨(M.V1 f.data.toList i M.start 0).1.toArray⟩,0) else (⟨#[]⟩,11):=rfl
   replace hds:=Lib.hid hds
   have hrc:=HR.out.rc
   have hbe:=Lib.hid HR.out.below
   clear HR q1 q2 hls
   generalize (M.V1 f.data.toList i M.start 0).1=l at *
   go_wp2_with fail
   refine HE.out.mono ?_
   rintro e y ⟨rfl,hgy⟩
   have hcv2:=U1 (P:=prog) y 57 9 5 underlying57 underlying5 underlying9 _ _ _ _ (fH hown hgy)
   have hrc2:=hgy.block hrc
   have c0:y.cell? ⟨W.heap.size,0,none⟩=some (.string ⟨#[]⟩):=by rw[cell_of_row y _ 0 _ _ _ hrc2];rfl
   have c1:y.cell? ⟨W.heap.size,1,none⟩=some (.int .i64 0):=by rw[cell_of_row y _ 1 _ _ _ hrc2];rfl
   have f0:=frozen_of_row y W.heap.size 0 _ _ hrc2
   have f1:=frozen_of_row y W.heap.size 1 _ _ hrc2
   have hbe2:=Lib.hid (aQ hbe.out hbe.out.size hgy)
   have hyw:W.heap.size<y.heap.size:=(Array.getElem?_eq_some_iff.1 hrc2).1
   clear HE hcv hown hrc hgy hbe
   replace hrc2:=Lib.hid hrc2
   generalize hQ:(⟨(M.enc l).toArray⟩:ByteArray)=q at *
   clear hQ
   by_cases hq:q=f
   ·go_wp2
    refine bodyPost_ret (bE rfl _ W.heap.size _ _ _ rfl (Ls hrc2.out _ _)) rfl ⟨?_,?_⟩
    ·unfold Yw
     rw[hds.out,if_pos hq]
    ·exact Below.setCell (B:=W.heap.size) (Below.setCell (B:=W.heap.size) hbe2.out (p:=⟨W.heap.size,0,none⟩) (Nat.le_refl _) _) (p:=⟨W.heap.size,1,none⟩) (Nat.le_refl _) _
   ·have hql:(q.toList==f.toList)=false:=by rw[qN];exact decide_eq_false hq
    go_wp2
    refine bodyPost_ret (bE rfl _ W.heap.size _ _ _ rfl (Ls hrc2.out _ _)) rfl ⟨?_,?_⟩
    ·unfold Yw
     rw[hds.out,if_neg hq]
    ·exact Below.setCell (B:=W.heap.size) (Below.setCell (B:=W.heap.size) hbe2.out (p:=⟨W.heap.size,0,none⟩) (Nat.le_refl _) _) (p:=⟨W.heap.size,1,none⟩) (Nat.le_refl _) _
  |succ k=>
   have hlt:(i:Int)<n:=by omega
   have hm:(M.V1 f.data.toList i M.start 0).2.2<=80000000:=by omega
   have HS:=Lib.hid (M.fB f.data.toList i M.start 0)
   generalize M.V1 f.data.toList i M.start 0=T at *
   have hlu:T.1.length+1<=1000000000:=by omega
   replace hll:=Lib.hid hll
   go_upto_block 2 with fail
   refine wp_block ?_
   go_loopg [8,9] 8 (fun k s8 s9 wi=>∃j,j+k=8/\s8=.int .i64 ((M.Z3 f.data.toList j 1 T.2.1 T.2.2).1:Int)/\s9=.int .i64 (j:Int)/\Hid (DR W g W.heap.size f T.1 (M.Z3 f.data.toList j 1 T.2.1 T.2.2).2.2 (M.Z3 f.data.toList j 1 T.2.1 T.2.2).2.1 u6 wi))
   case atStart=>exact ⟨0,rfl,rfl,rfl,HR⟩
   case round=>
    obtain ⟨j,hjk,rfl,rfl,HI⟩:=hrel
    clear HR
    obtain ⟨b1,b2,b3,b4⟩:=M.oQ f.data.toList T.2.1 T.2.2 q1 j
    cases gk with
    |zero=>
     obtain rfl:j=8:=by omega
     have hneg:¬((8:Nat):Int)<8:=by omega
     have hu:IntKind.u8.wrap ((M.Z3 f.data.toList 8 1 T.2.1 T.2.2).1:Int)=((UInt8.ofNat (M.Z3 f.data.toList 8 1 T.2.1 T.2.2).1).toNat:Int):=by
      rw[M.O1,IntKind.wrap_u8]
     have hown:=HI.out.own
     have hsz:=HI.out.below.size
     obtain ⟨so,sc,hv⟩:=G6 hown
     subst hv
     have ho2:=hown.alloc
     clear b1 b2 b3 b4
     generalize M.Z3 f.data.toList 8 1 T.2.1 T.2.2=R at *
     go_wp2_with (at_builtin;refine vG _ rfl _ _ rfl rfl W.heap.size _ T.1.length (t4 T.1) rfl (ho2 _) wr.heap.size _ 1 _ rfl (World.ownsRow_lit (e:=5) (size:=1) (base:=wr.heap.size) wr _ 1 (Nat.le_refl _) (by unfold maxLen;omega) rfl) ?_ hlu ?_ ?_)
     ·rfl
     ·omega
     ·intro v2 W2 ho3 hgr3 _
      rw[show ((R.1:Int) % 256)=((UInt8.ofNat R.1).toNat:Int) from (M.O1 _).symm] at ho3
      have hP:=Lib.hid (HI.out.push ho3 hgr3)
      clear ho3 hgr3 ho2 hown HI hu
      go_wp2
      go_roundg k
      case measure=>omega
      case rel=>
       refine ⟨i+1,by omega,by rw[Int.natCast_add];rfl,?_⟩
       rw[HS.out]
       exact hP
    |succ kk=>
     have hpos:(j:Int)<8:=by omega
     have hp:2 ^ (j+1)<=2 ^ 8:=Nat.pow_le_pow_right (by decide) (by omega)
     have hc256:(M.Z3 f.data.toList j 1 T.2.1 T.2.2).1<256:=by omega
     have HB:=Lib.hid (HI.out.bit _ hc256 (by omega) hf)
     have hst:=Lib.hid (M.bV f.data.toList j 1 T.2.1 T.2.2)
     have hb01:=M.rJ (M.Z3 f.data.toList j 1 T.2.1 T.2.2).2.1 (M.Z3 f.data.toList j 1 T.2.1 T.2.2).1 (M.val f.data.toList (M.Z3 f.data.toList j 1 T.2.1 T.2.2).2.2)
     clear b1 b2 b3 b4 hp
     generalize M.Z3 f.data.toList j 1 T.2.1 T.2.2=R at *
     generalize hbt:M.rb R.2.1 R.1 (M.val f.data.toList R.2.2)=bt at *
     go_wp2_with fail
     refine HB.out.mono ?_
     rintro e y ⟨rfl,hy⟩
     replace hy:=Lib.hid hy
     clear HB HI
     go_wp2
     go_roundg kk
     case measure=>omega
     case rel=>
      refine ⟨j+1,by omega,?_,by rw[Int.natCast_add];rfl,?_⟩
      ·rw[hst.out]
       show _=Value.int .i64 ((2*R.1+(M.rb R.2.1 R.1 (M.val f.data.toList R.2.2)).toNat:Nat):Int)
       rw[hbt]
       congr 1
       omega
      ·rw[hst.out]
       unfold M.stp
       rw[hbt]
       exact hy
end
end Cod
end
section
namespace Ab
attribute [local irreducible] j8
attribute [local irreducible] tl n8
def t5 (t:Nat->UInt8) (e:Int):List Leaf:=tl t++[.v (.slice none 0 0),li e]
def uQ (t:Nat->UInt8):Nat->UInt8:=bif uY t true then zT else t
def vC (t:Nat->UInt8):Int:=bif uY t true then 11 else 0
def qC (b:ByteArray):Nat->UInt8:=bif Ka b then qB b else zT
def qH (b:ByteArray):Int:=bif Ka b then 0 else 11
def pqc (a b c e:UInt8):Bool:=pq [ub a,ub b,ub c,ub e] [ub (N7 e a),ub (N7 e b),ub (N7 e c),ub (N7 e e)]
theorem o9 {t:Nat->UInt8} {e:Int}:B7 (t5 t e):=(j3 t).append (B7.cons (B7.cons B7.nil))
theorem J5 (e:Int):o7++[.v (.slice none 0 0),li e]=t5 zT e:=by
 unfold t5
 rw[q9]
theorem c1n (t:Nat->UInt8) (e:Int):(t5 t e).length=258:=by
 unfold t5
 rw[List.length_append,B8];rfl
theorem Ll (t:Nat->UInt8):j4 (o7++[.v (.slice none 0 0),li 0]) 0 (tl t)=t5 t 0:=by
 unfold t5
 rw[P3 _ _ _ _ (by rw[B8,q9,B8];exact Nat.le_refl _),eP (by rw[q9,B8,B8])]
theorem a5w (a b c e:UInt8):ag [u8 (F5 (e.toNat:Nat) (a.toNat:Nat)),u8 (F5 (e.toNat:Nat) (b.toNat:Nat)),u8 (F5 (e.toNat:Nat) (c.toNat:Nat)),u8 (F5 (e.toNat:Nat) (e.toNat:Nat))]=ag [ub (N7 e a),ub (N7 e b),ub (N7 e c),ub (N7 e e)]:=by
 rw[K4,K4,K4,K4]
theorem f_t {t:Nat->UInt8} (h:(bif n5 t then true else !m7 t (m8 t))=true):uQ t=zT/\vC t=11:=by
 have:uY t true=true:=h
 unfold uQ vC;rw[this];exact ⟨rfl,rfl⟩
theorem f_f {t:Nat->UInt8} (h:(bif n5 t then true else !m7 t (m8 t))=false):uQ t=t/\vC t=0:=by
 have:uY t true=false:=h
 unfold uQ vC;rw[this];exact ⟨rfl,rfl⟩
theorem c2c {t:Nat->UInt8} {a b c e:UInt8} (h:m7 t (m8 t)=true->pqc a b c e=true):(bif m7 t (m8 t) then pqc a b c e else false)=m7 t (m8 t):=by
 cases hs:m7 t (m8 t) with
 |true=>rw[h hs];rfl
 |false=>rfl
theorem Iy:j6 prog 176:=fun args w=>by go_simp
def Ww (t:Nat->UInt8) (a b c e:UInt8):Cz:={
 ct:=(fun f=>match f with
 |44=>some fun _ _=>fun | [.c (.agg l)]=>some {v:=bv (n5 (A1 l))}|_=>none
 |100=>some fun _ _=>fun | [.c (.agg [.v (.int _ a),.v (.int _ b),.v (.int _ c),.v (.int _ e)])]=>some {v:=ag [u8 (F5 e a),u8 (F5 e b),u8 (F5 e c),u8 (F5 e e)]}|_=>none
 |121=>some fun _ _=>fun | [.c (.agg l),.c (.agg m)]=>some {v:=bv (m7 (A1 l) (A1 m))}|_=>none
 |122=>some fun _ _=>fun | [.c (.agg l)]=>some {v:=.c (.agg (tl (m8 (A1 l))))}|_=>none
 |_=>none)
 eq:=(fun t=>match t with
 |36=>some pq
 |_=>none)
 nf:=[(7,.c (.agg (tl t))),(8,bv (n5 t)),(9,.c (.agg (tl t))),(10,.c (.agg (tl t))),(11,.c (.agg (tl (m8 t)))),(12,bv (m7 t (m8 t))),(16,ag [ub (N7 e a),ub (N7 e b),ub (N7 e c),ub (N7 e e)]),(17,bv (pqc a b c e)),(18,bv (m7 t (m8 t))),(23,bv (bif n5 t then true else !m7 t (m8 t))),(25,.c (.agg (tl t))),(26,.c (.agg (t5 t 0)))],wh:=[38,36,85]}
theorem c1r (t:Nat->UInt8) (a b c e:UInt8) (h:m7 t (m8 t)=true->pqc a b c e=true) (n:Nat):f4 prog 174 [.c (.agg (tl t)),ag [ub a,ub b,ub c,ub e]] [] n (.c (.agg (t5 (uQ t) (vC t)))) [] 0:=by
 refine v6 (q:=let d:=ag (List.take 256 (tl t));let f:=ag (tl t);let g:=A1 (tl t);let h:=ag (tl (m8 g));let i:=tl (m8 t);let j:=bv (m7 g (A1 i));let k:=bv (m7 t (m8 t));let l:=(e.toNat:Int);let m:=[l8 (a.toNat:Int),l8 (b.toNat:Int),l8 (c.toNat:Int),l8 l];let n:=(ag [l8 (F5 l (a.toNat:Int)),l8 (F5 l (b.toNat:Int)),l8 (F5 l (c.toNat:Int)),l8 (F5 l l)]);let o:=[l8 ((N7 e a).toNat:Int),l8 ((N7 e b).toNat:Int),l8 ((N7 e c).toNat:Int),l8 ((N7 e e).toNat:Int)];let p:=(pq (List.take prog.types[36].size (List.drop 0 m)) [ub (N7 e a),ub (N7 e b),ub (N7 e c),ub (N7 e e)]);let r:=!n5 t;let s:=bif n5 t then true else !m7 t (m8 t);let u:=Value.slice none 0 0;let w:=ag (t5 (uQ t) (vC t));let x:=[Leaf.v u,li 0];Le d f/\Kd 44 [] [ag (tl t)] [] 3 (bv (n5 g)) [] 0/\Le (bv (n5 g)) (bv (n5 t))/\Le d f/\Le d f/\Kd 122 [] [ag (tl t)] [] 3 h [] 0/\Le h (ag i)/\Kd 121 [] [ag (tl t),ag i] [] 3 j [] 0/\Le j k/\(m7 t (m8 t)=true->m7 t (m8 t)=true/\Kd 100 [] [ag m] [] 3 n [] 0/\Le n (ag o)/\True)/\(m7 t (m8 t)=true->m7 t (m8 t)=true/\m7 t (m8 t)=true/\H4 prog 36 m o p/\Le (bv p) (bv (pqc a b c e))/\True)/\(m7 t (m8 t)=true->m7 t (m8 t)=true)/\Le (bv (bif m7 t (m8 t) then pqc a b c e else false)) k/\(r=true->r=true/\True)/\(n5 t=false->r=true)/\Le (bv s) (bv s)/\HB s (0=0/\258=258/\Le (ag (o7++[Leaf.v u,li 11])) w/\True) (Le d f/\Le (ag (j4 (o7++x) 0 (tl t))) (ag (t5 t 0))/\0=0/\258=258/\Le (ag (tl (t)++x)) w/\True)) (Ww t a b c e) func174 n (by kernel_rfl) (by kernel_rfl) ?_
 with_reducible repeat' first|exact trivial|apply And.intro|apply HB.mk|intro _
 all_goals first|(with_reducible first|assumption|exact Le.refl _|rfl|exact Pt _ _ rfl _|exact a1t _ _ _ _ _|exact Pn _ _ _ _ rfl rfl _|exact Kn _ _ rfl _|exact Le.of (congrArg (fun l=>SV.c (.agg l)) (t7 _))|exact Le.bool (J0 _)|exact Le.of (congrArg (fun l=>SV.c (.agg l)) (bF _))|exact Le.bool (M8 _ _)|exact Le.of (a5w _ _ _ _))|exact Dw _ _ _ _ _ _ _ _|exact Le.bool rfl|with_reducible exact Le.bool (c2c h)|exact Le.of (congrArg (fun l=>SV.c (.agg l)) (Ll _))|refine Le.of ?_;rw[(f_t (by with_reducible assumption)).1,(f_t (by with_reducible assumption)).2,<-J5];done|refine Le.of ?_;rw[(f_f (by with_reducible assumption)).1,(f_f (by with_reducible assumption)).2];rfl|simp only[*,Bool.and_self,Bool.not_false,Bool.not_true];done
theorem a4s (t:Nat->UInt8) (n:Nat):f4 prog 174 [.c (.agg (tl t)),ag [u8 0,u8 0,u8 0,u8 1]] [] n (.c (.agg (t5 (uQ t) (vC t)))) [] 0:=c1r t 0 0 0 1 (fun _=>by decide) n
theorem b9v (q:ByteArray) (n:Nat):f4 prog 174 [.c (.agg (tl (V3 q))),ag [ub (q.get! 0),ub (q.get! 1),ub (q.get! 2),ub (q.get! 3)]] [] n (.c (.agg (t5 (uQ (V3 q)) (vC (V3 q))))) [] 0:=by
 refine c1r _ _ _ _ _ (fun h=>?_) n
 rw[B1] at h
 have h0:=h 0 (by decide);have h1:=h 1 (by decide);have h2:=h 2 (by decide);have h3:=h 3 (by decide)
 have k0:q.get! 0=N7 (q.get! 3) (q.get! 0):=h0
 have k1:q.get! 1=N7 (q.get! 3) (q.get! 1):=h1
 have k2:q.get! 2=N7 (q.get! 3) (q.get! 2):=h2
 have k3:q.get! 3=N7 (q.get! 3) (q.get! 3):=h3
 unfold pqc
 rw[<-k0,<-k1,<-k2,<-k3]
 unfold pq
 exact decide_eq_true ⟨rfl,rfl,rfl,rfl⟩
theorem c9g (f:ByteArray) (hf:f.size<=1000000000000000) (n:Nat):f4 prog 176 [.c (.l (.v (.string f))),iv .i64 256] [] n (ag [.v (.string (Cod.gI f 256).1),li (Cod.gI f 256).2]) [] 0:=
 B9 Iy (vals:=[.string f,.int .i64 256]) (y:=Cod.Yw f 256) rfl rfl n fun x=>(Cod.wP f 256 (by decide) hf x).mono fun e x' h=>⟨h.1,h.2⟩
theorem qX (t:Nat->UInt8) (e:Int):List.take 256 (I8 t e)=tl t:=by
 unfold I8
 rw[List.take_append_of_le_length (by rw[B8];exact Nat.le_refl _),t7]
theorem Tn {b:ByteArray} {t:Nat->UInt8} (h1:qB b=t) (h2:pM b=true):.c (.agg (t5 (uQ t) (vC t)))=SV.c (.agg (t5 (qC b) (qH b))):=by
 unfold qC qH uQ vC Ka
 rw[h1,h2]
 cases uY t true<;>rfl
theorem On {b:ByteArray} (h2:pM b=false):SV.c (.agg (t5 zT 11))=SV.c (.agg (t5 (qC b) (qH b))):=by
 unfold qC qH Ka
 rw[h2];rfl
theorem tg {b:ByteArray} {i j:Nat} (e:j=1+i) (h:1+i<b.size):b.get! j=(z9 b).get! i:=by
 subst e;unfold z9;rw[Fd b h (Nat.le_refl _)]
theorem tg' {b:ByteArray} (z:Int) (i:Nat) (e:z.toNat=1+i) (h:1+i<b.size):((b.get! z.toNat).toNat:Int)=(((z9 b).get! i).toNat:Nat):=by
 rw[tg e h]
theorem R9 {b:ByteArray} (h:1<=b.size):(z9 b).size=b.size-1:=by unfold z9;rw[ByteArray.size_extract];omega
theorem b0s {b:ByteArray} (h:2<=b.size):b.extract (Int.toNat 2) ((b.size:Nat):Int).toNat=(z9 b).extract 1 (z9 b).size:=by
 have hl:=cL b
 rw[R9 (by omega)]
 unfold z9
 apply lC
 rw[V5,V5,V5]
 show List.take (b.size-2) (List.drop 2 (pJ b))=_
 rw[List.drop_take,List.drop_drop,List.take_take]
 congr 1
 omega
theorem c5q {b:ByteArray} (hz:b.size=5) (hk:kB b=0):qB b=V3 (z9 b)/\pM b=true:=by
 have e:pK (z9 b)=true:=by unfold pK;exact decide_eq_true (by rw[R9 (by omega)];omega)
 refine ⟨?_,by rw[(k0 hk).2,e]⟩
 rw[(k0 hk).1];unfold qU;rw[e];rfl
theorem b8q {b:ByteArray} (hz:b.size=257) (hk:kB b=1):qB b=B5 (z9 b)/\pM b=true:=by
 have e:iZ (z9 b)=true:=by unfold iZ;exact decide_eq_true (by rw[R9 (by omega)];omega)
 refine ⟨?_,by rw[(k1 hk).2,e]⟩
 rw[(k1 hk).1];unfold lN;rw[e];rfl
theorem c5p {b:ByteArray} (h1:1<=b.size) (h5:¬(b.size=5/\kB b=0)) (h257:¬(b.size=257/\kB b=1)) (h2:¬(2<=b.size/\kB b=2)):pM b=false:=by
 unfold pM
 by_cases e0:kB b=0
 ·rw[if_pos e0];unfold pK;exact decide_eq_false (by rw[R9 h1];omega)
 rw[if_neg e0]
 by_cases e1:kB b=1
 ·rw[if_pos e1];unfold iZ;exact decide_eq_false (by rw[R9 h1];omega)
 rw[if_neg e1]
 by_cases e2:kB b=2
 ·rw[if_pos e2];unfold dW;rw[decide_eq_true (by rw[R9 h1];omega)];rfl
 rw[if_neg e2]
theorem c5y {b:ByteArray} (hk:kB b=2) (hn:Ar (z9 b)=true):pM b=false:=by
 rw[(k2 hk).2];unfold dW;rw[hn];cases decide ((z9 b).size=0)<;>rfl
theorem b9e {b:ByteArray} (hk:kB b=2) (hx:¬dX (z9 b)<6):pM b=false:=by
 rw[(k2 hk).2];unfold dW;rw[decide_eq_false hx];cases decide ((z9 b).size=0)<;>cases Ar (z9 b)<;>rfl
theorem c0v {b:ByteArray} (h2:2<=b.size) (hk:kB b=2) (hn:Ar (z9 b)=false) (hx:dX (z9 b)<6):qB b=nD (gV (z9 b)).1 (dX (z9 b))/\pM b=true:=by
 have e:dW (z9 b)=true:=by unfold dW;rw[hn,decide_eq_true hx,decide_eq_false (by rw[R9 (by omega)];omega)];rfl
 refine ⟨?_,by rw[(k2 hk).2,e]⟩
 rw[(k2 hk).1];unfold lQ nD;rw[e,decide_eq_true hx]
theorem rN {b:ByteArray}:(((b.get! (Int.toNat 0)).toNat:Nat):Int)=kB b:=rfl
theorem c5l {b:ByteArray} (h:b.size=5) (hk:kB b=0):(bif ((b.size:Nat):Int)==5 then (((b.get! (Int.toNat 0)).toNat:Nat):Int)==0 else false)=true:=by
 rw[rN,h,hk];rfl
theorem vU {b:ByteArray} (h:¬(b.size=5/\kB b=0)):(bif ((b.size:Nat):Int)==5 then (((b.get! (Int.toNat 0)).toNat:Nat):Int)==0 else false)=false:=by
 rw[rN]
 by_cases e:b.size=5
 ·have:¬kB b=0:=fun x=>h ⟨e,x⟩
  rw[e];simpa using this
 ·have:(((b.size:Nat):Int)==5)=false:=by simpa using (by omega:¬((b.size:Nat):Int)=5)
  rw[this];rfl
theorem c5h {b:ByteArray} (h:b.size=257) (hk:kB b=1):(bif ((b.size:Nat):Int)==257 then (((b.get! (Int.toNat 0)).toNat:Nat):Int)==1 else false)=true:=by
 rw[rN,h,hk];rfl
theorem Ei {b:ByteArray} (h:¬(b.size=257/\kB b=1)):(bif ((b.size:Nat):Int)==257 then (((b.get! (Int.toNat 0)).toNat:Nat):Int)==1 else false)=false:=by
 rw[rN]
 by_cases e:b.size=257
 ·have:¬kB b=1:=fun x=>h ⟨e,x⟩
  rw[e];simpa using this
 ·have:(((b.size:Nat):Int)==257)=false:=by simpa using (by omega:¬((b.size:Nat):Int)=257)
  rw[this];rfl
theorem c3v {b:ByteArray} (h:¬(2<=b.size/\kB b=2)):(bif decide (((b.size:Nat):Int)<2) then true else (((b.get! (Int.toNat 0)).toNat:Nat):Int) != 2)=true:=by
 rw[rN]
 by_cases e:b.size<2
 ·rw[decide_eq_true (by omega)];rfl
 ·have:¬kB b=2:=fun x=>h ⟨by omega,x⟩
  rw[decide_eq_false (by omega)];simpa using this
theorem Mm {b:ByteArray} (h2:2<=b.size) (hk:kB b=2):(bif decide (((b.size:Nat):Int)<2) then true else (((b.get! (Int.toNat 0)).toNat:Nat):Int) != 2)=false:=by
 rw[rN,hk,decide_eq_false (by omega)];rfl
theorem Mc (q:ByteArray):0<=dX q/\dX q<=255:=by unfold dX;have:=(q.get! 0).toNat_lt;omega
theorem c1k {k:Int} (h:k<6):nC k=0:=by unfold nC;rw[decide_eq_true h];rfl
theorem c6v {k:Int} (h:¬k<6):nC k=1:=by unfold nC;rw[decide_eq_false h];rfl
def c3j (b:ByteArray):Rw:=some fun _ _=>fun | [_,_]=>some {v:=.c (.agg (t5 (uQ (V3 (z9 b))) (vC (V3 (z9 b)))))}|_=>none
def Im (b:ByteArray):Cz:={
 ct:=(fun f=>match f with
 |161=>some fun _ _=>fun | [.c (.agg [.v (.int _ a),.v (.int _ b),.v (.int _ c),.v (.int _ e)])]=>some {v:=.c (.agg (tl (A6 (C9 a) (C9 b) (C9 c) (C9 e))))}|_=>none
 |174=>c3j b
 |_=>none)
 sym:=[11,39,58,15,17,19,21,25,27,29,31,72],nf:=[(13,bv true),(15,.c (.l (ub ((z9 b).get! 0)))),(17,.c (.l (ub ((z9 b).get! 1)))),(19,.c (.l (ub ((z9 b).get! 2)))),(21,.c (.l (ub ((z9 b).get! 3)))),(25,.c (.l (ub ((z9 b).get! 0)))),(27,.c (.l (ub ((z9 b).get! 1)))),(29,.c (.l (ub ((z9 b).get! 2)))),(31,.c (.l (ub ((z9 b).get! 3)))),(23,.c (.agg (tl (V3 (z9 b)))))],wh:=[85,219,221,223,36]}
theorem a6e (b:ByteArray) (hz:b.size=5) (hk:kB b=0) (n:Nat):f4 prog 138 [.c (.l (.v (.string b)))] [] n (.c (.agg (t5 (qC b) (qH b)))) [] 0:=by
 refine v6 (q:=let a:=((b.size:Int)==5);let c:=(iv .u8 (Nat.cast ((b.get! (Int.toNat 1)).toNat):Int));let d:=(Nat.cast (((z9 b).get! 0).toNat):Int);let e:=iv .u8 d;let f:=(iv .u8 (Nat.cast ((b.get! (Int.toNat 2)).toNat):Int));let g:=(Nat.cast (((z9 b).get! 1).toNat):Int);let h:=iv .u8 g;let i:=(iv .u8 (Nat.cast ((b.get! (Int.toNat 3)).toNat):Int));let j:=(Nat.cast (((z9 b).get! 2).toNat):Int);let k:=iv .u8 j;let l:=(iv .u8 (Nat.cast ((b.get! (Int.toNat 4)).toNat):Int));let m:=(Nat.cast (((z9 b).get! 3).toNat):Int);let n:=iv .u8 m;let o:=[l8 d,l8 g,l8 j,l8 m];let p:=ag (tl (A6 (C9 d) (C9 g) (C9 j) (C9 m)));let r:=V3 (z9 b);(a=true->a=true/\t0 0 b.size/\True)/\(a=true->a=true/\True)/\(a=true->a=true)/\Le (bv (bif (b.size:Int)==5 then (Nat.cast ((b.get! (Int.toNat 0)).toNat):Int)==0 else false)) (bv true)/\t0 1 b.size/\Le c e/\t0 2 b.size/\Le f h/\t0 3 b.size/\Le i k/\t0 4 b.size/\Le l n/\Kd 161 [] [ag o] [] 1 p [] 0/\Le p (ag (tl r))/\t0 1 b.size/\Le c e/\t0 2 b.size/\Le f h/\t0 3 b.size/\Le i k/\t0 4 b.size/\Le l n/\Kd 174 [] [ag (tl r),ag o] [] 1 (ag (t5 (uQ r) (vC r))) [] 0/\0=0/\258=258/\Le (ag (tl (uQ r)++[Leaf.v (Value.slice none 0 0),li (vC r)])) (ag (t5 (qC b) (qH b)))/\True) (Im b) func138 n (by kernel_rfl) (by kernel_rfl) ?_
 with_reducible repeat' first|exact trivial|apply And.intro|apply HB.mk|intro _
 all_goals first|(with_reducible first|assumption|rfl|exact a5l _ _ _ _ _|exact b9v _ _)|(exact ⟨by omega,by omega⟩)|with_reducible exact Le.bool (c5l hz hk)|(with_reducible refine Le.int (tg' _ _ ?_ ?_)<;>first|rfl|omega)|refine Le.of ?_;rw[xC];done|exact Le.of (Tn (c5q hz hk).1 (c5q hz hk).2)
def Jb (b:ByteArray):Cz:={
 ct:=(fun f=>match f with
 |161=>some fun _ _=>fun | [.c (.agg [.v (.int _ a),.v (.int _ b),.v (.int _ c),.v (.int _ e)])]=>some {v:=.c (.agg (tl (A6 (C9 a) (C9 b) (C9 c) (C9 e))))}|_=>none
 |174=>c3j b
 |_=>none)
 sym:=[11,39,58,15,17,19,21,25,27,29,31,72],nf:=[(13,bv false),(41,bv false),(60,bv true)],wh:=[85,219,221,223,36]}
theorem a9e (b:ByteArray) (h1:1<=b.size) (hm:b.size<=1000000000000000) (h5:¬(b.size=5/\kB b=0)) (h257:¬(b.size=257/\kB b=1)) (h2:¬(2<=b.size/\kB b=2)) (n:Nat):f4 prog 138 [.c (.l (.v (.string b)))] [] n (.c (.agg (t5 (qC b) (qH b)))) [] 0:=by
 refine v6 (q:=let a:=(b.size:Int);let c:=a==5;let d:=(Nat.cast ((b.get! (Int.toNat 0)).toNat):Int);let e:=a==257;let f:=!decide (a<2);(c=true->c=true/\t0 0 b.size/\True)/\(c=true->c=true/\True)/\(c=true->c=true)/\Le (bv (bif a==5 then d==0 else false)) (bv false)/\(e=true->e=true/\t0 0 b.size/\True)/\(e=true->e=true/\True)/\(e=true->e=true)/\Le (bv (bif a==257 then d==1 else false)) (bv false)/\(f=true->f=true/\t0 0 b.size/\True)/\(f=true->f=true/\True)/\(decide (a<2)=false->f=true)/\Le (bv (bif decide (a<2) then true else d != 2)) (bv true)/\0=0/\258=258/\Le (ag (o7++[Leaf.v (Value.slice none 0 0),li 11])) (ag (t5 (qC b) (qH b)))/\True) (Jb b) func138 n (by kernel_rfl) (by kernel_rfl) ?_
 with_reducible repeat' first|exact trivial|apply And.intro|apply HB.mk|intro _|assumption|rfl
 all_goals first|(exact ⟨by omega,by omega⟩)|(with_reducible first|exact Le.bool (vU h5)|exact Le.bool (Ei h257)|exact Le.bool (c3v h2))|exact Le.of ((congrArg (fun l=>SV.c (.agg l)) (J5 11)).trans (On (c5p h1 h5 h257 h2)))|simp only[*,Bool.and_self,Bool.not_false,Bool.not_true];done
def a3f (b:ByteArray):Rw:=some fun _ _=>fun | [_]=>some {v:=.c (.agg (I8 (B5 (z9 b)) 0))}|_=>none
def Jp (b:ByteArray):Cz:={
 ct:=(fun f=>match f with
 |161=>some fun _ _=>fun | [.c (.agg [.v (.int _ a),.v (.int _ b),.v (.int _ c),.v (.int _ e)])]=>some {v:=.c (.agg (tl (A6 (C9 a) (C9 b) (C9 c) (C9 e))))}|_=>none
 |174=>some fun _ _=>fun | [_,_]=>some {v:=.c (.agg (t5 (uQ (B5 (z9 b))) (vC (B5 (z9 b)))))}|_=>none
 |175=>a3f b
 |_=>none)
 sym:=[11,39,58,15,17,19,21,25,27,29,31,72],nf:=[(13,bv false),(41,bv true),(43,.c (.l (.v (.string (z9 b))))),(47,bv false),(50,.c (.agg (tl (B5 (z9 b)))))],wh:=[85,219,221,223,36]}
theorem a9s (b:ByteArray) (hz:b.size=257) (hk:kB b=1) (h5:¬(b.size=5/\kB b=0)) (n:Nat):f4 prog 138 [.c (.l (.v (.string b)))] [] n (.c (.agg (t5 (qC b) (qH b)))) [] 0:=by
 refine v6 (q:=let a:=(b.size:Int);let d:=a==5;let e:=(Nat.cast ((b.get! (Int.toNat 0)).toNat):Int);let f:=bv false;let g:=a==257;let h:=B5 (z9 b);(d=true->d=true/\t0 0 b.size/\True)/\(d=true->d=true/\True)/\(d=true->d=true)/\Le (bv (bif a==5 then e==0 else false)) f/\(g=true->g=true/\t0 0 b.size/\True)/\(g=true->g=true/\True)/\(g=true->g=true)/\Le (bv (bif a==257 then e==1 else false)) (bv true)/\O6 1 a a/\Le (l4 (l9 (b.extract (Int.toNat 1) (a).toNat))) (l4 (l9 (z9 b)))/\Kd 175 [] [l4 (l9 (z9 b))] [] 1 (ag (I8 h 0)) [] 0/\0=0/\257=257/\Le f f/\Le (ag (List.take 256 (I8 h 0))) (ag (tl h))/\Kd 174 [] [ag (tl h),ag [l8 0,l8 0,l8 0,l8 1]] [] 2 (ag (t5 (uQ h) (vC h))) [] 0/\0=0/\258=258/\Le (ag (tl (uQ h)++[Leaf.v (Value.slice none 0 0),li (vC h)])) (ag (t5 (qC b) (qH b)))/\True) (Jp b) func138 n (by kernel_rfl) (by kernel_rfl) ?_
 with_reducible repeat' first|exact trivial|apply And.intro|apply HB.mk|intro _
 all_goals first|(with_reducible first|assumption|rfl|exact a4s _ _)|with_reducible refine d0z _ ?_ _;rw[R9 (by omega)];omega|(exact ⟨by omega,by omega⟩)|(with_reducible first|exact Le.bool (vU h5)|exact Le.bool (c5h hz hk)|exact Le.of (congrArg (fun q=>SV.c (.l (.v (.string q)))) (uH _))|exact Le.of (congrArg (fun l=>SV.c (.agg l)) (qX _ _)))|exact Le.of (Tn (b8q hz hk).1 (b8q hz hk).2)|exact Le.of rfl
theorem Th (b:ByteArray) (h2:2<=b.size) (hm:b.size<=1000000000000000) (n:Nat):f4 prog 176 [.c (.l (.v (.string ((z9 b).extract 1 (z9 b).size)))),iv .i64 256] [] n (ag [.v (.string (gV (z9 b)).1),li (gV (z9 b)).2]) [] 0:=c9g _ (by rw[ByteArray.size_extract];have:=R9 (b:=b) (by omega);omega) n
theorem c4z {b:ByteArray} (h:2<=b.size):IntKind.i64.wrap (((b.get! (Int.toNat 1)).toNat:Nat):Int)=dX (z9 b):=by
 rw[qQ]
 exact tg' 1 0 rfl h
theorem c6m {k:Int} (h:k<6):(nC k != 0)=false:=by rw[c1k h];rfl
theorem c6k {k:Int} (h:¬k<6):(nC k != 0)=true:=by rw[c6v h];rfl
def a8p (b:ByteArray):Rw:=some fun _ _=>fun | [_,_]=>some {v:=.c (.agg (t5 (uQ (nD (gV (z9 b)).1 (dX (z9 b)))) (vC (nD (gV (z9 b)).1 (dX (z9 b))))))}|_=>none
def b3x (b:ByteArray):Rw:=some fun _ _=>fun | [_,_]=>some {v:=ag [.v (.string (gV (z9 b)).1),li (gV (z9 b)).2]}|_=>none
def a9t (b:ByteArray):Rw:=some fun _ _=>fun | [_,_]=>some {v:=.c (.agg (I8 (nD (gV (z9 b)).1 (dX (z9 b))) (nC (dX (z9 b)))))}|_=>none
def Ay (b:ByteArray):Cz:={
 ct:=(fun f=>match f with
 |161=>some fun _ _=>fun | [.c (.agg [.v (.int _ a),.v (.int _ b),.v (.int _ c),.v (.int _ e)])]=>some {v:=.c (.agg (tl (A6 (C9 a) (C9 b) (C9 c) (C9 e))))}|_=>none
 |174=>a8p b
 |175=>a3f b
 |176=>b3x b
 |177=>a9t b
 |_=>none)
 sym:=[11,39,58,15,17,19,21,25,27,29,31,72],nf:=[(13,bv false),(41,bv false),(60,bv false),(63,.c (.l (.v (.string ((z9 b).extract 1 (z9 b).size))))),(67,bv true)],wh:=[85,219,221,223,36]}
theorem a0s (b:ByteArray) (h2:2<=b.size) (hm:b.size<=1000000000000000) (hk:kB b=2) (h5:¬(b.size=5/\kB b=0)) (h257:¬(b.size=257/\kB b=1)) (hn:Ar (z9 b)=true) (n:Nat):f4 prog 138 [.c (.l (.v (.string b)))] [] n (.c (.agg (t5 (qC b) (qH b)))) [] 0:=by
 refine v6 (q:=let a:=(b.size:Int);let d:=a==5;let e:=(Nat.cast ((b.get! (Int.toNat 0)).toNat):Int);let f:=bv false;let g:=a==257;let h:=!decide (a<2);let i:=l9 ((z9 b).extract 1 (z9 b).size);let j:=gV (z9 b);(d=true->d=true/\t0 0 b.size/\True)/\(d=true->d=true/\True)/\(d=true->d=true)/\Le (bv (bif a==5 then e==0 else false)) f/\(g=true->g=true/\t0 0 b.size/\True)/\(g=true->g=true/\True)/\(g=true->g=true)/\Le (bv (bif a==257 then e==1 else false)) f/\(h=true->h=true/\t0 0 b.size/\True)/\(h=true->h=true/\True)/\(decide (a<2)=false->h=true)/\Le (bv (bif decide (a<2) then true else e != 2)) f/\O6 2 a a/\Le (l4 (l9 (b.extract (Int.toNat 2) (a).toNat))) (l4 i)/\Kd 176 [] [l4 i,i8 256] [] 1 (ag [l9 (j.fst),li j.snd]) [] 0/\0=0/\2=2/\Le (bv (j.snd != 0)) (bv true)/\0=0/\258=258/\Le (ag (o7++[Leaf.v (Value.slice none 0 0),li 11])) (ag (t5 (qC b) (qH b)))/\True) (Ay b) func138 n (by kernel_rfl) (by kernel_rfl) ?_
 with_reducible repeat' first|exact trivial|apply And.intro|apply HB.mk|intro _|assumption|rfl
 all_goals first|with_reducible refine Th _ ?_ ?_ _;omega;omega|(exact ⟨by omega,by omega⟩)|(with_reducible first|exact Le.bool (vU h5)|exact Le.bool (Ei h257)|exact Le.bool (Mm h2 hk)|exact Le.of (congrArg (fun q=>SV.c (.l (.v (.string q)))) (b0s h2))|exact Le.bool ((oX _).trans hn))|exact Le.of ((congrArg (fun l=>SV.c (.agg l)) (J5 11)).trans (On (c5y hk hn)))|simp only[*,Bool.and_self,Bool.not_false,Bool.not_true];done
def Dh (b:ByteArray):Cz:={
 ct:=(fun f=>match f with
 |161=>some fun _ _=>fun | [.c (.agg [.v (.int _ a),.v (.int _ b),.v (.int _ c),.v (.int _ e)])]=>some {v:=.c (.agg (tl (A6 (C9 a) (C9 b) (C9 c) (C9 e))))}|_=>none
 |174=>a8p b
 |175=>a3f b
 |176=>b3x b
 |177=>a9t b
 |_=>none)
 sym:=[11,39,58,15,17,19,21,25,27,29,31,72],nf:=[(13,bv false),(41,bv false),(60,bv false),(63,.c (.l (.v (.string ((z9 b).extract 1 (z9 b).size))))),(67,bv false),(73,iv .i64 (dX (z9 b))),(77,bv true)],wh:=[85,219,221,223,36]}
theorem a2y (b:ByteArray) (h2:2<=b.size) (hm:b.size<=1000000000000000) (hk:kB b=2) (h5:¬(b.size=5/\kB b=0)) (h257:¬(b.size=257/\kB b=1)) (hn:Ar (z9 b)=false) (hx:¬dX (z9 b)<6) (n:Nat):f4 prog 138 [.c (.l (.v (.string b)))] [] n (.c (.agg (t5 (qC b) (qH b)))) [] 0:=by
 refine v6 (q:=let a:=(b.size:Int);let d:=a==5;let e:=(Nat.cast ((b.get! (Int.toNat 0)).toNat):Int);let f:=bv false;let g:=a==257;let h:=!decide (a<2);let i:=l9 ((z9 b).extract 1 (z9 b).size);let j:=gV (z9 b);let k:=dX (z9 b);(d=true->d=true/\t0 0 b.size/\True)/\(d=true->d=true/\True)/\(d=true->d=true)/\Le (bv (bif a==5 then e==0 else false)) f/\(g=true->g=true/\t0 0 b.size/\True)/\(g=true->g=true/\True)/\(g=true->g=true)/\Le (bv (bif a==257 then e==1 else false)) f/\(h=true->h=true/\t0 0 b.size/\True)/\(h=true->h=true/\True)/\(decide (a<2)=false->h=true)/\Le (bv (bif decide (a<2) then true else e != 2)) f/\O6 2 a a/\Le (l4 (l9 (b.extract (Int.toNat 2) (a).toNat))) (l4 i)/\Kd 176 [] [l4 i,i8 256] [] 1 (ag [l9 (j.fst),li j.snd]) [] 0/\0=0/\2=2/\Le (bv (j.snd != 0)) f/\t0 1 b.size/\Le (i8 (IntKind.i64.wrap (Nat.cast ((b.get! (Int.toNat 1)).toNat):Int))) (i8 k)/\Kd 177 [] [l4 (l9 (j.fst)),i8 k] [] 2 (ag (I8 (nD j.fst k) (nC k))) [] 0/\0=0/\257=257/\Le (bv (nC k != 0)) (bv true)/\0=0/\258=258/\Le (ag (o7++[Leaf.v (Value.slice none 0 0),li 11])) (ag (t5 (qC b) (qH b)))/\True) (Dh b) func138 n (by kernel_rfl) (by kernel_rfl) ?_
 with_reducible repeat' first|exact trivial|apply And.intro|apply HB.mk|intro _|assumption|rfl
 all_goals first|with_reducible refine Th _ ?_ ?_ _;omega;omega|with_reducible exact zY _ (jJ hn) _ (Mc _).1 _|(exact ⟨by omega,by omega⟩)|(with_reducible first|exact Le.bool (vU h5)|exact Le.bool (Ei h257)|exact Le.bool (Mm h2 hk)|exact Le.of (congrArg (fun q=>SV.c (.l (.v (.string q)))) (b0s h2))|exact Le.bool ((oX _).trans hn)|exact Le.int (c4z h2)|exact Le.bool (c6k hx))|exact Le.of ((congrArg (fun l=>SV.c (.agg l)) (J5 11)).trans (On (b9e hk hx)))|simp only[*,Bool.and_self,Bool.not_false,Bool.not_true];done
def Is (b:ByteArray):Cz:={
 ct:=(fun f=>match f with
 |161=>some fun _ _=>fun | [.c (.agg [.v (.int _ a),.v (.int _ b),.v (.int _ c),.v (.int _ e)])]=>some {v:=.c (.agg (tl (A6 (C9 a) (C9 b) (C9 c) (C9 e))))}|_=>none
 |174=>a8p b
 |175=>a3f b
 |176=>b3x b
 |177=>a9t b
 |_=>none)
 sym:=[11,39,58,15,17,19,21,25,27,29,31,72],nf:=[(13,bv false),(41,bv false),(60,bv false),(63,.c (.l (.v (.string ((z9 b).extract 1 (z9 b).size))))),(67,bv false),(73,iv .i64 (dX (z9 b))),(77,bv false),(80,.c (.agg (tl (nD (gV (z9 b)).1 (dX (z9 b))))))],wh:=[85,219,221,223,36]}
theorem b3p (b:ByteArray) (h2:2<=b.size) (hm:b.size<=1000000000000000) (hk:kB b=2) (h5:¬(b.size=5/\kB b=0)) (h257:¬(b.size=257/\kB b=1)) (hn:Ar (z9 b)=false) (hx:dX (z9 b)<6) (n:Nat):f4 prog 138 [.c (.l (.v (.string b)))] [] n (.c (.agg (t5 (qC b) (qH b)))) [] 0:=by
 refine v6 (q:=let a:=(b.size:Int);let d:=a==5;let e:=(Nat.cast ((b.get! (Int.toNat 0)).toNat):Int);let f:=bv false;let g:=a==257;let h:=!decide (a<2);let i:=l9 ((z9 b).extract 1 (z9 b).size);let j:=gV (z9 b);let k:=dX (z9 b);let m:=nD j.fst k;let n:=I8 m (nC k);(d=true->d=true/\t0 0 b.size/\True)/\(d=true->d=true/\True)/\(d=true->d=true)/\Le (bv (bif a==5 then e==0 else false)) f/\(g=true->g=true/\t0 0 b.size/\True)/\(g=true->g=true/\True)/\(g=true->g=true)/\Le (bv (bif a==257 then e==1 else false)) f/\(h=true->h=true/\t0 0 b.size/\True)/\(h=true->h=true/\True)/\(decide (a<2)=false->h=true)/\Le (bv (bif decide (a<2) then true else e != 2)) f/\O6 2 a a/\Le (l4 (l9 (b.extract (Int.toNat 2) (a).toNat))) (l4 i)/\Kd 176 [] [l4 i,i8 256] [] 1 (ag [l9 (j.fst),li j.snd]) [] 0/\0=0/\2=2/\Le (bv (j.snd != 0)) f/\t0 1 b.size/\Le (i8 (IntKind.i64.wrap (Nat.cast ((b.get! (Int.toNat 1)).toNat):Int))) (i8 k)/\Kd 177 [] [l4 (l9 (j.fst)),i8 k] [] 2 (ag n) [] 0/\0=0/\257=257/\Le (bv (nC k != 0)) f/\Le (ag (List.take 256 n)) (ag (tl m))/\Kd 174 [] [ag (tl m),ag [l8 0,l8 0,l8 0,l8 1]] [] 3 (ag (t5 (uQ m) (vC m))) [] 0/\0=0/\258=258/\Le (ag (tl (uQ m)++[Leaf.v (Value.slice none 0 0),li (vC m)])) (ag (t5 (qC b) (qH b)))/\True) (Is b) func138 n (by kernel_rfl) (by kernel_rfl) ?_
 with_reducible repeat' first|exact trivial|apply And.intro|apply HB.mk|intro _
 all_goals first|(with_reducible first|assumption|rfl|exact a4s _ _)|with_reducible refine Th _ ?_ ?_ _;omega;omega|with_reducible exact zY _ (jJ hn) _ (Mc _).1 _|(exact ⟨by omega,by omega⟩)|(with_reducible first|exact Le.bool (vU h5)|exact Le.bool (Ei h257)|exact Le.bool (Mm h2 hk)|exact Le.of (congrArg (fun q=>SV.c (.l (.v (.string q)))) (b0s h2))|exact Le.bool ((oX _).trans hn)|exact Le.int (c4z h2)|exact Le.bool (c6m hx)|exact Le.of (congrArg (fun l=>SV.c (.agg l)) (qX _ _)))|exact Le.of (Tn (c0v h2 hk hn hx).1 (c0v h2 hk hn hx).2)|simp only[*,Bool.and_self,Bool.not_false,Bool.not_true];done
theorem Qx (b:ByteArray) (h1:1<=b.size) (hm:b.size<=1000000000000000) (n:Nat):f4 prog 138 [.c (.l (.v (.string b)))] [] n (.c (.agg (t5 (qC b) (qH b)))) [] 0:=by
 by_cases a:b.size=5/\kB b=0
 ·exact a6e b a.1 a.2 n
 by_cases c:b.size=257/\kB b=1
 ·exact a9s b c.1 c.2 a n
 by_cases d:2<=b.size/\kB b=2
 ·cases hn:Ar (z9 b) with
  |true=>exact a0s b d.1 hm d.2 a c hn n
  |false=>
   by_cases hx:dX (z9 b)<6
   ·exact b3p b d.1 hm d.2 a c hn hx n
   ·exact a2y b d.1 hm d.2 a c hn hx n
 ·exact a9e b h1 hm a c d n
end Ab
end
section
namespace Ab
attribute [local irreducible] j8
def eM (a b:R4):R4:=bif R7 a then R5 b else bif R7 b then a else ⟨E7 a.x0 b.x0,E7 a.y0 b.y0,F1 a.x1 b.x1,F1 a.y1 b.y1⟩
def unH (a b:R4):R4:=⟨E7 a.x0 b.x0,E7 a.y0 b.y0,F1 a.x1 b.x1,F1 a.y1 b.y1⟩
theorem b6t {a:R4} (b:R4) (h:R7 a=true):eM a b=R5 b:=by unfold eM;rw[h];rfl
theorem b6v {a b:R4} (h:R7 a=false) (k:R7 b=true):eM a b=a:=by unfold eM;rw[h,k];rfl
theorem b6y {a b:R4} (h:R7 a=false) (k:R7 b=false):eM a b=unH a b:=by unfold eM;rw[h,k];rfl
def a9a:Rw:=some fun _ _=>fun | [.c (.agg [.v (.int _ a0),.v (.int _ a1),.v (.int _ a2),.v (.int _ a3)])]=>some {v:=bv (R7 ⟨a0,a1,a2,a3⟩)}|_=>none
def a6v:Rw:=some fun _ _=>fun | [.c (.agg [.v (.int _ a0),.v (.int _ a1),.v (.int _ a2),.v (.int _ a3)])]=>some {v:=ag [li (R5 ⟨a0,a1,a2,a3⟩).x0,li (R5 ⟨a0,a1,a2,a3⟩).y0,li (R5 ⟨a0,a1,a2,a3⟩).x1,li (R5 ⟨a0,a1,a2,a3⟩).y1]}|_=>none
def b0d (a b:R4):Cz:={
 ct:=(fun f=>match f with
 |28=>a9a
 |85=>a6v
 |_=>none)
 nf:=[(7,bv (R7 a)),(12,bv (R7 b)),(9,ag [li (R5 b).x0,li (R5 b).y0,li (R5 b).x1,li (R5 b).y1])],wh:=[66]}
theorem C83 (a b:R4)  (n:Nat):f4 prog 83 [ag [li a.x0,li a.y0,li a.x1,li a.y1],ag [li b.x0,li b.y0,li b.x1,li b.y1]] [] n (ag [li (eM a b).x0,li (eM a b).y0,li (eM a b).x1,li (eM a b).y1]) [] 0:=by
 refine v6 (q:=let c:=[li a.x0,li a.y0,li a.x1,li a.y1];let d:=bv (R7 a);let e:=[ag [li b.x0,li b.y0,li b.x1,li b.y1]];let f:=(ag [li (R5 b).x0,li (R5 b).y0,li (R5 b).x1,li (R5 b).y1]);let g:=eM a b;let h:=(ag [li g.x0,li g.y0,li g.x1,li g.y1]);let i:=bv (R7 b);Kd 28 [] [ag c] [] 3 d [] 0/\Le d d/\HB (R7 a) (Kd 85 [] e [] 3 f [] 0/\Le f f/\0=0/\4=4/\Le f h/\True) (Kd 28 [] e [] 3 i [] 0/\Le i i/\HB (R7 b) (0=0/\4=4/\Le (ag c) h/\True) (0=0/\4=4/\Le (ag [li (E7 a.x0 b.x0),li (E7 a.y0 b.y0),li (F1 a.x1 b.x1),li (F1 a.y1 b.y1)]) h/\True))) (b0d a b) func83 n (by kernel_rfl) (by kernel_rfl) ?_
 with_reducible repeat' first|exact trivial|apply And.intro|apply HB.mk|intro _
 all_goals first|(with_reducible first|exact Le.refl _|rfl|exact C28 ⟨_,_,_,_⟩ _|exact C85 ⟨_,_,_,_⟩ _)|refine Le.of ?_;rw[b6t _ (by with_reducible assumption)];try rfl|refine Le.of ?_;rw[b6v (by with_reducible assumption) (by with_reducible assumption)];try rfl|refine Le.of ?_;rw[b6y (by with_reducible assumption) (by with_reducible assumption)];try rfl
def Xp:Cz:={
  ct:=fun _=>none
   }
theorem Xf (r:R4)  (n:Nat):f4 prog 139 [ag [li r.x0,li r.y0,li r.x1,li r.y1]] [] n (bv (R7 r)) [] 0:=by
 refine v6 (q:=let a:=r.x0>=r.x1;let b:=!decide a;let c:=b=true->b=true/\True;c/\c/\(b=true->b=true/\b=true/\True)/\(decide a=false->b=true)/\Le (bv (bif decide a then true else decide (r.y0>=r.y1))) (bv (R7 r))/\True) (Xp) func139 n (by kernel_rfl) (by kernel_rfl) ?_
 with_reducible repeat' first|exact trivial|apply And.intro|apply HB.mk|intro _|assumption
 all_goals first|exact Le.bool rfl|simp only[*,Bool.and_self,Bool.not_false,Bool.not_true];done
def Yy (r:R4):Cz:={
 ct:=(fun f=>match f with
 |139=>a9a
 |_=>none)
 nf:=[(5,bv (R7 r))],wh:=[66]}
theorem c7a (r:R4)  (n:Nat):f4 prog 142 [ag [li r.x0,li r.y0,li r.x1,li r.y1]] [] n (ag [li (R5 r).x0,li (R5 r).y0,li (R5 r).x1,li (R5 r).y1]) [] 0:=by
 refine v6 (q:=let a:=[li r.x0,li r.y0,li r.x1,li r.y1];let b:=bv (R7 r);let c:=(ag [li (R5 r).x0,li (R5 r).y0,li (R5 r).x1,li (R5 r).y1]);Kd 139 [] [ag a] [] 2 b [] 0/\Le b b/\HB (R7 r) (0=0/\4=4/\Le (ag [li 0,li 0,li 0,li 0]) c/\True) (0=0/\4=4/\Le (ag a) c/\True)) (Yy r) func142 n (by kernel_rfl) (by kernel_rfl) ?_
 with_reducible repeat' first|exact trivial|apply And.intro|apply HB.mk|intro _
 all_goals first|(with_reducible first|exact Le.refl _|rfl|exact Xf ⟨_,_,_,_⟩ _)|refine Le.of ?_;rw[a6b (by with_reducible assumption)];try rfl|refine Le.of ?_;rw[a5v (by with_reducible assumption)];try rfl
def Vo:Cz:={
 ct:=(fun f=>match f with
 |142=>a6v
 |_=>none)
 wh:=[66]}
theorem b7p (a b:R4)  (n:Nat):f4 prog 140 [ag [li a.x0,li a.y0,li a.x1,li a.y1],ag [li b.x0,li b.y0,li b.x1,li b.y1]] [] n (ag [li (kM a b).x0,li (kM a b).y0,li (kM a b).x1,li (kM a b).y1]) [] 0:=by
 refine v6 (q:=let c:=F1 a.x0 b.x0;let d:=F1 a.y0 b.y0;let e:=E7 a.x1 b.x1;let f:=E7 a.y1 b.y1;let g:=R5 (R4.mk c d e f);let h:=(ag [li g.x0,li g.y0,li g.x1,li g.y1]);let i:=kM a b;Kd 142 [] [ag [li c,li d,li e,li f]] [] 3 h [] 0/\0=0/\4=4/\Le h (ag [li i.x0,li i.y0,li i.x1,li i.y1])/\True) (Vo) func140 n (by kernel_rfl) (by kernel_rfl) ?_
 with_reducible repeat' first|exact trivial|apply And.intro|apply HB.mk|intro _
 all_goals first|(with_reducible first|rfl|exact c7a ⟨_,_,_,_⟩ _)|exact Le.of rfl|exact Le.of rfl
def Xb:Cz:={
 ct:=fun _=>none
 wh:=[66]}
theorem a7y (x y:Int) (hx : -1000000<=x/\x<=1000000) (hy : -1000000<=y/\y<=1000000) (n:Nat):f4 prog 102 [ag [li x,li y]] [] n (ag [li (N9 x y).x0,li (N9 x y).y0,li (N9 x y).x1,li (N9 x y).y1]) [] 0:=by
 refine v6 (q:=let a:=N9 x y;IntKind.i64.wrap (8*x)=8*x/\IntKind.i64.wrap (8*y)=8*y/\IntKind.i64.wrap (8*x)=8*x/\IntKind.i64.wrap (8*x+8)=8*x+8/\IntKind.i64.wrap (8*y)=8*y/\IntKind.i64.wrap (8*y+8)=8*y+8/\0=0/\4=4/\Le (ag [li (8*x),li (8*y),li (8*x+8),li (8*y+8)]) (ag [li a.x0,li a.y0,li a.x1,li a.y1])/\True) (Xb) func102 n (by kernel_rfl) (by kernel_rfl) ?_
 with_reducible repeat' first|exact trivial|apply And.intro|apply HB.mk|intro _|rfl
 all_goals first|exact C2 _ (by omega) (by omega)|exact Le.of rfl|exact Le.of rfl
def Zv (a b:R4):Cz:={
 ct:=(fun f=>match f with
 |139=>a9a
 |142=>a6v
 |_=>none)
 nf:=[(8,bv (R7 a)),(10,bv (R7 b)),(13,ag [li (R5 b).x0,li (R5 b).y0,li (R5 b).x1,li (R5 b).y1])],wh:=[66]}
theorem c9y (a b:R4)  (n:Nat):f4 prog 101 [ag [li a.x0,li a.y0,li a.x1,li a.y1],ag [li b.x0,li b.y0,li b.x1,li b.y1]] [] n (ag [li (eM a b).x0,li (eM a b).y0,li (eM a b).x1,li (eM a b).y1]) [] 0:=by
 refine v6 (q:=let c:=[li a.x0,li a.y0,li a.x1,li a.y1];let d:=bv (R7 a);let e:=[ag [li b.x0,li b.y0,li b.x1,li b.y1]];let f:=bv (R7 b);let g:=(ag [li (R5 b).x0,li (R5 b).y0,li (R5 b).x1,li (R5 b).y1]);let h:=eM a b;let i:=(ag [li h.x0,li h.y0,li h.x1,li h.y1]);Kd 139 [] [ag c] [] 3 d [] 0/\Le d d/\Kd 139 [] e [] 3 f [] 0/\Le f f/\HB (R7 a) (Kd 142 [] e [] 3 g [] 0/\Le g g/\0=0/\4=4/\Le g i/\True) (HB (R7 b) (0=0/\4=4/\Le (ag c) i/\True) (0=0/\4=4/\Le (ag [li (E7 a.x0 b.x0),li (E7 a.y0 b.y0),li (F1 a.x1 b.x1),li (F1 a.y1 b.y1)]) i/\True))) (Zv a b) func101 n (by kernel_rfl) (by kernel_rfl) ?_
 with_reducible repeat' first|exact trivial|apply And.intro|apply HB.mk|intro _
 all_goals first|(with_reducible first|exact Le.refl _|rfl|exact Xf ⟨_,_,_,_⟩ _|exact c7a ⟨_,_,_,_⟩ _)|refine Le.of ?_;rw[b6t _ (by with_reducible assumption)];try rfl|refine Le.of ?_;rw[b6v (by with_reducible assumption) (by with_reducible assumption)];try rfl|refine Le.of ?_;rw[b6y (by with_reducible assumption) (by with_reducible assumption)];try rfl
def Wm:Cz:={
  ct:=fun _=>none
   }
theorem c8q (c:R4) (x y:Int)  (n:Nat):f4 prog 178 [ag [li c.x0,li c.y0,li c.x1,li c.y1],iv .i64 x,iv .i64 y] [] n (bv (N4 c x y)) [] 0:=by
 refine v6 (q:=let a:=c.x0<=x;let b:=x<c.x1;let d:=bif decide a then decide b else false;let e:=bif bif decide a then decide b else false then decide (c.y0<=y) else false;(decide a=true->decide a=true/\True)/\(decide a=true->decide a=true/\decide a=true/\True)/\(decide a=true->decide a=true)/\(d=true->d=true/\True)/\(d=true->d=true/\d=true/\True)/\(d=true->d=true)/\(e=true->e=true/\True)/\(e=true->e=true/\e=true/\True)/\(e=true->e=true)/\Le (bv (bif bif bif decide a then decide b else false then decide (c.y0<=y) else false then decide (y<c.y1) else false)) (bv (N4 c x y))/\True) (Wm) func178 n (by kernel_rfl) (by kernel_rfl) ?_
 with_reducible repeat' first|exact trivial|apply And.intro|apply HB.mk|intro _|assumption
 all_goals first|exact Le.bool rfl
end Ab
end
section
namespace Ab
attribute [local irreducible] j8
attribute [local irreducible] tl n8
theorem Mf {L:List EN} {k z:Nat} (hk:k<L.length) (e:z=k*8+7):SV.c (.l ((o4 L).getD z .u))=.c (.l (.v (.string (ea L k).blob))):=by
 subst e
 obtain ⟨m,hm⟩:=M1 L k hk
 rw[List.getD_eq_getElem?_getD,<-List.getElem?_drop,hm];rfl
theorem Pr {L:List EN} {k z:Nat} (hk:k<L.length) (e:z=k*8+6):SV.c (.l ((o4 L).getD z .u))=.c (.l (li (ea L k).sum)):=by
 subst e
 obtain ⟨m,hm⟩:=M1 L k hk
 rw[List.getD_eq_getElem?_getD,<-List.getElem?_drop,hm];rfl
theorem a5p {e:EN} (h:lS e=false):E0 e=qH e.blob/\C7 e=qC e.blob:=by
 unfold E0 C7 qH qC;rw[h];exact ⟨rfl,rfl⟩
theorem a5b (q:ByteArray) (h:q.size<=1000000000000000) (n:Nat):f4 prog 72 [.c (.l (.v (.string q)))] [] n (iv .u32 (z7 q)) [] 0:=of3 q (by omega) n
theorem gB {L:List EN} {k:Nat} (hG:x7 L) (hk:k<L.length):1<=(ea L k).blob.size/\(ea L k).blob.size<=1000000000000000:=by
 have:=hG.2 k hk;omega
theorem Fb {e:EN} {b:Bool} (h:lS e=b):(z7 e.blob != e.sum)=b:=(nT e).trans h
def b6x:Rw:=some fun _ _=>fun | [.c (.l (.v (.string q)))]=>some {v:=iv .u32 (z7 q)}|_=>none
def c6d:Rw:=some fun _ _=>fun | [.c (.l (.v (.string q)))]=>some {v:=.c (.agg (t5 (qC q) (qH q)))}|_=>none
def a0k (L:List EN) (d:Int) (k:Nat):Cz:={
 ct:=(fun f=>match f with
 |72=>b6x
 |138=>c6d
 |_=>none)
 sym:=[18,19,20,28,29,30,38,39,40],nf:=[(20,.c (.l (.v (.string (ea L k).blob)))),(22,iv .i64 (z7 (ea L k).blob)),(30,iv .i64 (ea L k).sum),(31,bv true)],wh:=[85]}
theorem d2g (L:List EN) (d:Int) (k:Nat) (hG:x7 L) (h0:0<=d) (hd:d<=1000000000) (hk:k<L.length) (hs:lS (ea L k)=true):f4 prog 96 [.c (.l (.p 0 0)),iv .i64 (k:Nat)] [(0,⟨[.o 1 L.length,li d],.t 91⟩),(1,⟨o4 L,.r 59 8 1⟩)] 2 (.c (.agg (t5 (C7 (ea L k)) (E0 (ea L k))))) [(0,⟨[.o 1 L.length,li (d+1)],.t 91⟩)] 0:=by
 refine E3 (q:=let a:=((k:Int));let b:=l9 ((ea L k).blob);let e:=z7 (ea L k).blob;let f:=(j9 [Leaf.o 1 L.length,li (d+1)] 91);IntKind.i64.wrap (d+1)=d+1/\t0 a L.length/\a.toNat*8+7<(o4 L).length/\Le (l4 ((o4 L).getD (a.toNat*8+7) Leaf.u)) (l4 b)/\Kd 72 [] [l4 b] [] 3 (iv .u32 e) [] 0/\Le (i8 (IntKind.i64.wrap e)) (i8 e)/\t0 a L.length/\a.toNat*8+6<(o4 L).length/\Le (l4 ((o4 L).getD (a.toNat*8+6) Leaf.u)) (i8 (ea L k).sum)/\Le (bv (z7 (ea L k).blob != (ea L k).sum)) (bv true)/\0=0/\258=258/\Le (ag (o7++[Leaf.v (Value.slice none 0 0),li 12])) (ag (t5 (C7 (ea L k)) (E0 (ea L k))))/\A5 (x8 2 0 []) f f/\True) (a0k L d k) [] func96 (D9 (g9 L) (by kernel_rfl)) (by kernel_rfl) ?_
 with_reducible repeat' first|exact trivial|apply And.intro|apply HB.mk|intro _
 all_goals first|(with_reducible first|rfl|exact a5b _ (gB hG hk).2 _)|refine Le.int ?_;rw[IntKind.wrap_i64];have:=G9 (ea L k).blob;omega|with_reducible exact Le.bool (Fb hs)|(exact ⟨by omega,by omega⟩)|rw[y6];omega|(with_reducible refine Le.of (Mf hk ?_))<;>omega|(with_reducible refine Le.of (Pr hk ?_))<;>omega|exact C2 _ (by omega) (by omega)|exact A5.of (by kernel_rfl)|refine Le.of ?_;rw[(qA hs).1,(qA hs).2];exact congrArg (fun l=>SV.c (.agg l)) (J5 12)
def a7p (L:List EN) (d:Int) (k:Nat):Cz:={
 ct:=(fun f=>match f with
 |72=>b6x
 |138=>c6d
 |_=>none)
 sym:=[18,19,20,28,29,30,38,39,40],nf:=[(20,.c (.l (.v (.string (ea L k).blob)))),(22,iv .i64 (z7 (ea L k).blob)),(30,iv .i64 (ea L k).sum),(31,bv false),(40,.c (.l (.v (.string (ea L k).blob))))],wh:=[85]}
theorem C96 (L:List EN) (d:Int) (k:Nat) (hG:x7 L) (h0:0<=d) (hd:d<=1000000000) (hk:k<L.length) (hs:lS (ea L k)=false):f4 prog 96 [.c (.l (.p 0 0)),iv .i64 (k:Nat)] [(0,⟨[.o 1 L.length,li d],.t 91⟩),(1,⟨o4 L,.r 59 8 1⟩)] 2 (.c (.agg (t5 (C7 (ea L k)) (E0 (ea L k))))) [(0,⟨[.o 1 L.length,li (d+1)],.t 91⟩)] 0:=by
 refine E3 (q:=let a:=((k:Int));let b:=l4 ((o4 L).getD (a.toNat*8+7) Leaf.u);let e:=l9 ((ea L k).blob);let f:=z7 (ea L k).blob;let g:=qC (ea L k).blob;let h:=qH (ea L k).blob;let i:=(j9 [Leaf.o 1 L.length,li (d+1)] 91);IntKind.i64.wrap (d+1)=d+1/\t0 a L.length/\a.toNat*8+7<(o4 L).length/\Le b (l4 e)/\Kd 72 [] [l4 e] [] 3 (iv .u32 f) [] 0/\Le (i8 (IntKind.i64.wrap f)) (i8 f)/\t0 a L.length/\a.toNat*8+6<(o4 L).length/\Le (l4 ((o4 L).getD (a.toNat*8+6) Leaf.u)) (i8 (ea L k).sum)/\Le (bv (z7 (ea L k).blob != (ea L k).sum)) (bv false)/\t0 a L.length/\a.toNat*8+7<(o4 L).length/\Le b (l4 e)/\Kd 138 [] [l4 e] [] 3 (ag (t5 g h)) [] 0/\0=0/\258=258/\Le (ag (tl g++[Leaf.v (Value.slice none 0 0),li h])) (ag (t5 (C7 (ea L k)) (E0 (ea L k))))/\A5 (x8 2 0 []) i i/\True) (a7p L d k) [] func96 (D9 (g9 L) (by kernel_rfl)) (by kernel_rfl) ?_
 with_reducible repeat' first|exact trivial|apply And.intro|apply HB.mk|intro _
 all_goals first|(with_reducible first|rfl|exact a5b _ (gB hG hk).2 _|exact Qx _ (gB hG hk).1 (gB hG hk).2 _)|refine Le.int ?_;rw[IntKind.wrap_i64];have:=G9 (ea L k).blob;omega|with_reducible exact Le.bool (Fb hs)|(exact ⟨by omega,by omega⟩)|rw[y6];omega|(with_reducible refine Le.of (Mf hk ?_))<;>omega|(with_reducible refine Le.of (Pr hk ?_))<;>omega|exact C2 _ (by omega) (by omega)|exact A5.of (by kernel_rfl)|refine Le.of ?_;rw[(a5p hs).1,(a5p hs).2];rfl
theorem aL (L:List EN) (d:Int) (k:Nat) (hG:x7 L) (h0:0<=d) (hd:d<=1000000000) (hk:k<L.length) (id i n:Nat) (h1:id<n) (h2:i<n) (h3:id≠i) :
  f4 prog 96 [.c (.l (.p id 0)),iv .i64 (k:Nat)] [(id,⟨[.o i L.length,li d],.t 91⟩),(i,⟨o4 L,.r 59 8 i⟩)] n (.c (.agg (t5 (C7 (ea L k)) (E0 (ea L k))))) [(id,⟨[.o i L.length,li (d+1)],.t 91⟩)] 0:=by
 cases hs:lS (ea L k) with
 |true=>
  have key:=j8.at2 (d2g L d k hG h0 hd hk hs) id i n h1 h2 h3
  simp only[List.map_cons,List.map_nil,n6.ren,SV.ren,Cp.ren,Leaf.ren,BT.ren,j5 o9,j5 (g9 _)] at key
  exact key
 |false=>
  have key:=j8.at2 (C96 L d k hG h0 hd hk hs) id i n h1 h2 h3
  simp only[List.map_cons,List.map_nil,n6.ren,SV.ren,Cp.ren,Leaf.ren,BT.ren,j5 o9,j5 (g9 _)] at key
  exact key
end Ab
end
end Go.Proofs.YtpdckpifhniioaaGreat
