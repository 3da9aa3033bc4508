/- Part 5 of what CodecOpens rests on. -/
import Derived.Lib.Builder
import Derived.Lib.UnsafeStr
import Derived.Lib.AppendStr
import Derived.Laws.Externs
import Derived.Deep.DeepCutAuto
import Derived.Test.YtpdckpifhniioaaGreatWd
open Go.Proofs.Tryz
set_option maxRecDepth 100000
set_option maxHeartbeats 8000000
set_option linter.unusedVariables false
set_option linter.unusedSimpArgs false
namespace Go.Proofs.YtpdckpifhniioaaGreat
open Go.RowKit
section
namespace Ab
theorem Gx:j6 prog 147:=fun args w=>by go_simp
theorem Ju:j6 prog 172:=fun args w=>by go_simp
theorem Il:j6 prog 173:=fun args w=>by go_simp
theorem Fj:∀l:List Nat,∀t:Nat->UInt8,nB (l.map fun i=>ub (t i))=some (l.map fun i=>sV (t i))
 |[],_=>rfl
 |i::l,t=>by
  simp only[List.map_cons,nB,Leaf.pl]
  rw[show K1 (Value.int .u8 ((t i).toNat:Nat))=true from rfl,Fj l t]
theorem Wg (t:Nat->UInt8):nB (tl t)=some (tv t):=Fj _ t
theorem a3v {xs:List Leaf} {ys:List Value} (h:nB xs=some ys):(Cp.agg xs).pl=some (.agg ys.toArray):=by simp only[Cp.pl,h]
theorem c5k (t:Nat->UInt8):(tv t).toArray=Prd.cf 256 t:=by unfold tv Prd.cf;rfl
theorem b0q (t:Nat->UInt8):(Cp.agg (tl t)).pl=some (.agg (Prd.cf 256 t)):=by rw[a3v (Wg t),c5k]
theorem c8a (n:Nat):f4 prog 147 [] [] n (iv .i64 6) [] 0:=
 B9 Gx (vals:=[]) (y:=.int .i64 6) rfl rfl n fun x=>(Prd.bL x).mono fun e x' h=>⟨h.1,h.2⟩
theorem c9h (s:ByteArray) (k:Int) (h0:0<=k) (hk:k<=65536) (hs:s.size<=1000000000000000) (n:Nat):f4 prog 172 [.c (.l (.v (.string s))),iv .i64 k] [] n (.tup [.l (.v (.string (Cod.gI s k.toNat).1)),.l (li (Cod.gI s k.toNat).2)]) [] 0:=
 B9 Ju (vals:=[.string s,.int .i64 k]) (y:=.tuple #[.string (Cod.gI s k.toNat).1,.int .i64 (Cod.gI s k.toNat).2]) rfl rfl n fun x=>by
  have e:(k.toNat:Int)=k:=by omega
  have:=Cod.O7 s k.toNat (by omega) hs x
  rw[e] at this
  exact this.mono fun e x' h=>⟨h.1,h.2⟩
theorem c7r (f:Nat->UInt8) (k:Int) (h0:0<=k) (hk:k<6) (n:Nat):f4 prog 173 [.c (.l (.v (.string (Prd.St f)))),iv .i64 k] [] n (.tup [.agg (tl (Prd.Bu (Prd.M.vN k.toNat f 256))),.l (li 0)]) [] 0:=
 B9 Il (vals:=[.string (Prd.St f),.int .i64 k]) (y:=.tuple #[.agg (Prd.cf 256 (Prd.Bu (Prd.M.vN k.toNat f 256))),.int .i64 0]) rfl (by
  unfold SV.pl
  simp only[Io]
  rw[b0q]
  rfl) n fun x=>by
  have e:(k.toNat:Int)=k:=by omega
  have:=Prd.wN f k.toNat (by omega) x
  rw[e] at this
  exact this.mono fun e x' h=>⟨h.1,h.2⟩
theorem Bl (k:Nat) (t:Nat->UInt8):(Prd.fw k t).size=256:=Prd.Ut k t
def De (t:Nat->UInt8):Nat->Nat×Nat
 |0=>(0,1073741824)
 |k+1=>bif decide ((Prd.M.Z8 (Prd.fw k t).data.toList:Nat)<(De t k).2) then (k,Prd.M.Z8 (Prd.fw k t).data.toList) else De t k
def G8 (t:Nat->UInt8):Nat:=(De t 6).1
def L3 (k:Nat) (t:Nat->UInt8):Int:=(Prd.M.Z8 (Prd.fw k t).data.toList:Nat)
theorem Ba (t:Nat->UInt8):∀k,0<k->(De t k).1<k
 |0,h=>by omega
 |k+1,_=>by
  rw[De]
  by_cases h:(Prd.M.Z8 (Prd.fw k t).data.toList:Nat)<(De t k).2
  ·rw[decide_eq_true h];exact Nat.lt_succ_self k
  ·rw[decide_eq_false h]
   rcases Nat.eq_zero_or_pos k with rfl|hk
   ·exact Nat.zero_lt_one
   ·exact Nat.lt_succ_of_lt (Ba t k hk)
theorem Ad (t:Nat->UInt8):G8 t<6:=Ba t 6 (by decide)
end Ab
end
section
namespace Ab
def B7 (l:List Leaf):Prop:=∀x∈l,∃v,x=.v v
theorem B7.nil:B7 []:=fun x h=>by cases h
theorem B7.cons {v:Value} {l:List Leaf} (h:B7 l):B7 (.v v::l):=fun x hx=>by
 cases hx with
 |head=>exact ⟨v,rfl⟩
 |tail _ hx=>exact h x hx
theorem B7.append {l m:List Leaf} (h:B7 l) (k:B7 m):B7 (l++m):=fun x hx=>by
 rcases List.mem_append.1 hx with hx|hx
 ·exact h x hx
 ·exact k x hx
theorem j3 (t:Nat->UInt8):B7 (tl t):=mY t
theorem i9 (l:List TA):B7 (n8 l):=rR l
section
variable {P:Program} {S:St} {l:List (Nat×Option Nat)} {n t id j:Nat}
theorem H8.sl_int {k:IntKind} {x y:Int} (h:S.sl t=iv k y) (e:y=x):H8 l n (S.sl t) (iv k x):=by
 rw[h,e];exact H8.of rfl
theorem H8.sl_o {m m':Nat} (h:S.sl t=.c (.l (.o j m))) (hr:ri l n j=some id) (e:m=m'):H8 l n (S.sl t) (.c (.l (.o id m'))):=by
 rw[h,e];exact H8.of (by simp[SV.rn,Cp.rn,Leaf.rn,hr])
theorem J7.sl_plain {cs:List Leaf} (h:S.sl t=.c (.agg cs)) (hp:B7 cs):J7 n (S.sl t) (.c (.agg cs)):=by
 rw[h];refine J7.of rfl ?_
 simp only[vL,SV.rn,Cp.rn,I0 _ cs hp,Option.isSome_some]
theorem J7.sl_o {m m':Nat} (h:S.sl t=.c (.l (.o id m))) (hi:Nat.blt id n=true) (e:m=m'):J7 n (S.sl t) (.c (.l (.o id m'))):=by
 rw[h,e];refine J7.of rfl ?_
 simp only[vL,SV.rn,Cp.rn,Leaf.rn,x8,hi,Option.isSome_some]
theorem v5.plain {cs cs':List Leaf} {b b':BT} (h:S.blk j=some ⟨cs,b⟩) (e:cs=cs') (hp:B7 cs') (hb:b.rn (ri l n)=some b'):v5 l n (S.blk j) ⟨cs',b'⟩:=by
 subst e
 rw[h];refine v5.of ?_
 unfold n6.rn
 simp only[I0 _ cs hp,hb]
theorem l6.plain {cs cs':List Leaf} {b:BT} (h:S.blk id=some ⟨cs,b⟩) (e:cs=cs') (hp:B7 cs') (hb:(b.rn (x8 n 0 [])).isSome=true):l6 n (S.blk id) ⟨cs',b⟩:=by
 subst e
 rw[h];refine l6.of rfl ?_
 unfold L4
 simp only[I0 _ cs hp,hb,Option.isSome_some,Bool.and_self]
theorem v5.blk {k k'' k':n6} (h:S.blk j=some k) (hr:k.rn (ri l n)=some k'') (e:k''=k'):v5 l n (S.blk j) k':=by
 rw[h];subst e;exact v5.of hr
theorem A5.plain {ρ:Nat->Option Nat} {cs cs':List Leaf} {b b':BT} (e:cs=cs') (hp:B7 cs') (hb:b.rn ρ=some b'):A5 ρ ⟨cs,b⟩ ⟨cs',b'⟩:=by
 subst e
 refine A5.of ?_
 unfold n6.rn
 simp only[I0 _ cs hp,hb]
theorem kD {cs:List Leaf} {b:BT} (hp:B7 cs) (hb:(b.rn (x8 n 0 [])).isSome=true):L4 n ⟨cs,b⟩=true:=by
 unfold L4
 simp only[I0 _ cs hp,hb,Option.isSome_some,Bool.and_self]
end
theorem RoundTo.toN {P:Program} {c:Code} {n:Nat} {K:Exit->St->Prop} (N:Nat) {E:List (Nat×SV)} {H:List (Nat×Option n6)} {m q:Nat} {W:List Nat} (S:St) (hn:n<=S.n) (hb:Jy ⟨E,H,N,m,W,q⟩ S=true) (hE:eD ⟨E,H,N,m,W,q⟩ S.n S.E) (hH:N0 ⟨E,H,N,m,W,q⟩ S.n S.H) (h:z4 P c S K):RoundTo P c n K ⟨E,H,N,m,W,q⟩:=RoundTo.to S hn hb hE hH h
theorem RoundTo.reN {P:Program} {c:Code} {n:Nat} {K:Exit->St->Prop} (N:Nat) {E:List (Nat×SV)} {H:List (Nat×Option n6)} {m q:Nat} {W:List Nat} (l:List (Nat×Option Nat)) (S:St) (hb:uS l ⟨E,H,N,m,W,q⟩ S=true) (hE:W4 l ⟨E,H,N,m,W,q⟩ S.n S.E) (hH:G0 l ⟨E,H,N,m,W,q⟩ S.n S.H) (h:z4 P c S K):RoundTo P c n K ⟨E,H,N,m,W,q⟩:=RoundTo.re l S hb hE hH h
theorem apB {P:Program} {e need bytes:Nat} (h:(P.info? e).map (·.bytes)=some bytes) (k:need*(bytes+1)<=140737488355328):fW P e need:=fun i hi=>by
 rw[hi] at h
 cases h
 exact k
def tb (t:Nat->UInt8) (m:Nat):List Leaf:=(List.range m).map fun i=>ub (t i)
theorem uT (t:Nat->UInt8) (m:Nat):(tb t m).length=m:=by simp[tb]
theorem Ce (t:Nat->UInt8) (m:Nat):G1 (tb t m):=fun x hx=>by
 simp only[tb,List.mem_map] at hx
 obtain ⟨i,_,rfl⟩:=hx
 exact ⟨_,rfl⟩
theorem I2 (t:Nat->UInt8) (m:Nat):B7 (tb t m):=fun x hx=>by
 obtain ⟨b,rfl⟩:=Ce t m x hx
 exact ⟨_,rfl⟩
theorem Kr (t:Nat->UInt8) (m:Nat):D4 (tb t m)=⟨((List.range m).map t).toArray⟩:=by
 unfold D4 tb
 congr 2
 rw[List.map_map]
 apply List.map_congr_left
 intro i _
 simp[lfB]
theorem Vf (t:Nat->UInt8) (m:Nat):tb t m++[ub (t m),ub (t (m+1)),ub (t (m+2)),ub (t (m+3))]=tb t (m+4):=by
 simp[tb,List.range_succ]
section
variable {S:St} {n i j:Nat} {l:List (Nat×Option Nat)} {cs:List Leaf} {b:BT}
theorem l6.p (hp:B7 cs) (h:(bif (b.rn (x8 n 0 [])).isSome then S.blk i else none)=some ⟨cs,b⟩):l6 n (S.blk i) ⟨cs,b⟩:=by
 cases e:(b.rn (x8 n 0 [])).isSome with
 |true=>rw[e] at h;exact l6.plain h rfl hp e
 |false=>rw[e] at h;cases h
theorem v5.p (hp:B7 cs) (h:((S.blk j).bind fun k=>(k.ty.rn (ri l n)).map fun b=>n6.mk k.cs b)=some ⟨cs,b⟩):v5 l n (S.blk j) ⟨cs,b⟩:=by
 cases e:S.blk j with
 |none=>rw[e] at h;cases h
 |some k=>
  rw[e] at h
  cases q:k.ty.rn (ri l n) with
  |none=>rw[show ((some k).bind fun k=>(k.ty.rn (ri l n)).map fun b=>n6.mk k.cs b)=(k.ty.rn (ri l n)).map fun b=>n6.mk k.cs b from rfl,q] at h;cases h
  |some b'=>
   rw[show ((some k).bind fun k=>(k.ty.rn (ri l n)).map fun b=>n6.mk k.cs b)=(k.ty.rn (ri l n)).map fun b=>n6.mk k.cs b from rfl,q] at h
   have h:=n6.mk.inj (Option.some.inj h)
   rw[<-e]
   exact v5.plain (cs:=k.cs) (b:=k.ty) (by rw[e]) h.1 hp (by rw[q,h.2])
theorem Eh (hp:B7 cs):L4 n ⟨cs,b⟩=L4 n ⟨[],b⟩:=by unfold L4;simp only[I0 _ cs hp,W5,Option.isSome_some]
theorem iB {c:Bool} {args:List SV} {G:List (Nat×n6)} {m:Nat} {wr:List (Nat×n6)} {nm:List Nat} (hp:B7 cs) (h:(Q8 args ((i,⟨[],b⟩)::G) n m wr nm&&c)=true):(Q8 args ((i,⟨cs,b⟩)::G) n m wr nm&&c)=true:=by
 rw[<-h]
 unfold Q8
 simp only[List.all_cons,Eh hp]
theorem D9 {c:Bool} {p:Nat×n6} {args:List SV} {G:List (Nat×n6)} {m:Nat} {wr:List (Nat×n6)} {nm:List Nat} (hp:B7 cs) (h:(Q8 args (p::(i,⟨[],b⟩)::G) n m wr nm&&c)=true):(Q8 args (p::(i,⟨cs,b⟩)::G) n m wr nm&&c)=true:=by
 rw[<-h]
 unfold Q8
 simp only[List.all_cons,Eh hp]
end
end Ab
end
section
namespace Ab
def L0 (t:Nat->UInt8):ByteArray:=⟨((List.range 256).map t).toArray⟩
theorem Fa (t:Nat->UInt8) (k:Nat):tb t (4*k)++[ub (t (4*k)),ub (t (4*k+1)),ub (t (4*k+2)),ub (t (4*k+3))]=tb t (4*(k+1)):=Vf t (4*k)
theorem eG (t:Nat->UInt8):(L0 t).size=256:=by unfold L0;simp[ByteArray.size]
end Ab
end
section
namespace Ab
def S6 (a b:Int):Int:=(2*a+b).tdiv (2*b)
def X1 (s s3:Int):Int:=bif S6 s3 64==0 then 0 else IntKind.u8.wrap (S6 s s3)
def sO (s3:Int):Int:=bif S6 s3 64==0 then 0 else IntKind.u8.wrap (S6 s3 64)
theorem Rv {a b:Int} (h0:0<=a) (h1:a<=1000000000) (b0:0<b) (b1:b<=1000000000):0<=S6 a b/\S6 a b<=2*a+b:=by
 unfold S6
 rw[Int.tdiv_eq_ediv_of_nonneg (by omega)]
 exact ⟨Int.ediv_nonneg (by omega) (by omega),Int.ediv_le_self _ (by omega)⟩
def a1y:Cz:={
  ct:=fun _=>none
   }
theorem Uu (a b:Int) (h0:0<=a) (h1:a<=1000000000) (b0:0<b) (b1:b<=1000000000) (n:Nat):f4 prog 158 [iv .i64 a,iv .i64 b] [] n (iv .i64 (S6 a b)) [] 0:=by
 refine v6 (q:=let c:=2*a+b;let d:=c.tdiv (2*b);IntKind.i64.wrap (2*a)=2*a/\IntKind.i64.wrap c=2*a+b/\IntKind.i64.wrap (2*b)=2*b/\2*b≠0/\IntKind.i64.wrap d=c.tdiv (2*b)/\Le (i8 d) (i8 (S6 a b))/\True) (a1y) func158 n (by kernel_rfl) (by kernel_rfl) ?_
 with_reducible repeat' first|exact trivial|apply And.intro|apply HB.mk|intro _
 all_goals first|have:=Rv h0 h1 b0 b1;unfold S6 at this;exact C2 _ (by omega) (by omega)|omega|exact Le.of rfl
theorem dY {e a:Int} (he:0<=e/\e<256) (ha:0<=a/\a<256):0<=e*a/\e*a<=65025:=
 ⟨Int.mul_nonneg he.1 ha.1,by
  have:=Int.mul_le_mul (show e<=255 by omega) (show a<=255 by omega) ha.1 (by omega:(0:Int)<=255)
  omega⟩
theorem u8w {a:Int} (h:0<=a/\a<256):IntKind.i64.wrap a=a:=by rw[IntKind.wrap_i64];omega
def a2a (a b d e:Int):Cz:={
 ct:=fun _=>none
 nf:=[(14,bv false),(16,iv .i64 1),(28,iv .i64 e),(29,iv .i64 e),(32,iv .i64 a),(35,iv .i64 b),(38,iv .i64 d)],un:=5}
theorem d0g (s0 s1 s2 s3 c:Int) (a b d e:Int) (h0:0<=s0/\s0<=1000000000) (h1:0<=s1/\s1<=1000000000) (h2:0<=s2/\s2<=1000000000) (h3:0<=s3/\s3<=1000000000) (h4:0<=c/\c<=1000000000) (ha:0<=a/\a<256) (hb:0<=b/\b<256) (hd:0<=d/\d<256) (he:0<=e/\e<256):f4 prog 117 [.c (.l (.p 0 0)),ag [u8 a,u8 b,u8 d,u8 e],iv .i64 1] [(0,⟨[li s0,li s1,li s2,li s3,li c],.t 167⟩)] 1 (.tup []) [(0,⟨[li (s0+e*a),li (s1+e*b),li (s2+e*d),li (s3+e*1),li (c+1)],.t 167⟩)] ([]:List Nat).length:=by
 have pa:=dY he ha
 have pb:=dY he hb
 have pd:=dY he hd
 have wa:=u8w ha
 have wb:=u8w hb
 have wd:=u8w hd
 have we:=u8w he
 refine E3 (q:=let f:=(j9 [li (s0+e*a),li (s1+e*b),li (s2+e*d),li (s3+e*1),li (c+1)] 167);(true=true->true=true/\True)/\(false=false->true=true)/\Le (bv (decide (1<1))) (bv false)/\Le (i8 (E7 1 65536)) (i8 1)/\IntKind.i64.wrap (c+1)=c+1/\Le (i8 (IntKind.i64.wrap e)) (i8 e)/\IntKind.i64.wrap (1*e)=1*e/\Le (i8 (1*e)) (i8 e)/\Le (i8 (IntKind.i64.wrap a)) (i8 a)/\Le (i8 (IntKind.i64.wrap b)) (i8 b)/\Le (i8 (IntKind.i64.wrap d)) (i8 d)/\IntKind.i64.wrap (e*a)=e*a/\IntKind.i64.wrap (s0+e*a)=s0+e*a/\IntKind.i64.wrap (0+1)=0+1/\IntKind.i64.wrap (e*b)=e*b/\IntKind.i64.wrap (s1+e*b)=s1+e*b/\IntKind.i64.wrap (0+1+1)=0+1+1/\IntKind.i64.wrap (e*d)=e*d/\IntKind.i64.wrap (s2+e*d)=s2+e*d/\IntKind.i64.wrap (0+1+1+1)=0+1+1+1/\IntKind.i64.wrap (e*1)=e*1/\IntKind.i64.wrap (s3+e*1)=s3+e*1/\IntKind.i64.wrap (0+1+1+1+1)=0+1+1+1+1/\Le (SV.tup []) (SV.tup [])/\A5 (x8 1 0 []) f f/\True) (a2a a b d e) [] func117 (by kernel_rfl) (by kernel_rfl) ?_
 with_reducible repeat' first|exact trivial|apply And.intro|apply HB.mk|intro _
 all_goals first|assumption|with_reducible exact Le.refl _|exact Le.of (by rw[‹IntKind.i64.wrap _=_›])|exact Le.int (Int.one_mul _)|exact Le.int rfl|exact C2 _ (by omega) (by omega)|exact Le.of rfl|exact A5.of rfl|simp only[*,Bool.and_self,Bool.not_false,Bool.not_true];done
def sG (id n:Nat):Nat->Nat
 |0=>id
 |k+1=>n+k
theorem f4.at1 {P:Program} {f:Nat} {args:List SV} {k:n6} {v:SV} {wr:List (Nat×n6)} {nw:Nat} (h:f4 P f args [(0,k)] 1 v wr nw) (id n:Nat) (hi:id<n) :
  f4 P f (args.map (SV.ren (sG id n))) [(id,k.ren (sG id n))] n (v.ren (sG id n)) (wr.map fun p=>(sG id n p.1,p.2.ren (sG id n))) nw:=
 f4.ren h (sG id n) n (fun i hi'=>by
  have:i=0:=by omega
  subst this;exact hi) (fun i hi'=>by
  cases i with
  |zero=>omega
  |succ k=>show n+k=n+(k+1-1);omega) (fun i j h1 h2 _=>by omega)
theorem c2q (s0 s1 s2 s3 c:Int) (a b d e:Int) (h0:0<=s0/\s0<=1000000000) (h1:0<=s1/\s1<=1000000000) (h2:0<=s2/\s2<=1000000000) (h3:0<=s3/\s3<=1000000000) (h4:0<=c/\c<=1000000000) (ha:0<=a/\a<256) (hb:0<=b/\b<256) (hd:0<=d/\d<256) (he:0<=e/\e<256) (id n:Nat) (hi:id<n):f4 prog 117 [.c (.l (.p id 0)),ag [u8 a,u8 b,u8 d,u8 e],iv .i64 1] [(id,⟨[li s0,li s1,li s2,li s3,li c],.t 167⟩)] n (.tup []) [(id,⟨[li (s0+e*a),li (s1+e*b),li (s2+e*d),li (s3+e*1),li (c+1)],.t 167⟩)] 0:=
 f4.at1 (d0g s0 s1 s2 s3 c a b d e h0 h1 h2 h3 h4 ha hb hd he) id n hi
end Ab
end
section
namespace Ab
def rw3:Rw:=some fun _ _=>fun | [.c (.l (.v (.int _ a))),.c (.l (.v (.int _ b)))]=>some {v:=iv .i64 (S6 a b)}|_=>none
def Hx:Cz:={
  ct:=(fun f=>match f with
  |158=>rw3
  | _ => none)
   }
theorem b0m (s0 s1 s2 s3:Int) (h0:0<=s0/\s0<=10000000) (h1:0<=s1/\s1<=10000000) (h2:0<=s2/\s2<=10000000) (h3:0<=s3/\s3<=10000000) (hp:0<s3):f4 prog 159 [iv .i64 0,.c (.l (.p 1 0))] [(1,⟨[.p 0 0],.t 206⟩),(0,⟨[li s0,li s1,li s2,li s3,li 64],.t 167⟩)] 3 (iv .u8 (IntKind.u8.wrap (S6 s0 s3))) [] 0:=by
 refine E3 (q:=let a:=iv .u8 (IntKind.u8.wrap (S6 s0 s3));Kd 158 [] [i8 s0,i8 s3] [] 3 (i8 (S6 s0 s3)) [] 0/\Le a a/\True) (Hx) [] func159 (by kernel_rfl) (by kernel_rfl) ?_
 with_reducible repeat' first|exact trivial|apply And.intro|apply HB.mk|intro _|exact Le.refl _
 all_goals first|(with_reducible refine Uu _ _ ?_ ?_ ?_ ?_ _)<;>omega
def He:Cz:={
  ct:=(fun f=>match f with
  |158=>rw3
  | _ => none)
   }
theorem a8f (s0 s1 s2 s3:Int) (h0:0<=s0/\s0<=10000000) (h1:0<=s1/\s1<=10000000) (h2:0<=s2/\s2<=10000000) (h3:0<=s3/\s3<=10000000) (hp:0<s3):f4 prog 159 [iv .i64 1,.c (.l (.p 1 0))] [(1,⟨[.p 0 0],.t 206⟩),(0,⟨[li s0,li s1,li s2,li s3,li 64],.t 167⟩)] 3 (iv .u8 (IntKind.u8.wrap (S6 s1 s3))) [] 0:=by
 refine E3 (q:=let a:=iv .u8 (IntKind.u8.wrap (S6 s1 s3));Kd 158 [] [i8 s1,i8 s3] [] 3 (i8 (S6 s1 s3)) [] 0/\Le a a/\True) (He) [] func159 (by kernel_rfl) (by kernel_rfl) ?_
 with_reducible repeat' first|exact trivial|apply And.intro|apply HB.mk|intro _|exact Le.refl _
 all_goals first|(with_reducible refine Uu _ _ ?_ ?_ ?_ ?_ _)<;>omega
def Jn:Cz:={
  ct:=(fun f=>match f with
  |158=>rw3
  | _ => none)
   }
theorem b1t (s0 s1 s2 s3:Int) (h0:0<=s0/\s0<=10000000) (h1:0<=s1/\s1<=10000000) (h2:0<=s2/\s2<=10000000) (h3:0<=s3/\s3<=10000000) (hp:0<s3):f4 prog 159 [iv .i64 2,.c (.l (.p 1 0))] [(1,⟨[.p 0 0],.t 206⟩),(0,⟨[li s0,li s1,li s2,li s3,li 64],.t 167⟩)] 3 (iv .u8 (IntKind.u8.wrap (S6 s2 s3))) [] 0:=by
 refine E3 (q:=let a:=iv .u8 (IntKind.u8.wrap (S6 s2 s3));Kd 158 [] [i8 s2,i8 s3] [] 3 (i8 (S6 s2 s3)) [] 0/\Le a a/\True) (Jn) [] func159 (by kernel_rfl) (by kernel_rfl) ?_
 with_reducible repeat' first|exact trivial|apply And.intro|apply HB.mk|intro _|exact Le.refl _
 all_goals first|(with_reducible refine Uu _ _ ?_ ?_ ?_ ?_ _)<;>omega
def c9c (S:St) (i:Int):SV:=match S.blk 0 with|some ⟨[.v (.int _ s0),.v (.int _ s1),.v (.int _ s2),.v (.int _ s3),_],_⟩=>iv .u8 (IntKind.u8.wrap (S6 (match i with|0=>s0|1=>s1|_=>s2) s3))|_=>.u
theorem El {s:Int} (h0:0<=s) (h:(S6 s 64==0)=false):0<s:=by
 rcases Int.lt_or_eq_of_le h0 with h1|h1
 ·exact h1
 ·subst h1;exact absurd h (by decide)
def a0e:Cz:={
 ct:=(fun f=>match f with
 |158=>rw3
 |159=>some fun _ _S=>fun | [.c (.l (.v (.int _ i))),.c (.l (.p 1 0))]=>some {v:=c9c _S i,rd:=[1,0]}|_=>none
 |_=>none)
 nf:=[(13,bv false)]}
theorem c8r (s0 s1 s2 s3:Int) (h0:0<=s0/\s0<=10000000) (h1:0<=s1/\s1<=10000000) (h2:0<=s2/\s2<=10000000) (h3:0<=s3/\s3<=10000000):f4 prog 118 [.c (.l (.p 0 0))] [(0,⟨[li s0,li s1,li s2,li s3,li 64],.t 167⟩)] 1 (ag [u8 (X1 s0 s3),u8 (X1 s1 s3),u8 (X1 s2 s3),u8 (sO s3)]) [] 0:=by
 have hpos:=El (s:=s3) h3.1
 refine E3 (q:=let a:=true=true->true=true/\True;let b:=(ag [l8 (X1 s0 s3),l8 (X1 s1 s3),l8 (X1 s2 s3),l8 (sO s3)]);let d:=[(1,j9 [Leaf.p 0 0] 206),(0,j9 [li s0,li s1,li s2,li s3,li 64] 167)];let e:=IntKind.u8.wrap (S6 s0 s3);let f:=IntKind.u8.wrap (S6 s1 s3);let g:=IntKind.u8.wrap (S6 s2 s3);a/\a/\a/\a/\(false=false->true=true)/\Le (bv false) (bv false)/\Kd 158 [] [i8 s3,i8 64] [] 3 (i8 (S6 s3 64)) [] 0/\HB (S6 s3 64==0) (Le (ag [l8 0,l8 0,l8 0,l8 0]) b/\True) (Kd 159 [] [i8 0,j7 1 0] d 3 (iv .u8 e) [] 0/\Kd 159 [] [i8 1,j7 1 0] d 3 (iv .u8 f) [] 0/\Kd 159 [] [i8 2,j7 1 0] d 3 (iv .u8 g) [] 0/\Le (ag [l8 e,l8 f,l8 g,l8 (IntKind.u8.wrap (S6 s3 64))]) b/\True)) (a0e) [] func118 (by kernel_rfl) (by kernel_rfl) ?_
 with_reducible repeat' first|exact trivial|apply And.intro|apply HB.mk|intro _
 all_goals first|assumption|(with_reducible refine Uu _ _ ?_ ?_ ?_ ?_ _)<;>omega|((with_reducible refine b0m _ _ _ _ ?_ ?_ ?_ ?_ ?_)<;>first|omega|exact hpos ‹_›)|((with_reducible refine a8f _ _ _ _ ?_ ?_ ?_ ?_ ?_)<;>first|omega|exact hpos ‹_›)|((with_reducible refine b1t _ _ _ _ ?_ ?_ ?_ ?_ ?_)<;>first|omega|exact hpos ‹_›)|refine Le.of ?_;unfold X1 sO;rw[‹(S6 s3 64==0)=true›];rfl|refine Le.of ?_;unfold X1 sO;rw[‹(S6 s3 64==0)=false›];rfl|exact Le.of rfl|simp only[*,Bool.and_self,Bool.not_false,Bool.not_true];done
theorem c3h (s0 s1 s2 s3:Int) (h0:0<=s0/\s0<=10000000) (h1:0<=s1/\s1<=10000000) (h2:0<=s2/\s2<=10000000) (h3:0<=s3/\s3<=10000000) (id n:Nat) (hi:id<n):f4 prog 118 [.c (.l (.p id 0))] [(id,⟨[li s0,li s1,li s2,li s3,li 64],.t 167⟩)] n (ag [u8 (X1 s0 s3),u8 (X1 s1 s3),u8 (X1 s2 s3),u8 (sO s3)]) [] 0:=
 f4.at1 (c8r s0 s1 s2 s3 h0 h1 h2 h3) id n hi
def ch (t:Nat->UInt8) (c k:Nat):Int:=match c with|0=>((t (4*k)).toNat:Nat)|1=>((t (4*k+1)).toNat:Nat)|2=>((t (4*k+2)).toNat:Nat)|_=>1
def mS (t:Nat->UInt8) (c:Nat):Nat->Int
 |0=>0
 |k+1=>mS t c k+((t (4*k+3)).toNat:Nat)*ch t c k
def bZ (t:Nat->UInt8):List Leaf:=[u8 (X1 (mS t 0 64) (mS t 3 64)),u8 (X1 (mS t 1 64) (mS t 3 64)),u8 (X1 (mS t 2 64) (mS t 3 64)),u8 (sO (mS t 3 64))]
def MBk (t:Nat->UInt8) (k:Nat):n6:=⟨[li (mS t 0 k),li (mS t 1 k),li (mS t 2 k),li (mS t 3 k),li (k:Nat)],.t 167⟩
def I52 (t:Nat->UInt8) (k:Nat):St:=⟨[(7,iv .i64 (k:Nat)),(6,.c (.agg (tl t))),(3,.c (.l (.p 2 0))),(2,.c (.l (.p 1 0))),(1,.c (.l (.p 0 0)))],[(0,some ⟨tl t,.t 38⟩),(1,some ⟨[u8 0,u8 0,u8 0,u8 0],.t 36⟩),(2,some (MBk t k))],3,14,[2,1,0],(0)⟩
def d0w (S:St) (i:Nat) (a b d e:Int):n6:=match S.blk i with|some ⟨[.v (.int _ s0),.v (.int _ s1),.v (.int _ s2),.v (.int _ s3),.v (.int _ c)],_⟩=>⟨[li (s0+e*a),li (s1+e*b),li (s2+e*d),li (s3+e*1),li (c+1)],.t 167⟩|_=>⟨[],.t 0⟩
def d2h (S:St) (i:Nat):SV:=match S.blk i with|some ⟨[.v (.int _ s0),.v (.int _ s1),.v (.int _ s2),.v (.int _ s3),_],_⟩=>ag [u8 (X1 s0 s3),u8 (X1 s1 s3),u8 (X1 s2 s3),u8 (sO s3)]|_=>.u
theorem c0y (t:Nat->UInt8) (c k:Nat):0<=ch t c k/\ch t c k<256:=by
 unfold ch
 split
 ·exact okb _
 ·exact okb _
 ·exact okb _
 ·omega
theorem Ro (t:Nat->UInt8) (c:Nat):∀k,0<=mS t c k/\mS t c k<=65025*(k:Nat)
 |0=>⟨Int.le_refl _,Int.le_refl _⟩
 |k+1=>by
  have h1:=Ro t c k
  have h2:=dY (okb (t (4*k+3))) (c0y t c k)
  rw[mS]
  omega
theorem c1b (t:Nat->UInt8) (c:Nat) {k:Nat} (h:k<=64):0<=mS t c k/\mS t c k<=10000000:=by
 have:=Ro t c k
 omega
theorem a4p (t:Nat->UInt8) (c:Nat) {k:Nat} (h:k<=64):0<=mS t c k/\mS t c k<=1000000000:=by
 have:=Ro t c k
 omega
def rw4:Rw:=some fun _ _S=>fun | [.c (.l (.p i _)),.c (.agg [.v (.int _ a),.v (.int _ b),.v (.int _ d),.v (.int _ e)]),.c (.l (.v (.int _ 1)))]=>some {v:=.tup [],rd:=[i],wr:=[(i,d0w _S i a b d e)]}|_=>none
def rw5:Rw:=some fun _ _S=>fun | [.c (.l (.p i _))]=>some {v:=d2h _S i,rd:=[i]}|_=>none
def a8i (t:Nat->UInt8) (k:Nat):Cz:={
 ct:=(fun f=>match f with
 |117=>rw4
 |118=>rw5
 |_=>none)
 sym:=[9],nf:=[(9,.c (.agg [ub (t (4*k)),ub (t (4*k+1)),ub (t (4*k+2)),ub (t (4*k+3))])),(10,.c (.agg [ub (t (4*k)),ub (t (4*k+1)),ub (t (4*k+2)),ub (t (4*k+3))]))]}
theorem R52 (t:Nat->UInt8) (k:Nat)  (K:Exit->St->Prop) (h:let a:=(Nat.cast ((t (4*k)).toNat):Int);let b:=(Nat.cast ((t (4*k+1)).toNat):Int);let d:=(Nat.cast ((t (4*k+2)).toNat):Int);let e:=(Nat.cast ((t (4*k+3)).toNat):Int);let f:=[l8 a,l8 b,l8 d,l8 e];let g:=[li (mS t 0 k),li (mS t 1 k),li (mS t 2 k),li (mS t 3 k),li (k:Int)];let i:=((k:Int)+1);let j:=[li (mS t 0 k+e*a),li (mS t 1 k+e*b),li (mS t 2 k+e*d),li (mS t 3 k+e*1),li i];let m:=(0,some (j9 (tl t) 38));let n:=(1,some (j9 [l8 0,l8 0,l8 0,l8 0] 36));HB (decide ((k:Int)<64)) (t0 ((k:Int)) 64/\Le (ag (List.take 4 (List.drop (((k:Int)).toNat*4) (tl t)))) (ag f)/\Le (ag f) (ag f)/\Kd 117 [] [j7 2 0,ag f,i8 1] [(2,j9 g 167)] 4 (SV.tup []) [(2,j9 j 167)] 0/\IntKind.i64.wrap i=(k:Int)+1/\RoundTo prog (gl 3 Tryz.f52) 3 (wkK 3 K) (St.mk [(1,j7 0 0),(2,j7 1 0),(3,j7 2 0),(6,ag (tl t)),(7,i8 i)] [m,n,(2,some (j9 j 167))] 4 14 [2,3,3,2,1,0] 0)) (wkK 3 K (Exit.exit 0) (St.mk [(1,j7 0 0),(2,j7 1 0),(3,j7 2 0),(6,ag (tl t)),(7,i8 (k:Int))] [m,n,(2,some (j9 g 167))] 3 14 [2,1,0] 0))):z4 prog (gl 3 Tryz.f52) (I52 t k) (wkK 3 K):=
 m5 [1,2,3,6,7] [0,1,2] (cx:=a8i t k) rfl (u3 (by kernel_rfl) h)
theorem L52 (t:Nat->UInt8)  : ∀(m k:Nat),64-k=m->k<=64->∀(K:Exit->St->Prop),K (.exit 0) (I52 t 64)->z4 prog (gl 3 Tryz.f52) (I52 t k) (wkK 3 K)
 |0,k,hm,hk,K,hK=>by
  have e:k=64:=by omega
  subst e
  refine R52 t _ K (HB.no (by omega) ?_)
  exact wkK.to (I52 t _) (Nat.le_refl _) (by kernel_rfl) (q7 (J7.k (by kernel_rfl)) (q7 (J7.sl_plain (by kernel_rfl) (j3 t)) (eD.k (by kernel_rfl)))) (d5 (l6.p (j3 t) (by kernel_rfl)) (N0.k (by kernel_rfl))) hK
 |m+1,k,hm,hk,K,hK=>by
  refine R52 t k K (HB.yes (by omega) ?_)
  have hlt:k<64:=by omega
  with_reducible repeat' first|exact trivial|apply And.intro|apply HB.mk|intro _|exact Le.refl _
  all_goals first|((with_reducible refine c2q _ _ _ _ _ _ _ _ _ ?_ ?_ ?_ ?_ ?_ ?_ ?_ ?_ ?_ _ _ ?_)<;>first|exact okb _|exact a4p t _ (Nat.le_of_lt hlt)|omega)|(exact ⟨by omega,by omega⟩)|exact Le.of (by rw[show (((k:Nat):Int)).toNat=k from rfl,cE _ hlt];rfl)|(with_reducible refine RoundTo.toN 4 (I52 t (k+1)) ?_ ?_ ?_ ?_ ?_);exact Nat.le_refl _;kernel_rfl;exact (q7 (J7.k (by kernel_rfl)) (q7 (J7.sl_plain (by kernel_rfl) (j3 t)) (eD.k (by kernel_rfl))));exact (d5 (l6.p (j3 t) (by kernel_rfl)) (N0.k (by kernel_rfl)));exact (L52 t  m (k+1) (by omega) (by omega) K hK)|exact C2 _ (by omega) (by omega)
def a9c (t:Nat->UInt8):Cz:={
 ct:=(fun f=>match f with
 |117=>rw4
 |118=>rw5
 |_=>none)
 nf:=[(6,.c (.agg (tl t)))],lp:=fun r=>match r with|3=>some (fun _ K=>K (.exit 0) (I52 t 64))|_=>none}
theorem C52 (t:Nat->UInt8)  (n:Nat):f4 prog 52 [.c (.agg (tl t))] [] n (ag (bZ t)) [] 0:=by
 refine v6 (q:=let a:=mS t 3 64;let b:=(ag [l8 (X1 (mS t 0 64) a),l8 (X1 (mS t 1 64) a),l8 (X1 (mS t 2 64) a),l8 (sO a)]);Le (ag (List.take 256 (tl t))) (ag (tl t))/\(l3 prog (gl 3 Tryz.f52) (St.mk [(7,i8 0),(6,ag (tl t)),(3,j7 2 0),(2,j7 1 0),(1,j7 0 0),(0,ag (tl t))] [(2,some (j9 [li 0,li 0,li 0,li 0,li 0] 167)),(1,some (j9 [l8 0,l8 0,l8 0,l8 0] 36)),(0,some (j9 (tl t) 38))] 3 14 [2,1,0] 0) fun K=>K (Exit.exit 0) (I52 t 64))/\Kd 118 [] [j7 2 0] [(2,j9 [li (mS t 0 64),li (mS t 1 64),li (mS t 2 64),li a,li (Nat.cast 64:Int)] 167)] 3 b [] 0/\Le b b/\True) (a9c t) func52 n (by kernel_rfl) (by kernel_rfl) ?_
 with_reducible repeat' first|exact trivial|apply And.intro|apply HB.mk|intro _|exact Le.refl _
 all_goals first|exact l3.mk (I52 t 0) rfl (by kernel_rfl) (q7 (J7.k (by kernel_rfl)) (q7 (J7.sl_plain (by kernel_rfl) (j3 t)) (eD.k (by kernel_rfl)))) (d5 (l6.p (j3 t) (by kernel_rfl)) (N0.k (by kernel_rfl))) (fun K hT=>L52 t  _ 0 rfl (by first|decide|omega) K hT)|exact Le.of (by rw[t7])|(refine c3h _ _ _ _ ?_ ?_ ?_ ?_ _ _ ?_<;>first|exact c1b t _ (Nat.le_refl _)|decide)
end Ab
end
section
namespace Ab
theorem sU (x:Int):0<=IntKind.u8.wrap x/\IntKind.u8.wrap x<256:=by rw[IntKind.wrap_u8];omega
theorem Db (s s3:Int):0<=X1 s s3/\X1 s s3<256:=by
 unfold X1
 cases S6 s3 64==0
 ·exact sU _
 ·exact ⟨Int.le_refl _,by show (0:Int)<256;decide⟩
theorem a6o (s3:Int):0<=sO s3/\sO s3<256:=by
 unfold sO
 cases S6 s3 64==0
 ·exact sU _
 ·exact ⟨Int.le_refl _,by show (0:Int)<256;decide⟩
theorem iM {x:Int} (h:0<=x/\x<256):u8 x=ub (C9 x):=by
 unfold C9
 have:((UInt8.ofNat x.toNat).toNat:Int)=x:=by
  rw[UInt8.toNat_ofNat']
  omega
 rw[show ub (UInt8.ofNat x.toNat)=u8 ((UInt8.ofNat x.toNat).toNat:Nat) from rfl,this]
def x9 (t:Nat->UInt8) (c:Nat):UInt8:=C9 (match c with|0=>X1 (mS t 0 64) (mS t 3 64)|1=>X1 (mS t 1 64) (mS t 3 64)|2=>X1 (mS t 2 64) (mS t 3 64)|_=>sO (mS t 3 64))
def V7 (t:Nat->UInt8):ByteArray:=⟨#[2,UInt8.ofNat (G8 t)]⟩++⟨(Cod.M.enc (Prd.fw (G8 t) t).data.toList).toArray⟩
def D1 (t:Nat->UInt8):ByteArray:=bif N2 t then ⟨#[0,t 0,t 1,t 2,t 3]⟩ else bif decide (((V7 t).size:Int)<257) then V7 t else ⟨#[1]⟩++L0 t
theorem oB (t:Nat->UInt8):bZ t=[ub (x9 t 0),ub (x9 t 1),ub (x9 t 2),ub (x9 t 3)]:=by
 unfold bZ
 rw[iM (Db _ _),iM (Db _ _),iM (Db _ _),iM (a6o _)]
 rfl
theorem P7 (l:List UInt8):strOf (l.map fun b=>((b.toNat:Nat):Int))=⟨l.toArray⟩:=by
 unfold strOf
 rw[List.map_map]
 congr 2
 rw[show ((fun b:Int=>UInt8.ofNat b.toNat)∘fun b:UInt8=>((b.toNat:Nat):Int))=id from funext fun b=>by simp]
 exact List.map_id l
theorem inb (b:UInt8):D8 ((b.toNat:Nat):Int):=okb b
theorem Sm (k:Nat) (t:Nat->UInt8):(⟨(Cod.M.enc (Prd.fw k t).data.toList).toArray⟩:ByteArray).size<=8196:=by
 have h:=Cod.M.b3m (Prd.fw k t).data.toList
 have e:(Prd.fw k t).data.toList.length=256:=by
  rw[Array.length_toList];exact Bl k t
 rw[e] at h
 simpa [ByteArray.size] using h
theorem Zo (t:Nat->UInt8):(V7 t).size<=8198:=by
 unfold V7
 rw[ByteArray.size_append]
 have:=Sm (G8 t) t
 have e:(⟨#[2,UInt8.ofNat (G8 t)]⟩:ByteArray).size=2:=rfl
 omega
theorem a1z {t:Nat->UInt8} (h:N2 t=true):(⟨#[0]⟩:ByteArray)++⟨#[t 0,t 1,t 2,t 3]⟩=D1 t:=by
 unfold D1;rw[h];rfl
theorem a2m {t:Nat->UInt8} (h:N2 t=false) (k:decide (((V7 t).size:Int)<257)=true):V7 t=D1 t:=by
 unfold D1;rw[h,k];rfl
theorem Ur {t:Nat->UInt8} (h:N2 t=false) (k:decide (((V7 t).size:Int)<257)=false):(⟨#[1]⟩:ByteArray)++L0 t=D1 t:=by
 unfold D1;rw[h,k];rfl
theorem Wl {t:Nat->UInt8} (h:N2 t=true):[ub (F4 t 0),ub (F4 t 1),ub (F4 t 2),ub (F4 t 3)]=[ub (t 0),ub (t 1),ub (t 2),ub (t 3)]:=by
 unfold F4;rw[if_pos h,if_pos h,if_pos h,if_pos h]
theorem c4l (t:Nat->UInt8):IntKind.u8.wrap ((G8 t:Nat):Int)=((UInt8.ofNat (G8 t)).toNat:Nat):=by
 have:=Ad t
 rw[IntKind.wrap_u8,UInt8.toNat_ofNat']
 omega
attribute [local irreducible] N2 V7 G8 D1 L0 tl m7 Prd.fw Cod.M.enc
end Ab
end
section
namespace Ab
theorem eW {P:Program} {fn:Func} {args:List SV} {H:List (Nat×n6)} {n:Nat} {v:SV} {wr:List (Nat×n6)} {nm:List Nat} {β:Bt} {x:World} (hck:Q8 args H n fn.ntmps wr nm=true)
  (hinj:∀i j b,β i=some b->β j=some b->i=j) (hlt:∀i b,β i=some b->b<x.heap.size) (hnone:∀id,n<=id->id<n+nm.length->β id=none/\β.c id=none) :
  ∀S' β' a' x',fin P fn.results.toList n v wr nm S'->Nx n S'.W (cut β n) x β' x'->Rep β' S' a' x'->
   a'.defers=[]/\∃y,(results fn a'.tmps).run P x'=.ok y x'/\∃y' β'',Ending.returned y=.returned y'/\Done n nm.length β x wr v y' β'' x':=by
 simp only[Q8,Bool.and_eq_true] at hck
 obtain ⟨c1,c2,c3,c4,c5,c6⟩:=hck
 intro S' β' a' x' hfin hN hR'
 unfold fin at hfin
 split at hfin
 ·rename_i v' hv'
  split at hfin
  ·rename_i v'' hv''
   obtain ⟨hle,hwr⟩:=hfin
   split at hwr
   ·rename_i hwck
    obtain ⟨y,hy,hyd⟩:=mZ hR' hv'
    obtain ⟨β₂,hβ₂⟩:∃g:Bt,g=⟨fun id=>if id<n then β id else if id<n+nm.length then (match nm[id-n]? with|some j=>β' j|none=>none) else β id,
     fun id=>if id<n then β.c id else if id<n+nm.length then (match nm[id-n]? with|some j=>β'.c j|none=>none) else β.c id⟩:=⟨_,rfl⟩
    refine ⟨hR'.defs,y,hy,y,β₂,rfl,?_⟩
    have b1:∀id,id<n->β₂ id=β id:=fun id hi=>by rw[hβ₂];exact if_pos hi
    have d1:∀id,id<n->β₂.c id=β.c id:=fun id hi=>by rw[hβ₂];exact if_pos hi
    have b2:∀q j,nm[q]? = some j->β₂ (n+q)=β' j:=fun q j hq=>by
     have hql:q<nm.length:=(List.getElem?_eq_some_iff.1 hq).1
     rw[hβ₂]
     show (if n+q<n then _ else _)=_
     rw[if_neg (by omega),if_pos (by omega),show n+q-n=q by omega,hq]
    have d2:∀q j,nm[q]? = some j->β₂.c (n+q)=β'.c j:=fun q j hq=>by
     have hql:q<nm.length:=(List.getElem?_eq_some_iff.1 hq).1
     rw[hβ₂]
     show (if n+q<n then _ else _)=_
     rw[if_neg (by omega),if_pos (by omega),show n+q-n=q by omega,hq]
    have b3:∀id,n+nm.length<=id->β₂ id=β id:=fun id hi=>by
     rw[hβ₂];show (if id<n then _ else _)=_;rw[if_neg (by omega),if_neg (by omega)]
    have d3:∀id,n+nm.length<=id->β₂.c id=β.c id:=fun id hi=>by
     rw[hβ₂];show (if id<n then _ else _)=_;rw[if_neg (by omega),if_neg (by omega)]
    have b4:∀id,id<n->β' id=β id:=fun id hi=>(hN.old id hi).trans (uL hi)
    have d4:∀id,id<n->β'.c id=β.c id:=fun id hi=>(hN.oldc id hi).trans (lH hi)
    have hnmge:∀q j,nm[q]? = some j->n<=j:=fun q j hq=>Nat.le_of_ble_eq_true ((List.all_eq_true.1 c5) j (List.mem_of_getElem? hq))
    have hnew:∀q j b,nm[q]? = some j->β' j=some b->x.heap.size<=b:=fun q j b hq hb=>by
     rcases hN.new j b hb with ⟨h1,_⟩|⟨_,h2|⟨i,h2,h3⟩⟩
     ·have:=hnmge q j hq;omega
     ·exact h2
     ·have:=(y8 h3).1;omega
        -- where a name of β₂ comes from
    have src:∀id b,β₂ id=some b->(β id=some b/\(id<n\/n+nm.length<=id))\/(∃q j,nm[q]? = some j/\id=n+q/\β' j=some b):=fun id b hb=>by
     by_cases h1:id<n
     ·rw[b1 id h1] at hb;exact .inl ⟨hb,.inl h1⟩
     ·by_cases h2:id<n+nm.length
      ·have hq:nm[id-n]? = some nm[id-n]:=List.getElem?_eq_getElem (by omega)
       have:=b2 (id-n) _ hq
       rw[show n+(id-n)=id by omega] at this
       rw[this] at hb
       exact .inr ⟨id-n,_,hq,by omega,hb⟩
      ·rw[b3 id (by omega)] at hb;exact .inl ⟨hb,.inr (by omega)⟩
    have hrn:RnTo (x8 n 0 nm) β' β₂:=⟨fun i j b hi hb=>by
     rcases Y4 hi with ⟨e,hl⟩|⟨q,hq,e⟩
     ·rw[e,b1 i hl,<-b4 i hl];exact hb
     ·rw[e,show n+(0+q)=n+q by omega,b2 q i hq];exact hb,fun i j b hi hb=>by
     rcases Y4 hi with ⟨e,hl⟩|⟨q,hq,e⟩
     ·rw[e,d1 i hl,<-d4 i hl];exact hb
     ·rw[e,show n+(0+q)=n+q by omega,d2 q i hq];exact hb⟩
    refine ⟨hle β₂ y (Fg hrn hv'' hyd),⟨fun id b hb=>?_,fun id b hb=>?_⟩,fun id b hb=>?_,fun id v hv=>?_,fun i j b hi hj=>?_,fun i b hb=>?_,hN.os,hN.tape,hN.output,hN.size,fun k hk hne=>?_,fun id b k hb hk=>?_⟩
    ·by_cases h1:id<n
     ·rw[b1 id h1];exact hb
     ·by_cases h2:id<n+nm.length
      ·rw[(hnone id (by omega) h2).1] at hb;cases hb
      ·rw[b3 id (by omega)];exact hb
    ·by_cases h1:id<n
     ·rw[d1 id h1];exact hb
     ·by_cases h2:id<n+nm.length
      ·rw[(hnone id (by omega) h2).2] at hb;cases hb
      ·rw[d3 id (by omega)];exact hb
    ·rcases src id b hb with ⟨h1,_⟩|⟨q,j,hq,e,hb'⟩
     ·exact .inl h1
     ·have hql:q<nm.length:=(List.getElem?_eq_some_iff.1 hq).1
      exact .inr ⟨by omega,by omega,hnew q j b hq hb'⟩
    ·by_cases h1:id<n
     ·rw[d1 id h1] at hv;exact .inl hv
     ·by_cases h2:id<n+nm.length
      ·exact .inr ⟨by omega,h2⟩
      ·rw[d3 id (by omega)] at hv;exact .inl hv
    ·rcases src i b hi with ⟨h1,_⟩|⟨q,j1,hq,e,hb'⟩
     ·rcases src j b hj with ⟨k1,_⟩|⟨q',j2,hq',e',hb''⟩
      ·exact hinj i j b h1 k1
      ·have:=hnew q' j2 b hq' hb'';have:=hlt i b h1;omega
     ·rcases src j b hj with ⟨k1,_⟩|⟨q',j2,hq',e',hb''⟩
      ·have:=hnew q j1 b hq hb';have:=hlt j b k1;omega
      ·have hjj:=hR'.inj j1 j2 b hb' hb''
       subst hjj
       have:=jD c6 hq hq'
       omega
    ·rcases src i b hb with ⟨h1,_⟩|⟨q,j,hq,e,hb'⟩
     ·exact Nat.lt_of_lt_of_le (hlt i b h1) hN.size
     ·exact (hR'.lt j b hb').1
    ·refine hN.keep k hk fun id hid=>⟨(y8 hid).1,fun hw=>?_⟩
     have:=(List.all_eq_true.1 hwck) id hw
     simp only[Bool.or_eq_true] at this
     rcases this with h1|h1
     ·have:=Nat.le_of_ble_eq_true h1;have:=(y8 hid).1;omega
     ·rw[hne id (y8 hid).2] at h1;cases h1
    ·obtain ⟨k',h1,h2⟩:=nS hwr hk
     have hidlt:id<n+nm.length:=Nat.le_of_ble_eq_true ((List.all_eq_true.1 c4) _ (M3 hk))
     have hb':β' (qT n nm id)=some b:=by
      unfold qT
      rcases src id b hb with ⟨q1,q2⟩|⟨q,j,hq,e,hb'⟩
      ·rcases q2 with q2|q2
       ·have:Nat.blt id n=true:=Nat.ble_eq_true_of_le q2
        rw[this];simp only;rw[b4 id q2];exact q1
       ·omega
      ·have:Nat.blt id n=false:=by
        cases hbb:Nat.blt id n with
        |false=>rfl
        |true=>have:=Nat.le_of_ble_eq_true hbb;omega
       rw[this];simp only
       rw[e,show n+q-n=q by omega,List.getD,hq]
       exact hb'
     exact h2 β' β₂ x' b hrn (hR'.blk _ b k' hb' h1)
   ·exact hwr.elim
  ·exact hfin.elim
 ·exact hfin.elim
theorem Qo {P:Program} {cx:Cz} (hm:P.follows .mixedOrders=true) (N1:Nat) {f:Nat} {fn:Func} {body:Code} (hf:P.funcs[f]? = some fn) (hb:fn.body=some body) (hent:j6 P f)
  {args:List SV} {H:List (Nat×n6)} {n:Nat} {v:SV} {wr:List (Nat×n6)} {nm nm2:List Nat} (hck:Q8 args H n fn.ntmps wr nm=true) (hck2:Q8 args H n fn.ntmps wr nm2=true) (hl:nm2.length=nm.length) (h:ev P cx body (Jz args H n fn.ntmps) fun e S=>match Nat.beq S.n N1 with|true=>Ch P fn.results.toList n v wr nm e S|false=>Ch P fn.results.toList n v wr nm2 e S):f4 P f args H n v wr nm.length:=by
 refine ⟨hent,fun β x vals hd hinj hlt hnone hH _=>?_⟩
 have hck0:=hck
 simp only[Q8,Bool.and_eq_true] at hck
 obtain ⟨c1,c2,c3,c4,c5,c6⟩:=hck
 have c1:=Nat.le_of_ble_eq_true c1
 have hd':=lO (iE (n:=n)) c2 hd
 have hdl:=hd.length
 have hR:Rep (cut β n) (Jz args H n fn.ntmps) {tmps:=vals.toArray++Array.replicate (fn.ntmps-vals.toArray.size) undef,defers:=[]} x:=by
  refine ⟨fun t=>?_,by simp[Jz];omega,rfl,fun id b k hb hk=>?_,fun i j b hi hj=>hinj i j b (y8 hi).2 (y8 hj).2,fun i b hb=>⟨hlt i b (y8 hb).2,(y8 hb).1⟩,fun i v hv=>(iD hv).1,Nat.le_refl _⟩
  ·show SV.den _ (match lk (zZ 0 args) t with|some v=>v|none=>.u) _
   cases hq:lk (zZ 0 args) t with
   |none=>trivial
   |some s=>
    obtain ⟨_,hs⟩:=uV hq
    obtain ⟨y,hy,hyd⟩:=hd'.get hs
    have hlt':t<vals.length:=(List.getElem?_eq_some_iff.1 hy).1
    have:Act.eval {tmps:=vals.toArray++Array.replicate (fn.ntmps-vals.toArray.size) undef,defers:=[]} (.tmp t)=y:=by
     show (vals.toArray++Array.replicate (fn.ntmps-vals.toArray.size) undef).getD t undef=y
     rw[Array.getD_eq_getD_getElem?,Array.getElem?_append_left (by simpa using hlt')]
     have hy':vals[t]? = some y:=by simpa using hy
     simp[hy']
    rw[this];exact hyd
  ·have hk':lk H id=some k:=by
    have:(Jz args H n fn.ntmps).blk id=match lk (H.map fun p=>(p.1,some p.2)) id with|some b=>b|none=>none:=rfl
    rw[this,iO] at hk
    cases hq:lk H id with
    |none=>rw[hq] at hk;cases hk
    |some k'=>rw[hq] at hk;exact hk
   exact iU ((List.all_eq_true.1 c3) _ (M3 hk')) (hH id b k (y8 hb).2 hk') iE
 refine calls_of_wp hf hb (wp_mono (I4 hm body _ _ h (cut β n) _ x hR) ?_)
 have hnone2:∀id,n<=id->id<n+nm2.length->β id=none/\β.c id=none:=fun id h1 h2=>hnone id h1 (by omega)
 rintro e a' x' ⟨S',β',hk,h1,_,h3,h4⟩
 split at hk
 ·cases e with
  |normal=>exact eW hck0 hinj hlt hnone S' β' a' x' hk h3 h4
  |ret=>exact eW hck0 hinj hlt hnone S' β' a' x' hk h3 h4
  |exit i=>exact hk.elim
  |goto i=>exact hk.elim
  |panic i=>exact hk.elim
  |outgrown=>exact hk.elim
 ·cases e with
  |normal=>have:=eW hck2 hinj hlt hnone2 S' β' a' x' hk h3 h4;rw[hl] at this;exact this
  |ret=>have:=eW hck2 hinj hlt hnone2 S' β' a' x' hk h3 h4;rw[hl] at this;exact this
  |exit i=>exact hk.elim
  |goto i=>exact hk.elim
  |panic i=>exact hk.elim
  |outgrown=>exact hk.elim
theorem RoundTo.reH {P:Program} {c:Code} {n:Nat} {K:Exit->St->Prop} (N k2:Nat) {h1:Nat×Option n6} {b2:Option n6} {E:List (Nat×SV)} {H:List (Nat×Option n6)} {m q:Nat} {W:List Nat} (l:List (Nat×Option Nat)) (S:St) (hb:uS l ⟨E,h1::(k2,b2)::H,N,m,W,q⟩ S=true) (hE:W4 l ⟨E,h1::(k2,b2)::H,N,m,W,q⟩ S.n S.E) (hH:G0 l ⟨E,h1::(k2,b2)::H,N,m,W,q⟩ S.n S.H) (h:z4 P c S K):RoundTo P c n K ⟨E,h1::(k2,b2)::H,N,m,W,q⟩:=RoundTo.re l S hb hE hH h
end Ab
end
section
namespace Oct
open Go.Lib (strCells)
theorem eJ:(prog.info? 5).map (fun i=>(i.zero,i.size,i.bytes))=some (some (.int .u8 0),1,1):=by kernel_rfl
theorem H9 {x:World} {B:Nat} {v:Value} {n:Nat} {xs:List Value} {g t:Nat} {c:Array Value} {fr:Nat×Nat} (h:x.ownsRow B 5 1 v n xs) (hg:x.heap[g]? = some (.cells c t fr)) (ht:t≠5):some g≠v.ownBlock:=by
 rcases h.2 with ⟨rfl,_⟩|⟨k,cap,cur,rfl,_,hk,_⟩
 ·simp[Value.ownBlock]
 ·intro e
  have e:g=k:=by simpa [Value.ownBlock] using e
  subst e
  rw[hg] at hk
  injection hk with hk
  injection hk with _ hk _
  exact ht hk
theorem G6 {x:World} {B:Nat} {e:TypeId} {v:Value} {n:Nat} {xs:List Value} (h:x.ownsRow B e 1 v n xs):∃o c,v=.slice o n c:=by
 rcases h.2 with ⟨rfl,h0⟩|⟨g,cap,cur,rfl,_⟩
 ·exact ⟨none,0,by rw[h0]⟩
 ·exact ⟨_,_,rfl⟩
theorem gN:(prog.info? 101).map (·.size)=some 2:=by kernel_rfl
theorem uD:liesAt prog prog.depth 101 (2 / prog.cellsOf 101) 0 101 1=true:=by kernel_rfl
theorem tQ (b:Nat) (v:Value) (w:World) (h:w.heap[b]? = some (.cells #[.pointer (some ⟨b,0,none⟩),v] 101 (0,0))) :
  Calls prog 110 #[.pointer (some ⟨b,0,none⟩)] w fun e w'=>e=.returned (.tuple #[])/\w'=w:=by
 obtain ⟨j,hj,_⟩:=Option.map_eq_some_iff.1 gN
 have h0:w.cell? ⟨b,0,none⟩=some (.pointer (some ⟨b,0,none⟩)):=by rw[Lib.cell_of_heap h];rfl
 go_enter func110,ntmps110
 go_wp2
 rw[Lib.run_neq_ptr_same w _ underlying99 hj]
 go_wp2
 refine bodyPost_end (results_none rfl _ _ _) rfl ⟨rfl,rfl⟩
theorem oO (b:Nat) (v:Value) (w:World) (h:w.heap[b]? = some (.cells #[.pointer none,v] 101 (0,0))) :
  Calls prog 110 #[.pointer (some ⟨b,0,none⟩)] w fun e w'=>e=.returned (.tuple #[])/\w'=w.setCell ⟨b,0,none⟩ (.pointer (some ⟨b,0,none⟩)):=by
 obtain ⟨j,hj,hjs⟩:=Option.map_eq_some_iff.1 gN
 have h0:w.cell? ⟨b,0,none⟩=some (.pointer none):=by rw[Lib.cell_of_heap h];rfl
 have hfz:w.frozen? ⟨b,0,none⟩=false:=Lib.frozen_of_heap h 0
 have hsh:w.shape? b=some (101,2):=by simp[World.shape?,h]
 clear h
 go_enter func110,ntmps110
 go_wp2
 rw[Lib.run_to_unsafe w ⟨b,0,none⟩ underlying99 underlying185 hj (by rw[hjs];decide) hsh (Nat.zero_lt_succ 1)]
 simp only[Result.andThen]
 rw[Oper.upon_value]
 go_wp2
 rw[run_callFunc_extern func145 (by kernel_rfl) (by kernel_rfl) (by kernel_rfl) (e:=Extern.AbiNoEscape.same) (by kernel_rfl)]
 rw[Lib.run_noEscape]
 simp only[Result.andThen]
 rw[Oper.upon_value]
 go_wp2
 rw[Lib.run_from_unsafe w ⟨b,0,none⟩ underlying185 underlying99 hj hsh uD]
 simp only[Result.andThen]
 rw[Oper.upon_value]
 go_wp2
 refine bodyPost_end (results_none rfl _ _ _) rfl ⟨rfl,rfl⟩
structure HB (b:Nat) (l:List UInt8) (w:World):Prop where
 ex:∃p v,w.heap[b]? = some (.cells #[p,v] 101 (0,0))/\(p=.pointer none\/p=.pointer (some ⟨b,0,none⟩))/\w.ownsRow (b+1) 5 1 v l.length (t4 l)/\(l=[]->v=.slice none 0 0)
def Kp (b:Nat) (w w':World):Prop:=∀k c t fr,w.heap[k]? = some (.cells c t fr)->t≠5->k≠b->w'.heap[k]? = w.heap[k]?
theorem mV (s:ByteArray):strCells s=t4 s.data.toList:=by
 rfl
theorem d1v (b:Nat) (l:List UInt8) (s:ByteArray) (w:World) (h:HB b l w) (hl:l.length+s.size<=100000000) :
  Calls prog 47 #[.pointer (some ⟨b,0,none⟩),.string s] w fun e w'=>e=.returned (.tuple #[.int .i64 s.size,.nilIface])/\HB b (l++s.data.toList) w'/\Below b w w'/\Kp b w w':=by
 obtain ⟨p,v,h1,h2,h3,h4⟩:=h.ex
 have hlt:b<w.heap.size:=(Array.getElem?_eq_some_iff.1 h1).1
 have hck:Calls prog 110 #[.pointer (some ⟨b,0,none⟩)] w fun e w'=>e=.returned (.tuple #[])/\w'.heap[b]? = some (.cells #[.pointer (some ⟨b,0,none⟩),v] 101 (0,0))/\w'.ownsRow (b+1) 5 1 v l.length (t4 l)/\Below b w w'/\b<w'.heap.size/\Kp b w w':=by
  rcases h2 with rfl|rfl
  ·refine (oO b v w h1).mono ?_
   rintro e w' ⟨rfl,rfl⟩
   refine ⟨rfl,?_,?_,(Below.refl b w).setCell (p:=⟨b,0,none⟩) (Nat.le_refl _) _,by simpa [World.setCell] using hlt,fun k c t fr hk ht hne=>heap_setCell_other _ _ _ _ hne⟩
   ·simp[World.setCell,Array.getElem?_modify,h1]
   ·refine h3.kept (row:=some b) ⟨rfl,rfl,rfl,by simp[World.setCell],fun k _ hk=>Below.heap_setCell _ _ _ _ (fun e=>hk (by simp[e]))⟩ (Or.inr ?_)
    exact (H9 h3 h1 (by decide)).symm
  ·refine (tQ b v w h1).mono ?_
   rintro e w' ⟨rfl,rfl⟩
   exact ⟨rfl,h1,h3,Below.refl b _,hlt,fun k c t fr hk ht hne=>rfl⟩
 have HC:=Lib.hid hck
 have HX:=Lib.hid h4
 clear hck h1 h2 h3 h h4
 obtain ⟨iu,hiu,hz1,hz2,hz3⟩:=info_parts eJ
 go_enter func47,ntmps47
 go_wp2_with fail
 refine HC.out.mono ?_
 rintro e W ⟨rfl,h1,h2,h3,h4,hkp⟩
 clear HC
 replace hkp:=Lib.hid hkp
 have c1:W.cell? ⟨b,1,none⟩=some v:=by rw[Lib.cell_of_heap h1];rfl
 replace h1:=Lib.hid h1
 replace h3:=Lib.hid h3
 have hml:l.length+s.size<=maxLen:=by unfold maxLen;omega
 go_wp2_with (at_builtin;go_loud (refine Lib.wpList_append_own_string _ rfl _ _ 57 9 rfl (b+1) 5 iu underlying57 underlying9 hiu hz1 hz2 hz3 _ _ _ rfl h2 s rfl hml (by omega) (by omega) ?_))
 intro v' W2 hown hgr hnil
 have hbl:Below (b+1) W W2:=(Below.refl (b+1) W).grown hgr (by omega) fun k hk=>(h2.lt k hk).1
 have h12:W2.heap[b]? = some (.cells #[.pointer (some ⟨b,0,none⟩),v] 101 (0,0)):=by rw[hbl.block b (by omega)];exact h1.out
 have d1:W2.cell? ⟨b,1,none⟩=some v:=by rw[Lib.cell_of_heap h12];rfl
 have f1:W2.frozen? ⟨b,1,none⟩=false:=Lib.frozen_of_heap h12 1
 obtain ⟨so,sc,hv⟩:=G6 hown
 have hlen:(l++s.data.toList).length=l.length+s.size:=by rw[List.length_append,Array.length_toList];rfl
 have HN:Hid (l++s.data.toList=[]->v'=.slice none 0 0):=Lib.hid fun e=>by
  have e1:l=[]:=(List.append_eq_nil_iff.1 e).1
  have e2:s.data.toList=[]:=(List.append_eq_nil_iff.1 e).2
  refine hnil.2 ⟨?_,?_⟩
  ·rcases h2.2 with ⟨hvv,_⟩|⟨g,cap,cur,hvv,q1,q2,q3,q4,q5,q6⟩
   ·exact hvv
   ·exact absurd (HX.out e1) (by rw[hvv];simp)
  ·have:=congrArg List.length e2;simpa using this
 subst hv
 have HB2:Hid (HB b (l++s.data.toList) (W2.setCell ⟨b,1,none⟩ (.slice so (l.length+s.size) sc))):=by
  refine Lib.hid ⟨_,.slice so (l.length+s.size) sc,?_,.inr rfl,?_,HN.out⟩
  ·simp[World.setCell,Array.getElem?_modify,h12]
  ·rw[C3,hlen,<-mV]
   refine hown.kept (row:=some b) ⟨rfl,rfl,rfl,by simp[World.setCell],fun k _ hk=>Below.heap_setCell _ _ _ _ (fun e=>hk (by simp[e]))⟩ (Or.inr ?_)
   exact (H9 hown h12 (by decide)).symm
 have HW:Hid (Below b w (W2.setCell ⟨b,1,none⟩ (.slice so (l.length+s.size) sc))):=by
  refine Lib.hid ((h3.out.trans ?_).setCell (p:=⟨b,1,none⟩) (Nat.le_refl _) _)
  exact ⟨hbl.os,hbl.tape,hbl.output,hbl.size,fun k hk=>hbl.block k (by omega)⟩
 have HK:Hid (Kp b w (W2.setCell ⟨b,1,none⟩ (.slice so (l.length+s.size) sc))):=by
  refine Lib.hid fun k c t fr hk ht hne=>?_
  have e1:=hkp.out k c t fr hk ht hne
  have hk1:W.heap[k]? = some (.cells c t fr):=e1.trans hk
  rw[heap_setCell_other _ _ _ _ hne,hgr.block k (Array.getElem?_eq_some_iff.1 hk1).1 (fun e=>H9 h2 hk1 ht e),e1]
 clear hown h12 hbl h1 h3 hgr hnil HN HX h2 hkp
 go_wp2
 go_ret2
 exact ⟨rfl,HB2.out,HW.out,HK.out⟩
structure HF (b:Nat) (l:List UInt8) (w:World):Prop where
 ex:∃p v,w.heap[b]? = some (.cells #[p,v] 101 (0,0))/\((l=[]/\v=.slice none 0 0)\/(l≠[]/\∃g cap cur fr,v=.slice (some ⟨g,0,none⟩) l.length cap/\b+1<=g/\w.heap[g]? = some (.cells cur 5 fr)/\l.length<=cap/\cap<=maxLen/\cur.size=cap/\cur.toList.take l.length=t4 l))
theorem HB.hf {b l w} (h:HB b l w):HF b l w:=by
 obtain ⟨p,v,h1,h2,h3,h4⟩:=h.ex
 refine ⟨p,v,h1,?_⟩
 by_cases h0:l=[]
 ·exact .inl ⟨h0,h4 h0⟩
 ·refine .inr ⟨h0,?_⟩
  rcases h3.2 with ⟨_,hz⟩|⟨g,cap,cur,r1,r2,r3,r4,r5,r6,r7⟩
  ·exact absurd (List.length_eq_zero_iff.1 hz) h0
  ·exact ⟨g,cap,cur,(0,0),r1,r2,r3,r4,r5,by omega,by simpa using r7⟩
theorem tZ:prog.cellsOf 5=1:=by kernel_rfl
theorem Z4 {w:World} {g n:Nat} {cur:Array Value} {t fr} (hg:w.heap[g]? = some (.cells cur t fr)):∃fr',(w.freeze ⟨g,0,none⟩ n).heap[g]? = some (.cells cur t fr'):=by
 unfold World.freeze
 split
 ·exact ⟨fr,hg⟩
 ·simp only[Array.getElem?_modify]
  simp[hg]
theorem R8 {w:World} {g n k:Nat} (h:k≠g):(w.freeze ⟨g,0,none⟩ n).heap[k]? = w.heap[k]?:=by
 unfold World.freeze
 split
 ·rfl
 ·simp only[Array.getElem?_modify]
  simp[Ne.symm h]
theorem fX (b:Nat) (l:List UInt8) (w:World) (h:HF b l w) :
  Calls prog 54 #[.pointer (some ⟨b,0,none⟩)] w fun e w'=>e=.returned (.string ⟨l.toArray⟩)/\HF b l w'/\Below (b+1) w w'/\Kp b w w':=by
 obtain ⟨p,v,h1,h2|⟨h0,g,cap,cur,fr,rfl,r2,r3,r4,r5,r6,r7⟩⟩:=h.ex
 ·obtain ⟨rfl,rfl⟩:=h2
  have hf:HF b [] w.drew:=⟨h.ex⟩
  have c1:w.drew.cell? ⟨b,1,none⟩=some (.slice none 0 0):=by
   have:w.drew.heap[b]? = some (.cells #[p,.slice none 0 0] 101 (0,0)):=h1
   rw[Lib.cell_of_heap this];rfl
  have hSD:(Builtin.unsafeSliceData_ #[57] 171 #[.slice none 0 0]).run prog w.drew=.ok (.pointer none) w.drew:=rfl
  have hUS:(Builtin.unsafeString_ #[171,3] 9 #[.pointer none,.int .i64 0]).run prog w.drew=.ok (.string .empty) w.drew:=Lib.run_unsafeString_none _ _ _ _ _
  clear h h1
  go_enter func54,ntmps54
  go_wp2
  go_region
  all_goals (go_wp2;go_ret;exact ⟨rfl,hf,Below.drew (Below.refl _ w),fun k c t fr hk ht hne=>rfl⟩)
 ·have hl:0<l.length:=by cases l with|nil=>exact absurd rfl h0|cons=>simp
  have c1:w.drew.cell? ⟨b,1,none⟩=some (.slice (some ⟨g,0,none⟩) l.length cap):=by
   have:w.drew.heap[b]? = some (.cells #[p,.slice (some ⟨g,0,none⟩) l.length cap] 101 (0,0)):=h1
   rw[Lib.cell_of_heap this];rfl
  have hSD:(Builtin.unsafeSliceData_ #[57] 171 #[.slice (some ⟨g,0,none⟩) l.length cap]).run prog w.drew=.ok (.pointer (some ⟨g,0,none⟩)) w.drew:=
   Lib.run_unsafeSliceData_row _ _ _ _ _ _ (by omega)
  have hUS:(Builtin.unsafeString_ #[171,3] 9 #[.pointer (some ⟨g,0,none⟩),.int .i64 l.length]).run prog w.drew=.ok (.string ⟨l.toArray⟩) (w.drew.freeze ⟨g,0,none⟩ l.length):=by
   refine Lib.run_unsafeString_row w.drew 171 3 9 5 underlying171 tZ g cur.size (by have hg':w.drew.heap[g]? = some (.cells cur 5 fr):=r3;simp[World.shape?,hg']) l h0 (by omega) (by unfold maxLen at r5;omega) ?_
   intro j x hx
   have hj:j<l.length:=(List.getElem?_eq_some_iff.1 hx).1
   have hg':w.drew.heap[g]? = some (.cells cur 5 fr):=r3
   have e:(⟨g,0,none⟩:Addr).add j=⟨g,j,none⟩:=by unfold Addr.add;split<;>simp_all
   rw[e,Lib.cell_of_heap hg']
   have h3:(cur.toList.take l.length)[j]? = some (.int .u8 x.toNat):=by rw[r7];simp[t4,hx]
   rw[List.getElem?_take,if_pos hj,Array.getElem?_toList] at h3
   exact h3
  have hf:HF b l (w.drew.freeze ⟨g,0,none⟩ l.length):=by
   obtain ⟨fr',h5⟩:=Z4 (w:=w.drew) (n:=l.length) r3
   refine ⟨p,_,?_,.inr ⟨h0,g,cap,cur,fr',rfl,r2,h5,r4,r5,r6,r7⟩⟩
   rw[R8 (by omega)];exact h1
  have HK:Hid (Kp b w (w.drew.freeze ⟨g,0,none⟩ l.length)):=Lib.hid fun k c t fr' hk ht hne=>by
   rw[R8 (fun e=>by subst e;rw[r3] at hk;injection hk with hk;injection hk with _ hk _;exact ht hk.symm)];rfl
  clear h h1 r3 r4 r5 r6 r7
  go_enter func54,ntmps54
  go_wp2
  go_region
  all_goals (go_wp2;go_ret;exact ⟨rfl,hf,Lib.below_freeze (Below.drew (Below.refl _ w)) (p:=⟨g,0,none⟩) r2 _,HK.out⟩)
end Oct
end
section
namespace Ab
theorem a9g {k:Nat} {v:n6} {i:Nat} {w:n6} (h:lk [(k,v)] i=some w):i=k/\w=v:=by
 have:=M3 h
 simp only[List.mem_singleton,Prod.mk.injEq] at this
 exact this
end Ab
end
section
namespace Ab
end Ab
end
section
namespace Ab
theorem j5 {σ:Nat->Nat}:∀ {l:List Leaf},B7 l->l.map (Leaf.ren σ)=l
 |[],_=>rfl
 |x::l,h=>by
  obtain ⟨v,rfl⟩:=h x (by simp)
  rw[List.map_cons,j5 (fun y hy=>h y (by simp[hy]))]
  rfl
def up2 (id bf n:Nat):Nat->Nat
 |0=>id
 |1=>bf
 |k+2=>n+k
theorem j8.at2 {P:Program} {f:Nat} {dc:List (Nat×Nat×Bool)} {args:List SV} {H:List (Nat×n6)} {v:SV} {wr:List (Nat×n6)} {nw:Nat} (h:j8 P f dc args H 2 v wr nw) (id bf n:Nat) (hi:id<n) (hb:bf<n) (hne:id≠bf) :
  j8 P f (dc.map fun p=>(up2 id bf n p.1,p.2)) (args.map (SV.ren (up2 id bf n))) (H.map fun p=>(up2 id bf n p.1,p.2.ren (up2 id bf n))) n (v.ren (up2 id bf n)) (wr.map fun p=>(up2 id bf n p.1,p.2.ren (up2 id bf n))) nw:=
 j8.ren h (up2 id bf n) n (fun i hi'=>by
  match i,hi' with
  |0,_=>exact hi
  |1,_=>exact hb) (fun i hi'=>by
  match i,hi' with
  |k+2,_=>show n+k=n+(k+2-2);omega) (fun i j h1 h2 e=>by
  match i,j,h1,h2,e with
  |0,0,_,_,_=>rfl
  |1,1,_,_,_=>rfl
  |0,1,_,_,e=>exact absurd e hne
  |1,0,_,_,e=>exact absurd e.symm hne)
theorem c8x (l:List TA) (hg:Good l) (id n:Nat) (hi:id<n):f4 prog 46 [.c (.agg [.o id l.length])] [(id,⟨n8 l,.r 42 258 id⟩)] n (bv true) [] 0:=by
 have key:=f4.at1 (C46 l hg) id n hi
 have e1:=j5 (σ:=sG id n) (i9 l)
 simp only[List.map_cons,List.map_nil,n6.ren,e1] at key
 exact key
theorem q8 (s:ByteArray):(A0 s).length=s.size:=by unfold A0;rw[List.length_map,Array.length_toList];rfl
theorem zJ (s:ByteArray):G1 (A0 s):=fun x hx=>by
 simp only[A0,List.mem_map] at hx
 obtain ⟨b,_,rfl⟩:=hx
 exact ⟨b,rfl⟩
theorem kI (s:ByteArray):D4 (A0 s)=s:=by
 unfold D4 A0
 rw[List.map_map]
 have:(lfB∘fun b:UInt8=>Leaf.v (.int .u8 (b.toNat:Int)))=id:=funext fun b=>by simp[lfB]
 rw[this,List.map_id]
def K9 (k m:Int):ByteArray:=⟨(Oct.M.be (Oct.sz m) (Oct.Q7 k)).toArray⟩
def sL (k:Int):ByteArray:=⟨(Oct.M.R2 (Oct.Q7 k)).toArray⟩
def z7 (s:ByteArray):Int:=(Oct.M.sum s.data.toList:Nat)
def yJ (s:ByteArray):ByteArray:=⟨(Oct.Fo s).toArray⟩
theorem kX (k m:Int):(K9 k m).size=Oct.sz m:=Oct.M.Y6 _ _
theorem sz2:Oct.sz 2=2:=rfl
theorem sz4:Oct.sz 4=4:=rfl
theorem uP (k:Int):(sL k).size<=10:=Oct.M.cA _ (Oct.eL _)
theorem Aa (t:Nat->UInt8):(D1 t).size<=257:=by
 unfold D1
 cases N2 t
 ·cases h:decide (((V7 t).size:Int)<257)
  ·show (⟨#[1]⟩++L0 t:ByteArray).size<=257
   rw[ByteArray.size_append,eG];exact Nat.le_refl _
  ·have:=of_decide_eq_true h
   show (V7 t).size<=257
   omega
 ·show 5<=257;decide
theorem Hm (t:Nat->UInt8):1<=(D1 t).size:=by
 unfold D1
 cases N2 t
 ·cases h:decide (((V7 t).size:Int)<257)
  ·show 1<=(⟨#[1]⟩++L0 t:ByteArray).size
   rw[ByteArray.size_append,eG];decide
  ·show 1<=(V7 t).size
   unfold V7
   rw[ByteArray.size_append]
   have e:(⟨#[2,UInt8.ofNat (G8 t)]⟩:ByteArray).size=2:=rfl
   omega
 ·show 1<=5;decide
theorem Dv (s:ByteArray) (h:s.size<=1000000000):(yJ s).size<=10+s.size:=by
 show (Oct.Fo s).length<=_
 unfold Oct.Fo
 rw[List.length_append,Array.length_toList]
 have:=Oct.M.cA s.size (by omega)
 exact Nat.add_le_add_right this _
theorem G9 (s:ByteArray):0<=z7 s/\z7 s<=4294967295:=by
 unfold z7 Oct.M.sum
 omega
theorem lL {l:List TA} (hg:Good l) {k:Nat} (hk:k<l.length) : -8192<=(r8 l k).X/\(r8 l k).X<=8191/\-8192<=(r8 l k).Y/\(r8 l k).Y<=8191:=of_decide_eq_true (hg.inn k hk)
attribute [local irreducible] N2 V7 G8 D1 L0 tl m7 Prd.fw Cod.M.enc x9 Oct.M.sum
theorem Ov:j6 prog 12:=fun args w=>by go_simp
end Ab
end
section
namespace Ab
theorem cQ {x n:Int} (h0:0<n) (h1:n<=1000000000):0<=(x.tmod n+n).tmod n/\(x.tmod n+n).tmod n<n/\-n<x.tmod n/\x.tmod n<n:=by
 have h2:=Int.tmod_lt_of_pos x h0
 have h3 : -n<x.tmod n:=by
  rcases Int.le_total 0 x with h|h
  ·have:=Int.tmod_nonneg n h;omega
  ·have:=Int.tmod_nonneg n (show 0<=-x by omega)
   have h4:=Int.tmod_lt_of_pos (-x) h0
   rw[Int.neg_tmod] at h4;omega
 have h4:0<=x.tmod n+n:=by omega
 exact ⟨Int.tmod_nonneg n h4,Int.tmod_lt_of_pos _ h0,h3,h2⟩
def o6 (x n:Int):Int:=(x.tmod n+n).tmod n
def b0i:Cz:={
  ct:=fun _=>none
   }
theorem Iu (x d:Int) (h0:0<d) (h1:d<=1000000000) (n:Nat):f4 prog 14 [iv .i64 x,iv .i64 d] [] n (iv .i64 (o6 x d)) [] 0:=by
 refine v6 (q:=d≠0/\IntKind.i64.wrap (x.tmod d+d)=x.tmod d+d/\d≠0/\Le (i8 ((x.tmod d+d).tmod d)) (i8 (o6 x d))/\True) (b0i) func14 n (by kernel_rfl) (by kernel_rfl) ?_
 with_reducible repeat' first|exact trivial|apply And.intro|apply HB.mk|intro _
 all_goals first|omega|have:=cQ (x:=x) h0 h1;exact C2 _ (by omega) (by omega)|exact Le.of rfl
def gR (x:Int) (c:Nat):UInt8:=C9 (match c with|0=>IntKind.u8.wrap (IntKind.u32.wrap x)|1=>IntKind.u8.wrap (IntKind.u32.wrap ((IntKind.u32.wrap x).tdiv 256))|2=>IntKind.u8.wrap (IntKind.u32.wrap ((IntKind.u32.wrap x).tdiv 65536))|_=>bif (IntKind.u32.wrap x).tmod 5==3 then 0 else bif (IntKind.u32.wrap x).tmod 5==1 then 255 else IntKind.u8.wrap (IntKind.u32.wrap ((IntKind.u32.wrap x).tdiv 16777216)))
def pxL (x:Int):List Leaf:=[ub (gR x 0),ub (gR x 1),ub (gR x 2),ub (gR x 3)]
theorem a1f (x:Int):ub (C9 (IntKind.u8.wrap x))=u8 (IntKind.u8.wrap x):=(iM (sU x)).symm
theorem Bz (x:Int) (w:Int) (h0:0<=w/\w<256) (h:w=bif (IntKind.u32.wrap x).tmod 5==3 then 0 else bif (IntKind.u32.wrap x).tmod 5==1 then 255 else IntKind.u8.wrap (IntKind.u32.wrap ((IntKind.u32.wrap x).tdiv 16777216))) :
  [u8 (IntKind.u8.wrap (IntKind.u32.wrap x)),u8 (IntKind.u8.wrap (IntKind.u32.wrap ((IntKind.u32.wrap x).tdiv 256))),u8 (IntKind.u8.wrap (IntKind.u32.wrap ((IntKind.u32.wrap x).tdiv 65536))),u8 w]=pxL x:=by
 unfold pxL gR
 simp only[a1f,<-h]
 rw[<-iM h0]
def Xd:Cz:={
  ct:=fun _=>none
   }
theorem d0e (x:Int)  (n:Nat):f4 prog 103 [iv .i64 x] [] n (ag (pxL x)) [] 0:=by
 refine v6 (q:=let a:=IntKind.u32.wrap x;let b:=IntKind.u8.wrap a;let c:=IntKind.u8.wrap (IntKind.u32.wrap (a.tdiv 256));let d:=IntKind.u8.wrap (IntKind.u32.wrap (a.tdiv 65536));let e:=(ag [l8 ((gR x 0).toNat:Int),l8 ((gR x 1).toNat:Int),l8 ((gR x 2).toNat:Int),l8 ((gR x 3).toNat:Int)]);let f:=(Le (ag [l8 b,l8 c,l8 d,l8 0]) e/\True);(256:Int)≠0/\(65536:Int)≠0/\(16777216:Int)≠0/\(5:Int)≠0/\HB (a.tmod 5==1) ((5:Int)≠0/\HB (a.tmod 5==3) f (Le (ag [l8 b,l8 c,l8 d,l8 255]) e/\True)) ((5:Int)≠0/\HB (a.tmod 5==3) f (Le (ag [l8 b,l8 c,l8 d,l8 (IntKind.u8.wrap (IntKind.u32.wrap (a.tdiv 16777216)))]) e/\True))) (Xd) func103 n (by kernel_rfl) (by kernel_rfl) ?_
 with_reducible repeat' first|exact trivial|apply And.intro|apply HB.mk|intro _
 all_goals first|refine Le.of (congrArg (fun l=>SV.c (.agg l)) (Bz x _ ⟨by decide,by decide⟩ ?_));rw[‹((IntKind.u32.wrap x).tmod 5==3)=true›];rfl|refine Le.of (congrArg (fun l=>SV.c (.agg l)) (Bz x _ ⟨by decide,by decide⟩ ?_));rw[‹((IntKind.u32.wrap x).tmod 5==3)=false›,‹((IntKind.u32.wrap x).tmod 5==1)=true›];rfl|refine Le.of (congrArg (fun l=>SV.c (.agg l)) (Bz x _ (sU _) ?_));rw[‹((IntKind.u32.wrap x).tmod 5==3)=false›,‹((IntKind.u32.wrap x).tmod 5==1)=false›];rfl|decide
def Zs:Cz:={
  ct:=fun _=>none
   }
theorem a1t (a b c e:Int)  (n:Nat):f4 prog 100 [ag [u8 a,u8 b,u8 c,u8 e]] [] n (ag [u8 (F5 e a),u8 (F5 e b),u8 (F5 e c),u8 (F5 e e)]) [] 0:=by
 refine v6 (q:=let d:=(ag [l8 (F5 e a),l8 (F5 e b),l8 (F5 e c),l8 (F5 e e)]);HB (e==0) (Le (ag [l8 0,l8 0,l8 0,l8 0]) d/\True) (Le (ag [l8 a,l8 b,l8 c,l8 e]) d/\True)) (Zs) func100 n (by kernel_rfl) (by kernel_rfl) ?_
 with_reducible repeat' first|exact trivial|apply And.intro|apply HB.mk|intro _
 all_goals first|rw[kH (by assumption),kH (by assumption),kH (by assumption),kH (by assumption)];exact Le.refl _|rw[kF (by assumption),kF (by assumption),kF (by assumption),kF (by assumption)];exact Le.refl _
def J8 (p:Nat) (s:List Int):List Leaf:=List.replicate p .u++s.map li
def xM (s:List Int) (o n i:Nat):Int:=s.getD (o+i*n / 64) 0
def yM (s:List Int) (o n i:Nat):Int:=bif aW .and .i64 (xM s o n i) 3==2 then IntKind.i64.wrap (xM s o n i+7919*i) else xM s o n i
def Ah (x:Int) (c:Nat):UInt8:=N7 (gR x 3) (gR x c)
def aR (s:List Int) (o n:Nat):Nat->UInt8:=fun i=>Ah (yM s o n (i / 4)) (i % 4)
def gY (x:Int):List Leaf:=[ub (Ah x 0),ub (Ah x 1),ub (Ah x 2),ub (Ah x 3)]
def I43 (p:Nat) (s:List Int) (o n:Nat) (k:Nat):St:=⟨[(4,iv .i64 (k:Nat)),(3,.c (.l (.p 2 0))),(2,.c (.l (.p 1 0))),(0,.c (.l (.s 0 (p+o) n)))],[(0,some ⟨J8 p s,.q⟩),(1,some ⟨tl zT,.t 38⟩),(2,some ⟨tl (C4 k (aR s o n) zT),.t 38⟩)],3,41,[2,1],(1)⟩
theorem Ev (b:Bool):(bif b then true else false)=b:=by cases b<;>rfl
theorem Gc (p:Nat) (s:List Int):(J8 p s).length=p+s.length:=by simp[J8]
theorem vW {α:Type} (p:Nat) (a d:α) (l:List α) (i:Nat):(List.replicate p a++l).getD (p+i) d=l.getD i d:=by
 simp[List.getD,List.getElem?_append_right]
theorem tU (p:Nat) (s:List Int) {i:Nat} (h:i<s.length):(J8 p s).getD (p+i) .u=li (s.getD i 0):=by
 unfold J8
 rw[vW]
 simp[List.getD,h]
theorem Ru (p:Nat) (s:List Int) {i:Nat} (h:i<s.length):(J8 p s).getD (p+i) .u≠.u:=by
 rw[tU p s h];exact fun h=>by cases h
def Tv (l:List Leaf):Prop:=(∀ρ,W5 ρ l=some l)/\∀σ,l.map (Leaf.ren σ)=l
theorem Tv.cons {x:Leaf} {l:List Leaf} (hx:∀ρ,x.rn ρ=some x) (hy:∀σ,x.ren σ=x) (h:Tv l):Tv (x::l):=
 ⟨fun ρ=>by rw[W5,hx ρ,h.1 ρ],fun σ=>by rw[List.map_cons,hy σ,h.2 σ]⟩
theorem Rr:∀s:List Int,Tv (s.map li)
 |[]=>⟨fun _=>rfl,fun _=>rfl⟩
 |x::s=>Tv.cons (fun _=>rfl) (fun _=>rfl) (Rr s)
theorem E9:∀(p:Nat) (s:List Int),Tv (J8 p s)
 |0,s=>Rr s
 |p+1,s=>Tv.cons (fun _=>rfl) (fun _=>rfl) (E9 p s)
section
variable {S:St} {l:List (Nat×Option Nat)} {n id j:Nat}
theorem v5.fix {cs cs':List Leaf} {b b':BT} (h:S.blk j=some ⟨cs,b⟩) (e:cs=cs') (hp:Tv cs') (hb:b.rn (ri l n)=some b'):v5 l n (S.blk j) ⟨cs',b'⟩:=by
 subst e
 rw[h];refine v5.of ?_
 unfold n6.rn
 simp only[hp.1,hb]
theorem l6.fix {cs cs':List Leaf} {b:BT} (h:S.blk id=some ⟨cs,b⟩) (e:cs=cs') (hp:Tv cs') (hb:(b.rn (x8 n 0 [])).isSome=true):l6 n (S.blk id) ⟨cs',b⟩:=by
 subst e
 rw[h];refine l6.of rfl ?_
 unfold L4
 simp only[hp.1,hb,Option.isSome_some,Bool.and_self]
theorem gW {cs:List Leaf} {b:BT} (hp:Tv cs) (hb:(b.rn (x8 n 0 [])).isSome=true):L4 n ⟨cs,b⟩=true:=by
 unfold L4
 simp only[hp.1,hb,Option.isSome_some,Bool.and_self]
end
theorem a9b (x:Int):[u8 (F5 ((gR x 3).toNat:Nat) ((gR x 0).toNat:Nat)),u8 (F5 ((gR x 3).toNat:Nat) ((gR x 1).toNat:Nat)),u8 (F5 ((gR x 3).toNat:Nat) ((gR x 2).toNat:Nat)),u8 (F5 ((gR x 3).toNat:Nat) ((gR x 3).toNat:Nat))]=gY x:=by
 unfold gY Ah
 rw[K4,K4,K4,K4]
theorem Rq (s:List Int) (o n k:Nat):gY (yM s o n k)=[ub (aR s o n (4*k)),ub (aR s o n (4*k+1)),ub (aR s o n (4*k+2)),ub (aR s o n (4*k+3))]:=by
 unfold aR gY
 rw[show 4*k / 4=k by omega,show (4*k+1) / 4=k by omega,show (4*k+2) / 4=k by omega,show (4*k+3) / 4=k by omega,show 4*k % 4=0 by omega,show (4*k+1) % 4=1 by omega,show (4*k+2) % 4=2 by omega,show (4*k+3) % 4=3 by omega]
theorem c8f {s:List Int} {o n k:Nat} (h:(aW .and .i64 (xM s o n k) 3==2)=false):yM s o n k=xM s o n k:=by unfold yM;rw[h];rfl
theorem c9f {s:List Int} {o n k:Nat} (h:(aW .and .i64 (xM s o n k) 3==2)=true):yM s o n k=IntKind.i64.wrap (xM s o n k+7919*k):=by unfold yM;rw[h];rfl
theorem b1b {s:List Int} {o n k:Nat} (hk:k<64) (h:(aW .and .i64 (xM s o n k) 3==2)=false):j4 (tl (C4 k (aR s o n) zT)) (0+k*4) (gY (xM s o n k))=tl (C4 (k+1) (aR s o n) zT):=by
 rw[Nat.zero_add,<-c8f h,Rq,M4 k _ _ hk]
theorem b1v {s:List Int} {o n k:Nat} (hk:k<64) (h:(aW .and .i64 (xM s o n k) 3==2)=true):j4 (j4 (tl (C4 k (aR s o n) zT)) (0+k*4) (gY (xM s o n k))) (0+k*4) (gY (IntKind.i64.wrap (xM s o n k+7919*k)))=tl (C4 (k+1) (aR s o n) zT):=by
 rw[Nat.zero_add,<-c9f h,Rq,<-M4 k _ _ hk]
 unfold gY
 rw[eO _ hk,eO _ hk,eO _ hk]
 refine J4 fun i hi=>?_
 unfold U2
 split
 ·rfl
 ·split
  ·rfl
  ·split
   ·rfl
   ·split
    ·rfl
    ·rfl
theorem uG {k n:Nat} (hk:k<64) (hn:0<n):k*n / 64<n:=by
 have:=Nat.mul_lt_mul_of_pos_right hk hn
 omega
theorem Fy (k n:Nat):((k:Int)*n).tdiv 64=((k*n / 64:Nat):Int):=by
 rw[Int.tdiv_eq_ediv_of_nonneg (by exact Int.mul_nonneg (by omega) (by omega))]
 rfl
attribute [local irreducible] gR Ah
def rw6:Rw:=some fun _ _=>fun | [.c (.agg [.v (.int _ a),.v (.int _ b),.v (.int _ c),.v (.int _ e)])]=>some {v:=ag [u8 (F5 e a),u8 (F5 e b),u8 (F5 e c),u8 (F5 e e)]}|_=>none
def rw7:Rw:=some fun _ _=>fun | [.c (.l (.v (.int _ x)))]=>some {v:=ag (pxL x)}|_=>none
def a9i (p:Nat) (s:List Int) (o n:Nat) (k:Nat):Cz:={
 ct:=(fun f=>match f with
 |100=>rw6
 |103=>rw7
 |_=>none)
 raw:=[36],sym:=[0,22,23,28,39],nf:=[(13,bv (decide (((k:Nat):Int)<64))),(21,iv .i64 ((k*n / 64:Nat):Nat)),(23,iv .i64 (xM s o n k)),(27,.c (.agg (gY (xM s o n k)))),(38,.c (.agg (gY (IntKind.i64.wrap (xM s o n k+7919*k)))))]}
theorem R43 (p:Nat) (s:List Int) (o n:Nat) (k:Nat)  (K:Exit->St->Prop) (h:let a:=((k:Int)<64);let b:=decide a=true->decide a=true/\True;let d:=((k:Int)*(n:Int));let e:=(Nat.cast ((k*n / 64)):Int);let f:=J8 p s;let g:=p+o+(e).toNat*1;let i:=xM s o n k;let j:=(Nat.cast ((gR i 0).toNat):Int);let m:=(Nat.cast ((gR i 1).toNat):Int);let r:=(Nat.cast ((gR i 2).toNat):Int);let w:=(Nat.cast ((gR i 3).toNat):Int);let x:=[l8 j,l8 m,l8 r,l8 w];let y:=(ag [l8 (F5 w j),l8 (F5 w m),l8 (F5 w r),l8 (F5 w w)]);let z:=[l8 (Nat.cast ((Ah i 0).toNat):Int),l8 (Nat.cast ((Ah i 1).toNat):Int),l8 (Nat.cast ((Ah i 2).toNat):Int),l8 (Nat.cast ((Ah i 3).toNat):Int)];let A:=((k:Int));let B:=(IntKind.i64.wrap (xM s o n k+7919*(k:Int)));let C:=(Nat.cast ((gR B 0).toNat):Int);let D:=(Nat.cast ((gR B 1).toNat):Int);let E:=(Nat.cast ((gR B 2).toNat):Int);let G:=(Nat.cast ((gR B 3).toNat):Int);let H:=[l8 C,l8 D,l8 E,l8 G];let I:=(ag [l8 (F5 G C),l8 (F5 G D),l8 (F5 G E),l8 (F5 G G)]);let J:=[l8 (Nat.cast ((Ah B 0).toNat):Int),l8 (Nat.cast ((Ah B 1).toNat):Int),l8 (Nat.cast ((Ah B 2).toNat):Int),l8 (Nat.cast ((Ah B 3).toNat):Int)];let L:=tl (C4 k (aR s o n) zT);let M:=0+A.toNat*4;let N:=j4 L M z;let O:=((k:Int)+1);let P:=(A2 3 (Tryz.f43.body.getD Code.skip)).getD Code.skip;let Q:=(0,l4 (Leaf.s 0 (p+o) n));let R:=[Q,(2,j7 1 0),(3,j7 2 0),(4,i8 O)];let T:=(0,some (n6.mk f BT.q));let U:=(1,some (j9 (tl zT) 38));b/\b/\(decide a=true->decide a=true)/\Le (bv (bif decide a then decide ((n:Int)>0) else false)) (bv (decide a))/\HB (decide a) (IntKind.i64.wrap d=(k:Int)*(n:Int)/\(64:Int)≠0/\IntKind.i64.wrap (d.tdiv 64)=d.tdiv 64/\Le (i8 (d.tdiv 64)) (i8 e)/\t0 (e) n/\p+o+(e).toNat*1<f.length/\f.getD g Leaf.u≠Leaf.u/\Le (l4 (f.getD g Leaf.u)) (i8 i)/\Kd 103 [] [i8 i] [] 3 (ag x) [] 0/\Kd 100 [] [ag x] [] 3 y [] 0/\Le y (ag z)/\t0 A 64/\0+A.toNat*4+4<=256/\HB (aW BinOp.and IntKind.i64 i 3==2) (IntKind.i64.wrap (7919*(k:Int))=7919*(k:Int)/\Kd 103 [] [i8 B] [] 3 (ag H) [] 0/\Kd 100 [] [ag H] [] 3 I [] 0/\Le I (ag J)/\t0 A 64/\0+A.toNat*4+4<=N.length/\IntKind.i64.wrap O=(k:Int)+1/\RoundTo prog P 3 (wkK 3 K) (St.mk R [T,U,(2,some (j9 (j4 N M J) 38))] 3 41 [2,2,2,1] 1)) (IntKind.i64.wrap O=(k:Int)+1/\RoundTo prog P 3 (wkK 3 K) (St.mk R [T,U,(2,some (j9 N 38))] 3 41 [2,2,1] 1))) (wkK 3 K (Exit.exit 0) (St.mk [Q,(2,j7 1 0),(3,j7 2 0),(4,i8 (k:Int))] [T,U,(2,some (j9 L 38))] 3 41 [2,1] 1))):z4 prog (gl 3 Tryz.f43) (I43 p s o n k) (wkK 3 K):=
 m5 [0,2,3,4] [0,1,2] (cx:=a9i p s o n k) rfl (u3 (by kernel_rfl) h)
theorem L43 (p:Nat) (s:List Int) (o n:Nat) (hn:0<n) (ho:o+n<=s.length) (hs:s.length<=20000000000000):∀(m k:Nat),64-k=m->k<=64->∀(K:Exit->St->Prop),K (.exit 0) (I43 p s o n 64)->z4 prog (gl 3 Tryz.f43) (I43 p s o n k) (wkK 3 K)
 |0,k,hm,hk,K,hK=>by
  have e:k=64:=by omega
  subst e
  refine R43 p s o n _ K ⟨fun h=>⟨h,trivial⟩,⟨fun h=>⟨h,trivial⟩,⟨fun h=>h,⟨(Le.bool (by rw[decide_eq_true (show ((n:Nat):Int)>0 by omega)];exact Ev _)),(HB.no (by omega) ?_)⟩⟩⟩⟩
  exact wkK.tk (I43 p s o n _) (by kernel_rfl) (d5 (l6.fix (cs:=J8 p s) (b:=.q) (by kernel_rfl) (rfl) (E9 p s) (by kernel_rfl)) (d5 (l6.p (j3 zT) (by kernel_rfl)) (d5 (l6.p (j3 _) (by kernel_rfl)) trivial))) hK
 |m+1,k,hm,hk,K,hK=>by
  refine R43 p s o n k K ⟨fun h=>⟨h,trivial⟩,⟨fun h=>⟨h,trivial⟩,⟨fun h=>h,⟨(Le.bool (by rw[decide_eq_true (show ((n:Nat):Int)>0 by omega)];exact Ev _)),(HB.yes (by omega) ?_)⟩⟩⟩⟩
  have hlt:k<64:=by omega
  have hkn:(k:Int)*n<=64*n:=Int.mul_le_mul_of_nonneg_right (by omega) (by omega)
  have hkn0:0<=(k:Int)*n:=Int.mul_nonneg (by omega) (by omega)
  have hd64:((k:Int)*n).tdiv 64=((k*n / 64:Nat):Int):=Fy k n
  have hib:=uG hlt hn
  with_reducible repeat' first|exact trivial|apply And.intro|apply HB.mk|intro _
  all_goals first|with_reducible exact a1t _ _ _ _ _|(exact ⟨by omega,by omega⟩)|exact C2 _ (by omega) (by omega)|exact Le.int (Fy k n)|rw[Gc,show (((k*n / 64:Nat):Nat):Int).toNat=k*n / 64 from rfl];have:=uG hlt hn;omega|rw[show (((k*n / 64:Nat):Nat):Int).toNat*1=k*n / 64 from Nat.mul_one _,Nat.add_assoc];exact Ru p s (by have:=uG hlt hn;omega)|refine Le.of ?_;rw[show (((k*n / 64:Nat):Nat):Int).toNat*1=k*n / 64 from Nat.mul_one _,Nat.add_assoc,tU p s (by have:=uG hlt hn;omega)];rfl|exact Le.of (congrArg (fun l=>SV.c (.agg l)) (a9b _))|rw[u4,B8];omega|exact d0e _ _|omega|have hcnd:(aW .and .i64 (xM s o n k) 3==2)=false:=(by with_reducible assumption);(with_reducible refine RoundTo.tk 3 (I43 p s o n (k+1)) ?_ ?_ ?_);kernel_rfl;exact (d5 (l6.fix (cs:=J8 p s) (b:=.q) (by kernel_rfl) (rfl) (E9 p s) (by kernel_rfl)) (d5 (l6.p (j3 zT) (by kernel_rfl)) (d5 (l6.plain (cs:=j4 (tl (C4 k (aR s o n) zT)) (0+k*4) (gY (xM s o n k))) (b:=.t 38) (by kernel_rfl) (b1b hlt hcnd) (j3 _) (by kernel_rfl)) trivial)));exact (L43 p s o n hn ho hs m (k+1) (by omega) (by omega) K hK)|have hcnd:(aW .and .i64 (xM s o n k) 3==2)=true:=(by with_reducible assumption);(with_reducible refine RoundTo.tk 3 (I43 p s o n (k+1)) ?_ ?_ ?_);kernel_rfl;exact (d5 (l6.fix (cs:=J8 p s) (b:=.q) (by kernel_rfl) (rfl) (E9 p s) (by kernel_rfl)) (d5 (l6.p (j3 zT) (by kernel_rfl)) (d5 (l6.plain (cs:=j4 (j4 (tl (C4 k (aR s o n) zT)) (0+k*4) (gY (xM s o n k))) (0+k*4) (gY (IntKind.i64.wrap (xM s o n k+7919*k)))) (b:=.t 38) (by kernel_rfl) (b1v hlt hcnd) (j3 _) (by kernel_rfl)) trivial)));exact (L43 p s o n hn ho hs m (k+1) (by omega) (by omega) K hK)|exact C2 _ (by omega) (by omega)
theorem Ks:j6 prog 43:=fun args w=>by go_simp
def a8y (p:Nat) (s:List Int) (o y:Nat):Cz:={
 ct:=(fun f=>match f with
 |100=>rw6
 |103=>rw7
 |_=>none)
 nf:=[(40,.c (.agg (tl (aR s o y))))],lp:=fun r=>match r with|3=>some (fun _ K=>K (.exit 0) (I43 p s o y 64))|_=>none,wh:=[38]}
theorem C43 (p:Nat) (s:List Int) (o y:Nat) (hn:0<y) (ho:o+y<=s.length) (hs:s.length<=20000000000000):f4 prog 43 [.c (.l (.s 0 (p+o) y))] [(0,⟨J8 p s,.q⟩)] 1 (.c (.agg (tl (aR s o y)))) [] 0:=by
 refine lY (cx:=a8y p s o y) (nm:=[]) rfl func43 (body:=Tryz.f43.body.getD .skip) rfl Ks (by unfold Q8;simp only[List.all_cons,List.all_nil,gW (E9 p s) (show (BT.rn (x8 1 0 []) (.q)).isSome=true from rfl),Bool.and_true,Bool.true_and];kernel_rfl) ?_
 apply u3 (q:=let a:=(2,some (j9 o7 38));let b:=ag (tl (aR s o y));0=0/\256=256/\(l3 prog (gl 3 Tryz.f43) (St.mk [(4,i8 0),(3,j7 2 0),(6,ag o7),(2,j7 1 0),(0,l4 (Leaf.s 0 (p+o) y))] [a,a,(1,some (j9 o7 38)),(0,some (n6.mk (J8 p s) BT.q))] 3 41 [2,2,1] 1) fun K=>K (Exit.exit 0) (I43 p s o y 64))/\Le (ag (List.take 256 (tl (C4 64 (aR s o y) zT)))) b/\0=0/\256=256/\Le b b/\True) (by kernel_rfl)
 with_reducible repeat' first|exact trivial|apply And.intro|apply HB.mk|intro _|rfl
 all_goals first|exact l3.tk (I43 p s o y 0) (by kernel_rfl) (d5 (l6.fix (cs:=J8 p s) (b:=.q) (by kernel_rfl) (rfl) (E9 p s) (by kernel_rfl)) (d5 (l6.p (j3 zT) (by kernel_rfl)) (d5 (l6.plain (cs:=tl zT) (b:=.t 38) (by kernel_rfl) (by rw[L7]) (j3 _) (by kernel_rfl)) trivial))) (fun K hT=>L43 p s o y hn ho hs _ 0 rfl (by decide) K hT)|refine Le.of ?_;rw[T7,t7]|exact Le.of (by kernel_rfl)
theorem d1o (p:Nat) (s:List Int) (o y:Nat) (hn:0<y) (ho:o+y<=s.length) (hs:s.length<=20000000000000) (id n:Nat) (hi:id<n):f4 prog 43 [.c (.l (.s id (p+o) y))] [(id,⟨J8 p s,.q⟩)] n (.c (.agg (tl (aR s o y)))) [] 0:=by
 have key:=f4.at1 (C43 p s o y hn ho hs) id n hi
 have e1:=(E9 p s).2 (sG id n)
 have e2:=j5 (σ:=sG id n) (j3 (aR s o y))
 simp only[List.map_cons,List.map_nil,n6.ren,BT.ren,SV.ren,Cp.ren,Leaf.ren,e1,e2] at key
 exact key
end Ab
end
section
namespace Ab
def xS (t:Nat->UInt8) (k:Nat):St:=⟨[(3,iv .i64 (k:Nat)),(1,.c (.l (.p 0 0))),(2,.c (.l (.p 1 0)))],[(0,some ⟨tl (C4 k (m8 t) t),.t 38⟩),(1,some ⟨tl zT,.t 38⟩)],2,15,[1,0],(0)⟩
theorem Yr (t:Nat->UInt8) {k:Nat} (hk:k<64):List.take 4 (List.drop (0+k*4) (tl (C4 k (m8 t) t)))=[ub (t (4*k)),ub (t (4*k+1)),ub (t (4*k+2)),ub (t (4*k+3))]:=by
 rw[Nat.zero_add,cE _ hk]
 unfold px C4
 rw[if_neg (by omega),if_neg (by omega),if_neg (by omega),if_neg (by omega)]
def rw8:Rw:=some fun _ _=>fun | [.c (.agg [.v (.int _ a),.v (.int _ b),.v (.int _ c),.v (.int _ e)])]=>some {v:=ag [u8 (F5 e a),u8 (F5 e b),u8 (F5 e c),u8 (F5 e e)]}|_=>none
def a1e (t:Nat->UInt8) (k:Nat):Cz:={
 ct:=(fun f=>match f with
 |100=>rw8
 |_=>none)
 sym:=[0,10,11,13],nf:=[(11,.c (.agg [ub (t (4*k)),ub (t (4*k+1)),ub (t (4*k+2)),ub (t (4*k+3))])),(12,.c (.agg [ub ((m8 t) (4*k)),ub ((m8 t) (4*k+1)),ub ((m8 t) (4*k+2)),ub ((m8 t) (4*k+3))]))]}
theorem b6s (t:Nat->UInt8) (k:Nat)  (K:Exit->St->Prop) (h:let a:=((k:Int));let b:=0+a.toNat*4;let d:=tl (C4 k (m8 t) t);let e:=(Nat.cast ((t (4*k)).toNat):Int);let f:=(Nat.cast ((t (4*k+1)).toNat):Int);let g:=(Nat.cast ((t (4*k+2)).toNat):Int);let i:=(Nat.cast ((t (4*k+3)).toNat):Int);let j:=[l8 e,l8 f,l8 g,l8 i];let m:=(ag [l8 (F5 i e),l8 (F5 i f),l8 (F5 i g),l8 (F5 i i)]);let n:=[l8 (Nat.cast ((m8 t (4*k)).toNat):Int),l8 (Nat.cast ((m8 t (4*k+1)).toNat):Int),l8 (Nat.cast ((m8 t (4*k+2)).toNat):Int),l8 (Nat.cast ((m8 t (4*k+3)).toNat):Int)];let o:=(1,some (j9 (tl zT) 38));HB (decide ((k:Int)<64)) (t0 a 64/\0+a.toNat*4+4<=256/\Le (ag (List.take 4 (List.drop b d))) (ag j)/\Kd 100 [] [ag j] [] 2 m [] 0/\Le m (ag n)/\t0 a 64/\0+a.toNat*4+4<=256/\IntKind.i64.wrap ((k:Int)+1)=(k:Int)+1/\RoundTo prog (gl 2 Tryz.f122) 2 (wkK 2 K) (St.mk [(1,j7 0 0),(2,j7 1 0),(3,i8 ((k:Int)+1))] [(0,some (j9 (j4 d b n) 38)),o] 2 15 [0,1,0] 0)) (wkK 2 K (Exit.exit 0) (St.mk [(1,j7 0 0),(2,j7 1 0),(3,i8 (k:Int))] [(0,some (j9 d 38)),o] 2 15 [1,0] 0))):z4 prog (gl 2 Tryz.f122) (xS t k) (wkK 2 K):=
 m5 [1,2,3] [0,1] (cx:=a1e t k) rfl (u3 (by kernel_rfl) h)
theorem c6a (t:Nat->UInt8)  : ∀(m k:Nat),64-k=m->k<=64->∀(K:Exit->St->Prop),K (.exit 0) (xS t 64)->z4 prog (gl 2 Tryz.f122) (xS t k) (wkK 2 K)
 |0,k,hm,hk,K,hK=>by
  have e:k=64:=by omega
  subst e
  refine b6s t _ K (HB.no (by omega) ?_)
  exact wkK.tk (xS t _) (by kernel_rfl) (d5 (l6.p (j3 _) (by kernel_rfl)) (d5 (l6.p (j3 _) (by kernel_rfl)) trivial)) hK
 |m+1,k,hm,hk,K,hK=>by
  refine b6s t k K (HB.yes (by omega) ?_)
  have hlt:k<64:=by omega
  with_reducible repeat' first|exact trivial|apply And.intro|apply HB.mk|intro _
  all_goals first|with_reducible exact a1t _ _ _ _ _|(exact ⟨by omega,by omega⟩)|omega|exact Le.of (congrArg (fun l=>SV.c (.agg l)) (Yr t hlt))|exact Le.of (Ld t k)|(with_reducible refine RoundTo.tk 2 (xS t (k+1)) ?_ ?_ ?_);kernel_rfl;exact (d5 (l6.plain (cs:=j4 (tl (C4 k (m8 t) t)) (0+k*4) [ub ((m8 t) (4*k)),ub ((m8 t) (4*k+1)),ub ((m8 t) (4*k+2)),ub ((m8 t) (4*k+3))]) (b:=.t 38) (by kernel_rfl) (by rw[Nat.zero_add,M4 k _ _ hlt]) (j3 _) (by kernel_rfl)) (d5 (l6.p (j3 _) (by kernel_rfl)) trivial));exact (c6a t  m (k+1) (by omega) (by omega) K hK)|exact C2 _ (by omega) (by omega)
def Uv (t:Nat->UInt8):Cz:={
 ct:=(fun f=>match f with
 |100=>rw8
 |_=>none)
 nf:=[(14,.c (.agg (tl (m8 t))))],lp:=fun r=>match r with|2=>some (fun _ K=>K (.exit 0) (xS t 64))|_=>none,wh:=[38]}
theorem c9k (t:Nat->UInt8)  (n:Nat):f4 prog 122 [.c (.agg (tl t))] [] n (.c (.agg (tl (m8 t)))) [] 0:=by
 refine v6 (q:=let a:=ag (tl (m8 t));(l3 prog (gl 2 Tryz.f122) (St.mk [(3,i8 0),(2,j7 1 0),(1,j7 0 0),(0,ag (tl t))] [(1,some (j9 o7 38)),(0,some (j9 (tl t) 38))] 2 15 [1,0] 0) fun K=>K (Exit.exit 0) (xS t 64))/\Le (ag (List.take 256 (tl (C4 64 (m8 t) t)))) a/\0=0/\256=256/\Le a a/\True) (Uv t) func122 n (by kernel_rfl) (by kernel_rfl) ?_
 with_reducible repeat' first|exact trivial|apply And.intro|apply HB.mk|intro _|rfl
 all_goals first|exact l3.tk (xS t 0) (by kernel_rfl) (d5 (l6.plain (cs:=tl t) (b:=.t 38) (by kernel_rfl) (by rw[L7]) (j3 _) (by kernel_rfl)) (d5 (l6.plain (cs:=o7) (b:=.t 38) (by kernel_rfl) (q9) (j3 _) (by kernel_rfl)) trivial)) (fun K hT=>c6a t  _ 0 rfl (by first|decide|omega) K hT)|refine Le.of ?_;rw[T7,t7]|exact Le.of (by kernel_rfl)
theorem Kn (l:List Leaf) (t:Nat->UInt8) (h:l=tl t) (n:Nat):f4 prog 122 [.c (.agg l)] [] n (.c (.agg (tl (m8 (A1 l))))) [] 0:=by
 subst h
 rw[cX];exact c9k t n
def I44 (t:Nat->UInt8) (k:Nat):St:=⟨[(3,iv .i64 (k:Nat)),(1,.c (.l (.p 0 0)))],[(0,some ⟨tl t,.t 38⟩)],1,13,[0],(0)⟩
def Q44 (t:Nat->UInt8):St:=⟨[(2,bv false)],[(0,some ⟨tl t,.t 38⟩)],1,13,[0],(0)⟩
theorem c8l (t:Nat->UInt8) {k:Nat} (hk:k<64):(tl t).getD (0+((k:Nat):Int).toNat*4+3) .u=ub (t (4*k+3)):=by
 rw[show 0+((k:Nat):Int).toNat*4+3=4*k+3 by omega,lX t (by omega)]
theorem c6l {b:UInt8} (h:(((b.toNat:Nat):Int) != 0)=false):decide (b=0)=true:=by
 have:((b.toNat:Nat):Int)=0:=by simpa using h
 exact decide_eq_true (UInt8.toNat_inj.1 (by simpa using this))
theorem d1c {b:UInt8} (h:(((b.toNat:Nat):Int) != 0)=true):decide (b=0)=false:=by
 refine decide_eq_false fun e=>?_
 subst e
 exact absurd h (by decide)
theorem zF (t:Nat->UInt8):n5 t=true↔∀j,j<64->decide (t (4*j+3)=0)=true:=by
 unfold n5
 rw[B1]
 constructor
 ·intro h j hj
  have:=h (4*j+3) (by omega)
  unfold m8 N7 zT at this
  rw[show (4*j+3) / 4=j by omega] at this
  refine decide_eq_true ?_
  by_cases e:t (4*j+3)=0
  ·exact e
  ·rwa [if_neg e] at this
 ·intro h i hi
  unfold m8 N7 zT
  rw[if_pos (of_decide_eq_true (h (i / 4) (by omega)))]
theorem Vx {t:Nat->UInt8} {j:Nat} (hj:j<64) (h:decide (t (4*j+3)=0)=false):n5 t=false:=by
 cases e:n5 t with
 |false=>rfl
 |true=>rw[(zF t).1 e j hj] at h;cases h
def a8w (t:Nat->UInt8) (k:Nat):Cz:={
 ct:=fun _=>none
 sym:=[9,11],nf:=[(11,iv .u8 ((t (4*k+3)).toNat:Nat))]}
theorem R44 (t:Nat->UInt8) (k:Nat)  (K:Exit->St->Prop) (h:let a:=((k:Int));let b:=(Nat.cast ((t (4*k+3)).toNat):Int);let d:=(1,j7 0 0);let e:=(3,i8 (k:Int));let f:=[(0,some (j9 (tl t) 38))];HB (decide ((k:Int)<64)) (t0 a 64/\0+a.toNat*4+3<256/\Le (l4 ((tl t).getD (0+a.toNat*4+3) Leaf.u)) (iv .u8 b)/\HB (b != 0) (wkK 1 K Exit.ret (St.mk [d,(2,bv false),e] f 1 13 [0] 0)) (IntKind.i64.wrap ((k:Int)+1)=(k:Int)+1/\RoundTo prog (gl 2 Tryz.f44) 1 (wkK 1 K) (St.mk [d,(2,SV.u),(3,i8 ((k:Int)+1))] f 1 13 [0] 0))) (wkK 1 K (Exit.exit 0) (St.mk [d,(2,SV.u),e] f 1 13 [0] 0))):z4 prog (gl 2 Tryz.f44) (I44 t k) (wkK 1 K):=
 m5 [1,2,3] [0] (cx:=a8w t k) rfl (u3 (by kernel_rfl) h)
theorem L44 (t:Nat->UInt8)  : ∀(m k:Nat),64-k=m->k<=64->(∀j,j<k->decide (t (4*j+3)=0)=true)->∀(K:Exit->St->Prop),((∀j,j<64->decide (t (4*j+3)=0)=true)->K (.exit 0) (I44 t 64))->(∀j,j<64->decide (t (4*j+3)=0)=false->K .ret (Q44 t))->z4 prog (gl 2 Tryz.f44) (I44 t k) (wkK 1 K)
 |0,k,hm,hk,hall,K,hK,hR=>by
  have e:k=64:=by omega
  subst e
  refine R44 t _ K (HB.no (by omega) ?_)
  exact wkK.tk (I44 t _) (by kernel_rfl) (d5 (l6.p (j3 _) (by kernel_rfl)) trivial) (hK hall)
 |m+1,k,hm,hk,hall,K,hK,hR=>by
  refine R44 t k K (HB.yes (by omega) ?_)
  have hlt:k<64:=by omega
  with_reducible repeat' first|exact trivial|apply And.intro|apply HB.mk|intro _
  all_goals first|(exact ⟨by omega,by omega⟩)|omega|exact Le.of (congrArg (fun l=>SV.c (.l l)) (c8l t hlt))|have hcnd:((((t (4*k+3)).toNat:Nat):Int) != 0)=false:=(by with_reducible assumption);(with_reducible refine RoundTo.tk 1 (I44 t (k+1)) ?_ ?_ ?_);kernel_rfl;exact (d5 (l6.p (j3 _) (by kernel_rfl)) trivial);exact (L44 t  m (k+1) (by omega) (by omega) (fun j hj=>by rcases Nat.lt_or_ge j k with h|h;exact hall j h;have e:j=k:=(by omega);subst e;exact c6l hcnd) K hK hR)|exact wkK.tk (Q44 t) (by kernel_rfl) (d5 (l6.p (j3 _) (by kernel_rfl)) trivial) (hR k hlt (d1c (by with_reducible assumption)))|exact C2 _ (by omega) (by omega)
def b3n (t:Nat->UInt8):Cz:={
 ct:=fun _=>none
 lp:=fun r=>match r with|2=>some (fun _ K=>((∀j,j<64->decide (t (4*j+3)=0)=true)->K (.exit 0) (I44 t 64))/\(∀j,j<64->decide (t (4*j+3)=0)=false->K .ret (Q44 t)))|_=>none}
theorem C44 (t:Nat->UInt8)  (n:Nat):f4 prog 44 [.c (.agg (tl t))] [] n (bv (n5 t)) [] 0:=by
 refine v6 (q:=let a:=(∀(j:Nat),j<64->decide (t (4*j+3)=0)=true);(l3 prog (gl 2 Tryz.f44) (St.mk [(3,i8 0),(2,bv false),(1,j7 0 0),(0,ag (tl t))] [(0,some (j9 (tl t) 38))] 1 13 [0] 0) fun K=>(a->K (Exit.exit 0) (I44 t 64))/\∀(j:Nat),j<64->decide (t (4*j+3)=0)=false->K Exit.ret (Q44 t))/\(a->Le (bv true) (bv (n5 t))/\True)/\∀(j:Nat),j<64->decide (t (4*j+3)=0)=false->Le (bv false) (bv (n5 t))/\True) (b3n t) func44 n (by kernel_rfl) (by kernel_rfl) ?_
 with_reducible repeat' first|exact trivial|apply And.intro|apply HB.mk|intro _
 all_goals first|exact l3.tk (I44 t 0) (by kernel_rfl) (d5 (l6.p (j3 _) (by kernel_rfl)) trivial) (fun K hT=>L44 t _ 0 rfl (by decide) (fun j hj=>absurd hj (Nat.not_lt_zero j)) K hT.1 hT.2)|exact Le.bool ((zF t).2 ‹_›).symm|exact Le.bool (Vx ‹_› ‹_›).symm
theorem Pt (l:List Leaf) (t:Nat->UInt8) (h:l=tl t) (n:Nat):f4 prog 44 [.c (.agg l)] [] n (bv (n5 (A1 l))) [] 0:=by
 subst h
 have e:n5 (A1 (tl t))=n5 t:=Q0 (fun i hi=>by unfold m8;rw[G5 t hi,G5 t (by omega)]) (fun i hi=>rfl)
 rw[e];exact C44 t n
theorem J0 (t:Nat->UInt8):n5 (A1 (tl t))=n5 t:=Q0 (fun i hi=>by unfold m8;rw[G5 t hi,G5 t (by omega)]) (fun i hi=>rfl)
def pq (xs ys:List Leaf):Bool:=decide (A1 xs 0=A1 ys 0/\A1 xs 1=A1 ys 1/\A1 xs 2=A1 ys 2/\A1 xs 3=A1 ys 3)
theorem a3r (a b c e:UInt8):A1 [ub a,ub b,ub c,ub e] 0=a/\A1 [ub a,ub b,ub c,ub e] 1=b/\A1 [ub a,ub b,ub c,ub e] 2=c/\A1 [ub a,ub b,ub c,ub e] 3=e:=⟨v8 a,v8 b,v8 c,v8 e⟩
theorem Dw (a b c e a' b' c' e':UInt8):H4 prog 36 [ub a,ub b,ub c,ub e] [ub a',ub b',ub c',ub e'] (pq [ub a,ub b,ub c,ub e] [ub a',ub b',ub c',ub e']):=by
 unfold pq
 obtain ⟨h0,h1,h2,h3⟩:=a3r a b c e
 obtain ⟨k0,k1,k2,k3⟩:=a3r a' b' c' e'
 rw[h0,h1,h2,h3,k0,k1,k2,k3]
 exact c9x a b c e a' b' c' e'
def vV (t u:Nat->UInt8) (k:Nat):St:=⟨[(5,iv .i64 (k:Nat)),(2,.c (.l (.p 0 0))),(3,.c (.l (.p 1 0)))],[(0,some ⟨tl t,.t 38⟩),(1,some ⟨tl u,.t 38⟩)],2,17,[1,0],(0)⟩
def Zu (t u:Nat->UInt8):St:=⟨[(4,bv false)],[(0,some ⟨tl t,.t 38⟩),(1,some ⟨tl u,.t 38⟩)],2,17,[1,0],(0)⟩
def pe (t u:Nat->UInt8) (j:Nat):Bool:=decide (t (4*j)=u (4*j)/\t (4*j+1)=u (4*j+1)/\t (4*j+2)=u (4*j+2)/\t (4*j+3)=u (4*j+3))
theorem xY (t u:Nat->UInt8):m7 t u=true↔∀j,j<64->pe t u j=true:=by
 rw[B1]
 constructor
 ·intro h j hj
  exact decide_eq_true ⟨h _ (by omega),h _ (by omega),h _ (by omega),h _ (by omega)⟩
 ·intro h i hi
  obtain ⟨a,b,c,d⟩:=of_decide_eq_true (h (i / 4) (by omega))
  have:i=4*(i / 4)+i % 4:=by omega
  have h4:i % 4<4:=by omega
  generalize i / 4=q at *
  match hm:i % 4,h4 with
  |0,_=>rw[this,hm];exact a
  |1,_=>rw[this,hm];exact b
  |2,_=>rw[this,hm];exact c
  |3,_=>rw[this,hm];exact d
theorem a0t {t u:Nat->UInt8} {j:Nat} (hj:j<64) (h:pe t u j=false):m7 t u=false:=by
 cases e:m7 t u with
 |false=>rfl
 |true=>rw[(xY t u).1 e j hj] at h;cases h
theorem c6p (t u:Nat->UInt8) (k:Nat):pq [ub (t (4*k)),ub (t (4*k+1)),ub (t (4*k+2)),ub (t (4*k+3))] [ub (u (4*k)),ub (u (4*k+1)),ub (u (4*k+2)),ub (u (4*k+3))]=pe t u k:=by
 unfold pq pe
 obtain ⟨h0,h1,h2,h3⟩:=a3r (t (4*k)) (t (4*k+1)) (t (4*k+2)) (t (4*k+3))
 obtain ⟨k0,k1,k2,k3⟩:=a3r (u (4*k)) (u (4*k+1)) (u (4*k+2)) (u (4*k+3))
 rw[h0,h1,h2,h3,k0,k1,k2,k3]
theorem a9p (t:Nat->UInt8) {k:Nat} (hk:k<64):List.take 4 (List.drop (0+((k:Nat):Int).toNat*4) (tl t))=[ub (t (4*k)),ub (t (4*k+1)),ub (t (4*k+2)),ub (t (4*k+3))]:=by
 rw[show 0+((k:Nat):Int).toNat*4=k*4 by omega,cE t hk];rfl
theorem bH {b:Bool} (h:(!b)=false):b=true:=by simpa using h
theorem fF {b:Bool} (h:(!b)=true):b=false:=by simpa using h
def Xt (t u:Nat->UInt8) (k:Nat):Cz:={
 ct:=fun _=>none
 eq:=(fun t=>match t with
 |36=>some pq
 |_=>none)
 sym:=[11,12,14,15],nf:=[(12,.c (.agg [ub (t (4*k)),ub (t (4*k+1)),ub (t (4*k+2)),ub (t (4*k+3))])),(15,.c (.agg [ub (u (4*k)),ub (u (4*k+1)),ub (u (4*k+2)),ub (u (4*k+3))])),(16,bv (!(pe t u k)))]}
theorem c5o (t u:Nat->UInt8) (k:Nat)  (K:Exit->St->Prop) (h:let a:=((k:Int));let b:=0+a.toNat*4;let d:=[l8 (Nat.cast ((t (4*k)).toNat):Int),l8 (Nat.cast ((t (4*k+1)).toNat):Int),l8 (Nat.cast ((t (4*k+2)).toNat):Int),l8 (Nat.cast ((t (4*k+3)).toNat):Int)];let e:=[l8 (Nat.cast ((u (4*k)).toNat):Int),l8 (Nat.cast ((u (4*k+1)).toNat):Int),l8 (Nat.cast ((u (4*k+2)).toNat):Int),l8 (Nat.cast ((u (4*k+3)).toNat):Int)];let f:=[ub (t (4*k)),ub (t (4*k+1)),ub (t (4*k+2)),ub (t (4*k+3))];let g:=[ub (u (4*k)),ub (u (4*k+1)),ub (u (4*k+2)),ub (u (4*k+3))];let i:=(2,j7 0 0);let j:=(3,j7 1 0);let m:=(5,i8 (k:Int));let n:=[(0,some (j9 (tl t) 38)),(1,some (j9 (tl u) 38))];HB (decide ((k:Int)<64)) (t0 a 64/\0+a.toNat*4+4<=256/\Le (ag (List.take 4 (List.drop b (tl t)))) (ag d)/\t0 a 64/\0+a.toNat*4+4<=256/\Le (ag (List.take 4 (List.drop b (tl u)))) (ag e)/\H4 prog 36 d e (pq f g)/\Le (bv !pq f g) (bv !pe t u k)/\HB (!pe t u k) (wkK 2 K Exit.ret (St.mk [i,j,(4,bv false),m] n 2 17 [1,0] 0)) (IntKind.i64.wrap ((k:Int)+1)=(k:Int)+1/\RoundTo prog (gl 2 Tryz.f121) 2 (wkK 2 K) (St.mk [i,j,(4,SV.u),(5,i8 ((k:Int)+1))] n 2 17 [1,0] 0))) (wkK 2 K (Exit.exit 0) (St.mk [i,j,(4,SV.u),m] n 2 17 [1,0] 0))):z4 prog (gl 2 Tryz.f121) (vV t u k) (wkK 2 K):=
 m5 [2,3,4,5] [0,1] (cx:=Xt t u k) rfl (u3 (by kernel_rfl) h)
theorem c2t (t u:Nat->UInt8)  : ∀(m k:Nat),64-k=m->k<=64->(∀j,j<k->pe t u j=true)->∀(K:Exit->St->Prop),((∀j,j<64->pe t u j=true)->K (.exit 0) (vV t u 64))->(∀j,j<64->pe t u j=false->K .ret (Zu t u))->z4 prog (gl 2 Tryz.f121) (vV t u k) (wkK 2 K)
 |0,k,hm,hk,hall,K,hK,hR=>by
  have e:k=64:=by omega
  subst e
  refine c5o t u _ K (HB.no (by omega) ?_)
  exact wkK.tk (vV t u _) (by kernel_rfl) (d5 (l6.p (j3 _) (by kernel_rfl)) (d5 (l6.p (j3 _) (by kernel_rfl)) trivial)) (hK hall)
 |m+1,k,hm,hk,hall,K,hK,hR=>by
  refine c5o t u k K (HB.yes (by omega) ?_)
  have hlt:k<64:=by omega
  with_reducible repeat' first|exact trivial|apply And.intro|apply HB.mk|intro _
  all_goals first|(exact ⟨by omega,by omega⟩)|omega|exact Le.of (congrArg (fun l=>SV.c (.agg l)) (a9p _ hlt))|exact Dw _ _ _ _ _ _ _ _|exact Le.bool (by rw[c6p])|have hcnd:(!(pe t u k))=false:=(by with_reducible assumption);(with_reducible refine RoundTo.tk 2 (vV t u (k+1)) ?_ ?_ ?_);kernel_rfl;exact (d5 (l6.p (j3 _) (by kernel_rfl)) (d5 (l6.p (j3 _) (by kernel_rfl)) trivial));exact (c2t t u  m (k+1) (by omega) (by omega) (fun j hj=>by rcases Nat.lt_or_ge j k with h|h;exact hall j h;have e:j=k:=(by omega);subst e;exact bH hcnd) K hK hR)|exact wkK.tk (Zu t u) (by kernel_rfl) (d5 (l6.p (j3 _) (by kernel_rfl)) (d5 (l6.p (j3 _) (by kernel_rfl)) trivial)) (hR k hlt (fF (by with_reducible assumption)))|exact C2 _ (by omega) (by omega)
def Zf (t u:Nat->UInt8):Cz:={
 ct:=fun _=>none
 eq:=(fun t=>match t with
 |36=>some pq
 |_=>none)
 lp:=fun r=>match r with|2=>some (fun _ K=>((∀j,j<64->pe t u j=true)->K (.exit 0) (vV t u 64))/\(∀j,j<64->pe t u j=false->K .ret (Zu t u)))|_=>none}
theorem c7s (t u:Nat->UInt8)  (n:Nat):f4 prog 121 [.c (.agg (tl t)),.c (.agg (tl u))] [] n (bv (m7 t u)) [] 0:=by
 refine v6 (q:=let a:=(∀(j:Nat),j<64->pe t u j=true);let b:=bv (m7 t u);(l3 prog (gl 2 Tryz.f121) (St.mk [(5,i8 0),(4,bv false),(3,j7 1 0),(2,j7 0 0),(0,ag (tl t)),(1,ag (tl u))] [(1,some (j9 (tl u) 38)),(0,some (j9 (tl t) 38))] 2 17 [1,0] 0) fun K=>(a->K (Exit.exit 0) (vV t u 64))/\∀(j:Nat),j<64->pe t u j=false->K Exit.ret (Zu t u))/\(a->Le (bv true) b/\True)/\∀(j:Nat),j<64->pe t u j=false->Le (bv false) b/\True) (Zf t u) func121 n (by kernel_rfl) (by kernel_rfl) ?_
 with_reducible repeat' first|exact trivial|apply And.intro|apply HB.mk|intro _
 all_goals first|exact l3.tk (vV t u 0) (by kernel_rfl) (d5 (l6.p (j3 _) (by kernel_rfl)) (d5 (l6.p (j3 _) (by kernel_rfl)) trivial)) (fun K hT=>c2t t u _ 0 rfl (by decide) (fun j hj=>absurd hj (Nat.not_lt_zero j)) K hT.1 hT.2)|exact Le.bool ((xY t u).2 ‹_›).symm|exact Le.bool (a0t ‹_› ‹_›).symm
theorem Pn (l m:List Leaf) (t u:Nat->UInt8) (h:l=tl t) (h':m=tl u) (n:Nat):f4 prog 121 [.c (.agg l),.c (.agg m)] [] n (bv (m7 (A1 l) (A1 m))) [] 0:=by
 subst h h'
 rw[M8];exact c7s t u n
def Yv:Cz:={
  ct:=fun _=>none
   }
theorem c6j (x y:Int)  (n:Nat):f4 prog 104 [ag [li x,li y]] [] n (bv (tV x y)) [] 0:=by
 refine v6 (q:=let a:=x>=-8192;let b:=decide a=true->decide a=true/\True;let c:=x<=8191;let d:=bif decide a then decide c else false;let e:=d=true->d=true/\True;let f:=bif bif decide a then decide c else false then decide (y>=-8192) else false;let g:=f=true->f=true/\True;b/\b/\(decide a=true->decide a=true)/\e/\e/\(d=true->d=true)/\g/\g/\(f=true->f=true)/\Le (bv (bif bif bif decide a then decide c else false then decide (y>=-8192) else false then decide (y<=8191) else false)) (bv (tV x y))/\True) (Yv) func104 n (by kernel_rfl) (by kernel_rfl) ?_
 with_reducible repeat' first|exact trivial|apply And.intro|apply HB.mk|intro _
 all_goals first|assumption|exact Le.bool (Rf x y)
def N3 (ax ay bx by_:Int):Bool:=decide (ay<by_\/ay=by_/\ax<bx)
def a2l:Cz:={
  ct:=fun _=>none
   }
theorem c2e (ax ay bx by_:Int)  (n:Nat):f4 prog 123 [ag [li ax,li ay],ag [li bx,li by_]] [] n (bv (N3 ax ay bx by_)) [] 0:=by
 refine v6 (q:=let a:=ay<by_;let b:=!decide a;let c:=b=true->b=true/\True;let d:=!decide a&&ay==by_;let e:=d=true->d=true/\True;c/\c/\(b=true->b=true/\b=true/\True)/\c/\e/\e/\(d=true->d=true/\d=true/\True)/\(b=true->b=true/\((ay==by_)=true->d=true)/\True)/\(decide a=false->b=true)/\Le (bv (bif decide a then true else bif ay==by_ then decide (ax<bx) else false)) (bv (N3 ax ay bx by_))/\True) (a2l) func123 n (by kernel_rfl) (by kernel_rfl) ?_
 with_reducible repeat' first|exact trivial|apply And.intro|apply HB.mk|intro _
 all_goals first|assumption|refine Le.bool ?_;unfold N3;by_cases h1:ay<by_<;>by_cases h2:ay=by_<;>by_cases h3:ax<bx<;>simp[h1,h2,h3]|simp only[*,Bool.and_self,Bool.not_false,Bool.not_true];done
end Ab
end
section
namespace Ab
def I56 (l:List TA) (k:Nat):St:=⟨[(3,iv .i64 (k:Nat)),(1,.c (.l (.p 1 0)))],[(0,some ⟨n8 l,.r 42 258 0⟩),(1,some ⟨[.o 0 l.length],.t 26⟩)],2,60,[1],(1)⟩
theorem a7w (e:TA):List.take 2 (List.drop 0 (el e))=[li e.X,li e.Y]:=rfl
theorem c8e (e:TA):List.take 256 (List.drop 2 (el e))=tl e.t:=t7 _
theorem a8j {l:List TA} (hg:Good l) {k:Nat} (hk:k<l.length) (h:0<k):N3 (r8 l (k-1)).X (r8 l (k-1)).Y (r8 l k).X (r8 l k).Y=true:=by
 have:=hg.ord (k-1) (by omega)
 rw[show k-1+1=k by omega] at this
 exact decide_eq_true this
def rw9:Rw:=some fun _ _=>fun | [.c (.agg [.v (.int _ ax),.v (.int _ ay)])]=>some {v:=bv (tV ax ay)}|_=>none
def Xx:Rw:=some fun _ _=>fun | [.c (.agg [.v (.int _ ax),.v (.int _ ay)]),.c (.agg [.v (.int _ cx),.v (.int _ cy)])]=>some {v:=bv (N3 ax ay cx cy)}|_=>none
def b1n (l:List TA) (k:Nat):Cz:={
 ct:=(fun f=>match f with
 |44=>some fun _ _=>fun | [.c (.agg l)]=>some {v:=bv (n5 (A1 l))}|_=>none
 |104=>rw9
 |121=>some fun _ _=>fun | [.c (.agg l),.c (.agg m)]=>some {v:=bv (m7 (A1 l) (A1 m))}|_=>none
 |122=>some fun _ _=>fun | [.c (.agg l)]=>some {v:=.c (.agg (tl (m8 (A1 l))))}|_=>none
 |123=>Xx
 |_=>none)
 sym:=[21,22,51,53],nf:=[(22,.c (.agg (el (r8 l k)))),(24,.c (.agg (tl (r8 l k).t))),(25,bv false),(27,.c (.agg (tl (r8 l k).t))),(28,.c (.agg (tl (m8 (r8 l k).t)))),(30,.c (.agg (tl (r8 l k).t))),(31,bv true),(33,.c (.agg [li (r8 l k).X,li (r8 l k).Y])),(34,bv true),(35,bv false),(38,bv false),(41,bv false),(42,bv false),(53,.c (.agg [li (r8 l (k-1)).X,li (r8 l (k-1)).Y])),(55,.c (.agg [li (r8 l k).X,li (r8 l k).Y])),(56,bv true),(57,bv false),(58,bv false),(59,bv false)],wh:=[42]}
theorem R56 (l:List TA) (k:Nat)  (K:Exit->St->Prop) (h:let a:=((k:Int));let b:=r8 l k;let d:=ag (List.take 256 (List.drop 2 (el b)));let e:=tl b.t;let f:=bv (n5 (A1 e));let g:=bv false;let i:=ag (tl (m8 (A1 e)));let j:=tl (m8 b.t);let m:=bv (m7 (A1 j) (A1 e));let n:=bv true;let q:=ag (List.take 2 (el b));let s:=[li b.X,li b.Y];let ud:=bv (tV b.X b.Y);let v:=bv !true;let w:=false=false->true=true;let x:=true=true->true=true/\True;let y:=((k:Int)>0);let z:=decide y;let A:=z=true->z=true/\True;let B:=((k:Int)-1);let C:=r8 l (k-1);let D:=[li C.X,li C.Y];let E:=bv (N3 C.X C.Y b.X b.Y);let G:=[(0,some (o8 (n8 l) 42 258 0)),(1,some (j9 [Leaf.o 0 l.length] 26))];HB (decide ((k:Int)<(l.length:Int))) (t0 a l.length/\a.toNat*258+258<=(n8 l).length/\Le (ag (List.take 258 (List.drop (a.toNat*258) (n8 l)))) (ag (el b))/\0=0/\258=258/\Le d (ag e)/\Kd 44 [] [ag e] [] 3 f [] 0/\Le f g/\Le d (ag e)/\Kd 122 [] [ag e] [] 3 i [] 0/\Le i (ag j)/\Le d (ag e)/\Kd 121 [] [ag j,ag e] [] 3 m [] 0/\Le m n/\Le q (ag s)/\Kd 104 [] [ag s] [] 3 ud [] 0/\Le ud n/\Le v g/\w/\Le g g/\(true=true->true=true/\Le v g/\True)/\w/\Le g g/\x/\x/\A/\(z=true->z=true/\IntKind.i64.wrap B=(k:Int)-1/\True)/\(z=true->z=true/\z=true/\t0 B l.length/\True)/\A/\(z=true->z=true/\B.toNat*258+0+2<=(n8 l).length/\Le (ag (List.take 2 (List.drop (B.toNat*258+0) (n8 l)))) (ag D)/\True)/\(z=true->z=true/\Le q (ag s)/\True)/\(z=true->z=true/\z=true/\Kd 123 [] [ag D,ag s] [] 3 E [] 0/\Le E n/\True)/\(z=true->z=true/\Le v g/\True)/\(true=true->true=true/\(decide y=true->z=true)/\Le (bv (bif decide y then false else false)) g/\True)/\w/\Le g g/\IntKind.i64.wrap ((k:Int)+1)=(k:Int)+1/\RoundTo prog (gl 4 Tryz.f56) 2 (wkK 2 K) (St.mk [(1,j7 1 0),(3,i8 ((k:Int)+1))] G 3 60 [2,2,1] 1)) (wkK 2 K (Exit.exit 0) (St.mk [(1,j7 1 0),(3,i8 (k:Int))] G 2 60 [1] 1))):z4 prog (gl 4 Tryz.f56) (I56 l k) (wkK 2 K):=
 m5 [1,3] [0,1] (cx:=b1n l k) rfl (u3 (by kernel_rfl) h)
theorem L56 (l:List TA) (hg:Good l):∀(m k:Nat),l.length-k=m->k<=l.length->∀(K:Exit->St->Prop),K (.exit 0) (I56 l l.length)->z4 prog (gl 4 Tryz.f56) (I56 l k) (wkK 2 K)
 |0,k,hm,hk,K,hK=>by
  have e:k=l.length:=by omega
  subst e
  refine R56 l _ K (HB.no (by omega) ?_)
  exact wkK.tk (I56 l _) (by kernel_rfl) (d5 (l6.p (i9 l) (by kernel_rfl)) (N0.k (by kernel_rfl))) hK
 |m+1,k,hm,hk,K,hK=>by
  refine R56 l k K (HB.yes (by omega) ?_)
  have hlt:k<l.length:=by omega
  have hlen:=hg.len
  with_reducible repeat' first|exact trivial|apply And.intro|apply HB.mk|intro _
  all_goals first|assumption|(with_reducible first|rfl|exact Pt _ _ rfl _|exact c6j _ _ _|exact Pn _ _ _ _ rfl rfl _|exact Kn _ _ rfl _|exact c2e _ _ _ _ _)|(exact ⟨by omega,by omega⟩)|(exact ⟨by have:=gk ‹_›;omega,by omega⟩)|rw[C6,show (((k:Nat):Int)).toNat=k from rfl];omega|have:=gk ‹_›;rw[C6,nO this];omega|refine Le.of ?_;simp only[tn,Nat.zero_add,Nat.add_zero];rw[iY hlt]|exact Le.of (congrArg (fun l=>SV.c (.agg l)) (c8e _))|exact Le.of (congrArg (fun l=>SV.c (.agg l)) (a7w _))|have:=gk ‹_›;refine Le.of ?_;simp only[nO this,Nat.zero_add,Nat.add_zero];rw[lW (by omega)]|exact Le.bool (by rw[hg.inn k hlt])|exact Le.bool (by rw[J0,hg.nz k hlt])|exact Le.of (by rw[cX])|exact Le.bool (by rw[M8,hg.cl k hlt])|exact Le.bool rfl|have:=gk ‹_›;exact Le.bool (a8j hg hlt this)|have:=gk ‹_›;exact C2 _ (by omega) (by omega)|refine Le.bool ?_;cases decide (((k:Nat):Int)>0)<;>rfl|(with_reducible refine RoundTo.tk 3 (I56 l (k+1)) ?_ ?_ ?_);kernel_rfl;exact (d5 (l6.p (i9 l) (by kernel_rfl)) (N0.k (by kernel_rfl)));exact (L56 l hg m (k+1) (by omega) (by omega) K hK)|exact C2 _ (by omega) (by omega)|simp only[*,Bool.and_self,Bool.not_false,Bool.not_true];done
def b0l (l:List TA):Cz:={
 ct:=(fun f=>match f with
 |44=>some fun _ _=>fun | [.c (.agg l)]=>some {v:=bv (n5 (A1 l))}|_=>none
 |104=>rw9
 |121=>some fun _ _=>fun | [.c (.agg l),.c (.agg m)]=>some {v:=bv (m7 (A1 l) (A1 m))}|_=>none
 |122=>some fun _ _=>fun | [.c (.agg l)]=>some {v:=.c (.agg (tl (m8 (A1 l))))}|_=>none
 |123=>Xx
 |_=>none)
 nf:=[(10,bv false)],lp:=fun r=>match r with|4=>some (fun _ K=>K (.exit 0) (I56 l l.length))|_=>none}
theorem C56 (l:List TA) (hg:Good l):f4 prog 56 [.c (.agg [.o 0 l.length])] [(0,⟨n8 l,.r 42 258 0⟩)] 1 (bv true) [] 0:=by
 have hlen:=hg.len
 refine E3 (q:=let a:=(l.length:Int);let b:=[Leaf.o 0 l.length];Le (bv (decide (a>1024))) (bv false)/\(l3 prog (gl 4 Tryz.f56) (St.mk [(3,i8 0),(10,bv false),(9,i8 a),(8,l4 (Leaf.o 0 l.length)),(7,j7 1 0),(2,bv false),(1,j7 1 0),(0,ag b)] [(1,some (j9 b 26)),(0,some (o8 (n8 l) 42 258 0))] 2 60 [1] 1) fun K=>K (Exit.exit 0) (I56 l l.length))/\Le (bv true) (bv true)/\True) (b0l l) [] func56 (iB (i9 l) (by kernel_rfl)) (by kernel_rfl) ?_
 with_reducible repeat' first|exact trivial|apply And.intro|apply HB.mk|intro _|exact Le.refl _
 all_goals first|exact l3.tk (I56 l 0) (by kernel_rfl) (d5 (l6.p (i9 l) (by kernel_rfl)) (N0.k (by kernel_rfl))) (fun K hT=>L56 l hg _ 0 rfl (by first|decide|omega) K hT)|refine Le.bool (decide_eq_false ?_);omega
theorem c7z (l:List TA) (hg:Good l) (id n:Nat) (hi:id<n):f4 prog 56 [.c (.agg [.o id l.length])] [(id,⟨n8 l,.r 42 258 id⟩)] n (bv true) [] 0:=by
 have key:=f4.at1 (C56 l hg) id n hi
 have e1:=j5 (σ:=sG id n) (i9 l)
 simp only[List.map_cons,List.map_nil,n6.ren,e1] at key
 exact key
def a7t (l:List TA):Cz:={
 ct:=(fun f=>match f with
 |56=>some fun _ _=>fun | [.c (.agg [.o i _])]=>some {v:=bv true,rd:=[i]}|_=>none
 |_=>none)
 nf:=[(5,bv true),(7,bv false)],wh:=[26]}
theorem C99 (l:List TA) (hg:Good l):f4 prog 99 [.c (.agg [.o 0 l.length])] [(0,⟨n8 l,.r 42 258 0⟩)] 1 (.c (.agg [.o 0 l.length])) [] 0:=by
 refine E3 (q:=let a:=[Leaf.o 0 l.length];let b:=bv true;Kd 56 [] [ag a] [(0,o8 (n8 l) 42 258 0)] 3 b [] 0/\Le b b/\Le (bv !true) (bv false)/\0=0/\1=1/\Le (ag a) (ag a)/\True) (a7t l) [] func99 (iB (i9 l) (by kernel_rfl)) (by kernel_rfl) ?_
 with_reducible repeat' first|exact trivial|apply And.intro|apply HB.mk|intro _
 all_goals first|(with_reducible first|exact Le.refl _|rfl|exact c7z _ hg _ _ (by omega))|exact Le.bool rfl
def a0f (l:List TA):Cz:={
 ct:=fun _=>none
 nf:=[(6,bv false)],wh:=[96]}
theorem d0l (l:List TA) (hl:l.length<=1024):f4 prog 105 [.c (.agg [.o 0 l.length])] [(0,⟨n8 l,.r 42 258 0⟩)] 1 (.c (.agg [.o 0 l.length,li 0])) [] 0:=by
 refine E3 (q:=let a:=(ag [Leaf.o 0 l.length,li 0]);Le (bv (decide ((l.length:Int)>1024))) (bv false)/\0=0/\2=2/\Le a a/\True) (a0f l) [] func105 (iB (i9 l) (by kernel_rfl)) (by kernel_rfl) ?_
 with_reducible repeat' first|exact trivial|apply And.intro|apply HB.mk|intro _|exact Le.refl _|rfl
 all_goals first|refine Le.bool (decide_eq_false ?_);omega
theorem b3o (l:List TA) (hg:Good l) (id n:Nat) (hi:id<n):f4 prog 99 [.c (.agg [.o id l.length])] [(id,⟨n8 l,.r 42 258 id⟩)] n (.c (.agg [.o id l.length])) [] 0:=by
 have key:=f4.at1 (C99 l hg) id n hi
 have e1:=j5 (σ:=sG id n) (i9 l)
 simp only[List.map_cons,List.map_nil,n6.ren,e1] at key
 exact key
theorem c1u (l:List TA) (hl:l.length<=1024) (id n:Nat) (hi:id<n):f4 prog 105 [.c (.agg [.o id l.length])] [(id,⟨n8 l,.r 42 258 id⟩)] n (.c (.agg [.o id l.length,li 0])) [] 0:=by
 have key:=f4.at1 (d0l l hl) id n hi
 have e1:=j5 (σ:=sG id n) (i9 l)
 simp only[List.map_cons,List.map_nil,n6.ren,e1] at key
 exact key
end Ab
end
section
namespace Ab
theorem c1s (a0 a1 b0 b1:Int) (W:World):(binOp .eql 40 (.agg #[.int .i64 a0,.int .i64 a1]) (.agg #[.int .i64 b0,.int .i64 b1])).run prog W=.ok (.bool (a0==b0&&a1==b1)) W:=by
 by_cases h0:a0=b0
 ·by_cases h1:a1=b1
  ·subst h0 h1;go_simp
  ·subst h0;go_simp
 ·go_simp
theorem c0r (a0 a1 b0 b1:Int) (W:World):(binOp .neq 40 (.agg #[.int .i64 a0,.int .i64 a1]) (.agg #[.int .i64 b0,.int .i64 b1])).run prog W=.ok (.bool (!(a0==b0&&a1==b1))) W:=by
 by_cases h0:a0=b0
 ·by_cases h1:a1=b1
  ·subst h0 h1;go_simp
  ·subst h0;go_simp
 ·go_simp
theorem b2e (a0 a1 b0 b1:Int):H4 prog 40 [li a0,li a1] [li b0,li b1] (a0==b0&&a1==b1):=by
 intro β u v x y w hu hv
 rw[(I1 (ys:=[.int .i64 a0,.int .i64 a1]) rfl β u).1 hu,(I1 (ys:=[.int .i64 b0,.int .i64 b1]) rfl β v).1 hv]
 have h1:=c1s a0 a1 b0 b1 w
 have h2:=c0r a0 a1 b0 b1 w
 have g:∀op,(eqGuard op 40 x y (.agg [.int .i64 a0,.int .i64 a1].toArray) (.agg [.int .i64 b0,.int .i64 b1].toArray)).run prog w=.ok () w:=by
  intro op;unfold eqGuard;cases op<;>go_simp
 constructor
 ·rw[Sem.run_bind,g];exact h1
 ·rw[Sem.run_bind,g];exact h2
def S8 (l:List TA) (x y:Int):Prop:=∀k,k<l.length->(r8 l k).Y<y\/((r8 l k).Y=y/\(r8 l k).X<x)
def rY (l:List TA) (x y:Int) (t:Nat->UInt8) (k:Nat):St:=⟨[(10,iv .i64 (k:Nat)),(9,bv false),(7,.c (.l (.p 5 0))),(6,.c (.l (.p 4 0))),(5,.c (.l (.p 3 0))),(4,.c (.l (.p 2 0))),(3,.c (.l (.p 1 0)))],[(0,some ⟨n8 l,.r 42 258 0⟩),(1,some ⟨[.o 0 l.length],.t 26⟩),(2,some ⟨[li x,li y],.t 40⟩),(3,some ⟨tl t,.t 38⟩),(4,some ⟨[.v (.slice none 0 0)],.t 26⟩),(5,some ⟨[.o 6 k],.t 26⟩),(6,some ⟨n8 (l.take k),.r 42 258 6⟩)],7,73,[6,5,4,3,2,1],(1)⟩
theorem T5 (l m:List TA):n8 (l++m)=n8 l++n8 m:=by simp[n8]
theorem fO (e:TA):n8 [e]=el e:=by simp[n8]
theorem Dl {l:List TA} {k:Nat} (h:k<l.length):l[k]? = some (r8 l k):=by
 unfold r8
 rw[List.getD,List.getElem?_eq_getElem h];rfl
theorem xD {l:List TA} {k:Nat} (h:k<l.length):n8 (l.take k)++j4 A8 0 (el (r8 l k))=n8 (l.take (k+1)):=by
 rw[L2,List.take_add_one,Dl h,T5]
 show _=_++n8 [r8 l k]
 rw[fO]
theorem Og {x y:Int}:j4 A8 0 [li x,li y]=[li x,li y]++List.replicate 256 (.v (.int .u8 0)):=rfl
theorem bW (x y:Int) (t:Nat->UInt8):j4 (j4 A8 0 [li x,li y]) 2 (tl t)=el ⟨x,y,t⟩:=by
 rw[Og]
 exact bQ (tl t) (List.replicate 256 (.v (.int .u8 0))) [li x,li y] (by rw[B8,List.length_replicate])
theorem Nd (l:List TA) (e:TA):n8 (l.take l.length)++j4 A8 0 (el e)=n8 l++el e:=by
 rw[List.take_length,L2]
theorem v5.lsB {S:St} {l:List (Nat×Option Nat)} {n j t:Nat} {xs xs':List Leaf} (h:S.blk j=some ⟨xs,.t t⟩) (hl:aY l n xs xs'):v5 l n (S.blk j) ⟨xs',.t t⟩:=by
 rw[h];exact v5.ls hl
theorem a7o {t:Nat->UInt8} (h:m7 (m8 t) t=true):tl (m8 (A1 (tl t)))=tl t:=by
 rw[cX]
 exact J4 fun i hi=>(B1 _ _).1 h i hi
theorem I3 (e:TA):B7 (el e):=fun x hx=>by
 simp only[el,List.mem_cons] at hx
 rcases hx with rfl|rfl|hx
 ·exact ⟨_,rfl⟩
 ·exact ⟨_,rfl⟩
 ·exact mY _ x hx
theorem take_len (l:List TA) {k:Nat} (h:k<=l.length):(l.take k).length=k:=by rw[List.length_take];omega
theorem xP {l:List TA} {x y:Int} (h:S8 l x y) {k:Nat} (hk:k<l.length):N3 x y (r8 l k).X (r8 l k).Y=false:=by
 have:=h k hk
 exact decide_eq_false (by omega)
theorem Jr {l:List TA} {x y:Int} (h:S8 l x y) {k:Nat} (hk:k<l.length):(!((r8 l k).X==x&&(r8 l k).Y==y))=true:=by
 have:=h k hk
 by_cases h1:(r8 l k).X=x
 ·have h2:(r8 l k).Y≠y:=by omega
  simp[h1,h2]
 ·simp[h1]
def a2z (l:List TA) (x y:Int) (t:Nat->UInt8) (k:Nat):Cz:={
 ct:=(fun f=>match f with
 |44=>some fun _ _=>fun | [.c (.agg l)]=>some {v:=bv (n5 (A1 l))}|_=>none
 |122=>some fun _ _=>fun | [.c (.agg l)]=>some {v:=.c (.agg (tl (m8 (A1 l))))}|_=>none
 |123=>Xx
 |_=>none)
 eq:=(fun t=>match t with
 |40=>some (fun xs ys=>match xs,ys with | [.v (.int _ a0),.v (.int _ a1)],[.v (.int _ b0),.v (.int _ b1)]=>(a0==b0&&a1==b1)|_,_=>false)
 |_=>none)
 sym:=[31,33,47,49,57,58,60],nf:=[(33,.c (.agg [li (r8 l k).X,li (r8 l k).Y])),(34,bv false),(35,bv false),(49,.c (.agg [li (r8 l k).X,li (r8 l k).Y])),(51,bv true),(58,.c (.agg (el (r8 l k))))]}
theorem c1c (l:List TA) (x y:Int) (t:Nat->UInt8) (k:Nat)  (K:Exit->St->Prop) (h:let a:=true=true->true=true/\True;let b:=((k:Int));let d:=ag (List.take 2 (List.drop (b.toNat*258+0) (n8 l)));let e:=r8 l k;let f:=[li e.X,li e.Y];let g:=[li x,li y];let i:=bv (N3 x y e.X e.Y);let j:=bv false;let m:=e.X==x&&e.Y==y;let n:=ag (List.take 258 (List.drop (b.toNat*258) (n8 l)));let q:=n8 (List.take k l);let s:=((k:Int)+1);let u:=(A2 6 (Tryz.f106.body.getD Code.skip)).getD Code.skip;let w:=[(3,j7 1 0),(4,j7 2 0),(5,j7 3 0),(6,j7 4 0),(7,j7 5 0),(9,bv false),(10,i8 s)];let z:=(0,some (o8 (n8 l) 42 258 0));let A:=(1,some (j9 [Leaf.o 0 l.length] 26));let B:=(2,some (j9 g 40));let C:=(3,some (j9 (tl t) 38));let D:=(4,some (j9 [Leaf.v (Value.slice none 0 0)] 26));let E:=n8 (List.take k l)++j4 A8 0 (el e);let G:=(7,some (o8 (j4 A8 0 (el e)) 42 258 7));let H:=[(6,k+1,false)];let I:=(6,some (o8 q 42 258 6));HB (decide ((k:Int)<(l.length:Int))) (a/\(true=true->true=true/\true=true/\t0 b l.length/\True)/\a/\(true=true->true=true/\b.toNat*258+0+2<=(n8 l).length/\Le d (ag f)/\True)/\(true=true->true=true/\true=true/\Kd 123 [] [ag g,ag f] [] 7 i [] 0/\Le i j/\True)/\(true=true->true=true)/\Le j j/\t0 b l.length/\b.toNat*258+0+2<=(n8 l).length/\Le d (ag f)/\H4 prog 40 f g m/\Le (bv !m) (bv true)/\(t0 b l.length/\b.toNat*258+258<=(n8 l).length/\Le n (ag (el e))/\q.length=k*258/\258=258/\IntKind.i64.wrap s=(k:Int)+1/\RoundTo prog u 7 (wkK 7 K) (St.mk w [z,A,B,C,D,(5,some (j9 [Leaf.o 6 (k+1)] 26)),(6,some (o8 E 42 258 6)),G,(8,none)] 8 73 [5,6,7,6,5,4,3,2,1] 1))/\t0 b l.length/\b.toNat*258+258<=(n8 l).length/\Le n (ag (el e))/\H=H/\fW prog 42 (k+1)/\q.length=k*258/\258=258/\IntKind.i64.wrap s=(k:Int)+1/\RoundTo prog u 7 (wkK 7 K) (St.mk w [z,A,B,C,D,(5,some (j9 [Leaf.o 8 (k+1)] 26)),I,G,(8,some (o8 E 42 258 8))] 9 73 [5,8,7,6,5,4,3,2,1] 1)) (wkK 7 K (Exit.exit 0) (St.mk [(3,j7 1 0),(4,j7 2 0),(5,j7 3 0),(6,j7 4 0),(7,j7 5 0),(9,bv false),(10,i8 (k:Int))] [z,A,B,C,D,(5,some (j9 [Leaf.o 6 k] 26)),I,(7,none),(8,none)] 7 73 [6,5,4,3,2,1] 1))):z4 prog (gl 6 Tryz.f106) (rY l x y t k) (wkK 7 K):=
 m5 [3,4,5,6,7,9,10] [0,1,2,3,4,5,6,7,8] (cx:=a2z l x y t k) rfl (u3 (by kernel_rfl) h)
theorem a6n (l:List TA) (x y:Int) (t:Nat->UInt8) (hl:l.length<=1024) (hb:S8 l x y):∀(m k:Nat),l.length-k=m->k<=l.length->∀(K:Exit->St->Prop),K (.exit 0) (rY l x y t l.length)->z4 prog (gl 6 Tryz.f106) (rY l x y t k) (wkK 7 K)
 |0,k,hm,hk,K,hK=>by
  have e:k=l.length:=by omega
  subst e
  refine c1c l x y t _ K (HB.no (by omega) ?_)
  exact wkK.tk (rY l x y t _) (by kernel_rfl) (d5 (l6.p (i9 l) (by kernel_rfl)) (d5 (l6.k (by kernel_rfl)) (d5 (l6.k (by kernel_rfl)) (d5 (l6.p (j3 t) (by kernel_rfl)) (d5 (l6.k (by kernel_rfl)) (d5 (l6.k (by kernel_rfl)) (d5 (l6.p (i9 _) (by kernel_rfl)) trivial))))))) hK
 |m+1,k,hm,hk,K,hK=>by
  refine c1c l x y t k K (HB.yes (by omega) ?_)
  have hlt:k<l.length:=by omega
  with_reducible repeat' first|exact trivial|apply And.intro|apply HB.mk|intro _
  all_goals first|assumption|(with_reducible first|rfl|exact c2e _ _ _ _ _)|(exact ⟨by omega,by omega⟩)|rw[C6,show (((k:Nat):Int)).toNat=k from rfl];omega|rw[C6,take_len l (by omega)];omega|exact apB (bytes:=272) (by kernel_rfl) (by omega)|refine Le.of ?_;simp only[tn,Nat.zero_add,Nat.add_zero];rw[iY hlt]|refine Le.of ?_;simp only[tn,Nat.zero_add,Nat.add_zero];rw[lW hlt]|exact Le.bool (xP hb hlt)|exact Le.bool rfl|exact Le.bool (Jr hb hlt)|exact b2e _ _ _ _|(with_reducible refine RoundTo.tk 8 (rY l x y t (k+1)) ?_ ?_ ?_);kernel_rfl;exact (d5 (l6.p (i9 l) (by kernel_rfl)) (d5 (l6.k (by kernel_rfl)) (d5 (l6.k (by kernel_rfl)) (d5 (l6.p (j3 t) (by kernel_rfl)) (d5 (l6.k (by kernel_rfl)) (d5 (l6.k (by kernel_rfl)) (d5 (l6.plain (cs:=n8 (l.take k)++j4 A8 0 (el (r8 l k))) (b:=.r 42 258 6) (by kernel_rfl) (xD hlt) (i9 _) (by kernel_rfl)) trivial)))))));exact (a6n l x y t hl hb m (k+1) (by omega) (by omega) K hK)|(with_reducible refine RoundTo.rk 9 [(6,some 8)] (rY l x y t (k+1)) ?_ ?_ ?_);kernel_rfl;exact (f5 (j:=0) rfl (v5.p (i9 l) (by kernel_rfl)) (f5 (j:=1) rfl (v5.k (by kernel_rfl)) (f5 (j:=2) rfl (v5.k (by kernel_rfl)) (f5 (j:=3) rfl (v5.p (j3 t) (by kernel_rfl)) (f5 (j:=4) rfl (v5.k (by kernel_rfl)) (f5 (j:=5) rfl (v5.k (by kernel_rfl)) (f5 (j:=8) rfl (v5.plain (cs:=n8 (l.take k)++j4 A8 0 (el (r8 l k))) (b:=.r 42 258 8) (by kernel_rfl) (xD hlt) (i9 _) (by kernel_rfl)) trivial)))))));exact (a6n l x y t hl hb m (k+1) (by omega) (by omega) K hK)|exact C2 _ (by omega) (by omega)
attribute [local irreducible] tl m7 n5 n8
theorem Hq:j6 prog 106:=fun args w=>by go_simp
def Vc (l:List TA) (x y:Int) (t:Nat->UInt8):Cz:={
 ct:=(fun f=>match f with
 |44=>some fun _ _=>fun | [.c (.agg l)]=>some {v:=bv (n5 (A1 l))}|_=>none
 |122=>some fun _ _=>fun | [.c (.agg l)]=>some {v:=.c (.agg (tl (m8 (A1 l))))}|_=>none
 |123=>Xx
 |_=>none)
 eq:=(fun t=>match t with
 |40=>some (fun xs ys=>match xs,ys with | [.v (.int _ a0),.v (.int _ a1)],[.v (.int _ b0),.v (.int _ b1)]=>(a0==b0&&a1==b1)|_,_=>false)
 |_=>none)
 sym:=[70],nf:=[(12,.c (.agg (tl t))),(13,.c (.agg (tl t))),(14,.c (.agg (tl t))),(15,bv false),(67,.c (.agg (tl t))),(68,.c (.agg (el ⟨x,y,t⟩)))],lp:=fun r=>match r with|6=>some (fun _ K=>K (.exit 0) (rY l x y t l.length))|_=>none,wh:=[26,38]}
theorem c7q (l:List TA) (x y:Int) (t:Nat->UInt8) (hl:l.length<=1023) (hb:S8 l x y) (hz:n5 t=false) (hc:m7 (m8 t) t=true):f4 prog 106 [.c (.agg [.o 0 l.length]),ag [li x,li y],.c (.agg (tl t))] [(0,⟨n8 l,.r 42 258 0⟩)] 1 (.c (.agg [.o 1 (l.length+1)])) [(1,⟨n8 l++el ⟨x,y,t⟩,.r 42 258 1⟩)] 1:=by
 refine Qo (cx:=Vc l x y t) rfl 8 (nm:=[6]) (nm2:=[8]) func106 (body:=Tryz.f106.body.getD .skip) rfl Hq (by unfold Q8;simp only[List.all_cons,List.all_nil,kD (i9 l) (show (BT.rn (x8 1 0 []) (.r 42 258 0)).isSome=true from rfl),Bool.and_true,Bool.true_and];kernel_rfl) (by unfold Q8;simp only[List.all_cons,List.all_nil,kD (i9 l) (show (BT.rn (x8 1 0 []) (.r 42 258 0)).isSome=true from rfl),Bool.and_true,Bool.true_and];kernel_rfl) rfl ?_
 apply u3 (q:=let a:=ag (List.take 256 (tl t));let b:=ag (tl t);let d:=ag (tl (m8 (A1 (tl t))));let e:=bv (n5 (A1 (tl t)));let f:=[Leaf.v (Value.slice none 0 0)];let g:=[Leaf.o 0 l.length];let h:=[li x,li y];let i:=(3,some (j9 (tl t) 38));let j:=(5,some (j9 f 26));let k:=ag (j4 (h++List.replicate 256 (l8 0)) 2 (tl t));let m:=el (TA.mk x y t);let n:=List.take l.length l;let s:=ag [Leaf.o 1 (l.length+1)];let u:=n8 n++j4 A8 0 m;let w:=o8 (n8 l++el (TA.mk x y t)) 42 258 1;let z:=[(6,l.length+1,false)];0=0/\1=1/\Le a b/\Kd 122 [] [ag (tl t)] [] 6 d [] 0/\Le d b/\0=0/\256=256/\Le a b/\Kd 44 [] [ag (tl t)] [] 6 e [] 0/\Le e (bv false)/\(l3 prog (gl 6 Tryz.f106) (St.mk [(10,i8 0),(9,bv false),(16,bv false),(8,bv false),(15,bv false),(14,ag (tl t)),(13,ag (tl t)),(12,ag (tl t)),(7,j7 5 0),(11,ag f),(6,j7 4 0),(5,j7 3 0),(4,j7 2 0),(3,j7 1 0),(0,ag g),(1,ag h),(2,ag (tl t))] [i,j,j,(4,some (j9 f 26)),i,(2,some (j9 h 40)),(1,some (j9 g 26)),(0,some (o8 (n8 l) 42 258 0))] 6 73 [3,5,5,4,3,2,1] 1) fun K=>K (Exit.exit 0) (rY l x y t l.length))/\(Le a b/\Le k (ag m)/\(n8 n).length=l.length*258/\258=258/\0=0/\1=1/\Le s s/\A5 (x8 1 0 [6]) (o8 u 42 258 6) w/\True)/\Le a b/\Le k (ag m)/\z=z/\fW prog 42 (l.length+1)/\(n8 n).length=l.length*258/\258=258/\0=0/\1=1/\Le s s/\A5 (x8 1 0 [8]) (o8 u 42 258 8) w/\True) (by kernel_rfl)
 with_reducible repeat' first|exact trivial|apply And.intro|apply HB.mk|intro _
 all_goals first|(with_reducible first|exact Le.refl _|rfl|exact Pt _ _ rfl _|exact Kn _ _ rfl _)|exact l3.rk [(6,none)] (rY l x y t 0) (by kernel_rfl) (f5 (j:=0) rfl (v5.p (i9 l) (by kernel_rfl)) (f5 (j:=1) rfl (v5.k (by kernel_rfl)) (f5 (j:=2) rfl (v5.k (by kernel_rfl)) (f5 (j:=3) rfl (v5.p (j3 t) (by kernel_rfl)) (f5 (j:=4) rfl (v5.k (by kernel_rfl)) (f5 (j:=5) rfl (v5.lsB (xs:=[.v (.slice none 0 0)]) (by kernel_rfl) (aY.cons (gT.nil (show 6<7 by decide) rfl) aY.nil)) (G0.k (by kernel_rfl)))))))) (fun K hT=>a6n l x y t (by omega) hb _ 0 rfl (Nat.zero_le _) K hT)|exact Le.of (congrArg (fun l=>SV.c (.agg l)) (a7o hc))|exact Le.of (congrArg (fun l=>SV.c (.agg l)) (t7 _))|exact Le.bool (by rw[J0,hz])|exact Le.of (congrArg (fun l=>SV.c (.agg l)) (bW _ _ _))|exact apB (bytes:=272) (by kernel_rfl) (by omega)|rw[C6,take_len l (Nat.le_refl _)];omega|exact A5.plain (Nd l ⟨x,y,t⟩) ((i9 l).append (I3 _)) (by kernel_rfl)
end Ab
end
section
namespace Ab
theorem b6q (l:List TA) (x y:Int) (t:Nat->UInt8) (hl:l.length<=1023) (hb:S8 l x y) (hz:n5 t=false) (hc:m7 (m8 t) t=true) (id n:Nat) (hi:id<n) :
  f4 prog 106 [.c (.agg [.o id l.length]),ag [li x,li y],.c (.agg (tl t))] [(id,⟨n8 l,.r 42 258 id⟩)] n (.c (.agg [.o n (l.length+1)])) [(n,⟨n8 l++el ⟨x,y,t⟩,.r 42 258 n⟩)] 1:=by
 have key:=f4.at1 (c7q l x y t hl hb hz hc) id n hi
 have e1:=j5 (σ:=sG id n) (i9 l)
 have e2:=j5 (σ:=sG id n) (j3 t)
 have e3:=j5 (σ:=sG id n) ((i9 l).append (I3 ⟨x,y,t⟩))
 simp only[List.map_cons,List.map_nil,n6.ren,SV.ren,Cp.ren,Leaf.ren,e1,e2,e3] at key
 exact key
def b7t (S:St) (i:Nat) (x y:Int) (c:List Leaf) (n:Nat):n6:=match S.blk i with|some k=>⟨k.cs++(li x::li y::c),.r 42 258 n⟩|none=>⟨[],.t 0⟩
attribute [local irreducible] tl m7 n5 n8
theorem cC {l:List TA} {x y:Int} {t:Nat->UInt8} (hg:Good l) (hl:l.length<=1023) (hb:S8 l x y) (hi:tV x y=true) (hz:n5 t=false) (hc:m7 (m8 t) t=true):Good (l++[⟨x,y,t⟩]):=by
 have a1:∀k,k<l.length->r8 (l++[⟨x,y,t⟩]) k=r8 l k:=fun k hk=>by unfold r8;rw[List.getD_eq_getElem?_getD,List.getD_eq_getElem?_getD,List.getElem?_append_left hk]
 have a2:r8 (l++[⟨x,y,t⟩]) l.length=⟨x,y,t⟩:=by unfold r8;simp
 have hlen:(l++[(⟨x,y,t⟩:TA)]).length=l.length+1:=by simp
 refine ⟨by omega,fun k hk=>?_,fun k hk=>?_,fun k hk=>?_,fun k hk=>?_⟩
 ·rcases Nat.lt_or_ge k l.length with h|h
  ·rw[a1 k h];exact hg.inn k h
  ·rw[show k=l.length by omega,a2];exact hi
 ·rcases Nat.lt_or_ge k l.length with h|h
  ·rw[a1 k h];exact hg.nz k h
  ·rw[show k=l.length by omega,a2];exact hz
 ·rcases Nat.lt_or_ge k l.length with h|h
  ·rw[a1 k h];exact hg.cl k h
  ·rw[show k=l.length by omega,a2];exact hc
 ·rcases Nat.lt_or_ge (k+1) l.length with h|h
  ·rw[a1 k (by omega),a1 (k+1) h];exact hg.ord k h
  ·rw[show k+1=l.length by omega,a2,a1 k (by omega)];exact hb k (by omega)
theorem b6m (l:List TA) (x y:Int) (t:Nat->UInt8) (hl:l.length<=1023) (id n:Nat) (hi:id<n):f4 prog 105 [.c (.agg [.o id (l.length+1)])] [(id,⟨n8 l++el ⟨x,y,t⟩,.r 42 258 id⟩)] n (.c (.agg [.o id (l.length+1),li 0])) [] 0:=by
 have key:=c1u (l++[⟨x,y,t⟩]) (by simp;omega) id n hi
 rw[T5,fO] at key
 simpa using key
def a6x (l:List TA) (x y:Int) (t:Nat->UInt8):Cz:={
 ct:=(fun f=>match f with
 |99=>some fun _ _=>fun | [.c (.agg [.o i m])]=>some {v:=.c (.agg [.o i m]),rd:=[i]}|_=>none
 |104=>some fun _ _=>fun | [.c (.agg [.v (.int _ ax),.v (.int _ ay)])]=>some {v:=bv (tV ax ay)}|_=>none
 |105=>some fun _ _=>fun | [.c (.agg [.o i m])]=>some {v:=.c (.agg [.o i m,li 0]),rd:=[i]}|_=>none
 |106=>some fun _ _S=>fun | [.c (.agg [.o i m]),.c (.agg [.v (.int _ x),.v (.int _ y)]),.c (.agg c)]=>some {v:=.c (.agg [.o _S.n (m+1)]),rd:=[i],wr:=[(_S.n,b7t _S i x y c _S.n)],nw:=1}|_=>none
 |_=>none)
 nf:=[(8,bv true),(9,bv false),(14,.c (.agg (tl t)))],wh:=[96]}
theorem C45 (l:List TA) (x y:Int) (t:Nat->UInt8) (hg:Good l) (hl:l.length<=1023) (hb:S8 l x y) (hi:tV x y=true) (hz:n5 t=false) (hc:m7 (m8 t) t=true):f4 prog 45 [.c (.agg [.o 0 l.length]),ag [li x,li y],.c (.agg (tl t))] [(0,⟨n8 l,.r 42 258 0⟩)] 1 (.c (.agg [.o 1 (l.length+1),li 0])) [(1,⟨n8 l++el ⟨x,y,t⟩,.r 42 258 1⟩)] 1:=by
 refine E3 (q:=let a:=[Leaf.o 0 l.length];let b:=[(0,o8 (n8 l) 42 258 0)];let c:=l.length+1;let d:=(n8 l++li x::li y::tl t);let e:=[(5,o8 d 42 258 5)];let f:=(ag [Leaf.o 1 c,li 0]);Kd 104 [] [ag [li x,li y]] [] 5 (bv (tV x y)) [] 0/\Le (bv (tV x y)) (bv true)/\Le (bv !true) (bv false)/\Kd 99 [] [ag a] b 5 (ag a) [] 0/\Le (ag (List.take 256 (tl t))) (ag (tl t))/\Kd 106 [] [ag a,ag [li x,li y],ag (tl t)] b 5 (ag [Leaf.o 5 c]) e 1/\Kd 105 [] [ag [Leaf.o 5 c]] e 6 (ag [Leaf.o 5 c,li 0]) [] 0/\0=0/\2=2/\Le f f/\A5 (x8 1 0 [5]) (o8 d 42 258 5) (o8 (n8 l++el (TA.mk x y t)) 42 258 1)/\True) (a6x l x y t) [5] func45 (iB (i9 l) (by kernel_rfl)) (by kernel_rfl) ?_
 with_reducible repeat' first|exact trivial|apply And.intro|apply HB.mk|intro _
 all_goals first|(with_reducible first|exact Le.refl _|rfl|exact b3o _ hg _ _ (by omega)|exact c6j _ _ _)|exact Le.bool hi|exact b6q l x y t hl hb hz hc _ _ (by omega)|exact Le.bool rfl|exact Le.of (congrArg (fun l=>SV.c (.agg l)) (t7 _))|exact b6m l x y t hl _ _ (by omega)|exact A5.plain rfl ((i9 l).append (I3 _)) (by kernel_rfl)
end Ab
end
section
namespace Ab
theorem d1l (l:List TA) (x y:Int) (t:Nat->UInt8) (hg:Good l) (hl:l.length<=1023) (hb:S8 l x y) (hi:tV x y=true) (hz:n5 t=false) (hc:m7 (m8 t) t=true) (id n:Nat) (hid:id<n) :
  f4 prog 45 [.c (.agg [.o id l.length]),ag [li x,li y],.c (.agg (tl t))] [(id,⟨n8 l,.r 42 258 id⟩)] n (.c (.agg [.o n (l.length+1),li 0])) [(n,⟨n8 l++el ⟨x,y,t⟩,.r 42 258 n⟩)] 1:=by
 have key:=f4.at1 (C45 l x y t hg hl hb hi hz hc) id n hid
 have e1:=j5 (σ:=sG id n) (i9 l)
 have e2:=j5 (σ:=sG id n) (j3 t)
 have e3:=j5 (σ:=sG id n) ((i9 l).append (I3 ⟨x,y,t⟩))
 simp only[List.map_cons,List.map_nil,n6.ren,SV.ren,Cp.ren,Leaf.ren,e1,e2,e3] at key
 exact key
def lsI (l:List Leaf):List Int:=l.map fun x=>match x with | .v (.int _ n)=>n|_=>0
def M43 (S:St) (i o y:Nat):List Leaf:=match S.blk i with|some k=>tl (aR (lsI k.cs) o y)|none=>[]
def tM (s:List Int) (k:Nat):Nat->UInt8:=bif o6 (s.getD k 0) 4==0 then aR s k 1 else aR s k (s.length-k)
def pX (s:List Int) (k:Nat):Int:=((k:Nat):Int)-2+3*o6 (s.getD 0 0) 2
def pY (k:Nat):Int:=((k:Nat):Int).tdiv 2
def C0 (s:List Int):Nat->List TA
 |0=>[]
 |k+1=>bif n5 (tM s k) then C0 s k else C0 s k++[⟨pX s k,pY k,tM s k⟩]
def F2 (s:List Int):Nat:=min s.length 6
def Zp (p:Nat) (s:List Int) (k:Nat):St:=⟨[(4,iv .i64 (k:Nat)),(3,.c (.l (.p 2 0))),(2,.c (.l (.p 1 0))),(0,.c (.l (.s 0 p s.length)))],[(0,some ⟨J8 p s,.q⟩),(1,some ⟨[.v (.slice none 0 0)],.t 26⟩),(2,some ⟨[.o 3 (C0 s k).length],.t 26⟩),(3,some ⟨n8 (C0 s k),.r 42 258 3⟩)],4,57,[3,2,1],(1)⟩
theorem vJ (p:Nat) (s:List Int):lsI (J8 p s)=List.replicate p 0++s:=by
 unfold lsI J8
 rw[List.map_append,List.map_replicate,List.map_map]
 exact congrArg _ (List.map_id s)
theorem vB (p:Nat) (s:List Int) (o n:Nat):aR (List.replicate p 0++s) (p+o) n=aR s o n:=by
 have hx:∀i,xM (List.replicate p 0++s) (p+o) n i=xM s o n i:=fun i=>by
  unfold xM
  rw[Nat.add_assoc,vW]
 have hy:∀i,yM (List.replicate p 0++s) (p+o) n i=yM s o n i:=fun i=>by
  unfold yM
  rw[hx i]
 funext i
 unfold aR
 rw[hy]
theorem d2a (p:Nat) (cs:List Leaf) (s:List Int) (h:cs=J8 p s) (o y:Nat) (h0:p<=o) (hn:0<y) (ho:o+y<=p+s.length) (hs:s.length<=20000000000000) (id n:Nat) (hi:id<n):f4 prog 43 [.c (.l (.s id o y))] [(id,⟨cs,.q⟩)] n (.c (.agg (tl (aR (lsI cs) o y)))) [] 0:=by
 subst h
 obtain ⟨z,rfl⟩:∃z,o=p+z:=⟨o-p,by omega⟩
 rw[vJ,vB];exact d1o p s z y hn (by omega) hs id n hi
theorem Zh (p:Nat) (s:List Int) {i:Nat} (h:p<=i) (h2:i<p+s.length):(J8 p s).getD i .u≠.u:=by
 obtain ⟨z,rfl⟩:∃z,i=p+z:=⟨i-p,by omega⟩
 exact Ru p s (by omega)
theorem c8z {s:List Int} {k:Nat} (h:(o6 (s.getD k 0) 4==0)=true):aR s k 1=tM s k:=by unfold tM;rw[h];rfl
theorem c8p {s:List Int} {k:Nat} (h:(o6 (s.getD k 0) 4==0)=false):aR s k (s.length-k)=tM s k:=by unfold tM;rw[h];rfl
theorem Qh (e x:UInt8):N7 (N7 e e) (N7 e x)=N7 e x:=by
 unfold N7
 by_cases h:e=0
 ·simp[h]
 ·simp[h]
theorem rG (s:List Int) (o n:Nat):m7 (m8 (aR s o n)) (aR s o n)=true:=by
 rw[B1]
 intro i hi
 unfold m8 aR
 have e1:(4*(i / 4)+3) / 4=i / 4:=by omega
 have e2:(4*(i / 4)+3) % 4=3:=by omega
 rw[e1,e2]
 unfold Ah
 exact Qh _ _
theorem zV (s:List Int) (k:Nat):m7 (m8 (tM s k)) (tM s k)=true:=by
 unfold tM
 cases o6 (s.getD k 0) 4==0
 ·exact rG _ _ _
 ·exact rG _ _ _
theorem sF (s:List Int):∀k,∀e∈C0 s k,∃j,j<k/\e.X=pX s j/\e.Y=pY j
 |0,e,h=>by cases h
 |k+1,e,h=>by
  unfold C0 at h
  cases hz:n5 (tM s k) with
  |true=>
   rw[hz] at h
   obtain ⟨j,hj,h1⟩:=sF s k e h
   exact ⟨j,by omega,h1⟩
  |false=>
   rw[hz] at h
   rcases List.mem_append.1 h with h|h
   ·obtain ⟨j,hj,h1⟩:=sF s k e h
    exact ⟨j,by omega,h1⟩
   ·rw[List.mem_singleton] at h
    subst h
    exact ⟨k,Nat.lt_succ_self k,rfl,rfl⟩
theorem Cu {l:List TA} {k:Nat} (h:k<l.length):r8 l k∈l:=List.mem_of_getElem? (Dl h)
theorem Ee (k:Nat):pY k=((k / 2:Nat):Int):=by
 unfold pY
 rw[Int.tdiv_eq_ediv_of_nonneg (by omega)];rfl
theorem mJ (s:List Int) (k:Nat):S8 (C0 s k) (pX s k) (pY k):=fun i hi=>by
 obtain ⟨j,hj,h1,h2⟩:=sF s k _ (Cu hi)
 rw[h1,h2,Ee,Ee]
 unfold pX
 omega
theorem lB (s:List Int):∀k,(C0 s k).length<=k
 |0=>Nat.le_refl _
 |k+1=>by
  unfold C0
  have:=lB s k
  cases n5 (tM s k)
  ·show (C0 s k++_).length<=_
   rw[List.length_append];exact Nat.add_le_add_right this 1
  ·exact Nat.le_succ_of_le this
theorem c0c (x:Int):0<=o6 x 2/\o6 x 2<2:=by
 have:=cQ (x:=x) (n:=2) (by decide) (by decide)
 exact ⟨this.1,this.2.1⟩
theorem b7h (s:List Int) {k:Nat} (hk:k<6) : -2<=pX s k/\pX s k<=6:=by
 have:=c0c (s.getD 0 0)
 unfold pX
 omega
theorem Kz (s:List Int) {k:Nat} (hk:k<6):tV (pX s k) (pY k)=true:=by
 have:=b7h s hk
 rw[Ee]
 exact decide_eq_true (by omega)
theorem eT (s:List Int):∀k,k<=6->Good (C0 s k)
 |0,_=>⟨Nat.zero_le 1024,fun k h=>absurd h (Nat.not_lt_zero k),fun k h=>absurd h (Nat.not_lt_zero k),fun k h=>absurd h (Nat.not_lt_zero k),fun k h=>absurd h (Nat.not_lt_zero _)⟩
 |k+1,hk=>by
  unfold C0
  have hg:=eT s k (by omega)
  cases hz:n5 (tM s k) with
  |true=>exact hg
  |false=>exact cC hg (by have:=lB s k;omega) (mJ s k) (Kz s (by omega)) hz (zV s k)
theorem a5m {s:List Int} {k:Nat} (h:(!(n5 (tM s k)))=false):C0 s (k+1)=C0 s k:=by
 rw[C0,bH h];rfl
theorem a5n {s:List Int} {k:Nat} (h:(!(n5 (tM s k)))=true):n8 (C0 s k)++el ⟨pX s k,pY k,tM s k⟩=n8 (C0 s (k+1))/\(C0 s k).length+1=(C0 s (k+1)).length:=by
 rw[C0,fF h]
 show _=n8 (C0 s k++_)/\_=(C0 s k++_).length
 rw[T5,fO,List.length_append]
 exact ⟨rfl,rfl⟩
attribute [local irreducible] tl m7 n5 n8 aR tM pX pY C0
theorem Ma (s:List Int) (k:Nat):(bif decide (((k:Nat):Int)<(s.length:Nat)) then decide (((k:Nat):Int)<6) else false)=decide (((k:Nat):Int)<(F2 s:Nat)):=by
 unfold F2
 by_cases h1:((k:Nat):Int)<(s.length:Nat)
 ·rw[decide_eq_true h1]
  show decide _=_
  exact decide_eq_decide.2 (by omega)
 ·rw[decide_eq_false h1]
  exact (decide_eq_false (by omega)).symm
def b6a:Rw:=some fun _ _=>fun | [.c (.l (.v (.int _ x))),.c (.l (.v (.int _ n)))]=>some {v:=iv .i64 (o6 x n)}|_=>none
def c6u:Rw:=some fun _ _=>fun | [.c (.agg l)]=>some {v:=bv (n5 (A1 l))}|_=>none
def a8e (p:Nat) (s:List Int) (k:Nat):Cz:={
 ct:=(fun f=>match f with
 |14=>b6a
 |43=>some fun _ _S=>fun | [.c (.l (.s i o y))]=>some {v:=.c (.agg (M43 _S i o y)),rd:=[i]}|_=>none
 |44=>c6u
 |45=>some fun _ _S=>fun | [.c (.agg [.o i m]),.c (.agg [.v (.int _ x),.v (.int _ y)]),.c (.agg c)]=>some {v:=.c (.agg [.o _S.n (m+1),li 0]),rd:=[i],wr:=[(_S.n,b7t _S i x y c _S.n)],nw:=1}|_=>none
 |_=>none)
 sym:=[0,25,26,40,41],nf:=[(16,bv (decide (((k:Nat):Int)<(F2 s:Nat)))),(22,.c (.agg (tl (aR s k (s.length-k))))),(26,iv .i64 (s.getD k 0)),(34,.c (.agg (tl (aR s k 1)))),(35,.c (.agg (tl (tM s k)))),(36,bv (n5 (tM s k))),(41,iv .i64 (s.getD 0 0)),(44,iv .i64 (pX s k)),(46,iv .i64 (pY k)),(52,.c (.agg (tl (tM s k))))],wh:=[26,38,40,96]}
theorem R11 (p:Nat) (s:List Int) (k:Nat)  (K:Exit->St->Prop) (h:let a:=(s.length:Int);let b:=((k:Int)<a);let d:=(decide ((k:Int)<(Nat.cast ((F2 s)):Int)));let e:=((k:Int));let f:=p+e.toNat*1;let g:=J8 p s;let i:=[(0,n6.mk g BT.q)];let j:=(ag (tl (aR (lsI g) f (a-(k:Int)).toNat)));let m:=tl (aR s k (s.length-k));let n:=s.getD k 0;let w:=((k:Int)+1);let x:=((k:Int)+1-(k:Int));let y:=ag (tl (aR (lsI g) f x.toNat));let z:=tl (aR s k 1);let A:=ag (List.take 256 z);let B:=tl (tM s k);let C:=bv (n5 (A1 B));let D:=bv (n5 (tM s k));let E:=p+Int.toNat 0*1;let G:=l4 (g.getD E Leaf.u);let H:=s.getD 0 0;let I:=((k:Int)-2+3*o6 H 2);let J:=e.tdiv 2;let L:=!n5 (tM s k);let M:=C0 s k;let N:=[Leaf.o 3 M.length];let O:=[li (pX s k),li (pY k)];let P:=[ag N,ag O,ag B];let Q:=[(3,o8 (n8 M) 42 258 3)];let R:=[Leaf.o 6 (M.length+1),li 0];let T:=(n8 M++li (pX s k)::li (pY k)::tl (tM s k));let U:=[(6,o8 T 42 258 6)];let V:=(A2 3 (Tryz.f11.body.getD Code.skip)).getD Code.skip;let W:=wkK 4 K;let X:=(0,l4 (Leaf.s 0 p s.length));let Y:=[X,(2,j7 1 0),(3,j7 2 0),(4,i8 w)];let Z:=(0,some (n6.mk g BT.q));let aa:=(1,some (j9 [Leaf.v (Value.slice none 0 0)] 26));let ab:=(2,some (j9 [Leaf.o 6 (M.length+1)] 26));let ac:=(3,some (o8 (n8 M) 42 258 3));let ad:=(4,some (j9 z 38));let ae:=(5,some (j9 O 40));let af:=(6,some (o8 T 42 258 6));let ah:=(7,some (j9 R 96));let ai:=(2,some (j9 N 26));let aj:=(6,none);let ak:=(7,none);let al:=ag (List.take 256 m);let am:=(4,some (j9 m 38));(decide b=true->decide b=true/\True)/\(decide b=true->decide b=true)/\Le (bv (bif decide b then decide ((k:Int)<6) else false)) (bv d)/\HB d (pR (k:Int) a a/\Kd 43 [] [l4 (Leaf.s 0 f (a-(k:Int)).toNat)] i 4 j [] 0/\Le j (ag m)/\256<=256/\0=0/\256=256/\t0 e s.length/\p+e.toNat*1<g.length/\g.getD f Leaf.u≠Leaf.u/\Le (l4 (g.getD f Leaf.u)) (i8 n)/\Kd 14 [] [i8 n,i8 4] [] 5 (i8 (o6 n 4)) [] 0/\HB (o6 n 4==0) (IntKind.i64.wrap w=(k:Int)+1/\pR e w a/\Kd 43 [] [l4 (Leaf.s 0 f x.toNat)] i 5 y [] 0/\Le y (ag z)/\256<=256/\0=0/\256=256/\Le A (ag B)/\Kd 44 [] [ag B] [] 5 C [] 0/\Le C D/\IntKind.i64.wrap ((k:Int)-2)=(k:Int)-2/\t0 0 s.length/\p+Int.toNat 0*1<g.length/\g.getD E Leaf.u≠Leaf.u/\Le G (i8 H)/\Kd 14 [] [i8 H,i8 2] [] 5 (i8 (o6 H 2)) [] 0/\IntKind.i64.wrap (3*o6 H 2)=3*o6 H 2/\IntKind.i64.wrap I=(k:Int)-2+3*o6 H 2/\Le (i8 I) (i8 (pX s k))/\(2:Int)≠0/\IntKind.i64.wrap J=e.tdiv 2/\Le (i8 J) (i8 (pY k))/\2<=2/\0=0/\2=2/\HB L (Le A (ag B)/\Kd 45 [] P Q 6 (ag R) U 1/\2<=2/\0=0/\2=2/\1<=1/\0=0/\1=1/\IntKind.i64.wrap w=(k:Int)+1/\RoundTo prog V 4 W (St.mk Y [Z,aa,ab,ac,ad,ae,af,ah] 8 57 [2,7,7,6,5,5,4,4,4,3,2,1] 1)) (IntKind.i64.wrap w=(k:Int)+1/\RoundTo prog V 4 W (St.mk Y [Z,aa,ai,ac,ad,ae,aj,ak] 6 57 [5,5,4,4,4,3,2,1] 1))) (Le al (ag B)/\Kd 44 [] [ag B] [] 5 C [] 0/\Le C D/\IntKind.i64.wrap ((k:Int)-2)=(k:Int)-2/\t0 0 s.length/\p+Int.toNat 0*1<g.length/\g.getD E Leaf.u≠Leaf.u/\Le G (i8 H)/\Kd 14 [] [i8 H,i8 2] [] 5 (i8 (o6 H 2)) [] 0/\IntKind.i64.wrap (3*o6 H 2)=3*o6 H 2/\IntKind.i64.wrap I=(k:Int)-2+3*o6 H 2/\Le (i8 I) (i8 (pX s k))/\(2:Int)≠0/\IntKind.i64.wrap J=e.tdiv 2/\Le (i8 J) (i8 (pY k))/\2<=2/\0=0/\2=2/\HB L (Le al (ag B)/\Kd 45 [] P Q 6 (ag R) U 1/\2<=2/\0=0/\2=2/\1<=1/\0=0/\1=1/\IntKind.i64.wrap w=(k:Int)+1/\RoundTo prog V 4 W (St.mk Y [Z,aa,ab,ac,am,ae,af,ah] 8 57 [2,7,7,6,5,5,4,4,3,2,1] 1)) (IntKind.i64.wrap w=(k:Int)+1/\RoundTo prog V 4 W (St.mk Y [Z,aa,ai,ac,am,ae,aj,ak] 6 57 [5,5,4,4,3,2,1] 1)))) (wkK 4 K (Exit.exit 0) (St.mk [X,(2,j7 1 0),(3,j7 2 0),(4,i8 (k:Int))] [Z,aa,ai,ac,(4,none),(5,none),aj,ak] 4 57 [3,2,1] 1))):z4 prog (gl 3 Tryz.f11) (Zp p s k) (wkK 4 K):=
 m5 [0,2,3,4] [0,1,2,3,4,5,6,7] (cx:=a8e p s k) rfl (u3 (by kernel_rfl) h)
theorem L11 (p:Nat) (s:List Int) (hs:s.length<=20000000000000):∀(m k:Nat),(F2 s)-k=m->k<=(F2 s)->∀(K:Exit->St->Prop),K (.exit 0) (Zp p s (F2 s))->z4 prog (gl 3 Tryz.f11) (Zp p s k) (wkK 4 K)
 |0,k,hm,hk,K,hK=>by
  have e:k=(F2 s):=by omega
  subst e
  refine R11 p s _ K ⟨fun h=>⟨h,trivial⟩,⟨fun h=>h,⟨Le.bool (Ma s _),(HB.no (by omega) ?_)⟩⟩⟩
  exact wkK.tk (Zp p s _) (by kernel_rfl) (d5 (l6.fix (cs:=J8 p s) (b:=.q) (by kernel_rfl) (rfl) (E9 p s) (by kernel_rfl)) (d5 (l6.k (by kernel_rfl)) (d5 (l6.k (by kernel_rfl)) (d5 (l6.p (i9 _) (by kernel_rfl)) trivial)))) hK
 |m+1,k,hm,hk,K,hK=>by
  refine R11 p s k K ⟨fun h=>⟨h,trivial⟩,⟨fun h=>h,⟨Le.bool (Ma s _),(HB.yes (by omega) ?_)⟩⟩⟩
  have hlt:k<(F2 s):=by omega
  have hk1:k<s.length:=Nat.lt_of_lt_of_le hlt (Nat.min_le_left _ _)
  have hk6:k<6:=Nat.lt_of_lt_of_le hlt (Nat.min_le_right _ _)
  have hY:((k:Nat):Int).tdiv 2=((k / 2:Nat):Int):=by rw[<-Ee];unfold pY;rfl
  with_reducible repeat' first|exact trivial|apply And.intro|apply HB.mk|intro _|rfl
  all_goals first|(with_reducible refine Iu _ _ ?_ ?_ _)<;>omega|(with_reducible refine d2a p _ s rfl _ _ ?_ ?_ ?_ ?_ _ _ ?_)<;>omega|with_reducible exact Pt _ _ rfl _|unfold pR;omega|(exact ⟨by omega,by omega⟩)|exact Le.of (by rw[vJ,show p+((k:Nat):Int).toNat*1=p+k by omega,vB,show (((s.length:Nat):Int)-((k:Nat):Int)).toNat=s.length-k by omega])|exact Le.of (by rw[vJ,show p+((k:Nat):Int).toNat*1=p+k by omega,vB,show (((k:Nat):Int)+1-((k:Nat):Int)).toNat=1 by omega])|rw[Gc];omega|refine Zh p s ?_ ?_<;>omega|exact Le.of (congrArg (fun l=>SV.c (.l l)) (by rw[show p+((k:Nat):Int).toNat*1=p+k by omega];exact tU p s hk1))|exact Le.of (congrArg (fun l=>SV.c (.l l)) (tU p s (i:=0) (by omega)))|exact Le.of (congrArg (fun l=>SV.c (.agg l)) ((t7 _).trans (by rw[c8z (by with_reducible assumption)])))|exact Le.of (congrArg (fun l=>SV.c (.agg l)) ((t7 _).trans (by rw[c8p (by with_reducible assumption)])))|exact Le.bool (by rw[J0])|have:=c0c (s.getD 0 0);exact C2 _ (by omega) (by omega)|exact Le.int (by unfold pX;rfl)|exact Le.int (by unfold pY;rfl)|exact d1l _ _ _ _ (eT s k (by omega)) (by have:=lB s k;omega) (mJ s k) (Kz s hk6) (fF (by with_reducible assumption)) (zV s k) _ _ (by omega)|omega|have hcnd:(!n5 (tM s k))=false:=(by with_reducible assumption);(with_reducible refine RoundTo.tk 6 (Zp p s (k+1)) ?_ ?_ ?_);kernel_rfl;exact (d5 (l6.fix (cs:=J8 p s) (b:=.q) (by kernel_rfl) (rfl) (E9 p s) (by kernel_rfl)) (d5 (l6.k (by kernel_rfl)) (d5 (l6.blk (k:=⟨[.o 3 (C0 s k).length],.t 26⟩) (by kernel_rfl) (by rw[a5m hcnd]) (by kernel_rfl)) (d5 (l6.plain (cs:=n8 (C0 s k)) (b:=.r 42 258 3) (by kernel_rfl) (by rw[a5m hcnd]) (i9 _) (by kernel_rfl)) trivial))));exact (L11 p s hs m (k+1) (by omega) (by omega) K hK)|have hcnd:(!n5 (tM s k))=true:=(by with_reducible assumption);(with_reducible refine RoundTo.rk 8 [(3,some 6)] (Zp p s (k+1)) ?_ ?_ ?_);kernel_rfl;exact (f5 (j:=0) rfl (v5.fix (cs:=J8 p s) (b:=.q) (by kernel_rfl) (rfl) (E9 p s) (by kernel_rfl)) (f5 (j:=1) rfl (v5.k (by kernel_rfl)) (f5 (j:=2) rfl (v5.blk (k:=⟨[.o 6 ((C0 s k).length+1)],.t 26⟩) (k'':=⟨[.o 3 ((C0 s k).length+1)],.t 26⟩) (by kernel_rfl) (by kernel_rfl) (by rw[(a5n hcnd).2])) (f5 (j:=6) rfl (v5.plain (cs:=n8 (C0 s k)++el ⟨pX s k,pY k,tM s k⟩) (b:=.r 42 258 6) (by kernel_rfl) ((a5n hcnd).1) (i9 _) (by kernel_rfl)) trivial))));exact (L11 p s hs m (k+1) (by omega) (by omega) K hK)
end Ab
end
section
namespace Ab
attribute [local irreducible] tl m7 n5 n8 aR tM pX pY C0
theorem Rn:j6 prog 11:=fun args w=>by go_simp
def a6j (p:Nat) (s:List Int):Cz:={
 ct:=(fun f=>match f with
 |14=>b6a
 |44=>c6u
 |_=>none)
 lp:=fun r=>match r with|3=>some (fun _ K=>K (.exit 0) (Zp p s (F2 s)))|_=>none,wh:=[26,38,40,96]}
theorem C11 (p:Nat) (s:List Int) (hs:s.length<=20000000000000):f4 prog 11 [.c (.l (.s 0 p s.length))] [(0,⟨J8 p s,.q⟩)] 1 (.c (.agg [.o 1 (C0 s (F2 s)).length])) [(1,⟨n8 (C0 s (F2 s)),.r 42 258 1⟩)] 1:=by
 refine lY (cx:=a6j p s) (nm:=[3]) rfl func11 (body:=Tryz.f11.body.getD .skip) rfl Rn (by unfold Q8;simp only[List.all_cons,List.all_nil,gW (E9 p s) (show (BT.rn (x8 1 0 []) (.q)).isSome=true from rfl),Bool.and_true,Bool.true_and];kernel_rfl) ?_
 apply u3 (q:=let a:=j9 [Leaf.v (Value.slice none 0 0)] 26;let b:=ag [Leaf.o 1 (C0 s (F2 s)).length];let d:=n8 (C0 s (F2 s));(l3 prog (gl 3 Tryz.f11) (St.mk [(4,i8 0),(3,j7 2 0),(2,j7 1 0),(0,l4 (Leaf.s 0 p s.length))] [(2,some a),(1,some a),(0,some (n6.mk (J8 p s) BT.q))] 3 57 [2,1] 1) fun K=>K (Exit.exit 0) (Zp p s (F2 s)))/\0=0/\1=1/\Le b b/\A5 (x8 1 0 [3]) (o8 d 42 258 3) (o8 d 42 258 1)/\True) (by kernel_rfl)
 with_reducible repeat' first|exact trivial|apply And.intro|apply HB.mk|intro _|exact Le.refl _|rfl
 all_goals first|exact l3.rk [(3,none)] (Zp p s 0) (by kernel_rfl) (f5 (j:=0) rfl (v5.fix (cs:=J8 p s) (b:=.q) (by kernel_rfl) (rfl) (E9 p s) (by kernel_rfl)) (f5 (j:=1) rfl (v5.k (by kernel_rfl)) (f5 (j:=2) rfl (v5.lsB (xs:=[.v (.slice none 0 0)]) (by kernel_rfl) (aY.cons (by show gT _ 4 _ (.o 3 (C0 s 0).length);rw[show (C0 s 0).length=0 by unfold C0;rfl];exact gT.nil (show 3<4 by decide) rfl) aY.nil)) (G0.k (by kernel_rfl))))) (fun K hT=>L11 p s hs _ 0 rfl (Nat.zero_le _) K hT)|exact A5.plain rfl (i9 _) (by kernel_rfl)
end Ab
end
section
namespace Ab
theorem j8.nil_o {P:Program} {f:Nat} {dc:List (Nat×Nat×Bool)} {args:List SV} {H:List (Nat×n6)} {n:Nat} (h:j8 P f dc args H n (.c (.agg [.v (.slice none 0 0)])) [] 0) (bk:n6) :
  j8 P f dc args H n (.c (.agg [.o n 0])) [(n,bk)] 1:=by
 refine ⟨h.1,fun β x vals ha hi hl hn hb hd=>(h.2 β x vals ha hi hl (fun id h1 h2=>by omega) hb hd).mono ?_⟩
 rintro e x' ⟨y,β',rfl,D⟩
 have hnn:=hn n (Nat.le_refl _) (by omega)
 have hb0:∀b,β' n≠some b:=fun b hb=>by
  rcases D.new n b hb with h1|⟨_,h1,_⟩
  ·rw[hnn.1] at h1;cases h1
  ·omega
 refine ⟨y,⟨β'.b,fun i=>if i=n then some 0 else β'.c i⟩,rfl,?_,⟨D.ext.b,fun i v hv=>?_⟩,fun i b hb=>?_,fun i v hv=>?_,D.inj,D.lt,D.os,D.tape,D.output,D.size,fun k hk _=>D.keep k hk (fun _ _=>rfl),fun i b k hb hk=>?_⟩
 ·obtain ⟨ys,e1,hd1⟩:=D.den
  refine ⟨ys,e1,?_⟩
  match ys,hd1 with
  |[z],⟨h1,_⟩=>exact ⟨.inl ⟨rfl,if_pos rfl,h1.1⟩,trivial⟩
 ·show (if i=n then some 0 else β'.c i)=some v
  by_cases e1:i=n
  ·subst e1;rw[hnn.2] at hv;cases hv
  ·rw[if_neg e1];exact D.ext.c i v hv
 ·rcases D.new i b hb with h1|⟨h1,h2,h3⟩
  ·exact .inl h1
  ·omega
 ·by_cases e1:i=n
  ·exact .inr (by omega)
  ·have hv:(if i=n then some 0 else β'.c i)=some v:=hv
   rw[if_neg e1] at hv
   rcases D.newc i v hv with h1|⟨h1,h2⟩
   ·exact .inl h1
   ·omega
 ·obtain ⟨rfl,rfl⟩:=a9g hk
  exact absurd hb (hb0 b)
end Ab
end
section
namespace Ab
def Yi (o:Option Addr) (c:Nat):Cz:={
 ct:=fun _=>none
 un:=3,wh:=[26,38,40,96]}
theorem d0r (o:Option Addr) (c:Nat)  : f4 prog 11 [.c (.l (.v (.slice o 0 c)))] [(0,⟨J8 0 [],.q⟩)] 1 (.c (.agg [.v (.slice none 0 0)])) [] 0:=by
 refine E3 (q:=let a:=(0<(Nat.cast 0:Int));let b:=ag [Leaf.v (Value.slice none 0 0)];(decide a=true->decide a=true/\True)/\(decide a=true->decide a=true)/\0=0/\1=1/\Le b b/\True) (Yi o c) [] func11 (by kernel_rfl) (by kernel_rfl) ?_
 with_reducible repeat' first|exact trivial|apply And.intro|apply HB.mk|intro _
 all_goals first|assumption|(with_reducible first|exact Le.refl _|rfl)
theorem c7o (o:Option Addr) (c:Nat):f4 prog 11 [.c (.l (.v (.slice o 0 c)))] [(0,⟨J8 0 [],.q⟩)] 1 (.c (.agg [.o 1 (C0 [] (F2 [])).length])) [(1,⟨n8 (C0 [] (F2 [])),.r 42 258 1⟩)] 1:=
 j8.nil_o (d0r o c) _
theorem Ko:Good []:=eT [] 0 (Nat.zero_le 6)
attribute [local irreducible] Oct.M.sum n8
end Ab
end
section
namespace Ab
def yH (a b c e:UInt8) (k:Nat):St:=⟨[(4,iv .i64 (k:Nat)),(1,.c (.l (.p 0 0))),(2,.c (.l (.p 1 0))),(3,.c (.l (.p 2 0)))],[(0,some ⟨[ub a,ub b,ub c,ub e],.t 36⟩),(1,some ⟨tl zT,.t 38⟩),(2,some ⟨tl (C4 k (A6 a b c e) zT),.t 38⟩)],3,14,[2,1,0],(0)⟩
def a1x (a b c e:UInt8) (k:Nat):Cz:={
 ct:=fun _=>none
 sym:=[0,10,12]}
theorem b7j (a b c e:UInt8) (k:Nat)  (K:Exit->St->Prop) (h:let d:=((k:Int));let f:=[l8 (a.toNat:Int),l8 (b.toNat:Int),l8 (c.toNat:Int),l8 (e.toNat:Int)];let g:=(0,some (j9 f 36));let i:=(1,some (j9 (tl zT) 38));let j:=tl (C4 k (A6 a b c e) zT);HB (decide ((k:Int)<64)) (t0 d 64/\0+d.toNat*4+4<=256/\IntKind.i64.wrap ((k:Int)+1)=(k:Int)+1/\RoundTo prog (gl 3 Tryz.f161) 3 (wkK 3 K) (St.mk [(1,j7 0 0),(2,j7 1 0),(3,j7 2 0),(4,i8 ((k:Int)+1))] [g,i,(2,some (j9 (j4 j (0+d.toNat*4) f) 38))] 3 14 [2,2,1,0] 0)) (wkK 3 K (Exit.exit 0) (St.mk [(1,j7 0 0),(2,j7 1 0),(3,j7 2 0),(4,i8 (k:Int))] [g,i,(2,some (j9 j 38))] 3 14 [2,1,0] 0))):z4 prog (gl 3 Tryz.f161) (yH a b c e k) (wkK 3 K):=
 m5 [1,2,3,4] [0,1,2] (cx:=a1x a b c e k) rfl (u3 (by kernel_rfl) h)
theorem c3w (a b c e:UInt8)  : ∀(m k:Nat),64-k=m->k<=64->∀(K:Exit->St->Prop),K (.exit 0) (yH a b c e 64)->z4 prog (gl 3 Tryz.f161) (yH a b c e k) (wkK 3 K)
 |0,k,hm,hk,K,hK=>by
  have e:k=64:=by omega
  subst e
  refine b7j a b c e _ K (HB.no (by omega) ?_)
  exact wkK.tk (yH a b c e _) (by kernel_rfl) (d5 (l6.k (by kernel_rfl)) (d5 (l6.p (j3 _) (by kernel_rfl)) (d5 (l6.p (j3 _) (by kernel_rfl)) trivial))) hK
 |m+1,k,hm,hk,K,hK=>by
  refine b7j a b c e k K (HB.yes (by omega) ?_)
  have hlt:k<64:=by omega
  with_reducible repeat' first|exact trivial|apply And.intro|apply HB.mk|intro _
  all_goals first|(exact ⟨by omega,by omega⟩)|omega|(with_reducible refine RoundTo.tk 3 (yH a b c e (k+1)) ?_ ?_ ?_);kernel_rfl;exact (d5 (l6.k (by kernel_rfl)) (d5 (l6.p (j3 _) (by kernel_rfl)) (d5 (l6.plain (cs:=j4 (tl (C4 k (A6 a b c e) zT)) (0+k*4) [ub a,ub b,ub c,ub e]) (b:=.t 38) (by kernel_rfl) (by rw[Nat.zero_add,Fq a b c e k,M4 k _ _ hlt]) (j3 _) (by kernel_rfl)) trivial)));exact (c3w a b c e  m (k+1) (by omega) (by omega) K hK)|exact C2 _ (by omega) (by omega)
def a4j (a b c e:UInt8):Cz:={
 ct:=fun _=>none
 nf:=[(13,.c (.agg (tl (A6 a b c e))))],lp:=fun r=>match r with|3=>some (fun _ K=>K (.exit 0) (yH a b c e 64))|_=>none,wh:=[38]}
theorem c7j (a b c e:UInt8)  (n:Nat):f4 prog 161 [ag [ub a,ub b,ub c,ub e]] [] n (.c (.agg (tl (A6 a b c e)))) [] 0:=by
 refine v6 (q:=let d:=[l8 (a.toNat:Int),l8 (b.toNat:Int),l8 (c.toNat:Int),l8 (e.toNat:Int)];let f:=(2,some (j9 o7 38));let g:=ag (tl (A6 a b c e));0=0/\256=256/\(l3 prog (gl 3 Tryz.f161) (St.mk [(4,i8 0),(3,j7 2 0),(5,ag o7),(2,j7 1 0),(1,j7 0 0),(0,ag d)] [f,f,(1,some (j9 o7 38)),(0,some (j9 d 36))] 3 14 [2,2,1,0] 0) fun K=>K (Exit.exit 0) (yH a b c e 64))/\Le (ag (List.take 256 (tl (C4 64 (A6 a b c e) zT)))) g/\0=0/\256=256/\Le g g/\True) (a4j a b c e) func161 n (by kernel_rfl) (by kernel_rfl) ?_
 with_reducible repeat' first|exact trivial|apply And.intro|apply HB.mk|intro _|rfl
 all_goals first|exact l3.tk (yH a b c e 0) (by kernel_rfl) (d5 (l6.k (by kernel_rfl)) (d5 (l6.plain (cs:=o7) (b:=.t 38) (by kernel_rfl) (q9) (j3 _) (by kernel_rfl)) (d5 (l6.plain (cs:=o7) (b:=.t 38) (by kernel_rfl) (by rw[L7];exact q9) (j3 _) (by kernel_rfl)) trivial))) (fun K hT=>c3w a b c e  _ 0 rfl (by first|decide|omega) K hT)|refine Le.of ?_;rw[T7,t7]|exact Le.of (by kernel_rfl)
theorem a5l (a b c e:UInt8) (n:Nat):f4 prog 161 [ag [ub a,ub b,ub c,ub e]] [] n (.c (.agg (tl (A6 (C9 (a.toNat:Nat)) (C9 (b.toNat:Nat)) (C9 (c.toNat:Nat)) (C9 (e.toNat:Nat)))))) [] 0:=by
 rw[v8,v8,v8,v8];exact c7j a b c e n
end Ab
end
section
namespace Ab
def G4 (x:Leaf) (p:Nat) (s:List Int):Prop:=s.length<=20000000000000/\(x=.s 0 p s.length\/(s=[]/\p=0/\∃o c,x=.v (.slice o 0 c)))
theorem G4.lt {x:Leaf} {p:Nat} {s:List Int} (h:G4 x p s):vL 1 (.c (.l x))=true:=by
 rcases h.2 with rfl|⟨_,_,o,c,rfl⟩<;>rfl
theorem Hd {P:Program} {f:Nat} {pre post:List SV} {vp vq:List Value} (ha:Ra pre=some vp) (hb:Ra post=some vq)
  (h:∀x p s,G4 x p s->f4 P f (pre++.c (.l x)::post) [(0,⟨J8 p s,.q⟩)] 1 (bv true) [] 0)
  (o:Option Addr) (zs:List Int) (n c:Nat) (w:World) (w0:n*8<=140737488351232) (hn:zs.length=n) (hcap:n<=c)
  (hc:∀i (h:i<zs.length),∃a,o=some a/\a.block<w.heap.size/\w.cell? (a.add i)=some (.int .i64 zs[i])) :
  Calls P f (vp++.slice o n c::vq).toArray w fun e w'=>e=.returned (.bool true)/\Below w.heap.size w w':=by
 have fin:∀(β:Bt) (x:Leaf) (p:Nat) (s:List Int),G4 x p s->x.den β (.slice o n c)->(∀i j b,β i=some b->β j=some b->i=j)->(∀i b,β i=some b->b<w.heap.size)->(∀i,1<=i->β i=none/\β.c i=none)->(∀b,β 0=some b->y9 β w b ⟨J8 p s,.q⟩)->
   Calls P f (vp++.slice o n c::vq).toArray w fun e w'=>e=.returned (.bool true)/\Below w.heap.size w w':=by
  intro β x p s hx hd hinj hlt hno hbk
  have hden:r9 (SV.den β) (pre++.c (.l x)::post) (vp++.slice o n c::vq):=((U9 ha β vp).2 rfl).append ⟨hd,(U9 hb β vq).2 rfl⟩
  refine ((h x p s hx).2 β w _ hden hinj hlt (fun id h1 _=>hno id h1) (fun id b k hb hk=>?_) (fun _ h=>by cases h)).mono ?_
  ·cases id with
   |zero=>
    have:k=⟨J8 p s,.q⟩:=by
     have e:lk [(0,(⟨J8 p s,.q⟩:n6))] 0=some ⟨J8 p s,.q⟩:=o5 _ _ _
     rw[e] at hk;exact (Option.some.inj hk).symm
    subst this;exact hbk b hb
   |succ i=>rw[(hno (i+1) (by omega)).1] at hb;cases hb
  ·rintro e x' ⟨z,β',rfl,hD⟩
   refine ⟨by rw[(SV.pl_iff (x:=bv true) (y:=.bool true) rfl β' z).1 hD.den],hD.os,hD.tape,hD.output,hD.size,fun k hk=>hD.keep k hk fun id _=>rfl⟩
 cases zs with
 |nil=>
  have hn0:n=0:=by simpa using hn.symm
  subst hn0
  exact fin ⟨fun _=>none,fun _=>none⟩ (.v (.slice o 0 c)) 0 [] ⟨by simp,.inr ⟨rfl,rfl,o,c,rfl⟩⟩ ⟨rfl,rfl⟩ (fun _ _ _ h=>by cases h) (fun _ _ h=>by cases h) (fun _ _=>⟨rfl,rfl⟩) (fun _ h=>by cases h)
 |cons z zs=>
  obtain ⟨a,rfl,hal,ha0⟩:=hc 0 (by simp)
  obtain ⟨b,off,sp⟩:=a
  have hsp:sp=none:=by
   cases sp with
   |none=>rfl
   |some q=>
    have:=ha0
    unfold World.cell? at this
    simp only[Addr.add] at this
    split at this<;>simp at this
  subst hsp
  refine fin ⟨fun i=>if i=0 then some b else none,fun _=>none⟩ (.s 0 off (z::zs).length) off (z::zs) ⟨by omega,.inl rfl⟩ ⟨b,c,rfl,by omega,by rw[hn]⟩ (fun i j b' h1 h2=>?_) (fun i b' h1=>?_) (fun i hi=>⟨if_neg (by omega),rfl⟩) (fun b' hb'=>?_)
  ·by_cases e1:i=0
   ·by_cases e2:j=0
    ·omega
    ·simp[e2] at h2
   ·simp[e1] at h1
  ·by_cases e1:i=0
   ·simp[e1] at h1;subst h1;exact hal
   ·simp[e1] at h1
  ·have:b'=b:=by simpa using hb'.symm
   subst this
   refine .inl (.inr ⟨rfl,fun i l hl=>?_⟩)
   have hl':(J8 off (z::zs))[i]? = some l:=hl
   by_cases hi:i<off
   ·left
    unfold J8 at hl'
    rw[List.getElem?_append_left (by simpa using hi),List.getElem?_replicate_of_lt hi] at hl'
    exact (Option.some.inj hl').symm
   ·right
    unfold J8 at hl'
    rw[List.getElem?_append_right (by simpa using (by omega:off<=i)),List.length_replicate,List.getElem?_map] at hl'
    obtain ⟨y,hy,rfl⟩:=Option.map_eq_some_iff.1 hl'
    obtain ⟨hy1,hy2⟩:=List.getElem?_eq_some_iff.1 hy
    obtain ⟨a,e,_,hcell⟩:=hc (i-off) hy1
    obtain rfl:=Option.some.inj e
    refine ⟨.int .i64 y,?_,rfl,rfl⟩
    have e2:off+(i-off)=i:=by omega
    have e3:(⟨b',off,none⟩:Addr).add (i-off)=⟨b',i,none⟩:=by
     by_cases e0:i-off=0
     ·have:off=i:=by omega
      subst this
      rw[e0];rfl
     ·simp only[Addr.add,if_neg e0,e2]
    rw[e3] at hcell
    rw[hcell,hy2]
theorem M6 {x:Leaf} {p:Nat} {s:List Int} (h:G4 x p s) (n:Nat) (hn:0<n):f4 prog 11 [.c (.l x)] [(0,⟨J8 p s,.q⟩)] n (.c (.agg [.o n (C0 s (F2 s)).length])) [(n,⟨n8 (C0 s (F2 s)),.r 42 258 n⟩)] 1:=by
 have e1:∀σ,(J8 p s).map (Leaf.ren σ)=J8 p s:=(E9 p s).2
 have e2:=j5 (σ:=sG 0 n) (i9 (C0 s (F2 s)))
 rcases h.2 with rfl|⟨rfl,rfl,o,c,rfl⟩
 ·have key:=f4.at1 (C11 p s h.1) 0 n hn
  simp only[List.map_cons,List.map_nil,n6.ren,SV.ren,Cp.ren,Leaf.ren,BT.ren,e1,e2] at key
  exact key
 ·have key:=f4.at1 (c7o o c) 0 n hn
  simp only[List.map_cons,List.map_nil,n6.ren,SV.ren,Cp.ren,Leaf.ren,BT.ren,e1,e2] at key
  exact key
theorem cJ (s:List Int):Good (C0 s (F2 s)):=eT s _ (Nat.min_le_right _ _)
theorem Sl (s:List Int):(C0 s (F2 s)).length<=6:=Nat.le_trans (lB s _) (Nat.min_le_right _ _)
end Ab
end
section
namespace Ab
attribute [local irreducible] j8
structure EN where
 X:Int
 Y:Int
 a:UInt8
 b:UInt8
 c:UInt8
 d:UInt8
 sum:Int
 blob:ByteArray
def en (e:EN):List Leaf:=[li e.X,li e.Y,ub e.a,ub e.b,ub e.c,ub e.d,li e.sum,.v (.string e.blob)]
def o4 (l:List EN):List Leaf:=(l.map en).flatten
def fA (s:ByteArray) (p:Nat):Nat×Bool:=(Oct.l5 s p false (Oct.sz 2)).2
def dG (s:ByteArray) (p:Nat):Nat×Bool:=(Oct.l5 s (fA s p).1 (fA s p).2 (Oct.sz 2)).2
def gH (s:ByteArray) (p:Nat):Nat×Bool:=(Oct.l5 s (dG s p).1 (dG s p).2 4).2
def fK (s:ByteArray) (p:Nat):Nat×Bool:=(Oct.l7 s (gH s p).1 (gH s p).2).2
def Q4 (s:ByteArray) (p:Nat):Nat×Bool:=(Oct.l5 s (fK s p).1 (fK s p).2 (Oct.sz 4)).2
def Bm (s:ByteArray) (p:Nat) (f:Bool) (m:Int):Int:=wrap64 (Oct.kR (Oct.l5 s p f (Oct.sz m)).1.data.toList)
def lA (s:ByteArray) (p:Nat):Int:=Bm s p false 2
def kY (s:ByteArray) (p:Nat):Int:=Bm s (fA s p).1 (fA s p).2 2
def Dk (s:ByteArray) (p:Nat):ByteArray:=(Oct.l5 s (dG s p).1 (dG s p).2 4).1
def kO (s:ByteArray) (p:Nat):Int:=(Oct.l7 s (gH s p).1 (gH s p).2).1
def Rx (s:ByteArray) (p:Nat):Int:=Bm s (fK s p).1 (fK s p).2 4
def prE (s:ByteArray) (p:Nat):EN:=⟨lA s p-8192,kY s p-8192,(Dk s p).get! 0,(Dk s p).get! 1,(Dk s p).get! 2,(Dk s p).get! 3,Rx s p,ByteArray.empty⟩
def o3 (s:ByteArray):Nat->Nat
 |0=>(Oct.l7 s 0 false).2.1
 |k+1=>(Q4 s (o3 s k)).1
def C1 (s:ByteArray) (k:Nat):EN:=prE s (o3 s k)
def J3 (s:ByteArray) (k:Nat):Int:=kO s (o3 s k)
def pP (s:ByteArray) (p:Nat):Bool:=bif (Q4 s p).2 then true else decide (lA s p-8192>=8192)
def pN (s:ByteArray) (p:Nat):Bool:=bif pP s p then true else decide (kY s p-8192>=8192)
def pI (s:ByteArray) (p:Nat):Bool:=bif pN s p then true else decide (kO s p<1)
def I6 (s:ByteArray) (p:Nat):Bool:=bif pI s p then true else decide (kO s p>257)
def kQ (s:ByteArray) (k:Nat):Bool:=bif decide (((k:Nat):Int)>0) then !N3 (C1 s (k-1)).X (C1 s (k-1)).Y (C1 s k).X (C1 s k).Y else false
def M0 (s:ByteArray) (k:Nat):Bool:=!I6 s (o3 s k) && !kQ s k
def E4 (s:ByteArray) (k:Nat):List EN:=(List.range k).map (C1 s)
def U5 (s:ByteArray) (k:Nat):List Leaf:=(List.range k).map fun j=>li (J3 s j)
def nP (s:ByteArray):Int:=(Oct.l7 s 0 false).1
def nN (s:ByteArray):Nat:=(nP s).toNat
def E8 (s:ByteArray):Bool:=bif (bif (Oct.l7 s 0 false).2.2 then true else decide (nP s<0)) then true else decide (nP s>1024)
theorem Pl (e:EN):B7 (en e):=fun x hx=>by
 simp only[en,List.mem_cons,List.not_mem_nil,or_false] at hx
 rcases hx with rfl|rfl|rfl|rfl|rfl|rfl|rfl|rfl<;>exact ⟨_,rfl⟩
theorem g9 (l:List EN):B7 (o4 l):=fun x hx=>by
 simp only[o4,List.mem_flatten,List.mem_map] at hx
 obtain ⟨m,⟨e,_,rfl⟩,hx⟩:=hx
 exact Pl e x hx
theorem y6:∀l:List EN,(o4 l).length=8*l.length
 |[]=>rfl
 |e::l=>by
  have:=y6 l
  simp only[o4,List.map_cons,List.flatten_cons,List.length_append,List.length_cons] at *
  show 8+_=_
  omega
theorem Cv (l m:List EN):o4 (l++m)=o4 l++o4 m:=by simp[o4]
theorem a3m (e:EN):o4 [e]=en e:=by simp[o4]
def EN.z:EN:=⟨0,0,0,0,0,0,0,ByteArray.empty⟩
def ea (l:List EN) (k:Nat):EN:=l.getD k EN.z
theorem M1:∀(l:List EN) (k:Nat),k<l.length->∃m,(o4 l).drop (k*8)=en (ea l k)++m
 |[],k,h=>by simp at h
 |e::l,0,h=>⟨o4 l,by simp[o4,ea]⟩
 |e::l,k+1,h=>by
  obtain ⟨m,hm⟩:=M1 l k (by simpa using h)
  refine ⟨m,?_⟩
  have:(o4 (e::l)).drop ((k+1)*8)=(o4 l).drop (k*8):=by
   simp only[o4,List.map_cons,List.flatten_cons]
   rw[List.drop_append,List.drop_eq_nil_of_le (by show 8<=_;omega),List.nil_append,show (en e).length=8 from rfl,show (k+1)*8-8=k*8 by omega]
  rw[this,hm]
  rfl
theorem bG {l:List EN} {k:Nat} (h:k<l.length):List.take 8 (List.drop (k*8) (o4 l))=en (ea l k):=by
 obtain ⟨m,hm⟩:=M1 l k h
 rw[hm];rfl
theorem cO {l:List EN} {k:Nat} (h:k<l.length):List.take 2 (List.drop (k*8) (o4 l))=[li (ea l k).X,li (ea l k).Y]:=by
 obtain ⟨m,hm⟩:=M1 l k h
 rw[hm];rfl
theorem cF (s:ByteArray) (k:Nat):(E4 s k).length=k:=by simp[E4]
theorem Ej (s:ByteArray) {j k:Nat} (h:j<k):ea (E4 s k) j=C1 s j:=by simp[ea,E4,List.getD,h]
theorem L5 (s:ByteArray) (k:Nat):o4 (E4 s k)++en (C1 s k)=o4 (E4 s (k+1)):=by
 unfold E4
 rw[List.range_succ,List.map_append,Cv,List.map_singleton,a3m]
theorem gC (s:ByteArray) (k:Nat):(U5 s k).length=k:=by simp[U5]
theorem Q3 (s:ByteArray) (k:Nat):U5 s k++[li (J3 s k)]=U5 s (k+1):=by
 unfold U5
 rw[List.range_succ,List.map_append,List.map_singleton]
theorem v4 (s:ByteArray) (k:Nat):B7 (U5 s k):=fun x hx=>by
 simp only[U5,List.mem_map] at hx
 obtain ⟨b,_,rfl⟩:=hx
 exact ⟨_,rfl⟩
theorem b1w (s:ByteArray) {j k:Nat} (h:j<k):(U5 s k).getD j .u=li (J3 s j):=by simp[U5,List.getD,h]
theorem O0 {s:ByteArray} {p:Nat} (h:p<=s.size):(fA s p).1<=s.size:=Oct.P0 _ _ _ _ h
theorem O8 {s:ByteArray} {p:Nat} (h:p<=s.size):(dG s p).1<=s.size:=Oct.P0 _ _ _ _ (O0 h)
theorem O4 {s:ByteArray} {p:Nat} (h:p<=s.size):(gH s p).1<=s.size:=Oct.P0 _ _ _ _ (O8 h)
theorem O2 {s:ByteArray} {p:Nat} (h:p<=s.size):(fK s p).1<=s.size:=Oct.Y0 _ _ _ (O4 h)
theorem Ak {s:ByteArray} {p:Nat} (h:p<=s.size):(Q4 s p).1<=s.size:=Oct.P0 _ _ _ _ (O2 h)
theorem cM (s:ByteArray):∀k,o3 s k<=s.size
 |0=>Oct.Y0 s 0 false (Nat.zero_le _)
 |k+1=>Ak (cM s k)
theorem Fc (s:ByteArray) (p:Nat) (f:Bool) (m:Int) (h:Oct.sz m<=4):0<=Bm s p f m/\Bm s p f m<4294967296:=by
 unfold Bm
 have h1:=Oct.Mz (Oct.l5 s p f (Oct.sz m)).1.data.toList
 have h2:(Oct.l5 s p f (Oct.sz m)).1.data.toList.length<=4:=by
  unfold Oct.l5
  split
  ·exact Nat.zero_le _
  ·show (s.extract p (p+(Oct.sz m:Int).toNat)).size<=4
   rw[ByteArray.size_extract]
   omega
 have h3:=Nat.pow_le_pow_right (n:=256) (by decide) h2
 have h4:Oct.kR (Oct.l5 s p f (Oct.sz m)).1.data.toList<4294967296:=Nat.lt_of_lt_of_le h1 h3
 generalize Oct.kR (Oct.l5 s p f (Oct.sz m)).1.data.toList=z at *
 have:wrap64 (z:Int)=z:=by
  unfold wrap64;omega
 omega
theorem sS (z:Int) (h:0<=z/\z<4294967296):IntKind.i64.wrap (z-8192)=z-8192:=C2 _ (by omega) (by omega)
theorem Df (s:ByteArray) (p:Nat):0<=lA s p/\lA s p<4294967296:=Fc _ _ _ _ (by decide)
theorem Ca (s:ByteArray) (p:Nat):0<=kY s p/\kY s p<4294967296:=Fc _ _ _ _ (by decide)
theorem Oj {s:ByteArray} {p:Nat} {f:Bool} {m:Int} (h:(Oct.l5 s p f m).2.2=false):f=false/\0<=m/\(p:Int)+m<=s.size/\Oct.l5 s p f m=(s.extract p (p+m.toNat),p+m.toNat,false):=by
 unfold Oct.l5 at h⊢
 split at h
 ·exact absurd h (by simp)
 ·rename_i hh
  rw[if_neg hh]
  have hf:f=false:=by cases f<;>simp_all
  exact ⟨hf,by omega,by omega,rfl⟩
theorem c0f {s:ByteArray} {p:Nat} {f:Bool} (h:(Oct.l7 s p f).2.2=false):f=false:=by
 cases f with
 |false=>rfl
 |true=>unfold Oct.l7 at h;simp at h
theorem yR {s:ByteArray} {p:Nat} (h:(Q4 s p).2=false):(Dk s p).size=4:=by
 have h4:=(Oj h).1
 have h3:=c0f h4
 obtain ⟨_,_,h5,h6⟩:=Oj (show (Oct.l5 s (dG s p).1 (dG s p).2 4).2.2=false from h3)
 unfold Dk
 rw[h6,ByteArray.size_extract]
 show min ((dG s p).1+4) s.size-(dG s p).1=4
 omega
theorem M5 {s:ByteArray} {p:Nat} (h:I6 s p=false):(Q4 s p).2=false/\lA s p-8192<8192/\kY s p-8192<8192/\1<=kO s p/\kO s p<=257:=by
 unfold I6 pI pN pP at h
 cases h1:(Q4 s p).2
 ·rw[h1] at h
  by_cases h2:lA s p-8192>=8192
  ·simp[h2] at h
  ·by_cases h3:kY s p-8192>=8192
   ·simp[h2,h3] at h
   ·by_cases h4:kO s p<1
    ·simp[h2,h3,h4] at h
    ·by_cases h5:kO s p>257
     ·simp[h2,h3,h4,h5] at h
     ·exact ⟨rfl,by omega,by omega,by omega,by omega⟩
 ·rw[h1] at h;simp at h
theorem Ge {s:ByteArray} {k:Nat} (h1:I6 s (o3 s k)=false) (h2:kQ s k=false):M0 s k=true:=by unfold M0;rw[h1,h2];rfl
theorem a5r {s:ByteArray} {k:Nat} (h1:I6 s (o3 s k)=true):M0 s k=false:=by unfold M0;rw[h1];rfl
theorem c6f {s:ByteArray} {k:Nat} (h2:kQ s k=true):M0 s k=false:=by unfold M0;rw[h2,Bool.not_true,Bool.and_false]
theorem E2 {s:ByteArray} (h:E8 s=false):(Oct.l7 s 0 false).2.2=false/\nP s=(nN s:Nat)/\nN s<=1024:=by
 unfold E8 at h
 cases h1:(Oct.l7 s 0 false).2.2
 ·rw[h1] at h
  by_cases h2:nP s<0
  ·simp[h2] at h
  ·by_cases h3:nP s>1024
   ·simp[h2,h3] at h
   ·unfold nN;exact ⟨rfl,by omega,by omega⟩
 ·rw[h1] at h;simp at h
theorem a8k {need:Nat} (k:need*49<=140737488355328):fW prog 123 need:=apB (bytes:=48) (by kernel_rfl) k
theorem c3y {need:Nat} (k:need*9<=140737488355328):fW prog 3 need:=apB (bytes:=8) (by kernel_rfl) k
theorem rd1 (s:ByteArray) (p:Nat) (hs:s.size<=1000000000000000000) (hp:p<=s.size) (id n:Nat):f4 prog 60 [.c (.l (.p id 0)),iv .i64 2] [(id,⟨[.v (.string s),.v (.int .i64 (p:Nat)),.v (.bool false)],.t 174⟩)] n (iv .i64 (lA s p)) [(id,⟨[.v (.string s),.v (.int .i64 ((fA s p).1:Nat)),.v (.bool (fA s p).2)],.t 174⟩)] 0:=by
 have h1:=O0 hp
 have h2:=O8 hp
 have h3:=O4 hp
 have h4:=O2 hp
 exact C60 id s ((p:Nat):Int) (false) 2 hs (by omega) (by omega) n
theorem rd2 (s:ByteArray) (p:Nat) (hs:s.size<=1000000000000000000) (hp:p<=s.size) (id n:Nat):f4 prog 60 [.c (.l (.p id 0)),iv .i64 2] [(id,⟨[.v (.string s),.v (.int .i64 ((fA s p).1:Nat)),.v (.bool (fA s p).2)],.t 174⟩)] n (iv .i64 (kY s p)) [(id,⟨[.v (.string s),.v (.int .i64 ((dG s p).1:Nat)),.v (.bool (dG s p).2)],.t 174⟩)] 0:=by
 have h1:=O0 hp
 have h2:=O8 hp
 have h3:=O4 hp
 have h4:=O2 hp
 exact C60 id s (((fA s p).1:Nat):Int) ((fA s p).2) 2 hs (by omega) (by omega) n
theorem rd3 (s:ByteArray) (p:Nat) (hs:s.size<=1000000000000000000) (hp:p<=s.size) (id n:Nat):f4 prog 64 [.c (.l (.p id 0)),iv .i64 4] [(id,⟨[.v (.string s),.v (.int .i64 ((dG s p).1:Nat)),.v (.bool (dG s p).2)],.t 174⟩)] n (.c (.l (.v (.string (Dk s p))))) [(id,⟨[.v (.string s),.v (.int .i64 ((gH s p).1:Nat)),.v (.bool (gH s p).2)],.t 174⟩)] 0:=by
 have h1:=O0 hp
 have h2:=O8 hp
 have h3:=O4 hp
 have h4:=O2 hp
 exact C64 id s (((dG s p).1:Nat):Int) ((dG s p).2) 4 hs (by omega) (by omega) n
theorem rd4 (s:ByteArray) (p:Nat) (hs:s.size<=1000000000000000000) (hp:p<=s.size) (id n:Nat):f4 prog 125 [.c (.l (.p id 0))] [(id,⟨[.v (.string s),.v (.int .i64 ((gH s p).1:Nat)),.v (.bool (gH s p).2)],.t 174⟩)] n (iv .i64 (kO s p)) [(id,⟨[.v (.string s),.v (.int .i64 ((fK s p).1:Nat)),.v (.bool (fK s p).2)],.t 174⟩)] 0:=by
 have h1:=O0 hp
 have h2:=O8 hp
 have h3:=O4 hp
 have h4:=O2 hp
 exact a9u id s (((gH s p).1:Nat):Int) ((gH s p).2)  hs (by omega) (by omega) n
theorem rd5 (s:ByteArray) (p:Nat) (hs:s.size<=1000000000000000000) (hp:p<=s.size) (id n:Nat):f4 prog 60 [.c (.l (.p id 0)),iv .i64 4] [(id,⟨[.v (.string s),.v (.int .i64 ((fK s p).1:Nat)),.v (.bool (fK s p).2)],.t 174⟩)] n (iv .i64 (Rx s p)) [(id,⟨[.v (.string s),.v (.int .i64 ((Q4 s p).1:Nat)),.v (.bool (Q4 s p).2)],.t 174⟩)] 0:=by
 have h1:=O0 hp
 have h2:=O8 hp
 have h3:=O4 hp
 have h4:=O2 hp
 exact C60 id s (((fK s p).1:Nat):Int) ((fK s p).2) 4 hs (by omega) (by omega) n
theorem rd6 (s:ByteArray) (p:Nat) (id n:Nat):f4 prog 61 [.c (.l (.p id 0))] [(id,⟨[.v (.string s),.v (.int .i64 ((Q4 s p).1:Nat)),.v (.bool (Q4 s p).2)],.t 174⟩)] n (bv (Q4 s p).2) [] 0:=C61 id s ((Q4 s p).1:Nat) (Q4 s p).2 (by omega) n
def a1k:Cz:={
 ct:=fun _=>none
 sym:=[1,2,3,4,5,6,7,8,9,10,11,12]}
theorem b9u (q:ByteArray) (hq:q.size=4) (n:Nat):f4 prog 127 [.c (.l (.v (.string q)))] [] n (ag [ub (q.get! 0),ub (q.get! 1),ub (q.get! 2),ub (q.get! 3)]) [] 0:=by
 refine v6 (q:=t0 0 q.size/\t0 1 q.size/\t0 2 q.size/\t0 3 q.size/\Le (ag [l8 (Nat.cast ((q.get! (Int.toNat 0)).toNat):Int),l8 (Nat.cast ((q.get! (Int.toNat 1)).toNat):Int),l8 (Nat.cast ((q.get! (Int.toNat 2)).toNat):Int),l8 (Nat.cast ((q.get! (Int.toNat 3)).toNat):Int)]) (ag [l8 ((q.get! 0).toNat:Int),l8 ((q.get! 1).toNat:Int),l8 ((q.get! 2).toNat:Int),l8 ((q.get! 3).toNat:Int)])/\True) (a1k) func127 n (by kernel_rfl) (by kernel_rfl) ?_
 with_reducible repeat' first|exact trivial|apply And.intro|apply HB.mk|intro _
 all_goals first|(exact ⟨by omega,by omega⟩)|exact Le.of rfl
def Ya:Cz:={
  ct:=fun _=>none
   }
theorem c9j (ax ay bx by_:Int)  (n:Nat):f4 prog 126 [ag [li ax,li ay],ag [li bx,li by_]] [] n (bv (N3 ax ay bx by_)) [] 0:=by
 refine v6 (q:=let a:=ay<by_;let b:=!decide a;let c:=b=true->b=true/\True;let d:=!decide a&&ay==by_;let e:=d=true->d=true/\True;c/\c/\(b=true->b=true/\b=true/\True)/\c/\e/\e/\(d=true->d=true/\d=true/\True)/\(b=true->b=true/\((ay==by_)=true->d=true)/\True)/\(decide a=false->b=true)/\Le (bv (bif decide a then true else bif ay==by_ then decide (ax<bx) else false)) (bv (N3 ax ay bx by_))/\True) (Ya) func126 n (by kernel_rfl) (by kernel_rfl) ?_
 with_reducible repeat' first|exact trivial|apply And.intro|apply HB.mk|intro _
 all_goals first|assumption|refine Le.bool ?_;unfold N3;by_cases h1:ay<by_<;>by_cases h2:ay=by_<;>by_cases h3:ax<bx<;>simp[h1,h2,h3]|simp only[*,Bool.and_self,Bool.not_false,Bool.not_true];done
def Eg (s:ByteArray) (k:Nat):St:=⟨[(28,iv .i64 (k:Nat)),(27,iv .i64 (nN s:Nat)),(5,.c (.l (.p 0 0))),(2,.c (.l (.o 1 k))),(3,.c (.l (.o 2 k)))],[(0,some ⟨[.v (.string s),.v (.int .i64 (o3 s k:Nat)),.v (.bool false)],.t 174⟩),(1,some ⟨o4 (E4 s k),.r 123 8 1⟩),(2,some ⟨U5 s k,.r 3 1 2⟩)],3,96,[2,1,0],(0)⟩
def Q62:St:=⟨[(2,.c (.l (.v (.slice none 0 0)))),(3,.c (.l (.v (.slice none 0 0)))),(4,iv .i64 11)],[],3,96,[2,1,0],(0)⟩
def Ul (s:ByteArray) (k:Nat):Cz:={
 ct:=(fun f=>match f with
 |58=>some fun _ _S=>fun | [.c (.l (.v (.string s)))]=>some {v:=.c (.l (.p _S.n 0)),wr:=[(_S.n,⟨[.v (.string s),.v (.int .i64 0),.v (.bool false)],.t 174⟩)],nw:=1}|_=>none
 |60=>some fun _ _S=>fun | [.c (.l (.p i _)),.c (.l (.v (.int _ m)))]=>(match _S.E with|(30,_)::_=>some ⟨iv .i64 (lA s (o3 s k)),[i],[(i,⟨[.v (.string s),.v (.int .i64 ((fA s (o3 s k)).1:Nat)),.v (.bool (fA s (o3 s k)).2)],.t 174⟩)],0,[]⟩|(33,_)::_=>some ⟨iv .i64 (kY s (o3 s k)),[i],[(i,⟨[.v (.string s),.v (.int .i64 ((dG s (o3 s k)).1:Nat)),.v (.bool (dG s (o3 s k)).2)],.t 174⟩)],0,[]⟩|(40,_)::_=>some ⟨iv .i64 (Rx s (o3 s k)),[i],[(i,⟨[.v (.string s),.v (.int .i64 ((Q4 s (o3 s k)).1:Nat)),.v (.bool (Q4 s (o3 s k)).2)],.t 174⟩)],0,[]⟩|_=>none)|_=>none
 |61=>some fun _ _S=>fun | [.c (.l (.p i _))]=>(match _S.E with|(42,_)::_=>some ⟨bv (Q4 s (o3 s k)).2,[i],[],0,[]⟩|_=>none)|_=>none
 |63=>some fun _ _S=>fun | [.c (.l (.p i _))]=>some {v:=V63 _S i,rd:=[i]}|_=>none
 |64=>some fun _ _S=>fun | [.c (.l (.p i _)),.c (.l (.v (.int _ m)))]=>(match _S.E with|(36,_)::_=>some ⟨.c (.l (.v (.string (Dk s (o3 s k))))),[i],[(i,⟨[.v (.string s),.v (.int .i64 ((gH s (o3 s k)).1:Nat)),.v (.bool (gH s (o3 s k)).2)],.t 174⟩)],0,[]⟩|_=>none)|_=>none
 |125=>some fun _ _S=>fun | [.c (.l (.p i _))]=>(match _S.E with|(38,_)::_=>some ⟨iv .i64 (kO s (o3 s k)),[i],[(i,⟨[.v (.string s),.v (.int .i64 ((fK s (o3 s k)).1:Nat)),.v (.bool (fK s (o3 s k)).2)],.t 174⟩)],0,[]⟩|_=>none)|_=>none
 |126=>some fun _ _=>fun | [.c (.agg [.v (.int _ ax),.v (.int _ ay)]),.c (.agg [.v (.int _ cx),.v (.int _ cy)])]=>some {v:=bv (N3 ax ay cx cy)}|_=>none
 |127=>some fun _ _=>fun | [.c (.l (.v (.string q)))]=>some {v:=ag [ub (q.get! 0),ub (q.get! 1),ub (q.get! 2),ub (q.get! 3)]}|_=>none
 |_=>none)
 sym:=[71,73,85,89],nf:=[(32,iv .i64 (C1 s k).X),(35,iv .i64 (C1 s k).Y),(47,bv (pP s (o3 s k))),(51,bv (pN s (o3 s k))),(55,bv (pI s (o3 s k))),(59,bv (I6 s (o3 s k))),(62,.c (.agg [li (C1 s k).X,li (C1 s k).Y])),(73,.c (.agg [li (C1 s (k-1)).X,li (C1 s (k-1)).Y])),(74,.c (.agg [li (C1 s k).X,li (C1 s k).Y])),(77,bv (kQ s k)),(79,.c (.agg [li (C1 s k).X,li (C1 s k).Y])),(83,.c (.agg (en (C1 s k))))],wh:=[40]}
theorem b7g (s:ByteArray) (k:Nat)  (K:Exit->St->Prop) (h:let a:=(Nat.cast ((nN s)):Int);let b:=[j7 0 0,i8 2];let d:=o3 s k;let e:=[l9 s,li (Nat.cast (d):Int),lb false];let f:=[l9 s,li (Nat.cast ((fA s d).fst):Int),lb (fA s d).snd];let g:=[(0,j9 f 174)];let i:=lA s d-8192;let j:=C1 s k;let m:=[l9 s,li (Nat.cast ((dG s d).fst):Int),lb (dG s d).snd];let n:=[(0,j9 m 174)];let q:=kY s d-8192;let w:=[j7 0 0,i8 4];let x:=Dk s d;let y:=[l9 s,li (Nat.cast ((gH s d).fst):Int),lb (gH s d).snd];let z:=[(0,j9 y 174)];let A:=[l9 s,li (Nat.cast ((fK s d).fst):Int),lb (fK s d).snd];let B:=[(0,j9 A 174)];let C:=Q4 s d;let D:=[l9 s,li (Nat.cast (C.fst):Int),lb C.snd];let E:=[(0,j9 D 174)];let G:=!pP s d;let H:=!pN s d;let I:=!pI s d;let J:=Leaf.v (Value.slice none 0 0);let L:=(5,j7 0 0);let M:=(27,i8 a);let N:=(28,i8 (k:Int));let O:=[(2,l4 J),(3,l4 J),(4,i8 11),L,M,N];let P:=(0,some (j9 D 174));let Q:=(0,some (j9 A 174));let R:=(0,some (j9 y 174));let T:=(0,some (j9 m 174));let U:=(0,some (j9 f 174));let V:=(0,some (j9 e 174));let W:=o4 (E4 s k);let Z:=(1,some (o8 W 123 8 1));let aa:=U5 s k;let ab:=(2,some (o8 aa 3 1 2));let ac:=[li j.X,li j.Y];let ad:=ag ac;let ae:=((k:Int)>0);let af:=decide ae=true->decide ae=true/\True;let ah:=((k:Int)-1);let ai:=C1 s (k-1);let aj:=[li ai.X,li ai.Y];let ak:=(3,some (j9 ac 40));let al:=(3,some (j9 [li 0,li 0] 40));let am:=[l4 (l9 x)];let an:=(Nat.cast ((x.get! 0).toNat):Int);let ao:=(Nat.cast ((x.get! 1).toNat):Int);let ap:=(Nat.cast ((x.get! 2).toNat):Int);let aq:=(Nat.cast ((x.get! 3).toNat):Int);let ar:=(ag [l8 an,l8 ao,l8 ap,l8 aq]);let au:=ByteArray.mk #[];let av:=(ag [li j.X,li j.Y,l8 an,l8 ao,l8 ap,l8 aq,li (Rx s d),l9 au]);let aw:=ag (en j);let ax:=((k:Int)+1);let ay:=(A2 6 (Tryz.f62.body.getD Code.skip)).getD Code.skip;let az:=wkK 3 K;let a0:=(2,l4 (Leaf.o 1 (k+1)));let a1:=(3,l4 (Leaf.o 2 (k+1)));let a2:=(4,SV.u);let a3:=(28,i8 ax);let a4:=[li (kO s d)];let a5:=U5 s k++a4;let a6:=(2,some (o8 a5 3 1 2));let a7:=(5,some (o8 a4 3 1 5));let a8:=[li 0,li 0,l8 0,l8 0,l8 0,l8 0,li 0,l9 au];let a9:=o4 (E4 s k)++j4 a8 0 (en j);let aA:=(1,some (o8 a9 123 8 1));let aB:=(4,some (o8 (j4 a8 0 (en j)) 123 8 4));let aC:=[(1,k+1,false)];let aD:=(2,l4 (Leaf.o 5 (k+1)));let aE:=(6,some (o8 a4 3 1 6));let aF:=(5,some (o8 a9 123 8 5));let aG:=[(2,k+1,false)];HB (decide ((k:Int)<a)) (Kd 60 [] b [(0,j9 e 174)] 3 (i8 (lA s d)) g 0/\IntKind.i64.wrap i=lA s d-8192/\Le (i8 i) (i8 j.X)/\Kd 60 [] b g 3 (i8 (kY s d)) n 0/\IntKind.i64.wrap q=kY s d-8192/\Le (i8 q) (i8 j.Y)/\Kd 64 [] w n 3 (l4 (l9 x)) z 0/\Kd 125 [] [j7 0 0] z 3 (i8 (kO s d)) B 0/\Kd 60 [] w B 3 (i8 (Rx s d)) E 0/\Kd 61 [] [j7 0 0] E 3 (bv C.snd) [] 0/\((!C.snd)=true->(!C.snd)=true/\True)/\(C.snd=false->(!C.snd)=true)/\Le (bv (bif C.snd then true else decide (j.X>=8192))) (bv (pP s d))/\(G=true->G=true/\True)/\(pP s d=false->G=true)/\Le (bv (bif pP s d then true else decide (j.Y>=8192))) (bv (pN s d))/\(H=true->H=true/\True)/\(pN s d=false->H=true)/\Le (bv (bif pN s d then true else decide (kO s d<1))) (bv (pI s d))/\(I=true->I=true/\True)/\(pI s d=false->I=true)/\Le (bv (bif pI s d then true else decide (kO s d>257))) (bv (I6 s d))/\HB (I6 s d) (wkK 3 K Exit.ret (St.mk O [P,Q,R,T,U,V,Z,ab] 3 96 [0,0,0,0,0,2,1,0] 0)) (Le ad ad/\0=0/\2=2/\af/\(decide ae=true->decide ae=true/\IntKind.i64.wrap ah=(k:Int)-1/\True)/\(decide ae=true->decide ae=true/\decide ae=true/\t0 ah k/\True)/\af/\(decide ae=true->decide ae=true/\ah.toNat*8+0+2<=W.length/\Le (ag (List.take 2 (List.drop (ah.toNat*8+0) W))) (ag aj)/\True)/\(decide ae=true->Le ad ad/\True)/\(decide ae=true->decide ae=true/\decide ae=true/\Kd 126 [] [ag aj,ag ac] [] 4 (bv (N3 ai.X ai.Y j.X j.Y)) [] 0/\True)/\af/\(decide ae=true->decide ae=true)/\Le (bv (bif decide ae then !N3 ai.X ai.Y j.X j.Y else false)) (bv (kQ s k))/\HB (kQ s k) (wkK 3 K Exit.ret (St.mk O [ak,al,P,Q,R,T,U,V,Z,ab] 4 96 [3,3,0,0,0,0,0,2,1,0] 0)) (((Le ad ad/\Kd 127 [] am [] 4 ar [] 0/\Le av aw/\W.length=k*8/\8=8/\aa.length=k*1/\1=1/\IntKind.i64.wrap ax=(k:Int)+1/\RoundTo prog ay 3 az (St.mk [a0,a1,a2,L,M,a3] [a6,a7,aA,aB,ak,al,P,Q,R,T,U,V,Z,ab] 6 96 [2,5,1,4,3,3,0,0,0,0,0,2,1,0] 0))/\Le ad ad/\Kd 127 [] am [] 4 ar [] 0/\Le av aw/\aC=aC/\fW prog 123 (k+1)/\W.length=k*8/\8=8/\aa.length=k*1/\1=1/\IntKind.i64.wrap ax=(k:Int)+1/\RoundTo prog ay 3 az (St.mk [aD,a1,a2,L,M,a3] [a6,aE,aF,aB,ak,al,P,Q,R,T,U,V,Z,ab] 7 96 [2,6,5,4,3,3,0,0,0,0,0,2,1,0] 0))/\(Le ad ad/\Kd 127 [] am [] 4 ar [] 0/\Le av aw/\W.length=k*8/\8=8/\aG=aG/\fW prog 3 (k+1)/\aa.length=k*1/\1=1/\IntKind.i64.wrap ax=(k:Int)+1/\RoundTo prog ay 3 az (St.mk [a0,(3,l4 (Leaf.o 6 (k+1))),a2,L,M,a3] [(6,some (o8 a5 3 1 6)),a7,aA,aB,ak,al,P,Q,R,T,U,V,Z,ab] 7 96 [6,5,1,4,3,3,0,0,0,0,0,2,1,0] 0))/\Le ad ad/\Kd 127 [] am [] 4 ar [] 0/\Le av aw/\aC=aC/\fW prog 123 (k+1)/\W.length=k*8/\8=8/\aG=aG/\fW prog 3 (k+1)/\aa.length=k*1/\1=1/\IntKind.i64.wrap ax=(k:Int)+1/\RoundTo prog ay 3 az (St.mk [aD,(3,l4 (Leaf.o 7 (k+1))),a2,L,M,a3] [(7,some (o8 a5 3 1 7)),aE,aF,aB,ak,al,P,Q,R,T,U,V,Z,ab] 8 96 [7,6,5,4,3,3,0,0,0,0,0,2,1,0] 0)))) (wkK 3 K (Exit.exit 0) (St.mk [(2,l4 (Leaf.o 1 k)),(3,l4 (Leaf.o 2 k)),a2,L,M,N] [V,Z,ab] 3 96 [2,1,0] 0))):z4 prog (gl 6 Tryz.f62) (Eg s k) (wkK 3 K):=
 cT [2,3,4,5,27,28] (cx:=Ul s k) rfl (u3 (by kernel_rfl) h)
theorem Ix (s:ByteArray) (hs:s.size<=1000000000000000000) (hn:nN s<=1024):∀(m k:Nat),(nN s)-k=m->k<=(nN s)->(∀j,j<k->M0 s j=true)->∀(K:Exit->St->Prop),((∀j,j<(nN s)->M0 s j=true)->K (.exit 0) (Eg s (nN s)))->(∀j,j<(nN s)->M0 s j=false->K .ret (Q62))->z4 prog (gl 6 Tryz.f62) (Eg s k) (wkK 3 K)
 |0,k,hm,hk,hall,K,hK,hR=>by
  have e:k=(nN s):=by omega
  subst e
  refine b7g s _ K (HB.no (by omega) ?_)
  exact wkK.tk (Eg s _) (by kernel_rfl) (d5 (l6.k (by kernel_rfl)) (d5 (l6.p (g9 _) (by kernel_rfl)) (d5 (l6.p (v4 _ _) (by kernel_rfl)) trivial))) (hK hall)
 |m+1,k,hm,hk,hall,K,hK,hR=>by
  refine b7g s k K (HB.yes (by omega) ?_)
  have hlt:k<(nN s):=by omega
  have hp0:=cM s k
  have hp1:=O0 hp0
  have hp2:=O8 hp0
  have hp3:=O4 hp0
  have hp4:=O2 hp0
  have hp5:=Ak hp0
  with_reducible repeat' first|exact trivial|apply And.intro|apply HB.mk|intro _
  all_goals first|assumption|(with_reducible first|exact Le.refl _|rfl)|(with_reducible first|exact rd1 _ _ hs hp0 _ _|exact rd2 _ _ hs hp0 _ _|exact rd5 _ _ hs hp0 _ _)|(with_reducible first|exact rd6 _ _ _ _|exact rd3 _ _ hs hp0 _ _|exact rd4 _ _ hs hp0 _ _|exact c9j _ _ _ _ _|exact b9u _ (yR (M5 (by with_reducible assumption)).1) _)|(exact ⟨by have:=gk ‹_›;omega,by omega⟩)|have:=gk ‹_›;rw[y6,cF,nO this];omega|refine Le.int ?_;rfl|exact Le.of rfl|have:=gk ‹_›;refine Le.of ?_;simp only[nO this,Nat.zero_add,Nat.add_zero];rw[cO (by rw[cF];omega),Ej s (by omega)]|rw[y6,cF];omega|rw[gC];omega|with_reducible refine a8k ?_;omega|with_reducible refine c3y ?_;omega|exact sS _ (Df _ _)|exact sS _ (Ca _ _)|have:=gk ‹_›;exact C2 _ (by omega) (by omega)|have hcnd:I6 s (o3 s k)=false:=(by with_reducible assumption);(with_reducible refine RoundTo.tk 6 (Eg s (k+1)) ?_ ?_ ?_);kernel_rfl;exact (d5 (l6.blk (k:=⟨[.v (.string s),.v (.int .i64 ((Q4 s (o3 s k)).1:Nat)),.v (.bool (Q4 s (o3 s k)).2)],.t 174⟩) (by kernel_rfl) (by rw[(M5 hcnd).1];rfl) (by kernel_rfl)) (d5 (l6.plain (cs:=o4 (E4 s k)++en (C1 s k)) (b:=.r 123 8 1) (by kernel_rfl) (L5 s k) (g9 _) (by kernel_rfl)) (d5 (l6.plain (cs:=U5 s k++[li (J3 s k)]) (b:=.r 3 1 2) (by kernel_rfl) (Q3 s k) (v4 _ _) (by kernel_rfl)) trivial)));exact (Ix s hs hn m (k+1) (by omega) (by omega) (fun j hj=>by rcases Nat.lt_or_ge j k with h|h;exact hall j h;have e:j=k:=(by omega);subst e;exact Ge hcnd (by with_reducible assumption)) K hK hR)|have hcnd:I6 s (o3 s k)=false:=(by with_reducible assumption);(with_reducible refine RoundTo.rkH 7 6 [(1,some 5)] (Eg s (k+1)) ?_ ?_ ?_);kernel_rfl;exact (f5 (j:=0) rfl (v5.blk (k:=⟨[.v (.string s),.v (.int .i64 ((Q4 s (o3 s k)).1:Nat)),.v (.bool (Q4 s (o3 s k)).2)],.t 174⟩) (k'':=⟨[.v (.string s),.v (.int .i64 ((Q4 s (o3 s k)).1:Nat)),.v (.bool (Q4 s (o3 s k)).2)],.t 174⟩) (by kernel_rfl) (by kernel_rfl) (by rw[(M5 hcnd).1];rfl)) (f5 (j:=5) rfl (v5.plain (cs:=o4 (E4 s k)++en (C1 s k)) (b:=.r 123 8 5) (by kernel_rfl) (L5 s k) (g9 _) (by kernel_rfl)) (f5 (j:=2) rfl (v5.plain (cs:=U5 s k++[li (J3 s k)]) (b:=.r 3 1 2) (by kernel_rfl) (Q3 s k) (v4 _ _) (by kernel_rfl)) trivial)));exact (Ix s hs hn m (k+1) (by omega) (by omega) (fun j hj=>by rcases Nat.lt_or_ge j k with h|h;exact hall j h;have e:j=k:=(by omega);subst e;exact Ge hcnd (by with_reducible assumption)) K hK hR)|have hcnd:I6 s (o3 s k)=false:=(by with_reducible assumption);(with_reducible refine RoundTo.rkH 7 5 [(2,some 6)] (Eg s (k+1)) ?_ ?_ ?_);kernel_rfl;exact (f5 (j:=0) rfl (v5.blk (k:=⟨[.v (.string s),.v (.int .i64 ((Q4 s (o3 s k)).1:Nat)),.v (.bool (Q4 s (o3 s k)).2)],.t 174⟩) (k'':=⟨[.v (.string s),.v (.int .i64 ((Q4 s (o3 s k)).1:Nat)),.v (.bool (Q4 s (o3 s k)).2)],.t 174⟩) (by kernel_rfl) (by kernel_rfl) (by rw[(M5 hcnd).1];rfl)) (f5 (j:=1) rfl (v5.plain (cs:=o4 (E4 s k)++en (C1 s k)) (b:=.r 123 8 1) (by kernel_rfl) (L5 s k) (g9 _) (by kernel_rfl)) (f5 (j:=6) rfl (v5.plain (cs:=U5 s k++[li (J3 s k)]) (b:=.r 3 1 6) (by kernel_rfl) (Q3 s k) (v4 _ _) (by kernel_rfl)) trivial)));exact (Ix s hs hn m (k+1) (by omega) (by omega) (fun j hj=>by rcases Nat.lt_or_ge j k with h|h;exact hall j h;have e:j=k:=(by omega);subst e;exact Ge hcnd (by with_reducible assumption)) K hK hR)|have hcnd:I6 s (o3 s k)=false:=(by with_reducible assumption);(with_reducible refine RoundTo.rk 8 [(1,some 5),(2,some 7)] (Eg s (k+1)) ?_ ?_ ?_);kernel_rfl;exact (f5 (j:=0) rfl (v5.blk (k:=⟨[.v (.string s),.v (.int .i64 ((Q4 s (o3 s k)).1:Nat)),.v (.bool (Q4 s (o3 s k)).2)],.t 174⟩) (k'':=⟨[.v (.string s),.v (.int .i64 ((Q4 s (o3 s k)).1:Nat)),.v (.bool (Q4 s (o3 s k)).2)],.t 174⟩) (by kernel_rfl) (by kernel_rfl) (by rw[(M5 hcnd).1];rfl)) (f5 (j:=5) rfl (v5.plain (cs:=o4 (E4 s k)++en (C1 s k)) (b:=.r 123 8 5) (by kernel_rfl) (L5 s k) (g9 _) (by kernel_rfl)) (f5 (j:=7) rfl (v5.plain (cs:=U5 s k++[li (J3 s k)]) (b:=.r 3 1 7) (by kernel_rfl) (Q3 s k) (v4 _ _) (by kernel_rfl)) trivial)));exact (Ix s hs hn m (k+1) (by omega) (by omega) (fun j hj=>by rcases Nat.lt_or_ge j k with h|h;exact hall j h;have e:j=k:=(by omega);subst e;exact Ge hcnd (by with_reducible assumption)) K hK hR)|exact wkK.tk (Q62) (by kernel_rfl) trivial (hR k hlt ((by first|exact a5r (by with_reducible assumption)|exact c6f (by with_reducible assumption))))|exact C2 _ (by omega) (by omega)|exact Le.of rfl|simp only[*,Bool.and_self,Bool.not_false,Bool.not_true];done
end Ab
end
end Go.Proofs.YtpdckpifhniioaaGreat
