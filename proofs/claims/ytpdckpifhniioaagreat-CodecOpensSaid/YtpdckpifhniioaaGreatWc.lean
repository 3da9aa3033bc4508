/- Part 3 of what CodecOpens rests on. -/
import Derived.Test.YtpdckpifhniioaaGreatProg
import Derived.WalkKit
import Derived.WalkLawsBesides
import Derived.WalkSpells
import Derived.Lib.Hide
import Derived.Laws.IdiomStrings
import Derived.Deep.WholeRow
import Derived.Deep.QuietTactic
import Derived.BigQuiet
import Derived.Lib.QuoteBits
import Derived.Laws.StructEq
import Derived.DeepKeys
import Derived.Test.YtpdckpifhniioaaGreatWb
open Go.Proofs.Tryz
set_option maxRecDepth 100000
set_option maxHeartbeats 8000000
set_option linter.unusedVariables false
set_option linter.unusedSimpArgs false
namespace Go.Proofs.YtpdckpifhniioaaGreat
open Go.RowKit
section
namespace Oct
theorem F0 {k:IntKind} {a b:Int} (h:a=b):Ending.returned (.int k a)=.returned (.int k b):=by rw[h]
theorem Ey {a b:ByteArray} (h:a=b):Ending.returned (.string a)=.returned (.string b):=by rw[h]
def jM (l:List UInt8):Array Value:=(l.map fun b=>Value.int .u8 (b.toNat:Int)).toArray
theorem Jo (l:List UInt8) (i:Nat) (h:i<l.length):(jM l)[i]? = some (.int .u8 (l[i].toNat:Int)):=by
 simp[jM,List.getElem?_eq_getElem h]
section
variable {P:Program}
theorem Y1 (w:World) (src dst e:TypeId) (hs:P.underlying src=some (.slice e)) (he:P.underlying e=some (.int .u8)) (hd:P.underlying dst=some .string)
  (g:Nat) (t:TypeId) (fr:Nat×Nat) (C:Array Value) (hg:w.heap[g]? = some (.cells C t fr)) (k n cap:Nat) (l:List UInt8) (hn:l.length=n)
  (hl:∀j (h:j<l.length),C[k+j]? = some (.int .u8 (l[j].toNat:Int))) :
  (convert src dst (.slice (some ⟨g,k,none⟩) n cap)).run P w=.ok (.string ⟨l.toArray⟩) w:=by
 subst hn
 refine run_convert_bytes_back w src dst e _ cap l hs he hd fun j hj=>?_
 have:(⟨g,k,none⟩:Addr).add j=⟨g,k+j,none⟩:=by unfold Addr.add;split<;>simp_all
 rw[this]
 unfold World.cell?
 rw[hg]
 simpa using hl j hj
end
def t4 (l:List UInt8):List Value:=l.map fun b=>Value.int .u8 (b.toNat:Int)
theorem M7 (l:List UInt8):(t4 l).length=l.length:=by simp[t4]
theorem C3 (l m:List UInt8):t4 (l++m)=t4 l++t4 m:=by simp[t4]
section
variable {P:Program}
theorem fQ {ops:Array Oper} {rest:List Oper} {o:Oper} {a:Act} {Q:Exit->Act->World->Prop} (w:World) (hgd:o.guard=none) (s x:Operand) (t e:TypeId)
  (ho:o.op=.call {callee:=.builtin .append,args:=#[s,x],argTypes:=#[t,t]}) (ht:P.underlying t=some (.slice e))
  (z:Value) (bytes:Nat) (hinfo:(P.info? e).map (fun i=>(i.zero,i.size,i.bytes))=some (some z,1,bytes)) (hz:z.cells.size=1)
  (base:Nat) (v:Value) (n:Nat) (xs:List Value) (hs:a.eval s=v) (hown:w.ownsRow base e 1 v n xs)
  (u:Value) (fr:Nat×Nat) (hx:a.eval x=.slice (some ⟨w.heap.size,0,none⟩) 1 1) (hu:u.oneCell'=true)
  (hlen:n+1<=1000000000) (hby:bytes<=64) (hbase:base<=w.heap.size)
  (h:∀v' w',w'.ownsRow base e 1 v' (n+1) (xs++[u])->v'≠.slice none 0 0->Below base w w'->w.heap.size<w'.heap.size->wpList P ops Q rest (a.put o.dst v') w') :
  wpList P ops Q (o::rest) a (w.alloc (.cells #[u] e fr)):=by
 obtain ⟨i0,hi,hz0,hz1,hz2⟩:=info_parts hinfo
 refine wpList_append_own _ hgd s x t ho base e i0 z 1 bytes ht hi hz0 hz1 hz2 hz (by decide) v n xs hs (hown.alloc _) ⟨w.heap.size,0,none⟩ 1 1 [u] hx rfl ?_ ?_ ?_ ?_ ?_ ?_
 ·intro j u' hj
  match j,hj with
  |0,hj=>
   simp at hj
   subst hj
   have:(⟨w.heap.size,0,none⟩:Addr).add 0=⟨w.heap.size,0,none⟩:=by unfold Addr.add;split<;>simp_all
   rw[this,World.cell?_alloc_mark];rfl
 ·intro u' h'
  simp at h'
  subst h';exact hu
 ·unfold maxLen;omega
 ·exact Nat.le_trans (Nat.mul_le_mul hlen hby) (by omega)
 ·rw[World.size_alloc];omega
 ·intro v' w' hown' hg hnil
  have hsz:=hg.size
  rw[World.size_alloc] at hsz
  refine h v' w' hown' (fun hv=>by have:=(hnil.1 hv).2;omega) ?_ (by omega)
  refine ((Below.refl base w).alloc hbase _).grown hg (by rw[World.size_alloc];omega) fun k hk=>?_
  exact (hown.lt k hk).1
theorem U1 (w:World) (src dst e:TypeId) (hs:P.underlying src=some (.slice e)) (he:P.underlying e=some (.int .u8)) (hd:P.underlying dst=some .string)
  (base:Nat) (v:Value) (n:Nat) (l:List UInt8) (hown:w.ownsRow base e 1 v n (t4 l)):(convert src dst v).run P w=.ok (.string ⟨l.toArray⟩) w:=by
 have hl:l.length=n:=by have:=hown.1;rw[M7] at this;omega
 rcases hown.2 with ⟨rfl,h0⟩|⟨g,cap,cur,rfl,_,hg,hnc,_,hsz,htk⟩
 ·subst h0
  have:l=[]:=List.eq_nil_of_length_eq_zero hl
  subst this
  rw[run_convert_bytes_string w src dst e none 0 0 hs he hd]
  simp[Conv.bytesToString]
  rfl
 ·refine Y1 w src dst e hs he hd g e _ cur hg 0 n cap l hl fun j hj=>?_
  have h1:(cur.toList.take (n*1))[j]? = (t4 l)[j]?:=by rw[htk]
  rw[List.getElem?_take,if_pos (by omega)] at h1
  rw[Nat.zero_add,<-Array.getElem?_toList,h1]
  simp[t4,List.getElem?_eq_getElem hj]
end
def Q7 (n:Int):Nat:=(n % 18446744073709551616).toNat
theorem tX (n:Int):IntKind.u64.wrap n=((Q7 n:Nat):Int):=by rw[IntKind.wrap_u64];unfold Q7;omega
theorem eL (n:Int):Q7 n<18446744073709551616:=by unfold Q7;omega
theorem dZ (l:List UInt8):(⟨l.toArray⟩:ByteArray).toList=l:=by
 rw[ByteArray.toList_eq]
theorem pF (l m:List UInt8):(⟨l.toArray⟩:ByteArray)++⟨m.toArray⟩=⟨(l++m).toArray⟩:=by
 apply ByteArray.ext;simp
theorem a7g (s:ByteArray):(⟨s.data.toList.toArray⟩:ByteArray)=s:=by
 apply ByteArray.ext;simp
namespace M
def be:Nat->Nat->List UInt8
 |0,_=>[]
 |k+1,u=>UInt8.ofNat (u / 256 ^ k)::be k u
theorem Y6 (k u:Nat):(be k u).length=k:=by
 induction k with
 |zero=>rfl
 |succ k ih=>simp[be,ih]
theorem Vu (k j u:Nat):(be (k+j) u).drop k=be j u:=by
 induction k with
 |zero=>simp
 |succ k ih=>rw[Nat.add_right_comm,be,List.drop_succ_cons,ih]
def R2 (u:Nat):List UInt8:=if u<128 then [UInt8.ofNat u] else UInt8.ofNat (u % 128+128)::R2 (u / 128)
termination_by u
decreasing_by omega
theorem Y7 (u:Nat) (h:u<128):R2 u=[UInt8.ofNat u]:=by rw[R2,if_pos h]
theorem S2 (u:Nat) (h:¬u<128):R2 u=UInt8.ofNat (u % 128+128)::R2 (u / 128):=by rw[R2,if_neg h]
def cnt (u:Nat):Nat:=if u=0 then 0 else 1+cnt (u / 128)
termination_by u
decreasing_by omega
theorem mL:cnt 0=0:=by rw[cnt,if_pos rfl]
theorem Gn (u:Nat) (h:0<u):cnt u=1+cnt (u / 128):=by rw[cnt,if_neg (by omega)]
theorem nZ (u:Nat):(R2 u).length=1+cnt (u / 128):=by
 induction u using Nat.strongRecOn with
 |_ u ih=>
  by_cases h:u<128
  ·rw[Y7 u h,Nat.div_eq_of_lt h,mL];rfl
  ·rw[S2 u h,List.length_cons,ih (u / 128) (by omega),Gn (u / 128) (by omega)];omega
theorem b2n (k u:Nat) (h:u<128 ^ k):cnt u<=k:=by
 induction k generalizing u with
 |zero=>
  have:u=0:=by simpa using h
  subst this;rw[mL];omega
 |succ k ih=>
  by_cases h0:u=0
  ·subst h0;rw[mL];omega
  ·rw[Gn u (by omega)]
   have:=ih (u / 128) (by rw[Nat.pow_succ] at h;omega)
   omega
theorem cA (u:Nat) (h:u<18446744073709551616):(R2 u).length<=10:=by
 rw[nZ]
 have:=b2n 9 (u / 128) (by omega)
 omega
theorem fC (u:Nat):0<(R2 u).length:=by rw[nZ];omega
def aX:Nat:=3988292384
def step (c:Nat):Nat:=(c >>> 1) ^^^ (if c % 2=1 then aX else 0)
def E6:Nat->Nat->Nat
 |0,c=>c
 |n+1,c=>E6 n (step c)
def kS (c b:Nat):Nat:=E6 8 (c ^^^ b)
def pS:Nat->List UInt8->Nat
 |c,[]=>c
 |c,b::l=>pS (kS c b.toNat) l
def sum (l:List UInt8):Nat:=4294967295-pS 4294967295 l
theorem Ta (c:Nat):c >>> 1=c / 2:=by rw[Nat.shiftRight_eq_div_pow]
theorem Sa (a b:Nat):step (a ^^^ b)=step a ^^^ step b:=by
 unfold step
 rw[Nat.shiftRight_xor_distrib]
 have e:(a ^^^ b) % 2=(a+b) % 2:=by
  have:=Nat.xor_mod_two_eq_one (a:=a) (b:=b)
  omega
 rcases Nat.mod_two_eq_zero_or_one a with ha|ha<;>rcases Nat.mod_two_eq_zero_or_one b with hb|hb
 ·rw[if_neg (by omega),if_neg (by omega),if_neg (by omega)];simp
 ·rw[if_pos (by omega),if_neg (by omega),if_pos (by omega)];simp[Nat.xor_assoc]
 ·rw[if_pos (by omega),if_pos (by omega),if_neg (by omega)]
  simp only[Nat.xor_zero];rw[Nat.xor_assoc,Nat.xor_assoc,Nat.xor_comm (b >>> 1) aX]
 ·rw[if_neg (by omega),if_pos (by omega),if_pos (by omega)]
  have:(a >>> 1 ^^^ aX) ^^^ (b >>> 1 ^^^ aX)=(a >>> 1 ^^^ b >>> 1) ^^^ (aX ^^^ aX):=by
   rw[Nat.xor_assoc,Nat.xor_assoc,<-Nat.xor_assoc aX,Nat.xor_comm aX (b >>> 1),Nat.xor_assoc]
  rw[this,Nat.xor_self]
theorem Pk (y:Nat) (h:y % 2=1):step y=(y / 2) ^^^ aX:=by unfold step;rw[if_pos h,Ta]
theorem Hg (y:Nat) (h:¬y % 2=1):step y=y / 2:=by unfold step;rw[if_neg h,Ta];simp
theorem Jt (n a b:Nat):E6 n (a ^^^ b)=E6 n a ^^^ E6 n b:=by
 induction n generalizing a b with
 |zero=>rfl
 |succ n ih=>rw[E6,E6,E6,Sa,ih]
theorem Jv (n b:Nat):E6 n (b <<< n)=b:=by
 induction n with
 |zero=>simp[E6]
 |succ n ih=>
  rw[E6]
  have:step (b <<< (n+1))=b <<< n:=by
   unfold step
   have h0:b <<< (n+1)=2*(b <<< n):=by rw[Nat.shiftLeft_succ]
   rw[h0,if_neg (by omega),Ta]
   simp
  rw[this,ih]
theorem lV (c:Nat) (h:c<4294967296):step c<4294967296:=by
 unfold step
 have h1:c >>> 1<2 ^ 32:=by rw[Ta];omega
 have h2:(if c % 2=1 then aX else 0)<2 ^ 32:=by unfold aX;split<;>omega
 exact Nat.xor_lt_two_pow h1 h2
theorem wY (n c:Nat) (h:c<4294967296):E6 n c<4294967296:=by
 induction n generalizing c with
 |zero=>exact h
 |succ n ih=>exact ih _ (lV c h)
theorem mQ {a b:Nat} (ha:a<4294967296) (hb:b<4294967296):a ^^^ b<4294967296:=
 Nat.xor_lt_two_pow (n:=32) ha hb
theorem a1i (c b:Nat) (hc:c<4294967296) (hb:b<256):kS c b<4294967296:=
 wY 8 _ (mQ hc (by omega))
theorem xF (l m:List UInt8):∀c,pS c (l++m)=pS (pS c l) m:=by
 induction l with
 |nil=>intro c;rfl
 |cons b l ih=>intro c;exact ih _
theorem b3t (c:Nat):c=(c % 256) ^^^ ((c >>> 8) <<< 8):=by
 apply Nat.eq_of_testBit_eq
 intro i
 rw[Nat.testBit_xor,Nat.testBit_shiftLeft,Nat.testBit_shiftRight,show (256:Nat)=2 ^ 8 from rfl,Nat.testBit_mod_two_pow]
 by_cases h:i<8
 ·simp[h,show ¬(8<=i) by omega]
 ·simp[h,show 8<=i by omega,show 8+(i-8)=i by omega]
theorem Dm (c b:Nat):kS c b=E6 8 ((c % 256) ^^^ b) ^^^ (c >>> 8):=by
 unfold kS
 conv=>lhs;rw[b3t c]
 rw[Nat.xor_assoc,Nat.xor_comm _ b,<-Nat.xor_assoc,Jt,Jv]
end M
def sz (n:Int):Nat:=(max 0 (min n 8)).toNat
theorem Py (n:Int):sz n<=8:=by unfold sz;omega
theorem zU (n:Int) (w:World) :
  Calls prog 116 #[.int .i64 n] w fun e w'=>e=.returned (.int .i64 (sz n))/\w=w':=by
 go_enter func116,ntmps116
 go_wp2
 all_goals
  go_ret
  exact ⟨F0 (by unfold sz;split at *<;>omega),rfl⟩
theorem yU (n:Int) (w:World) :
  Calls prog 136 #[.int .i64 n] w fun e w'=>e=.returned (.int .i64 (sz n))/\w=w':=by
 go_enter func136,ntmps136
 go_wp2
 all_goals
  go_ret
  exact ⟨F0 (by unfold sz;split at *<;>omega),rfl⟩
theorem Ic (u:Nat) (h:u<18446744073709551616) :
  #[Value.int .u8 ((u:Int) / 72057594037927936),.int .u8 ((u:Int) / 281474976710656 % 256),.int .u8 ((u:Int) / 1099511627776 % 256),
   .int .u8 ((u:Int) / 4294967296 % 256),.int .u8 ((u:Int) / 16777216 % 256),.int .u8 ((u:Int) / 65536 % 256),.int .u8 ((u:Int) / 256 % 256),.int .u8 ((u:Int) % 256)]=jM (M.be 8 u):=by
 have e:(u:Int) / 72057594037927936=(u:Int) / 72057594037927936 % 256:=by omega
 rw[e]
 simp[jM,M.be]
theorem Ik (u s k:Nat) (h:s=0\/k+s=8):∀j (hj:j<(M.be s u).length),(jM (M.be 8 u))[k+j]? = some (.int .u8 (((M.be s u)[j]).toNat:Int)):=by
 intro j hj
 have hl:j<s:=by rw[M.Y6] at hj;exact hj
 have h8:k+s=8:=by omega
 have hd:=M.Vu k s u
 rw[h8] at hd
 rw[Jo _ _ (by rw[M.Y6];omega)]
 congr 3
 simp only[<-hd,List.getElem_drop]
theorem a3i (n m:Int) (w:World) :
  Calls prog 50 #[.int .i64 n,.int .i64 m] w fun e w'=>e=.returned (.string ⟨(M.be (sz m) (Q7 n)).toArray⟩)/\Below w.heap.size w w':=by
 have hs8:=Py m
 have hu:=tX n
 have hul:=eL n
 go_enter func50,ntmps50
 go_wp2_with fail
 refine wp_loop_rounds 9 ?_
 iterate 9 (rw[rounds_succ];go_wp2_with fail)
 refine (zU _ _).mono ?_
 rintro e w' ⟨rfl,rfl⟩
 have hk:sz m=0\/sz m=1\/sz m=2\/sz m=3\/sz m=4\/sz m=5\/sz m=6\/sz m=7\/sz m=8:=by omega
 rcases hk with h|h|h|h|h|h|h|h|h
 all_goals
  go_wp2_with fail
  rw[Ic _ hul]
  rw[Y1 (P:=prog) _ 57 9 5 underlying57 underlying5 underlying9 w.heap.size 165 (0,0) (jM (M.be 8 (Q7 n))) (heap_alloc_new _ _) _ _ _ (M.be (sz m) (Q7 n)) (by rw[M.Y6,h]) (Ik _ _ _ (by omega))]
  go_wp2_with fail
  go_ret
  exact ⟨by first|(rw[h];done)|(rw[h];rfl),(Below.refl _ _).alloc (Nat.le_refl _) _⟩
theorem Tryz.info5:(prog.info? 5).map (fun i=>(i.zero,i.size,i.bytes))=some (some (.int .u8 0),1,1):=by kernel_rfl
theorem Jd:∀x:Fin 256,(x.val ||| 128)=x.val % 128+128:=by decide +kernel
theorem b8d (r:Nat):bits .or .u8 ((r:Int) % 256) 128=((UInt8.ofNat (r % 128+128)).toNat:Int):=by
 have h:=u8_or_nat (r % 256) 128 (by omega) (by omega)
 have h2:=Jd ⟨r % 256,by omega⟩
 simp only at h2
 rw[h2] at h
 rw[show ((r % 256:Nat):Int)=(r:Int) % 256 by omega,show ((128:Nat):Int)=128 from rfl] at h
 rw[h]
 simp
 omega
theorem mA (r:Nat) (h:r<128):((r:Nat):Int)=((UInt8.ofNat r).toNat:Int):=by simp;omega
theorem a1h {w:World} {base:Nat} {v:Value} {n:Nat} {l:List UInt8} {x:Int} {b:UInt8} (h:w.ownsRow base 5 1 v (n+1) (t4 l++[.int .u8 x])) (e:x=(b.toNat:Int)) (hn:l.length=n) :
  w.ownsRow base 5 1 v (l++[b]).length (t4 (l++[b])):=by
 subst e hn
 rw[C3,List.length_append]
 exact h
theorem Gh (n:Int) (w:World) :
  Calls prog 48 #[.int .i64 n] w fun e w'=>e=.returned (.string ⟨(M.R2 (Q7 n)).toArray⟩)/\Below w.heap.size w w':=by
 have hu:=tX n
 have hul:=eL n
 have hll:=M.cA _ hul
 go_enter func48,ntmps48
 go_wp2_with fail
 go_loopw [3,4] (fun v u wr=>∃(l:List UInt8) (r:Nat),u=.int .u64 (r:Int)/\Hid (r<18446744073709551616)/\Hid (M.R2 (Q7 n)=l++M.R2 r)/\wr.ownsRow w.heap.size 5 1 v l.length (t4 l)/\Below w.heap.size w wr)
  (fun _ u _=>(intOf u).toNat)
 case atStart=>exact ⟨[],Q7 n,rfl,hul,rfl,World.ownsRow_nil _ _ _ _,Below.refl _ _⟩
 case round=>
  obtain ⟨l,r,rfl,hr,HL,hown,hb⟩:=hrel
  clear hu hul
  have hlen:l.length+(M.R2 r).length<=10:=by rw[<-List.length_append,<-HL.out];exact hll
  have hpos:=M.fC r
  have hsz:=hb.size
  clear hll
  go_wp2_with (at_builtin;refine fQ _ rfl _ _ 57 5 rfl underlying57 (.int .u8 0) 1 Tryz.info5 rfl w.heap.size _ _ _ rfl hown _ _ rfl rfl (by omega) (by omega) hsz ?_)
  ·intro v' w' hown' hne hb' hsz'
   have hge:128<=(r:Int):=by assumption
   have hown2:=a1h hown' (b8d r) rfl
   clear hown' hown
   go_wp2_with fail
   go_roundw
   case rel=>exact ⟨_,r / 128,by go_num,(show r / 128<18446744073709551616 by have:=hr.out;omega),(show M.R2 (Q7 n)=_ by rw[HL.out,M.S2 r (by omega),List.append_assoc];rfl),hown2,hb.trans hb'⟩
   case measure=>simp[intOf];omega
  ·intro v' w' hown' hne hb' hsz'
   have hge:(r:Int)<128:=by assumption
   have hown2:=a1h hown' (mA r (by omega)) rfl
   have hc:=U1 (P:=prog) w' 57 9 5 underlying57 underlying5 underlying9 _ _ _ _ hown2
   have hfin:M.R2 (Q7 n)=l++[UInt8.ofNat r]:=by rw[HL.out,M.Y7 r (by omega)]
   have HF:=Lib.hid hfin
   clear hown' hown hfin
   go_wp2_with fail
   go_ret
   exact ⟨by rw[HF.out];rfl,hb.trans hb'⟩
theorem Aj (r:Nat):((r:Int) % 128+128)=((UInt8.ofNat (r % 128+128)).toNat:Int):=by simp;omega
theorem tY (n:Int) (w:World) :
  Calls prog 73 #[.int .i64 n] w fun e w'=>e=.returned (.string ⟨(M.R2 (Q7 n)).toArray⟩)/\Below w.heap.size w w':=by
 have hu:=tX n
 have hul:=eL n
 have hll:=M.cA _ hul
 go_enter func73,ntmps73
 go_wp2_with fail
 go_loopw [3,4] (fun v u wr=>∃(l:List UInt8) (r:Nat),u=.int .u64 (r:Int)/\Hid (r<18446744073709551616)/\Hid (M.R2 (Q7 n)=l++M.R2 r)/\wr.ownsRow w.heap.size 5 1 v l.length (t4 l)/\Below w.heap.size w wr)
  (fun _ u _=>(intOf u).toNat)
 case atStart=>exact ⟨[],Q7 n,rfl,hul,rfl,World.ownsRow_lit w #[] 0 (Nat.le_refl _) (Nat.zero_le _) rfl,(Below.refl _ _).alloc (Nat.le_refl _) _⟩
 case round=>
  obtain ⟨l,r,rfl,hr,HL,hown,hb⟩:=hrel
  clear hu hul
  have hlen:l.length+(M.R2 r).length<=10:=by rw[<-List.length_append,<-HL.out];exact hll
  have hpos:=M.fC r
  have hsz:=hb.size
  clear hll
  have hr2:IntKind.u64.wrap ((r:Int) / 128)=((r / 128:Nat):Int):=by have:=hr.out;rw[IntKind.wrap_u64];omega
  go_wp2_with (at_builtin;refine fQ _ rfl _ _ 57 5 rfl underlying57 (.int .u8 0) 1 Tryz.info5 rfl w.heap.size _ _ _ rfl hown _ _ rfl rfl (by omega) (by omega) hsz ?_)
  ·intro v' w' hown' hne hb' hsz'
   have hge:128<=(r:Int):=by assumption
   have hown2:=a1h hown' (Aj r) rfl
   clear hown' hown
   go_wp2_with fail
   go_roundw
   case rel=>exact ⟨_,r / 128,by go_num,(show r / 128<18446744073709551616 by have:=hr.out;omega),(show M.R2 (Q7 n)=_ by rw[HL.out,M.S2 r (by omega),List.append_assoc];rfl),hown2,hb.trans hb'⟩
   case measure=>simp[intOf];omega
  ·intro v' w' hown' hne hb' hsz'
   have hge:(r:Int)<128:=by assumption
   have hown2:=a1h hown' (mA r (by omega)) rfl
   have hc:=U1 (P:=prog) w' 57 9 5 underlying57 underlying5 underlying9 _ _ _ _ hown2
   have hfin:M.R2 (Q7 n)=l++[UInt8.ofNat r]:=by rw[HL.out,M.Y7 r (by omega)]
   have HF:=Lib.hid hfin
   clear hown' hown hfin
   go_wp2_with fail
   go_ret
   exact ⟨by rw[HF.out];rfl,hb.trans hb'⟩
def Fo (s:ByteArray):List UInt8:=M.R2 s.size++s.data.toList
theorem Me (s:ByteArray):(⟨(M.R2 s.size).toArray⟩:ByteArray)++s=⟨(Fo s).toArray⟩:=by
 unfold Fo;rw[<-pF,a7g]
theorem Gd (n:Nat) (h:n<=9223372036854775807):Q7 (n:Int)=n:=by unfold Q7;omega
theorem Pp (s:ByteArray) (w:World) (hs:s.size<=1000000000000000000) :
  Calls prog 55 #[.string s] w fun e w'=>e=.returned (.string ⟨(Fo s).toArray⟩)/\Below w.heap.size w w':=by
 have hl:=M.cA (Q7 s.size) (eL _)
 have HF:Hid ((⟨(M.R2 (Q7 s.size)).toArray⟩:ByteArray)++s=⟨(Fo s).toArray⟩):=by rw[Gd _ (by omega)];exact Me s
 go_enter func55,ntmps55
 go_wp2_with fail
 refine (Gh _ _).mono ?_
 rintro e w' ⟨rfl,hb⟩
 go_wp2_with fail
 go_ret
 exact ⟨Ey HF.out,hb⟩
theorem Se (s:ByteArray) (w:World) (hs:s.size<=1000000000000000000) :
  Calls prog 76 #[.string s] w fun e w'=>e=.returned (.string ⟨(Fo s).toArray⟩)/\Below w.heap.size w w':=by
 have hl:=M.cA (Q7 s.size) (eL _)
 have HF:Hid ((⟨(M.R2 (Q7 s.size)).toArray⟩:ByteArray)++s=⟨(Fo s).toArray⟩):=by rw[Gd _ (by omega)];exact Me s
 go_enter func76,ntmps76
 go_wp2_with fail
 refine (tY _ _).mono ?_
 rintro e w' ⟨rfl,hb⟩
 go_wp2_with fail
 go_ret
 exact ⟨Ey HF.out,hb⟩
def dn (u k:Nat):Nat:=u / 256 ^ k
theorem Yd (u:Nat):dn u 0=u:=by simp[dn]
theorem a0h (u k:Nat):dn u (k+1)=dn u k / 256:=by unfold dn;rw[Nat.pow_succ,Nat.div_div_eq_div_mul]
theorem c4u (u k:Nat):dn u k<=u:=Nat.div_le_self _ _
theorem Mn (r:Nat):∀j (h:j < [UInt8.ofNat r].length),(#[Value.int .u8 ((r:Int) % 256)]:Array Value)[0+j]? = some (.int .u8 (([UInt8.ofNat r][j]).toNat:Int)):=by
 intro j hj
 have:j=0:=by simpa using hj
 subst this
 simp
theorem c6o (u k:Nat):M.be (k+1) u=UInt8.ofNat (dn u k)::M.be k u:=rfl
theorem a4h (n m:Int) (w:World) :
  Calls prog 74 #[.int .i64 n,.int .i64 m] w fun e w'=>e=.returned (.string ⟨(M.be (sz m) (Q7 n)).toArray⟩)/\Below w.heap.size w w':=by
 have hs8:=Py m
 have hu:=tX n
 have hul:=eL n
 go_enter func74,ntmps74
 go_wp2_with fail
 clear hu
 go_loopw [5,6,7] (fun s u i wr=>∃k r:Nat,k<=sz m/\i=.int .i64 k/\u=.int .u64 r/\Hid (r=dn (Q7 n) k)/\s=.string ⟨(M.be k (Q7 n)).toArray⟩/\Below w.heap.size w wr)
  (fun _ _ i _=>9-(intOf i).toNat)
 case atStart=>exact ⟨0,Q7 n,Nat.zero_le _,rfl,rfl,(Yd _).symm,rfl,Below.refl _ _⟩
 case round=>
  obtain ⟨k,r,hk,rfl,rfl,HR,rfl,hb⟩:=hrel
  have hr:IntKind.u64.wrap ((r:Int) / 256)=((r / 256:Nat):Int):=by have h1:=HR.out;have:=c4u (Q7 n) k;rw[IntKind.wrap_u64];omega
  have hbl:(M.be k (Q7 n)).length<=8:=by rw[M.Y6];omega
  clear hul
  go_wp2_with fail
  refine (yU _ _).mono ?_
  rintro e w' ⟨rfl,rfl⟩
  by_cases hlt:k<sz m
  ·go_wp2_with fail
   rw[Y1 (P:=prog) _ 57 9 5 underlying57 underlying5 underlying9 wr.heap.size 5 (0,0) #[.int .u8 ((r:Int) % 256)] (heap_alloc_new _ _) 0 1 1 [UInt8.ofNat r] rfl (Mn r)]
   have HA:Hid ((⟨[UInt8.ofNat r].toArray⟩:ByteArray)++⟨(M.be k (Q7 n)).toArray⟩=⟨(M.be (k+1) (Q7 n)).toArray⟩):=by
    rw[pF,c6o,HR.out];rfl
   go_wp2_with fail
   go_roundw
   case rel=>exact ⟨k+1,r / 256,by omega,by go_num,by go_num,(show r / 256=_ by rw[a0h,<-HR.out]),by rw[<-HA.out],hb.alloc hb.size _⟩
   case measure=>simp[intOf];omega
  ·go_wp2_with fail
   have hkk:k=sz m:=by omega
   go_ret
   exact ⟨by rw[<-hkk];rfl,hb⟩
def Z9:Array Value:=((List.range 256).map fun i=>Value.int .u32 (M.E6 8 i:Nat)).toArray
theorem Yx (i:Nat) (h:i<256):Z9[i]? = some (.int .u32 (M.E6 8 i:Nat)):=by
 simp[Z9,h]
theorem sM (c:Nat) (h:c<4294967296):4294967295 ^^^ c=4294967295-c:=by
 apply Nat.eq_of_testBit_eq
 intro i
 have h1:=Nat.testBit_two_pow_sub_succ (x:=c) (n:=32) h i
 have h2:=Nat.testBit_two_pow_sub_one 32 i
 rw[show 4294967295-c=2 ^ 32-(c+1) by omega,h1,Nat.testBit_xor,show (4294967295:Nat)=2 ^ 32-1 from rfl,h2]
 by_cases hi:i<32
 ·simp[hi]
 ·have:c.testBit i=false:=Nat.testBit_lt_two_pow (Nat.lt_of_lt_of_le (show c<2 ^ 32 from h) (Nat.pow_le_pow_right (by omega) (by omega:32<=i)))
  simp[hi,this]
theorem fJ (c:Nat) (h:c<4294967296):bits .xor .u32 IntKind.u32.max (c:Int)=((4294967295-c:Nat):Int):=by
 have h1:=u32_xor_nat 4294967295 c (by omega) h
 rw[sM c h] at h1
 exact h1
theorem rE:Z9.size=256:=by simp[Z9]
theorem Tryz.size168:(prog.info? 168).map (·.size)=some Z9.size:=by rw[rE];kernel_rfl
theorem zD:Z9.all (·.oneCell')=true:=by
 rw[Array.all_eq_true_iff_forall_mem]
 intro x hx
 simp[Z9] at hx
 obtain ⟨i,_,rfl⟩:=hx
 rfl
theorem a1b (x:Nat) (h:x<4294967296):bits .xor .u32 ((x:Int) / 2) (3988292384*bits .and .u32 (x:Int) 1 % 4294967296)=((M.step x:Nat):Int):=by
 have h1:=u32_and_nat x 1 h (by omega)
 rw[show ((1:Nat):Int)=1 from rfl] at h1
 rw[h1,Nat.and_one_is_mod]
 have h2:3988292384*((x % 2:Nat):Int) % 4294967296=((if x % 2=1 then M.aX else 0:Nat):Int):=by
  unfold M.aX
  rcases Nat.mod_two_eq_zero_or_one x with e|e<;>rw[e]<;>rfl
 have h3:=u32_xor_nat (x / 2) (if x % 2=1 then M.aX else 0) (by omega) (by unfold M.aX;split<;>omega)
 rw[h2,show (x:Int) / 2=((x / 2:Nat):Int) by omega,h3]
 unfold M.step
 rw[M.Ta]
def jG (k:Nat):Array Value:=((List.range 256).map fun i=>Value.int .u32 (if i<k then M.E6 8 i else 0:Nat)).toArray
theorem Ja:jG 0=Array.replicate 256 (.int .u32 0):=by
 apply Array.ext
 ·simp[jG]
 ·intro i h1 h2
  simp[jG]
theorem Px (k:Nat):(jG k).setIfInBounds k (.int .u32 (M.E6 8 k:Nat))=jG (k+1):=by
 apply Array.ext
 ·simp[jG]
 ·intro i h1 h2
  rw[Array.getElem_setIfInBounds (by simpa using h1)]
  split
  ·rename_i e;subst e;simp[jG]
  ·simp only[jG,List.getElem_toArray,List.getElem_map,List.getElem_range]
   congr 2
   by_cases h3:i<k
   ·rw[if_pos h3,if_pos (by omega)]
   ·rw[if_neg h3,if_neg (by omega)]
theorem Gy (k:Nat) (h:k<256):(jG k)[k]? = some (.int .u32 0):=by
 simp[jG,h]
theorem Iq:jG 256=Z9:=by
 unfold jG Z9
 apply congrArg List.toArray
 apply List.map_congr_left
 intro i hi
 rw[if_pos (by simpa using hi)]
theorem Tryz.zero168 (w:World):(zeroValue 168).run prog w=.ok (.agg (Array.replicate 256 (.int .u32 0))) w:=by kernel_rfl
theorem Ho (w:World) :
  Calls prog 119 #[] w fun e w'=>e=.returned (.agg Z9)/\Below w.heap.size w w':=by
 have hz:=Tryz.zero168
 go_enter func119,ntmps119
 go_wp2_with fail
 clear hz
 go_loopw [3] (fun i wr=>∃k:Nat,k<=256/\i=.int .i64 k/\wr.heap[w.heap.size]? = some (.cells (jG k) 168 (0,0))/\Below w.heap.size w wr)
  (fun i _=>256-(intOf i).toNat)
 case atStart=>exact ⟨0,by omega,rfl,by rw[Ja];exact heap_alloc_new _ _,(Below.refl _ _).alloc (Nat.le_refl _) _⟩
 case round=>
  obtain ⟨k,hk,rfl,hg,hb⟩:=hrel
  have hG:=Lib.hid hg
  clear hg
  by_cases hlt:k<256
  ·go_wp2_with fail
   go_loop [2,8] (fun c j=>∃m x:Nat,m<=8/\j=.int .i64 m/\c=.int .u32 (x:Nat)/\Hid (x<4294967296)/\Hid (M.E6 (8-m) x=M.E6 8 k)) (fun _ j=>8-(intOf j).toNat)
   case atStart=>exact ⟨0,k,by omega,rfl,by first|rfl|go_num,(show k<4294967296 by omega),rfl⟩
   case round=>
    obtain ⟨m,x,hm,rfl,rfl,hx,HX⟩:=hrel
    by_cases hm8:m<8
    ·have hst:=a1b x hx.out
     have HY:Hid (M.E6 (8-(m+1)) (M.step x)=M.E6 8 k):=by
      have:=HX.out
      rw[show 8-m=(8-(m+1))+1 by omega] at this
      exact this
     go_wp2_with fail
     go_round
     case rel=>exact ⟨m+1,M.step x,by omega,by go_num,rfl,M.lV x hx.out,HY⟩
     case measure=>simp[intOf];omega
    ·have hxk:x=M.E6 8 k:=by have:=HX.out;rw[show 8-m=0 by omega] at this;exact this
     have hcell:wr.cell? ⟨w.heap.size,k,none⟩=some (.int .u32 0):=by rw[cell_of_row wr _ _ _ _ _ hG.out];exact Gy k hlt
     have hfr:wr.frozen? ⟨w.heap.size,k,none⟩=false:=frozen_of_row wr _ _ _ _ hG.out
     have HXK:=Lib.hid hxk
     clear hxk
     go_wp2_with fail
     go_roundw
     case rel=>exact ⟨k+1,by omega,by go_num,by rw[HXK.out,heap_setCell_same wr _ _ _ _ _ hG.out,Px k],hb.setCell (Nat.le_refl _) _⟩
     case measure=>simp[intOf];omega
  ·have hkk:k=256:=by omega
   have hg:wr.heap[w.heap.size]? = some (.cells Z9 168 (0,0)):=by rw[hG.out,hkk,Iq]
   have hset:wr.setRow w.heap.size Z9=wr:=setRow_self wr _ _ _ _ hg
   clear hG
   go_wp2_with (first|(refine wpList_store_row rfl 168 _ _ rfl w.heap.size Z9 rfl rfl 168 Z9 hg (by kernel_rfl) rfl zD ?_)|(refine wpList_load_row rfl 168 _ rfl w.heap.size rfl 168 _ (0,0) _ hg underlying168 rfl (by kernel_rfl) ?_))
   rw[hset]
   exact bodyPost_ret (v:=.agg Z9) (results_cell_row rfl _ _ w.heap.size 168 Z9 (0,0) _ rfl hg underlying168 rfl (by kernel_rfl)) rfl ⟨rfl,hb⟩
theorem b0h (c:Nat) (b:UInt8):bits .xor .u8 ((c:Int) % 256) (b.toNat:Int)=((c % 256 ^^^ b.toNat:Nat):Int):=by
 have h:=u8_xor_nat (c % 256) b.toNat (by omega) b.toNat_lt
 rw[<-h];rfl
theorem Hr (c:Nat) (b:UInt8):(c % 256 ^^^ b.toNat)<256:=Nat.xor_lt_two_pow (n:=8) (by omega) b.toNat_lt
theorem Vz (c:Nat) (b:Nat) (hc:c<4294967296) (hb:b<256):bits .xor .u32 (M.E6 8 (c % 256 ^^^ b):Nat) ((c:Int) / 256)=((M.kS c b:Nat):Int):=by
 have h:=u32_xor_nat (M.E6 8 (c % 256 ^^^ b)) (c / 256) (M.wY 8 _ (M.mQ (by omega) (by omega))) (by omega)
 rw[M.Dm,Nat.shiftRight_eq_div_pow]
 rw[show ((c / 256:Nat):Int)=(c:Int) / 256 by omega] at h
 rw[h]
theorem Lg (gt gc : Nat) (c : Nat) (b : UInt8) (w : World)
   (ht:w.heap[gt]? = some (.cells Z9 168 (0,0))) (hc:w.heap[gc]? = some (.cells #[.int .u32 c] 110 (0,0))) (hlt:c<4294967296) :
    Calls prog 120 #[.int .u8 b.toNat,.pointer (some ⟨gt,0,none⟩),.pointer (some ⟨gc,0,none⟩)] w fun e w'=>e=.returned (.tuple #[])/\w'=(w.setCell ⟨gc,0,none⟩ (.int .u32 (M.kS c b.toNat:Nat))).drew:=by
  have h1:=b0h c b
  have h2:=Hr c b
  have h3:=Vz c b.toNat hlt b.toNat_lt
  have h4:w.cell? ⟨gc,0,none⟩=some (.int .u32 c):=by rw[cell_of_row w gc 0 _ _ _ hc];rfl
  have h5:w.frozen? ⟨gc,0,none⟩=false:=frozen_of_row w gc 0 _ _ hc
  have h6:w.cell? ⟨gt,(c % 256 ^^^ b.toNat),none⟩=some (.int .u32 (M.E6 8 (c % 256 ^^^ b.toNat):Nat)):=by rw[cell_of_row w gt _ _ _ _ ht];exact Yx _ h2
  have h7:((c % 256 ^^^ b.toNat:Nat):Int)<256:=by omega
  go_enter func120,ntmps120
  go_wp2_with fail
  go_region
  all_goals (go_end0;exact ⟨rfl,rfl⟩)
theorem Gt (s:ByteArray) (k:Nat) (h:k<s.size):s.data.toList.take (k+1)=s.data.toList.take k++[s[k]]:=by
 rw[List.take_succ_eq_append_getElem (by simpa using h)];rfl
theorem xO (s:ByteArray) (k:Nat) (h:k<s.size):M.pS 4294967295 (s.data.toList.take (k+1))=M.kS (M.pS 4294967295 (s.data.toList.take k)) (s[k]).toNat:=by
 rw[Gt s k h,M.xF];rfl
theorem Et (s:ByteArray) (w:World) (hs:s.size<=1000000000000000000) :
  Calls prog 53 #[.string s] w fun e w'=>e=.returned (.int .u32 (M.sum s.data.toList:Nat))/\Below w.heap.size w w':=by
 have hz:=Tryz.zero168
 go_enter func53,ntmps53
 go_wp2_with fail
 refine (Ho _).mono ?_
 rintro e w1 ⟨rfl,hb⟩
 go_wp2_with fail
 rw[run_storeCells_new w1 168 _ Z9 Tryz.size168 (by rw[rE,Array.size_replicate]) zD]
 go_wp2_with fail
 clear hz
 go_loopw [11] (fun i wr=>∃k c:Nat,k<=s.size/\i=.int .i64 k/\Hid (c<4294967296)/\Hid (c=M.pS 4294967295 (s.data.toList.take k))/\wr.heap[w1.heap.size]? = some (.cells Z9 168 (0,0))/\wr.heap[w1.heap.size+1]? = some (.cells #[.int .u32 c] 110 (0,0))/\Below w.heap.size w wr) (fun i _=>s.size-(intOf i).toNat)
 case atStart=>exact ⟨0,4294967295,by omega,rfl,(show 4294967295<4294967296 by omega),rfl,heap_alloc2_old _ _ _,heap_alloc2_new _ _ _,(hb.alloc hb.size _).alloc (by rw[World.size_alloc];have:=hb.size;omega) _⟩
 case round=>
  obtain ⟨k,c,hk,rfl,hc,HC,hgt,hgc,hbr⟩:=hrel
  have Hgt:=Lib.hid hgt
  have Hgc:=Lib.hid hgc
  clear hgt hgc
  by_cases hlt:k<s.size
  ·go_wp2_with fail
   refine (Lg w1.heap.size (w1.heap.size+1) c (s[k]) _ Hgt.out Hgc.out hc.out).mono ?_
   rintro e w2 ⟨rfl,h1⟩
   have H1:=Lib.hid h1
   clear h1
   go_wp2_with fail
   go_roundw
   case rel=>
    refine ⟨k+1,M.kS c (s[k]).toNat,by omega,by go_num,M.a1i c _ hc.out (s[k]).toNat_lt,(show M.kS c (s[k]).toNat=_ by rw[xO s k hlt,<-HC.out]),?_,?_,?_⟩
    ·rw[H1.out,heap_drew,heap_setCell_other _ _ _ _ (by simp),Hgt.out]
    ·rw[H1.out,heap_drew,heap_setCell_same _ _ _ _ _ _ Hgc.out];rfl
    ·rw[H1.out]
     exact (hbr.setCell (by have:=hb.size;simp;omega) _).drew
   case measure=>simp[intOf];omega
  ·have h4:wr.cell? ⟨w1.heap.size+1,0,none⟩=some (.int .u32 c):=by rw[cell_of_row wr _ 0 _ _ _ Hgc.out];rfl
   have hkk:k=s.size:=by omega
   have HF:Hid (bits .xor .u32 IntKind.u32.max (c:Int)=((M.sum s.data.toList:Nat):Int)):=by
    have h1:=HC.out
    rw[List.take_of_length_le (by rw[hkk];exact Nat.le_refl _)] at h1
    unfold M.sum
    rw[<-h1]
    exact fJ c hc.out
   go_wp2_with fail
   go_ret
   exact ⟨F0 HF.out,hbr⟩
theorem Wp (s:ByteArray) (w:World) (hs:s.size<=1000000000000000000) :
  Calls prog 72 #[.string s] w fun e w'=>e=.returned (.int .u32 (M.sum s.data.toList:Nat))/\w=w':=by
 go_enter func72,ntmps72
 go_wp2_with fail
 go_loop [3,4] (fun c i=>∃k x:Nat,k<=s.size/\i=.int .i64 k/\c=.int .u32 x/\Hid (x<4294967296)/\Hid (x=M.pS 4294967295 (s.data.toList.take k))) (fun _ i=>s.size-(intOf i).toNat)
 case atStart=>exact ⟨0,4294967295,by omega,rfl,rfl,(show 4294967295<4294967296 by omega),rfl⟩
 case round=>
  obtain ⟨k,x,hk,rfl,rfl,hx,HX⟩:=hrel
  by_cases hlt:k<s.size
  ·have hb:=(s[k]).toNat_lt
   have h1:=u32_xor_nat x (s[k]).toNat hx.out (by omega)
   have HS:Hid (M.pS 4294967295 (s.data.toList.take (k+1))=M.kS x (s[k]).toNat):=by rw[HX.out];exact xO s k hlt
   go_wp2_with fail
   clear h1
   go_loop [3,5] (fun c j=>∃m y:Nat,m<=8/\j=.int .i64 m/\c=.int .u32 (y:Nat)/\Hid (y<4294967296)/\Hid (M.E6 (8-m) y=M.kS x (s[k]).toNat)) (fun _ j=>8-(intOf j).toNat)
   case atStart=>exact ⟨0,x ^^^ (s[k]).toNat,by omega,rfl,rfl,M.mQ hx.out (by omega),rfl⟩
   case round=>
    obtain ⟨m,y,hm,rfl,rfl,hy,HY⟩:=hrel
    by_cases hm8:m<8
    ·have hd:((y:Int) / 2 % 4294967296)=((y / 2:Nat):Int):=by have:=hy.out;omega
     have hst:bits .xor .u32 ((y / 2:Nat):Int) 3988292384=(((y / 2) ^^^ M.aX:Nat):Int):=u32_xor_nat (y / 2) M.aX (by have:=hy.out;omega) (by unfold M.aX;omega)
     have HZ:Hid (M.E6 (8-(m+1)) (M.step y)=M.kS x (s[k]).toNat):=by
      have:=HY.out
      rw[show 8-m=(8-(m+1))+1 by omega] at this
      exact this
     go_wp2_with fail
     ·have h2:((y:Int) % 2==1)=true:=by assumption
      have h3:(y:Int) % 2=1:=by simpa using h2
      go_round
      case rel=>exact ⟨m+1,M.step y,by omega,by go_num,by rw[M.Pk y (by omega)];exact congrArg (Value.int .u32) hst,M.lV y hy.out,HZ⟩
      case measure=>simp[intOf];omega
     ·have h2:((y:Int) % 2==1)=false:=by assumption
      have h3:¬(y:Int) % 2=1:=by simpa using h2
      go_round
      case rel=>exact ⟨m+1,M.step y,by omega,by go_num,by rw[M.Hg y (by omega)];rfl,M.lV y hy.out,HZ⟩
      case measure=>simp[intOf];omega
    ·go_wp2_with fail
     go_round
     case rel=>exact ⟨k+1,y,by omega,by go_num,rfl,hy,(show y=_ by rw[HS.out,<-HY.out,show 8-m=0 by omega];rfl)⟩
     case measure=>simp[intOf];omega
  ·have hkk:k=s.size:=by omega
   have HF:Hid (((4294967295-(x:Int)) % 4294967296)=(M.sum s.data.toList:Nat)):=by
    have h1:=HX.out
    have h2:=hx.out
    rw[List.take_of_length_le (by rw[hkk];exact Nat.le_refl _)] at h1
    unfold M.sum
    rw[<-h1]
    show _=_
    omega
   go_wp2_with fail
   go_ret
   exact ⟨F0 HF.out,rfl⟩
end Oct
end
namespace Ab
abbrev Kd:=j8 prog
end Ab
section
namespace Oct
def Rd (T:TypeId) (b:Nat) (s:ByteArray) (p:Nat) (f:Bool) (w:World):Prop:=∃zs:List Value,w.heap[b]? = some (.cells (([.string s,.int .i64 (p:Int),.bool f]:List Value)++zs).toArray T (0,0))
theorem Rd.c0 {T b s p f w} (h:Rd T b s p f w):w.cell? ⟨b,0,none⟩=some (.string s):=by obtain ⟨zs,h⟩:=h;rw[cell_of_row w b 0 _ _ _ h];simp
theorem Rd.c1 {T b s p f w} (h:Rd T b s p f w):w.cell? ⟨b,1,none⟩=some (.int .i64 (p:Int)):=by obtain ⟨zs,h⟩:=h;rw[cell_of_row w b 1 _ _ _ h];simp
theorem Rd.c2 {T b s p f w} (h:Rd T b s p f w):w.cell? ⟨b,2,none⟩=some (.bool f):=by obtain ⟨zs,h⟩:=h;rw[cell_of_row w b 2 _ _ _ h];simp
theorem Rd.fz {T b s p f w} (h:Rd T b s p f w) (j:Nat):w.frozen? ⟨b,j,none⟩=false:=by obtain ⟨zs,h⟩:=h;exact frozen_of_row w b j _ _ h
theorem Rd.put1 {T b s p f w} (h:Rd T b s p f w) (q:Nat):Rd T b s q f (w.setCell ⟨b,1,none⟩ (.int .i64 (q:Int))):=by
 obtain ⟨zs,h⟩:=h;refine ⟨zs,?_⟩;rw[heap_setCell_same _ _ _ _ _ _ h];simp
theorem Rd.put2 {T b s p f w} (h:Rd T b s p f w) (g:Bool):Rd T b s p g (w.setCell ⟨b,2,none⟩ (.bool g)):=by
 obtain ⟨zs,h⟩:=h;refine ⟨zs,?_⟩;rw[heap_setCell_same _ _ _ _ _ _ h];simp
theorem B0 (b:Nat) (w:World):w.grownBy w (some b):=⟨rfl,rfl,rfl,Nat.le_refl _,fun _ _ _=>rfl⟩
theorem L6 {b:Nat} {w w1 w2:World} (h:w.grownBy w1 (some b)) (k:w1.grownBy w2 (some b)):w.grownBy w2 (some b):=
 ⟨k.os.trans h.os,k.tape.trans h.tape,k.output.trans h.output,Nat.le_trans h.size k.size,fun i hi hn=>(k.block i (Nat.lt_of_lt_of_le hi h.size) hn).trans (h.block i hi hn)⟩
theorem w9 {b:Nat} {w w1:World} (h:w.grownBy w1 (some b)) (j:Nat) (v:Value):w.grownBy (w1.setCell ⟨b,j,none⟩ v) (some b):=
 ⟨h.os,h.tape,h.output,by simpa [World.setCell] using h.size,fun i hi hn=>by rw[heap_setCell_other _ _ _ _ (by intro e;exact hn (by rw[e]))];exact h.block i hi hn⟩
theorem y7 {b n:Nat} {w w1:World} (h:w.grownBy w1 (some b)):w.grownBy (w1.drewN n) (some b):=⟨h.os,h.tape,h.output,h.size,h.block⟩
theorem kE {b:Nat} {w w1:World} (h:Below w.heap.size w w1):w.grownBy w1 (some b):=⟨h.os,h.tape,h.output,h.size,fun i hi _=>h.block i hi⟩
theorem Tc (s:ByteArray) (w:World) :
  Calls prog 58 #[.string s] w fun e w'=>e=.returned (.pointer (some ⟨w.heap.size,0,none⟩))/\w.alloc (.cells #[.string s,.int .i64 0,.bool false] 174)=w':=by
 go_enter func58,ntmps58
 go_wp2_with fail
 go_ret
 exact ⟨rfl,rfl⟩
theorem Aw (b:Nat) (s:ByteArray) (p:Nat) (f:Bool) (w:World) (h:Rd 174 b s p f w) :
  Calls prog 61 #[.pointer (some ⟨b,0,none⟩)] w fun e w'=>e=.returned (.bool f)/\w=w':=by
 have h2:=h.c2
 go_enter func61,ntmps61
 go_wp2_with fail
 go_ret
 exact ⟨rfl,rfl⟩
theorem gM (b:Nat) (s:ByteArray) (p:Nat) (f:Bool) (w:World) (h:Rd 174 b s p f w) (hs:s.size<=1000000000000000000) (hp:p<=s.size) :
  Calls prog 63 #[.pointer (some ⟨b,0,none⟩)] w fun e w'=>e=.returned (.int .i64 ((s.size:Int)-p))/\∃n,w'=w.drewN n:=by
 have h0:=h.c0
 have h1:=h.c1
 go_enter func63,ntmps63
 go_wp2_with fail
 go_quiet (fail)
 go_wp2_with fail
 go_ret
 exact ⟨rfl,_,rfl⟩
theorem Rd.drewN {T b s p f w} (h:Rd T b s p f w) (n:Nat):Rd T b s p f (w.drewN n):=h
theorem Yp (b:Nat) (s:ByteArray) (p:Nat) (f:Bool) (w:World) (n:Int) (h:Rd 174 b s p f w) (hs:s.size<=1000000000000000000) (hp:p<=s.size)
  (hn:f=true\/n<0\/(s.size:Int)-p<n) :
  Calls prog 64 #[.pointer (some ⟨b,0,none⟩),.int .i64 n] w fun e w'=>e=.returned (.string ⟨#[]⟩)/\w.grownBy w' (some b)/\Rd 174 b s p true w':=by
 have h2:=h.c2
 have hf:=h.fz 2
 cases f with
 |true=>
  clear hn
  go_enter func64,ntmps64
  go_wp2_with fail
  go_ret
  exact ⟨rfl,w9 (B0 _ _) _ _,h.put2 _⟩
 |false=>
  by_cases h0:n<0
  ·clear hn
   go_enter func64,ntmps64
   go_wp2_with fail
   go_ret
   exact ⟨rfl,w9 (B0 _ _) _ _,h.put2 _⟩
  ·have h3:(s.size:Int)-p<n:=by rcases hn with h|h|h<;>first|omega|simp at h
   clear hn
   go_enter func64,ntmps64
   go_wp2_with fail
   refine (gM b s p false _ h hs hp).mono ?_
   rintro e w1 ⟨rfl,nq,hw⟩
   subst hw
   have h2':(w.drewN nq).cell? ⟨b,2,none⟩=some (.bool false):=h2
   have hf':(w.drewN nq).frozen? ⟨b,2,none⟩=false:=hf
   go_wp2_with fail
   go_ret
   exact ⟨rfl,w9 (y7 (B0 _ _)) _ _,(h.drewN nq).put2 _⟩
theorem My (b:Nat) (s:ByteArray) (p:Nat) (w:World) (n:Nat) (h:Rd 174 b s p false w) (hs:s.size<=1000000000000000000) (hp:p+n<=s.size) :
  Calls prog 64 #[.pointer (some ⟨b,0,none⟩),.int .i64 n] w fun e w'=>e=.returned (.string (s.extract p (p+n)))/\w.grownBy w' (some b)/\Rd 174 b s (p+n) false w':=by
 have h2:=h.c2
 have h3:¬((s.size:Int)-p<(n:Int)):=by omega
 go_enter func64,ntmps64
 go_wp2_with fail
 refine (gM b s p false _ h hs (by omega)).mono ?_
 rintro e w1 ⟨rfl,nq,hw⟩
 subst hw
 have h0':(w.drewN nq).cell? ⟨b,0,none⟩=some (.string s):=h.c0
 have h1':(w.drewN nq).cell? ⟨b,1,none⟩=some (.int .i64 (p:Int)):=h.c1
 have hf':(w.drewN nq).frozen? ⟨b,1,none⟩=false:=h.fz 1
 go_wp2_with fail
 go_quiet (fail)
 go_wp2_with fail
 go_ret
 exact ⟨rfl,y7 (w9 (y7 (B0 _ _)) _ _),(Rd.put1 (Rd.drewN h _) (p+n)).drewN _⟩
def l5 (s:ByteArray) (p:Nat) (f:Bool) (n:Int):ByteArray×Nat×Bool:=
 if f=true\/n<0\/(s.size:Int)-p<n then (⟨#[]⟩,p,true) else (s.extract p (p+n.toNat),p+n.toNat,false)
theorem P0 (s:ByteArray) (p:Nat) (f:Bool) (n:Int) (hp:p<=s.size):(l5 s p f n).2.1<=s.size:=by
 unfold l5
 split
 ·exact hp
 ·show p+n.toNat<=s.size
  omega
theorem tI (s:ByteArray) (p:Nat) (f:Bool) (n:Int):(l5 s p f n).1.size<=s.size:=by
 unfold l5
 split
 ·exact Nat.zero_le _
 ·simp;omega
theorem nJ (b:Nat) (s:ByteArray) (p:Nat) (f:Bool) (w:World) (n:Int) (h:Rd 174 b s p f w) (hs:s.size<=1000000000000000000) (hp:p<=s.size) :
  Calls prog 64 #[.pointer (some ⟨b,0,none⟩),.int .i64 n] w fun e w'=>e=.returned (.string (l5 s p f n).1)/\w.grownBy w' (some b)/\Rd 174 b s (l5 s p f n).2.1 (l5 s p f n).2.2 w':=by
 by_cases hn:f=true\/n<0\/(s.size:Int)-p<n
 ·have e:l5 s p f n=(⟨#[]⟩,p,true):=by unfold l5;rw[if_pos hn]
  rw[e]
  exact Yp b s p f w n h hs hp hn
 ·have e:l5 s p f n=(s.extract p (p+n.toNat),p+n.toNat,false):=by unfold l5;rw[if_neg hn]
  rw[e]
  have hf:f=false:=by cases f<;>simp_all
  subst hf
  obtain ⟨m,rfl⟩:=Int.eq_ofNat_of_zero_le (show 0<=n by omega)
  rw[Int.toNat_natCast]
  exact My b s p w m h hs (by omega)
namespace M
def X7:Nat->Nat->List UInt8->Option (Nat×Nat)
 |_,_,[]=>none
 |i,u,b::l=>
  if 10<=i then none
  else if 128<=b.toNat then X7 (i+1) (u+b.toNat % 128*128 ^ i) l
  else if (0<i/\b.toNat=0)\/(i=9/\1<b.toNat) then none
  else some (u+b.toNat*128 ^ i,i+1)
theorem sR (i u:Nat) (l:List UInt8) (h:10<=i):X7 i u l=none:=by
 cases l with
 |nil=>rfl
 |cons b l=>rw[X7,if_pos h]
theorem gQ (i u:Nat) (b:UInt8) (l:List UInt8) (h:i<10) (hb:128<=b.toNat):X7 i u (b::l)=X7 (i+1) (u+b.toNat % 128*128 ^ i) l:=by
 rw[X7,if_neg (by omega),if_pos hb]
theorem sQ (i u:Nat) (b:UInt8) (l:List UInt8) (h:i<10) (hb:b.toNat<128) (hz:(0<i/\b.toNat=0)\/(i=9/\1<b.toNat)):X7 i u (b::l)=none:=by
 rw[X7,if_neg (by omega),if_neg (by omega),if_pos hz]
theorem Y9 (i u:Nat) (b:UInt8) (l:List UInt8) (h:i<10) (hb:b.toNat<128) (hz:¬((0<i/\b.toNat=0)\/(i=9/\1<b.toNat))):X7 i u (b::l)=some (u+b.toNat*128 ^ i,i+1):=by
 rw[X7,if_neg (by omega),if_neg (by omega),if_neg hz]
theorem Xn:(128:Nat) ^ 9=9223372036854775808:=by decide
theorem sW (i:Nat) (h:i<=9):(128:Nat) ^ i<=9223372036854775808:=by
 rw[<-Xn];exact Nat.pow_le_pow_right (by omega) h
theorem Rc (i:Nat):0<(128:Nat) ^ i:=Nat.pow_pos (by omega)
theorem a3g (r:Nat):∀(i u:Nat) (rest:List UInt8),i+(R2 r).length<=10->(i=0\/r≠0)->r*128 ^ i<18446744073709551616->
  X7 i u (R2 r++rest)=some (u+r*128 ^ i,i+(R2 r).length):=by
 induction r using Nat.strongRecOn with
 |_ r ih=>
  intro i u rest hl h0 hb
  have hp:=fC r
  by_cases h:r<128
  ·rw[Y7 r h,List.cons_append,List.nil_append]
   have hr:(UInt8.ofNat r).toNat=r:=by simp;omega
   rw[Y9 i u _ rest (by omega) (by omega)]
   ·rw[hr];rfl
   ·rw[hr]
    rintro (⟨h1,h2⟩|⟨h1,h2⟩)
    ·omega
    ·subst h1;rw[Xn] at hb;omega
  ·have hll:(R2 r).length=(R2 (r / 128)).length+1:=by rw[S2 r h];rfl
   have hr:(UInt8.ofNat (r % 128+128)).toNat=r % 128+128:=by simp;omega
   rw[hll]
   rw[S2 r h,List.cons_append,gQ i u _ _ (by omega) (by omega),hr]
   have e:(r / 128)*128 ^ (i+1)=(r / 128*128)*128 ^ i:=by rw[Nat.pow_succ];rw[Nat.mul_assoc,Nat.mul_comm (128 ^ i) 128]
   have e2:(r % 128+128) % 128=r % 128:=by omega
   rw[e2,ih (r / 128) (by omega) (i+1) _ rest (by omega) (by omega) (by rw[e];exact Nat.lt_of_le_of_lt (Nat.mul_le_mul_right _ (by omega)) hb),e]
   have e3:u+r % 128*128 ^ i+r / 128*128*128 ^ i=u+r*128 ^ i:=by
    rw[Nat.add_assoc,<-Nat.add_mul];congr 2;omega
   rw[e3]
   congr 2;omega
theorem Fz:∀(l:List UInt8) (i u v n:Nat),X7 i u l=some (v,n)->
  ∃r rest,l=R2 r++rest/\v=u+r*128 ^ i/\n=i+(R2 r).length/\(i=0\/r≠0)/\i+(R2 r).length<=10/\r*128 ^ i<18446744073709551616
 |[],i,u,v,n,h=>by simp[X7] at h
 |b::l,i,u,v,n,h=>by
  by_cases hi:10<=i
  ·rw[sR _ _ _ hi] at h;simp at h
  ·by_cases hb:128<=b.toNat
   ·rw[gQ i u b l (by omega) hb] at h
    obtain ⟨r,rest,h1,h2,h3,h4,h5,h6⟩:=Fz l (i+1) _ v n h
    have hr:r≠0:=by omega
    have hbl:=b.toNat_lt
    have e1:(b.toNat % 128+128*r) % 128=b.toNat % 128:=by omega
    have e2:(b.toNat % 128+128*r) / 128=r:=by omega
    have hL:R2 (b.toNat % 128+128*r)=b::R2 r:=by
     rw[S2 _ (by omega),e1,e2]
     congr 1
     apply UInt8.toNat_inj.1
     simp;omega
    have e3:(b.toNat % 128+128*r)*128 ^ i=b.toNat % 128*128 ^ i+r*128 ^ (i+1):=by
     rw[Nat.add_mul,Nat.pow_succ];congr 1;rw[Nat.mul_comm 128 r,Nat.mul_assoc,Nat.mul_comm 128]
    refine ⟨b.toNat % 128+128*r,rest,by rw[hL,h1];rfl,by rw[h2,e3];omega,by rw[h3,hL,List.length_cons];omega,by omega,by rw[hL,List.length_cons];omega,?_⟩
    have hlast:r*128 ^ (i+1)<18446744073709551616:=h6
    rw[e3]
    have hp:=sW i (by omega)
    have h9:i+1<=9:=by have:=fC r;omega
    have hd:∃m,18446744073709551616=m*128 ^ (i+1):=by
     have:i+1=1\/i+1=2\/i+1=3\/i+1=4\/i+1=5\/i+1=6\/i+1=7\/i+1=8\/i+1=9:=by omega
     rcases this with e|e|e|e|e|e|e|e|e<;>rw[e]
     ·exact ⟨144115188075855872,by decide⟩
     ·exact ⟨1125899906842624,by decide⟩
     ·exact ⟨8796093022208,by decide⟩
     ·exact ⟨68719476736,by decide⟩
     ·exact ⟨536870912,by decide⟩
     ·exact ⟨4194304,by decide⟩
     ·exact ⟨32768,by decide⟩
     ·exact ⟨256,by decide⟩
     ·exact ⟨2,by decide⟩
    obtain ⟨m,hm⟩:=hd
    have hrm:r<m:=by
     rw[hm] at hlast
     exact Nat.lt_of_mul_lt_mul_right hlast
    have h7:(r+1)*128 ^ (i+1)<=18446744073709551616:=by rw[hm];exact Nat.mul_le_mul_right _ hrm
    have h8:b.toNat % 128*128 ^ i<128 ^ (i+1):=by
     rw[Nat.pow_succ,Nat.mul_comm (128 ^ i) 128]
     exact Nat.mul_lt_mul_of_pos_right (by omega) (Rc i)
    rw[Nat.add_mul,Nat.one_mul] at h7
    omega
   ·by_cases hz:(0<i/\b.toNat=0)\/(i=9/\1<b.toNat)
    ·rw[sQ i u b l (by omega) (by omega) hz] at h;simp at h
    ·rw[Y9 i u b l (by omega) (by omega) hz] at h
     simp only[Option.some.injEq,Prod.mk.injEq] at h
     have hL:R2 b.toNat=[b]:=by
      rw[Y7 _ (by omega)]
      congr 1
      apply UInt8.toNat_inj.1
      simp
     refine ⟨b.toNat,l,by rw[hL];rfl,h.1.symm,by rw[hL];exact h.2.symm,by omega,by rw[hL];simp;omega,?_⟩
     by_cases h9:i=9
     ·subst h9;rw[Xn];omega
     ·have:(128:Nat) ^ i<=128 ^ 8:=Nat.pow_le_pow_right (by omega) (by omega)
      have e8:(128:Nat) ^ 8=72057594037927936:=by decide
      rw[e8] at this
      have:=Nat.mul_le_mul (show b.toNat<=127 by omega) this
      omega
theorem uO (l:List UInt8) (v n:Nat):X7 0 0 l=some (v,n)↔v<18446744073709551616/\n=(R2 v).length/\∃rest,l=R2 v++rest:=by
 constructor
 ·intro h
  obtain ⟨r,rest,h1,h2,h3,_,_,h6⟩:=Fz l 0 0 v n h
  have:v=r:=by simpa using h2
  subst this
  exact ⟨by simpa using h6,by simpa using h3,rest,h1⟩
 ·rintro ⟨h1,h2,rest,h3⟩
  have:=a3g v 0 0 rest (by have:=cA v h1;omega) (.inl rfl) (by simpa using h1)
  rw[h3,this,h2];simp
theorem a1p (l:List UInt8) (v n:Nat) (h:X7 0 0 l=some (v,n)):1<=n/\n<=l.length/\n<=10:=by
 obtain ⟨h1,h2,rest,h3⟩:=(uO l v n).1 h
 have:=fC v
 have:=cA v h1
 rw[h3,List.length_append];omega
end M
def l7 (s:ByteArray) (p:Nat) (f:Bool):Int×Nat×Bool:=
 if f=true then (0,p,true) else
  match M.X7 0 0 (s.data.toList.drop p) with
  |none=>(0,p,true)
  |some (u,n)=>(wrap64 (u:Int),p+n,false)
theorem Gi (s:ByteArray) (p k:Nat) (h:p+k<s.size):(s.data.toList.drop p).drop k=(s[p+k]'h)::(s.data.toList.drop p).drop (k+1):=by
 rw[List.drop_drop,List.drop_drop,List.drop_eq_getElem_cons (by simpa using h)]
 rfl
theorem Bi:∀x:Fin 256,(x.val &&& 127)=x.val % 128:=by decide +kernel
theorem pB (k:Nat):(2:Nat) ^ (7*k)=128 ^ k:=by rw[Nat.pow_mul]
theorem Tj (k B3 y:Nat) (B:UInt8) (hk:k<=9) (ha:B3<128 ^ k) (hy:y=B3) :
  ∃y2:Nat,bits .or .u64 (y:Int) (IntKind.u64.wrap (IntKind.u64.wrap (bits .and .u8 (B.toNat:Int) 127)*2 ^ (7*k)))=((y2:Nat):Int)/\
   (B3+B.toNat % 128*128 ^ k<18446744073709551616->y2=B3+B.toNat % 128*128 ^ k):=by
 subst hy
 have hB:=B.toNat_lt
 have h1:bits .and .u8 (B.toNat:Int) 127=((B.toNat % 128:Nat):Int):=by
  have h:=u8_and_nat B.toNat 127 hB (by omega)
  rw[show ((127:Nat):Int)=127 from rfl] at h
  rw[h]
  have:=Bi ⟨B.toNat,hB⟩
  simp only at this
  rw[this]
 have h2:IntKind.u64.wrap ((B.toNat % 128:Nat):Int)=((B.toNat % 128:Nat):Int):=by rw[IntKind.wrap_u64];omega
 have h3:IntKind.u64.wrap (((B.toNat % 128:Nat):Int)*2 ^ (7*k))=((B.toNat % 128*128 ^ k % 18446744073709551616:Nat):Int):=by
  rw[IntKind.wrap_u64,<-pB]
  simp
 have hp:=M.sW k hk
 have h4:=u64_or_nat y (B.toNat % 128*128 ^ k % 18446744073709551616) (by omega) (by omega)
 refine ⟨y ||| (B.toNat % 128*128 ^ k % 18446744073709551616),by rw[h1,h2,h3,h4],fun hlt=>?_⟩
 rw[Nat.mod_eq_of_lt (by omega)]
 have h5:=Nat.shiftLeft_add_eq_or_of_lt (show y<2 ^ (7*k) by rw[pB];exact ha) (B.toNat % 128)
 rw[Nat.shiftLeft_eq,pB] at h5
 rw[Nat.or_comm,<-h5,Nat.add_comm]
theorem Bb (k B3 B:Nat) (ha:B3<128 ^ k):B3+B % 128*128 ^ k<128 ^ (k+1):=by
 have h1:B % 128*128 ^ k<=127*128 ^ k:=Nat.mul_le_mul_right _ (by omega)
 rw[Nat.pow_succ];omega
theorem rU (k x:Nat) (hk:k<=9) (hx:x<128 ^ k):x<18446744073709551616:=by
 have:=M.sW k hk
 omega
theorem Ao (k B3 B:Nat) (hk:k<=9) (ha:B3<128 ^ k) (hB:B<128) (hz:¬(k=9/\1<B)):B3+B % 128*128 ^ k<18446744073709551616:=by
 by_cases h9:k=9
 ·subst h9;rw[M.Xn] at *;omega
 ·have:=Bb k B3 B ha
  exact rU (k+1) _ (by omega) this
theorem xX (b:Nat) (s:ByteArray) (p:Nat) (w:World) (h:Rd 174 b s p true w) :
  Calls prog 125 #[.pointer (some ⟨b,0,none⟩)] w fun e w'=>e=.returned (.int .i64 0)/\w.grownBy w' (some b)/\Rd 174 b s p true w':=by
 have h2:=h.c2
 go_enter func125,ntmps125
 go_wp2_with fail
 go_ret
 exact ⟨rfl,B0 _ _,h⟩
theorem a3y (b : Nat) (s : ByteArray) (p : Nat) (w : World) (h : Rd 174 b s p false w) (hs : s.size <= 1000000000000000000) (hp : p <= s.size) :
    Calls prog 125 #[.pointer (some ⟨b,0,none⟩)] w fun e w'=>e=.returned (.int .i64 (l7 s p false).1)/\w.grownBy w' (some b)/\Rd 174 b s (l7 s p false).2.1 (l7 s p false).2.2 w':=by
  have h2:=h.c2
  go_enter func125,ntmps125
  go_wp2_with fail
  refine (gM b s p false _ h hs hp).mono ?_
  rintro e w1 ⟨rfl,nq,hw⟩
  subst hw
  obtain ⟨m,hm⟩:∃m:Nat,m=min 10 (s.size-p):=⟨_,rfl⟩
  have H0:Rd 174 b s p false (w.drewN nq):=h
  have HG:w.grownBy (w.drewN nq) (some b):=y7 (B0 _ _)
  generalize w.drewN nq=wq at *
  clear h2
  go_wp2_with fail
  all_goals
    go_loopw [3, 17] (fun u i wr => ∃ k B3 y : Nat, k <= 10 /\ k <= s.size - p /\ i = .int .i64 k /\ u = .int .u64 y /\ Hid (B3 < 128 ^ k) /\ Hid (k <= 9 -> y = B3) /\
        Hid (M.X7 0 0 (s.data.toList.drop p)=M.X7 k B3 ((s.data.toList.drop p).drop k))/\Rd 174 b s p false wr/\w.grownBy wr (some b))
      (fun _ i _=>10-(intOf i).toNat)
    case atStart=>exact ⟨0,0,0,by omega,by omega,rfl,rfl,(show 0<128 ^ 0 by decide),fun _=>rfl,rfl,H0,HG⟩
    case round=>
      clear H0 HG
      obtain ⟨k,B3,y,hk,hkl,rfl,rfl,hacc,hy,HD,hrd,hg⟩:=hrel
      have h0:=hrd.c0
      have h1:=hrd.c1
      by_cases hlt:k<s.size-p/\k<10
      · have hlt1 : p + k < s.size := by omega
        have hlt2:(p:Int)+k<s.size:=by omega
        have hlt3:k<10:=by omega
        clear hlt
        go_wp2_with fail
        have e1:IntKind.i64.wrap ((p:Int)+k)=(p:Int)+k:=IntWalk.i64_in _ (by omega)
        have e2:(0:Int)<=(p:Int)+k:=by omega
        have e3:((p:Int)+k).toNat=p+k:=by omega
        obtain ⟨B,hB⟩:∃B:UInt8,s[p+k]'hlt1=B:=⟨_,rfl⟩
        have HL:Hid ((s.data.toList.drop p).drop k=B::(s.data.toList.drop p).drop (k+1)):=by rw[<-hB];exact Gi s p k hlt1
        go_quiet (fail)
        clear e1 e2 e3 hB
        have hBl:(B.toNat:Int)<256:=by have:=B.toNat_lt;omega
        have hrd':Rd 174 b s p false (wr.drewN nq):=hrd
        have hg':w.grownBy (wr.drewN nq) (some b):=y7 hg
        clear hrd hg h0 h1
        generalize wr.drewN nq=wt at *
        by_cases hb8:128<=B.toNat
        · obtain ⟨y2, hU, hy2⟩ := Tj k B3 y B (by omega) hacc.out (hy.out (by omega))
          have HY:=Lib.hid hy2
          clear hy2
          go_wp2_with fail
          go_roundw
          case rel=>
            refine ⟨k+1,B3+B.toNat % 128*128 ^ k,y2,by omega,by omega,by go_num,rfl,Bb k B3 B.toNat hacc.out,?_,?_,hrd',hg'⟩
            · intro hk9
              exact HY.out (rU (k+1) _ hk9 (Bb k B3 B.toNat hacc.out))
            · show _ = _
              rw[HD.out,HL.out,M.gQ k B3 B _ hlt3 hb8]
          case measure=>simp[intOf];omega
        · by_cases hz1 : 0 < k /\ B.toNat = 0
          · obtain ⟨hz1, hz2⟩ := hz1
            have HF:Hid (l7 s p false=(0,p,true)):=by
              have:M.X7 0 0 (s.data.toList.drop p)=none:=by rw[HD.out,HL.out,M.sQ k B3 B _ hlt3 (by omega) (.inl ⟨hz1,hz2⟩)]
              show _=_
              unfold l7;rw[this];rfl
            have hc2:=hrd'.c2
            have hf2:=hrd'.fz 2
            go_wp2_with fail
            all_goals
              go_ret
              rw[HF.out]
              exact ⟨rfl,w9 hg' _ _,hrd'.put2 _⟩
          · by_cases hz2 : k = 9 /\ 1 < B.toNat
            · obtain ⟨hz3, hz4⟩ := hz2
              have HF:Hid (l7 s p false=(0,p,true)):=by
                have:M.X7 0 0 (s.data.toList.drop p)=none:=by rw[HD.out,HL.out,M.sQ k B3 B _ hlt3 (by omega) (.inr ⟨hz3,hz4⟩)]
                show _=_
                unfold l7;rw[this];rfl
              have hc2:=hrd'.c2
              have hf2:=hrd'.fz 2
              have hz5:9<=k:=by omega
              have hz6:((B.toNat:Int)==0)=false:=by rw[beq_eq_false_iff_ne];omega
              have hz7:((k:Int)==9)=true:=by rw[beq_iff_eq];omega
              have hz8:(1:Int)<B.toNat:=by omega
              clear hz3 hz1
              go_wp2_with fail
              all_goals
                go_ret
                rw[HF.out]
                exact ⟨rfl,w9 hg' _ _,hrd'.put2 _⟩
            · obtain ⟨y2, hU, hy2⟩ := Tj k B3 y B (by omega) hacc.out (hy.out (by omega))
              have HY:=Lib.hid hy2
              clear hy2
              have hc1:=hrd'.c1
              have hf1:=hrd'.fz 1
              have hv:y2=B3+B.toNat*128 ^ k:=by
                have:=HY.out (Ao k B3 B.toNat (by omega) hacc.out (by omega) (by omega))
                rwa [Nat.mod_eq_of_lt (by omega)] at this
              have HF:Hid (l7 s p false=(wrap64 (y2:Int),p+(k+1),false)):=by
                have:M.X7 0 0 (s.data.toList.drop p)=some (y2,k+1):=by
                  rw[HD.out,HL.out,M.Y9 k B3 B _ hlt3 (by omega) (by omega),hv]
                show _=_
                unfold l7;rw[this];rfl
              clear hv
              have hq:=hrd'.put1 (p+(k+1))
              have hq2:=Lib.hid hq
              clear hq
              have hcase:k=0\/(0<k/\0<B.toNat/\k≠9)\/(0<k/\0<B.toNat/\k=9/\B.toNat<=1):=by omega
              rcases hcase with hk0|⟨hk0,hB0,hk9⟩|⟨hk0,hB0,hk9,hB1⟩
              · have hz5 : ¬ (0 : Int) < k := by omega
                have hz7:((k:Int)==9)=false:=by rw[beq_eq_false_iff_ne];omega
                have hk1:k<=0:=by omega
                clear hz1 hz2 hk0
                go_wp2_with fail
                all_goals
                  go_ret
                  rw[HF.out]
                  exact ⟨rfl,w9 hg' _ _,hq2.out⟩
              · have hz6 : ((B.toNat : Int) == 0) = false := by rw [beq_eq_false_iff_ne]; omega
                have hz7:((k:Int)==9)=false:=by rw[beq_eq_false_iff_ne];omega
                clear hz1 hz2 hk9
                go_wp2_with fail
                all_goals
                  go_ret
                  rw[HF.out]
                  exact ⟨rfl,w9 hg' _ _,hq2.out⟩
              · have hz6 : ((B.toNat : Int) == 0) = false := by rw [beq_eq_false_iff_ne]; omega
                have hz7:((k:Int)==9)=true:=by rw[beq_iff_eq];omega
                have hz8:¬(1:Int)<B.toNat:=by omega
                have hz9:9<=k:=by omega
                clear hz1 hz2 hk9 hB1
                go_wp2_with fail
                all_goals
                  go_ret
                  rw[HF.out]
                  exact ⟨rfl,w9 hg' _ _,hq2.out⟩
      · have HF : Hid (l7 s p false = (0, p, true)) := by
          have:M.X7 0 0 (s.data.toList.drop p)=none:=by
            rw[HD.out]
            by_cases hk10:10<=k
            · exact M.sR _ _ _ hk10
            · rw[List.drop_drop,List.drop_of_length_le (by simp;omega)];rfl
          show _=_
          unfold l7;rw[this];rfl
        have hc2:=hrd.c2
        have hf2:=hrd.fz 2
        by_cases hz:(s.size:Int)-p<=k
        · by_cases hz10 : 10 <= (k : Int)
          · clear hlt
            go_wp2_with fail
            all_goals
              go_ret
              rw[HF.out]
              exact ⟨rfl,w9 hg _ _,hrd.put2 _⟩
          · clear hlt
            first
              |exfalso;omega
              | (go_wp2_with fail
                 all_goals
                   go_ret
                   rw[HF.out]
                   exact ⟨rfl,w9 hg _ _,hrd.put2 _⟩)
        · have hz10 : 10 <= (k : Int) := by omega
          clear hlt
          first
            |exfalso;omega
            | (go_wp2_with fail
               all_goals
                 go_ret
                 rw[HF.out]
                 exact ⟨rfl,w9 hg _ _,hrd.put2 _⟩)
theorem wK (b:Nat) (s:ByteArray) (p:Nat) (f:Bool) (w:World) (h:Rd 174 b s p f w) (hs:s.size<=1000000000000000000) (hp:p<=s.size) :
  Calls prog 125 #[.pointer (some ⟨b,0,none⟩)] w fun e w'=>e=.returned (.int .i64 (l7 s p f).1)/\w.grownBy w' (some b)/\Rd 174 b s (l7 s p f).2.1 (l7 s p f).2.2 w':=by
 cases f with
 |true=>exact xX b s p w h
 |false=>exact a3y b s p w h hs hp
theorem Y0 (s:ByteArray) (p:Nat) (f:Bool) (hp:p<=s.size):(l7 s p f).2.1<=s.size:=by
 unfold l7
 split
 ·exact hp
 ·split
  ·exact hp
  ·rename_i u n h
   have:=M.a1p _ _ _ h
   have h2:=this.2.1
   simp at h2
   show p+n<=s.size
   omega
theorem Bp {w:World} {b:Nat} {o:Obj} (h:w.heap[b]? = some o):b<w.heap.size:=by
 rcases Nat.lt_or_ge b w.heap.size with h'|h'
 ·exact h'
 ·rw[Array.getElem?_eq_none h'] at h;simp at h
theorem Rd.keep {T b s p f} {w w1:World} (h:Rd T b s p f w) (hb:Below w.heap.size w w1):Rd T b s p f w1:=by
 obtain ⟨zs,h⟩:=h
 have hl:=Bp h
 exact ⟨zs,by rw[hb.block _ hl];exact h⟩
def Lie (g:Nat) (l:List UInt8) (w:World):Prop:=∀j (h:j<l.length),w.cell? ⟨g,j,none⟩=some (.int .u8 (l[j].toNat:Int))
theorem Hz (x:World) (s:ByteArray) (cap:Nat) (fr:Nat×Nat):Lie x.heap.size s.data.toList (x.alloc (.cells (bytesRow s cap) 5 fr)):=by
 intro j hj
 rw[World.cell?_alloc_mark,bytesRow_at s cap j (by simpa using hj)]
 rfl
theorem dM (s:ByteArray) (cap:Nat) (h:s.size<=cap):(bytesRow s cap).size=cap:=by
 unfold bytesRow
 rw[Array.size_append,Array.size_map,Array.size_replicate]
 show s.size+_=_
 omega
theorem Ct (x:World) (s:ByteArray) (cap j:Nat) (h:s.size<=cap) (hj:j<cap) :
  (x.alloc (.cells (bytesRow s cap) 5 ((bytesRow s cap).size,(bytesRow s cap).size+1))).frozen? ⟨x.heap.size,j,none⟩=false:=by
 rw[World.frozen?_alloc_mark,dM s cap h]
 simp;omega
theorem Cf (x:World) (s:ByteArray) (cap j:Nat) (fr:Nat×Nat) (h:s.size<=cap) (hj:j<cap) :
  ((x.alloc (.cells (bytesRow s cap) 5 fr)).cell? ⟨x.heap.size,j,none⟩).isSome=true:=by
 rw[World.cell?_alloc_mark,Array.getElem?_eq_getElem (by rw[dM s cap h];exact hj)];rfl
theorem Dc (x:World) (s:ByteArray):∃W cap,(convert 9 57 (.string s)).run prog x=.ok (.slice (some ⟨x.heap.size,0,none⟩) s.size cap) W/\s.size<=cap/\Lie x.heap.size s.data.toList W/\
  (∀j,j<cap->W.frozen? ⟨x.heap.size,j,none⟩=false/\(W.cell? ⟨x.heap.size,j,none⟩).isSome=true)/\Below x.heap.size x W/\x.heap.size<W.heap.size:=by
 have hg:=grownCap_ge x s.size 0 5
 refine ⟨_,_,run_bytes_of_string (P:=prog) x 9 57 5 s underlying9 underlying57 underlying5,hg,Hz x.drew s _ _,fun j hj=>⟨Ct x.drew s _ j hg hj,Cf x.drew s _ j _ hg hj⟩,?_,?_⟩
 ·exact ((Below.refl _ _).drew).alloc (Nat.le_refl _) _
 ·rw[World.size_alloc];exact Nat.lt_succ_self _
section
variable {P:Program} {ops:Array Oper} {C:World->Prop} {Q:Act->Prop} {rest:List Oper} {o:Oper} {a:Act}
end
def y5 (s:ByteArray) (p:Nat) (f:Bool):ByteArray×Nat×Bool:=
 let v:=l7 s p f
 let t:=l5 s v.2.1 v.2.2 v.1
 if t.2.2=true then (⟨#[]⟩,p,true) else (t.1,t.2.1,false)
theorem tD (s:ByteArray) (p:Nat) (f:Bool) (n:Int) (h:(l5 s p f n).2.2=true):(l5 s p f n).1=⟨#[]⟩:=by
 unfold l5 at *
 split
 ·rfl
 ·rename_i hh;rw[if_neg hh] at h;simp at h
theorem Ib (b:Nat) (s:ByteArray) (p:Nat) (f:Bool) (w:World) (h:Rd 174 b s p f w) (hs:s.size<=1000000000000000000) (hp:p<=s.size) :
  Calls prog 59 #[.pointer (some ⟨b,0,none⟩)] w fun e w'=>e=.returned (.string (y5 s p f).1)/\w.grownBy w' (some b)/\Rd 174 b s (y5 s p f).2.1 (y5 s p f).2.2 w':=by
 have hle:=Y0 s p f hp
 have h1:=h.c1
 have hmf:∀(fn:Fn) (first cap:Array Value) (w:World),(Instr.makeFunc fn first cap).run prog w=.ok (.func fn first cap) w:=fun _ _ _ _=>rfl
 go_enter func59,ntmps59
 go_wp2_with fail
 refine (wK b s p f _ h hs hp).mono ?_
 rintro e x1 ⟨rfl,g1,r1⟩
 clear h1
 go_wp2_with fail
 refine (nJ b s _ _ _ _ r1 hs hle).mono ?_
 rintro e x2 ⟨rfl,g2,r2⟩
 have e2:=r2.c2
 have e1:=r2.fz 1
 have e3:=r2.c1
 have hF:=tD s (l7 s p f).2.1 (l7 s p f).2.2 (l7 s p f).1
 have HT:Hid (y5 s p f=if (l5 s (l7 s p f).2.1 (l7 s p f).2.2 (l7 s p f).1).2.2=true then (⟨#[]⟩,p,true) else ((l5 s (l7 s p f).2.1 (l7 s p f).2.2 (l7 s p f).1).1,(l5 s (l7 s p f).2.1 (l7 s p f).2.2 (l7 s p f).1).2.1,false)):=rfl
 generalize l5 s (l7 s p f).2.1 (l7 s p f).2.2 (l7 s p f).1=t at *
 obtain ⟨t1,t2,t3⟩:=t
 simp only at *
 cases t3 with
 |true=>
  rw[hF rfl] at *
  clear hF
  go_wp2_with fail
  go_ret
  rw[HT.out]
  exact ⟨rfl,w9 (L6 g1 g2) _ _,r2.put1 _⟩
 |false=>
  clear hF
  go_wp2_with fail
  go_ret
  rw[HT.out]
  exact ⟨rfl,L6 g1 g2,r2⟩
def kR (l:List UInt8):Nat:=l.foldl (fun a b=>a*256+b.toNat) 0
theorem xG (l:List UInt8) (b:UInt8):kR (l++[b])=kR l*256+b.toNat:=by simp[kR]
theorem Mz (l:List UInt8):kR l<256 ^ l.length:=by
 suffices ∀(l:List UInt8) (a:Nat),l.foldl (fun a b=>a*256+b.toNat) a<(a+1)*256 ^ l.length by
  have:=this l 0
  simpa [kR] using this
 intro l
 induction l with
 |nil=>intro a;simp
 |cons b l ih=>
  intro a
  have h:=ih (a*256+b.toNat)
  have hb:=b.toNat_lt
  rw[List.foldl_cons,List.length_cons,Nat.pow_succ]
  refine Nat.lt_of_lt_of_le h ?_
  rw[Nat.mul_comm (256 ^ l.length) 256,<-Nat.mul_assoc]
  exact Nat.mul_le_mul_right _ (by omega)
theorem Ef (l:List UInt8) (j:Nat) (hj:j<=7):kR (l.take j)<72057594037927936:=by
 have h:=Mz (l.take j)
 have h2:256 ^ (l.take j).length<=256 ^ 7:=Nat.pow_le_pow_right (by omega) (by rw[List.length_take];omega)
 omega
theorem rT (s:ByteArray) (p:Nat) (f:Bool) (n:Int):(l5 s p f (sz n)).1.size<=8:=by
 unfold l5
 split
 ·exact Nat.zero_le _
 ·have:=Py n
  simp;omega
theorem gE (u:Nat) (h:u<9223372036854775808):wrap64 (u:Int)=(u:Int):=IntWalk.wrap64_in _ ⟨by omega,by omega⟩
theorem oN (t:ByteArray) (j:Nat) (h:j<t.size):t.data.toList.take (j+1)=t.data.toList.take j++[t.data[j]]:=by
 rw[List.take_add_one,List.getElem?_eq_getElem (by simpa using h)];simp
theorem uK (u c:Nat) (hu:u<72057594037927936) (hc:c<256):bits .or .i64 (wrap64 ((u:Int)*256)) (c:Int)=wrap64 ((u*256+c:Nat):Int):=by
 have hX:(BitVec.ofInt 64 (wrap64 ((u:Int)*256))).toNat=u*256:=by
  rw[BitVec.toNat_ofInt]
  unfold wrap64
  omega
 have hc2:(BitVec.ofInt 64 (c:Int)).toNat=c:=by
  rw[BitVec.toNat_ofInt]
  omega
 have h3:u*256 ||| c=u*256+c:=by
  have h5:=Nat.shiftLeft_add_eq_or_of_lt (show c<2 ^ 8 by omega) u
  rw[Nat.shiftLeft_eq] at h5
  exact h5.symm
 show IntKind.i64.wrap ((BitVec.ofInt 64 (wrap64 ((u:Int)*256)) ||| BitVec.ofInt 64 (c:Int)).toNat:Int)=_
 rw[BitVec.toNat_or,hX,hc2,h3]
 exact IntWalk.i64_left _
theorem Sj (u c:Nat) (hu:u<72057594037927936) (hc:c<256):bits .or .i64 (wrap64 (wrap64 (u:Int)*256)) (wrap64 (c:Int))=wrap64 ((u*256+c:Nat):Int):=by
 rw[gE u (by omega),gE c (by omega)]
 exact uK u c hu hc
theorem a4c (b:Nat) (s:ByteArray) (p:Nat) (f:Bool) (w:World) (n:Int) (h:Rd 174 b s p f w) (hs:s.size<=1000000000000000000) (hp:p<=s.size) :
  Calls prog 60 #[.pointer (some ⟨b,0,none⟩),.int .i64 n] w fun e w'=>e=.returned (.int .i64 (wrap64 (kR (l5 s p f (sz n)).1.data.toList)))/\w.grownBy w' (some b)/\Rd 174 b s (l5 s p f (sz n)).2.1 (l5 s p f (sz n)).2.2 w':=by
 go_enter func60,ntmps60
 go_wp2_with fail
 refine (zU n _).mono ?_
 rintro e x1 ⟨rfl,rfl⟩
 go_wp2_with fail
 refine (nJ b s p f _ (sz n) h hs hp).mono ?_
 rintro e x2 ⟨rfl,g2,r2⟩
 have hsz:=rT s p f n
 generalize ht:(l5 s p f (sz n)).1=t at *
 have HT:=Lib.hid ht
 clear ht
 obtain ⟨W1,cap,hcb,hcap,hlie,hfree,hbW,hgW⟩:=Dc x2 t
 go_wp2_with fail
 clear hcb
 have hlen:t.data.toList.length=t.size:=Array.length_toList
 have HB:W1.grownBy W1 (some b):=B0 _ _
 have G:w.grownBy W1 (some b):=L6 g2 (kE hbW)
 have R:Rd 174 b s (l5 s p f (sz n)).2.1 (l5 s p f (sz n)).2.2 W1:=r2.keep hbW
 clear hfree hbW hgW g2 r2 h
 go_loopw [5,14] (fun a i wr=>∃j:Nat,j<=t.size/\i=.int .i64 j/\a=.int .i64 (wrap64 (kR (t.data.toList.take j)))/\Hid (wr=W1)) (fun a i _=>t.size-(intOf i).toNat)
 case atStart=>exact ⟨0,Nat.zero_le _,rfl,by rw[List.take_zero];unfold kR wrap64;rfl,rfl⟩
 case round=>
  obtain ⟨j,hj,rfl,rfl,HW⟩:=hrel
  by_cases hlt:j<t.size
  ·have hi:j<t.data.toList.length:=by omega
   have f1:=hlie j hi
   rw[<-HW.out] at f1
   go_wp2_with fail
   go_roundw
   case rel=>
    refine ⟨j+1,by omega,by go_num,?_,HW⟩
    rw[oN t j hlt,xG]
    congr 1
    exact Sj _ _ (Ef _ _ (by omega)) (UInt8.toNat_lt _)
   case measure=>simp[intOf];omega
  ·go_wp2_with fail
   go_ret
   have hje:j=t.size:=by omega
   rw[List.take_of_length_le (by omega)]
   rw[HW.out,HT.out]
   exact ⟨rfl,G,R⟩
end Oct
end
section
namespace Ab
abbrev Pd (s:ByteArray) (p:Nat) (f:Bool):n6:=⟨[.v (.string s),.v (.int .i64 (p:Int)),.v (.bool f)],174⟩
theorem a6a {β:Bt} {x:World} {b:Nat} {s:ByteArray} {p:Nat} {f:Bool} (h:y9 β x b (Pd s p f)):Oct.Rd 174 b s p f x:=by
 rcases h with (⟨h,_⟩|⟨h,_⟩)|⟨ys,zs,h1,h2,_⟩
 ·cases h
 ·cases h
 have:ys=[.string s,.int .i64 (p:Int),.bool f]:=(I1 (ys:=[.string s,.int .i64 (p:Int),.bool f]) rfl β ys).1 h2
 subst this
 exact ⟨zs,h1⟩
theorem b8e {β:Bt} {x:World} {b:Nat} {s:ByteArray} {p:Nat} {f:Bool} (h:Oct.Rd 174 b s p f x):y9 β x b (Pd s p f):=by
 obtain ⟨zs,h⟩:=h
 exact .inr ⟨_,zs,h,⟨⟨rfl,rfl⟩,⟨rfl,rfl⟩,⟨rfl,rfl⟩,trivial⟩,trivial⟩
theorem cU {F id n:Nat} (hent:j6 prog F) {s:ByteArray} {p p':Nat} {f f':Bool} {ar:List SV} {vals:List Value} {v:SV} {y:Value} (ha:Ra ar=some vals) (hv:v.pl=some y)
  (h:∀b w,Oct.Rd 174 b s p f w->Calls prog F (.pointer (some ⟨b,0,none⟩)::vals).toArray w fun e w'=>e=.returned y/\w.grownBy w' (some b)/\Oct.Rd 174 b s p' f' w') :
  f4 prog F (.c (.l (.p id 0))::ar) [(id,Pd s p f)] n v [(id,Pd s p' f')] 0:=by
 refine ⟨hent,fun β x vs hvs hinj hlt hnew hH _=>?_⟩
 match vs,hvs with
 |q::vs,⟨hq,hr⟩=>
  obtain ⟨b,hb,rfl⟩:=hq
  have hvs:=(U9 ha β vs).1 hr
  subst hvs
  refine (h b x (a6a (hH id b _ hb (o5 _ _ _)))).mono ?_
  rintro e x' ⟨rfl,hg,hr'⟩
  refine ⟨y,β,rfl,⟨(SV.pl_iff hv β y).2 rfl,Ext.refl β,fun i c hc=>.inl hc,fun i c hc=>.inl hc,hinj,fun i c hc=>Nat.lt_of_lt_of_le (hlt i c hc) hg.size,hg.os,hg.tape,hg.output,hg.size,fun k hk hne=>hg.block k hk (fun e=>?_),fun i c k hc hk=>?_⟩⟩
  ·have e:k=b:=by simpa using e
   subst e
   have:=hne id hb
   rw[o5] at this;cases this
  ·have hi:i=id:=by
    have:=M3 hk
    simp only[List.mem_singleton,Prod.mk.injEq] at this;exact this.1
   subst hi
   rw[o5] at hk
   cases hk
   rw[hb] at hc
   cases hc
   exact b8e hr'
theorem qM {F id n:Nat} (hent:j6 prog F) {s:ByteArray} {p:Nat} {f:Bool} {ar:List SV} {vals:List Value} {v:SV} {y:Value} (ha:Ra ar=some vals) (hv:v.pl=some y)
  (h:∀b w,Oct.Rd 174 b s p f w->Calls prog F (.pointer (some ⟨b,0,none⟩)::vals).toArray w fun e w'=>e=.returned y/\n7 w w') :
  f4 prog F (.c (.l (.p id 0))::ar) [(id,Pd s p f)] n v [] 0:=by
 refine ⟨hent,fun β x vs hvs hinj hlt hnew hH _=>?_⟩
 match vs,hvs with
 |q::vs,⟨hq,hr⟩=>
  obtain ⟨b,hb,rfl⟩:=hq
  have hvs:=(U9 ha β vs).1 hr
  subst hvs
  refine (h b x (a6a (hH id b _ hb (o5 _ _ _)))).mono ?_
  rintro e x' ⟨rfl,hg⟩
  replace hg:Below x.heap.size x x':=hg
  exact ⟨y,β,rfl,⟨(SV.pl_iff hv β y).2 rfl,Ext.refl β,fun i c hc=>.inl hc,fun i c hc=>.inl hc,hinj,fun i c hc=>Nat.lt_of_lt_of_le (hlt i c hc) hg.size,hg.os,hg.tape,hg.output,hg.size,fun k hk hne=>hg.block k hk,fun i c k hc hk=>by cases hk⟩⟩
theorem a7a {F n t:Nat} (hent:j6 prog F) {ar:List SV} {vals ys:List Value} (ha:Ra ar=some vals) (hl:∀y∈ys,K1 y=true)
  (h:∀w,Calls prog F vals.toArray w fun e w'=>e=.returned (.pointer (some ⟨w.heap.size,0,none⟩))/\w'=w.alloc (.cells ys.toArray t)) :
  f4 prog F ar [] n (.c (.l (.p n 0))) [(n,⟨ys.map .v,.t t⟩)] 1:=by
 refine ⟨hent,fun β x vs hvs hinj hlt hnew hH _=>?_⟩
 have hvs:=(U9 ha β vs).1 hvs
 subst hvs
 refine (h x).mono ?_
 rintro e x' ⟨rfl,rfl⟩
 exact ⟨_,β.set n x.heap.size none,rfl,U3 ⟨hinj,hlt⟩ (hnew n (Nat.le_refl _) (by omega)) rfl rfl rfl (by simp) (fun q hq=>Below.heap_alloc x _ q hq) ⟨x.heap.size,Bt.set_b _ _ _ _,rfl⟩ (.inr ⟨ys,[],by simpa [BT.ty,BT.fr] using heap_alloc_new x (.cells ys.toArray t),iI hl,trivial⟩)⟩
end Ab
end
section
namespace Ab
theorem Lh:j6 prog 53:=fun args w=>by go_simp
theorem C53 (s:ByteArray) (hs:s.size<=1000000000000000000) (n:Nat):f4 prog 53 [.c (.l (.v (.string s)))] [] n (iv .u32 (Oct.M.sum s.data.toList:Nat)) [] 0:=
 B9 Lh (vals:=[.string s]) (y:=.int .u32 (Oct.M.sum s.data.toList:Nat)) rfl rfl n fun x=>(Oct.Et s x hs).mono fun e x' h=>⟨h.1,by first|exact h.2|exact h.2▸n7.refl _⟩
theorem Iz:j6 prog 125:=fun args w=>by go_simp
theorem a9u (id:Nat) (s:ByteArray) (P:Int) (f:Bool)  (hs:s.size<=1000000000000000000) (h0:0<=P) (hP:P<=s.size) (n:Nat) :
  f4 prog 125 [.c (.l (.p id 0))] [(id,⟨[.v (.string s),.v (.int .i64 P),.v (.bool f)],.t 174⟩)] n (iv .i64 (Oct.l7 s P.toNat f).1) [(id,⟨[.v (.string s),.v (.int .i64 ((Oct.l7 s P.toNat f).2.1:Nat)),.v (.bool (Oct.l7 s P.toNat f).2.2)],.t 174⟩)] 0:=by
 have hp:P.toNat<=s.size:=by omega
 have e:P=(P.toNat:Int):=by omega
 have key:=cU (id:=id) (n:=n) (F:=125) Iz (s:=s) (p:=P.toNat) (p':=(Oct.l7 s P.toNat f).2.1) (f:=f) (f':=(Oct.l7 s P.toNat f).2.2) (ar:=[]) (vals:=[]) (v:=iv .i64 (Oct.l7 s P.toNat f).1) (y:=.int .i64 (Oct.l7 s P.toNat f).1) rfl rfl (fun b w h=>Oct.wK b s P.toNat f w h hs hp)
 unfold Pd at key
 rw[<-e] at key
 exact key
def c8u (S:St) (i:Nat):SV:=match S.blk i with|some ⟨[.v (.string s),.v (.int _ p),.v (.bool f)],_⟩=>iv .i64 (Oct.l7 s p.toNat f).1|_=>.u
def c7k (S:St) (i:Nat):n6:=match S.blk i with|some ⟨[.v (.string s),.v (.int _ p),.v (.bool f)],_⟩=>⟨[.v (.string s),.v (.int .i64 ((Oct.l7 s p.toNat f).2.1:Nat)),.v (.bool (Oct.l7 s p.toNat f).2.2)],.t 174⟩|_=>⟨[],.t 0⟩
theorem Oi:j6 prog 59:=fun args w=>by go_simp
theorem C59 (id:Nat) (s:ByteArray) (P:Int) (f:Bool)  (hs:s.size<=1000000000000000000) (h0:0<=P) (hP:P<=s.size) (n:Nat) :
  f4 prog 59 [.c (.l (.p id 0))] [(id,⟨[.v (.string s),.v (.int .i64 P),.v (.bool f)],.t 174⟩)] n (.c (.l (.v (.string (Oct.y5 s P.toNat f).1)))) [(id,⟨[.v (.string s),.v (.int .i64 ((Oct.y5 s P.toNat f).2.1:Nat)),.v (.bool (Oct.y5 s P.toNat f).2.2)],.t 174⟩)] 0:=by
 have hp:P.toNat<=s.size:=by omega
 have e:P=(P.toNat:Int):=by omega
 have key:=cU (id:=id) (n:=n) (F:=59) Oi (s:=s) (p:=P.toNat) (p':=(Oct.y5 s P.toNat f).2.1) (f:=f) (f':=(Oct.y5 s P.toNat f).2.2) (ar:=[]) (vals:=[]) (v:=.c (.l (.v (.string (Oct.y5 s P.toNat f).1)))) (y:=.string (Oct.y5 s P.toNat f).1) rfl rfl (fun b w h=>Oct.Ib b s P.toNat f w h hs hp)
 unfold Pd at key
 rw[<-e] at key
 exact key
def V59 (S:St) (i:Nat):SV:=match S.blk i with|some ⟨[.v (.string s),.v (.int _ p),.v (.bool f)],_⟩=>.c (.l (.v (.string (Oct.y5 s p.toNat f).1)))|_=>.u
def W59 (S:St) (i:Nat):n6:=match S.blk i with|some ⟨[.v (.string s),.v (.int _ p),.v (.bool f)],_⟩=>⟨[.v (.string s),.v (.int .i64 ((Oct.y5 s p.toNat f).2.1:Nat)),.v (.bool (Oct.y5 s p.toNat f).2.2)],.t 174⟩|_=>⟨[],.t 0⟩
theorem Tt:j6 prog 60:=fun args w=>by go_simp
theorem C60 (id:Nat) (s:ByteArray) (P:Int) (f:Bool) (m:Int) (hs:s.size<=1000000000000000000) (h0:0<=P) (hP:P<=s.size) (n:Nat) :
  f4 prog 60 [.c (.l (.p id 0)),iv .i64 m] [(id,⟨[.v (.string s),.v (.int .i64 P),.v (.bool f)],.t 174⟩)] n (iv .i64 (wrap64 (Oct.kR (Oct.l5 s P.toNat f (Oct.sz m)).1.data.toList))) [(id,⟨[.v (.string s),.v (.int .i64 ((Oct.l5 s P.toNat f (Oct.sz m)).2.1:Nat)),.v (.bool (Oct.l5 s P.toNat f (Oct.sz m)).2.2)],.t 174⟩)] 0:=by
 have hp:P.toNat<=s.size:=by omega
 have e:P=(P.toNat:Int):=by omega
 have key:=cU (id:=id) (n:=n) (F:=60) Tt (s:=s) (p:=P.toNat) (p':=(Oct.l5 s P.toNat f (Oct.sz m)).2.1) (f:=f) (f':=(Oct.l5 s P.toNat f (Oct.sz m)).2.2) (ar:=[iv .i64 m]) (vals:=[.int .i64 m]) (v:=iv .i64 (wrap64 (Oct.kR (Oct.l5 s P.toNat f (Oct.sz m)).1.data.toList))) (y:=.int .i64 (wrap64 (Oct.kR (Oct.l5 s P.toNat f (Oct.sz m)).1.data.toList))) rfl rfl (fun b w h=>Oct.a4c b s P.toNat f w m h hs hp)
 unfold Pd at key
 rw[<-e] at key
 exact key
def V60 (S:St) (i:Nat) (m:Int):SV:=match S.blk i with|some ⟨[.v (.string s),.v (.int _ p),.v (.bool f)],_⟩=>iv .i64 (wrap64 (Oct.kR (Oct.l5 s p.toNat f (Oct.sz m)).1.data.toList))|_=>.u
def W60 (S:St) (i:Nat) (m:Int):n6:=match S.blk i with|some ⟨[.v (.string s),.v (.int _ p),.v (.bool f)],_⟩=>⟨[.v (.string s),.v (.int .i64 ((Oct.l5 s p.toNat f (Oct.sz m)).2.1:Nat)),.v (.bool (Oct.l5 s p.toNat f (Oct.sz m)).2.2)],.t 174⟩|_=>⟨[],.t 0⟩
theorem Sh:j6 prog 64:=fun args w=>by go_simp
theorem C64 (id:Nat) (s:ByteArray) (P:Int) (f:Bool) (m:Int) (hs:s.size<=1000000000000000000) (h0:0<=P) (hP:P<=s.size) (n:Nat) :
  f4 prog 64 [.c (.l (.p id 0)),iv .i64 m] [(id,⟨[.v (.string s),.v (.int .i64 P),.v (.bool f)],.t 174⟩)] n (.c (.l (.v (.string (Oct.l5 s P.toNat f m).1)))) [(id,⟨[.v (.string s),.v (.int .i64 ((Oct.l5 s P.toNat f m).2.1:Nat)),.v (.bool (Oct.l5 s P.toNat f m).2.2)],.t 174⟩)] 0:=by
 have hp:P.toNat<=s.size:=by omega
 have e:P=(P.toNat:Int):=by omega
 have key:=cU (id:=id) (n:=n) (F:=64) Sh (s:=s) (p:=P.toNat) (p':=(Oct.l5 s P.toNat f m).2.1) (f:=f) (f':=(Oct.l5 s P.toNat f m).2.2) (ar:=[iv .i64 m]) (vals:=[.int .i64 m]) (v:=.c (.l (.v (.string (Oct.l5 s P.toNat f m).1)))) (y:=.string (Oct.l5 s P.toNat f m).1) rfl rfl (fun b w h=>Oct.nJ b s P.toNat f w m h hs hp)
 unfold Pd at key
 rw[<-e] at key
 exact key
def V64 (S:St) (i:Nat) (m:Int):SV:=match S.blk i with|some ⟨[.v (.string s),.v (.int _ p),.v (.bool f)],_⟩=>.c (.l (.v (.string (Oct.l5 s p.toNat f m).1)))|_=>.u
def W64 (S:St) (i:Nat) (m:Int):n6:=match S.blk i with|some ⟨[.v (.string s),.v (.int _ p),.v (.bool f)],_⟩=>⟨[.v (.string s),.v (.int .i64 ((Oct.l5 s p.toNat f m).2.1:Nat)),.v (.bool (Oct.l5 s p.toNat f m).2.2)],.t 174⟩|_=>⟨[],.t 0⟩
theorem Nh:j6 prog 58:=fun args w=>by go_simp
theorem Ti:j6 prog 61:=fun args w=>by go_simp
theorem Qz:j6 prog 63:=fun args w=>by go_simp
theorem C58 (s:ByteArray) (n:Nat):f4 prog 58 [.c (.l (.v (.string s)))] [] n (.c (.l (.p n 0))) [(n,⟨[.v (.string s),.v (.int .i64 0),.v (.bool false)],.t 174⟩)] 1:=
 a7a Nh (vals:=[.string s]) (ys:=[.string s,.int .i64 0,.bool false]) rfl (by simp[K1,Value.oneCell']) fun w=>(Oct.Tc s w).mono fun e w' h=>⟨h.1,h.2.symm⟩
theorem C61 (id:Nat) (s:ByteArray) (P:Int) (f:Bool) (h0:0<=P) (n:Nat):f4 prog 61 [.c (.l (.p id 0))] [(id,⟨[.v (.string s),.v (.int .i64 P),.v (.bool f)],.t 174⟩)] n (bv f) [] 0:=by
 have e:P=(P.toNat:Int):=by omega
 have key:=qM (id:=id) (n:=n) (F:=61) Ti (s:=s) (p:=P.toNat) (f:=f) (ar:=[]) (vals:=[]) (v:=bv f) (y:=.bool f) rfl rfl (fun b w h=>(Oct.Aw b s P.toNat f w h).mono fun e w' h=>⟨h.1,h.2▸n7.refl _⟩)
 unfold Pd at key
 rw[<-e] at key
 exact key
theorem Cq (w:World) (n:Nat):n7 w (w.drewN n):=⟨rfl,rfl,rfl,Nat.le_refl _,fun _ _=>rfl⟩
theorem C63 (id:Nat) (s:ByteArray) (P:Int) (f:Bool) (hs:s.size<=1000000000000000000) (h0:0<=P) (hP:P<=s.size) (n:Nat):f4 prog 63 [.c (.l (.p id 0))] [(id,⟨[.v (.string s),.v (.int .i64 P),.v (.bool f)],.t 174⟩)] n (iv .i64 (s.size-P)) [] 0:=by
 have e:P=(P.toNat:Int):=by omega
 have key:=qM (id:=id) (n:=n) (F:=63) Qz (s:=s) (p:=P.toNat) (f:=f) (ar:=[]) (vals:=[]) (v:=iv .i64 (s.size-P.toNat)) (y:=.int .i64 (s.size-P.toNat)) rfl rfl (fun b w h=>(Oct.gM b s P.toNat f w h hs (by omega)).mono fun e w' h=>⟨h.1,by obtain ⟨k,hk⟩:=h.2;rw[hk];exact Cq _ _⟩)
 unfold Pd at key
 rw[<-e] at key
 exact key
def V61 (S:St) (i:Nat):SV:=match S.blk i with|some ⟨[.v (.string s),.v (.int _ p),.v (.bool f)],_⟩=>bv f|_=>.u
def V63 (S:St) (i:Nat):SV:=match S.blk i with|some ⟨[.v (.string s),.v (.int _ p),.v (.bool f)],_⟩=>iv .i64 (s.size-p)|_=>.u
def Y5 (s t:ByteArray):Bool:=bif decide ((s.size:Int)>=t.size) then (s.extract 0 t.size).toList==t.toList else false
def P9 (s t:ByteArray):ByteArray×Bool:=bif Y5 s t then (s.extract t.size s.size,true) else (s,false)
def a0r:Cz:={
  ct:=fun _=>none
   }
theorem c7y (s t:ByteArray) (hs:s.size<=1000000000000000000) (n:Nat):f4 prog 160 [.c (.l (.v (.string s))),.c (.l (.v (.string t)))] [] n (bv (Y5 s t)) [] 0:=by
 refine v6 (q:=let a:=(t.size:Int);let b:=((s.size:Int)>=a);(decide b=true->decide b=true/\True)/\(decide b=true->decide b=true/\decide b=true/\O6 0 a (s.size:Int)/\True)/\(decide b=true->decide b=true/\decide b=true/\True)/\(decide b=true->decide b=true)/\Le (bv (bif decide b then (s.extract (Int.toNat 0) (a).toNat).toList==t.toList else false)) (bv (Y5 s t))/\True) (a0r) func160 n (by kernel_rfl) (by kernel_rfl) ?_
 with_reducible repeat' first|exact trivial|apply And.intro|apply HB.mk|intro _
 all_goals first|assumption|have:=of_decide_eq_true ‹_›;unfold O6;omega|exact Le.of rfl|exact Le.of rfl
theorem tN {s t:ByteArray} (h:Y5 s t=true):t.size<=s.size:=by
 unfold Y5 at h
 by_cases k:(s.size:Int)>=t.size
 ·omega
 ·rw[decide_eq_false k] at h;cases h
def a2f:Cz:={
  ct:=(fun f=>match f with
  |160=>some fun _ _=>fun | [.c (.l (.v (.string s))),.c (.l (.v (.string t)))]=>some {v:=bv (Y5 s t)}|_=>none
  | _ => none)
   }
theorem d1k (s t:ByteArray) (hs:s.size<=1000000000000000000) (n:Nat):f4 prog 124 [.c (.l (.v (.string s))),.c (.l (.v (.string t)))] [] n (.tup [.l (.v (.string (P9 s t).1)),.l (.v (.bool (P9 s t).2))]) [] 0:=by
 refine f4.any ?_ (by kernel_rfl) (by kernel_rfl) n
 have hsz:=tN (s:=s) (t:=t)
 refine E3 (q:=let a:=(SV.tup [Cp.l (l9 ((P9 s t).fst)),Cp.l (lb (P9 s t).snd)]);let b:=(s.size:Int);Kd 160 [] [l4 (l9 s),l4 (l9 t)] [] 0 (bv (Y5 s t)) [] 0/\HB (!Y5 s t) (Le (SV.tup [Cp.l (l9 s),Cp.l (lb false)]) a/\True) (O6 (t.size:Int) b b/\Le (SV.tup [Cp.l (l9 (s.extract ((t.size:Int)).toNat (b).toNat)),Cp.l (lb true)]) a/\True)) (a2f) [] func124 (by kernel_rfl) (by kernel_rfl) ?_
 with_reducible repeat' first|exact trivial|apply And.intro|apply HB.mk|intro _
 all_goals first|((refine c7y _ _ ?_ _);first|assumption|decide +kernel)|(refine Le.of ?_;unfold P9;rw[show Y5 s t=false by simpa using ‹(!Y5 s t)=true›];rfl)|(refine Le.of ?_;unfold P9;rw[show Y5 s t=true by simpa using ‹(!Y5 s t)=false›];rfl)|have:=tN (show Y5 s t=true by simpa using ‹(!Y5 s t)=false›);unfold O6;omega
def a7j:Cz:={
  ct:=(fun f=>match f with
  |124=>some fun _ _=>fun | [.c (.l (.v (.string s))),.c (.l (.v (.string t)))]=>some {v:=.tup [.l (.v (.string (P9 s t).1)),.l (.v (.bool (P9 s t).2))]}|_=>none
  | _ => none)
   }
theorem C57 (s t:ByteArray) (hs:s.size<=1000000000000000000) (n:Nat):f4 prog 57 [.c (.l (.v (.string s))),.c (.l (.v (.string t)))] [] n (.tup [.l (.v (.string (P9 s t).1)),.l (.v (.bool (P9 s t).2))]) [] 0:=by
 refine v6 (q:=let a:=(SV.tup [Cp.l (l9 ((P9 s t).fst)),Cp.l (lb (P9 s t).snd)]);Kd 124 [] [l4 (l9 s),l4 (l9 t)] [] 0 a [] 0/\Le a a/\True) (a7j) func57 n (by kernel_rfl) (by kernel_rfl) ?_
 with_reducible repeat' first|exact trivial|apply And.intro|apply HB.mk|intro _|exact Le.refl _
 all_goals first|((refine d1k _ _ ?_ _);first|assumption|decide +kernel)
end Ab
end
section
namespace Ab
abbrev u8 (n:Int):Leaf:=.v (.int .u8 n)
abbrev ub (b:UInt8):Leaf:=u8 (b.toNat:Nat)
def tl (t:Nat->UInt8):List Leaf:=(List.range 256).map fun i=>ub (t i)
theorem B8 (t:Nat->UInt8):(tl t).length=256:=by simp[tl]
theorem cD (t:Nat->UInt8) {i:Nat} (h:i<256):(tl t)[i]? = some (ub (t i)):=by simp[tl,h]
theorem lD (t:Nat->UInt8) {i:Nat} (h:¬i<256):(tl t)[i]? = none:=by simp[tl];omega
theorem lX (t:Nat->UInt8) {i:Nat} (h:i<256):(tl t).getD i .u=ub (t i):=by rw[List.getD_eq_getElem?_getD,cD t h];rfl
def px (t:Nat->UInt8) (k:Nat):List Leaf:=[ub (t (4*k)),ub (t (4*k+1)),ub (t (4*k+2)),ub (t (4*k+3))]
theorem cE (t:Nat->UInt8) {k:Nat} (h:k<64):((tl t).drop (k*4)).take 4=px t k:=by
 apply List.ext_getElem?
 intro j
 rw[List.getElem?_take]
 split
 ·rename_i hj
  rw[List.getElem?_drop,cD t (by omega),Nat.mul_comm k 4]
  unfold px
  match j,hj with
  |0,_=>rfl
  |1,_=>rfl
  |2,_=>rfl
  |3,_=>rfl
 ·rename_i hj
  unfold px
  rw[List.getElem?_eq_none (by simp;omega)]
def U2 (t:Nat->UInt8) (k:Nat) (a b c d:UInt8):Nat->UInt8:=fun i=>if i=4*k then a else if i=4*k+1 then b else if i=4*k+2 then c else if i=4*k+3 then d else t i
theorem eO (t:Nat->UInt8) {k:Nat} (h:k<64) (a b c d:UInt8):j4 (tl t) (k*4) [ub a,ub b,ub c,ub d]=tl (U2 t k a b c d):=by
 apply List.ext_getElem?
 intro j
 simp only[j4]
 by_cases hj:j<256
 ·rw[cD _ hj]
  simp only[List.getElem?_set,List.length_set,B8]
  unfold U2
  by_cases h0:j=4*k
  ·subst h0
   rw[if_neg (by omega),if_neg (by omega),if_neg (by omega),if_pos (by omega),if_pos (by omega),if_pos rfl]
  ·by_cases h1:j=4*k+1
   ·subst h1
    rw[if_neg (by omega),if_neg (by omega),if_pos (by omega),if_pos (by omega),if_neg (by omega),if_pos rfl]
   ·by_cases h2:j=4*k+2
    ·subst h2
     rw[if_neg (by omega),if_pos (by omega),if_pos (by omega),if_neg (by omega),if_neg (by omega),if_pos rfl]
    ·by_cases h3:j=4*k+3
     ·subst h3
      rw[if_pos (by omega),if_pos (by omega),if_neg (by omega),if_neg (by omega),if_neg (by omega),if_pos rfl]
     ·rw[if_neg (by omega),if_neg (by omega),if_neg (by omega),if_neg (by omega),cD _ hj,if_neg h0,if_neg h1,if_neg h2,if_neg h3]
 ·rw[lD _ hj]
  rw[List.getElem?_eq_none]
  simp only[List.length_set,B8]
  omega
theorem J4 {t u:Nat->UInt8} (h:∀i,i<256->t i=u i):tl t=tl u:=by
 apply List.ext_getElem?
 intro j
 by_cases hj:j<256
 ·rw[cD _ hj,cD _ hj,h j hj]
 ·rw[lD _ hj,lD _ hj]
def zT:Nat->UInt8:=fun _=>0
theorem a2n:List.replicate 256 (u8 0)=tl zT:=by kernel_rfl
theorem Ap {t m D D':Nat} (hk:prog.keyTypeAt m t=true) (hm:m<=10000) (hg:prog.eqGuardType prog.depth t=false) {xs ys:List Value} {la lb:List Lit} (hlx:∀y∈xs,K1 y=true) (hly:∀y∈ys,K1 y=true)
  (fx:(Value.agg xs.toArray).formed prog t=true) (fy:(Value.agg ys.toArray).formed prog t=true) (hx:prog.keyLits D t xs=some la) (hy:prog.keyLits D' t ys=some lb) (b:Bool) (hb:b=true↔la=lb) :
  H4 prog t (xs.map .v) (ys.map .v) b:=by
 intro β u v x y w hu hv
 have pl:∀ {l:List Value},(∀y∈l,K1 y=true)->nB (l.map .v)=some l:=by
  intro l hl
  induction l with
  |nil=>rfl
  |cons a l ih=>
   simp only[List.map_cons,nB,Leaf.pl,hl a (by simp),ih (fun y hy=>hl y (by simp[hy]))]
 have hu':=(I1 (pl hlx) β u).1 hu
 have hv':=(I1 (pl hly) β v).1 hv
 subst hu' hv'
 obtain ⟨r,hr,hiff⟩:=run_equalIn_deep (P:=prog) (10000-m) m t hk w D D' (.agg u.toArray) (.agg v.toArray) la lb fx fy (by simpa [Value.cells] using hx) (by simpa [Value.cells] using hy)
 rw[show 10000-m+m=10000 by omega] at hr
 have hrb:r=b:=by
  cases r<;>cases b<;>simp_all
 subst hrb
 have g:∀op,(eqGuard op t x y (.agg u.toArray) (.agg v.toArray)).run prog w=.ok () w:=by
  intro op;unfold eqGuard;cases op<;>simp[Sem.run_bind,hg,go_sem]
 constructor
 ·rw[Sem.run_bind,g,Result.andThen_ok,run_eql_struct,hr];rfl
 ·rw[Sem.run_bind,g,Result.andThen_ok,run_neq_struct,hr];rfl
end Ab
end
section
namespace Ab
def o7:List Leaf:=List.replicate 256 (.v (.int .u8 0))
theorem q9:o7=tl zT:=a2n
theorem C2 (n:Int) (h0 : -9223372036854775808<=n) (h1:n<=9223372036854775807):IntKind.i64.wrap n=n:=by rw[IntKind.wrap_i64];omega
abbrev bl (b:UInt8):Lit:=.int .u8 (b.toNat:Nat)
abbrev sV (b:UInt8):Value:=.int .u8 (b.toNat:Nat)
theorem wf8 (b:UInt8):(bl b).wf=true:=by
 have:=b.toNat_lt
 simp[Lit.wf,IntKind.min,IntKind.max,IntKind.bits,IntKind.signed]
 try omega
theorem b8s (D:Nat) (b:UInt8):prog.keyLits (D+1) 5 [sV b]=some [bl b]:=by
 unfold Program.keyLits
 simp only[underlying5]
 simp[wf8 b]
theorem Ny:prog.cellsOf 5=1:=by kernel_rfl
theorem lK:prog.cellsOf 36=4:=by kernel_rfl
theorem kV:prog.cellsOf 38=256:=by kernel_rfl
theorem Bn (D:Nat) (a b c e:UInt8):prog.keyLits (D+2) 36 [sV a,sV b,sV c,sV e]=some [bl a,bl b,bl c,bl e]:=by
 unfold Program.keyLits
 simp only[underlying36,lK,Ny]
 simp[Ny,b8s]
theorem c9x (a b c e a' b' c' e':UInt8):H4 prog 36 [ub a,ub b,ub c,ub e] [ub a',ub b',ub c',ub e'] (decide (a=a'/\b=b'/\c=c'/\e=e')):=by
 refine Ap (t:=36) (m:=4) (D:=2) (D':=2) (by kernel_rfl) (by decide) (by kernel_rfl) (xs:=[sV a,sV b,sV c,sV e]) (ys:=[sV a',sV b',sV c',sV e']) (by simp[K1,Value.oneCell']) (by simp[K1,Value.oneCell']) (by simp[Value.formed,underlying36,lK]) (by simp[Value.formed,underlying36,lK]) (Bn 0 _ _ _ _) (Bn 0 _ _ _ _) _ ?_
 have h:∀x y:UInt8,bl x=bl y↔x=y:=by
  intro x y
  constructor
  ·intro k;injection k with _ k;exact UInt8.toNat_inj.1 (by omega)
  ·intro k;rw[k]
 simp only[decide_eq_true_eq,List.cons.injEq,h,and_true]
def tv (t:Nat->UInt8):List Value:=(List.range 256).map fun i=>sV (t i)
theorem Ez (t:Nat->UInt8):(tv t).map .v=tl t:=by simp[tv,tl]
theorem dT (t:Nat->UInt8):(tv t).length=256:=by simp[tv]
theorem a6k (t:Nat->UInt8) {k:Nat} (h:k<64):((tv t).drop (k*4)).take 4=[sV (t (4*k)),sV (t (4*k+1)),sV (t (4*k+2)),sV (t (4*k+3))]:=by
 have:=cE t h
 rw[<-Ez,<-List.map_drop,<-List.map_take] at this
 have hi:∀(l m:List Value),l.map Leaf.v=m.map Leaf.v->l=m:=by
  intro l m e
  exact (List.map_inj_right (fun x y e=>by injection e)).1 e
 exact hi _ _ this
theorem Dd (t:Nat->UInt8):prog.keyLits 3 38 (tv t)=some ((List.range 64).map fun k=>[bl (t (4*k)),bl (t (4*k+1)),bl (t (4*k+2)),bl (t (4*k+3))]).flatten:=by
 unfold Program.keyLits
 simp only[underlying38,kV,lK,dT,if_true]
 have:(List.range 64).mapM (fun i=>prog.keyLits 2 36 (((tv t).drop (i*4)).take 4))=some ((List.range 64).map fun k=>[bl (t (4*k)),bl (t (4*k+1)),bl (t (4*k+2)),bl (t (4*k+3))]):=by
  have key:∀l:List Nat,(∀k∈l,k<64)->l.mapM (fun i=>prog.keyLits 2 36 (((tv t).drop (i*4)).take 4))=some (l.map fun k=>[bl (t (4*k)),bl (t (4*k+1)),bl (t (4*k+2)),bl (t (4*k+3))]):=by
   intro l hl
   induction l with
   |nil=>rfl
   |cons k l ih=>
    rw[List.mapM_cons,a6k t (hl k (by simp)),Bn 0,ih (fun j hj=>hl j (by simp[hj]))]
    rfl
  exact key _ (fun k hk=>by simpa using hk)
 rw[this]
 rfl
def m7 (t u:Nat->UInt8):Bool:=(List.range 256).all fun i=>decide (t i=u i)
theorem B1 (t u:Nat->UInt8):m7 t u=true↔∀i,i<256->t i=u i:=by
 unfold m7;simp[List.all_eq_true]
theorem nL {t u:Nat->UInt8}:∀l:List Nat,((l.map fun k=>[bl (t (4*k)),bl (t (4*k+1)),bl (t (4*k+2)),bl (t (4*k+3))]).flatten=(l.map fun k=>[bl (u (4*k)),bl (u (4*k+1)),bl (u (4*k+2)),bl (u (4*k+3))]).flatten↔∀k∈l,t (4*k)=u (4*k)/\t (4*k+1)=u (4*k+1)/\t (4*k+2)=u (4*k+2)/\t (4*k+3)=u (4*k+3))
 |[]=>by simp
 |k::l=>by
  have h:∀x y:UInt8,bl x=bl y↔x=y:=by
   intro x y
   constructor
   ·intro k;injection k with _ k;exact UInt8.toNat_inj.1 (by omega)
   ·intro k;rw[k]
  simp only[List.map_cons,List.flatten_cons,List.cons_append,List.nil_append,List.cons.injEq,h,nL l,List.forall_mem_cons]
  constructor
  ·rintro ⟨a,b,c,d,e⟩;exact ⟨⟨a,b,c,d⟩,e⟩
  ·rintro ⟨⟨a,b,c,d⟩,e⟩;exact ⟨a,b,c,d,e⟩
theorem c7v (t u:Nat->UInt8):H4 prog 38 (tl t) (tl u) (m7 t u):=by
 rw[<-Ez,<-Ez]
 have lf:∀v:Nat->UInt8,∀y∈tv v,K1 y=true:=by
  intro v y hy
  simp only[tv,List.mem_map] at hy
  obtain ⟨i,_,rfl⟩:=hy
  rfl
 refine Ap (t:=38) (m:=5) (D:=3) (D':=3) (by kernel_rfl) (by decide) (by kernel_rfl) (lf t) (lf u) (by simp[Value.formed,underlying38,kV,dT]) (by simp[Value.formed,underlying38,kV,dT]) (Dd t) (Dd u) _ ?_
 rw[nL,B1]
 constructor
 ·intro h k hk
  have hk:k<64:=by simpa using hk
  exact ⟨h _ (by omega),h _ (by omega),h _ (by omega),h _ (by omega)⟩
 ·intro h i hi
  obtain ⟨a,b,c,d⟩:=h (i / 4) (by simp;omega)
  have:i=4*(i / 4)+i % 4:=by omega
  have h4:i % 4<4:=by omega
  generalize i / 4=q at *
  match hm:i % 4,h4 with
  |0,_=>rw[this,hm];exact a
  |1,_=>rw[this,hm];exact b
  |2,_=>rw[this,hm];exact c
  |3,_=>rw[this,hm];exact d
end Ab
end
section
namespace Ab
theorem okb (b:UInt8):(0:Int)<=(b.toNat:Nat)/\((b.toNat:Nat):Int)<256:=by have:=b.toNat_lt;omega
def F5 (e x:Int):Int:=bif e==0 then 0 else x
def N7 (e x:UInt8):UInt8:=if e=0 then 0 else x
def m8 (t:Nat->UInt8):Nat->UInt8:=fun i=>N7 (t (4*(i / 4)+3)) (t i)
def C4 (k:Nat) (f g:Nat->UInt8):Nat->UInt8:=fun i=>if i<4*k then f i else g i
theorem K4 (e x:UInt8):F5 (e.toNat:Nat) (x.toNat:Nat)=((N7 e x).toNat:Nat):=by
 unfold F5 N7
 by_cases h:e=0
 ·subst h;rfl
 ·have:((e.toNat:Nat):Int)≠0:=by
   intro k;apply h;apply UInt8.toNat_inj.1;simpa using k
  rw[if_neg h,beq_false_of_ne this];rfl
theorem kH {e x:Int} (h:(e==0)=true):F5 e x=0:=by unfold F5;rw[h];rfl
theorem kF {e x:Int} (h:(e==0)=false):F5 e x=x:=by unfold F5;rw[h];rfl
theorem M4 (k:Nat) (f g:Nat->UInt8) (hk:k<64):j4 (tl (C4 k f g)) (k*4) [ub (f (4*k)),ub (f (4*k+1)),ub (f (4*k+2)),ub (f (4*k+3))]=tl (C4 (k+1) f g):=by
 rw[eO _ hk]
 refine J4 fun i hi=>?_
 unfold U2 C4
 by_cases h0:i=4*k
 ·subst h0;rw[if_pos rfl,if_pos (by omega)]
 ·by_cases h1:i=4*k+1
  ·subst h1;rw[if_neg h0,if_pos rfl,if_pos (by omega)]
  ·by_cases h2:i=4*k+2
   ·subst h2;rw[if_neg h0,if_neg h1,if_pos rfl,if_pos (by omega)]
   ·by_cases h3:i=4*k+3
    ·subst h3;rw[if_neg h0,if_neg h1,if_neg h2,if_pos rfl,if_pos (by omega)]
    ·rw[if_neg h0,if_neg h1,if_neg h2,if_neg h3]
     by_cases h4:i<4*k
     ·rw[if_pos h4,if_pos (by omega)]
     ·rw[if_neg h4,if_neg (by omega)]
theorem T7 (f g:Nat->UInt8):tl (C4 64 f g)=tl f:=J4 fun i hi=>if_pos (by omega)
theorem L7 (f g:Nat->UInt8):tl (C4 0 f g)=tl g:=J4 fun i hi=>if_neg (by omega)
def a1a:Cz:={
  ct:=fun _=>none
   }
theorem d0y (a b c e:Int)  (n:Nat):f4 prog 129 [ag [u8 a,u8 b,u8 c,u8 e]] [] n (ag [u8 (F5 e a),u8 (F5 e b),u8 (F5 e c),u8 (F5 e e)]) [] 0:=by
 refine v6 (q:=let d:=(ag [l8 (F5 e a),l8 (F5 e b),l8 (F5 e c),l8 (F5 e e)]);HB (e==0) (Le (ag [l8 0,l8 0,l8 0,l8 0]) d/\True) (Le (ag [l8 a,l8 b,l8 c,l8 e]) d/\True)) (a1a) func129 n (by kernel_rfl) (by kernel_rfl) ?_
 with_reducible repeat' first|exact trivial|apply And.intro|apply HB.mk|intro _
 all_goals first|rw[kH (by assumption),kH (by assumption),kH (by assumption),kH (by assumption)];exact Le.refl _|rw[kF (by assumption),kF (by assumption),kF (by assumption),kF (by assumption)];exact Le.refl _
def I66 (t:Nat->UInt8) (k:Nat):St:=⟨[(6,iv .i64 (k:Nat)),(5,.c (.agg (tl t))),(1,.c (.l (.p 0 0))),(2,.c (.l (.p 1 0)))],[(0,some ⟨tl (C4 k (m8 t) t),.t 38⟩),(1,some ⟨tl zT,.t 38⟩)],2,16,[3,2,1,0],(0)⟩
theorem a5t (k:Nat):4*k / 4=k/\(4*k+1) / 4=k/\(4*k+2) / 4=k/\(4*k+3) / 4=k:=by omega
theorem Ld (t:Nat->UInt8) (k:Nat):ag [u8 (F5 ((t (4*k+3)).toNat:Nat) ((t (4*k)).toNat:Nat)),u8 (F5 ((t (4*k+3)).toNat:Nat) ((t (4*k+1)).toNat:Nat)),u8 (F5 ((t (4*k+3)).toNat:Nat) ((t (4*k+2)).toNat:Nat)),u8 (F5 ((t (4*k+3)).toNat:Nat) ((t (4*k+3)).toNat:Nat))]=ag [ub ((m8 t) (4*k)),ub ((m8 t) (4*k+1)),ub ((m8 t) (4*k+2)),ub ((m8 t) (4*k+3))]:=by
 obtain ⟨h0,h1,h2,h3⟩:=a5t k
 rw[K4,K4,K4,K4]
 unfold m8
 rw[h0,h1,h2,h3]
def rw0:Rw:=some fun _ _=>fun | [.c (.agg [.v (.int _ a),.v (.int _ b),.v (.int _ c),.v (.int _ e)])]=>some {v:=ag [u8 (F5 e a),u8 (F5 e b),u8 (F5 e c),u8 (F5 e e)]}|_=>none
def b3l (t:Nat->UInt8) (k:Nat):Cz:={
 ct:=(fun f=>match f with
 |129=>rw0
 |_=>none)
 sym:=[0,9,13],nf:=[(9,.c (.agg [ub (t (4*k)),ub (t (4*k+1)),ub (t (4*k+2)),ub (t (4*k+3))])),(12,.c (.agg [ub ((m8 t) (4*k)),ub ((m8 t) (4*k+1)),ub ((m8 t) (4*k+2)),ub ((m8 t) (4*k+3))]))]}
theorem R66 (t:Nat->UInt8) (k:Nat)  (K:Exit->St->Prop) (h:let a:=((k:Int));let b:=(Nat.cast ((t (4*k)).toNat):Int);let d:=(Nat.cast ((t (4*k+1)).toNat):Int);let e:=(Nat.cast ((t (4*k+2)).toNat):Int);let f:=(Nat.cast ((t (4*k+3)).toNat):Int);let g:=[l8 b,l8 d,l8 e,l8 f];let i:=(ag [l8 (F5 f b),l8 (F5 f d),l8 (F5 f e),l8 (F5 f f)]);let j:=[l8 (Nat.cast ((m8 t (4*k)).toNat):Int),l8 (Nat.cast ((m8 t (4*k+1)).toNat):Int),l8 (Nat.cast ((m8 t (4*k+2)).toNat):Int),l8 (Nat.cast ((m8 t (4*k+3)).toNat):Int)];let m:=tl (C4 k (m8 t) t);let n:=(1,some (j9 (tl zT) 38));HB (decide ((k:Int)<64)) (t0 a 64/\Le (ag (List.take 4 (List.drop (a.toNat*4) (tl t)))) (ag g)/\4<=4/\Kd 129 [] [ag g] [] 3 i [] 0/\Le i (ag j)/\t0 a 64/\0+a.toNat*4+4<=256/\IntKind.i64.wrap ((k:Int)+1)=(k:Int)+1/\RoundTo prog (gl 2 Tryz.f66) 2 (wkK 2 K) (St.mk [(1,j7 0 0),(2,j7 1 0),(5,ag (tl t)),(6,i8 ((k:Int)+1))] [(0,some (j9 (j4 m (0+a.toNat*4) j) 38)),n] 3 16 [0,2,2,3,2,1,0] 0)) (wkK 2 K (Exit.exit 0) (St.mk [(1,j7 0 0),(2,j7 1 0),(5,ag (tl t)),(6,i8 (k:Int))] [(0,some (j9 m 38)),n] 2 16 [3,2,1,0] 0))):z4 prog (gl 2 Tryz.f66) (I66 t k) (wkK 2 K):=
 m5 [1,2,5,6] [0,1] (cx:=b3l t k) rfl (u3 (by kernel_rfl) h)
theorem L66 (t:Nat->UInt8)  : ∀(m k:Nat),64-k=m->k<=64->∀(K:Exit->St->Prop),K (.exit 0) (I66 t 64)->z4 prog (gl 2 Tryz.f66) (I66 t k) (wkK 2 K)
 |0,k,hm,hk,K,hK=>by
  have e:k=64:=by omega
  subst e
  refine R66 t _ K (HB.no (by omega) ?_)
  exact wkK.tk (I66 t _) (by kernel_rfl) (N0.k (by kernel_rfl)) hK
 |m+1,k,hm,hk,K,hK=>by
  refine R66 t k K (HB.yes (by omega) ?_)
  have hlt:k<64:=by omega
  with_reducible repeat' first|exact trivial|apply And.intro|apply HB.mk|intro _
  all_goals first|with_reducible exact d0y _ _ _ _ _|(exact ⟨by omega,by omega⟩)|refine Le.of ?_;rw[show (((k:Nat):Int)).toNat=k from rfl,cE _ hlt];rfl|exact Le.of (Ld t k)|rw[show (((k:Nat):Int)).toNat=k from rfl];omega|refine RoundTo.to (I66 t (k+1)) (Nat.le_refl _) (by kernel_rfl) (eD.k (by kernel_rfl)) (d5 (l6.blk (k:=⟨j4 (tl (C4 k (m8 t) t)) (0+k*4) [ub ((m8 t) (4*k)),ub ((m8 t) (4*k+1)),ub ((m8 t) (4*k+2)),ub ((m8 t) (4*k+3))],.t 38⟩) (by kernel_rfl) (by rw[Nat.zero_add,M4 k _ _ hlt]) (by kernel_rfl)) (N0.k (by kernel_rfl))) (L66 t  m (k+1) (by omega) (by omega) K hK)|exact C2 _ (by omega) (by omega)|simp_all [mX];done
def b2f (t:Nat->UInt8):Cz:={
 ct:=(fun f=>match f with
 |129=>rw0
 |_=>none)
 nf:=[(5,.c (.agg (tl t)))],lp:=fun r=>match r with|2=>some (fun _ K=>K (.exit 0) (I66 t 64))|_=>none}
theorem C66 (t:Nat->UInt8)  (n:Nat):f4 prog 66 [.c (.agg (tl t))] [] n (.c (.agg (tl (m8 t)))) [] 0:=by
 refine v6 (q:=Le (ag (List.take 256 (tl t))) (ag (tl t))/\(l3 prog (gl 2 Tryz.f66) (St.mk [(6,i8 0),(5,ag (tl t)),(2,j7 1 0),(1,j7 0 0),(0,ag (tl t))] [(1,some (j9 o7 38)),(0,some (j9 (tl t) 38))] 2 16 [1,0] 0) fun K=>K (Exit.exit 0) (I66 t 64))/\Le (ag (tl (C4 64 (m8 t) t))) (ag (tl (m8 t)))/\True) (b2f t) func66 n (by kernel_rfl) (by kernel_rfl) ?_
 with_reducible repeat' first|exact trivial|apply And.intro|apply HB.mk|intro _
 all_goals first|exact l3.tk (I66 t 0) (by kernel_rfl) (d5 (l6.blk (k:=⟨tl t,.t 38⟩) (by kernel_rfl) (by rw[L7]) (by kernel_rfl)) (N0.k (by kernel_rfl))) (fun K hT=>L66 t _ 0 rfl (by decide) K hT)|exact Le.of (by kernel_rfl)
def C9 (n:Int):UInt8:=UInt8.ofNat n.toNat
def A1 (l:List Leaf):Nat->UInt8:=fun i=>match l[i]? with|some (.v (.int _ n))=>C9 n|_=>0
theorem v8 (b:UInt8):C9 ((b.toNat:Nat):Int)=b:=by unfold C9;simp
theorem G5 (t:Nat->UInt8) {i:Nat} (h:i<256):A1 (tl t) i=t i:=by unfold A1;rw[cD t h];exact v8 _
theorem Jf (l:List Leaf) (t:Nat->UInt8) (h:l=tl t) (n:Nat):f4 prog 66 [.c (.agg l)] [] n (.c (.agg (tl (m8 (A1 l))))) [] 0:=by
 subst h
 have e:tl (m8 (A1 (tl t)))=tl (m8 t):=J4 fun i hi=>by unfold m8;rw[G5 t hi,G5 t (by omega)]
 rw[e];exact C66 t n
theorem mC {xs ys:List Leaf} {t u:Nat->UInt8} (hx:xs=tl t) (hy:ys=tl u):H4 prog 38 xs ys (m7 (A1 xs) (A1 ys)):=by
 subst hx hy
 have:m7 (A1 (tl t)) (A1 (tl u))=m7 t u:=by
  rw[Bool.eq_iff_iff,B1,B1]
  constructor
  ·intro h i hi;have:=h i hi;rwa [G5 t hi,G5 u hi] at this
  ·intro h i hi;rw[G5 t hi,G5 u hi];exact h i hi
 rw[this];exact c7v t u
def A6 (a b c e:UInt8):Nat->UInt8:=fun i=>match i % 4 with|0=>a|1=>b|2=>c|_=>e
theorem Fq (a b c e:UInt8) (k:Nat):[ub a,ub b,ub c,ub e]=[ub ((A6 a b c e) (4*k)),ub ((A6 a b c e) (4*k+1)),ub ((A6 a b c e) (4*k+2)),ub ((A6 a b c e) (4*k+3))]:=by
 have h0:4*k % 4=0:=by omega
 have h1:(4*k+1) % 4=1:=by omega
 have h2:(4*k+2) % 4=2:=by omega
 have h3:(4*k+3) % 4=3:=by omega
 unfold A6
 rw[h0,h1,h2,h3]
 rfl
def yE (a b c e:UInt8) (k:Nat):St:=⟨[(4,iv .i64 (k:Nat)),(1,.c (.l (.p 0 0))),(2,.c (.l (.p 1 0)))],[(0,some ⟨[ub a,ub b,ub c,ub e],.t 36⟩),(1,some ⟨tl (C4 k (A6 a b c e) zT),.t 38⟩)],2,12,[1,0],(0)⟩
def Wd (a b c e:UInt8) (k:Nat):Cz:={
 ct:=fun _=>none
 sym:=[0,9]}
theorem c3q (a b c e:UInt8) (k:Nat)  (K:Exit->St->Prop) (h:let d:=((k:Int));let f:=[l8 (a.toNat:Int),l8 (b.toNat:Int),l8 (c.toNat:Int),l8 (e.toNat:Int)];let g:=(0,some (j9 f 36));let i:=tl (C4 k (A6 a b c e) zT);HB (decide ((k:Int)<64)) (t0 d 64/\0+d.toNat*4+4<=256/\IntKind.i64.wrap ((k:Int)+1)=(k:Int)+1/\RoundTo prog (gl 2 Tryz.f146) 2 (wkK 2 K) (St.mk [(1,j7 0 0),(2,j7 1 0),(4,i8 ((k:Int)+1))] [g,(1,some (j9 (j4 i (0+d.toNat*4) f) 38))] 2 12 [1,1,0] 0)) (wkK 2 K (Exit.exit 0) (St.mk [(1,j7 0 0),(2,j7 1 0),(4,i8 (k:Int))] [g,(1,some (j9 i 38))] 2 12 [1,0] 0))):z4 prog (gl 2 Tryz.f146) (yE a b c e k) (wkK 2 K):=
 m5 [1,2,4] [0,1] (cx:=Wd a b c e k) rfl (u3 (by kernel_rfl) h)
theorem b8v (a b c e:UInt8)  : ∀(m k:Nat),64-k=m->k<=64->∀(K:Exit->St->Prop),K (.exit 0) (yE a b c e 64)->z4 prog (gl 2 Tryz.f146) (yE a b c e k) (wkK 2 K)
 |0,k,hm,hk,K,hK=>by
  have e:k=64:=by omega
  subst e
  refine c3q a b c e _ K (HB.no (by omega) ?_)
  exact wkK.tk (yE a b c e _) (by kernel_rfl) (N0.k (by kernel_rfl)) hK
 |m+1,k,hm,hk,K,hK=>by
  refine c3q a b c e k K (HB.yes (by omega) ?_)
  have hlt:k<64:=by omega
  with_reducible repeat' first|exact trivial|apply And.intro|apply HB.mk|intro _
  all_goals first|(exact ⟨by omega,by omega⟩)|rw[show (((k:Nat):Int)).toNat=k from rfl];omega|refine RoundTo.to (yE a b c e (k+1)) (Nat.le_refl _) (by kernel_rfl) (eD.k (by kernel_rfl)) (d5 (l6.k (by kernel_rfl)) (d5 (l6.blk (k:=⟨j4 (tl (C4 k (A6 a b c e) zT)) (0+k*4) [ub a,ub b,ub c,ub e],.t 38⟩) (by kernel_rfl) (by rw[Nat.zero_add,Fq a b c e k,M4 k _ _ hlt]) (by kernel_rfl)) trivial)) (b8v a b c e  m (k+1) (by omega) (by omega) K hK)|exact C2 _ (by omega) (by omega)
def a1o (a b c e:UInt8):Cz:={
 ct:=fun _=>none
 nf:=[(11,.c (.agg (tl (A6 a b c e))))],lp:=fun r=>match r with|2=>some (fun _ K=>K (.exit 0) (yE a b c e 64))|_=>none}
theorem c9e (a b c e:UInt8)  (n:Nat):f4 prog 146 [ag [ub a,ub b,ub c,ub e]] [] n (.c (.agg (tl (A6 a b c e)))) [] 0:=by
 refine v6 (q:=let d:=[l8 (a.toNat:Int),l8 (b.toNat:Int),l8 (c.toNat:Int),l8 (e.toNat:Int)];let f:=ag (tl (A6 a b c e));(l3 prog (gl 2 Tryz.f146) (St.mk [(4,i8 0),(2,j7 1 0),(1,j7 0 0),(0,ag d)] [(1,some (j9 o7 38)),(0,some (j9 d 36))] 2 12 [1,0] 0) fun K=>K (Exit.exit 0) (yE a b c e 64))/\Le (ag (List.take 256 (tl (C4 64 (A6 a b c e) zT)))) f/\Le f f/\True) (a1o a b c e) func146 n (by kernel_rfl) (by kernel_rfl) ?_
 with_reducible repeat' first|exact trivial|apply And.intro|apply HB.mk|intro _
 all_goals first|exact l3.tk (yE a b c e 0) (by kernel_rfl) (d5 (l6.k (by kernel_rfl)) (d5 (l6.blk (k:=⟨o7,.t 38⟩) (by kernel_rfl) (by rw[L7,q9]) (by kernel_rfl)) trivial)) (fun K hT=>b8v a b c e _ 0 rfl (by decide) K hT)|refine Le.of ?_;rw[T7];rfl|exact Le.of (by kernel_rfl)
theorem c0m (a b c e:UInt8) (n:Nat):f4 prog 146 [ag [ub a,ub b,ub c,ub e]] [] n (.c (.agg (tl (A6 (C9 (a.toNat:Nat)) (C9 (b.toNat:Nat)) (C9 (c.toNat:Nat)) (C9 (e.toNat:Nat)))))) [] 0:=by
 rw[v8,v8,v8,v8];exact c9e a b c e n
def n5 (t:Nat->UInt8):Bool:=m7 (m8 t) zT
theorem t7 (t:Nat->UInt8):List.take 256 (tl t)=tl t:=List.take_of_length_le (by rw[B8];exact Nat.le_refl _)
theorem Q0 {t t' u u':Nat->UInt8} (h:∀i,i<256->t i=t' i) (k:∀i,i<256->u i=u' i):m7 t u=m7 t' u':=by
 rw[Bool.eq_iff_iff,B1,B1]
 constructor
 ·intro q i hi;rw[<-h i hi,<-k i hi];exact q i hi
 ·intro q i hi;rw[h i hi,k i hi];exact q i hi
theorem cX (t:Nat->UInt8):tl (m8 (A1 (tl t)))=tl (m8 t):=J4 fun i hi=>by unfold m8;rw[G5 t hi,G5 t (by omega)]
theorem M8 (t u:Nat->UInt8):m7 (A1 (tl t)) (A1 (tl u))=m7 t u:=Q0 (fun i hi=>G5 t hi) (fun i hi=>G5 u hi)
theorem Jh (t:Nat->UInt8):m7 (A1 (tl t)) (A1 o7)=m7 t zT:=by rw[q9];exact M8 t zT
def a0l (t:Nat->UInt8):Cz:={
 ct:=(fun f=>match f with
 |66=>some fun _ _=>fun | [.c (.agg l)]=>some {v:=.c (.agg (tl (m8 (A1 l))))}|_=>none
 |_=>none)
 eq:=(fun t=>match t with
 |38=>some (fun xs ys=>m7 (A1 xs) (A1 ys))
 |_=>none)
 nf:=[(3,.c (.agg (tl t))),(4,.c (.agg (tl (m8 t)))),(5,.c (.agg o7)),(6,bv (n5 t))]}
theorem d2j (t:Nat->UInt8)  (n:Nat):f4 prog 108 [.c (.agg (tl t))] [] n (bv (n5 t)) [] 0:=by
 refine v6 (q:=let a:=ag (tl (m8 (A1 (tl t))));let b:=tl (m8 t);let c:=m7 (A1 b) (A1 o7);let d:=bv (n5 t);Le (ag (List.take 256 (tl t))) (ag (tl t))/\Kd 66 [] [ag (tl t)] [] 1 a [] 0/\Le a (ag b)/\Le (ag o7) (ag o7)/\H4 prog 38 b o7 c/\Le (bv c) d/\Le d d/\True) (a0l t) func108 n (by kernel_rfl) (by kernel_rfl) ?_
 with_reducible repeat' first|exact trivial|apply And.intro|apply HB.mk|intro _|exact Le.refl _
 all_goals first|exact Jf _ _ rfl _|exact mC rfl q9|exact Le.of (by rw[cX])|exact Le.bool (Jh _)|exact Le.of (by rw[t7])
theorem xA (l:List Leaf) (t:Nat->UInt8) (h:l=tl t) (n:Nat):f4 prog 108 [.c (.agg l)] [] n (bv (n5 (A1 l))) [] 0:=by
 subst h
 have e:n5 (A1 (tl t))=n5 t:=Q0 (fun i hi=>by unfold m8;rw[G5 t hi,G5 t (by omega)]) (fun i hi=>rfl)
 rw[e];exact d2j t n
def N2 (t:Nat->UInt8):Bool:=m7 t (A6 (t 0) (t 1) (t 2) (t 3))
def F4 (t:Nat->UInt8) (i:Nat):UInt8:=if N2 t=true then t i else 0
theorem Nm (t:Nat->UInt8):List.take 4 (tl t)=[ub (t 0),ub (t 1),ub (t 2),ub (t 3)]:=by have:=cE t (k:=0) (by decide);simpa [px] using this
end Ab
end
section
namespace Ab
def Leaf.ren (σ:Nat->Nat):Leaf->Leaf
 |.v x=>.v x
 |.p id off=>.p (σ id) off
 |.f fn caps=>.f fn (caps.map fun c=>(σ c.1,c.2))
 |.s id off len=>.s (σ id) off len
 |.o id len=>.o (σ id) len
 |.u=>.u
def Cp.ren (σ:Nat->Nat):Cp->Cp
 |.l x=>.l (x.ren σ)
 |.agg xs=>.agg (xs.map (Leaf.ren σ))
def SV.ren (σ:Nat->Nat):SV->SV
 |.u=>.u
 |.c x=>.c (x.ren σ)
 |.tup xs=>.tup (xs.map (Cp.ren σ))
 |.g b x=>.g b (x.ren σ)
def BT.ren (σ:Nat->Nat):BT->BT
 |.t n=>.t n
 |.r n sz id=>.r n sz (σ id)
 |.y n=>.y n
 |.e n=>.e n
 |.x=>.x
 |.q=>.q
def n6.ren (σ:Nat->Nat) (k:n6):n6:=⟨k.cs.map (Leaf.ren σ),k.ty.ren σ⟩
def Bt.of (β:Bt) (σ:Nat->Nat):Bt:=⟨fun i=>β (σ i),fun i=>β.c (σ i)⟩
theorem G2 {α β γ:Type} {R:γ->β->Prop} (f:α->γ):∀ {l:List α} {m:List β},r9 R (l.map f) m↔r9 (fun a b=>R (f a) b) l m
 |[],[]=>Iff.rfl
 |[],_::_=>Iff.rfl
 |_::_,[]=>Iff.rfl
 |a::l,b::m=>by simp only[List.map_cons,r9,G2 f (l:=l) (m:=m)]
theorem Q2 {α β:Type} {R S:α->β->Prop} (h:∀a b,R a b↔S a b):∀ {l:List α} {m:List β},r9 R l m↔r9 S l m
 |[],[]=>Iff.rfl
 |[],_::_=>Iff.rfl
 |_::_,[]=>Iff.rfl
 |a::l,b::m=>by simp only[r9,h,Q2 h (l:=l) (m:=m)]
section
variable {σ:Nat->Nat} {β:Bt}
theorem Leaf.ren_den (x:Leaf) (y:Value):(x.ren σ).den β y↔x.den (β.of σ) y:=by
 cases x with
 |v a=>exact Iff.rfl
 |p id off=>exact Iff.rfl
 |f fn caps=>
  simp only[Leaf.ren,Leaf.den]
  constructor
  ·rintro ⟨cs,h,e⟩;exact ⟨cs,(G2 _).1 h,e⟩
  ·rintro ⟨cs,h,e⟩;exact ⟨cs,(G2 _).2 h,e⟩
 |s id off len=>exact Iff.rfl
 |o id len=>exact Iff.rfl
 |u=>exact Iff.rfl
theorem Cp.ren_den (x:Cp) (y:Value):(x.ren σ).den β y↔x.den (β.of σ) y:=by
 cases x with
 |l a=>exact Leaf.ren_den a y
 |agg xs=>
  simp only[Cp.ren,Cp.den]
  constructor
  ·rintro ⟨ys,e,h⟩;exact ⟨ys,e,(Q2 fun a b=>Leaf.ren_den a b).1 ((G2 _).1 h)⟩
  ·rintro ⟨ys,e,h⟩;exact ⟨ys,e,(G2 _).2 ((Q2 fun a b=>Leaf.ren_den a b).2 h)⟩
theorem SV.ren_den (x:SV) (y:Value):(x.ren σ).den β y↔x.den (β.of σ) y:=by
 cases x with
 |u=>exact Iff.rfl
 |c a=>exact Cp.ren_den a y
 |tup xs=>
  simp only[SV.ren,SV.den]
  constructor
  ·rintro ⟨ys,e,h⟩;exact ⟨ys,e,(Q2 fun a b=>Cp.ren_den a b).1 ((G2 _).1 h)⟩
  ·rintro ⟨ys,e,h⟩;exact ⟨ys,e,(G2 _).2 ((Q2 fun a b=>Cp.ren_den a b).2 h)⟩
 |g b a=>simp only[SV.ren,SV.den,Cp.ren_den]
theorem BT.ren_ty (t:BT):(t.ren σ).ty=t.ty/\((t.ren σ=.x↔t=.x)/\(t.ren σ=.q↔t=.q))/\(∀l m,(t.ren σ).room β l m↔t.room (β.of σ) l m)/\∀m,(t.ren σ).fr m=t.fr m:=by
 cases t with
 |t n=>exact ⟨rfl,⟨⟨fun h=>(by cases h),fun h=>(by cases h)⟩,⟨fun h=>(by cases h),fun h=>(by cases h)⟩⟩,fun _ _=>Iff.rfl,fun _=>rfl⟩
 |e n=>exact ⟨rfl,⟨⟨fun h=>(by cases h),fun h=>(by cases h)⟩,⟨fun h=>(by cases h),fun h=>(by cases h)⟩⟩,fun _ _=>Iff.rfl,fun _=>rfl⟩
 |r n sz id=>exact ⟨rfl,⟨⟨fun h=>(by cases h),fun h=>(by cases h)⟩,⟨fun h=>(by cases h),fun h=>(by cases h)⟩⟩,fun _ _=>Iff.rfl,fun _=>rfl⟩
 |y n=>exact ⟨rfl,⟨⟨fun h=>(by cases h),fun h=>(by cases h)⟩,⟨fun h=>(by cases h),fun h=>(by cases h)⟩⟩,fun _ _=>Iff.rfl,fun _=>rfl⟩
 |q=>exact ⟨rfl,⟨⟨fun h=>(by cases h),fun h=>(by cases h)⟩,Iff.rfl⟩,fun _ _=>Iff.rfl,fun _=>rfl⟩
 |x=>exact ⟨rfl,⟨Iff.rfl,⟨fun h=>(by cases h),fun h=>(by cases h)⟩⟩,fun _ _=>Iff.rfl,fun _=>rfl⟩
theorem n6.ren_at {x:World} {b:Nat} (k:n6):y9 β x b (k.ren σ)↔y9 (β.of σ) x b k:=by
 obtain ⟨q1,q2,q3,q4⟩:=BT.ren_ty (σ:=σ) (β:=β) k.ty
 unfold y9 n6.ren
 simp only[q1,q2.1,q2.2,q3,q4,List.map_eq_nil_iff]
 refine or_congr (or_congr Iff.rfl (and_congr Iff.rfl ?_)) ?_
 ·unfold QC
  constructor
  ·intro h i l hl
   rcases h i (l.ren σ) (by rw[List.getElem?_map,hl];rfl) with h1|⟨y,h1,h2⟩
   ·left;cases l<;>simp_all [Leaf.ren]
   ·exact .inr ⟨y,h1,(Leaf.ren_den l y).1 h2⟩
  ·intro h i l hl
   rw[List.getElem?_map,Option.map_eq_some_iff] at hl
   obtain ⟨z,hz,rfl⟩:=hl
   rcases h i z hz with h1|⟨y,h1,h2⟩
   ·left;rw[h1];rfl
   ·exact .inr ⟨y,h1,(Leaf.ren_den z y).2 h2⟩
 constructor
 ·rintro ⟨ys,zs,h1,h2,h3⟩;exact ⟨ys,zs,h1,(Q2 fun a b=>Leaf.ren_den a b).1 ((G2 _).1 h2),h3⟩
 ·rintro ⟨ys,zs,h1,h2,h3⟩;exact ⟨ys,zs,h1,(G2 _).2 ((Q2 fun a b=>Leaf.ren_den a b).2 h2),h3⟩
end
theorem sE {α γ:Type} {σ:Nat->Nat} (hi:∀i j,σ i=σ j->i=j) (f:α->γ):∀(l:List (Nat×α)) (i:Nat),lk (l.map fun p=>(σ p.1,f p.2)) (σ i)=(lk l i).map f
 |[],i=>rfl
 |(k,v)::l,i=>by
  by_cases e:k=i
  ·subst e;rw[List.map_cons,o5,o5];rfl
  ·rw[List.map_cons,t6 _ _ (fun h=>e (hi _ _ h)),t6 _ _ e];exact sE hi f l i
theorem rD {α γ:Type} {σ:Nat->Nat} (f:α->γ):∀(l:List (Nat×α)) (j:Nat) (k:γ),lk (l.map fun p=>(σ p.1,f p.2)) j=some k->∃i,σ i=j
 |[],j,k,h=>by cases h
 |(a,v)::l,j,k,h=>by
  by_cases e:σ a=j
  ·exact ⟨a,e⟩
  ·rw[List.map_cons,t6 _ _ e] at h;exact rD f l j k h
theorem j8.ren {P:Program} {f:Nat} {dc:List (Nat×Nat×Bool)} {args:List SV} {H:List (Nat×n6)} {n:Nat} {v:SV} {wr:List (Nat×n6)} {nw:Nat} (h:j8 P f dc args H n v wr nw) (σ:Nat->Nat) (n':Nat)
  (hlo:∀i,i<n->σ i<n') (hhi:∀i,n<=i->σ i=n'+(i-n)) (hin:∀i j,i<n->j<n->σ i=σ j->i=j) :
  j8 P f (dc.map fun p=>(σ p.1,p.2)) (args.map (SV.ren σ)) (H.map fun p=>(σ p.1,p.2.ren σ)) n' (v.ren σ) (wr.map fun p=>(σ p.1,p.2.ren σ)) nw:=by
 have hi:∀i j,σ i=σ j->i=j:=by
  intro i j e
  by_cases h1:i<n
  ·by_cases h2:j<n
   ·exact hin i j h1 h2 e
   ·have:=hlo i h1;have:=hhi j (by omega);omega
  ·by_cases h2:j<n
   ·have:=hlo j h2;have:=hhi i (by omega);omega
   ·have:=hhi i (by omega);have:=hhi j (by omega);omega
 refine ⟨h.1,fun β x vals ha hinj hlt hnew hH hdc=>?_⟩
 have key:=h.2 (β.of σ) x vals ((Q2 fun a b=>SV.ren_den a b).1 ((G2 _).1 ha)) (fun i j b h1 h2=>hi _ _ (hinj _ _ b h1 h2)) (fun i b h1=>hlt _ b h1)
  (fun id h1 h2=>hnew (σ id) (by rw[hhi id h1];omega) (by rw[hhi id h1];omega))
  (fun id b k h1 h2=>(n6.ren_at k).1 (hH (σ id) b (k.ren σ) h1 (by rw[sE hi (n6.ren σ),h2];rfl))) (fun p hp w hv=>hdc (σ p.1,p.2) (List.mem_map.2 ⟨p,hp,rfl⟩) w hv)
 refine key.mono ?_
 rintro e x' ⟨y,β₂,rfl,hD⟩
 have hE:∀i b,β i=some b->¬(n'<=i/\i<n'+nw):=fun i b h1 ⟨h2,h3⟩=>by rw[(hnew i h2 h3).1] at h1;cases h1
 have hEc:∀i b,β.c i=some b->¬(n'<=i/\i<n'+nw):=fun i b h1 ⟨h2,h3⟩=>by rw[(hnew i h2 h3).2] at h1;cases h1
 obtain ⟨β₃,hβ₃⟩:∃g:Bt,g=⟨fun j=>if n'<=j/\j<n'+nw then β₂ (n+(j-n')) else β j,fun j=>if n'<=j/\j<n'+nw then β₂.c (n+(j-n')) else β.c j⟩:=⟨_,rfl⟩
 have v3:∀j,β₃ j=if n'<=j/\j<n'+nw then β₂ (n+(j-n')) else β j:=fun j=>by rw[hβ₃]
 have w3:∀j,β₃.c j=if n'<=j/\j<n'+nw then β₂.c (n+(j-n')) else β.c j:=fun j=>by rw[hβ₃]
 have hX:Ext β₂ (β₃.of σ):=by
  refine ⟨fun i b hb=>?_,fun i b hb=>?_⟩
  ·rcases hD.new i b hb with h1|⟨h1,h2,h3⟩
   ·show β₃ (σ i)=_
    rw[v3,if_neg (hE _ _ h1)];exact h1
   ·show β₃ (σ i)=_
    have e:=hhi i h1
    rw[v3,if_pos ⟨by omega,by omega⟩,show n+(σ i-n')=i by omega];exact hb
  ·rcases hD.newc i b hb with h1|⟨h1,h2⟩
   ·show β₃.c (σ i)=_
    rw[w3,if_neg (hEc _ _ h1)];exact h1
   ·show β₃.c (σ i)=_
    have e:=hhi i h1
    rw[w3,if_pos ⟨by omega,by omega⟩,show n+(σ i-n')=i by omega];exact hb
 refine ⟨y,β₃,rfl,⟨(SV.ren_den v y).2 (SV.ext hX hD.den),⟨?_,?_⟩,?_,?_,?_,?_,hD.os,hD.tape,hD.output,hD.size,?_,?_⟩⟩
 ·intro i b hb
  rw[v3,if_neg (hE i b hb)];exact hb
 ·intro i b hb
  rw[w3,if_neg (hEc i b hb)];exact hb
 ·intro i b hb
  rw[v3] at hb
  split at hb
  ·rename_i hr
   rcases hD.new _ b hb with h1|⟨h1,h2,h3⟩
   ·exfalso
    have e:=hhi (n+(i-n')) (by omega)
    rw[show n'+(n+(i-n')-n)=i by omega] at e
    have h1:β (σ (n+(i-n')))=some b:=h1
    rw[e] at h1
    exact hE i b h1 hr
   ·exact .inr ⟨hr.1,hr.2,h3⟩
  ·exact .inl hb
 ·intro i b hb
  rw[w3] at hb
  split at hb
  ·rename_i hr
   exact .inr hr
  ·exact .inl hb
 ·intro i j b hb hc
  rw[v3] at hb hc
  split at hb
  ·rename_i hr
   split at hc
   ·rename_i hs
    have:=hD.inj _ _ b hb hc
    omega
   ·rename_i hs
    exfalso
    rcases hD.new _ b hb with h1|⟨h1,h2,h3⟩
    ·have e:=hhi (n+(i-n')) (by omega)
     rw[show n'+(n+(i-n')-n)=i by omega] at e
     have h1:β (σ (n+(i-n')))=some b:=h1
     rw[e] at h1
     exact hE i b h1 hr
    ·have:=hlt j b hc;omega
  ·rename_i hr
   split at hc
   ·rename_i hs
    exfalso
    rcases hD.new _ b hc with h1|⟨h1,h2,h3⟩
    ·have e:=hhi (n+(j-n')) (by omega)
     rw[show n'+(n+(j-n')-n)=j by omega] at e
     have h1:β (σ (n+(j-n')))=some b:=h1
     rw[e] at h1
     exact hE j b h1 hs
    ·have:=hlt i b hb;omega
   ·exact hinj i j b hb hc
 ·intro i b hb
  rw[v3] at hb
  split at hb
  ·exact hD.lt _ b hb
  ·exact Nat.lt_of_lt_of_le (hlt i b hb) hD.size
 ·intro k hk hne
  refine hD.keep k hk fun id hb=>?_
  have:=hne (σ id) hb
  rw[sE hi (n6.ren σ)] at this
  cases hq:lk wr id with
  |none=>rfl
  |some q=>rw[hq] at this;cases this
 ·intro i b k hb hk
  obtain ⟨id,rfl⟩:=rD (n6.ren σ) wr i k hk
  rw[sE hi (n6.ren σ)] at hk
  cases hq:lk wr id with
  |none=>rw[hq] at hk;cases hk
  |some q=>
   rw[hq] at hk
   simp only[Option.map_some,Option.some.injEq] at hk
   subst hk
   have hb2:β₂ id=some b:=by
    rw[v3] at hb
    split at hb
    ·rename_i hr
     have hge:n<=id:=by
      rcases Nat.lt_or_ge id n with h1|h1
      ·have:=hlo id h1;omega
      ·exact h1
     have e:=hhi id hge
     rw[show n+(σ id-n')=id by omega] at hb
     exact hb
    ·exact hD.ext.b id b hb
   refine (n6.ren_at q).2 ?_
   exact (hD.blk id b q hb2 hq).ext hX rfl
theorem f4.ren {P:Program} {f:Nat} {args:List SV} {H:List (Nat×n6)} {n:Nat} {v:SV} {wr:List (Nat×n6)} {nw:Nat} (h:f4 P f args H n v wr nw) (σ:Nat->Nat) (n':Nat)
  (hlo:∀i,i<n->σ i<n') (hhi:∀i,n<=i->σ i=n'+(i-n)) (hin:∀i j,i<n->j<n->σ i=σ j->i=j) :
  f4 P f (args.map (SV.ren σ)) (H.map fun p=>(σ p.1,p.2.ren σ)) n' (v.ren σ) (wr.map fun p=>(σ p.1,p.2.ren σ)) nw:=j8.ren h σ n' hlo hhi hin
end Ab
end
section
namespace Ab
def Wj:Cz:={
  ct:=fun _=>none
   }
theorem c7h (x:Int)  (n:Nat):f4 prog 179 [iv .i64 x] [] n (bv false) [] 0:=by
 refine v6 (q:=Le (bv (x != x)) (bv false)/\True) (Wj) func179 n (by kernel_rfl) (by kernel_rfl) ?_
 with_reducible repeat' first|exact trivial|apply And.intro|apply HB.mk|intro _
 all_goals first|exact Le.bool (by simp)
def qE (x y:Int):Int:=bif decide (x<y) then -1 else bif decide (x>y) then 1 else 0
def orI (a b:Int):Int:=bif a != 0 then a else bif b != 0 then b else 0
def Zt:Cz:={
  ct:=(fun f=>match f with
  |179=>some fun _ _=>fun | [.c (.l (.v (.int _ x)))]=>some {v:=bv false}|_=>none
  | _ => none)
   }
theorem d2l (x y:Int)  (n:Nat):f4 prog 144 [iv .i64 x,iv .i64 y] [] n (iv .i64 (qE x y)) [] 0:=by
 refine v6 (q:=let a:=i8 (qE x y);Kd 179 [] [i8 x] [] 0 (bv false) [] 0/\Kd 179 [] [i8 y] [] 0 (bv false) [] 0/\HB (decide (x<y)) (Le (i8 (-1)) a/\True) (HB (decide (x>y)) (Le (i8 1) a/\True) (Le (i8 0) a/\True))) (Zt) func144 n (by kernel_rfl) (by kernel_rfl) ?_
 with_reducible repeat' first|exact trivial|apply And.intro|apply HB.mk|intro _
 all_goals first|with_reducible exact c7h _ _|refine Le.int ?_;unfold qE;simp only[‹decide (x<y)=_›,cond_true,cond_false];done|refine Le.int ?_;unfold qE;simp only[‹decide (x<y)=_›,‹decide (x>y)=_›,cond_true,cond_false];done
def Xe:Cz:={
 ct:=fun _=>none
 un:=3}
theorem c8d (a b:Int)  : f4 prog 143 [.c (.l (.o 2 2))] [(2,⟨[li a,li b],.r 3 1 2⟩)] 3 (iv .i64 (orI a b)) [] ([]:List Nat).length:=by
 refine E3 (q:=let c:=i8 (orI a b);HB (a != 0) (Le (i8 a) c/\True) (IntKind.i64.wrap (0+1)=0+1/\HB (b != 0) (Le (i8 b) c/\True) (IntKind.i64.wrap (0+1+1)=0+1+1/\Le (i8 0) c/\True))) (Xe) [] func143 (by kernel_rfl) (by kernel_rfl) ?_
 with_reducible repeat' first|exact trivial|apply And.intro|apply HB.mk|intro _
 all_goals first|refine Le.int ?_;unfold orI;simp only[‹(a != 0)=_›,cond_true,cond_false];done|refine Le.int ?_;unfold orI;simp only[‹(a != 0)=_›,‹(b != 0)=_›,cond_true,cond_false];done|exact C2 _ (by omega) (by omega)
def d1b (S:St) (i:Nat):SV:=match S.blk i with|some ⟨[.v (.int _ a),.v (.int _ b)],_⟩=>iv .i64 (orI a b)|_=>.u
def zI (ax ay bx by_:Int):Int:=orI (qE ay by_) (qE ax bx)
def Vj:Cz:={
  ct:=(fun f=>match f with
  |143=>some fun _ _S=>fun | [.c (.l (.o i _))]=>some {v:=d1b _S i,rd:=[i]}|_=>none
  |144=>some fun _ _=>fun | [.c (.l (.v (.int _ x))),.c (.l (.v (.int _ y)))]=>some {v:=iv .i64 (qE x y)}|_=>none
  | _ => none)
   }
theorem c9w (ax ay bx by_:Int)  (n:Nat):f4 prog 109 [ag [li ax,li ay],ag [li bx,li by_]] [] n (iv .i64 (zI ax ay bx by_)) [] 0:=by
 refine v6 (q:=let a:=qE ay by_;let b:=qE ax bx;Kd 144 [] [i8 ay,i8 by_] [] 2 (i8 a) [] 0/\Kd 144 [] [i8 ax,i8 bx] [] 2 (i8 b) [] 0/\Kd 143 [] [l4 (Leaf.o 2 2)] [(2,o8 [li a,li b] 3 1 2)] 3 (i8 (orI a b)) [] 0/\Le (i8 (orI a b)) (i8 (zI ax ay bx by_))/\True) (Vj) func109 n (by kernel_rfl) (by kernel_rfl) ?_
 with_reducible repeat' first|exact trivial|apply And.intro|apply HB.mk|intro _
 all_goals first|exact c8d _ _|with_reducible exact d2l _ _ _|exact Le.of rfl
def tV (x y:Int):Bool:=decide (-8192<=x/\x<=8191/\-8192<=y/\y<=8191)
theorem Rf (x y:Int):(bif (bif (bif decide (x>=-8192) then decide (x<=8191) else false) then decide (y>=-8192) else false) then decide (y<=8191) else false)=tV x y:=by
 unfold tV
 by_cases h1:x>=-8192<;>by_cases h2:x<=8191<;>by_cases h3:y>=-8192<;>by_cases h4:y<=8191<;>simp[h1,h2,h3,h4]<;>omega
theorem b1r {ax ay bx by_:Int} (h:ay<by_\/(ay=by_/\ax<bx)):zI ax ay bx by_<0:=by
 unfold zI orI qE
 rcases h with h|⟨h1,h2⟩
 ·simp[h]
 ·subst h1;simp[h2]
def Zz:Cz:={
  ct:=fun _=>none
   }
theorem c9v (x y:Int)  (n:Nat):f4 prog 107 [ag [li x,li y]] [] n (bv (tV x y)) [] 0:=by
 refine v6 (q:=let a:=x>=-8192;let b:=decide a=true->decide a=true/\True;let c:=x<=8191;let d:=bif decide a then decide c else false;let e:=d=true->d=true/\True;let f:=bif bif decide a then decide c else false then decide (y>=-8192) else false;let g:=f=true->f=true/\True;b/\b/\(decide a=true->decide a=true)/\e/\e/\(d=true->d=true)/\g/\g/\(f=true->f=true)/\Le (bv (bif bif bif decide a then decide c else false then decide (y>=-8192) else false then decide (y<=8191) else false)) (bv (tV x y))/\True) (Zz) func107 n (by kernel_rfl) (by kernel_rfl) ?_
 with_reducible repeat' first|exact trivial|apply And.intro|apply HB.mk|intro _
 all_goals first|assumption|exact Le.bool (Rf x y)
end Ab
end
section
namespace Ab
structure TA where
 X:Int
 Y:Int
 t:Nat->UInt8
def el (e:TA):List Leaf:=li e.X::li e.Y::tl e.t
def n8 (l:List TA):List Leaf:=(l.map el).flatten
def TA.z:TA:=⟨0,0,zT⟩
def r8 (l:List TA) (k:Nat):TA:=l.getD k TA.z
def A8:List Leaf:=li 0::li 0::List.replicate 256 (.v (.int .u8 0))
theorem dS (e:TA):(el e).length=258:=by simp[el,B8]
theorem a8l:A8.length=258:=by kernel_rfl
theorem C6:∀l:List TA,(n8 l).length=258*l.length
 |[]=>rfl
 |e::l=>by
  have:=C6 l
  simp only[n8,List.map_cons,List.flatten_cons,List.length_append,dS,List.length_cons] at *
  omega
theorem gG:∀(l:List TA) (k:Nat),k<l.length->∃m,(n8 l).drop (k*258)=el (r8 l k)++m
 |[],k,h=>by simp at h
 |e::l,0,h=>⟨n8 l,by simp[n8,r8]⟩
 |e::l,k+1,h=>by
  obtain ⟨m,hm⟩:=gG l k (by simpa using h)
  refine ⟨m,?_⟩
  have:(n8 (e::l)).drop ((k+1)*258)=(n8 l).drop (k*258):=by
   simp only[n8,List.map_cons,List.flatten_cons]
   rw[List.drop_append,List.drop_eq_nil_of_le (by rw[dS];omega),List.nil_append,dS,show (k+1)*258-258=k*258 by omega]
  rw[this,hm]
  rfl
theorem iY {l:List TA} {k:Nat} (h:k<l.length):List.take 258 (List.drop (k*258) (n8 l))=el (r8 l k):=by
 obtain ⟨m,hm⟩:=gG l k h
 rw[hm,List.take_append_of_le_length (by rw[dS];exact Nat.le_refl _),List.take_of_length_le (by rw[dS];exact Nat.le_refl _)]
theorem lW {l:List TA} {k:Nat} (h:k<l.length):List.take 2 (List.drop (k*258) (n8 l))=[li (r8 l k).X,li (r8 l k).Y]:=by
 obtain ⟨m,hm⟩:=gG l k h
 rw[hm];rfl
theorem bQ:∀(m z:List Leaf) (p:List Leaf),z.length=m.length->j4 (p++z) p.length m=p++m
 |[],z,p,h=>by
  have:z=[]:=List.eq_nil_of_length_eq_zero h
  subst this;rfl
 |a::m,b::z,p,h=>by
  have:=bQ m z (p++[a]) (by simpa using h)
  rw[j4,List.set_append_right _ _ (Nat.le_refl _),Nat.sub_self,List.set_cons_zero]
  simpa using this
 |a::m,[],p,h=>by simp at h
theorem eP {m z:List Leaf} (h:z.length=m.length):j4 z 0 m=m:=bQ m z [] h
theorem L2 (e:TA):j4 A8 0 (el e)=el e:=eP (by rw[a8l,dS])
theorem I0 (ρ:Nat->Option Nat):∀l:List Leaf,(∀x∈l,∃v,x=.v v)->W5 ρ l=some l
 |[],_=>rfl
 |x::l,h=>by
  obtain ⟨v,rfl⟩:=h x (by simp)
  simp[W5,Leaf.rn,I0 ρ l fun y hy=>h y (by simp[hy])]
theorem mY (t:Nat->UInt8):∀x∈tl t,∃v,x=.v v:=by
 intro x hx
 simp only[tl,List.mem_map] at hx
 obtain ⟨i,_,rfl⟩:=hx
 exact ⟨_,rfl⟩
theorem rR (l:List TA):∀x∈n8 l,∃v,x=.v v:=by
 intro x hx
 simp only[n8,List.mem_flatten,List.mem_map] at hx
 obtain ⟨m,⟨e,_,rfl⟩,hx⟩:=hx
 simp only[el,List.mem_cons] at hx
 rcases hx with rfl|rfl|hx
 ·exact ⟨_,rfl⟩
 ·exact ⟨_,rfl⟩
 ·exact mY _ x hx
theorem a6f (ρ:Nat->Option Nat) (l:List TA):W5 ρ (n8 l)=some (n8 l):=I0 ρ _ (rR l)
theorem lJ (n:Nat) (l:List TA) {t:BT} (h:(t.rn (x8 n 0 [])).isSome=true):L4 n ⟨n8 l,t⟩=true:=by
 unfold L4;rw[a6f,h];rfl
structure Good (l:List TA):Prop where
 len:l.length<=1024
 inn:∀k,k<l.length->tV (r8 l k).X (r8 l k).Y=true
 nz:∀k,k<l.length->n5 (r8 l k).t=false
 cl:∀k,k<l.length->m7 (m8 (r8 l k).t) (r8 l k).t=true
 ord:∀k,k+1<l.length->(r8 l k).Y<(r8 l (k+1)).Y\/((r8 l k).Y=(r8 l (k+1)).Y/\(r8 l k).X<(r8 l (k+1)).X)
end Ab
end
section
namespace Ab
def I46 (l:List TA) (k:Nat):St:=⟨[(12,iv .i64 (k:Nat)),(11,iv .i64 (l.length:Nat)),(10,.c (.l (.o 0 l.length))),(1,.c (.l (.p 1 0)))],[(0,some ⟨n8 l,.r 42 258 0⟩),(1,some ⟨[.o 0 l.length],.t 26⟩)],2,52,[2,1],(1)⟩
theorem tn (k:Nat):((k:Nat):Int).toNat=k:=rfl
theorem nO {k:Nat} (h:0<k):(((k:Nat):Int)-1).toNat=k-1:=by omega
theorem Gv {l:List TA} (hg:Good l) {k:Nat} (hk:k<l.length) (h:0<k):zI (r8 l (k-1)).X (r8 l (k-1)).Y (r8 l k).X (r8 l k).Y<0:=by
 have:=hg.ord (k-1) (by omega)
 rw[show k-1+1=k by omega] at this
 exact b1r this
theorem gk {k:Nat} (h:(!false&&decide (((k:Nat):Int)>0))=true):0<k:=by
 simp at h;omega
def rw1:Rw:=some fun _ _=>fun | [.c (.agg [.v (.int _ ax),.v (.int _ ay)])]=>some {v:=bv (tV ax ay)}|_=>none
def rw2:Rw:=some fun _ _=>fun | [.c (.agg [.v (.int _ ax),.v (.int _ ay)]),.c (.agg [.v (.int _ cx),.v (.int _ cy)])]=>some {v:=iv .i64 (zI ax ay cx cy)}|_=>none
def b0u (l:List TA) (k:Nat):Cz:={
 ct:=(fun f=>match f with
 |66=>some fun _ _=>fun | [.c (.agg l)]=>some {v:=.c (.agg (tl (m8 (A1 l))))}|_=>none
 |107=>rw1
 |108=>some fun _ _=>fun | [.c (.agg l)]=>some {v:=bv (n5 (A1 l))}|_=>none
 |109=>rw2
 |_=>none)
 eq:=(fun t=>match t with
 |38=>some (fun xs ys=>m7 (A1 xs) (A1 ys))
 |_=>none)
 sym:=[15,16,42,44],nf:=[(16,.c (.agg (el (r8 l k)))),(18,.c (.agg [li (r8 l k).X,li (r8 l k).Y])),(20,bv false),(23,.c (.agg (tl (r8 l k).t))),(24,bv false),(25,bv false),(28,.c (.agg (tl (r8 l k).t))),(29,.c (.agg (tl (m8 (r8 l k).t)))),(31,.c (.agg (tl (r8 l k).t))),(32,bv false),(33,bv false),(44,.c (.agg [li (r8 l (k-1)).X,li (r8 l (k-1)).Y])),(46,.c (.agg [li (r8 l k).X,li (r8 l k).Y])),(48,bv false),(49,bv false),(50,bv false)]}
theorem R46 (l:List TA) (k:Nat)  (K:Exit->St->Prop) (h:let a:=(l.length:Int);let b:=((k:Int));let d:=o8 (n8 l) 42 258 0;let e:=r8 l k;let f:=j4 A8 0 (el e);let g:=ag (List.take 2 (List.drop 0 f));let i:=[li e.X,li e.Y];let j:=bv false;let m:=tl e.t;let n:=true=true->true=true/\Le (ag (List.take 256 (List.drop 2 f))) (ag m)/\True;let q:=A1 m;let s:=false=false->true=true;let ud:=ag (tl (m8 q));let v:=tl (m8 e.t);let w:=true=true->true=true/\True;let x:=((k:Int)>0);let y:=decide x;let z:=y=true->y=true/\True;let A:=((k:Int)-1);let B:=r8 l (k-1);let C:=[li B.X,li B.Y];let D:=(10,l4 (Leaf.o 0 l.length));let E:=[(0,some d),(1,some (j9 [Leaf.o 0 l.length] 26))];HB (decide ((k:Int)<a)) (t0 b l.length/\b.toNat*258+258<=d.cs.length/\Le (ag (List.take 258 (List.drop (b.toNat*258) (n8 l)))) (ag (el e))/\Le g (ag i)/\Kd 107 [] [ag i] [] 3 (bv (tV e.X e.Y)) [] 0/\Le (bv !tV e.X e.Y) j/\n/\(true=true->true=true/\Kd 108 [] [ag m] [] 3 (bv (n5 q)) [] 0/\Le (bv (n5 q)) j/\True)/\s/\Le j j/\n/\(true=true->true=true/\Kd 66 [] [ag m] [] 3 ud [] 0/\Le ud (ag v)/\True)/\n/\(true=true->true=true/\true=true/\H4 prog 38 v m (m7 (A1 v) q)/\Le (bv !m7 (A1 v) q) j/\True)/\s/\Le j j/\w/\w/\z/\(y=true->y=true/\IntKind.i64.wrap A=(k:Int)-1/\True)/\(y=true->y=true/\y=true/\t0 A l.length/\True)/\z/\(y=true->y=true/\A.toNat*258+0+2<=d.cs.length/\Le (ag (List.take 2 (List.drop (A.toNat*258+0) (n8 l)))) (ag C)/\True)/\(y=true->y=true/\Le g (ag i)/\True)/\(y=true->y=true/\y=true/\Kd 109 [] [ag C,ag i] [] 3 (i8 (zI B.X B.Y e.X e.Y)) [] 0/\True)/\(y=true->y=true/\Le (bv (decide (zI B.X B.Y e.X e.Y>=0))) j/\True)/\(true=true->true=true/\(decide x=true->y=true)/\Le (bv (bif decide x then false else false)) j/\True)/\s/\Le j j/\IntKind.i64.wrap ((k:Int)+1)=(k:Int)+1/\RoundTo prog (gl 4 Tryz.f46) 2 (wkK 2 K) (St.mk [(1,j7 1 0),D,(11,i8 a),(12,i8 ((k:Int)+1))] E 3 52 [2,2,2,1] 1)) (wkK 2 K (Exit.exit 0) (St.mk [(1,j7 1 0),D,(11,i8 a),(12,i8 (k:Int))] E 2 52 [2,1] 1))):z4 prog (gl 4 Tryz.f46) (I46 l k) (wkK 2 K):=
 m5 [1,10,11,12] [0,1] (cx:=b0u l k) rfl (u3 (by kernel_rfl) h)
theorem L46 (l:List TA) (hg:Good l):∀(m k:Nat),l.length-k=m->k<=l.length->∀(K:Exit->St->Prop),K (.exit 0) (I46 l l.length)->z4 prog (gl 4 Tryz.f46) (I46 l k) (wkK 2 K)
 |0,k,hm,hk,K,hK=>by
  have e:k=l.length:=by omega
  subst e
  refine R46 l _ K (HB.no (by omega) ?_)
  exact wkK.tk (I46 l _) (by kernel_rfl) (d5 (l6.blk (k:=⟨n8 l,.r 42 258 0⟩) (by kernel_rfl) rfl (lJ _ _ rfl)) (N0.k (by kernel_rfl))) hK
 |m+1,k,hm,hk,K,hK=>by
  refine R46 l k K (HB.yes (by omega) ?_)
  have hlt:k<l.length:=by omega
  have hlen:=hg.len
  with_reducible repeat' first|exact trivial|apply And.intro|apply HB.mk|intro _
  all_goals first|assumption|exact Jf _ _ rfl _|with_reducible exact c9v _ _ _|exact xA _ _ rfl _|with_reducible exact c9w _ _ _ _ _|(exact ⟨by omega,by omega⟩)|(exact ⟨by have:=gk ‹_›;omega,by omega⟩)|rw[C6,tn];omega|have:=gk ‹_›;rw[C6,nO this];omega|refine Le.of ?_;simp only[tn,Nat.zero_add,Nat.add_zero];rw[iY hlt]|refine Le.of ?_;rw[L2];rfl|have:=gk ‹_›;refine Le.of ?_;simp only[nO this,Nat.zero_add,Nat.add_zero];rw[lW (by omega)]|exact Le.bool (by rw[hg.inn k hlt];rfl)|refine Le.bool ?_;rw[show n5 (A1 (tl (r8 l k).t))=n5 (r8 l k).t from Q0 (fun i hi=>by unfold m8;rw[G5 _ hi,G5 _ (by omega)]) (fun i hi=>rfl),hg.nz k hlt]|exact Le.bool rfl|exact Le.of (by rw[cX])|exact mC rfl rfl|exact Le.bool (by rw[M8,hg.cl k hlt];rfl)|have:=gk ‹_›;exact C2 _ (by omega) (by omega)|refine Le.bool (decide_eq_false ?_);have h1:=Gv hg hlt (gk ‹_›);omega|refine Le.bool ?_;cases decide (((k:Nat):Int)>0)<;>rfl|refine RoundTo.to (I46 l (k+1)) (Nat.le_refl _) (by kernel_rfl) (eD.k (by kernel_rfl)) (d5 (l6.blk (k:=⟨n8 l,.r 42 258 0⟩) (by kernel_rfl) rfl (lJ _ _ rfl)) (N0.k (by kernel_rfl))) (L46 l hg m (k+1) (by omega) (by omega) K hK)|exact C2 _ (by omega) (by omega)|simp only[*,Bool.and_self,Bool.not_false,Bool.not_true];done
theorem vZ:j6 prog 46:=fun args w=>by go_simp
def b0o (l:List TA):Cz:={
 ct:=(fun f=>match f with
 |66=>some fun _ _=>fun | [.c (.agg l)]=>some {v:=.c (.agg (tl (m8 (A1 l))))}|_=>none
 |107=>rw1
 |108=>some fun _ _=>fun | [.c (.agg l)]=>some {v:=bv (n5 (A1 l))}|_=>none
 |109=>rw2
 |_=>none)
 eq:=(fun t=>match t with
 |38=>some (fun xs ys=>m7 (A1 xs) (A1 ys))
 |_=>none)
 nf:=[(8,bv false)],lp:=fun r=>match r with|4=>some (fun _ K=>K (.exit 0) (I46 l l.length))|_=>none}
theorem C46 (l:List TA) (hg:Good l):f4 prog 46 [.c (.agg [.o 0 l.length])] [(0,⟨n8 l,.r 42 258 0⟩)] 1 (bv true) [] ([]:List Nat).length:=by
 have hlen:=hg.len
 refine lY (cx:=b0o l) (nm:=[]) rfl func46 (body:=Tryz.f46.body.getD .skip) rfl vZ (by unfold Q8;simp only[List.all_cons,List.all_nil,lJ _ _ (show (BT.rn (x8 1 0 []) (.r 42 258 0)).isSome=true from rfl),Bool.and_true,Bool.true_and];kernel_rfl) ?_
 apply u3 (q:=let a:=(l.length:Int);let b:=Leaf.o 0 l.length;let d:=[Leaf.o 0 l.length];Le (bv (decide (a>1024))) (bv false)/\(l3 prog (gl 4 Tryz.f46) (St.mk [(12,i8 0),(11,i8 a),(10,l4 b),(9,j7 1 0),(8,bv false),(7,i8 a),(6,l4 b),(5,j7 1 0),(2,bv false),(1,j7 1 0),(0,ag d)] [(1,some (j9 d 26)),(0,some (o8 (n8 l) 42 258 0))] 2 52 [1] 1) fun K=>K (Exit.exit 0) (I46 l l.length))/\Le (bv true) (bv true)/\True) (by kernel_rfl)
 with_reducible repeat' first|exact trivial|apply And.intro|apply HB.mk|intro _|exact Le.refl _
 all_goals first|exact l3.tk (I46 l 0) (by kernel_rfl) (d5 (l6.blk (k:=⟨n8 l,.r 42 258 0⟩) (by kernel_rfl) rfl (lJ _ _ rfl)) (N0.k (by kernel_rfl))) (fun K hT=>L46 l hg _ 0 rfl (Nat.zero_le _) K hT)|refine Le.bool (decide_eq_false ?_);omega
end Ab
end
section
namespace Cod
section
namespace M
structure St where
 p:Nat->Int
 lo:Int
 hi:Int
def put (f:Nat->Int) (i:Nat) (v:Int):Nat->Int:=fun k=>if k=i then v else f k
structure Ok (s:St):Prop where
 p:∀c,31<=s.p c/\s.p c<=4065
 lo:0<=s.lo
 le:s.lo<=s.hi
 hi:s.hi<=4294967295
 ne:s.lo / 16777216≠s.hi / 16777216
def start:St:=⟨fun _=>2048,0,4294967295⟩
theorem cG:Ok start:=⟨fun _=>⟨by show (31:Int)<=2048;decide,by show (2048:Int)<=4065;decide⟩,by decide,by decide,by decide,by decide⟩
def md (s:St) (c:Nat):Int:=s.lo+(s.hi-s.lo) / 4096*s.p c
theorem Ok.lt {s:St} (h:Ok s):s.lo<s.hi:=by
 have:=h.le
 have:=h.ne
 rcases Int.lt_or_eq_of_le h.le with h1|h1
 ·exact h1
 ·exact absurd (by rw[h1]) h.ne
theorem Pw {s:St} (h:Ok s) (c:Nat):0<=(s.hi-s.lo) / 4096*s.p c/\(s.hi-s.lo) / 4096*s.p c<s.hi-s.lo:=by
 have h1:=h.lt
 obtain ⟨p1,p2⟩:=h.p c
 have q0:0<=(s.hi-s.lo) / 4096:=Int.ediv_nonneg (by omega) (by omega)
 have q1:4096*((s.hi-s.lo) / 4096)<=s.hi-s.lo:=Int.mul_ediv_self_le (by omega)
 generalize (s.hi-s.lo) / 4096=q at *
 have a1:0<=q*s.p c:=Int.mul_nonneg q0 (by omega)
 have a2:q*s.p c<=q*4065:=Int.mul_le_mul_of_nonneg_left p2 q0
 exact ⟨a1,by omega⟩
theorem Ds {s:St} (h:Ok s) (c:Nat):s.lo<=md s c/\md s c<s.hi:=by
 have:=Pw h c
 unfold md;omega
def np (x:Int) (b:Int):Int:=if b=1 then x+(4096-x) / 32 else x-x / 32
theorem Es {x:Int} (h:31<=x/\x<=4065) (b:Int):31<=np x b/\np x b<=4065:=by
 unfold np;split<;>omega
def Tx (l:Int):UInt8:=UInt8.ofNat (l / 16777216).toNat
theorem uI {l:Int} (h0:0<=l) (h1:l<=4294967295):((Tx l).toNat:Int)=l / 16777216:=by
 unfold Tx
 have:(l / 16777216).toNat<256:=by omega
 rw[UInt8.toNat_ofNat']
 rw[Nat.mod_eq_of_lt (by simpa using this)]
 omega
def N5:Nat->Int->Int->List UInt8×Int×Int
 |0,l,h=>([],l,h)
 |f+1,l,h=>if l / 16777216=h / 16777216 then (Tx l::(N5 f (l*256 % 4294967296) ((h*256+255) % 4294967296)).1,(N5 f (l*256 % 4294967296) ((h*256+255) % 4294967296)).2) else ([],l,h)
theorem mM (f:Nat) (l h:Int) (e:l / 16777216=h / 16777216):N5 (f+1) l h=(Tx l::(N5 f (l*256 % 4294967296) ((h*256+255) % 4294967296)).1,(N5 f (l*256 % 4294967296) ((h*256+255) % 4294967296)).2):=by
 rw[N5,if_pos e]
theorem nK (f:Nat) (l h:Int) (e:l / 16777216≠h / 16777216):N5 f l h=([],l,h):=by
 cases f with
 |zero=>rfl
 |succ f=>rw[N5,if_neg e]
def Cg (f:Nat) (l h:Int):Prop:=
 match f with
 |0=>l % 4294967296=0/\h % 4294967296=4294967295
 |1=>l % 16777216=0/\h % 16777216=16777215
 |2=>l % 65536=0/\h % 65536=65535
 |3=>l % 256=0/\h % 256=255
 |_=>True
structure Iv (f:Nat) (l h:Int):Prop where
 bd:f<=4
 lo:0<=l
 le:l<=h
 hi:h<=4294967295
 cg:Cg f l h
theorem Iv.next {f:Nat} {l h:Int} (i:Iv (f+1) l h) (e:l / 16777216=h / 16777216):Iv f (l*256 % 4294967296) ((h*256+255) % 4294967296):=by
 obtain ⟨h1,h2,h3,h4,h5⟩:=i
 refine ⟨by omega,by omega,by omega,by omega,?_⟩
 obtain rfl|rfl|rfl|rfl:f=0\/f=1\/f=2\/f=3:=by omega
 all_goals (simp only[Cg] at h5⊢)
 ·omega
 ·omega
 ·omega
 ·omega
theorem Iv.stop {l h:Int} (i:Iv 0 l h):l / 16777216≠h / 16777216:=by
 obtain ⟨h1,h2,h3,h4,h5⟩:=i
 simp only[Cg] at h5
 omega
theorem Ql:∀(f:Nat) (l h:Int),Iv f l h->0<=(N5 f l h).2.1/\(N5 f l h).2.1<=(N5 f l h).2.2/\(N5 f l h).2.2<=4294967295/\(N5 f l h).2.1 / 16777216≠(N5 f l h).2.2 / 16777216
 |0,l,h,i=>⟨i.lo,i.le,i.hi,i.stop⟩
 |f+1,l,h,i=>by
  by_cases e:l / 16777216=h / 16777216
  ·rw[mM f l h e]
   exact Ql f _ _ (i.next e)
  ·rw[nK _ l h e]
   exact ⟨i.lo,i.le,i.hi,e⟩
def jY (s:St) (c:Nat) (b:Int):Int:=if b=1 then s.lo else md s c+1
def jF (s:St) (c:Nat) (b:Int):Int:=if b=1 then md s c else s.hi
theorem iv1 {s:St} (h:Ok s) (c:Nat) (b:Int):Iv 4 (jY s c b) (jF s c b):=by
 have:=Ds h c
 have:=h.lo
 have:=h.hi
 unfold jY jF
 refine ⟨by omega,?_,?_,?_,trivial⟩<;>split<;>omega
def M2 (s:St) (c:Nat) (b:Int):List UInt8:=(N5 4 (jY s c b) (jF s c b)).1
def nxt (s:St) (c:Nat) (b:Int):St:=⟨put s.p c (np (s.p c) b),(N5 4 (jY s c b) (jF s c b)).2.1,(N5 4 (jY s c b) (jF s c b)).2.2⟩
theorem nF {s:St} (h:Ok s) (c:Nat) (b:Int):Ok (nxt s c b):=by
 obtain ⟨h1,h2,h3,h4⟩:=Ql 4 _ _ (iv1 h c b)
 refine ⟨fun k=>?_,h1,h2,h3,h4⟩
 show 31<=put s.p c (np (s.p c) b) k/\put s.p c (np (s.p c) b) k<=4065
 unfold put
 split
 ·exact Es (h.p c) b
 ·exact h.p k
theorem En:∀(f:Nat) (l h:Int),(N5 f l h).1.length<=f
 |0,_,_=>Nat.le_refl _
 |f+1,l,h=>by
  by_cases e:l / 16777216=h / 16777216
  ·rw[mM f l h e]
   have:=En f (l*256 % 4294967296) ((h*256+255) % 4294967296)
   simp;omega
  ·rw[nK _ l h e];simp
theorem fP (s:St) (c:Nat) (b:Int):(M2 s c b).length<=4:=En 4 _ _
def r8 (F:List UInt8) (n:Nat):Int:=((F.getD n 0).toNat:Nat)
def val (F:List UInt8) (n:Nat):Int:=r8 F n*16777216+r8 F (n+1)*65536+r8 F (n+2)*256+r8 F (n+3)
theorem P5 (F:List UInt8) (n:Nat):0<=r8 F n/\r8 F n<=255:=by
 unfold r8
 have:=(F.getD n 0).toNat_lt
 omega
theorem a8h (F:List UInt8) (n:Nat):0<=val F n/\val F n<=4294967295:=by
 have:=P5 F n
 have:=P5 F (n+1)
 have:=P5 F (n+2)
 have:=P5 F (n+3)
 unfold val;omega
theorem Pe (F:List UInt8) (n:Nat):val F (n+1)=val F n*256 % 4294967296+r8 F (n+4):=by
 have:=P5 F n
 have:=P5 F (n+1)
 have:=P5 F (n+2)
 have:=P5 F (n+3)
 have:=P5 F (n+4)
 unfold val
 simp only[Nat.add_assoc,Nat.reduceAdd]
 omega
def rb (s:St) (c:Nat) (v:Int):Int:=if v<=md s c then 1 else 0
def bI:St->List (Nat×Int)->St
 |s,[]=>s
 |s,x::l=>bI (nxt s x.1 x.2) l
def X6:St->List (Nat×Int)->List UInt8
 |_,[]=>[]
 |s,x::l=>M2 s x.1 x.2++X6 (nxt s x.1 x.2) l
theorem Q1:∀(l m:List (Nat×Int)) (s:St),bI s (l++m)=bI (bI s l) m
 |[],_,_=>rfl
 |x::l,m,s=>Q1 l m _
theorem P8:∀(l m:List (Nat×Int)) (s:St),X6 s (l++m)=X6 s l++X6 (bI s l) m
 |[],_,_=>rfl
 |x::l,m,s=>by
  show M2 s x.1 x.2++X6 _ (l++m)=_
  rw[P8 l m]
  show _=(M2 s x.1 x.2++X6 _ l)++_
  rw[List.append_assoc];rfl
theorem T3:∀(l:List (Nat×Int)) (s:St),(X6 s l).length<=4*l.length
 |[],_=>Nat.le_refl _
 |x::l,s=>by
  show (M2 s x.1 x.2++X6 _ l).length<=_
  have:=T3 l (nxt s x.1 x.2)
  have:=fP s x.1 x.2
  simp;omega
def Ag (x:Int):List UInt8:=[UInt8.ofNat (x / 16777216).toNat,UInt8.ofNat (x / 65536).toNat,UInt8.ofNat (x / 256).toNat,UInt8.ofNat x.toNat]
theorem O1 (n:Nat):((UInt8.ofNat n).toNat:Int)=(n:Int) % 256:=by
 rw[UInt8.toNat_ofNat'];omega
def J2 (x:Nat) (j:Nat):Nat×Int:=((256+x) / 2 ^ (8-j),((x / 2 ^ (7-j) % 2:Nat):Int))
def bD (x:UInt8):List (Nat×Int):=(List.range 8).map (J2 x.toNat)
def A9 (s:List UInt8):List (Nat×Int):=s.flatMap bD
def Ot (l:List (Nat×Int)):List UInt8:=X6 start l++Ag (bI start l).lo
def enc (s:List UInt8):List UInt8:=Ot (A9 s)
theorem gZ (x j:Nat):(J2 x j).2=0\/(J2 x j).2=1:=by unfold J2;dsimp only;omega
theorem nA (s t:List UInt8):A9 (s++t)=A9 s++A9 t:=List.flatMap_append
theorem V6 (s:List UInt8):(A9 s).length=8*s.length:=by
 induction s with
 |nil=>rfl
 |cons x s ih=>show (bD x++A9 s).length=_;rw[List.length_append,ih];simp[bD];omega
def Z3 (F:List UInt8):Nat->Nat->St->Nat->Nat×St×Nat
 |0,c,s,n=>(c,s,n)
 |k+1,c,s,n=>Z3 F k (2*c+(rb s c (val F n)).toNat) (nxt s c (rb s c (val F n))) (n+(M2 s c (rb s c (val F n))).length)
def V1 (F:List UInt8):Nat->St->Nat->List UInt8×St×Nat
 |0,s,n=>([],s,n)
 |k+1,s,n=>
  let r:=Z3 F 8 1 s n
  let q:=V1 F k r.2.1 r.2.2
  (UInt8.ofNat r.1::q.1,q.2)
def X7 (F:List UInt8) (n:Nat):List UInt8:=(V1 F n start 0).1
theorem gF (F:List UInt8):∀(k:Nat) (s:St) (n:Nat),(V1 F k s n).1.length=k
 |0,_,_=>rfl
 |k+1,s,n=>by show (_::(V1 F k _ _).1).length=k+1;rw[List.length_cons,gF F k]
end M
end
section
namespace M
theorem Sz (l:List (Nat×Int)):(Ot l).length=(X6 start l).length+4:=by
 unfold Ot;rw[List.length_append];rfl
theorem a3p (l:List (Nat×Int)):(Ot l).length<=4*l.length+4:=by
 rw[Sz];have:=T3 l start;omega
theorem b3m (s:List UInt8):(enc s).length<=32*s.length+4:=by
 have:=a3p (A9 s)
 rw[V6] at this
 show (Ot _).length<=_;omega
end M
end
section
namespace M
def stp (F:List UInt8) (x:Nat×St×Nat):Nat×St×Nat:=
 (2*x.1+(rb x.2.1 x.1 (val F x.2.2)).toNat,nxt x.2.1 x.1 (rb x.2.1 x.1 (val F x.2.2)),x.2.2+(M2 x.2.1 x.1 (rb x.2.1 x.1 (val F x.2.2))).length)
theorem bV (F:List UInt8):∀(k:Nat) (c:Nat) (s:St) (n:Nat),Z3 F (k+1) c s n=stp F (Z3 F k c s n)
 |0,c,s,n=>rfl
 |k+1,c,s,n=>bV F k _ _ _
theorem rJ (s:St) (c:Nat) (v:Int):rb s c v=0\/rb s c v=1:=by unfold rb;split<;>simp
theorem oQ (F:List UInt8) (s:St) (n:Nat) (hs:Ok s):∀k,2 ^ k<=(Z3 F k 1 s n).1/\(Z3 F k 1 s n).1<2 ^ (k+1)/\Ok (Z3 F k 1 s n).2.1/\(Z3 F k 1 s n).2.2<=n+4*k
 |0=>⟨Nat.le_refl 1,(by decide:1<2 ^ 1),hs,Nat.le_refl _⟩
 |k+1=>by
  obtain ⟨h1,h2,h3,h4⟩:=oQ F s n hs k
  rw[bV]
  generalize Z3 F k 1 s n=x at *
  have hb:=rJ x.2.1 x.1 (val F x.2.2)
  have ho:=fP x.2.1 x.1 (rb x.2.1 x.1 (val F x.2.2))
  have e1:2 ^ (k+1)=2*2 ^ k:=by rw[Nat.pow_succ,Nat.mul_comm]
  have e2:2 ^ (k+1+1)=2*2 ^ (k+1):=by rw[Nat.pow_succ 2 (k+1),Nat.mul_comm]
  refine ⟨?_,?_,nF h3 _ _,?_⟩
  ·show 2 ^ (k+1)<=2*x.1+(rb _ _ _).toNat
   omega
  ·show 2*x.1+(rb _ _ _).toNat<2 ^ (k+1+1)
   omega
  ·show x.2.2+(M2 _ _ _).length<=_
   omega
theorem oW (F:List UInt8) (k:Nat) (s:St) (n:Nat):V1 F (k+1) s n=(UInt8.ofNat (Z3 F 8 1 s n).1::(V1 F k (Z3 F 8 1 s n).2.1 (Z3 F 8 1 s n).2.2).1,(V1 F k (Z3 F 8 1 s n).2.1 (Z3 F 8 1 s n).2.2).2):=by
 rw[V1]
theorem wU (F:List UInt8) (s:St) (n:Nat):V1 F 0 s n=([],s,n):=by rw[V1]
theorem fB (F:List UInt8):∀(k:Nat) (s:St) (n:Nat),V1 F (k+1) s n=((V1 F k s n).1++[UInt8.ofNat (Z3 F 8 1 (V1 F k s n).2.1 (V1 F k s n).2.2).1],(Z3 F 8 1 (V1 F k s n).2.1 (V1 F k s n).2.2).2)
 |0,s,n=>by
  rw[oW]
  simp only[wU,List.nil_append]
 |k+1,s,n=>by
  rw[oW,fB F k,oW F k]
  simp only[List.cons_append]
theorem Bx (F:List UInt8):∀k,Ok (V1 F k start 0).2.1/\(V1 F k start 0).2.2<=32*k
 |0=>⟨cG,Nat.le_refl _⟩
 |k+1=>by
  obtain ⟨h1,h2⟩:=Bx F k
  rw[fB]
  have:=oQ F (V1 F k start 0).2.1 (V1 F k start 0).2.2 h1 8
  exact ⟨this.2.2.1,by have:=this.2.2.2;dsimp only;omega⟩
def B3 (c k:Nat):Nat:=(c-2 ^ k)*2 ^ (8-k)
theorem Ph (c k b:Nat) (hk:k<8) (h1:2 ^ k<=c) (h2:c<2 ^ (k+1)) (hb:b<=1):B3 (2*c+b) (k+1)=B3 c k+b*2 ^ (7-k)/\B3 c k ||| (b*2 ^ (7-k))=B3 c k+b*2 ^ (7-k)/\B3 c k<256/\b*2 ^ (7-k)<256:=by
 have e1:2 ^ (8-k)=2*2 ^ (7-k):=by rw[show 8-k=7-k+1 by omega,Nat.pow_succ,Nat.mul_comm]
 have e2:2 ^ (k+1)=2*2 ^ k:=by rw[Nat.pow_succ,Nat.mul_comm]
 have e3:2 ^ k*2 ^ (8-k)=256:=by rw[<-Nat.pow_add,show k+(8-k)=8 by omega]
 have e4:b*2 ^ (7-k)<=1*2 ^ (7-k):=Nat.mul_le_mul_right _ hb
 have hp:0<2 ^ (7-k):=Nat.pow_pos (by decide)
 have hpk:0<2 ^ k:=Nat.pow_pos (by decide)
 refine ⟨?_,?_,?_,?_⟩
 ·unfold B3
  rw[show 8-(k+1)=7-k by omega,e1,e2,show 2*c+b-2*2 ^ k=2*(c-2 ^ k)+b by omega,Nat.add_mul,Nat.mul_assoc,Nat.mul_left_comm]
 ·have h:=Nat.shiftLeft_add_eq_or_of_lt (show b*2 ^ (7-k)<2 ^ (8-k) by rw[e1];omega) (c-2 ^ k)
  rw[Nat.shiftLeft_eq] at h
  exact h.symm
 ·unfold B3
  calc (c-2 ^ k)*2 ^ (8-k)<2 ^ k*2 ^ (8-k):=Nat.mul_lt_mul_of_pos_right (by omega) (Nat.pow_pos (by decide))
   _=256:=e3
 ·have:2 ^ (7-k)<=2 ^ 7:=Nat.pow_le_pow_right (by decide) (by omega)
  omega
theorem Xk (c:Nat) (h1:256<=c) (h2:c<512):B3 c 8=(UInt8.ofNat c).toNat:=by
 unfold B3
 rw[UInt8.toNat_ofNat']
 simp only[Nat.sub_self,Nat.pow_zero,Nat.mul_one,Nat.reducePow]
 omega
end M
end
end Cod
end
end Go.Proofs.YtpdckpifhniioaaGreat
