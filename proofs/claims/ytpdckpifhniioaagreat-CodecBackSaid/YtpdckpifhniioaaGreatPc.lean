/- Part 3 of what CodecBack rests on. -/
import Derived.Test.YtpdckpifhniioaaGreatProg
import Derived.WalkKit
import Derived.WalkLawsBesides
import Derived.WalkSpells
import Derived.Lib.Hide
import Derived.Laws.IdiomStrings
import Derived.Deep.WholeRow
import Derived.Deep.QuietTactic
import Derived.BigQuiet
import Derived.Lib.QuoteBits
section
set_option linter.unusedVariables false
set_option linter.unusedSimpArgs false
namespace Go.Proofs.YtpdckpifhniioaaGreat.Oct
open Go.RowKit
open Go.Proofs.YtpdckpifhniioaaGreat
theorem ret_int {k:IntKind} {a b:Int} (h:a=b):Ending.returned (.int k a)=.returned (.int k b):=by rw[h]
theorem ret_str {a b:ByteArray} (h:a=b):Ending.returned (.string a)=.returned (.string b):=by rw[h]
def bcells (l:List UInt8):Array Value:=(l.map fun b=>Value.int .u8 (b.toNat:Int)).toArray
theorem bcells_at (l:List UInt8) (i:Nat) (h:i<l.length):(bcells l)[i]? = some (.int .u8 (l[i].toNat:Int)):=by
 simp[bcells,List.getElem?_eq_getElem h]
section
variable {P:Program}
theorem conv_row (w:World) (src dst e:TypeId) (hs:P.underlying src=some (.slice e)) (he:P.underlying e=some (.int .u8)) (hd:P.underlying dst=some .string)
  (g:Nat) (t:TypeId) (fr:Nat×Nat) (C:Array Value) (hg:w.heap[g]? = some (.cells C t fr)) (k n cap:Nat) (l:List UInt8) (hn:l.length=n)
  (hl:∀j (h:j<l.length),C[k+j]? = some (.int .u8 (l[j].toNat:Int))) :
  (convert src dst (.slice (some ⟨g,k,none⟩) n cap)).run P w=.ok (.string ⟨l.toArray⟩) w:=by
 subst hn
 refine run_convert_bytes_back w src dst e _ cap l hs he hd fun j hj=>?_
 have:(⟨g,k,none⟩:Addr).add j=⟨g,k+j,none⟩:=by unfold Addr.add;split<;>simp_all
 rw[this]
 unfold World.cell?
 rw[hg]
 simpa using hl j hj
end
def bvals (l:List UInt8):List Value:=l.map fun b=>Value.int .u8 (b.toNat:Int)
theorem bvals_length (l:List UInt8):(bvals l).length=l.length:=by simp[bvals]
theorem bvals_append (l m:List UInt8):bvals (l++m)=bvals l++bvals m:=by simp[bvals]
section
variable {P:Program}
theorem wp_push {ops:Array Oper} {rest:List Oper} {o:Oper} {a:Act} {Q:Exit→Act→World→Prop} (w:World) (hgd:o.guard=none) (s x:Operand) (t e:TypeId)
  (ho:o.op=.call {callee:=.builtin .append,args:=#[s,x],argTypes:=#[t,t]}) (ht:P.underlying t=some (.slice e))
  (z:Value) (bytes:Nat) (hinfo:(P.info? e).map (fun i=>(i.zero,i.size,i.bytes))=some (some z,1,bytes)) (hz:z.cells.size=1)
  (base:Nat) (v:Value) (n:Nat) (xs:List Value) (hs:a.eval s=v) (hown:w.ownsRow base e 1 v n xs)
  (u:Value) (fr:Nat×Nat) (hx:a.eval x=.slice (some ⟨w.heap.size,0,none⟩) 1 1) (hu:u.oneCell'=true)
  (hlen:n+1≤1000000000) (hby:bytes≤64) (hbase:base≤w.heap.size)
  (h:∀v' w',w'.ownsRow base e 1 v' (n+1) (xs++[u])→v'≠.slice none 0 0→Below base w w'→w.heap.size<w'.heap.size→wpList P ops Q rest (a.put o.dst v') w') :
  wpList P ops Q (o::rest) a (w.alloc (.cells #[u] e fr)):=by
 obtain ⟨i0,hi,hz0,hz1,hz2⟩:=info_parts hinfo
 refine wpList_append_own _ hgd s x t ho base e i0 z 1 bytes ht hi hz0 hz1 hz2 hz (by decide) v n xs hs (hown.alloc _) ⟨w.heap.size,0,none⟩ 1 1 [u] hx rfl ?_ ?_ ?_ ?_ ?_ ?_
 ·intro j u' hj
  match j,hj with
  |0,hj=>
   simp at hj
   subst hj
   have:(⟨w.heap.size,0,none⟩:Addr).add 0=⟨w.heap.size,0,none⟩:=by unfold Addr.add;split<;>simp_all
   rw[this,World.cell?_alloc_mark];rfl
 ·intro u' h'
  simp at h'
  subst h';exact hu
 ·unfold maxLen;omega
 ·exact Nat.le_trans (Nat.mul_le_mul hlen hby) (by omega)
 ·rw[World.size_alloc];omega
 ·intro v' w' hown' hg hnil
  have hsz:=hg.size
  rw[World.size_alloc] at hsz
  refine h v' w' hown' (fun hv=>by have:=(hnil.1 hv).2;omega) ?_ (by omega)
  refine ((Below.refl base w).alloc hbase _).grown hg (by rw[World.size_alloc];omega) fun k hk=>?_
  exact (hown.lt k hk).1
theorem conv_own (w:World) (src dst e:TypeId) (hs:P.underlying src=some (.slice e)) (he:P.underlying e=some (.int .u8)) (hd:P.underlying dst=some .string)
  (base:Nat) (v:Value) (n:Nat) (l:List UInt8) (hown:w.ownsRow base e 1 v n (bvals l)):(convert src dst v).run P w=.ok (.string ⟨l.toArray⟩) w:=by
 have hl:l.length=n:=by have:=hown.1;rw[bvals_length] at this;omega
 rcases hown.2 with ⟨rfl,h0⟩|⟨g,cap,cur,rfl,_,hg,hnc,_,hsz,htk⟩
 ·subst h0
  have:l=[]:=List.eq_nil_of_length_eq_zero hl
  subst this
  rw[run_convert_bytes_string w src dst e none 0 0 hs he hd]
  simp[Conv.bytesToString]
  rfl
 ·refine conv_row w src dst e hs he hd g e _ cur hg 0 n cap l hl fun j hj=>?_
  have h1:(cur.toList.take (n*1))[j]? = (bvals l)[j]?:=by rw[htk]
  rw[List.getElem?_take,if_pos (by omega)] at h1
  rw[Nat.zero_add,←Array.getElem?_toList,h1]
  simp[bvals,List.getElem?_eq_getElem hj]
end
def u64 (n:Int):Nat:=(n % 18446744073709551616).toNat
theorem u64_eq (n:Int):IntKind.u64.wrap n=((u64 n:Nat):Int):=by rw[IntKind.wrap_u64];unfold u64;omega
theorem u64_lt (n:Int):u64 n<18446744073709551616:=by unfold u64;omega
theorem str_toList (l:List UInt8):(⟨l.toArray⟩:ByteArray).toList=l:=by
 rw[ByteArray.toList_eq]
theorem str_append (l m:List UInt8):(⟨l.toArray⟩:ByteArray)++⟨m.toArray⟩=⟨(l++m).toArray⟩:=by
 apply ByteArray.ext;simp
theorem str_mk (s:ByteArray):(⟨s.data.toList.toArray⟩:ByteArray)=s:=by
 apply ByteArray.ext;simp
namespace M
def be:Nat→Nat→List UInt8
 |0,_=>[]
 |k+1,u=>UInt8.ofNat (u / 256 ^ k)::be k u
theorem be_length (k u:Nat):(be k u).length=k:=by
 induction k with
 |zero=>rfl
 |succ k ih=>simp[be,ih]
theorem be_snoc (k u:Nat):be (k+1) u=be k (u / 256)++[UInt8.ofNat u]:=by
 induction k with
 |zero=>simp[be]
 |succ k ih=>
  rw[be,ih]
  simp only[be,List.cons_append]
  rw[Nat.div_div_eq_div_mul,Nat.pow_succ,Nat.mul_comm]
theorem be_drop (k j u:Nat):(be (k+j) u).drop k=be j u:=by
 induction k with
 |zero=>simp
 |succ k ih=>rw[Nat.add_right_comm,be,List.drop_succ_cons,ih]
def leb (u:Nat):List UInt8:=if u<128 then [UInt8.ofNat u] else UInt8.ofNat (u % 128+128)::leb (u / 128)
termination_by u
decreasing_by omega
theorem leb_small (u:Nat) (h:u<128):leb u=[UInt8.ofNat u]:=by rw[leb,if_pos h]
theorem leb_large (u:Nat) (h:¬u<128):leb u=UInt8.ofNat (u % 128+128)::leb (u / 128):=by rw[leb,if_neg h]
def cnt (u:Nat):Nat:=if u=0 then 0 else 1+cnt (u / 128)
termination_by u
decreasing_by omega
theorem cnt_zero:cnt 0=0:=by rw[cnt,if_pos rfl]
theorem cnt_pos (u:Nat) (h:0<u):cnt u=1+cnt (u / 128):=by rw[cnt,if_neg (by omega)]
theorem leb_length (u:Nat):(leb u).length=1+cnt (u / 128):=by
 induction u using Nat.strongRecOn with
 |_ u ih=>
  by_cases h:u<128
  ·rw[leb_small u h,Nat.div_eq_of_lt h,cnt_zero];rfl
  ·rw[leb_large u h,List.length_cons,ih (u / 128) (by omega),cnt_pos (u / 128) (by omega)];omega
theorem cnt_le (k u:Nat) (h:u<128 ^ k):cnt u≤k:=by
  induction k generalizing u with
  | zero => have : u = 0 := by simpa using h
            subst this;rw[cnt_zero];omega
  | succ k ih =>
    by_cases h0:u=0
    · subst h0;rw[cnt_zero];omega
    · rw [cnt_pos u (by omega)]
      have:=ih (u / 128) (by rw[Nat.pow_succ] at h;omega)
      omega
theorem leb_le (u:Nat) (h:u<18446744073709551616):(leb u).length≤10:=by
 rw[leb_length]
 have:=cnt_le 9 (u / 128) (by omega)
 omega
theorem leb_pos (u:Nat):0<(leb u).length:=by rw[leb_length];omega
def poly:Nat:=3988292384
def step (c:Nat):Nat:=(c >>> 1) ^^^ (if c % 2=1 then poly else 0)
def steps:Nat→Nat→Nat
 |0,c=>c
 |n+1,c=>steps n (step c)
def crcB (c b:Nat):Nat:=steps 8 (c ^^^ b)
def crcL:Nat→List UInt8→Nat
 |c,[]=>c
 |c,b::l=>crcL (crcB c b.toNat) l
def sum (l:List UInt8):Nat:=4294967295-crcL 4294967295 l
theorem shr1 (c:Nat):c >>> 1=c / 2:=by rw[Nat.shiftRight_eq_div_pow]
theorem step_lin (a b:Nat):step (a ^^^ b)=step a ^^^ step b:=by
 unfold step
 rw[Nat.shiftRight_xor_distrib]
 have e:(a ^^^ b) % 2=(a+b) % 2:=by
  have:=Nat.xor_mod_two_eq_one (a:=a) (b:=b)
  omega
 rcases Nat.mod_two_eq_zero_or_one a with ha|ha<;>rcases Nat.mod_two_eq_zero_or_one b with hb|hb
 ·rw[if_neg (by omega),if_neg (by omega),if_neg (by omega)];simp
 ·rw[if_pos (by omega),if_neg (by omega),if_pos (by omega)];simp[Nat.xor_assoc]
 ·rw[if_pos (by omega),if_pos (by omega),if_neg (by omega)]
  simp only[Nat.xor_zero];rw[Nat.xor_assoc,Nat.xor_assoc,Nat.xor_comm (b >>> 1) poly]
 ·rw[if_neg (by omega),if_pos (by omega),if_pos (by omega)]
  have:(a >>> 1 ^^^ poly) ^^^ (b >>> 1 ^^^ poly)=(a >>> 1 ^^^ b >>> 1) ^^^ (poly ^^^ poly):=by
   rw[Nat.xor_assoc,Nat.xor_assoc,←Nat.xor_assoc poly,Nat.xor_comm poly (b >>> 1),Nat.xor_assoc]
  rw[this,Nat.xor_self]
theorem steps_lin (n a b:Nat):steps n (a ^^^ b)=steps n a ^^^ steps n b:=by
 induction n generalizing a b with
 |zero=>rfl
 |succ n ih=>rw[steps,steps,steps,step_lin,ih]
theorem steps_shl (n b:Nat):steps n (b <<< n)=b:=by
 induction n with
 |zero=>simp[steps]
 |succ n ih=>
  rw[steps]
  have:step (b <<< (n+1))=b <<< n:=by
   unfold step
   have h0:b <<< (n+1)=2*(b <<< n):=by rw[Nat.shiftLeft_succ]
   rw[h0,if_neg (by omega),shr1]
   simp
  rw[this,ih]
theorem step_lt (c:Nat) (h:c<4294967296):step c<4294967296:=by
 unfold step
 have h1:c >>> 1<2 ^ 32:=by rw[shr1];omega
 have h2:(if c % 2=1 then poly else 0)<2 ^ 32:=by unfold poly;split<;>omega
 exact Nat.xor_lt_two_pow h1 h2
theorem steps_lt (n c:Nat) (h:c<4294967296):steps n c<4294967296:=by
 induction n generalizing c with
 |zero=>exact h
 |succ n ih=>exact ih _ (step_lt c h)
theorem xor_lt32 {a b:Nat} (ha:a<4294967296) (hb:b<4294967296):a ^^^ b<4294967296:=
 Nat.xor_lt_two_pow (n:=32) ha hb
theorem crcB_lt (c b:Nat) (hc:c<4294967296) (hb:b<256):crcB c b<4294967296:=
 steps_lt 8 _ (xor_lt32 hc (by omega))
theorem crcL_append (l m:List UInt8):∀c,crcL c (l++m)=crcL (crcL c l) m:=by
 induction l with
 |nil=>intro c;rfl
 |cons b l ih=>intro c;exact ih _
theorem split8 (c:Nat):c=(c % 256) ^^^ ((c >>> 8) <<< 8):=by
 apply Nat.eq_of_testBit_eq
 intro i
 rw[Nat.testBit_xor,Nat.testBit_shiftLeft,Nat.testBit_shiftRight,show (256:Nat)=2 ^ 8 from rfl,Nat.testBit_mod_two_pow]
 by_cases h:i<8
 ·simp[h,show ¬(8≤i) by omega]
 ·simp[h,show 8≤i by omega,show 8+(i-8)=i by omega]
theorem crcB_table (c b:Nat):crcB c b=steps 8 ((c % 256) ^^^ b) ^^^ (c >>> 8):=by
 unfold crcB
 conv=>lhs;rw[split8 c]
 rw[Nat.xor_assoc,Nat.xor_comm _ b,←Nat.xor_assoc,steps_lin,steps_shl]
end M
def sz (n:Int):Nat:=(max 0 (min n 8)).toNat
theorem sz_le (n:Int):sz n≤8:=by unfold sz;omega
theorem size_any (n:Int) (w:World) :
  Calls Tryz.prog 116 #[.int .i64 n] w fun e w'=>e=.returned (.int .i64 (sz n))∧w=w':=by
 go_enter Tryz.func116,Tryz.ntmps116
 go_wp2
 all_goals
  go_ret
  exact ⟨ret_int (by unfold sz;split at *<;>omega),rfl⟩
theorem be8_cells (u:Nat) (h:u<18446744073709551616) :
  #[Value.int .u8 ((u:Int) / 72057594037927936),.int .u8 ((u:Int) / 281474976710656 % 256),.int .u8 ((u:Int) / 1099511627776 % 256),
   .int .u8 ((u:Int) / 4294967296 % 256),.int .u8 ((u:Int) / 16777216 % 256),.int .u8 ((u:Int) / 65536 % 256),.int .u8 ((u:Int) / 256 % 256),.int .u8 ((u:Int) % 256)]=bcells (M.be 8 u):=by
 have e:(u:Int) / 72057594037927936=(u:Int) / 72057594037927936 % 256:=by omega
 rw[e]
 simp[bcells,M.be]
theorem be_window (u s k:Nat) (h:s=0∨k+s=8):∀j (hj:j<(M.be s u).length),(bcells (M.be 8 u))[k+j]? = some (.int .u8 (((M.be s u)[j]).toNat:Int)):=by
 intro j hj
 have hl:j<s:=by rw[M.be_length] at hj;exact hj
 have h8:k+s=8:=by omega
 have hd:=M.be_drop k s u
 rw[h8] at hd
 rw[bcells_at _ _ (by rw[M.be_length];omega)]
 congr 3
 simp only[←hd,List.getElem_drop]
set_option maxRecDepth 100000 in
set_option maxHeartbeats 400000 in
theorem put_any (n m:Int) (w:World) :
  Calls Tryz.prog 50 #[.int .i64 n,.int .i64 m] w fun e w'=>e=.returned (.string ⟨(M.be (sz m) (u64 n)).toArray⟩)∧Below w.heap.size w w':=by
 have hs8:=sz_le m
 have hu:=u64_eq n
 have hul:=u64_lt n
 go_enter Tryz.func50,Tryz.ntmps50
 go_wp2_with fail
 refine wp_loop_rounds 9 ?_
 iterate 9 (rw[rounds_succ];go_wp2_with fail)
 refine (size_any _ _).mono ?_
 rintro e w' ⟨rfl,rfl⟩
 have hk:sz m=0∨sz m=1∨sz m=2∨sz m=3∨sz m=4∨sz m=5∨sz m=6∨sz m=7∨sz m=8:=by omega
 rcases hk with h|h|h|h|h|h|h|h|h
 all_goals
  go_wp2_with fail
  rw[be8_cells _ hul]
  rw[conv_row (P:=Tryz.prog) _ 57 9 5 Tryz.underlying57 Tryz.underlying5 Tryz.underlying9 w.heap.size 165 (0,0) (bcells (M.be 8 (u64 n))) (heap_alloc_new _ _) _ _ _ (M.be (sz m) (u64 n)) (by rw[M.be_length,h]) (be_window _ _ _ (by omega))]
  go_wp2_with fail
  go_ret
  exact ⟨by first|(rw[h];done)|(rw[h];rfl),(Below.refl _ _).alloc (Nat.le_refl _) _⟩
theorem Tryz.info5:(Tryz.prog.info? 5).map (fun i=>(i.zero,i.size,i.bytes))=some (some (.int .u8 0),1,1):=by kernel_rfl
theorem or128_nat:∀x:Fin 256,(x.val ||| 128)=x.val % 128+128:=by decide +kernel
theorem or128 (r:Nat):bits .or .u8 ((r:Int) % 256) 128=((UInt8.ofNat (r % 128+128)).toNat:Int):=by
 have h:=u8_or_nat (r % 256) 128 (by omega) (by omega)
 have h2:=or128_nat ⟨r % 256,by omega⟩
 simp only at h2
 rw[h2] at h
 rw[show ((r % 256:Nat):Int)=(r:Int) % 256 by omega,show ((128:Nat):Int)=128 from rfl] at h
 rw[h]
 simp
 omega
theorem byte_small (r:Nat) (h:r<128):((r:Nat):Int)=((UInt8.ofNat r).toNat:Int):=by simp;omega
theorem vown {w:World} {base:Nat} {v:Value} {n:Nat} {l:List UInt8} {x:Int} {b:UInt8} (h:w.ownsRow base 5 1 v (n+1) (bvals l++[.int .u8 x])) (e:x=(b.toNat:Int)) (hn:l.length=n) :
  w.ownsRow base 5 1 v (l++[b]).length (bvals (l++[b])):=by
 subst e hn
 rw[bvals_append,List.length_append]
 exact h
set_option maxRecDepth 100000 in
set_option maxHeartbeats 400000 in
theorem var_any (n:Int) (w:World) :
  Calls Tryz.prog 48 #[.int .i64 n] w fun e w'=>e=.returned (.string ⟨(M.leb (u64 n)).toArray⟩)∧Below w.heap.size w w':=by
 have hu:=u64_eq n
 have hul:=u64_lt n
 have hll:=M.leb_le _ hul
 go_enter Tryz.func48,Tryz.ntmps48
 go_wp2_with fail
 go_loopw [3,4] (fun v u wr=>∃(l:List UInt8) (r:Nat),u=.int .u64 (r:Int)∧Hid (r<18446744073709551616)∧Hid (M.leb (u64 n)=l++M.leb r)∧wr.ownsRow w.heap.size 5 1 v l.length (bvals l)∧Below w.heap.size w wr)
  (fun _ u _=>(intOf u).toNat)
 case atStart=>exact ⟨[],u64 n,rfl,hul,rfl,World.ownsRow_nil _ _ _ _,Below.refl _ _⟩
 case round=>
  obtain ⟨l,r,rfl,hr,HL,hown,hb⟩:=hrel
  clear hu hul
  have hlen:l.length+(M.leb r).length≤10:=by rw[←List.length_append,←HL.out];exact hll
  have hpos:=M.leb_pos r
  have hsz:=hb.size
  clear hll
  go_wp2_with (at_builtin;refine wp_push _ rfl _ _ 57 5 rfl Tryz.underlying57 (.int .u8 0) 1 Tryz.info5 rfl w.heap.size _ _ _ rfl hown _ _ rfl rfl (by omega) (by omega) hsz ?_)
  ·intro v' w' hown' hne hb' hsz'
   have hge:128≤(r:Int):=by assumption
   have hown2:=vown hown' (or128 r) rfl
   clear hown' hown
   go_wp2_with fail
   go_roundw
   case rel=>exact ⟨_,r / 128,by go_num,(show r / 128<18446744073709551616 by have:=hr.out;omega),(show M.leb (u64 n)=_ by rw[HL.out,M.leb_large r (by omega),List.append_assoc];rfl),hown2,hb.trans hb'⟩
   case measure=>simp[intOf];omega
  ·intro v' w' hown' hne hb' hsz'
   have hge:(r:Int)<128:=by assumption
   have hown2:=vown hown' (byte_small r (by omega)) rfl
   have hc:=conv_own (P:=Tryz.prog) w' 57 9 5 Tryz.underlying57 Tryz.underlying5 Tryz.underlying9 _ _ _ _ hown2
   have hfin:M.leb (u64 n)=l++[UInt8.ofNat r]:=by rw[HL.out,M.leb_small r (by omega)]
   have HF:=Lib.hid hfin
   clear hown' hown hfin
   go_wp2_with fail
   go_ret
   exact ⟨by rw[HF.out];rfl,hb.trans hb'⟩
def txt (s:ByteArray):List UInt8:=M.leb s.size++s.data.toList
theorem txt_eq (s:ByteArray):(⟨(M.leb s.size).toArray⟩:ByteArray)++s=⟨(txt s).toArray⟩:=by
 unfold txt;rw[←str_append,str_mk]
theorem u64_nat (n:Nat) (h:n≤9223372036854775807):u64 (n:Int)=n:=by unfold u64;omega
set_option maxRecDepth 100000 in
set_option maxHeartbeats 400000 in
theorem text_any (s:ByteArray) (w:World) (hs:s.size≤1000000000000000000) :
  Calls Tryz.prog 55 #[.string s] w fun e w'=>e=.returned (.string ⟨(txt s).toArray⟩)∧Below w.heap.size w w':=by
 have hl:=M.leb_le (u64 s.size) (u64_lt _)
 have HF:Hid ((⟨(M.leb (u64 s.size)).toArray⟩:ByteArray)++s=⟨(txt s).toArray⟩):=by rw[u64_nat _ (by omega)];exact txt_eq s
 go_enter Tryz.func55,Tryz.ntmps55
 go_wp2_with fail
 refine (var_any _ _).mono ?_
 rintro e w' ⟨rfl,hb⟩
 go_wp2_with fail
 go_ret
 exact ⟨ret_str HF.out,hb⟩
def tabC:Array Value:=((List.range 256).map fun i=>Value.int .u32 (M.steps 8 i:Nat)).toArray
theorem tabC_at (i:Nat) (h:i<256):tabC[i]? = some (.int .u32 (M.steps 8 i:Nat)):=by
 simp[tabC,h]
theorem not_nat (c:Nat) (h:c<4294967296):4294967295 ^^^ c=4294967295-c:=by
 apply Nat.eq_of_testBit_eq
 intro i
 have h1:=Nat.testBit_two_pow_sub_succ (x:=c) (n:=32) h i
 have h2:=Nat.testBit_two_pow_sub_one 32 i
 rw[show 4294967295-c=2 ^ 32-(c+1) by omega,h1,Nat.testBit_xor,show (4294967295:Nat)=2 ^ 32-1 from rfl,h2]
 by_cases hi:i<32
 ·simp[hi]
 ·have:c.testBit i=false:=Nat.testBit_lt_two_pow (Nat.lt_of_lt_of_le (show c<2 ^ 32 from h) (Nat.pow_le_pow_right (by omega) (by omega:32≤i)))
  simp[hi,this]
theorem not_u32 (c:Nat) (h:c<4294967296):bits .xor .u32 IntKind.u32.max (c:Int)=((4294967295-c:Nat):Int):=by
 have h1:=u32_xor_nat 4294967295 c (by omega) h
 rw[not_nat c h] at h1
 exact h1
theorem tabC_size:tabC.size=256:=by simp[tabC]
theorem Tryz.size168:(Tryz.prog.info? 168).map (·.size)=some tabC.size:=by rw[tabC_size];kernel_rfl
theorem tabC_one:tabC.all (·.oneCell')=true:=by
 rw[Array.all_eq_true_iff_forall_mem]
 intro x hx
 simp[tabC] at hx
 obtain ⟨i,_,rfl⟩:=hx
 rfl
theorem step_go (x:Nat) (h:x<4294967296):bits .xor .u32 ((x:Int) / 2) (3988292384*bits .and .u32 (x:Int) 1 % 4294967296)=((M.step x:Nat):Int):=by
 have h1:=u32_and_nat x 1 h (by omega)
 rw[show ((1:Nat):Int)=1 from rfl] at h1
 rw[h1,Nat.and_one_is_mod]
 have h2:3988292384*((x % 2:Nat):Int) % 4294967296=((if x % 2=1 then M.poly else 0:Nat):Int):=by
  unfold M.poly
  rcases Nat.mod_two_eq_zero_or_one x with e|e<;>rw[e]<;>rfl
 have h3:=u32_xor_nat (x / 2) (if x % 2=1 then M.poly else 0) (by omega) (by unfold M.poly;split<;>omega)
 rw[h2,show (x:Int) / 2=((x / 2:Nat):Int) by omega,h3]
 unfold M.step
 rw[M.shr1]
def tabK (k:Nat):Array Value:=((List.range 256).map fun i=>Value.int .u32 (if i<k then M.steps 8 i else 0:Nat)).toArray
theorem tabK_zero:tabK 0=Array.replicate 256 (.int .u32 0):=by
 apply Array.ext
 ·simp[tabK]
 ·intro i h1 h2
  simp[tabK]
theorem tabK_set (k:Nat):(tabK k).setIfInBounds k (.int .u32 (M.steps 8 k:Nat))=tabK (k+1):=by
 apply Array.ext
 ·simp[tabK]
 ·intro i h1 h2
  rw[Array.getElem_setIfInBounds (by simpa using h1)]
  split
  ·rename_i e;subst e;simp[tabK]
  ·simp only[tabK,List.getElem_toArray,List.getElem_map,List.getElem_range]
   congr 2
   by_cases h3:i<k
   ·rw[if_pos h3,if_pos (by omega)]
   ·rw[if_neg h3,if_neg (by omega)]
theorem tabK_cell (k:Nat) (h:k<256):(tabK k)[k]? = some (.int .u32 0):=by
 simp[tabK,h]
theorem tabK_full:tabK 256=tabC:=by
 unfold tabK tabC
 apply congrArg List.toArray
 apply List.map_congr_left
 intro i hi
 rw[if_pos (by simpa using hi)]
theorem Tryz.zero168 (w:World):(zeroValue 168).run Tryz.prog w=.ok (.agg (Array.replicate 256 (.int .u32 0))) w:=by kernel_rfl
set_option maxRecDepth 100000 in
set_option maxHeartbeats 400000 in
theorem table_any (w:World) :
  Calls Tryz.prog 119 #[] w fun e w'=>e=.returned (.agg tabC)∧Below w.heap.size w w':=by
 have hz:=Tryz.zero168
 go_enter Tryz.func119,Tryz.ntmps119
 go_wp2_with fail
 clear hz
 go_loopw [3] (fun i wr=>∃k:Nat,k≤256∧i=.int .i64 k∧wr.heap[w.heap.size]? = some (.cells (tabK k) 168 (0,0))∧Below w.heap.size w wr)
  (fun i _=>256-(intOf i).toNat)
 case atStart=>exact ⟨0,by omega,rfl,by rw[tabK_zero];exact heap_alloc_new _ _,(Below.refl _ _).alloc (Nat.le_refl _) _⟩
 case round=>
  obtain ⟨k,hk,rfl,hg,hb⟩:=hrel
  have hG:=Lib.hid hg
  clear hg
  by_cases hlt:k<256
  ·go_wp2_with fail
   go_loop [2,8] (fun c j=>∃m x:Nat,m≤8∧j=.int .i64 m∧c=.int .u32 (x:Nat)∧Hid (x<4294967296)∧Hid (M.steps (8-m) x=M.steps 8 k)) (fun _ j=>8-(intOf j).toNat)
   case atStart=>exact ⟨0,k,by omega,rfl,by first|rfl|go_num,(show k<4294967296 by omega),rfl⟩
   case round=>
    obtain ⟨m,x,hm,rfl,rfl,hx,HX⟩:=hrel
    by_cases hm8:m<8
    ·have hst:=step_go x hx.out
     have HY:Hid (M.steps (8-(m+1)) (M.step x)=M.steps 8 k):=by
      have:=HX.out
      rw[show 8-m=(8-(m+1))+1 by omega] at this
      exact this
     go_wp2_with fail
     go_round
     case rel=>exact ⟨m+1,M.step x,by omega,by go_num,rfl,M.step_lt x hx.out,HY⟩
     case measure=>simp[intOf];omega
    ·have hxk:x=M.steps 8 k:=by have:=HX.out;rw[show 8-m=0 by omega] at this;exact this
     have hcell:wr.cell? ⟨w.heap.size,k,none⟩=some (.int .u32 0):=by rw[cell_of_row wr _ _ _ _ _ hG.out];exact tabK_cell k hlt
     have hfr:wr.frozen? ⟨w.heap.size,k,none⟩=false:=frozen_of_row wr _ _ _ _ hG.out
     have HXK:=Lib.hid hxk
     clear hxk
     go_wp2_with fail
     go_roundw
     case rel=>exact ⟨k+1,by omega,by go_num,by rw[HXK.out,heap_setCell_same wr _ _ _ _ _ hG.out,tabK_set k],hb.setCell (Nat.le_refl _) _⟩
     case measure=>simp[intOf];omega
  ·have hkk:k=256:=by omega
   have hg:wr.heap[w.heap.size]? = some (.cells tabC 168 (0,0)):=by rw[hG.out,hkk,tabK_full]
   have hset:wr.setRow w.heap.size tabC=wr:=setRow_self wr _ _ _ _ hg
   clear hG
   go_wp2_with (first|(refine wpList_store_row rfl 168 _ _ rfl w.heap.size tabC rfl rfl 168 tabC hg (by kernel_rfl) rfl tabC_one ?_)|(refine wpList_load_row rfl 168 _ rfl w.heap.size rfl 168 _ (0,0) _ hg Tryz.underlying168 rfl (by kernel_rfl) ?_))
   rw[hset]
   exact bodyPost_ret (v:=.agg tabC) (results_cell_row rfl _ _ w.heap.size 168 tabC (0,0) _ rfl hg Tryz.underlying168 rfl (by kernel_rfl)) rfl ⟨rfl,hb⟩
theorem xor_u8 (c:Nat) (b:UInt8):bits .xor .u8 ((c:Int) % 256) (b.toNat:Int)=((c % 256 ^^^ b.toNat:Nat):Int):=by
 have h:=u8_xor_nat (c % 256) b.toNat (by omega) b.toNat_lt
 rw[←h];rfl
theorem xor_lt256 (c:Nat) (b:UInt8):(c % 256 ^^^ b.toNat)<256:=Nat.xor_lt_two_pow (n:=8) (by omega) b.toNat_lt
theorem xor_u32 (c:Nat) (b:Nat) (hc:c<4294967296) (hb:b<256):bits .xor .u32 (M.steps 8 (c % 256 ^^^ b):Nat) ((c:Int) / 256)=((M.crcB c b:Nat):Int):=by
 have h:=u32_xor_nat (M.steps 8 (c % 256 ^^^ b)) (c / 256) (M.steps_lt 8 _ (M.xor_lt32 (by omega) (by omega))) (by omega)
 rw[M.crcB_table,Nat.shiftRight_eq_div_pow]
 rw[show ((c / 256:Nat):Int)=(c:Int) / 256 by omega] at h
 rw[h]
set_option maxRecDepth 100000 in
set_option maxHeartbeats 400000 in
theorem sum1_any (gt gc : Nat) (c : Nat) (b : UInt8) (w : World)
   (ht:w.heap[gt]? = some (.cells tabC 168 (0,0))) (hc:w.heap[gc]? = some (.cells #[.int .u32 c] 110 (0,0))) (hlt:c<4294967296) :
    Calls Tryz.prog 120 #[.int .u8 b.toNat,.pointer (some ⟨gt,0,none⟩),.pointer (some ⟨gc,0,none⟩)] w fun e w'=>e=.returned (.tuple #[])∧w'=(w.setCell ⟨gc,0,none⟩ (.int .u32 (M.crcB c b.toNat:Nat))).drew:=by
  have h1:=xor_u8 c b
  have h2:=xor_lt256 c b
  have h3:=xor_u32 c b.toNat hlt b.toNat_lt
  have h4:w.cell? ⟨gc,0,none⟩=some (.int .u32 c):=by rw[cell_of_row w gc 0 _ _ _ hc];rfl
  have h5:w.frozen? ⟨gc,0,none⟩=false:=frozen_of_row w gc 0 _ _ hc
  have h6:w.cell? ⟨gt,(c % 256 ^^^ b.toNat),none⟩=some (.int .u32 (M.steps 8 (c % 256 ^^^ b.toNat):Nat)):=by rw[cell_of_row w gt _ _ _ _ ht];exact tabC_at _ h2
  have h7:((c % 256 ^^^ b.toNat:Nat):Int)<256:=by omega
  go_enter Tryz.func120,Tryz.ntmps120
  go_wp2_with fail
  go_region
  all_goals (go_end0;exact ⟨rfl,rfl⟩)
theorem take_snoc (s:ByteArray) (k:Nat) (h:k<s.size):s.data.toList.take (k+1)=s.data.toList.take k++[s[k]]:=by
 rw[List.take_succ_eq_append_getElem (by simpa using h)];rfl
theorem crc_snoc (s:ByteArray) (k:Nat) (h:k<s.size):M.crcL 4294967295 (s.data.toList.take (k+1))=M.crcB (M.crcL 4294967295 (s.data.toList.take k)) (s[k]).toNat:=by
 rw[take_snoc s k h,M.crcL_append];rfl
set_option maxRecDepth 100000 in
set_option maxHeartbeats 400000 in
theorem sum_any (s:ByteArray) (w:World) (hs:s.size≤1000000000000000000) :
  Calls Tryz.prog 53 #[.string s] w fun e w'=>e=.returned (.int .u32 (M.sum s.data.toList:Nat))∧Below w.heap.size w w':=by
 have hz:=Tryz.zero168
 go_enter Tryz.func53,Tryz.ntmps53
 go_wp2_with fail
 refine (table_any _).mono ?_
 rintro e w1 ⟨rfl,hb⟩
 go_wp2_with fail
 rw[run_storeCells_new w1 168 _ tabC Tryz.size168 (by rw[tabC_size,Array.size_replicate]) tabC_one]
 go_wp2_with fail
 clear hz
 go_loopw [11] (fun i wr=>∃k c:Nat,k≤s.size∧i=.int .i64 k∧Hid (c<4294967296)∧Hid (c=M.crcL 4294967295 (s.data.toList.take k))∧wr.heap[w1.heap.size]? = some (.cells tabC 168 (0,0))∧wr.heap[w1.heap.size+1]? = some (.cells #[.int .u32 c] 110 (0,0))∧Below w.heap.size w wr) (fun i _=>s.size-(intOf i).toNat)
 case atStart=>exact ⟨0,4294967295,by omega,rfl,(show 4294967295<4294967296 by omega),rfl,heap_alloc2_old _ _ _,heap_alloc2_new _ _ _,(hb.alloc hb.size _).alloc (by rw[World.size_alloc];have:=hb.size;omega) _⟩
 case round=>
  obtain ⟨k,c,hk,rfl,hc,HC,hgt,hgc,hbr⟩:=hrel
  have Hgt:=Lib.hid hgt
  have Hgc:=Lib.hid hgc
  clear hgt hgc
  by_cases hlt:k<s.size
  ·go_wp2_with fail
   refine (sum1_any w1.heap.size (w1.heap.size+1) c (s[k]) _ Hgt.out Hgc.out hc.out).mono ?_
   rintro e w2 ⟨rfl,h1⟩
   have H1:=Lib.hid h1
   clear h1
   go_wp2_with fail
   go_roundw
   case rel=>
    refine ⟨k+1,M.crcB c (s[k]).toNat,by omega,by go_num,M.crcB_lt c _ hc.out (s[k]).toNat_lt,(show M.crcB c (s[k]).toNat=_ by rw[crc_snoc s k hlt,←HC.out]),?_,?_,?_⟩
    ·rw[H1.out,heap_drew,heap_setCell_other _ _ _ _ (by simp),Hgt.out]
    ·rw[H1.out,heap_drew,heap_setCell_same _ _ _ _ _ _ Hgc.out];rfl
    ·rw[H1.out]
     exact (hbr.setCell (by have:=hb.size;simp;omega) _).drew
   case measure=>simp[intOf];omega
  ·have h4:wr.cell? ⟨w1.heap.size+1,0,none⟩=some (.int .u32 c):=by rw[cell_of_row wr _ 0 _ _ _ Hgc.out];rfl
   have hkk:k=s.size:=by omega
   have HF:Hid (bits .xor .u32 IntKind.u32.max (c:Int)=((M.sum s.data.toList:Nat):Int)):=by
    have h1:=HC.out
    rw[List.take_of_length_le (by rw[hkk];exact Nat.le_refl _)] at h1
    unfold M.sum
    rw[←h1]
    exact not_u32 c hc.out
   go_wp2_with fail
   go_ret
   exact ⟨ret_int HF.out,hbr⟩
end Go.Proofs.YtpdckpifhniioaaGreat.Oct
end
section
set_option linter.unusedVariables false
set_option linter.unusedSimpArgs false
namespace Go.Proofs.YtpdckpifhniioaaGreat.Oct
open Go.RowKit
open Go.Proofs.YtpdckpifhniioaaGreat
def Rd (T:TypeId) (b:Nat) (s:ByteArray) (p:Nat) (f:Bool) (w:World):Prop:=∃zs:List Value,w.heap[b]? = some (.cells (([.string s,.int .i64 (p:Int),.bool f]:List Value)++zs).toArray T (0,0))
theorem Rd.c0 {T b s p f w} (h:Rd T b s p f w):w.cell? ⟨b,0,none⟩=some (.string s):=by obtain ⟨zs,h⟩:=h;rw[cell_of_row w b 0 _ _ _ h];simp
theorem Rd.c1 {T b s p f w} (h:Rd T b s p f w):w.cell? ⟨b,1,none⟩=some (.int .i64 (p:Int)):=by obtain ⟨zs,h⟩:=h;rw[cell_of_row w b 1 _ _ _ h];simp
theorem Rd.c2 {T b s p f w} (h:Rd T b s p f w):w.cell? ⟨b,2,none⟩=some (.bool f):=by obtain ⟨zs,h⟩:=h;rw[cell_of_row w b 2 _ _ _ h];simp
theorem Rd.fz {T b s p f w} (h:Rd T b s p f w) (j:Nat):w.frozen? ⟨b,j,none⟩=false:=by obtain ⟨zs,h⟩:=h;exact frozen_of_row w b j _ _ h
theorem Rd.put1 {T b s p f w} (h:Rd T b s p f w) (q:Nat):Rd T b s q f (w.setCell ⟨b,1,none⟩ (.int .i64 (q:Int))):=by
 obtain ⟨zs,h⟩:=h;refine ⟨zs,?_⟩;rw[heap_setCell_same _ _ _ _ _ _ h];simp
theorem Rd.put2 {T b s p f w} (h:Rd T b s p f w) (g:Bool):Rd T b s p g (w.setCell ⟨b,2,none⟩ (.bool g)):=by
 obtain ⟨zs,h⟩:=h;refine ⟨zs,?_⟩;rw[heap_setCell_same _ _ _ _ _ _ h];simp
theorem grown_refl (b:Nat) (w:World):w.grownBy w (some b):=⟨rfl,rfl,rfl,Nat.le_refl _,fun _ _ _=>rfl⟩
theorem grown_trans {b:Nat} {w w1 w2:World} (h:w.grownBy w1 (some b)) (k:w1.grownBy w2 (some b)):w.grownBy w2 (some b):=
 ⟨k.os.trans h.os,k.tape.trans h.tape,k.output.trans h.output,Nat.le_trans h.size k.size,fun i hi hn=>(k.block i (Nat.lt_of_lt_of_le hi h.size) hn).trans (h.block i hi hn)⟩
theorem grown_set {b:Nat} {w w1:World} (h:w.grownBy w1 (some b)) (j:Nat) (v:Value):w.grownBy (w1.setCell ⟨b,j,none⟩ v) (some b):=
 ⟨h.os,h.tape,h.output,by simpa [World.setCell] using h.size,fun i hi hn=>by rw[heap_setCell_other _ _ _ _ (by intro e;exact hn (by rw[e]))];exact h.block i hi hn⟩
theorem grown_drewN {b n:Nat} {w w1:World} (h:w.grownBy w1 (some b)):w.grownBy (w1.drewN n) (some b):=⟨h.os,h.tape,h.output,h.size,h.block⟩
theorem grown_below {b:Nat} {w w1:World} (h:Below w.heap.size w w1):w.grownBy w1 (some b):=⟨h.os,h.tape,h.output,h.size,fun i hi _=>h.block i hi⟩
theorem read_any (s:ByteArray) (w:World) :
  Calls Tryz.prog 58 #[.string s] w fun e w'=>e=.returned (.pointer (some ⟨w.heap.size,0,none⟩))∧w.alloc (.cells #[.string s,.int .i64 0,.bool false] 174)=w':=by
 go_enter Tryz.func58,Tryz.ntmps58
 go_wp2_with fail
 go_ret
 exact ⟨rfl,rfl⟩
theorem failed_any (b:Nat) (s:ByteArray) (p:Nat) (f:Bool) (w:World) (h:Rd 174 b s p f w) :
  Calls Tryz.prog 61 #[.pointer (some ⟨b,0,none⟩)] w fun e w'=>e=.returned (.bool f)∧w=w':=by
 have h2:=h.c2
 go_enter Tryz.func61,Tryz.ntmps61
 go_wp2_with fail
 go_ret
 exact ⟨rfl,rfl⟩
theorem left_any (b:Nat) (s:ByteArray) (p:Nat) (f:Bool) (w:World) (h:Rd 174 b s p f w) (hs:s.size≤1000000000000000000) (hp:p≤s.size) :
  Calls Tryz.prog 63 #[.pointer (some ⟨b,0,none⟩)] w fun e w'=>e=.returned (.int .i64 ((s.size:Int)-p))∧∃n,w'=w.drewN n:=by
 have h0:=h.c0
 have h1:=h.c1
 go_enter Tryz.func63,Tryz.ntmps63
 go_wp2_with fail
 go_quiet (fail)
 go_wp2_with fail
 go_ret
 exact ⟨rfl,_,rfl⟩
theorem Rd.drewN {T b s p f w} (h:Rd T b s p f w) (n:Nat):Rd T b s p f (w.drewN n):=h
theorem take_no (b:Nat) (s:ByteArray) (p:Nat) (f:Bool) (w:World) (n:Int) (h:Rd 174 b s p f w) (hs:s.size≤1000000000000000000) (hp:p≤s.size)
  (hn:f=true∨n<0∨(s.size:Int)-p<n) :
  Calls Tryz.prog 64 #[.pointer (some ⟨b,0,none⟩),.int .i64 n] w fun e w'=>e=.returned (.string ⟨#[]⟩)∧w.grownBy w' (some b)∧Rd 174 b s p true w':=by
 have h2:=h.c2
 have hf:=h.fz 2
 cases f with
 |true=>
  clear hn
  go_enter Tryz.func64,Tryz.ntmps64
  go_wp2_with fail
  go_ret
  exact ⟨rfl,grown_set (grown_refl _ _) _ _,h.put2 _⟩
 |false=>
  by_cases h0:n<0
  ·clear hn
   go_enter Tryz.func64,Tryz.ntmps64
   go_wp2_with fail
   go_ret
   exact ⟨rfl,grown_set (grown_refl _ _) _ _,h.put2 _⟩
  ·have h3:(s.size:Int)-p<n:=by rcases hn with h|h|h<;>first|omega|simp at h
   clear hn
   go_enter Tryz.func64,Tryz.ntmps64
   go_wp2_with fail
   refine (left_any b s p false _ h hs hp).mono ?_
   rintro e w1 ⟨rfl,nq,hw⟩
   subst hw
   have h2':(w.drewN nq).cell? ⟨b,2,none⟩=some (.bool false):=h2
   have hf':(w.drewN nq).frozen? ⟨b,2,none⟩=false:=hf
   go_wp2_with fail
   go_ret
   exact ⟨rfl,grown_set (grown_drewN (grown_refl _ _)) _ _,(h.drewN nq).put2 _⟩
set_option maxHeartbeats 400000 in
theorem take_yes (b:Nat) (s:ByteArray) (p:Nat) (w:World) (n:Nat) (h:Rd 174 b s p false w) (hs:s.size≤1000000000000000000) (hp:p+n≤s.size) :
  Calls Tryz.prog 64 #[.pointer (some ⟨b,0,none⟩),.int .i64 n] w fun e w'=>e=.returned (.string (s.extract p (p+n)))∧w.grownBy w' (some b)∧Rd 174 b s (p+n) false w':=by
 have h2:=h.c2
 have h3:¬((s.size:Int)-p<(n:Int)):=by omega
 go_enter Tryz.func64,Tryz.ntmps64
 go_wp2_with fail
 refine (left_any b s p false _ h hs (by omega)).mono ?_
 rintro e w1 ⟨rfl,nq,hw⟩
 subst hw
 have h0':(w.drewN nq).cell? ⟨b,0,none⟩=some (.string s):=h.c0
 have h1':(w.drewN nq).cell? ⟨b,1,none⟩=some (.int .i64 (p:Int)):=h.c1
 have hf':(w.drewN nq).frozen? ⟨b,1,none⟩=false:=h.fz 1
 go_wp2_with fail
 go_quiet (fail)
 go_wp2_with fail
 go_ret
 exact ⟨rfl,grown_drewN (grown_set (grown_drewN (grown_refl _ _)) _ _),(Rd.put1 (Rd.drewN h _) (p+n)).drewN _⟩
def takeRes (s:ByteArray) (p:Nat) (f:Bool) (n:Int):ByteArray×Nat×Bool:=
 if f=true∨n<0∨(s.size:Int)-p<n then (⟨#[]⟩,p,true) else (s.extract p (p+n.toNat),p+n.toNat,false)
theorem takeRes_le (s:ByteArray) (p:Nat) (f:Bool) (n:Int) (hp:p≤s.size):(takeRes s p f n).2.1≤s.size:=by
 unfold takeRes
 split
 ·exact hp
 ·show p+n.toNat≤s.size
  omega
theorem takeRes_size (s:ByteArray) (p:Nat) (f:Bool) (n:Int):(takeRes s p f n).1.size≤s.size:=by
 unfold takeRes
 split
 ·exact Nat.zero_le _
 ·simp;omega
theorem take_any (b:Nat) (s:ByteArray) (p:Nat) (f:Bool) (w:World) (n:Int) (h:Rd 174 b s p f w) (hs:s.size≤1000000000000000000) (hp:p≤s.size) :
  Calls Tryz.prog 64 #[.pointer (some ⟨b,0,none⟩),.int .i64 n] w fun e w'=>e=.returned (.string (takeRes s p f n).1)∧w.grownBy w' (some b)∧Rd 174 b s (takeRes s p f n).2.1 (takeRes s p f n).2.2 w':=by
 by_cases hn:f=true∨n<0∨(s.size:Int)-p<n
 ·have e:takeRes s p f n=(⟨#[]⟩,p,true):=by unfold takeRes;rw[if_pos hn]
  rw[e]
  exact take_no b s p f w n h hs hp hn
 ·have e:takeRes s p f n=(s.extract p (p+n.toNat),p+n.toNat,false):=by unfold takeRes;rw[if_neg hn]
  rw[e]
  have hf:f=false:=by cases f<;>simp_all
  subst hf
  obtain ⟨m,rfl⟩:=Int.eq_ofNat_of_zero_le (show 0≤n by omega)
  rw[Int.toNat_natCast]
  exact take_yes b s p w m h hs (by omega)
namespace M
def dec:Nat→Nat→List UInt8→Option (Nat×Nat)
 |_,_,[]=>none
 |i,u,b::l=>
  if 10≤i then none
  else if 128≤b.toNat then dec (i+1) (u+b.toNat % 128*128 ^ i) l
  else if (0<i∧b.toNat=0)∨(i=9∧1<b.toNat) then none
  else some (u+b.toNat*128 ^ i,i+1)
theorem dec_ten (i u:Nat) (l:List UInt8) (h:10≤i):dec i u l=none:=by
 cases l with
 |nil=>rfl
 |cons b l=>rw[dec,if_pos h]
theorem dec_more (i u:Nat) (b:UInt8) (l:List UInt8) (h:i<10) (hb:128≤b.toNat):dec i u (b::l)=dec (i+1) (u+b.toNat % 128*128 ^ i) l:=by
 rw[dec,if_neg (by omega),if_pos hb]
theorem dec_bad (i u:Nat) (b:UInt8) (l:List UInt8) (h:i<10) (hb:b.toNat<128) (hz:(0<i∧b.toNat=0)∨(i=9∧1<b.toNat)):dec i u (b::l)=none:=by
 rw[dec,if_neg (by omega),if_neg (by omega),if_pos hz]
theorem dec_good (i u:Nat) (b:UInt8) (l:List UInt8) (h:i<10) (hb:b.toNat<128) (hz:¬((0<i∧b.toNat=0)∨(i=9∧1<b.toNat))):dec i u (b::l)=some (u+b.toNat*128 ^ i,i+1):=by
 rw[dec,if_neg (by omega),if_neg (by omega),if_neg hz]
theorem pow9:(128:Nat) ^ 9=9223372036854775808:=by decide
theorem pow_le9 (i:Nat) (h:i≤9):(128:Nat) ^ i≤9223372036854775808:=by
 rw[←pow9];exact Nat.pow_le_pow_right (by omega) h
theorem pow_pos' (i:Nat):0<(128:Nat) ^ i:=Nat.pow_pos (by omega)
theorem dec_leb (r:Nat):∀(i u:Nat) (rest:List UInt8),i+(leb r).length≤10→(i=0∨r≠0)→r*128 ^ i<18446744073709551616→
  dec i u (leb r++rest)=some (u+r*128 ^ i,i+(leb r).length):=by
 induction r using Nat.strongRecOn with
 |_ r ih=>
  intro i u rest hl h0 hb
  have hp:=leb_pos r
  by_cases h:r<128
  ·rw[leb_small r h,List.cons_append,List.nil_append]
   have hr:(UInt8.ofNat r).toNat=r:=by simp;omega
   rw[dec_good i u _ rest (by omega) (by omega)]
   ·rw[hr];rfl
   ·rw[hr]
    rintro (⟨h1,h2⟩|⟨h1,h2⟩)
    ·omega
    ·subst h1;rw[pow9] at hb;omega
  ·have hll:(leb r).length=(leb (r / 128)).length+1:=by rw[leb_large r h];rfl
   have hr:(UInt8.ofNat (r % 128+128)).toNat=r % 128+128:=by simp;omega
   rw[hll]
   rw[leb_large r h,List.cons_append,dec_more i u _ _ (by omega) (by omega),hr]
   have e:(r / 128)*128 ^ (i+1)=(r / 128*128)*128 ^ i:=by rw[Nat.pow_succ];rw[Nat.mul_assoc,Nat.mul_comm (128 ^ i) 128]
   have e2:(r % 128+128) % 128=r % 128:=by omega
   rw[e2,ih (r / 128) (by omega) (i+1) _ rest (by omega) (by omega) (by rw[e];exact Nat.lt_of_le_of_lt (Nat.mul_le_mul_right _ (by omega)) hb),e]
   have e3:u+r % 128*128 ^ i+r / 128*128*128 ^ i=u+r*128 ^ i:=by
    rw[Nat.add_assoc,←Nat.add_mul];congr 2;omega
   rw[e3]
   congr 2;omega
theorem dec_inv:∀(l:List UInt8) (i u v n:Nat),dec i u l=some (v,n)→
  ∃r rest,l=leb r++rest∧v=u+r*128 ^ i∧n=i+(leb r).length∧(i=0∨r≠0)∧i+(leb r).length≤10∧r*128 ^ i<18446744073709551616
 |[],i,u,v,n,h=>by simp[dec] at h
 |b::l,i,u,v,n,h=>by
  by_cases hi:10≤i
  ·rw[dec_ten _ _ _ hi] at h;simp at h
  ·by_cases hb:128≤b.toNat
   ·rw[dec_more i u b l (by omega) hb] at h
    obtain ⟨r,rest,h1,h2,h3,h4,h5,h6⟩:=dec_inv l (i+1) _ v n h
    have hr:r≠0:=by omega
    have hbl:=b.toNat_lt
    have e1:(b.toNat % 128+128*r) % 128=b.toNat % 128:=by omega
    have e2:(b.toNat % 128+128*r) / 128=r:=by omega
    have hL:leb (b.toNat % 128+128*r)=b::leb r:=by
     rw[leb_large _ (by omega),e1,e2]
     congr 1
     apply UInt8.toNat_inj.1
     simp;omega
    have e3:(b.toNat % 128+128*r)*128 ^ i=b.toNat % 128*128 ^ i+r*128 ^ (i+1):=by
     rw[Nat.add_mul,Nat.pow_succ];congr 1;rw[Nat.mul_comm 128 r,Nat.mul_assoc,Nat.mul_comm 128]
    refine ⟨b.toNat % 128+128*r,rest,by rw[hL,h1];rfl,by rw[h2,e3];omega,by rw[h3,hL,List.length_cons];omega,by omega,by rw[hL,List.length_cons];omega,?_⟩
    have hlast:r*128 ^ (i+1)<18446744073709551616:=h6
    rw[e3]
    have hp:=pow_le9 i (by omega)
    have h9:i+1≤9:=by have:=leb_pos r;omega
    have hd:∃m,18446744073709551616=m*128 ^ (i+1):=by
     have:i+1=1∨i+1=2∨i+1=3∨i+1=4∨i+1=5∨i+1=6∨i+1=7∨i+1=8∨i+1=9:=by omega
     rcases this with e|e|e|e|e|e|e|e|e<;>rw[e]
     ·exact ⟨144115188075855872,by decide⟩
     ·exact ⟨1125899906842624,by decide⟩
     ·exact ⟨8796093022208,by decide⟩
     ·exact ⟨68719476736,by decide⟩
     ·exact ⟨536870912,by decide⟩
     ·exact ⟨4194304,by decide⟩
     ·exact ⟨32768,by decide⟩
     ·exact ⟨256,by decide⟩
     ·exact ⟨2,by decide⟩
    obtain ⟨m,hm⟩:=hd
    have hrm:r<m:=by
     rw[hm] at hlast
     exact Nat.lt_of_mul_lt_mul_right hlast
    have h7:(r+1)*128 ^ (i+1)≤18446744073709551616:=by rw[hm];exact Nat.mul_le_mul_right _ hrm
    have h8:b.toNat % 128*128 ^ i<128 ^ (i+1):=by
     rw[Nat.pow_succ,Nat.mul_comm (128 ^ i) 128]
     exact Nat.mul_lt_mul_of_pos_right (by omega) (pow_pos' i)
    rw[Nat.add_mul,Nat.one_mul] at h7
    omega
   ·by_cases hz:(0<i∧b.toNat=0)∨(i=9∧1<b.toNat)
    ·rw[dec_bad i u b l (by omega) (by omega) hz] at h;simp at h
    ·rw[dec_good i u b l (by omega) (by omega) hz] at h
     simp only[Option.some.injEq,Prod.mk.injEq] at h
     have hL:leb b.toNat=[b]:=by
      rw[leb_small _ (by omega)]
      congr 1
      apply UInt8.toNat_inj.1
      simp
     refine ⟨b.toNat,l,by rw[hL];rfl,h.1.symm,by rw[hL];exact h.2.symm,by omega,by rw[hL];simp;omega,?_⟩
     by_cases h9:i=9
     ·subst h9;rw[pow9];omega
     ·have:(128:Nat) ^ i≤128 ^ 8:=Nat.pow_le_pow_right (by omega) (by omega)
      have e8:(128:Nat) ^ 8=72057594037927936:=by decide
      rw[e8] at this
      have:=Nat.mul_le_mul (show b.toNat≤127 by omega) this
      omega
theorem dec_iff (l:List UInt8) (v n:Nat):dec 0 0 l=some (v,n)↔v<18446744073709551616∧n=(leb v).length∧∃rest,l=leb v++rest:=by
 constructor
 ·intro h
  obtain ⟨r,rest,h1,h2,h3,_,_,h6⟩:=dec_inv l 0 0 v n h
  have:v=r:=by simpa using h2
  subst this
  exact ⟨by simpa using h6,by simpa using h3,rest,h1⟩
 ·rintro ⟨h1,h2,rest,h3⟩
  have:=dec_leb v 0 0 rest (by have:=leb_le v h1;omega) (.inl rfl) (by simpa using h1)
  rw[h3,this,h2];simp
theorem dec_len (l:List UInt8) (v n:Nat) (h:dec 0 0 l=some (v,n)):1≤n∧n≤l.length∧n≤10:=by
 obtain ⟨h1,h2,rest,h3⟩:=(dec_iff l v n).1 h
 have:=leb_pos v
 have:=leb_le v h1
 rw[h3,List.length_append];omega
end M
def varRes (s:ByteArray) (p:Nat) (f:Bool):Int×Nat×Bool:=
 if f=true then (0,p,true) else
  match M.dec 0 0 (s.data.toList.drop p) with
  |none=>(0,p,true)
  |some (u,n)=>(wrap64 (u:Int),p+n,false)
theorem drop_at (s:ByteArray) (p k:Nat) (h:p+k<s.size):(s.data.toList.drop p).drop k=(s[p+k]'h)::(s.data.toList.drop p).drop (k+1):=by
 rw[List.drop_drop,List.drop_drop,List.drop_eq_getElem_cons (by simpa using h)]
 rfl
theorem and127_nat:∀x:Fin 256,(x.val &&& 127)=x.val % 128:=by decide +kernel
theorem two_pow7 (k:Nat):(2:Nat) ^ (7*k)=128 ^ k:=by rw[Nat.pow_mul]
theorem or_acc (k acc y:Nat) (B:UInt8) (hk:k≤9) (ha:acc<128 ^ k) (hy:y=acc) :
  ∃y2:Nat,bits .or .u64 (y:Int) (IntKind.u64.wrap (IntKind.u64.wrap (bits .and .u8 (B.toNat:Int) 127)*2 ^ (7*k)))=((y2:Nat):Int)∧
   (acc+B.toNat % 128*128 ^ k<18446744073709551616→y2=acc+B.toNat % 128*128 ^ k):=by
 subst hy
 have hB:=B.toNat_lt
 have h1:bits .and .u8 (B.toNat:Int) 127=((B.toNat % 128:Nat):Int):=by
  have h:=u8_and_nat B.toNat 127 hB (by omega)
  rw[show ((127:Nat):Int)=127 from rfl] at h
  rw[h]
  have:=and127_nat ⟨B.toNat,hB⟩
  simp only at this
  rw[this]
 have h2:IntKind.u64.wrap ((B.toNat % 128:Nat):Int)=((B.toNat % 128:Nat):Int):=by rw[IntKind.wrap_u64];omega
 have h3:IntKind.u64.wrap (((B.toNat % 128:Nat):Int)*2 ^ (7*k))=((B.toNat % 128*128 ^ k % 18446744073709551616:Nat):Int):=by
  rw[IntKind.wrap_u64,←two_pow7]
  simp
 have hp:=M.pow_le9 k hk
 have h4:=u64_or_nat y (B.toNat % 128*128 ^ k % 18446744073709551616) (by omega) (by omega)
 refine ⟨y ||| (B.toNat % 128*128 ^ k % 18446744073709551616),by rw[h1,h2,h3,h4],fun hlt=>?_⟩
 rw[Nat.mod_eq_of_lt (by omega)]
 have h5:=Nat.shiftLeft_add_eq_or_of_lt (show y<2 ^ (7*k) by rw[two_pow7];exact ha) (B.toNat % 128)
 rw[Nat.shiftLeft_eq,two_pow7] at h5
 rw[Nat.or_comm,←h5,Nat.add_comm]
theorem acc_lt (k acc B:Nat) (ha:acc<128 ^ k):acc+B % 128*128 ^ k<128 ^ (k+1):=by
 have h1:B % 128*128 ^ k≤127*128 ^ k:=Nat.mul_le_mul_right _ (by omega)
 rw[Nat.pow_succ];omega
theorem acc_small (k x:Nat) (hk:k≤9) (hx:x<128 ^ k):x<18446744073709551616:=by
 have:=M.pow_le9 k hk
 omega
theorem good_small (k acc B:Nat) (hk:k≤9) (ha:acc<128 ^ k) (hB:B<128) (hz:¬(k=9∧1<B)):acc+B % 128*128 ^ k<18446744073709551616:=by
 by_cases h9:k=9
 ·subst h9;rw[M.pow9] at *;omega
 ·have:=acc_lt k acc B ha
  exact acc_small (k+1) _ (by omega) this
theorem rvar_failed (b:Nat) (s:ByteArray) (p:Nat) (w:World) (h:Rd 174 b s p true w) :
  Calls Tryz.prog 125 #[.pointer (some ⟨b,0,none⟩)] w fun e w'=>e=.returned (.int .i64 0)∧w.grownBy w' (some b)∧Rd 174 b s p true w':=by
 have h2:=h.c2
 go_enter Tryz.func125,Tryz.ntmps125
 go_wp2_with fail
 go_ret
 exact ⟨rfl,grown_refl _ _,h⟩
set_option maxRecDepth 100000 in
set_option maxHeartbeats 800000 in
theorem rvar_ok (b : Nat) (s : ByteArray) (p : Nat) (w : World) (h : Rd 174 b s p false w) (hs : s.size ≤ 1000000000000000000) (hp : p ≤ s.size) :
    Calls Tryz.prog 125 #[.pointer (some ⟨b,0,none⟩)] w fun e w'=>e=.returned (.int .i64 (varRes s p false).1)∧w.grownBy w' (some b)∧Rd 174 b s (varRes s p false).2.1 (varRes s p false).2.2 w':=by
  have h2:=h.c2
  go_enter Tryz.func125,Tryz.ntmps125
  go_wp2_with fail
  refine (left_any b s p false _ h hs hp).mono ?_
  rintro e w1 ⟨rfl,nq,hw⟩
  subst hw
  obtain ⟨m,hm⟩:∃m:Nat,m=min 10 (s.size-p):=⟨_,rfl⟩
  have H0:Rd 174 b s p false (w.drewN nq):=h
  have HG:w.grownBy (w.drewN nq) (some b):=grown_drewN (grown_refl _ _)
  generalize w.drewN nq=wq at *
  clear h2
  go_wp2_with fail
  all_goals
    go_loopw [3, 17] (fun u i wr => ∃ k acc y : Nat, k ≤ 10 ∧ k ≤ s.size - p ∧ i = .int .i64 k ∧ u = .int .u64 y ∧ Hid (acc < 128 ^ k) ∧ Hid (k ≤ 9 → y = acc) ∧
        Hid (M.dec 0 0 (s.data.toList.drop p)=M.dec k acc ((s.data.toList.drop p).drop k))∧Rd 174 b s p false wr∧w.grownBy wr (some b))
      (fun _ i _=>10-(intOf i).toNat)
    case atStart=>exact ⟨0,0,0,by omega,by omega,rfl,rfl,(show 0<128 ^ 0 by decide),fun _=>rfl,rfl,H0,HG⟩
    case round=>
      clear H0 HG
      obtain ⟨k,acc,y,hk,hkl,rfl,rfl,hacc,hy,HD,hrd,hg⟩:=hrel
      have h0:=hrd.c0
      have h1:=hrd.c1
      by_cases hlt:k<s.size-p∧k<10
      · have hlt1 : p + k < s.size := by omega
        have hlt2:(p:Int)+k<s.size:=by omega
        have hlt3:k<10:=by omega
        clear hlt
        go_wp2_with fail
        have e1:IntKind.i64.wrap ((p:Int)+k)=(p:Int)+k:=IntWalk.i64_in _ (by omega)
        have e2:(0:Int)≤(p:Int)+k:=by omega
        have e3:((p:Int)+k).toNat=p+k:=by omega
        obtain ⟨B,hB⟩:∃B:UInt8,s[p+k]'hlt1=B:=⟨_,rfl⟩
        have HL:Hid ((s.data.toList.drop p).drop k=B::(s.data.toList.drop p).drop (k+1)):=by rw[←hB];exact drop_at s p k hlt1
        go_quiet (fail)
        clear e1 e2 e3 hB
        have hBl:(B.toNat:Int)<256:=by have:=B.toNat_lt;omega
        have hrd':Rd 174 b s p false (wr.drewN nq):=hrd
        have hg':w.grownBy (wr.drewN nq) (some b):=grown_drewN hg
        clear hrd hg h0 h1
        generalize wr.drewN nq=wt at *
        by_cases hb8:128≤B.toNat
        · obtain ⟨y2, hU, hy2⟩ := or_acc k acc y B (by omega) hacc.out (hy.out (by omega))
          have HY:=Lib.hid hy2
          clear hy2
          go_wp2_with fail
          go_roundw
          case rel=>
            refine ⟨k+1,acc+B.toNat % 128*128 ^ k,y2,by omega,by omega,by go_num,rfl,acc_lt k acc B.toNat hacc.out,?_,?_,hrd',hg'⟩
            · intro hk9
              exact HY.out (acc_small (k+1) _ hk9 (acc_lt k acc B.toNat hacc.out))
            · show _ = _
              rw[HD.out,HL.out,M.dec_more k acc B _ hlt3 hb8]
          case measure=>simp[intOf];omega
        · by_cases hz1 : 0 < k ∧ B.toNat = 0
          · obtain ⟨hz1, hz2⟩ := hz1
            have HF:Hid (varRes s p false=(0,p,true)):=by
              have:M.dec 0 0 (s.data.toList.drop p)=none:=by rw[HD.out,HL.out,M.dec_bad k acc B _ hlt3 (by omega) (.inl ⟨hz1,hz2⟩)]
              show _=_
              unfold varRes;rw[this];rfl
            have hc2:=hrd'.c2
            have hf2:=hrd'.fz 2
            go_wp2_with fail
            all_goals
              go_ret
              rw[HF.out]
              exact ⟨rfl,grown_set hg' _ _,hrd'.put2 _⟩
          · by_cases hz2 : k = 9 ∧ 1 < B.toNat
            · obtain ⟨hz3, hz4⟩ := hz2
              have HF:Hid (varRes s p false=(0,p,true)):=by
                have:M.dec 0 0 (s.data.toList.drop p)=none:=by rw[HD.out,HL.out,M.dec_bad k acc B _ hlt3 (by omega) (.inr ⟨hz3,hz4⟩)]
                show _=_
                unfold varRes;rw[this];rfl
              have hc2:=hrd'.c2
              have hf2:=hrd'.fz 2
              have hz5:9≤k:=by omega
              have hz6:((B.toNat:Int)==0)=false:=by rw[beq_eq_false_iff_ne];omega
              have hz7:((k:Int)==9)=true:=by rw[beq_iff_eq];omega
              have hz8:(1:Int)<B.toNat:=by omega
              clear hz3 hz1
              go_wp2_with fail
              all_goals
                go_ret
                rw[HF.out]
                exact ⟨rfl,grown_set hg' _ _,hrd'.put2 _⟩
            · obtain ⟨y2, hU, hy2⟩ := or_acc k acc y B (by omega) hacc.out (hy.out (by omega))
              have HY:=Lib.hid hy2
              clear hy2
              have hc1:=hrd'.c1
              have hf1:=hrd'.fz 1
              have hv:y2=acc+B.toNat*128 ^ k:=by
                have:=HY.out (good_small k acc B.toNat (by omega) hacc.out (by omega) (by omega))
                rwa [Nat.mod_eq_of_lt (by omega)] at this
              have HF:Hid (varRes s p false=(wrap64 (y2:Int),p+(k+1),false)):=by
                have:M.dec 0 0 (s.data.toList.drop p)=some (y2,k+1):=by
                  rw[HD.out,HL.out,M.dec_good k acc B _ hlt3 (by omega) (by omega),hv]
                show _=_
                unfold varRes;rw[this];rfl
              clear hv
              have hq:=hrd'.put1 (p+(k+1))
              have hq2:=Lib.hid hq
              clear hq
              have hcase:k=0∨(0<k∧0<B.toNat∧k≠9)∨(0<k∧0<B.toNat∧k=9∧B.toNat≤1):=by omega
              rcases hcase with hk0|⟨hk0,hB0,hk9⟩|⟨hk0,hB0,hk9,hB1⟩
              · have hz5 : ¬ (0 : Int) < k := by omega
                have hz7:((k:Int)==9)=false:=by rw[beq_eq_false_iff_ne];omega
                have hk1:k≤0:=by omega
                clear hz1 hz2 hk0
                go_wp2_with fail
                all_goals
                  go_ret
                  rw[HF.out]
                  exact ⟨rfl,grown_set hg' _ _,hq2.out⟩
              · have hz6 : ((B.toNat : Int) == 0) = false := by rw [beq_eq_false_iff_ne]; omega
                have hz7:((k:Int)==9)=false:=by rw[beq_eq_false_iff_ne];omega
                clear hz1 hz2 hk9
                go_wp2_with fail
                all_goals
                  go_ret
                  rw[HF.out]
                  exact ⟨rfl,grown_set hg' _ _,hq2.out⟩
              · have hz6 : ((B.toNat : Int) == 0) = false := by rw [beq_eq_false_iff_ne]; omega
                have hz7:((k:Int)==9)=true:=by rw[beq_iff_eq];omega
                have hz8:¬(1:Int)<B.toNat:=by omega
                have hz9:9≤k:=by omega
                clear hz1 hz2 hk9 hB1
                go_wp2_with fail
                all_goals
                  go_ret
                  rw[HF.out]
                  exact ⟨rfl,grown_set hg' _ _,hq2.out⟩
      · have HF : Hid (varRes s p false = (0, p, true)) := by
          have:M.dec 0 0 (s.data.toList.drop p)=none:=by
            rw[HD.out]
            by_cases hk10:10≤k
            · exact M.dec_ten _ _ _ hk10
            · rw[List.drop_drop,List.drop_of_length_le (by simp;omega)];rfl
          show _=_
          unfold varRes;rw[this];rfl
        have hc2:=hrd.c2
        have hf2:=hrd.fz 2
        by_cases hz:(s.size:Int)-p≤k
        · by_cases hz10 : 10 ≤ (k : Int)
          · clear hlt
            go_wp2_with fail
            all_goals
              go_ret
              rw[HF.out]
              exact ⟨rfl,grown_set hg _ _,hrd.put2 _⟩
          · clear hlt
            first
              |(exfalso;omega)
              | (go_wp2_with fail
                 all_goals
                   go_ret
                   rw[HF.out]
                   exact ⟨rfl,grown_set hg _ _,hrd.put2 _⟩)
        · have hz10 : 10 ≤ (k : Int) := by omega
          clear hlt
          first
            |(exfalso;omega)
            | (go_wp2_with fail
               all_goals
                 go_ret
                 rw[HF.out]
                 exact ⟨rfl,grown_set hg _ _,hrd.put2 _⟩)
theorem rvar_any (b:Nat) (s:ByteArray) (p:Nat) (f:Bool) (w:World) (h:Rd 174 b s p f w) (hs:s.size≤1000000000000000000) (hp:p≤s.size) :
  Calls Tryz.prog 125 #[.pointer (some ⟨b,0,none⟩)] w fun e w'=>e=.returned (.int .i64 (varRes s p f).1)∧w.grownBy w' (some b)∧Rd 174 b s (varRes s p f).2.1 (varRes s p f).2.2 w':=by
 cases f with
 |true=>exact rvar_failed b s p w h
 |false=>exact rvar_ok b s p w h hs hp
theorem varRes_le (s:ByteArray) (p:Nat) (f:Bool) (hp:p≤s.size):(varRes s p f).2.1≤s.size:=by
 unfold varRes
 split
 ·exact hp
 ·split
  ·exact hp
  ·rename_i u n h
   have:=M.dec_len _ _ _ h
   have h2:=this.2.1
   simp at h2
   show p+n≤s.size
   omega
theorem lt_of_heap {w:World} {b:Nat} {o:Obj} (h:w.heap[b]? = some o):b<w.heap.size:=by
 rcases Nat.lt_or_ge b w.heap.size with h'|h'
 ·exact h'
 ·rw[Array.getElem?_eq_none h'] at h;simp at h
theorem Rd.keep {T b s p f} {w w1:World} (h:Rd T b s p f w) (hb:Below w.heap.size w w1):Rd T b s p f w1:=by
 obtain ⟨zs,h⟩:=h
 have hl:=lt_of_heap h
 exact ⟨zs,by rw[hb.block _ hl];exact h⟩
def Lie (g:Nat) (l:List UInt8) (w:World):Prop:=∀j (h:j<l.length),w.cell? ⟨g,j,none⟩=some (.int .u8 (l[j].toNat:Int))
theorem bytes_lie (x:World) (s:ByteArray) (cap:Nat) (fr:Nat×Nat):Lie x.heap.size s.data.toList (x.alloc (.cells (bytesRow s cap) 5 fr)):=by
 intro j hj
 rw[World.cell?_alloc_mark,bytesRow_at s cap j (by simpa using hj)]
 rfl
theorem bytesRow_size (s:ByteArray) (cap:Nat) (h:s.size≤cap):(bytesRow s cap).size=cap:=by
 unfold bytesRow
 rw[Array.size_append,Array.size_map,Array.size_replicate]
 show s.size+_=_
 omega
theorem bytes_free (x:World) (s:ByteArray) (cap j:Nat) (h:s.size≤cap) (hj:j<cap) :
  (x.alloc (.cells (bytesRow s cap) 5 ((bytesRow s cap).size,(bytesRow s cap).size+1))).frozen? ⟨x.heap.size,j,none⟩=false:=by
 rw[World.frozen?_alloc_mark,bytesRow_size s cap h]
 simp;omega
theorem bytes_some (x:World) (s:ByteArray) (cap j:Nat) (fr:Nat×Nat) (h:s.size≤cap) (hj:j<cap) :
  ((x.alloc (.cells (bytesRow s cap) 5 fr)).cell? ⟨x.heap.size,j,none⟩).isSome=true:=by
 rw[World.cell?_alloc_mark,Array.getElem?_eq_getElem (by rw[bytesRow_size s cap h];exact hj)];rfl
theorem conv_bytes (x:World) (s:ByteArray):∃W cap,(convert 9 57 (.string s)).run Tryz.prog x=.ok (.slice (some ⟨x.heap.size,0,none⟩) s.size cap) W∧s.size≤cap∧Lie x.heap.size s.data.toList W∧
  (∀j,j<cap→W.frozen? ⟨x.heap.size,j,none⟩=false∧(W.cell? ⟨x.heap.size,j,none⟩).isSome=true)∧Below x.heap.size x W∧x.heap.size<W.heap.size:=by
 have hg:=grownCap_ge x s.size 0 5
 refine ⟨_,_,run_bytes_of_string (P:=Tryz.prog) x 9 57 5 s Tryz.underlying9 Tryz.underlying57 Tryz.underlying5,hg,bytes_lie x.drew s _ _,fun j hj=>⟨bytes_free x.drew s _ j hg hj,bytes_some x.drew s _ j _ hg hj⟩,?_,?_⟩
 ·exact ((Below.refl _ _).drew).alloc (Nat.le_refl _) _
 ·rw[World.size_alloc];exact Nat.lt_succ_self _
section
variable {P:Program} {ops:Array Oper} {C:World→Prop} {Q:Act→Prop} {rest:List Oper} {o:Oper} {a:Act}
end
def textRes (s:ByteArray) (p:Nat) (f:Bool):ByteArray×Nat×Bool:=
 let v:=varRes s p f
 let t:=takeRes s v.2.1 v.2.2 v.1
 if t.2.2=true then (⟨#[]⟩,p,true) else (t.1,t.2.1,false)
theorem takeRes_fail (s:ByteArray) (p:Nat) (f:Bool) (n:Int) (h:(takeRes s p f n).2.2=true):(takeRes s p f n).1=⟨#[]⟩:=by
 unfold takeRes at *
 split
 ·rfl
 ·rename_i hh;rw[if_neg hh] at h;simp at h
set_option maxRecDepth 100000 in
set_option maxHeartbeats 400000 in
theorem rtext_any (b:Nat) (s:ByteArray) (p:Nat) (f:Bool) (w:World) (h:Rd 174 b s p f w) (hs:s.size≤1000000000000000000) (hp:p≤s.size) :
  Calls Tryz.prog 59 #[.pointer (some ⟨b,0,none⟩)] w fun e w'=>e=.returned (.string (textRes s p f).1)∧w.grownBy w' (some b)∧Rd 174 b s (textRes s p f).2.1 (textRes s p f).2.2 w':=by
 have hle:=varRes_le s p f hp
 have h1:=h.c1
 have hmf:∀(fn:Fn) (first cap:Array Value) (w:World),(Instr.makeFunc fn first cap).run Tryz.prog w=.ok (.func fn first cap) w:=fun _ _ _ _=>rfl
 go_enter Tryz.func59,Tryz.ntmps59
 go_wp2_with fail
 refine (rvar_any b s p f _ h hs hp).mono ?_
 rintro e x1 ⟨rfl,g1,r1⟩
 clear h1
 go_wp2_with fail
 refine (take_any b s _ _ _ _ r1 hs hle).mono ?_
 rintro e x2 ⟨rfl,g2,r2⟩
 have e2:=r2.c2
 have e1:=r2.fz 1
 have e3:=r2.c1
 have hF:=takeRes_fail s (varRes s p f).2.1 (varRes s p f).2.2 (varRes s p f).1
 have HT:Hid (textRes s p f=if (takeRes s (varRes s p f).2.1 (varRes s p f).2.2 (varRes s p f).1).2.2=true then (⟨#[]⟩,p,true) else ((takeRes s (varRes s p f).2.1 (varRes s p f).2.2 (varRes s p f).1).1,(takeRes s (varRes s p f).2.1 (varRes s p f).2.2 (varRes s p f).1).2.1,false)):=rfl
 generalize takeRes s (varRes s p f).2.1 (varRes s p f).2.2 (varRes s p f).1=t at *
 obtain ⟨t1,t2,t3⟩:=t
 simp only at *
 cases t3 with
 |true=>
  rw[hF rfl] at *
  clear hF
  go_wp2_with fail
  go_ret
  rw[HT.out]
  exact ⟨rfl,grown_set (grown_trans g1 g2) _ _,r2.put1 _⟩
 |false=>
  clear hF
  go_wp2_with fail
  go_ret
  rw[HT.out]
  exact ⟨rfl,grown_trans g1 g2,r2⟩
def bev (l:List UInt8):Nat:=l.foldl (fun a b=>a*256+b.toNat) 0
theorem bev_snoc (l:List UInt8) (b:UInt8):bev (l++[b])=bev l*256+b.toNat:=by simp[bev]
theorem bev_lt (l:List UInt8):bev l<256 ^ l.length:=by
 suffices ∀(l:List UInt8) (a:Nat),l.foldl (fun a b=>a*256+b.toNat) a<(a+1)*256 ^ l.length by
  have:=this l 0
  simpa [bev] using this
 intro l
 induction l with
 |nil=>intro a;simp
 |cons b l ih=>
  intro a
  have h:=ih (a*256+b.toNat)
  have hb:=b.toNat_lt
  rw[List.foldl_cons,List.length_cons,Nat.pow_succ]
  refine Nat.lt_of_lt_of_le h ?_
  rw[Nat.mul_comm (256 ^ l.length) 256,←Nat.mul_assoc]
  exact Nat.mul_le_mul_right _ (by omega)
theorem take_lt (l:List UInt8) (j:Nat) (hj:j≤7):bev (l.take j)<72057594037927936:=by
 have h:=bev_lt (l.take j)
 have h2:256 ^ (l.take j).length≤256 ^ 7:=Nat.pow_le_pow_right (by omega) (by rw[List.length_take];omega)
 omega
theorem take_size (s:ByteArray) (p:Nat) (f:Bool) (n:Int):(takeRes s p f (sz n)).1.size≤8:=by
 unfold takeRes
 split
 ·exact Nat.zero_le _
 ·have:=sz_le n
  simp;omega
theorem wrap64_small (u:Nat) (h:u<9223372036854775808):wrap64 (u:Int)=(u:Int):=IntWalk.wrap64_in _ ⟨by omega,by omega⟩
theorem take_snoc' (t:ByteArray) (j:Nat) (h:j<t.size):t.data.toList.take (j+1)=t.data.toList.take j++[t.data[j]]:=by
 rw[List.take_add_one,List.getElem?_eq_getElem (by simpa using h)];simp
theorem or_byte (u c:Nat) (hu:u<72057594037927936) (hc:c<256):bits .or .i64 (wrap64 ((u:Int)*256)) (c:Int)=wrap64 ((u*256+c:Nat):Int):=by
 have hX:(BitVec.ofInt 64 (wrap64 ((u:Int)*256))).toNat=u*256:=by
  rw[BitVec.toNat_ofInt]
  unfold wrap64
  omega
 have hc2:(BitVec.ofInt 64 (c:Int)).toNat=c:=by
  rw[BitVec.toNat_ofInt]
  omega
 have h3:u*256 ||| c=u*256+c:=by
  have h5:=Nat.shiftLeft_add_eq_or_of_lt (show c<2 ^ 8 by omega) u
  rw[Nat.shiftLeft_eq] at h5
  exact h5.symm
 show IntKind.i64.wrap ((BitVec.ofInt 64 (wrap64 ((u:Int)*256)) ||| BitVec.ofInt 64 (c:Int)).toNat:Int)=_
 rw[BitVec.toNat_or,hX,hc2,h3]
 exact IntWalk.i64_left _
theorem or_byte' (u c:Nat) (hu:u<72057594037927936) (hc:c<256):bits .or .i64 (wrap64 (wrap64 (u:Int)*256)) (wrap64 (c:Int))=wrap64 ((u*256+c:Nat):Int):=by
 rw[wrap64_small u (by omega),wrap64_small c (by omega)]
 exact or_byte u c hu hc
set_option maxRecDepth 100000 in
set_option maxHeartbeats 400000 in
theorem num_any (b:Nat) (s:ByteArray) (p:Nat) (f:Bool) (w:World) (n:Int) (h:Rd 174 b s p f w) (hs:s.size≤1000000000000000000) (hp:p≤s.size) :
  Calls Tryz.prog 60 #[.pointer (some ⟨b,0,none⟩),.int .i64 n] w fun e w'=>e=.returned (.int .i64 (wrap64 (bev (takeRes s p f (sz n)).1.data.toList)))∧w.grownBy w' (some b)∧Rd 174 b s (takeRes s p f (sz n)).2.1 (takeRes s p f (sz n)).2.2 w':=by
 go_enter Tryz.func60,Tryz.ntmps60
 go_wp2_with fail
 refine (size_any n _).mono ?_
 rintro e x1 ⟨rfl,rfl⟩
 go_wp2_with fail
 refine (take_any b s p f _ (sz n) h hs hp).mono ?_
 rintro e x2 ⟨rfl,g2,r2⟩
 have hsz:=take_size s p f n
 generalize ht:(takeRes s p f (sz n)).1=t at *
 have HT:=Lib.hid ht
 clear ht
 obtain ⟨W1,cap,hcb,hcap,hlie,hfree,hbW,hgW⟩:=conv_bytes x2 t
 go_wp2_with fail
 clear hcb
 have hlen:t.data.toList.length=t.size:=Array.length_toList
 have HB:W1.grownBy W1 (some b):=grown_refl _ _
 have G:w.grownBy W1 (some b):=grown_trans g2 (grown_below hbW)
 have R:Rd 174 b s (takeRes s p f (sz n)).2.1 (takeRes s p f (sz n)).2.2 W1:=r2.keep hbW
 clear hfree hbW hgW g2 r2 h
 go_loopw [5,14] (fun a i wr=>∃j:Nat,j≤t.size∧i=.int .i64 j∧a=.int .i64 (wrap64 (bev (t.data.toList.take j)))∧Hid (wr=W1)) (fun a i _=>t.size-(intOf i).toNat)
 case atStart=>exact ⟨0,Nat.zero_le _,rfl,by rw[List.take_zero];unfold bev wrap64;rfl,rfl⟩
 case round=>
  obtain ⟨j,hj,rfl,rfl,HW⟩:=hrel
  by_cases hlt:j<t.size
  ·have hi:j<t.data.toList.length:=by omega
   have f1:=hlie j hi
   rw[←HW.out] at f1
   go_wp2_with fail
   go_roundw
   case rel=>
    refine ⟨j+1,by omega,by go_num,?_,HW⟩
    rw[take_snoc' t j hlt,bev_snoc]
    congr 1
    exact or_byte' _ _ (take_lt _ _ (by omega)) (UInt8.toNat_lt _)
   case measure=>simp[intOf];omega
  ·go_wp2_with fail
   go_ret
   have hje:j=t.size:=by omega
   rw[List.take_of_length_le (by omega)]
   rw[HW.out,HT.out]
   exact ⟨rfl,G,R⟩
end Go.Proofs.YtpdckpifhniioaaGreat.Oct
end
