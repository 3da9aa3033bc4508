/- Part 3 of what CodecPacks rests on. -/
import Derived.Test.YtpdckpifhniioaaGreatProg
import Derived.WalkKit
import Derived.WalkLawsBesides
import Derived.WalkSpells
import Derived.Lib.Hide
import Derived.Laws.IdiomStrings
import Derived.Deep.WholeRow
section
set_option linter.unusedVariables false
set_option linter.unusedSimpArgs false
namespace Go.Proofs.YtpdckpifhniioaaGreat.Oct
open Go.RowKit
open Go.Proofs.YtpdckpifhniioaaGreat
theorem ret_int {k:IntKind} {a b:Int} (h:a=b):Ending.returned (.int k a)=.returned (.int k b):=by rw[h]
theorem ret_str {a b:ByteArray} (h:a=b):Ending.returned (.string a)=.returned (.string b):=by rw[h]
def bcells (l:List UInt8):Array Value:=(l.map fun b=>Value.int .u8 (b.toNat:Int)).toArray
theorem bcells_at (l:List UInt8) (i:Nat) (h:i<l.length):(bcells l)[i]? = some (.int .u8 (l[i].toNat:Int)):=by
 simp[bcells,List.getElem?_eq_getElem h]
section
variable {P:Program}
theorem conv_row (w:World) (src dst e:TypeId) (hs:P.underlying src=some (.slice e)) (he:P.underlying e=some (.int .u8)) (hd:P.underlying dst=some .string)
  (g:Nat) (t:TypeId) (fr:Nat×Nat) (C:Array Value) (hg:w.heap[g]? = some (.cells C t fr)) (k n cap:Nat) (l:List UInt8) (hn:l.length=n)
  (hl:∀j (h:j<l.length),C[k+j]? = some (.int .u8 (l[j].toNat:Int))) :
  (convert src dst (.slice (some ⟨g,k,none⟩) n cap)).run P w=.ok (.string ⟨l.toArray⟩) w:=by
 subst hn
 refine run_convert_bytes_back w src dst e _ cap l hs he hd fun j hj=>?_
 have:(⟨g,k,none⟩:Addr).add j=⟨g,k+j,none⟩:=by unfold Addr.add;split<;>simp_all
 rw[this]
 unfold World.cell?
 rw[hg]
 simpa using hl j hj
end
def bvals (l:List UInt8):List Value:=l.map fun b=>Value.int .u8 (b.toNat:Int)
theorem bvals_length (l:List UInt8):(bvals l).length=l.length:=by simp[bvals]
theorem bvals_append (l m:List UInt8):bvals (l++m)=bvals l++bvals m:=by simp[bvals]
section
variable {P:Program}
theorem wp_push {ops:Array Oper} {rest:List Oper} {o:Oper} {a:Act} {Q:Exit→Act→World→Prop} (w:World) (hgd:o.guard=none) (s x:Operand) (t e:TypeId)
  (ho:o.op=.call {callee:=.builtin .append,args:=#[s,x],argTypes:=#[t,t]}) (ht:P.underlying t=some (.slice e))
  (z:Value) (bytes:Nat) (hinfo:(P.info? e).map (fun i=>(i.zero,i.size,i.bytes))=some (some z,1,bytes)) (hz:z.cells.size=1)
  (base:Nat) (v:Value) (n:Nat) (xs:List Value) (hs:a.eval s=v) (hown:w.ownsRow base e 1 v n xs)
  (u:Value) (fr:Nat×Nat) (hx:a.eval x=.slice (some ⟨w.heap.size,0,none⟩) 1 1) (hu:u.oneCell'=true)
  (hlen:n+1≤1000000000) (hby:bytes≤64) (hbase:base≤w.heap.size)
  (h:∀v' w',w'.ownsRow base e 1 v' (n+1) (xs++[u])→v'≠.slice none 0 0→Below base w w'→w.heap.size<w'.heap.size→wpList P ops Q rest (a.put o.dst v') w') :
  wpList P ops Q (o::rest) a (w.alloc (.cells #[u] e fr)):=by
 obtain ⟨i0,hi,hz0,hz1,hz2⟩:=info_parts hinfo
 refine wpList_append_own _ hgd s x t ho base e i0 z 1 bytes ht hi hz0 hz1 hz2 hz (by decide) v n xs hs (hown.alloc _) ⟨w.heap.size,0,none⟩ 1 1 [u] hx rfl ?_ ?_ ?_ ?_ ?_ ?_
 ·intro j u' hj
  match j,hj with
  |0,hj=>
   simp at hj
   subst hj
   have:(⟨w.heap.size,0,none⟩:Addr).add 0=⟨w.heap.size,0,none⟩:=by unfold Addr.add;split<;>simp_all
   rw[this,World.cell?_alloc_mark];rfl
 ·intro u' h'
  simp at h'
  subst h';exact hu
 ·unfold maxLen;omega
 ·exact Nat.le_trans (Nat.mul_le_mul hlen hby) (by omega)
 ·rw[World.size_alloc];omega
 ·intro v' w' hown' hg hnil
  have hsz:=hg.size
  rw[World.size_alloc] at hsz
  refine h v' w' hown' (fun hv=>by have:=(hnil.1 hv).2;omega) ?_ (by omega)
  refine ((Below.refl base w).alloc hbase _).grown hg (by rw[World.size_alloc];omega) fun k hk=>?_
  exact (hown.lt k hk).1
theorem conv_own (w:World) (src dst e:TypeId) (hs:P.underlying src=some (.slice e)) (he:P.underlying e=some (.int .u8)) (hd:P.underlying dst=some .string)
  (base:Nat) (v:Value) (n:Nat) (l:List UInt8) (hown:w.ownsRow base e 1 v n (bvals l)):(convert src dst v).run P w=.ok (.string ⟨l.toArray⟩) w:=by
 have hl:l.length=n:=by have:=hown.1;rw[bvals_length] at this;omega
 rcases hown.2 with ⟨rfl,h0⟩|⟨g,cap,cur,rfl,_,hg,hnc,_,hsz,htk⟩
 ·subst h0
  have:l=[]:=List.eq_nil_of_length_eq_zero hl
  subst this
  rw[run_convert_bytes_string w src dst e none 0 0 hs he hd]
  simp[Conv.bytesToString]
  rfl
 ·refine conv_row w src dst e hs he hd g e _ cur hg 0 n cap l hl fun j hj=>?_
  have h1:(cur.toList.take (n*1))[j]? = (bvals l)[j]?:=by rw[htk]
  rw[List.getElem?_take,if_pos (by omega)] at h1
  rw[Nat.zero_add,←Array.getElem?_toList,h1]
  simp[bvals,List.getElem?_eq_getElem hj]
end
def u64 (n:Int):Nat:=(n % 18446744073709551616).toNat
theorem u64_eq (n:Int):IntKind.u64.wrap n=((u64 n:Nat):Int):=by rw[IntKind.wrap_u64];unfold u64;omega
theorem u64_lt (n:Int):u64 n<18446744073709551616:=by unfold u64;omega
theorem str_append (l m:List UInt8):(⟨l.toArray⟩:ByteArray)++⟨m.toArray⟩=⟨(l++m).toArray⟩:=by
 apply ByteArray.ext;simp
theorem str_mk (s:ByteArray):(⟨s.data.toList.toArray⟩:ByteArray)=s:=by
 apply ByteArray.ext;simp
namespace M
def be:Nat→Nat→List UInt8
 |0,_=>[]
 |k+1,u=>UInt8.ofNat (u / 256 ^ k)::be k u
theorem be_length (k u:Nat):(be k u).length=k:=by
 induction k with
 |zero=>rfl
 |succ k ih=>simp[be,ih]
theorem be_drop (k j u:Nat):(be (k+j) u).drop k=be j u:=by
 induction k with
 |zero=>simp
 |succ k ih=>rw[Nat.add_right_comm,be,List.drop_succ_cons,ih]
def leb (u:Nat):List UInt8:=if u<128 then [UInt8.ofNat u] else UInt8.ofNat (u % 128+128)::leb (u / 128)
termination_by u
decreasing_by omega
theorem leb_small (u:Nat) (h:u<128):leb u=[UInt8.ofNat u]:=by rw[leb,if_pos h]
theorem leb_large (u:Nat) (h:¬u<128):leb u=UInt8.ofNat (u % 128+128)::leb (u / 128):=by rw[leb,if_neg h]
def cnt (u:Nat):Nat:=if u=0 then 0 else 1+cnt (u / 128)
termination_by u
decreasing_by omega
theorem cnt_zero:cnt 0=0:=by rw[cnt,if_pos rfl]
theorem cnt_pos (u:Nat) (h:0<u):cnt u=1+cnt (u / 128):=by rw[cnt,if_neg (by omega)]
theorem leb_length (u:Nat):(leb u).length=1+cnt (u / 128):=by
 induction u using Nat.strongRecOn with
 |_ u ih=>
  by_cases h:u<128
  ·rw[leb_small u h,Nat.div_eq_of_lt h,cnt_zero];rfl
  ·rw[leb_large u h,List.length_cons,ih (u / 128) (by omega),cnt_pos (u / 128) (by omega)];omega
theorem cnt_le (k u:Nat) (h:u<128 ^ k):cnt u≤k:=by
  induction k generalizing u with
  | zero => have : u = 0 := by simpa using h
            subst this;rw[cnt_zero];omega
  | succ k ih =>
    by_cases h0:u=0
    · subst h0;rw[cnt_zero];omega
    · rw [cnt_pos u (by omega)]
      have:=ih (u / 128) (by rw[Nat.pow_succ] at h;omega)
      omega
theorem leb_le (u:Nat) (h:u<18446744073709551616):(leb u).length≤10:=by
 rw[leb_length]
 have:=cnt_le 9 (u / 128) (by omega)
 omega
theorem leb_pos (u:Nat):0<(leb u).length:=by rw[leb_length];omega
def poly:Nat:=3988292384
def step (c:Nat):Nat:=(c >>> 1) ^^^ (if c % 2=1 then poly else 0)
def steps:Nat→Nat→Nat
 |0,c=>c
 |n+1,c=>steps n (step c)
def crcB (c b:Nat):Nat:=steps 8 (c ^^^ b)
def crcL:Nat→List UInt8→Nat
 |c,[]=>c
 |c,b::l=>crcL (crcB c b.toNat) l
def sum (l:List UInt8):Nat:=4294967295-crcL 4294967295 l
theorem shr1 (c:Nat):c >>> 1=c / 2:=by rw[Nat.shiftRight_eq_div_pow]
theorem step_lin (a b:Nat):step (a ^^^ b)=step a ^^^ step b:=by
 unfold step
 rw[Nat.shiftRight_xor_distrib]
 have e:(a ^^^ b) % 2=(a+b) % 2:=by
  have:=Nat.xor_mod_two_eq_one (a:=a) (b:=b)
  omega
 rcases Nat.mod_two_eq_zero_or_one a with ha|ha<;>rcases Nat.mod_two_eq_zero_or_one b with hb|hb
 ·rw[if_neg (by omega),if_neg (by omega),if_neg (by omega)];simp
 ·rw[if_pos (by omega),if_neg (by omega),if_pos (by omega)];simp[Nat.xor_assoc]
 ·rw[if_pos (by omega),if_pos (by omega),if_neg (by omega)]
  simp only[Nat.xor_zero];rw[Nat.xor_assoc,Nat.xor_assoc,Nat.xor_comm (b >>> 1) poly]
 ·rw[if_neg (by omega),if_pos (by omega),if_pos (by omega)]
  have:(a >>> 1 ^^^ poly) ^^^ (b >>> 1 ^^^ poly)=(a >>> 1 ^^^ b >>> 1) ^^^ (poly ^^^ poly):=by
   rw[Nat.xor_assoc,Nat.xor_assoc,←Nat.xor_assoc poly,Nat.xor_comm poly (b >>> 1),Nat.xor_assoc]
  rw[this,Nat.xor_self]
theorem step_odd (y:Nat) (h:y % 2=1):step y=(y / 2) ^^^ poly:=by unfold step;rw[if_pos h,shr1]
theorem step_even (y:Nat) (h:¬y % 2=1):step y=y / 2:=by unfold step;rw[if_neg h,shr1];simp
theorem steps_lin (n a b:Nat):steps n (a ^^^ b)=steps n a ^^^ steps n b:=by
 induction n generalizing a b with
 |zero=>rfl
 |succ n ih=>rw[steps,steps,steps,step_lin,ih]
theorem steps_shl (n b:Nat):steps n (b <<< n)=b:=by
 induction n with
 |zero=>simp[steps]
 |succ n ih=>
  rw[steps]
  have:step (b <<< (n+1))=b <<< n:=by
   unfold step
   have h0:b <<< (n+1)=2*(b <<< n):=by rw[Nat.shiftLeft_succ]
   rw[h0,if_neg (by omega),shr1]
   simp
  rw[this,ih]
theorem step_lt (c:Nat) (h:c<4294967296):step c<4294967296:=by
 unfold step
 have h1:c >>> 1<2 ^ 32:=by rw[shr1];omega
 have h2:(if c % 2=1 then poly else 0)<2 ^ 32:=by unfold poly;split<;>omega
 exact Nat.xor_lt_two_pow h1 h2
theorem steps_lt (n c:Nat) (h:c<4294967296):steps n c<4294967296:=by
 induction n generalizing c with
 |zero=>exact h
 |succ n ih=>exact ih _ (step_lt c h)
theorem xor_lt32 {a b:Nat} (ha:a<4294967296) (hb:b<4294967296):a ^^^ b<4294967296:=
 Nat.xor_lt_two_pow (n:=32) ha hb
theorem crcB_lt (c b:Nat) (hc:c<4294967296) (hb:b<256):crcB c b<4294967296:=
 steps_lt 8 _ (xor_lt32 hc (by omega))
theorem crcL_append (l m:List UInt8):∀c,crcL c (l++m)=crcL (crcL c l) m:=by
 induction l with
 |nil=>intro c;rfl
 |cons b l ih=>intro c;exact ih _
theorem split8 (c:Nat):c=(c % 256) ^^^ ((c >>> 8) <<< 8):=by
 apply Nat.eq_of_testBit_eq
 intro i
 rw[Nat.testBit_xor,Nat.testBit_shiftLeft,Nat.testBit_shiftRight,show (256:Nat)=2 ^ 8 from rfl,Nat.testBit_mod_two_pow]
 by_cases h:i<8
 ·simp[h,show ¬(8≤i) by omega]
 ·simp[h,show 8≤i by omega,show 8+(i-8)=i by omega]
theorem crcB_table (c b:Nat):crcB c b=steps 8 ((c % 256) ^^^ b) ^^^ (c >>> 8):=by
 unfold crcB
 conv=>lhs;rw[split8 c]
 rw[Nat.xor_assoc,Nat.xor_comm _ b,←Nat.xor_assoc,steps_lin,steps_shl]
end M
def sz (n:Int):Nat:=(max 0 (min n 8)).toNat
theorem sz_le (n:Int):sz n≤8:=by unfold sz;omega
theorem size_any (n:Int) (w:World) :
  Calls Tryz.prog 116 #[.int .i64 n] w fun e w'=>e=.returned (.int .i64 (sz n))∧w=w':=by
 go_enter Tryz.func116,Tryz.ntmps116
 go_wp2
 all_goals
  go_ret
  exact ⟨ret_int (by unfold sz;split at *<;>omega),rfl⟩
theorem size_ref (n:Int) (w:World) :
  Calls Tryz.prog 136 #[.int .i64 n] w fun e w'=>e=.returned (.int .i64 (sz n))∧w=w':=by
 go_enter Tryz.func136,Tryz.ntmps136
 go_wp2
 all_goals
  go_ret
  exact ⟨ret_int (by unfold sz;split at *<;>omega),rfl⟩
theorem be8_cells (u:Nat) (h:u<18446744073709551616) :
  #[Value.int .u8 ((u:Int) / 72057594037927936),.int .u8 ((u:Int) / 281474976710656 % 256),.int .u8 ((u:Int) / 1099511627776 % 256),
   .int .u8 ((u:Int) / 4294967296 % 256),.int .u8 ((u:Int) / 16777216 % 256),.int .u8 ((u:Int) / 65536 % 256),.int .u8 ((u:Int) / 256 % 256),.int .u8 ((u:Int) % 256)]=bcells (M.be 8 u):=by
 have e:(u:Int) / 72057594037927936=(u:Int) / 72057594037927936 % 256:=by omega
 rw[e]
 simp[bcells,M.be]
theorem be_window (u s k:Nat) (h:s=0∨k+s=8):∀j (hj:j<(M.be s u).length),(bcells (M.be 8 u))[k+j]? = some (.int .u8 (((M.be s u)[j]).toNat:Int)):=by
 intro j hj
 have hl:j<s:=by rw[M.be_length] at hj;exact hj
 have h8:k+s=8:=by omega
 have hd:=M.be_drop k s u
 rw[h8] at hd
 rw[bcells_at _ _ (by rw[M.be_length];omega)]
 congr 3
 simp only[←hd,List.getElem_drop]
set_option maxRecDepth 100000 in
set_option maxHeartbeats 400000 in
theorem put_any (n m:Int) (w:World) :
  Calls Tryz.prog 50 #[.int .i64 n,.int .i64 m] w fun e w'=>e=.returned (.string ⟨(M.be (sz m) (u64 n)).toArray⟩)∧Below w.heap.size w w':=by
 have hs8:=sz_le m
 have hu:=u64_eq n
 have hul:=u64_lt n
 go_enter Tryz.func50,Tryz.ntmps50
 go_wp2_with fail
 refine wp_loop_rounds 9 ?_
 iterate 9 (rw[rounds_succ];go_wp2_with fail)
 refine (size_any _ _).mono ?_
 rintro e w' ⟨rfl,rfl⟩
 have hk:sz m=0∨sz m=1∨sz m=2∨sz m=3∨sz m=4∨sz m=5∨sz m=6∨sz m=7∨sz m=8:=by omega
 rcases hk with h|h|h|h|h|h|h|h|h
 all_goals
  go_wp2_with fail
  rw[be8_cells _ hul]
  rw[conv_row (P:=Tryz.prog) _ 57 9 5 Tryz.underlying57 Tryz.underlying5 Tryz.underlying9 w.heap.size 165 (0,0) (bcells (M.be 8 (u64 n))) (heap_alloc_new _ _) _ _ _ (M.be (sz m) (u64 n)) (by rw[M.be_length,h]) (be_window _ _ _ (by omega))]
  go_wp2_with fail
  go_ret
  exact ⟨by first|(rw[h];done)|(rw[h];rfl),(Below.refl _ _).alloc (Nat.le_refl _) _⟩
theorem Tryz.info5:(Tryz.prog.info? 5).map (fun i=>(i.zero,i.size,i.bytes))=some (some (.int .u8 0),1,1):=by kernel_rfl
theorem or128_nat:∀x:Fin 256,(x.val ||| 128)=x.val % 128+128:=by decide +kernel
theorem or128 (r:Nat):bits .or .u8 ((r:Int) % 256) 128=((UInt8.ofNat (r % 128+128)).toNat:Int):=by
 have h:=u8_or_nat (r % 256) 128 (by omega) (by omega)
 have h2:=or128_nat ⟨r % 256,by omega⟩
 simp only at h2
 rw[h2] at h
 rw[show ((r % 256:Nat):Int)=(r:Int) % 256 by omega,show ((128:Nat):Int)=128 from rfl] at h
 rw[h]
 simp
 omega
theorem byte_small (r:Nat) (h:r<128):((r:Nat):Int)=((UInt8.ofNat r).toNat:Int):=by simp;omega
theorem vown {w:World} {base:Nat} {v:Value} {n:Nat} {l:List UInt8} {x:Int} {b:UInt8} (h:w.ownsRow base 5 1 v (n+1) (bvals l++[.int .u8 x])) (e:x=(b.toNat:Int)) (hn:l.length=n) :
  w.ownsRow base 5 1 v (l++[b]).length (bvals (l++[b])):=by
 subst e hn
 rw[bvals_append,List.length_append]
 exact h
set_option maxRecDepth 100000 in
set_option maxHeartbeats 400000 in
theorem var_any (n:Int) (w:World) :
  Calls Tryz.prog 48 #[.int .i64 n] w fun e w'=>e=.returned (.string ⟨(M.leb (u64 n)).toArray⟩)∧Below w.heap.size w w':=by
 have hu:=u64_eq n
 have hul:=u64_lt n
 have hll:=M.leb_le _ hul
 go_enter Tryz.func48,Tryz.ntmps48
 go_wp2_with fail
 go_loopw [3,4] (fun v u wr=>∃(l:List UInt8) (r:Nat),u=.int .u64 (r:Int)∧Hid (r<18446744073709551616)∧Hid (M.leb (u64 n)=l++M.leb r)∧wr.ownsRow w.heap.size 5 1 v l.length (bvals l)∧Below w.heap.size w wr)
  (fun _ u _=>(intOf u).toNat)
 case atStart=>exact ⟨[],u64 n,rfl,hul,rfl,World.ownsRow_nil _ _ _ _,Below.refl _ _⟩
 case round=>
  obtain ⟨l,r,rfl,hr,HL,hown,hb⟩:=hrel
  clear hu hul
  have hlen:l.length+(M.leb r).length≤10:=by rw[←List.length_append,←HL.out];exact hll
  have hpos:=M.leb_pos r
  have hsz:=hb.size
  clear hll
  go_wp2_with (at_builtin;refine wp_push _ rfl _ _ 57 5 rfl Tryz.underlying57 (.int .u8 0) 1 Tryz.info5 rfl w.heap.size _ _ _ rfl hown _ _ rfl rfl (by omega) (by omega) hsz ?_)
  ·intro v' w' hown' hne hb' hsz'
   have hge:128≤(r:Int):=by assumption
   have hown2:=vown hown' (or128 r) rfl
   clear hown' hown
   go_wp2_with fail
   go_roundw
   case rel=>exact ⟨_,r / 128,by go_num,(show r / 128<18446744073709551616 by have:=hr.out;omega),(show M.leb (u64 n)=_ by rw[HL.out,M.leb_large r (by omega),List.append_assoc];rfl),hown2,hb.trans hb'⟩
   case measure=>simp[intOf];omega
  ·intro v' w' hown' hne hb' hsz'
   have hge:(r:Int)<128:=by assumption
   have hown2:=vown hown' (byte_small r (by omega)) rfl
   have hc:=conv_own (P:=Tryz.prog) w' 57 9 5 Tryz.underlying57 Tryz.underlying5 Tryz.underlying9 _ _ _ _ hown2
   have hfin:M.leb (u64 n)=l++[UInt8.ofNat r]:=by rw[HL.out,M.leb_small r (by omega)]
   have HF:=Lib.hid hfin
   clear hown' hown hfin
   go_wp2_with fail
   go_ret
   exact ⟨by rw[HF.out];rfl,hb.trans hb'⟩
theorem byte_large (r:Nat):((r:Int) % 128+128)=((UInt8.ofNat (r % 128+128)).toNat:Int):=by simp;omega
set_option maxRecDepth 100000 in
set_option maxHeartbeats 400000 in
theorem var_ref (n:Int) (w:World) :
  Calls Tryz.prog 73 #[.int .i64 n] w fun e w'=>e=.returned (.string ⟨(M.leb (u64 n)).toArray⟩)∧Below w.heap.size w w':=by
 have hu:=u64_eq n
 have hul:=u64_lt n
 have hll:=M.leb_le _ hul
 go_enter Tryz.func73,Tryz.ntmps73
 go_wp2_with fail
 go_loopw [3,4] (fun v u wr=>∃(l:List UInt8) (r:Nat),u=.int .u64 (r:Int)∧Hid (r<18446744073709551616)∧Hid (M.leb (u64 n)=l++M.leb r)∧wr.ownsRow w.heap.size 5 1 v l.length (bvals l)∧Below w.heap.size w wr)
  (fun _ u _=>(intOf u).toNat)
 case atStart=>exact ⟨[],u64 n,rfl,hul,rfl,World.ownsRow_lit w #[] 0 (Nat.le_refl _) (Nat.zero_le _) rfl,(Below.refl _ _).alloc (Nat.le_refl _) _⟩
 case round=>
  obtain ⟨l,r,rfl,hr,HL,hown,hb⟩:=hrel
  clear hu hul
  have hlen:l.length+(M.leb r).length≤10:=by rw[←List.length_append,←HL.out];exact hll
  have hpos:=M.leb_pos r
  have hsz:=hb.size
  clear hll
  have hr2:IntKind.u64.wrap ((r:Int) / 128)=((r / 128:Nat):Int):=by have:=hr.out;rw[IntKind.wrap_u64];omega
  go_wp2_with (at_builtin;refine wp_push _ rfl _ _ 57 5 rfl Tryz.underlying57 (.int .u8 0) 1 Tryz.info5 rfl w.heap.size _ _ _ rfl hown _ _ rfl rfl (by omega) (by omega) hsz ?_)
  ·intro v' w' hown' hne hb' hsz'
   have hge:128≤(r:Int):=by assumption
   have hown2:=vown hown' (byte_large r) rfl
   clear hown' hown
   go_wp2_with fail
   go_roundw
   case rel=>exact ⟨_,r / 128,by go_num,(show r / 128<18446744073709551616 by have:=hr.out;omega),(show M.leb (u64 n)=_ by rw[HL.out,M.leb_large r (by omega),List.append_assoc];rfl),hown2,hb.trans hb'⟩
   case measure=>simp[intOf];omega
  ·intro v' w' hown' hne hb' hsz'
   have hge:(r:Int)<128:=by assumption
   have hown2:=vown hown' (byte_small r (by omega)) rfl
   have hc:=conv_own (P:=Tryz.prog) w' 57 9 5 Tryz.underlying57 Tryz.underlying5 Tryz.underlying9 _ _ _ _ hown2
   have hfin:M.leb (u64 n)=l++[UInt8.ofNat r]:=by rw[HL.out,M.leb_small r (by omega)]
   have HF:=Lib.hid hfin
   clear hown' hown hfin
   go_wp2_with fail
   go_ret
   exact ⟨by rw[HF.out];rfl,hb.trans hb'⟩
def txt (s:ByteArray):List UInt8:=M.leb s.size++s.data.toList
theorem txt_eq (s:ByteArray):(⟨(M.leb s.size).toArray⟩:ByteArray)++s=⟨(txt s).toArray⟩:=by
 unfold txt;rw[←str_append,str_mk]
theorem u64_nat (n:Nat) (h:n≤9223372036854775807):u64 (n:Int)=n:=by unfold u64;omega
set_option maxRecDepth 100000 in
set_option maxHeartbeats 400000 in
theorem text_any (s:ByteArray) (w:World) (hs:s.size≤1000000000000000000) :
  Calls Tryz.prog 55 #[.string s] w fun e w'=>e=.returned (.string ⟨(txt s).toArray⟩)∧Below w.heap.size w w':=by
 have hl:=M.leb_le (u64 s.size) (u64_lt _)
 have HF:Hid ((⟨(M.leb (u64 s.size)).toArray⟩:ByteArray)++s=⟨(txt s).toArray⟩):=by rw[u64_nat _ (by omega)];exact txt_eq s
 go_enter Tryz.func55,Tryz.ntmps55
 go_wp2_with fail
 refine (var_any _ _).mono ?_
 rintro e w' ⟨rfl,hb⟩
 go_wp2_with fail
 go_ret
 exact ⟨ret_str HF.out,hb⟩
set_option maxRecDepth 100000 in
set_option maxHeartbeats 400000 in
theorem text_ref (s:ByteArray) (w:World) (hs:s.size≤1000000000000000000) :
  Calls Tryz.prog 76 #[.string s] w fun e w'=>e=.returned (.string ⟨(txt s).toArray⟩)∧Below w.heap.size w w':=by
 have hl:=M.leb_le (u64 s.size) (u64_lt _)
 have HF:Hid ((⟨(M.leb (u64 s.size)).toArray⟩:ByteArray)++s=⟨(txt s).toArray⟩):=by rw[u64_nat _ (by omega)];exact txt_eq s
 go_enter Tryz.func76,Tryz.ntmps76
 go_wp2_with fail
 refine (var_ref _ _).mono ?_
 rintro e w' ⟨rfl,hb⟩
 go_wp2_with fail
 go_ret
 exact ⟨ret_str HF.out,hb⟩
def dn (u k:Nat):Nat:=u / 256 ^ k
theorem dn_zero (u:Nat):dn u 0=u:=by simp[dn]
theorem dn_succ (u k:Nat):dn u (k+1)=dn u k / 256:=by unfold dn;rw[Nat.pow_succ,Nat.div_div_eq_div_mul]
theorem dn_le (u k:Nat):dn u k≤u:=Nat.div_le_self _ _
theorem one_byte (r:Nat):∀j (h:j < [UInt8.ofNat r].length),(#[Value.int .u8 ((r:Int) % 256)]:Array Value)[0+j]? = some (.int .u8 (([UInt8.ofNat r][j]).toNat:Int)):=by
 intro j hj
 have:j=0:=by simpa using hj
 subst this
 simp
theorem be_dn (u k:Nat):M.be (k+1) u=UInt8.ofNat (dn u k)::M.be k u:=rfl
set_option maxRecDepth 100000 in
set_option maxHeartbeats 400000 in
theorem put_ref (n m:Int) (w:World) :
  Calls Tryz.prog 74 #[.int .i64 n,.int .i64 m] w fun e w'=>e=.returned (.string ⟨(M.be (sz m) (u64 n)).toArray⟩)∧Below w.heap.size w w':=by
 have hs8:=sz_le m
 have hu:=u64_eq n
 have hul:=u64_lt n
 go_enter Tryz.func74,Tryz.ntmps74
 go_wp2_with fail
 clear hu
 go_loopw [5,6,7] (fun s u i wr=>∃k r:Nat,k≤sz m∧i=.int .i64 k∧u=.int .u64 r∧Hid (r=dn (u64 n) k)∧s=.string ⟨(M.be k (u64 n)).toArray⟩∧Below w.heap.size w wr)
  (fun _ _ i _=>9-(intOf i).toNat)
 case atStart=>exact ⟨0,u64 n,Nat.zero_le _,rfl,rfl,(dn_zero _).symm,rfl,Below.refl _ _⟩
 case round=>
  obtain ⟨k,r,hk,rfl,rfl,HR,rfl,hb⟩:=hrel
  have hr:IntKind.u64.wrap ((r:Int) / 256)=((r / 256:Nat):Int):=by have h1:=HR.out;have:=dn_le (u64 n) k;rw[IntKind.wrap_u64];omega
  have hbl:(M.be k (u64 n)).length≤8:=by rw[M.be_length];omega
  clear hul
  go_wp2_with fail
  refine (size_ref _ _).mono ?_
  rintro e w' ⟨rfl,rfl⟩
  by_cases hlt:k<sz m
  ·go_wp2_with fail
   rw[conv_row (P:=Tryz.prog) _ 57 9 5 Tryz.underlying57 Tryz.underlying5 Tryz.underlying9 wr.heap.size 5 (0,0) #[.int .u8 ((r:Int) % 256)] (heap_alloc_new _ _) 0 1 1 [UInt8.ofNat r] rfl (one_byte r)]
   have HA:Hid ((⟨[UInt8.ofNat r].toArray⟩:ByteArray)++⟨(M.be k (u64 n)).toArray⟩=⟨(M.be (k+1) (u64 n)).toArray⟩):=by
    rw[str_append,be_dn,HR.out];rfl
   go_wp2_with fail
   go_roundw
   case rel=>exact ⟨k+1,r / 256,by omega,by go_num,by go_num,(show r / 256=_ by rw[dn_succ,←HR.out]),by rw[←HA.out],hb.alloc hb.size _⟩
   case measure=>simp[intOf];omega
  ·go_wp2_with fail
   have hkk:k=sz m:=by omega
   go_ret
   exact ⟨by rw[←hkk];rfl,hb⟩
def tabC:Array Value:=((List.range 256).map fun i=>Value.int .u32 (M.steps 8 i:Nat)).toArray
theorem tabC_at (i:Nat) (h:i<256):tabC[i]? = some (.int .u32 (M.steps 8 i:Nat)):=by
 simp[tabC,h]
theorem not_nat (c:Nat) (h:c<4294967296):4294967295 ^^^ c=4294967295-c:=by
 apply Nat.eq_of_testBit_eq
 intro i
 have h1:=Nat.testBit_two_pow_sub_succ (x:=c) (n:=32) h i
 have h2:=Nat.testBit_two_pow_sub_one 32 i
 rw[show 4294967295-c=2 ^ 32-(c+1) by omega,h1,Nat.testBit_xor,show (4294967295:Nat)=2 ^ 32-1 from rfl,h2]
 by_cases hi:i<32
 ·simp[hi]
 ·have:c.testBit i=false:=Nat.testBit_lt_two_pow (Nat.lt_of_lt_of_le (show c<2 ^ 32 from h) (Nat.pow_le_pow_right (by omega) (by omega:32≤i)))
  simp[hi,this]
theorem not_u32 (c:Nat) (h:c<4294967296):bits .xor .u32 IntKind.u32.max (c:Int)=((4294967295-c:Nat):Int):=by
 have h1:=u32_xor_nat 4294967295 c (by omega) h
 rw[not_nat c h] at h1
 exact h1
theorem tabC_size:tabC.size=256:=by simp[tabC]
theorem Tryz.size168:(Tryz.prog.info? 168).map (·.size)=some tabC.size:=by rw[tabC_size];kernel_rfl
theorem tabC_one:tabC.all (·.oneCell')=true:=by
 rw[Array.all_eq_true_iff_forall_mem]
 intro x hx
 simp[tabC] at hx
 obtain ⟨i,_,rfl⟩:=hx
 rfl
theorem step_go (x:Nat) (h:x<4294967296):bits .xor .u32 ((x:Int) / 2) (3988292384*bits .and .u32 (x:Int) 1 % 4294967296)=((M.step x:Nat):Int):=by
 have h1:=u32_and_nat x 1 h (by omega)
 rw[show ((1:Nat):Int)=1 from rfl] at h1
 rw[h1,Nat.and_one_is_mod]
 have h2:3988292384*((x % 2:Nat):Int) % 4294967296=((if x % 2=1 then M.poly else 0:Nat):Int):=by
  unfold M.poly
  rcases Nat.mod_two_eq_zero_or_one x with e|e<;>rw[e]<;>rfl
 have h3:=u32_xor_nat (x / 2) (if x % 2=1 then M.poly else 0) (by omega) (by unfold M.poly;split<;>omega)
 rw[h2,show (x:Int) / 2=((x / 2:Nat):Int) by omega,h3]
 unfold M.step
 rw[M.shr1]
def tabK (k:Nat):Array Value:=((List.range 256).map fun i=>Value.int .u32 (if i<k then M.steps 8 i else 0:Nat)).toArray
theorem tabK_zero:tabK 0=Array.replicate 256 (.int .u32 0):=by
 apply Array.ext
 ·simp[tabK]
 ·intro i h1 h2
  simp[tabK]
theorem tabK_set (k:Nat):(tabK k).setIfInBounds k (.int .u32 (M.steps 8 k:Nat))=tabK (k+1):=by
 apply Array.ext
 ·simp[tabK]
 ·intro i h1 h2
  rw[Array.getElem_setIfInBounds (by simpa using h1)]
  split
  ·rename_i e;subst e;simp[tabK]
  ·simp only[tabK,List.getElem_toArray,List.getElem_map,List.getElem_range]
   congr 2
   by_cases h3:i<k
   ·rw[if_pos h3,if_pos (by omega)]
   ·rw[if_neg h3,if_neg (by omega)]
theorem tabK_cell (k:Nat) (h:k<256):(tabK k)[k]? = some (.int .u32 0):=by
 simp[tabK,h]
theorem tabK_full:tabK 256=tabC:=by
 unfold tabK tabC
 apply congrArg List.toArray
 apply List.map_congr_left
 intro i hi
 rw[if_pos (by simpa using hi)]
theorem Tryz.zero168 (w:World):(zeroValue 168).run Tryz.prog w=.ok (.agg (Array.replicate 256 (.int .u32 0))) w:=by kernel_rfl
set_option maxRecDepth 100000 in
set_option maxHeartbeats 400000 in
theorem table_any (w:World) :
  Calls Tryz.prog 119 #[] w fun e w'=>e=.returned (.agg tabC)∧Below w.heap.size w w':=by
 have hz:=Tryz.zero168
 go_enter Tryz.func119,Tryz.ntmps119
 go_wp2_with fail
 clear hz
 go_loopw [3] (fun i wr=>∃k:Nat,k≤256∧i=.int .i64 k∧wr.heap[w.heap.size]? = some (.cells (tabK k) 168 (0,0))∧Below w.heap.size w wr)
  (fun i _=>256-(intOf i).toNat)
 case atStart=>exact ⟨0,by omega,rfl,by rw[tabK_zero];exact heap_alloc_new _ _,(Below.refl _ _).alloc (Nat.le_refl _) _⟩
 case round=>
  obtain ⟨k,hk,rfl,hg,hb⟩:=hrel
  have hG:=Lib.hid hg
  clear hg
  by_cases hlt:k<256
  ·go_wp2_with fail
   go_loop [2,8] (fun c j=>∃m x:Nat,m≤8∧j=.int .i64 m∧c=.int .u32 (x:Nat)∧Hid (x<4294967296)∧Hid (M.steps (8-m) x=M.steps 8 k)) (fun _ j=>8-(intOf j).toNat)
   case atStart=>exact ⟨0,k,by omega,rfl,by first|rfl|go_num,(show k<4294967296 by omega),rfl⟩
   case round=>
    obtain ⟨m,x,hm,rfl,rfl,hx,HX⟩:=hrel
    by_cases hm8:m<8
    ·have hst:=step_go x hx.out
     have HY:Hid (M.steps (8-(m+1)) (M.step x)=M.steps 8 k):=by
      have:=HX.out
      rw[show 8-m=(8-(m+1))+1 by omega] at this
      exact this
     go_wp2_with fail
     go_round
     case rel=>exact ⟨m+1,M.step x,by omega,by go_num,rfl,M.step_lt x hx.out,HY⟩
     case measure=>simp[intOf];omega
    ·have hxk:x=M.steps 8 k:=by have:=HX.out;rw[show 8-m=0 by omega] at this;exact this
     have hcell:wr.cell? ⟨w.heap.size,k,none⟩=some (.int .u32 0):=by rw[cell_of_row wr _ _ _ _ _ hG.out];exact tabK_cell k hlt
     have hfr:wr.frozen? ⟨w.heap.size,k,none⟩=false:=frozen_of_row wr _ _ _ _ hG.out
     have HXK:=Lib.hid hxk
     clear hxk
     go_wp2_with fail
     go_roundw
     case rel=>exact ⟨k+1,by omega,by go_num,by rw[HXK.out,heap_setCell_same wr _ _ _ _ _ hG.out,tabK_set k],hb.setCell (Nat.le_refl _) _⟩
     case measure=>simp[intOf];omega
  ·have hkk:k=256:=by omega
   have hg:wr.heap[w.heap.size]? = some (.cells tabC 168 (0,0)):=by rw[hG.out,hkk,tabK_full]
   have hset:wr.setRow w.heap.size tabC=wr:=setRow_self wr _ _ _ _ hg
   clear hG
   go_wp2_with (first|(refine wpList_store_row rfl 168 _ _ rfl w.heap.size tabC rfl rfl 168 tabC hg (by kernel_rfl) rfl tabC_one ?_)|(refine wpList_load_row rfl 168 _ rfl w.heap.size rfl 168 _ (0,0) _ hg Tryz.underlying168 rfl (by kernel_rfl) ?_))
   rw[hset]
   exact bodyPost_ret (v:=.agg tabC) (results_cell_row rfl _ _ w.heap.size 168 tabC (0,0) _ rfl hg Tryz.underlying168 rfl (by kernel_rfl)) rfl ⟨rfl,hb⟩
theorem xor_u8 (c:Nat) (b:UInt8):bits .xor .u8 ((c:Int) % 256) (b.toNat:Int)=((c % 256 ^^^ b.toNat:Nat):Int):=by
 have h:=u8_xor_nat (c % 256) b.toNat (by omega) b.toNat_lt
 rw[←h];rfl
theorem xor_lt256 (c:Nat) (b:UInt8):(c % 256 ^^^ b.toNat)<256:=Nat.xor_lt_two_pow (n:=8) (by omega) b.toNat_lt
theorem xor_u32 (c:Nat) (b:Nat) (hc:c<4294967296) (hb:b<256):bits .xor .u32 (M.steps 8 (c % 256 ^^^ b):Nat) ((c:Int) / 256)=((M.crcB c b:Nat):Int):=by
 have h:=u32_xor_nat (M.steps 8 (c % 256 ^^^ b)) (c / 256) (M.steps_lt 8 _ (M.xor_lt32 (by omega) (by omega))) (by omega)
 rw[M.crcB_table,Nat.shiftRight_eq_div_pow]
 rw[show ((c / 256:Nat):Int)=(c:Int) / 256 by omega] at h
 rw[h]
set_option maxRecDepth 100000 in
set_option maxHeartbeats 400000 in
theorem sum1_any (gt gc : Nat) (c : Nat) (b : UInt8) (w : World)
   (ht:w.heap[gt]? = some (.cells tabC 168 (0,0))) (hc:w.heap[gc]? = some (.cells #[.int .u32 c] 110 (0,0))) (hlt:c<4294967296) :
    Calls Tryz.prog 120 #[.int .u8 b.toNat,.pointer (some ⟨gt,0,none⟩),.pointer (some ⟨gc,0,none⟩)] w fun e w'=>e=.returned (.tuple #[])∧w'=(w.setCell ⟨gc,0,none⟩ (.int .u32 (M.crcB c b.toNat:Nat))).drew:=by
  have h1:=xor_u8 c b
  have h2:=xor_lt256 c b
  have h3:=xor_u32 c b.toNat hlt b.toNat_lt
  have h4:w.cell? ⟨gc,0,none⟩=some (.int .u32 c):=by rw[cell_of_row w gc 0 _ _ _ hc];rfl
  have h5:w.frozen? ⟨gc,0,none⟩=false:=frozen_of_row w gc 0 _ _ hc
  have h6:w.cell? ⟨gt,(c % 256 ^^^ b.toNat),none⟩=some (.int .u32 (M.steps 8 (c % 256 ^^^ b.toNat):Nat)):=by rw[cell_of_row w gt _ _ _ _ ht];exact tabC_at _ h2
  have h7:((c % 256 ^^^ b.toNat:Nat):Int)<256:=by omega
  go_enter Tryz.func120,Tryz.ntmps120
  go_wp2_with fail
  go_region
  all_goals (go_end0;exact ⟨rfl,rfl⟩)
theorem take_snoc (s:ByteArray) (k:Nat) (h:k<s.size):s.data.toList.take (k+1)=s.data.toList.take k++[s[k]]:=by
 rw[List.take_succ_eq_append_getElem (by simpa using h)];rfl
theorem crc_snoc (s:ByteArray) (k:Nat) (h:k<s.size):M.crcL 4294967295 (s.data.toList.take (k+1))=M.crcB (M.crcL 4294967295 (s.data.toList.take k)) (s[k]).toNat:=by
 rw[take_snoc s k h,M.crcL_append];rfl
set_option maxRecDepth 100000 in
set_option maxHeartbeats 400000 in
theorem sum_any (s:ByteArray) (w:World) (hs:s.size≤1000000000000000000) :
  Calls Tryz.prog 53 #[.string s] w fun e w'=>e=.returned (.int .u32 (M.sum s.data.toList:Nat))∧Below w.heap.size w w':=by
 have hz:=Tryz.zero168
 go_enter Tryz.func53,Tryz.ntmps53
 go_wp2_with fail
 refine (table_any _).mono ?_
 rintro e w1 ⟨rfl,hb⟩
 go_wp2_with fail
 rw[run_storeCells_new w1 168 _ tabC Tryz.size168 (by rw[tabC_size,Array.size_replicate]) tabC_one]
 go_wp2_with fail
 clear hz
 go_loopw [11] (fun i wr=>∃k c:Nat,k≤s.size∧i=.int .i64 k∧Hid (c<4294967296)∧Hid (c=M.crcL 4294967295 (s.data.toList.take k))∧wr.heap[w1.heap.size]? = some (.cells tabC 168 (0,0))∧wr.heap[w1.heap.size+1]? = some (.cells #[.int .u32 c] 110 (0,0))∧Below w.heap.size w wr) (fun i _=>s.size-(intOf i).toNat)
 case atStart=>exact ⟨0,4294967295,by omega,rfl,(show 4294967295<4294967296 by omega),rfl,heap_alloc2_old _ _ _,heap_alloc2_new _ _ _,(hb.alloc hb.size _).alloc (by rw[World.size_alloc];have:=hb.size;omega) _⟩
 case round=>
  obtain ⟨k,c,hk,rfl,hc,HC,hgt,hgc,hbr⟩:=hrel
  have Hgt:=Lib.hid hgt
  have Hgc:=Lib.hid hgc
  clear hgt hgc
  by_cases hlt:k<s.size
  ·go_wp2_with fail
   refine (sum1_any w1.heap.size (w1.heap.size+1) c (s[k]) _ Hgt.out Hgc.out hc.out).mono ?_
   rintro e w2 ⟨rfl,h1⟩
   have H1:=Lib.hid h1
   clear h1
   go_wp2_with fail
   go_roundw
   case rel=>
    refine ⟨k+1,M.crcB c (s[k]).toNat,by omega,by go_num,M.crcB_lt c _ hc.out (s[k]).toNat_lt,(show M.crcB c (s[k]).toNat=_ by rw[crc_snoc s k hlt,←HC.out]),?_,?_,?_⟩
    ·rw[H1.out,heap_drew,heap_setCell_other _ _ _ _ (by simp),Hgt.out]
    ·rw[H1.out,heap_drew,heap_setCell_same _ _ _ _ _ _ Hgc.out];rfl
    ·rw[H1.out]
     exact (hbr.setCell (by have:=hb.size;simp;omega) _).drew
   case measure=>simp[intOf];omega
  ·have h4:wr.cell? ⟨w1.heap.size+1,0,none⟩=some (.int .u32 c):=by rw[cell_of_row wr _ 0 _ _ _ Hgc.out];rfl
   have hkk:k=s.size:=by omega
   have HF:Hid (bits .xor .u32 IntKind.u32.max (c:Int)=((M.sum s.data.toList:Nat):Int)):=by
    have h1:=HC.out
    rw[List.take_of_length_le (by rw[hkk];exact Nat.le_refl _)] at h1
    unfold M.sum
    rw[←h1]
    exact not_u32 c hc.out
   go_wp2_with fail
   go_ret
   exact ⟨ret_int HF.out,hbr⟩
set_option maxRecDepth 100000 in
set_option maxHeartbeats 400000 in
theorem sum_ref (s:ByteArray) (w:World) (hs:s.size≤1000000000000000000) :
  Calls Tryz.prog 72 #[.string s] w fun e w'=>e=.returned (.int .u32 (M.sum s.data.toList:Nat))∧w=w':=by
 go_enter Tryz.func72,Tryz.ntmps72
 go_wp2_with fail
 go_loop [3,4] (fun c i=>∃k x:Nat,k≤s.size∧i=.int .i64 k∧c=.int .u32 x∧Hid (x<4294967296)∧Hid (x=M.crcL 4294967295 (s.data.toList.take k))) (fun _ i=>s.size-(intOf i).toNat)
 case atStart=>exact ⟨0,4294967295,by omega,rfl,rfl,(show 4294967295<4294967296 by omega),rfl⟩
 case round=>
  obtain ⟨k,x,hk,rfl,rfl,hx,HX⟩:=hrel
  by_cases hlt:k<s.size
  ·have hb:=(s[k]).toNat_lt
   have h1:=u32_xor_nat x (s[k]).toNat hx.out (by omega)
   have HS:Hid (M.crcL 4294967295 (s.data.toList.take (k+1))=M.crcB x (s[k]).toNat):=by rw[HX.out];exact crc_snoc s k hlt
   go_wp2_with fail
   clear h1
   go_loop [3,5] (fun c j=>∃m y:Nat,m≤8∧j=.int .i64 m∧c=.int .u32 (y:Nat)∧Hid (y<4294967296)∧Hid (M.steps (8-m) y=M.crcB x (s[k]).toNat)) (fun _ j=>8-(intOf j).toNat)
   case atStart=>exact ⟨0,x ^^^ (s[k]).toNat,by omega,rfl,rfl,M.xor_lt32 hx.out (by omega),rfl⟩
   case round=>
    obtain ⟨m,y,hm,rfl,rfl,hy,HY⟩:=hrel
    by_cases hm8:m<8
    ·have hd:((y:Int) / 2 % 4294967296)=((y / 2:Nat):Int):=by have:=hy.out;omega
     have hst:bits .xor .u32 ((y / 2:Nat):Int) 3988292384=(((y / 2) ^^^ M.poly:Nat):Int):=u32_xor_nat (y / 2) M.poly (by have:=hy.out;omega) (by unfold M.poly;omega)
     have HZ:Hid (M.steps (8-(m+1)) (M.step y)=M.crcB x (s[k]).toNat):=by
      have:=HY.out
      rw[show 8-m=(8-(m+1))+1 by omega] at this
      exact this
     go_wp2_with fail
     ·have h2:((y:Int) % 2==1)=true:=by assumption
      have h3:(y:Int) % 2=1:=by simpa using h2
      go_round
      case rel=>exact ⟨m+1,M.step y,by omega,by go_num,by rw[M.step_odd y (by omega)];exact congrArg (Value.int .u32) hst,M.step_lt y hy.out,HZ⟩
      case measure=>simp[intOf];omega
     ·have h2:((y:Int) % 2==1)=false:=by assumption
      have h3:¬(y:Int) % 2=1:=by simpa using h2
      go_round
      case rel=>exact ⟨m+1,M.step y,by omega,by go_num,by rw[M.step_even y (by omega)];rfl,M.step_lt y hy.out,HZ⟩
      case measure=>simp[intOf];omega
    ·go_wp2_with fail
     go_round
     case rel=>exact ⟨k+1,y,by omega,by go_num,rfl,hy,(show y=_ by rw[HS.out,←HY.out,show 8-m=0 by omega];rfl)⟩
     case measure=>simp[intOf];omega
  ·have hkk:k=s.size:=by omega
   have HF:Hid (((4294967295-(x:Int)) % 4294967296)=(M.sum s.data.toList:Nat)):=by
    have h1:=HX.out
    have h2:=hx.out
    rw[List.take_of_length_le (by rw[hkk];exact Nat.le_refl _)] at h1
    unfold M.sum
    rw[←h1]
    show _=_
    omega
   go_wp2_with fail
   go_ret
   exact ⟨ret_int HF.out,rfl⟩
end Go.Proofs.YtpdckpifhniioaaGreat.Oct
end
