/- Part 8 of what CodecPacks rests on. -/
import Derived.WalkKit
import Derived.WalkLawsBesides
import Derived.WalkSpells
import Derived.Lib.Hide
import Derived.Laws.IdiomStrings
import Derived.Deep.Quiet
import Derived.Deep.QuietTactic
import Derived.BigQuiet
import Derived.IntWalk
import Derived.Laws.Bits128
import Derived.Laws.BitsAllLaws
import Derived.Maps.AppendAt
import Derived.Deep.DeepCutAuto
import Derived.Deep.CutBlock
import Derived.Deep.LoopGhost
import Derived.Test.YtpdckpifhniioaaGreatVa
import Derived.Test.YtpdckpifhniioaaGreatVg
section
set_option linter.unusedVariables false
set_option linter.unusedSimpArgs false
namespace Go.Proofs.YtpdckpifhniioaaGreat.Cod
open Go.RowKit
open Go.Proofs.YtpdckpifhniioaaGreat
section
theorem ret_int {k:IntKind} {a b:Int} (h:a=b):Ending.returned (.int k a)=.returned (.int k b):=by rw[h]
section
variable {P:Program}
theorem conv_row (w:World) (src dst e:TypeId) (hs:P.underlying src=some (.slice e)) (he:P.underlying e=some (.int .u8)) (hd:P.underlying dst=some .string)
  (g:Nat) (t:TypeId) (fr:Nat×Nat) (C:Array Value) (hg:w.heap[g]? = some (.cells C t fr)) (k n cap:Nat) (l:List UInt8) (hn:l.length=n)
  (hl:∀j (h:j<l.length),C[k+j]? = some (.int .u8 (l[j].toNat:Int))) :
  (convert src dst (.slice (some ⟨g,k,none⟩) n cap)).run P w=.ok (.string ⟨l.toArray⟩) w:=by
 subst hn
 refine run_convert_bytes_back w src dst e _ cap l hs he hd fun j hj=>?_
 have:(⟨g,k,none⟩:Addr).add j=⟨g,k+j,none⟩:=by unfold Addr.add;split<;>simp_all
 rw[this]
 unfold World.cell?
 rw[hg]
 simpa using hl j hj
end
def bvals (l:List UInt8):List Value:=l.map fun b=>Value.int .u8 (b.toNat:Int)
theorem bvals_length (l:List UInt8):(bvals l).length=l.length:=by simp[bvals]
theorem bvals_append (l m:List UInt8):bvals (l++m)=bvals l++bvals m:=by simp[bvals]
section
variable {P:Program}
theorem wp_push {ops:Array Oper} {rest:List Oper} {o:Oper} {a:Act} {Q:Exit→Act→World→Prop} (w:World) (hgd:o.guard=none) (s x:Operand) (t e:TypeId)
  (ho:o.op=.call {callee:=.builtin .append,args:=#[s,x],argTypes:=#[t,t]}) (ht:P.underlying t=some (.slice e))
  (z:Value) (bytes:Nat) (hinfo:(P.info? e).map (fun i=>(i.zero,i.size,i.bytes))=some (some z,1,bytes)) (hz:z.cells.size=1)
  (base:Nat) (v:Value) (n:Nat) (xs:List Value) (hs:a.eval s=v) (hown:w.ownsRow base e 1 v n xs)
  (u:Value) (fr:Nat×Nat) (hx:a.eval x=.slice (some ⟨w.heap.size,0,none⟩) 1 1) (hu:u.oneCell'=true)
  (hlen:n+1≤1000000000) (hby:bytes≤64) (hbase:base≤w.heap.size)
  (h:∀v' w',w'.ownsRow base e 1 v' (n+1) (xs++[u])→v'≠.slice none 0 0→Below base w w'→w.heap.size<w'.heap.size→wpList P ops Q rest (a.put o.dst v') w') :
  wpList P ops Q (o::rest) a (w.alloc (.cells #[u] e fr)):=by
 obtain ⟨i0,hi,hz0,hz1,hz2⟩:=info_parts hinfo
 refine wpList_append_own _ hgd s x t ho base e i0 z 1 bytes ht hi hz0 hz1 hz2 hz (by decide) v n xs hs (hown.alloc _) ⟨w.heap.size,0,none⟩ 1 1 [u] hx rfl ?_ ?_ ?_ ?_ ?_ ?_
 ·intro j u' hj
  match j,hj with
  |0,hj=>
   simp at hj
   subst hj
   have:(⟨w.heap.size,0,none⟩:Addr).add 0=⟨w.heap.size,0,none⟩:=by unfold Addr.add;split<;>simp_all
   rw[this,World.cell?_alloc_mark];rfl
 ·intro u' h'
  simp at h'
  subst h';exact hu
 ·unfold maxLen;omega
 ·exact Nat.le_trans (Nat.mul_le_mul hlen hby) (by omega)
 ·rw[World.size_alloc];omega
 ·intro v' w' hown' hg hnil
  have hsz:=hg.size
  rw[World.size_alloc] at hsz
  refine h v' w' hown' (fun hv=>by have:=(hnil.1 hv).2;omega) ?_ (by omega)
  refine ((Below.refl base w).alloc hbase _).grown hg (by rw[World.size_alloc];omega) fun k hk=>?_
  exact (hown.lt k hk).1
theorem conv_own (w:World) (src dst e:TypeId) (hs:P.underlying src=some (.slice e)) (he:P.underlying e=some (.int .u8)) (hd:P.underlying dst=some .string)
  (base:Nat) (v:Value) (n:Nat) (l:List UInt8) (hown:w.ownsRow base e 1 v n (bvals l)):(convert src dst v).run P w=.ok (.string ⟨l.toArray⟩) w:=by
 have hl:l.length=n:=by have:=hown.1;rw[bvals_length] at this;omega
 rcases hown.2 with ⟨rfl,h0⟩|⟨g,cap,cur,rfl,_,hg,hnc,_,hsz,htk⟩
 ·subst h0
  have:l=[]:=List.eq_nil_of_length_eq_zero hl
  subst this
  rw[run_convert_bytes_string w src dst e none 0 0 hs he hd]
  simp[Conv.bytesToString]
  rfl
 ·refine conv_row w src dst e hs he hd g e _ cur hg 0 n cap l hl fun j hj=>?_
  have h1:(cur.toList.take (n*1))[j]? = (bvals l)[j]?:=by rw[htk]
  rw[List.getElem?_take,if_pos (by omega)] at h1
  rw[Nat.zero_add,←Array.getElem?_toList,h1]
  simp[bvals,List.getElem?_eq_getElem hj]
end
end
section
section
variable {P:Program} {ops:Array Oper} {C:World→Prop} {Q:Act→Prop} {rest:List Oper} {o:Oper} {a:Act}
theorem q_val {K:Act→Prop} (h:∃v,(∀x,C x→(execOp a.eval o).run P x=.ok (.value v) x)∧K (a.put o.dst v)):o.quiet P a C K:=by
 obtain ⟨v,h,k⟩:=h
 exact ⟨v,fun x hx=>by unfold Oper.quietAt;rw[h x hx];exact ⟨rfl,rfl⟩,k⟩
theorem q_call {K:Act→Prop} (f:FuncId) (h:∃args,(∀x,C x→(execOp a.eval o).run P x=.ok (.enter f args) x)∧
  ∃v,(∀x,C x→Calls P f args x fun e x'=>e=.returned v∧C x')∧K (a.put o.dst v)):o.quiet P a C K:=by
 obtain ⟨args,h,v,hc,k⟩:=h
 exact ⟨v,fun x hx=>by unfold Oper.quietAt;rw[h x hx];exact ⟨rfl,hc x hx⟩,k⟩
theorem q_region {id:Nat} {Q:Exit→Act→World→Prop} {a:Act} {w:World} {l:List Oper} (hm:P.follows .mixedOrders=true) (hB:Region.lexB .any l.toArray=true) (hC:C w.drew)
  (h:wpQuiet P l.toArray C (fun a'=>∀w',C w'→Q .normal a' w') l a):(Code.region id l.toArray true).wp P Q a w:=
 wp_region_quiet hm hB hC (by simpa using h)
end
end
section
section
variable {P:Program}
theorem wn {o:Oper} {y:Nat→Option Bool} (h:o.guard=none):Region.wanted o y=true:=by unfold Region.wanted;rw[h]
theorem wp_region_growL {id:Nat} {l:List Oper} {a:Act} {w:World} {Q:Exit→Act→World→Prop} (lit:(Nat→Value)→Act) (hlit:∀u,fill l u a=lit u) (hm:P.follows .mixedOrders=true) (hL:lowers l.toArray=true) (hd:distinct l=true) (hg:(l.all fun o=>o.guard.isNone)=true) (T:Nat→Value→World→Prop)
  (hstep:∀i o,l[i]? = some o→∀u x,Grow w x→(∀j,waitsOn o j=true→T j (u j) x)→
   o.wp P (lit u) x (fun a' x'=>∃v,a'=(lit u).put o.dst v∧Grow x x'∧Al x' (T i v)) Q)
  (hend:∀u x,Grow w x→(∀i,i<l.length→T i (u i) x)→Q .normal (lit u) x):(Code.region id l.toArray true).wp P Q a w:=by
 refine wp_region_grow hm hL hd T ?_ ?_
 ·intro i o ho u x hx hT
  have hgo:o.guard=none:=by
   have:=(List.all_eq_true.1 hg) o (List.mem_of_getElem? ho)
   simpa using this
  rw[if_pos (wn hgo),hlit u]
  exact hstep i o ho u x hx fun j hj=>(hT j hj).now
 ·intro u x hx hT
  rw[hlit u]
  exact hend u x hx fun i hi=>(hT i hi).now
theorem wp_region_invL {id:Nat} {l:List Oper} {a:Act} {w:World} {Q:Exit→Act→World→Prop} (lit:(Nat→Value)→Act) (hlit:∀u,fill l u a=lit u) (hm:P.follows .mixedOrders=true) (hL:lowers l.toArray=true) (hd:distinct l=true) (hg:(l.all fun o=>o.guard.isNone)=true) (Inv:(Nat→Bool)→(Nat→Value)→World→Prop)
  (h0:∀u,Inv (fun _=>false) u w.drew)
  (hstep:∀D u x i o,l[i]? = some o→D i=false→(∀j,waitsOn o j=true→D j=true)→Inv D u x→
   o.wp P (lit u) x (fun a' x'=>∃v,a'=(lit u).put o.dst v∧Inv (fun j=>if j=i then true else D j) (updv u i v) x') Q)
  (hend:∀D u x,(∀i,i<l.length→D i=true)→Inv D u x→Q .normal (lit u) x):(Code.region id l.toArray true).wp P Q a w:=by
 refine wp_region_invU hm hg (fun D a' x=>∃u,a'=lit u∧Inv D u x) ?_ ?_ ?_
 ·obtain ⟨u,hu⟩:=fill_start l a
  exact ⟨u,by rw[←hlit u,hu],h0 u⟩
 ·rintro D a' x i o ho hD hdep ⟨u,rfl,hI⟩
  have dep:∀j,waitsOn o j=true→D j=true:=by
   intro j hj
   obtain ⟨k,hk,he⟩:=Array.any_eq_true.1 hj
   simp only[Bool.and_eq_true,beq_iff_eq] at he
   have:=hdep _ (Array.getElem_mem hk) he.2
   rwa [he.1] at this
  refine Oper.wp_mono ?_ (hstep D u x i o ho hD dep hI)
  rintro a'' x' ⟨v,rfl,h⟩
  refine ⟨updv u i v,?_,h⟩
  rw[←hlit u,←hlit (updv u i v)]
  exact fill_upd l u a i o v hd ho
 ·rintro D a' x hD ⟨u,rfl,hI⟩
  exact hend D u x (all_done hL hD) hI
variable {o:Oper} {a:Act} {x:World} {Q:Exit→Act→World→Prop} {K:Value→World→Prop}
theorem iv_val {v:Value} {x':World} (h:(execOp a.eval o).run P x=.ok (.value v) x') (hK:K v x'):o.wp P a x (fun a' x'=>∃v,a'=a.put o.dst v∧K v x') Q:=by
 unfold Oper.wp;rw[h];exact ⟨v,rfl,hK⟩
theorem iv_skip {x':World} (h:(execOp a.eval o).run P x=.ok .skip x') (hK:K undef x'):o.wp P a x (fun a' x'=>∃v,a'=a.put o.dst v∧K v x') Q:=by
 unfold Oper.wp;rw[h];exact ⟨undef,rfl,hK⟩
end
end
section
section
variable {P:Program} {C:World→Prop}
end
end
section
theorem _root_.Go.Proofs.YtpdckpifhniioaaGreat.Grow.cell {x y:World} (h:Grow x y) {a:Addr} {v:Value} (hc:x.cell? a=some v):y.cell? a=some v:=by
 have hb:a.block<x.heap.size:=by
  by_cases hb:a.block<x.heap.size
  ·exact hb
  ·unfold World.cell? at hc;rw[Array.getElem?_eq_none (by omega)] at hc;simp at hc
 have:y.cell? a=x.cell? a:=by unfold World.cell?;rw[Below.block h _ hb]
 rw[this,hc]
theorem _root_.Go.Proofs.YtpdckpifhniioaaGreat.Grow.size {x y:World} (h:Grow x y):x.heap.size≤y.heap.size:=Below.size h
theorem _root_.Go.Proofs.YtpdckpifhniioaaGreat.Grow.a {x y:World} (h:Grow x y) (o:Obj):Grow x (y.alloc o):=h.trans (Grow.alloc y o)
section
variable {P:Program}
end
end
section
def cv (n:Nat) (C:Nat→Value):Array Value:=((List.range n).map C).toArray
theorem cv_size (n:Nat) (C:Nat→Value):(cv n C).size=n:=by simp[cv]
theorem cv_at (n:Nat) (C:Nat→Value) (i:Nat) (h:i<n):(cv n C)[i]? = some (C i):=by simp[cv,h]
theorem cv_none (n:Nat) (C:Nat→Value) (i:Nat) (h:n≤i):(cv n C)[i]? = none:=by simp[cv,h]
theorem cv_congr (n:Nat) (C D:Nat→Value) (h:∀i,i<n→C i=D i):cv n C=cv n D:=by
 unfold cv
 congr 1
 exact List.map_congr_left fun i hi=>h i (by simpa using hi)
def vput (C:Nat→Value) (i:Nat) (v:Value):Nat→Value:=fun k=>if k=i then v else C k
theorem cv_set (n:Nat) (C:Nat→Value) (i:Nat) (v:Value):(cv n C).setIfInBounds i v=cv n (vput C i v):=by
 apply Array.ext_getElem?
 intro j
 rw[Array.getElem?_setIfInBounds]
 by_cases hj:j<n
 ·have h1:=cv_at n C j hj
  have h2:=cv_at n (vput C i v) j hj
  by_cases e:i=j
  ·subst e
   rw[if_pos rfl,if_pos (by rw[cv_size];exact hj),h2]
   simp[vput]
  ·rw[if_neg e,h1,h2]
   simp[vput,Ne.symm e]
 ·have h1:=cv_none n C j (by omega)
  have h2:=cv_none n (vput C i v) j (by omega)
  by_cases e:i=j
  ·subst e
   rw[if_pos rfl,if_neg (by rw[cv_size];exact hj),h2]
  ·rw[if_neg e,h1,h2]
def Blk (w:World) (g:Nat) (t:TypeId) (n:Nat) (C:Nat→Value):Prop:=w.heap[g]? = some (.cells (cv n C) t (0,0))
theorem Blk.lt {w g t n C} (h:Blk w g t n C):g<w.heap.size:=(Array.getElem?_eq_some_iff.1 h).1
theorem Blk.cell {w g t n C} (h:Blk w g t n C) (i:Nat) (hi:i<n):w.cell? ⟨g,i,none⟩=some (C i):=by
 rw[cell_of_row w g i _ _ _ h];exact cv_at n C i hi
theorem Blk.free {w g t n C} (h:Blk w g t n C) (i:Nat):w.frozen? ⟨g,i,none⟩=false:=frozen_of_row w g i _ _ h
theorem Blk.set {w g t n C} (h:Blk w g t n C) (i:Nat) (v:Value):Blk (w.setCell ⟨g,i,none⟩ v) g t n (vput C i v):=by
 unfold Blk;rw[heap_setCell_same _ _ _ _ _ _ h,cv_set]
theorem Blk.other {w g t n C} (h:Blk w g t n C) (a:Addr) (v:Value) (hne:g≠a.block):Blk (w.setCell a v) g t n C:=by
 unfold Blk;rw[heap_setCell_other _ _ _ _ hne];exact h
theorem Blk.grow {w w' g t n C} (h:Blk w g t n C) (hg:Grow w w'):Blk w' g t n C:=hg.block h
theorem Blk.congr {w g t n C D} (h:Blk w g t n C) (he:∀i,i<n→C i=D i):Blk w g t n D:=by
 unfold Blk at h⊢;rw[h,cv_congr n C D he]
def cc (p:Nat→Int) (lo en:Int) (X:Nat→Value):Nat→Value:=fun i=>if i<256 then .int .i16 (p i-2048) else if i=256 then .int .u32 lo else if i=257 then .int .u32 en else X i
def cr (p:Nat→Int) (lo hi:Int) (X:Nat→Value):Nat→Value:=fun i=>if i<256 then .int .i64 (p i) else if i=256 then .int .u32 lo else if i=257 then .int .u32 hi else X i
theorem cc_p {p lo en X} (i:Nat) (h:i<256):cc p lo en X i=.int .i16 (p i-2048):=by simp[cc,h]
theorem cc_lo {p lo en X}:cc p lo en X 256=.int .u32 lo:=by simp[cc]
theorem cc_en {p lo en X}:cc p lo en X 257=.int .u32 en:=by simp[cc]
theorem cc_x {p lo en X} (i:Nat) (h:258≤i):cc p lo en X i=X i:=by unfold cc;rw[if_neg (by omega),if_neg (by omega),if_neg (by omega)]
theorem cr_p {p lo en X} (i:Nat) (h:i<256):cr p lo en X i=.int .i64 (p i):=by simp[cr,h]
theorem cr_lo {p lo en X}:cr p lo en X 256=.int .u32 lo:=by simp[cr]
theorem cr_en {p lo en X}:cr p lo en X 257=.int .u32 en:=by simp[cr]
theorem cr_x {p lo en X} (i:Nat) (h:258≤i):cr p lo en X i=X i:=by unfold cr;rw[if_neg (by omega),if_neg (by omega),if_neg (by omega)]
theorem cc_put_p {p lo en X} (i:Nat) (h:i<256) (v:Int):vput (cc p lo en X) i (.int .i16 (v-2048))=cc (M.put p i v) lo en X:=by
 funext k
 unfold vput cc M.put
 by_cases e:k=i
 ·subst e;simp[h]
 ·simp[e]
theorem cc_put_lo {p lo en X} (v:Int):vput (cc p lo en X) 256 (.int .u32 v)=cc p v en X:=by
 funext k
 unfold vput cc
 by_cases e:k=256
 ·subst e;simp
 ·simp[e]
theorem cc_put_en {p lo en X} (v:Int):vput (cc p lo en X) 257 (.int .u32 v)=cc p lo v X:=by
 funext k
 unfold vput cc
 by_cases e:k=257
 ·subst e;simp
 ·simp[e]
theorem cc_put_x {p lo en X} (i:Nat) (h:258≤i) (v:Value):vput (cc p lo en X) i v=cc p lo en (vput X i v):=by
 funext k
 unfold vput cc
 by_cases e:k=i
 ·subst e;simp[show ¬k<256 by omega,show k≠256 by omega,show k≠257 by omega]
 ·simp[e]
theorem cr_put_p {p lo en X} (i:Nat) (h:i<256) (v:Int):vput (cr p lo en X) i (.int .i64 v)=cr (M.put p i v) lo en X:=by
 funext k
 unfold vput cr M.put
 by_cases e:k=i
 ·subst e;simp[h]
 ·simp[e]
theorem cr_put_lo {p lo en X} (v:Int):vput (cr p lo en X) 256 (.int .u32 v)=cr p v en X:=by
 funext k
 unfold vput cr
 by_cases e:k=256
 ·subst e;simp
 ·simp[e]
theorem cr_put_en {p lo en X} (v:Int):vput (cr p lo en X) 257 (.int .u32 v)=cr p lo v X:=by
 funext k
 unfold vput cr
 by_cases e:k=257
 ·subst e;simp
 ·simp[e]
theorem cr_put_x {p lo en X} (i:Nat) (h:258≤i) (v:Value):vput (cr p lo en X) i v=cr p lo en (vput X i v):=by
 funext k
 unfold vput cr
 by_cases e:k=i
 ·subst e;simp[show ¬k<256 by omega,show k≠256 by omega,show k≠257 by omega]
 ·simp[e]
theorem and_mask (n:Int) (k:Nat) (m:Int) (hk:k≤8) (hm:(BitVec.ofInt 64 m).toNat=2 ^ k-1):bits .and .i64 n m=n % (2 ^ k:Nat):=by
 have key:(BitVec.ofInt 64 n &&& BitVec.ofInt 64 m).toNat=(n % ((2 ^ 64:Nat):Int)).toNat % 2 ^ k:=by
  rw[BitVec.toNat_and,BitVec.toNat_ofInt,hm,Nat.and_two_pow_sub_one_eq_mod]
 show IntKind.i64.wrap ((BitVec.ofInt 64 n &&& BitVec.ofInt 64 m).toNat:Nat)=n % (2 ^ k:Nat)
 rw[key,IntKind.wrap_i64]
 have h2:2 ^ k≤2 ^ 8:=Nat.pow_le_pow_right (by omega) hk
 obtain rfl|rfl|rfl|rfl|rfl|rfl|rfl|rfl|rfl:k=0∨k=1∨k=2∨k=3∨k=4∨k=5∨k=6∨k=7∨k=8:=by omega
 all_goals omega
theorem and_255 (n:Int):bits .and .i64 n 255=n % 256:=and_mask n 8 255 (by omega) (by decide)
theorem and_1 (n:Int):bits .and .i64 n 1=n % 2:=and_mask n 1 1 (by omega) (by decide)
theorem not_nat (c:Nat) (h:c<4294967296):4294967295 ^^^ c=4294967295-c:=by
 apply Nat.eq_of_testBit_eq
 intro i
 have h1:=Nat.testBit_two_pow_sub_succ (x:=c) (n:=32) h i
 have h2:=Nat.testBit_two_pow_sub_one 32 i
 rw[show 4294967295-c=2 ^ 32-(c+1) by omega,h1,Nat.testBit_xor,show (4294967295:Nat)=2 ^ 32-1 from rfl,h2]
 by_cases hi:i<32
 ·simp[hi]
 ·have:c.testBit i=false:=Nat.testBit_lt_two_pow (Nat.lt_of_lt_of_le (show c<2 ^ 32 from h) (Nat.pow_le_pow_right (by omega) (by omega:32≤i)))
  simp[hi,this]
theorem not_u32 (x:Int) (h0:0≤x) (h1:x≤4294967295):bits .xor .u32 IntKind.u32.max x=4294967295-x:=by
 obtain ⟨c,rfl⟩:∃c:Nat,x=c:=⟨x.toNat,by omega⟩
 have h:=u32_xor_nat 4294967295 c (by omega) (by omega)
 rw[not_nat c (by omega)] at h
 have e:((4294967295-c:Nat):Int)=4294967295-(c:Int):=by omega
 rw[←e];exact h
theorem w32 (n:Int) (h0:0≤n) (h1:n≤4294967295):IntKind.u32.wrap n=n:=by rw[IntKind.wrap_u32];omega
set_option maxRecDepth 100000 in
theorem high_any (g:Nat) (hi:Int) (h0:0≤hi) (h1:hi≤4294967295) (w:World) (hc:w.cell? ⟨g,257,none⟩=some (.int .u32 (4294967295-hi))) :
  Calls Tryz.prog 203 #[.pointer (some ⟨g,0,none⟩)] w fun e w'=>e=.returned (.int .u32 hi)∧w=w':=by
 have hn:=not_u32 (4294967295-hi) (by omega) (by omega)
 rw[show 4294967295-(4294967295-hi)=hi by omega] at hn
 go_enter Tryz.func203,Tryz.ntmps203
 go_wp2
 go_ret
 exact ⟨rfl,rfl⟩
def cx (c:Int):Nat:=(c % 256).toNat
theorem cx_lt (c:Int):cx c<256:=by unfold cx;omega
theorem cx_val (c:Int):((cx c:Nat):Int)=c % 256:=by unfold cx;omega
set_option maxRecDepth 100000 in
set_option maxHeartbeats 1000000 in
theorem mid_any (g:Nat) (s:M.St) (hs:M.Ok s) (c:Int) (w:World) (hp:w.cell? ⟨g,cx c,none⟩=some (.int .i16 (s.p (cx c)-2048))) (hl:w.cell? ⟨g,256,none⟩=some (.int .u32 s.lo)) (he:w.cell? ⟨g,257,none⟩=some (.int .u32 (4294967295-s.hi))) :
  Calls Tryz.prog 202 #[.pointer (some ⟨g,0,none⟩),.int .i64 c] w fun e w'=>e=.returned (.int .u32 (M.md s (cx c)))∧∃n,w'=w.drewN n:=by
 obtain ⟨p1,p2⟩:=hs.p (cx c)
 obtain ⟨m1,m2⟩:=M.md_bd hs (cx c)
 have l0:=hs.lo
 have le:=hs.le
 have l1:=hs.hi
 have hm:M.md s (cx c)=s.lo+(s.hi-s.lo) / 4096*s.p (cx c):=rfl
 rw[hm]
 clear hm
 have ha:=and_255 c
 rw[←cx_val] at ha
 have hk:=cx_lt c
 have HI:=Lib.hid (high_any g s.hi (by omega) l1)
 clear hs
 go_enter Tryz.func202,Tryz.ntmps202
 go_wp2
 refine q_region (C:=fun x=>∃n,x=w.drewN n) (by kernel_rfl) (by kernel_rfl) ⟨1,rfl⟩ ?_
 repeat (first
  |go_big_quiet_skip
  |(go_big_quiet_want;refine q_val ?_;apply Exists.intro;refine ⟨fun x hx=>?_,?_⟩;(focus (obtain ⟨n,rfl⟩:=hx;go_simp<;>rfl));simp only[Act.put,List.setIfInBounds_toArray,List.set_cons_zero,List.set_cons_succ];go_big_quiet_on)
  |(go_big_quiet_want;refine q_call 203 ?_;apply Exists.intro;refine ⟨fun x hx=>?_,?_⟩;(focus (go_simp<;>rfl));apply Exists.intro;refine ⟨fun x hx=>?_,?_⟩;(focus (obtain ⟨n,rfl⟩:=hx;exact (HI.out (w.drewN n) he).mono fun e w' h=>⟨h.1,n,h.2.symm⟩));simp only[Act.put,List.setIfInBounds_toArray,List.set_cons_zero,List.set_cons_succ];go_big_quiet_on))
 refine wpQuiet_nil ?_
 rintro x ⟨n,rfl⟩
 go_wp2
 go_ret
 refine ⟨ret_int ?_,n,rfl⟩
 have e1:(s.hi-s.lo).tdiv 4096=(s.hi-s.lo) / 4096:=Int.tdiv_eq_ediv_of_nonneg (by omega)
 have e2:0≤(s.hi-s.lo) / 4096∧(s.hi-s.lo) / 4096≤4294967295:=by omega
 show IntKind.u32.wrap (s.lo+IntKind.u32.wrap (IntKind.u32.wrap ((IntKind.u32.wrap (s.hi-s.lo)).tdiv 4096)*s.p (cx c)))=_
 rw[w32 (s.hi-s.lo) (by omega) (by omega),e1,w32 ((s.hi-s.lo) / 4096) (by omega) (by omega),w32 ((s.hi-s.lo) / 4096*s.p (cx c)) (by omega) (by omega),w32 _ (by omega) (by omega)]
end
section
structure Chg (g:Nat) (row:Option Nat) (x y:World):Prop where
 os:y.os=x.os
 tape:y.tape=x.tape
 output:y.output=x.output
 size:x.heap.size≤y.heap.size
 block:∀k,k<x.heap.size→k≠g→some k≠row→y.heap[k]? = x.heap[k]?
theorem Chg.of_grow {g row x y} (h:Grow x y):Chg g row x y:=⟨Below.os h,Below.tape h,Below.output h,Below.size h,fun k hk _ _=>Below.block h k hk⟩
theorem Chg.refl (g row x):Chg g row x x:=⟨rfl,rfl,rfl,Nat.le_refl _,fun _ _ _ _=>rfl⟩
def Nxt (row row':Option Nat) (x:World):Prop:=row'=row∨∃k,row'=some k∧x.heap.size≤k
theorem Chg.trans {g row row' x y z} (h:Chg g row x y) (hr:Nxt row row' x) (k:Chg g row' y z):Chg g row x z:=
 ⟨k.os.trans h.os,k.tape.trans h.tape,k.output.trans h.output,Nat.le_trans h.size k.size,fun j hj hg hrow=>by
  rw[k.block j (Nat.lt_of_lt_of_le hj h.size) hg ?_,h.block j hj hg hrow]
  rcases hr with e|⟨k',e,hk'⟩
  ·rw[e];exact hrow
  ·rw[e];intro e';have:=Option.some.inj e';omega⟩
theorem Nxt.trans {row row' row'' x y} (h:Nxt row row' x) (hs:x.heap.size≤y.heap.size) (k:Nxt row' row'' y):Nxt row row'' x:=by
 rcases k with e|⟨k,e,hk⟩
 ·rw[e];exact h
 ·exact .inr ⟨k,e,Nat.le_trans hs hk⟩
theorem Chg.below {g row x y B} (h:Chg g row x y) (hg:B≤g) (hr:∀k,row=some k→B≤k) (hB:B≤x.heap.size):Below B x y:=
 ⟨h.os,h.tape,h.output,h.size,fun k hk=>h.block k (by omega) (by omega) (fun e=>by have:=hr k e.symm;omega)⟩
theorem Chg.blk {g row x y g' t n C} (h:Chg g row x y) (hb:Blk x g' t n C) (hg:g'≠g) (hr:some g'≠row):Blk y g' t n C:=by
 have:=h.block g' hb.lt hg hr
 unfold Blk at hb⊢;rw[this];exact hb
theorem infoU8:(Tryz.prog.info? 5).map (fun i=>(i.zero,i.size,i.bytes))=some (some (.int .u8 0),1,1):=by kernel_rfl
theorem row_ne {x:World} {B:Nat} {v:Value} {n:Nat} {xs:List Value} {g t:Nat} {c:Array Value} {fr:Nat×Nat} (h:x.ownsRow B 5 1 v n xs) (hg:x.heap[g]? = some (.cells c t fr)) (ht:t≠5):some g≠v.ownBlock:=by
 rcases h.2 with ⟨rfl,_⟩|⟨k,cap,cur,rfl,_,hk,_⟩
 ·simp[Value.ownBlock]
 ·intro e
  have e:g=k:=by simpa [Value.ownBlock] using e
  subst e
  rw[hg] at hk
  injection hk with hk
  injection hk with _ hk _
  exact ht hk
theorem own_mem {x:World} {B:Nat} {e:TypeId} {v:Value} {n:Nat} {xs:List Value} (h:x.ownsRow B e 1 v n xs):∃o c,v=.slice o n c:=by
 rcases h.2 with ⟨rfl,h0⟩|⟨g,cap,cur,rfl,_⟩
 ·exact ⟨none,0,by rw[h0]⟩
 ·exact ⟨_,_,rfl⟩
section
variable {o:Oper} {ρ:Operand→Value} {x:World} {y:Operand}
theorem run_loadp (a:Addr) (q:Option Addr) (ho:o.op=.load 202 y) (hy:ρ y=.pointer (some a)) (hc:x.cell? a=some (.pointer q)):(execOp ρ o).run Tryz.prog x=.ok (.value (.pointer q)) x:=by
 unfold execOp;rw[ho];simp only[hy];go_simp
theorem run_nil (a:Addr) (ho:o.op=.nilCheck y) (hy:ρ y=.pointer (some a)):(execOp ρ o).run Tryz.prog x=.ok (.value (.pointer (some a))) x:=by
 unfold execOp;rw[ho];simp only[hy];go_simp
theorem run_fa1 (g:Nat) (ho:o.op=.fieldAddr 232 y 1) (hy:ρ y=.pointer (some ⟨g,0,none⟩)):(execOp ρ o).run Tryz.prog x=.ok (.value (.pointer (some ⟨g,258,none⟩))) x:=by
 unfold execOp;rw[ho];simp only[hy];go_simp
theorem run_loads (a:Addr) (s:Option Addr) (n c:Nat) (ho:o.op=.load 57 y) (hy:ρ y=.pointer (some a)) (hc:x.cell? a=some (.slice s n c)):(execOp ρ o).run Tryz.prog x=.ok (.value (.slice s n c)) x:=by
 unfold execOp;rw[ho];simp only[hy];go_simp
theorem run_mv (v:Value) (ho:o.op=.move y) (hy:ρ y=v):(execOp ρ o).run Tryz.prog x=.ok (.value v) x:=by
 unfold execOp;rw[ho];simp only[hy];go_simp
theorem run_bs1 (n:Int) (ho:o.op=.buildSlice 57 1 #[(0,y)]) (hy:ρ y=.int .u8 n):(execOp ρ o).run Tryz.prog x=.ok (.value (.slice (some ⟨x.heap.size,0,none⟩) 1 1)) (x.alloc (.cells #[.int .u8 n] 5)):=by
 unfold execOp;rw[ho];simp[hy];go_simp
theorem run_st (g i:Nat) (s:Option Addr) (n c:Nat) {z:Operand} (ho:o.op=.store 57 y z) (hy:ρ y=.pointer (some ⟨g,i,none⟩)) (hz:ρ z=.slice s n c) (u:Value) (hc:x.cell? ⟨g,i,none⟩=some u) (hf:x.frozen? ⟨g,i,none⟩=false):(execOp ρ o).run Tryz.prog x=.ok .skip (x.setCell ⟨g,i,none⟩ (.slice s n c)):=by
 unfold execOp;rw[ho];simp only[hy,hz];go_simp
end
theorem run_app {o:Oper} {ρ:Operand→Value} {x x':World} {y z:Operand} {v:Value} (s t:Value) (ho:o.op=.call {callee:=.builtin .append,args:=#[y,z],argTypes:=#[57,57]}) (hy:ρ y=s) (hz:ρ z=t) (h:(Builtin.append_ #[57,57] o.type #[s,t]).run Tryz.prog x=.ok v x'):(execOp ρ o).run Tryz.prog x=.ok (.value v) x':=by
 unfold execOp;rw[ho]
 simp[resolve,invoke,builtin,hy,hz,h,Result.andThen]
def PT (g:Nat) (v:Value) (b:UInt8) (i:Nat) (u:Value):Prop:=
 match i with
 |0|1|2|8=>u=.pointer (some ⟨g,0,none⟩)
 |3|9=>u=.pointer (some ⟨g,258,none⟩)
 |4=>u=v
 |5=>u=.int .u8 (b.toNat:Int)
 |_=>True
structure PI (w:World) (g bx B:Nat) (C:Nat→Value) (v:Value) (l:List UInt8) (b:UInt8) (D:Nat→Bool) (u:Nat→Value) (x:World):Prop where
 val:∀i,D i=true→PT g v b i (u i)
 blk:D 10=false→Blk x g 232 259 C
 box:x.heap[bx]? = some (.cells #[.pointer (some ⟨g,0,none⟩)] 202 (0,0))
 tmp:D 6=true→D 7=false→∃k,u 6=.slice (some ⟨k,0,none⟩) 1 1∧x.heap[k]? = some (.cells #[.int .u8 (b.toNat:Int)] 5 (0,0))
 old:D 7=false→x.ownsRow B 5 1 v l.length (bvals l)∧Grow w x
 new:D 7=true→x.ownsRow B 5 1 (u 7) (l.length+1) (bvals (l++[b]))∧Nxt v.ownBlock (u 7).ownBlock w∧Chg g v.ownBlock w x
 fin:D 10=true→Blk x g 232 259 (vput C 258 (u 7))
 last:D 10=true→D 4=true∧D 6=true∧D 7=true
 ord:D 7=true→D 6=true
theorem PI.quiet {w g bx B C v l b D u x} (h:PI w g bx B C v l b D u x) (i:Nat) (h6:i≠6) (h7:i≠7) (h10:i≠10) (z:Value) (hz:PT g v b i z):PI w g bx B C v l b (fun j=>if j=i then true else D j) (updv u i z) x:=by
 have e6:(if 6=i then true else D 6)=D 6:=by rw[if_neg (Ne.symm h6)]
 have e7:(if 7=i then true else D 7)=D 7:=by rw[if_neg (Ne.symm h7)]
 have e10:(if 10=i then true else D 10)=D 10:=by rw[if_neg (Ne.symm h10)]
 have u6:updv u i z 6=u 6:=by simp[updv,Ne.symm h6]
 have u7:updv u i z 7=u 7:=by simp[updv,Ne.symm h7]
 refine ⟨fun j hj=>?_,fun hd=>h.blk (e10▸hd),h.box,fun a c=>by rw[u6];exact h.tmp (e6▸a) (e7▸c),fun c=>h.old (e7▸c),fun c=>by rw[u7];exact h.new (e7▸c),fun c=>by rw[u7];exact h.fin (e10▸c),fun c=>?_,fun c=>?_⟩
 ·by_cases e:j=i
  ·subst e;simp only[updv,if_pos];exact hz
  ·simp only[updv,if_neg e] at hj⊢;exact h.val j hj
 ·obtain ⟨a4,a6,a7⟩:=h.last (e10▸c)
  show (if 4=i then true else D 4)=true∧(if 6=i then true else D 6)=true∧(if 7=i then true else D 7)=true
  rw[a4,a6,a7]
  refine ⟨?_,?_,?_⟩<;>split<;>rfl
 ·show (if 6=i then true else D 6)=true
  rw[e6];exact h.ord (e7▸c)
set_option maxRecDepth 100000 in
set_option maxHeartbeats 1000000 in
theorem push_w (B g bx:Nat) (C:Nat→Value) (v:Value) (l:List UInt8) (b:UInt8) (w:World) (hB:Blk w g 232 259 C) (hC:C 258=v) (hown:w.ownsRow B 5 1 v l.length (bvals l)) (hbox:w.heap[bx]? = some (.cells #[.pointer (some ⟨g,0,none⟩)] 202 (0,0))) (hl:l.length≤100000000) (hBw:B≤w.heap.size) :
  Calls Tryz.prog 188 #[.int .u8 (b.toNat:Int),.pointer (some ⟨bx,0,none⟩)] w fun e w'=>e=.returned (.tuple #[])∧∃v',Blk w' g 232 259 (vput C 258 v')∧w'.ownsRow B 5 1 v' (l.length+1) (bvals (l++[b]))∧Nxt v.ownBlock v'.ownBlock w∧Chg g v.ownBlock w w':=by
 obtain ⟨so,sc,rfl⟩:=own_mem hown
 obtain ⟨i0,hi,hz0,hz1,hz2⟩:=info_parts infoU8
 go_enter Tryz.func188,Tryz.ntmps188
 refine wp_region_invL ?lit ?hlit rfl (by kernel_rfl) (by kernel_rfl) (by kernel_rfl) (PI w g bx B C (.slice so l.length sc) l b) ?_ ?_ ?_
 case hlit=>
  intro u
  simp only[fill,Act.put,Nat.zero_add,Nat.reduceAdd,List.setIfInBounds_toArray,List.set_cons_zero,List.set_cons_succ]
  rfl
 ·intro u
  exact ⟨fun i h=>by simp at h,fun _=>hB,hbox,fun h _=>by simp at h,fun _=>⟨hown,Grow.drew w⟩,fun h=>by simp at h,fun h=>by simp at h,fun h=>by simp at h,fun h=>by simp at h⟩
 ·intro D u x i o ho hD hd hI
  have hi':i<11:=(List.getElem?_eq_some_iff.1 ho).1
  have cb:x.cell? ⟨bx,0,none⟩=some (.pointer (some ⟨g,0,none⟩)):=by unfold World.cell?;rw[hI.box];rfl
  obtain rfl|rfl|rfl|rfl|rfl|rfl|rfl|rfl|rfl|rfl|rfl:i=0∨i=1∨i=2∨i=3∨i=4∨i=5∨i=6∨i=7∨i=8∨i=9∨i=10:=by omega
  ·simp only[List.getElem?_cons_zero,Option.some.injEq] at ho;subst ho
   exact iv_val (run_loadp _ _ rfl rfl cb) (hI.quiet 0 (by omega) (by omega) (by omega) _ rfl)
  ·simp only[List.getElem?_cons_succ,List.getElem?_cons_zero,Option.some.injEq] at ho;subst ho
   exact iv_val (run_loadp _ _ rfl rfl cb) (hI.quiet 1 (by omega) (by omega) (by omega) _ rfl)
  ·simp only[List.getElem?_cons_succ,List.getElem?_cons_zero,Option.some.injEq] at ho;subst ho
   have e1:u 1=.pointer (some ⟨g,0,none⟩):=hI.val 1 (hd 1 (by kernel_rfl))
   exact iv_val (run_nil _ rfl e1) (hI.quiet 2 (by omega) (by omega) (by omega) _ rfl)
  ·simp only[List.getElem?_cons_succ,List.getElem?_cons_zero,Option.some.injEq] at ho;subst ho
   have e1:u 2=.pointer (some ⟨g,0,none⟩):=hI.val 2 (hd 2 (by kernel_rfl))
   exact iv_val (run_fa1 g rfl e1) (hI.quiet 3 (by omega) (by omega) (by omega) _ rfl)
  ·simp only[List.getElem?_cons_succ,List.getElem?_cons_zero,Option.some.injEq] at ho;subst ho
   have e1:u 3=.pointer (some ⟨g,258,none⟩):=hI.val 3 (hd 3 (by kernel_rfl))
   have hn:D 10=false:=by
    cases h:D 10 with
    |false=>rfl
    |true=>have:=(hI.last h).1;rw[hD] at this;cases this
   have hc:=(hI.blk hn).cell 258 (by omega)
   rw[hC] at hc
   exact iv_val (run_loads _ _ _ _ rfl e1 hc) (hI.quiet 4 (by omega) (by omega) (by omega) _ rfl)
  ·simp only[List.getElem?_cons_succ,List.getElem?_cons_zero,Option.some.injEq] at ho;subst ho
   exact iv_val (run_mv _ rfl rfl) (hI.quiet 5 (by omega) (by omega) (by omega) _ rfl)
  ·simp only[List.getElem?_cons_succ,List.getElem?_cons_zero,Option.some.injEq] at ho;subst ho
   have e1:u 5=.int .u8 (b.toNat:Int):=hI.val 5 (hd 5 (by kernel_rfl))
   have hn:D 10=false:=by
    cases h:D 10 with
    |false=>rfl
    |true=>have:=(hI.last h).2.1;rw[hD] at this;cases this
   have h7:D 7=false:=by
    cases h:D 7 with
    |false=>rfl
    |true=>have:=hI.ord h;rw[hD] at this;cases this
   obtain ⟨o1,o2⟩:=hI.old h7
   refine iv_val (run_bs1 _ rfl e1) ⟨fun j hj=>?_,fun _=>(hI.blk hn).grow (Grow.alloc _ _),(Grow.alloc _ _).block hI.box,fun _ _=>⟨x.heap.size,by simp[updv],heap_alloc_new _ _⟩,fun _=>⟨o1.alloc _,o2.a _⟩,fun c=>?_,fun c=>?_,fun c=>?_,fun _=>rfl⟩
   ·by_cases e:j=6
    ·subst e;exact trivial
    ·simp only[updv,if_neg e] at hj⊢;exact hI.val j hj
   ·simp[h7] at c
   ·simp[hn] at c
   ·simp[hn] at c
  ·simp only[List.getElem?_cons_succ,List.getElem?_cons_zero,Option.some.injEq] at ho;subst ho
   have e4:u 4=.slice so l.length sc:=hI.val 4 (hd 4 (by kernel_rfl))
   obtain ⟨k,e6,hk⟩:=hI.tmp (hd 6 (by kernel_rfl)) hD
   obtain ⟨o1,o2⟩:=hI.old hD
   have hn:D 10=false:=by
    cases h:D 10 with
    |false=>rfl
    |true=>have:=(hI.last h).2.2;rw[hD] at this;cases this
   obtain ⟨v',x',hrun,r1,r2,r3,r4⟩:=run_append_own_at (P:=Tryz.prog) x B 57 57 5 i0 (.int .u8 0) 1 1 Tryz.underlying57 hi hz0 hz1 hz2 rfl (by decide) (.slice so l.length sc) l.length (bvals l) o1 ⟨k,0,none⟩ 1 1 [.int .u8 (b.toNat:Int)] rfl
    (by
     intro j y hj
     obtain rfl:j=0:=by have:=(List.getElem?_eq_some_iff.1 hj).1;simpa using this
     simp at hj;subst hj
     show x.cell? ⟨k,0,none⟩=_
     unfold World.cell?;rw[hk];rfl)
    (by intro y hy;simp at hy;subst hy;rfl) (by simp[maxLen];omega) (by omega) (Nat.le_trans hBw (Grow.size o2))
   have hbv:bvals l++[.int .u8 (b.toNat:Int)]=bvals (l++[b]):=by rw[bvals_append];rfl
   rw[hbv] at r1
   have hblk:=hI.blk hn
   refine iv_val (run_app _ _ rfl e4 e6 hrun) ⟨fun j hj=>?_,fun _=>?_,?_,fun _ c=>?_,fun c=>?_,fun _=>⟨by simpa [updv] using r1,?_,?_⟩,fun c=>?_,fun c=>?_,fun _=>?_⟩
   ·by_cases e:j=7
    ·subst e;exact trivial
    ·simp only[updv,if_neg e] at hj⊢;exact hI.val j hj
   ·have:=r2.block g hblk.lt (row_ne o1 hblk (by decide))
    unfold Blk at hblk⊢;rw[this];exact hblk
   ·rw[r2.block bx (Array.getElem?_eq_some_iff.1 hI.box).1 (row_ne o1 hI.box (by decide))];exact hI.box
   ·simp at c
   ·simp at c
   ·have e:updv u 7 v' 7=v':=by simp[updv]
    rw[e]
    rcases r4 with r4|r4
    ·exact .inl r4
    ·exact .inr ⟨_,r4,Grow.size o2⟩
   ·exact (Chg.of_grow o2).trans (.inl rfl) ⟨r2.os,r2.tape,r2.output,r2.size,fun j hj _ hr=>r2.block j hj hr⟩
   ·simp[hn] at c
   ·simp[hn] at c
   ·exact hd 6 (by kernel_rfl)
  ·simp only[List.getElem?_cons_succ,List.getElem?_cons_zero,Option.some.injEq] at ho;subst ho
   have e1:u 0=.pointer (some ⟨g,0,none⟩):=hI.val 0 (hd 0 (by kernel_rfl))
   exact iv_val (run_nil _ rfl e1) (hI.quiet 8 (by omega) (by omega) (by omega) _ rfl)
  ·simp only[List.getElem?_cons_succ,List.getElem?_cons_zero,Option.some.injEq] at ho;subst ho
   have e1:u 8=.pointer (some ⟨g,0,none⟩):=hI.val 8 (hd 8 (by kernel_rfl))
   exact iv_val (run_fa1 g rfl e1) (hI.quiet 9 (by omega) (by omega) (by omega) _ rfl)
  ·simp only[List.getElem?_cons_succ,List.getElem?_cons_zero,Option.some.injEq] at ho;subst ho
   have e9:u 9=.pointer (some ⟨g,258,none⟩):=hI.val 9 (hd 9 (by kernel_rfl))
   have h7:=hd 7 (by kernel_rfl)
   obtain ⟨n1,n2,n3⟩:=hI.new h7
   obtain ⟨s7,c7,e7⟩:=own_mem n1
   have hblk:=hI.blk hD
   have hgb:g≠bx:=by
    intro e
    have:=hI.box
    rw[←e,hblk] at this
    injection this with this
    injection this with _ this _
    exact absurd this (by decide)
   refine iv_skip (run_st g 258 s7 (l.length+1) c7 rfl e9 e7 _ (hblk.cell 258 (by omega)) (hblk.free 258)) ⟨fun j hj=>?_,fun c=>?_,?_,fun _ c=>?_,fun c=>?_,fun _=>⟨?_,?_,?_⟩,fun _=>?_,fun _=>?_,fun _=>?_⟩
   ·by_cases e:j=10
    ·subst e;exact trivial
    ·simp only[updv,if_neg e] at hj⊢;exact hI.val j hj
   ·simp at c
   ·rw[heap_setCell_other _ _ _ _ (by simpa using Ne.symm hgb)];exact hI.box
   ·simp[h7] at c
   ·simp[h7] at c
   ·have e:updv u 10 undef 7=u 7:=by simp[updv]
    rw[e]
    refine n1.kept (row:=some g) ⟨rfl,rfl,rfl,by simp[World.setCell],fun j hj hr=>heap_setCell_other _ _ _ _ (by intro e';exact hr (by rw[e']))⟩ (.inr (row_ne n1 hblk (by decide)).symm)
   ·have e:updv u 10 undef 7=u 7:=by simp[updv]
    rw[e];exact n2
   ·exact ⟨n3.os,n3.tape,n3.output,by simp[World.setCell];exact n3.size,fun j hj hg hr=>by rw[heap_setCell_other _ _ _ _ (by simpa using hg)];exact n3.block j hj hg hr⟩
   ·have e:updv u 10 undef 7=u 7:=by simp[updv]
    rw[e,e7];exact hblk.set 258 _
   ·show (if 4=10 then true else D 4)=true∧(if 6=10 then true else D 6)=true∧(if 7=10 then true else D 7)=true
    rw[if_neg (by omega),if_neg (by omega),if_neg (by omega)]
    exact ⟨hd 4 (by kernel_rfl),hd 6 (by kernel_rfl),hd 7 (by kernel_rfl)⟩
   ·show (if 6=10 then true else D 6)=true
    rw[if_neg (by omega)];exact hd 6 (by kernel_rfl)
 ·intro D u x hD hI
  obtain ⟨n1,n2,n3⟩:=hI.new (hD 7 (by decide))
  have n4:=hI.fin (hD 10 (by decide))
  go_wp2
  exact bodyPost_end (results_none rfl _ _ _) rfl ⟨rfl,_,n4,n1,n2,n3⟩
end
section
structure CbW (g bx L:Nat) (Q:List UInt8→(Nat→Value)→World→Prop):Prop where
 set:∀l X Y w i v,i<258→Blk w g 232 259 Y→Q l X w→Q l X (w.setCell ⟨g,i,none⟩ v)
 drewN:∀l X w n,Q l X w→Q l X (w.drewN n)
 call:∀l X w p lo en b,Blk w g 232 259 (cc p lo en X)→Q l X w→l.length≤L→Calls Tryz.prog 188 #[.int .u8 (b.toNat:Int),.pointer (some ⟨bx,0,none⟩)] w fun e w'=>e=.returned (.tuple #[])∧∃X',Blk w' g 232 259 (cc p lo en X')∧Q (l++[b]) X' w'
theorem w16 (n:Int) (h0 : -32768≤n) (h1:n≤32767):IntKind.i16.wrap n=n:=by
 show (if (true&&decide (n % 65536≥32768))=true then n % 65536-65536 else n % 65536)=n
 by_cases h:n % 65536≥32768
 ·rw[if_pos (by simp[h])];omega
 ·rw[if_neg (by simp[h])];omega
set_option maxRecDepth 100000 in
set_option maxHeartbeats 2000000 in
theorem narrow_w {g bx L:Nat} {Q:List UInt8→(Nat→Value)→World→Prop} (HC:Hid (CbW g bx L Q)) (s:M.St) (hs:M.Ok s) (c bit:Int) (X:Nat→Value) (l:List UInt8) (w:World)
  (hB:Blk w g 232 259 (cc s.p s.lo (4294967295-s.hi) X)) (hQ:Q l X w) (hl:l.length+4≤L) :
  Calls Tryz.prog 187 #[.pointer (some ⟨g,0,none⟩),.int .i64 c,.int .i64 bit,.func (.func 188) #[] #[.pointer (some ⟨bx,0,none⟩)]] w fun e w'=>e=.returned (.tuple #[])∧
   ∃X',Blk w' g 232 259 (cc (M.nxt s (cx c) (bit % 2)).p (M.nxt s (cx c) (bit % 2)).lo (4294967295-(M.nxt s (cx c) (bit % 2)).hi) X')∧Q (l++M.outB s (cx c) (bit % 2)) X' w':=by
 have hk:=cx_lt c
 have c0:=hB.cell (cx c) (by omega)
 rw[cc_p _ hk] at c0
 have HM:=Lib.hid (mid_any g s hs c w c0 (by rw[hB.cell 256 (by omega),cc_lo]) (by rw[hB.cell 257 (by omega),cc_en]))
 obtain ⟨p1,p2⟩:=hs.p (cx c)
 have HI:=Lib.hid (M.iv1 hs (cx c) (bit % 2))
 have HX:=Lib.hid (show M.nxt s (cx c) (bit % 2)=⟨M.put s.p (cx c) (M.np (s.p (cx c)) (bit % 2)),(M.shs 4 (M.lo1 s (cx c) (bit % 2)) (M.hi1 s (cx c) (bit % 2))).2.1,(M.shs 4 (M.lo1 s (cx c) (bit % 2)) (M.hi1 s (cx c) (bit % 2))).2.2⟩ from rfl)
 have HO:=Lib.hid (show M.outB s (cx c) (bit % 2)=(M.shs 4 (M.lo1 s (cx c) (bit % 2)) (M.hi1 s (cx c) (bit % 2))).1 from rfl)
 have hmd:=M.md_in hs (cx c)
 have hl0:=hs.lo
 have hh1:=hs.hi
 have ha:=and_255 c
 rw[←cx_val] at ha
 have hb:=and_1 bit
 go_enter Tryz.func187,Tryz.ntmps187
 go_wp2_with fail
 refine HM.out.mono ?_
 rintro e x ⟨rfl,nn,rfl⟩
 have HB:=Lib.hid (show Blk (w.drewN nn) g 232 259 (cc s.p s.lo (4294967295-s.hi) X) from hB)
 have HQ:=Lib.hid (HC.out.drewN _ _ _ nn hQ)
 clear HM hB hQ hs
 replace c0:(w.drewN nn).cell? ⟨g,cx c,none⟩=some (.int .i16 (s.p (cx c)-2048)):=c0
 generalize w.drewN nn=W at *
 go_upto_if 28 with fail
 have m0:0≤M.md s (cx c):=by omega
 have hn:=not_u32 (M.md s (cx c)) m0 (by omega)
 have m1:IntKind.u32.wrap (M.md s (cx c)+1)=M.md s (cx c)+1:=w32 _ (by omega) (by omega)
 have c6:W.cell? ⟨g,256,none⟩=some (.int .u32 s.lo):=by rw[HB.out.cell 256 (by omega),cc_lo]
 have c7:W.cell? ⟨g,257,none⟩=some (.int .u32 (4294967295-s.hi)):=by rw[HB.out.cell 257 (by omega),cc_en]
 have f6:=HB.out.free 256
 have f7:=HB.out.free 257
 go_cut [10] (fun s10 wx=>s10=.int .i64 (M.np (s.p (cx c)) (bit % 2))∧Blk wx g 232 259 (cc s.p (M.lo1 s (cx c) (bit % 2)) (4294967295-M.hi1 s (cx c) (bit % 2)) X)∧Q l X wx)
 case first=>
  by_cases hbit:bit % 2=1
  ·rw[hbit]
   go_wp2
   go_meet
   refine ⟨?_,?_,HC.out.set _ _ _ _ _ _ (by omega) HB.out HQ.out⟩
   ·unfold M.np;rw[if_pos hbit]
   ·have:=HB.out.set 257 (.int .u32 (4294967295-M.md s (cx c)))
    rw[cc_put_en] at this
    rw[show M.lo1 s (cx c) (bit % 2)=s.lo from if_pos hbit,show M.hi1 s (cx c) (bit % 2)=M.md s (cx c) from if_pos hbit]
    exact this
  ·obtain hbit:bit % 2=0:=by omega
   rw[hbit]
   go_wp2
   go_meet
   refine ⟨?_,?_,HC.out.set _ _ _ _ _ _ (by omega) HB.out HQ.out⟩
   ·unfold M.np;rw[if_neg (by omega)]
   ·have:=HB.out.set 256 (.int .u32 (M.md s (cx c)+1))
    rw[cc_put_lo] at this
    rw[show M.lo1 s (cx c) (bit % 2)=M.md s (cx c)+1 from if_neg (by omega),show M.hi1 s (cx c) (bit % 2)=s.hi from if_neg (by omega)]
    exact this
 case rest=>
 clear HB HQ hn m0 m1 c6 c7 f6 f7 c0 hmd hl0 hh1 hb
 obtain ⟨rfl,hB,hQ⟩:=hcut
 obtain ⟨W1,hW1⟩:∃W1:World,W1=wc:=⟨_,rfl⟩
 subst hW1
 have n0:=M.np_bd ⟨p1,p2⟩ (bit % 2)
 have c0:=hB.cell (cx c) (by omega)
 rw[cc_p _ hk] at c0
 have f0:=hB.free (cx c)
 have HB:=Lib.hid (cc_put_p (cx c) hk _▸hB.set (cx c) (.int .i16 (M.np (s.p (cx c)) (bit % 2)-2048)))
 have HQ:=Lib.hid (HC.out.set _ _ _ _ (cx c) (.int .i16 (M.np (s.p (cx c)) (bit % 2)-2048)) (by omega) hB hQ)
 clear hB hQ
 have hw1:IntKind.i16.wrap (M.np (s.p (cx c)) (bit % 2)-2048)=M.np (s.p (cx c)) (bit % 2)-2048:=w16 _ (by omega) (by omega)
 generalize M.np (s.p (cx c)) (bit % 2)=np at *
 generalize M.lo1 s (cx c) (bit % 2)=lo0 at *
 generalize M.hi1 s (cx c) (bit % 2)=hi0 at *
 clear p1 p2
 go_upto_block 1 with fail
 go_loopg [11] 4 (fun k s11 wr=>∃(l':List UInt8) (lo hi:Int) (X':Nat→Value),Hid (M.Iv k lo hi∧l'++(M.shs k lo hi).1=l++(M.shs 4 lo0 hi0).1∧(M.shs k lo hi).2=(M.shs 4 lo0 hi0).2∧l'.length+k≤l.length+4∧Blk wr g 232 259 (cc (M.put s.p (cx c) np) lo (4294967295-hi) X')∧Q l' X' wr))
 case atStart=>exact ⟨l,lo0,hi0,X,Lib.hid ⟨HI.out,rfl,rfl,Nat.le_refl _,HB.out,HQ.out⟩⟩
 case round=>
  obtain ⟨l',lo,hi,X',HR⟩:=hrel
  clear HB HQ HI
  obtain ⟨i1,i2,i3,i4,i5,i6⟩:=id HR.out
  have j0:=i1.lo
  have j1:=i1.le
  have j2:=i1.hi
  have c6:wr.cell? ⟨g,256,none⟩=some (.int .u32 lo):=by rw[i5.cell 256 (by omega),cc_lo]
  have c7:wr.cell? ⟨g,257,none⟩=some (.int .u32 (4294967295-hi)):=by rw[i5.cell 257 (by omega),cc_en]
  have HI:=Lib.hid (high_any g hi (by omega) j2)
  have f6:=i5.free 256
  have f7:=i5.free 257
  clear i1 i2 i3 i4 i5 i6
  go_upto_region 9 with fail
  refine q_region (C:=fun x=>∃n,x=wr.drewN n) (by kernel_rfl) (by kernel_rfl) ⟨1,rfl⟩ ?_
  repeat (first
   |go_big_quiet_skip
   |(go_big_quiet_want;refine q_val ?_;apply Exists.intro;refine ⟨fun x hx=>?_,?_⟩;(focus (obtain ⟨n,rfl⟩:=hx;go_simp<;>rfl));simp only[Act.put,List.setIfInBounds_toArray,List.set_cons_zero,List.set_cons_succ];go_big_quiet_on)
   |(go_big_quiet_want;refine q_call 203 ?_;apply Exists.intro;refine ⟨fun x hx=>?_,?_⟩;(focus (go_simp<;>rfl));apply Exists.intro;refine ⟨fun x hx=>?_,?_⟩;(focus (obtain ⟨n,rfl⟩:=hx;exact (HI.out (wr.drewN n) c7).mono fun e w' h=>⟨h.1,n,h.2.symm⟩));simp only[Act.put,List.setIfInBounds_toArray,List.set_cons_zero,List.set_cons_succ];go_big_quiet_on))
  refine wpQuiet_nil ?_
  rintro x ⟨n,rfl⟩
  have hgn:∃W2:World,W2=wr.drewN n:=⟨_,rfl⟩
  have HR2:=Lib.hid (show M.Iv gk lo hi∧l'++(M.shs gk lo hi).1=l++(M.shs 4 lo0 hi0).1∧(M.shs gk lo hi).2=(M.shs 4 lo0 hi0).2∧l'.length+gk≤l.length+4∧Blk (wr.drewN n) g 232 259 (cc (M.put s.p (cx c) np) lo (4294967295-hi) X')∧Q l' X' (wr.drewN n) from
   ⟨HR.out.1,HR.out.2.1,HR.out.2.2.1,HR.out.2.2.2.1,HR.out.2.2.2.2.1,HC.out.drewN _ _ _ n HR.out.2.2.2.2.2⟩)
  replace c6:(wr.drewN n).cell? ⟨g,256,none⟩=some (.int .u32 lo):=c6
  replace c7:(wr.drewN n).cell? ⟨g,257,none⟩=some (.int .u32 (4294967295-hi)):=c7
  replace f6:(wr.drewN n).frozen? ⟨g,256,none⟩=false:=f6
  replace f7:(wr.drewN n).frozen? ⟨g,257,none⟩=false:=f7
  clear HR HI hgn
  generalize wr.drewN n=W2 at *
  cases e:(lo / 16777216==hi / 16777216) with
  |true=>
   have e':lo / 16777216=hi / 16777216:=by simpa using e
   obtain ⟨i1,i2,i3,i4,i5,i6⟩:=HR2.out
   clear HR2
   cases gk with
   |zero=>exact absurd e' i1.stop
   |succ k=>
    rw[M.shs_eq k lo hi e'] at i2 i3
    have in':=i1.next e'
    have hby:=(M.byt_val j0 (by omega)).symm
    have hB3:=i5.set 256 (.int .u32 (lo*256 % 4294967296))
    rw[cc_put_lo] at hB3
    have hB4:=hB3.set 257 (.int .u32 (4294967295-(hi*256+255) % 4294967296))
    rw[cc_put_en] at hB4
    have hQ4:=HC.out.set _ _ _ _ 257 (.int .u32 (4294967295-(hi*256+255) % 4294967296)) (by omega) hB3 (HC.out.set _ _ _ _ 256 (.int .u32 (lo*256 % 4294967296)) (by omega) i5 i6)
    have HK:=Lib.hid (HC.out.call l' X' _ _ _ _ (M.byt lo) hB4 hQ4 (by omega))
    have HP:=Lib.hid (And.intro i2 (And.intro i3 (And.intro i4 in')))
    have HE:=Lib.hid e'
    rw[←hby] at HK
    have hen:4294967295-(hi*256+255) % 4294967296=(4294967295-hi)*256 % 4294967296:=by omega
    rw[hen] at HK
    replace hen:=Lib.hid hen
    clear i1 i2 i3 i4 i5 i6 in' hB3 hB4 hQ4 hby e'
    go_wp2_with fail
    refine HK.out.mono ?_
    rintro e y ⟨rfl,X2,hB5,hQ5⟩
    go_wp2
    go_roundg k
    case measure=>omega
    case rel=>
     obtain ⟨i2,i3,i4,in'⟩:=HP.out
     exact ⟨l'++[M.byt lo],_,_,X2,Lib.hid ⟨in',by rw[←i2,List.append_assoc];rfl,i3,by rw[List.length_append,List.length_singleton];omega,hen.out▸hB5,hQ5⟩⟩
  |false=>
   obtain ⟨i1,i2,i3,i4,i5,i6⟩:=HR2.out
   clear HR2
   go_wp2
   have e':lo / 16777216≠hi / 16777216:=by simpa using e
   rw[M.shs_ne _ lo hi e'] at i2 i3
   refine bodyPost_end (results_none rfl _ _ _) rfl ⟨rfl,X',?_,?_⟩
   ·rw[HX.out]
    show Blk _ _ _ _ (cc _ (M.shs 4 _ _).2.1 (_-(M.shs 4 _ _).2.2) _)
    rw[←i3];exact i5
   ·rw[HO.out,←i2];simpa using i6
end
section
theorem own_set {x:World} {B g:Nat} {Y:Nat→Value} {v:Value} {n:Nat} {xs:List Value} (h:x.ownsRow B 5 1 v n xs) (hb:Blk x g 232 259 Y) (i:Nat) (u:Value):(x.setCell ⟨g,i,none⟩ u).ownsRow B 5 1 v n xs:=
 h.kept (row:=some g) ⟨rfl,rfl,rfl,by simp[World.setCell],fun j hj hr=>heap_setCell_other _ _ _ _ (by intro e';exact hr (by rw[e']))⟩ (.inr (row_ne h hb (by decide)).symm)
theorem Chg.set {g row x y} (h:Chg g row x y) (i:Nat) (u:Value):Chg g row x (y.setCell ⟨g,i,none⟩ u):=
 ⟨h.os,h.tape,h.output,by simp[World.setCell];exact h.size,fun j hj hg hr=>by rw[heap_setCell_other _ _ _ _ (by simpa using hg)];exact h.block j hj hg hr⟩
theorem blk_ne {x:World} {g bx t t' n:Nat} {Y:Nat→Value} {c:Array Value} {fr} (h:Blk x g t n Y) (k:x.heap[bx]? = some (.cells c t' fr)) (ht:t≠t'):bx≠g:=by
 intro e
 subst e
 unfold Blk at h
 rw[h] at k
 injection k with k
 injection k with _ k _
 exact ht k
structure WQ (B g bx:Nat) (ro:Option Nat) (w1:World) (l:List UInt8) (X:Nat→Value) (x:World):Prop where
 bd:B≤x.heap.size
 own:x.ownsRow B 5 1 (X 258) l.length (bvals l)
 nxt:Nxt ro (X 258).ownBlock w1
 chg:Chg g ro w1 x
 box:x.heap[bx]? = some (.cells #[.pointer (some ⟨g,0,none⟩)] 202 (0,0))
theorem wq_cb (B g bx:Nat) (ro:Option Nat) (w1:World):CbW g bx 100000000 (WQ B g bx ro w1) where
 set:=fun l X Y w i v hi hb h=>⟨by simp[World.setCell];exact h.bd,own_set h.own hb i v,h.nxt,h.chg.set i v,by
  rw[heap_setCell_other _ _ _ _ (by simpa using blk_ne hb h.box (by decide))];exact h.box⟩
 drewN:=fun l X w n h=>⟨h.bd,h.own,h.nxt,⟨h.chg.os,h.chg.tape,h.chg.output,h.chg.size,h.chg.block⟩,h.box⟩
 call:=fun l X w p lo en b hb h hl=>by
  refine (push_w B g bx (cc p lo en X) (X 258) l b w hb (cc_x 258 (by omega)) h.own h.box hl h.bd).mono ?_
  rintro e w' ⟨rfl,v',h1,h2,h3,h4⟩
  rw[cc_put_x 258 (by omega)] at h1
  have e2:vput X 258 v' 258=v':=by simp[vput]
  refine ⟨rfl,vput X 258 v',h1,⟨Nat.le_trans h.bd h4.size,by rw[e2,List.length_append];exact h2,by rw[e2];exact h.nxt.trans h.chg.size h3,h.chg.trans h.nxt h4,?_⟩⟩
  rw[h4.block bx (Array.getElem?_eq_some_iff.1 h.box).1 (blk_ne hb h.box (by decide)) (row_ne h.own h.box (by decide))]
  exact h.box
set_option maxRecDepth 100000 in
set_option maxHeartbeats 1000000 in
theorem bit_w (B g:Nat) (s:M.St) (hs:M.Ok s) (c bit:Int) (X:Nat→Value) (l:List UInt8) (w:World)
  (hB:Blk w g 232 259 (cc s.p s.lo (4294967295-s.hi) X)) (hown:w.ownsRow B 5 1 (X 258) l.length (bvals l)) (hBw:B≤w.heap.size) (hl:l.length+4≤100000000) :
  Calls Tryz.prog 156 #[.pointer (some ⟨g,0,none⟩),.int .i64 c,.int .i64 bit] w fun e w'=>e=.returned (.tuple #[])∧
   ∃X',Blk w' g 232 259 (cc (M.nxt s (cx c) (bit % 2)).p (M.nxt s (cx c) (bit % 2)).lo (4294967295-(M.nxt s (cx c) (bit % 2)).hi) X')∧
    w'.ownsRow B 5 1 (X' 258) (l++M.outB s (cx c) (bit % 2)).length (bvals (l++M.outB s (cx c) (bit % 2)))∧Nxt (X 258).ownBlock (X' 258).ownBlock w∧Chg g (X 258).ownBlock w w':=by
 have h1:=hB.grow (Grow.alloc w (.cells #[.pointer (some ⟨g,0,none⟩)] 202))
 have h2:WQ B g w.heap.size (X 258).ownBlock (w.alloc (.cells #[.pointer (some ⟨g,0,none⟩)] 202)) l X (w.alloc (.cells #[.pointer (some ⟨g,0,none⟩)] 202)):=
  ⟨Nat.le_trans hBw (Grow.size (Grow.alloc _ _)),hown.alloc _,.inl rfl,Chg.refl _ _ _,heap_alloc_new _ _⟩
 have HN:=Lib.hid (narrow_w (Lib.hid (wq_cb B g w.heap.size (X 258).ownBlock (w.alloc (.cells #[.pointer (some ⟨g,0,none⟩)] 202)))) s hs c bit X l _ h1 h2 hl)
 clear h1 h2 hB hown
 go_enter Tryz.func156,Tryz.ntmps156
 go_wp2_with fail
 refine HN.out.mono ?_
 rintro e x ⟨rfl,X',hB,hQ⟩
 go_wp2
 refine bodyPost_end (results_none rfl _ _ _) rfl ⟨rfl,X',hB,hQ.own,?_,?_⟩
 ·rcases hQ.nxt with h|⟨k,h,hk⟩
  ·exact .inl h
  ·exact .inr ⟨k,h,Nat.le_trans (Grow.size (Grow.alloc _ _)) hk⟩
 ·exact (Chg.of_grow (Grow.alloc _ _)).trans (.inl rfl) hQ.chg
end
end Go.Proofs.YtpdckpifhniioaaGreat.Cod
end
