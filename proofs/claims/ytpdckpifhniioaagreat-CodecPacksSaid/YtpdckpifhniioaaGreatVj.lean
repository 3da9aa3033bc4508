/- Part 10 of what CodecPacks rests on. -/
import Derived.Deep.MidRow
import Derived.Deep.WholeRow
import Derived.Deep.RegionHeld3
import Derived.Deep.DrawnRows
import Derived.Deep.Cut
import Derived.Test.YtpdckpifhniioaaGreatVg
import Derived.Test.YtpdckpifhniioaaGreatVi
section
set_option linter.unusedVariables false
set_option linter.unusedSimpArgs false
namespace Go.Proofs.YtpdckpifhniioaaGreat.Prd
open Go.RowKit
open Go.Proofs.YtpdckpifhniioaaGreat
section
def cf (n:Nat) (f:Nat→UInt8):Array Value:=((List.range n).map fun i=>Value.int .u8 ((f i).toNat:Int)).toArray
theorem cf_size (n:Nat) (f:Nat→UInt8):(cf n f).size=n:=by simp[cf]
theorem cf_at (n:Nat) (f:Nat→UInt8) (i:Nat) (h:i<n):(cf n f)[i]? = some (.int .u8 ((f i).toNat:Int)):=by simp[cf,h]
theorem cf_none (n:Nat) (f:Nat→UInt8) (i:Nat) (h:n≤i):(cf n f)[i]? = none:=by simp[cf,h]
theorem cf_congr (n:Nat) (f g:Nat→UInt8) (h:∀i,i<n→f i=g i):cf n f=cf n g:=by
 unfold cf
 congr 1
 exact List.map_congr_left fun i hi=>by rw[h i (by simpa using hi)]
theorem cf_set (n:Nat) (f:Nat→UInt8) (i:Nat) (v:UInt8):(cf n f).setIfInBounds i (.int .u8 (v.toNat:Int))=cf n (M.put f i v):=by
 apply Array.ext_getElem?
 intro j
 rw[Array.getElem?_setIfInBounds]
 by_cases hj:j<n
 ·rw[cf_at n (M.put f i v) j hj]
  by_cases e:i=j
  ·subst e;rw[if_pos rfl,if_pos (by rw[cf_size];exact hj),M.put_same]
  ·rw[if_neg e,cf_at n f j hj,M.put_other _ _ _ _ (fun h=>e h.symm)]
 ·rw[cf_none n (M.put f i v) j (by omega)]
  by_cases e:i=j
  ·subst e;rw[if_pos rfl,if_neg (by rw[cf_size];exact hj)]
  ·rw[if_neg e,cf_none n f j (by omega)]
theorem cf_one (n:Nat) (f:Nat→UInt8):(cf n f).all (·.oneCell')=true:=by
 rw[Array.all_eq_true]
 intro i hi
 have h:=cf_at n f i (by rw[cf_size] at hi;exact hi)
 rw[Array.getElem?_eq_getElem hi] at h
 rw[Option.some.inj h];rfl
theorem cf_extract (n:Nat) (f:Nat→UInt8) (o m:Nat) (h:o+m≤n):(cf n f).extract o (o+m)=cf m (fun i=>f (o+i)):=by
 apply Array.ext_getElem?
 intro j
 rw[Array.getElem?_extract]
 by_cases hj:j<m
 ·rw[if_pos (by rw[cf_size];omega),cf_at n f _ (by omega),cf_at m _ j hj]
 ·rw[if_neg (by rw[cf_size];omega),cf_none m _ j (by omega)]
theorem cf_tab (n:Nat) (f:Nat→UInt8):(cf n f).toList=bvals (M.tab n f):=by simp[cf,bvals,M.tab]
theorem cf4 (f:Nat→UInt8):cf 4 f = #[.int .u8 ((f 0).toNat:Int),.int .u8 ((f 1).toNat:Int),.int .u8 ((f 2).toNat:Int),.int .u8 ((f 3).toNat:Int)]:=by rfl
def Bk (g:Nat) (t:TypeId) (n:Nat) (f:Nat→UInt8) (w:World):Prop:=w.heap[g]? = some (.cells (cf n f) t (0,0))
theorem Bk.lt {g t n f w} (h:Bk g t n f w):g<w.heap.size:=by
 rcases Nat.lt_or_ge g w.heap.size with h'|h'
 ·exact h'
 ·unfold Bk at h;rw[Array.getElem?_eq_none h'] at h;simp at h
theorem Bk.cell {g t n f w} (h:Bk g t n f w) (i:Nat) (hi:i<n):w.cell? ⟨g,i,none⟩=some (.int .u8 ((f i).toNat:Int)):=by
 rw[cell_of_row w g i _ _ _ h];exact cf_at n f i hi
theorem Bk.free {g t n f w} (h:Bk g t n f w) (i:Nat):w.frozen? ⟨g,i,none⟩=false:=frozen_of_row w g i _ _ h
theorem Bk.set {g t n f w} (h:Bk g t n f w) (i:Nat) (v:UInt8):Bk g t n (M.put f i v) (w.setCell ⟨g,i,none⟩ (.int .u8 (v.toNat:Int))):=by
 unfold Bk
 rw[heap_setCell_same _ _ _ _ _ _ h,cf_set]
theorem Bk.other {g t n f w} (h:Bk g t n f w) (a:Addr) (v:Value) (hne:g≠a.block):Bk g t n f (w.setCell a v):=by
 unfold Bk
 rw[heap_setCell_other _ _ _ _ hne];exact h
theorem Bk.keep {g t n f w w1} (h:Bk g t n f w) (hb:Below w.heap.size w w1):Bk g t n f w1:=by
 have hl:=h.lt
 unfold Bk at h⊢
 rw[hb.block _ hl];exact h
theorem Bk.drew {g t n f w} (h:Bk g t n f w):Bk g t n f w.drew:=h
theorem Bk.alloc {g t n f w} (h:Bk g t n f w) (o:Obj):Bk g t n f (w.alloc o):=h.keep ((Below.refl _ _).alloc (Nat.le_refl _) o)
theorem Bk.new (w:World) (t:TypeId) (n:Nat) (f:Nat→UInt8):Bk w.heap.size t n f (w.alloc (.cells (cf n f) t)):=heap_alloc_new _ _
theorem Bk.congr {g t n f f' w} (h:Bk g t n f w) (he:∀i,i<n→f i=f' i):Bk g t n f' w:=by
 unfold Bk at h⊢
 rw[h,cf_congr n f f' he]
theorem Tryz.zero191 (w:World):(zeroValue 191).run Tryz.prog w=.ok (.agg (cf 256 fun _=>0)) w:=by kernel_rfl
theorem Tryz.zero190 (w:World):(zeroValue 190).run Tryz.prog w=.ok (.agg (cf 64 fun _=>0)) w:=by kernel_rfl
theorem Tryz.size191:(Tryz.prog.info? 191).map (·.size)=some 256:=by kernel_rfl
theorem Tryz.size38:(Tryz.prog.info? 38).map (·.size)=some 256:=by kernel_rfl
theorem Tryz.size190:(Tryz.prog.info? 190).map (·.size)=some 64:=by kernel_rfl
theorem Tryz.size36:(Tryz.prog.info? 36).map (·.size)=some 4:=by kernel_rfl
def px (t:Nat→UInt8) (i:Nat):Array Value:=#[.int .u8 ((t (4*i)).toNat:Int),.int .u8 ((t (4*i+1)).toNat:Int),.int .u8 ((t (4*i+2)).toNat:Int),.int .u8 ((t (4*i+3)).toNat:Int)]
theorem run_index_pix (t:Nat→UInt8) (i:Nat) (h:i<64) (w:World):(Instr.index 38 (.agg (cf 256 t)) (.int .i64 i)).run Tryz.prog w=.ok (.agg (px t i)) w:=by
 have hp:(cf 256 t).extract (i*4) (i*4+4)=px t i:=by
  rw[cf_extract 256 t _ _ (by omega),cf4,Nat.mul_comm];rfl
 have hu:=Tryz.underlying38
 cases hq:Tryz.prog.info? 36 with
 |none=>have:=Tryz.size36;rw[hq] at this;simp at this
 |some inf=>
  have hs:inf.size=4:=by have:=Tryz.size36;rw[hq] at this;simpa using this
  simp[Instr.index,asIntOf,Sem.run_bind,run_underlying hu,h,part,sizeOf,typeInfo,hq,hs,hp]
end
section
theorem range_cf {g:Nat} {t:TypeId} {N:Nat} {f:Nat→UInt8} {w:World} (h:Bk g t N f w) (o n:Nat) (hle:o+n≤N):w.rangeAt g o (cf n fun i=>f (o+i)).toList:=by
 intro j v hj
 rw[Array.getElem?_toList] at hj
 have hjn:j<n:=by
  rcases Nat.lt_or_ge j n with h'|h'
  ·exact h'
  ·rw[cf_none n _ j h'] at hj;simp at hj
 rw[cf_at n _ j hjn] at hj
 rw[h.cell (o+j) (by omega),←hj]
section
variable {ops:Array Oper} {rest:List Oper} {op:Oper} {a:Act} {w:World} {Q:Exit→Act→World→Prop}
theorem wp_load_cf (hgd:op.guard=none) (ty:TypeId) (x:Operand) (ho:op.op=.load ty x) (b o n N:Nat) (t:TypeId) (f:Nat→UInt8) (hx:a.eval x=.pointer (some ⟨b,o,none⟩))
  (d:TypeDesc) (hB:Bk b t N f w) (hle:o+n≤N) (hu:Tryz.prog.underlying ty=some d) (hd:d.isRow=true) (hi:(Tryz.prog.info? ty).map (·.size)=some n)
  (h:wpList Tryz.prog ops Q rest (a.put op.dst (.agg (cf n fun i=>f (o+i)))) w):wpList Tryz.prog ops Q (op::rest) a w:=
 wpList_load_mid hgd ty x ho b o hx (cf n fun i=>f (o+i)).toList d (range_cf hB o n hle) hu hd (by rw[hi,Array.length_toList,cf_size]) (by rw[Array.toArray_toList];exact h)
theorem wp_store_cf (W:World) (hgd:op.guard=none) (ty:TypeId) (x y:Operand) (ho:op.op=.store ty x y) (hd:op.dst=none) (g:Nat) (hg:g=W.heap.size) (n:Nat) (f f0:Nat→UInt8) (hx:a.eval x=.pointer (some ⟨g,0,none⟩)) (hy:a.eval y=.agg (cf n f))
  (hi:(Tryz.prog.info? ty).map (·.size)=some n) (t:TypeId)
  (h:wpList Tryz.prog ops Q rest (a.put op.dst undef) (W.alloc (.cells (cf n f) t))):wpList Tryz.prog ops Q (op::rest) a (W.alloc (.cells (cf n f0) t)):=by
 subst hg
 refine wpList_store_row hgd ty x y ho W.heap.size (cf n f) hx hy t (cf n f0) (heap_alloc_new _ _) (by rw[hi,cf_size]) (by rw[cf_size,cf_size]) (cf_one _ _) ?_
 rw[World.setRow_alloc_new]
 exact h
theorem wp_append_cf (hgd:op.guard=none) (s x:Operand) (ho:op.op=.call {callee:=.builtin .append,args:=#[s,x],argTypes:=#[57,57]})
  (base:Nat) (v:Value) (n:Nat) (l:List UInt8) (hs:a.eval s=v) (hown:w.ownsRow base 5 1 v n (bvals l)) (g o m c N:Nat) (t:TypeId) (f:Nat→UInt8) (hB:Bk g t N f w)
  (hx:a.eval x=.slice (some ⟨g,o,none⟩) m c) (hle:o+m≤N) (hlen:n+m≤140737488355328) (hbase:base≤w.heap.size)
  (h:∀v' w',w'.ownsRow base 5 1 v' (n+m) (bvals (l++M.tab m fun i=>f (o+i)))→w.grownBy w' v.ownBlock→wpList Tryz.prog ops Q rest (a.put op.dst v') w'):wpList Tryz.prog ops Q (op::rest) a w:=by
 obtain ⟨i0,hi,hz0,hz1,hz2⟩:=info_parts Tryz.info5
 refine wpList_append_own _ hgd s x 57 ho base 5 i0 (.int .u8 0) 1 1 Tryz.underlying57 hi hz0 hz1 hz2 rfl (by decide) v n (bvals l) hs hown ⟨g,o,none⟩ m c (cf m fun i=>f (o+i)).toList hx (by rw[Array.length_toList,cf_size];omega)
  (fun j u hj=>by rw[Addr.add_mid];exact range_cf hB o m hle j u hj) (fun u hu=>?_) (by unfold maxLen;omega) (by omega) hbase fun v' w' h1 h2 _=>h v' w' (by rw[bvals_append,←cf_tab];exact h1) h2
 have:=cf_one m fun i=>f (o+i)
 rw[Array.all_eq_true] at this
 rw[Array.mem_toList_iff] at hu
 obtain ⟨i,hi,rfl⟩:=Array.mem_iff_getElem.1 hu
 exact this i hi
end
set_option maxRecDepth 100000 in
set_option maxHeartbeats 400000 in
theorem concat_any (g:Nat) (f:Nat→UInt8) (w:World) (h:Bk g 191 256 f w) :
  Calls Tryz.prog 152 #[.slice (some ⟨g,0,none⟩) 4 4] w fun e w'=>e=.returned (.string ⟨(M.tab 256 f).toArray⟩)∧Below w.heap.size w w':=by
 have hz:=Tryz.zero190
 go_enter Tryz.func152,Tryz.ntmps152
 go_wp2_with fail
 clear hz
 go_loopw [3,8] (fun v a wr=>∃q:Nat,q≤4∧a=.int .i64 q∧wr.ownsRow w.heap.size 5 1 v (q*64) (bvals (M.tab (q*64) f))∧Bk g 191 256 f wr∧Below w.heap.size w wr) (fun _ a _=>4-(intOf a).toNat)
 case atStart=>exact ⟨0,by omega,rfl,World.ownsRow_nil _ _ _ _,h,Below.refl _ _⟩
 case round=>
  obtain ⟨q,hq,rfl,hown,hB,hb⟩:=hrel
  by_cases hq4:q<4
  ·have hz:=Tryz.zero190
   go_wp2_with (first
    |(refine wp_load_cf rfl 190 _ rfl g (q*64) 64 256 191 f rfl _ hB (by omega) Tryz.underlying190 rfl Tryz.size190 ?_)
    |(refine wp_store_cf wr rfl 190 _ _ rfl rfl wr.heap.size rfl 64 _ (fun _=>0) rfl rfl Tryz.size190 190 ?_)
    |(at_builtin;refine wp_append_cf rfl _ _ rfl w.heap.size _ (q*64) _ rfl (hown.alloc _) wr.heap.size 0 64 64 64 190 (fun i=>f (q*64+i)) (Bk.new wr 190 64 _) rfl (by omega) (by omega) (by rw[World.size_alloc];have:=hb.size;omega) ?_;intro v' w' hown' hgr))
   go_roundw
   case rel=>
    refine ⟨q+1,by omega,by go_num,?_,?_,?_⟩
    ·rw[show (q+1)*64=q*64+64 by omega,M.tab_add]
     simpa using hown'
    ·have hlt:=h.lt
     have h1:Bk g 191 256 f (wr.alloc (.cells (cf 64 fun i=>f (q*64+i)) 190)):=hB.alloc _
     unfold Bk at h1⊢
     rw[hgr.block g (by rw[World.size_alloc];have:=hb.size;omega) (fun e=>by have:=(hown.lt g e.symm).1;omega)]
     exact h1
    ·exact (hb.alloc hb.size _).grown hgr (by rw[World.size_alloc];have:=hb.size;omega) (fun k hk=>(hown.lt k hk).1)
   case measure=>simp[intOf];omega
  ·have hq4':q=4:=by omega
   subst hq4'
   have hc:=conv_own (P:=Tryz.prog) wr 57 9 5 Tryz.underlying57 Tryz.underlying5 Tryz.underlying9 _ _ _ _ hown
   go_wp2_with fail
   go_ret
   exact ⟨rfl,hb⟩
end
section
def plf (t:Nat→UInt8) (j:Nat):UInt8:=
 if j<64 then M.swY (t (4*j)) (t (4*j+1)) (t (4*j+2))
 else if j<128 then M.swU (t (4*(j-64))) (t (4*(j-64)+2))
 else if j<192 then M.swV (t (4*(j-128))) (t (4*(j-128)+1)) (t (4*(j-128)+2))
 else t (4*(j-192)+3)
def plN (t:Nat→UInt8) (n:Nat) (j:Nat):UInt8:=if j % 64<n then plf t j else 0
theorem plN_zero (t:Nat→UInt8):plN t 0=fun _=>0:=by funext j;simp[plN]
theorem plN_put (t:Nat→UInt8) (n:Nat) (h:n<64) (j:Nat) (hj:j<256) :
  M.put (M.put (M.put (M.put (plN t n) n (M.swY (t (4*n)) (t (4*n+1)) (t (4*n+2)))) (64+n) (M.swU (t (4*n)) (t (4*n+2)))) (128+n) (M.swV (t (4*n)) (t (4*n+1)) (t (4*n+2)))) (192+n) (t (4*n+3)) j=plN t (n+1) j:=by
 unfold M.put plN
 by_cases h1:j=192+n
 ·subst h1
  rw[if_pos rfl,if_pos (by omega)]
  unfold plf
  rw[if_neg (by omega),if_neg (by omega),if_neg (by omega),show 192+n-192=n by omega]
 rw[if_neg h1]
 by_cases h2:j=128+n
 ·subst h2
  rw[if_pos rfl,if_pos (by omega)]
  unfold plf
  rw[if_neg (by omega),if_neg (by omega),if_pos (by omega),show 128+n-128=n by omega]
 rw[if_neg h2]
 by_cases h3:j=64+n
 ·subst h3
  rw[if_pos rfl,if_pos (by omega)]
  unfold plf
  rw[if_neg (by omega),if_pos (by omega),show 64+n-64=n by omega]
 rw[if_neg h3]
 by_cases h4:j=n
 ·subst h4
  rw[if_pos rfl,if_pos (by omega)]
  unfold plf
  rw[if_pos (by omega)]
 rw[if_neg h4]
 by_cases h5:j % 64<n
 ·rw[if_pos h5,if_pos (by omega)]
 ·rw[if_neg h5,if_neg (by omega)]
theorem plN_full (t:Nat→UInt8) (j:Nat):plN t 64 j=plf t j:=by unfold plN;rw[if_pos (by omega)]
theorem fill_eq (wr:World) (f:Nat→UInt8):((wr.alloc (.cells prC 196)).alloc (.cells (cf 256 fun _=>0) 191)).setRow (wr.heap.size+1) (cf 256 f)=(wr.alloc (.cells prC 196)).alloc (.cells (cf 256 f) 191):=by
 have:=World.setRow_alloc_new (wr.alloc (.cells prC 196)) (cf 256 fun _=>0) (cf 256 f) 191
 rw[World.size_alloc] at this
 exact this
def outN (k:Nat) (p:Nat→UInt8) (m j:Nat):UInt8:=if j<m then M.res k p j else p j
theorem outN_zero (k:Nat) (p:Nat→UInt8) (j:Nat):outN k p 0 j=p j:=by simp[outN]
theorem outN_at (k:Nat) (p:Nat→UInt8) (m:Nat):outN k p m m=p m:=by simp[outN]
theorem outN_full (k:Nat) (p:Nat→UInt8) (n j:Nat) (h:j<n):outN k p n j=M.res k p j:=by unfold outN;rw[if_pos h]
theorem outN_put (k:Nat) (p:Nat→UInt8) (q i j:Nat) (hi:i<64):M.put (outN k p (q*64+i)) (q*64+i) (p (q*64+i)-M.gs k (M.pl p q) i) j=outN k p (q*64+(i+1)) j:=by
 unfold M.put outN
 by_cases h:j=q*64+i
 ·subst h
  rw[if_pos rfl,if_pos (by omega)]
  unfold M.res
  rw[show (q*64+i) / 64=q by omega,show (q*64+i) % 64=i by omega]
 ·rw[if_neg h]
  by_cases h2:j<q*64+i
  ·rw[if_pos h2,if_pos (by omega)]
  ·rw[if_neg h2,if_neg (by omega)]
theorem guess_bk (k:Nat) (hk:k<6) (g:Nat) (p:Nat→UInt8) (q i:Nat) (hq:q<4) (hi:i<64) (w:World) (h:Bk g 191 256 p w) :
  Calls Tryz.prog 151 #[.pointer (some ⟨g,q*64,none⟩),.int .i64 i,.func (.func (180+k)) #[] #[]] w fun e w'=>e=.returned (.int .u8 (M.gs k (M.pl p q) i).toNat)∧Below w.heap.size w w':=
 guess_any k hk g (q*64) (M.pl p q) i hi w h.lt (fun m hm=>by
  have:=h.cell (q*64+m) (by omega)
  rw[this]
  unfold M.pl
  rw[Nat.mul_comm])
theorem cell_keep {w w1:World} {a:Addr} {v:Value} (h:w.cell? a=some v) (hb:Below w.heap.size w w1):w1.cell? a=some v:=by
 rw[hb.cell (block_lt_of_cell h)];exact h
theorem e_sub8 (a b:UInt8):((a.toNat:Int)-(b.toNat:Int)) % 256=((a-b).toNat:Int):=by
 have:=a.toNat_lt;have:=b.toNat_lt
 rw[UInt8.toNat_sub];omega
set_option maxRecDepth 100000 in
set_option maxHeartbeats 800000 in
theorem forward_any (t:Nat→UInt8) (k:Nat) (hk:k<6) (w:World) :
  Calls Tryz.prog 113 #[.agg (cf 256 t),.int .i64 k] w fun e w'=>
   e=.returned (.tuple #[.string ⟨(M.tab 256 (M.res k (plf t))).toArray⟩,.int .i64 0])∧Below w.heap.size w w':=by
 have hz:=Tryz.zero191
 go_enter Tryz.func113,Tryz.ntmps113
 go_wp2_with fail
 refine (Predictors_any _).mono ?_
 rintro e w1 ⟨rfl,hb1⟩
 have ht:Bk w.heap.size 38 256 t w1:=(Bk.new w 38 256 t).keep hb1
 have hb:=((Below.refl w.heap.size w).alloc (Nat.le_refl _) (.cells (cf 256 t) 38)).trans (hb1.mono (by simp))
 have ht2:Bk w.heap.size 38 256 t (w1.alloc (.cells (cf 256 fun _=>0) 191)):=ht.alloc _
 clear hb1
 go_wp2_with (refine wpList_load_row rfl 38 _ rfl w.heap.size rfl 38 _ (0,0) _ ht2 Tryz.underlying38 rfl (by rw[cf_size];exact Tryz.size38) ?_)
 clear ht ht2 hz
 have hsz1:=hb.size
 go_loopw [21] (fun i wr=>∃n:Nat,n≤64∧i=.int .i64 n∧Bk w1.heap.size 191 256 (plN t n) wr∧Below w.heap.size w wr) (fun i _=>64-(intOf i).toNat)
 case atStart=>exact ⟨0,by omega,rfl,by rw[plN_zero];exact Bk.new w1 191 256 _,hb.alloc hb.size _⟩
 case round=>
  obtain ⟨n,hn,rfl,hB,hbl⟩:=hrel
  have hlw:=hB.lt
  by_cases hlt:n<64
  ·have c0:=hB.cell n (by omega)
   have c1:=hB.cell (64+n) (by omega)
   have c2:=hB.cell (128+n) (by omega)
   have c3:=hB.cell (192+n) (by omega)
   have f0:=hB.free n
   have f1:=hB.free (64+n)
   have f2:=hB.free (128+n)
   have f3:=hB.free (192+n)
   have HB:=Lib.hid hB
   clear hB
   have hix:∀W,(Instr.index 38 (.agg (cf 256 t)) (.int .i64 n)).run Tryz.prog W=.ok (.agg #[.int .u8 ((t (4*n)).toNat:Int),.int .u8 ((t (4*n+1)).toNat:Int),.int .u8 ((t (4*n+2)).toNat:Int),.int .u8 ((t (4*n+3)).toNat:Int)]) W:=fun W=>run_index_pix t n hlt W
   go_wp2_with (go_at_call 149;refine (swap_any _ _ _ _).mono ?_;rintro e w' ⟨rfl,rfl⟩)
   go_roundw
   case rel=>exact ⟨n+1,by omega,by go_num,(((((HB.out.set n _).set (64+n) _).set (128+n) _).set (192+n) _).alloc _).congr (plN_put t n hlt),((((hbl.setCell (p:=⟨w1.heap.size,n,none⟩) hsz1 _).setCell (p:=⟨w1.heap.size,64+n,none⟩) hsz1 _).setCell (p:=⟨w1.heap.size,128+n,none⟩) hsz1 _).setCell (p:=⟨w1.heap.size,192+n,none⟩) hsz1 _).alloc (by simp;omega) _⟩
   case measure=>simp[intOf];omega
  ·have hn64:n=64:=by omega
   have hB2:=hB.congr (f':=plf t) (fun j _=>(by rw[hn64];exact plN_full t j))
   clear hB hn64
   have hpc:(wr.alloc (.cells prC 196)).cell? ⟨wr.heap.size,k*2+1,none⟩=some (.func (.func (180+k)) #[] #[]):=by rw[World.cell?_alloc_mark];exact prC_at k hk
   have hz:=Tryz.zero191
   have hB3:Bk w1.heap.size 191 256 (plf t) (wr.alloc (.cells prC 196)):=hB2.alloc _
   have hN:Bk (wr.heap.size+1) 191 256 (fun _=>0) ((wr.alloc (.cells prC 196)).alloc (.cells (cf 256 fun _=>0) 191)):=heap_alloc2_new _ _ _
   go_wp2_with (first
    |(go_at_call 150;refine (predictors_any _).mono ?_;rintro e w' ⟨rfl,rfl⟩)
    |(refine wpList_load_row rfl 191 _ rfl w1.heap.size rfl 191 _ (0,0) _ hB3 Tryz.underlying191 rfl (by rw[cf_size];exact Tryz.size191) ?_)
    |(refine wpList_store_row rfl 191 _ _ rfl (wr.heap.size+1) (cf 256 (plf t)) rfl rfl 191 (cf 256 fun _=>0) hN (by rw[cf_size];exact Tryz.size191) (by rw[cf_size,cf_size]) (cf_one _ _) ?_))
   rw[fill_eq]
   have hP:Bk w1.heap.size 191 256 (plf t) ((wr.alloc (.cells prC 196)).alloc (.cells (cf 256 (plf t)) 191)):=hB3.alloc _
   have hO:Bk (wr.heap.size+1) 191 256 (outN k (plf t) 0) ((wr.alloc (.cells prC 196)).alloc (.cells (cf 256 (plf t)) 191)):=Bk.congr (heap_alloc2_new _ _ _) (fun j _=>(outN_zero _ _ j).symm)
   have hL:Below w.heap.size w ((wr.alloc (.cells prC 196)).alloc (.cells (cf 256 (plf t)) 191)):=(hbl.alloc hbl.size _).alloc (by have:=hbl.size;simp;omega) _
   clear hpc hB2 hB3 hN hz
   have hne:w1.heap.size≠wr.heap.size+1:=by omega
   have hge:w.heap.size≤wr.heap.size+1:=by omega
   generalize (wr.alloc (.cells prC 196)).alloc (.cells (cf 256 (plf t)) 191)=W0 at *
   generalize wr.heap.size+1=go at *
   generalize w1.heap.size=gp at *
   clear hbl hlw hsz1 hb hn hlt
   go_loopw [57] (fun a wo=>∃q:Nat,q≤4∧a=.int .i64 q∧Bk gp 191 256 (plf t) wo∧Bk go 191 256 (outN k (plf t) (q*64)) wo∧Below w.heap.size w wo) (fun a _=>4-(intOf a).toNat)
   case atStart=>exact ⟨0,by omega,rfl,hP,hO,hL⟩
   case round=>
    obtain ⟨q,hq,rfl,hP1,hO1,hL1⟩:=hrel
    by_cases hq4:q<4
    ·have hq0:(0:Int)≤(q:Int):=by omega
     have hq1:(q:Int)<4:=by omega
     go_wp2_with fail
     clear hP hO hL
     go_loopw [60] (fun a wi=>∃i:Nat,i≤64∧a=.int .i64 i∧Bk gp 191 256 (plf t) wi∧Bk go 191 256 (outN k (plf t) (q*64+i)) wi∧Below w.heap.size w wi) (fun a _=>64-(intOf a).toNat)
     case atStart=>exact ⟨0,by omega,rfl,hP1,hO1,hL1⟩
     case round=>
      obtain ⟨i,hi,rfl,hP2,hO2,hL2⟩:=hrel
      clear hP1 hO1 hL1
      by_cases hi4:i<64
      ·have hc:=hO2.cell (q*64+i) (by omega)
       rw[outN_at] at hc
       have hf:=hO2.free (q*64+i)
       have hcd:wr.drew.cell? ⟨go,q*64+i,none⟩=some (.int .u8 ((plf t (q*64+i)).toNat:Int)):=hc
       have hfd:wr.drew.frozen? ⟨go,q*64+i,none⟩=false:=hf
       have hi0:(0:Int)≤(i:Int):=by omega
       have hi1:(i:Int)<64:=by omega
       have HP:=Lib.hid hP2
       have HO:=Lib.hid hO2
       have HL:=Lib.hid hL2
       clear hP2 hO2 hL2 hc hf
       go_wp2_with fail
       go_region_with (go_at_call 151;refine (guess_bk k hk gp (plf t) q i hq4 hi4 _ (Bk.drew HP.out)).mono ?_;rintro e w2 ⟨rfl,hb2⟩;have hc2:=cell_keep hcd hb2;have hf2:=(hb2.frozen (p:=⟨go,q*64+i,none⟩) (block_lt_of_cell hcd)).trans hfd)
       all_goals
        go_wp2_with fail
        go_roundw
        case rel=>
         rw[e_sub8]
         refine ⟨i+1,by omega,?_,((Bk.drew HP.out).keep hb2).other _ _ hne,Bk.congr (((Bk.drew HO.out).keep hb2).set (q*64+i) _) (fun j _=>outN_put k (plf t) q i j hi4),(bt (Below.drew HL.out) hb2).setCell (p:=⟨go,q*64+i,none⟩) hge _⟩
         go_num
        case measure=>simp[intOf];omega
      ·have hi64:i=64:=by omega
       subst hi64
       go_wp2_with fail
       go_roundw
       case rel=>
        first
        |exact ⟨q+1,by omega,by go_num,hP2,by rw[show (q+1)*64=q*64+64 by omega];exact hO2,hL2⟩
       case measure=>simp[intOf];omega
    ·have hq4':q=4:=by omega
     subst hq4'
     have hB:Bk go 191 256 (M.res k (plf t)) wr:=hO1.congr (fun j hj=>outN_full _ _ _ _ hj)
     clear hO1 hP1 hP hO hL
     go_wp2_with (go_at_call 152;refine (concat_any go _ _ hB).mono ?_;rintro e w2 ⟨rfl,hb2⟩)
     go_ret2
     exact ⟨rfl,bt hL1 hb2⟩
end
end Go.Proofs.YtpdckpifhniioaaGreat.Prd
end
section
set_option linter.unusedVariables false
set_option linter.unusedSimpArgs false
namespace Go.Proofs.YtpdckpifhniioaaGreat.Prd
open Go.RowKit
open Go.Proofs.YtpdckpifhniioaaGreat
section
def fw (k:Nat) (t:Nat→UInt8):ByteArray:=⟨(M.tab 256 (M.res k (plf t))).toArray⟩
theorem fw_size (k:Nat) (t:Nat→UInt8):(fw k t).size=256:=by unfold fw;rw[str_size,M.tab_length]
theorem forward_of (t:Nat→UInt8) (k:Nat) (hk:k<6) (n:Int) (hn:n=k) (w:World):Calls Tryz.prog 113 #[.agg (cf 256 t),.int .i64 n] w fun e w'=>e=.returned (.tuple #[.string (fw k t),.int .i64 0])∧Below w.heap.size w w':=by
 subst hn
 exact forward_any t k hk w
end
section
end
end Go.Proofs.YtpdckpifhniioaaGreat.Prd
end
section
set_option linter.unusedVariables false
set_option linter.unusedSimpArgs false
namespace Go.Proofs.YtpdckpifhniioaaGreat
open Go.RowKit
namespace Ab
theorem enters113:Enters Tryz.prog 113:=fun args w=>by go_simp
theorem enters114:Enters Tryz.prog 114:=fun args w=>by go_simp
theorem enters147:Enters Tryz.prog 147:=fun args w=>by go_simp
theorem enters148:Enters Tryz.prog 148:=fun args w=>by go_simp
theorem plLs_tv:∀l:List Nat,∀t:Nat→UInt8,plLs (l.map fun i=>ub (t i))=some (l.map fun i=>bv8 (t i))
 |[],_=>rfl
 |i::l,t=>by
  simp only[List.map_cons,plLs,Leaf.pl]
  rw[show leafy (Value.int .u8 ((t i).toNat:Nat))=true from rfl,plLs_tv l t]
theorem plLs_tl (t:Nat→UInt8):plLs (tl t)=some (tv t):=plLs_tv _ t
theorem cpl_agg {xs:List Leaf} {ys:List Value} (h:plLs xs=some ys):(Cp.agg xs).pl=some (.agg ys.toArray):=by simp only[Cp.pl,h]
theorem tv_cf (t:Nat→UInt8):(tv t).toArray=Prd.cf 256 t:=by unfold tv Prd.cf;rfl
theorem cpl_tl (t:Nat→UInt8):(Cp.agg (tl t)).pl=some (.agg (Prd.cf 256 t)):=by rw[cpl_agg (plLs_tl t),tv_cf]
theorem pl_tl (t:Nat→UInt8):(SV.c (.agg (tl t))).pl=some (.agg (Prd.cf 256 t)):=cpl_tl t
theorem pls_tl (t:Nat→UInt8) {l:List SV} {ys:List Value} (h:pls l=some ys):pls (.c (.agg (tl t))::l)=some (.agg (Prd.cf 256 t)::ys):=by
 unfold pls
 rw[pl_tl,h]
theorem C147 (n:Nat):CallOK Tryz.prog 147 [] [] n (iv .i64 6) [] 0:=
 call_plain enters147 (vals:=[]) (y:=.int .i64 6) rfl rfl n fun x=>(Prd.Predictors_any x).mono fun e x' h=>⟨h.1,h.2⟩
theorem C148 (s:ByteArray) (hs:s.size≤1000000000000000) (n:Nat):CallOK Tryz.prog 148 [.c (.l (.v (.string s)))] [] n (iv .i64 (Prd.M.cost s.data.toList:Nat)) [] 0:=
 call_plain enters148 (vals:=[.string s]) (y:=.int .i64 (Prd.M.cost s.data.toList:Nat)) rfl rfl n fun x=>(Prd.cost_any s x hs _ rfl).mono fun e x' h=>⟨h.1,h.2⟩
theorem C113 (t:Nat→UInt8) (k:Int) (h0:0≤k) (hk:k<6) (n:Nat):CallOK Tryz.prog 113 [.c (.agg (tl t)),iv .i64 k] [] n (.tup [.l (.v (.string (Prd.fw k.toNat t))),.l (li 0)]) [] 0:=
 call_plain enters113 (vals:=[.agg (Prd.cf 256 t),.int .i64 k]) (y:=.tuple #[.string (Prd.fw k.toNat t),.int .i64 0]) (pls_tl t rfl) rfl n fun x=>(Prd.forward_of t k.toNat (by omega) k (by omega) x).mono fun e x' h=>⟨h.1,h.2⟩
theorem fw_congr (k:Nat) {t u:Nat→UInt8} (h:∀i,i<256→t i=u i):Prd.fw k t=Prd.fw k u:=by
 unfold Prd.fw
 congr 2
 refine Prd.M.tab_congr 256 _ _ fun i hi=>Prd.M.res_congr k _ _ i fun m h1 h2=>?_
 unfold Prd.plf
 split
 ·rw[h (4*m) (by omega),h (4*m+1) (by omega),h (4*m+2) (by omega)]
 ·split
  ·rw[h (4*(m-64)) (by omega),h (4*(m-64)+2) (by omega)]
  ·split
   ·rw[h (4*(m-128)) (by omega),h (4*(m-128)+1) (by omega),h (4*(m-128)+2) (by omega)]
   ·rw[h (4*(m-192)+3) (by omega)]
theorem C113L (l:List Leaf) (t:Nat→UInt8) (h:l=tl t) (k:Int) (h0:0≤k) (hk:k<6) (n:Nat):CallOK Tryz.prog 113 [.c (.agg l),iv .i64 k] [] n (.tup [.l (.v (.string (Prd.fw k.toNat (lsB l)))),.l (li 0)]) [] 0:=by
 subst h
 rw[fw_congr k.toNat (fun i hi=>lsB_tl t hi)]
 exact C113 t k h0 hk n
theorem C114 (s:ByteArray) (hs:s.size≤2500000) (n:Nat):CallOK Tryz.prog 114 [.c (.l (.v (.string s)))] [] n (.c (.l (.v (.string ⟨(Cod.M.enc s.data.toList).toArray⟩)))) [] 0:=
 call_plain enters114 (vals:=[.string s]) (y:=.string ⟨(Cod.M.enc s.data.toList).toArray⟩) rfl rfl n fun x=>(Cod.encode_any s x hs).mono fun e x' h=>⟨h.1,h.2⟩
theorem fw_lsB (k:Nat) (t:Nat→UInt8):Prd.fw k (lsB (tl t))=Prd.fw k t:=fw_congr k fun i hi=>lsB_tl t hi
theorem fw_len (k:Nat) (t:Nat→UInt8):(Prd.fw k t).size=256:=Prd.fw_size k t
def bst (t:Nat→UInt8):Nat→Nat×Nat
 |0=>(0,1073741824)
 |k+1=>bif decide ((Prd.M.cost (Prd.fw k t).data.toList:Nat)<(bst t k).2) then (k,Prd.M.cost (Prd.fw k t).data.toList) else bst t k
def bestT (t:Nat→UInt8):Nat:=(bst t 6).1
def costI (k:Nat) (t:Nat→UInt8):Int:=(Prd.M.cost (Prd.fw k t).data.toList:Nat)
def I112 (t:Nat→UInt8) (k:Nat):St:=⟨[(10,iv .i64 (k:Nat)),(9,iv .i64 6),(3,iv .i64 ((bst t k).1:Nat)),(4,iv .i64 ((bst t k).2:Nat)),(1,.c (.l (.p 0 0)))],[(0,some ⟨tl t,.t 38⟩)],1,28,[0],(0)⟩
theorem bst_t {t:Nat→UInt8} {k:Nat} (h:decide (costI k t<((bst t k).2:Nat))=true):((k:Nat):Int)=((bst t (k+1)).1:Nat)∧costI k t=((bst t (k+1)).2:Nat):=by
 have h:=of_decide_eq_true h
 unfold costI at h⊢
 rw[bst]
 rw[decide_eq_true (by omega)]
 exact ⟨rfl,rfl⟩
theorem bst_f {t:Nat→UInt8} {k:Nat} (h:decide (costI k t<((bst t k).2:Nat))=false):((bst t k).1:Int)=((bst t (k+1)).1:Nat)∧((bst t k).2:Int)=((bst t (k+1)).2:Nat):=by
 have h:=of_decide_eq_false h
 unfold costI at h
 rw[bst]
 rw[decide_eq_false (by omega)]
 exact ⟨rfl,rfl⟩
theorem bst_lt (t:Nat→UInt8):∀k,0<k→(bst t k).1<k
 |0,h=>by omega
 |k+1,_=>by
  rw[bst]
  by_cases h:(Prd.M.cost (Prd.fw k t).data.toList:Nat)<(bst t k).2
  ·rw[decide_eq_true h];exact Nat.lt_succ_self k
  ·rw[decide_eq_false h]
   rcases Nat.eq_zero_or_pos k with rfl|hk
   ·exact Nat.zero_lt_one
   ·exact Nat.lt_succ_of_lt (bst_lt t k hk)
theorem bestT_lt (t:Nat→UInt8):bestT t<6:=bst_lt t 6 (by decide)
theorem bst_congr {t u:Nat→UInt8} (h:∀i,i<256→t i=u i):∀k,bst t k=bst u k
 |0=>rfl
 |k+1=>by rw[bst,bst,bst_congr h k,fw_congr k h]
theorem bestT_lsB (t:Nat→UInt8):bestT (lsB (tl t))=bestT t:=by unfold bestT;rw[bst_congr (fun i hi=>lsB_tl t hi)]
def cz_R112 (t:Nat→UInt8) (k:Nat):Cz:={
 ct:=(fun f=>match f with
 |113=>some fun _ _S ar=>match ar with | [.c (.agg l),.c (.l (.v (.int _ k)))]=>some {v:=.tup [.l (.v (.string (Prd.fw k.toNat (lsB l)))),.l (li 0)],rd:=[],wr:=[],nw:=0}|_=>none
 |147=>some fun _ _S ar=>match ar with | []=>some {v:=iv .i64 6,rd:=[],wr:=[],nw:=0}|_=>none
 |148=>some fun _ _S ar=>match ar with | [.c (.l (.v (.string s)))]=>some {v:=iv .i64 (Prd.M.cost s.data.toList:Nat),rd:=[],wr:=[],nw:=0}|_=>none
 |_=>none)
 eq:=(fun t=>match t with
 |_=>none)
 raw:=[],sym:=[],nf:=[(14,.c (.agg (tl t))),(16,.tup [.l (.v (.string (Prd.fw k t))),.l (li 0)]),(20,iv .i64 (costI k t))],ap:=true,off:=[],on:=[],lp:=fun _=>none,un:=0}
set_option maxRecDepth 100000 in
theorem R112 (t:Nat→UInt8) (k:Nat)  (K:Exit→St→Prop) (h:HB (decide ((Nat.cast k:Int)<6)) (Le (ag (List.take 256 (tl t))) (ag (tl t))∧CallOKd Tryz.prog 113 [] [ag (tl t),iv IntKind.i64 (Nat.cast k:Int)] [] 1 (SV.tup [Cp.l (Leaf.v (Value.string (Prd.fw ((Nat.cast k:Int)).toNat (lsB (tl t))))),Cp.l (li 0)]) [] 0∧Le (SV.tup [Cp.l (Leaf.v (Value.string (Prd.fw ((Nat.cast k:Int)).toNat (lsB (tl t))))),Cp.l (li 0)]) (SV.tup [Cp.l (Leaf.v (Value.string (Prd.fw k t))),Cp.l (li 0)])∧CallOKd Tryz.prog 148 [] [SV.c (Cp.l (Leaf.v (Value.string (Prd.fw k t))))] [] 1 (iv IntKind.i64 (Nat.cast ((Prd.M.cost (Prd.fw k t).data.toList)):Int)) [] 0∧Le (iv IntKind.i64 (Nat.cast ((Prd.M.cost (Prd.fw k t).data.toList)):Int)) (iv IntKind.i64 (costI k t))∧HB (decide (costI k t<(Nat.cast ((bst t k).snd):Int))) (IntKind.i64.wrap ((Nat.cast k:Int)+1)=(Nat.cast k:Int)+1∧RoundTo Tryz.prog ((getLoop 3 (Tryz.f112.body.getD Code.skip)).getD Code.skip) 1 (wkK 1 K) (St.mk [(1,SV.c (Cp.l (Leaf.p 0 0))),(3,iv IntKind.i64 (Nat.cast k:Int)),(4,iv IntKind.i64 (costI k t)),(9,iv IntKind.i64 6),(10,iv IntKind.i64 ((Nat.cast k:Int)+1))] [(0,some (Blk.mk (tl t) (BT.t 38)))] 1 28 [0] 0)) (IntKind.i64.wrap ((Nat.cast k:Int)+1)=(Nat.cast k:Int)+1∧RoundTo Tryz.prog ((getLoop 3 (Tryz.f112.body.getD Code.skip)).getD Code.skip) 1 (wkK 1 K) (St.mk [(1,SV.c (Cp.l (Leaf.p 0 0))),(3,iv IntKind.i64 (Nat.cast ((bst t k).fst):Int)),(4,iv IntKind.i64 (Nat.cast ((bst t k).snd):Int)),(9,iv IntKind.i64 6),(10,iv IntKind.i64 ((Nat.cast k:Int)+1))] [(0,some (Blk.mk (tl t) (BT.t 38)))] 1 28 [0] 0))) (wkK 1 K (Exit.exit 0) (St.mk [(1,SV.c (Cp.l (Leaf.p 0 0))),(3,iv IntKind.i64 (Nat.cast ((bst t k).fst):Int)),(4,iv IntKind.i64 (Nat.cast ((bst t k).snd):Int)),(9,iv IntKind.i64 6),(10,iv IntKind.i64 (Nat.cast k:Int))] [(0,some (Blk.mk (tl t) (BT.t 38)))] 1 28 [0] 0))):WPL Tryz.prog ((getLoop 3 (Tryz.f112.body.getD .skip)).getD .skip) (I112 t k) (wkK 1 K):=
 wp_roundT [1,3,4,9,10] [0] (cx:=cz_R112 t k) rfl (of_eq (by kernel_rfl) h)
set_option maxRecDepth 100000 in
set_option maxHeartbeats 4000000 in
theorem L112 (t:Nat→UInt8)  : ∀(m k:Nat),6-k=m→k≤6→∀(K:Exit→St→Prop),K (.exit 0) (I112 t 6)→WPL Tryz.prog ((getLoop 3 (Tryz.f112.body.getD .skip)).getD .skip) (I112 t k) (wkK 1 K)
 |0,k,hm,hk,K,hK=>by
  have e:k=6:=by omega
  subst e
  refine R112 t _ K (HB.mk (fun hne=>absurd (of_decide_eq_true hne) (by omega)) (fun he=>?_))
  exact wkK.to (I112 t _) (Nat.le_refl _) (by kernel_rfl) (wkE_cons (LeN.sl (by kernel_rfl) rfl) (wkE_cons (LeN.sl (by kernel_rfl) rfl) (wkE_cons (LeN.sl (by kernel_rfl) rfl) (wkE_cons (LeN.sl (by kernel_rfl) rfl) (wkE_cons (LeN.sl (by kernel_rfl) rfl) trivial))))) (wkH_cons (BkN.blk (k:=⟨tl t,.t 38⟩) (by kernel_rfl) (rfl) (by kernel_rfl)) trivial) hK
 |m+1,k,hm,hk,K,hK=>by
  refine R112 t k K (HB.mk (fun hne=>?_) (fun he=>absurd (show ((k:Nat):Int)<(6:Nat) by omega) (of_decide_eq_false he)))
  have hlt:k<6:=by omega
  repeat' (first|exact trivial|with_reducible apply And.intro|(with_reducible apply HB.mk)|with_reducible intro _)
  all_goals first
   |((with_reducible refine C113L _ _ rfl _ ?_ ?_ _)<;>omega)
   |((with_reducible refine C148 _ ?_ _);rw[fw_len];decide)
   |(exact Le.of (by rw[tl_take]))
   |(exact Le.of (by rw[show (((k:Nat):Int)).toNat=k from rfl,fw_lsB]))
   |((with_reducible refine C148 _ ?_ _);rw[fw_len];decide)
   |(exact Le.of rfl)
   |(have hcnd:decide (costI k t<((bst t k).2:Nat))=true:=(by with_reducible assumption);refine RoundTo.to (I112 t (k+1)) (Nat.le_refl _) (by kernel_rfl) (wkE_cons (LeN.sl (by kernel_rfl) rfl) (wkE_cons (LeN.sl (by kernel_rfl) rfl) (wkE_cons (LeN.sl_int (y:=((k:Nat):Int)) (by kernel_rfl) ((bst_t hcnd).1)) (wkE_cons (LeN.sl_int (y:=costI k t) (by kernel_rfl) ((bst_t hcnd).2)) (wkE_cons (LeN.sl (by kernel_rfl) rfl) trivial))))) (wkH_cons (BkN.blk (k:=⟨tl t,.t 38⟩) (by kernel_rfl) (rfl) (by kernel_rfl)) trivial) (L112 t  m (k+1) (by omega) (by omega) K hK))
   |(have hcnd:decide (costI k t<((bst t k).2:Nat))=false:=(by with_reducible assumption);refine RoundTo.to (I112 t (k+1)) (Nat.le_refl _) (by kernel_rfl) (wkE_cons (LeN.sl (by kernel_rfl) rfl) (wkE_cons (LeN.sl (by kernel_rfl) rfl) (wkE_cons (LeN.sl_int (y:=(((bst t k).1:Nat):Int)) (by kernel_rfl) ((bst_f hcnd).1)) (wkE_cons (LeN.sl_int (y:=(((bst t k).2:Nat):Int)) (by kernel_rfl) ((bst_f hcnd).2)) (wkE_cons (LeN.sl (by kernel_rfl) rfl) trivial))))) (wkH_cons (BkN.blk (k:=⟨tl t,.t 38⟩) (by kernel_rfl) (rfl) (by kernel_rfl)) trivial) (L112 t  m (k+1) (by omega) (by omega) K hK))
   |(exact okw _ (by omega) (by omega))
   |(exact Le.of rfl)
theorem enters112:Enters Tryz.prog 112:=fun args w=>by go_simp
def cz_C112 (t:Nat→UInt8):Cz:={
 ct:=(fun f=>match f with
 |113=>some fun _ _S ar=>match ar with | [.c (.agg l),.c (.l (.v (.int _ k)))]=>some {v:=.tup [.l (.v (.string (Prd.fw k.toNat (lsB l)))),.l (li 0)],rd:=[],wr:=[],nw:=0}|_=>none
 |147=>some fun _ _S ar=>match ar with | []=>some {v:=iv .i64 6,rd:=[],wr:=[],nw:=0}|_=>none
 |148=>some fun _ _S ar=>match ar with | [.c (.l (.v (.string s)))]=>some {v:=iv .i64 (Prd.M.cost s.data.toList:Nat),rd:=[],wr:=[],nw:=0}|_=>none
 |_=>none)
 eq:=(fun t=>match t with
 |_=>none)
 raw:=[],sym:=[],nf:=[],ap:=true,off:=[],on:=[],lp:=fun r=>match r with|3=>some (fun _ K=>K (.exit 0) (I112 t 6))|_=>none,un:=0}
set_option maxRecDepth 100000 in
set_option maxHeartbeats 400000 in
theorem C112 (t:Nat→UInt8)  (n:Nat):CallOK Tryz.prog 112 [.c (.agg (tl t))] [] n (iv .i64 (bestT t:Nat)) [] 0:=by
 refine CallOK.any ?_ (by kernel_rfl) (by kernel_rfl) n
 refine call_ok (cx:=cz_C112 t) (nm:=[]) rfl Tryz.func112 (body:=Tryz.f112.body.getD .skip) rfl enters112 (by kernel_rfl) ?_
 apply of_eq (q:=CallOKd Tryz.prog 147 [] [] [] 1 (iv IntKind.i64 6) [] 0∧(LoopOK Tryz.prog ((getLoop 3 (Tryz.f112.body.getD .skip)).getD .skip) (St.mk [(10,iv IntKind.i64 0),(9,iv IntKind.i64 6),(4,iv IntKind.i64 1073741824),(3,iv IntKind.i64 0),(2,iv IntKind.i64 0),(1,SV.c (Cp.l (Leaf.p 0 0))),(0,ag (tl t))] [(0,some (Blk.mk (tl t) (BT.t 38)))] 1 28 [0] 0) fun K=>K (Exit.exit 0) (I112 t 6))∧Le (iv IntKind.i64 (Nat.cast ((bst t 6).fst):Int)) (iv IntKind.i64 (Nat.cast ((bestT t)):Int))∧True) (by kernel_rfl)
 repeat' (first|exact trivial|with_reducible apply And.intro|(with_reducible apply HB.mk)|with_reducible intro _)
 all_goals first
  |(with_reducible exact C147 _)
  |(exact LoopOK.mk (I112 t 0) rfl (by kernel_rfl) (wkE_cons (LeN.sl (by kernel_rfl) rfl) (wkE_cons (LeN.sl (by kernel_rfl) rfl) (wkE_cons (LeN.sl (by kernel_rfl) rfl) (wkE_cons (LeN.sl (by kernel_rfl) rfl) (wkE_cons (LeN.sl (by kernel_rfl) rfl) trivial))))) (wkH_cons (BkN.blk (k:=⟨tl t,.t 38⟩) (by kernel_rfl) (rfl) (by kernel_rfl)) trivial) (fun K hT=>L112 t  _ 0 rfl (by first|decide|omega) K hT))
  |(exact Le.of rfl)
  |(exact Le.of rfl)
theorem C112L (l:List Leaf) (t:Nat→UInt8) (h:l=tl t) (n:Nat):CallOK Tryz.prog 112 [.c (.agg l)] [] n (iv .i64 (bestT (lsB l):Nat)) [] 0:=by
 subst h
 rw[bestT_lsB]
 exact C112 t n
end Ab
end Go.Proofs.YtpdckpifhniioaaGreat
end
section
set_option linter.unusedVariables false
namespace Go.Proofs.YtpdckpifhniioaaGreat
open Go.RowKit
namespace Ab
def Plain (l:List Leaf):Prop:=∀x∈l,∃v,x=.v v
theorem Plain.append {l m:List Leaf} (h:Plain l) (k:Plain m):Plain (l++m):=fun x hx=>by
 rcases List.mem_append.1 hx with hx|hx
 ·exact h x hx
 ·exact k x hx
theorem plain_tl (t:Nat→UInt8):Plain (tl t):=tl_plain t
theorem plain_rws (l:List TA):Plain (rws l):=rws_plain l
theorem plain_sbytes (s:ByteArray):Plain (sbytes s):=fun x hx=>by
 simp only[sbytes,List.mem_map] at hx
 obtain ⟨b,_,rfl⟩:=hx
 exact ⟨_,rfl⟩
section
variable {P:Program} {S:St} {l:List (Nat×Option Nat)} {n t id j:Nat}
theorem LeR.sl_o {m m':Nat} (h:S.sl t=.c (.l (.o j m))) (hr:ri l n j=some id) (e:m=m'):LeR l n (S.sl t) (.c (.l (.o id m'))):=by
 rw[h,e];exact LeR.of (by simp[SV.rn,Cp.rn,Leaf.rn,hr])
theorem LeR.sl_plain {cs:List Leaf} (h:S.sl t=.c (.agg cs)) (hp:Plain cs):LeR l n (S.sl t) (.c (.agg cs)):=by
 rw[h];refine LeR.of ?_
 simp only[SV.rn,Cp.rn,rnLs_plain _ cs hp]
theorem LeN.sl_plain {cs:List Leaf} (h:S.sl t=.c (.agg cs)) (hp:Plain cs):LeN n (S.sl t) (.c (.agg cs)):=by
 rw[h];refine LeN.of rfl ?_
 simp only[ltN,SV.rn,Cp.rn,rnLs_plain _ cs hp,Option.isSome_some]
theorem LeN.sl_o {m m':Nat} (h:S.sl t=.c (.l (.o id m))) (hi:Nat.blt id n=true) (e:m=m'):LeN n (S.sl t) (.c (.l (.o id m'))):=by
 rw[h,e];refine LeN.of rfl ?_
 simp only[ltN,SV.rn,Cp.rn,Leaf.rn,rnId,hi,Option.isSome_some]
theorem BkM.plain {cs cs':List Leaf} {b b':BT} (h:S.blk j=some ⟨cs,b⟩) (e:cs=cs') (hp:Plain cs') (hb:b.rn (ri l n)=some b'):BkM l n (S.blk j) ⟨cs',b'⟩:=by
 subst e
 rw[h];refine BkM.of ?_
 unfold Blk.rn
 simp only[rnLs_plain _ cs hp,hb]
theorem BkN.plain {cs cs':List Leaf} {b:BT} (h:S.blk id=some ⟨cs,b⟩) (e:cs=cs') (hp:Plain cs') (hb:(b.rn (rnId n 0 [])).isSome=true):BkN n (S.blk id) ⟨cs',b⟩:=by
 subst e
 rw[h];refine BkN.of rfl ?_
 unfold blkLt
 simp only[rnLs_plain _ cs hp,hb,Option.isSome_some,Bool.and_self]
theorem BkM.blk {k k'' k':Blk} (h:S.blk j=some k) (hr:k.rn (ri l n)=some k'') (e:k''=k'):BkM l n (S.blk j) k':=by
 rw[h];subst e;exact BkM.of hr
theorem BkR.plain {ρ:Nat→Option Nat} {cs cs':List Leaf} {b b':BT} (e:cs=cs') (hp:Plain cs') (hb:b.rn ρ=some b'):BkR ρ ⟨cs,b⟩ ⟨cs',b'⟩:=by
 subst e
 refine BkR.of ?_
 unfold Blk.rn
 simp only[rnLs_plain _ cs hp,hb]
theorem blkLt_plain {cs:List Leaf} {b:BT} (hp:Plain cs) (hb:(b.rn (rnId n 0 [])).isSome=true):blkLt n ⟨cs,b⟩=true:=by
 unfold blkLt
 simp only[rnLs_plain _ cs hp,hb,Option.isSome_some,Bool.and_self]
end
theorem RoundTo.toN {P:Program} {c:Code} {n:Nat} {K:Exit→St→Prop} (N:Nat) {E:List (Nat×SV)} {H:List (Nat×Option Blk)} {m q:Nat} {W:List Nat} (S:St) (hn:n≤S.n) (hb:wkB ⟨E,H,N,m,W,q⟩ S=true) (hE:wkE ⟨E,H,N,m,W,q⟩ S.n S.E) (hH:wkH ⟨E,H,N,m,W,q⟩ S.n S.H) (h:WPL P c S K):RoundTo P c n K ⟨E,H,N,m,W,q⟩:=RoundTo.to S hn hb hE hH h
theorem RoundTo.reN {P:Program} {c:Code} {n:Nat} {K:Exit→St→Prop} (N:Nat) {E:List (Nat×SV)} {H:List (Nat×Option Blk)} {m q:Nat} {W:List Nat} (l:List (Nat×Option Nat)) (S:St) (hb:wkBR l ⟨E,H,N,m,W,q⟩ S=true) (hE:wkER l ⟨E,H,N,m,W,q⟩ S.n S.E) (hH:wkHR l ⟨E,H,N,m,W,q⟩ S.n S.H) (h:WPL P c S K):RoundTo P c n K ⟨E,H,N,m,W,q⟩:=RoundTo.re l S hb hE hH h
theorem apB {P:Program} {e need bytes:Nat} (h:(P.info? e).map (·.bytes)=some bytes) (k:need*(bytes+1)≤140737488355328):ApB P e need:=fun i hi=>by
 rw[hi] at h
 cases h
 exact k
def tb (t:Nat→UInt8) (m:Nat):List Leaf:=(List.range m).map fun i=>ub (t i)
theorem tb_len (t:Nat→UInt8) (m:Nat):(tb t m).length=m:=by simp[tb]
theorem tb_all (t:Nat→UInt8) (m:Nat):AllB (tb t m):=fun x hx=>by
 simp only[tb,List.mem_map] at hx
 obtain ⟨i,_,rfl⟩:=hx
 exact ⟨_,rfl⟩
theorem tb_plain (t:Nat→UInt8) (m:Nat):Plain (tb t m):=fun x hx=>by
 obtain ⟨b,rfl⟩:=tb_all t m x hx
 exact ⟨_,rfl⟩
theorem tb_str (t:Nat→UInt8) (m:Nat):strL (tb t m)=⟨((List.range m).map t).toArray⟩:=by
 unfold strL tb
 congr 2
 rw[List.map_map]
 apply List.map_congr_left
 intro i _
 simp[lfB]
theorem tb_four (t:Nat→UInt8) (m:Nat):tb t m++[ub (t m),ub (t (m+1)),ub (t (m+2)),ub (t (m+3))]=tb t (m+4):=by
 simp[tb,List.range_succ]
end Ab
end Go.Proofs.YtpdckpifhniioaaGreat
end
section
set_option linter.unusedVariables false
set_option linter.unusedSimpArgs false
namespace Go.Proofs.YtpdckpifhniioaaGreat
open Go.RowKit
namespace Ab
def bytesT (t:Nat→UInt8):ByteArray:=⟨((List.range 256).map t).toArray⟩
def I115 (t:Nat→UInt8) (k:Nat):St:=⟨[(8,iv .i64 (k:Nat)),(7,.c (.agg (tl t))),(3,.c (.l (.o 1 (4*k))))],[(0,some ⟨tl t,.t 38⟩),(1,some ⟨tb t (4*k),.r 5 1 1⟩)],2,25,[1,0],(0)⟩
theorem tb_next (t:Nat→UInt8) (k:Nat):tb t (4*k)++[ub (t (4*k)),ub (t (4*k+1)),ub (t (4*k+2)),ub (t (4*k+3))]=tb t (4*(k+1)):=tb_four t (4*k)
theorem bytesT_len (t:Nat→UInt8):(bytesT t).size=256:=by unfold bytesT;simp[ByteArray.size]
def cz_R115 (t:Nat→UInt8) (k:Nat):Cz:={
 ct:=(fun f=>match f with
 |_=>none)
 eq:=(fun t=>match t with
 |_=>none)
 raw:=[],sym:=[10,21],nf:=[(10,.c (.agg [ub (t (4*k)),ub (t (4*k+1)),ub (t (4*k+2)),ub (t (4*k+3))]))],ap:=true,off:=[],on:=[],lp:=fun _=>none,un:=0}
set_option maxRecDepth 100000 in
theorem R115 (t:Nat→UInt8) (k:Nat)  (K:Exit→St→Prop) (h:HB (decide ((Nat.cast k:Int)<64)) (InR ((Nat.cast k:Int)) 64∧Le (ag (List.take 4 (List.drop (((Nat.cast k:Int)).toNat*4) (tl t)))) (ag [Leaf.v (Value.int IntKind.u8 (Nat.cast ((t (4*k)).toNat):Int)),Leaf.v (Value.int IntKind.u8 (Nat.cast ((t (4*k+1)).toNat):Int)),Leaf.v (Value.int IntKind.u8 (Nat.cast ((t (4*k+2)).toNat):Int)),Leaf.v (Value.int IntKind.u8 (Nat.cast ((t (4*k+3)).toNat):Int))])∧((tb t (4*k)).length=4*k*1∧4=4∧IntKind.i64.wrap ((Nat.cast k:Int)+1)=(Nat.cast k:Int)+1∧RoundTo Tryz.prog ((getLoop 3 (Tryz.f115.body.getD .skip)).getD .skip) 2 (wkK 2 K) (St.mk [(3,SV.c (Cp.l (Leaf.o 1 (4*k+4)))),(7,ag (tl t)),(8,iv IntKind.i64 ((Nat.cast k:Int)+1))] [(0,some (Blk.mk (tl t) (BT.t 38))),(1,some (Blk.mk (tb t (4*k)++[Leaf.v (Value.int IntKind.u8 (Nat.cast ((t (4*k)).toNat):Int)),Leaf.v (Value.int IntKind.u8 (Nat.cast ((t (4*k+1)).toNat):Int)),Leaf.v (Value.int IntKind.u8 (Nat.cast ((t (4*k+2)).toNat):Int)),Leaf.v (Value.int IntKind.u8 (Nat.cast ((t (4*k+3)).toNat):Int))]) (BT.r 5 1 1))),(2,some (Blk.mk [Leaf.v (Value.int IntKind.u8 (Nat.cast ((t (4*k)).toNat):Int)),Leaf.v (Value.int IntKind.u8 (Nat.cast ((t (4*k+1)).toNat):Int)),Leaf.v (Value.int IntKind.u8 (Nat.cast ((t (4*k+2)).toNat):Int)),Leaf.v (Value.int IntKind.u8 (Nat.cast ((t (4*k+3)).toNat):Int))] (BT.t 36))),(3,some (Blk.mk [Leaf.v (Value.int IntKind.u8 (Nat.cast ((t (4*k)).toNat):Int)),Leaf.v (Value.int IntKind.u8 (Nat.cast ((t (4*k+1)).toNat):Int)),Leaf.v (Value.int IntKind.u8 (Nat.cast ((t (4*k+2)).toNat):Int)),Leaf.v (Value.int IntKind.u8 (Nat.cast ((t (4*k+3)).toNat):Int))] (BT.r 5 1 3))),(4,none)] 4 25 [1,3,2,2,1,0] 0))∧[(1,4*k+4,false)]=[(1,4*k+4,false)]∧ApB Tryz.prog 5 (4*k+4)∧(tb t (4*k)).length=4*k*1∧4=4∧IntKind.i64.wrap ((Nat.cast k:Int)+1)=(Nat.cast k:Int)+1∧RoundTo Tryz.prog ((getLoop 3 (Tryz.f115.body.getD .skip)).getD .skip) 2 (wkK 2 K) (St.mk [(3,SV.c (Cp.l (Leaf.o 4 (4*k+4)))),(7,ag (tl t)),(8,iv IntKind.i64 ((Nat.cast k:Int)+1))] [(0,some (Blk.mk (tl t) (BT.t 38))),(1,some (Blk.mk (tb t (4*k)) (BT.r 5 1 1))),(2,some (Blk.mk [Leaf.v (Value.int IntKind.u8 (Nat.cast ((t (4*k)).toNat):Int)),Leaf.v (Value.int IntKind.u8 (Nat.cast ((t (4*k+1)).toNat):Int)),Leaf.v (Value.int IntKind.u8 (Nat.cast ((t (4*k+2)).toNat):Int)),Leaf.v (Value.int IntKind.u8 (Nat.cast ((t (4*k+3)).toNat):Int))] (BT.t 36))),(3,some (Blk.mk [Leaf.v (Value.int IntKind.u8 (Nat.cast ((t (4*k)).toNat):Int)),Leaf.v (Value.int IntKind.u8 (Nat.cast ((t (4*k+1)).toNat):Int)),Leaf.v (Value.int IntKind.u8 (Nat.cast ((t (4*k+2)).toNat):Int)),Leaf.v (Value.int IntKind.u8 (Nat.cast ((t (4*k+3)).toNat):Int))] (BT.r 5 1 3))),(4,some (Blk.mk (tb t (4*k)++[Leaf.v (Value.int IntKind.u8 (Nat.cast ((t (4*k)).toNat):Int)),Leaf.v (Value.int IntKind.u8 (Nat.cast ((t (4*k+1)).toNat):Int)),Leaf.v (Value.int IntKind.u8 (Nat.cast ((t (4*k+2)).toNat):Int)),Leaf.v (Value.int IntKind.u8 (Nat.cast ((t (4*k+3)).toNat):Int))]) (BT.r 5 1 4)))] 5 25 [4,3,2,2,1,0] 0)) (wkK 2 K (Exit.exit 0) (St.mk [(3,SV.c (Cp.l (Leaf.o 1 (4*k)))),(7,ag (tl t)),(8,iv IntKind.i64 (Nat.cast k:Int))] [(0,some (Blk.mk (tl t) (BT.t 38))),(1,some (Blk.mk (tb t (4*k)) (BT.r 5 1 1))),(2,none),(3,none),(4,none)] 2 25 [1,0] 0))):WPL Tryz.prog ((getLoop 3 (Tryz.f115.body.getD .skip)).getD .skip) (I115 t k) (wkK 2 K):=
 wp_roundT [3,7,8] [0,1,2,3,4] (cx:=cz_R115 t k) rfl (of_eq (by kernel_rfl) h)
set_option maxRecDepth 100000 in
set_option maxHeartbeats 4000000 in
theorem L115 (t:Nat→UInt8)  : ∀(m k:Nat),64-k=m→k≤64→∀(K:Exit→St→Prop),K (.exit 0) (I115 t 64)→WPL Tryz.prog ((getLoop 3 (Tryz.f115.body.getD .skip)).getD .skip) (I115 t k) (wkK 2 K)
 |0,k,hm,hk,K,hK=>by
  have e:k=64:=by omega
  subst e
  refine R115 t _ K (HB.mk (fun hne=>absurd (of_decide_eq_true hne) (by omega)) (fun he=>?_))
  exact wkK.to (I115 t _) (Nat.le_refl _) (by kernel_rfl) (wkE_cons (LeN.sl (by kernel_rfl) rfl) (wkE_cons (LeN.sl_plain (by kernel_rfl) (plain_tl t)) (wkE_cons (LeN.sl (by kernel_rfl) rfl) trivial))) (wkH_cons (BkN.plain (cs:=tl t) (b:=.t 38) (by kernel_rfl) (rfl) (plain_tl t) (by kernel_rfl)) (wkH_cons (BkN.plain (cs:=tb t (4*64)) (b:=.r 5 1 1) (by kernel_rfl) (rfl) (tb_plain _ _) (by kernel_rfl)) trivial)) hK
 |m+1,k,hm,hk,K,hK=>by
  refine R115 t k K (HB.mk (fun hne=>?_) (fun he=>absurd (show ((k:Nat):Int)<(64:Nat) by omega) (of_decide_eq_false he)))
  have hlt:k<64:=by omega
  repeat' (first|exact trivial|with_reducible apply And.intro|(with_reducible apply HB.mk)|with_reducible intro _)
  all_goals first
   |(exact ⟨by omega,by omega⟩)
   |(rw[tb_len];omega)
   |(exact Le.of (by rw[show (((k:Nat):Int)).toNat=k from rfl,tl_pix _ hlt];rfl))
   |(exact apB (bytes:=1) (by kernel_rfl) (by omega))
   |((with_reducible refine RoundTo.toN 4 (I115 t (k+1)) ?_ ?_ ?_ ?_ ?_);exact Nat.le_refl _;kernel_rfl;exact (wkE_cons (LeN.sl (by kernel_rfl) rfl) (wkE_cons (LeN.sl_plain (by kernel_rfl) (plain_tl t)) (wkE_cons (LeN.sl_o (m:=4*k+4) (by kernel_rfl) rfl (by omega)) trivial)));exact (wkH_cons (BkN.plain (cs:=tl t) (b:=.t 38) (by kernel_rfl) (rfl) (plain_tl t) (by kernel_rfl)) (wkH_cons (BkN.plain (cs:=tb t (4*k)++[ub (t (4*k)),ub (t (4*k+1)),ub (t (4*k+2)),ub (t (4*k+3))]) (b:=.r 5 1 1) (by kernel_rfl) (tb_next t k) (tb_plain _ _) (by kernel_rfl)) trivial));exact (L115 t  m (k+1) (by omega) (by omega) K hK))
   |((with_reducible refine RoundTo.reN 5 [(1,some 4)] (I115 t (k+1)) ?_ ?_ ?_ ?_);kernel_rfl;exact (wkER_cons (LeR.of (by kernel_rfl)) (wkER_cons (LeR.sl_plain (by kernel_rfl) (plain_tl t)) (wkER_cons (LeR.sl_o (j:=4) (m:=4*k+4) (by kernel_rfl) rfl (by omega)) trivial)));exact (wkHR_cons (j:=0) rfl (BkM.plain (cs:=tl t) (b:=.t 38) (by kernel_rfl) (rfl) (plain_tl t) (by kernel_rfl)) (wkHR_cons (j:=4) rfl (BkM.plain (cs:=tb t (4*k)++[ub (t (4*k)),ub (t (4*k+1)),ub (t (4*k+2)),ub (t (4*k+3))]) (b:=.r 5 1 4) (by kernel_rfl) (tb_next t k) (tb_plain _ _) (by kernel_rfl)) trivial));exact (L115 t  m (k+1) (by omega) (by omega) K hK))
   |(exact okw _ (by omega) (by omega))
   |(simp only[*,Bool.and_self,Bool.not_false,Bool.not_true];done)
theorem enters115:Enters Tryz.prog 115:=fun args w=>by go_simp
def cz_C115 (t:Nat→UInt8):Cz:={
 ct:=(fun f=>match f with
 |_=>none)
 eq:=(fun t=>match t with
 |_=>none)
 raw:=[],sym:=[24],nf:=[(7,.c (.agg (tl t)))],ap:=true,off:=[],on:=[],lp:=fun r=>match r with|3=>some (fun _ K=>K (.exit 0) (I115 t 64))|_=>none,un:=0}
set_option maxRecDepth 100000 in
set_option maxHeartbeats 400000 in
theorem C115 (t:Nat→UInt8)  (n:Nat):CallOK Tryz.prog 115 [.c (.agg (tl t))] [] n (.c (.l (.v (.string (bytesT t))))) [] 0:=by
 refine CallOK.any ?_ (by kernel_rfl) (by kernel_rfl) n
 refine call_ok (cx:=cz_C115 t) (nm:=[]) rfl Tryz.func115 (body:=Tryz.f115.body.getD .skip) rfl enters115 (by kernel_rfl) ?_
 apply of_eq (q:=Le (ag (List.take 256 (tl t))) (ag (tl t))∧(LoopOK Tryz.prog ((getLoop 3 (Tryz.f115.body.getD .skip)).getD .skip) (St.mk [(8,iv IntKind.i64 0),(7,ag (tl t)),(3,SV.c (Cp.l (Leaf.o 1 0))),(6,SV.c (Cp.l (Leaf.o 1 0))),(2,SV.c (Cp.l (Leaf.v (Value.string (ByteArray.mk #[]))))),(1,SV.c (Cp.l (Leaf.p 0 0))),(0,ag (tl t))] [(1,some (Blk.mk [] (BT.r 5 1 1))),(0,some (Blk.mk (tl t) (BT.t 38)))] 2 25 [1,0] 0) fun K=>K (Exit.exit 0) (I115 t 64))∧256=256∧AllB (tb t (4*64))∧Le (SV.c (Cp.l (Leaf.v (Value.string (strL (tb t (4*64))))))) (SV.c (Cp.l (Leaf.v (Value.string (bytesT t)))))∧True) (by kernel_rfl)
 repeat' (first|exact trivial|with_reducible apply And.intro|(with_reducible apply HB.mk)|with_reducible intro _)
 all_goals first
  |(exact LoopOK.mk (I115 t 0) rfl (by kernel_rfl) (wkE_cons (LeN.sl (by kernel_rfl) rfl) (wkE_cons (LeN.sl_plain (by kernel_rfl) (plain_tl t)) (wkE_cons (LeN.sl (by kernel_rfl) rfl) trivial))) (wkH_cons (BkN.plain (cs:=tl t) (b:=.t 38) (by kernel_rfl) (rfl) (plain_tl t) (by kernel_rfl)) (wkH_cons (BkN.plain (cs:=[]) (b:=.r 5 1 1) (by kernel_rfl) (rfl) (tb_plain _ _) (by kernel_rfl)) trivial)) (fun K hT=>L115 t  _ 0 rfl (by first|decide|omega) K hT))
  |(exact Le.of (by rw[tl_take]))
  |(exact tb_len t 256)
  |(exact tb_all t 256)
  |(refine Le.of ?_;rw[tb_str];rfl)
end Ab
end Go.Proofs.YtpdckpifhniioaaGreat
end
