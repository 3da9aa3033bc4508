/- Part 9 of what CodecPacks rests on. -/
import Derived.Deep.DeepCutAuto
import Derived.Deep.CutBlock
import Derived.Deep.LoopGhost
import Derived.Lib.Builder
import Derived.Lib.UnsafeStr
import Derived.Laws.Externs
import Derived.Test.YtpdckpifhniioaaGreatProg
import Derived.WalkKit
import Derived.WalkLawsBesides
import Derived.WalkSpells
import Derived.Lib.Hide
import Derived.Laws.IdiomStrings
import Derived.BigQuiet
import Derived.Deep.Light
import Derived.Deep.QuietTactic
import Derived.Deep.OwnRows
import Derived.Test.YtpdckpifhniioaaGreatVa
import Derived.Test.YtpdckpifhniioaaGreatVh
section
set_option linter.unusedVariables false
set_option linter.unusedSimpArgs false
namespace Go.Proofs.YtpdckpifhniioaaGreat.Cod
open Go.RowKit
open Go.Proofs.YtpdckpifhniioaaGreat
section
theorem own_grow {w x:World} {B:Nat} {v:Value} {n:Nat} {xs:List Value} (h:w.ownsRow B 5 1 v n xs) (hg:Grow w x):x.ownsRow B 5 1 v n xs:=by
 obtain ⟨h1,h2⟩:=h
 refine ⟨h1,h2.imp id ?_⟩
 rintro ⟨g,cap,cur,e1,e2,e3,e4⟩
 exact ⟨g,cap,cur,e1,e2,hg.block e3,e4⟩
section
variable {o:Oper} {ρ:Operand→Value} {x:World} {y:Operand}
theorem run_asg (v:Value) (ho:o.op=.assign y) (hy:ρ y=v):(execOp ρ o).run Tryz.prog x=.ok (.value v) x:=by
 unfold execOp;rw[ho];simp only[hy];go_simp
theorem run_faz (t:TypeId) (f k:Nat) (g i:Nat) (ho:o.op=.fieldAddr 232 y 0) (hy:ρ y=.pointer (some ⟨g,0,none⟩)) (_:True=True):(execOp ρ o).run Tryz.prog x=.ok (.value (.pointer (some ⟨g,0,none⟩))) x:=by
 unfold execOp;rw[ho];simp only[hy];go_simp
theorem run_faL (g:Nat) (ho:o.op=.fieldAddr 230 y 1) (hy:ρ y=.pointer (some ⟨g,0,none⟩)):(execOp ρ o).run Tryz.prog x=.ok (.value (.pointer (some ⟨g,256,none⟩))) x:=by
 unfold execOp;rw[ho];simp only[hy];go_simp
theorem run_ld32 (a:Addr) (n:Int) (ho:o.op=.load 110 y) (hy:ρ y=.pointer (some a)) (hc:x.cell? a=some (.int .u32 n)):(execOp ρ o).run Tryz.prog x=.ok (.value (.int .u32 n)) x:=by
 unfold execOp;rw[ho];simp only[hy];go_simp
theorem run_shr24 (n:Int) (h0:0≤n) {t:TypeId} (ho:o.op=.binOp .shr 110 y (.const (.int .u64 24)) t) (hy:ρ y=.int .u32 n) (hk:∀v,ρ (.const v)=v:=by intro v;rfl):(execOp ρ o).run Tryz.prog x=.ok (.value (.int .u32 (n / 16777216))) x:=by
 unfold execOp;rw[ho];simp only[hy,hk];go_simp
theorem run_shr16 (n:Int) (h0:0≤n) {t:TypeId} (ho:o.op=.binOp .shr 110 y (.const (.int .u64 16)) t) (hy:ρ y=.int .u32 n) (hk:∀v,ρ (.const v)=v:=by intro v;rfl):(execOp ρ o).run Tryz.prog x=.ok (.value (.int .u32 (n / 65536))) x:=by
 unfold execOp;rw[ho];simp only[hy,hk];go_simp
theorem run_shr8 (n:Int) (h0:0≤n) {t:TypeId} (ho:o.op=.binOp .shr 110 y (.const (.int .u64 8)) t) (hy:ρ y=.int .u32 n) (hk:∀v,ρ (.const v)=v:=by intro v;rfl):(execOp ρ o).run Tryz.prog x=.ok (.value (.int .u32 (n / 256))) x:=by
 unfold execOp;rw[ho];simp only[hy,hk];go_simp
theorem u8_of_int (n:Int) (h0:0≤n):IntKind.u8.wrap n=((UInt8.ofNat n.toNat).toNat:Int):=by
 rw[M.ofNat_val,IntKind.wrap_u8];omega
theorem run_cv8 (n:Int) (h0:0≤n) (h1:n≤4294967295) (ho:o.op=.convert 110 5 y) (hy:ρ y=.int .u32 n):(execOp ρ o).run Tryz.prog x=.ok (.value (.int .u8 ((UInt8.ofNat n.toNat).toNat:Int))) x:=by
 rw[←u8_of_int n h0]
 unfold execOp;rw[ho];simp only[hy];go_simp
theorem run_cvo (B:Nat) (so:Option Addr) (sc:Nat) (l:List UInt8) (ho:o.op=.convert 57 9 y) (hy:ρ y=.slice so l.length sc) (h:x.ownsRow B 5 1 (.slice so l.length sc) l.length (bvals l)):(execOp ρ o).run Tryz.prog x=.ok (.value (.string ⟨l.toArray⟩)) x:=by
 have hc:=conv_own (P:=Tryz.prog) x 57 9 5 Tryz.underlying57 Tryz.underlying5 Tryz.underlying9 B _ _ l h
 unfold execOp;rw[ho];simp only[hy]
 simp[hc,Result.andThen]
theorem run_cv4 (l:List UInt8) (h4:l.length=4) (b:Nat) (ho:o.op=.convert 57 9 y) (hy:ρ y=.slice (some ⟨b,0,none⟩) 4 4) (hb:x.heap[b]? = some (.cells (bvals l).toArray 5 (0,0))):(execOp ρ o).run Tryz.prog x=.ok (.value (.string ⟨l.toArray⟩)) x:=by
 have h:=conv_row (P:=Tryz.prog) x 57 9 5 Tryz.underlying57 Tryz.underlying5 Tryz.underlying9 b 5 (0,0) _ hb 0 4 4 l h4 (fun j hj=>by
  simp[bvals,hj])
 unfold execOp;rw[ho];simp only[hy]
 simp[h,Result.andThen]
theorem run_bs4 (a b c d:Int) {y1 y2 y3 y4:Operand} (ho:o.op=.buildSlice 57 4 #[(0,y1),(1,y2),(2,y3),(3,y4)]) (h1:ρ y1=.int .u8 a) (h2:ρ y2=.int .u8 b) (h3:ρ y3=.int .u8 c) (h4:ρ y4=.int .u8 d):(execOp ρ o).run Tryz.prog x=.ok (.value (.slice (some ⟨x.heap.size,0,none⟩) 4 4)) (x.alloc (.cells #[.int .u8 a,.int .u8 b,.int .u8 c,.int .u8 d] 5)):=by
 unfold execOp;rw[ho];simp[h1,h2,h3,h4];go_simp
theorem run_adds {y1 y2:Operand} (s t:ByteArray) (ho:o.op=.binOp .add 9 y1 y2 9) (h1:ρ y1=.string s) (h2:ρ y2=.string t) (hl:s.size+t.size≤1000000000):(execOp ρ o).run Tryz.prog x=.ok (.value (.string (s++t))) x:=by
 have hm:s.size+t.size≤9223372036854775807:=by omega
 unfold execOp;rw[ho];simp only[h1,h2];go_simp
end
def BT (g:Nat) (lo:Int) (l:List UInt8) (so:Option Addr) (sc:Nat) (i:Nat) (v:Value) (x:World):Prop:=
 match i with
 |0=>v=(.pointer (some ⟨g,0,none⟩))
 |1=>v=(.pointer (some ⟨g,0,none⟩))
 |2=>v=(.pointer (some ⟨g,258,none⟩))
 |3=>v=(.slice so l.length sc)
 |4=>v=(.string ⟨l.toArray⟩)
 |5=>v=(.pointer (some ⟨g,0,none⟩))
 |6=>v=(.pointer (some ⟨g,0,none⟩))
 |7=>v=(.pointer (some ⟨g,0,none⟩))
 |8=>v=(.pointer (some ⟨g,256,none⟩))
 |9=>v=(.int .u32 lo)
 |10=>v=(.int .u32 (lo / 16777216))
 |11=>v=(.int .u8 ((UInt8.ofNat (lo / 16777216).toNat).toNat:Int))
 |12=>v=(.pointer (some ⟨g,0,none⟩))
 |13=>v=(.pointer (some ⟨g,0,none⟩))
 |14=>v=(.pointer (some ⟨g,0,none⟩))
 |15=>v=(.pointer (some ⟨g,256,none⟩))
 |16=>v=(.int .u32 lo)
 |17=>v=(.int .u32 (lo / 65536))
 |18=>v=(.int .u8 ((UInt8.ofNat (lo / 65536).toNat).toNat:Int))
 |19=>v=(.pointer (some ⟨g,0,none⟩))
 |20=>v=(.pointer (some ⟨g,0,none⟩))
 |21=>v=(.pointer (some ⟨g,0,none⟩))
 |22=>v=(.pointer (some ⟨g,256,none⟩))
 |23=>v=(.int .u32 lo)
 |24=>v=(.int .u32 (lo / 256))
 |25=>v=(.int .u8 ((UInt8.ofNat (lo / 256).toNat).toNat:Int))
 |26=>v=(.pointer (some ⟨g,0,none⟩))
 |27=>v=(.pointer (some ⟨g,0,none⟩))
 |28=>v=(.pointer (some ⟨g,0,none⟩))
 |29=>v=(.pointer (some ⟨g,256,none⟩))
 |30=>v=(.int .u32 lo)
 |31=>v=(.int .u8 ((UInt8.ofNat lo.toNat).toNat:Int))
 |32=>∃b,v=.slice (some ⟨b,0,none⟩) 4 4∧x.heap[b]? = some (.cells (bvals (M.be4 lo)).toArray 5 (0,0))
 |33=>v=(.string ⟨(M.be4 lo).toArray⟩)
 |34=>v=(.string (⟨l.toArray⟩++⟨(M.be4 lo).toArray⟩))
 |35=>v=(.string (⟨l.toArray⟩++⟨(M.be4 lo).toArray⟩))
 |_=>True
set_option maxRecDepth 100000 in
set_option maxHeartbeats 8000000 in
theorem bytes_w (B g:Nat) (s:M.St) (hs:M.Ok s) (X:Nat→Value) (l:List UInt8) (w:World)
  (hB:Blk w g 232 259 (cc s.p s.lo (4294967295-s.hi) X)) (hown:w.ownsRow B 5 1 (X 258) l.length (bvals l)) (hl:l.length≤100000000) :
  Calls Tryz.prog 157 #[.pointer (some ⟨g,0,none⟩)] w fun e w'=>e=.returned (.string ⟨(l++M.be4 s.lo).toArray⟩)∧Grow w w':=by
 have h0:=hs.lo
 have h1:s.lo≤4294967295:=by have:=hs.le;have:=hs.hi;omega
 have c6:w.cell? ⟨g,256,none⟩=some (.int .u32 s.lo):=by rw[hB.cell 256 (by omega),cc_lo]
 obtain ⟨so,sc,hv⟩:=own_mem hown
 have c8:w.cell? ⟨g,258,none⟩=some (.slice so l.length sc):=by rw[hB.cell 258 (by omega),cc_x 258 (by omega),hv]
 rw[hv] at hown
 clear hB hs
 generalize s.lo=lo at *
 have hsz:(⟨l.toArray⟩:ByteArray).size+(⟨(M.be4 lo).toArray⟩:ByteArray).size≤1000000000:=by
  show l.toArray.size+4≤_
  simp;omega
 have hres:(⟨l.toArray⟩:ByteArray)++⟨(M.be4 lo).toArray⟩=⟨(l++M.be4 lo).toArray⟩:=by
  apply ByteArray.ext;simp[ByteArray.data_append]
 go_enter Tryz.func157,Tryz.ntmps157
 go_upto_region 3 with fail
 refine wp_region_growL ?lit ?hlit (by kernel_rfl) (by kernel_rfl) (by kernel_rfl) (by kernel_rfl) (BT g lo l so sc) ?_ ?_
 case hlit=>
  intro u
  simp only[fill,Act.put,Nat.zero_add,Nat.reduceAdd,List.setIfInBounds_toArray,List.set_cons_zero,List.set_cons_succ]
  rfl
 ·intro i o ho u x hx hd
  have hi:i<36:=(List.getElem?_eq_some_iff.1 ho).1
  replace hx:Grow w x:=hx
  obtain rfl|rfl|rfl|rfl|rfl|rfl|rfl|rfl|rfl|rfl|rfl|rfl|rfl|rfl|rfl|rfl|rfl|rfl|rfl|rfl|rfl|rfl|rfl|rfl|rfl|rfl|rfl|rfl|rfl|rfl|rfl|rfl|rfl|rfl|rfl|rfl:i=0∨i=1∨i=2∨i=3∨i=4∨i=5∨i=6∨i=7∨i=8∨i=9∨i=10∨i=11∨i=12∨i=13∨i=14∨i=15∨i=16∨i=17∨i=18∨i=19∨i=20∨i=21∨i=22∨i=23∨i=24∨i=25∨i=26∨i=27∨i=28∨i=29∨i=30∨i=31∨i=32∨i=33∨i=34∨i=35:=by omega
  ·simp only[List.getElem?_cons_zero,Option.some.injEq] at ho;subst ho
   exact gw_val (run_mv _ rfl rfl) (Grow.refl _) (Al.of rfl)
  ·simp only[List.getElem?_cons_succ,List.getElem?_cons_zero,Option.some.injEq] at ho;subst ho
   have e1:u 0=(.pointer (some ⟨g,0,none⟩)):=hd 0 (by kernel_rfl)
   exact gw_val (run_nil _ rfl e1) (Grow.refl _) (Al.of rfl)
  ·simp only[List.getElem?_cons_succ,List.getElem?_cons_zero,Option.some.injEq] at ho;subst ho
   have e1:u 1=(.pointer (some ⟨g,0,none⟩)):=hd 1 (by kernel_rfl)
   exact gw_val (run_fa1 g rfl e1) (Grow.refl _) (Al.of rfl)
  ·simp only[List.getElem?_cons_succ,List.getElem?_cons_zero,Option.some.injEq] at ho;subst ho
   have e1:u 2=(.pointer (some ⟨g,258,none⟩)):=hd 2 (by kernel_rfl)
   exact gw_val (run_loads _ _ _ _ rfl e1 (hx.cell c8)) (Grow.refl _) (Al.of rfl)
  ·simp only[List.getElem?_cons_succ,List.getElem?_cons_zero,Option.some.injEq] at ho;subst ho
   have e1:u 3=(.slice so l.length sc):=hd 3 (by kernel_rfl)
   exact gw_val (run_cvo B so sc l rfl e1 (own_grow hown hx)) (Grow.refl _) (Al.of rfl)
  ·simp only[List.getElem?_cons_succ,List.getElem?_cons_zero,Option.some.injEq] at ho;subst ho
   exact gw_val (run_mv _ rfl rfl) (Grow.refl _) (Al.of rfl)
  ·simp only[List.getElem?_cons_succ,List.getElem?_cons_zero,Option.some.injEq] at ho;subst ho
   have e1:u 5=(.pointer (some ⟨g,0,none⟩)):=hd 5 (by kernel_rfl)
   exact gw_val (run_nil _ rfl e1) (Grow.refl _) (Al.of rfl)
  ·simp only[List.getElem?_cons_succ,List.getElem?_cons_zero,Option.some.injEq] at ho;subst ho
   have e1:u 6=(.pointer (some ⟨g,0,none⟩)):=hd 6 (by kernel_rfl)
   exact gw_val (run_faz 232 0 0 g 0 rfl e1 (by kernel_rfl)) (Grow.refl _) (Al.of rfl)
  ·simp only[List.getElem?_cons_succ,List.getElem?_cons_zero,Option.some.injEq] at ho;subst ho
   have e1:u 7=(.pointer (some ⟨g,0,none⟩)):=hd 7 (by kernel_rfl)
   exact gw_val (run_faL g rfl e1) (Grow.refl _) (Al.of rfl)
  ·simp only[List.getElem?_cons_succ,List.getElem?_cons_zero,Option.some.injEq] at ho;subst ho
   have e1:u 8=(.pointer (some ⟨g,256,none⟩)):=hd 8 (by kernel_rfl)
   exact gw_val (run_ld32 _ _ rfl e1 (hx.cell c6)) (Grow.refl _) (Al.of rfl)
  ·simp only[List.getElem?_cons_succ,List.getElem?_cons_zero,Option.some.injEq] at ho;subst ho
   have e1:u 9=(.int .u32 lo):=hd 9 (by kernel_rfl)
   exact gw_val (run_shr24 lo h0 rfl e1) (Grow.refl _) (Al.of rfl)
  ·simp only[List.getElem?_cons_succ,List.getElem?_cons_zero,Option.some.injEq] at ho;subst ho
   have e1:u 10=(.int .u32 (lo / 16777216)):=hd 10 (by kernel_rfl)
   exact gw_val (run_cv8 (lo / 16777216) (by omega) (by omega) rfl e1) (Grow.refl _) (Al.of rfl)
  ·simp only[List.getElem?_cons_succ,List.getElem?_cons_zero,Option.some.injEq] at ho;subst ho
   exact gw_val (run_mv _ rfl rfl) (Grow.refl _) (Al.of rfl)
  ·simp only[List.getElem?_cons_succ,List.getElem?_cons_zero,Option.some.injEq] at ho;subst ho
   have e1:u 12=(.pointer (some ⟨g,0,none⟩)):=hd 12 (by kernel_rfl)
   exact gw_val (run_nil _ rfl e1) (Grow.refl _) (Al.of rfl)
  ·simp only[List.getElem?_cons_succ,List.getElem?_cons_zero,Option.some.injEq] at ho;subst ho
   have e1:u 13=(.pointer (some ⟨g,0,none⟩)):=hd 13 (by kernel_rfl)
   exact gw_val (run_faz 232 0 0 g 0 rfl e1 (by kernel_rfl)) (Grow.refl _) (Al.of rfl)
  ·simp only[List.getElem?_cons_succ,List.getElem?_cons_zero,Option.some.injEq] at ho;subst ho
   have e1:u 14=(.pointer (some ⟨g,0,none⟩)):=hd 14 (by kernel_rfl)
   exact gw_val (run_faL g rfl e1) (Grow.refl _) (Al.of rfl)
  ·simp only[List.getElem?_cons_succ,List.getElem?_cons_zero,Option.some.injEq] at ho;subst ho
   have e1:u 15=(.pointer (some ⟨g,256,none⟩)):=hd 15 (by kernel_rfl)
   exact gw_val (run_ld32 _ _ rfl e1 (hx.cell c6)) (Grow.refl _) (Al.of rfl)
  ·simp only[List.getElem?_cons_succ,List.getElem?_cons_zero,Option.some.injEq] at ho;subst ho
   have e1:u 16=(.int .u32 lo):=hd 16 (by kernel_rfl)
   exact gw_val (run_shr16 lo h0 rfl e1) (Grow.refl _) (Al.of rfl)
  ·simp only[List.getElem?_cons_succ,List.getElem?_cons_zero,Option.some.injEq] at ho;subst ho
   have e1:u 17=(.int .u32 (lo / 65536)):=hd 17 (by kernel_rfl)
   exact gw_val (run_cv8 (lo / 65536) (by omega) (by omega) rfl e1) (Grow.refl _) (Al.of rfl)
  ·simp only[List.getElem?_cons_succ,List.getElem?_cons_zero,Option.some.injEq] at ho;subst ho
   exact gw_val (run_mv _ rfl rfl) (Grow.refl _) (Al.of rfl)
  ·simp only[List.getElem?_cons_succ,List.getElem?_cons_zero,Option.some.injEq] at ho;subst ho
   have e1:u 19=(.pointer (some ⟨g,0,none⟩)):=hd 19 (by kernel_rfl)
   exact gw_val (run_nil _ rfl e1) (Grow.refl _) (Al.of rfl)
  ·simp only[List.getElem?_cons_succ,List.getElem?_cons_zero,Option.some.injEq] at ho;subst ho
   have e1:u 20=(.pointer (some ⟨g,0,none⟩)):=hd 20 (by kernel_rfl)
   exact gw_val (run_faz 232 0 0 g 0 rfl e1 (by kernel_rfl)) (Grow.refl _) (Al.of rfl)
  ·simp only[List.getElem?_cons_succ,List.getElem?_cons_zero,Option.some.injEq] at ho;subst ho
   have e1:u 21=(.pointer (some ⟨g,0,none⟩)):=hd 21 (by kernel_rfl)
   exact gw_val (run_faL g rfl e1) (Grow.refl _) (Al.of rfl)
  ·simp only[List.getElem?_cons_succ,List.getElem?_cons_zero,Option.some.injEq] at ho;subst ho
   have e1:u 22=(.pointer (some ⟨g,256,none⟩)):=hd 22 (by kernel_rfl)
   exact gw_val (run_ld32 _ _ rfl e1 (hx.cell c6)) (Grow.refl _) (Al.of rfl)
  ·simp only[List.getElem?_cons_succ,List.getElem?_cons_zero,Option.some.injEq] at ho;subst ho
   have e1:u 23=(.int .u32 lo):=hd 23 (by kernel_rfl)
   exact gw_val (run_shr8 lo h0 rfl e1) (Grow.refl _) (Al.of rfl)
  ·simp only[List.getElem?_cons_succ,List.getElem?_cons_zero,Option.some.injEq] at ho;subst ho
   have e1:u 24=(.int .u32 (lo / 256)):=hd 24 (by kernel_rfl)
   exact gw_val (run_cv8 (lo / 256) (by omega) (by omega) rfl e1) (Grow.refl _) (Al.of rfl)
  ·simp only[List.getElem?_cons_succ,List.getElem?_cons_zero,Option.some.injEq] at ho;subst ho
   exact gw_val (run_mv _ rfl rfl) (Grow.refl _) (Al.of rfl)
  ·simp only[List.getElem?_cons_succ,List.getElem?_cons_zero,Option.some.injEq] at ho;subst ho
   have e1:u 26=(.pointer (some ⟨g,0,none⟩)):=hd 26 (by kernel_rfl)
   exact gw_val (run_nil _ rfl e1) (Grow.refl _) (Al.of rfl)
  ·simp only[List.getElem?_cons_succ,List.getElem?_cons_zero,Option.some.injEq] at ho;subst ho
   have e1:u 27=(.pointer (some ⟨g,0,none⟩)):=hd 27 (by kernel_rfl)
   exact gw_val (run_faz 232 0 0 g 0 rfl e1 (by kernel_rfl)) (Grow.refl _) (Al.of rfl)
  ·simp only[List.getElem?_cons_succ,List.getElem?_cons_zero,Option.some.injEq] at ho;subst ho
   have e1:u 28=(.pointer (some ⟨g,0,none⟩)):=hd 28 (by kernel_rfl)
   exact gw_val (run_faL g rfl e1) (Grow.refl _) (Al.of rfl)
  ·simp only[List.getElem?_cons_succ,List.getElem?_cons_zero,Option.some.injEq] at ho;subst ho
   have e1:u 29=(.pointer (some ⟨g,256,none⟩)):=hd 29 (by kernel_rfl)
   exact gw_val (run_ld32 _ _ rfl e1 (hx.cell c6)) (Grow.refl _) (Al.of rfl)
  ·simp only[List.getElem?_cons_succ,List.getElem?_cons_zero,Option.some.injEq] at ho;subst ho
   have e1:u 30=(.int .u32 lo):=hd 30 (by kernel_rfl)
   exact gw_val (run_cv8 lo (by omega) (by omega) rfl e1) (Grow.refl _) (Al.of rfl)
  ·simp only[List.getElem?_cons_succ,List.getElem?_cons_zero,Option.some.injEq] at ho;subst ho
   have e1:u 11=(.int .u8 ((UInt8.ofNat (lo / 16777216).toNat).toNat:Int)):=hd 11 (by kernel_rfl)
   have e2:u 18=(.int .u8 ((UInt8.ofNat (lo / 65536).toNat).toNat:Int)):=hd 18 (by kernel_rfl)
   have e3:u 25=(.int .u8 ((UInt8.ofNat (lo / 256).toNat).toNat:Int)):=hd 25 (by kernel_rfl)
   have e4:u 31=(.int .u8 ((UInt8.ofNat lo.toNat).toNat:Int)):=hd 31 (by kernel_rfl)
   exact gw_val (run_bs4 _ _ _ _ rfl e1 e2 e3 e4) (Grow.alloc _ _) (fun y gy=>⟨_,rfl,gy.block (heap_alloc_new _ _)⟩)
  ·simp only[List.getElem?_cons_succ,List.getElem?_cons_zero,Option.some.injEq] at ho;subst ho
   obtain ⟨bk,e1,e2⟩:=hd 32 (by kernel_rfl)
   exact gw_val (run_cv4 (M.be4 lo) rfl bk rfl e1 e2) (Grow.refl _) (Al.of rfl)
  ·simp only[List.getElem?_cons_succ,List.getElem?_cons_zero,Option.some.injEq] at ho;subst ho
   have e1:u 4=(.string ⟨l.toArray⟩):=hd 4 (by kernel_rfl)
   have e2:u 33=(.string ⟨(M.be4 lo).toArray⟩):=hd 33 (by kernel_rfl)
   exact gw_val (run_adds _ _ rfl e1 e2 hsz) (Grow.refl _) (Al.of rfl)
  ·simp only[List.getElem?_cons_succ,List.getElem?_cons_zero,Option.some.injEq] at ho;subst ho
   have e1:u 34=(.string (⟨l.toArray⟩++⟨(M.be4 lo).toArray⟩)):=hd 34 (by kernel_rfl)
   exact gw_val (run_asg _ rfl e1) (Grow.refl _) (Al.of rfl)
 ·intro u x hx hd
  replace hx:Grow w x:=hx
  have e2:u 35=(.string (⟨l.toArray⟩++⟨(M.be4 lo).toArray⟩)):=hd 35 (by decide)
  rw[hres] at e2
  clear hd
  simp only[e2]
  go_wp2
  go_ret
  exact ⟨rfl,hx⟩
end
section
theorem Tryz.zero232 (w:World):(zeroValue 232).run Tryz.prog w=.ok (.agg (cv 259 (cc M.start.p M.start.lo (4294967295-M.start.hi) (fun _=>.slice none 0 0)))) w:=by kernel_rfl
set_option maxRecDepth 100000 in
set_option maxHeartbeats 1000000 in
theorem newWriter_any (w:World):Calls Tryz.prog 153 #[] w fun e w'=>e=.returned (.pointer (some ⟨w.heap.size,0,none⟩))∧w'=w.alloc (.cells (cv 259 (cc M.start.p M.start.lo (4294967295-M.start.hi) (fun _=>.slice none 0 0))) 232):=by
 have hz:=Tryz.zero232
 generalize cv 259 (cc M.start.p M.start.lo (4294967295-M.start.hi) (fun _=>.slice none 0 0))=Z at *
 go_enter Tryz.func153,Tryz.ntmps153
 go_wp2
 go_ret
 exact ⟨rfl,rfl⟩
end
end Go.Proofs.YtpdckpifhniioaaGreat.Cod
end
section
set_option linter.unusedVariables false
set_option linter.unusedSimpArgs false
namespace Go.Proofs.YtpdckpifhniioaaGreat.Cod
open Go.RowKit
open Go.Proofs.YtpdckpifhniioaaGreat
section
end
section
end
section
end
section
end
section
end
section
theorem run_ia53 {o:Oper} {ρ:Operand→Value} {x:World} {y z:Operand} (g k:Nat) (ho:o.op=.indexAddr 234 y z) (hy:ρ y=.pointer (some ⟨g,0,none⟩)) (hz:ρ z=.int .i64 (k:Int)) (hk:k<256):(execOp ρ o).run Tryz.prog x=.ok (.value (.pointer (some ⟨g,k,none⟩))) x:=by
 have hk2:(k:Int)<256:=by omega
 unfold execOp;rw[ho];simp only[hy,hz];go_simp
set_option maxRecDepth 100000 in
set_option maxHeartbeats 1000000 in
theorem rmid_any (g:Nat) (s:M.St) (hs:M.Ok s) (c:Int) (w:World) (hp:w.cell? ⟨g,cx c,none⟩=some (.int .i64 (s.p (cx c)))) (hl:w.cell? ⟨g,256,none⟩=some (.int .u32 s.lo)) (he:w.cell? ⟨g,257,none⟩=some (.int .u32 s.hi)) :
  Calls Tryz.prog 204 #[.pointer (some ⟨g,0,none⟩),.int .i64 c] w fun e w'=>e=.returned (.int .u32 (M.md s (cx c)))∧∃n,w'=w.drewN n:=by
 obtain ⟨p1,p2⟩:=hs.p (cx c)
 obtain ⟨m1,m2⟩:=M.md_bd hs (cx c)
 have l0:=hs.lo
 have le:=hs.le
 have l1:=hs.hi
 have hm:M.md s (cx c)=s.lo+(s.hi-s.lo) / 4096*s.p (cx c):=rfl
 rw[hm]
 clear hm
 have ha:=and_255 c
 rw[←cx_val] at ha
 have hk:=cx_lt c
 clear hs
 go_enter Tryz.func204,Tryz.ntmps204
 go_upto_region 1 with fail
 refine q_region (C:=fun x=>∃n,x=w.drewN n) (by kernel_rfl) (by kernel_rfl) ⟨1,rfl⟩ ?_
 repeat (first
  |go_big_quiet_skip
  |(go_big_quiet_want;refine q_val ?_;apply Exists.intro;refine ⟨fun x hx=>?_,?_⟩;(focus (obtain ⟨n,rfl⟩:=hx;first|exact run_ia53 g (cx c) rfl rfl rfl hk|(go_simp<;>rfl)));simp only[Act.put,List.setIfInBounds_toArray,List.set_cons_zero,List.set_cons_succ];go_big_quiet_on))
 refine wpQuiet_nil ?_
 rintro x ⟨n,rfl⟩
 go_wp2
 go_ret
 refine ⟨ret_int ?_,n,rfl⟩
 have e1:(s.hi-s.lo).tdiv 4096=(s.hi-s.lo) / 4096:=Int.tdiv_eq_ediv_of_nonneg (by omega)
 have e2:0≤(s.hi-s.lo) / 4096∧(s.hi-s.lo) / 4096≤4294967295:=by omega
 show IntKind.u32.wrap (s.lo+IntKind.u32.wrap (IntKind.u32.wrap ((IntKind.u32.wrap (s.hi-s.lo)).tdiv 4096)*IntKind.u32.wrap (s.p (cx c))))=_
 rw[w32 (s.p (cx c)) (by omega) (by omega),w32 (s.hi-s.lo) (by omega) (by omega),e1,w32 ((s.hi-s.lo) / 4096) (by omega) (by omega),w32 ((s.hi-s.lo) / 4096*s.p (cx c)) (by omega) (by omega),w32 _ (by omega) (by omega)]
end
section
structure WS (B g:Nat) (ro:Option Nat) (s:M.St) (l:List UInt8) (w:World):Prop where
 ok:M.Ok s
 bd:B≤w.heap.size
 ge:B≤g
 ex:∃X,Blk w g 232 259 (cc s.p s.lo (4294967295-s.hi) X)∧w.ownsRow B 5 1 (X 258) l.length (bvals l)∧(X 258).ownBlock=ro
theorem WS.lt {B g ro s l w} (h:WS B g ro s l w):g<w.heap.size:=by
 obtain ⟨X,h1,_⟩:=h.ex
 exact h1.lt
theorem WS.ro_ge {B g ro s l w} (h:WS B g ro s l w) (k:Nat) (e:ro=some k):B≤k∧k<w.heap.size:=by
 obtain ⟨X,h1,h2,h3⟩:=h.ex
 have h4:=h2.lt k (by rw[h3,e])
 exact ⟨h4.1,h4.2⟩
theorem WS.ne {B g ro s l w} (h:WS B g ro s l w) {k t:Nat} {c fr} (hk:w.heap[k]? = some (.cells c t fr)) (h5:t≠5) (h68:t≠232):k≠g∧some k≠ro:=by
 obtain ⟨X,h1,h2,h3⟩:=h.ex
 refine ⟨blk_ne h1 hk (Ne.symm h68),?_⟩
 rw[←h3];exact row_ne h2 hk h5
theorem WS.grow {B g ro s l w w'} (h:WS B g ro s l w) (hg:Grow w w'):WS B g ro s l w':=by
 obtain ⟨X,x1,x2,x3⟩:=h.ex
 exact ⟨h.ok,Nat.le_trans h.bd (Below.size hg),h.ge,X,x1.grow hg,own_grow x2 hg,x3⟩
theorem newWriter_ws (w:World):Calls Tryz.prog 153 #[] w fun e w'=>e=.returned (.pointer (some ⟨w.heap.size,0,none⟩))∧WS w.heap.size w.heap.size none M.start [] w'∧Grow w w':=by
 refine (newWriter_any w).mono ?_
 rintro e w' ⟨rfl,rfl⟩
 refine ⟨rfl,⟨M.start_ok,Grow.size (Grow.alloc _ _),Nat.le_refl _,_,heap_alloc_new _ _,?_,?_⟩,Grow.alloc _ _⟩
 ·exact ⟨rfl,.inl ⟨rfl,rfl⟩⟩
 ·rfl
theorem WS.lower {B B' g ro s l w} (h:WS B g ro s l w) (hB:B'≤B):WS B' g ro s l w:=by
 obtain ⟨X,x1,x2,x3⟩:=h.ex
 refine ⟨h.ok,Nat.le_trans hB h.bd,Nat.le_trans hB h.ge,X,x1,?_,x3⟩
 obtain ⟨y1,y2⟩:=x2
 refine ⟨y1,y2.imp id ?_⟩
 rintro ⟨k,cap,cur,e1,e2,e3⟩
 exact ⟨k,cap,cur,e1,Nat.le_trans hB e2,e3⟩
theorem bit_ws {B g ro s l w} (h:WS B g ro s l w) (c bit:Int) (hl:l.length+4≤100000000) :
  Calls Tryz.prog 156 #[.pointer (some ⟨g,0,none⟩),.int .i64 c,.int .i64 bit] w fun e w'=>e=.returned (.tuple #[])∧∃ro',WS B g ro' (M.nxt s (cx c) (bit % 2)) (l++M.outB s (cx c) (bit % 2)) w'∧Nxt ro ro' w∧Chg g ro w w':=by
 obtain ⟨X,x1,x2,x3⟩:=h.ex
 refine (bit_w B g s h.ok c bit X l w x1 x2 h.bd hl).mono ?_
 rintro e w' ⟨rfl,X',y1,y2,y3,y4⟩
 rw[x3] at y3 y4
 exact ⟨rfl,_,⟨M.nxt_ok h.ok _ _,Nat.le_trans h.bd y4.size,h.ge,X',y1,y2,rfl⟩,y3,y4⟩
theorem bytes_ws {B g ro s l w} (h:WS B g ro s l w) (hl:l.length≤100000000) :
  Calls Tryz.prog 157 #[.pointer (some ⟨g,0,none⟩)] w fun e w'=>e=.returned (.string ⟨(l++M.be4 s.lo).toArray⟩)∧Grow w w':=by
 obtain ⟨X,x1,x2,x3⟩:=h.ex
 exact bytes_w B g s h.ok X l w x1 x2 hl
theorem WS.below {B g ro s l w w'} (h:WS B g ro s l w) (k:Chg g ro w w'):Below B w w':=k.below h.ge (fun j e=>(h.ro_ge j e).1) h.bd
end
end Go.Proofs.YtpdckpifhniioaaGreat.Cod
end
section
set_option linter.unusedVariables false
set_option linter.unusedSimpArgs false
namespace Go.Proofs.YtpdckpifhniioaaGreat.Cod
open Go.RowKit
open Go.Proofs.YtpdckpifhniioaaGreat
section
theorem enters_fn {f:FuncId} {fn:Func} {c:Code} (hf:Tryz.prog.funcs[f]? = some fn) (hname:(fn.name == "runtime.NumGoroutine")=false) (hb:fn.body=some c) (args:Array Value) (w:World):(callFunc f args).run Tryz.prog w=.ok (.enter f args) w:=by
 have h1:fn.name≠ "runtime.NumGoroutine":=by simpa using hname
 simp[callFunc,hf,h1,hb,mark]
structure CbE (fn:Nat) (cap:Array Value) (cx bt:Nat→Int) (I:Nat→World→Prop):Prop where
 enters:∀args w,(callFunc fn args).run Tryz.prog w=.ok (.enter fn args) w
 start:cx 0=1
 next:∀k,k<8→cx (k+1)=2*cx k+bt k
 bit:∀k,k<8→bt k=0∨bt k=1
 call:∀k w,k<8→I k w→Calls Tryz.prog fn (#[.int .i64 (7-(k:Int)),.int .i64 (cx k)]++cap) w fun e w'=>e=.returned (.int .i64 (bt k))∧I (k+1) w'
theorem CbE.bd {fn cap cx bt I} (h:CbE fn cap cx bt I):∀k,k≤8→1≤cx k∧cx k<2 ^ (k+1)
 |0,_=>by rw[h.start];decide
 |k+1,hk=>by
  have ih:=h.bd k (by omega)
  have hb:=h.bit k (by omega)
  rw[h.next k (by omega)]
  have:(2:Int) ^ (k+1+1)=2*2 ^ (k+1):=by rw[Int.pow_succ,Int.mul_comm]
  omega
set_option maxRecDepth 100000 in
set_option maxHeartbeats 1000000 in
theorem each_any (fn:Nat) (cap:Array Value) (cx bt:Nat→Int) (I:Nat→World→Prop) (H:Hid (CbE fn cap cx bt I)) (w:World) (h:I 0 w) :
  Calls Tryz.prog 154 #[.func (.func fn) #[] cap] w fun e w'=>e=.returned (.tuple #[])∧I 8 w':=by
 go_enter Tryz.func154,Tryz.ntmps154
 go_upto_block 2 with fail
 go_loopg [2,3] 8 (fun k s2 s3 wr=>k≤8∧s2=.int .i64 (cx (8-k))∧s3=.int .i64 ((k:Int)-1)∧I (8-k) wr)
 case atStart=>exact ⟨Nat.le_refl _,by rw[H.out.start],rfl,h⟩
 case round=>
  obtain ⟨hk,rfl,rfl,hI⟩:=hrel
  cases gk with
  |zero=>
   go_wp2
   refine bodyPost_end (results_none rfl _ _ _) rfl ⟨rfl,hI⟩
  |succ k=>
   have e8:8-(k+1)+1=8-k:=by omega
   have e7:7-k+1=8-k:=by omega
   have e77:8-(k+1)=7-k:=by omega
   rw[e77] at hI
   have hc:=H.out.call (7-k) wr (by omega) hI
   rw[show 7-((7-k:Nat):Int)=(k:Int) by omega,e7] at hc
   have hn:=H.out.next (7-k) (by omega)
   rw[e7] at hn
   have hb0:=H.out.bd (7-k) (by omega)
   have hp0:(2:Int) ^ (7-k+1)≤512:=by
    have:(2:Nat) ^ (7-k+1)≤2 ^ 9:=Nat.pow_le_pow_right (by omega) (by omega)
    exact_mod_cast this
   have hen:=Lib.hid H.out.enters
   have hb:=H.out.bd (8-k) (by omega)
   have hb2:=H.out.bit (7-k) (by omega)
   have hp:(2:Int) ^ (8-k+1)≤512:=by
    have:(2:Nat) ^ (8-k+1)≤2 ^ 9:=Nat.pow_le_pow_right (by omega) (by omega)
    exact_mod_cast this
   replace hc:=Lib.hid hc
   replace hn:=Lib.hid hn
   go_wp2_with fail
   rw[hen.out,Oper.upon_enter]
   refine hc.out.mono ?_
   rintro e w' ⟨rfl,hI'⟩
   replace hn:=hn.out
   go_wp2
   go_roundg k
   case measure=>omega
   case rel=>exact ⟨by omega,by rw[hn],rfl,hI'⟩
end
section
theorem cb31_bit (x:UInt8) (k:Nat) (hk:k<8):(x.toNat:Int) / 2 ^ (7-k) % 2=(M.bitAt x.toNat k).2:=by
 unfold M.bitAt
 dsimp only
 rw[Int.natCast_emod,Int.natCast_ediv,Int.natCast_pow]
 rfl
set_option maxRecDepth 100000 in
set_option maxHeartbeats 1000000 in
theorem cb31 {B g sb ib wb:Nat} {ro:Option Nat} {s:M.St} {l:List UInt8} {f:ByteArray} {i:Nat} (hi:i<f.size) (w:World) (h:WS B g ro s l w) (hl:l.length+4≤100000000)
  (h1:w.heap[sb]? = some (.cells #[.string f] 9 (0,0))) (h2:w.heap[ib]? = some (.cells #[.int .i64 (i:Int)] 3 (0,0))) (h3:w.heap[wb]? = some (.cells #[.pointer (some ⟨g,0,none⟩)] 202 (0,0)))
  (k:Nat) (hk:k<8) (c:Int) :
  Calls Tryz.prog 155 #[.int .i64 (7-(k:Int)),.int .i64 c,.pointer (some ⟨sb,0,none⟩),.pointer (some ⟨ib,0,none⟩),.pointer (some ⟨wb,0,none⟩)] w fun e w'=>
   e=.returned (.int .i64 (M.bitAt (f[i]).toNat k).2)∧∃ro',WS B g ro' (M.nxt s (cx c) (M.bitAt (f[i]).toNat k).2) (l++M.outB s (cx c) (M.bitAt (f[i]).toNat k).2) w'∧Nxt ro ro' w∧Chg g ro w w':=by
 have d1:w.cell? ⟨sb,0,none⟩=some (.string f):=by rw[cell_of_row w sb 0 _ _ _ h1];rfl
 have d2:w.cell? ⟨ib,0,none⟩=some (.int .i64 (i:Int)):=by rw[cell_of_row w ib 0 _ _ _ h2];rfl
 have d3:w.cell? ⟨wb,0,none⟩=some (.pointer (some ⟨g,0,none⟩)):=by rw[cell_of_row w wb 0 _ _ _ h3];rfl
 obtain ⟨bt,hbt⟩:∃bt,bt=(M.bitAt (f[i]).toNat k).2:=⟨_,rfl⟩
 have hb01:bt=0∨bt=1:=by rw[hbt];exact M.bitAt_bit _ _
 have hb:=cb31_bit f[i] k hk
 rw[←hbt] at hb⊢
 have HW:=Lib.hid (bit_ws h c bt hl)
 rw[show bt % 2=bt by omega] at HW
 clear h h1 h2 h3 hbt
 replace hb01:=Lib.hid hb01
 go_enter Tryz.func155,Tryz.ntmps155
 go_wp2_with fail
 have heq:bits .and .i64 (wrap64 ((f[i].toNat:Int) / 2 ^ (7-k))) 1=bt:=by
  have hx:=(f[i]).toNat_lt
  have h1:(1:Int)≤2 ^ (7-k):=Int.pow_pos (by decide)
  have h2:0≤(f[i].toNat:Int) / 2 ^ (7-k):=Int.ediv_nonneg (by omega) (by omega)
  have h3:(f[i].toNat:Int) / 2 ^ (7-k)≤f[i].toNat:=Int.ediv_le_self _ (by omega)
  rw[IntWalk.wrap64_in _ (by omega),and_1,hb]
 rw[heq]
 refine HW.out.mono ?_
 rintro e w' ⟨rfl,ro',hQ⟩
 replace hQ:=Lib.hid hQ
 go_wp2
 go_ret
 exact ⟨rfl,ro',hQ.out⟩
structure EI (B g sb ib wb:Nat) (f:ByteArray) (i:Nat) (w0:World) (s:M.St) (l:List UInt8) (w:World):Prop where
 ws:∃ro,WS B g ro s l w
 sb:w.heap[sb]? = some (.cells #[.string f] 9 (0,0))
 ib:w.heap[ib]? = some (.cells #[.int .i64 (i:Int)] 3 (0,0))
 wb:w.heap[wb]? = some (.cells #[.pointer (some ⟨g,0,none⟩)] 202 (0,0))
 below:Below B w0 w
theorem EI.chg {B g sb ib wb f i w0 s l w ro w' s' l' ro'} (h:EI B g sb ib wb f i w0 s l w) (k:WS B g ro s l w) (k':WS B g ro' s' l' w') (hc:Chg g ro w w'):EI B g sb ib wb f i w0 s' l' w':=by
 refine ⟨⟨_,k'⟩,?_,?_,?_,h.below.trans (k.below hc)⟩
 ·have:=k.ne h.sb (by decide) (by decide)
  rw[hc.block _ (Array.getElem?_eq_some_iff.1 h.sb).1 this.1 this.2];exact h.sb
 ·have:=k.ne h.ib (by decide) (by decide)
  rw[hc.block _ (Array.getElem?_eq_some_iff.1 h.ib).1 this.1 this.2];exact h.ib
 ·have:=k.ne h.wb (by decide) (by decide)
  rw[hc.block _ (Array.getElem?_eq_some_iff.1 h.wb).1 this.1 this.2];exact h.wb
def bts (x:UInt8) (k:Nat):List (Nat×Int):=(List.range k).map (M.bitAt x.toNat)
theorem bts_succ (x:UInt8) (k:Nat):bts x (k+1)=bts x k++[M.bitAt x.toNat k]:=by
 unfold bts;rw[List.range_succ,List.map_append];rfl
theorem bts_8 (x:UInt8):bts x 8=M.byteBits x:=rfl
theorem ctx_next (x k:Nat) (hk:k<8):(((256+x) / 2 ^ (8-(k+1)):Nat):Int)=2*(((256+x) / 2 ^ (8-k):Nat):Int)+(M.bitAt x k).2:=by
 unfold M.bitAt
 dsimp only
 obtain rfl|rfl|rfl|rfl|rfl|rfl|rfl|rfl:k=0∨k=1∨k=2∨k=3∨k=4∨k=5∨k=6∨k=7:=by omega
 all_goals simp only[Nat.reduceSub,Nat.reduceAdd,Nat.reducePow]
 all_goals omega
theorem ctx_cx (x k:Nat) (hx:x<256) (hk:k<8):cx (((256+x) / 2 ^ (8-k):Nat):Int)=(M.bitAt x k).1:=by
 unfold cx M.bitAt
 dsimp only
 obtain rfl|rfl|rfl|rfl|rfl|rfl|rfl|rfl:k=0∨k=1∨k=2∨k=3∨k=4∨k=5∨k=6∨k=7:=by omega
 all_goals simp only[Nat.reduceSub,Nat.reducePow]
 all_goals omega
theorem ei_cb {B g sb ib wb:Nat} {f:ByteArray} {i:Nat} (hi:i<f.size) {w0:World} {s:M.St} {l:List UInt8} (hl:l.length+36≤100000000) :
  CbE 155 #[.pointer (some ⟨sb,0,none⟩),.pointer (some ⟨ib,0,none⟩),.pointer (some ⟨wb,0,none⟩)] (fun k=>(((256+f[i].toNat) / 2 ^ (8-k):Nat):Int)) (fun k=>(M.bitAt f[i].toNat k).2)
   (fun k w=>k≤8∧EI B g sb ib wb f i w0 (M.runS s (bts f[i] k)) (l++M.runO s (bts f[i] k)) w) where
 enters:=enters_fn Tryz.func155 (by kernel_rfl) rfl
 start:=by have:=(f[i]).toNat_lt;show (((256+f[i].toNat) / 2 ^ 8:Nat):Int)=1;omega
 next:=fun k hk=>ctx_next _ _ hk
 bit:=fun k hk=>M.bitAt_bit _ _
 call:=fun k w hk h=>by
  obtain ⟨ro,hw⟩:=h.2.ws
  have hlen:=M.runO_len (bts f[i] k) s
  have hbl:(bts f[i] k).length=k:=by simp[bts]
  refine (cb31 hi w hw (by rw[List.length_append];omega) h.2.sb h.2.ib h.2.wb k hk _).mono ?_
  rintro e w' ⟨rfl,ro',k1,k2,k3⟩
  refine ⟨rfl,by omega,?_⟩
  have:=h.2.chg hw k1 k3
  rw[ctx_cx _ _ (f[i]).toNat_lt hk] at this
  rw[bts_succ,M.runS_append,M.runO_append]
  simpa [M.runS,M.runO] using this
structure EL (B g sb wb:Nat) (f:ByteArray) (w0:World) (s:M.St) (l:List UInt8) (w:World):Prop where
 ws:∃ro,WS B g ro s l w
 sb:w.heap[sb]? = some (.cells #[.string f] 9 (0,0))
 wb:w.heap[wb]? = some (.cells #[.pointer (some ⟨g,0,none⟩)] 202 (0,0))
 below:Below B w0 w
theorem EL.wbsz {B g sb wb f w0 s l w} (h:EL B g sb wb f w0 s l w):wb<w.heap.size:=(Array.getElem?_eq_some_iff.1 h.wb).1
theorem EL.ei {B g sb wb f w0 s l w} (h:EL B g sb wb f w0 s l w) (i:Nat):EI B g sb w.heap.size wb f i w0 s l (w.alloc (.cells #[.int .i64 (i:Int)] 3)):=by
 obtain ⟨ro,k⟩:=h.ws
 exact ⟨⟨ro,k.grow (Grow.alloc _ _)⟩,(Grow.alloc _ _).block h.sb,heap_alloc_new _ _,(Grow.alloc _ _).block h.wb,h.below.trans (Below.mono (show Below w.heap.size _ _ from Grow.alloc _ _) k.bd)⟩
theorem EI.el {B g sb ib wb f i w0 s l w} (h:EI B g sb ib wb f i w0 s l w):EL B g sb wb f w0 s l w:=⟨h.ws,h.sb,h.wb,h.below⟩
theorem take_succ_enc (f:ByteArray) (i:Nat) (hi:i<f.size):M.encBits (f.data.toList.take (i+1))=M.encBits (f.data.toList.take i)++M.byteBits f[i]:=by
 have h:f.data.toList.take (i+1)=f.data.toList.take i++[f[i]]:=by
  rw[List.take_add_one]
  have:f.data.toList[i]? = some f[i]:=by
   rw[Array.getElem?_toList,Array.getElem?_eq_getElem hi];rfl
  rw[this];rfl
 rw[h,M.encBits_append]
 exact congrArg _ (List.append_nil _)
set_option maxRecDepth 100000 in
set_option maxHeartbeats 1000000 in
theorem encode_any (f:ByteArray) (w:World) (hf:f.size≤2500000) :
  Calls Tryz.prog 114 #[.string f] w fun e w'=>e=.returned (.string ⟨(M.enc f.data.toList).toArray⟩)∧Grow w w':=by
 have HN:=Lib.hid (newWriter_ws (w.alloc (.cells #[.string f] 9)))
 go_enter Tryz.func114,Tryz.ntmps114
 go_wp2_with fail
 refine HN.out.mono ?_
 rintro e x ⟨rfl,hw,hg⟩
 clear HN
 have hsz:(w.alloc (.cells #[.string f] 9)).heap.size=w.heap.size+1:=by simp
 rw[hsz] at hw⊢
 have hE:WS w.heap.size (w.heap.size+1) none M.start [] x:=hw.lower (by omega)
 have hs:x.heap[w.heap.size]? = some (.cells #[.string f] 9 (0,0)):=hg.block (heap_alloc_new w _)
 have hb:Below w.heap.size w x:=(Grow.alloc w _).trans hg
 have hx:=hw.lt
 have c1:x.cell? ⟨w.heap.size,0,none⟩=some (.string f):=by rw[cell_of_row x _ 0 _ _ _ hs];rfl
 have hx0:w.heap.size<x.heap.size:=by omega
 replace hs:=Lib.hid hs
 replace hE:=Lib.hid hE
 replace hb:=Lib.hid hb
 clear hw hg hsz
 have hwb:Hid ((x.alloc (.cells #[.pointer (some ⟨w.heap.size+1,0,none⟩)] 202)).heap[x.heap.size]? = some (.cells #[.pointer (some ⟨w.heap.size+1,0,none⟩)] 202 (0,0))):=Lib.hid (heap_alloc_new _ _)
 go_upto_block 1 with fail
 obtain ⟨sb,hsb⟩:∃sb,sb=w.heap.size:=⟨_,rfl⟩
 go_loopg [8] f.size (fun k s8 wr=>∃i,i+k=f.size∧s8=.int .i64 (i:Int)∧Hid (EL w.heap.size (w.heap.size+1) w.heap.size x.heap.size f w (M.runS M.start (M.encBits (f.data.toList.take i))) (M.runO M.start (M.encBits (f.data.toList.take i))) wr))
 case atStart=>
  refine ⟨0,by omega,rfl,Lib.hid ⟨⟨none,hE.out.grow (Grow.alloc _ _)⟩,(Grow.alloc _ _).block hs.out,hwb.out,hb.out.trans (Below.mono (show Below x.heap.size _ _ from Grow.alloc _ _) (by omega))⟩⟩
 case round=>
  obtain ⟨i,hik,rfl,HR⟩:=hrel
  clear hE hb hs hwb c1
  have hws:=HR.out.wbsz
  cases gk with
  |zero=>
   obtain rfl:i=f.size:=by omega
   obtain ⟨ro,hW⟩:=HR.out.ws
   have d3:wr.cell? ⟨x.heap.size,0,none⟩=some (.pointer (some ⟨w.heap.size+1,0,none⟩)):=by rw[cell_of_row wr _ 0 _ _ _ HR.out.wb];rfl
   have htk:f.data.toList.take f.size=f.data.toList:=List.take_of_length_le (by simp[←ByteArray.size_data])
   have hlen:=M.runO_len (M.encBits f.data.toList) M.start
   rw[M.encBits_len] at hlen
   have hfl:f.data.toList.length=f.size:=by simp[←ByteArray.size_data]
   have HY:=Lib.hid (bytes_ws hW (by rw[htk];omega))
   have HX:=Lib.hid (And.intro htk HR.out.below)
   clear HR hW htk hlen hfl
   go_wp2_with fail
   refine HY.out.mono ?_
   rintro e y ⟨rfl,hgy⟩
   obtain ⟨htk,hbe⟩:=HX.out
   rw[htk]
   go_wp2
   go_ret
   exact ⟨rfl,hbe.trans (Below.mono hgy hbe.size)⟩
  |succ k=>
   have hlt:i<f.size:=by omega
   have hlen:=M.runO_len (M.encBits (f.data.toList.take i)) M.start
   rw[M.encBits_len] at hlen
   have htl:(f.data.toList.take i).length≤i:=by rw[List.length_take];omega
   have HE:=Lib.hid (each_any 155 _ _ _ _ (Lib.hid (ei_cb (B:=w.heap.size) (g:=w.heap.size+1) (sb:=w.heap.size) (ib:=wr.heap.size) (wb:=x.heap.size) hlt (w0:=w) (s:=M.runS M.start (M.encBits (f.data.toList.take i))) (l:=M.runO M.start (M.encBits (f.data.toList.take i))) (by omega))) _ ⟨by omega,by simpa [bts,M.runS,M.runO] using HR.out.ei i⟩)
   clear hlen htl HR
   go_wp2_with fail
   refine HE.out.mono ?_
   rintro e y ⟨rfl,_,hI⟩
   replace hI:=Lib.hid hI.el
   go_wp2
   go_roundg k
   case measure=>omega
   case rel=>
    refine ⟨i+1,by omega,by rw[Int.natCast_add];rfl,?_⟩
    have h2:=hI.out
    rw[bts_8,←M.runS_append,←M.runO_append,←take_succ_enc f i hlt] at h2
    exact Lib.hid h2
end
end Go.Proofs.YtpdckpifhniioaaGreat.Cod
end
section
set_option linter.unusedVariables false
set_option linter.unusedSimpArgs false
namespace Go.Proofs.YtpdckpifhniioaaGreat.Cod
open Go.RowKit
open Go.Proofs.YtpdckpifhniioaaGreat
section
end
section
end
section
end
end Go.Proofs.YtpdckpifhniioaaGreat.Cod
end
section
set_option linter.unusedVariables false
set_option linter.unusedSimpArgs false
namespace Go.Proofs.YtpdckpifhniioaaGreat.Prd
open Go.RowKit
open Go.Proofs.YtpdckpifhniioaaGreat
section
namespace M
def swM (r b:UInt8):UInt8:=b+(r-b) / 2
def swU (r b:UInt8):UInt8:=r-b
def swV (r g b:UInt8):UInt8:=g-swM r b
def swY (r g b:UInt8):UInt8:=swM r b+swV r g b / 2
def dist (l u c x:Int):Int:=max (l+u-c-x) (x-l-u+c)
def paeth (l u c:Int):Int:=
 if dist l u c u<dist l u c l then (if dist l u c c<dist l u c u then c else u)
 else (if dist l u c c<dist l u c l then c else l)
def median (l u c:Int):Int:=max (min l u) (min (max l u) (l+u-c))
def pred (k:Nat) (l u c:Int):Int:=
 match k with
 |1=>l
 |2=>u
 |3=>(l+u) / 2
 |4=>paeth l u c
 |5=>median l u c
 |_=>0
def InB (x:Int):Prop:=0≤x∧x≤255
theorem pred_in (k:Nat) (l u c:Int) (hl:InB l) (hu:InB u) (hc:InB c):InB (pred k l u c):=by
 unfold pred
 split
 ·exact hl
 ·exact hu
 ·unfold InB at *;omega
 ·unfold paeth;split<;>split<;>assumption
 ·unfold median InB at *;omega
 ·exact ⟨by omega,by omega⟩
def nbL (p:Nat→UInt8) (i:Nat):Int:=if i=0 then 0 else if i<8 then (p (i-1)).toNat else if i % 8=0 then (p (i-8)).toNat else (p (i-1)).toNat
def nbU (p:Nat→UInt8) (i:Nat):Int:=if i=0 then 0 else if i<8 then (p (i-1)).toNat else (p (i-8)).toNat
def nbC (p:Nat→UInt8) (i:Nat):Int:=if i=0 then 0 else if i<8 then (p (i-1)).toNat else if i % 8=0 then (p (i-8)).toNat else (p (i-9)).toNat
theorem byte_in (x:UInt8):InB (x.toNat:Int):=by have:=x.toNat_lt;unfold InB;omega
theorem zero_in:InB 0:=by unfold InB;omega
theorem nbL_in (p : Nat → UInt8) (i : Nat) : InB (nbL p i) := by unfold nbL; split; · exact zero_in
                                                                 split;· exact byte_in _
                                                                 split<;>exact byte_in _
theorem nbU_in (p : Nat → UInt8) (i : Nat) : InB (nbU p i) := by unfold nbU; split; · exact zero_in
                                                                 split<;>exact byte_in _
theorem nbC_in (p : Nat → UInt8) (i : Nat) : InB (nbC p i) := by unfold nbC; split; · exact zero_in
                                                                 split;· exact byte_in _
                                                                 split<;>exact byte_in _
def gi (k:Nat) (p:Nat→UInt8) (i:Nat):Int:=pred k (nbL p i) (nbU p i) (nbC p i)
theorem gi_in (k:Nat) (p:Nat→UInt8) (i:Nat):InB (gi k p i):=pred_in _ _ _ _ (nbL_in p i) (nbU_in p i) (nbC_in p i)
def gs (k:Nat) (p:Nat→UInt8) (i:Nat):UInt8:=UInt8.ofNat (gi k p i).toNat
theorem gs_val (k:Nat) (p:Nat→UInt8) (i:Nat):((gs k p i).toNat:Int)=gi k p i:=by
 have h:=gi_in k p i
 unfold InB at h
 unfold gs
 simp
 omega
theorem gi_congr (k:Nat) (p q:Nat→UInt8) (i:Nat) (h:∀m,m<i→p m=q m):gi k p i=gi k q i:=by
 have hL:nbL p i=nbL q i:=by
  unfold nbL
  split;· rfl
  split;· rw[h _ (by omega)]
  split<;>rw[h _ (by omega)]
 have hU:nbU p i=nbU q i:=by
  unfold nbU
  split;· rfl
  split<;>rw[h _ (by omega)]
 have hC:nbC p i=nbC q i:=by
  unfold nbC
  split;· rfl
  split;· rw[h _ (by omega)]
  split
  ·rw[h _ (by omega)]
  ·rw[h _ (by omega)]
 unfold gi
 rw[hL,hU,hC]
theorem gs_congr (k:Nat) (p q:Nat→UInt8) (i:Nat) (h:∀m,m<i→p m=q m):gs k p i=gs k q i:=by
 unfold gs;rw[gi_congr k p q i h]
def pl (p:Nat→UInt8) (q:Nat):Nat→UInt8:=fun i=>p (64*q+i)
def res (k:Nat) (p:Nat→UInt8) (j:Nat):UInt8:=p j-gs k (pl p (j / 64)) (j % 64)
def tab (n:Nat) (f:Nat→UInt8):List UInt8:=(List.range n).map f
theorem tab_length (n:Nat) (f:Nat→UInt8):(tab n f).length=n:=by simp[tab]
theorem tab_congr (n:Nat) (f g:Nat→UInt8) (h:∀i,i<n→f i=g i):tab n f=tab n g:=by
 unfold tab;exact List.map_congr_left fun i hi=>h i (by simpa using hi)
theorem tab_succ (n:Nat) (f:Nat→UInt8):tab (n+1) f=tab n f++[f n]:=by simp[tab,List.range_succ]
theorem tab_add (n m:Nat) (f:Nat→UInt8):tab (n+m) f=tab n f++tab m (fun i=>f (n+i)):=by
 induction m with
 |zero=>simp[tab]
 |succ m ih=>rw[←Nat.add_assoc,tab_succ,ih,tab_succ,List.append_assoc]
theorem res_congr (k:Nat) (p q:Nat→UInt8) (j:Nat) (h:∀m,64*(j / 64)≤m→m≤j→p m=q m):res k p j=res k q j:=by
 unfold res
 rw[h j (by omega) (Nat.le_refl _),gs_congr k (pl p (j / 64)) (pl q (j / 64)) (j % 64) (fun m hm=>h _ (by omega) (by omega))]
def put (p:Nat→UInt8) (j:Nat) (v:UInt8):Nat→UInt8:=fun i=>if i=j then v else p i
theorem put_same (p:Nat→UInt8) (j:Nat) (v:UInt8):put p j v j=v:=by simp[put]
theorem put_other (p:Nat→UInt8) (j:Nat) (v:UInt8) (i:Nat) (h:i≠j):put p j v i=p i:=by simp[put,h]
def cb (b:UInt8):Nat:=min b.toNat (256-b.toNat)
def cost (l:List UInt8):Nat:=(l.map cb).sum
theorem cost_append (l m:List UInt8):cost (l++m)=cost l+cost m:=by simp[cost]
theorem cost_cons (b:UInt8) (m:List UInt8):cost (b::m)=cb b+cost m:=by simp[cost]
theorem cb_le (b:UInt8):cb b≤128:=by have:=b.toNat_lt;unfold cb;omega
theorem cost_le (l:List UInt8):cost l≤128*l.length:=by
 induction l with
 |nil=>simp[cost]
 |cons b l ih=>rw[cost_cons,List.length_cons];have:=cb_le b;omega
end M
end
end Go.Proofs.YtpdckpifhniioaaGreat.Prd
end
section
set_option linter.unusedVariables false
set_option linter.unusedSimpArgs false
namespace Go.Proofs.YtpdckpifhniioaaGreat.Prd
open Go.RowKit
open Go.Proofs.YtpdckpifhniioaaGreat
section
theorem ret_int {k:IntKind} {a b:Int} (h:a=b):Ending.returned (.int k a)=.returned (.int k b):=by rw[h]
section
variable {P:Program}
theorem conv_row (w:World) (src dst e:TypeId) (hs:P.underlying src=some (.slice e)) (he:P.underlying e=some (.int .u8)) (hd:P.underlying dst=some .string)
  (g:Nat) (t:TypeId) (fr:Nat×Nat) (C:Array Value) (hg:w.heap[g]? = some (.cells C t fr)) (k n cap:Nat) (l:List UInt8) (hn:l.length=n)
  (hl:∀j (h:j<l.length),C[k+j]? = some (.int .u8 (l[j].toNat:Int))) :
  (convert src dst (.slice (some ⟨g,k,none⟩) n cap)).run P w=.ok (.string ⟨l.toArray⟩) w:=by
 subst hn
 refine run_convert_bytes_back w src dst e _ cap l hs he hd fun j hj=>?_
 have:(⟨g,k,none⟩:Addr).add j=⟨g,k+j,none⟩:=by unfold Addr.add;split<;>simp_all
 rw[this]
 unfold World.cell?
 rw[hg]
 simpa using hl j hj
end
def bvals (l:List UInt8):List Value:=l.map fun b=>Value.int .u8 (b.toNat:Int)
theorem bvals_length (l:List UInt8):(bvals l).length=l.length:=by simp[bvals]
theorem bvals_append (l m:List UInt8):bvals (l++m)=bvals l++bvals m:=by simp[bvals]
section
variable {P:Program}
theorem conv_own (w:World) (src dst e:TypeId) (hs:P.underlying src=some (.slice e)) (he:P.underlying e=some (.int .u8)) (hd:P.underlying dst=some .string)
  (base:Nat) (v:Value) (n:Nat) (l:List UInt8) (hown:w.ownsRow base e 1 v n (bvals l)):(convert src dst v).run P w=.ok (.string ⟨l.toArray⟩) w:=by
 have hl:l.length=n:=by have:=hown.1;rw[bvals_length] at this;omega
 rcases hown.2 with ⟨rfl,h0⟩|⟨g,cap,cur,rfl,_,hg,hnc,_,hsz,htk⟩
 ·subst h0
  have:l=[]:=List.eq_nil_of_length_eq_zero hl
  subst this
  rw[run_convert_bytes_string w src dst e none 0 0 hs he hd]
  simp[Conv.bytesToString]
  rfl
 ·refine conv_row w src dst e hs he hd g e _ cur hg 0 n cap l hl fun j hj=>?_
  have h1:(cur.toList.take (n*1))[j]? = (bvals l)[j]?:=by rw[htk]
  rw[List.getElem?_take,if_pos (by omega)] at h1
  rw[Nat.zero_add,←Array.getElem?_toList,h1]
  simp[bvals,List.getElem?_eq_getElem hj]
end
theorem str_size (l:List UInt8):(⟨l.toArray⟩:ByteArray).size=l.length:=by
 simp[ByteArray.size]
end
section
theorem bt {w w1 w2:World} (h:Below w.heap.size w w1) (k:Below w1.heap.size w1 w2):Below w.heap.size w w2:=h.trans (k.mono h.size)
def Lie (g:Nat) (l:List UInt8) (w:World):Prop:=∀j (h:j<l.length),w.cell? ⟨g,j,none⟩=some (.int .u8 (l[j].toNat:Int))
theorem bytes_lie (x:World) (s:ByteArray) (cap:Nat) (fr:Nat×Nat):Lie x.heap.size s.data.toList (x.alloc (.cells (bytesRow s cap) 5 fr)):=by
 intro j hj
 rw[World.cell?_alloc_mark,bytesRow_at s cap j (by simpa using hj)]
 rfl
theorem bytesRow_size (s:ByteArray) (cap:Nat) (h:s.size≤cap):(bytesRow s cap).size=cap:=by
 unfold bytesRow
 rw[Array.size_append,Array.size_map,Array.size_replicate]
 show s.size+_=_
 omega
theorem bytes_free (x:World) (s:ByteArray) (cap j:Nat) (h:s.size≤cap) (hj:j<cap) :
  (x.alloc (.cells (bytesRow s cap) 5 ((bytesRow s cap).size,(bytesRow s cap).size+1))).frozen? ⟨x.heap.size,j,none⟩=false:=by
 rw[World.frozen?_alloc_mark,bytesRow_size s cap h]
 simp;omega
theorem bytes_some (x:World) (s:ByteArray) (cap j:Nat) (fr:Nat×Nat) (h:s.size≤cap) (hj:j<cap) :
  ((x.alloc (.cells (bytesRow s cap) 5 fr)).cell? ⟨x.heap.size,j,none⟩).isSome=true:=by
 rw[World.cell?_alloc_mark,Array.getElem?_eq_getElem (by rw[bytesRow_size s cap h];exact hj)];rfl
theorem conv_bytes (x:World) (s:ByteArray):∃W cap,(convert 9 57 (.string s)).run Tryz.prog x=.ok (.slice (some ⟨x.heap.size,0,none⟩) s.size cap) W∧s.size≤cap∧Lie x.heap.size s.data.toList W∧
  (∀j,j<cap→W.frozen? ⟨x.heap.size,j,none⟩=false∧(W.cell? ⟨x.heap.size,j,none⟩).isSome=true)∧Below x.heap.size x W∧x.heap.size<W.heap.size:=by
 have hg:=grownCap_ge x s.size 0 5
 refine ⟨_,_,run_bytes_of_string (P:=Tryz.prog) x 9 57 5 s Tryz.underlying9 Tryz.underlying57 Tryz.underlying5,hg,bytes_lie x.drew s _ _,fun j hj=>⟨bytes_free x.drew s _ j hg hj,bytes_some x.drew s _ j _ hg hj⟩,?_,?_⟩
 ·exact ((Below.refl _ _).drew).alloc (Nat.le_refl _) _
 ·rw[World.size_alloc];exact Nat.lt_succ_self _
section
variable {P:Program} {ops:Array Oper} {C:World→Prop} {Q:Act→Prop} {rest:List Oper} {o:Oper} {a:Act}
end
end
section
theorem half_nat (a:UInt8):(a / 2).toNat=a.toNat / 2:=by rw[UInt8.toNat_div];rfl
theorem e_swU (r b:UInt8):((r.toNat:Int)-(b.toNat:Int)) % 256=((M.swU r b).toNat:Int):=by
 have:=r.toNat_lt;have:=b.toNat_lt
 unfold M.swU
 rw[UInt8.toNat_sub];omega
theorem e_swM (r b:UInt8):((b.toNat:Int)+((r.toNat:Int)-(b.toNat:Int)) % 256 / 2) % 256=((M.swM r b).toNat:Int):=by
 have:=r.toNat_lt;have:=b.toNat_lt
 unfold M.swM
 rw[UInt8.toNat_add,half_nat,UInt8.toNat_sub];omega
theorem e_swV (r g b:UInt8):((g.toNat:Int)-((b.toNat:Int)+((r.toNat:Int)-(b.toNat:Int)) % 256 / 2) % 256) % 256=((M.swV r g b).toNat:Int):=by
 rw[e_swM]
 have:=g.toNat_lt;have:=(M.swM r b).toNat_lt
 unfold M.swV
 rw[UInt8.toNat_sub];omega
theorem e_swY (r g b:UInt8):(((b.toNat:Int)+((r.toNat:Int)-(b.toNat:Int)) % 256 / 2) % 256+((g.toNat:Int)-((b.toNat:Int)+((r.toNat:Int)-(b.toNat:Int)) % 256 / 2)) % 256 / 2) % 256=((M.swY r g b).toNat:Int):=by
 have h:((g.toNat:Int)-((b.toNat:Int)+((r.toNat:Int)-(b.toNat:Int)) % 256 / 2)) % 256=((M.swV r g b).toNat:Int):=by rw[←e_swV];omega
 rw[h,e_swM]
 have:=(M.swV r g b).toNat_lt;have:=(M.swM r b).toNat_lt
 unfold M.swY
 rw[UInt8.toNat_add,half_nat];omega
set_option maxHeartbeats 400000 in
theorem swap_any (r g b:UInt8) (w:World) :
  Calls Tryz.prog 149 #[.int .u8 r.toNat,.int .u8 g.toNat,.int .u8 b.toNat] w fun e w'=>
   e=.returned (.tuple #[.int .u8 (M.swY r g b).toNat,.int .u8 (M.swU r b).toNat,.int .u8 (M.swV r g b).toNat])∧w=w':=by
 go_enter Tryz.func149,Tryz.ntmps149
 go_wp2
 go_ret3
 exact ⟨by rw[←e_swY,←e_swU,←e_swV];rfl,rfl⟩
theorem fn1 (l u c:Int) (w:World):Calls Tryz.prog 180 #[.int .i64 l,.int .i64 u,.int .i64 c] w fun e w'=>e=.returned (.int .i64 0)∧w=w':=by
 go_enter Tryz.func180,Tryz.ntmps180
 go_wp2
 go_ret
 exact ⟨rfl,rfl⟩
theorem fn2 (l u c:Int) (w:World):Calls Tryz.prog 181 #[.int .i64 l,.int .i64 u,.int .i64 c] w fun e w'=>e=.returned (.int .i64 l)∧w=w':=by
 go_enter Tryz.func181,Tryz.ntmps181
 go_wp2
 go_ret
 exact ⟨rfl,rfl⟩
theorem fn3 (l u c:Int) (w:World):Calls Tryz.prog 182 #[.int .i64 l,.int .i64 u,.int .i64 c] w fun e w'=>e=.returned (.int .i64 u)∧w=w':=by
 go_enter Tryz.func182,Tryz.ntmps182
 go_wp2
 go_ret
 exact ⟨rfl,rfl⟩
theorem fn4 (l u c:Int) (w:World) (hl:0≤l∧l≤255) (hu:0≤u∧u≤255):Calls Tryz.prog 183 #[.int .i64 l,.int .i64 u,.int .i64 c] w fun e w'=>e=.returned (.int .i64 ((l+u) / 2))∧w=w':=by
 obtain ⟨l0,l1⟩:=hl
 obtain ⟨u0,u1⟩:=hu
 go_enter Tryz.func183,Tryz.ntmps183
 go_wp2
 go_ret
 exact ⟨rfl,rfl⟩
theorem fn6 (l u c:Int) (w:World) (hl:0≤l∧l≤255) (hu:0≤u∧u≤255) (hc:0≤c∧c≤255):Calls Tryz.prog 185 #[.int .i64 l,.int .i64 u,.int .i64 c] w fun e w'=>e=.returned (.int .i64 (M.median l u c))∧w=w':=by
 obtain ⟨l0,l1⟩:=hl
 obtain ⟨u0,u1⟩:=hu
 obtain ⟨c0,c1⟩:=hc
 go_enter Tryz.func185,Tryz.ntmps185
 go_wp2
 all_goals
  go_ret
  exact ⟨ret_int (by unfold M.median;(repeat split at *)<;>omega),rfl⟩
end
section
set_option maxHeartbeats 400000 in
theorem fn5 (l u c:Int) (w:World) (hl:0≤l∧l≤255) (hu:0≤u∧u≤255) (hc:0≤c∧c≤255):Calls Tryz.prog 184 #[.int .i64 l,.int .i64 u,.int .i64 c] w fun e w'=>e=.returned (.int .i64 (M.paeth l u c))∧w=w':=by
 obtain ⟨l0,l1⟩:=hl
 obtain ⟨u0,u1⟩:=hu
 obtain ⟨c0,c1⟩:=hc
 go_enter Tryz.func184,Tryz.ntmps184
 have i0:∀w,(Instr.index 54 (.agg #[.int .i64 l,.int .i64 u,.int .i64 c]) (.int .i64 0)).run Tryz.prog w=.ok (.int .i64 l) w:=fun _=>by kernel_rfl
 have i1:∀w,(Instr.index 54 (.agg #[.int .i64 l,.int .i64 u,.int .i64 c]) (.int .i64 1)).run Tryz.prog w=.ok (.int .i64 u) w:=fun _=>by kernel_rfl
 have i2:∀w,(Instr.index 54 (.agg #[.int .i64 l,.int .i64 u,.int .i64 c]) (.int .i64 2)).run Tryz.prog w=.ok (.int .i64 c) w:=fun _=>by kernel_rfl
 go_wp2
 refine wp_loop_rounds 4 ?_
 iterate 4 (any_goals (rw[rounds_succ];go_wp2_with fail))
 all_goals
  go_ret
  refine ⟨ret_int ?_,rfl⟩
  clear i0 i1 i2
  go_light
  unfold M.paeth M.dist
  (repeat split at *)<;>omega
end
section
def prC:Array Value:=#[.string ⟨#[110,111,110,101]⟩,.func (.func 180) #[] #[],.string ⟨#[108,101,102,116]⟩,.func (.func 181) #[] #[],.string ⟨#[117,112]⟩,.func (.func 182) #[] #[],
 .string ⟨#[97,118,101,114,97,103,101]⟩,.func (.func 183) #[] #[],.string ⟨#[112,97,101,116,104]⟩,.func (.func 184) #[] #[],.string ⟨#[109,101,100,105,97,110,32,101,100,103,101]⟩,.func (.func 185) #[] #[]]
theorem prC_at (k:Nat) (h:k<6):prC[k*2+1]? = some (.func (.func (180+k)) #[] #[]):=by
 match k,h with
 |0,_=>rfl
 |1,_=>rfl
 |2,_=>rfl
 |3,_=>rfl
 |4,_=>rfl
 |5,_=>rfl
theorem enter_fn (k:Nat) (h:k<6) (args:Array Value) (w:World):(callFunc (180+k) args).run Tryz.prog w=.ok (.enter (180+k) args) w:=by
 match k,h with
 |0,_=>show (callFunc 180 args).run Tryz.prog w=.ok (.enter 180 args) w;simp[callFunc,go_sem,Tryz.func180];rfl
 |1,_=>show (callFunc 181 args).run Tryz.prog w=.ok (.enter 181 args) w;simp[callFunc,go_sem,Tryz.func181];rfl
 |2,_=>show (callFunc 182 args).run Tryz.prog w=.ok (.enter 182 args) w;simp[callFunc,go_sem,Tryz.func182];rfl
 |3,_=>show (callFunc 183 args).run Tryz.prog w=.ok (.enter 183 args) w;simp[callFunc,go_sem,Tryz.func183];rfl
 |4,_=>show (callFunc 184 args).run Tryz.prog w=.ok (.enter 184 args) w;simp[callFunc,go_sem,Tryz.func184];rfl
 |5,_=>show (callFunc 185 args).run Tryz.prog w=.ok (.enter 185 args) w;simp[callFunc,go_sem,Tryz.func185];rfl
theorem fn_any (k:Nat) (h:k<6) (l u c:Int) (w:World) (hl:0≤l∧l≤255) (hu:0≤u∧u≤255) (hc:0≤c∧c≤255) :
  Calls Tryz.prog (180+k) #[.int .i64 l,.int .i64 u,.int .i64 c] w fun e w'=>e=.returned (.int .i64 (M.pred k l u c))∧w=w':=by
 match k,h with
 |0,_=>exact fn1 l u c w
 |1,_=>exact fn2 l u c w
 |2,_=>exact fn3 l u c w
 |3,_=>exact fn4 l u c w hl hu
 |4,_=>exact fn5 l u c w hl hu hc
 |5,_=>exact fn6 l u c w hl hu hc
theorem predictors_any (w:World):Calls Tryz.prog 150 #[] w fun e w'=>e=.returned (.slice (some ⟨w.heap.size,0,none⟩) 6 6)∧w.alloc (.cells prC 196)=w':=by
 go_enter Tryz.func150,Tryz.ntmps150
 go_wp2
 go_ret
 exact ⟨rfl,rfl⟩
theorem Predictors_any (w:World):Calls Tryz.prog 147 #[] w fun e w'=>e=.returned (.int .i64 6)∧Below w.heap.size w w':=by
 go_enter Tryz.func147,Tryz.ntmps147
 go_wp2_with fail
 refine (predictors_any _).mono ?_
 rintro e w' ⟨rfl,rfl⟩
 go_wp2_with fail
 go_ret
 exact ⟨rfl,(Below.refl _ _).alloc (Nat.le_refl _) _⟩
theorem at_any (b o g:Nat) (x:UInt8) (i:Nat) (hi:i<64) (w:World) (hg:w.cell? ⟨g,0,none⟩=some (.pointer (some ⟨b,o,none⟩))) (hp:w.cell? ⟨b,o+i,none⟩=some (.int .u8 x.toNat)) :
  Calls Tryz.prog 186 #[.int .i64 i,.pointer (some ⟨g,0,none⟩)] w fun e w'=>e=.returned (.int .i64 x.toNat)∧w=w':=by
 have hx:=x.toNat_lt
 go_enter Tryz.func186,Tryz.ntmps186
 go_wp2_with fail
 go_ret
 exact ⟨rfl,rfl⟩
theorem at_new (b o:Nat) (p:Nat→UInt8) (m:Nat) (n:Int) (hn:n=(m:Int)) (hm:m<64) (w:World) (hb:b<w.heap.size) (hp:w.cell? ⟨b,o+m,none⟩=some (.int .u8 (p m).toNat)) :
  Calls Tryz.prog 186 #[.int .i64 n,.pointer (some ⟨w.heap.size,0,none⟩)] (w.alloc (.cells #[.pointer (some ⟨b,o,none⟩)] 226)) fun e w'=>e=.returned (.int .i64 (p m).toNat)∧w.alloc (.cells #[.pointer (some ⟨b,o,none⟩)] 226)=w':=by
 subst hn
 refine at_any b o w.heap.size (p m) m hm _ ?_ ?_
 ·rw[World.cell?_alloc_mark];rfl
 ·rw[((Below.refl w.heap.size w).alloc (Nat.le_refl _) _).cell (p:=⟨b,o+m,none⟩) hb];exact hp
theorem gi0 (k:Nat) (hk:k<6) (p:Nat→UInt8) (w:World):Calls Tryz.prog (180+k) #[.int .i64 0,.int .i64 0,.int .i64 0] w fun e w'=>e=.returned (.int .i64 (M.gi k p 0))∧w=w':=
 fn_any k hk 0 0 0 w M.zero_in M.zero_in M.zero_in
theorem gi1 (k:Nat) (hk:k<6) (p:Nat→UInt8) (i:Nat) (h0:¬i=0) (h8:i<8) (w:World):Calls Tryz.prog (180+k) #[.int .i64 (p (i-1)).toNat,.int .i64 (p (i-1)).toNat,.int .i64 (p (i-1)).toNat] w fun e w'=>e=.returned (.int .i64 (M.gi k p i))∧w=w':=by
 have h:=fn_any k hk _ _ _ w (M.byte_in (p (i-1))) (M.byte_in (p (i-1))) (M.byte_in (p (i-1)))
 have e:M.pred k (p (i-1)).toNat (p (i-1)).toNat (p (i-1)).toNat=M.gi k p i:=by unfold M.gi M.nbL M.nbU M.nbC;simp only[h0,h8,if_true,if_false]
 rwa [e] at h
theorem gi2 (k:Nat) (hk:k<6) (p:Nat→UInt8) (i:Nat) (h8:¬i<8) (hm:i % 8=0) (w:World):Calls Tryz.prog (180+k) #[.int .i64 (p (i-8)).toNat,.int .i64 (p (i-8)).toNat,.int .i64 (p (i-8)).toNat] w fun e w'=>e=.returned (.int .i64 (M.gi k p i))∧w=w':=by
 have h:=fn_any k hk _ _ _ w (M.byte_in (p (i-8))) (M.byte_in (p (i-8))) (M.byte_in (p (i-8)))
 have h0:¬i=0:=by omega
 have e:M.pred k (p (i-8)).toNat (p (i-8)).toNat (p (i-8)).toNat=M.gi k p i:=by unfold M.gi M.nbL M.nbU M.nbC;simp only[h0,h8,hm,if_true,if_false]
 rwa [e] at h
theorem gi3 (k:Nat) (hk:k<6) (p:Nat→UInt8) (i:Nat) (h8:¬i<8) (hm:¬i % 8=0) (w:World):Calls Tryz.prog (180+k) #[.int .i64 (p (i-1)).toNat,.int .i64 (p (i-8)).toNat,.int .i64 (p (i-9)).toNat] w fun e w'=>e=.returned (.int .i64 (M.gi k p i))∧w=w':=by
 have h:=fn_any k hk _ _ _ w (M.byte_in (p (i-1))) (M.byte_in (p (i-8))) (M.byte_in (p (i-9)))
 have h0:¬i=0:=by omega
 have e:M.pred k (p (i-1)).toNat (p (i-8)).toNat (p (i-9)).toNat=M.gi k p i:=by unfold M.gi M.nbL M.nbU M.nbC;simp only[h0,h8,hm,if_false]
 rwa [e] at h
set_option maxRecDepth 100000 in
set_option maxHeartbeats 800000 in
theorem guess_any (k:Nat) (hk:k<6) (b o:Nat) (p:Nat→UInt8) (i:Nat) (hi:i<64) (w:World) (hb:b<w.heap.size) (hp:∀m,m<i→w.cell? ⟨b,o+m,none⟩=some (.int .u8 (p m).toNat)) :
  Calls Tryz.prog 151 #[.pointer (some ⟨b,o,none⟩),.int .i64 i,.func (.func (180+k)) #[] #[]] w fun e w'=>e=.returned (.int .u8 (M.gs k p i).toNat)∧Below w.heap.size w w':=by
 have hgv:=M.gs_val k p i
 have hgi:=M.gi_in k p i
 unfold M.InB at hgi
 obtain ⟨hg0,hg1⟩:=hgi
 have HG:=Lib.hid hgv
 clear hgv
 have HP:=Lib.hid hp
 clear hp
 have ef:=enter_fn k hk
 by_cases h0:i=0
 ·subst h0
  go_enter Tryz.func151,Tryz.ntmps151
  go_wp2_with fail
  refine (gi0 k hk p _).mono ?_
  rintro e w' ⟨rfl,rfl⟩
  go_wp2_with fail
  go_ret
  exact ⟨ret_int HG.out.symm,(Below.refl _ _).alloc (Nat.le_refl _) _⟩
 ·by_cases h8:i<8
  ·go_enter Tryz.func151,Tryz.ntmps151
   go_wp2_with fail
   refine (at_new b o p (i-1) _ (by omega) (by omega) w hb (HP.out _ (by omega))).mono ?_
   rintro e w' ⟨rfl,rfl⟩
   go_wp2_with fail
   refine (at_new b o p (i-1) _ (by omega) (by omega) w hb (HP.out _ (by omega))).mono ?_
   rintro e w' ⟨rfl,rfl⟩
   go_wp2_with fail
   refine (at_new b o p (i-1) _ (by omega) (by omega) w hb (HP.out _ (by omega))).mono ?_
   rintro e w' ⟨rfl,rfl⟩
   go_wp2_with fail
   refine (gi1 k hk p i h0 h8 _).mono ?_
   rintro e w' ⟨rfl,rfl⟩
   go_wp2_with fail
   go_ret
   exact ⟨ret_int HG.out.symm,(Below.refl _ _).alloc (Nat.le_refl _) _⟩
  ·by_cases hm:i % 8=0
   ·have hm8:(i:Int) % 8=0:=by omega
    go_enter Tryz.func151,Tryz.ntmps151
    go_wp2_with fail
    refine (at_new b o p (i-8) _ (by omega) (by omega) w hb (HP.out _ (by omega))).mono ?_
    rintro e w' ⟨rfl,rfl⟩
    go_wp2_with fail
    refine (gi2 k hk p i h8 hm _).mono ?_
    rintro e w' ⟨rfl,rfl⟩
    go_wp2_with fail
    go_ret
    exact ⟨ret_int HG.out.symm,(Below.refl _ _).alloc (Nat.le_refl _) _⟩
   ·have hm8:((i:Int) % 8==0)=false:=by simp;omega
    go_enter Tryz.func151,Tryz.ntmps151
    go_wp2_with fail
    refine (at_new b o p (i-1) _ (by omega) (by omega) w hb (HP.out _ (by omega))).mono ?_
    rintro e w' ⟨rfl,rfl⟩
    go_wp2_with fail
    refine (at_new b o p (i-8) _ (by omega) (by omega) w hb (HP.out _ (by omega))).mono ?_
    rintro e w' ⟨rfl,rfl⟩
    go_wp2_with fail
    refine (at_new b o p (i-9) _ (by omega) (by omega) w hb (HP.out _ (by omega))).mono ?_
    rintro e w' ⟨rfl,rfl⟩
    go_wp2_with fail
    refine (gi3 k hk p i h8 hm _).mono ?_
    rintro e w' ⟨rfl,rfl⟩
    go_wp2_with fail
    go_ret
    exact ⟨ret_int HG.out.symm,(Below.refl _ _).alloc (Nat.le_refl _) _⟩
end
section
theorem take_snoc (t:ByteArray) (j:Nat) (h:j<t.size):t.data.toList.take (j+1)=t.data.toList.take j++[t.data[j]]:=by
 rw[List.take_add_one,List.getElem?_eq_getElem (by simpa using h)];simp
theorem cost_snoc (t:ByteArray) (j:Nat) (h:j<t.size):M.cost (t.data.toList.take (j+1))=M.cost (t.data.toList.take j)+M.cb t.data[j]:=by
 rw[take_snoc t j h,M.cost_append];simp[M.cost]
theorem cost_take_le (t:ByteArray) (j:Nat):M.cost (t.data.toList.take j)≤128*j:=by
 have:=M.cost_le (t.data.toList.take j)
 have:(t.data.toList.take j).length≤j:=List.length_take_le _ _
 omega
theorem cb_go (n:Nat) (b:UInt8) (h:n≤1000000000000000000):wrap64 ((n:Int)+(if wrap64 (256-wrap64 (b.toNat:Int))<wrap64 (b.toNat:Int) then wrap64 (256-wrap64 (b.toNat:Int)) else wrap64 (b.toNat:Int)))=((n+M.cb b:Nat):Int):=by
 have:=b.toNat_lt
 rw[IntWalk.wrap64_in (b.toNat:Int) ⟨by omega,by omega⟩,IntWalk.wrap64_in (256-(b.toNat:Int)) ⟨by omega,by omega⟩]
 unfold M.cb
 split
 ·rw[IntWalk.wrap64_in _ ⟨by omega,by omega⟩];omega
 ·rw[IntWalk.wrap64_in _ ⟨by omega,by omega⟩];omega
set_option maxRecDepth 100000 in
set_option maxHeartbeats 400000 in
theorem cost_any (t:ByteArray) (w:World) (hs:t.size≤1000000000000000) (c:Int) (hc:c=(M.cost t.data.toList:Nat)) :
  Calls Tryz.prog 148 #[.string t] w fun e w'=>e=.returned (.int .i64 c)∧Below w.heap.size w w':=by
 have HC:=Lib.hid hc
 clear hc
 obtain ⟨W1,cap,hcb,hcap,hlie,hfree,hbW,hgW⟩:=conv_bytes w t
 go_enter Tryz.func148,Tryz.ntmps148
 go_wp2_with fail
 clear hcb
 have hlen:t.data.toList.length=t.size:=Array.length_toList
 clear hfree hgW
 go_loopw [3,9] (fun a i wr=>∃j:Nat,j≤t.size∧i=.int .i64 j∧a=.int .i64 ((M.cost (t.data.toList.take j):Nat):Int)∧Hid (wr=W1)) (fun a i _=>t.size-(intOf i).toNat)
 case atStart=>exact ⟨0,Nat.zero_le _,rfl,by rw[List.take_zero];rfl,rfl⟩
 case round=>
  obtain ⟨j,hj,rfl,rfl,HW⟩:=hrel
  have hle:=cost_take_le t j
  by_cases hlt:j<t.size
  ·have hi:j<t.data.toList.length:=by omega
   have f1:=hlie j hi
   rw[←HW.out] at f1
   have hb:=(t.data.toList[j]).toNat_lt
   have hsn:=Lib.hid (cost_snoc t j hlt)
   go_wp2_with fail
   all_goals
    go_roundw
    case rel=>
     refine ⟨j+1,by omega,by go_num,?_,HW⟩
     rw[hsn.out]
     exact congrArg (Value.int .i64) (cb_go _ _ (by omega))
    case measure=>simp[intOf];omega
  ·go_wp2_with fail
   go_ret
   have hje:j=t.size:=by omega
   rw[List.take_of_length_le (by omega)]
   rw[HW.out,HC.out]
   exact ⟨rfl,hbW⟩
theorem Tryz.info5:(Tryz.prog.info? 5).map (fun i=>(i.zero,i.size,i.bytes))=some (some (.int .u8 0),1,1):=by kernel_rfl
end
end Go.Proofs.YtpdckpifhniioaaGreat.Prd
end
