/- Part 9 of what CodecReads rests on. -/
import Derived.Deep.DeepCutAuto
import Derived.Deep.CutBlock
import Derived.Deep.LoopGhost
import Derived.Test.YtpdckpifhniioaaGreatPh
section
set_option linter.unusedVariables false
set_option linter.unusedSimpArgs false
namespace Go.Proofs.YtpdckpifhniioaaGreat.Cod
open Go.RowKit
open Go.Proofs.YtpdckpifhniioaaGreat
section
theorem own_grow {w x:World} {B:Nat} {v:Value} {n:Nat} {xs:List Value} (h:w.ownsRow B 5 1 v n xs) (hg:Grow w x):x.ownsRow B 5 1 v n xs:=by
 obtain ⟨h1,h2⟩:=h
 refine ⟨h1,h2.imp id ?_⟩
 rintro ⟨g,cap,cur,e1,e2,e3,e4⟩
 exact ⟨g,cap,cur,e1,e2,hg.block e3,e4⟩
section
variable {o:Oper} {ρ:Operand→Value} {x:World} {y:Operand}
theorem run_asg (v:Value) (ho:o.op=.assign y) (hy:ρ y=v):(execOp ρ o).run Tryz.prog x=.ok (.value v) x:=by
 unfold execOp;rw[ho];simp only[hy];go_simp
theorem run_faz (t:TypeId) (f k:Nat) (g i:Nat) (ho:o.op=.fieldAddr 232 y 0) (hy:ρ y=.pointer (some ⟨g,0,none⟩)) (_:True=True):(execOp ρ o).run Tryz.prog x=.ok (.value (.pointer (some ⟨g,0,none⟩))) x:=by
 unfold execOp;rw[ho];simp only[hy];go_simp
theorem run_faL (g:Nat) (ho:o.op=.fieldAddr 230 y 1) (hy:ρ y=.pointer (some ⟨g,0,none⟩)):(execOp ρ o).run Tryz.prog x=.ok (.value (.pointer (some ⟨g,256,none⟩))) x:=by
 unfold execOp;rw[ho];simp only[hy];go_simp
theorem run_ld32 (a:Addr) (n:Int) (ho:o.op=.load 110 y) (hy:ρ y=.pointer (some a)) (hc:x.cell? a=some (.int .u32 n)):(execOp ρ o).run Tryz.prog x=.ok (.value (.int .u32 n)) x:=by
 unfold execOp;rw[ho];simp only[hy];go_simp
theorem run_shr24 (n:Int) (h0:0≤n) {t:TypeId} (ho:o.op=.binOp .shr 110 y (.const (.int .u64 24)) t) (hy:ρ y=.int .u32 n) (hk:∀v,ρ (.const v)=v:=by intro v;rfl):(execOp ρ o).run Tryz.prog x=.ok (.value (.int .u32 (n / 16777216))) x:=by
 unfold execOp;rw[ho];simp only[hy,hk];go_simp
theorem run_shr16 (n:Int) (h0:0≤n) {t:TypeId} (ho:o.op=.binOp .shr 110 y (.const (.int .u64 16)) t) (hy:ρ y=.int .u32 n) (hk:∀v,ρ (.const v)=v:=by intro v;rfl):(execOp ρ o).run Tryz.prog x=.ok (.value (.int .u32 (n / 65536))) x:=by
 unfold execOp;rw[ho];simp only[hy,hk];go_simp
theorem run_shr8 (n:Int) (h0:0≤n) {t:TypeId} (ho:o.op=.binOp .shr 110 y (.const (.int .u64 8)) t) (hy:ρ y=.int .u32 n) (hk:∀v,ρ (.const v)=v:=by intro v;rfl):(execOp ρ o).run Tryz.prog x=.ok (.value (.int .u32 (n / 256))) x:=by
 unfold execOp;rw[ho];simp only[hy,hk];go_simp
theorem u8_of_int (n:Int) (h0:0≤n):IntKind.u8.wrap n=((UInt8.ofNat n.toNat).toNat:Int):=by
 rw[M.ofNat_val,IntKind.wrap_u8];omega
theorem run_cv8 (n:Int) (h0:0≤n) (h1:n≤4294967295) (ho:o.op=.convert 110 5 y) (hy:ρ y=.int .u32 n):(execOp ρ o).run Tryz.prog x=.ok (.value (.int .u8 ((UInt8.ofNat n.toNat).toNat:Int))) x:=by
 rw[←u8_of_int n h0]
 unfold execOp;rw[ho];simp only[hy];go_simp
theorem run_cvo (B:Nat) (so:Option Addr) (sc:Nat) (l:List UInt8) (ho:o.op=.convert 57 9 y) (hy:ρ y=.slice so l.length sc) (h:x.ownsRow B 5 1 (.slice so l.length sc) l.length (bvals l)):(execOp ρ o).run Tryz.prog x=.ok (.value (.string ⟨l.toArray⟩)) x:=by
 have hc:=conv_own (P:=Tryz.prog) x 57 9 5 Tryz.underlying57 Tryz.underlying5 Tryz.underlying9 B _ _ l h
 unfold execOp;rw[ho];simp only[hy]
 simp[hc,Result.andThen]
theorem run_cv4 (l:List UInt8) (h4:l.length=4) (b:Nat) (ho:o.op=.convert 57 9 y) (hy:ρ y=.slice (some ⟨b,0,none⟩) 4 4) (hb:x.heap[b]? = some (.cells (bvals l).toArray 5 (0,0))):(execOp ρ o).run Tryz.prog x=.ok (.value (.string ⟨l.toArray⟩)) x:=by
 have h:=conv_row (P:=Tryz.prog) x 57 9 5 Tryz.underlying57 Tryz.underlying5 Tryz.underlying9 b 5 (0,0) _ hb 0 4 4 l h4 (fun j hj=>by
  simp[bvals,hj])
 unfold execOp;rw[ho];simp only[hy]
 simp[h,Result.andThen]
theorem run_bs4 (a b c d:Int) {y1 y2 y3 y4:Operand} (ho:o.op=.buildSlice 57 4 #[(0,y1),(1,y2),(2,y3),(3,y4)]) (h1:ρ y1=.int .u8 a) (h2:ρ y2=.int .u8 b) (h3:ρ y3=.int .u8 c) (h4:ρ y4=.int .u8 d):(execOp ρ o).run Tryz.prog x=.ok (.value (.slice (some ⟨x.heap.size,0,none⟩) 4 4)) (x.alloc (.cells #[.int .u8 a,.int .u8 b,.int .u8 c,.int .u8 d] 5)):=by
 unfold execOp;rw[ho];simp[h1,h2,h3,h4];go_simp
theorem run_adds {y1 y2:Operand} (s t:ByteArray) (ho:o.op=.binOp .add 9 y1 y2 9) (h1:ρ y1=.string s) (h2:ρ y2=.string t) (hl:s.size+t.size≤1000000000):(execOp ρ o).run Tryz.prog x=.ok (.value (.string (s++t))) x:=by
 have hm:s.size+t.size≤9223372036854775807:=by omega
 unfold execOp;rw[ho];simp only[h1,h2];go_simp
end
def BT (g:Nat) (lo:Int) (l:List UInt8) (so:Option Addr) (sc:Nat) (i:Nat) (v:Value) (x:World):Prop:=
 match i with
 |0=>v=(.pointer (some ⟨g,0,none⟩))
 |1=>v=(.pointer (some ⟨g,0,none⟩))
 |2=>v=(.pointer (some ⟨g,258,none⟩))
 |3=>v=(.slice so l.length sc)
 |4=>v=(.string ⟨l.toArray⟩)
 |5=>v=(.pointer (some ⟨g,0,none⟩))
 |6=>v=(.pointer (some ⟨g,0,none⟩))
 |7=>v=(.pointer (some ⟨g,0,none⟩))
 |8=>v=(.pointer (some ⟨g,256,none⟩))
 |9=>v=(.int .u32 lo)
 |10=>v=(.int .u32 (lo / 16777216))
 |11=>v=(.int .u8 ((UInt8.ofNat (lo / 16777216).toNat).toNat:Int))
 |12=>v=(.pointer (some ⟨g,0,none⟩))
 |13=>v=(.pointer (some ⟨g,0,none⟩))
 |14=>v=(.pointer (some ⟨g,0,none⟩))
 |15=>v=(.pointer (some ⟨g,256,none⟩))
 |16=>v=(.int .u32 lo)
 |17=>v=(.int .u32 (lo / 65536))
 |18=>v=(.int .u8 ((UInt8.ofNat (lo / 65536).toNat).toNat:Int))
 |19=>v=(.pointer (some ⟨g,0,none⟩))
 |20=>v=(.pointer (some ⟨g,0,none⟩))
 |21=>v=(.pointer (some ⟨g,0,none⟩))
 |22=>v=(.pointer (some ⟨g,256,none⟩))
 |23=>v=(.int .u32 lo)
 |24=>v=(.int .u32 (lo / 256))
 |25=>v=(.int .u8 ((UInt8.ofNat (lo / 256).toNat).toNat:Int))
 |26=>v=(.pointer (some ⟨g,0,none⟩))
 |27=>v=(.pointer (some ⟨g,0,none⟩))
 |28=>v=(.pointer (some ⟨g,0,none⟩))
 |29=>v=(.pointer (some ⟨g,256,none⟩))
 |30=>v=(.int .u32 lo)
 |31=>v=(.int .u8 ((UInt8.ofNat lo.toNat).toNat:Int))
 |32=>∃b,v=.slice (some ⟨b,0,none⟩) 4 4∧x.heap[b]? = some (.cells (bvals (M.be4 lo)).toArray 5 (0,0))
 |33=>v=(.string ⟨(M.be4 lo).toArray⟩)
 |34=>v=(.string (⟨l.toArray⟩++⟨(M.be4 lo).toArray⟩))
 |35=>v=(.string (⟨l.toArray⟩++⟨(M.be4 lo).toArray⟩))
 |_=>True
set_option maxRecDepth 100000 in
set_option maxHeartbeats 8000000 in
theorem bytes_w (B g:Nat) (s:M.St) (hs:M.Ok s) (X:Nat→Value) (l:List UInt8) (w:World)
  (hB:Blk w g 232 259 (cc s.p s.lo (4294967295-s.hi) X)) (hown:w.ownsRow B 5 1 (X 258) l.length (bvals l)) (hl:l.length≤100000000) :
  Calls Tryz.prog 157 #[.pointer (some ⟨g,0,none⟩)] w fun e w'=>e=.returned (.string ⟨(l++M.be4 s.lo).toArray⟩)∧Grow w w':=by
 have h0:=hs.lo
 have h1:s.lo≤4294967295:=by have:=hs.le;have:=hs.hi;omega
 have c6:w.cell? ⟨g,256,none⟩=some (.int .u32 s.lo):=by rw[hB.cell 256 (by omega),cc_lo]
 obtain ⟨so,sc,hv⟩:=own_mem hown
 have c8:w.cell? ⟨g,258,none⟩=some (.slice so l.length sc):=by rw[hB.cell 258 (by omega),cc_x 258 (by omega),hv]
 rw[hv] at hown
 clear hB hs
 generalize s.lo=lo at *
 have hsz:(⟨l.toArray⟩:ByteArray).size+(⟨(M.be4 lo).toArray⟩:ByteArray).size≤1000000000:=by
  show l.toArray.size+4≤_
  simp;omega
 have hres:(⟨l.toArray⟩:ByteArray)++⟨(M.be4 lo).toArray⟩=⟨(l++M.be4 lo).toArray⟩:=by
  apply ByteArray.ext;simp[ByteArray.data_append]
 go_enter Tryz.func157,Tryz.ntmps157
 go_upto_region 3 with fail
 refine wp_region_growL ?lit ?hlit (by kernel_rfl) (by kernel_rfl) (by kernel_rfl) (by kernel_rfl) (BT g lo l so sc) ?_ ?_
 case hlit=>
  intro u
  simp only[fill,Act.put,Nat.zero_add,Nat.reduceAdd,List.setIfInBounds_toArray,List.set_cons_zero,List.set_cons_succ]
  rfl
 ·intro i o ho u x hx hd
  have hi:i<36:=(List.getElem?_eq_some_iff.1 ho).1
  replace hx:Grow w x:=hx
  obtain rfl|rfl|rfl|rfl|rfl|rfl|rfl|rfl|rfl|rfl|rfl|rfl|rfl|rfl|rfl|rfl|rfl|rfl|rfl|rfl|rfl|rfl|rfl|rfl|rfl|rfl|rfl|rfl|rfl|rfl|rfl|rfl|rfl|rfl|rfl|rfl:i=0∨i=1∨i=2∨i=3∨i=4∨i=5∨i=6∨i=7∨i=8∨i=9∨i=10∨i=11∨i=12∨i=13∨i=14∨i=15∨i=16∨i=17∨i=18∨i=19∨i=20∨i=21∨i=22∨i=23∨i=24∨i=25∨i=26∨i=27∨i=28∨i=29∨i=30∨i=31∨i=32∨i=33∨i=34∨i=35:=by omega
  ·simp only[List.getElem?_cons_zero,Option.some.injEq] at ho;subst ho
   exact gw_val (run_mv _ rfl rfl) (Grow.refl _) (Al.of rfl)
  ·simp only[List.getElem?_cons_succ,List.getElem?_cons_zero,Option.some.injEq] at ho;subst ho
   have e1:u 0=(.pointer (some ⟨g,0,none⟩)):=hd 0 (by kernel_rfl)
   exact gw_val (run_nil _ rfl e1) (Grow.refl _) (Al.of rfl)
  ·simp only[List.getElem?_cons_succ,List.getElem?_cons_zero,Option.some.injEq] at ho;subst ho
   have e1:u 1=(.pointer (some ⟨g,0,none⟩)):=hd 1 (by kernel_rfl)
   exact gw_val (run_fa1 g rfl e1) (Grow.refl _) (Al.of rfl)
  ·simp only[List.getElem?_cons_succ,List.getElem?_cons_zero,Option.some.injEq] at ho;subst ho
   have e1:u 2=(.pointer (some ⟨g,258,none⟩)):=hd 2 (by kernel_rfl)
   exact gw_val (run_loads _ _ _ _ rfl e1 (hx.cell c8)) (Grow.refl _) (Al.of rfl)
  ·simp only[List.getElem?_cons_succ,List.getElem?_cons_zero,Option.some.injEq] at ho;subst ho
   have e1:u 3=(.slice so l.length sc):=hd 3 (by kernel_rfl)
   exact gw_val (run_cvo B so sc l rfl e1 (own_grow hown hx)) (Grow.refl _) (Al.of rfl)
  ·simp only[List.getElem?_cons_succ,List.getElem?_cons_zero,Option.some.injEq] at ho;subst ho
   exact gw_val (run_mv _ rfl rfl) (Grow.refl _) (Al.of rfl)
  ·simp only[List.getElem?_cons_succ,List.getElem?_cons_zero,Option.some.injEq] at ho;subst ho
   have e1:u 5=(.pointer (some ⟨g,0,none⟩)):=hd 5 (by kernel_rfl)
   exact gw_val (run_nil _ rfl e1) (Grow.refl _) (Al.of rfl)
  ·simp only[List.getElem?_cons_succ,List.getElem?_cons_zero,Option.some.injEq] at ho;subst ho
   have e1:u 6=(.pointer (some ⟨g,0,none⟩)):=hd 6 (by kernel_rfl)
   exact gw_val (run_faz 232 0 0 g 0 rfl e1 (by kernel_rfl)) (Grow.refl _) (Al.of rfl)
  ·simp only[List.getElem?_cons_succ,List.getElem?_cons_zero,Option.some.injEq] at ho;subst ho
   have e1:u 7=(.pointer (some ⟨g,0,none⟩)):=hd 7 (by kernel_rfl)
   exact gw_val (run_faL g rfl e1) (Grow.refl _) (Al.of rfl)
  ·simp only[List.getElem?_cons_succ,List.getElem?_cons_zero,Option.some.injEq] at ho;subst ho
   have e1:u 8=(.pointer (some ⟨g,256,none⟩)):=hd 8 (by kernel_rfl)
   exact gw_val (run_ld32 _ _ rfl e1 (hx.cell c6)) (Grow.refl _) (Al.of rfl)
  ·simp only[List.getElem?_cons_succ,List.getElem?_cons_zero,Option.some.injEq] at ho;subst ho
   have e1:u 9=(.int .u32 lo):=hd 9 (by kernel_rfl)
   exact gw_val (run_shr24 lo h0 rfl e1) (Grow.refl _) (Al.of rfl)
  ·simp only[List.getElem?_cons_succ,List.getElem?_cons_zero,Option.some.injEq] at ho;subst ho
   have e1:u 10=(.int .u32 (lo / 16777216)):=hd 10 (by kernel_rfl)
   exact gw_val (run_cv8 (lo / 16777216) (by omega) (by omega) rfl e1) (Grow.refl _) (Al.of rfl)
  ·simp only[List.getElem?_cons_succ,List.getElem?_cons_zero,Option.some.injEq] at ho;subst ho
   exact gw_val (run_mv _ rfl rfl) (Grow.refl _) (Al.of rfl)
  ·simp only[List.getElem?_cons_succ,List.getElem?_cons_zero,Option.some.injEq] at ho;subst ho
   have e1:u 12=(.pointer (some ⟨g,0,none⟩)):=hd 12 (by kernel_rfl)
   exact gw_val (run_nil _ rfl e1) (Grow.refl _) (Al.of rfl)
  ·simp only[List.getElem?_cons_succ,List.getElem?_cons_zero,Option.some.injEq] at ho;subst ho
   have e1:u 13=(.pointer (some ⟨g,0,none⟩)):=hd 13 (by kernel_rfl)
   exact gw_val (run_faz 232 0 0 g 0 rfl e1 (by kernel_rfl)) (Grow.refl _) (Al.of rfl)
  ·simp only[List.getElem?_cons_succ,List.getElem?_cons_zero,Option.some.injEq] at ho;subst ho
   have e1:u 14=(.pointer (some ⟨g,0,none⟩)):=hd 14 (by kernel_rfl)
   exact gw_val (run_faL g rfl e1) (Grow.refl _) (Al.of rfl)
  ·simp only[List.getElem?_cons_succ,List.getElem?_cons_zero,Option.some.injEq] at ho;subst ho
   have e1:u 15=(.pointer (some ⟨g,256,none⟩)):=hd 15 (by kernel_rfl)
   exact gw_val (run_ld32 _ _ rfl e1 (hx.cell c6)) (Grow.refl _) (Al.of rfl)
  ·simp only[List.getElem?_cons_succ,List.getElem?_cons_zero,Option.some.injEq] at ho;subst ho
   have e1:u 16=(.int .u32 lo):=hd 16 (by kernel_rfl)
   exact gw_val (run_shr16 lo h0 rfl e1) (Grow.refl _) (Al.of rfl)
  ·simp only[List.getElem?_cons_succ,List.getElem?_cons_zero,Option.some.injEq] at ho;subst ho
   have e1:u 17=(.int .u32 (lo / 65536)):=hd 17 (by kernel_rfl)
   exact gw_val (run_cv8 (lo / 65536) (by omega) (by omega) rfl e1) (Grow.refl _) (Al.of rfl)
  ·simp only[List.getElem?_cons_succ,List.getElem?_cons_zero,Option.some.injEq] at ho;subst ho
   exact gw_val (run_mv _ rfl rfl) (Grow.refl _) (Al.of rfl)
  ·simp only[List.getElem?_cons_succ,List.getElem?_cons_zero,Option.some.injEq] at ho;subst ho
   have e1:u 19=(.pointer (some ⟨g,0,none⟩)):=hd 19 (by kernel_rfl)
   exact gw_val (run_nil _ rfl e1) (Grow.refl _) (Al.of rfl)
  ·simp only[List.getElem?_cons_succ,List.getElem?_cons_zero,Option.some.injEq] at ho;subst ho
   have e1:u 20=(.pointer (some ⟨g,0,none⟩)):=hd 20 (by kernel_rfl)
   exact gw_val (run_faz 232 0 0 g 0 rfl e1 (by kernel_rfl)) (Grow.refl _) (Al.of rfl)
  ·simp only[List.getElem?_cons_succ,List.getElem?_cons_zero,Option.some.injEq] at ho;subst ho
   have e1:u 21=(.pointer (some ⟨g,0,none⟩)):=hd 21 (by kernel_rfl)
   exact gw_val (run_faL g rfl e1) (Grow.refl _) (Al.of rfl)
  ·simp only[List.getElem?_cons_succ,List.getElem?_cons_zero,Option.some.injEq] at ho;subst ho
   have e1:u 22=(.pointer (some ⟨g,256,none⟩)):=hd 22 (by kernel_rfl)
   exact gw_val (run_ld32 _ _ rfl e1 (hx.cell c6)) (Grow.refl _) (Al.of rfl)
  ·simp only[List.getElem?_cons_succ,List.getElem?_cons_zero,Option.some.injEq] at ho;subst ho
   have e1:u 23=(.int .u32 lo):=hd 23 (by kernel_rfl)
   exact gw_val (run_shr8 lo h0 rfl e1) (Grow.refl _) (Al.of rfl)
  ·simp only[List.getElem?_cons_succ,List.getElem?_cons_zero,Option.some.injEq] at ho;subst ho
   have e1:u 24=(.int .u32 (lo / 256)):=hd 24 (by kernel_rfl)
   exact gw_val (run_cv8 (lo / 256) (by omega) (by omega) rfl e1) (Grow.refl _) (Al.of rfl)
  ·simp only[List.getElem?_cons_succ,List.getElem?_cons_zero,Option.some.injEq] at ho;subst ho
   exact gw_val (run_mv _ rfl rfl) (Grow.refl _) (Al.of rfl)
  ·simp only[List.getElem?_cons_succ,List.getElem?_cons_zero,Option.some.injEq] at ho;subst ho
   have e1:u 26=(.pointer (some ⟨g,0,none⟩)):=hd 26 (by kernel_rfl)
   exact gw_val (run_nil _ rfl e1) (Grow.refl _) (Al.of rfl)
  ·simp only[List.getElem?_cons_succ,List.getElem?_cons_zero,Option.some.injEq] at ho;subst ho
   have e1:u 27=(.pointer (some ⟨g,0,none⟩)):=hd 27 (by kernel_rfl)
   exact gw_val (run_faz 232 0 0 g 0 rfl e1 (by kernel_rfl)) (Grow.refl _) (Al.of rfl)
  ·simp only[List.getElem?_cons_succ,List.getElem?_cons_zero,Option.some.injEq] at ho;subst ho
   have e1:u 28=(.pointer (some ⟨g,0,none⟩)):=hd 28 (by kernel_rfl)
   exact gw_val (run_faL g rfl e1) (Grow.refl _) (Al.of rfl)
  ·simp only[List.getElem?_cons_succ,List.getElem?_cons_zero,Option.some.injEq] at ho;subst ho
   have e1:u 29=(.pointer (some ⟨g,256,none⟩)):=hd 29 (by kernel_rfl)
   exact gw_val (run_ld32 _ _ rfl e1 (hx.cell c6)) (Grow.refl _) (Al.of rfl)
  ·simp only[List.getElem?_cons_succ,List.getElem?_cons_zero,Option.some.injEq] at ho;subst ho
   have e1:u 30=(.int .u32 lo):=hd 30 (by kernel_rfl)
   exact gw_val (run_cv8 lo (by omega) (by omega) rfl e1) (Grow.refl _) (Al.of rfl)
  ·simp only[List.getElem?_cons_succ,List.getElem?_cons_zero,Option.some.injEq] at ho;subst ho
   have e1:u 11=(.int .u8 ((UInt8.ofNat (lo / 16777216).toNat).toNat:Int)):=hd 11 (by kernel_rfl)
   have e2:u 18=(.int .u8 ((UInt8.ofNat (lo / 65536).toNat).toNat:Int)):=hd 18 (by kernel_rfl)
   have e3:u 25=(.int .u8 ((UInt8.ofNat (lo / 256).toNat).toNat:Int)):=hd 25 (by kernel_rfl)
   have e4:u 31=(.int .u8 ((UInt8.ofNat lo.toNat).toNat:Int)):=hd 31 (by kernel_rfl)
   exact gw_val (run_bs4 _ _ _ _ rfl e1 e2 e3 e4) (Grow.alloc _ _) (fun y gy=>⟨_,rfl,gy.block (heap_alloc_new _ _)⟩)
  ·simp only[List.getElem?_cons_succ,List.getElem?_cons_zero,Option.some.injEq] at ho;subst ho
   obtain ⟨bk,e1,e2⟩:=hd 32 (by kernel_rfl)
   exact gw_val (run_cv4 (M.be4 lo) rfl bk rfl e1 e2) (Grow.refl _) (Al.of rfl)
  ·simp only[List.getElem?_cons_succ,List.getElem?_cons_zero,Option.some.injEq] at ho;subst ho
   have e1:u 4=(.string ⟨l.toArray⟩):=hd 4 (by kernel_rfl)
   have e2:u 33=(.string ⟨(M.be4 lo).toArray⟩):=hd 33 (by kernel_rfl)
   exact gw_val (run_adds _ _ rfl e1 e2 hsz) (Grow.refl _) (Al.of rfl)
  ·simp only[List.getElem?_cons_succ,List.getElem?_cons_zero,Option.some.injEq] at ho;subst ho
   have e1:u 34=(.string (⟨l.toArray⟩++⟨(M.be4 lo).toArray⟩)):=hd 34 (by kernel_rfl)
   exact gw_val (run_asg _ rfl e1) (Grow.refl _) (Al.of rfl)
 ·intro u x hx hd
  replace hx:Grow w x:=hx
  have e2:u 35=(.string (⟨l.toArray⟩++⟨(M.be4 lo).toArray⟩)):=hd 35 (by decide)
  rw[hres] at e2
  clear hd
  simp only[e2]
  go_wp2
  go_ret
  exact ⟨rfl,hx⟩
end
section
theorem Tryz.zero232 (w:World):(zeroValue 232).run Tryz.prog w=.ok (.agg (cv 259 (cc M.start.p M.start.lo (4294967295-M.start.hi) (fun _=>.slice none 0 0)))) w:=by kernel_rfl
set_option maxRecDepth 100000 in
set_option maxHeartbeats 1000000 in
theorem newWriter_any (w:World):Calls Tryz.prog 153 #[] w fun e w'=>e=.returned (.pointer (some ⟨w.heap.size,0,none⟩))∧w'=w.alloc (.cells (cv 259 (cc M.start.p M.start.lo (4294967295-M.start.hi) (fun _=>.slice none 0 0))) 232):=by
 have hz:=Tryz.zero232
 generalize cv 259 (cc M.start.p M.start.lo (4294967295-M.start.hi) (fun _=>.slice none 0 0))=Z at *
 go_enter Tryz.func153,Tryz.ntmps153
 go_wp2
 go_ret
 exact ⟨rfl,rfl⟩
end
end Go.Proofs.YtpdckpifhniioaaGreat.Cod
end
section
set_option linter.unusedVariables false
set_option linter.unusedSimpArgs false
namespace Go.Proofs.YtpdckpifhniioaaGreat.Cod
open Go.RowKit
open Go.Proofs.YtpdckpifhniioaaGreat
section
def vv (F:List UInt8):Nat→Int
 |0=>0
 |n+1=>vv F n*256 % 4294967296+M.at' F n
theorem vv_bd (F:List UInt8):∀n,0≤vv F n∧vv F n≤4294967295
 |0=>by simp[vv]
 |n+1=>by
  have:=M.at_bd F n
  show 0≤vv F n*256 % 4294967296+M.at' F n∧vv F n*256 % 4294967296+M.at' F n≤4294967295
  omega
theorem vv_val (F:List UInt8):∀n,vv F (n+4)=M.val F n
 |0=>by
  have:=M.at_bd F 0
  have:=M.at_bd F 1
  have:=M.at_bd F 2
  have:=M.at_bd F 3
  show (((0*256 % 4294967296+M.at' F 0)*256 % 4294967296+M.at' F 1)*256 % 4294967296+M.at' F 2)*256 % 4294967296+M.at' F 3=M.at' F 0*16777216+M.at' F 1*65536+M.at' F 2*256+M.at' F 3
  omega
 |n+1=>by
  rw[M.val_next,←vv_val F n];rfl
def RX (f:ByteArray) (n:Nat):Nat→Value:=fun i=>if i=258 then .string f else if i=259 then .int .i64 (n:Int) else .int .u32 (vv f.data.toList n)
theorem or_byte (v b:Int) (h0:0≤v) (h1:v≤4294967295) (b0:0≤b) (b1:b≤255):bits .or .u32 (v*256 % 4294967296) b=v*256 % 4294967296+b:=by
 obtain ⟨k,hk⟩:∃k:Nat,v % 16777216=k:=⟨(v % 16777216).toNat,by omega⟩
 obtain ⟨c,rfl⟩:∃c:Nat,b=c:=⟨b.toNat,by omega⟩
 have e:v*256 % 4294967296=((k*256:Nat):Int):=by omega
 have hb:k*256<4294967296:=by omega
 rw[e]
 have h:=u32_or_nat (k*256) c (by omega) (by omega)
 rw[h]
 have:k*256 ||| c=k*256+c:=by
  have:=Nat.shiftLeft_add_eq_or_of_lt (show c<2 ^ 8 by omega) k
  rw[Nat.shiftLeft_eq] at this
  exact this.symm
 rw[this];omega
set_option maxRecDepth 100000 in
set_option maxHeartbeats 1000000 in
theorem rnext (g:Nat) (f:ByteArray) (n:Nat) (p:Nat→Int) (lo en b:Int) (w:World) (hB:Blk w g 259 261 (cc p lo en (RX f n))) (hn:n≤1000000000000) (hf:f.size≤1000000000000000) :
  Calls Tryz.prog 207 #[.pointer (some ⟨g,0,none⟩),.int .u8 b] w fun e w'=>e=.returned (.tuple #[])∧Blk w' g 259 261 (cc p lo en (RX f (n+1)))∧Chg g none w w':=by
 obtain ⟨v0,v1⟩:=vv_bd f.data.toList n
 have c8:w.cell? ⟨g,258,none⟩=some (.string f):=hB.cell 258 (by omega)
 have c9:w.cell? ⟨g,259,none⟩=some (.int .i64 (n:Int)):=hB.cell 259 (by omega)
 have c10:w.cell? ⟨g,260,none⟩=some (.int .u32 (vv f.data.toList n)):=hB.cell 260 (by omega)
 have fr:=fun i=>hB.free i
 have HB:=Lib.hid hB
 clear hB
 go_enter Tryz.func207,Tryz.ntmps207
 go_upto_region 1 with fail
 have h1:=HB.out.set 260 (.int .u32 (vv f.data.toList n*256 % 4294967296))
 have hC1:=(Chg.refl g none w).set 260 (.int .u32 (vv f.data.toList n*256 % 4294967296))
 generalize w.setCell ⟨g,260,none⟩ (.int .u32 (vv f.data.toList n*256 % 4294967296))=W1 at *
 rw[cc_put_x 260 (by omega)] at h1
 replace c8:W1.cell? ⟨g,258,none⟩=some (.string f):=h1.cell 258 (by omega)
 replace c9:W1.cell? ⟨g,259,none⟩=some (.int .i64 (n:Int)):=h1.cell 259 (by omega)
 replace c10:W1.cell? ⟨g,260,none⟩=some (.int .u32 (vv f.data.toList n*256 % 4294967296)):=h1.cell 260 (by omega)
 replace fr:=fun i=>h1.free i
 replace HB:=Lib.hid h1
 have HC:=Lib.hid hC1
 clear h1 hC1
 refine q_region (C:=fun x=>∃n,x=W1.drewN n) (by kernel_rfl) (by kernel_rfl) ⟨1,rfl⟩ ?_
 repeat (first
  |go_big_quiet_skip
  |(go_big_quiet_want;refine q_val ?_;apply Exists.intro;refine ⟨fun x hx=>?_,?_⟩;(focus (obtain ⟨n,rfl⟩:=hx;go_simp<;>rfl));simp only[Act.put,List.setIfInBounds_toArray,List.set_cons_zero,List.set_cons_succ];go_big_quiet_on))
 refine wpQuiet_nil ?_
 rintro x ⟨nn,rfl⟩
 go_upto_if 20 with fail
 replace HB:=Lib.hid (show Blk (W1.drewN nn) _ _ _ _ from HB.out)
 replace HC:=Lib.hid (show Chg g none w (W1.drewN nn) from ⟨HC.out.os,HC.out.tape,HC.out.output,HC.out.size,HC.out.block⟩)
 replace c8:(W1.drewN nn).cell? ⟨g,258,none⟩=some (.string f):=c8
 replace c9:(W1.drewN nn).cell? ⟨g,259,none⟩=some (.int .i64 (n:Int)):=c9
 replace c10:(W1.drewN nn).cell? ⟨g,260,none⟩=some (.int .u32 (vv f.data.toList n*256 % 4294967296)):=c10
 replace fr:∀i,(W1.drewN nn).frozen? ⟨g,i,none⟩=false:=fr
 generalize W1.drewN nn=W2 at *
 go_cut [20] (fun _ wx=>Blk wx g 259 261 (cc p lo en (vput (vput (RX f n) 260 (.int .u32 (vv f.data.toList n*256 % 4294967296))) 260 (.int .u32 (vv f.data.toList (n+1)))))∧Chg g none w wx)
 case first=>
  by_cases hlt:n<f.size
  ·go_upto_region 2 with fail
   refine wp_region_lastB2 (C:=fun x=>∃n,x=W2.drewN n) rfl (by kernel_rfl) (by kernel_rfl) (by kernel_rfl) (by kernel_rfl) rfl rfl ⟨1,rfl⟩ ?_
   simp only[lastOp,List.dropLast,List.cons_append,List.nil_append]
   repeat (first
    |go_big_quiet_skip
    |(go_big_quiet_want;refine q_val ?_;apply Exists.intro;refine ⟨fun x hx=>?_,?_⟩;(focus (obtain ⟨n,rfl⟩:=hx;go_simp<;>rfl));simp only[Act.put,List.setIfInBounds_toArray,List.set_cons_zero,List.set_cons_succ];go_big_quiet_on))
   refine wpQuiet_nil ?_
   rintro x ⟨mm,rfl⟩
   have hby:(f[n].toNat:Int)=M.at' f.data.toList n:=by
    unfold M.at'
    rw[List.getD_eq_getElem?_getD]
    have:f.data.toList[n]? = some f[n]:=by
     rw[Array.getElem?_toList,Array.getElem?_eq_getElem hlt];rfl
    rw[this];rfl
   have hb:=M.at_bd f.data.toList n
   rw[hby]
   have hwr:IntKind.u32.wrap (M.at' f.data.toList n)=M.at' f.data.toList n:=w32 _ (by omega) (by omega)
   have hor:=or_byte (vv f.data.toList n) (M.at' f.data.toList n) v0 v1 hb.1 hb.2
   rw[hwr,hor]
   have hvv:vv f.data.toList n*256 % 4294967296+M.at' f.data.toList n=vv f.data.toList (n+1):=rfl
   rw[hvv]
   replace c10:(W2.drewN mm).cell? ⟨g,260,none⟩=some (.int .u32 (vv f.data.toList n*256 % 4294967296)):=c10
   have fr2:∀i,(W2.drewN mm).frozen? ⟨g,i,none⟩=false:=fr
   have HB3:=Lib.hid (Blk.set (show Blk (W2.drewN mm) _ _ _ _ from HB.out) 260 (.int .u32 (vv f.data.toList (n+1))))
   have HC3:=Lib.hid (Chg.set (show Chg g none w (W2.drewN mm) from ⟨HC.out.os,HC.out.tape,HC.out.output,HC.out.size,HC.out.block⟩) 260 (.int .u32 (vv f.data.toList (n+1))))
   clear hby hwr hor hvv
   generalize vv f.data.toList (n+1)=vn at *
   generalize W2.drewN mm=W3 at *
   go_wp2
   go_meet
   exact ⟨by rw[←cc_put_x 260 (by omega)];exact HB3.out,HC3.out⟩
  ·have hz:M.at' f.data.toList n=0:=by
    unfold M.at'
    rw[List.getD_eq_getElem?_getD,List.getElem?_eq_none (by simpa using hlt)];rfl
   go_wp2
   go_meet
   refine ⟨HB.out.congr fun i hi=>?_,HC.out⟩
   have e:vv f.data.toList (n+1)=vv f.data.toList n*256 % 4294967296:=by show _+_=_;rw[hz];omega
   rw[e]
   congr 1
   funext k
   unfold vput
   split<;>rfl
 case rest=>
 obtain ⟨hB,hC⟩:=hcut
 clear HB HC c8 c9 c10 fr
 obtain ⟨W3,hW3⟩:∃W3:World,W3=wc:=⟨_,rfl⟩
 subst hW3
 have c9:W3.cell? ⟨g,259,none⟩=some (.int .i64 (n:Int)):=hB.cell 259 (by omega)
 have fr:=hB.free 259
 have HB:=Lib.hid (hB.set 259 (.int .i64 ((n:Int)+1)))
 have HC:=Lib.hid (hC.set 259 (.int .i64 ((n:Int)+1)))
 clear hB hC
 go_wp2
 refine bodyPost_end (results_none rfl _ _ _) rfl ⟨rfl,HB.out.congr fun i hi=>?_,HC.out⟩
 rw[cc_put_x 259 (by omega)]
 by_cases h:i<258
 ·unfold cc
  by_cases h1:i<256
  ·simp[h1]
  ·by_cases h2:i=256
   ·simp[h2]
   ·simp[show i=257 by omega]
 ·rw[cc_x i (by omega),cc_x i (by omega)]
  obtain rfl|rfl|rfl:i=258∨i=259∨i=260:=by omega
  ·rfl
  ·show Value.int .i64 ((n:Int)+1)=.int .i64 ((n+1:Nat):Int)
   rw[Int.natCast_add];rfl
  ·rfl
end
section
set_option maxRecDepth 100000 in
set_option maxHeartbeats 1000000 in
theorem fill_any (g:Nat) (f:ByteArray) (n:Nat) (p:Nat→Int) (lo en:Int) (w:World) (hB:Blk w g 259 261 (cc p lo en (RX f n))) (hn:n≤1000000000) (hf:f.size≤1000000000000000) :
  Calls Tryz.prog 206 #[.pointer (some ⟨g,0,none⟩)] w fun e w'=>e=.returned (.tuple #[])∧Blk w' g 259 261 (cc p lo en (RX f (n+(4-n))))∧Chg g none w w':=by
 go_enter Tryz.func206,Tryz.ntmps206
 go_upto_block 0 with fail
 go_wp2_with fail
 go_loopg [] (4-n) (fun k wr=>∃m:Nat,n≤m∧k=4-m∧(m=n∨m≤4)∧Blk wr g 259 261 (cc p lo en (RX f m))∧Chg g none w wr)
 case atStart=>exact ⟨n,Nat.le_refl _,rfl,.inl rfl,hB,Chg.refl _ _ _⟩
 case round=>
  obtain ⟨m,h1,hk,h2,h3,h4⟩:=hrel
  clear hB
  have c9:wr.cell? ⟨g,259,none⟩=some (.int .i64 (m:Int)):=h3.cell 259 (by omega)
  have HK:=Lib.hid hk
  clear hk
  by_cases hlt:m<4
  ·go_wp2_with fail
   refine (rnext g f m p lo en 0 wr h3 (by omega) hf).mono ?_
   rintro e y ⟨rfl,h5,h6⟩
   go_wp2
   have hk:=HK.out
   go_roundg (4-(m+1))
   case measure=>omega
   case rel=>exact ⟨m+1,by omega,rfl,.inr (by omega),h5,h4.trans (.inl rfl) h6⟩
  ·go_wp2
   refine bodyPost_end (results_none rfl _ _ _) rfl ⟨rfl,?_,h4⟩
   rw[show n+(4-n)=m by omega];exact h3
end
section
structure CbR (g L:Nat) (Q:List UInt8→(Nat→Value)→World→Prop):Prop where
 set:∀l X Y w i v,i<258→Blk w g 259 261 Y→Q l X w→Q l X (w.setCell ⟨g,i,none⟩ v)
 drewN:∀l X w n,Q l X w→Q l X (w.drewN n)
 call:∀l X w p lo en b,Blk w g 259 261 (cc p lo en X)→Q l X w→l.length≤L→Calls Tryz.prog 207 #[.pointer (some ⟨g,0,none⟩),.int .u8 (b.toNat:Int)] w fun e w'=>e=.returned (.tuple #[])∧∃X',Blk w' g 259 261 (cc p lo en X')∧Q (l++[b]) X' w'
set_option maxRecDepth 100000 in
set_option maxHeartbeats 2000000 in
theorem narrow_r {g L:Nat} {Q:List UInt8→(Nat→Value)→World→Prop} (HC:Hid (CbR g L Q)) (s:M.St) (hs:M.Ok s) (c bit:Int) (X:Nat→Value) (l:List UInt8) (w:World)
  (hB:Blk w g 259 261 (cc s.p s.lo (4294967295-s.hi) X)) (hQ:Q l X w) (hl:l.length+4≤L) :
  Calls Tryz.prog 187 #[.pointer (some ⟨g,0,none⟩),.int .i64 c,.int .i64 bit,.func (.func 207) #[.pointer (some ⟨g,0,none⟩)] #[]] w fun e w'=>e=.returned (.tuple #[])∧
   ∃X',Blk w' g 259 261 (cc (M.nxt s (cx c) (bit % 2)).p (M.nxt s (cx c) (bit % 2)).lo (4294967295-(M.nxt s (cx c) (bit % 2)).hi) X')∧Q (l++M.outB s (cx c) (bit % 2)) X' w':=by
 have hk:=cx_lt c
 have c0:=hB.cell (cx c) (by omega)
 rw[cc_p _ hk] at c0
 have HM:=Lib.hid (mid_any g s hs c w c0 (by rw[hB.cell 256 (by omega),cc_lo]) (by rw[hB.cell 257 (by omega),cc_en]))
 obtain ⟨p1,p2⟩:=hs.p (cx c)
 have HI:=Lib.hid (M.iv1 hs (cx c) (bit % 2))
 have HX:=Lib.hid (show M.nxt s (cx c) (bit % 2)=⟨M.put s.p (cx c) (M.np (s.p (cx c)) (bit % 2)),(M.shs 4 (M.lo1 s (cx c) (bit % 2)) (M.hi1 s (cx c) (bit % 2))).2.1,(M.shs 4 (M.lo1 s (cx c) (bit % 2)) (M.hi1 s (cx c) (bit % 2))).2.2⟩ from rfl)
 have HO:=Lib.hid (show M.outB s (cx c) (bit % 2)=(M.shs 4 (M.lo1 s (cx c) (bit % 2)) (M.hi1 s (cx c) (bit % 2))).1 from rfl)
 have hmd:=M.md_in hs (cx c)
 have hl0:=hs.lo
 have hh1:=hs.hi
 have ha:=and_255 c
 rw[←cx_val] at ha
 have hb:=and_1 bit
 go_enter Tryz.func187,Tryz.ntmps187
 go_wp2_with fail
 refine HM.out.mono ?_
 rintro e x ⟨rfl,nn,rfl⟩
 have HB:=Lib.hid (show Blk (w.drewN nn) g 259 261 (cc s.p s.lo (4294967295-s.hi) X) from hB)
 have HQ:=Lib.hid (HC.out.drewN _ _ _ nn hQ)
 clear HM hB hQ hs
 replace c0:(w.drewN nn).cell? ⟨g,cx c,none⟩=some (.int .i16 (s.p (cx c)-2048)):=c0
 generalize w.drewN nn=W at *
 go_upto_if 28 with fail
 have m0:0≤M.md s (cx c):=by omega
 have hn:=not_u32 (M.md s (cx c)) m0 (by omega)
 have m1:IntKind.u32.wrap (M.md s (cx c)+1)=M.md s (cx c)+1:=w32 _ (by omega) (by omega)
 have c6:W.cell? ⟨g,256,none⟩=some (.int .u32 s.lo):=by rw[HB.out.cell 256 (by omega),cc_lo]
 have c7:W.cell? ⟨g,257,none⟩=some (.int .u32 (4294967295-s.hi)):=by rw[HB.out.cell 257 (by omega),cc_en]
 have f6:=HB.out.free 256
 have f7:=HB.out.free 257
 go_cut [10] (fun s10 wx=>s10=.int .i64 (M.np (s.p (cx c)) (bit % 2))∧Blk wx g 259 261 (cc s.p (M.lo1 s (cx c) (bit % 2)) (4294967295-M.hi1 s (cx c) (bit % 2)) X)∧Q l X wx)
 case first=>
  by_cases hbit:bit % 2=1
  ·rw[hbit]
   go_wp2
   go_meet
   refine ⟨?_,?_,HC.out.set _ _ _ _ _ _ (by omega) HB.out HQ.out⟩
   ·unfold M.np;rw[if_pos hbit]
   ·have:=HB.out.set 257 (.int .u32 (4294967295-M.md s (cx c)))
    rw[cc_put_en] at this
    rw[show M.lo1 s (cx c) (bit % 2)=s.lo from if_pos hbit,show M.hi1 s (cx c) (bit % 2)=M.md s (cx c) from if_pos hbit]
    exact this
  ·obtain hbit:bit % 2=0:=by omega
   rw[hbit]
   go_wp2
   go_meet
   refine ⟨?_,?_,HC.out.set _ _ _ _ _ _ (by omega) HB.out HQ.out⟩
   ·unfold M.np;rw[if_neg (by omega)]
   ·have:=HB.out.set 256 (.int .u32 (M.md s (cx c)+1))
    rw[cc_put_lo] at this
    rw[show M.lo1 s (cx c) (bit % 2)=M.md s (cx c)+1 from if_neg (by omega),show M.hi1 s (cx c) (bit % 2)=s.hi from if_neg (by omega)]
    exact this
 case rest=>
 clear HB HQ hn m0 m1 c6 c7 f6 f7 c0 hmd hl0 hh1 hb
 obtain ⟨rfl,hB,hQ⟩:=hcut
 obtain ⟨W1,hW1⟩:∃W1:World,W1=wc:=⟨_,rfl⟩
 subst hW1
 have n0:=M.np_bd ⟨p1,p2⟩ (bit % 2)
 have c0:=hB.cell (cx c) (by omega)
 rw[cc_p _ hk] at c0
 have f0:=hB.free (cx c)
 have HB:=Lib.hid (cc_put_p (cx c) hk _▸hB.set (cx c) (.int .i16 (M.np (s.p (cx c)) (bit % 2)-2048)))
 have HQ:=Lib.hid (HC.out.set _ _ _ _ (cx c) (.int .i16 (M.np (s.p (cx c)) (bit % 2)-2048)) (by omega) hB hQ)
 clear hB hQ
 have hw1:IntKind.i16.wrap (M.np (s.p (cx c)) (bit % 2)-2048)=M.np (s.p (cx c)) (bit % 2)-2048:=w16 _ (by omega) (by omega)
 generalize M.np (s.p (cx c)) (bit % 2)=np at *
 generalize M.lo1 s (cx c) (bit % 2)=lo0 at *
 generalize M.hi1 s (cx c) (bit % 2)=hi0 at *
 clear p1 p2
 go_upto_block 1 with fail
 go_loopg [11] 4 (fun k s11 wr=>∃(l':List UInt8) (lo hi:Int) (X':Nat→Value),Hid (M.Iv k lo hi∧l'++(M.shs k lo hi).1=l++(M.shs 4 lo0 hi0).1∧(M.shs k lo hi).2=(M.shs 4 lo0 hi0).2∧l'.length+k≤l.length+4∧Blk wr g 259 261 (cc (M.put s.p (cx c) np) lo (4294967295-hi) X')∧Q l' X' wr))
 case atStart=>exact ⟨l,lo0,hi0,X,Lib.hid ⟨HI.out,rfl,rfl,Nat.le_refl _,HB.out,HQ.out⟩⟩
 case round=>
  obtain ⟨l',lo,hi,X',HR⟩:=hrel
  clear HB HQ HI
  obtain ⟨i1,i2,i3,i4,i5,i6⟩:=id HR.out
  have j0:=i1.lo
  have j1:=i1.le
  have j2:=i1.hi
  have c6:wr.cell? ⟨g,256,none⟩=some (.int .u32 lo):=by rw[i5.cell 256 (by omega),cc_lo]
  have c7:wr.cell? ⟨g,257,none⟩=some (.int .u32 (4294967295-hi)):=by rw[i5.cell 257 (by omega),cc_en]
  have HI:=Lib.hid (high_any g hi (by omega) j2)
  have f6:=i5.free 256
  have f7:=i5.free 257
  clear i1 i2 i3 i4 i5 i6
  go_upto_region 9 with fail
  refine q_region (C:=fun x=>∃n,x=wr.drewN n) (by kernel_rfl) (by kernel_rfl) ⟨1,rfl⟩ ?_
  repeat (first
   |go_big_quiet_skip
   |(go_big_quiet_want;refine q_val ?_;apply Exists.intro;refine ⟨fun x hx=>?_,?_⟩;(focus (obtain ⟨n,rfl⟩:=hx;go_simp<;>rfl));simp only[Act.put,List.setIfInBounds_toArray,List.set_cons_zero,List.set_cons_succ];go_big_quiet_on)
   |(go_big_quiet_want;refine q_call 203 ?_;apply Exists.intro;refine ⟨fun x hx=>?_,?_⟩;(focus (go_simp<;>rfl));apply Exists.intro;refine ⟨fun x hx=>?_,?_⟩;(focus (obtain ⟨n,rfl⟩:=hx;exact (HI.out (wr.drewN n) c7).mono fun e w' h=>⟨h.1,n,h.2.symm⟩));simp only[Act.put,List.setIfInBounds_toArray,List.set_cons_zero,List.set_cons_succ];go_big_quiet_on))
  refine wpQuiet_nil ?_
  rintro x ⟨n,rfl⟩
  have hgn:∃W2:World,W2=wr.drewN n:=⟨_,rfl⟩
  have HR2:=Lib.hid (show M.Iv gk lo hi∧l'++(M.shs gk lo hi).1=l++(M.shs 4 lo0 hi0).1∧(M.shs gk lo hi).2=(M.shs 4 lo0 hi0).2∧l'.length+gk≤l.length+4∧Blk (wr.drewN n) g 259 261 (cc (M.put s.p (cx c) np) lo (4294967295-hi) X')∧Q l' X' (wr.drewN n) from
   ⟨HR.out.1,HR.out.2.1,HR.out.2.2.1,HR.out.2.2.2.1,HR.out.2.2.2.2.1,HC.out.drewN _ _ _ n HR.out.2.2.2.2.2⟩)
  replace c6:(wr.drewN n).cell? ⟨g,256,none⟩=some (.int .u32 lo):=c6
  replace c7:(wr.drewN n).cell? ⟨g,257,none⟩=some (.int .u32 (4294967295-hi)):=c7
  replace f6:(wr.drewN n).frozen? ⟨g,256,none⟩=false:=f6
  replace f7:(wr.drewN n).frozen? ⟨g,257,none⟩=false:=f7
  clear HR HI hgn
  generalize wr.drewN n=W2 at *
  cases e:(lo / 16777216==hi / 16777216) with
  |true=>
   have e':lo / 16777216=hi / 16777216:=by simpa using e
   obtain ⟨i1,i2,i3,i4,i5,i6⟩:=HR2.out
   clear HR2
   cases gk with
   |zero=>exact absurd e' i1.stop
   |succ k=>
    rw[M.shs_eq k lo hi e'] at i2 i3
    have in':=i1.next e'
    have hby:=(M.byt_val j0 (by omega)).symm
    have hB3:=i5.set 256 (.int .u32 (lo*256 % 4294967296))
    rw[cc_put_lo] at hB3
    have hB4:=hB3.set 257 (.int .u32 (4294967295-(hi*256+255) % 4294967296))
    rw[cc_put_en] at hB4
    have hQ4:=HC.out.set _ _ _ _ 257 (.int .u32 (4294967295-(hi*256+255) % 4294967296)) (by omega) hB3 (HC.out.set _ _ _ _ 256 (.int .u32 (lo*256 % 4294967296)) (by omega) i5 i6)
    have HK:=Lib.hid (HC.out.call l' X' _ _ _ _ (M.byt lo) hB4 hQ4 (by omega))
    have HP:=Lib.hid (And.intro i2 (And.intro i3 (And.intro i4 in')))
    have HE:=Lib.hid e'
    rw[←hby] at HK
    have hen:4294967295-(hi*256+255) % 4294967296=(4294967295-hi)*256 % 4294967296:=by omega
    rw[hen] at HK
    replace hen:=Lib.hid hen
    clear i1 i2 i3 i4 i5 i6 in' hB3 hB4 hQ4 hby e'
    go_wp2_with fail
    refine HK.out.mono ?_
    rintro e y ⟨rfl,X2,hB5,hQ5⟩
    go_wp2
    go_roundg k
    case measure=>omega
    case rel=>
     obtain ⟨i2,i3,i4,in'⟩:=HP.out
     exact ⟨l'++[M.byt lo],_,_,X2,Lib.hid ⟨in',by rw[←i2,List.append_assoc];rfl,i3,by rw[List.length_append,List.length_singleton];omega,hen.out▸hB5,hQ5⟩⟩
  |false=>
   obtain ⟨i1,i2,i3,i4,i5,i6⟩:=HR2.out
   clear HR2
   go_wp2
   have e':lo / 16777216≠hi / 16777216:=by simpa using e
   rw[M.shs_ne _ lo hi e'] at i2 i3
   refine bodyPost_end (results_none rfl _ _ _) rfl ⟨rfl,X',?_,?_⟩
   ·rw[HX.out]
    show Blk _ _ _ _ (cc _ (M.shs 4 _ _).2.1 (_-(M.shs 4 _ _).2.2) _)
    rw[←i3];exact i5
   ·rw[HO.out,←i2];simpa using i6
end
section
theorem drewN_add (x:World) (n k:Nat):(x.drewN n).drewN k=x.drewN (n+k):=by
 simp[World.drewN,Nat.add_assoc]
structure RQ (g:Nat) (f:ByteArray) (n:Nat) (w1:World) (l:List UInt8) (X:Nat→Value) (x:World):Prop where
 cells:∀i,258≤i→i<261→X i=RX f (n+l.length) i
 chg:Chg g none w1 x
theorem cc_congr {p lo en X Y} (h:∀i,258≤i→i<261→X i=Y i) (i:Nat) (hi:i<261):cc p lo en X i=cc p lo en Y i:=by
 by_cases h1:i<256
 ·rw[cc_p i h1,cc_p i h1]
 ·by_cases h2:i=256
  ·subst h2;rw[cc_lo,cc_lo]
  ·by_cases h3:i=257
   ·subst h3;rw[cc_en,cc_en]
   ·rw[cc_x i (by omega),cc_x i (by omega)];exact h i (by omega) hi
theorem rq_cb (g:Nat) (f:ByteArray) (n:Nat) (w1:World) (hn:n≤1000000000) (hf:f.size≤1000000000000000):CbR g 1000000 (RQ g f n w1) where
 set:=fun l X Y w i v hi hb h=>⟨h.cells,h.chg.set i v⟩
 drewN:=fun l X w k h=>⟨h.cells,⟨h.chg.os,h.chg.tape,h.chg.output,h.chg.size,h.chg.block⟩⟩
 call:=fun l X w p lo en b hb h hl=>by
  refine (rnext g f (n+l.length) p lo en (b.toNat:Int) w (hb.congr (cc_congr h.cells)) (by omega) hf).mono ?_
  rintro e w' ⟨rfl,h1,h2⟩
  exact ⟨rfl,_,h1,fun i _ _=>by rw[List.length_append];rfl,h.chg.trans (.inl rfl) h2⟩
set_option maxRecDepth 100000 in
set_option maxHeartbeats 1000000 in
theorem bit_r (g:Nat) (f:ByteArray) (n:Nat) (s:M.St) (hs:M.Ok s) (c:Int) (w:World) (hB:Blk w g 259 261 (cc s.p s.lo (4294967295-s.hi) (RX f n))) (hn:n≤100000000) (hf:f.size≤1000000000000000) :
  Calls Tryz.prog 196 #[.pointer (some ⟨g,0,none⟩),.int .i64 c] w fun e w'=>e=.returned (.int .i64 (M.rb s (cx c) (M.val f.data.toList (n-4))))∧
   Blk w' g 259 261 (cc (M.nxt s (cx c) (M.rb s (cx c) (M.val f.data.toList (n-4)))).p (M.nxt s (cx c) (M.rb s (cx c) (M.val f.data.toList (n-4)))).lo (4294967295-(M.nxt s (cx c) (M.rb s (cx c) (M.val f.data.toList (n-4)))).hi) (RX f (n+(4-n)+(M.outB s (cx c) (M.rb s (cx c) (M.val f.data.toList (n-4)))).length)))∧Chg g none w w':=by
 have HF:=Lib.hid (fill_any g f n s.p s.lo (4294967295-s.hi) w hB (by omega) hf)
 have hk:=cx_lt c
 clear hB
 obtain ⟨N,hN⟩:∃N,N=n+(4-n):=⟨_,rfl⟩
 have hN4:N=(n-4)+4:=by omega
 have hv:vv f.data.toList N=M.val f.data.toList (n-4):=by rw[hN4];exact vv_val _ _
 rw[←hN] at HF⊢
 have hNb:N≤1000000000:=by omega
 clear hN hN4 hn
 generalize M.val f.data.toList (n-4)=V at *
 obtain ⟨b,hb⟩:∃b,b=M.rb s (cx c) V:=⟨_,rfl⟩
 have hb2:b % 2=b:=by rw[hb];unfold M.rb;split<;>rfl
 go_enter Tryz.func196,Tryz.ntmps196
 go_wp2_with fail
 refine HF.out.mono ?_
 rintro e x ⟨rfl,h1,h2⟩
 clear HF
 have c10:x.cell? ⟨g,260,none⟩=some (.int .u32 V):=by rw[h1.cell 260 (by omega),←hv];rfl
 have hp:=h1.cell (cx c) (by omega)
 rw[cc_p _ hk] at hp
 have hl:x.cell? ⟨g,256,none⟩=some (.int .u32 s.lo):=by rw[h1.cell 256 (by omega),cc_lo]
 have he:x.cell? ⟨g,257,none⟩=some (.int .u32 (4294967295-s.hi)):=by rw[h1.cell 257 (by omega),cc_en]
 have HM:=Lib.hid (fun n=>mid_any g s hs c (x.drewN n) hp hl he)
 have H1:=Lib.hid h1
 have H2:=Lib.hid h2
 have HN:=Lib.hid (fun k b=>narrow_r (Lib.hid (rq_cb g f N x (by omega) hf)) s hs c b (RX f N) [] (x.drewN k) h1 ⟨fun i _ _=>rfl,⟨rfl,rfl,rfl,Nat.le_refl _,fun _ _ _ _=>rfl⟩⟩ (by decide))
 replace hb:=Lib.hid hb
 replace hb2:=Lib.hid hb2
 clear h1 h2 hp hl he hv
 go_upto_region 5 with fail
 refine q_region (C:=fun y=>∃n,y=x.drewN n) (by kernel_rfl) (by kernel_rfl) ⟨1,rfl⟩ ?_
 repeat (first
  |go_big_quiet_skip
  |(go_big_quiet_want;refine q_val ?_;apply Exists.intro;refine ⟨fun x hx=>?_,?_⟩;(focus (obtain ⟨n,rfl⟩:=hx;go_simp<;>rfl));simp only[Act.put,List.setIfInBounds_toArray,List.set_cons_zero,List.set_cons_succ];go_big_quiet_on)
  |(go_big_quiet_want;refine q_call 202 ?_;apply Exists.intro;refine ⟨fun x hx=>?_,?_⟩;(focus (go_simp<;>rfl));apply Exists.intro;refine ⟨fun x hx=>?_,?_⟩;(focus (obtain ⟨n,rfl⟩:=hx;exact (HM.out n).mono fun e w' h=>⟨h.1,by obtain ⟨k,e⟩:=h.2;exact ⟨n+k,by rw[e];exact drewN_add x n k⟩⟩));simp only[Act.put,List.setIfInBounds_toArray,List.set_cons_zero,List.set_cons_succ];go_big_quiet_on))
 refine wpQuiet_nil ?_
 rintro y ⟨k,rfl⟩
 go_upto_if 19 with fail
 go_cut [5] (fun s5 wx=>s5=.int .i64 b∧wx=x.drewN k)
 case first=>
  by_cases hV:V≤M.md s (cx c)
  ·go_wp2
   go_meet
   exact ⟨by rw[hb.out];unfold M.rb;rw[if_pos hV],rfl⟩
  ·go_wp2
   go_meet
   exact ⟨by rw[hb.out];unfold M.rb;rw[if_neg (by omega)],rfl⟩
 case rest=>
 obtain ⟨rfl,rfl⟩:=hcut
 have HN2:=Lib.hid (HN.out k b)
 rw[hb2.out] at HN2
 clear HN HM
 go_wp2_with fail
 refine HN2.out.mono ?_
 rintro e z ⟨rfl,X',h3,h4⟩
 go_wp2
 go_ret
 refine ⟨by have e:=hb.out;subst e;rfl,?_,?_⟩
 ·rw[←hb.out]
  exact h3.congr (cc_congr fun i h1 h2=>by have:=h4.cells i h1 h2;simpa using this)
 ·exact H2.out.trans (.inl rfl) h4.chg
end
section
theorem Tryz.zero259 (w:World):(zeroValue 259).run Tryz.prog w=.ok (.agg (cv 261 (cc M.start.p M.start.lo (4294967295-M.start.hi) (RX ⟨#[]⟩ 0)))) w:=by kernel_rfl
set_option maxRecDepth 100000 in
set_option maxHeartbeats 1000000 in
theorem newReader_any (f:ByteArray) (w:World):Calls Tryz.prog 194 #[.string f] w fun e w'=>e=.returned (.pointer (some ⟨w.heap.size,0,none⟩))∧Blk w' w.heap.size 259 261 (cc M.start.p M.start.lo (4294967295-M.start.hi) (RX f 0))∧Grow w w':=by
 have hz:=Tryz.zero259
 have hset:=cv_set 261 (cc M.start.p M.start.lo (4294967295-M.start.hi) (RX ⟨#[]⟩ 0)) 258 (.string f)
 have hzs:¬(cv 261 (cc M.start.p M.start.lo (4294967295-M.start.hi) (RX ⟨#[]⟩ 0))).size<259:=by rw[cv_size];omega
 generalize cv 261 (cc M.start.p M.start.lo (4294967295-M.start.hi) (RX ⟨#[]⟩ 0))=Z at *
 replace hset:=Lib.hid hset
 go_enter Tryz.func194,Tryz.ntmps194
 go_wp2
 go_ret
 refine ⟨rfl,?_,Grow.alloc _ _⟩
 unfold Blk
 rw[heap_alloc_new,hset.out,cc_put_x 258 (by omega)]
 congr 2
end
section
end
section
structure WS (B g:Nat) (ro:Option Nat) (s:M.St) (l:List UInt8) (w:World):Prop where
 ok:M.Ok s
 bd:B≤w.heap.size
 ge:B≤g
 ex:∃X,Blk w g 232 259 (cc s.p s.lo (4294967295-s.hi) X)∧w.ownsRow B 5 1 (X 258) l.length (bvals l)∧(X 258).ownBlock=ro
theorem WS.lt {B g ro s l w} (h:WS B g ro s l w):g<w.heap.size:=by
 obtain ⟨X,h1,_⟩:=h.ex
 exact h1.lt
theorem WS.ro_ge {B g ro s l w} (h:WS B g ro s l w) (k:Nat) (e:ro=some k):B≤k∧k<w.heap.size:=by
 obtain ⟨X,h1,h2,h3⟩:=h.ex
 have h4:=h2.lt k (by rw[h3,e])
 exact ⟨h4.1,h4.2⟩
theorem WS.ne {B g ro s l w} (h:WS B g ro s l w) {k t:Nat} {c fr} (hk:w.heap[k]? = some (.cells c t fr)) (h5:t≠5) (h68:t≠232):k≠g∧some k≠ro:=by
 obtain ⟨X,h1,h2,h3⟩:=h.ex
 refine ⟨blk_ne h1 hk (Ne.symm h68),?_⟩
 rw[←h3];exact row_ne h2 hk h5
theorem WS.grow {B g ro s l w w'} (h:WS B g ro s l w) (hg:Grow w w'):WS B g ro s l w':=by
 obtain ⟨X,x1,x2,x3⟩:=h.ex
 exact ⟨h.ok,Nat.le_trans h.bd (Below.size hg),h.ge,X,x1.grow hg,own_grow x2 hg,x3⟩
theorem newWriter_ws (w:World):Calls Tryz.prog 153 #[] w fun e w'=>e=.returned (.pointer (some ⟨w.heap.size,0,none⟩))∧WS w.heap.size w.heap.size none M.start [] w'∧Grow w w':=by
 refine (newWriter_any w).mono ?_
 rintro e w' ⟨rfl,rfl⟩
 refine ⟨rfl,⟨M.start_ok,Grow.size (Grow.alloc _ _),Nat.le_refl _,_,heap_alloc_new _ _,?_,?_⟩,Grow.alloc _ _⟩
 ·exact ⟨rfl,.inl ⟨rfl,rfl⟩⟩
 ·rfl
theorem WS.lower {B B' g ro s l w} (h:WS B g ro s l w) (hB:B'≤B):WS B' g ro s l w:=by
 obtain ⟨X,x1,x2,x3⟩:=h.ex
 refine ⟨h.ok,Nat.le_trans hB h.bd,Nat.le_trans hB h.ge,X,x1,?_,x3⟩
 obtain ⟨y1,y2⟩:=x2
 refine ⟨y1,y2.imp id ?_⟩
 rintro ⟨k,cap,cur,e1,e2,e3⟩
 exact ⟨k,cap,cur,e1,Nat.le_trans hB e2,e3⟩
theorem bit_ws {B g ro s l w} (h:WS B g ro s l w) (c bit:Int) (hl:l.length+4≤100000000) :
  Calls Tryz.prog 156 #[.pointer (some ⟨g,0,none⟩),.int .i64 c,.int .i64 bit] w fun e w'=>e=.returned (.tuple #[])∧∃ro',WS B g ro' (M.nxt s (cx c) (bit % 2)) (l++M.outB s (cx c) (bit % 2)) w'∧Nxt ro ro' w∧Chg g ro w w':=by
 obtain ⟨X,x1,x2,x3⟩:=h.ex
 refine (bit_w B g s h.ok c bit X l w x1 x2 h.bd hl).mono ?_
 rintro e w' ⟨rfl,X',y1,y2,y3,y4⟩
 rw[x3] at y3 y4
 exact ⟨rfl,_,⟨M.nxt_ok h.ok _ _,Nat.le_trans h.bd y4.size,h.ge,X',y1,y2,rfl⟩,y3,y4⟩
theorem bytes_ws {B g ro s l w} (h:WS B g ro s l w) (hl:l.length≤100000000) :
  Calls Tryz.prog 157 #[.pointer (some ⟨g,0,none⟩)] w fun e w'=>e=.returned (.string ⟨(l++M.be4 s.lo).toArray⟩)∧Grow w w':=by
 obtain ⟨X,x1,x2,x3⟩:=h.ex
 exact bytes_w B g s h.ok X l w x1 x2 hl
theorem WS.below {B g ro s l w w'} (h:WS B g ro s l w) (k:Chg g ro w w'):Below B w w':=k.below h.ge (fun j e=>(h.ro_ge j e).1) h.bd
structure RS (g:Nat) (f:ByteArray) (m:Nat) (s:M.St) (w:World):Prop where
 ok:M.Ok s
 ex:∃n,n-4=m∧Blk w g 259 261 (cc s.p s.lo (4294967295-s.hi) (RX f n))
theorem RS.lt {g f m s w} (h:RS g f m s w):g<w.heap.size:=by
 obtain ⟨n,_,h1⟩:=h.ex
 exact h1.lt
theorem RS.grow {g f m s w w'} (h:RS g f m s w) (hg:Grow w w'):RS g f m s w':=by
 obtain ⟨n,h0,h1⟩:=h.ex
 exact ⟨h.ok,n,h0,h1.grow hg⟩
theorem newReader_rs (f:ByteArray) (w:World):Calls Tryz.prog 194 #[.string f] w fun e w'=>e=.returned (.pointer (some ⟨w.heap.size,0,none⟩))∧RS w.heap.size f 0 M.start w'∧Grow w w':=by
 refine (newReader_any f w).mono ?_
 rintro e w' ⟨rfl,h1,h2⟩
 exact ⟨rfl,⟨M.start_ok,0,rfl,h1⟩,h2⟩
def nb (f:ByteArray) (m:Nat) (s:M.St) (c:Int):Int:=M.rb s (cx c) (M.val f.data.toList m)
theorem bit_rs {g f m s w} (h:RS g f m s w) (c:Int) (hm:m≤90000000) (hf:f.size≤1000000000000000) :
  Calls Tryz.prog 196 #[.pointer (some ⟨g,0,none⟩),.int .i64 c] w fun e w'=>e=.returned (.int .i64 (nb f m s c))∧RS g f (m+(M.outB s (cx c) (nb f m s c)).length) (M.nxt s (cx c) (nb f m s c)) w'∧Chg g none w w':=by
 obtain ⟨n,rfl,x1⟩:=h.ex
 refine (bit_r g f n s h.ok c w x1 (by omega) hf).mono ?_
 rintro e w' ⟨rfl,h1,h2⟩
 exact ⟨rfl,⟨M.nxt_ok h.ok _ _,_,by unfold nb;omega,h1⟩,h2⟩
end
end Go.Proofs.YtpdckpifhniioaaGreat.Cod
end
section
set_option linter.unusedVariables false
set_option linter.unusedSimpArgs false
namespace Go.Proofs.YtpdckpifhniioaaGreat.Cod
open Go.RowKit
open Go.Proofs.YtpdckpifhniioaaGreat
section
theorem enters_fn {f:FuncId} {fn:Func} {c:Code} (hf:Tryz.prog.funcs[f]? = some fn) (hname:(fn.name == "runtime.NumGoroutine")=false) (hb:fn.body=some c) (args:Array Value) (w:World):(callFunc f args).run Tryz.prog w=.ok (.enter f args) w:=by
 have h1:fn.name≠ "runtime.NumGoroutine":=by simpa using hname
 simp[callFunc,hf,h1,hb,mark]
structure CbE (fn:Nat) (cap:Array Value) (cx bt:Nat→Int) (I:Nat→World→Prop):Prop where
 enters:∀args w,(callFunc fn args).run Tryz.prog w=.ok (.enter fn args) w
 start:cx 0=1
 next:∀k,k<8→cx (k+1)=2*cx k+bt k
 bit:∀k,k<8→bt k=0∨bt k=1
 call:∀k w,k<8→I k w→Calls Tryz.prog fn (#[.int .i64 (7-(k:Int)),.int .i64 (cx k)]++cap) w fun e w'=>e=.returned (.int .i64 (bt k))∧I (k+1) w'
theorem CbE.bd {fn cap cx bt I} (h:CbE fn cap cx bt I):∀k,k≤8→1≤cx k∧cx k<2 ^ (k+1)
 |0,_=>by rw[h.start];decide
 |k+1,hk=>by
  have ih:=h.bd k (by omega)
  have hb:=h.bit k (by omega)
  rw[h.next k (by omega)]
  have:(2:Int) ^ (k+1+1)=2*2 ^ (k+1):=by rw[Int.pow_succ,Int.mul_comm]
  omega
set_option maxRecDepth 100000 in
set_option maxHeartbeats 1000000 in
theorem each_any (fn:Nat) (cap:Array Value) (cx bt:Nat→Int) (I:Nat→World→Prop) (H:Hid (CbE fn cap cx bt I)) (w:World) (h:I 0 w) :
  Calls Tryz.prog 154 #[.func (.func fn) #[] cap] w fun e w'=>e=.returned (.tuple #[])∧I 8 w':=by
 go_enter Tryz.func154,Tryz.ntmps154
 go_upto_block 2 with fail
 go_loopg [2,3] 8 (fun k s2 s3 wr=>k≤8∧s2=.int .i64 (cx (8-k))∧s3=.int .i64 ((k:Int)-1)∧I (8-k) wr)
 case atStart=>exact ⟨Nat.le_refl _,by rw[H.out.start],rfl,h⟩
 case round=>
  obtain ⟨hk,rfl,rfl,hI⟩:=hrel
  cases gk with
  |zero=>
   go_wp2
   refine bodyPost_end (results_none rfl _ _ _) rfl ⟨rfl,hI⟩
  |succ k=>
   have e8:8-(k+1)+1=8-k:=by omega
   have e7:7-k+1=8-k:=by omega
   have e77:8-(k+1)=7-k:=by omega
   rw[e77] at hI
   have hc:=H.out.call (7-k) wr (by omega) hI
   rw[show 7-((7-k:Nat):Int)=(k:Int) by omega,e7] at hc
   have hn:=H.out.next (7-k) (by omega)
   rw[e7] at hn
   have hb0:=H.out.bd (7-k) (by omega)
   have hp0:(2:Int) ^ (7-k+1)≤512:=by
    have:(2:Nat) ^ (7-k+1)≤2 ^ 9:=Nat.pow_le_pow_right (by omega) (by omega)
    exact_mod_cast this
   have hen:=Lib.hid H.out.enters
   have hb:=H.out.bd (8-k) (by omega)
   have hb2:=H.out.bit (7-k) (by omega)
   have hp:(2:Int) ^ (8-k+1)≤512:=by
    have:(2:Nat) ^ (8-k+1)≤2 ^ 9:=Nat.pow_le_pow_right (by omega) (by omega)
    exact_mod_cast this
   replace hc:=Lib.hid hc
   replace hn:=Lib.hid hn
   go_wp2_with fail
   rw[hen.out,Oper.upon_enter]
   refine hc.out.mono ?_
   rintro e w' ⟨rfl,hI'⟩
   replace hn:=hn.out
   go_wp2
   go_roundg k
   case measure=>omega
   case rel=>exact ⟨by omega,by rw[hn],rfl,hI'⟩
end
section
theorem cb31_bit (x:UInt8) (k:Nat) (hk:k<8):(x.toNat:Int) / 2 ^ (7-k) % 2=(M.bitAt x.toNat k).2:=by
 unfold M.bitAt
 dsimp only
 rw[Int.natCast_emod,Int.natCast_ediv,Int.natCast_pow]
 rfl
set_option maxRecDepth 100000 in
set_option maxHeartbeats 1000000 in
theorem cb31 {B g sb ib wb:Nat} {ro:Option Nat} {s:M.St} {l:List UInt8} {f:ByteArray} {i:Nat} (hi:i<f.size) (w:World) (h:WS B g ro s l w) (hl:l.length+4≤100000000)
  (h1:w.heap[sb]? = some (.cells #[.string f] 9 (0,0))) (h2:w.heap[ib]? = some (.cells #[.int .i64 (i:Int)] 3 (0,0))) (h3:w.heap[wb]? = some (.cells #[.pointer (some ⟨g,0,none⟩)] 202 (0,0)))
  (k:Nat) (hk:k<8) (c:Int) :
  Calls Tryz.prog 155 #[.int .i64 (7-(k:Int)),.int .i64 c,.pointer (some ⟨sb,0,none⟩),.pointer (some ⟨ib,0,none⟩),.pointer (some ⟨wb,0,none⟩)] w fun e w'=>
   e=.returned (.int .i64 (M.bitAt (f[i]).toNat k).2)∧∃ro',WS B g ro' (M.nxt s (cx c) (M.bitAt (f[i]).toNat k).2) (l++M.outB s (cx c) (M.bitAt (f[i]).toNat k).2) w'∧Nxt ro ro' w∧Chg g ro w w':=by
 have d1:w.cell? ⟨sb,0,none⟩=some (.string f):=by rw[cell_of_row w sb 0 _ _ _ h1];rfl
 have d2:w.cell? ⟨ib,0,none⟩=some (.int .i64 (i:Int)):=by rw[cell_of_row w ib 0 _ _ _ h2];rfl
 have d3:w.cell? ⟨wb,0,none⟩=some (.pointer (some ⟨g,0,none⟩)):=by rw[cell_of_row w wb 0 _ _ _ h3];rfl
 obtain ⟨bt,hbt⟩:∃bt,bt=(M.bitAt (f[i]).toNat k).2:=⟨_,rfl⟩
 have hb01:bt=0∨bt=1:=by rw[hbt];exact M.bitAt_bit _ _
 have hb:=cb31_bit f[i] k hk
 rw[←hbt] at hb⊢
 have HW:=Lib.hid (bit_ws h c bt hl)
 rw[show bt % 2=bt by omega] at HW
 clear h h1 h2 h3 hbt
 replace hb01:=Lib.hid hb01
 go_enter Tryz.func155,Tryz.ntmps155
 go_wp2_with fail
 have heq:bits .and .i64 (wrap64 ((f[i].toNat:Int) / 2 ^ (7-k))) 1=bt:=by
  have hx:=(f[i]).toNat_lt
  have h1:(1:Int)≤2 ^ (7-k):=Int.pow_pos (by decide)
  have h2:0≤(f[i].toNat:Int) / 2 ^ (7-k):=Int.ediv_nonneg (by omega) (by omega)
  have h3:(f[i].toNat:Int) / 2 ^ (7-k)≤f[i].toNat:=Int.ediv_le_self _ (by omega)
  rw[IntWalk.wrap64_in _ (by omega),and_1,hb]
 rw[heq]
 refine HW.out.mono ?_
 rintro e w' ⟨rfl,ro',hQ⟩
 replace hQ:=Lib.hid hQ
 go_wp2
 go_ret
 exact ⟨rfl,ro',hQ.out⟩
structure EI (B g sb ib wb:Nat) (f:ByteArray) (i:Nat) (w0:World) (s:M.St) (l:List UInt8) (w:World):Prop where
 ws:∃ro,WS B g ro s l w
 sb:w.heap[sb]? = some (.cells #[.string f] 9 (0,0))
 ib:w.heap[ib]? = some (.cells #[.int .i64 (i:Int)] 3 (0,0))
 wb:w.heap[wb]? = some (.cells #[.pointer (some ⟨g,0,none⟩)] 202 (0,0))
 below:Below B w0 w
theorem EI.chg {B g sb ib wb f i w0 s l w ro w' s' l' ro'} (h:EI B g sb ib wb f i w0 s l w) (k:WS B g ro s l w) (k':WS B g ro' s' l' w') (hc:Chg g ro w w'):EI B g sb ib wb f i w0 s' l' w':=by
 refine ⟨⟨_,k'⟩,?_,?_,?_,h.below.trans (k.below hc)⟩
 ·have:=k.ne h.sb (by decide) (by decide)
  rw[hc.block _ (Array.getElem?_eq_some_iff.1 h.sb).1 this.1 this.2];exact h.sb
 ·have:=k.ne h.ib (by decide) (by decide)
  rw[hc.block _ (Array.getElem?_eq_some_iff.1 h.ib).1 this.1 this.2];exact h.ib
 ·have:=k.ne h.wb (by decide) (by decide)
  rw[hc.block _ (Array.getElem?_eq_some_iff.1 h.wb).1 this.1 this.2];exact h.wb
def bts (x:UInt8) (k:Nat):List (Nat×Int):=(List.range k).map (M.bitAt x.toNat)
theorem bts_succ (x:UInt8) (k:Nat):bts x (k+1)=bts x k++[M.bitAt x.toNat k]:=by
 unfold bts;rw[List.range_succ,List.map_append];rfl
theorem bts_8 (x:UInt8):bts x 8=M.byteBits x:=rfl
theorem ctx_next (x k:Nat) (hk:k<8):(((256+x) / 2 ^ (8-(k+1)):Nat):Int)=2*(((256+x) / 2 ^ (8-k):Nat):Int)+(M.bitAt x k).2:=by
 unfold M.bitAt
 dsimp only
 obtain rfl|rfl|rfl|rfl|rfl|rfl|rfl|rfl:k=0∨k=1∨k=2∨k=3∨k=4∨k=5∨k=6∨k=7:=by omega
 all_goals simp only[Nat.reduceSub,Nat.reduceAdd,Nat.reducePow]
 all_goals omega
theorem ctx_cx (x k:Nat) (hx:x<256) (hk:k<8):cx (((256+x) / 2 ^ (8-k):Nat):Int)=(M.bitAt x k).1:=by
 unfold cx M.bitAt
 dsimp only
 obtain rfl|rfl|rfl|rfl|rfl|rfl|rfl|rfl:k=0∨k=1∨k=2∨k=3∨k=4∨k=5∨k=6∨k=7:=by omega
 all_goals simp only[Nat.reduceSub,Nat.reducePow]
 all_goals omega
theorem ei_cb {B g sb ib wb:Nat} {f:ByteArray} {i:Nat} (hi:i<f.size) {w0:World} {s:M.St} {l:List UInt8} (hl:l.length+36≤100000000) :
  CbE 155 #[.pointer (some ⟨sb,0,none⟩),.pointer (some ⟨ib,0,none⟩),.pointer (some ⟨wb,0,none⟩)] (fun k=>(((256+f[i].toNat) / 2 ^ (8-k):Nat):Int)) (fun k=>(M.bitAt f[i].toNat k).2)
   (fun k w=>k≤8∧EI B g sb ib wb f i w0 (M.runS s (bts f[i] k)) (l++M.runO s (bts f[i] k)) w) where
 enters:=enters_fn Tryz.func155 (by kernel_rfl) rfl
 start:=by have:=(f[i]).toNat_lt;show (((256+f[i].toNat) / 2 ^ 8:Nat):Int)=1;omega
 next:=fun k hk=>ctx_next _ _ hk
 bit:=fun k hk=>M.bitAt_bit _ _
 call:=fun k w hk h=>by
  obtain ⟨ro,hw⟩:=h.2.ws
  have hlen:=M.runO_len (bts f[i] k) s
  have hbl:(bts f[i] k).length=k:=by simp[bts]
  refine (cb31 hi w hw (by rw[List.length_append];omega) h.2.sb h.2.ib h.2.wb k hk _).mono ?_
  rintro e w' ⟨rfl,ro',k1,k2,k3⟩
  refine ⟨rfl,by omega,?_⟩
  have:=h.2.chg hw k1 k3
  rw[ctx_cx _ _ (f[i]).toNat_lt hk] at this
  rw[bts_succ,M.runS_append,M.runO_append]
  simpa [M.runS,M.runO] using this
structure EL (B g sb wb:Nat) (f:ByteArray) (w0:World) (s:M.St) (l:List UInt8) (w:World):Prop where
 ws:∃ro,WS B g ro s l w
 sb:w.heap[sb]? = some (.cells #[.string f] 9 (0,0))
 wb:w.heap[wb]? = some (.cells #[.pointer (some ⟨g,0,none⟩)] 202 (0,0))
 below:Below B w0 w
theorem EL.wbsz {B g sb wb f w0 s l w} (h:EL B g sb wb f w0 s l w):wb<w.heap.size:=(Array.getElem?_eq_some_iff.1 h.wb).1
theorem EL.ei {B g sb wb f w0 s l w} (h:EL B g sb wb f w0 s l w) (i:Nat):EI B g sb w.heap.size wb f i w0 s l (w.alloc (.cells #[.int .i64 (i:Int)] 3)):=by
 obtain ⟨ro,k⟩:=h.ws
 exact ⟨⟨ro,k.grow (Grow.alloc _ _)⟩,(Grow.alloc _ _).block h.sb,heap_alloc_new _ _,(Grow.alloc _ _).block h.wb,h.below.trans (Below.mono (show Below w.heap.size _ _ from Grow.alloc _ _) k.bd)⟩
theorem EI.el {B g sb ib wb f i w0 s l w} (h:EI B g sb ib wb f i w0 s l w):EL B g sb wb f w0 s l w:=⟨h.ws,h.sb,h.wb,h.below⟩
theorem take_succ_enc (f:ByteArray) (i:Nat) (hi:i<f.size):M.encBits (f.data.toList.take (i+1))=M.encBits (f.data.toList.take i)++M.byteBits f[i]:=by
 have h:f.data.toList.take (i+1)=f.data.toList.take i++[f[i]]:=by
  rw[List.take_add_one]
  have:f.data.toList[i]? = some f[i]:=by
   rw[Array.getElem?_toList,Array.getElem?_eq_getElem hi];rfl
  rw[this];rfl
 rw[h,M.encBits_append]
 exact congrArg _ (List.append_nil _)
set_option maxRecDepth 100000 in
set_option maxHeartbeats 1000000 in
theorem encode_any (f:ByteArray) (w:World) (hf:f.size≤2500000) :
  Calls Tryz.prog 114 #[.string f] w fun e w'=>e=.returned (.string ⟨(M.enc f.data.toList).toArray⟩)∧Grow w w':=by
 have HN:=Lib.hid (newWriter_ws (w.alloc (.cells #[.string f] 9)))
 go_enter Tryz.func114,Tryz.ntmps114
 go_wp2_with fail
 refine HN.out.mono ?_
 rintro e x ⟨rfl,hw,hg⟩
 clear HN
 have hsz:(w.alloc (.cells #[.string f] 9)).heap.size=w.heap.size+1:=by simp
 rw[hsz] at hw⊢
 have hE:WS w.heap.size (w.heap.size+1) none M.start [] x:=hw.lower (by omega)
 have hs:x.heap[w.heap.size]? = some (.cells #[.string f] 9 (0,0)):=hg.block (heap_alloc_new w _)
 have hb:Below w.heap.size w x:=(Grow.alloc w _).trans hg
 have hx:=hw.lt
 have c1:x.cell? ⟨w.heap.size,0,none⟩=some (.string f):=by rw[cell_of_row x _ 0 _ _ _ hs];rfl
 have hx0:w.heap.size<x.heap.size:=by omega
 replace hs:=Lib.hid hs
 replace hE:=Lib.hid hE
 replace hb:=Lib.hid hb
 clear hw hg hsz
 have hwb:Hid ((x.alloc (.cells #[.pointer (some ⟨w.heap.size+1,0,none⟩)] 202)).heap[x.heap.size]? = some (.cells #[.pointer (some ⟨w.heap.size+1,0,none⟩)] 202 (0,0))):=Lib.hid (heap_alloc_new _ _)
 go_upto_block 1 with fail
 obtain ⟨sb,hsb⟩:∃sb,sb=w.heap.size:=⟨_,rfl⟩
 go_loopg [8] f.size (fun k s8 wr=>∃i,i+k=f.size∧s8=.int .i64 (i:Int)∧Hid (EL w.heap.size (w.heap.size+1) w.heap.size x.heap.size f w (M.runS M.start (M.encBits (f.data.toList.take i))) (M.runO M.start (M.encBits (f.data.toList.take i))) wr))
 case atStart=>
  refine ⟨0,by omega,rfl,Lib.hid ⟨⟨none,hE.out.grow (Grow.alloc _ _)⟩,(Grow.alloc _ _).block hs.out,hwb.out,hb.out.trans (Below.mono (show Below x.heap.size _ _ from Grow.alloc _ _) (by omega))⟩⟩
 case round=>
  obtain ⟨i,hik,rfl,HR⟩:=hrel
  clear hE hb hs hwb c1
  have hws:=HR.out.wbsz
  cases gk with
  |zero=>
   obtain rfl:i=f.size:=by omega
   obtain ⟨ro,hW⟩:=HR.out.ws
   have d3:wr.cell? ⟨x.heap.size,0,none⟩=some (.pointer (some ⟨w.heap.size+1,0,none⟩)):=by rw[cell_of_row wr _ 0 _ _ _ HR.out.wb];rfl
   have htk:f.data.toList.take f.size=f.data.toList:=List.take_of_length_le (by simp[←ByteArray.size_data])
   have hlen:=M.runO_len (M.encBits f.data.toList) M.start
   rw[M.encBits_len] at hlen
   have hfl:f.data.toList.length=f.size:=by simp[←ByteArray.size_data]
   have HY:=Lib.hid (bytes_ws hW (by rw[htk];omega))
   have HX:=Lib.hid (And.intro htk HR.out.below)
   clear HR hW htk hlen hfl
   go_wp2_with fail
   refine HY.out.mono ?_
   rintro e y ⟨rfl,hgy⟩
   obtain ⟨htk,hbe⟩:=HX.out
   rw[htk]
   go_wp2
   go_ret
   exact ⟨rfl,hbe.trans (Below.mono hgy hbe.size)⟩
  |succ k=>
   have hlt:i<f.size:=by omega
   have hlen:=M.runO_len (M.encBits (f.data.toList.take i)) M.start
   rw[M.encBits_len] at hlen
   have htl:(f.data.toList.take i).length≤i:=by rw[List.length_take];omega
   have HE:=Lib.hid (each_any 155 _ _ _ _ (Lib.hid (ei_cb (B:=w.heap.size) (g:=w.heap.size+1) (sb:=w.heap.size) (ib:=wr.heap.size) (wb:=x.heap.size) hlt (w0:=w) (s:=M.runS M.start (M.encBits (f.data.toList.take i))) (l:=M.runO M.start (M.encBits (f.data.toList.take i))) (by omega))) _ ⟨by omega,by simpa [bts,M.runS,M.runO] using HR.out.ei i⟩)
   clear hlen htl HR
   go_wp2_with fail
   refine HE.out.mono ?_
   rintro e y ⟨rfl,_,hI⟩
   replace hI:=Lib.hid hI.el
   go_wp2
   go_roundg k
   case measure=>omega
   case rel=>
    refine ⟨i+1,by omega,by rw[Int.natCast_add];rfl,?_⟩
    have h2:=hI.out
    rw[bts_8,←M.runS_append,←M.runO_append,←take_succ_enc f i hlt] at h2
    exact Lib.hid h2
end
end Go.Proofs.YtpdckpifhniioaaGreat.Cod
end
