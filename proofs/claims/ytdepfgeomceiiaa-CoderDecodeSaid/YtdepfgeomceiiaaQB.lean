/- Walk of the reference's begin. -/
import Derived.Test.YtdepfgeomceiiaaQ
import Derived.Test.YtdepfgeomceiiaaV
import Derived.Deep.WholeRow
import Derived.Deep.DeepCutAuto
import Derived.Deep.CutBlock
import Derived.Deep.LoopGhost
set_option linter.unusedVariables false
namespace Go.Proofs.Ytdepfgeomceiiaa
open Go.RowKit
theorem bgrow {B : Nat} {W w w' : World} (h : Below B W w) (hB : B ≤ w.heap.size) (hg : Grow w w') : Below B W w' := h.trans (Below.mono hg hB)
theorem Try.zero56 (w : World) : (zeroValue 56).run Try.prog w = .ok (.agg (cv 258 (cr (fun _ => 0) 0 0 (fun _ => undef)))) w := by kernel_rfl
theorem isAgg56 (w : World) : (isAgg 56).run Try.prog w = .ok true w := by kernel_rfl
theorem sizeOf56 (w : World) : (sizeOf 56).run Try.prog w = .ok 258 w := by kernel_rfl
theorem run_ld56 {o : Oper} {ρ : Operand → Value} {x : World} {y : Operand} (a : Addr) (S : Array Value) (ho : o.op = .load 56 y) (hy : ρ y = .pointer (some a)) (h : (loadCellsFrom a 0 258 #[]).run Try.prog x = .ok S x) : (execOp ρ o).run Try.prog x = .ok (.value (.agg S)) x := by
  unfold execOp; rw [ho]; simp only [hy]
  simp only [Instr.loadAt, Instr.sureAddr, loadVar, Sem.run_bind, Sem.run_pure, Result.andThen, isAgg56, sizeOf56, loadCells, h, if_true]
theorem results_cell56 {fn : Func} {t : Tmp} (h : fn.results = #[.cell t 56]) (tmps : Array Value) (p : Addr) (S : Array Value) (w : World) (ht : tmps[t]?.getD undef = .pointer (some p)) (hl : (loadCellsFrom p 0 258 #[]).run Try.prog w = .ok S w) :
    (results fn tmps).run Try.prog w = .ok (.agg S) w := by
  simp [results, h, ht, asAddr, loadVar, loadCells, hl]
theorem info56 : (Try.prog.info? 56).map (·.size) = some 258 := by kernel_rfl
theorem cv_one (n : Nat) (C : Nat → Value) (h : ∀ i, i < n → (C i).oneCell' = true) : (cv n C).all (·.oneCell') = true := by
  rw [Array.all_eq_true]
  intro i hi
  have hi' : i < n := by simpa [cv_size] using hi
  have := cv_at n C i hi'
  rw [Array.getElem?_eq_getElem hi] at this
  rw [Option.some.inj this]
  exact h i hi'
theorem cr_one (p : Nat → Int) (lo hi : Int) (X : Nat → Value) : ∀ i, i < 258 → (cr p lo hi X i).oneCell' = true := by
  intro i h
  unfold cr
  by_cases h1 : i < 256
  · rw [if_pos h1]; rfl
  · rw [if_neg h1]
    by_cases h2 : i = 256
    · rw [if_pos h2]; rfl
    · rw [if_neg h2, if_pos (by omega)]; rfl
/-- A whole struct out of a block. -/
theorem load_blk {w : World} {g t n : Nat} {C : Nat → Value} (h : Blk w g t n C) (m : Nat) (hm : m ≤ n) : (loadCellsFrom ⟨g, 0, none⟩ 0 m #[]).run Try.prog w = .ok (cv m C) w := by
  have := run_loadCells (P := Try.prog) (w := w) ⟨g, 0, none⟩ m C (fun j hj => by
    have hadd : (⟨g, 0, none⟩ : Addr).add j = ⟨g, j, none⟩ := by unfold Addr.add; split <;> simp_all
    rw [hadd]; exact h.cell j (by omega))
  exact this
/-- A whole struct into a block. -/
theorem store_blk {w : World} {g t n : Nat} {C D : Nat → Value} (h : Blk w g t n C) (h1 : ∀ i, i < n → (D i).oneCell' = true) : ∃ w', (storeCells ⟨g, 0, none⟩ (cv n D).toList 0).run Try.prog w = .ok () w' ∧ Blk w' g t n D ∧ Chg g none w w' := by
  refine ⟨_, run_storeCells_from (P := Try.prog) g t _ 0 _ w h (by simp [cv_size]) (fun v hv => ?_), ?_, ?_⟩
  · have := Array.all_eq_true.1 (cv_one n D h1)
    obtain ⟨i, hi, rfl⟩ := Array.mem_iff_getElem.1 (Array.mem_toList_iff.1 hv)
    exact this i hi
  · unfold Blk
    rw [setRow_heap w g _ _ t (0, 0) h]
    simp
  · refine ⟨rfl, rfl, rfl, by simp [World.setRow], fun k hk hg _ => ?_⟩
    simp only [World.setRow, Array.getElem?_modify]
    rw [if_neg (Ne.symm hg)]
set_option maxRecDepth 100000 in
set_option maxHeartbeats 1000000 in
theorem begin_any (w : World) : Calls Try.prog 35 #[] w fun e w' => e = .returned (.agg (cv 258 (cr M.start.p M.start.lo M.start.hi (fun _ => undef)))) ∧ Grow w w' := by
  have hz := Try.zero56
  have hset := cv_set 258 (cr (fun _ => 0) 0 0 (fun _ => undef)) 257 (.int .u32 4294967295)
  rw [cr_put_en] at hset
  have hzs : ¬ (cv 258 (cr (fun _ => 0) 0 0 (fun _ => undef))).size < 258 := by rw [cv_size]; omega
  have hze : (cv 258 (cr (fun _ => 0) 0 0 (fun _ => undef))).size = 258 := cv_size _ _
  have hb0 : Blk ((w.alloc (.cells (cv 258 (cr (fun _ => 0) 0 0 (fun _ => undef))) 56)).alloc (.cells (cv 258 (cr (fun _ => 0) 0 0 (fun _ => undef))) 56)) w.heap.size 56 258 (cr (fun _ => 0) 0 0 (fun _ => undef)) := (Grow.alloc _ _).block (heap_alloc_new _ _)
  have hb1 : Blk ((w.alloc (.cells (cv 258 (cr (fun _ => 0) 0 0 (fun _ => undef))) 56)).alloc (.cells (cv 258 (cr (fun _ => 0) 0 0 (fun _ => undef))) 56)) (w.heap.size + 1) 56 258 (cr (fun _ => 0) 0 0 (fun _ => undef)) := by
    have := heap_alloc_new (w.alloc (.cells (cv 258 (cr (fun _ => 0) 0 0 (fun _ => undef))) 56)) (.cells (cv 258 (cr (fun _ => 0) 0 0 (fun _ => undef))) 56)
    unfold Blk; simpa using this
  obtain ⟨W1, hst, hb2, hc⟩ := store_blk (D := cr (fun _ => 0) 0 4294967295 (fun _ => undef)) hb1 (cr_one _ _ _ _)
  rw [← hset] at hst
  rw [Array.toList_setIfInBounds] at hst
  have hG : Hid (Grow w W1 ∧ Blk W1 w.heap.size 56 258 (cr (fun _ => 0) 0 0 (fun _ => undef)) ∧ Blk W1 (w.heap.size + 1) 56 258 (cr (fun k => if k < 0 then 2048 else 0) 0 4294967295 (fun _ => undef))) := by
    refine Lib.hid ⟨?_, hc.blk hb0 (by omega) (by simp), hb2⟩
    have g1 : Below w.heap.size w (w.alloc (.cells (cv 258 (cr (fun _ => 0) 0 0 (fun _ => undef))) 56)) := Grow.alloc _ _
    have g2 := bgrow g1 (by simp) (Grow.alloc _ (.cells (cv 258 (cr (fun _ => 0) 0 0 (fun _ => undef))) 56))
    exact g2.trans (hc.below (by omega) (by simp) g2.size)
  clear hb0 hb1 hb2 hc
  generalize hZ : cv 258 (cr (fun _ => 0) 0 0 (fun _ => undef)) = Z at *
  clear hZ
  replace hset := Lib.hid hset
  go_enter Try.func35, Try.ntmps35
  go_upto_block 1 with fail
  clear hst hz hzs hze hset
  obtain ⟨g0, hg0⟩ : ∃ g0, g0 = w.heap.size := ⟨_, rfl⟩
  go_loopg [2] 256 (fun k s2 wr => ∃ i, i + k = 256 ∧ s2 = .int .i64 (i : Int) ∧ Hid (Grow w wr ∧ Blk wr w.heap.size 56 258 (cr (fun _ => 0) 0 0 (fun _ => undef)) ∧ Blk wr (w.heap.size + 1) 56 258 (cr (fun k => if k < i then 2048 else 0) 0 4294967295 (fun _ => undef))))
  case atStart => exact ⟨0, rfl, rfl, hG⟩
  case round =>
    obtain ⟨i, hik, rfl, HR⟩ := hrel
    clear hG
    cases gk with
    | zero =>
      obtain rfl : i = 256 := by omega
      obtain ⟨r1, r2, r3⟩ := HR.out
      have hC : ∀ j, j < 258 → cr (fun k => if k < 256 then 2048 else 0) 0 4294967295 (fun _ => undef) j = cr M.start.p M.start.lo M.start.hi (fun _ => undef) j := by
        intro j hj
        unfold cr
        by_cases h1 : j < 256
        · simp [h1, M.start]
        · rw [if_neg h1, if_neg h1]; rfl
      replace r3 := r3.congr hC
      have hld := load_blk r3 258 (Nat.le_refl _)
      obtain ⟨W2, hst, s1, s2⟩ := store_blk (D := cr M.start.p M.start.lo M.start.hi (fun _ => undef)) r2 (cr_one _ _ _ _)
      have hld2 := load_blk s1 258 (Nat.le_refl _)
      have hG2 : Hid (Grow w W2) := Lib.hid (Below.trans (B := w.heap.size) r1 (s2.below (by omega) (by simp) (Below.size r1)))
      clear r1 r2 r3 s1 s2 HR hC
      have hSs : (cv 258 (cr M.start.p M.start.lo M.start.hi (fun _ => undef))).size = 258 := cv_size _ _
      generalize hSe : cv 258 (cr M.start.p M.start.lo M.start.hi (fun _ => undef)) = S at *
      replace hSe := Lib.hid hSe
      go_wp2
      unfold Oper.wp
      rw [run_ld56 ⟨w.heap.size + 1, 0, none⟩ S rfl rfl hld, Oper.upon_value]
      go_wp2
      exact bodyPost_ret (results_cell56 rfl _ ⟨w.heap.size, 0, none⟩ S _ rfl hld2) rfl ⟨by rw [hSe.out], hG2.out⟩
    | succ k =>
      have hlt : (i : Int) < 256 := by omega
      obtain ⟨r1, r2, r3⟩ := HR.out
      have c0 : wr.cell? ⟨w.heap.size + 1, i, none⟩ = some (.int .i64 (if i < i then 2048 else 0)) := by rw [r3.cell i (by omega), cr_p i (by omega)]
      rw [if_neg (by omega)] at c0
      have f0 := r3.free i
      have hN : Hid (Grow w (wr.setCell ⟨w.heap.size + 1, i, none⟩ (.int .i64 2048)) ∧ Blk (wr.setCell ⟨w.heap.size + 1, i, none⟩ (.int .i64 2048)) w.heap.size 56 258 (cr (fun _ => 0) 0 0 (fun _ => undef)) ∧ Blk (wr.setCell ⟨w.heap.size + 1, i, none⟩ (.int .i64 2048)) (w.heap.size + 1) 56 258 (cr (fun k => if k < i + 1 then 2048 else 0) 0 4294967295 (fun _ => undef))) := by
        refine Lib.hid ⟨?_, r2.other _ _ (by show w.heap.size ≠ w.heap.size + 1; omega), ?_⟩
        · exact Below.setCell (B := w.heap.size) r1 (p := ⟨w.heap.size + 1, i, none⟩) (by show w.heap.size ≤ w.heap.size + 1; omega) _
        · have := r3.set i (.int .i64 2048)
          rw [cr_put_p i (by omega)] at this
          refine this.congr fun j hj => ?_
          congr 1
          funext t
          unfold M.put
          dsimp only
          by_cases h1 : t = i
          · subst h1; simp
          · rw [if_neg h1]
            by_cases h2 : t < i
            · rw [if_pos h2, if_pos (by omega)]
            · rw [if_neg h2, if_neg (by omega)]
      clear r1 r2 r3 HR
      go_wp2
      go_roundg k
      case measure => omega
      case rel => exact ⟨i + 1, by omega, by rw [Int.natCast_add]; rfl, hN⟩
end Go.Proofs.Ytdepfgeomceiiaa
