/- Walk of Bounds. Printed by genB2.py. -/
import Derived.Test.YtmfmnoajihiidaaB1
set_option linter.unusedVariables false
namespace Go.Proofs.Ytmfmnoajihiidaa
open Go.RowKit
theorem r_bd {r : Rct.R} (he : Rct.emp r = false) (hr : Rct.valid r = true) : (-70000 ≤ r.x0 ∧ r.x0 ≤ 70000) ∧ (-70000 ≤ r.y0 ∧ r.y0 ≤ 70000) ∧ (-70000 ≤ r.x1 ∧ r.x1 ≤ 70000) ∧ (-70000 ≤ r.y1 ∧ r.y1 ≤ 70000) := by
  have h1 := Rct.emp_false he
  unfold Rct.valid at hr
  rw [he] at hr
  simp only [Bool.not_false, Bool.true_and, Bool.and_eq_true, decide_eq_true_eq] at hr
  omega
set_option maxRecDepth 100000 in
set_option maxHeartbeats 4000000 in
theorem Bounds_any (a : Af) (r : Rct.R) (w : World) :
    Calls Try.prog 22 #[.agg #[.int .i64 a.A, .int .i64 a.B, .int .i64 a.C, .int .i64 a.D, .int .i64 a.E, .int .i64 a.F, .int .i64 a.N], .agg #[.int .i64 r.x0, .int .i64 r.y0, .int .i64 r.x1, .int .i64 r.y1]] w fun e w' => e = .returned (.tuple #[.agg #[.int .i64 (ovr a r (a.bnd r)).1.x0, .int .i64 (ovr a r (a.bnd r)).1.y0, .int .i64 (ovr a r (a.bnd r)).1.x1, .int .i64 (ovr a r (a.bnd r)).1.y1], .int .i64 (ovr a r (a.bnd r)).2]) ∧ Grow w w' := by
  have HO : ∀ W : World, W.heap[w.heap.size]? = some (.cells #[.int .i64 a.A, .int .i64 a.B, .int .i64 a.C, .int .i64 a.D, .int .i64 a.E, .int .i64 a.F, .int .i64 a.N] 23 (0, 0)) → W.heap[w.heap.size + 1]? = some (.cells #[.int .i64 r.x0, .int .i64 r.y0, .int .i64 r.x1, .int .i64 r.y1] 48 (0, 0)) → Calls Try.prog 48 #[.agg #[.int .i64 a.A, .int .i64 a.B, .int .i64 a.C, .int .i64 a.D, .int .i64 a.E, .int .i64 a.F, .int .i64 a.N], .agg #[.int .i64 r.x0, .int .i64 r.y0, .int .i64 r.x1, .int .i64 r.y1], .func (.func 49) #[] #[.pointer (some ⟨w.heap.size + 1, 0, none⟩), .pointer (some ⟨w.heap.size, 0, none⟩)]] W fun e w' => e = .returned (.tuple #[.agg #[.int .i64 (ovr a r (a.bnd r)).1.x0, .int .i64 (ovr a r (a.bnd r)).1.y0, .int .i64 (ovr a r (a.bnd r)).1.x1, .int .i64 (ovr a r (a.bnd r)).1.y1], .int .i64 (ovr a r (a.bnd r)).2]) ∧ Grow W w' := by
    intro W r1 r2
    refine over_any a r (a.bnd r) 49 _ W (Lib.hid fun hv he hr => ⟨enters_fn Try.func49 (by kernel_rfl) rfl, fun x g => ?_⟩)
    have hb := r_bd he hr
    exact bnd1_any a hv r hb _ _ x (g.block r2) (g.block r1)
  replace HO := Lib.hid HO
  generalize ovr a r (a.bnd r) = oo at *
  go_enter Try.func22, Try.ntmps22
  go_upto_region 1 with fail
  refine wp_gen (fun W0 => W0.heap[w.heap.size]? = some (.cells #[.int .i64 a.A, .int .i64 a.B, .int .i64 a.C, .int .i64 a.D, .int .i64 a.E, .int .i64 a.F, .int .i64 a.N] 23 (0, 0)) ∧ W0.heap[w.heap.size + 1]? = some (.cells #[.int .i64 r.x0, .int .i64 r.y0, .int .i64 r.x1, .int .i64 r.y1] 48 (0, 0)) ∧ W0.heap[w.heap.size + 2]? = some (.cells #[.int .i64 0, .int .i64 0, .int .i64 0, .int .i64 0] 48 (0, 0)) ∧ Grow w W0) ⟨(Grow.alloc _ _).block ((Grow.alloc _ _).block (heap_alloc_new _ _)), (Grow.alloc _ _).block (heap_new' _ _ _ (by simp)), heap_new' _ _ _ (by simp), ((Grow.alloc w _).a _).a _⟩ ?_
  rintro W ⟨r1, r2, r3, hG⟩
  have c0 : W.cell? ⟨w.heap.size, 0, none⟩ = some (.int .i64 a.A) := by rw [cell_of_row W _ 0 _ _ _ r1]; rfl
  have c1 : W.cell? ⟨w.heap.size, 1, none⟩ = some (.int .i64 a.B) := by rw [cell_of_row W _ 1 _ _ _ r1]; rfl
  have c2 : W.cell? ⟨w.heap.size, 2, none⟩ = some (.int .i64 a.C) := by rw [cell_of_row W _ 2 _ _ _ r1]; rfl
  have c3 : W.cell? ⟨w.heap.size, 3, none⟩ = some (.int .i64 a.D) := by rw [cell_of_row W _ 3 _ _ _ r1]; rfl
  have c4 : W.cell? ⟨w.heap.size, 4, none⟩ = some (.int .i64 a.E) := by rw [cell_of_row W _ 4 _ _ _ r1]; rfl
  have c5 : W.cell? ⟨w.heap.size, 5, none⟩ = some (.int .i64 a.F) := by rw [cell_of_row W _ 5 _ _ _ r1]; rfl
  have c6 : W.cell? ⟨w.heap.size, 6, none⟩ = some (.int .i64 a.N) := by rw [cell_of_row W _ 6 _ _ _ r1]; rfl
  have k0 : W.cell? ⟨w.heap.size + 1, 0, none⟩ = some (.int .i64 r.x0) := by rw [cell_of_row W _ 0 _ _ _ r2]; rfl
  have k1 : W.cell? ⟨w.heap.size + 1, 1, none⟩ = some (.int .i64 r.y0) := by rw [cell_of_row W _ 1 _ _ _ r2]; rfl
  have k2 : W.cell? ⟨w.heap.size + 1, 2, none⟩ = some (.int .i64 r.x1) := by rw [cell_of_row W _ 2 _ _ _ r2]; rfl
  have k3 : W.cell? ⟨w.heap.size + 1, 3, none⟩ = some (.int .i64 r.y1) := by rw [cell_of_row W _ 3 _ _ _ r2]; rfl
  replace hG := Lib.hid hG
  replace r1 := Lib.hid r1
  replace r2 := Lib.hid r2
  replace r3 := Lib.hid r3
  go_wp2_with fail
  refine (HO.out _ r1.out r2.out).mono ?_
  rintro e y ⟨rfl, g⟩
  replace r3 := g.block r3.out
  replace hG := Lib.hid (hG.out.trans g)
  clear c0 c1 c2 c3 c4 c5 c6 k0 k1 k2 k3 g HO r1 r2
  have d0 : y.cell? ⟨w.heap.size + 2, 0, none⟩ = some (.int .i64 0) := by rw [cell_of_row y _ 0 _ _ _ r3]; rfl
  have d1 : y.cell? ⟨w.heap.size + 2, 1, none⟩ = some (.int .i64 0) := by rw [cell_of_row y _ 1 _ _ _ r3]; rfl
  have d2 : y.cell? ⟨w.heap.size + 2, 2, none⟩ = some (.int .i64 0) := by rw [cell_of_row y _ 2 _ _ _ r3]; rfl
  have d3 : y.cell? ⟨w.heap.size + 2, 3, none⟩ = some (.int .i64 0) := by rw [cell_of_row y _ 3 _ _ _ r3]; rfl
  have fd0 := frozen_of_row y (w.heap.size + 2) 0 _ _ r3
  have fd1 := frozen_of_row y (w.heap.size + 2) 1 _ _ r3
  have fd2 := frozen_of_row y (w.heap.size + 2) 2 _ _ r3
  have fd3 := frozen_of_row y (w.heap.size + 2) 3 _ _ r3
  replace r3 := Lib.hid r3
  go_wp2
  refine bodyPost_ret (results_cell48e rfl _ (w.heap.size + 2) _ _ _ _ _ _ rfl rfl (cells4 r3.out _ _ _ _)) rfl ⟨rfl, grow4 hG.out (by omega) _ _ _ _⟩
end Go.Proofs.Ytmfmnoajihiidaa
