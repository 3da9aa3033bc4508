/- Walk of the law's sanity. Printed by genSan.py. -/
import Derived.Test.YtmfmnoajihiidaaB2
import Derived.Test.YtmfmnoajihiidaaG
set_option linter.unusedVariables false
namespace Go.Proofs.Ytmfmnoajihiidaa
open Go.RowKit
theorem san1 : Af.thn ⟨1, 0, 1, 0, 1, 2, 1⟩ ⟨1, 0, 3, 0, 1, 4, 1⟩ = (⟨1, 0, 4, 0, 1, 6, 1⟩, 0) := by kernel_rfl
theorem san2 : Af.inv ⟨2, 0, 0, 0, 2, 0, 1⟩ = (⟨1, 0, 0, 0, 1, 0, 2⟩, 0) := by kernel_rfl
theorem san3 : Af.src ⟨2, 0, 0, 0, 2, 0, 1⟩ 3 (-1) = ((1, -1), 0) := by kernel_rfl
theorem san4 : ovr ⟨2, 0, 0, 0, 2, 0, 1⟩ ⟨0, 0, 2, 1⟩ (Af.bnd ⟨2, 0, 0, 0, 2, 0, 1⟩ ⟨0, 0, 2, 1⟩) = (⟨0, 0, 4, 2⟩, 0) := by kernel_rfl
set_option maxRecDepth 100000 in
set_option maxHeartbeats 4000000 in
theorem sanity_any (w : World) : Calls Try.prog 13 #[] w fun e w' => e = .returned (.bool true) ∧ Grow w w' := by
  have HT : ∀ w, Calls Try.prog 15 #[.agg #[.int .i64 1, .int .i64 0, .int .i64 1, .int .i64 0, .int .i64 1, .int .i64 2, .int .i64 1], .agg #[.int .i64 1, .int .i64 0, .int .i64 3, .int .i64 0, .int .i64 1, .int .i64 4, .int .i64 1]] w fun e w' => e = .returned (.tuple #[.agg #[.int .i64 1, .int .i64 0, .int .i64 4, .int .i64 0, .int .i64 1, .int .i64 6, .int .i64 1], .int .i64 0]) ∧ Grow w w' := by
    intro w
    have k := thn_any ⟨1, 0, 1, 0, 1, 2, 1⟩ ⟨1, 0, 3, 0, 1, 4, 1⟩ w
    rw [san1] at k
    exact k
  have HI : ∀ w, Calls Try.prog 16 #[.agg #[.int .i64 2, .int .i64 0, .int .i64 0, .int .i64 0, .int .i64 2, .int .i64 0, .int .i64 1]] w fun e w' => e = .returned (.tuple #[.agg #[.int .i64 1, .int .i64 0, .int .i64 0, .int .i64 0, .int .i64 1, .int .i64 0, .int .i64 2], .int .i64 0]) ∧ Grow w w' := by
    intro w
    have k := inv_any ⟨2, 0, 0, 0, 2, 0, 1⟩ w
    rw [san2] at k
    exact k
  have HS : ∀ w, Calls Try.prog 19 #[.agg #[.int .i64 2, .int .i64 0, .int .i64 0, .int .i64 0, .int .i64 2, .int .i64 0, .int .i64 1], .agg #[.int .i64 3, .int .i64 (-1)]] w fun e w' => e = .returned (.tuple #[.agg #[.int .i64 1, .int .i64 (-1)], .int .i64 0]) ∧ Grow w w' := by
    intro w
    have k := Source_any ⟨2, 0, 0, 0, 2, 0, 1⟩ 3 (-1) w
    rw [san3] at k
    exact k
  have HB : ∀ w, Calls Try.prog 22 #[.agg #[.int .i64 2, .int .i64 0, .int .i64 0, .int .i64 0, .int .i64 2, .int .i64 0, .int .i64 1], .agg #[.int .i64 0, .int .i64 0, .int .i64 2, .int .i64 1]] w fun e w' => e = .returned (.tuple #[.agg #[.int .i64 0, .int .i64 0, .int .i64 4, .int .i64 2], .int .i64 0]) ∧ Grow w w' := by
    intro w
    have k := Bounds_any ⟨2, 0, 0, 0, 2, 0, 1⟩ ⟨0, 0, 2, 1⟩ w
    rw [san4] at k
    exact k
  replace HT := Lib.hid HT
  replace HI := Lib.hid HI
  replace HS := Lib.hid HS
  replace HB := Lib.hid HB
  have H1 := Lib.hid (shift_any 1 2)
  have H2 := Lib.hid (shift_any 3 4)
  have H3 := Lib.hid (shift_any 4 6)
  go_enter Try.func13, Try.ntmps13
  go_upto_region 2 with fail
  refine wp_gen (fun W0 => W0.heap[w.heap.size]? = some (.cells #[.int .i64 2, .int .i64 0, .int .i64 0, .int .i64 0, .int .i64 2, .int .i64 0, .int .i64 1] 23 (0, 0)) ∧ Grow w W0) ⟨heap_alloc_new _ _, Grow.alloc _ _⟩ ?_
  rintro W ⟨q1, hG⟩
  replace q1 := Lib.hid q1
  replace hG := Lib.hid hG
  go_wp2_with fail
  refine (H1.out _).mono ?_
  rintro e x1 ⟨rfl, g⟩
  replace q1 := Lib.hid (g.block q1.out)
  replace hG := Lib.hid (hG.out.trans g)
  clear g
  go_wp2_with fail
  refine (H2.out _).mono ?_
  rintro e x2 ⟨rfl, g⟩
  replace q1 := Lib.hid (g.block q1.out)
  replace hG := Lib.hid (hG.out.trans g)
  clear g
  go_wp2_with fail
  refine (HT.out _).mono ?_
  rintro e x3 ⟨rfl, g⟩
  replace q1 := Lib.hid (g.block q1.out)
  replace hG := Lib.hid (hG.out.trans g)
  clear g
  go_upto_region 3 with fail
  refine wp_gen (fun W0 => W0.heap[w.heap.size]? = some (.cells #[.int .i64 2, .int .i64 0, .int .i64 0, .int .i64 0, .int .i64 2, .int .i64 0, .int .i64 1] 23 (0, 0)) ∧ W0.heap[x3.heap.size]? = some (.cells #[.int .i64 1, .int .i64 0, .int .i64 4, .int .i64 0, .int .i64 1, .int .i64 6, .int .i64 1] 23 (0, 0)) ∧ Grow w W0) ⟨(Grow.alloc _ _).block q1.out, heap_alloc_new _ _, hG.out.a _⟩ ?_
  clear q1 hG
  rintro W1 ⟨q1, q2, hG⟩
  have c0 : W1.cell? ⟨w.heap.size, 0, none⟩ = some (.int .i64 2) := by rw [cell_of_row W1 _ 0 _ _ _ q1]; rfl
  have c1 : W1.cell? ⟨w.heap.size, 1, none⟩ = some (.int .i64 0) := by rw [cell_of_row W1 _ 1 _ _ _ q1]; rfl
  have c2 : W1.cell? ⟨w.heap.size, 2, none⟩ = some (.int .i64 0) := by rw [cell_of_row W1 _ 2 _ _ _ q1]; rfl
  have c3 : W1.cell? ⟨w.heap.size, 3, none⟩ = some (.int .i64 0) := by rw [cell_of_row W1 _ 3 _ _ _ q1]; rfl
  have c4 : W1.cell? ⟨w.heap.size, 4, none⟩ = some (.int .i64 2) := by rw [cell_of_row W1 _ 4 _ _ _ q1]; rfl
  have c5 : W1.cell? ⟨w.heap.size, 5, none⟩ = some (.int .i64 0) := by rw [cell_of_row W1 _ 5 _ _ _ q1]; rfl
  have c6 : W1.cell? ⟨w.heap.size, 6, none⟩ = some (.int .i64 1) := by rw [cell_of_row W1 _ 6 _ _ _ q1]; rfl
  replace q1 := Lib.hid q1
  replace q2 := Lib.hid q2
  replace hG := Lib.hid hG
  go_wp2_with fail
  refine (HI.out _).mono ?_
  rintro e x4 ⟨rfl, g⟩
  replace q1 := Lib.hid (g.block q1.out)
  replace q2 := Lib.hid (g.block q2.out)
  replace hG := Lib.hid (hG.out.trans g)
  clear g
  clear c0 c1 c2 c3 c4 c5 c6
  go_upto_region 4 with fail
  refine wp_gen (fun W0 => W0.heap[w.heap.size]? = some (.cells #[.int .i64 2, .int .i64 0, .int .i64 0, .int .i64 0, .int .i64 2, .int .i64 0, .int .i64 1] 23 (0, 0)) ∧ W0.heap[x3.heap.size]? = some (.cells #[.int .i64 1, .int .i64 0, .int .i64 4, .int .i64 0, .int .i64 1, .int .i64 6, .int .i64 1] 23 (0, 0)) ∧ W0.heap[x4.heap.size]? = some (.cells #[.int .i64 1, .int .i64 0, .int .i64 0, .int .i64 0, .int .i64 1, .int .i64 0, .int .i64 2] 23 (0, 0)) ∧ Grow w W0) ⟨(Grow.alloc _ _).block q1.out, (Grow.alloc _ _).block q2.out, heap_alloc_new _ _, hG.out.a _⟩ ?_
  clear q1 q2 hG
  rintro W2 ⟨q1, q2, q3, hG⟩
  have c0 : W2.cell? ⟨w.heap.size, 0, none⟩ = some (.int .i64 2) := by rw [cell_of_row W2 _ 0 _ _ _ q1]; rfl
  have c1 : W2.cell? ⟨w.heap.size, 1, none⟩ = some (.int .i64 0) := by rw [cell_of_row W2 _ 1 _ _ _ q1]; rfl
  have c2 : W2.cell? ⟨w.heap.size, 2, none⟩ = some (.int .i64 0) := by rw [cell_of_row W2 _ 2 _ _ _ q1]; rfl
  have c3 : W2.cell? ⟨w.heap.size, 3, none⟩ = some (.int .i64 0) := by rw [cell_of_row W2 _ 3 _ _ _ q1]; rfl
  have c4 : W2.cell? ⟨w.heap.size, 4, none⟩ = some (.int .i64 2) := by rw [cell_of_row W2 _ 4 _ _ _ q1]; rfl
  have c5 : W2.cell? ⟨w.heap.size, 5, none⟩ = some (.int .i64 0) := by rw [cell_of_row W2 _ 5 _ _ _ q1]; rfl
  have c6 : W2.cell? ⟨w.heap.size, 6, none⟩ = some (.int .i64 1) := by rw [cell_of_row W2 _ 6 _ _ _ q1]; rfl
  replace q1 := Lib.hid q1
  replace q2 := Lib.hid q2
  replace q3 := Lib.hid q3
  replace hG := Lib.hid hG
  go_wp2_with fail
  refine (HS.out _).mono ?_
  rintro e x5 ⟨rfl, g⟩
  replace q1 := Lib.hid (g.block q1.out)
  replace q2 := Lib.hid (g.block q2.out)
  replace q3 := Lib.hid (g.block q3.out)
  replace hG := Lib.hid (hG.out.trans g)
  clear g
  clear c0 c1 c2 c3 c4 c5 c6
  go_upto_region 5 with fail
  refine wp_gen (fun W0 => W0.heap[w.heap.size]? = some (.cells #[.int .i64 2, .int .i64 0, .int .i64 0, .int .i64 0, .int .i64 2, .int .i64 0, .int .i64 1] 23 (0, 0)) ∧ W0.heap[x3.heap.size]? = some (.cells #[.int .i64 1, .int .i64 0, .int .i64 4, .int .i64 0, .int .i64 1, .int .i64 6, .int .i64 1] 23 (0, 0)) ∧ W0.heap[x4.heap.size]? = some (.cells #[.int .i64 1, .int .i64 0, .int .i64 0, .int .i64 0, .int .i64 1, .int .i64 0, .int .i64 2] 23 (0, 0)) ∧ W0.heap[x5.heap.size]? = some (.cells #[.int .i64 1, .int .i64 (-1)] 41 (0, 0)) ∧ Grow w W0) ⟨(Grow.alloc _ _).block q1.out, (Grow.alloc _ _).block q2.out, (Grow.alloc _ _).block q3.out, heap_alloc_new _ _, hG.out.a _⟩ ?_
  clear q1 q2 q3 hG
  rintro W3 ⟨q1, q2, q3, q4, hG⟩
  have c0 : W3.cell? ⟨w.heap.size, 0, none⟩ = some (.int .i64 2) := by rw [cell_of_row W3 _ 0 _ _ _ q1]; rfl
  have c1 : W3.cell? ⟨w.heap.size, 1, none⟩ = some (.int .i64 0) := by rw [cell_of_row W3 _ 1 _ _ _ q1]; rfl
  have c2 : W3.cell? ⟨w.heap.size, 2, none⟩ = some (.int .i64 0) := by rw [cell_of_row W3 _ 2 _ _ _ q1]; rfl
  have c3 : W3.cell? ⟨w.heap.size, 3, none⟩ = some (.int .i64 0) := by rw [cell_of_row W3 _ 3 _ _ _ q1]; rfl
  have c4 : W3.cell? ⟨w.heap.size, 4, none⟩ = some (.int .i64 2) := by rw [cell_of_row W3 _ 4 _ _ _ q1]; rfl
  have c5 : W3.cell? ⟨w.heap.size, 5, none⟩ = some (.int .i64 0) := by rw [cell_of_row W3 _ 5 _ _ _ q1]; rfl
  have c6 : W3.cell? ⟨w.heap.size, 6, none⟩ = some (.int .i64 1) := by rw [cell_of_row W3 _ 6 _ _ _ q1]; rfl
  replace q1 := Lib.hid q1
  replace q2 := Lib.hid q2
  replace q3 := Lib.hid q3
  replace q4 := Lib.hid q4
  replace hG := Lib.hid hG
  go_wp2_with fail
  refine (HB.out _).mono ?_
  rintro e x6 ⟨rfl, g⟩
  replace q1 := Lib.hid (g.block q1.out)
  replace q2 := Lib.hid (g.block q2.out)
  replace q3 := Lib.hid (g.block q3.out)
  replace q4 := Lib.hid (g.block q4.out)
  replace hG := Lib.hid (hG.out.trans g)
  clear g
  clear c0 c1 c2 c3 c4 c5 c6
  go_upto_region 7 with fail
  refine wp_gen (fun W0 => W0.heap[w.heap.size]? = some (.cells #[.int .i64 2, .int .i64 0, .int .i64 0, .int .i64 0, .int .i64 2, .int .i64 0, .int .i64 1] 23 (0, 0)) ∧ W0.heap[x3.heap.size]? = some (.cells #[.int .i64 1, .int .i64 0, .int .i64 4, .int .i64 0, .int .i64 1, .int .i64 6, .int .i64 1] 23 (0, 0)) ∧ W0.heap[x4.heap.size]? = some (.cells #[.int .i64 1, .int .i64 0, .int .i64 0, .int .i64 0, .int .i64 1, .int .i64 0, .int .i64 2] 23 (0, 0)) ∧ W0.heap[x5.heap.size]? = some (.cells #[.int .i64 1, .int .i64 (-1)] 41 (0, 0)) ∧ W0.heap[x6.heap.size]? = some (.cells #[.int .i64 0, .int .i64 0, .int .i64 4, .int .i64 2] 48 (0, 0)) ∧ Grow w W0) ⟨(Grow.alloc _ _).block q1.out, (Grow.alloc _ _).block q2.out, (Grow.alloc _ _).block q3.out, (Grow.alloc _ _).block q4.out, heap_alloc_new _ _, hG.out.a _⟩ ?_
  clear q1 q2 q3 q4 hG
  rintro W4 ⟨q1, q2, q3, q4, q5, hG⟩
  have hcell : ∀ x, Grow W4 x → x.cell? ⟨x3.heap.size, 0, none⟩ = some (.int .i64 1) ∧ x.cell? ⟨x3.heap.size, 1, none⟩ = some (.int .i64 0) ∧ x.cell? ⟨x3.heap.size, 2, none⟩ = some (.int .i64 4) ∧ x.cell? ⟨x3.heap.size, 3, none⟩ = some (.int .i64 0) ∧ x.cell? ⟨x3.heap.size, 4, none⟩ = some (.int .i64 1) ∧ x.cell? ⟨x3.heap.size, 5, none⟩ = some (.int .i64 6) ∧ x.cell? ⟨x3.heap.size, 6, none⟩ = some (.int .i64 1) ∧ x.cell? ⟨x4.heap.size, 0, none⟩ = some (.int .i64 1) ∧ x.cell? ⟨x4.heap.size, 1, none⟩ = some (.int .i64 0) ∧ x.cell? ⟨x4.heap.size, 2, none⟩ = some (.int .i64 0) ∧ x.cell? ⟨x4.heap.size, 3, none⟩ = some (.int .i64 0) ∧ x.cell? ⟨x4.heap.size, 4, none⟩ = some (.int .i64 1) ∧ x.cell? ⟨x4.heap.size, 5, none⟩ = some (.int .i64 0) ∧ x.cell? ⟨x4.heap.size, 6, none⟩ = some (.int .i64 2) ∧ x.cell? ⟨x5.heap.size, 0, none⟩ = some (.int .i64 1) ∧ x.cell? ⟨x5.heap.size, 1, none⟩ = some (.int .i64 (-1)) ∧ x.cell? ⟨x6.heap.size, 0, none⟩ = some (.int .i64 0) ∧ x.cell? ⟨x6.heap.size, 1, none⟩ = some (.int .i64 0) ∧ x.cell? ⟨x6.heap.size, 2, none⟩ = some (.int .i64 4) ∧ x.cell? ⟨x6.heap.size, 3, none⟩ = some (.int .i64 2) := by
    intro x g
    have q2 := g.block q2
    have q3 := g.block q3
    have q4 := g.block q4
    have q5 := g.block q5
    have c0 : x.cell? ⟨x3.heap.size, 0, none⟩ = some (.int .i64 1) := by rw [cell_of_row x _ 0 _ _ _ q2]; rfl
    have c1 : x.cell? ⟨x3.heap.size, 1, none⟩ = some (.int .i64 0) := by rw [cell_of_row x _ 1 _ _ _ q2]; rfl
    have c2 : x.cell? ⟨x3.heap.size, 2, none⟩ = some (.int .i64 4) := by rw [cell_of_row x _ 2 _ _ _ q2]; rfl
    have c3 : x.cell? ⟨x3.heap.size, 3, none⟩ = some (.int .i64 0) := by rw [cell_of_row x _ 3 _ _ _ q2]; rfl
    have c4 : x.cell? ⟨x3.heap.size, 4, none⟩ = some (.int .i64 1) := by rw [cell_of_row x _ 4 _ _ _ q2]; rfl
    have c5 : x.cell? ⟨x3.heap.size, 5, none⟩ = some (.int .i64 6) := by rw [cell_of_row x _ 5 _ _ _ q2]; rfl
    have c6 : x.cell? ⟨x3.heap.size, 6, none⟩ = some (.int .i64 1) := by rw [cell_of_row x _ 6 _ _ _ q2]; rfl
    have d0 : x.cell? ⟨x4.heap.size, 0, none⟩ = some (.int .i64 1) := by rw [cell_of_row x _ 0 _ _ _ q3]; rfl
    have d1 : x.cell? ⟨x4.heap.size, 1, none⟩ = some (.int .i64 0) := by rw [cell_of_row x _ 1 _ _ _ q3]; rfl
    have d2 : x.cell? ⟨x4.heap.size, 2, none⟩ = some (.int .i64 0) := by rw [cell_of_row x _ 2 _ _ _ q3]; rfl
    have d3 : x.cell? ⟨x4.heap.size, 3, none⟩ = some (.int .i64 0) := by rw [cell_of_row x _ 3 _ _ _ q3]; rfl
    have d4 : x.cell? ⟨x4.heap.size, 4, none⟩ = some (.int .i64 1) := by rw [cell_of_row x _ 4 _ _ _ q3]; rfl
    have d5 : x.cell? ⟨x4.heap.size, 5, none⟩ = some (.int .i64 0) := by rw [cell_of_row x _ 5 _ _ _ q3]; rfl
    have d6 : x.cell? ⟨x4.heap.size, 6, none⟩ = some (.int .i64 2) := by rw [cell_of_row x _ 6 _ _ _ q3]; rfl
    have m0 : x.cell? ⟨x5.heap.size, 0, none⟩ = some (.int .i64 1) := by rw [cell_of_row x _ 0 _ _ _ q4]; rfl
    have m1 : x.cell? ⟨x5.heap.size, 1, none⟩ = some (.int .i64 (-1)) := by rw [cell_of_row x _ 1 _ _ _ q4]; rfl
    have n0 : x.cell? ⟨x6.heap.size, 0, none⟩ = some (.int .i64 0) := by rw [cell_of_row x _ 0 _ _ _ q5]; rfl
    have n1 : x.cell? ⟨x6.heap.size, 1, none⟩ = some (.int .i64 0) := by rw [cell_of_row x _ 1 _ _ _ q5]; rfl
    have n2 : x.cell? ⟨x6.heap.size, 2, none⟩ = some (.int .i64 4) := by rw [cell_of_row x _ 2 _ _ _ q5]; rfl
    have n3 : x.cell? ⟨x6.heap.size, 3, none⟩ = some (.int .i64 2) := by rw [cell_of_row x _ 3 _ _ _ q5]; rfl
    exact ⟨c0, c1, c2, c3, c4, c5, c6, d0, d1, d2, d3, d4, d5, d6, m0, m1, n0, n1, n2, n3⟩
  replace q1 := Lib.hid q1
  replace q2 := Lib.hid q2
  replace q3 := Lib.hid q3
  replace q4 := Lib.hid q4
  replace q5 := Lib.hid q5
  replace hG := Lib.hid hG
  replace hcell := Lib.hid hcell
  refine q_region (C := fun x => Grow W4 x) rfl (by kernel_rfl) (Grow.drew _) ?_
  repeat (first
    | go_big_quiet_skip
    | (go_big_quiet_want; refine q_val ?_; apply Exists.intro; refine ⟨fun x hx => ?_, ?_⟩; (focus (obtain ⟨c0, c1, c2, c3, c4, c5, c6, d0, d1, d2, d3, d4, d5, d6, m0, m1, n0, n1, n2, n3⟩ := hcell.out x hx; go_simp <;> rfl)); simp only [Act.put, List.setIfInBounds_toArray, List.set_cons_zero, List.set_cons_succ]; go_big_quiet_on)
    | (go_big_quiet_want; refine q_call 25 ?_; apply Exists.intro; refine ⟨fun x hx => ?_, ?_⟩; (focus (go_simp <;> rfl)); apply Exists.intro; refine ⟨fun x hx => ?_, ?_⟩; (focus (exact (H3.out _).mono fun e w' h => ⟨h.1, Grow.trans hx h.2⟩)); simp only [Act.put, List.setIfInBounds_toArray, List.set_cons_zero, List.set_cons_succ]; go_big_quiet_on))
  refine wpQuiet_nil ?_
  intro x g
  have hG2 := hG.out.trans g
  replace hG2 := Lib.hid hG2
  go_wp2
  go_ret
  exact ⟨rfl, hG2.out⟩
end Go.Proofs.Ytmfmnoajihiidaa
