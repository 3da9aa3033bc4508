/- Walks of Shift, Identity, Reduce, checked. Printed by genE.py. -/
import Derived.Test.YtmfmnoajihiidaaD
set_option linter.unusedVariables false
namespace Go.Proofs.Ytmfmnoajihiidaa
open Go.RowKit
theorem results_cell23e {fn : Func} {t u : Tmp} (h : fn.results = #[.cell t 23, .tmp u]) (tmps : Array Value) (g : Nat) (a0 a1 a2 a3 a4 a5 a6 v : Value) (w : World) (ht : tmps[t]?.getD undef = .pointer (some ⟨g, 0, none⟩)) (hu : tmps[u]?.getD undef = v) (hl : w.heap[g]? = some (.cells #[a0, a1, a2, a3, a4, a5, a6] 23 (0, 0))) :
    (results fn tmps).run Try.prog w = .ok (.tuple #[.agg #[a0, a1, a2, a3, a4, a5, a6], v]) w := by
  have c0 : w.cell? ⟨g, 0, none⟩ = some a0 := by rw [cell_of_row w _ 0 _ _ _ hl]; rfl
  have c1 : w.cell? ⟨g, 1, none⟩ = some a1 := by rw [cell_of_row w _ 1 _ _ _ hl]; rfl
  have c2 : w.cell? ⟨g, 2, none⟩ = some a2 := by rw [cell_of_row w _ 2 _ _ _ hl]; rfl
  have c3 : w.cell? ⟨g, 3, none⟩ = some a3 := by rw [cell_of_row w _ 3 _ _ _ hl]; rfl
  have c4 : w.cell? ⟨g, 4, none⟩ = some a4 := by rw [cell_of_row w _ 4 _ _ _ hl]; rfl
  have c5 : w.cell? ⟨g, 5, none⟩ = some a5 := by rw [cell_of_row w _ 5 _ _ _ hl]; rfl
  have c6 : w.cell? ⟨g, 6, none⟩ = some a6 := by rw [cell_of_row w _ 6 _ _ _ hl]; rfl
  simp [results, h, ht, hu, asAddr, loadVar, loadCells, loadCellsFrom, Addr.add, c0, c1, c2, c3, c4, c5, c6]
/-- A placement as a value. -/
theorem sm_val {a : Af} (h : a.val = true) : Sm a 268435456 := by
  obtain ⟨h1, h2, h3, h4, h5, h6, h7, h8, h9⟩ := a.val_iff.1 h
  exact ⟨by omega, by omega, by omega, by omega, by omega, by omega, by omega⟩
theorem sm_mono {a : Af} {m n : Nat} (h : Sm a m) (k : m ≤ n) : Sm a n := by
  obtain ⟨h1, h2, h3, h4, h5, h6, h7⟩ := h
  exact ⟨by omega, by omega, by omega, by omega, by omega, by omega, by omega⟩
theorem other7 {y : World} {g k : Nat} (h : k ≠ g) (u0 u1 u2 u3 u4 u5 u6 : Value) :
    (((((((y.setCell ⟨g, 0, none⟩ u0).setCell ⟨g, 1, none⟩ u1).setCell ⟨g, 2, none⟩ u2).setCell ⟨g, 3, none⟩ u3).setCell ⟨g, 4, none⟩ u4).setCell ⟨g, 5, none⟩ u5).setCell ⟨g, 6, none⟩ u6).heap[k]? = y.heap[k]? := by
  have s : ∀ (z : World) (i : Nat) (v : Value), (z.setCell ⟨g, i, none⟩ v).heap[k]? = z.heap[k]? := fun z i v => heap_setCell_other _ _ _ _ h
  rw [s, s, s, s, s, s, s]
set_option maxRecDepth 100000 in
set_option maxHeartbeats 1000000 in
theorem shift_any (x y : Int) (w : World) : Calls Try.prog 25 #[.int .i64 x, .int .i64 y] w fun e w' => e = .returned (.agg #[.int .i64 1, .int .i64 0, .int .i64 x, .int .i64 0, .int .i64 1, .int .i64 y, .int .i64 1]) ∧ Grow w w' := by
  go_enter Try.func25, Try.ntmps25
  go_wp2
  refine bodyPost_ret (results_cell23 rfl _ w.heap.size _ _ _ _ _ _ _ _ rfl (heap_alloc_new _ _)) rfl ⟨rfl, Grow.alloc _ _⟩
set_option maxRecDepth 100000 in
set_option maxHeartbeats 1000000 in
theorem identity_any (w : World) : Calls Try.prog 29 #[] w fun e w' => e = .returned (.agg #[.int .i64 1, .int .i64 0, .int .i64 0, .int .i64 0, .int .i64 1, .int .i64 0, .int .i64 1]) ∧ Grow w w' := by
  have H := Lib.hid (shift_any 0 0)
  go_enter Try.func29, Try.ntmps29
  go_wp2_with fail
  refine (H.out _).mono ?_
  rintro e x ⟨rfl, g⟩
  have r1 : x.heap[w.heap.size]? = some (.cells #[.int .i64 0, .int .i64 0, .int .i64 0, .int .i64 0, .int .i64 0, .int .i64 0, .int .i64 0] 23 (0, 0)) := g.block (heap_alloc_new _ _)
  have c0 : x.cell? ⟨w.heap.size, 0, none⟩ = some (.int .i64 0) := by rw [cell_of_row x _ 0 _ _ _ r1]; rfl
  have c1 : x.cell? ⟨w.heap.size, 1, none⟩ = some (.int .i64 0) := by rw [cell_of_row x _ 1 _ _ _ r1]; rfl
  have c2 : x.cell? ⟨w.heap.size, 2, none⟩ = some (.int .i64 0) := by rw [cell_of_row x _ 2 _ _ _ r1]; rfl
  have c3 : x.cell? ⟨w.heap.size, 3, none⟩ = some (.int .i64 0) := by rw [cell_of_row x _ 3 _ _ _ r1]; rfl
  have c4 : x.cell? ⟨w.heap.size, 4, none⟩ = some (.int .i64 0) := by rw [cell_of_row x _ 4 _ _ _ r1]; rfl
  have c5 : x.cell? ⟨w.heap.size, 5, none⟩ = some (.int .i64 0) := by rw [cell_of_row x _ 5 _ _ _ r1]; rfl
  have c6 : x.cell? ⟨w.heap.size, 6, none⟩ = some (.int .i64 0) := by rw [cell_of_row x _ 6 _ _ _ r1]; rfl
  have fc0 := frozen_of_row x (w.heap.size) 0 _ _ r1
  have fc1 := frozen_of_row x (w.heap.size) 1 _ _ r1
  have fc2 := frozen_of_row x (w.heap.size) 2 _ _ r1
  have fc3 := frozen_of_row x (w.heap.size) 3 _ _ r1
  have fc4 := frozen_of_row x (w.heap.size) 4 _ _ r1
  have fc5 := frozen_of_row x (w.heap.size) 5 _ _ r1
  have fc6 := frozen_of_row x (w.heap.size) 6 _ _ r1
  have hG := Lib.hid ((Grow.alloc w (.cells #[.int .i64 0, .int .i64 0, .int .i64 0, .int .i64 0, .int .i64 0, .int .i64 0, .int .i64 0] 23)).trans g)
  replace r1 := Lib.hid r1
  clear g H
  go_wp2
  refine bodyPost_ret (results_cell23 rfl _ w.heap.size _ _ _ _ _ _ _ _ rfl (cells7 r1.out _ _ _ _ _ _ _)) rfl ⟨rfl, grow7 hG.out (by omega) _ _ _ _ _ _ _⟩
set_option maxRecDepth 100000 in
set_option maxHeartbeats 2000000 in
theorem chk_any (a : Af) (hs : Sm a 1000000000000000000) (w : World) :
    Calls Try.prog 42 #[.agg #[.int .i64 a.A, .int .i64 a.B, .int .i64 a.C, .int .i64 a.D, .int .i64 a.E, .int .i64 a.F, .int .i64 a.N]] w fun e w' => e = .returned (.tuple #[.agg #[.int .i64 a.chk.1.A, .int .i64 a.chk.1.B, .int .i64 a.chk.1.C, .int .i64 a.chk.1.D, .int .i64 a.chk.1.E, .int .i64 a.chk.1.F, .int .i64 a.chk.1.N], .int .i64 a.chk.2]) ∧ Grow w w' := by
  have HL := Lib.hid (lowest_any a hs)
  have HV := Lib.hid (valid_any a.low.A a.low.B a.low.C a.low.D a.low.E a.low.F a.low.N)
  have hc : a.chk = if a.low.val then (a.low, 0) else (Af.zero, 2) := rfl
  have he : Af.mk a.low.A a.low.B a.low.C a.low.D a.low.E a.low.F a.low.N = a.low := rfl
  rw [he] at HV
  clear he hs
  generalize a.low = lo at *
  generalize a.chk = ck at *
  generalize lo.val = v at *
  go_enter Try.func42, Try.ntmps42
  go_wp2_with fail
  refine (HL.out _).mono ?_
  rintro e x ⟨rfl, g⟩
  have r1 : x.heap[w.heap.size]? = some (.cells #[.int .i64 a.A, .int .i64 a.B, .int .i64 a.C, .int .i64 a.D, .int .i64 a.E, .int .i64 a.F, .int .i64 a.N] 23 (0, 0)) := g.block ((Grow.alloc _ _).block (heap_alloc_new _ _))
  have r2 : x.heap[w.heap.size + 1]? = some (.cells #[.int .i64 0, .int .i64 0, .int .i64 0, .int .i64 0, .int .i64 0, .int .i64 0, .int .i64 0] 23 (0, 0)) := by
    refine g.block ?_
    have := heap_alloc_new (w.alloc (.cells #[.int .i64 a.A, .int .i64 a.B, .int .i64 a.C, .int .i64 a.D, .int .i64 a.E, .int .i64 a.F, .int .i64 a.N] 23)) (.cells #[.int .i64 0, .int .i64 0, .int .i64 0, .int .i64 0, .int .i64 0, .int .i64 0, .int .i64 0] 23)
    simpa using this
  have hG := Lib.hid (((Grow.alloc w (.cells #[.int .i64 a.A, .int .i64 a.B, .int .i64 a.C, .int .i64 a.D, .int .i64 a.E, .int .i64 a.F, .int .i64 a.N] 23)).a (.cells #[.int .i64 0, .int .i64 0, .int .i64 0, .int .i64 0, .int .i64 0, .int .i64 0, .int .i64 0] 23)).trans g)
  have c0 : x.cell? ⟨w.heap.size, 0, none⟩ = some (.int .i64 a.A) := by rw [cell_of_row x _ 0 _ _ _ r1]; rfl
  have c1 : x.cell? ⟨w.heap.size, 1, none⟩ = some (.int .i64 a.B) := by rw [cell_of_row x _ 1 _ _ _ r1]; rfl
  have c2 : x.cell? ⟨w.heap.size, 2, none⟩ = some (.int .i64 a.C) := by rw [cell_of_row x _ 2 _ _ _ r1]; rfl
  have c3 : x.cell? ⟨w.heap.size, 3, none⟩ = some (.int .i64 a.D) := by rw [cell_of_row x _ 3 _ _ _ r1]; rfl
  have c4 : x.cell? ⟨w.heap.size, 4, none⟩ = some (.int .i64 a.E) := by rw [cell_of_row x _ 4 _ _ _ r1]; rfl
  have c5 : x.cell? ⟨w.heap.size, 5, none⟩ = some (.int .i64 a.F) := by rw [cell_of_row x _ 5 _ _ _ r1]; rfl
  have c6 : x.cell? ⟨w.heap.size, 6, none⟩ = some (.int .i64 a.N) := by rw [cell_of_row x _ 6 _ _ _ r1]; rfl
  have fc0 := frozen_of_row x (w.heap.size) 0 _ _ r1
  have fc1 := frozen_of_row x (w.heap.size) 1 _ _ r1
  have fc2 := frozen_of_row x (w.heap.size) 2 _ _ r1
  have fc3 := frozen_of_row x (w.heap.size) 3 _ _ r1
  have fc4 := frozen_of_row x (w.heap.size) 4 _ _ r1
  have fc5 := frozen_of_row x (w.heap.size) 5 _ _ r1
  have fc6 := frozen_of_row x (w.heap.size) 6 _ _ r1
  replace r1 := Lib.hid r1
  replace r2 := Lib.hid r2
  clear g HL
  go_upto_region 2 with fail
  refine wp_gen (fun W0 => W0.heap[w.heap.size]? = some (.cells #[.int .i64 lo.A, .int .i64 lo.B, .int .i64 lo.C, .int .i64 lo.D, .int .i64 lo.E, .int .i64 lo.F, .int .i64 lo.N] 23 (0, 0)) ∧ W0.heap[w.heap.size + 1]? = some (.cells #[.int .i64 0, .int .i64 0, .int .i64 0, .int .i64 0, .int .i64 0, .int .i64 0, .int .i64 0] 23 (0, 0)) ∧ Grow w W0) ⟨cells7 r1.out _ _ _ _ _ _ _, (other7 (by omega) _ _ _ _ _ _ _).trans r2.out, grow7 hG.out (Nat.le_refl _) _ _ _ _ _ _ _⟩ ?_
  clear c0 c1 c2 c3 c4 c5 c6 fc0 fc1 fc2 fc3 fc4 fc5 fc6 hG r1 r2
  rintro y ⟨r1, r2, hG⟩
  have c0 : y.cell? ⟨w.heap.size, 0, none⟩ = some (.int .i64 lo.A) := by rw [cell_of_row y _ 0 _ _ _ r1]; rfl
  have c1 : y.cell? ⟨w.heap.size, 1, none⟩ = some (.int .i64 lo.B) := by rw [cell_of_row y _ 1 _ _ _ r1]; rfl
  have c2 : y.cell? ⟨w.heap.size, 2, none⟩ = some (.int .i64 lo.C) := by rw [cell_of_row y _ 2 _ _ _ r1]; rfl
  have c3 : y.cell? ⟨w.heap.size, 3, none⟩ = some (.int .i64 lo.D) := by rw [cell_of_row y _ 3 _ _ _ r1]; rfl
  have c4 : y.cell? ⟨w.heap.size, 4, none⟩ = some (.int .i64 lo.E) := by rw [cell_of_row y _ 4 _ _ _ r1]; rfl
  have c5 : y.cell? ⟨w.heap.size, 5, none⟩ = some (.int .i64 lo.F) := by rw [cell_of_row y _ 5 _ _ _ r1]; rfl
  have c6 : y.cell? ⟨w.heap.size, 6, none⟩ = some (.int .i64 lo.N) := by rw [cell_of_row y _ 6 _ _ _ r1]; rfl
  replace r1 := Lib.hid r1
  replace r2 := Lib.hid r2
  replace hG := Lib.hid hG
  go_wp2_with fail
  refine (HV.out _).mono ?_
  rintro e z ⟨rfl, g⟩
  replace r1 := g.block r1.out
  replace r2 := g.block r2.out
  replace hG := Lib.hid (hG.out.trans g)
  clear c0 c1 c2 c3 c4 c5 c6 g HV
  have c0 : z.cell? ⟨w.heap.size, 0, none⟩ = some (.int .i64 lo.A) := by rw [cell_of_row z _ 0 _ _ _ r1]; rfl
  have c1 : z.cell? ⟨w.heap.size, 1, none⟩ = some (.int .i64 lo.B) := by rw [cell_of_row z _ 1 _ _ _ r1]; rfl
  have c2 : z.cell? ⟨w.heap.size, 2, none⟩ = some (.int .i64 lo.C) := by rw [cell_of_row z _ 2 _ _ _ r1]; rfl
  have c3 : z.cell? ⟨w.heap.size, 3, none⟩ = some (.int .i64 lo.D) := by rw [cell_of_row z _ 3 _ _ _ r1]; rfl
  have c4 : z.cell? ⟨w.heap.size, 4, none⟩ = some (.int .i64 lo.E) := by rw [cell_of_row z _ 4 _ _ _ r1]; rfl
  have c5 : z.cell? ⟨w.heap.size, 5, none⟩ = some (.int .i64 lo.F) := by rw [cell_of_row z _ 5 _ _ _ r1]; rfl
  have c6 : z.cell? ⟨w.heap.size, 6, none⟩ = some (.int .i64 lo.N) := by rw [cell_of_row z _ 6 _ _ _ r1]; rfl
  have d0 : z.cell? ⟨w.heap.size + 1, 0, none⟩ = some (.int .i64 0) := by rw [cell_of_row z _ 0 _ _ _ r2]; rfl
  have d1 : z.cell? ⟨w.heap.size + 1, 1, none⟩ = some (.int .i64 0) := by rw [cell_of_row z _ 1 _ _ _ r2]; rfl
  have d2 : z.cell? ⟨w.heap.size + 1, 2, none⟩ = some (.int .i64 0) := by rw [cell_of_row z _ 2 _ _ _ r2]; rfl
  have d3 : z.cell? ⟨w.heap.size + 1, 3, none⟩ = some (.int .i64 0) := by rw [cell_of_row z _ 3 _ _ _ r2]; rfl
  have d4 : z.cell? ⟨w.heap.size + 1, 4, none⟩ = some (.int .i64 0) := by rw [cell_of_row z _ 4 _ _ _ r2]; rfl
  have d5 : z.cell? ⟨w.heap.size + 1, 5, none⟩ = some (.int .i64 0) := by rw [cell_of_row z _ 5 _ _ _ r2]; rfl
  have d6 : z.cell? ⟨w.heap.size + 1, 6, none⟩ = some (.int .i64 0) := by rw [cell_of_row z _ 6 _ _ _ r2]; rfl
  have fd0 := frozen_of_row z (w.heap.size + 1) 0 _ _ r2
  have fd1 := frozen_of_row z (w.heap.size + 1) 1 _ _ r2
  have fd2 := frozen_of_row z (w.heap.size + 1) 2 _ _ r2
  have fd3 := frozen_of_row z (w.heap.size + 1) 3 _ _ r2
  have fd4 := frozen_of_row z (w.heap.size + 1) 4 _ _ r2
  have fd5 := frozen_of_row z (w.heap.size + 1) 5 _ _ r2
  have fd6 := frozen_of_row z (w.heap.size + 1) 6 _ _ r2
  replace r1 := Lib.hid r1
  replace r2 := Lib.hid r2
  replace hc := Lib.hid hc
  cases v with
  | true =>
    go_wp2
    refine bodyPost_ret (results_cell23e rfl _ (w.heap.size + 1) _ _ _ _ _ _ _ _ _ rfl rfl (cells7 r2.out _ _ _ _ _ _ _)) rfl ⟨by rw [hc.out]; rfl, grow7 hG.out (by omega) _ _ _ _ _ _ _⟩
  | false =>
    go_wp2
    refine bodyPost_ret (results_cell23e rfl _ (w.heap.size + 1) _ _ _ _ _ _ _ _ _ rfl rfl (cells7 r2.out _ _ _ _ _ _ _)) rfl ⟨by rw [hc.out]; rfl, grow7 hG.out (by omega) _ _ _ _ _ _ _⟩
set_option maxRecDepth 100000 in
set_option maxHeartbeats 2000000 in
theorem red_any (a : Af) (w : World) :
    Calls Try.prog 28 #[.agg #[.int .i64 a.A, .int .i64 a.B, .int .i64 a.C, .int .i64 a.D, .int .i64 a.E, .int .i64 a.F, .int .i64 a.N]] w fun e w' => e = .returned (.agg #[.int .i64 a.red.A, .int .i64 a.red.B, .int .i64 a.red.C, .int .i64 a.red.D, .int .i64 a.red.E, .int .i64 a.red.F, .int .i64 a.red.N]) ∧ Grow w w' := by
  have HV := Lib.hid (valid_any a.A a.B a.C a.D a.E a.F a.N)
  have hc : a.red = if a.val then a.low else a := rfl
  have he : Af.mk a.A a.B a.C a.D a.E a.F a.N = a := rfl
  rw [he] at HV
  clear he
  have HL := Lib.hid (fun (h : a.val = true) => lowest_any a (sm_mono (sm_val h) (by omega)))
  generalize a.red = rd at *
  generalize a.low = lo at *
  generalize a.val = v at *
  go_enter Try.func28, Try.ntmps28
  go_wp2_with fail
  refine (HV.out _).mono ?_
  rintro e x ⟨rfl, g⟩
  have r1 : x.heap[w.heap.size]? = some (.cells #[.int .i64 a.A, .int .i64 a.B, .int .i64 a.C, .int .i64 a.D, .int .i64 a.E, .int .i64 a.F, .int .i64 a.N] 23 (0, 0)) := g.block ((Grow.alloc _ _).block (heap_alloc_new _ _))
  have r2 : x.heap[w.heap.size + 1]? = some (.cells #[.int .i64 0, .int .i64 0, .int .i64 0, .int .i64 0, .int .i64 0, .int .i64 0, .int .i64 0] 23 (0, 0)) := by
    refine g.block ?_
    have := heap_alloc_new (w.alloc (.cells #[.int .i64 a.A, .int .i64 a.B, .int .i64 a.C, .int .i64 a.D, .int .i64 a.E, .int .i64 a.F, .int .i64 a.N] 23)) (.cells #[.int .i64 0, .int .i64 0, .int .i64 0, .int .i64 0, .int .i64 0, .int .i64 0, .int .i64 0] 23)
    simpa using this
  have hG := Lib.hid (((Grow.alloc w (.cells #[.int .i64 a.A, .int .i64 a.B, .int .i64 a.C, .int .i64 a.D, .int .i64 a.E, .int .i64 a.F, .int .i64 a.N] 23)).a (.cells #[.int .i64 0, .int .i64 0, .int .i64 0, .int .i64 0, .int .i64 0, .int .i64 0, .int .i64 0] 23)).trans g)
  have c0 : x.cell? ⟨w.heap.size, 0, none⟩ = some (.int .i64 a.A) := by rw [cell_of_row x _ 0 _ _ _ r1]; rfl
  have c1 : x.cell? ⟨w.heap.size, 1, none⟩ = some (.int .i64 a.B) := by rw [cell_of_row x _ 1 _ _ _ r1]; rfl
  have c2 : x.cell? ⟨w.heap.size, 2, none⟩ = some (.int .i64 a.C) := by rw [cell_of_row x _ 2 _ _ _ r1]; rfl
  have c3 : x.cell? ⟨w.heap.size, 3, none⟩ = some (.int .i64 a.D) := by rw [cell_of_row x _ 3 _ _ _ r1]; rfl
  have c4 : x.cell? ⟨w.heap.size, 4, none⟩ = some (.int .i64 a.E) := by rw [cell_of_row x _ 4 _ _ _ r1]; rfl
  have c5 : x.cell? ⟨w.heap.size, 5, none⟩ = some (.int .i64 a.F) := by rw [cell_of_row x _ 5 _ _ _ r1]; rfl
  have c6 : x.cell? ⟨w.heap.size, 6, none⟩ = some (.int .i64 a.N) := by rw [cell_of_row x _ 6 _ _ _ r1]; rfl
  replace hc := Lib.hid hc
  clear HV r1
  cases v with
  | false =>
    have d0 : x.cell? ⟨w.heap.size + 1, 0, none⟩ = some (.int .i64 0) := by rw [cell_of_row x _ 0 _ _ _ r2]; rfl
    have d1 : x.cell? ⟨w.heap.size + 1, 1, none⟩ = some (.int .i64 0) := by rw [cell_of_row x _ 1 _ _ _ r2]; rfl
    have d2 : x.cell? ⟨w.heap.size + 1, 2, none⟩ = some (.int .i64 0) := by rw [cell_of_row x _ 2 _ _ _ r2]; rfl
    have d3 : x.cell? ⟨w.heap.size + 1, 3, none⟩ = some (.int .i64 0) := by rw [cell_of_row x _ 3 _ _ _ r2]; rfl
    have d4 : x.cell? ⟨w.heap.size + 1, 4, none⟩ = some (.int .i64 0) := by rw [cell_of_row x _ 4 _ _ _ r2]; rfl
    have d5 : x.cell? ⟨w.heap.size + 1, 5, none⟩ = some (.int .i64 0) := by rw [cell_of_row x _ 5 _ _ _ r2]; rfl
    have d6 : x.cell? ⟨w.heap.size + 1, 6, none⟩ = some (.int .i64 0) := by rw [cell_of_row x _ 6 _ _ _ r2]; rfl
    have fd0 := frozen_of_row x (w.heap.size + 1) 0 _ _ r2
    have fd1 := frozen_of_row x (w.heap.size + 1) 1 _ _ r2
    have fd2 := frozen_of_row x (w.heap.size + 1) 2 _ _ r2
    have fd3 := frozen_of_row x (w.heap.size + 1) 3 _ _ r2
    have fd4 := frozen_of_row x (w.heap.size + 1) 4 _ _ r2
    have fd5 := frozen_of_row x (w.heap.size + 1) 5 _ _ r2
    have fd6 := frozen_of_row x (w.heap.size + 1) 6 _ _ r2
    replace r2 := Lib.hid r2
    go_wp2
    refine bodyPost_ret (results_cell23 rfl _ (w.heap.size + 1) _ _ _ _ _ _ _ _ rfl (cells7 r2.out _ _ _ _ _ _ _)) rfl ⟨by rw [hc.out]; rfl, grow7 hG.out (by omega) _ _ _ _ _ _ _⟩
  | true =>
    have HL2 := Lib.hid (HL.out rfl)
    replace r2 := Lib.hid r2
    clear HL
    go_wp2_with fail
    refine (HL2.out _).mono ?_
    rintro e y ⟨rfl, g⟩
    replace r2 := g.block r2.out
    replace hG := Lib.hid (hG.out.trans g)
    clear g HL2 c0 c1 c2 c3 c4 c5 c6
    have d0 : y.cell? ⟨w.heap.size + 1, 0, none⟩ = some (.int .i64 0) := by rw [cell_of_row y _ 0 _ _ _ r2]; rfl
    have d1 : y.cell? ⟨w.heap.size + 1, 1, none⟩ = some (.int .i64 0) := by rw [cell_of_row y _ 1 _ _ _ r2]; rfl
    have d2 : y.cell? ⟨w.heap.size + 1, 2, none⟩ = some (.int .i64 0) := by rw [cell_of_row y _ 2 _ _ _ r2]; rfl
    have d3 : y.cell? ⟨w.heap.size + 1, 3, none⟩ = some (.int .i64 0) := by rw [cell_of_row y _ 3 _ _ _ r2]; rfl
    have d4 : y.cell? ⟨w.heap.size + 1, 4, none⟩ = some (.int .i64 0) := by rw [cell_of_row y _ 4 _ _ _ r2]; rfl
    have d5 : y.cell? ⟨w.heap.size + 1, 5, none⟩ = some (.int .i64 0) := by rw [cell_of_row y _ 5 _ _ _ r2]; rfl
    have d6 : y.cell? ⟨w.heap.size + 1, 6, none⟩ = some (.int .i64 0) := by rw [cell_of_row y _ 6 _ _ _ r2]; rfl
    have fd0 := frozen_of_row y (w.heap.size + 1) 0 _ _ r2
    have fd1 := frozen_of_row y (w.heap.size + 1) 1 _ _ r2
    have fd2 := frozen_of_row y (w.heap.size + 1) 2 _ _ r2
    have fd3 := frozen_of_row y (w.heap.size + 1) 3 _ _ r2
    have fd4 := frozen_of_row y (w.heap.size + 1) 4 _ _ r2
    have fd5 := frozen_of_row y (w.heap.size + 1) 5 _ _ r2
    have fd6 := frozen_of_row y (w.heap.size + 1) 6 _ _ r2
    replace r2 := Lib.hid r2
    go_wp2
    refine bodyPost_ret (results_cell23 rfl _ (w.heap.size + 1) _ _ _ _ _ _ _ _ rfl (cells7 r2.out _ _ _ _ _ _ _)) rfl ⟨by rw [hc.out]; rfl, grow7 hG.out (by omega) _ _ _ _ _ _ _⟩
end Go.Proofs.Ytmfmnoajihiidaa
