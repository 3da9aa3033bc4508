/- Walks of Bounds' small functions. Printed by genV.py. -/
import Derived.Test.YtmfmnoajihiidaaU
set_option linter.unusedVariables false
namespace Go.Proofs.Ytmfmnoajihiidaa
open Go.RowKit
set_option maxRecDepth 100000 in
set_option maxHeartbeats 1000000 in
theorem first_any (a : Af) (hv : 1 ≤ a.N ∧ a.N ≤ 4096) (n : Int) (hn : -1000000000000000 ≤ n ∧ n ≤ 1000000000000000) (b : Nat) (w : World) (h : w.heap[b]? = some (.cells #[.int .i64 a.A, .int .i64 a.B, .int .i64 a.C, .int .i64 a.D, .int .i64 a.E, .int .i64 a.F, .int .i64 a.N] 23 (0, 0))) :
    Calls Try.prog 52 #[.int .i64 n, .pointer (some ⟨b, 0, none⟩)] w fun e w' => e = .returned (.int .i64 (Rct.cel (2 * n - a.N) (2 * a.N))) ∧ w' = w := by
  have e1 : wrap64 (2 * n) = 2 * n := ww64 _ (by omega) (by omega)
  have e2 : wrap64 (2 * n - a.N) = 2 * n - a.N := ww64 _ (by omega) (by omega)
  have e3 : wrap64 (2 * a.N) = 2 * a.N := ww64 _ (by omega) (by omega)
  have c6 : w.cell? ⟨b, 6, none⟩ = some (.int .i64 a.N) := by rw [cell_of_row w _ 6 _ _ _ h]; rfl
  have HF := Lib.hid (Rct.ceil_any (2 * n - a.N) (2 * a.N))
  generalize Rct.cel (2 * n - a.N) (2 * a.N) = r at *
  clear h hn hv
  go_enter Try.func52, Try.ntmps52
  go_wp2_with fail
  refine (HF.out _).mono ?_
  rintro e x ⟨rfl, rfl⟩
  go_wp2
  go_ret
  refine ⟨ret_int ?_, rfl⟩
  first | rfl | exact e4 | (simp only [e4])
set_option maxRecDepth 100000 in
set_option maxHeartbeats 1000000 in
theorem last_any (a : Af) (hv : 1 ≤ a.N ∧ a.N ≤ 4096) (n : Int) (hn : -1000000000000000 ≤ n ∧ n ≤ 1000000000000000) (hr : -8000000000000000000 ≤ Rct.flr (2 * n - a.N) (2 * a.N) ∧ Rct.flr (2 * n - a.N) (2 * a.N) ≤ 8000000000000000000) (b : Nat) (w : World) (h : w.heap[b]? = some (.cells #[.int .i64 a.A, .int .i64 a.B, .int .i64 a.C, .int .i64 a.D, .int .i64 a.E, .int .i64 a.F, .int .i64 a.N] 23 (0, 0))) :
    Calls Try.prog 54 #[.int .i64 n, .pointer (some ⟨b, 0, none⟩)] w fun e w' => e = .returned (.int .i64 (Rct.flr (2 * n - a.N) (2 * a.N) + 1)) ∧ w' = w := by
  have e1 : wrap64 (2 * n) = 2 * n := ww64 _ (by omega) (by omega)
  have e2 : wrap64 (2 * n - a.N) = 2 * n - a.N := ww64 _ (by omega) (by omega)
  have e3 : wrap64 (2 * a.N) = 2 * a.N := ww64 _ (by omega) (by omega)
  have c6 : w.cell? ⟨b, 6, none⟩ = some (.int .i64 a.N) := by rw [cell_of_row w _ 6 _ _ _ h]; rfl
  have HF := Lib.hid (Rct.floor_any (2 * n - a.N) (2 * a.N))
  generalize Rct.flr (2 * n - a.N) (2 * a.N) = r at *
  have e4 : wrap64 (r + 1) = r + 1 := ww64 _ (by omega) (by omega)
  clear h hr hn hv
  go_enter Try.func54, Try.ntmps54
  go_wp2_with fail
  refine (HF.out _).mono ?_
  rintro e x ⟨rfl, rfl⟩
  go_wp2
  go_ret
  refine ⟨ret_int ?_, rfl⟩
  first | rfl | exact e4 | (simp only [e4])
end Go.Proofs.Ytmfmnoajihiidaa
