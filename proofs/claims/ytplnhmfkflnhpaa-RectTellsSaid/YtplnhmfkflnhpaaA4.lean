/- Walks of layer 3 (rect): the reference's quotients, remainders, tiles of points. -/
import Derived.Test.YtplnhmfkflnhpaaA3
import Derived.Test.YtplnhmfkflnhpaaA
import Derived.Deep.RegionWith
set_option linter.unusedVariables false
namespace Go.Proofs.Ytplnhmfkflnhpaa
open Go.RowKit
theorem dec1 (a : Int) : wrap64 (a - 1) = wrap64 (a - 1) := rfl
set_option maxRecDepth 100000 in
theorem floor_ref (a b : Int) (w : World) : Calls Try.prog 16 #[.int .i64 a, .int .i64 b] w fun e w' => e = .returned (.int .i64 (flr a b)) ∧ w = w' := by
  by_cases hb : b = 0
  · have h0 : flr a b = 0 := by unfold flr; rw [if_pos hb]
    rw [h0]
    subst hb
    clear h0
    go_enter Try.func16, Try.ntmps16
    go_wp2
    go_ret
    exact ⟨rfl, rfl⟩
  · have HH := Lib.hid (show flr a b = if a.tmod b ≠ 0 ∧ decide (a < 0) ≠ decide (b < 0) then wrap64 (wrap64 (a.tdiv b) - 1) else wrap64 (a.tdiv b) by unfold flr; rw [if_neg hb])
    generalize flr a b = r at *
    have hb0 : (b == 0) = false := by simpa using hb
    go_enter Try.func16, Try.ntmps16
    go_wp2
    all_goals
      go_ret
      refine ⟨ret_int ?_, rfl⟩
      rw [HH.out]
      by_cases h1 : a < 0 <;> by_cases h2 : b < 0 <;> first | (simp_all; done) | (simp_all; intro h; exfalso; omega) | (simp_all; exfalso; omega) | (simp_all; omega)
set_option maxRecDepth 100000 in
theorem ceil_ref (a b : Int) (w : World) : Calls Try.prog 17 #[.int .i64 a, .int .i64 b] w fun e w' => e = .returned (.int .i64 (cel a b)) ∧ w = w' := by
  by_cases hb : b = 0
  · have h0 : cel a b = 0 := by unfold cel; rw [if_pos hb]
    rw [h0]
    subst hb
    clear h0
    go_enter Try.func17, Try.ntmps17
    go_wp2
    go_ret
    exact ⟨rfl, rfl⟩
  · have HH := Lib.hid (show cel a b = if a.tmod b ≠ 0 ∧ decide (a < 0) = decide (b < 0) then wrap64 (wrap64 (a.tdiv b) + 1) else wrap64 (a.tdiv b) by unfold cel; rw [if_neg hb])
    generalize cel a b = r at *
    have hb0 : (b == 0) = false := by simpa using hb
    go_enter Try.func17, Try.ntmps17
    go_wp2
    all_goals
      go_ret
      refine ⟨ret_int ?_, rfl⟩
      rw [HH.out]
      by_cases h1 : a < 0 <;> by_cases h2 : b < 0 <;> first | (simp_all; done) | (simp_all; intro h; exfalso; omega) | (simp_all; exfalso; omega) | (simp_all; omega)
set_option maxRecDepth 100000 in
theorem rest_any (x n : Int) (hn : n ≠ 0) (w : World) : Calls Try.prog 19 #[.int .i64 x, .int .i64 n] w fun e w' => e = .returned (.int .i64 (rst x n)) ∧ w = w' := by
  have HH := Lib.hid (show rst x n = (wrap64 (x.tmod n + n)).tmod n from rfl)
  generalize rst x n = r at *
  have hb0 : (n == 0) = false := by simpa using hn
  go_enter Try.func19, Try.ntmps19
  go_wp2
  go_ret
  refine ⟨ret_int ?_, rfl⟩
  rw [HH.out]
set_option maxRecDepth 100000 in
theorem rest_ref (x n : Int) (hn : n ≠ 0) (w : World) : Calls Try.prog 46 #[.int .i64 x, .int .i64 n] w fun e w' => e = .returned (.int .i64 (rst x n)) ∧ w = w' := by
  have HH := Lib.hid (show rst x n = (wrap64 (x.tmod n + n)).tmod n from rfl)
  generalize rst x n = r at *
  have hb0 : (n == 0) = false := by simpa using hn
  go_enter Try.func46, Try.ntmps46
  go_wp2
  go_ret
  refine ⟨ret_int ?_, rfl⟩
  rw [HH.out]
set_option maxRecDepth 100000 in
set_option maxHeartbeats 1000000 in
theorem at_any (x y : Int) (w : World) : Calls Try.prog 31 #[.agg #[.int .i64 x, .int .i64 y]] w fun e w' => e = .returned (.agg #[.int .i64 (flr x 8), .int .i64 (flr y 8)]) ∧ Below w.heap.size w w' := by
  go_enter Try.func31, Try.ntmps31
  go_wp2
  go_region_with (go_at_call 14; refine (floor_any _ _ _).mono ?_; rintro e w' ⟨rfl, rfl⟩)
  all_goals
    go_wp2
    refine bodyPost_ret (v := .agg #[.int .i64 (flr x 8), .int .i64 (flr y 8)]) (by simp [results, Try.results31, go_sem]) rfl ⟨rfl, ?_⟩
    first | exact ball2 _ _ _ | exact (ball2 _ _ _).drew
set_option maxRecDepth 100000 in
set_option maxHeartbeats 1000000 in
theorem at_ref (x y : Int) (w : World) : Calls Try.prog 32 #[.int .i64 x, .int .i64 y] w fun e w' => e = .returned (.agg #[.int .i64 (flr x 8), .int .i64 (flr y 8)]) ∧ Below w.heap.size w w' := by
  go_enter Try.func32, Try.ntmps32
  go_wp2_with (go_at_call 16; refine (floor_ref _ _ _).mono ?_; rintro e w' ⟨rfl, rfl⟩)
  exact bodyPost_ret (v := .agg #[.int .i64 (flr x 8), .int .i64 (flr y 8)]) (by simp [results, Try.results32, go_sem]) rfl ⟨rfl, ball _ _⟩
end Go.Proofs.Ytplnhmfkflnhpaa
