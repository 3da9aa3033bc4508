/- Walks of layer 3 (rect): quotients rounded down and up, remainders, the program's and the reference's. -/
import Derived.Test.YtplnhmfkflnhpaaBase
import Derived.Test.YtplnhmfkflnhpaaM
import Derived.Deep.QuietTactic
import Derived.BigQuiet
set_option linter.unusedVariables false
namespace Go.Proofs.Ytplnhmfkflnhpaa
open Go.RowKit
theorem tf (a b : Bool) : (a ≠ b) ↔ ((!a == b) = true) := by cases a <;> cases b <;> simp
set_option maxRecDepth 100000 in
theorem floor_any (a b : Int) (w : World) : Calls Try.prog 14 #[.int .i64 a, .int .i64 b] w fun e w' => e = .returned (.int .i64 (flr a b)) ∧ w = w' := by
  by_cases hb : b = 0
  · have h0 : flr a b = 0 := by unfold flr; rw [if_pos hb]
    rw [h0]
    subst hb
    clear h0
    go_enter Try.func14, Try.ntmps14
    go_wp2
    go_ret
    exact ⟨rfl, rfl⟩
  · have HH := Lib.hid (show flr a b = if a.tmod b ≠ 0 ∧ decide (a < 0) ≠ decide (b < 0) then wrap64 (wrap64 (a.tdiv b) - 1) else wrap64 (a.tdiv b) by unfold flr; rw [if_neg hb])
    generalize flr a b = r at *
    have hb0 : (b == 0) = false := by simpa using hb
    go_enter Try.func14, Try.ntmps14
    go_wp2
    go_ways
    all_goals
      go_ret
      refine ⟨ret_int ?_, rfl⟩
      rw [HH.out]
      by_cases h1 : a < 0 <;> by_cases h2 : b < 0 <;> first | (simp_all; done) | (simp_all; intro h; exfalso; omega) | (simp_all; exfalso; omega) | (simp_all; omega)
set_option maxRecDepth 100000 in
theorem ceil_any (a b : Int) (w : World) : Calls Try.prog 15 #[.int .i64 a, .int .i64 b] w fun e w' => e = .returned (.int .i64 (cel a b)) ∧ w = w' := by
  by_cases hb : b = 0
  · have h0 : cel a b = 0 := by unfold cel; rw [if_pos hb]
    rw [h0]
    subst hb
    clear h0
    go_enter Try.func15, Try.ntmps15
    go_wp2
    go_ret
    exact ⟨rfl, rfl⟩
  · have HH := Lib.hid (show cel a b = if a.tmod b ≠ 0 ∧ decide (a < 0) = decide (b < 0) then wrap64 (wrap64 (a.tdiv b) + 1) else wrap64 (a.tdiv b) by unfold cel; rw [if_neg hb])
    generalize cel a b = r at *
    have hb0 : (b == 0) = false := by simpa using hb
    go_enter Try.func15, Try.ntmps15
    go_wp2
    go_ways
    all_goals
      go_ret
      refine ⟨ret_int ?_, rfl⟩
      rw [HH.out]
      by_cases h1 : a < 0 <;> by_cases h2 : b < 0 <;> first | (simp_all; done) | (simp_all; intro h; exfalso; omega) | (simp_all; exfalso; omega) | (simp_all; omega)
end Go.Proofs.Ytplnhmfkflnhpaa
