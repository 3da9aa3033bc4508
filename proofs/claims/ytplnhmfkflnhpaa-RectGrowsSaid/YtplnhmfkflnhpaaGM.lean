/- The plain mathematics of layer 3 (rect): growing and moving a small rectangle. -/
import Derived.Test.YtplnhmfkflnhpaaAM
set_option linter.unusedVariables false
namespace Go.Proofs.Ytplnhmfkflnhpaa
open Go.RowKit
theorem grow_full {r : R} {n : Int} (he : emp r = false) (hr : -1000 ≤ r.x0 ∧ r.x1 ≤ 1000 ∧ -1000 ≤ r.y0 ∧ r.y1 ≤ 1000) (hn : -100 ≤ n ∧ n ≤ 100) : grow r n = nrm ⟨r.x0 - n, r.y0 - n, r.x1 + n, r.y1 + n⟩ := by
  have := emp_false he
  unfold grow
  rw [if_neg (by simp [he]), wr (r.x0 - n) (by omega) (by omega), wr (r.y0 - n) (by omega) (by omega), wr (r.x1 + n) (by omega) (by omega), wr (r.y1 + n) (by omega) (by omega)]
theorem grows (r : R) (hr : Sm r) (k px py : Int) (hk0 : 0 ≤ k) (hk1 : k ≤ 9) (h1 : -100 ≤ px) (h2 : px ≤ 100) (h3 : -100 ≤ py) (h4 : py ≤ 100) :
    has (grow r k) px py = !emp (inter r ⟨px - k, py - k, px + k + 1, py + k + 1⟩) ∧ eqr (grow (grow r k) (-k)) r = true := by
  unfold Sm at hr
  cases he : emp r with
  | true =>
    have hg : grow r k = R.zero := by unfold grow; rw [if_pos he]
    have hi : emp (inter r ⟨px - k, py - k, px + k + 1, py + k + 1⟩) = true := by
      cases hie : emp (inter r ⟨px - k, py - k, px + k + 1, py + k + 1⟩) with
      | true => rfl
      | false => have := inter_in hie; have := emp_true he; omega
    rw [hg, hi]
    refine ⟨has_emp rfl _ _, ?_⟩
    have : grow R.zero (-k) = R.zero := by unfold grow; rw [if_pos emp_zero]
    rw [this]; exact eqr_emp rfl he
  | false =>
    have he' := emp_false he
    rw [grow_full (n := k) he (by omega) (by omega)]
    have hf : emp ⟨r.x0 - k, r.y0 - k, r.x1 + k, r.y1 + k⟩ = false := by rw [emp_f]; omega
    rw [nrm_full hf]
    constructor
    · rw [Bool.eq_iff_iff, has_iff]
      dsimp only
      unfold inter
      rw [emp_nrm, Bool.not_eq_true', emp_f]
      simp only [mx_eq, mn_eq]
      omega
    · rw [grow_full (n := -k) hf (by dsimp only; omega) (by omega)]
      dsimp only
      have e : (⟨r.x0 - k - -k, r.y0 - k - -k, r.x1 + k + -k, r.y1 + k + -k⟩ : R) = r := by apply R.ext' <;> dsimp only <;> omega
      rw [e, nrm_full he]
      exact eqr_self r
theorem moves (r : R) (hr : Sm r) (dx dy px py : Int) (h1 : -100 ≤ dx) (h2 : dx ≤ 100) (h3 : -100 ≤ dy) (h4 : dy ≤ 100) :
    has (move r dx dy) (px + dx) (py + dy) = has r px py ∧ area (move r dx dy) = area r := by
  have hr' := hr
  unfold Sm at hr
  cases he : emp r with
  | true =>
    have hg : move r dx dy = R.zero := by unfold move; rw [if_pos he]
    rw [hg, has_emp he, has_emp rfl]
    refine ⟨rfl, ?_⟩
    unfold area; rw [if_pos he, if_pos emp_zero]
  | false =>
    have he' := emp_false he
    have hg : move r dx dy = ⟨r.x0 + dx, r.y0 + dy, r.x1 + dx, r.y1 + dy⟩ := by
      unfold move
      rw [if_neg (by simp [he]), wr (r.x0 + dx) (by omega) (by omega), wr (r.y0 + dy) (by omega) (by omega), wr (r.x1 + dx) (by omega) (by omega), wr (r.y1 + dy) (by omega) (by omega)]
      apply nrm_full; rw [emp_f]; omega
    rw [hg]
    constructor
    · rw [Bool.eq_iff_iff, has_iff, has_iff]; dsimp only; omega
    · rw [area_full (by dsimp only; omega) (by dsimp only; omega) (by dsimp only; omega) (by dsimp only; omega), area_full (r := r) (by omega) (by omega) (by omega) (by omega)]
      dsimp only
      rw [show r.x1 + dx - (r.x0 + dx) = r.x1 - r.x0 by omega, show r.y1 + dy - (r.y0 + dy) = r.y1 - r.y0 by omega]
end Go.Proofs.Ytplnhmfkflnhpaa
