/- What the quotients enclose: the rect claims' text, turned to this seat by genRct.py. -/
import Derived.Test.YtmfmnoajihiidaaRa
import Derived.IntWalk
set_option linter.unusedVariables false
namespace Go.Proofs.Ytmfmnoajihiidaa.Rct
open Go.RowKit
open Go.Proofs.Ytmfmnoajihiidaa
theorem tdm (x y : Int) (hy : y ≠ 0) : y * x.tdiv y + x.tmod y = x ∧ (0 ≤ x → 0 ≤ x.tmod y) ∧ (x ≤ 0 → x.tmod y ≤ 0) ∧ (0 < y → -y < x.tmod y ∧ x.tmod y < y) ∧ (y < 0 → y < x.tmod y ∧ x.tmod y < -y) ∧ (x.tdiv y).natAbs ≤ x.natAbs := by
  refine ⟨Int.mul_tdiv_add_tmod x y, fun h => Int.tmod_nonneg y h, fun h => ?_, fun h => ⟨Int.lt_tmod_of_pos x h, Int.tmod_lt_of_pos x h⟩, fun h => ?_, Int.natAbs_tdiv_le_natAbs x y⟩
  · have := Int.tmod_nonneg (a := -x) y (by omega)
    rw [Int.neg_tmod] at this
    omega
  · have h1 := Int.lt_tmod_of_pos x (b := -y) (by omega)
    have h2 := Int.tmod_lt_of_pos x (b := -y) (by omega)
    rw [Int.tmod_neg] at h1 h2
    omega
theorem wr (n : Int) (h1 : -9000000000000000000 ≤ n) (h2 : n ≤ 9000000000000000000) : wrap64 n = n := IntWalk.wrap64_in n ⟨by omega, by omega⟩
/-- The quotient rounded down: its product with the divisor lies below, by less than the divisor. -/
theorem flr_spec (x y : Int) (hy : y ≠ 0) (h1 : -4000000000000000000 ≤ x) (h2 : x ≤ 4000000000000000000) :
    (0 < y → 0 ≤ x - flr x y * y ∧ x - flr x y * y < y) ∧ (y < 0 → 0 ≤ flr x y * y - x ∧ flr x y * y - x < -y) ∧ -4000000000000000001 ≤ flr x y ∧ flr x y ≤ 4000000000000000000 := by
  obtain ⟨e, n1, n2, p, m, a⟩ := tdm x y hy
  have hw := wr (x.tdiv y) (by omega) (by omega)
  have hw2 := wr (x.tdiv y - 1) (by omega) (by omega)
  unfold flr
  rw [if_neg hy, hw, hw2]
  generalize x.tdiv y = q at *
  generalize x.tmod y = r at *
  rw [Int.mul_comm] at e
  have e2 : (q - 1) * y = q * y - y := by rw [Int.sub_mul, Int.one_mul]
  by_cases hc : r ≠ 0 ∧ decide (x < 0) ≠ decide (y < 0)
  · rw [if_pos hc, e2]
    obtain ⟨c1, c2⟩ := hc
    by_cases hx : x < 0
    · have hy2 : ¬ y < 0 := by intro h; simp [hx, h] at c2
      omega
    · have hy2 : y < 0 := by by_cases h : y < 0; exact h; simp [hx, h] at c2
      omega
  · rw [if_neg hc]
    by_cases hr : r = 0
    · omega
    · by_cases hx : x < 0
      · have hy2 : y < 0 := by by_cases h : y < 0; exact h; exact absurd ⟨hr, by simp [hx, h]⟩ hc
        omega
      · have hy2 : ¬ y < 0 := by intro h; exact absurd ⟨hr, by simp [hx, h]⟩ hc
        omega
/-- The quotient rounded up. -/
theorem cel_spec (x y : Int) (hy : y ≠ 0) (h1 : -4000000000000000000 ≤ x) (h2 : x ≤ 4000000000000000000) :
    (0 < y → 0 ≤ cel x y * y - x ∧ cel x y * y - x < y) ∧ (y < 0 → 0 ≤ x - cel x y * y ∧ x - cel x y * y < -y) ∧ -4000000000000000000 ≤ cel x y ∧ cel x y ≤ 4000000000000000001 := by
  obtain ⟨e, n1, n2, p, m, a⟩ := tdm x y hy
  have hw := wr (x.tdiv y) (by omega) (by omega)
  have hw2 := wr (x.tdiv y + 1) (by omega) (by omega)
  unfold cel
  rw [if_neg hy, hw, hw2]
  generalize x.tdiv y = q at *
  generalize x.tmod y = r at *
  rw [Int.mul_comm] at e
  have e2 : (q + 1) * y = q * y + y := by rw [Int.add_mul, Int.one_mul]
  by_cases hc : r ≠ 0 ∧ decide (x < 0) = decide (y < 0)
  · rw [if_pos hc, e2]
    obtain ⟨c1, c2⟩ := hc
    by_cases hx : x < 0
    · have hy2 : y < 0 := by by_cases h : y < 0; exact h; simp [hx, h] at c2
      omega
    · have hy2 : ¬ y < 0 := by intro h; simp [hx, h] at c2
      omega
  · rw [if_neg hc]
    by_cases hr : r = 0
    · omega
    · by_cases hx : x < 0
      · have hy2 : ¬ y < 0 := by intro h; exact absurd ⟨hr, by simp [hx, h]⟩ hc
        omega
      · have hy2 : y < 0 := by by_cases h : y < 0; exact h; exact absurd ⟨hr, by simp [hx, h]⟩ hc
        omega
theorem flr_zero (x : Int) : flr x 0 = 0 := by simp [flr]
theorem cel_zero (x : Int) : cel x 0 = 0 := by simp [cel]
end Go.Proofs.Ytmfmnoajihiidaa.Rct
