/- The mathematics of AffineLimits: lowest terms are lowest; what checked returns. No function of the program is in sight. -/
import Derived.Test.YtmfmnoajihiidaaM
set_option linter.unusedVariables false
namespace Go.Proofs.Ytmfmnoajihiidaa
namespace Af
theorem quo_one (a : Af) : a.quo 1 = a := by
  unfold quo
  simp only [Int.tdiv_one]
theorem g_quo (a : Af) (h : a.g ≠ 0) : (a.quo a.g).g = 1 := by
  have d6 : a.g ∣ a.N.natAbs := Nat.gcd_dvd_right _ _
  have e5 : a.g ∣ Nat.gcd (Nat.gcd (Nat.gcd (Nat.gcd (Nat.gcd a.A.natAbs a.B.natAbs) a.C.natAbs) a.D.natAbs) a.E.natAbs) a.F.natAbs := Nat.gcd_dvd_left _ _
  have d5 : a.g ∣ a.F.natAbs := Nat.dvd_trans e5 (Nat.gcd_dvd_right _ _)
  have e4 := Nat.dvd_trans e5 (Nat.gcd_dvd_left _ _)
  have d4 : a.g ∣ a.E.natAbs := Nat.dvd_trans e4 (Nat.gcd_dvd_right _ _)
  have e3 := Nat.dvd_trans e4 (Nat.gcd_dvd_left _ _)
  have d3 : a.g ∣ a.D.natAbs := Nat.dvd_trans e3 (Nat.gcd_dvd_right _ _)
  have e2 := Nat.dvd_trans e3 (Nat.gcd_dvd_left _ _)
  have d2 : a.g ∣ a.C.natAbs := Nat.dvd_trans e2 (Nat.gcd_dvd_right _ _)
  have e1 := Nat.dvd_trans e2 (Nat.gcd_dvd_left _ _)
  have d1 : a.g ∣ a.B.natAbs := Nat.dvd_trans e1 (Nat.gcd_dvd_right _ _)
  have d0 : a.g ∣ a.A.natAbs := Nat.dvd_trans e1 (Nat.gcd_dvd_left _ _)
  have na : ∀ z : Int, (z.tdiv (a.g : Int)).natAbs = z.natAbs / a.g := fun z => by rw [Int.natAbs_tdiv]; rfl
  have hq : (a.quo a.g).g = a.g / a.g := by
    unfold quo
    show Nat.gcd (Nat.gcd (Nat.gcd (Nat.gcd (Nat.gcd (Nat.gcd (a.A.tdiv a.g).natAbs (a.B.tdiv a.g).natAbs) (a.C.tdiv a.g).natAbs) (a.D.tdiv a.g).natAbs) (a.E.tdiv a.g).natAbs) (a.F.tdiv a.g).natAbs) (a.N.tdiv a.g).natAbs = a.g / a.g
    rw [na, na, na, na, na, na, na, Nat.gcd_div d0 d1, Nat.gcd_div e1 d2, Nat.gcd_div e2 d3, Nat.gcd_div e3 d4, Nat.gcd_div e4 d5, Nat.gcd_div e5 d6]
    rfl
  rw [hq, Nat.div_self (by omega)]
theorem low_low (a : Af) : a.low.low = a.low := by
  by_cases h : a.g = 0
  · have e : a.low = a := if_pos h
    rw [e, e]
  · have e : a.low = a.quo a.g := if_neg h
    rw [e]
    have k := g_quo a h
    unfold low
    rw [k, if_neg (by decide)]
    exact quo_one _
theorem chk_ok (a : Af) : (a.chk.2 = 0 ∧ a.chk.1.val = true ∧ a.chk.1.red = a.chk.1) ∨ (a.chk.2 ≠ 0 ∧ a.chk.1 = zero) := by
  unfold chk
  cases h : a.low.val with
  | true =>
    left
    refine ⟨rfl, h, ?_⟩
    show (if a.low.val then a.low.low else a.low) = a.low
    rw [low_low]; split <;> rfl
  | false => right; exact ⟨by simp, rfl⟩
theorem thn_ok (a b : Af) : ((thn a b).2 = 0 ∧ (thn a b).1.val = true ∧ (thn a b).1.red = (thn a b).1) ∨ ((thn a b).2 ≠ 0 ∧ (thn a b).1 = zero) := by
  unfold thn
  split
  · exact chk_ok _
  · right; exact ⟨by simp, rfl⟩
theorem inv_ok (a : Af) : (a.inv.2 = 0 ∧ a.inv.1.val = true ∧ a.inv.1.red = a.inv.1) ∨ (a.inv.2 ≠ 0 ∧ a.inv.1 = zero) := by
  unfold inv
  split
  · exact chk_ok _
  · right; exact ⟨by simp, rfl⟩
end Af
end Go.Proofs.Ytmfmnoajihiidaa
