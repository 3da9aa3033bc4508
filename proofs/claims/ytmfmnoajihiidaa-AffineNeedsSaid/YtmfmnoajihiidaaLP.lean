/- The mathematics of placements: multiples, products, inverses, sources. No function of the program is in sight. -/
import Derived.Test.YtmfmnoajihiidaaLM
import Derived.Test.YtmfmnoajihiidaaT
import Derived.Test.YtmfmnoajihiidaaSm
set_option linter.unusedVariables false
namespace Go.Proofs.Ytmfmnoajihiidaa
open Go.RowKit
namespace Af
/-- All seven numbers times k. -/
def sm (k : Int) (a : Af) : Af := ⟨k * a.A, k * a.B, k * a.C, k * a.D, k * a.E, k * a.F, k * a.N⟩
def one : Af := ⟨1, 0, 0, 0, 1, 0, 1⟩
theorem ext {a b : Af} (h1 : a.A = b.A) (h2 : a.B = b.B) (h3 : a.C = b.C) (h4 : a.D = b.D) (h5 : a.E = b.E) (h6 : a.F = b.F) (h7 : a.N = b.N) : a = b := by
  cases a; cases b; simp_all
theorem g_sm (k : Int) (a : Af) : (sm k a).g = k.natAbs * a.g := by
  unfold g sm
  simp only [Int.natAbs_mul]
  rw [Nat.gcd_mul_left, Nat.gcd_mul_left, Nat.gcd_mul_left, Nat.gcd_mul_left, Nat.gcd_mul_left, Nat.gcd_mul_left]
theorem g_dvd (a : Af) : (a.g : Int) ∣ a.A ∧ (a.g : Int) ∣ a.B ∧ (a.g : Int) ∣ a.C ∧ (a.g : Int) ∣ a.D ∧ (a.g : Int) ∣ a.E ∧ (a.g : Int) ∣ a.F ∧ (a.g : Int) ∣ a.N := by
  have d6 : a.g ∣ a.N.natAbs := Nat.gcd_dvd_right _ _
  have e5 : a.g ∣ Nat.gcd (Nat.gcd (Nat.gcd (Nat.gcd (Nat.gcd a.A.natAbs a.B.natAbs) a.C.natAbs) a.D.natAbs) a.E.natAbs) a.F.natAbs := Nat.gcd_dvd_left _ _
  have d5 : a.g ∣ a.F.natAbs := Nat.dvd_trans e5 (Nat.gcd_dvd_right _ _)
  have e4 := Nat.dvd_trans e5 (Nat.gcd_dvd_left _ _)
  have d4 : a.g ∣ a.E.natAbs := Nat.dvd_trans e4 (Nat.gcd_dvd_right _ _)
  have e3 := Nat.dvd_trans e4 (Nat.gcd_dvd_left _ _)
  have d3 : a.g ∣ a.D.natAbs := Nat.dvd_trans e3 (Nat.gcd_dvd_right _ _)
  have e2 := Nat.dvd_trans e3 (Nat.gcd_dvd_left _ _)
  have d2 : a.g ∣ a.C.natAbs := Nat.dvd_trans e2 (Nat.gcd_dvd_right _ _)
  have e1 := Nat.dvd_trans e2 (Nat.gcd_dvd_left _ _)
  have d1 : a.g ∣ a.B.natAbs := Nat.dvd_trans e1 (Nat.gcd_dvd_right _ _)
  have d0 : a.g ∣ a.A.natAbs := Nat.dvd_trans e1 (Nat.gcd_dvd_left _ _)
  exact ⟨Int.ofNat_dvd_left.2 d0, Int.ofNat_dvd_left.2 d1, Int.ofNat_dvd_left.2 d2, Int.ofNat_dvd_left.2 d3, Int.ofNat_dvd_left.2 d4, Int.ofNat_dvd_left.2 d5, Int.ofNat_dvd_left.2 d6⟩
theorem sm_low (a : Af) : sm a.g a.low = a := by
  unfold low
  split
  · rename_i h
    obtain ⟨h0, h1, h2, h3, h4, h5, h6⟩ := a.g_dvd
    rw [h] at h0 h1 h2 h3 h4 h5 h6
    simp only [Int.natCast_zero, Int.zero_dvd] at h0 h1 h2 h3 h4 h5 h6
    apply ext <;> simp_all [sm]
  · obtain ⟨h0, h1, h2, h3, h4, h5, h6⟩ := a.g_dvd
    apply ext <;> exact Int.mul_tdiv_cancel' (by assumption)
theorem low_sm {k : Int} (a : Af) (hk : 0 < k) : (sm k a).low = a.low := by
  unfold low
  rw [g_sm]
  have hn : k.natAbs ≠ 0 := by omega
  by_cases h : a.g = 0
  · rw [h]
    obtain ⟨h0, h1, h2, h3, h4, h5, h6⟩ := a.g_dvd
    rw [h] at h0 h1 h2 h3 h4 h5 h6
    simp only [Int.natCast_zero, Int.zero_dvd] at h0 h1 h2 h3 h4 h5 h6
    simp only [Nat.mul_zero, if_true]
    apply ext <;> simp_all [sm]
  · have h2 : k.natAbs * a.g ≠ 0 := Nat.mul_ne_zero hn h
    rw [if_neg h, if_neg h2]
    have e : ((k.natAbs * a.g : Nat) : Int) = k * a.g := by rw [Int.natCast_mul, Int.natAbs_of_nonneg (by omega)]
    rw [e]
    have hk0 : k ≠ 0 := by omega
    apply ext <;> exact Int.mul_tdiv_mul_of_pos _ _ hk
theorem mul_sm_left (k : Int) (a b : Af) : mul (sm k a) b = sm k (mul a b) := by
  apply ext <;> simp only [mul, sm] <;> grind
theorem mul_sm_right (k : Int) (a b : Af) : mul a (sm k b) = sm k (mul a b) := by
  apply ext <;> simp only [mul, sm] <;> grind
theorem mul_assoc (a b c : Af) : mul (mul a b) c = mul a (mul b c) := by
  apply ext <;> simp only [mul] <;> grind
theorem mul_one (a : Af) : mul a one = a := by
  apply ext <;> simp [mul, one]
theorem mul_adj (a : Af) (s : Int) : mul a (adj a s) = sm (s * a.N * a.det) one := by
  apply ext <;> simp only [mul, sm, adj, one, det] <;> grind
theorem adj_mul (a : Af) (s : Int) : mul (adj a s) a = sm (s * a.N * a.det) one := by
  apply ext <;> simp only [mul, sm, adj, one, det] <;> grind
theorem adj_adj (a : Af) (s t : Int) : adj (adj a s) t = sm (t * (s * s) * a.N * a.det) a := by
  apply ext <;> simp only [sm, adj, det] <;> grind
theorem adj_sm (k s : Int) (a : Af) : adj (sm k a) s = sm (k * k) (adj a s) := by
  apply ext <;> simp only [sm, adj, det] <;> grind
theorem det_sm (k : Int) (a : Af) : (sm k a).det = k * k * a.det := by
  simp only [sm, det]; grind
theorem det_adj (a : Af) (s : Int) : (adj a s).det = s * s * (a.N * a.N) * a.det := by
  simp only [adj, det]; grind
theorem sg_mul_pos {a : Af} {b k : Int} (h : 0 < k) (e : b = k * a.det) : (if b < 0 then (-1 : Int) else 1) = a.sg := by
  unfold sg
  subst e
  by_cases h1 : a.det < 0
  · rw [if_pos h1, if_pos (Int.mul_neg_of_pos_of_neg h h1)]
  · rw [if_neg h1, if_neg]
    have := Int.mul_nonneg (Int.le_of_lt h) (show 0 ≤ a.det by omega)
    omega
theorem sg_sq (a : Af) : a.sg * a.sg = 1 := by unfold sg; split <;> rfl
theorem sg_sm {k : Int} (hk : 0 < k) (a : Af) : (sm k a).sg = a.sg := sg_mul_pos (k := k * k) (Int.mul_pos hk hk) (det_sm k a)
theorem sg_adj {a : Af} (hN : 0 < a.N) : (adj a a.sg).sg = a.sg :=
  sg_mul_pos (k := a.sg * a.sg * (a.N * a.N)) (by rw [sg_sq, Int.one_mul]; exact Int.mul_pos hN hN) (det_adj a a.sg)
theorem sg_det {a : Af} (h : a.det ≠ 0) : 0 < a.sg * a.det := by unfold sg; split <;> omega
theorem low_one : one.low = one := by decide
theorem g_pos {a : Af} (hN : 1 ≤ a.N) : 0 < a.g := Nat.gcd_pos_of_pos_right _ (by omega)
/-- In lowest terms a placement stays valid. -/
theorem val_low {a : Af} (h : a.val = true) : a.low.val = true := by
  obtain ⟨h1, h2, h3, h4, h5, h6, h7, h8, h9⟩ := a.val_iff.1 h
  have hg := g_pos h1
  have hg0 : a.g ≠ 0 := by omega
  have hs := sm_low a
  have hd : a.g * a.g * a.low.det = a.det := by rw [← det_sm, hs]
  have tb : ∀ {x m : Int}, (-m ≤ x ∧ x ≤ m) → -m ≤ x.tdiv a.g ∧ x.tdiv a.g ≤ m := by
    intro x m hx
    have : (x.tdiv a.g).natAbs ≤ x.natAbs := by rw [Int.natAbs_tdiv]; exact Nat.div_le_self _ _
    omega
  have e : a.low = a.quo a.g := if_neg hg0
  refine a.low.val_iff.2 ⟨?_, ?_, ?_, ?_, ?_, ?_, ?_, ?_, ?_⟩
  · have hN : a.g * a.low.N = a.N := congrArg Af.N hs
    have : 0 < (a.g : Int) * a.low.N := by omega
    have := Int.pos_of_mul_pos_right this (by omega)
    omega
  · rw [e]; exact tb h2
  · rw [e]; exact tb h3
  · rw [e]; exact tb h4
  · rw [e]; exact tb h5
  · rw [e]; exact (tb (m := 4096) ⟨by omega, h6⟩).2
  · rw [e]; exact tb h7
  · rw [e]; exact tb h8
  · intro h0; rw [h0] at hd; simp at hd; exact h9 hd.symm
theorem chk_val {a : Af} (h : a.val = true) : a.chk = (a.low, 0) := if_pos (val_low h)
theorem red_val {a : Af} (h : a.val = true) : a.red = a.low := if_pos h
theorem one_val : one.val = true := by decide
theorem low_eq_of_sm {a b : Af} {j k : Int} (hj : 0 < j) (hk : 0 < k) (h : sm j a = sm k b) : a.low = b.low := by
  rw [← low_sm a hj, h, low_sm b hk]
theorem low_mul_left (a b : Af) (h : 0 < a.g) : (mul a.low b).low = (mul a b).low := by
  have e : sm a.g (mul a.low b) = mul a b := by rw [← mul_sm_left, sm_low]
  rw [← e, low_sm _ (by omega)]
theorem low_mul_right (a b : Af) (h : 0 < b.g) : (mul a b.low).low = (mul a b).low := by
  have e : sm b.g (mul a b.low) = mul a b := by rw [← mul_sm_right, sm_low]
  rw [← e, low_sm _ (by omega)]
/-- **Inverts.** -/
theorem inverts {a : Af} (h : a.val = true) (hi : a.inv.2 = 0) :
    thn a a.inv.1 = (one, 0) ∧ thn a.inv.1 a = (one, 0) ∧ a.inv.1.inv = (a.red, 0) := by
  have hv := a.val_iff.1 h
  have hN : 0 < a.N := by omega
  have hd : a.det ≠ 0 := hv.2.2.2.2.2.2.2.2
  have hi' : a.inv = (adj a a.sg).chk := if_pos h
  have hval : (adj a a.sg).low.val = true := by
    rw [hi'] at hi; unfold chk at hi
    split at hi
    · assumption
    · exact absurd hi (by simp)
  have e : a.inv.1 = (adj a a.sg).low := by rw [hi']; unfold chk; rw [if_pos hval]
  rw [e]
  have hp : 0 < a.sg * a.N * a.det := by
    have := Int.mul_pos hN (sg_det hd)
    rw [show a.sg * a.N * a.det = a.N * (a.sg * a.det) by grind]; exact this
  have hg : 0 < (adj a a.sg).g := g_pos (by show 1 ≤ a.sg * a.det; have := sg_det hd; omega)
  have c1 : ∀ b : Af, b.low = one → b.chk = (one, 0) := fun b hb => by unfold chk; rw [hb, one_val]; rfl
  refine ⟨?_, ?_, ?_⟩
  · unfold thn
    rw [h, hval]
    refine c1 _ ?_
    rw [low_mul_right _ _ hg, mul_adj, low_sm _ hp, low_one]
  · unfold thn
    rw [h, hval]
    refine c1 _ ?_
    rw [low_mul_left _ _ hg, adj_mul, low_sm _ hp, low_one]
  · unfold inv
    rw [if_pos hval]
    have hs := sm_low (adj a a.sg)
    have hsg : (adj a a.sg).low.sg = a.sg := by rw [← sg_sm (k := (adj a a.sg).g) (by omega), hs, sg_adj hN]
    rw [hsg]
    have hq : sm ((adj a a.sg).g * (adj a a.sg).g) (adj (adj a a.sg).low a.sg) = sm (a.sg * a.N * a.det) a := by
      rw [← adj_sm, hs, adj_adj, sg_sq, Int.mul_one]
    have hl := low_eq_of_sm (Int.mul_pos (by omega) (by omega)) hp hq
    unfold chk
    rw [hl, val_low h, red_val h]; rfl
theorem inv_many {a : Af} (h : a.val = true) (hi : a.inv.2 ≠ 0) : a.inv.2 = 2 := by
  have hi' : a.inv = (adj a a.sg).chk := if_pos h
  rw [hi'] at hi ⊢; unfold chk at hi ⊢
  split
  · rename_i k; rw [if_pos k] at hi; exact absurd rfl hi
  · rfl
/-- **Associates.** -/
theorem thn_one {a : Af} (h : a.val = true) : thn a one = (a.red, 0) := by
  unfold thn; rw [h, one_val]
  show (mul a one).chk = _
  rw [mul_one, chk_val h, red_val h]
theorem thn_low {a b : Af} (ha : a.val = true) (hb : b.val = true) (h : (thn a b).2 = 0) : (thn a b).1 = (mul a b).low ∧ (mul a b).low.val = true := by
  have e : thn a b = (mul a b).chk := by unfold thn; rw [ha, hb]; rfl
  rw [e] at h ⊢; unfold chk at h ⊢
  split
  · rename_i k; exact ⟨rfl, k⟩
  · rename_i k; rw [if_neg k] at h; exact absurd h (by simp)
theorem associates {a b c : Af} (ha : a.val = true) (hb : b.val = true) (hc : c.val = true) (h1 : (thn a b).2 = 0) (h2 : (thn b c).2 = 0) :
    thn (thn a b).1 c = thn a (thn b c).1 := by
  obtain ⟨e1, v1⟩ := thn_low ha hb h1
  obtain ⟨e2, v2⟩ := thn_low hb hc h2
  rw [e1, e2]
  unfold thn
  rw [v1, v2, ha, hc]
  show (mul (mul a b).low c).chk = (mul a (mul b c).low).chk
  have gp : ∀ {x y : Af}, x.val = true → y.val = true → 0 < (mul x y).g := fun {x y} hx hy => g_pos (by
    have h1 := (x.val_iff.1 hx).1
    have h2 := (y.val_iff.1 hy).1
    have := Int.mul_pos (show 0 < x.N by omega) (show 0 < y.N by omega)
    show 1 ≤ x.N * y.N
    omega)
  have : (mul (mul a b).low c).low = (mul a (mul b c).low).low := by
    rw [low_mul_left _ _ (gp ha hb), low_mul_right _ _ (gp hb hc), mul_assoc]
  unfold chk
  rw [this]
/-! ### Small placements -/
end Af
theorem sm0_bd (q0 q1 q2 q3 q4 q5 q6 : Int) : (-4 ≤ (sm0 q0 q1 q2 q3 q4 q5 q6).A ∧ (sm0 q0 q1 q2 q3 q4 q5 q6).A ≤ 4) ∧ (-4 ≤ (sm0 q0 q1 q2 q3 q4 q5 q6).B ∧ (sm0 q0 q1 q2 q3 q4 q5 q6).B ≤ 4) ∧ (-20 ≤ (sm0 q0 q1 q2 q3 q4 q5 q6).C ∧ (sm0 q0 q1 q2 q3 q4 q5 q6).C ≤ 20) ∧ (-4 ≤ (sm0 q0 q1 q2 q3 q4 q5 q6).D ∧ (sm0 q0 q1 q2 q3 q4 q5 q6).D ≤ 4) ∧ (-4 ≤ (sm0 q0 q1 q2 q3 q4 q5 q6).E ∧ (sm0 q0 q1 q2 q3 q4 q5 q6).E ≤ 4) ∧ (-20 ≤ (sm0 q0 q1 q2 q3 q4 q5 q6).F ∧ (sm0 q0 q1 q2 q3 q4 q5 q6).F ≤ 20) ∧ (1 ≤ (sm0 q0 q1 q2 q3 q4 q5 q6).N ∧ (sm0 q0 q1 q2 q3 q4 q5 q6).N ≤ 4) := by
  have b0 := rst_bd q0 9 (by omega) (by omega)
  have b1 := rst_bd q1 9 (by omega) (by omega)
  have b2 := rst_bd q2 41 (by omega) (by omega)
  have b3 := rst_bd q3 9 (by omega) (by omega)
  have b4 := rst_bd q4 9 (by omega) (by omega)
  have b5 := rst_bd q5 41 (by omega) (by omega)
  have b6 := rst_bd q6 4 (by omega) (by omega)
  unfold sm0
  dsimp only
  omega
theorem small_bd (q0 q1 q2 q3 q4 q5 q6 : Int) : (-4 ≤ (small q0 q1 q2 q3 q4 q5 q6).A ∧ (small q0 q1 q2 q3 q4 q5 q6).A ≤ 4) ∧ (-4 ≤ (small q0 q1 q2 q3 q4 q5 q6).B ∧ (small q0 q1 q2 q3 q4 q5 q6).B ≤ 4) ∧ (-20 ≤ (small q0 q1 q2 q3 q4 q5 q6).C ∧ (small q0 q1 q2 q3 q4 q5 q6).C ≤ 20) ∧ (-4 ≤ (small q0 q1 q2 q3 q4 q5 q6).D ∧ (small q0 q1 q2 q3 q4 q5 q6).D ≤ 4) ∧ (-4 ≤ (small q0 q1 q2 q3 q4 q5 q6).E ∧ (small q0 q1 q2 q3 q4 q5 q6).E ≤ 4) ∧ (-20 ≤ (small q0 q1 q2 q3 q4 q5 q6).F ∧ (small q0 q1 q2 q3 q4 q5 q6).F ≤ 20) ∧ (1 ≤ (small q0 q1 q2 q3 q4 q5 q6).N ∧ (small q0 q1 q2 q3 q4 q5 q6).N ≤ 4) ∧ (small q0 q1 q2 q3 q4 q5 q6).det ≠ 0 := by
  have h := sm0_bd q0 q1 q2 q3 q4 q5 q6
  unfold small
  generalize sm0 q0 q1 q2 q3 q4 q5 q6 = s at h ⊢
  unfold Af.fix
  split
  · rename_i hd
    refine ⟨by show -4 ≤ (1 : Int) ∧ (1 : Int) ≤ 4; omega, by show -4 ≤ (0 : Int) ∧ (0 : Int) ≤ 4; omega, h.2.2.1, h.2.2.2.1, by show -4 ≤ (1 : Int) ∧ (1 : Int) ≤ 4; omega, h.2.2.2.2.2.1, h.2.2.2.2.2.2, ?_⟩
    show (1 : Int) * 1 - 0 * s.D ≠ 0
    omega
  · exact ⟨h.1, h.2.1, h.2.2.1, h.2.2.2.1, h.2.2.2.2.1, h.2.2.2.2.2.1, h.2.2.2.2.2.2, by assumption⟩
theorem small_val (q0 q1 q2 q3 q4 q5 q6 : Int) : (small q0 q1 q2 q3 q4 q5 q6).val = true := by
  obtain ⟨h1, h2, h3, h4, h5, h6, h7, h8⟩ := small_bd q0 q1 q2 q3 q4 q5 q6
  exact (Af.val_iff _).2 ⟨h7.1, by omega, by omega, by omega, by omega, by omega, by omega, by omega, h8⟩
end Go.Proofs.Ytmfmnoajihiidaa
