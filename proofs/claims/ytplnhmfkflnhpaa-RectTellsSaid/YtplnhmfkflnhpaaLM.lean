/- The plain mathematics of layer 3 (rect): the lattice of rectangles. -/
import Derived.Test.YtplnhmfkflnhpaaSM
set_option linter.unusedVariables false
namespace Go.Proofs.Ytplnhmfkflnhpaa
open Go.RowKit
theorem eqr_self (r : R) : eqr r r = true := by unfold eqr; rw [same_self r]; rfl
theorem inter_comm (a b : R) : inter a b = inter b a := by
  unfold inter
  have e : (⟨mx a.x0 b.x0, mx a.y0 b.y0, mn a.x1 b.x1, mn a.y1 b.y1⟩ : R) = ⟨mx b.x0 a.x0, mx b.y0 a.y0, mn b.x1 a.x1, mn b.y1 a.y1⟩ := by
    simp only [mx_eq, mn_eq, R.mk.injEq]; omega
  rw [e]
theorem nrm_emp {r : R} (h : emp r = true) : nrm r = R.zero := by unfold nrm; rw [if_pos h]
theorem nrm_full {r : R} (h : emp r = false) : nrm r = r := by unfold nrm; rw [if_neg (by simp [h])]
theorem emp_t {x0 y0 x1 y1 : Int} : emp ⟨x0, y0, x1, y1⟩ = true ↔ x1 ≤ x0 ∨ y1 ≤ y0 := by unfold emp; simp
theorem emp_f {x0 y0 x1 y1 : Int} : emp ⟨x0, y0, x1, y1⟩ = false ↔ x0 < x1 ∧ y0 < y1 := by unfold emp; simp
theorem uni_comm (a b : R) : uni a b = uni b a := by
  unfold uni
  cases ha : emp a with
  | true =>
    cases hb : emp b with
    | true => simp [nrm_emp ha, nrm_emp hb]
    | false => simp [nrm_full hb]
  | false =>
    cases hb : emp b with
    | true => simp [nrm_full ha]
    | false =>
      simp only [Bool.false_eq_true, if_false, mx_eq, mn_eq, R.mk.injEq]; omega
theorem uni_full {a b : R} (ha : emp a = false) (hb : emp b = false) : uni a b = ⟨mn a.x0 b.x0, mn a.y0 b.y0, mx a.x1 b.x1, mx a.y1 b.y1⟩ ∧ emp (uni a b) = false := by
  have e : uni a b = ⟨mn a.x0 b.x0, mn a.y0 b.y0, mx a.x1 b.x1, mx a.y1 b.y1⟩ := by unfold uni; rw [if_neg (by simp [ha]), if_neg (by simp [hb])]
  refine ⟨e, ?_⟩
  have h1 := emp_false ha
  have h2 := emp_false hb
  rw [e, emp_f]
  simp only [mx_eq, mn_eq]; omega
theorem uni_l {a b : R} (ha : emp a = true) : uni a b = nrm b := by unfold uni; rw [if_pos ha]
theorem uni_r {a b : R} (hb : emp b = true) : uni a b = nrm a := by rw [uni_comm, uni_l hb]
theorem nrm_nrm (a : R) : nrm (nrm a) = nrm a := by
  cases ha : emp a with
  | true => rw [nrm_emp ha]; rfl
  | false => rw [nrm_full ha, nrm_full ha]
theorem nrm_uni (a b : R) : nrm (uni a b) = uni a b := by
  cases ha : emp a with
  | true => rw [uni_l ha, nrm_nrm]
  | false =>
    cases hb : emp b with
    | true => rw [uni_r hb, nrm_nrm]
    | false => rw [nrm_full (uni_full ha hb).2]
theorem emp_nrm (a : R) : emp (nrm a) = emp a := by
  cases ha : emp a with
  | true => rw [nrm_emp ha]; rfl
  | false => rw [nrm_full ha, ha]
theorem uni_nrm_l (a b : R) : uni (nrm a) b = uni a b := by
  cases ha : emp a with
  | true => rw [uni_l ha, uni_l (by rw [emp_nrm]; exact ha)]
  | false => rw [nrm_full ha]
theorem uni_nrm_r (a b : R) : uni a (nrm b) = uni a b := by rw [uni_comm, uni_nrm_l, uni_comm]
theorem uni_assoc (a b c : R) : uni (uni a b) c = uni a (uni b c) := by
  cases ha : emp a with
  | true => rw [uni_l ha, uni_l ha, uni_nrm_l, nrm_uni]
  | false =>
    cases hb : emp b with
    | true => rw [uni_r hb, uni_l hb, uni_nrm_l, uni_nrm_r]
    | false =>
      cases hc : emp c with
      | true => rw [uni_r hc, uni_r hc, uni_nrm_r, nrm_uni]
      | false =>
        obtain ⟨e1, f1⟩ := uni_full ha hb
        obtain ⟨e2, f2⟩ := uni_full hb hc
        rw [(uni_full f1 hc).1, (uni_full ha f2).1, e1, e2]
        simp only [mx_eq, mn_eq, R.mk.injEq]; omega
/-- What three rectangles have in common. -/
theorem inter_assoc (a b c : R) : inter (inter a b) c = inter a (inter b c) := by
  have key : ∀ a b c : R, inter (inter a b) c = nrm ⟨mx (mx a.x0 b.x0) c.x0, mx (mx a.y0 b.y0) c.y0, mn (mn a.x1 b.x1) c.x1, mn (mn a.y1 b.y1) c.y1⟩ := by
    intro a b c
    cases h : emp ⟨mx a.x0 b.x0, mx a.y0 b.y0, mn a.x1 b.x1, mn a.y1 b.y1⟩ with
    | false =>
      have e : inter a b = ⟨mx a.x0 b.x0, mx a.y0 b.y0, mn a.x1 b.x1, mn a.y1 b.y1⟩ := nrm_full h
      rw [e]; rfl
    | true =>
      have e : inter a b = R.zero := nrm_emp h
      rw [e]
      have h2 : emp ⟨mx (mx a.x0 b.x0) c.x0, mx (mx a.y0 b.y0) c.y0, mn (mn a.x1 b.x1) c.x1, mn (mn a.y1 b.y1) c.y1⟩ = true := by
        rw [emp_t] at h ⊢; simp only [mx_eq, mn_eq] at *; omega
      rw [nrm_emp h2]
      apply nrm_emp
      rw [emp_t]
      show mn 0 c.x1 ≤ mx 0 c.x0 ∨ mn 0 c.y1 ≤ mx 0 c.y0
      simp only [mx_eq, mn_eq]; omega
  rw [key, inter_comm a (inter b c), inter_comm b c, key]
  congr 1
  simp only [mx_eq, mn_eq, R.mk.injEq]; omega
theorem ins_full {a b : R} (h : emp a = false) : ins a b = true ↔ b.x0 ≤ a.x0 ∧ a.x1 ≤ b.x1 ∧ b.y0 ≤ a.y0 ∧ a.y1 ≤ b.y1 := ins_iff h
theorem ins_uni_l (a b : R) : ins a (uni a b) = true := by
  cases ha : emp a with
  | true => exact ins_emp ha
  | false =>
    rw [ins_iff ha]
    cases hb : emp b with
    | true => rw [uni_r hb, nrm_full ha]; omega
    | false => rw [(uni_full ha hb).1]; simp only [mx_eq, mn_eq]; omega
theorem ins_uni_r (a b : R) : ins b (uni a b) = true := by rw [uni_comm]; exact ins_uni_l b a
theorem inter_full {a b : R} (h : emp (inter a b) = false) : inter a b = ⟨mx a.x0 b.x0, mx a.y0 b.y0, mn a.x1 b.x1, mn a.y1 b.y1⟩ := by
  unfold inter at h ⊢
  rw [emp_nrm] at h
  exact nrm_full h
theorem ins_inter_l (a b : R) : ins (inter a b) a = true := by
  cases h : emp (inter a b) with
  | true => exact ins_emp h
  | false => rw [ins_iff h, inter_full h]; simp only [mx_eq, mn_eq]; omega
theorem ins_inter_r (a b : R) : ins (inter a b) b = true := by rw [inter_comm]; exact ins_inter_l b a
theorem uni_least {a b c : R} (h1 : ins a c = true) (h2 : ins b c = true) : ins (uni a b) c = true := by
  cases ha : emp a with
  | true =>
    rw [uni_l ha]
    cases hb : emp b with
    | true => rw [nrm_emp hb]; exact ins_emp rfl
    | false => rw [nrm_full hb]; exact h2
  | false =>
    cases hb : emp b with
    | true => rw [uni_r hb, nrm_full ha]; exact h1
    | false =>
      obtain ⟨e, f⟩ := uni_full ha hb
      rw [ins_iff f, e]
      rw [ins_iff ha] at h1
      rw [ins_iff hb] at h2
      simp only [mx_eq, mn_eq]; omega
theorem inter_greatest {a b c : R} (h1 : ins c a = true) (h2 : ins c b = true) : ins c (inter a b) = true := by
  cases hc : emp c with
  | true => exact ins_emp hc
  | false =>
    have he := emp_false hc
    rw [ins_iff hc] at h1 h2 ⊢
    have hi : emp ⟨mx a.x0 b.x0, mx a.y0 b.y0, mn a.x1 b.x1, mn a.y1 b.y1⟩ = false := by rw [emp_f]; simp only [mx_eq, mn_eq]; omega
    have e : inter a b = ⟨mx a.x0 b.x0, mx a.y0 b.y0, mn a.x1 b.x1, mn a.y1 b.y1⟩ := nrm_full hi
    rw [e]; simp only [mx_eq, mn_eq]; omega
end Go.Proofs.Ytplnhmfkflnhpaa
