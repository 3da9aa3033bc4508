/- Walk of the law RectShrinks of layer 3: it returns true and writes nothing that was there. -/
import Derived.Test.YtplnhmfkflnhpaaLD
set_option linter.unusedVariables false
namespace Go.Proofs.Ytplnhmfkflnhpaa
open Go.RowKit
theorem ins_emp {a b : R} (h : emp a = true) : ins a b = true := by unfold ins; rw [h]; rfl
theorem eqr_emp {a b : R} (h : emp a = true) (k : emp b = true) : eqr a b = true := by unfold eqr; rw [h, k]; simp
theorem ins_iff {a b : R} (h : emp a = false) : ins a b = true ↔ b.x0 ≤ a.x0 ∧ a.x1 ≤ b.x1 ∧ b.y0 ≤ a.y0 ∧ a.y1 ≤ b.y1 := by
  unfold ins; rw [h]; simp; constructor <;> (intro h'; omega)
theorem emp_iff {a : R} : emp a = false ↔ a.x0 < a.x1 ∧ a.y0 < a.y1 := by unfold emp; simp
theorem R.ext' {a b : R} (h0 : a.x0 = b.x0) (h1 : a.y0 = b.y0) (h2 : a.x1 = b.x1) (h3 : a.y1 = b.y1) : a = b := by cases a; cases b; simp_all
theorem sca_eq (r : R) (k : Int) (hr : Sm r) (hk : 1 ≤ k ∧ k ≤ 16) : scaR r k = ⟨r.x0 * k, r.y0 * k, r.x1 * k, r.y1 * k⟩ := by
  have key : ∀ x : Int, -20 ≤ x → x ≤ 60 → wrap64 (x * k) = x * k := by
    intro x h1 h2
    have a1 : -20 * k ≤ x * k := Int.mul_le_mul_of_nonneg_right h1 (by omega)
    have a2 : x * k ≤ 60 * k := Int.mul_le_mul_of_nonneg_right h2 (by omega)
    exact wr _ (by omega) (by omega)
  unfold Sm at hr
  unfold scaR
  rw [key _ (by omega) (by omega), key _ (by omega) (by omega), key _ (by omega) (by omega), key _ (by omega) (by omega)]
theorem shrinks (r c : R) (z : Int) (hr : Sm r) (hc : Sm c) (h0 : 0 ≤ z) (h4 : z ≤ 4) :
    ins r (zm (zm r z shrR) z scaR) = true ∧ (ins r (zm c z scaR) = true → ins (zm r z shrR) c = true) ∧ eqr (zm (zm r z scaR) z shrR) r = true := by
  have hz0 : emp R.zero = true := rfl
  have zm0 : ∀ f, zm R.zero z f = R.zero := fun f => zm_out (.inr (.inr rfl))
  cases he : emp r with
  | true =>
    rw [zm_out (f := shrR) (.inr (.inr he)), zm_out (f := scaR) (.inr (.inr he)), zm0, zm0]
    exact ⟨ins_emp he, fun _ => ins_emp hz0, eqr_emp hz0 he⟩
  | false =>
    obtain ⟨e1, e2⟩ := emp_false he
    rw [zm_in (f := shrR) h0 h4 he, zm_in (f := scaR) h0 h4 he]
    have hk : ∃ k : Int, (2 : Int) ^ z.toNat = k ∧ (k = 1 ∨ k = 2 ∨ k = 4 ∨ k = 8 ∨ k = 16) := by
      refine ⟨_, rfl, ?_⟩
      obtain rfl | rfl | rfl | rfl | rfl : z = 0 ∨ z = 1 ∨ z = 2 ∨ z = 3 ∨ z = 4 := by omega
      all_goals decide
    obtain ⟨k, hk1, hk2⟩ := hk
    rw [hk1]
    have hkb : 1 ≤ k ∧ k ≤ 16 := by omega
    have hr' := hr
    have hc' := hc
    unfold Sm at hr hc
    have fs : ∀ x : Int, -1000 ≤ x → x ≤ 1000 → flr x k * k ≤ x ∧ x < flr x k * k + k := by
      intro x h1 h2
      obtain ⟨h, _, _, _⟩ := flr_spec x k (by omega) (by omega) (by omega)
      have := h (by omega); omega
    have cs : ∀ x : Int, -1000 ≤ x → x ≤ 1000 → x ≤ cel x k * k ∧ cel x k * k < x + k := by
      intro x h1 h2
      obtain ⟨h, _, _, _⟩ := cel_spec x k (by omega) (by omega) (by omega)
      have := h (by omega); omega
    have a0 := fs r.x0 (by omega) (by omega)
    have a1 := fs r.y0 (by omega) (by omega)
    have a2 := cs r.x1 (by omega) (by omega)
    have a3 := cs r.y1 (by omega) (by omega)
    have hS : emp (shrR r k) = false := by
      rw [emp_iff]; show flr r.x0 k < cel r.x1 k ∧ flr r.y0 k < cel r.y1 k
      obtain rfl | rfl | rfl | rfl | rfl := hk2
      all_goals omega
    have hsb : ∀ x : Int, -20 ≤ x → x ≤ 60 → wrap64 (flr x k * k) = flr x k * k ∧ wrap64 (cel x k * k) = cel x k * k := by
      intro x h1 h2
      have := fs x (by omega) (by omega)
      have := cs x (by omega) (by omega)
      exact ⟨wr _ (by omega) (by omega), wr _ (by omega) (by omega)⟩
    refine ⟨?_, ?_, ?_⟩
    · rw [zm_in h0 h4 hS, hk1, ins_iff he]
      show wrap64 (flr r.x0 k * k) ≤ _ ∧ _ ≤ wrap64 (cel r.x1 k * k) ∧ wrap64 (flr r.y0 k * k) ≤ _ ∧ _ ≤ wrap64 (cel r.y1 k * k)
      rw [(hsb r.x0 (by omega) (by omega)).1, (hsb r.x1 (by omega) (by omega)).2, (hsb r.y0 (by omega) (by omega)).1, (hsb r.y1 (by omega) (by omega)).2]
      omega
    · intro h
      rw [ins_iff he] at h
      rw [ins_iff hS]
      show c.x0 ≤ flr r.x0 k ∧ cel r.x1 k ≤ c.x1 ∧ c.y0 ≤ flr r.y0 k ∧ cel r.y1 k ≤ c.y1
      cases hce : emp c with
      | true =>
        rw [zm_out (.inr (.inr hce))] at h
        unfold R.zero at h; dsimp only at h; omega
      | false =>
        rw [zm_in h0 h4 hce, hk1, sca_eq c k hc' hkb] at h
        dsimp only at h
        obtain rfl | rfl | rfl | rfl | rfl := hk2
        all_goals omega
    · rw [sca_eq r k hr' hkb]
      have hR : emp ⟨r.x0 * k, r.y0 * k, r.x1 * k, r.y1 * k⟩ = false := by
        rw [emp_iff]; dsimp only
        obtain rfl | rfl | rfl | rfl | rfl := hk2
        all_goals omega
      rw [zm_in h0 h4 hR, hk1]
      have hm : ∀ x : Int, -20 ≤ x → x ≤ 60 → flr (x * k) k = x ∧ cel (x * k) k = x := by
        intro x h1 h2
        have key : ∀ y : Int, y = x * k → flr y k = x ∧ cel y k = x := by
          intro y hy
          have h3 : -1000 ≤ y ∧ y ≤ 1000 := by
            obtain rfl | rfl | rfl | rfl | rfl := hk2
            all_goals omega
          have hf := fs y h3.1 h3.2
          have hc := cs y h3.1 h3.2
          generalize flr y k = f at *
          generalize cel y k = c at *
          obtain rfl | rfl | rfl | rfl | rfl := hk2
          all_goals omega
        exact key _ rfl
      have hx : shrR ⟨r.x0 * k, r.y0 * k, r.x1 * k, r.y1 * k⟩ k = r := by
        unfold shrR
        dsimp only
        rw [(hm r.x0 (by omega) (by omega)).1, (hm r.y0 (by omega) (by omega)).1, (hm r.x1 (by omega) (by omega)).2, (hm r.y1 (by omega) (by omega)).2]
      rw [hx]
      unfold eqr
      rw [same_self r]; rfl
end Go.Proofs.Ytplnhmfkflnhpaa
