/- Plain mathematics of the coder's laws: contexts exchanged one to one, prefixes. No function of the program is in sight. -/
import Derived.Test.YtdepfgeomceiiaaM
namespace Go.Proofs.Ytdepfgeomceiiaa
open Go.RowKit
set_option linter.unusedVariables false
namespace M
theorem put_read (f : Nat → Int) (i : Nat) (v : Int) (k : Nat) : put f i v k = if k = i then v else f k := rfl
/-- Two states that differ by the contexts' names alone. -/
structure Ren (σ : Nat → Nat) (s t : St) : Prop where
  p : ∀ k, k < 256 → t.p (σ k) = s.p k
  lo : t.lo = s.lo
  hi : t.hi = s.hi
theorem Ren.md {σ s t} (h : Ren σ s t) (c : Nat) (hc : c < 256) : md t (σ c) = md s c := by
  unfold M.md; rw [h.p c hc, h.lo, h.hi]
theorem Ren.lo1 {σ s t} (h : Ren σ s t) (c : Nat) (hc : c < 256) (b : Int) : lo1 t (σ c) b = lo1 s c b := by
  unfold M.lo1; rw [h.md c hc, h.lo]
theorem Ren.hi1 {σ s t} (h : Ren σ s t) (c : Nat) (hc : c < 256) (b : Int) : hi1 t (σ c) b = hi1 s c b := by
  unfold M.hi1; rw [h.md c hc, h.hi]
theorem Ren.out {σ s t} (h : Ren σ s t) (c : Nat) (hc : c < 256) (b : Int) : outB t (σ c) b = outB s c b := by
  unfold outB; rw [h.lo1 c hc, h.hi1 c hc]
theorem Ren.nxt {σ s t} (hσ : ∀ i j, i < 256 → j < 256 → σ i = σ j → i = j) (h : Ren σ s t) (c : Nat) (hc : c < 256) (b : Int) : Ren σ (nxt s c b) (nxt t (σ c) b) := by
  refine ⟨fun k hk => ?_, ?_, ?_⟩
  · show put t.p (σ c) (np (t.p (σ c)) b) (σ k) = put s.p c (np (s.p c) b) k
    rw [put_read, put_read, h.p c hc, h.p k hk]
    by_cases e : k = c
    · subst e; simp
    · rw [if_neg e, if_neg (fun e' => e (hσ k c hk hc e'))]
  · show (shs 4 _ _).2.1 = (shs 4 _ _).2.1
    rw [h.lo1 c hc, h.hi1 c hc]
  · show (shs 4 _ _).2.2 = (shs 4 _ _).2.2
    rw [h.lo1 c hc, h.hi1 c hc]
/-- The new name of a context. -/
def sg (by' add : Int) (k : Nat) : Nat := (((k : Int) * (2 * by' + 1) + add) % 256).toNat
theorem sg_lt (b a : Int) (k : Nat) : sg b a k < 256 := by unfold sg; omega
theorem odd_cancel (m : Int) : ∀ (k : Nat) (d : Int), (2 ^ k : Int) ∣ d * (2 * m + 1) → (2 ^ k : Int) ∣ d
  | 0, d, _ => by simp
  | k + 1, d, h => by
    have e : d * (2 * m + 1) = 2 * (d * m) + d := by rw [Int.mul_add, Int.mul_one, Int.mul_left_comm]
    have h2 : (2 : Int) ∣ d := by
      have h3 : (2 : Int) ∣ d * (2 * m + 1) := Int.dvd_trans ⟨2 ^ k, by rw [Int.pow_succ, Int.mul_comm]⟩ h
      rw [e] at h3
      generalize d * m = z at h3
      omega
    obtain ⟨d', rfl⟩ := h2
    have h4 : (2 ^ k : Int) ∣ d' * (2 * m + 1) := by
      obtain ⟨z, hz⟩ := h
      refine ⟨z, ?_⟩
      rw [Int.pow_succ, Int.mul_comm (2 ^ k) 2, Int.mul_assoc, Int.mul_assoc] at hz
      have := Int.eq_of_mul_eq_mul_left (by decide) hz
      exact this
    obtain ⟨z, hz⟩ := odd_cancel m k d' h4
    exact ⟨z, by rw [hz, Int.pow_succ, Int.mul_comm (2 ^ k) 2, Int.mul_assoc]⟩
theorem sg_inj (b a : Int) (i j : Nat) (hi : i < 256) (hj : j < 256) (h : sg b a i = sg b a j) : i = j := by
  unfold sg at h
  have h1 : ((i : Int) * (2 * b + 1) + a) % 256 = ((j : Int) * (2 * b + 1) + a) % 256 := by omega
  have h2 : (2 ^ 8 : Int) ∣ ((i : Int) - j) * (2 * b + 1) := by
    rw [Int.sub_mul]
    generalize (i : Int) * (2 * b + 1) = x at *
    generalize (j : Int) * (2 * b + 1) = y at *
    have : (2 ^ 8 : Int) = 256 := by decide
    rw [this]; omega
  have h3 := odd_cancel b 8 _ h2
  have : (2 ^ 8 : Int) = 256 := by decide
  rw [this] at h3
  omega
theorem sg_mod (b a c z : Int) (hz : z = (c * (2 * b + 1) + a) % 256) : z.toNat = sg b a (c % 256).toNat := by
  unfold sg
  congr 1
  rw [hz, Int.toNat_of_nonneg (by omega)]
  have e : c = c % 256 + 256 * (c / 256) := by omega
  have e2 : c * (2 * b + 1) + a = (c % 256) * (2 * b + 1) + a + 256 * ((c / 256) * (2 * b + 1)) := by
    rw [← Int.mul_assoc, Int.add_right_comm, ← Int.add_mul, ← e]
  rw [e2]
  generalize (c % 256) * (2 * b + 1) = x
  generalize c / 256 * (2 * b + 1) = y
  omega
theorem Ren.run {σ : Nat → Nat} (hσ : ∀ i j, i < 256 → j < 256 → σ i = σ j → i = j) : ∀ (l : List (Nat × Int)) (s t : St), Ren σ s t → (∀ x ∈ l, x.1 < 256) →
    Ren σ (runS s l) (runS t (l.map fun x => (σ x.1, x.2))) ∧ runO t (l.map fun x => (σ x.1, x.2)) = runO s l
  | [], s, t, h, _ => ⟨h, rfl⟩
  | x :: l, s, t, h, hl => by
    have hx := hl x (by simp)
    obtain ⟨h1, h2⟩ := Ren.run hσ l _ _ (h.nxt hσ x.1 hx x.2) (fun y hy => hl y (by simp [hy]))
    refine ⟨h1, ?_⟩
    show outB t (σ x.1) x.2 ++ runO (M.nxt t (σ x.1) x.2) _ = outB s x.1 x.2 ++ runO (M.nxt s x.1 x.2) l
    rw [h2, h.out x.1 hx]
theorem code_ren {σ : Nat → Nat} (hσ : ∀ i j, i < 256 → j < 256 → σ i = σ j → i = j) (l : List (Nat × Int)) (hl : ∀ x ∈ l, x.1 < 256) : code (l.map fun x => (σ x.1, x.2)) = code l := by
  obtain ⟨h1, h2⟩ := Ren.run hσ l start start ⟨fun k hk => rfl, rfl, rfl⟩ hl
  unfold code; rw [h2, h1.lo]
theorem code_len (l : List (Nat × Int)) : (code l).length = (runO start l).length + 4 := by
  unfold code; rw [List.length_append]; rfl
theorem code_bd (l : List (Nat × Int)) : (code l).length ≤ 4 * l.length + 4 := by
  rw [code_len]; have := runO_len l start; omega
/-- What follows changes the last four bytes alone. -/
theorem code_pre (l m : List (Nat × Int)) : (code l).length ≤ (code (l ++ m)).length ∧ (code (l ++ m)).take ((code l).length - 4) = (code l).take ((code l).length - 4) := by
  have h1 := code_len l
  have h2 := code_len (l ++ m)
  rw [runO_append, List.length_append] at h2
  refine ⟨by omega, ?_⟩
  have e : (code l).length - 4 = (runO start l).length := by omega
  rw [e]
  unfold code
  rw [runO_append, List.append_assoc, List.take_left', List.take_left'] <;> rfl
theorem enc_len (s : List UInt8) : 4 ≤ (enc s).length := by unfold enc; rw [code_len]; omega
theorem enc_bd (s : List UInt8) : (enc s).length ≤ 32 * s.length + 4 := by
  have := code_bd (encBits s)
  rw [encBits_len] at this
  show (code _).length ≤ _; omega
theorem enc_pre (s t : List UInt8) : (enc s).length ≤ (enc (s ++ t)).length ∧ (enc (s ++ t)).take ((enc s).length - 4) = (enc s).take ((enc s).length - 4) := by
  unfold enc; rw [encBits_append]; exact code_pre _ _
end M
end Go.Proofs.Ytdepfgeomceiiaa
