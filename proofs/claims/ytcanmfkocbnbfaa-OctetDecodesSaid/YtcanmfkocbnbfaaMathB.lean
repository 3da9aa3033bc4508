/- The plain mathematics of layer 1 (octet): decoding of LEB128. No program is in sight. -/
import Derived.Test.YtcanmfkocbnbfaaMath
namespace Go.Proofs.Ytcanmfkocbnbfaa.M

/-- The scan: index, what was gathered, what is left; the value and the number of bytes. -/
def dec : Nat → Nat → List UInt8 → Option (Nat × Nat)
  | _, _, [] => none
  | i, u, b :: l =>
    if 10 ≤ i then none
    else if 128 ≤ b.toNat then dec (i + 1) (u + b.toNat % 128 * 128 ^ i) l
    else if (0 < i ∧ b.toNat = 0) ∨ (i = 9 ∧ 1 < b.toNat) then none
    else some (u + b.toNat * 128 ^ i, i + 1)

theorem dec_ten (i u : Nat) (l : List UInt8) (h : 10 ≤ i) : dec i u l = none := by
  cases l with
  | nil => rfl
  | cons b l => rw [dec, if_pos h]
theorem dec_more (i u : Nat) (b : UInt8) (l : List UInt8) (h : i < 10) (hb : 128 ≤ b.toNat) : dec i u (b :: l) = dec (i + 1) (u + b.toNat % 128 * 128 ^ i) l := by
  rw [dec, if_neg (by omega), if_pos hb]
theorem dec_bad (i u : Nat) (b : UInt8) (l : List UInt8) (h : i < 10) (hb : b.toNat < 128) (hz : (0 < i ∧ b.toNat = 0) ∨ (i = 9 ∧ 1 < b.toNat)) : dec i u (b :: l) = none := by
  rw [dec, if_neg (by omega), if_neg (by omega), if_pos hz]
theorem dec_good (i u : Nat) (b : UInt8) (l : List UInt8) (h : i < 10) (hb : b.toNat < 128) (hz : ¬ ((0 < i ∧ b.toNat = 0) ∨ (i = 9 ∧ 1 < b.toNat))) : dec i u (b :: l) = some (u + b.toNat * 128 ^ i, i + 1) := by
  rw [dec, if_neg (by omega), if_neg (by omega), if_neg hz]

theorem pow9 : (128 : Nat) ^ 9 = 9223372036854775808 := by decide
theorem pow10 : (128 : Nat) ^ 10 = 1180591620717411303424 := by decide
theorem pow_le9 (i : Nat) (h : i ≤ 9) : (128 : Nat) ^ i ≤ 9223372036854775808 := by
  rw [← pow9]; exact Nat.pow_le_pow_right (by omega) h
theorem pow_pos' (i : Nat) : 0 < (128 : Nat) ^ i := Nat.pow_pos (by omega)

/-- An encoding is decoded, whatever follows. -/
theorem dec_leb (r : Nat) : ∀ (i u : Nat) (rest : List UInt8), i + (leb r).length ≤ 10 → (i = 0 ∨ r ≠ 0) → r * 128 ^ i < 18446744073709551616 →
    dec i u (leb r ++ rest) = some (u + r * 128 ^ i, i + (leb r).length) := by
  induction r using Nat.strongRecOn with
  | _ r ih =>
    intro i u rest hl h0 hb
    have hp := leb_pos r
    by_cases h : r < 128
    · rw [leb_small r h, List.cons_append, List.nil_append]
      have hr : (UInt8.ofNat r).toNat = r := by simp; omega
      rw [dec_good i u _ rest (by omega) (by omega)]
      · rw [hr]; rfl
      · rw [hr]
        rintro (⟨h1, h2⟩ | ⟨h1, h2⟩)
        · omega
        · subst h1; rw [pow9] at hb; omega
    · have hll : (leb r).length = (leb (r / 128)).length + 1 := by rw [leb_large r h]; rfl
      have hr : (UInt8.ofNat (r % 128 + 128)).toNat = r % 128 + 128 := by simp; omega
      rw [hll]
      rw [leb_large r h, List.cons_append, dec_more i u _ _ (by omega) (by omega), hr]
      have e : (r / 128) * 128 ^ (i + 1) = (r / 128 * 128) * 128 ^ i := by rw [Nat.pow_succ]; rw [Nat.mul_assoc, Nat.mul_comm (128 ^ i) 128]
      have e2 : (r % 128 + 128) % 128 = r % 128 := by omega
      rw [e2, ih (r / 128) (by omega) (i + 1) _ rest (by omega) (by omega) (by rw [e]; exact Nat.lt_of_le_of_lt (Nat.mul_le_mul_right _ (by omega)) hb), e]
      have e3 : u + r % 128 * 128 ^ i + r / 128 * 128 * 128 ^ i = u + r * 128 ^ i := by
        rw [Nat.add_assoc, ← Nat.add_mul]; congr 2; omega
      rw [e3]
      congr 2; omega

/-- What is decoded is an encoding. -/
theorem dec_inv : ∀ (l : List UInt8) (i u v n : Nat), dec i u l = some (v, n) →
    ∃ r rest, l = leb r ++ rest ∧ v = u + r * 128 ^ i ∧ n = i + (leb r).length ∧ (i = 0 ∨ r ≠ 0) ∧ i + (leb r).length ≤ 10 ∧ r * 128 ^ i < 18446744073709551616
  | [], i, u, v, n, h => by simp [dec] at h
  | b :: l, i, u, v, n, h => by
    by_cases hi : 10 ≤ i
    · rw [dec_ten _ _ _ hi] at h; simp at h
    · by_cases hb : 128 ≤ b.toNat
      · rw [dec_more i u b l (by omega) hb] at h
        obtain ⟨r, rest, h1, h2, h3, h4, h5, h6⟩ := dec_inv l (i + 1) _ v n h
        have hr : r ≠ 0 := by omega
        have hbl := b.toNat_lt
        have e1 : (b.toNat % 128 + 128 * r) % 128 = b.toNat % 128 := by omega
        have e2 : (b.toNat % 128 + 128 * r) / 128 = r := by omega
        have hL : leb (b.toNat % 128 + 128 * r) = b :: leb r := by
          rw [leb_large _ (by omega), e1, e2]
          congr 1
          apply UInt8.toNat_inj.1
          simp; omega
        have e3 : (b.toNat % 128 + 128 * r) * 128 ^ i = b.toNat % 128 * 128 ^ i + r * 128 ^ (i + 1) := by
          rw [Nat.add_mul, Nat.pow_succ]; congr 1; rw [Nat.mul_comm 128 r, Nat.mul_assoc, Nat.mul_comm 128]
        refine ⟨b.toNat % 128 + 128 * r, rest, by rw [hL, h1]; rfl, by rw [h2, e3]; omega, by rw [h3, hL, List.length_cons]; omega, by omega, by rw [hL, List.length_cons]; omega, ?_⟩
        have hlast : r * 128 ^ (i + 1) < 18446744073709551616 := h6
        rw [e3]
        have hp := pow_le9 i (by omega)
        have h9 : i + 1 ≤ 9 := by have := leb_pos r; omega
        have hd : ∃ m, 18446744073709551616 = m * 128 ^ (i + 1) := by
          have : i + 1 = 1 ∨ i + 1 = 2 ∨ i + 1 = 3 ∨ i + 1 = 4 ∨ i + 1 = 5 ∨ i + 1 = 6 ∨ i + 1 = 7 ∨ i + 1 = 8 ∨ i + 1 = 9 := by omega
          rcases this with e | e | e | e | e | e | e | e | e <;> rw [e]
          · exact ⟨144115188075855872, by decide⟩
          · exact ⟨1125899906842624, by decide⟩
          · exact ⟨8796093022208, by decide⟩
          · exact ⟨68719476736, by decide⟩
          · exact ⟨536870912, by decide⟩
          · exact ⟨4194304, by decide⟩
          · exact ⟨32768, by decide⟩
          · exact ⟨256, by decide⟩
          · exact ⟨2, by decide⟩
        obtain ⟨m, hm⟩ := hd
        have hrm : r < m := by
          rw [hm] at hlast
          exact Nat.lt_of_mul_lt_mul_right hlast
        have h7 : (r + 1) * 128 ^ (i + 1) ≤ 18446744073709551616 := by rw [hm]; exact Nat.mul_le_mul_right _ hrm
        have h8 : b.toNat % 128 * 128 ^ i < 128 ^ (i + 1) := by
          rw [Nat.pow_succ, Nat.mul_comm (128 ^ i) 128]
          exact Nat.mul_lt_mul_of_pos_right (by omega) (pow_pos' i)
        rw [Nat.add_mul, Nat.one_mul] at h7
        omega
      · by_cases hz : (0 < i ∧ b.toNat = 0) ∨ (i = 9 ∧ 1 < b.toNat)
        · rw [dec_bad i u b l (by omega) (by omega) hz] at h; simp at h
        · rw [dec_good i u b l (by omega) (by omega) hz] at h
          simp only [Option.some.injEq, Prod.mk.injEq] at h
          have hL : leb b.toNat = [b] := by
            rw [leb_small _ (by omega)]
            congr 1
            apply UInt8.toNat_inj.1
            simp
          refine ⟨b.toNat, l, by rw [hL]; rfl, h.1.symm, by rw [hL]; exact h.2.symm, by omega, by rw [hL]; simp; omega, ?_⟩
          by_cases h9 : i = 9
          · subst h9; rw [pow9]; omega
          · have : (128 : Nat) ^ i ≤ 128 ^ 8 := Nat.pow_le_pow_right (by omega) (by omega)
            have e8 : (128 : Nat) ^ 8 = 72057594037927936 := by decide
            rw [e8] at this
            have := Nat.mul_le_mul (show b.toNat ≤ 127 by omega) this
            omega

/-- Decoding from the start: exactly the encodings of 64-bit numbers. -/
theorem dec_iff (l : List UInt8) (v n : Nat) : dec 0 0 l = some (v, n) ↔ v < 18446744073709551616 ∧ n = (leb v).length ∧ ∃ rest, l = leb v ++ rest := by
  constructor
  · intro h
    obtain ⟨r, rest, h1, h2, h3, _, _, h6⟩ := dec_inv l 0 0 v n h
    have : v = r := by simpa using h2
    subst this
    exact ⟨by simpa using h6, by simpa using h3, rest, h1⟩
  · rintro ⟨h1, h2, rest, h3⟩
    have := dec_leb v 0 0 rest (by have := leb_le v h1; omega) (.inl rfl) (by simpa using h1)
    rw [h3, this, h2]; simp

theorem dec_len (l : List UInt8) (v n : Nat) (h : dec 0 0 l = some (v, n)) : 1 ≤ n ∧ n ≤ l.length ∧ n ≤ 10 := by
  obtain ⟨h1, h2, rest, h3⟩ := (dec_iff l v n).1 h
  have := leb_pos v
  have := leb_le v h1
  rw [h3, List.length_append]; omega

/-- Bytes that all go on, then a zero: nothing is decoded. -/
theorem dec_long : ∀ (l : List UInt8) (i u : Nat), (∀ b ∈ l, 128 ≤ b.toNat) → 0 < i + l.length → dec i u (l ++ [0]) = none
  | [], i, u, _, hi => by
    by_cases h : 10 ≤ i
    · exact dec_ten _ _ _ h
    · exact dec_bad i u 0 [] (by omega) (by decide) (.inl ⟨by simpa using hi, rfl⟩)
  | b :: l, i, u, hb, hi => by
    by_cases h : 10 ≤ i
    · exact dec_ten _ _ _ h
    · rw [List.cons_append, dec_more i u b _ (by omega) (hb b (by simp))]
      exact dec_long l (i + 1) _ (fun x hx => hb x (by simp [hx])) (by omega)

end Go.Proofs.Ytcanmfkocbnbfaa.M
