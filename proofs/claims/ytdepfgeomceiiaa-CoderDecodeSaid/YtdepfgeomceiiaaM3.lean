/- Plain mathematics of Decode's two loops: one step more at the end. No function of the program is in sight. -/
import Derived.Test.YtdepfgeomceiiaaM2
namespace Go.Proofs.Ytdepfgeomceiiaa
open Go.RowKit
set_option linter.unusedVariables false
namespace M
/-- One bit of a reader. -/
def stp (F : List UInt8) (x : Nat × St × Nat) : Nat × St × Nat :=
  (2 * x.1 + (rb x.2.1 x.1 (val F x.2.2)).toNat, nxt x.2.1 x.1 (rb x.2.1 x.1 (val F x.2.2)), x.2.2 + (outB x.2.1 x.1 (rb x.2.1 x.1 (val F x.2.2))).length)
theorem rdc_succ (F : List UInt8) : ∀ (k : Nat) (c : Nat) (s : St) (n : Nat), rdc F (k + 1) c s n = stp F (rdc F k c s n)
  | 0, c, s, n => rfl
  | k + 1, c, s, n => rdc_succ F k _ _ _
theorem rb_01 (s : St) (c : Nat) (v : Int) : rb s c v = 0 ∨ rb s c v = 1 := by unfold rb; split <;> simp
theorem rdc_bd (F : List UInt8) (s : St) (n : Nat) (hs : Ok s) : ∀ k, 2 ^ k ≤ (rdc F k 1 s n).1 ∧ (rdc F k 1 s n).1 < 2 ^ (k + 1) ∧ Ok (rdc F k 1 s n).2.1 ∧ (rdc F k 1 s n).2.2 ≤ n + 4 * k
  | 0 => ⟨Nat.le_refl 1, (by decide : 1 < 2 ^ 1), hs, Nat.le_refl _⟩
  | k + 1 => by
    obtain ⟨h1, h2, h3, h4⟩ := rdc_bd F s n hs k
    rw [rdc_succ]
    generalize rdc F k 1 s n = x at *
    have hb := rb_01 x.2.1 x.1 (val F x.2.2)
    have ho := outB_len x.2.1 x.1 (rb x.2.1 x.1 (val F x.2.2))
    have e1 : 2 ^ (k + 1) = 2 * 2 ^ k := by rw [Nat.pow_succ, Nat.mul_comm]
    have e2 : 2 ^ (k + 1 + 1) = 2 * 2 ^ (k + 1) := by rw [Nat.pow_succ 2 (k + 1), Nat.mul_comm]
    refine ⟨?_, ?_, nxt_ok h3 _ _, ?_⟩
    · show 2 ^ (k + 1) ≤ 2 * x.1 + (rb _ _ _).toNat
      omega
    · show 2 * x.1 + (rb _ _ _).toNat < 2 ^ (k + 1 + 1)
      omega
    · show x.2.2 + (outB _ _ _).length ≤ _
      omega
theorem rdN_cons (F : List UInt8) (k : Nat) (s : St) (n : Nat) : rdN F (k + 1) s n = (UInt8.ofNat (rdc F 8 1 s n).1 :: (rdN F k (rdc F 8 1 s n).2.1 (rdc F 8 1 s n).2.2).1, (rdN F k (rdc F 8 1 s n).2.1 (rdc F 8 1 s n).2.2).2) := by
  rw [rdN]
theorem rdN_zero (F : List UInt8) (s : St) (n : Nat) : rdN F 0 s n = ([], s, n) := by rw [rdN]
theorem rdN_succ (F : List UInt8) : ∀ (k : Nat) (s : St) (n : Nat), rdN F (k + 1) s n = ((rdN F k s n).1 ++ [UInt8.ofNat (rdc F 8 1 (rdN F k s n).2.1 (rdN F k s n).2.2).1], (rdc F 8 1 (rdN F k s n).2.1 (rdN F k s n).2.2).2)
  | 0, s, n => by
    rw [rdN_cons]
    simp only [rdN_zero, List.nil_append]
  | k + 1, s, n => by
    rw [rdN_cons, rdN_succ F k, rdN_cons F k]
    simp only [List.cons_append]
theorem rdN_bd (F : List UInt8) : ∀ k, Ok (rdN F k start 0).2.1 ∧ (rdN F k start 0).2.2 ≤ 32 * k
  | 0 => ⟨start_ok, Nat.le_refl _⟩
  | k + 1 => by
    obtain ⟨h1, h2⟩ := rdN_bd F k
    rw [rdN_succ]
    have := rdc_bd F (rdN F k start 0).2.1 (rdN F k start 0).2.2 h1 8
    exact ⟨this.2.2.1, by have := this.2.2.2; dsimp only; omega⟩
/-- The byte so far: the bits that have come, from the top on. -/
def acc (c k : Nat) : Nat := (c - 2 ^ k) * 2 ^ (8 - k)
theorem acc_step (c k b : Nat) (hk : k < 8) (h1 : 2 ^ k ≤ c) (h2 : c < 2 ^ (k + 1)) (hb : b ≤ 1) : acc (2 * c + b) (k + 1) = acc c k + b * 2 ^ (7 - k) ∧ acc c k ||| (b * 2 ^ (7 - k)) = acc c k + b * 2 ^ (7 - k) ∧ acc c k < 256 ∧ b * 2 ^ (7 - k) < 256 := by
  have e1 : 2 ^ (8 - k) = 2 * 2 ^ (7 - k) := by rw [show 8 - k = 7 - k + 1 by omega, Nat.pow_succ, Nat.mul_comm]
  have e2 : 2 ^ (k + 1) = 2 * 2 ^ k := by rw [Nat.pow_succ, Nat.mul_comm]
  have e3 : 2 ^ k * 2 ^ (8 - k) = 256 := by rw [← Nat.pow_add, show k + (8 - k) = 8 by omega]
  have e4 : b * 2 ^ (7 - k) ≤ 1 * 2 ^ (7 - k) := Nat.mul_le_mul_right _ hb
  have hp : 0 < 2 ^ (7 - k) := Nat.pow_pos (by decide)
  have hpk : 0 < 2 ^ k := Nat.pow_pos (by decide)
  refine ⟨?_, ?_, ?_, ?_⟩
  · unfold acc
    rw [show 8 - (k + 1) = 7 - k by omega, e1, e2, show 2 * c + b - 2 * 2 ^ k = 2 * (c - 2 ^ k) + b by omega, Nat.add_mul, Nat.mul_assoc, Nat.mul_left_comm]
  · have h := Nat.shiftLeft_add_eq_or_of_lt (show b * 2 ^ (7 - k) < 2 ^ (8 - k) by rw [e1]; omega) (c - 2 ^ k)
    rw [Nat.shiftLeft_eq] at h
    exact h.symm
  · unfold acc
    calc (c - 2 ^ k) * 2 ^ (8 - k) < 2 ^ k * 2 ^ (8 - k) := Nat.mul_lt_mul_of_pos_right (by omega) (Nat.pow_pos (by decide))
      _ = 256 := e3
  · have : 2 ^ (7 - k) ≤ 2 ^ 7 := Nat.pow_le_pow_right (by decide) (by omega)
    omega
theorem acc_end (c : Nat) (h1 : 256 ≤ c) (h2 : c < 512) : acc c 8 = (UInt8.ofNat c).toNat := by
  unfold acc
  rw [UInt8.toNat_ofNat']
  simp only [Nat.sub_self, Nat.pow_zero, Nat.mul_one, Nat.reducePow]
  omega
end M
end Go.Proofs.Ytdepfgeomceiiaa
