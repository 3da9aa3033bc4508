/- The plain mathematics of layer 9 (affine). No function of the program is in sight. -/
import Derived.WalkKit
namespace Go.Proofs.Ytmfmnoajihiidaa
open Go.RowKit
set_option linter.unusedVariables false
/-- A placement. -/
structure Af where
  A : Int
  B : Int
  C : Int
  D : Int
  E : Int
  F : Int
  N : Int
deriving DecidableEq
namespace Af
def det (a : Af) : Int := a.A * a.E - a.B * a.D
def wi (m n : Int) : Bool := decide (-m ≤ n ∧ n ≤ m)
def val (a : Af) : Bool := decide (1 ≤ a.N) && (wi 4096 a.A && wi 4096 a.B && wi 4096 a.D && wi 4096 a.E && wi 4096 a.N) && (wi 268435456 a.C && wi 268435456 a.F) && decide (a.det ≠ 0)
def zero : Af := ⟨0, 0, 0, 0, 0, 0, 0⟩
/-- The greatest common divisor of the seven numbers. -/
def g (a : Af) : Nat := Nat.gcd (Nat.gcd (Nat.gcd (Nat.gcd (Nat.gcd (Nat.gcd a.A.natAbs a.B.natAbs) a.C.natAbs) a.D.natAbs) a.E.natAbs) a.F.natAbs) a.N.natAbs
def quo (a : Af) (k : Int) : Af := ⟨a.A.tdiv k, a.B.tdiv k, a.C.tdiv k, a.D.tdiv k, a.E.tdiv k, a.F.tdiv k, a.N.tdiv k⟩
def low (a : Af) : Af := if a.g = 0 then a else a.quo a.g
def red (a : Af) : Af := if a.val then a.low else a
/-- A placement, or an error. -/
def chk (a : Af) : Af × Int := if a.low.val then (a.low, 0) else (zero, 2)
def mul (a b : Af) : Af := ⟨b.A * a.A + b.B * a.D, b.A * a.B + b.B * a.E, b.A * a.C + b.B * a.F + b.C * a.N, b.D * a.A + b.E * a.D, b.D * a.B + b.E * a.E, b.D * a.C + b.E * a.F + b.F * a.N, a.N * b.N⟩
def thn (a b : Af) : Af × Int := if a.val && b.val then chk (mul a b) else (zero, 1)
def adj (a : Af) (s : Int) : Af := ⟨s * a.N * a.E, -s * a.N * a.B, s * (a.B * a.F - a.E * a.C), -s * a.N * a.D, s * a.N * a.A, s * (a.D * a.C - a.A * a.F), s * a.det⟩
def sg (a : Af) : Int := if a.det < 0 then -1 else 1
def inv (a : Af) : Af × Int := if a.val then chk (adj a a.sg) else (zero, 1)
def sh (x y : Int) : Af := ⟨1, 0, x, 0, 1, y, 1⟩
theorem mul_bd {a b m n : Int} (h1 : -m ≤ a ∧ a ≤ m) (h2 : -n ≤ b ∧ b ≤ n) : -(m * n) ≤ a * b ∧ a * b ≤ m * n := by
  have hm : 0 ≤ m := by omega
  have hn : 0 ≤ n := by omega
  have k1 : a.natAbs * b.natAbs ≤ m.toNat * n.toNat := Nat.mul_le_mul (by omega) (by omega)
  have k2 : (a * b).natAbs = a.natAbs * b.natAbs := Int.natAbs_mul a b
  have k3 : ((m.toNat * n.toNat : Nat) : Int) = m * n := by rw [Int.natCast_mul, Int.toNat_of_nonneg hm, Int.toNat_of_nonneg hn]
  omega
theorem val_iff (a : Af) : a.val = true ↔ 1 ≤ a.N ∧ (-4096 ≤ a.A ∧ a.A ≤ 4096) ∧ (-4096 ≤ a.B ∧ a.B ≤ 4096) ∧ (-4096 ≤ a.D ∧ a.D ≤ 4096) ∧ (-4096 ≤ a.E ∧ a.E ≤ 4096) ∧ a.N ≤ 4096 ∧ (-268435456 ≤ a.C ∧ a.C ≤ 268435456) ∧ (-268435456 ≤ a.F ∧ a.F ≤ 268435456) ∧ a.det ≠ 0 := by
  unfold val wi
  simp only [Bool.and_eq_true, decide_eq_true_eq]
  constructor
  · rintro ⟨⟨⟨h1, ⟨⟨⟨h2, h3⟩, h4⟩, h5⟩, h6⟩, h7, h8⟩, h9⟩
    exact ⟨h1, h2, h3, h4, h5, h6.2, h7, h8, h9⟩
  · rintro ⟨h1, h2, h3, h4, h5, h6, h7, h8, h9⟩
    exact ⟨⟨⟨h1, ⟨⟨⟨h2, h3⟩, h4⟩, h5⟩, by omega, h6⟩, h7, h8⟩, h9⟩
theorem det_bd {a : Af} (h : a.val = true) : -33554432 ≤ a.det ∧ a.det ≤ 33554432 := by
  obtain ⟨h1, h2, h3, h4, h5, h6, h7, h8, h9⟩ := a.val_iff.1 h
  have k1 := mul_bd h2 h5
  have k2 := mul_bd h3 h4
  unfold det
  omega
end Af
end Go.Proofs.Ytmfmnoajihiidaa
