/- Walk of the law PredictCausal of layer 10: it returns true and writes nothing that was there. -/
import Derived.Test.YtihhcmgidgffoaaG
import Derived.Test.YtihhcmgidgffoaaFlatB
import Derived.Lib.Strings
set_option linter.unusedVariables false
namespace Go.Proofs.Ytihhcmgidgffoaa
open Go.RowKit
namespace predictCausal
/-- The value of a pixel in plane q. -/
def pv (q : Nat) (r g b a : UInt8) : UInt8 := if q = 0 then M.swY r g b else if q = 1 then M.swU r b else if q = 2 then M.swV r g b else a
theorem plf_pv (t : Nat → UInt8) (q n : Nat) (hq : q < 4) (hn : n < 64) : plf t (64 * q + n) = pv q (t (4 * n)) (t (4 * n + 1)) (t (4 * n + 2)) (t (4 * n + 3)) := by
  unfold plf pv
  have : q = 0 ∨ q = 1 ∨ q = 2 ∨ q = 3 := by omega
  rcases this with h | h | h | h <;> subst h
  · rw [if_pos (by omega), if_pos rfl, show 64 * 0 + n = n by omega]
  · rw [if_neg (by omega), if_pos (by omega), if_neg (by omega), if_pos rfl, show 64 * 1 + n - 64 = n by omega]
  · rw [if_neg (by omega), if_neg (by omega), if_pos (by omega), if_neg (by omega), if_neg (by omega), if_pos rfl, show 64 * 2 + n - 128 = n by omega]
  · rw [if_neg (by omega), if_neg (by omega), if_neg (by omega), if_neg (by omega), if_neg (by omega), if_neg (by omega), show 64 * 3 + n - 192 = n by omega]
theorem beq8 (x y : UInt8) : ((x.toNat : Int) == (y.toNat : Int)) = (x == y) := by
  rw [Bool.eq_iff_iff, beq_iff_eq, beq_iff_eq, ← UInt8.toNat_inj]; omega
theorem idx0 (x0 x1 x2 x3 : Bool) (W : World) : (Instr.index 64 (.agg #[.bool x0, .bool x1, .bool x2, .bool x3]) (.int .i64 0)).run Try.prog W = .ok (.bool x0) W := by kernel_rfl
theorem idx1 (x0 x1 x2 x3 : Bool) (W : World) : (Instr.index 64 (.agg #[.bool x0, .bool x1, .bool x2, .bool x3]) (.int .i64 1)).run Try.prog W = .ok (.bool x1) W := by kernel_rfl
theorem idx2 (x0 x1 x2 x3 : Bool) (W : World) : (Instr.index 64 (.agg #[.bool x0, .bool x1, .bool x2, .bool x3]) (.int .i64 2)).run Try.prog W = .ok (.bool x2) W := by kernel_rfl
theorem idx3 (x0 x1 x2 x3 : Bool) (W : World) : (Instr.index 64 (.agg #[.bool x0, .bool x1, .bool x2, .bool x3]) (.int .i64 3)).run Try.prog W = .ok (.bool x3) W := by kernel_rfl
set_option maxRecDepth 100000 in
set_option maxHeartbeats 400000 in
theorem same0 (r g b a r' g' b' a' : UInt8) (w : World) :
    Calls Try.prog 18 #[.agg #[.int .u8 r.toNat, .int .u8 g.toNat, .int .u8 b.toNat, .int .u8 a.toNat], .agg #[.int .u8 r'.toNat, .int .u8 g'.toNat, .int .u8 b'.toNat, .int .u8 a'.toNat], .int .i64 0] w fun e w' =>
      e = .returned (.bool (pv 0 r g b a == pv 0 r' g' b' a')) ∧ Below w.heap.size w w' := by
  have H0 := idx0
  go_enter Try.func18, Try.ntmps18
  go_wp2_with fail
  refine (swap_any _ _ _ _).mono ?_
  rintro e x1 ⟨rfl, rfl⟩
  go_wp2_with fail
  refine (swap_any _ _ _ _).mono ?_
  rintro e x2 ⟨rfl, rfl⟩
  go_wp2_with fail
  go_ret
  exact ⟨ret_bool (beq8 _ _), ((Below.refl _ _).alloc (Nat.le_refl _) _).alloc (by simp) _⟩
set_option maxRecDepth 100000 in
set_option maxHeartbeats 400000 in
theorem same1 (r g b a r' g' b' a' : UInt8) (w : World) :
    Calls Try.prog 18 #[.agg #[.int .u8 r.toNat, .int .u8 g.toNat, .int .u8 b.toNat, .int .u8 a.toNat], .agg #[.int .u8 r'.toNat, .int .u8 g'.toNat, .int .u8 b'.toNat, .int .u8 a'.toNat], .int .i64 1] w fun e w' =>
      e = .returned (.bool (pv 1 r g b a == pv 1 r' g' b' a')) ∧ Below w.heap.size w w' := by
  have H0 := idx1
  go_enter Try.func18, Try.ntmps18
  go_wp2_with fail
  refine (swap_any _ _ _ _).mono ?_
  rintro e x1 ⟨rfl, rfl⟩
  go_wp2_with fail
  refine (swap_any _ _ _ _).mono ?_
  rintro e x2 ⟨rfl, rfl⟩
  go_wp2_with fail
  go_ret
  exact ⟨ret_bool (beq8 _ _), ((Below.refl _ _).alloc (Nat.le_refl _) _).alloc (by simp) _⟩
set_option maxRecDepth 100000 in
set_option maxHeartbeats 400000 in
theorem same2 (r g b a r' g' b' a' : UInt8) (w : World) :
    Calls Try.prog 18 #[.agg #[.int .u8 r.toNat, .int .u8 g.toNat, .int .u8 b.toNat, .int .u8 a.toNat], .agg #[.int .u8 r'.toNat, .int .u8 g'.toNat, .int .u8 b'.toNat, .int .u8 a'.toNat], .int .i64 2] w fun e w' =>
      e = .returned (.bool (pv 2 r g b a == pv 2 r' g' b' a')) ∧ Below w.heap.size w w' := by
  have H0 := idx2
  go_enter Try.func18, Try.ntmps18
  go_wp2_with fail
  refine (swap_any _ _ _ _).mono ?_
  rintro e x1 ⟨rfl, rfl⟩
  go_wp2_with fail
  refine (swap_any _ _ _ _).mono ?_
  rintro e x2 ⟨rfl, rfl⟩
  go_wp2_with fail
  go_ret
  exact ⟨ret_bool (beq8 _ _), ((Below.refl _ _).alloc (Nat.le_refl _) _).alloc (by simp) _⟩
set_option maxRecDepth 100000 in
set_option maxHeartbeats 400000 in
theorem same3 (r g b a r' g' b' a' : UInt8) (w : World) :
    Calls Try.prog 18 #[.agg #[.int .u8 r.toNat, .int .u8 g.toNat, .int .u8 b.toNat, .int .u8 a.toNat], .agg #[.int .u8 r'.toNat, .int .u8 g'.toNat, .int .u8 b'.toNat, .int .u8 a'.toNat], .int .i64 3] w fun e w' =>
      e = .returned (.bool (pv 3 r g b a == pv 3 r' g' b' a')) ∧ Below w.heap.size w w' := by
  have H0 := idx3
  go_enter Try.func18, Try.ntmps18
  go_wp2_with fail
  refine (swap_any _ _ _ _).mono ?_
  rintro e x1 ⟨rfl, rfl⟩
  go_wp2_with fail
  refine (swap_any _ _ _ _).mono ?_
  rintro e x2 ⟨rfl, rfl⟩
  go_wp2_with fail
  go_ret
  exact ⟨ret_bool (beq8 _ _), ((Below.refl _ _).alloc (Nat.le_refl _) _).alloc (by simp) _⟩
theorem same_any (r g b a r' g' b' a' : UInt8) (q : Nat) (hq : q < 4) (w : World) :
    Calls Try.prog 18 #[.agg #[.int .u8 r.toNat, .int .u8 g.toNat, .int .u8 b.toNat, .int .u8 a.toNat], .agg #[.int .u8 r'.toNat, .int .u8 g'.toNat, .int .u8 b'.toNat, .int .u8 a'.toNat], .int .i64 q] w fun e w' =>
      e = .returned (.bool (pv q r g b a == pv q r' g' b' a')) ∧ Below w.heap.size w w' := by
  match q, hq with
  | 0, _ => exact same0 r g b a r' g' b' a' w
  | 1, _ => exact same1 r g b a r' g' b' a' w
  | 2, _ => exact same2 r g b a r' g' b' a' w
  | 3, _ => exact same3 r g b a r' g' b' a' w
end predictCausal
end Go.Proofs.Ytihhcmgidgffoaa
