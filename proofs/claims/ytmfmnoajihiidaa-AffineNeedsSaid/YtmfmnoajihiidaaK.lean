/- Walks of rest (the law's and the reference's) and of the reference's Det. -/
import Derived.Test.YtmfmnoajihiidaaSan
set_option linter.unusedVariables false
namespace Go.Proofs.Ytmfmnoajihiidaa
open Go.RowKit
set_option maxRecDepth 100000 in
theorem rest23_any (x n : Int) (hn : n ≠ 0) (w : World) : Calls Try.prog 23 #[.int .i64 x, .int .i64 n] w fun e w' => e = .returned (.int .i64 (Rct.rst x n)) ∧ w = w' := by
  have HH := Lib.hid (show Rct.rst x n = (wrap64 (x.tmod n + n)).tmod n from rfl)
  generalize Rct.rst x n = r at *
  have hb0 : (n == 0) = false := by simpa using hn
  go_enter Try.func23, Try.ntmps23
  go_wp2
  go_ret
  refine ⟨ret_int ?_, rfl⟩
  rw [HH.out]
set_option maxRecDepth 100000 in
theorem rest41_any (x n : Int) (hn : n ≠ 0) (w : World) : Calls Try.prog 41 #[.int .i64 x, .int .i64 n] w fun e w' => e = .returned (.int .i64 (Rct.rst x n)) ∧ w = w' := by
  have HH := Lib.hid (show Rct.rst x n = (wrap64 (x.tmod n + n)).tmod n from rfl)
  generalize Rct.rst x n = r at *
  have hb0 : (n == 0) = false := by simpa using hn
  go_enter Try.func41, Try.ntmps41
  go_wp2
  go_ret
  refine ⟨ret_int ?_, rfl⟩
  rw [HH.out]
set_option maxRecDepth 100000 in
set_option maxHeartbeats 400000 in
theorem det_ref (A B C D E F N : Int) (hA : -4096 ≤ A ∧ A ≤ 4096) (hB : -4096 ≤ B ∧ B ≤ 4096) (hD : -4096 ≤ D ∧ D ≤ 4096) (hE : -4096 ≤ E ∧ E ≤ 4096) (w : World) :
    Calls Try.prog 20 #[.agg #[.int .i64 A, .int .i64 B, .int .i64 C, .int .i64 D, .int .i64 E, .int .i64 F, .int .i64 N]] w fun e w' => e = .returned (.int .i64 (Af.det ⟨A, B, C, D, E, F, N⟩)) ∧ Grow w w' := by
  have k1 := Af.mul_bd hA hE
  have k2 := Af.mul_bd hB hD
  have e1 : wrap64 (A * E) = A * E := ww64 _ (by omega) (by omega)
  have e2 : wrap64 (B * D) = B * D := ww64 _ (by omega) (by omega)
  have e3 : wrap64 (A * E - B * D) = A * E - B * D := ww64 _ (by omega) (by omega)
  have hd : Af.det ⟨A, B, C, D, E, F, N⟩ = A * E - B * D := rfl
  rw [hd]
  clear hA hB hD hE hd
  go_enter Try.func20, Try.ntmps20
  go_wp2
  go_ret
  refine ⟨?_, Grow.alloc _ _⟩
  first | rfl | (simp only [e1, e2, e3]; rfl)
/-- The remainder, made non-negative. -/
theorem rst_emod (x n : Int) (hn : 0 < n) (h : n ≤ 1000000000) : Rct.rst x n = x % n := by
  unfold Rct.rst
  have h1 := Int.tmod_lt_of_pos x hn
  have h2 := Int.lt_tmod_of_pos x hn
  rw [ww64 _ (by omega) (by omega), Int.tmod_eq_emod_of_nonneg (by omega)]
  have h3 : x.tmod n = x - n * x.tdiv n := by have := Int.mul_tdiv_add_tmod x n; omega
  rw [h3]
  have : x - n * x.tdiv n + n = x + n * (1 - x.tdiv n) := by rw [Int.mul_sub, Int.mul_one]; omega
  rw [this, Int.add_mul_emod_self_left]
theorem rst_bd (x n : Int) (hn : 0 < n) (h : n ≤ 1000000000) : 0 ≤ Rct.rst x n ∧ Rct.rst x n < n := by
  rw [rst_emod x n hn h]
  exact ⟨Int.emod_nonneg _ (by omega), Int.emod_lt_of_pos _ hn⟩
end Go.Proofs.Ytmfmnoajihiidaa
