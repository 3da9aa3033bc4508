/- Walks of layer 10 (predict): the colour transform, the predictors, the cost. -/
import Derived.Test.YtihhcmgidgffoaaBase
import Derived.Test.YtihhcmgidgffoaaMath
namespace Go.Proofs.Ytihhcmgidgffoaa
open Go.RowKit

theorem half_nat (a : UInt8) : (a / 2).toNat = a.toNat / 2 := by rw [UInt8.toNat_div]; rfl
theorem e_swU (r b : UInt8) : ((r.toNat : Int) - (b.toNat : Int)) % 256 = ((M.swU r b).toNat : Int) := by
  have := r.toNat_lt; have := b.toNat_lt
  unfold M.swU
  rw [UInt8.toNat_sub]; omega
theorem e_swM (r b : UInt8) : ((b.toNat : Int) + ((r.toNat : Int) - (b.toNat : Int)) % 256 / 2) % 256 = ((M.swM r b).toNat : Int) := by
  have := r.toNat_lt; have := b.toNat_lt
  unfold M.swM
  rw [UInt8.toNat_add, half_nat, UInt8.toNat_sub]; omega
theorem e_swV (r g b : UInt8) : ((g.toNat : Int) - ((b.toNat : Int) + ((r.toNat : Int) - (b.toNat : Int)) % 256 / 2) % 256) % 256 = ((M.swV r g b).toNat : Int) := by
  rw [e_swM]
  have := g.toNat_lt; have := (M.swM r b).toNat_lt
  unfold M.swV
  rw [UInt8.toNat_sub]; omega
theorem e_swY (r g b : UInt8) : (((b.toNat : Int) + ((r.toNat : Int) - (b.toNat : Int)) % 256 / 2) % 256 + ((g.toNat : Int) - ((b.toNat : Int) + ((r.toNat : Int) - (b.toNat : Int)) % 256 / 2)) % 256 / 2) % 256 = ((M.swY r g b).toNat : Int) := by
  have h : ((g.toNat : Int) - ((b.toNat : Int) + ((r.toNat : Int) - (b.toNat : Int)) % 256 / 2)) % 256 = ((M.swV r g b).toNat : Int) := by rw [← e_swV]; omega
  rw [h, e_swM]
  have := (M.swV r g b).toNat_lt; have := (M.swM r b).toNat_lt
  unfold M.swY
  rw [UInt8.toNat_add, half_nat]; omega

set_option maxHeartbeats 400000 in
theorem swap_any (r g b : UInt8) (w : World) :
    Calls Try.prog 13 #[.int .u8 r.toNat, .int .u8 g.toNat, .int .u8 b.toNat] w fun e w' =>
      e = .returned (.tuple #[.int .u8 (M.swY r g b).toNat, .int .u8 (M.swU r b).toNat, .int .u8 (M.swV r g b).toNat]) ∧ w = w' := by
  go_enter Try.func13, Try.ntmps13
  go_wp2
  go_ret3
  exact ⟨by rw [← e_swY, ← e_swU, ← e_swV]; rfl, rfl⟩

theorem e_bkM (y v : UInt8) : ((y.toNat : Int) - (v.toNat : Int) / 2) % 256 = ((M.bkM y v).toNat : Int) := by
  have := y.toNat_lt; have := v.toNat_lt
  unfold M.bkM
  rw [UInt8.toNat_sub, half_nat]; omega
theorem e_bkB (y u v : UInt8) : (((y.toNat : Int) - (v.toNat : Int) / 2) % 256 - (u.toNat : Int) / 2) % 256 = ((M.bkB y u v).toNat : Int) := by
  rw [e_bkM]
  have := (M.bkM y v).toNat_lt; have := u.toNat_lt
  unfold M.bkB
  rw [UInt8.toNat_sub, half_nat]; omega
theorem e_bkR (y u v : UInt8) : ((((y.toNat : Int) - (v.toNat : Int) / 2 - (u.toNat : Int) / 2) % 256 + (u.toNat : Int)) % 256) = ((M.bkR y u v).toNat : Int) := by
  have h : ((y.toNat : Int) - (v.toNat : Int) / 2 - (u.toNat : Int) / 2) % 256 = ((M.bkB y u v).toNat : Int) := by rw [← e_bkB]; omega
  rw [h]
  have := (M.bkB y u v).toNat_lt; have := u.toNat_lt
  unfold M.bkR
  rw [UInt8.toNat_add]; omega
theorem e_bkG (y v : UInt8) : ((v.toNat : Int) + ((y.toNat : Int) - (v.toNat : Int) / 2) % 256) % 256 = ((M.bkG y v).toNat : Int) := by
  rw [e_bkM]
  have := (M.bkM y v).toNat_lt; have := v.toNat_lt
  unfold M.bkG
  rw [UInt8.toNat_add]; omega
set_option maxHeartbeats 400000 in
theorem back_any (y u v : UInt8) (w : World) :
    Calls Try.prog 20 #[.int .u8 y.toNat, .int .u8 u.toNat, .int .u8 v.toNat] w fun e w' =>
      e = .returned (.tuple #[.int .u8 (M.bkR y u v).toNat, .int .u8 (M.bkG y v).toNat, .int .u8 (M.bkB y u v).toNat]) ∧ w = w' := by
  go_enter Try.func20, Try.ntmps20
  go_wp2
  go_ret3
  exact ⟨by rw [← e_bkR, ← e_bkG, ← e_bkB]; rfl, rfl⟩
theorem e_swY2 (r g b : UInt8) : ((b.toNat : Int) + ((r.toNat : Int) - (b.toNat : Int)) % 256 / 2 + ((g.toNat : Int) - ((b.toNat : Int) + ((r.toNat : Int) - (b.toNat : Int)) % 256 / 2)) % 256 / 2) % 256 = ((M.swY r g b).toNat : Int) := by
  rw [← e_swY]; omega
set_option maxHeartbeats 400000 in
theorem swap_ref (r g b : UInt8) (w : World) :
    Calls Try.prog 19 #[.agg #[.int .u8 r.toNat, .int .u8 g.toNat, .int .u8 b.toNat]] w fun e w' =>
      e = .returned (.agg #[.int .u8 (M.swY r g b).toNat, .int .u8 (M.swU r b).toNat, .int .u8 (M.swV r g b).toNat]) ∧ Below w.heap.size w w' := by
  go_enter Try.func19, Try.ntmps19
  go_wp2
  refine bodyPost_ret (v := .agg #[.int .u8 (((b.toNat : Int) + ((r.toNat : Int) - (b.toNat : Int)) % 256 / 2 + ((g.toNat : Int) - ((b.toNat : Int) + ((r.toNat : Int) - (b.toNat : Int)) % 256 / 2)) % 256 / 2) % 256), .int .u8 (((r.toNat : Int) - (b.toNat : Int)) % 256), .int .u8 (((g.toNat : Int) - ((b.toNat : Int) + ((r.toNat : Int) - (b.toNat : Int)) % 256 / 2) % 256) % 256)]) (by simp [results, Try.results19, go_sem]) rfl ⟨?_, ?_⟩
  · rw [e_swV, e_swY2, e_swU]
  · exact ((Below.refl _ _).alloc (Nat.le_refl _) _).alloc (by simp) _
theorem fn1 (l u c : Int) (w : World) : Calls Try.prog 25 #[.int .i64 l, .int .i64 u, .int .i64 c] w fun e w' => e = .returned (.int .i64 0) ∧ w = w' := by
  go_enter Try.func25, Try.ntmps25
  go_wp2
  go_ret
  exact ⟨rfl, rfl⟩
theorem fn2 (l u c : Int) (w : World) : Calls Try.prog 26 #[.int .i64 l, .int .i64 u, .int .i64 c] w fun e w' => e = .returned (.int .i64 l) ∧ w = w' := by
  go_enter Try.func26, Try.ntmps26
  go_wp2
  go_ret
  exact ⟨rfl, rfl⟩
theorem fn3 (l u c : Int) (w : World) : Calls Try.prog 27 #[.int .i64 l, .int .i64 u, .int .i64 c] w fun e w' => e = .returned (.int .i64 u) ∧ w = w' := by
  go_enter Try.func27, Try.ntmps27
  go_wp2
  go_ret
  exact ⟨rfl, rfl⟩
theorem fn4 (l u c : Int) (w : World) (hl : 0 ≤ l ∧ l ≤ 255) (hu : 0 ≤ u ∧ u ≤ 255) : Calls Try.prog 28 #[.int .i64 l, .int .i64 u, .int .i64 c] w fun e w' => e = .returned (.int .i64 ((l + u) / 2)) ∧ w = w' := by
  obtain ⟨l0, l1⟩ := hl
  obtain ⟨u0, u1⟩ := hu
  go_enter Try.func28, Try.ntmps28
  go_wp2
  go_ret
  exact ⟨rfl, rfl⟩
theorem fn6 (l u c : Int) (w : World) (hl : 0 ≤ l ∧ l ≤ 255) (hu : 0 ≤ u ∧ u ≤ 255) (hc : 0 ≤ c ∧ c ≤ 255) : Calls Try.prog 30 #[.int .i64 l, .int .i64 u, .int .i64 c] w fun e w' => e = .returned (.int .i64 (M.median l u c)) ∧ w = w' := by
  obtain ⟨l0, l1⟩ := hl
  obtain ⟨u0, u1⟩ := hu
  obtain ⟨c0, c1⟩ := hc
  go_enter Try.func30, Try.ntmps30
  go_wp2
  all_goals
    go_ret
    exact ⟨ret_int (by unfold M.median; (repeat split at *) <;> omega), rfl⟩
end Go.Proofs.Ytihhcmgidgffoaa
