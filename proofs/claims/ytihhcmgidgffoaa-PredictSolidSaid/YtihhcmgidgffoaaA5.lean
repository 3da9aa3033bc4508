/- Walks of layer 10 (predict): the predictor that picks the nearest neighbour. -/
import Derived.Test.YtihhcmgidgffoaaA
import Derived.Deep.Light
namespace Go.Proofs.Ytihhcmgidgffoaa
open Go.RowKit
theorem dist_lt (l u c x : Int) (hl : 0 ≤ l ∧ l ≤ 255) (hu : 0 ≤ u ∧ u ≤ 255) (hc : 0 ≤ c ∧ c ≤ 255) (hx : 0 ≤ x ∧ x ≤ 255) : M.dist l u c x < 1073741824 := by unfold M.dist; omega
set_option maxHeartbeats 400000 in
theorem fn5 (l u c : Int) (w : World) (hl : 0 ≤ l ∧ l ≤ 255) (hu : 0 ≤ u ∧ u ≤ 255) (hc : 0 ≤ c ∧ c ≤ 255) : Calls Try.prog 29 #[.int .i64 l, .int .i64 u, .int .i64 c] w fun e w' => e = .returned (.int .i64 (M.paeth l u c)) ∧ w = w' := by
  obtain ⟨l0, l1⟩ := hl
  obtain ⟨u0, u1⟩ := hu
  obtain ⟨c0, c1⟩ := hc
  go_enter Try.func29, Try.ntmps29
  have i0 : ∀ w, (Instr.index 68 (.agg #[.int .i64 l, .int .i64 u, .int .i64 c]) (.int .i64 0)).run Try.prog w = .ok (.int .i64 l) w := fun _ => by kernel_rfl
  have i1 : ∀ w, (Instr.index 68 (.agg #[.int .i64 l, .int .i64 u, .int .i64 c]) (.int .i64 1)).run Try.prog w = .ok (.int .i64 u) w := fun _ => by kernel_rfl
  have i2 : ∀ w, (Instr.index 68 (.agg #[.int .i64 l, .int .i64 u, .int .i64 c]) (.int .i64 2)).run Try.prog w = .ok (.int .i64 c) w := fun _ => by kernel_rfl
  go_wp2
  refine wp_loop_rounds 4 ?_
  iterate 4 (any_goals (rw [rounds_succ]; go_wp2_with fail))
  all_goals
    go_ret
    refine ⟨ret_int ?_, rfl⟩
    clear i0 i1 i2
    go_light
    unfold M.paeth M.dist
    (repeat split at *) <;> omega
end Go.Proofs.Ytihhcmgidgffoaa
