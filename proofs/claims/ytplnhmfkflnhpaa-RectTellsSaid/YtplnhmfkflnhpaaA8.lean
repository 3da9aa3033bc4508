/- Walks of layer 3 (rect): the reference's Scale and Shrink, Of, Small. -/
import Derived.Test.YtplnhmfkflnhpaaA
import Derived.Test.YtplnhmfkflnhpaaA6
set_option linter.unusedVariables false
namespace Go.Proofs.Ytplnhmfkflnhpaa
open Go.RowKit
def ofR (x y : Int) : R := ⟨wrap64 (8 * x), wrap64 (8 * y), wrap64 (wrap64 (8 * x) + 8), wrap64 (wrap64 (8 * y) + 8)⟩
def smallR (q0 q1 q2 q3 : Int) : R := ⟨wrap64 (rst q0 40 - 20), wrap64 (rst q1 40 - 20), wrap64 (wrap64 (rst q0 40 - 20) + rst q2 40), wrap64 (wrap64 (rst q1 40 - 20) + rst q3 40)⟩
set_option maxRecDepth 100000 in
set_option maxHeartbeats 1000000 in
theorem of_ref (x y : Int) (w : World) : Calls Try.prog 30 #[.agg #[.int .i64 x, .int .i64 y]] w fun e w' => e = .returned (.agg #[.int .i64 (ofR x y).x0, .int .i64 (ofR x y).y0, .int .i64 (ofR x y).x1, .int .i64 (ofR x y).y1]) ∧ Below w.heap.size w w' := by
  go_enter Try.func30, Try.ntmps30
  go_wp2
  exact bodyPost_ret (v := .agg #[.int .i64 (wrap64 (8 * x)), .int .i64 (wrap64 (8 * y)), .int .i64 (wrap64 (wrap64 (8 * x) + 8)), .int .i64 (wrap64 (wrap64 (8 * y) + 8))]) (by simp [results, Try.results30, go_sem]) rfl ⟨rfl, ball2 _ _ _⟩
set_option maxRecDepth 100000 in
set_option maxHeartbeats 1000000 in
theorem of_any (x y : Int) (w : World) : Calls Try.prog 29 #[.agg #[.int .i64 x, .int .i64 y]] w fun e w' => e = .returned (.agg #[.int .i64 (ofR x y).x0, .int .i64 (ofR x y).y0, .int .i64 (ofR x y).x1, .int .i64 (ofR x y).y1]) ∧ Below w.heap.size w w' := by
  go_enter Try.func29, Try.ntmps29
  go_wp2
  go_quiet (fail)
  go_wp2
  exact bodyPost_ret (v := .agg #[.int .i64 (wrap64 (8 * x)), .int .i64 (wrap64 (8 * y)), .int .i64 (wrap64 (wrap64 (8 * x) + 8)), .int .i64 (wrap64 (wrap64 (8 * y) + 8))]) (by simp [results, Try.results29, go_sem]) rfl ⟨rfl, ((((((ball2 w _ _).trans (below_drewN _ _ _)).setCell (p := ⟨w.heap.size + 1, 0, none⟩) (by simp) _).setCell (p := ⟨w.heap.size + 1, 1, none⟩) (by simp) _).setCell (p := ⟨w.heap.size + 1, 2, none⟩) (by simp) _).setCell (p := ⟨w.heap.size + 1, 3, none⟩) (by simp) _)⟩
set_option maxRecDepth 100000 in
set_option maxHeartbeats 2000000 in
theorem small_any (q0 q1 q2 q3 : Int) (w : World) : Calls Try.prog 24 #[.agg #[.int .i64 q0, .int .i64 q1, .int .i64 q2, .int .i64 q3]] w fun e w' => e = .returned (.agg #[.int .i64 (smallR q0 q1 q2 q3).x0, .int .i64 (smallR q0 q1 q2 q3).y0, .int .i64 (smallR q0 q1 q2 q3).x1, .int .i64 (smallR q0 q1 q2 q3).y1]) ∧ Below w.heap.size w w' := by
  go_enter Try.func24, Try.ntmps24
  go_wp2_with (go_at_call 46; refine (rest_ref _ _ (by decide) _).mono ?_; rintro e w2 ⟨rfl, rfl⟩)
  refine wp_region_lastB (C := fun x => ∃ n, x = ((w.alloc (.cells #[.int .i64 q0, .int .i64 q1, .int .i64 q2, .int .i64 q3] 36)).alloc (.cells #[.int .i64 0, .int .i64 0, .int .i64 0, .int .i64 0] 26)).drewN n) rfl (by kernel_rfl) (by kernel_rfl) (by kernel_rfl) (by kernel_rfl) rfl rfl ⟨1, rfl⟩ ?_
  simp only [lastOp, List.dropLast, List.cons_append, List.nil_append]
  repeat (first
    | go_big_quiet_skip
    | (go_big_quiet_want; refine q_val ?_; apply Exists.intro; refine ⟨fun x hx => ?_, ?_⟩; (focus (obtain ⟨n, rfl⟩ := hx; go_simp <;> rfl)); simp only [Act.put, List.setIfInBounds_toArray, List.set_cons_zero, List.set_cons_succ]; go_big_quiet_on)
    | (go_big_quiet_want; refine q_call 46 ?_; apply Exists.intro; refine ⟨fun x hx => ?_, ?_⟩; (focus (go_simp <;> rfl)); apply Exists.intro; refine ⟨fun x hx => ?_, ?_⟩; (focus (exact (rest_ref _ _ (by decide) _).mono fun e w' h => ⟨h.1, h.2 ▸ hx⟩)); simp only [Act.put, List.setIfInBounds_toArray, List.set_cons_zero, List.set_cons_succ]; go_big_quiet_on))
  refine wpQuiet_nil ?_
  rintro w2 ⟨n, rfl⟩
  rw [drewN_alloc, drewN_alloc]
  obtain ⟨w3, h3⟩ : ∃ w3, w.drewN n = w3 := ⟨_, rfl⟩
  have hs : w.heap.size = w3.heap.size := by rw [← h3]; rfl
  have hB3 : Below w.heap.size w w3 := by rw [← h3]; exact below_drewN _ _ _
  rw [h3, hs]
  go_wp2
  exact bodyPost_ret (v := .agg #[.int .i64 (wrap64 (rst q0 40 - 20)), .int .i64 (wrap64 (rst q1 40 - 20)), .int .i64 (wrap64 (wrap64 (rst q0 40 - 20) + rst q2 40)), .int .i64 (wrap64 (wrap64 (rst q1 40 - 20) + rst q3 40))]) (by simp [results, Try.results24, go_sem]) rfl ⟨rfl, (hB3.alloc (by omega) _).alloc (by simp; omega) _⟩
end Go.Proofs.Ytplnhmfkflnhpaa
