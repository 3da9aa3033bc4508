/- Walks of layer 3 (rect): Shrink's function. -/
import Derived.Test.YtplnhmfkflnhpaaA4
import Derived.Test.YtplnhmfkflnhpaaP
import Derived.Test.YtplnhmfkflnhpaaJ2
import Derived.Test.YtplnhmfkflnhpaaH
set_option linter.unusedVariables false
namespace Go.Proofs.Ytplnhmfkflnhpaa
open Go.RowKit
theorem drewN_alloc (w : World) (o : Obj) (n : Nat) : (w.alloc o).drewN n = (w.drewN n).alloc o := rfl
theorem below_drewN (B : Nat) (w : World) (n : Nat) : Below B w (w.drewN n) := ⟨rfl, rfl, rfl, Nat.le_refl _, fun _ _ => rfl⟩
def shrR (r : R) (k : Int) : R := ⟨flr r.x0 k, flr r.y0 k, cel r.x1 k, cel r.y1 k⟩
set_option maxRecDepth 100000 in
set_option maxHeartbeats 4000000 in
theorem shrink1_any (r : R) (k : Int) (b : Nat) (w : World) (hr : BoxR w b r) : Calls Try.prog 49 #[.int .i64 k, .pointer (some ⟨b, 0, none⟩)] w fun e w' => e = .returned (.agg #[.int .i64 (flr r.x0 k), .int .i64 (flr r.y0 k), .int .i64 (cel r.x1 k), .int .i64 (cel r.y1 k)]) ∧ Below w.heap.size w w' := by
  have hb := hr.lt
  have hr1 := (hr.below hb (ball w (.cells #[.int .i64 0, .int .i64 0, .int .i64 0, .int .i64 0] 26)))
  have hbw := ball w (.cells #[.int .i64 0, .int .i64 0, .int .i64 0, .int .i64 0] 26)
  have hE := World.alloc_heap_new w (.cells #[.int .i64 0, .int .i64 0, .int .i64 0, .int .i64 0] 26)
  go_enter Try.func49, Try.ntmps49
  go_wp2
  have c0 := hr1.c0
  have c1 := hr1.c1
  have c2 := hr1.c2
  have c3 := hr1.c3
  refine wp_region_lastB (C := fun x => ∃ n, x = (w.alloc (.cells #[.int .i64 0, .int .i64 0, .int .i64 0, .int .i64 0] 26)).drewN n) rfl (by kernel_rfl) (by kernel_rfl) (by kernel_rfl) (by kernel_rfl) rfl rfl ⟨1, rfl⟩ ?_
  simp only [lastOp, List.dropLast, List.cons_append, List.nil_append]
  repeat (first
    | go_big_quiet_skip
    | (go_big_quiet_want; refine q_val ?_; apply Exists.intro; refine ⟨fun x hx => ?_, ?_⟩; (focus (obtain ⟨n, rfl⟩ := hx; go_simp <;> rfl)); simp only [Act.put, List.setIfInBounds_toArray, List.set_cons_zero, List.set_cons_succ]; go_big_quiet_on)
    | (go_big_quiet_want; refine q_call 14 ?_; apply Exists.intro; refine ⟨fun x hx => ?_, ?_⟩; (focus (go_simp <;> rfl)); apply Exists.intro; refine ⟨fun x hx => ?_, ?_⟩; (focus (exact (floor_any _ _ _).mono fun e w' h => ⟨h.1, h.2 ▸ hx⟩)); simp only [Act.put, List.setIfInBounds_toArray, List.set_cons_zero, List.set_cons_succ]; go_big_quiet_on)
    | (go_big_quiet_want; refine q_call 15 ?_; apply Exists.intro; refine ⟨fun x hx => ?_, ?_⟩; (focus (go_simp <;> rfl)); apply Exists.intro; refine ⟨fun x hx => ?_, ?_⟩; (focus (exact (ceil_any _ _ _).mono fun e w' h => ⟨h.1, h.2 ▸ hx⟩)); simp only [Act.put, List.setIfInBounds_toArray, List.set_cons_zero, List.set_cons_succ]; go_big_quiet_on))
  refine wpQuiet_nil ?_
  rintro w2 ⟨n, rfl⟩
  rw [drewN_alloc]
  obtain ⟨w3, h3⟩ : ∃ w3, w.drewN n = w3 := ⟨_, rfl⟩
  have hs : w.heap.size = w3.heap.size := by rw [← h3]; rfl
  have hB3 : Below w.heap.size w w3 := by rw [← h3]; exact below_drewN _ _ _
  rw [h3, hs]
  go_wp2
  exact bodyPost_ret (v := .agg #[.int .i64 (flr r.x0 k), .int .i64 (flr r.y0 k), .int .i64 (cel r.x1 k), .int .i64 (cel r.y1 k)]) (by simp [results, Try.results49, go_sem]) rfl ⟨rfl, hB3.alloc (by omega) _⟩
end Go.Proofs.Ytplnhmfkflnhpaa
