/- Walk of Valid. -/
import Derived.Test.YtmfmnoajihiidaaA
set_option linter.unusedVariables false
namespace Go.Proofs.Ytmfmnoajihiidaa
open Go.RowKit
set_option maxRecDepth 100000 in
set_option maxHeartbeats 2000000 in
theorem valid_any (A B C D E F N : Int) (w : World) :
    Calls Try.prog 27 #[.agg #[.int .i64 A, .int .i64 B, .int .i64 C, .int .i64 D, .int .i64 E, .int .i64 F, .int .i64 N]] w fun e w' => e = .returned (.bool (Af.val ⟨A, B, C, D, E, F, N⟩)) ∧ Grow w w' := by
  have hv : Af.val ⟨A, B, C, D, E, F, N⟩ = (decide (1 ≤ N) && ([A, B, D, E, N].all (Af.wi 4096)) && ([C, F].all (Af.wi 268435456)) && decide (Af.det ⟨A, B, C, D, E, F, N⟩ ≠ 0)) := by
    unfold Af.val; simp [Bool.and_assoc]
  have H1 : Hid (∀ w : World, Calls Try.prog 59 #[.int .i64 4096, .slice (some ⟨w.heap.size, 0, none⟩) 5 5] (w.alloc (.cells #[.int .i64 A, .int .i64 B, .int .i64 D, .int .i64 E, .int .i64 N] 3)) fun e w' => e = .returned (.bool ([A, B, D, E, N].all (Af.wi 4096))) ∧ w' = w.alloc (.cells #[.int .i64 A, .int .i64 B, .int .i64 D, .int .i64 E, .int .i64 N] 3)) := Lib.hid fun w => within_any 4096 (by omega) [A, B, D, E, N] (by simp) _ _ (heap_alloc_new _ _)
  have H2 : Hid (∀ w : World, Calls Try.prog 59 #[.int .i64 268435456, .slice (some ⟨w.heap.size, 0, none⟩) 2 2] (w.alloc (.cells #[.int .i64 C, .int .i64 F] 3)) fun e w' => e = .returned (.bool ([C, F].all (Af.wi 268435456))) ∧ w' = w.alloc (.cells #[.int .i64 C, .int .i64 F] 3)) := Lib.hid fun w => within_any 268435456 (by omega) [C, F] (by simp) _ _ (heap_alloc_new _ _)
  have HD := Lib.hid (fun (h : [A, B, D, E, N].all (Af.wi 4096) = true) => det_any A B C D E F N (by
      have h2 := List.all_eq_true.1 h A (by simp)
      simpa [Af.wi] using h2) (by
      have h2 := List.all_eq_true.1 h B (by simp)
      simpa [Af.wi] using h2) (by
      have h2 := List.all_eq_true.1 h D (by simp)
      simpa [Af.wi] using h2) (by
      have h2 := List.all_eq_true.1 h E (by simp)
      simpa [Af.wi] using h2))
  rw [hv]
  clear hv
  generalize Af.det ⟨A, B, C, D, E, F, N⟩ = dt at *
  generalize hb1 : [A, B, D, E, N].all (Af.wi 4096) = b1 at *
  generalize hb2 : [C, F].all (Af.wi 268435456) = b2 at *
  replace hb1 := Lib.hid hb1
  replace hb2 := Lib.hid hb2
  by_cases hn : 1 ≤ N
  · have hn1 : N ≥ 1 := hn
    have hd1 : decide (1 ≤ N) = true := decide_eq_true hn
    rw [hd1]
    clear hn
    go_enter Try.func27, Try.ntmps27
    go_wp2_with fail
    have h1 := H1.out (w.alloc (.cells #[.int .i64 A, .int .i64 B, .int .i64 C, .int .i64 D, .int .i64 E, .int .i64 F, .int .i64 N] 23))
    rw [show (w.alloc (.cells #[.int .i64 A, .int .i64 B, .int .i64 C, .int .i64 D, .int .i64 E, .int .i64 F, .int .i64 N] 23)).heap.size = w.heap.size + 1 by simp] at h1
    refine h1.mono ?_
    rintro e x ⟨rfl, rfl⟩
    clear h1
    cases b1 with
    | false =>
      go_wp2
      go_ret
      exact ⟨rfl, (Grow.alloc _ _).a _⟩
    | true =>
      go_wp2_with fail
      have h2 := H2.out ((w.alloc (.cells #[.int .i64 A, .int .i64 B, .int .i64 C, .int .i64 D, .int .i64 E, .int .i64 F, .int .i64 N] 23)).alloc (.cells #[.int .i64 A, .int .i64 B, .int .i64 D, .int .i64 E, .int .i64 N] 3))
      rw [show ((w.alloc (.cells #[.int .i64 A, .int .i64 B, .int .i64 C, .int .i64 D, .int .i64 E, .int .i64 F, .int .i64 N] 23)).alloc (.cells #[.int .i64 A, .int .i64 B, .int .i64 D, .int .i64 E, .int .i64 N] 3)).heap.size = w.heap.size + 1 + 1 by simp] at h2
      refine h2.mono ?_
      rintro e x ⟨rfl, rfl⟩
      clear h2
      cases b2 with
      | false =>
        go_wp2
        go_ret
        exact ⟨rfl, ((Grow.alloc _ _).a _).a _⟩
      | true =>
        have hd := Lib.hid (HD.out trivial)
        go_wp2_with fail
        refine (hd.out _).mono ?_
        rintro e x ⟨rfl, hg⟩
        have hG := (((Grow.alloc w (.cells #[.int .i64 A, .int .i64 B, .int .i64 C, .int .i64 D, .int .i64 E, .int .i64 F, .int .i64 N] 23)).a (.cells #[.int .i64 A, .int .i64 B, .int .i64 D, .int .i64 E, .int .i64 N] 3)).a (.cells #[.int .i64 C, .int .i64 F] 3)).trans hg
        replace hG := Lib.hid hG
        clear hg
        go_wp2
        go_ret
        refine ⟨ret_bool ?_, hG.out⟩
        show (dt != 0) = (true && true && true && decide (dt ≠ 0))
        by_cases hz : dt = 0 <;> simp [hz]
  · have hn1 : ¬ N ≥ 1 := hn
    have hd1 : decide (1 ≤ N) = false := decide_eq_false hn
    rw [hd1]
    clear hn
    go_enter Try.func27, Try.ntmps27
    go_wp2
    go_ret
    exact ⟨rfl, Grow.alloc _ _⟩
end Go.Proofs.Ytmfmnoajihiidaa
