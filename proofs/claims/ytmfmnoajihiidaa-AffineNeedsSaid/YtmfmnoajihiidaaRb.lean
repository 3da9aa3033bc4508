/- Walks of Union and Small: the rect claims' texts, turned to this seat by genRct.py. -/
import Derived.Test.YtmfmnoajihiidaaRa
set_option linter.unusedVariables false
namespace Go.Proofs.Ytmfmnoajihiidaa.Rct
open Go.RowKit
open Go.Proofs.Ytmfmnoajihiidaa
theorem drewN_alloc (w : World) (o : Obj) (n : Nat) : (w.alloc o).drewN n = (w.drewN n).alloc o := rfl
theorem below_drewN (B : Nat) (w : World) (n : Nat) : Below B w (w.drewN n) := ⟨rfl, rfl, rfl, Nat.le_refl _, fun _ _ => rfl⟩
set_option maxRecDepth 100000 in
set_option maxHeartbeats 1600000 in
theorem uni_any (ax0 ay0 ax1 ay1 bx0 by0 bx1 by1 : Int) (w : World) : Calls Try.prog 39 #[.agg #[.int .i64 ax0, .int .i64 ay0, .int .i64 ax1, .int .i64 ay1], .agg #[.int .i64 bx0, .int .i64 by0, .int .i64 bx1, .int .i64 by1]] w fun e w' => e = .returned (.agg #[.int .i64 (uni ⟨ax0, ay0, ax1, ay1⟩ ⟨bx0, by0, bx1, by1⟩).x0, .int .i64 (uni ⟨ax0, ay0, ax1, ay1⟩ ⟨bx0, by0, bx1, by1⟩).y0, .int .i64 (uni ⟨ax0, ay0, ax1, ay1⟩ ⟨bx0, by0, bx1, by1⟩).x1, .int .i64 (uni ⟨ax0, ay0, ax1, ay1⟩ ⟨bx0, by0, bx1, by1⟩).y1]) ∧ Below w.heap.size w w' := by
  cases ha : emp ⟨ax0, ay0, ax1, ay1⟩
  · cases hb : emp ⟨bx0, by0, bx1, by1⟩
    · have HH0 : uni ⟨ax0, ay0, ax1, ay1⟩ ⟨bx0, by0, bx1, by1⟩ = ⟨if bx0 < ax0 then bx0 else ax0, if by0 < ay0 then by0 else ay0, if ax1 < bx1 then bx1 else ax1, if ay1 < by1 then by1 else ay1⟩ := by unfold uni; rw [if_neg (by rw [ha]; simp), if_neg (by rw [hb]; simp)]; rfl
      generalize uni ⟨ax0, ay0, ax1, ay1⟩ ⟨bx0, by0, bx1, by1⟩ = r at *
      by_cases h1 : bx0 < ax0 <;> by_cases h2 : by0 < ay0 <;> by_cases h3 : ax1 < bx1 <;> by_cases h4 : ay1 < by1 <;> simp only [h1, h2, h3, h4, if_true, if_false] at HH0
      all_goals
        have HH := Lib.hid HH0
        clear HH0
        go_enter Try.func39, Try.ntmps39
        go_wp2_with (first
      | (go_at_call 72; refine (empty_any _ _ _ _ _).mono ?_; rintro e w2 ⟨rfl, rfl⟩)
      | (go_at_call 73; refine (norm_any _ _ _ _ _).mono ?_; rintro e w3 ⟨rfl, rfl⟩))
        exact bodyPost_ret (v := .agg #[.int .i64 r.x0, .int .i64 r.y0, .int .i64 r.x1, .int .i64 r.y1]) (by rw [HH.out]; simp [results, Try.results39, go_sem]) rfl ⟨rfl, (by repeat (first | exact Below.refl _ _ | refine Below.alloc ?_ (by simp <;> omega) _))⟩
    · have HH0 : uni ⟨ax0, ay0, ax1, ay1⟩ ⟨bx0, by0, bx1, by1⟩ = ⟨ax0, ay0, ax1, ay1⟩ := by unfold uni; rw [if_neg (by rw [ha]; simp), if_pos hb]
      rw [HH0]
      clear HH0
      go_enter Try.func39, Try.ntmps39
      go_wp2_with (first
      | (go_at_call 72; refine (empty_any _ _ _ _ _).mono ?_; rintro e w2 ⟨rfl, rfl⟩)
      | (go_at_call 73; refine (norm_any _ _ _ _ _).mono ?_; rintro e w3 ⟨rfl, rfl⟩))
      exact bodyPost_ret (v := .agg #[.int .i64 ax0, .int .i64 ay0, .int .i64 ax1, .int .i64 ay1]) (by simp [results, Try.results39, go_sem]) rfl ⟨rfl, (by repeat (first | exact Below.refl _ _ | refine Below.alloc ?_ (by simp <;> omega) _))⟩
  · have HH0 : uni ⟨ax0, ay0, ax1, ay1⟩ ⟨bx0, by0, bx1, by1⟩ = nrm ⟨bx0, by0, bx1, by1⟩ := by unfold uni; rw [if_pos ha]
    rw [HH0]
    clear HH0
    cases hb : emp ⟨bx0, by0, bx1, by1⟩
    all_goals
      go_enter Try.func39, Try.ntmps39
      go_wp2_with (first
      | (go_at_call 72; refine (empty_any _ _ _ _ _).mono ?_; rintro e w2 ⟨rfl, rfl⟩)
      | (go_at_call 73; refine (norm_any _ _ _ _ _).mono ?_; rintro e w3 ⟨rfl, rfl⟩))
      exact bodyPost_ret (v := .agg #[.int .i64 (nrm ⟨bx0, by0, bx1, by1⟩).x0, .int .i64 (nrm ⟨bx0, by0, bx1, by1⟩).y0, .int .i64 (nrm ⟨bx0, by0, bx1, by1⟩).x1, .int .i64 (nrm ⟨bx0, by0, bx1, by1⟩).y1]) (by simp [results, Try.results39, go_sem]) rfl ⟨rfl, (by repeat (first | exact Below.refl _ _ | refine Below.alloc ?_ (by simp <;> omega) _))⟩
set_option maxRecDepth 100000 in
set_option maxHeartbeats 1600000 in
theorem uni_ref (ax0 ay0 ax1 ay1 bx0 by0 bx1 by1 : Int) (w : World) : Calls Try.prog 68 #[.agg #[.int .i64 ax0, .int .i64 ay0, .int .i64 ax1, .int .i64 ay1], .agg #[.int .i64 bx0, .int .i64 by0, .int .i64 bx1, .int .i64 by1]] w fun e w' => e = .returned (.agg #[.int .i64 (uni ⟨ax0, ay0, ax1, ay1⟩ ⟨bx0, by0, bx1, by1⟩).x0, .int .i64 (uni ⟨ax0, ay0, ax1, ay1⟩ ⟨bx0, by0, bx1, by1⟩).y0, .int .i64 (uni ⟨ax0, ay0, ax1, ay1⟩ ⟨bx0, by0, bx1, by1⟩).x1, .int .i64 (uni ⟨ax0, ay0, ax1, ay1⟩ ⟨bx0, by0, bx1, by1⟩).y1]) ∧ Below w.heap.size w w' := by
  cases ha : emp ⟨ax0, ay0, ax1, ay1⟩
  · cases hb : emp ⟨bx0, by0, bx1, by1⟩
    · have HH0 : uni ⟨ax0, ay0, ax1, ay1⟩ ⟨bx0, by0, bx1, by1⟩ = ⟨if bx0 < ax0 then bx0 else ax0, if by0 < ay0 then by0 else ay0, if ax1 < bx1 then bx1 else ax1, if ay1 < by1 then by1 else ay1⟩ := by unfold uni; rw [if_neg (by rw [ha]; simp), if_neg (by rw [hb]; simp)]; rfl
      generalize uni ⟨ax0, ay0, ax1, ay1⟩ ⟨bx0, by0, bx1, by1⟩ = r at *
      by_cases h1 : bx0 < ax0 <;> by_cases h2 : by0 < ay0 <;> by_cases h3 : ax1 < bx1 <;> by_cases h4 : ay1 < by1 <;> simp only [h1, h2, h3, h4, if_true, if_false] at HH0
      all_goals
        have HH := Lib.hid HH0
        clear HH0
        go_enter Try.func68, Try.ntmps68
        go_wp2_with (first
      | (go_at_call 66; refine (empty_ref _ _ _ _ _).mono ?_; rintro e w2 ⟨rfl, rfl⟩)
      | (go_at_call 77; refine (norm_ref _ _ _ _ _).mono ?_; rintro e w3 ⟨rfl, rfl⟩))
        exact bodyPost_ret (v := .agg #[.int .i64 r.x0, .int .i64 r.y0, .int .i64 r.x1, .int .i64 r.y1]) (by rw [HH.out]; simp [results, Try.results68, go_sem]) rfl ⟨rfl, (by repeat (first | exact Below.refl _ _ | refine Below.alloc ?_ (by simp <;> omega) _))⟩
    · have HH0 : uni ⟨ax0, ay0, ax1, ay1⟩ ⟨bx0, by0, bx1, by1⟩ = ⟨ax0, ay0, ax1, ay1⟩ := by unfold uni; rw [if_neg (by rw [ha]; simp), if_pos hb]
      rw [HH0]
      clear HH0
      go_enter Try.func68, Try.ntmps68
      go_wp2_with (first
      | (go_at_call 66; refine (empty_ref _ _ _ _ _).mono ?_; rintro e w2 ⟨rfl, rfl⟩)
      | (go_at_call 77; refine (norm_ref _ _ _ _ _).mono ?_; rintro e w3 ⟨rfl, rfl⟩))
      exact bodyPost_ret (v := .agg #[.int .i64 ax0, .int .i64 ay0, .int .i64 ax1, .int .i64 ay1]) (by simp [results, Try.results68, go_sem]) rfl ⟨rfl, (by repeat (first | exact Below.refl _ _ | refine Below.alloc ?_ (by simp <;> omega) _))⟩
  · have HH0 : uni ⟨ax0, ay0, ax1, ay1⟩ ⟨bx0, by0, bx1, by1⟩ = nrm ⟨bx0, by0, bx1, by1⟩ := by unfold uni; rw [if_pos ha]
    rw [HH0]
    clear HH0
    cases hb : emp ⟨bx0, by0, bx1, by1⟩
    all_goals
      go_enter Try.func68, Try.ntmps68
      go_wp2_with (first
      | (go_at_call 66; refine (empty_ref _ _ _ _ _).mono ?_; rintro e w2 ⟨rfl, rfl⟩)
      | (go_at_call 77; refine (norm_ref _ _ _ _ _).mono ?_; rintro e w3 ⟨rfl, rfl⟩))
      exact bodyPost_ret (v := .agg #[.int .i64 (nrm ⟨bx0, by0, bx1, by1⟩).x0, .int .i64 (nrm ⟨bx0, by0, bx1, by1⟩).y0, .int .i64 (nrm ⟨bx0, by0, bx1, by1⟩).x1, .int .i64 (nrm ⟨bx0, by0, bx1, by1⟩).y1]) (by simp [results, Try.results68, go_sem]) rfl ⟨rfl, (by repeat (first | exact Below.refl _ _ | refine Below.alloc ?_ (by simp <;> omega) _))⟩
def smallR (q0 q1 q2 q3 : Int) : R := ⟨wrap64 (rst q0 40 - 20), wrap64 (rst q1 40 - 20), wrap64 (wrap64 (rst q0 40 - 20) + rst q2 40), wrap64 (wrap64 (rst q1 40 - 20) + rst q3 40)⟩
set_option maxRecDepth 100000 in
set_option maxHeartbeats 2000000 in
theorem small_any (q0 q1 q2 q3 : Int) (w : World) : Calls Try.prog 21 #[.agg #[.int .i64 q0, .int .i64 q1, .int .i64 q2, .int .i64 q3]] w fun e w' => e = .returned (.agg #[.int .i64 (smallR q0 q1 q2 q3).x0, .int .i64 (smallR q0 q1 q2 q3).y0, .int .i64 (smallR q0 q1 q2 q3).x1, .int .i64 (smallR q0 q1 q2 q3).y1]) ∧ Below w.heap.size w w' := by
  go_enter Try.func21, Try.ntmps21
  go_wp2_with (go_at_call 47; refine (rest_ref _ _ (by decide) _).mono ?_; rintro e w2 ⟨rfl, rfl⟩)
  refine wp_region_lastB (C := fun x => ∃ n, x = ((w.alloc (.cells #[.int .i64 q0, .int .i64 q1, .int .i64 q2, .int .i64 q3] 46)).alloc (.cells #[.int .i64 0, .int .i64 0, .int .i64 0, .int .i64 0] 48)).drewN n) rfl (by kernel_rfl) (by kernel_rfl) (by kernel_rfl) (by kernel_rfl) rfl rfl ⟨1, rfl⟩ ?_
  simp only [lastOp, List.dropLast, List.cons_append, List.nil_append]
  repeat (first
    | go_big_quiet_skip
    | (go_big_quiet_want; refine q_val ?_; apply Exists.intro; refine ⟨fun x hx => ?_, ?_⟩; (focus (obtain ⟨n, rfl⟩ := hx; go_simp <;> rfl)); simp only [Act.put, List.setIfInBounds_toArray, List.set_cons_zero, List.set_cons_succ]; go_big_quiet_on)
    | (go_big_quiet_want; refine q_call 47 ?_; apply Exists.intro; refine ⟨fun x hx => ?_, ?_⟩; (focus (go_simp <;> rfl)); apply Exists.intro; refine ⟨fun x hx => ?_, ?_⟩; (focus (exact (rest_ref _ _ (by decide) _).mono fun e w' h => ⟨h.1, h.2 ▸ hx⟩)); simp only [Act.put, List.setIfInBounds_toArray, List.set_cons_zero, List.set_cons_succ]; go_big_quiet_on))
  refine wpQuiet_nil ?_
  rintro w2 ⟨n, rfl⟩
  rw [drewN_alloc, drewN_alloc]
  obtain ⟨w3, h3⟩ : ∃ w3, w.drewN n = w3 := ⟨_, rfl⟩
  have hs : w.heap.size = w3.heap.size := by rw [← h3]; rfl
  have hB3 : Below w.heap.size w w3 := by rw [← h3]; exact below_drewN _ _ _
  rw [h3, hs]
  go_wp2
  exact bodyPost_ret (v := .agg #[.int .i64 (wrap64 (rst q0 40 - 20)), .int .i64 (wrap64 (rst q1 40 - 20)), .int .i64 (wrap64 (wrap64 (rst q0 40 - 20) + rst q2 40)), .int .i64 (wrap64 (wrap64 (rst q1 40 - 20) + rst q3 40))]) (by simp [results, Try.results21, go_sem]) rfl ⟨rfl, (hB3.alloc (by omega) _).alloc (by simp; omega) _⟩
end Go.Proofs.Ytmfmnoajihiidaa.Rct
