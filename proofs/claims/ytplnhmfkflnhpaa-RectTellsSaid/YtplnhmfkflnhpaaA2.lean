/- Walks of layer 3 (rect): Union, Grow, Move, the program's and the reference's. -/
import Derived.Test.YtplnhmfkflnhpaaA
set_option linter.unusedVariables false
namespace Go.Proofs.Ytplnhmfkflnhpaa
open Go.RowKit

set_option maxRecDepth 100000 in
set_option maxHeartbeats 1600000 in
theorem uni_any (ax0 ay0 ax1 ay1 bx0 by0 bx1 by1 : Int) (w : World) : Calls Try.prog 38 #[.agg #[.int .i64 ax0, .int .i64 ay0, .int .i64 ax1, .int .i64 ay1], .agg #[.int .i64 bx0, .int .i64 by0, .int .i64 bx1, .int .i64 by1]] w fun e w' => e = .returned (.agg #[.int .i64 (uni ⟨ax0, ay0, ax1, ay1⟩ ⟨bx0, by0, bx1, by1⟩).x0, .int .i64 (uni ⟨ax0, ay0, ax1, ay1⟩ ⟨bx0, by0, bx1, by1⟩).y0, .int .i64 (uni ⟨ax0, ay0, ax1, ay1⟩ ⟨bx0, by0, bx1, by1⟩).x1, .int .i64 (uni ⟨ax0, ay0, ax1, ay1⟩ ⟨bx0, by0, bx1, by1⟩).y1]) ∧ Below w.heap.size w w' := by
  cases ha : emp ⟨ax0, ay0, ax1, ay1⟩
  · cases hb : emp ⟨bx0, by0, bx1, by1⟩
    · have HH0 : uni ⟨ax0, ay0, ax1, ay1⟩ ⟨bx0, by0, bx1, by1⟩ = ⟨if bx0 < ax0 then bx0 else ax0, if by0 < ay0 then by0 else ay0, if ax1 < bx1 then bx1 else ax1, if ay1 < by1 then by1 else ay1⟩ := by unfold uni; rw [if_neg (by rw [ha]; simp), if_neg (by rw [hb]; simp)]; rfl
      generalize uni ⟨ax0, ay0, ax1, ay1⟩ ⟨bx0, by0, bx1, by1⟩ = r at *
      by_cases h1 : bx0 < ax0 <;> by_cases h2 : by0 < ay0 <;> by_cases h3 : ax1 < bx1 <;> by_cases h4 : ay1 < by1 <;> simp only [h1, h2, h3, h4, if_true, if_false] at HH0
      all_goals
        have HH := Lib.hid HH0
        clear HH0
        go_enter Try.func38, Try.ntmps38
        go_wp2_with (first
      | (go_at_call 22; refine (empty_any _ _ _ _ _).mono ?_; rintro e w2 ⟨rfl, rfl⟩)
      | (go_at_call 43; refine (norm_any _ _ _ _ _).mono ?_; rintro e w3 ⟨rfl, rfl⟩))
        exact bodyPost_ret (v := .agg #[.int .i64 r.x0, .int .i64 r.y0, .int .i64 r.x1, .int .i64 r.y1]) (by rw [HH.out]; simp [results, Try.results38, go_sem]) rfl ⟨rfl, (by repeat (first | exact Below.refl _ _ | refine Below.alloc ?_ (by simp <;> omega) _))⟩
    · have HH0 : uni ⟨ax0, ay0, ax1, ay1⟩ ⟨bx0, by0, bx1, by1⟩ = ⟨ax0, ay0, ax1, ay1⟩ := by unfold uni; rw [if_neg (by rw [ha]; simp), if_pos hb]
      rw [HH0]
      clear HH0
      go_enter Try.func38, Try.ntmps38
      go_wp2_with (first
      | (go_at_call 22; refine (empty_any _ _ _ _ _).mono ?_; rintro e w2 ⟨rfl, rfl⟩)
      | (go_at_call 43; refine (norm_any _ _ _ _ _).mono ?_; rintro e w3 ⟨rfl, rfl⟩))
      exact bodyPost_ret (v := .agg #[.int .i64 ax0, .int .i64 ay0, .int .i64 ax1, .int .i64 ay1]) (by simp [results, Try.results38, go_sem]) rfl ⟨rfl, (by repeat (first | exact Below.refl _ _ | refine Below.alloc ?_ (by simp <;> omega) _))⟩
  · have HH0 : uni ⟨ax0, ay0, ax1, ay1⟩ ⟨bx0, by0, bx1, by1⟩ = nrm ⟨bx0, by0, bx1, by1⟩ := by unfold uni; rw [if_pos ha]
    rw [HH0]
    clear HH0
    cases hb : emp ⟨bx0, by0, bx1, by1⟩
    all_goals
      go_enter Try.func38, Try.ntmps38
      go_wp2_with (first
      | (go_at_call 22; refine (empty_any _ _ _ _ _).mono ?_; rintro e w2 ⟨rfl, rfl⟩)
      | (go_at_call 43; refine (norm_any _ _ _ _ _).mono ?_; rintro e w3 ⟨rfl, rfl⟩))
      exact bodyPost_ret (v := .agg #[.int .i64 (nrm ⟨bx0, by0, bx1, by1⟩).x0, .int .i64 (nrm ⟨bx0, by0, bx1, by1⟩).y0, .int .i64 (nrm ⟨bx0, by0, bx1, by1⟩).x1, .int .i64 (nrm ⟨bx0, by0, bx1, by1⟩).y1]) (by simp [results, Try.results38, go_sem]) rfl ⟨rfl, (by repeat (first | exact Below.refl _ _ | refine Below.alloc ?_ (by simp <;> omega) _))⟩

set_option maxRecDepth 100000 in
set_option maxHeartbeats 1600000 in
theorem uni_ref (ax0 ay0 ax1 ay1 bx0 by0 bx1 by1 : Int) (w : World) : Calls Try.prog 57 #[.agg #[.int .i64 ax0, .int .i64 ay0, .int .i64 ax1, .int .i64 ay1], .agg #[.int .i64 bx0, .int .i64 by0, .int .i64 bx1, .int .i64 by1]] w fun e w' => e = .returned (.agg #[.int .i64 (uni ⟨ax0, ay0, ax1, ay1⟩ ⟨bx0, by0, bx1, by1⟩).x0, .int .i64 (uni ⟨ax0, ay0, ax1, ay1⟩ ⟨bx0, by0, bx1, by1⟩).y0, .int .i64 (uni ⟨ax0, ay0, ax1, ay1⟩ ⟨bx0, by0, bx1, by1⟩).x1, .int .i64 (uni ⟨ax0, ay0, ax1, ay1⟩ ⟨bx0, by0, bx1, by1⟩).y1]) ∧ Below w.heap.size w w' := by
  cases ha : emp ⟨ax0, ay0, ax1, ay1⟩
  · cases hb : emp ⟨bx0, by0, bx1, by1⟩
    · have HH0 : uni ⟨ax0, ay0, ax1, ay1⟩ ⟨bx0, by0, bx1, by1⟩ = ⟨if bx0 < ax0 then bx0 else ax0, if by0 < ay0 then by0 else ay0, if ax1 < bx1 then bx1 else ax1, if ay1 < by1 then by1 else ay1⟩ := by unfold uni; rw [if_neg (by rw [ha]; simp), if_neg (by rw [hb]; simp)]; rfl
      generalize uni ⟨ax0, ay0, ax1, ay1⟩ ⟨bx0, by0, bx1, by1⟩ = r at *
      by_cases h1 : bx0 < ax0 <;> by_cases h2 : by0 < ay0 <;> by_cases h3 : ax1 < bx1 <;> by_cases h4 : ay1 < by1 <;> simp only [h1, h2, h3, h4, if_true, if_false] at HH0
      all_goals
        have HH := Lib.hid HH0
        clear HH0
        go_enter Try.func57, Try.ntmps57
        go_wp2_with (first
      | (go_at_call 45; refine (empty_ref _ _ _ _ _).mono ?_; rintro e w2 ⟨rfl, rfl⟩)
      | (go_at_call 63; refine (norm_ref _ _ _ _ _).mono ?_; rintro e w3 ⟨rfl, rfl⟩))
        exact bodyPost_ret (v := .agg #[.int .i64 r.x0, .int .i64 r.y0, .int .i64 r.x1, .int .i64 r.y1]) (by rw [HH.out]; simp [results, Try.results57, go_sem]) rfl ⟨rfl, (by repeat (first | exact Below.refl _ _ | refine Below.alloc ?_ (by simp <;> omega) _))⟩
    · have HH0 : uni ⟨ax0, ay0, ax1, ay1⟩ ⟨bx0, by0, bx1, by1⟩ = ⟨ax0, ay0, ax1, ay1⟩ := by unfold uni; rw [if_neg (by rw [ha]; simp), if_pos hb]
      rw [HH0]
      clear HH0
      go_enter Try.func57, Try.ntmps57
      go_wp2_with (first
      | (go_at_call 45; refine (empty_ref _ _ _ _ _).mono ?_; rintro e w2 ⟨rfl, rfl⟩)
      | (go_at_call 63; refine (norm_ref _ _ _ _ _).mono ?_; rintro e w3 ⟨rfl, rfl⟩))
      exact bodyPost_ret (v := .agg #[.int .i64 ax0, .int .i64 ay0, .int .i64 ax1, .int .i64 ay1]) (by simp [results, Try.results57, go_sem]) rfl ⟨rfl, (by repeat (first | exact Below.refl _ _ | refine Below.alloc ?_ (by simp <;> omega) _))⟩
  · have HH0 : uni ⟨ax0, ay0, ax1, ay1⟩ ⟨bx0, by0, bx1, by1⟩ = nrm ⟨bx0, by0, bx1, by1⟩ := by unfold uni; rw [if_pos ha]
    rw [HH0]
    clear HH0
    cases hb : emp ⟨bx0, by0, bx1, by1⟩
    all_goals
      go_enter Try.func57, Try.ntmps57
      go_wp2_with (first
      | (go_at_call 45; refine (empty_ref _ _ _ _ _).mono ?_; rintro e w2 ⟨rfl, rfl⟩)
      | (go_at_call 63; refine (norm_ref _ _ _ _ _).mono ?_; rintro e w3 ⟨rfl, rfl⟩))
      exact bodyPost_ret (v := .agg #[.int .i64 (nrm ⟨bx0, by0, bx1, by1⟩).x0, .int .i64 (nrm ⟨bx0, by0, bx1, by1⟩).y0, .int .i64 (nrm ⟨bx0, by0, bx1, by1⟩).x1, .int .i64 (nrm ⟨bx0, by0, bx1, by1⟩).y1]) (by simp [results, Try.results57, go_sem]) rfl ⟨rfl, (by repeat (first | exact Below.refl _ _ | refine Below.alloc ?_ (by simp <;> omega) _))⟩

set_option maxRecDepth 100000 in
set_option maxHeartbeats 1600000 in
theorem grow_any (x0 y0 x1 y1 : Int) (n : Int) (w : World) : Calls Try.prog 39 #[.agg #[.int .i64 x0, .int .i64 y0, .int .i64 x1, .int .i64 y1], .int .i64 n] w fun e w' => e = .returned (.agg #[.int .i64 (grow ⟨x0, y0, x1, y1⟩ n).x0, .int .i64 (grow ⟨x0, y0, x1, y1⟩ n).y0, .int .i64 (grow ⟨x0, y0, x1, y1⟩ n).x1, .int .i64 (grow ⟨x0, y0, x1, y1⟩ n).y1]) ∧ Below w.heap.size w w' := by
  cases ha : emp ⟨x0, y0, x1, y1⟩
  · have HH0 : grow ⟨x0, y0, x1, y1⟩ n = nrm ⟨wrap64 (x0 - n), wrap64 (y0 - n), wrap64 (x1 + n), wrap64 (y1 + n)⟩ := by unfold grow; rw [if_neg (by rw [ha]; simp)]
    rw [HH0]
    clear HH0
    go_enter Try.func39, Try.ntmps39
    go_wp2_with (first
      | (go_at_call 22; refine (empty_any _ _ _ _ _).mono ?_; rintro e w2 ⟨rfl, rfl⟩)
      | (go_at_call 43; refine (norm_any _ _ _ _ _).mono ?_; rintro e w3 ⟨rfl, rfl⟩))
    exact bodyPost_ret (v := .agg #[.int .i64 (nrm ⟨wrap64 (x0 - n), wrap64 (y0 - n), wrap64 (x1 + n), wrap64 (y1 + n)⟩).x0, .int .i64 (nrm ⟨wrap64 (x0 - n), wrap64 (y0 - n), wrap64 (x1 + n), wrap64 (y1 + n)⟩).y0, .int .i64 (nrm ⟨wrap64 (x0 - n), wrap64 (y0 - n), wrap64 (x1 + n), wrap64 (y1 + n)⟩).x1, .int .i64 (nrm ⟨wrap64 (x0 - n), wrap64 (y0 - n), wrap64 (x1 + n), wrap64 (y1 + n)⟩).y1]) (by simp [results, Try.results39, go_sem]) rfl ⟨rfl, (by repeat (first | exact Below.refl _ _ | refine Below.alloc ?_ (by simp <;> omega) _))⟩
  · have HH0 : grow ⟨x0, y0, x1, y1⟩ n = R.zero := by unfold grow; rw [if_pos ha]
    rw [HH0]
    clear HH0
    go_enter Try.func39, Try.ntmps39
    go_wp2_with (first
      | (go_at_call 22; refine (empty_any _ _ _ _ _).mono ?_; rintro e w2 ⟨rfl, rfl⟩)
      | (go_at_call 43; refine (norm_any _ _ _ _ _).mono ?_; rintro e w3 ⟨rfl, rfl⟩))
    exact bodyPost_ret (v := .agg #[.int .i64 0, .int .i64 0, .int .i64 0, .int .i64 0]) (by simp [results, Try.results39, go_sem]) rfl ⟨rfl, (by repeat (first | exact Below.refl _ _ | refine Below.alloc ?_ (by simp <;> omega) _))⟩

set_option maxRecDepth 100000 in
set_option maxHeartbeats 1600000 in
theorem grow_ref (x0 y0 x1 y1 : Int) (n : Int) (w : World) : Calls Try.prog 58 #[.agg #[.int .i64 x0, .int .i64 y0, .int .i64 x1, .int .i64 y1], .int .i64 n] w fun e w' => e = .returned (.agg #[.int .i64 (grow ⟨x0, y0, x1, y1⟩ n).x0, .int .i64 (grow ⟨x0, y0, x1, y1⟩ n).y0, .int .i64 (grow ⟨x0, y0, x1, y1⟩ n).x1, .int .i64 (grow ⟨x0, y0, x1, y1⟩ n).y1]) ∧ Below w.heap.size w w' := by
  cases ha : emp ⟨x0, y0, x1, y1⟩
  · have HH0 : grow ⟨x0, y0, x1, y1⟩ n = nrm ⟨wrap64 (x0 - n), wrap64 (y0 - n), wrap64 (x1 + n), wrap64 (y1 + n)⟩ := by unfold grow; rw [if_neg (by rw [ha]; simp)]
    rw [HH0]
    clear HH0
    go_enter Try.func58, Try.ntmps58
    go_wp2_with (first
      | (go_at_call 45; refine (empty_ref _ _ _ _ _).mono ?_; rintro e w2 ⟨rfl, rfl⟩)
      | (go_at_call 63; refine (norm_ref _ _ _ _ _).mono ?_; rintro e w3 ⟨rfl, rfl⟩))
    exact bodyPost_ret (v := .agg #[.int .i64 (nrm ⟨wrap64 (x0 - n), wrap64 (y0 - n), wrap64 (x1 + n), wrap64 (y1 + n)⟩).x0, .int .i64 (nrm ⟨wrap64 (x0 - n), wrap64 (y0 - n), wrap64 (x1 + n), wrap64 (y1 + n)⟩).y0, .int .i64 (nrm ⟨wrap64 (x0 - n), wrap64 (y0 - n), wrap64 (x1 + n), wrap64 (y1 + n)⟩).x1, .int .i64 (nrm ⟨wrap64 (x0 - n), wrap64 (y0 - n), wrap64 (x1 + n), wrap64 (y1 + n)⟩).y1]) (by simp [results, Try.results58, go_sem]) rfl ⟨rfl, (by repeat (first | exact Below.refl _ _ | refine Below.alloc ?_ (by simp <;> omega) _))⟩
  · have HH0 : grow ⟨x0, y0, x1, y1⟩ n = R.zero := by unfold grow; rw [if_pos ha]
    rw [HH0]
    clear HH0
    go_enter Try.func58, Try.ntmps58
    go_wp2_with (first
      | (go_at_call 45; refine (empty_ref _ _ _ _ _).mono ?_; rintro e w2 ⟨rfl, rfl⟩)
      | (go_at_call 63; refine (norm_ref _ _ _ _ _).mono ?_; rintro e w3 ⟨rfl, rfl⟩))
    exact bodyPost_ret (v := .agg #[.int .i64 0, .int .i64 0, .int .i64 0, .int .i64 0]) (by simp [results, Try.results58, go_sem]) rfl ⟨rfl, (by repeat (first | exact Below.refl _ _ | refine Below.alloc ?_ (by simp <;> omega) _))⟩

set_option maxRecDepth 100000 in
set_option maxHeartbeats 1600000 in
theorem move_any (x0 y0 x1 y1 : Int) (x y : Int) (w : World) : Calls Try.prog 40 #[.agg #[.int .i64 x0, .int .i64 y0, .int .i64 x1, .int .i64 y1], .int .i64 x, .int .i64 y] w fun e w' => e = .returned (.agg #[.int .i64 (move ⟨x0, y0, x1, y1⟩ x y).x0, .int .i64 (move ⟨x0, y0, x1, y1⟩ x y).y0, .int .i64 (move ⟨x0, y0, x1, y1⟩ x y).x1, .int .i64 (move ⟨x0, y0, x1, y1⟩ x y).y1]) ∧ Below w.heap.size w w' := by
  cases ha : emp ⟨x0, y0, x1, y1⟩
  · have HH0 : move ⟨x0, y0, x1, y1⟩ x y = nrm ⟨wrap64 (x0 + x), wrap64 (y0 + y), wrap64 (x1 + x), wrap64 (y1 + y)⟩ := by unfold move; rw [if_neg (by rw [ha]; simp)]
    rw [HH0]
    clear HH0
    go_enter Try.func40, Try.ntmps40
    go_wp2_with (first
      | (go_at_call 22; refine (empty_any _ _ _ _ _).mono ?_; rintro e w2 ⟨rfl, rfl⟩)
      | (go_at_call 43; refine (norm_any _ _ _ _ _).mono ?_; rintro e w3 ⟨rfl, rfl⟩))
    exact bodyPost_ret (v := .agg #[.int .i64 (nrm ⟨wrap64 (x0 + x), wrap64 (y0 + y), wrap64 (x1 + x), wrap64 (y1 + y)⟩).x0, .int .i64 (nrm ⟨wrap64 (x0 + x), wrap64 (y0 + y), wrap64 (x1 + x), wrap64 (y1 + y)⟩).y0, .int .i64 (nrm ⟨wrap64 (x0 + x), wrap64 (y0 + y), wrap64 (x1 + x), wrap64 (y1 + y)⟩).x1, .int .i64 (nrm ⟨wrap64 (x0 + x), wrap64 (y0 + y), wrap64 (x1 + x), wrap64 (y1 + y)⟩).y1]) (by simp [results, Try.results40, go_sem]) rfl ⟨rfl, (by repeat (first | exact Below.refl _ _ | refine Below.alloc ?_ (by simp <;> omega) _))⟩
  · have HH0 : move ⟨x0, y0, x1, y1⟩ x y = R.zero := by unfold move; rw [if_pos ha]
    rw [HH0]
    clear HH0
    go_enter Try.func40, Try.ntmps40
    go_wp2_with (first
      | (go_at_call 22; refine (empty_any _ _ _ _ _).mono ?_; rintro e w2 ⟨rfl, rfl⟩)
      | (go_at_call 43; refine (norm_any _ _ _ _ _).mono ?_; rintro e w3 ⟨rfl, rfl⟩))
    exact bodyPost_ret (v := .agg #[.int .i64 0, .int .i64 0, .int .i64 0, .int .i64 0]) (by simp [results, Try.results40, go_sem]) rfl ⟨rfl, (by repeat (first | exact Below.refl _ _ | refine Below.alloc ?_ (by simp <;> omega) _))⟩

set_option maxRecDepth 100000 in
set_option maxHeartbeats 1600000 in
theorem move_ref (x0 y0 x1 y1 : Int) (x y : Int) (w : World) : Calls Try.prog 59 #[.agg #[.int .i64 x0, .int .i64 y0, .int .i64 x1, .int .i64 y1], .int .i64 x, .int .i64 y] w fun e w' => e = .returned (.agg #[.int .i64 (move ⟨x0, y0, x1, y1⟩ x y).x0, .int .i64 (move ⟨x0, y0, x1, y1⟩ x y).y0, .int .i64 (move ⟨x0, y0, x1, y1⟩ x y).x1, .int .i64 (move ⟨x0, y0, x1, y1⟩ x y).y1]) ∧ Below w.heap.size w w' := by
  cases ha : emp ⟨x0, y0, x1, y1⟩
  · have HH0 : move ⟨x0, y0, x1, y1⟩ x y = nrm ⟨wrap64 (x0 + x), wrap64 (y0 + y), wrap64 (x1 + x), wrap64 (y1 + y)⟩ := by unfold move; rw [if_neg (by rw [ha]; simp)]
    rw [HH0]
    clear HH0
    go_enter Try.func59, Try.ntmps59
    go_wp2_with (first
      | (go_at_call 45; refine (empty_ref _ _ _ _ _).mono ?_; rintro e w2 ⟨rfl, rfl⟩)
      | (go_at_call 63; refine (norm_ref _ _ _ _ _).mono ?_; rintro e w3 ⟨rfl, rfl⟩))
    exact bodyPost_ret (v := .agg #[.int .i64 (nrm ⟨wrap64 (x0 + x), wrap64 (y0 + y), wrap64 (x1 + x), wrap64 (y1 + y)⟩).x0, .int .i64 (nrm ⟨wrap64 (x0 + x), wrap64 (y0 + y), wrap64 (x1 + x), wrap64 (y1 + y)⟩).y0, .int .i64 (nrm ⟨wrap64 (x0 + x), wrap64 (y0 + y), wrap64 (x1 + x), wrap64 (y1 + y)⟩).x1, .int .i64 (nrm ⟨wrap64 (x0 + x), wrap64 (y0 + y), wrap64 (x1 + x), wrap64 (y1 + y)⟩).y1]) (by simp [results, Try.results59, go_sem]) rfl ⟨rfl, (by repeat (first | exact Below.refl _ _ | refine Below.alloc ?_ (by simp <;> omega) _))⟩
  · have HH0 : move ⟨x0, y0, x1, y1⟩ x y = R.zero := by unfold move; rw [if_pos ha]
    rw [HH0]
    clear HH0
    go_enter Try.func59, Try.ntmps59
    go_wp2_with (first
      | (go_at_call 45; refine (empty_ref _ _ _ _ _).mono ?_; rintro e w2 ⟨rfl, rfl⟩)
      | (go_at_call 63; refine (norm_ref _ _ _ _ _).mono ?_; rintro e w3 ⟨rfl, rfl⟩))
    exact bodyPost_ret (v := .agg #[.int .i64 0, .int .i64 0, .int .i64 0, .int .i64 0]) (by simp [results, Try.results59, go_sem]) rfl ⟨rfl, (by repeat (first | exact Below.refl _ _ | refine Below.alloc ?_ (by simp <;> omega) _))⟩

end Go.Proofs.Ytplnhmfkflnhpaa