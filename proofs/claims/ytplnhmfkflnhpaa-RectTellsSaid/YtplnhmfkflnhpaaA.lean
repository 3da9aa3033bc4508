/- Walks of layer 3 (rect): quotients, tests and small functions on rectangles, the program's and the reference's. -/
import Derived.Test.YtplnhmfkflnhpaaBase
import Derived.Test.YtplnhmfkflnhpaaM
import Derived.Test.YtplnhmfkflnhpaaQ
import Derived.Deep.QuietTactic
import Derived.BigQuiet
set_option linter.unusedVariables false
namespace Go.Proofs.Ytplnhmfkflnhpaa
open Go.RowKit
theorem bt {w w1 w2 : World} (h : Below w.heap.size w w1) (k : Below w1.heap.size w1 w2) : Below w.heap.size w w2 := h.trans (k.mono h.size)
theorem ball (w : World) (o : Obj) : Below w.heap.size w (w.alloc o) := (Below.refl _ _).alloc (Nat.le_refl _) o
theorem ball2 (w : World) (o o' : Obj) : Below w.heap.size w ((w.alloc o).alloc o') := (ball w o).alloc (by simp) o'
theorem ball3 (w : World) (o o' o'' : Obj) : Below w.heap.size w (((w.alloc o).alloc o').alloc o'') := (ball2 w o o').alloc (by simp; omega) o''
theorem ball4 (w : World) (o o' o'' p : Obj) : Below w.heap.size w ((((w.alloc o).alloc o').alloc o'').alloc p) := (ball3 w o o' o'').alloc (by simp; omega) p
theorem ball5 (w : World) (o o' o'' p p' : Obj) : Below w.heap.size w (((((w.alloc o).alloc o').alloc o'').alloc p).alloc p') := (ball4 w o o' o'' p).alloc (by simp; omega) p'

set_option maxRecDepth 100000 in
set_option maxHeartbeats 400000 in
theorem empty_any (x0 y0 x1 y1 : Int) (w : World) : Calls Try.prog 22 #[.agg #[.int .i64 x0, .int .i64 y0, .int .i64 x1, .int .i64 y1]] w fun e w' => e = .returned (.bool (emp ⟨x0, y0, x1, y1⟩)) ∧ w.alloc (.cells #[.int .i64 x0, .int .i64 y0, .int .i64 x1, .int .i64 y1] 26) = w' := by
  by_cases h : x1 ≤ x0
  · have he : emp ⟨x0, y0, x1, y1⟩ = true := by unfold emp; simp [h]
    rw [he]
    clear he
    go_enter Try.func22, Try.ntmps22
    go_wp2
    go_ret
    exact ⟨rfl, rfl⟩
  · have h' : x0 < x1 := by omega
    clear h
    go_enter Try.func22, Try.ntmps22
    go_wp2
    go_ret
    exact ⟨rfl, rfl⟩

set_option maxRecDepth 100000 in
set_option maxHeartbeats 400000 in
theorem empty_ref (x0 y0 x1 y1 : Int) (w : World) : Calls Try.prog 45 #[.agg #[.int .i64 x0, .int .i64 y0, .int .i64 x1, .int .i64 y1]] w fun e w' => e = .returned (.bool (emp ⟨x0, y0, x1, y1⟩)) ∧ w.alloc (.cells #[.int .i64 x0, .int .i64 y0, .int .i64 x1, .int .i64 y1] 26) = w' := by
  by_cases h : x1 ≤ x0
  · have he : emp ⟨x0, y0, x1, y1⟩ = true := by unfold emp; simp [h]
    rw [he]
    clear he
    go_enter Try.func45, Try.ntmps45
    go_wp2
    go_ret
    exact ⟨rfl, rfl⟩
  · have h' : x0 < x1 := by omega
    clear h
    go_enter Try.func45, Try.ntmps45
    go_wp2
    go_ret
    exact ⟨rfl, rfl⟩

set_option maxRecDepth 100000 in
set_option maxHeartbeats 400000 in
theorem norm_any (x0 y0 x1 y1 : Int) (w : World) : Calls Try.prog 43 #[.agg #[.int .i64 x0, .int .i64 y0, .int .i64 x1, .int .i64 y1]] w fun e w' => e = .returned (.agg #[.int .i64 (nrm ⟨x0, y0, x1, y1⟩).x0, .int .i64 (nrm ⟨x0, y0, x1, y1⟩).y0, .int .i64 (nrm ⟨x0, y0, x1, y1⟩).x1, .int .i64 (nrm ⟨x0, y0, x1, y1⟩).y1]) ∧ (((w.alloc (.cells #[.int .i64 x0, .int .i64 y0, .int .i64 x1, .int .i64 y1] 26)).alloc (.cells #[.int .i64 (nrm ⟨x0, y0, x1, y1⟩).x0, .int .i64 (nrm ⟨x0, y0, x1, y1⟩).y0, .int .i64 (nrm ⟨x0, y0, x1, y1⟩).x1, .int .i64 (nrm ⟨x0, y0, x1, y1⟩).y1] 26)).alloc (.cells #[.int .i64 x0, .int .i64 y0, .int .i64 x1, .int .i64 y1] 26)) = w' := by
  cases he : emp ⟨x0, y0, x1, y1⟩ with
  | true =>
    have hn : nrm ⟨x0, y0, x1, y1⟩ = R.zero := by unfold nrm; rw [if_pos he]
    rw [hn]
    clear hn
    go_enter Try.func43, Try.ntmps43
    go_wp2_with (go_at_call 22; refine (empty_any _ _ _ _ _).mono ?_; rintro e w2 ⟨rfl, rfl⟩)
    exact bodyPost_ret (v := .agg #[.int .i64 0, .int .i64 0, .int .i64 0, .int .i64 0]) (by simp [results, Try.results43, go_sem]) rfl ⟨rfl, rfl⟩
  | false =>
    have hn : nrm ⟨x0, y0, x1, y1⟩ = ⟨x0, y0, x1, y1⟩ := by unfold nrm; rw [if_neg (by rw [he]; simp)]
    rw [hn]
    clear hn
    go_enter Try.func43, Try.ntmps43
    go_wp2_with (go_at_call 22; refine (empty_any _ _ _ _ _).mono ?_; rintro e w2 ⟨rfl, rfl⟩)
    exact bodyPost_ret (v := .agg #[.int .i64 x0, .int .i64 y0, .int .i64 x1, .int .i64 y1]) (by simp [results, Try.results43, go_sem]) rfl ⟨rfl, rfl⟩

set_option maxRecDepth 100000 in
set_option maxHeartbeats 400000 in
theorem norm_ref (x0 y0 x1 y1 : Int) (w : World) : Calls Try.prog 63 #[.agg #[.int .i64 x0, .int .i64 y0, .int .i64 x1, .int .i64 y1]] w fun e w' => e = .returned (.agg #[.int .i64 (nrm ⟨x0, y0, x1, y1⟩).x0, .int .i64 (nrm ⟨x0, y0, x1, y1⟩).y0, .int .i64 (nrm ⟨x0, y0, x1, y1⟩).x1, .int .i64 (nrm ⟨x0, y0, x1, y1⟩).y1]) ∧ (((w.alloc (.cells #[.int .i64 x0, .int .i64 y0, .int .i64 x1, .int .i64 y1] 26)).alloc (.cells #[.int .i64 (nrm ⟨x0, y0, x1, y1⟩).x0, .int .i64 (nrm ⟨x0, y0, x1, y1⟩).y0, .int .i64 (nrm ⟨x0, y0, x1, y1⟩).x1, .int .i64 (nrm ⟨x0, y0, x1, y1⟩).y1] 26)).alloc (.cells #[.int .i64 x0, .int .i64 y0, .int .i64 x1, .int .i64 y1] 26)) = w' := by
  cases he : emp ⟨x0, y0, x1, y1⟩ with
  | true =>
    have hn : nrm ⟨x0, y0, x1, y1⟩ = R.zero := by unfold nrm; rw [if_pos he]
    rw [hn]
    clear hn
    go_enter Try.func63, Try.ntmps63
    go_wp2_with (go_at_call 45; refine (empty_ref _ _ _ _ _).mono ?_; rintro e w2 ⟨rfl, rfl⟩)
    exact bodyPost_ret (v := .agg #[.int .i64 0, .int .i64 0, .int .i64 0, .int .i64 0]) (by simp [results, Try.results63, go_sem]) rfl ⟨rfl, rfl⟩
  | false =>
    have hn : nrm ⟨x0, y0, x1, y1⟩ = ⟨x0, y0, x1, y1⟩ := by unfold nrm; rw [if_neg (by rw [he]; simp)]
    rw [hn]
    clear hn
    go_enter Try.func63, Try.ntmps63
    go_wp2_with (go_at_call 45; refine (empty_ref _ _ _ _ _).mono ?_; rintro e w2 ⟨rfl, rfl⟩)
    exact bodyPost_ret (v := .agg #[.int .i64 x0, .int .i64 y0, .int .i64 x1, .int .i64 y1]) (by simp [results, Try.results63, go_sem]) rfl ⟨rfl, rfl⟩

set_option maxRecDepth 100000 in
set_option maxHeartbeats 400000 in
theorem has_any (x0 y0 x1 y1 x y : Int) (w : World) : Calls Try.prog 33 #[.agg #[.int .i64 x0, .int .i64 y0, .int .i64 x1, .int .i64 y1], .agg #[.int .i64 x, .int .i64 y]] w fun e w' => e = .returned (.bool (has ⟨x0, y0, x1, y1⟩ x y)) ∧ Below w.heap.size w w' := by
  have HH := Lib.hid (show has ⟨x0, y0, x1, y1⟩ x y = (decide (x0 ≤ x) && decide (x < x1) && decide (y0 ≤ y) && decide (y < y1)) from rfl)
  generalize has ⟨x0, y0, x1, y1⟩ x y = bb at *
  go_enter Try.func33, Try.ntmps33
  go_wp2
  all_goals
    go_ret
    refine ⟨ret_bool ?_, by first | exact ball _ _ | exact ball2 _ _ _⟩
    rw [HH.out]
    simp [*] <;> omega

set_option maxRecDepth 100000 in
set_option maxHeartbeats 400000 in
theorem has_ref (x0 y0 x1 y1 x y : Int) (w : World) : Calls Try.prog 51 #[.agg #[.int .i64 x0, .int .i64 y0, .int .i64 x1, .int .i64 y1], .int .i64 x, .int .i64 y] w fun e w' => e = .returned (.bool (has ⟨x0, y0, x1, y1⟩ x y)) ∧ Below w.heap.size w w' := by
  have HH := Lib.hid (show has ⟨x0, y0, x1, y1⟩ x y = (decide (x0 ≤ x) && decide (x < x1) && decide (y0 ≤ y) && decide (y < y1)) from rfl)
  generalize has ⟨x0, y0, x1, y1⟩ x y = bb at *
  go_enter Try.func51, Try.ntmps51
  go_wp2
  all_goals
    go_ret
    refine ⟨ret_bool ?_, by first | exact ball _ _ | exact ball2 _ _ _⟩
    rw [HH.out]
    simp [*] <;> omega

set_option maxRecDepth 100000 in
set_option maxHeartbeats 400000 in
theorem ins_any (ax0 ay0 ax1 ay1 bx0 by0 bx1 by1 : Int) (w : World) : Calls Try.prog 34 #[.agg #[.int .i64 ax0, .int .i64 ay0, .int .i64 ax1, .int .i64 ay1], .agg #[.int .i64 bx0, .int .i64 by0, .int .i64 bx1, .int .i64 by1]] w fun e w' => e = .returned (.bool (ins ⟨ax0, ay0, ax1, ay1⟩ ⟨bx0, by0, bx1, by1⟩)) ∧ Below w.heap.size w w' := by
  have HH := Lib.hid (show ins ⟨ax0, ay0, ax1, ay1⟩ ⟨bx0, by0, bx1, by1⟩ = (emp ⟨ax0, ay0, ax1, ay1⟩ || (decide (bx0 ≤ ax0) && decide (ax1 ≤ bx1) && decide (by0 ≤ ay0) && decide (ay1 ≤ by1))) from rfl)
  generalize ins ⟨ax0, ay0, ax1, ay1⟩ ⟨bx0, by0, bx1, by1⟩ = bb at *
  cases he : emp ⟨ax0, ay0, ax1, ay1⟩
  all_goals
    go_enter Try.func34, Try.ntmps34
    go_wp2_with (go_at_call 22; refine (empty_any _ _ _ _ _).mono ?_; rintro e w2 ⟨rfl, rfl⟩)
    all_goals
      go_ret
      refine ⟨ret_bool ?_, ball3 _ _ _ _⟩
      rw [HH.out]
      simp [*] <;> omega

set_option maxRecDepth 100000 in
set_option maxHeartbeats 400000 in
theorem ins_ref (ax0 ay0 ax1 ay1 bx0 by0 bx1 by1 : Int) (w : World) : Calls Try.prog 53 #[.agg #[.int .i64 ax0, .int .i64 ay0, .int .i64 ax1, .int .i64 ay1], .agg #[.int .i64 bx0, .int .i64 by0, .int .i64 bx1, .int .i64 by1]] w fun e w' => e = .returned (.bool (ins ⟨ax0, ay0, ax1, ay1⟩ ⟨bx0, by0, bx1, by1⟩)) ∧ Below w.heap.size w w' := by
  have HH := Lib.hid (show ins ⟨ax0, ay0, ax1, ay1⟩ ⟨bx0, by0, bx1, by1⟩ = (emp ⟨ax0, ay0, ax1, ay1⟩ || (decide (bx0 ≤ ax0) && decide (ax1 ≤ bx1) && decide (by0 ≤ ay0) && decide (ay1 ≤ by1))) from rfl)
  generalize ins ⟨ax0, ay0, ax1, ay1⟩ ⟨bx0, by0, bx1, by1⟩ = bb at *
  cases he : emp ⟨ax0, ay0, ax1, ay1⟩
  all_goals
    go_enter Try.func53, Try.ntmps53
    go_wp2_with (go_at_call 45; refine (empty_ref _ _ _ _ _).mono ?_; rintro e w2 ⟨rfl, rfl⟩)
    all_goals
      go_ret
      refine ⟨ret_bool ?_, ball3 _ _ _ _⟩
      rw [HH.out]
      simp [*] <;> omega

set_option maxRecDepth 100000 in
set_option maxHeartbeats 400000 in
theorem eqr_any (ax0 ay0 ax1 ay1 bx0 by0 bx1 by1 : Int) (w : World) : Calls Try.prog 35 #[.agg #[.int .i64 ax0, .int .i64 ay0, .int .i64 ax1, .int .i64 ay1], .agg #[.int .i64 bx0, .int .i64 by0, .int .i64 bx1, .int .i64 by1]] w fun e w' => e = .returned (.bool (eqr ⟨ax0, ay0, ax1, ay1⟩ ⟨bx0, by0, bx1, by1⟩)) ∧ Below w.heap.size w w' := by
  have HH := Lib.hid (show eqr ⟨ax0, ay0, ax1, ay1⟩ ⟨bx0, by0, bx1, by1⟩ = (same ⟨ax0, ay0, ax1, ay1⟩ ⟨bx0, by0, bx1, by1⟩ || (emp ⟨ax0, ay0, ax1, ay1⟩ && emp ⟨bx0, by0, bx1, by1⟩)) from rfl)
  have hq := eql26 ax0 ay0 ax1 ay1 bx0 by0 bx1 by1
  generalize eqr ⟨ax0, ay0, ax1, ay1⟩ ⟨bx0, by0, bx1, by1⟩ = bb at *
  generalize same ⟨ax0, ay0, ax1, ay1⟩ ⟨bx0, by0, bx1, by1⟩ = sm at *
  cases sm
  all_goals
    cases he : emp ⟨ax0, ay0, ax1, ay1⟩ <;> cases he2 : emp ⟨bx0, by0, bx1, by1⟩
  all_goals
    go_enter Try.func35, Try.ntmps35
    go_wp2_with (go_at_call 22; refine (empty_any _ _ _ _ _).mono ?_; rintro e w2 ⟨rfl, rfl⟩)
    go_ret
    refine ⟨ret_bool ?_, by first | exact ball2 _ _ _ | exact ball3 _ _ _ _ | exact ball4 _ _ _ _ _⟩
    rw [HH.out, he, he2] <;> rfl

set_option maxRecDepth 100000 in
set_option maxHeartbeats 400000 in
theorem eqr_ref (ax0 ay0 ax1 ay1 bx0 by0 bx1 by1 : Int) (w : World) : Calls Try.prog 52 #[.agg #[.int .i64 ax0, .int .i64 ay0, .int .i64 ax1, .int .i64 ay1], .agg #[.int .i64 bx0, .int .i64 by0, .int .i64 bx1, .int .i64 by1]] w fun e w' => e = .returned (.bool (eqr ⟨ax0, ay0, ax1, ay1⟩ ⟨bx0, by0, bx1, by1⟩)) ∧ Below w.heap.size w w' := by
  have HH := Lib.hid (show eqr ⟨ax0, ay0, ax1, ay1⟩ ⟨bx0, by0, bx1, by1⟩ = (same ⟨ax0, ay0, ax1, ay1⟩ ⟨bx0, by0, bx1, by1⟩ || (emp ⟨ax0, ay0, ax1, ay1⟩ && emp ⟨bx0, by0, bx1, by1⟩)) from rfl)
  have hq := eql26 ax0 ay0 ax1 ay1 bx0 by0 bx1 by1
  generalize eqr ⟨ax0, ay0, ax1, ay1⟩ ⟨bx0, by0, bx1, by1⟩ = bb at *
  generalize same ⟨ax0, ay0, ax1, ay1⟩ ⟨bx0, by0, bx1, by1⟩ = sm at *
  cases sm
  all_goals
    cases he : emp ⟨ax0, ay0, ax1, ay1⟩ <;> cases he2 : emp ⟨bx0, by0, bx1, by1⟩
  all_goals
    go_enter Try.func52, Try.ntmps52
    go_wp2_with (go_at_call 45; refine (empty_ref _ _ _ _ _).mono ?_; rintro e w2 ⟨rfl, rfl⟩)
    go_ret
    refine ⟨ret_bool ?_, by first | exact ball2 _ _ _ | exact ball3 _ _ _ _ | exact ball4 _ _ _ _ _⟩
    rw [HH.out, he, he2] <;> rfl

set_option maxRecDepth 100000 in
set_option maxHeartbeats 400000 in
theorem area_any (x0 y0 x1 y1 : Int) (w : World) : Calls Try.prog 36 #[.agg #[.int .i64 x0, .int .i64 y0, .int .i64 x1, .int .i64 y1]] w fun e w' => e = .returned (.int .i64 (area ⟨x0, y0, x1, y1⟩)) ∧ Below w.heap.size w w' := by
  cases he : emp ⟨x0, y0, x1, y1⟩
  · have hn : area ⟨x0, y0, x1, y1⟩ = wrap64 (wrap64 (x1 - x0) * wrap64 (y1 - y0)) := by unfold area; rw [if_neg (by rw [he]; simp)]
    rw [hn]
    clear hn
    go_enter Try.func36, Try.ntmps36
    go_wp2_with (go_at_call 22; refine (empty_any _ _ _ _ _).mono ?_; rintro e w2 ⟨rfl, rfl⟩)
    go_ret
    exact ⟨rfl, ball2 _ _ _⟩
  · have hn : area ⟨x0, y0, x1, y1⟩ = 0 := by unfold area; rw [if_pos he]
    rw [hn]
    clear hn
    go_enter Try.func36, Try.ntmps36
    go_wp2_with (go_at_call 22; refine (empty_any _ _ _ _ _).mono ?_; rintro e w2 ⟨rfl, rfl⟩)
    go_ret
    exact ⟨rfl, ball2 _ _ _⟩

set_option maxRecDepth 100000 in
set_option maxHeartbeats 400000 in
theorem area_ref (x0 y0 x1 y1 : Int) (w : World) : Calls Try.prog 54 #[.agg #[.int .i64 x0, .int .i64 y0, .int .i64 x1, .int .i64 y1]] w fun e w' => e = .returned (.int .i64 (area ⟨x0, y0, x1, y1⟩)) ∧ Below w.heap.size w w' := by
  cases he : emp ⟨x0, y0, x1, y1⟩
  · have hn : area ⟨x0, y0, x1, y1⟩ = wrap64 (wrap64 (x1 - x0) * wrap64 (y1 - y0)) := by unfold area; rw [if_neg (by rw [he]; simp)]
    rw [hn]
    clear hn
    go_enter Try.func54, Try.ntmps54
    go_wp2_with (go_at_call 45; refine (empty_ref _ _ _ _ _).mono ?_; rintro e w2 ⟨rfl, rfl⟩)
    go_ret
    exact ⟨rfl, ball2 _ _ _⟩
  · have hn : area ⟨x0, y0, x1, y1⟩ = 0 := by unfold area; rw [if_pos he]
    rw [hn]
    clear hn
    go_enter Try.func54, Try.ntmps54
    go_wp2_with (go_at_call 45; refine (empty_ref _ _ _ _ _).mono ?_; rintro e w2 ⟨rfl, rfl⟩)
    go_ret
    exact ⟨rfl, ball2 _ _ _⟩

set_option maxRecDepth 100000 in
set_option maxHeartbeats 400000 in
theorem valid_any (x0 y0 x1 y1 : Int) (w : World) : Calls Try.prog 23 #[.agg #[.int .i64 x0, .int .i64 y0, .int .i64 x1, .int .i64 y1]] w fun e w' => e = .returned (.bool (valid ⟨x0, y0, x1, y1⟩)) ∧ Below w.heap.size w w' := by
  cases he : emp ⟨x0, y0, x1, y1⟩
  · have hn : valid ⟨x0, y0, x1, y1⟩ = ins ⟨x0, y0, x1, y1⟩ ⟨-65536, -65536, 65536, 65536⟩ := by unfold valid ins; rw [he]; rfl
    rw [hn]
    clear hn
    go_enter Try.func23, Try.ntmps23
    go_wp2_with (first
      | (go_at_call 22; refine (empty_any _ _ _ _ _).mono ?_; rintro e w2 ⟨rfl, rfl⟩)
      | (go_at_call 34; refine (ins_any _ _ _ _ _ _ _ _ _).mono ?_; rintro e w3 ⟨rfl, hb⟩))
    go_ret
    exact ⟨rfl, bt (ball2 _ _ _) hb⟩
  · have hn : valid ⟨x0, y0, x1, y1⟩ = false := by unfold valid; rw [he]; rfl
    rw [hn]
    clear hn
    go_enter Try.func23, Try.ntmps23
    go_wp2_with (go_at_call 22; refine (empty_any _ _ _ _ _).mono ?_; rintro e w2 ⟨rfl, rfl⟩)
    go_ret
    exact ⟨rfl, ball2 _ _ _⟩

set_option maxRecDepth 100000 in
set_option maxHeartbeats 400000 in
theorem valid_ref (x0 y0 x1 y1 : Int) (w : World) : Calls Try.prog 55 #[.agg #[.int .i64 x0, .int .i64 y0, .int .i64 x1, .int .i64 y1]] w fun e w' => e = .returned (.bool (valid ⟨x0, y0, x1, y1⟩)) ∧ Below w.heap.size w w' := by
  have HH := Lib.hid (show valid ⟨x0, y0, x1, y1⟩ = (!emp ⟨x0, y0, x1, y1⟩ && (decide (-65536 ≤ x0) && decide (x1 ≤ 65536) && decide (-65536 ≤ y0) && decide (y1 ≤ 65536))) from rfl)
  generalize valid ⟨x0, y0, x1, y1⟩ = bb at *
  cases he : emp ⟨x0, y0, x1, y1⟩
  all_goals
    go_enter Try.func55, Try.ntmps55
    go_wp2_with (go_at_call 45; refine (empty_ref _ _ _ _ _).mono ?_; rintro e w2 ⟨rfl, rfl⟩)
    all_goals
      go_ret
      refine ⟨ret_bool ?_, ball2 _ _ _⟩
      rw [HH.out, he]
      simp [*] <;> omega

set_option maxRecDepth 100000 in
set_option maxHeartbeats 1600000 in
theorem inter_any (ax0 ay0 ax1 ay1 bx0 by0 bx1 by1 : Int) (w : World) : Calls Try.prog 18 #[.agg #[.int .i64 ax0, .int .i64 ay0, .int .i64 ax1, .int .i64 ay1], .agg #[.int .i64 bx0, .int .i64 by0, .int .i64 bx1, .int .i64 by1]] w fun e w' => e = .returned (.agg #[.int .i64 (inter ⟨ax0, ay0, ax1, ay1⟩ ⟨bx0, by0, bx1, by1⟩).x0, .int .i64 (inter ⟨ax0, ay0, ax1, ay1⟩ ⟨bx0, by0, bx1, by1⟩).y0, .int .i64 (inter ⟨ax0, ay0, ax1, ay1⟩ ⟨bx0, by0, bx1, by1⟩).x1, .int .i64 (inter ⟨ax0, ay0, ax1, ay1⟩ ⟨bx0, by0, bx1, by1⟩).y1]) ∧ Below w.heap.size w w' := by
  have HH0 : inter ⟨ax0, ay0, ax1, ay1⟩ ⟨bx0, by0, bx1, by1⟩ = nrm ⟨if ax0 < bx0 then bx0 else ax0, if ay0 < by0 then by0 else ay0, if bx1 < ax1 then bx1 else ax1, if by1 < ay1 then by1 else ay1⟩ := rfl
  generalize inter ⟨ax0, ay0, ax1, ay1⟩ ⟨bx0, by0, bx1, by1⟩ = r at *
  by_cases h1 : ax0 < bx0 <;> by_cases h2 : ay0 < by0 <;> by_cases h3 : bx1 < ax1 <;> by_cases h4 : by1 < ay1 <;> simp only [h1, h2, h3, h4, if_true, if_false] at HH0
  all_goals
    have HH := Lib.hid HH0
    clear HH0
    go_enter Try.func18, Try.ntmps18
    go_wp2_with (go_at_call 43; refine (norm_any _ _ _ _ _).mono ?_; rintro e w3 ⟨rfl, rfl⟩)
    exact bodyPost_ret (v := .agg #[.int .i64 r.x0, .int .i64 r.y0, .int .i64 r.x1, .int .i64 r.y1]) (by rw [HH.out]; simp [results, Try.results18, go_sem]) rfl ⟨rfl, (by repeat (first | exact Below.refl _ _ | refine Below.alloc ?_ (by simp <;> omega) _))⟩

set_option maxRecDepth 100000 in
set_option maxHeartbeats 1600000 in
theorem inter_ref (ax0 ay0 ax1 ay1 bx0 by0 bx1 by1 : Int) (w : World) : Calls Try.prog 56 #[.agg #[.int .i64 ax0, .int .i64 ay0, .int .i64 ax1, .int .i64 ay1], .agg #[.int .i64 bx0, .int .i64 by0, .int .i64 bx1, .int .i64 by1]] w fun e w' => e = .returned (.agg #[.int .i64 (inter ⟨ax0, ay0, ax1, ay1⟩ ⟨bx0, by0, bx1, by1⟩).x0, .int .i64 (inter ⟨ax0, ay0, ax1, ay1⟩ ⟨bx0, by0, bx1, by1⟩).y0, .int .i64 (inter ⟨ax0, ay0, ax1, ay1⟩ ⟨bx0, by0, bx1, by1⟩).x1, .int .i64 (inter ⟨ax0, ay0, ax1, ay1⟩ ⟨bx0, by0, bx1, by1⟩).y1]) ∧ Below w.heap.size w w' := by
  have HH0 : inter ⟨ax0, ay0, ax1, ay1⟩ ⟨bx0, by0, bx1, by1⟩ = nrm ⟨if ax0 < bx0 then bx0 else ax0, if ay0 < by0 then by0 else ay0, if bx1 < ax1 then bx1 else ax1, if by1 < ay1 then by1 else ay1⟩ := rfl
  generalize inter ⟨ax0, ay0, ax1, ay1⟩ ⟨bx0, by0, bx1, by1⟩ = r at *
  by_cases h1 : ax0 < bx0 <;> by_cases h2 : ay0 < by0 <;> by_cases h3 : bx1 < ax1 <;> by_cases h4 : by1 < ay1 <;> simp only [h1, h2, h3, h4, if_true, if_false] at HH0
  all_goals
    have HH := Lib.hid HH0
    clear HH0
    go_enter Try.func56, Try.ntmps56
    go_wp2_with (go_at_call 63; refine (norm_ref _ _ _ _ _).mono ?_; rintro e w3 ⟨rfl, rfl⟩)
    exact bodyPost_ret (v := .agg #[.int .i64 r.x0, .int .i64 r.y0, .int .i64 r.x1, .int .i64 r.y1]) (by rw [HH.out]; simp [results, Try.results56, go_sem]) rfl ⟨rfl, (by repeat (first | exact Below.refl _ _ | refine Below.alloc ?_ (by simp <;> omega) _))⟩

end Go.Proofs.Ytplnhmfkflnhpaa