/- Walks of rect.* and gouacheref03.*: the rect claims' texts, turned to this seat by genRct.py. -/
import Derived.Test.YtmfmnoajihiidaaF
import Derived.Laws.StructEq
import Derived.Deep.QuietTactic
import Derived.BigQuiet
import Derived.Deep.RegionWith
set_option linter.unusedVariables false
namespace Go.Proofs.Ytmfmnoajihiidaa.Rct
open Go.RowKit
open Go.Proofs.Ytmfmnoajihiidaa
/-- A rectangle. -/
structure R where
  x0 : Int
  y0 : Int
  x1 : Int
  y1 : Int
def R.zero : R := ⟨0, 0, 0, 0⟩
def emp (r : R) : Bool := decide (r.x1 ≤ r.x0) || decide (r.y1 ≤ r.y0)
theorem emp_true {r : R} (h : emp r = true) : r.x1 ≤ r.x0 ∨ r.y1 ≤ r.y0 := by
  unfold emp at h; simpa using h
theorem emp_false {r : R} (h : emp r = false) : r.x0 < r.x1 ∧ r.y0 < r.y1 := by
  unfold emp at h; simp at h; omega
theorem emp_zero : emp R.zero = true := by rfl
def nrm (r : R) : R := if emp r = true then R.zero else r
def has (r : R) (x y : Int) : Bool := decide (r.x0 ≤ x) && decide (x < r.x1) && decide (r.y0 ≤ y) && decide (y < r.y1)
def ins (a b : R) : Bool := emp a || (decide (b.x0 ≤ a.x0) && decide (a.x1 ≤ b.x1) && decide (b.y0 ≤ a.y0) && decide (a.y1 ≤ b.y1))
def same (a b : R) : Bool := a.x0 == b.x0 && (a.y0 == b.y0 && (a.x1 == b.x1 && a.y1 == b.y1))
def eqr (a b : R) : Bool := same a b || (emp a && emp b)
def area (r : R) : Int := if emp r = true then 0 else wrap64 (wrap64 (r.x1 - r.x0) * wrap64 (r.y1 - r.y0))
def valid (r : R) : Bool := !emp r && (decide (-65536 ≤ r.x0) && decide (r.x1 ≤ 65536) && decide (-65536 ≤ r.y0) && decide (r.y1 ≤ 65536))
def mx (a b : Int) : Int := if a < b then b else a
def mn (a b : Int) : Int := if b < a then b else a
theorem mx_eq (a b : Int) : mx a b = max a b := by unfold mx; split <;> omega
theorem mn_eq (a b : Int) : mn a b = min a b := by unfold mn; split <;> omega
def inter (a b : R) : R := nrm ⟨mx a.x0 b.x0, mx a.y0 b.y0, mn a.x1 b.x1, mn a.y1 b.y1⟩
def uni (a b : R) : R := if emp a = true then nrm b else if emp b = true then a else ⟨mn a.x0 b.x0, mn a.y0 b.y0, mx a.x1 b.x1, mx a.y1 b.y1⟩
def grow (r : R) (n : Int) : R := if emp r = true then R.zero else nrm ⟨wrap64 (r.x0 - n), wrap64 (r.y0 - n), wrap64 (r.x1 + n), wrap64 (r.y1 + n)⟩
def move (r : R) (x y : Int) : R := if emp r = true then R.zero else nrm ⟨wrap64 (r.x0 + x), wrap64 (r.y0 + y), wrap64 (r.x1 + x), wrap64 (r.y1 + y)⟩
/-- The quotient rounded down; 0 for a zero divisor. -/
def flr (a b : Int) : Int := if b = 0 then 0 else if a.tmod b ≠ 0 ∧ decide (a < 0) ≠ decide (b < 0) then wrap64 (wrap64 (a.tdiv b) - 1) else wrap64 (a.tdiv b)
def cel (a b : Int) : Int := if b = 0 then 0 else if a.tmod b ≠ 0 ∧ decide (a < 0) = decide (b < 0) then wrap64 (wrap64 (a.tdiv b) + 1) else wrap64 (a.tdiv b)
/-- x modulo n as a non-negative number. -/
def rst (x n : Int) : Int := wrap64 (x.tmod n + n) |>.tmod n
theorem eql48 (a b c d a' b' c' d' : Int) (W : World) : (binOp .eql 48 (.agg #[.int .i64 a, .int .i64 b, .int .i64 c, .int .i64 d]) (.agg #[.int .i64 a', .int .i64 b', .int .i64 c', .int .i64 d'])).run Try.prog W = .ok (.bool (same ⟨a, b, c, d⟩ ⟨a', b', c', d'⟩)) W := by
  unfold same
  by_cases h1 : a = a'
  · by_cases h2 : b = b'
    · by_cases h3 : c = c'
      · by_cases h4 : d = d'
        · subst h1 h2 h3 h4; go_simp
        · subst h1 h2 h3; go_simp
      · subst h1 h2; go_simp
    · subst h1; go_simp
  · go_simp
theorem neq48 (a b c d a' b' c' d' : Int) (W : World) : (binOp .neq 48 (.agg #[.int .i64 a, .int .i64 b, .int .i64 c, .int .i64 d]) (.agg #[.int .i64 a', .int .i64 b', .int .i64 c', .int .i64 d'])).run Try.prog W = .ok (.bool (!same ⟨a, b, c, d⟩ ⟨a', b', c', d'⟩)) W := by
  unfold same
  by_cases h1 : a = a'
  · by_cases h2 : b = b'
    · by_cases h3 : c = c'
      · by_cases h4 : d = d'
        · subst h1 h2 h3 h4; go_simp
        · subst h1 h2 h3; go_simp
      · subst h1 h2; go_simp
    · subst h1; go_simp
  · go_simp
def same2 (a b c d : Int) : Bool := a == c && b == d
theorem eql41 (a b a' b' : Int) (W : World) : (binOp .eql 41 (.agg #[.int .i64 a, .int .i64 b]) (.agg #[.int .i64 a', .int .i64 b'])).run Try.prog W = .ok (.bool (same2 a b a' b')) W := by
  unfold same2
  by_cases h1 : a = a'
  · by_cases h2 : b = b'
    · subst h1 h2; go_simp
    · subst h1; go_simp
  · go_simp
theorem neq41 (a b a' b' : Int) (W : World) : (binOp .neq 41 (.agg #[.int .i64 a, .int .i64 b]) (.agg #[.int .i64 a', .int .i64 b'])).run Try.prog W = .ok (.bool (!same2 a b a' b')) W := by
  unfold same2
  by_cases h1 : a = a'
  · by_cases h2 : b = b'
    · subst h1 h2; go_simp
    · subst h1; go_simp
  · go_simp
theorem bt {w w1 w2 : World} (h : Below w.heap.size w w1) (k : Below w1.heap.size w1 w2) : Below w.heap.size w w2 := h.trans (k.mono h.size)
theorem ball (w : World) (o : Obj) : Below w.heap.size w (w.alloc o) := (Below.refl _ _).alloc (Nat.le_refl _) o
theorem ball2 (w : World) (o o' : Obj) : Below w.heap.size w ((w.alloc o).alloc o') := (ball w o).alloc (by simp) o'
theorem ball3 (w : World) (o o' o'' : Obj) : Below w.heap.size w (((w.alloc o).alloc o').alloc o'') := (ball2 w o o').alloc (by simp; omega) o''
theorem ball4 (w : World) (o o' o'' p : Obj) : Below w.heap.size w ((((w.alloc o).alloc o').alloc o'').alloc p) := (ball3 w o o' o'').alloc (by simp; omega) p
theorem ball5 (w : World) (o o' o'' p p' : Obj) : Below w.heap.size w (((((w.alloc o).alloc o').alloc o'').alloc p).alloc p') := (ball4 w o o' o'' p).alloc (by simp; omega) p'
set_option maxRecDepth 100000 in
set_option maxHeartbeats 400000 in
theorem empty_any (x0 y0 x1 y1 : Int) (w : World) : Calls Try.prog 72 #[.agg #[.int .i64 x0, .int .i64 y0, .int .i64 x1, .int .i64 y1]] w fun e w' => e = .returned (.bool (emp ⟨x0, y0, x1, y1⟩)) ∧ w.alloc (.cells #[.int .i64 x0, .int .i64 y0, .int .i64 x1, .int .i64 y1] 48) = w' := by
  by_cases h : x1 ≤ x0
  · have he : emp ⟨x0, y0, x1, y1⟩ = true := by unfold emp; simp [h]
    rw [he]
    clear he
    go_enter Try.func72, Try.ntmps72
    go_wp2
    go_ret
    exact ⟨rfl, rfl⟩
  · have h' : x0 < x1 := by omega
    clear h
    go_enter Try.func72, Try.ntmps72
    go_wp2
    go_ret
    exact ⟨rfl, rfl⟩
set_option maxRecDepth 100000 in
set_option maxHeartbeats 400000 in
theorem empty_ref (x0 y0 x1 y1 : Int) (w : World) : Calls Try.prog 66 #[.agg #[.int .i64 x0, .int .i64 y0, .int .i64 x1, .int .i64 y1]] w fun e w' => e = .returned (.bool (emp ⟨x0, y0, x1, y1⟩)) ∧ w.alloc (.cells #[.int .i64 x0, .int .i64 y0, .int .i64 x1, .int .i64 y1] 48) = w' := by
  by_cases h : x1 ≤ x0
  · have he : emp ⟨x0, y0, x1, y1⟩ = true := by unfold emp; simp [h]
    rw [he]
    clear he
    go_enter Try.func66, Try.ntmps66
    go_wp2
    go_ret
    exact ⟨rfl, rfl⟩
  · have h' : x0 < x1 := by omega
    clear h
    go_enter Try.func66, Try.ntmps66
    go_wp2
    go_ret
    exact ⟨rfl, rfl⟩
set_option maxRecDepth 100000 in
set_option maxHeartbeats 400000 in
theorem norm_any (x0 y0 x1 y1 : Int) (w : World) : Calls Try.prog 73 #[.agg #[.int .i64 x0, .int .i64 y0, .int .i64 x1, .int .i64 y1]] w fun e w' => e = .returned (.agg #[.int .i64 (nrm ⟨x0, y0, x1, y1⟩).x0, .int .i64 (nrm ⟨x0, y0, x1, y1⟩).y0, .int .i64 (nrm ⟨x0, y0, x1, y1⟩).x1, .int .i64 (nrm ⟨x0, y0, x1, y1⟩).y1]) ∧ (((w.alloc (.cells #[.int .i64 x0, .int .i64 y0, .int .i64 x1, .int .i64 y1] 48)).alloc (.cells #[.int .i64 (nrm ⟨x0, y0, x1, y1⟩).x0, .int .i64 (nrm ⟨x0, y0, x1, y1⟩).y0, .int .i64 (nrm ⟨x0, y0, x1, y1⟩).x1, .int .i64 (nrm ⟨x0, y0, x1, y1⟩).y1] 48)).alloc (.cells #[.int .i64 x0, .int .i64 y0, .int .i64 x1, .int .i64 y1] 48)) = w' := by
  cases he : emp ⟨x0, y0, x1, y1⟩ with
  | true =>
    have hn : nrm ⟨x0, y0, x1, y1⟩ = R.zero := by unfold nrm; rw [if_pos he]
    rw [hn]
    clear hn
    go_enter Try.func73, Try.ntmps73
    go_wp2_with (go_at_call 72; refine (empty_any _ _ _ _ _).mono ?_; rintro e w2 ⟨rfl, rfl⟩)
    exact bodyPost_ret (v := .agg #[.int .i64 0, .int .i64 0, .int .i64 0, .int .i64 0]) (by simp [results, Try.results73, go_sem]) rfl ⟨rfl, rfl⟩
  | false =>
    have hn : nrm ⟨x0, y0, x1, y1⟩ = ⟨x0, y0, x1, y1⟩ := by unfold nrm; rw [if_neg (by rw [he]; simp)]
    rw [hn]
    clear hn
    go_enter Try.func73, Try.ntmps73
    go_wp2_with (go_at_call 72; refine (empty_any _ _ _ _ _).mono ?_; rintro e w2 ⟨rfl, rfl⟩)
    exact bodyPost_ret (v := .agg #[.int .i64 x0, .int .i64 y0, .int .i64 x1, .int .i64 y1]) (by simp [results, Try.results73, go_sem]) rfl ⟨rfl, rfl⟩
set_option maxRecDepth 100000 in
set_option maxHeartbeats 400000 in
theorem norm_ref (x0 y0 x1 y1 : Int) (w : World) : Calls Try.prog 77 #[.agg #[.int .i64 x0, .int .i64 y0, .int .i64 x1, .int .i64 y1]] w fun e w' => e = .returned (.agg #[.int .i64 (nrm ⟨x0, y0, x1, y1⟩).x0, .int .i64 (nrm ⟨x0, y0, x1, y1⟩).y0, .int .i64 (nrm ⟨x0, y0, x1, y1⟩).x1, .int .i64 (nrm ⟨x0, y0, x1, y1⟩).y1]) ∧ (((w.alloc (.cells #[.int .i64 x0, .int .i64 y0, .int .i64 x1, .int .i64 y1] 48)).alloc (.cells #[.int .i64 (nrm ⟨x0, y0, x1, y1⟩).x0, .int .i64 (nrm ⟨x0, y0, x1, y1⟩).y0, .int .i64 (nrm ⟨x0, y0, x1, y1⟩).x1, .int .i64 (nrm ⟨x0, y0, x1, y1⟩).y1] 48)).alloc (.cells #[.int .i64 x0, .int .i64 y0, .int .i64 x1, .int .i64 y1] 48)) = w' := by
  cases he : emp ⟨x0, y0, x1, y1⟩ with
  | true =>
    have hn : nrm ⟨x0, y0, x1, y1⟩ = R.zero := by unfold nrm; rw [if_pos he]
    rw [hn]
    clear hn
    go_enter Try.func77, Try.ntmps77
    go_wp2_with (go_at_call 66; refine (empty_ref _ _ _ _ _).mono ?_; rintro e w2 ⟨rfl, rfl⟩)
    exact bodyPost_ret (v := .agg #[.int .i64 0, .int .i64 0, .int .i64 0, .int .i64 0]) (by simp [results, Try.results77, go_sem]) rfl ⟨rfl, rfl⟩
  | false =>
    have hn : nrm ⟨x0, y0, x1, y1⟩ = ⟨x0, y0, x1, y1⟩ := by unfold nrm; rw [if_neg (by rw [he]; simp)]
    rw [hn]
    clear hn
    go_enter Try.func77, Try.ntmps77
    go_wp2_with (go_at_call 66; refine (empty_ref _ _ _ _ _).mono ?_; rintro e w2 ⟨rfl, rfl⟩)
    exact bodyPost_ret (v := .agg #[.int .i64 x0, .int .i64 y0, .int .i64 x1, .int .i64 y1]) (by simp [results, Try.results77, go_sem]) rfl ⟨rfl, rfl⟩
set_option maxRecDepth 100000 in
set_option maxHeartbeats 400000 in
theorem has_any (x0 y0 x1 y1 x y : Int) (w : World) : Calls Try.prog 24 #[.agg #[.int .i64 x0, .int .i64 y0, .int .i64 x1, .int .i64 y1], .agg #[.int .i64 x, .int .i64 y]] w fun e w' => e = .returned (.bool (has ⟨x0, y0, x1, y1⟩ x y)) ∧ Below w.heap.size w w' := by
  have HH := Lib.hid (show has ⟨x0, y0, x1, y1⟩ x y = (decide (x0 ≤ x) && decide (x < x1) && decide (y0 ≤ y) && decide (y < y1)) from rfl)
  generalize has ⟨x0, y0, x1, y1⟩ x y = bb at *
  go_enter Try.func24, Try.ntmps24
  go_wp2
  all_goals
    go_ret
    refine ⟨ret_bool ?_, by first | exact ball _ _ | exact ball2 _ _ _⟩
    rw [HH.out]
    simp [*] <;> omega
set_option maxRecDepth 100000 in
set_option maxHeartbeats 400000 in
theorem ins_any (ax0 ay0 ax1 ay1 bx0 by0 bx1 by1 : Int) (w : World) : Calls Try.prog 78 #[.agg #[.int .i64 ax0, .int .i64 ay0, .int .i64 ax1, .int .i64 ay1], .agg #[.int .i64 bx0, .int .i64 by0, .int .i64 bx1, .int .i64 by1]] w fun e w' => e = .returned (.bool (ins ⟨ax0, ay0, ax1, ay1⟩ ⟨bx0, by0, bx1, by1⟩)) ∧ Below w.heap.size w w' := by
  have HH := Lib.hid (show ins ⟨ax0, ay0, ax1, ay1⟩ ⟨bx0, by0, bx1, by1⟩ = (emp ⟨ax0, ay0, ax1, ay1⟩ || (decide (bx0 ≤ ax0) && decide (ax1 ≤ bx1) && decide (by0 ≤ ay0) && decide (ay1 ≤ by1))) from rfl)
  generalize ins ⟨ax0, ay0, ax1, ay1⟩ ⟨bx0, by0, bx1, by1⟩ = bb at *
  cases he : emp ⟨ax0, ay0, ax1, ay1⟩
  all_goals
    go_enter Try.func78, Try.ntmps78
    go_wp2_with (go_at_call 72; refine (empty_any _ _ _ _ _).mono ?_; rintro e w2 ⟨rfl, rfl⟩)
    all_goals
      go_ret
      refine ⟨ret_bool ?_, ball3 _ _ _ _⟩
      rw [HH.out]
      simp [*] <;> omega
set_option maxRecDepth 100000 in
set_option maxHeartbeats 400000 in
theorem eqr_any (ax0 ay0 ax1 ay1 bx0 by0 bx1 by1 : Int) (w : World) : Calls Try.prog 40 #[.agg #[.int .i64 ax0, .int .i64 ay0, .int .i64 ax1, .int .i64 ay1], .agg #[.int .i64 bx0, .int .i64 by0, .int .i64 bx1, .int .i64 by1]] w fun e w' => e = .returned (.bool (eqr ⟨ax0, ay0, ax1, ay1⟩ ⟨bx0, by0, bx1, by1⟩)) ∧ Below w.heap.size w w' := by
  have HH := Lib.hid (show eqr ⟨ax0, ay0, ax1, ay1⟩ ⟨bx0, by0, bx1, by1⟩ = (same ⟨ax0, ay0, ax1, ay1⟩ ⟨bx0, by0, bx1, by1⟩ || (emp ⟨ax0, ay0, ax1, ay1⟩ && emp ⟨bx0, by0, bx1, by1⟩)) from rfl)
  have hq := eql48 ax0 ay0 ax1 ay1 bx0 by0 bx1 by1
  generalize eqr ⟨ax0, ay0, ax1, ay1⟩ ⟨bx0, by0, bx1, by1⟩ = bb at *
  generalize same ⟨ax0, ay0, ax1, ay1⟩ ⟨bx0, by0, bx1, by1⟩ = sm at *
  cases sm
  all_goals
    cases he : emp ⟨ax0, ay0, ax1, ay1⟩ <;> cases he2 : emp ⟨bx0, by0, bx1, by1⟩
  all_goals
    go_enter Try.func40, Try.ntmps40
    go_wp2_with (go_at_call 72; refine (empty_any _ _ _ _ _).mono ?_; rintro e w2 ⟨rfl, rfl⟩)
    go_ret
    refine ⟨ret_bool ?_, by first | exact ball2 _ _ _ | exact ball3 _ _ _ _ | exact ball4 _ _ _ _ _⟩
    rw [HH.out, he, he2] <;> rfl
set_option maxRecDepth 100000 in
set_option maxHeartbeats 400000 in
theorem valid_any (x0 y0 x1 y1 : Int) (w : World) : Calls Try.prog 74 #[.agg #[.int .i64 x0, .int .i64 y0, .int .i64 x1, .int .i64 y1]] w fun e w' => e = .returned (.bool (valid ⟨x0, y0, x1, y1⟩)) ∧ Below w.heap.size w w' := by
  cases he : emp ⟨x0, y0, x1, y1⟩
  · have hn : valid ⟨x0, y0, x1, y1⟩ = ins ⟨x0, y0, x1, y1⟩ ⟨-65536, -65536, 65536, 65536⟩ := by unfold valid ins; rw [he]; rfl
    rw [hn]
    clear hn
    go_enter Try.func74, Try.ntmps74
    go_wp2_with (first
      | (go_at_call 72; refine (empty_any _ _ _ _ _).mono ?_; rintro e w2 ⟨rfl, rfl⟩)
      | (go_at_call 78; refine (ins_any _ _ _ _ _ _ _ _ _).mono ?_; rintro e w3 ⟨rfl, hb⟩))
    go_ret
    exact ⟨rfl, bt (ball2 _ _ _) hb⟩
  · have hn : valid ⟨x0, y0, x1, y1⟩ = false := by unfold valid; rw [he]; rfl
    rw [hn]
    clear hn
    go_enter Try.func74, Try.ntmps74
    go_wp2_with (go_at_call 72; refine (empty_any _ _ _ _ _).mono ?_; rintro e w2 ⟨rfl, rfl⟩)
    go_ret
    exact ⟨rfl, ball2 _ _ _⟩
set_option maxRecDepth 100000 in
set_option maxHeartbeats 400000 in
theorem valid_ref (x0 y0 x1 y1 : Int) (w : World) : Calls Try.prog 67 #[.agg #[.int .i64 x0, .int .i64 y0, .int .i64 x1, .int .i64 y1]] w fun e w' => e = .returned (.bool (valid ⟨x0, y0, x1, y1⟩)) ∧ Below w.heap.size w w' := by
  have HH := Lib.hid (show valid ⟨x0, y0, x1, y1⟩ = (!emp ⟨x0, y0, x1, y1⟩ && (decide (-65536 ≤ x0) && decide (x1 ≤ 65536) && decide (-65536 ≤ y0) && decide (y1 ≤ 65536))) from rfl)
  generalize valid ⟨x0, y0, x1, y1⟩ = bb at *
  cases he : emp ⟨x0, y0, x1, y1⟩
  all_goals
    go_enter Try.func67, Try.ntmps67
    go_wp2_with (go_at_call 66; refine (empty_ref _ _ _ _ _).mono ?_; rintro e w2 ⟨rfl, rfl⟩)
    all_goals
      go_ret
      refine ⟨ret_bool ?_, ball2 _ _ _⟩
      rw [HH.out, he]
      simp [*] <;> omega
set_option maxRecDepth 100000 in
set_option maxHeartbeats 1600000 in
theorem inter_any (ax0 ay0 ax1 ay1 bx0 by0 bx1 by1 : Int) (w : World) : Calls Try.prog 58 #[.agg #[.int .i64 ax0, .int .i64 ay0, .int .i64 ax1, .int .i64 ay1], .agg #[.int .i64 bx0, .int .i64 by0, .int .i64 bx1, .int .i64 by1]] w fun e w' => e = .returned (.agg #[.int .i64 (inter ⟨ax0, ay0, ax1, ay1⟩ ⟨bx0, by0, bx1, by1⟩).x0, .int .i64 (inter ⟨ax0, ay0, ax1, ay1⟩ ⟨bx0, by0, bx1, by1⟩).y0, .int .i64 (inter ⟨ax0, ay0, ax1, ay1⟩ ⟨bx0, by0, bx1, by1⟩).x1, .int .i64 (inter ⟨ax0, ay0, ax1, ay1⟩ ⟨bx0, by0, bx1, by1⟩).y1]) ∧ Below w.heap.size w w' := by
  have HH0 : inter ⟨ax0, ay0, ax1, ay1⟩ ⟨bx0, by0, bx1, by1⟩ = nrm ⟨if ax0 < bx0 then bx0 else ax0, if ay0 < by0 then by0 else ay0, if bx1 < ax1 then bx1 else ax1, if by1 < ay1 then by1 else ay1⟩ := rfl
  generalize inter ⟨ax0, ay0, ax1, ay1⟩ ⟨bx0, by0, bx1, by1⟩ = r at *
  by_cases h1 : ax0 < bx0 <;> by_cases h2 : ay0 < by0 <;> by_cases h3 : bx1 < ax1 <;> by_cases h4 : by1 < ay1 <;> simp only [h1, h2, h3, h4, if_true, if_false] at HH0
  all_goals
    have HH := Lib.hid HH0
    clear HH0
    go_enter Try.func58, Try.ntmps58
    go_wp2_with (go_at_call 73; refine (norm_any _ _ _ _ _).mono ?_; rintro e w3 ⟨rfl, rfl⟩)
    exact bodyPost_ret (v := .agg #[.int .i64 r.x0, .int .i64 r.y0, .int .i64 r.x1, .int .i64 r.y1]) (by rw [HH.out]; simp [results, Try.results58, go_sem]) rfl ⟨rfl, (by repeat (first | exact Below.refl _ _ | refine Below.alloc ?_ (by simp <;> omega) _))⟩
set_option maxRecDepth 100000 in
set_option maxHeartbeats 1600000 in
theorem inter_ref (ax0 ay0 ax1 ay1 bx0 by0 bx1 by1 : Int) (w : World) : Calls Try.prog 71 #[.agg #[.int .i64 ax0, .int .i64 ay0, .int .i64 ax1, .int .i64 ay1], .agg #[.int .i64 bx0, .int .i64 by0, .int .i64 bx1, .int .i64 by1]] w fun e w' => e = .returned (.agg #[.int .i64 (inter ⟨ax0, ay0, ax1, ay1⟩ ⟨bx0, by0, bx1, by1⟩).x0, .int .i64 (inter ⟨ax0, ay0, ax1, ay1⟩ ⟨bx0, by0, bx1, by1⟩).y0, .int .i64 (inter ⟨ax0, ay0, ax1, ay1⟩ ⟨bx0, by0, bx1, by1⟩).x1, .int .i64 (inter ⟨ax0, ay0, ax1, ay1⟩ ⟨bx0, by0, bx1, by1⟩).y1]) ∧ Below w.heap.size w w' := by
  have HH0 : inter ⟨ax0, ay0, ax1, ay1⟩ ⟨bx0, by0, bx1, by1⟩ = nrm ⟨if ax0 < bx0 then bx0 else ax0, if ay0 < by0 then by0 else ay0, if bx1 < ax1 then bx1 else ax1, if by1 < ay1 then by1 else ay1⟩ := rfl
  generalize inter ⟨ax0, ay0, ax1, ay1⟩ ⟨bx0, by0, bx1, by1⟩ = r at *
  by_cases h1 : ax0 < bx0 <;> by_cases h2 : ay0 < by0 <;> by_cases h3 : bx1 < ax1 <;> by_cases h4 : by1 < ay1 <;> simp only [h1, h2, h3, h4, if_true, if_false] at HH0
  all_goals
    have HH := Lib.hid HH0
    clear HH0
    go_enter Try.func71, Try.ntmps71
    go_wp2_with (go_at_call 77; refine (norm_ref _ _ _ _ _).mono ?_; rintro e w3 ⟨rfl, rfl⟩)
    exact bodyPost_ret (v := .agg #[.int .i64 r.x0, .int .i64 r.y0, .int .i64 r.x1, .int .i64 r.y1]) (by rw [HH.out]; simp [results, Try.results71, go_sem]) rfl ⟨rfl, (by repeat (first | exact Below.refl _ _ | refine Below.alloc ?_ (by simp <;> omega) _))⟩
theorem tf (a b : Bool) : (a ≠ b) ↔ ((!a == b) = true) := by cases a <;> cases b <;> simp
set_option maxRecDepth 100000 in
theorem floor_any (a b : Int) (w : World) : Calls Try.prog 55 #[.int .i64 a, .int .i64 b] w fun e w' => e = .returned (.int .i64 (flr a b)) ∧ w = w' := by
  by_cases hb : b = 0
  · have h0 : flr a b = 0 := by unfold flr; rw [if_pos hb]
    rw [h0]
    subst hb
    clear h0
    go_enter Try.func55, Try.ntmps55
    go_wp2
    go_ret
    exact ⟨rfl, rfl⟩
  · have HH := Lib.hid (show flr a b = if a.tmod b ≠ 0 ∧ decide (a < 0) ≠ decide (b < 0) then wrap64 (wrap64 (a.tdiv b) - 1) else wrap64 (a.tdiv b) by unfold flr; rw [if_neg hb])
    generalize flr a b = r at *
    have hb0 : (b == 0) = false := by simpa using hb
    go_enter Try.func55, Try.ntmps55
    go_wp2
    go_ways
    all_goals
      go_ret
      refine ⟨ret_int ?_, rfl⟩
      rw [HH.out]
      by_cases h1 : a < 0 <;> by_cases h2 : b < 0 <;> first | (simp_all; done) | (simp_all; intro h; exfalso; omega) | (simp_all; exfalso; omega) | (simp_all; omega)
set_option maxRecDepth 100000 in
theorem ceil_any (a b : Int) (w : World) : Calls Try.prog 53 #[.int .i64 a, .int .i64 b] w fun e w' => e = .returned (.int .i64 (cel a b)) ∧ w = w' := by
  by_cases hb : b = 0
  · have h0 : cel a b = 0 := by unfold cel; rw [if_pos hb]
    rw [h0]
    subst hb
    clear h0
    go_enter Try.func53, Try.ntmps53
    go_wp2
    go_ret
    exact ⟨rfl, rfl⟩
  · have HH := Lib.hid (show cel a b = if a.tmod b ≠ 0 ∧ decide (a < 0) = decide (b < 0) then wrap64 (wrap64 (a.tdiv b) + 1) else wrap64 (a.tdiv b) by unfold cel; rw [if_neg hb])
    generalize cel a b = r at *
    have hb0 : (b == 0) = false := by simpa using hb
    go_enter Try.func53, Try.ntmps53
    go_wp2
    go_ways
    all_goals
      go_ret
      refine ⟨ret_int ?_, rfl⟩
      rw [HH.out]
      by_cases h1 : a < 0 <;> by_cases h2 : b < 0 <;> first | (simp_all; done) | (simp_all; intro h; exfalso; omega) | (simp_all; exfalso; omega) | (simp_all; omega)
theorem dec1 (a : Int) : wrap64 (a - 1) = wrap64 (a - 1) := rfl
set_option maxRecDepth 100000 in
theorem floor_ref (a b : Int) (w : World) : Calls Try.prog 70 #[.int .i64 a, .int .i64 b] w fun e w' => e = .returned (.int .i64 (flr a b)) ∧ w = w' := by
  by_cases hb : b = 0
  · have h0 : flr a b = 0 := by unfold flr; rw [if_pos hb]
    rw [h0]
    subst hb
    clear h0
    go_enter Try.func70, Try.ntmps70
    go_wp2
    go_ret
    exact ⟨rfl, rfl⟩
  · have HH := Lib.hid (show flr a b = if a.tmod b ≠ 0 ∧ decide (a < 0) ≠ decide (b < 0) then wrap64 (wrap64 (a.tdiv b) - 1) else wrap64 (a.tdiv b) by unfold flr; rw [if_neg hb])
    generalize flr a b = r at *
    have hb0 : (b == 0) = false := by simpa using hb
    go_enter Try.func70, Try.ntmps70
    go_wp2
    all_goals
      go_ret
      refine ⟨ret_int ?_, rfl⟩
      rw [HH.out]
      by_cases h1 : a < 0 <;> by_cases h2 : b < 0 <;> first | (simp_all; done) | (simp_all; intro h; exfalso; omega) | (simp_all; exfalso; omega) | (simp_all; omega)
set_option maxRecDepth 100000 in
theorem ceil_ref (a b : Int) (w : World) : Calls Try.prog 69 #[.int .i64 a, .int .i64 b] w fun e w' => e = .returned (.int .i64 (cel a b)) ∧ w = w' := by
  by_cases hb : b = 0
  · have h0 : cel a b = 0 := by unfold cel; rw [if_pos hb]
    rw [h0]
    subst hb
    clear h0
    go_enter Try.func69, Try.ntmps69
    go_wp2
    go_ret
    exact ⟨rfl, rfl⟩
  · have HH := Lib.hid (show cel a b = if a.tmod b ≠ 0 ∧ decide (a < 0) = decide (b < 0) then wrap64 (wrap64 (a.tdiv b) + 1) else wrap64 (a.tdiv b) by unfold cel; rw [if_neg hb])
    generalize cel a b = r at *
    have hb0 : (b == 0) = false := by simpa using hb
    go_enter Try.func69, Try.ntmps69
    go_wp2
    all_goals
      go_ret
      refine ⟨ret_int ?_, rfl⟩
      rw [HH.out]
      by_cases h1 : a < 0 <;> by_cases h2 : b < 0 <;> first | (simp_all; done) | (simp_all; intro h; exfalso; omega) | (simp_all; exfalso; omega) | (simp_all; omega)
set_option maxRecDepth 100000 in
theorem rest_ref (x n : Int) (hn : n ≠ 0) (w : World) : Calls Try.prog 47 #[.int .i64 x, .int .i64 n] w fun e w' => e = .returned (.int .i64 (rst x n)) ∧ w = w' := by
  have HH := Lib.hid (show rst x n = (wrap64 (x.tmod n + n)).tmod n from rfl)
  generalize rst x n = r at *
  have hb0 : (n == 0) = false := by simpa using hn
  go_enter Try.func47, Try.ntmps47
  go_wp2
  go_ret
  refine ⟨ret_int ?_, rfl⟩
  rw [HH.out]
end Go.Proofs.Ytmfmnoajihiidaa.Rct
