/- The plain mathematics of layer 3 (rect): quotients rounded down and up, rectangles. No function of the program is in sight. -/
import Derived.WalkKit
namespace Go.Proofs.Ytplnhmfkflnhpaa
open Go.RowKit

/-- A rectangle. -/
structure R where
  x0 : Int
  y0 : Int
  x1 : Int
  y1 : Int
def R.zero : R := ⟨0, 0, 0, 0⟩
def emp (r : R) : Bool := decide (r.x1 ≤ r.x0) || decide (r.y1 ≤ r.y0)
theorem emp_true {r : R} (h : emp r = true) : r.x1 ≤ r.x0 ∨ r.y1 ≤ r.y0 := by
  unfold emp at h; simpa using h
theorem emp_false {r : R} (h : emp r = false) : r.x0 < r.x1 ∧ r.y0 < r.y1 := by
  unfold emp at h; simp at h; omega
theorem emp_zero : emp R.zero = true := by rfl
def nrm (r : R) : R := if emp r = true then R.zero else r
def has (r : R) (x y : Int) : Bool := decide (r.x0 ≤ x) && decide (x < r.x1) && decide (r.y0 ≤ y) && decide (y < r.y1)
def ins (a b : R) : Bool := emp a || (decide (b.x0 ≤ a.x0) && decide (a.x1 ≤ b.x1) && decide (b.y0 ≤ a.y0) && decide (a.y1 ≤ b.y1))
def same (a b : R) : Bool := a.x0 == b.x0 && (a.y0 == b.y0 && (a.x1 == b.x1 && a.y1 == b.y1))
def eqr (a b : R) : Bool := same a b || (emp a && emp b)
def area (r : R) : Int := if emp r = true then 0 else wrap64 (wrap64 (r.x1 - r.x0) * wrap64 (r.y1 - r.y0))
def valid (r : R) : Bool := !emp r && (decide (-65536 ≤ r.x0) && decide (r.x1 ≤ 65536) && decide (-65536 ≤ r.y0) && decide (r.y1 ≤ 65536))
def mx (a b : Int) : Int := if a < b then b else a
def mn (a b : Int) : Int := if b < a then b else a
theorem mx_eq (a b : Int) : mx a b = max a b := by unfold mx; split <;> omega
theorem mn_eq (a b : Int) : mn a b = min a b := by unfold mn; split <;> omega
def inter (a b : R) : R := nrm ⟨mx a.x0 b.x0, mx a.y0 b.y0, mn a.x1 b.x1, mn a.y1 b.y1⟩
def uni (a b : R) : R := if emp a = true then nrm b else if emp b = true then a else ⟨mn a.x0 b.x0, mn a.y0 b.y0, mx a.x1 b.x1, mx a.y1 b.y1⟩
def grow (r : R) (n : Int) : R := if emp r = true then R.zero else nrm ⟨wrap64 (r.x0 - n), wrap64 (r.y0 - n), wrap64 (r.x1 + n), wrap64 (r.y1 + n)⟩
def move (r : R) (x y : Int) : R := if emp r = true then R.zero else nrm ⟨wrap64 (r.x0 + x), wrap64 (r.y0 + y), wrap64 (r.x1 + x), wrap64 (r.y1 + y)⟩

/-- The quotient rounded down; 0 for a zero divisor. -/
def flr (a b : Int) : Int := if b = 0 then 0 else if a.tmod b ≠ 0 ∧ decide (a < 0) ≠ decide (b < 0) then wrap64 (wrap64 (a.tdiv b) - 1) else wrap64 (a.tdiv b)
def cel (a b : Int) : Int := if b = 0 then 0 else if a.tmod b ≠ 0 ∧ decide (a < 0) = decide (b < 0) then wrap64 (wrap64 (a.tdiv b) + 1) else wrap64 (a.tdiv b)
/-- x modulo n as a non-negative number. -/
def rst (x n : Int) : Int := wrap64 (x.tmod n + n) |>.tmod n
end Go.Proofs.Ytplnhmfkflnhpaa
