/- The plain mathematics of layer 3 (rect): the tiles of a small rectangle. -/
import Derived.Test.YtplnhmfkflnhpaaLB
set_option linter.unusedVariables false
namespace Go.Proofs.Ytplnhmfkflnhpaa
open Go.RowKit
/-- The bounds of a small rectangle. -/
def Sm (r : R) : Prop := -20 ≤ r.x0 ∧ r.x0 ≤ 19 ∧ -20 ≤ r.y0 ∧ r.y0 ≤ 19 ∧ r.x0 ≤ r.x1 ∧ r.x1 ≤ r.x0 + 39 ∧ r.y0 ≤ r.y1 ∧ r.y1 ≤ r.y0 + 39
theorem small_sm (a b c d : Int) : Sm (smallR a b c d) := by
  have h1 := rst_bd a 40 (by omega) (by omega)
  have h2 := rst_bd b 40 (by omega) (by omega)
  have h3 := rst_bd c 40 (by omega) (by omega)
  have h4 := rst_bd d 40 (by omega) (by omega)
  unfold smallR Sm
  dsimp only
  rw [wr (rst a 40 - 20) (by omega) (by omega), wr (rst b 40 - 20) (by omega) (by omega), wr (rst a 40 - 20 + rst c 40) (by omega) (by omega), wr (rst b 40 - 20 + rst d 40) (by omega) (by omega)]
  omega
theorem Sm.bd {r : R} (h : Sm r) : Bd r := by unfold Sm at h; unfold Bd; omega
def cnt (T : Int × Int) (l : List (Int × Int)) : Int := (l.count T : Nat)
theorem count_row (tx ty ax y : Int) (n : Nat) : (row ax y n).count (tx, ty) = if ty = y ∧ ax ≤ tx ∧ tx < ax + (n : Int) then 1 else 0 := by
  induction n with
  | zero => rw [if_neg (by omega)]; rfl
  | succ n ih =>
    rw [row_succ, List.count_append, ih]
    by_cases h : ty = y ∧ tx = ax + (n : Int)
    · obtain ⟨rfl, rfl⟩ := h
      rw [if_neg (by omega), if_pos (by omega)]; simp
    · have : List.count (tx, ty) [(ax + (n : Int), y)] = 0 := by
        rw [List.count_eq_zero]; simp; omega
      rw [this]
      by_cases h2 : ty = y ∧ ax ≤ tx ∧ tx < ax + (n : Int)
      · rw [if_pos h2, if_pos (by omega)]
      · rw [if_neg h2, if_neg (by omega)]
theorem count_tls (tx ty ax ay : Int) (nx ny : Nat) : (tls ax ay nx ny).count (tx, ty) = if (ay ≤ ty ∧ ty < ay + (ny : Int)) ∧ ax ≤ tx ∧ tx < ax + (nx : Int) then 1 else 0 := by
  induction ny with
  | zero => rw [if_neg (by omega)]; rfl
  | succ n ih =>
    rw [tls_succ, List.count_append, ih, count_row]
    repeat' split
    all_goals omega
theorem tnx_eq {r : R} (h : Sm r) (he : emp r = false) : (tnx r : Int) = flr (r.x1 - 1) 8 - flr r.x0 8 + 1 ∧ (tny r : Int) = flr (r.y1 - 1) 8 - flr r.y0 8 + 1 := by
  unfold Sm at h
  obtain ⟨e1, e2⟩ := emp_false he
  have a1 := flr8 r.x0 (by omega) (by omega)
  have a2 := flr8 r.y0 (by omega) (by omega)
  have a3 := flr8 (r.x1 - 1) (by omega) (by omega)
  have a4 := flr8 (r.y1 - 1) (by omega) (by omega)
  unfold tnx tny
  rw [wr (r.x1 - 1) (by omega) (by omega), wr (r.y1 - 1) (by omega) (by omega)]
  omega
theorem tiles_eq {r : R} (he : emp r = false) : tilesL r = tls (tax r) (tay r) (tnx r) (tny r) := by unfold tilesL; rw [if_neg (by simp [he])]
theorem tiles_len {r : R} (h : Sm r) : (tilesL r).length ≤ 100 := by
  cases he : emp r with
  | true => unfold tilesL; rw [if_pos he]; simp
  | false =>
    rw [tiles_eq he, tls_length]
    obtain ⟨t1, t2⟩ := tnx_eq h he
    unfold Sm at h
    have a1 := flr8 r.x0 (by omega) (by omega)
    have a2 := flr8 r.y0 (by omega) (by omega)
    have a3 := flr8 (r.x1 - 1) (by omega) (by omega)
    have a4 := flr8 (r.y1 - 1) (by omega) (by omega)
    have : tnx r ≤ 6 := by omega
    have : tny r ≤ 6 := by omega
    exact Nat.le_trans (Nat.mul_le_mul (by assumption) ‹tnx r ≤ 6›) (by omega)
theorem tiles_mem {r : R} (he : emp r = false) {x : Int × Int} (hx : x ∈ tilesL r) : (tay r ≤ x.2 ∧ x.2 < tay r + (tny r : Int)) ∧ tax r ≤ x.1 ∧ x.1 < tax r + (tnx r : Int) := by
  rw [tiles_eq he] at hx
  have := List.count_pos_iff.2 hx
  obtain ⟨tx, ty⟩ := x
  rw [count_tls] at this
  by_cases h : (tay r ≤ ty ∧ ty < tay r + (tny r : Int)) ∧ tax r ≤ tx ∧ tx < tax r + (tnx r : Int)
  · exact h
  · rw [if_neg h] at this; omega
theorem tile_bd {r : R} (h : Sm r) (he : emp r = false) {x : Int × Int} (hx : x ∈ tilesL r) : 8 * x.1 < r.x1 ∧ r.x0 < 8 * x.1 + 8 ∧ 8 * x.2 < r.y1 ∧ r.y0 < 8 * x.2 + 8 := by
  have hm := tiles_mem he hx
  obtain ⟨t1, t2⟩ := tnx_eq h he
  unfold Sm at h
  unfold tax tay at hm
  have a1 := flr8 r.x0 (by omega) (by omega)
  have a2 := flr8 r.y0 (by omega) (by omega)
  have a3 := flr8 (r.x1 - 1) (by omega) (by omega)
  have a4 := flr8 (r.y1 - 1) (by omega) (by omega)
  omega
theorem of_eq (x y : Int) (h1 : -1000 ≤ x) (h2 : x ≤ 1000) (h3 : -1000 ≤ y) (h4 : y ≤ 1000) : ofR x y = ⟨8 * x, 8 * y, 8 * x + 8, 8 * y + 8⟩ := by
  unfold ofR
  rw [wr (8 * x) (by omega) (by omega), wr (8 * y) (by omega) (by omega), wr (8 * x + 8) (by omega) (by omega), wr (8 * y + 8) (by omega) (by omega)]
theorem mem_emp {r : R} {x : Int × Int} (hx : x ∈ tilesL r) : emp r = false := by
  cases he : emp r with
  | false => rfl
  | true => unfold tilesL at hx; rw [if_pos he] at hx; cases hx
theorem tile_meets {r : R} (h : Sm r) {x : Int × Int} (hx : x ∈ tilesL r) : emp (inter (ofR x.1 x.2) r) = false := by
  have he := mem_emp hx
  have hb := tile_bd h he hx
  unfold Sm at h
  obtain ⟨e1, e2⟩ := emp_false he
  rw [of_eq _ _ (by omega) (by omega) (by omega) (by omega)]
  have key : emp ⟨mx (8 * x.1) r.x0, mx (8 * x.2) r.y0, mn (8 * x.1 + 8) r.x1, mn (8 * x.2 + 8) r.y1⟩ = false := by
    unfold emp
    simp only [mx_eq, mn_eq, Bool.or_eq_false_iff, decide_eq_false_iff_not]
    omega
  unfold inter nrm
  dsimp only
  rw [if_neg (by rw [key]; simp), key]
theorem tile_has {r : R} (h : Sm r) {x : Int × Int} (hx : x ∈ tilesL r) (px py : Int) (h1 : -1000 ≤ px) (h2 : px ≤ 1000) (h3 : -1000 ≤ py) (h4 : py ≤ 1000) : has (ofR x.1 x.2) px py = decide (x = (flr px 8, flr py 8)) := by
  have he := mem_emp hx
  have hb := tile_bd h he hx
  unfold Sm at h
  have a1 := flr8 px (by omega) (by omega)
  have a2 := flr8 py (by omega) (by omega)
  rw [of_eq _ _ (by omega) (by omega) (by omega) (by omega)]
  obtain ⟨tx, ty⟩ := x
  unfold has
  rw [Bool.eq_iff_iff]
  simp only [Bool.and_eq_true, decide_eq_true_eq, Prod.mk.injEq]
  dsimp only at *
  omega
theorem tile_count {r : R} (h : Sm r) (px py : Int) (h1 : -1000 ≤ px) (h2 : px ≤ 1000) (h3 : -1000 ≤ py) (h4 : py ≤ 1000) : cnt (flr px 8, flr py 8) (tilesL r) ≤ 1 ∧ (has r px py = true → cnt (flr px 8, flr py 8) (tilesL r) = 1) := by
  unfold cnt
  cases he : emp r with
  | true =>
    have ht : tilesL r = [] := by unfold tilesL; rw [if_pos he]
    rw [ht]
    refine ⟨by simp, fun hh => ?_⟩
    have := emp_true he
    unfold has at hh
    simp only [Bool.and_eq_true, decide_eq_true_eq] at hh
    omega
  | false =>
    rw [tiles_eq he, count_tls]
    constructor
    · split <;> omega
    · intro hh
      obtain ⟨t1, t2⟩ := tnx_eq h he
      unfold has at hh
      simp only [Bool.and_eq_true, decide_eq_true_eq] at hh
      unfold Sm at h
      have a1 := flr8 r.x0 (by omega) (by omega)
      have a2 := flr8 r.y0 (by omega) (by omega)
      have a3 := flr8 (r.x1 - 1) (by omega) (by omega)
      have a4 := flr8 (r.y1 - 1) (by omega) (by omega)
      have a5 := flr8 px (by omega) (by omega)
      have a6 := flr8 py (by omega) (by omega)
      rw [if_pos]
      · rfl
      · unfold tax tay
        omega
theorem cnt_take (T : Int × Int) (l : List (Int × Int)) (k : Nat) (x : Int × Int) (h : l[k]? = some x) : cnt T (l.take (k + 1)) = cnt T (l.take k) + if x = T then 1 else 0 := by
  have hi : k < l.length := (List.getElem?_eq_some_iff.1 h).1
  have e : l[k] = x := by have := List.getElem?_eq_getElem hi; rw [this] at h; exact Option.some.inj h
  unfold cnt
  rw [List.take_succ_eq_append_getElem hi, e, List.count_append]
  by_cases hx : x = T
  · subst hx; simp
  · rw [if_neg hx]
    have : List.count T [x] = 0 := by rw [List.count_eq_zero]; simp; exact fun h => hx h.symm
    rw [this]; simp
end Go.Proofs.Ytplnhmfkflnhpaa
