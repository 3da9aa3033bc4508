/- The plain mathematics of layer 3 (rect): the parts of a difference, their points and areas. -/
import Derived.Test.YtplnhmfkflnhpaaLM
import Derived.Test.YtplnhmfkflnhpaaN
set_option linter.unusedVariables false
namespace Go.Proofs.Ytplnhmfkflnhpaa
open Go.RowKit
theorem has_emp {r : R} (h : emp r = true) (x y : Int) : has r x y = false := by
  have := emp_true h
  cases hh : has r x y with
  | false => rfl
  | true => unfold has at hh; simp only [Bool.and_eq_true, decide_eq_true_eq] at hh; omega
theorem has_iff {r : R} {x y : Int} : has r x y = true ↔ r.x0 ≤ x ∧ x < r.x1 ∧ r.y0 ≤ y ∧ y < r.y1 := by
  unfold has; simp only [Bool.and_eq_true, decide_eq_true_eq]; omega
/-- How many of the rectangles hold the point. -/
def hits (x y : Int) (l : List R) : Int := (l.countP fun r => has r x y : Nat)
def sumA (l : List R) : Int := (l.map area).foldr (· + ·) 0
theorem hits_nil (x y : Int) : hits x y [] = 0 := rfl
theorem hits_cons (x y : Int) (r : R) (l : List R) : hits x y (r :: l) = (if has r x y = true then 1 else 0) + hits x y l := by
  unfold hits
  rw [List.countP_cons]
  split <;> omega
theorem hits_full (x y : Int) : ∀ l : List R, hits x y (full l) = hits x y l
  | [] => rfl
  | r :: l => by
    cases he : emp r with
    | true =>
      have : full (r :: l) = full l := by simp [full, he]
      rw [this, hits_cons, has_emp he, hits_full x y l]; simp
    | false =>
      have : full (r :: l) = r :: full l := by simp [full, he]
      rw [this, hits_cons, hits_cons, hits_full x y l]
theorem sumA_full : ∀ l : List R, sumA (full l) = sumA l
  | [] => rfl
  | r :: l => by
    have hc : ∀ m, sumA (r :: m) = area r + sumA m := fun m => rfl
    cases he : emp r with
    | true =>
      have : full (r :: l) = full l := by simp [full, he]
      rw [this, hc, sumA_full l]
      have : area r = 0 := by unfold area; rw [if_pos he]
      omega
    | false =>
      have : full (r :: l) = r :: full l := by simp [full, he]
      rw [this, hc, hc, sumA_full l]
theorem inter_in {a b : R} (h : emp (inter a b) = false) : a.x0 ≤ (inter a b).x0 ∧ (inter a b).x1 ≤ a.x1 ∧ a.y0 ≤ (inter a b).y0 ∧ (inter a b).y1 ≤ a.y1 ∧ b.x0 ≤ (inter a b).x0 ∧ (inter a b).x1 ≤ b.x1 ∧ b.y0 ≤ (inter a b).y0 ∧ (inter a b).y1 ≤ b.y1 ∧ (inter a b).x0 < (inter a b).x1 ∧ (inter a b).y0 < (inter a b).y1 := by
  have e := emp_false h
  have h1 := inter_full h
  generalize inter a b = i at *
  subst h1
  dsimp only at e ⊢
  simp only [mx_eq, mn_eq] at *
  omega
theorem has_inter (a b : R) (x y : Int) : has (inter a b) x y = (has a x y && has b x y) := by
  rw [Bool.eq_iff_iff, Bool.and_eq_true, has_iff, has_iff, has_iff]
  unfold inter
  cases h : emp ⟨mx a.x0 b.x0, mx a.y0 b.y0, mn a.x1 b.x1, mn a.y1 b.y1⟩ with
  | true =>
    rw [nrm_emp h]
    rw [emp_t] at h
    unfold R.zero
    dsimp only
    simp only [mx_eq, mn_eq] at h
    omega
  | false =>
    rw [nrm_full h]
    dsimp only
    simp only [mx_eq, mn_eq]
    omega
theorem has_uni (a b : R) (x y : Int) (h : has a x y = true ∨ has b x y = true) : has (uni a b) x y = true := by
  rcases h with h | h
  · have ha : emp a = false := by cases he : emp a; rfl; rw [has_emp he] at h; cases h
    have hi := (ins_iff ha).1 (ins_uni_l a b)
    rw [has_iff] at h ⊢; omega
  · have hb : emp b = false := by cases he : emp b; rfl; rw [has_emp he] at h; cases h
    have hi := (ins_iff hb).1 (ins_uni_r a b)
    rw [has_iff] at h ⊢; omega
theorem has_ins {a b : R} {x y : Int} (h : ins a b = true) (ha : has a x y = true) : has b x y = true := by
  have he : emp a = false := by cases he : emp a; rfl; rw [has_emp he] at ha; cases ha
  have hi := (ins_iff he).1 h
  rw [has_iff] at ha ⊢; omega
theorem hits_minus (a b : R) (x y : Int) : hits x y (minusL a b) = if has a x y = true ∧ has b x y = false then 1 else 0 := by
  have hi := has_inter a b x y
  unfold minusL
  cases ha : emp a with
  | true => rw [if_pos rfl, if_neg (by rw [has_emp ha]; simp)]; rfl
  | false =>
    rw [if_neg (by simp)]
    cases hie : emp (inter a b) with
    | true =>
      rw [if_pos rfl, hits_cons, hits_nil]
      rw [has_emp hie] at hi
      cases h1 : has a x y <;> cases h2 : has b x y <;> simp [h1, h2] at hi ⊢
    | false =>
      rw [if_neg (by simp), hits_full]
      have hin := inter_in hie
      have key : has b x y = true → has a x y = true → (inter a b).x0 ≤ x ∧ x < (inter a b).x1 ∧ (inter a b).y0 ≤ y ∧ y < (inter a b).y1 := by
        intro h1 h2
        rw [h1, h2] at hi
        exact has_iff.1 hi
      have key2 : has b x y = false → ¬ ((inter a b).x0 ≤ x ∧ x < (inter a b).x1 ∧ (inter a b).y0 ≤ y ∧ y < (inter a b).y1) := by
        intro h1 h2
        have := has_iff.2 h2
        rw [hi, h1] at this; simp at this
      clear hi
      generalize inter a b = i at *
      unfold partsL
      simp only [hits_cons, hits_nil, has_iff]
      cases hb : has b x y with
      | true =>
        have key := key hb
        rw [if_neg (show ¬(_ ∧ true = false) from fun h => by cases h.2)]
        rw [has_iff] at key
        repeat' split
        all_goals omega
      | false =>
        have key2 := key2 hb
        simp only [and_true]
        repeat' split
        all_goals omega
theorem area_full {r : R} (hx : r.x0 ≤ r.x1) (hy : r.y0 ≤ r.y1) (bx : r.x1 - r.x0 ≤ 100) (bY : r.y1 - r.y0 ≤ 100) : area r = (r.x1 - r.x0) * (r.y1 - r.y0) := by
  unfold area
  have h1 : (r.x1 - r.x0) * (r.y1 - r.y0) ≤ 100 * 100 := Int.mul_le_mul bx bY (by omega) (by omega)
  have h0 : 0 ≤ (r.x1 - r.x0) * (r.y1 - r.y0) := Int.mul_nonneg (by omega) (by omega)
  cases he : emp r with
  | true =>
    rw [if_pos rfl]
    rcases emp_true he with h | h
    · rw [show r.x1 - r.x0 = 0 by omega]; simp
    · rw [show r.y1 - r.y0 = 0 by omega]; simp
  | false =>
    rw [if_neg (by simp), wr (r.x1 - r.x0) (by omega) (by omega), wr (r.y1 - r.y0) (by omega) (by omega), wr ((r.x1 - r.x0) * (r.y1 - r.y0)) (by omega) (by omega)]
theorem sum_parts (a b : R) (ha : Sm a) : area (inter a b) + sumA (minusL a b) = area a := by
  unfold minusL
  cases hae : emp a with
  | true =>
    rw [if_pos rfl]
    have hi : emp (inter a b) = true := by
      cases hie : emp (inter a b) with
      | true => rfl
      | false => have := inter_in hie; have := emp_true hae; omega
    have e1 : area (inter a b) = 0 := by unfold area; rw [if_pos hi]
    have e2 : area a = 0 := by unfold area; rw [if_pos hae]
    rw [e1, e2]; rfl
  | false =>
    rw [if_neg (by simp)]
    cases hie : emp (inter a b) with
    | true =>
      rw [if_pos rfl]
      have e1 : area (inter a b) = 0 := by unfold area; rw [if_pos hie]
      rw [e1]; show 0 + (area a + 0) = area a; omega
    | false =>
      rw [if_neg (by simp), sumA_full]
      have hin := inter_in hie
      have hae' := emp_false hae
      unfold Sm at ha
      generalize inter a b = i at *
      show area i + (area ⟨a.x0, a.y0, a.x1, i.y0⟩ + (area ⟨a.x0, i.y1, a.x1, a.y1⟩ + (area ⟨a.x0, i.y0, i.x0, i.y1⟩ + (area ⟨i.x1, i.y0, a.x1, i.y1⟩ + 0)))) = area a
      rw [area_full (r := i) (by omega) (by omega) (by omega) (by omega), area_full (r := a) (by omega) (by omega) (by omega) (by omega),
        area_full (r := ⟨a.x0, a.y0, a.x1, i.y0⟩) (by dsimp only; omega) (by dsimp only; omega) (by dsimp only; omega) (by dsimp only; omega),
        area_full (r := ⟨a.x0, i.y1, a.x1, a.y1⟩) (by dsimp only; omega) (by dsimp only; omega) (by dsimp only; omega) (by dsimp only; omega),
        area_full (r := ⟨a.x0, i.y0, i.x0, i.y1⟩) (by dsimp only; omega) (by dsimp only; omega) (by dsimp only; omega) (by dsimp only; omega),
        area_full (r := ⟨i.x1, i.y0, a.x1, i.y1⟩) (by dsimp only; omega) (by dsimp only; omega) (by dsimp only; omega) (by dsimp only; omega)]
      dsimp only
      grind
theorem minus_len (a b : R) : (minusL a b).length ≤ 4 := by
  unfold minusL
  split
  · simp
  · split
    · simp
    · exact Nat.le_trans (full_le _) (by simp [partsL])
theorem part_in (a b : R) {p : R} (hp : p ∈ minusL a b) : emp p = false ∧ ins p a = true ∧ emp (inter p b) = true := by
  have key : ∀ q : R, emp q = false → (a.x0 ≤ q.x0 ∧ q.x1 ≤ a.x1 ∧ a.y0 ≤ q.y0 ∧ q.y1 ≤ a.y1) → (∀ x y, has q x y = true → has b x y = false) → emp q = false ∧ ins q a = true ∧ emp (inter q b) = true := by
    intro q h1 h2 h3
    refine ⟨h1, (ins_iff h1).2 (by omega), ?_⟩
    cases hie : emp (inter q b) with
    | true => rfl
    | false =>
      have hin := inter_in hie
      have hq : has q (inter q b).x0 (inter q b).y0 = true := has_iff.2 (by omega)
      have := h3 _ _ hq
      have hb : has b (inter q b).x0 (inter q b).y0 = true := has_iff.2 (by omega)
      rw [hb] at this; cases this
  unfold minusL at hp
  cases hae : emp a with
  | true => rw [if_pos hae] at hp; cases hp
  | false =>
    rw [if_neg (by simp [hae])] at hp
    cases hie : emp (inter a b) with
    | true =>
      rw [if_pos hie] at hp
      simp at hp; subst hp
      refine key p hae (by omega) fun x y hx => ?_
      have := has_inter p b x y
      rw [has_emp hie, hx] at this
      simpa using this.symm
    | false =>
      rw [if_neg (by simp [hie])] at hp
      have hin := inter_in hie
      have hb : ∀ x y, has b x y = true → has a x y = true → (inter a b).x0 ≤ x ∧ x < (inter a b).x1 ∧ (inter a b).y0 ≤ y ∧ y < (inter a b).y1 := by
        intro x y h1 h2
        have := has_inter a b x y
        rw [h1, h2] at this
        exact has_iff.1 this
      unfold full at hp
      rw [List.mem_filter] at hp
      obtain ⟨hp, hpe⟩ := hp
      have hpe : emp p = false := by simpa using hpe
      have hpe' := emp_false hpe
      generalize inter a b = i at *
      have fin : (a.x0 ≤ p.x0 ∧ p.x1 ≤ a.x1 ∧ a.y0 ≤ p.y0 ∧ p.y1 ≤ a.y1) → (p.y1 ≤ i.y0 ∨ i.y1 ≤ p.y0 ∨ p.x1 ≤ i.x0 ∨ i.x1 ≤ p.x0) → emp p = false ∧ ins p a = true ∧ emp (inter p b) = true := by
        intro h1 h2
        refine key p hpe h1 fun x y hx => ?_
        cases hbb : has b x y with
        | false => rfl
        | true =>
          have hx' := has_iff.1 hx
          have := hb x y hbb (has_iff.2 (by omega))
          omega
      unfold partsL at hp
      simp only [List.mem_cons, List.not_mem_nil, or_false] at hp
      rcases hp with rfl | rfl | rfl | rfl
      all_goals (refine fin ?_ ?_ <;> dsimp only at * <;> omega)
theorem sumA_take (l : List R) (k : Nat) (p : R) (h : l[k]? = some p) : sumA (l.take (k + 1)) = sumA (l.take k) + area p := by
  have hi : k < l.length := (List.getElem?_eq_some_iff.1 h).1
  have e : l[k] = p := by have := List.getElem?_eq_getElem hi; rw [this] at h; exact Option.some.inj h
  have app : ∀ m n : List R, sumA (m ++ n) = sumA m + sumA n := by
    intro m n
    induction m with
    | nil => show sumA n = 0 + sumA n; omega
    | cons r m ih => show area r + sumA (m ++ n) = area r + sumA m + sumA n; omega
  rw [List.take_succ_eq_append_getElem hi, e, app]
  show _ + (area p + 0) = _
  omega
theorem hits_take (x y : Int) (l : List R) (k : Nat) (p : R) (h : l[k]? = some p) : hits x y (l.take (k + 1)) = hits x y (l.take k) + if has p x y = true then 1 else 0 := by
  have hi : k < l.length := (List.getElem?_eq_some_iff.1 h).1
  have e : l[k] = p := by have := List.getElem?_eq_getElem hi; rw [this] at h; exact Option.some.inj h
  unfold hits
  rw [List.take_succ_eq_append_getElem hi, e, List.countP_append, List.countP_singleton]
  split <;> simp
theorem hits_le (x y : Int) (l : List R) : 0 ≤ hits x y l ∧ hits x y l ≤ l.length := by
  unfold hits
  have := List.countP_le_length (p := fun r : R => has r x y) (l := l)
  omega
end Go.Proofs.Ytplnhmfkflnhpaa
