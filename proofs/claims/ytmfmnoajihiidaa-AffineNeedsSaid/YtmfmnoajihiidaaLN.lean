/- The mathematics of Need: the smallest rectangle that holds the unit squares at some points; the sources of a rectangle lie between those of its corners. -/
import Derived.Test.YtmfmnoajihiidaaLQ
set_option linter.unusedVariables false
namespace Go.Proofs.Ytmfmnoajihiidaa
def unitR (X Y : Int) : Rct.R := ⟨X, Y, X + 1, Y + 1⟩
/-- R is the smallest rectangle that holds the unit squares at the points of P. -/
structure Hull (P : Int → Int → Prop) (R : Rct.R) : Prop where
  le : ∀ x y, P x y → (R.x0 ≤ x ∧ x < R.x1) ∧ (R.y0 ≤ y ∧ y < R.y1)
  x0 : ∃ x y, P x y ∧ x = R.x0
  x1 : ∃ x y, P x y ∧ x + 1 = R.x1
  y0 : ∃ x y, P x y ∧ y = R.y0
  y1 : ∃ x y, P x y ∧ y + 1 = R.y1
theorem unitR_ne (X Y : Int) : Rct.emp (unitR X Y) = false := by unfold Rct.emp unitR; simp; omega
theorem uni_zero (R : Rct.R) (h : Rct.emp R = false) : Rct.uni Rct.R.zero R = R := by
  unfold Rct.uni Rct.nrm; rw [Rct.emp_zero, h]; rfl
theorem Hull.ne {P : Int → Int → Prop} {R : Rct.R} (h : Hull P R) : Rct.emp R = false := by
  obtain ⟨x, y, hp, -⟩ := h.x0
  have := h.le x y hp
  unfold Rct.emp; simp; omega
theorem Hull.one (X Y : Int) : Hull (fun x y => x = X ∧ y = Y) (unitR X Y) := by
  refine ⟨?_, ⟨X, Y, ⟨rfl, rfl⟩, rfl⟩, ⟨X, Y, ⟨rfl, rfl⟩, rfl⟩, ⟨X, Y, ⟨rfl, rfl⟩, rfl⟩, ⟨X, Y, ⟨rfl, rfl⟩, rfl⟩⟩
  rintro x y ⟨rfl, rfl⟩
  unfold unitR; dsimp only; omega
theorem Hull.add {P : Int → Int → Prop} {R : Rct.R} (h : Hull P R) (X Y : Int) : Hull (fun x y => P x y ∨ (x = X ∧ y = Y)) (Rct.uni R (unitR X Y)) := by
  have e : Rct.uni R (unitR X Y) = ⟨Rct.mn R.x0 X, Rct.mn R.y0 Y, Rct.mx R.x1 (X + 1), Rct.mx R.y1 (Y + 1)⟩ := by
    unfold Rct.uni; rw [h.ne, unitR_ne]; rfl
  rw [e]
  obtain ⟨hl, ⟨ax, ay, ap, ae⟩, ⟨bx, by_, bp, be⟩, ⟨cx, cy, cp, ce⟩, ⟨dx, dy, dp, de⟩⟩ := h
  refine ⟨?_, ?_, ?_, ?_, ?_⟩
  · intro x y hp
    unfold Rct.mn Rct.mx
    dsimp only
    rcases hp with hp | ⟨rfl, rfl⟩
    · have := hl x y hp
      refine ⟨⟨?_, ?_⟩, ?_, ?_⟩ <;> split <;> omega
    · refine ⟨⟨?_, ?_⟩, ?_, ?_⟩ <;> split <;> omega
  · by_cases k : X < R.x0
    · exact ⟨X, Y, .inr ⟨rfl, rfl⟩, by simp [Rct.mn, k]⟩
    · exact ⟨ax, ay, .inl ap, by simp [Rct.mn, k, ae]⟩
  · by_cases k : R.x1 < X + 1
    · exact ⟨X, Y, .inr ⟨rfl, rfl⟩, by simp [Rct.mx, k]⟩
    · exact ⟨bx, by_, .inl bp, by simp [Rct.mx, k, be]⟩
  · by_cases k : Y < R.y0
    · exact ⟨X, Y, .inr ⟨rfl, rfl⟩, by simp [Rct.mn, k]⟩
    · exact ⟨cx, cy, .inl cp, by simp [Rct.mn, k, ce]⟩
  · by_cases k : R.y1 < Y + 1
    · exact ⟨X, Y, .inr ⟨rfl, rfl⟩, by simp [Rct.mx, k]⟩
    · exact ⟨dx, dy, .inl dp, by simp [Rct.mx, k, de]⟩
theorem R_ext {a b : Rct.R} (h0 : a.x0 = b.x0) (h1 : a.y0 = b.y0) (h2 : a.x1 = b.x1) (h3 : a.y1 = b.y1) : a = b := by cases a; cases b; simp_all
theorem Hull.unique {P Q : Int → Int → Prop} {R S : Rct.R} (h : Hull P R) (k : Hull Q S) (h1 : ∀ x y, P x y → (S.x0 ≤ x ∧ x < S.x1) ∧ (S.y0 ≤ y ∧ y < S.y1)) (h2 : ∀ x y, Q x y → (R.x0 ≤ x ∧ x < R.x1) ∧ (R.y0 ≤ y ∧ y < R.y1)) : R = S := by
  obtain ⟨-, ⟨ax, ay, ap, ae⟩, ⟨bx, by_, bp, be⟩, ⟨cx, cy, cp, ce⟩, ⟨dx, dy, dp, de⟩⟩ := h
  obtain ⟨-, ⟨ax', ay', ap', ae'⟩, ⟨bx', by', bp', be'⟩, ⟨cx', cy', cp', ce'⟩, ⟨dx', dy', dp', de'⟩⟩ := k
  have a1 := h1 _ _ ap; have a2 := h1 _ _ bp; have a3 := h1 _ _ cp; have a4 := h1 _ _ dp
  have b1 := h2 _ _ ap'; have b2 := h2 _ _ bp'; have b3 := h2 _ _ cp'; have b4 := h2 _ _ dp'
  apply R_ext <;> omega
namespace Af
/-- The unit square at the source of a pixel. -/
def unit (a : Af) (X Y : Int) : Rct.R := unitR (a.srcX X Y) (a.srcY X Y)
/-- What Need answers for a rectangle that is not empty. -/
def need (a : Af) (r : Rct.R) : Rct.R := Rct.uni (Rct.uni (Rct.uni (a.unit r.x0 r.y0) (a.unit (r.x1 - 1) r.y0)) (a.unit r.x0 (r.y1 - 1))) (a.unit (r.x1 - 1) (r.y1 - 1))
def Corner (a : Af) (r : Rct.R) (u v : Int) : Prop := ∃ x y, (x = r.x0 ∨ x = r.x1 - 1) ∧ (y = r.y0 ∨ y = r.y1 - 1) ∧ u = a.srcX x y ∧ v = a.srcY x y
theorem Hull_iff {P Q : Int → Int → Prop} {R : Rct.R} (h : Hull P R) (k : ∀ x y, P x y ↔ Q x y) : Hull Q R := by
  have : P = Q := by funext x y; exact propext (k x y)
  subst this; exact h
theorem need_hull (a : Af) (r : Rct.R) : Hull (a.Corner r) (a.need r) := by
  have h := (((Hull.one (a.srcX r.x0 r.y0) (a.srcY r.x0 r.y0)).add (a.srcX (r.x1 - 1) r.y0) (a.srcY (r.x1 - 1) r.y0)).add (a.srcX r.x0 (r.y1 - 1)) (a.srcY r.x0 (r.y1 - 1))).add (a.srcX (r.x1 - 1) (r.y1 - 1)) (a.srcY (r.x1 - 1) (r.y1 - 1))
  refine Hull_iff h fun x y => ⟨?_, ?_⟩
  · rintro (((⟨h1, h2⟩ | ⟨h1, h2⟩) | ⟨h1, h2⟩) | ⟨h1, h2⟩)
    · exact ⟨_, _, .inl rfl, .inl rfl, h1, h2⟩
    · exact ⟨_, _, .inr rfl, .inl rfl, h1, h2⟩
    · exact ⟨_, _, .inl rfl, .inr rfl, h1, h2⟩
    · exact ⟨_, _, .inr rfl, .inr rfl, h1, h2⟩
  · rintro ⟨p, q, rfl | rfl, rfl | rfl, h1, h2⟩
    · exact .inl (.inl (.inl ⟨h1, h2⟩))
    · exact .inl (.inr ⟨h1, h2⟩)
    · exact .inl (.inl (.inr ⟨h1, h2⟩))
    · exact .inr ⟨h1, h2⟩
theorem lin_min (A B u v x0 x1 y0 y1 : Int) (hx : x0 ≤ u ∧ u ≤ x1) (hy : y0 ≤ v ∧ v ≤ y1) : ∃ x y, (x = x0 ∨ x = x1) ∧ (y = y0 ∨ y = y1) ∧ A * x + B * y ≤ A * u + B * v := by
  have k : ∀ (C s t r : Int), s ≤ r → r ≤ t → ∃ p, (p = s ∨ p = t) ∧ C * p ≤ C * r := by
    intro C s t r h1 h2
    by_cases hC : 0 ≤ C
    · exact ⟨s, .inl rfl, Int.mul_le_mul_of_nonneg_left h1 hC⟩
    · exact ⟨t, .inr rfl, Int.mul_le_mul_of_nonpos_left (by omega) h2⟩
  obtain ⟨p, hp, h1⟩ := k A x0 x1 u hx.1 hx.2
  obtain ⟨q, hq, h2⟩ := k B y0 y1 v hy.1 hy.2
  exact ⟨p, q, hp, hq, by omega⟩
theorem src_corner {a : Af} (hv : a.val = true) {X Y x0 x1 y0 y1 : Int} (b0 : -70000 ≤ x0) (b1 : x1 ≤ 70000) (b2 : -70000 ≤ y0) (b3 : y1 ≤ 70000) (hx : x0 ≤ X ∧ X ≤ x1) (hy : y0 ≤ Y ∧ Y ≤ y1) :
    (∃ x y, (x = x0 ∨ x = x1) ∧ (y = y0 ∨ y = y1) ∧ a.srcX x y ≤ a.srcX X Y) ∧ (∃ x y, (x = x0 ∨ x = x1) ∧ (y = y0 ∨ y = y1) ∧ a.srcX X Y ≤ a.srcX x y) ∧
    (∃ x y, (x = x0 ∨ x = x1) ∧ (y = y0 ∨ y = y1) ∧ a.srcY x y ≤ a.srcY X Y) ∧ (∃ x y, (x = x0 ∨ x = x1) ∧ (y = y0 ∨ y = y1) ∧ a.srcY X Y ≤ a.srcY x y) := by
  have hd : 0 < 2 * (a.sg * a.det) := by have := sg_det (a.val_iff.1 hv).2.2.2.2.2.2.2.2; omega
  have bd : ∀ {x y : Int}, (x = x0 ∨ x = x1) → (y = y0 ∨ y = y1) → (-70000 ≤ x ∧ x ≤ 70000) ∧ (-70000 ≤ y ∧ y ≤ 70000) := by
    intro x y h1 h2; omega
  obtain ⟨e1, e2⟩ := srcX_eq hv (X := X) (Y := Y) (by omega) (by omega)
  have lx : ∀ x y, a.sg * a.sx x y = (2 * a.sg * a.N * a.E) * x + (-(2 * a.sg * a.N * a.B)) * y + a.sg * a.sx 0 0 := by
    intro x y; unfold sx; grind
  have ly : ∀ x y, a.sg * a.sy x y = (-(2 * a.sg * a.N * a.D)) * x + (2 * a.sg * a.N * a.A) * y + a.sg * a.sy 0 0 := by
    intro x y; unfold sy; grind
  refine ⟨?_, ?_, ?_, ?_⟩
  · obtain ⟨x, y, h1, h2, h3⟩ := lin_min (2 * a.sg * a.N * a.E) (-(2 * a.sg * a.N * a.B)) X Y x0 x1 y0 y1 hx hy
    refine ⟨x, y, h1, h2, ?_⟩
    obtain ⟨k1, k2⟩ := bd h1 h2
    rw [e1, (srcX_eq hv k1 k2).1, lx x y, lx X Y]
    exact Int.ediv_le_ediv hd (by omega)
  · obtain ⟨x, y, h1, h2, h3⟩ := lin_min (-(2 * a.sg * a.N * a.E)) (-(-(2 * a.sg * a.N * a.B))) X Y x0 x1 y0 y1 hx hy
    refine ⟨x, y, h1, h2, ?_⟩
    obtain ⟨k1, k2⟩ := bd h1 h2
    rw [e1, (srcX_eq hv k1 k2).1, lx x y, lx X Y]
    rw [Int.neg_mul _ x, Int.neg_mul _ X, Int.neg_mul (-(2 * a.sg * a.N * a.B)) y, Int.neg_mul (-(2 * a.sg * a.N * a.B)) Y] at h3
    exact Int.ediv_le_ediv hd (by omega)
  · obtain ⟨x, y, h1, h2, h3⟩ := lin_min (-(2 * a.sg * a.N * a.D)) (2 * a.sg * a.N * a.A) X Y x0 x1 y0 y1 hx hy
    refine ⟨x, y, h1, h2, ?_⟩
    obtain ⟨k1, k2⟩ := bd h1 h2
    rw [e2, (srcX_eq hv k1 k2).2, ly x y, ly X Y]
    exact Int.ediv_le_ediv hd (by omega)
  · obtain ⟨x, y, h1, h2, h3⟩ := lin_min (-(-(2 * a.sg * a.N * a.D))) (-(2 * a.sg * a.N * a.A)) X Y x0 x1 y0 y1 hx hy
    refine ⟨x, y, h1, h2, ?_⟩
    obtain ⟨k1, k2⟩ := bd h1 h2
    rw [e2, (srcX_eq hv k1 k2).2, ly x y, ly X Y]
    rw [Int.neg_mul (-(2 * a.sg * a.N * a.D)) x, Int.neg_mul (-(2 * a.sg * a.N * a.D)) X, Int.neg_mul _ y, Int.neg_mul _ Y] at h3
    exact Int.ediv_le_ediv hd (by omega)
/-- The source of a pixel of r lies in what Need answers. -/
theorem need_has {a : Af} (hv : a.val = true) {r : Rct.R} (b0 : -70000 ≤ r.x0) (b1 : r.x1 ≤ 70000) (b2 : -70000 ≤ r.y0) (b3 : r.y1 ≤ 70000) {X Y : Int} (hx : r.x0 ≤ X ∧ X < r.x1) (hy : r.y0 ≤ Y ∧ Y < r.y1) :
    ((a.need r).x0 ≤ a.srcX X Y ∧ a.srcX X Y < (a.need r).x1) ∧ ((a.need r).y0 ≤ a.srcY X Y ∧ a.srcY X Y < (a.need r).y1) := by
  have hh := (a.need_hull r).le
  obtain ⟨⟨x, y, h1, h2, h3⟩, ⟨x', y', h1', h2', h3'⟩, ⟨p, q, k1, k2, k3⟩, p', q', k1', k2', k3'⟩ := src_corner hv (X := X) (Y := Y) (x0 := r.x0) (x1 := r.x1 - 1) (y0 := r.y0) (y1 := r.y1 - 1) b0 (by omega) b2 (by omega) (by omega) (by omega)
  have m1 := hh _ _ ⟨x, y, h1, h2, rfl, rfl⟩
  have m2 := hh _ _ ⟨x', y', h1', h2', rfl, rfl⟩
  have m3 := hh _ _ ⟨p, q, k1, k2, rfl, rfl⟩
  have m4 := hh _ _ ⟨p', q', k1', k2', rfl, rfl⟩
  omega
/-- The pixels of r ahead of (x, y), row by row. -/
def Seen (a : Af) (r : Rct.R) (x y : Int) (u v : Int) : Prop := ∃ X Y, (r.x0 ≤ X ∧ X < r.x1) ∧ (r.y0 ≤ Y ∧ Y < r.y1) ∧ (Y < y ∨ (Y = y ∧ X < x)) ∧ u = a.srcX X Y ∧ v = a.srcY X Y
/-- What has been collected ahead of (x, y). -/
def Inv (a : Af) (r : Rct.R) (x y : Int) (R : Rct.R) : Prop := (x = r.x0 ∧ y = r.y0 ∧ R = Rct.R.zero) ∨ Hull (a.Seen r x y) R
theorem Inv.start (a : Af) (r : Rct.R) : Inv a r r.x0 r.y0 Rct.R.zero := .inl ⟨rfl, rfl, rfl⟩
theorem Inv.step {a : Af} {r : Rct.R} {x y : Int} {R : Rct.R} (h : Inv a r x y R) (hx : r.x0 ≤ x ∧ x < r.x1) (hy : r.y0 ≤ y ∧ y < r.y1) : Inv a r (x + 1) y (Rct.uni R (a.unit x y)) := by
  right
  rcases h with ⟨h1, h2, h3⟩ | h
  · rw [h3, unit, uni_zero _ (unitR_ne _ _)]
    refine Hull_iff (Hull.one _ _) fun u v => ⟨?_, ?_⟩
    · rintro ⟨e1, e2⟩; exact ⟨x, y, hx, hy, .inr ⟨rfl, by omega⟩, e1, e2⟩
    · rintro ⟨X, Y, hX, hY, hl, e1, e2⟩
      have : X = x := by omega
      have : Y = y := by omega
      subst X; subst Y; exact ⟨e1, e2⟩
  · refine Hull_iff (h.add _ _) fun u v => ⟨?_, ?_⟩
    · rintro (⟨X, Y, hX, hY, hl, e1, e2⟩ | ⟨e1, e2⟩)
      · exact ⟨X, Y, hX, hY, by omega, e1, e2⟩
      · exact ⟨x, y, hx, hy, .inr ⟨rfl, by omega⟩, e1, e2⟩
    · rintro ⟨X, Y, hX, hY, hl, e1, e2⟩
      by_cases k : Y = y ∧ X = x
      · obtain ⟨rfl, rfl⟩ := k; exact .inr ⟨e1, e2⟩
      · exact .inl ⟨X, Y, hX, hY, by omega, e1, e2⟩
theorem Inv.row {a : Af} {r : Rct.R} {y : Int} {R : Rct.R} (h : Inv a r r.x1 y R) (hx : r.x0 < r.x1) : Inv a r r.x0 (y + 1) R := by
  rcases h with ⟨h1, -, -⟩ | h
  · omega
  · refine .inr (Hull_iff h fun u v => ⟨?_, ?_⟩)
    · rintro ⟨X, Y, hX, hY, hl, e1, e2⟩; exact ⟨X, Y, hX, hY, by omega, e1, e2⟩
    · rintro ⟨X, Y, hX, hY, hl, e1, e2⟩; exact ⟨X, Y, hX, hY, by omega, e1, e2⟩
theorem Inv.done {a : Af} (hv : a.val = true) {r : Rct.R} (b0 : -70000 ≤ r.x0) (b1 : r.x1 ≤ 70000) (b2 : -70000 ≤ r.y0) (b3 : r.y1 ≤ 70000) (hx : r.x0 < r.x1) (hy : r.y0 < r.y1) {R : Rct.R} (h : Inv a r r.x0 r.y1 R) : R = a.need r := by
  rcases h with ⟨-, h1, -⟩ | h
  · omega
  · refine h.unique (a.need_hull r) ?_ ?_
    · rintro u v ⟨X, Y, hX, hY, -, rfl, rfl⟩
      exact need_has hv b0 b1 b2 b3 hX hY
    · rintro u v ⟨x, y, h1, h2, rfl, rfl⟩
      exact h.le _ _ ⟨x, y, by omega, by omega, by omega, rfl, rfl⟩
theorem uni_start (a : Af) (r : Rct.R) : Rct.uni (Rct.uni (Rct.uni (Rct.uni Rct.R.zero (a.unit r.x0 r.y0)) (a.unit (r.x1 - 1) r.y0)) (a.unit r.x0 (r.y1 - 1))) (a.unit (r.x1 - 1) (r.y1 - 1)) = a.need r := by
  rw [show Rct.uni Rct.R.zero (a.unit r.x0 r.y0) = a.unit r.x0 r.y0 from uni_zero _ (unitR_ne _ _)]; rfl
end Af
end Go.Proofs.Ytmfmnoajihiidaa
