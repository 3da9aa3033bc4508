/- The mathematics of sources: shifts, preimages, bounds. No function of the program is in sight. -/
import Derived.Test.YtmfmnoajihiidaaLP
import Derived.Test.YtmfmnoajihiidaaB2
import Derived.Test.YtmfmnoajihiidaaRb
set_option linter.unusedVariables false
namespace Go.Proofs.Ytmfmnoajihiidaa
open Go.RowKit
theorem flr_pos (x y : Int) (hy : 0 < y) (h1 : -4000000000000000000 ≤ x) (h2 : x ≤ 4000000000000000000) : Rct.flr x y = x / y := by
  obtain ⟨p, -⟩ := Rct.flr_spec x y (by omega) h1 h2
  obtain ⟨p1, p2⟩ := p hy
  exact ((Int.ediv_emod_unique hy).2 ⟨by rw [Int.mul_comm]; omega, p1, p2⟩).1.symm
theorem flr_neg (x y : Int) (hy : y < 0) (h1 : -4000000000000000000 ≤ x) (h2 : x ≤ 4000000000000000000) : Rct.flr x y = (-x) / (-y) := by
  obtain ⟨-, p, -⟩ := Rct.flr_spec x y (by omega) h1 h2
  obtain ⟨p1, p2⟩ := p hy
  exact ((Int.ediv_emod_unique (show 0 < -y by omega)).2 ⟨by rw [Int.neg_mul, Int.mul_comm]; omega, p1, p2⟩).1.symm
theorem cel_pos (x y : Int) (hy : 0 < y) (h1 : -4000000000000000000 ≤ x) (h2 : x ≤ 4000000000000000000) (n : Int) (h : x ≤ n * y) : Rct.cel x y ≤ n := by
  obtain ⟨p, -⟩ := Rct.cel_spec x y (by omega) h1 h2
  obtain ⟨p1, p2⟩ := p hy
  have : (Rct.cel x y - 1) * y < n * y := by rw [Int.sub_mul, Int.one_mul]; omega
  have := Int.lt_of_mul_lt_mul_right this (by omega)
  omega
theorem flr_ge (x y : Int) (hy : 0 < y) (h1 : -4000000000000000000 ≤ x) (h2 : x ≤ 4000000000000000000) (n : Int) (h : n * y ≤ x) : n ≤ Rct.flr x y := by
  rw [flr_pos x y hy h1 h2]
  exact (Int.le_ediv_iff_mul_le hy).2 h
namespace Af
theorem s_bd {a : Af} (h : a.val = true) {X Y : Int} (hX : -70000 ≤ X ∧ X ≤ 70000) (hY : -70000 ≤ Y ∧ Y ≤ 70000) : (-1000000000000000 ≤ a.sx X Y ∧ a.sx X Y ≤ 1000000000000000) ∧ (-1000000000000000 ≤ a.sy X Y ∧ a.sy X Y ≤ 1000000000000000) := by
  obtain ⟨h1, h2, h3, h4, h5, h6, h7, h8, h9⟩ := a.val_iff.1 h
  have hN : -4096 ≤ a.N ∧ a.N ≤ 4096 := ⟨by omega, h6⟩
  have x1 : -140001 ≤ 2 * X + 1 ∧ 2 * X + 1 ≤ 140001 := by omega
  have y1 : -140001 ≤ 2 * Y + 1 ∧ 2 * Y + 1 ≤ 140001 := by omega
  have k1 := mul_bd h5 x1
  have k2 := mul_bd h3 y1
  have k3 := mul_bd h2 y1
  have k4 := mul_bd h4 x1
  have k5 := mul_bd h3 h8
  have k6 := mul_bd h5 h7
  have k7 := mul_bd h4 h7
  have k8 := mul_bd h2 h8
  have m1 := mul_bd (a := a.N) (b := a.E * (2 * X + 1) - a.B * (2 * Y + 1)) (n := 1146888192) hN (by omega)
  have m2 := mul_bd (a := a.N) (b := a.A * (2 * Y + 1) - a.D * (2 * X + 1)) (n := 1146888192) hN (by omega)
  unfold sx sy
  omega
theorem srcX_eq {a : Af} (h : a.val = true) {X Y : Int} (hX : -70000 ≤ X ∧ X ≤ 70000) (hY : -70000 ≤ Y ∧ Y ≤ 70000) :
    a.srcX X Y = (a.sg * a.sx X Y) / (2 * (a.sg * a.det)) ∧ a.srcY X Y = (a.sg * a.sy X Y) / (2 * (a.sg * a.det)) := by
  obtain ⟨b1, b2⟩ := s_bd h hX hY
  have hd := (a.val_iff.1 h).2.2.2.2.2.2.2.2
  unfold srcX srcY sg
  split
  · rename_i hn
    rw [flr_neg _ _ (by omega) (by omega) (by omega), flr_neg _ _ (by omega) (by omega) (by omega)]
    constructor <;> congr 1 <;> omega
  · rw [flr_pos _ _ (by omega) (by omega) (by omega), flr_pos _ _ (by omega) (by omega) (by omega)]
    constructor <;> congr 1 <;> omega
theorem sx_sm (k : Int) (a : Af) (X Y : Int) : (sm k a).sx X Y = k * k * a.sx X Y ∧ (sm k a).sy X Y = k * k * a.sy X Y := by
  constructor <;> simp only [sx, sy, sm] <;> grind
/-- In lowest terms a placement has the same sources. -/
theorem src_low {a : Af} (h : a.val = true) {X Y : Int} (hX : -70000 ≤ X ∧ X ≤ 70000) (hY : -70000 ≤ Y ∧ Y ≤ 70000) : a.low.srcX X Y = a.srcX X Y ∧ a.low.srcY X Y = a.srcY X Y := by
  obtain ⟨e1, e2⟩ := srcX_eq h hX hY
  obtain ⟨f1, f2⟩ := srcX_eq (val_low h) hX hY
  have hg : 0 < (a.g : Int) := by have := g_pos (a.val_iff.1 h).1; omega
  have hs := sm_low a
  have hsg : a.low.sg = a.sg := by rw [← sg_sm hg, hs]
  have hd : a.g * a.g * a.low.det = a.det := by rw [← det_sm, hs]
  obtain ⟨x1, x2⟩ := sx_sm a.g a.low X Y
  rw [hs] at x1 x2
  rw [e1, e2, f1, f2, hsg, x1, x2, ← hd]
  have hgg := Int.mul_pos hg hg
  constructor
  · rw [show a.sg * (a.g * a.g * a.low.sx X Y) = (a.g * a.g) * (a.sg * a.low.sx X Y) by grind, show 2 * (a.sg * (a.g * a.g * a.low.det)) = (a.g * a.g) * (2 * (a.sg * a.low.det)) by grind, Int.mul_ediv_mul_of_pos _ _ hgg]
  · rw [show a.sg * (a.g * a.g * a.low.sy X Y) = (a.g * a.g) * (a.sg * a.low.sy X Y) by grind, show 2 * (a.sg * (a.g * a.g * a.low.det)) = (a.g * a.g) * (2 * (a.sg * a.low.det)) by grind, Int.mul_ediv_mul_of_pos _ _ hgg]
theorem src_fst {a : Af} {X Y : Int} (h : (a.src X Y).2 = 0) : a.val = true ∧ Rct.has ⟨-65536, -65536, 65536, 65536⟩ X Y = true ∧ (a.src X Y).1 = (a.srcX X Y, a.srcY X Y) := by
  unfold src at h ⊢
  split at h
  · rename_i k; simp only [Bool.and_eq_true] at k; exact ⟨k.1, k.2, by rw [k.1, k.2]; rfl⟩
  · exact absurd h (by simp)
theorem src_ok {a : Af} {X Y : Int} (hv : a.val = true) (hX : -65536 ≤ X ∧ X < 65536) (hY : -65536 ≤ Y ∧ Y < 65536) : a.src X Y = ((a.srcX X Y, a.srcY X Y), 0) := by
  unfold src Rct.has
  simp [hv, hX, hY]
/-- **Shifts.** -/
theorem shifts {a : Af} (h : (-4 ≤ a.A ∧ a.A ≤ 4) ∧ (-4 ≤ a.B ∧ a.B ≤ 4) ∧ (-20 ≤ a.C ∧ a.C ≤ 20) ∧ (-4 ≤ a.D ∧ a.D ≤ 4) ∧ (-4 ≤ a.E ∧ a.E ≤ 4) ∧ (-20 ≤ a.F ∧ a.F ≤ 20) ∧ (1 ≤ a.N ∧ a.N ≤ 4) ∧ a.det ≠ 0) {x y X Y : Int}
    (hx : -1000 ≤ x ∧ x ≤ 1000) (hy : -1000 ≤ y ∧ y ≤ 1000) (hX : -1000 ≤ X ∧ X ≤ 1000) (hY : -1000 ≤ Y ∧ Y ≤ 1000) :
    (thn a (sh x y)).2 = 0 ∧ (a.src X Y).2 = 0 ∧ ((thn a (sh x y)).1.src (X + x) (Y + y)).2 = 0 ∧ ((thn a (sh x y)).1.src (X + x) (Y + y)).1 = (a.src X Y).1 := by
  obtain ⟨h1, h2, h3, h4, h5, h6, h7, h8⟩ := h
  have hv : a.val = true := a.val_iff.2 ⟨h7.1, by omega, by omega, by omega, by omega, by omega, by omega, by omega, h8⟩
  have hs : (sh x y).val = true := (sh x y).val_iff.2 ⟨by simp [sh], by simp [sh], by simp [sh], by simp [sh], by simp [sh], by simp [sh], by show -268435456 ≤ x ∧ x ≤ 268435456; omega, by show -268435456 ≤ y ∧ y ≤ 268435456; omega, by show (1 : Int) * 1 - 0 * 0 ≠ 0; omega⟩
  have e : mul a (sh x y) = ⟨a.A, a.B, a.C + x * a.N, a.D, a.E, a.F + y * a.N, a.N⟩ := by
    apply ext <;> simp [mul, sh]
  have k1 := mul_bd (b := a.N) (n := 4) hx (by omega)
  have k2 := mul_bd (b := a.N) (n := 4) hy (by omega)
  have hm : (mul a (sh x y)).val = true := by
    rw [e]
    exact (val_iff _).2 ⟨h7.1, by show -4096 ≤ a.A ∧ a.A ≤ 4096; omega, by show -4096 ≤ a.B ∧ a.B ≤ 4096; omega, by show -4096 ≤ a.D ∧ a.D ≤ 4096; omega, by show -4096 ≤ a.E ∧ a.E ≤ 4096; omega, by show a.N ≤ 4096; omega, by show -268435456 ≤ a.C + x * a.N ∧ a.C + x * a.N ≤ 268435456; omega, by show -268435456 ≤ a.F + y * a.N ∧ a.F + y * a.N ≤ 268435456; omega, h8⟩
  have ht : thn a (sh x y) = ((mul a (sh x y)).low, 0) := by
    unfold thn; rw [hv, hs]; exact chk_val hm
  rw [ht, src_ok hv (by omega) (by omega), src_ok (val_low hm) (by omega) (by omega)]
  refine ⟨rfl, rfl, rfl, ?_⟩
  obtain ⟨l1, l2⟩ := src_low hm (X := X + x) (Y := Y + y) (by omega) (by omega)
  have p1 : (mul a (sh x y)).srcX (X + x) (Y + y) = a.srcX X Y := by
    rw [e]; unfold srcX sx det; congr 1; grind
  have p2 : (mul a (sh x y)).srcY (X + x) (Y + y) = a.srcY X Y := by
    rw [e]; unfold srcY sy det; congr 1; grind
  show ((mul a (sh x y)).low.srcX (X + x) (Y + y), (mul a (sh x y)).low.srcY (X + x) (Y + y)) = _
  rw [l1, l2, p1, p2]
/-- **Preimages.** -/
theorem preimage {a : Af} (h : a.val = true) {X Y : Int} (hX : -70000 ≤ X ∧ X ≤ 70000) (hY : -70000 ≤ Y ∧ Y ≤ 70000) :
    (2 * (a.sg * a.det) * a.srcX X Y ≤ a.sg * a.sx X Y ∧ a.sg * a.sx X Y < 2 * (a.sg * a.det) * (a.srcX X Y + 1)) ∧ (2 * (a.sg * a.det) * a.srcY X Y ≤ a.sg * a.sy X Y ∧ a.sg * a.sy X Y < 2 * (a.sg * a.det) * (a.srcY X Y + 1)) := by
  obtain ⟨e1, e2⟩ := srcX_eq h hX hY
  have hd : 0 < 2 * (a.sg * a.det) := by have := sg_det (a.val_iff.1 h).2.2.2.2.2.2.2.2; omega
  rw [e1, e2]
  generalize 2 * (a.sg * a.det) = d at *
  refine ⟨⟨Int.mul_ediv_self_le (by omega), ?_⟩, Int.mul_ediv_self_le (by omega), ?_⟩ <;> (rw [Int.mul_add, Int.mul_one]; exact Int.lt_mul_ediv_self_add hd)
end Af
/-! ### Bounds -/
theorem mn_le (a b : Int) : Rct.mn a b ≤ a ∧ Rct.mn a b ≤ b := by unfold Rct.mn; split <;> omega
theorem le_mx (a b : Int) : a ≤ Rct.mx a b ∧ b ≤ Rct.mx a b := by unfold Rct.mx; split <;> omega
/-- A linear function at a point of a rectangle lies between its values at the corners. -/
theorem lin_corners (A B d u v x0 x1 y0 y1 m M : Int) (hd : 0 ≤ d) (hx : d * x0 ≤ u ∧ u ≤ d * x1) (hy : d * y0 ≤ v ∧ v ≤ d * y1)
    (h : ∀ x, x = x0 ∨ x = x1 → ∀ y, y = y0 ∨ y = y1 → m ≤ A * x + B * y ∧ A * x + B * y ≤ M) : d * m ≤ A * u + B * v ∧ A * u + B * v ≤ d * M := by
  have key : ∀ (C s t : Int) (r : Int), d * s ≤ r → r ≤ d * t → (∃ p, (p = s ∨ p = t) ∧ d * (C * p) ≤ C * r) ∧ (∃ p, (p = s ∨ p = t) ∧ C * r ≤ d * (C * p)) := by
    intro C s t r h1 h2
    by_cases hC : 0 ≤ C
    · refine ⟨⟨s, .inl rfl, ?_⟩, ⟨t, .inr rfl, ?_⟩⟩
      · rw [show d * (C * s) = C * (d * s) by grind]; exact Int.mul_le_mul_of_nonneg_left h1 hC
      · rw [show d * (C * t) = C * (d * t) by grind]; exact Int.mul_le_mul_of_nonneg_left h2 hC
    · refine ⟨⟨t, .inr rfl, ?_⟩, ⟨s, .inl rfl, ?_⟩⟩
      · rw [show d * (C * t) = C * (d * t) by grind]; exact Int.mul_le_mul_of_nonpos_left (by omega) h2
      · rw [show d * (C * s) = C * (d * s) by grind]; exact Int.mul_le_mul_of_nonpos_left (by omega) h1
  obtain ⟨⟨p, hp, p1⟩, ⟨q, hq, q1⟩⟩ := key A x0 x1 u hx.1 hx.2
  obtain ⟨⟨p', hp', p2⟩, ⟨q', hq', q2⟩⟩ := key B y0 y1 v hy.1 hy.2
  have a1 := Int.mul_le_mul_of_nonneg_left (h p hp p' hp').1 hd
  have a2 := Int.mul_le_mul_of_nonneg_left (h q hq q' hq').2 hd
  rw [Int.mul_add] at a1 a2
  omega
namespace Af
theorem box_le (a : Af) (r : Rct.R) : ∀ x, x = r.x0 ∨ x = r.x1 → ∀ y, y = r.y0 ∨ y = r.y1 → (a.lox r ≤ a.bx x y ∧ a.bx x y ≤ a.hix r) ∧ (a.loy r ≤ a.bY x y ∧ a.bY x y ≤ a.hiy r) := by
  intro x hx y hy
  unfold lox loy hix hiy
  generalize hp : a.bx r.x0 r.y0 = p; generalize hq : a.bx r.x1 r.y0 = q; generalize hs : a.bx r.x0 r.y1 = s; generalize ht : a.bx r.x1 r.y1 = t
  generalize hp' : a.bY r.x0 r.y0 = p'; generalize hq' : a.bY r.x1 r.y0 = q'; generalize hs' : a.bY r.x0 r.y1 = s'; generalize ht' : a.bY r.x1 r.y1 = t'
  have a1 := mn_le p q; have a2 := mn_le (Rct.mn p q) s; have a3 := mn_le (Rct.mn (Rct.mn p q) s) t
  have b1 := le_mx p q; have b2 := le_mx (Rct.mx p q) s; have b3 := le_mx (Rct.mx (Rct.mx p q) s) t
  have c1 := mn_le p' q'; have c2 := mn_le (Rct.mn p' q') s'; have c3 := mn_le (Rct.mn (Rct.mn p' q') s') t'
  have d1 := le_mx p' q'; have d2 := le_mx (Rct.mx p' q') s'; have d3 := le_mx (Rct.mx (Rct.mx p' q') s') t'
  rcases hx with rfl | rfl <;> rcases hy with rfl | rfl <;> constructor <;> constructor <;> omega
theorem lo_bd {a : Af} (h : a.val = true) {r : Rct.R} (hb : (-70000 ≤ r.x0 ∧ r.x0 ≤ 70000) ∧ (-70000 ≤ r.y0 ∧ r.y0 ≤ 70000) ∧ (-70000 ≤ r.x1 ∧ r.x1 ≤ 70000) ∧ (-70000 ≤ r.y1 ∧ r.y1 ≤ 70000)) :
    (-1000000000 ≤ a.lox r ∧ a.lox r ≤ 1000000000) ∧ (-1000000000 ≤ a.hix r ∧ a.hix r ≤ 1000000000) ∧ (-1000000000 ≤ a.loy r ∧ a.loy r ≤ 1000000000) ∧ (-1000000000 ≤ a.hiy r ∧ a.hiy r ≤ 1000000000) := by
  obtain ⟨b0, b1, b2, b3⟩ := hb
  have k1 := b_bd h b0 b1; have k2 := b_bd h b2 b1; have k3 := b_bd h b0 b3; have k4 := b_bd h b2 b3
  unfold lox loy hix hiy Rct.mn Rct.mx
  refine ⟨?_, ?_, ?_, ?_⟩ <;> (repeat' split) <;> omega
theorem back (a : Af) (X Y : Int) : a.A * a.sx X Y + a.B * a.sy X Y = a.det * (a.N * (2 * X + 1) - 2 * a.C) ∧ a.D * a.sx X Y + a.E * a.sy X Y = a.det * (a.N * (2 * Y + 1) - 2 * a.F) := by
  constructor <;> simp only [sx, sy, det] <;> grind
/-- **Bounds.** -/
theorem bounds {a : Af} (hv : a.val = true) {r : Rct.R} (hr : Rct.valid r = true) {X Y : Int} (hX : -65536 ≤ X ∧ X < 65536) (hY : -65536 ≤ Y ∧ Y < 65536)
    (hh : Rct.has r (a.srcX X Y) (a.srcY X Y) = true) : Rct.has (a.bnd r) X Y = true := by
  unfold Rct.has at hh
  simp only [Bool.and_eq_true, decide_eq_true_eq] at hh
  obtain ⟨⟨⟨h1, h2⟩, h3⟩, h4⟩ := hh
  have he : Rct.emp r = false := by unfold Rct.emp; simp; omega
  have hb := r_bd he hr
  obtain ⟨⟨p1, p2⟩, p3, p4⟩ := preimage hv (X := X) (Y := Y) (by omega) (by omega)
  have hN := (a.val_iff.1 hv).1
  have hN2 : a.N ≤ 4096 := (a.val_iff.1 hv).2.2.2.2.2.1
  have hd := sg_det (a.val_iff.1 hv).2.2.2.2.2.2.2.2
  obtain ⟨k1, k2⟩ := back a X Y
  have e1 : a.A * (a.sg * a.sx X Y) + a.B * (a.sg * a.sy X Y) = (a.sg * a.det) * (a.N * (2 * X + 1) - 2 * a.C) := by
    rw [show a.A * (a.sg * a.sx X Y) + a.B * (a.sg * a.sy X Y) = a.sg * (a.A * a.sx X Y + a.B * a.sy X Y) by grind, k1]; grind
  have e2 : a.D * (a.sg * a.sx X Y) + a.E * (a.sg * a.sy X Y) = (a.sg * a.det) * (a.N * (2 * Y + 1) - 2 * a.F) := by
    rw [show a.D * (a.sg * a.sx X Y) + a.E * (a.sg * a.sy X Y) = a.sg * (a.D * a.sx X Y + a.E * a.sy X Y) by grind, k2]; grind
  have bl := box_le a r
  obtain ⟨l1, l2, l3, l4⟩ := lo_bd hv hb
  generalize hdd : a.sg * a.det = d at *
  generalize a.sg * a.sx X Y = u at *
  generalize a.sg * a.sy X Y = v at *
  have m0 : ∀ {s t : Int}, s ≤ t → 2 * d * s ≤ 2 * d * t := fun h => Int.mul_le_mul_of_nonneg_left h (by omega)
  have hux : 2 * d * r.x0 ≤ u ∧ u ≤ 2 * d * r.x1 := ⟨Int.le_trans (m0 h1) p1, Int.le_trans (Int.le_of_lt p2) (m0 (by omega))⟩
  have hvy : 2 * d * r.y0 ≤ v ∧ v ≤ 2 * d * r.y1 := ⟨Int.le_trans (m0 h3) p3, Int.le_trans (Int.le_of_lt p4) (m0 (by omega))⟩
  have q1 := lin_corners a.A a.B (2 * d) u v r.x0 r.x1 r.y0 r.y1 (a.lox r - a.C) (a.hix r - a.C) (by omega) hux hvy (fun x hx y hy => by have := (bl x hx y hy).1; unfold bx at this; omega)
  have q2 := lin_corners a.D a.E (2 * d) u v r.x0 r.x1 r.y0 r.y1 (a.loy r - a.F) (a.hiy r - a.F) (by omega) hux hvy (fun x hx y hy => by have := (bl x hx y hy).2; unfold bY at this; omega)
  rw [e1, show 2 * d * (a.lox r - a.C) = d * (2 * a.lox r - 2 * a.C) by grind, show 2 * d * (a.hix r - a.C) = d * (2 * a.hix r - 2 * a.C) by grind] at q1
  rw [e2, show 2 * d * (a.loy r - a.F) = d * (2 * a.loy r - 2 * a.F) by grind, show 2 * d * (a.hiy r - a.F) = d * (2 * a.hiy r - 2 * a.F) by grind] at q2
  have t1 := Int.le_of_mul_le_mul_left q1.1 hd
  have t2 := Int.le_of_mul_le_mul_left q1.2 hd
  have t3 := Int.le_of_mul_le_mul_left q2.1 hd
  have t4 := Int.le_of_mul_le_mul_left q2.2 hd
  have n1 : a.N * (2 * X + 1) = X * (2 * a.N) + a.N := by grind
  have n2 : a.N * (2 * Y + 1) = Y * (2 * a.N) + a.N := by grind
  have c1 := cel_pos (2 * a.lox r - a.N) (2 * a.N) (by omega) (by omega) (by omega) X (by omega)
  have c2 := cel_pos (2 * a.loy r - a.N) (2 * a.N) (by omega) (by omega) (by omega) Y (by omega)
  have c3 := flr_ge (2 * a.hix r - a.N) (2 * a.N) (by omega) (by omega) (by omega) X (by omega)
  have c4 := flr_ge (2 * a.hiy r - a.N) (2 * a.N) (by omega) (by omega) (by omega) Y (by omega)
  unfold bnd Rct.inter Rct.nrm
  generalize Rct.cel (2 * a.lox r - a.N) (2 * a.N) = g1 at *
  generalize Rct.cel (2 * a.loy r - a.N) (2 * a.N) = g2 at *
  generalize Rct.flr (2 * a.hix r - a.N) (2 * a.N) = g3 at *
  generalize Rct.flr (2 * a.hiy r - a.N) (2 * a.N) = g4 at *
  have w1 : Rct.mx g1 (-65536) ≤ X := by unfold Rct.mx; split <;> omega
  have w2 : Rct.mx g2 (-65536) ≤ Y := by unfold Rct.mx; split <;> omega
  have w3 : X < Rct.mn (g3 + 1) 65536 := by unfold Rct.mn; split <;> omega
  have w4 : Y < Rct.mn (g4 + 1) 65536 := by unfold Rct.mn; split <;> omega
  have hem : Rct.emp ⟨Rct.mx g1 (-65536), Rct.mx g2 (-65536), Rct.mn (g3 + 1) 65536, Rct.mn (g4 + 1) 65536⟩ = false := by
    unfold Rct.emp; simp; omega
  rw [hem]
  unfold Rct.has
  simp [w1, w2, w3, w4]
end Af
theorem smallR_valid (q0 q1 q2 q3 : Int) : (-20 ≤ (Rct.smallR q0 q1 q2 q3).x0 ∧ (Rct.smallR q0 q1 q2 q3).x0 ≤ 19) ∧ (-20 ≤ (Rct.smallR q0 q1 q2 q3).y0 ∧ (Rct.smallR q0 q1 q2 q3).y0 ≤ 19) ∧ ((Rct.smallR q0 q1 q2 q3).x0 ≤ (Rct.smallR q0 q1 q2 q3).x1 ∧ (Rct.smallR q0 q1 q2 q3).x1 ≤ 58) ∧ ((Rct.smallR q0 q1 q2 q3).y0 ≤ (Rct.smallR q0 q1 q2 q3).y1 ∧ (Rct.smallR q0 q1 q2 q3).y1 ≤ 58) := by
  have b0 := rst_bd q0 40 (by omega) (by omega)
  have b1 := rst_bd q1 40 (by omega) (by omega)
  have b2 := rst_bd q2 40 (by omega) (by omega)
  have b3 := rst_bd q3 40 (by omega) (by omega)
  unfold Rct.smallR
  simp only [Rct.wr _ (show -9000000000000000000 ≤ Rct.rst q0 40 - 20 by omega) (by omega), Rct.wr _ (show -9000000000000000000 ≤ Rct.rst q1 40 - 20 by omega) (by omega), Rct.wr _ (show -9000000000000000000 ≤ Rct.rst q0 40 - 20 + Rct.rst q2 40 by omega) (by omega), Rct.wr _ (show -9000000000000000000 ≤ Rct.rst q1 40 - 20 + Rct.rst q3 40 by omega) (by omega)]
  omega
/-- What Bounds answers for a small rectangle. -/
theorem ovr_small {a : Af} (hv : a.val = true) {r : Rct.R} (h : (-20 ≤ r.x0 ∧ r.x0 ≤ 19) ∧ (-20 ≤ r.y0 ∧ r.y0 ≤ 19) ∧ (r.x0 ≤ r.x1 ∧ r.x1 ≤ 58) ∧ (r.y0 ≤ r.y1 ∧ r.y1 ≤ 58)) (q : Rct.R) : (ovr a r q).2 = 0 ∧ (Rct.emp r = false → Rct.valid r = true ∧ ovr a r q = (q, 0)) ∧ (Rct.emp r = true → ovr a r q = (Rct.R.zero, 0)) := by
  have hv2 : Rct.emp r = false → Rct.valid r = true := by
    intro he; unfold Rct.valid; rw [he]; simp; omega
  unfold ovr
  rw [if_pos hv]
  cases he : Rct.emp r with
  | true => simp
  | false => rw [hv2 he]; simp
end Go.Proofs.Ytmfmnoajihiidaa
