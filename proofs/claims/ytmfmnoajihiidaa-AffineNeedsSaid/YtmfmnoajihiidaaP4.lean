/- Walk of Bounds' callback: two appends. Printed by genP4.py. -/
import Derived.Test.YtmfmnoajihiidaaP3
set_option linter.unusedVariables false
namespace Go.Proofs.Ytmfmnoajihiidaa
open Go.RowKit
def ivl (l : List Int) : List Value := l.map (Value.int .i64)
theorem ivl_len (l : List Int) : (ivl l).length = l.length := by simp [ivl]
theorem ivl_snoc (l : List Int) (z : Int) : ivl (l ++ [z]) = ivl l ++ [.int .i64 z] := by simp [ivl]
namespace Af
def bx (a : Af) (X Y : Int) : Int := a.A * X + a.B * Y + a.C
def bY (a : Af) (X Y : Int) : Int := a.D * X + a.E * Y + a.F
end Af
/-- The two rows while Bounds walks the corners. -/
structure Bw (B ba b1 b2 R : Nat) (a : Af) (w0 : World) (lx ly : List Int) (x : World) : Prop where
  bel : Below B w0 x
  ar : x.heap[ba]? = some (.cells #[.int .i64 a.A, .int .i64 a.B, .int .i64 a.C, .int .i64 a.D, .int .i64 a.E, .int .i64 a.F, .int .i64 a.N] 23 (0, 0))
  ex : ∃ v1 v2, x.heap[b1]? = some (.cells #[v1] 83 (0, 0)) ∧ x.heap[b2]? = some (.cells #[v2] 83 (0, 0)) ∧ x.ownsRow R 3 1 v1 lx.length (ivl lx) ∧ x.ownsRow R 3 1 v2 ly.length (ivl ly) ∧ ∀ k, v1.ownBlock = some k → v2.ownBlock ≠ some k
  lt : ba < B ∧ B ≤ b1 ∧ B ≤ b2 ∧ b1 ≠ b2 ∧ b1 < R ∧ b2 < R ∧ R ≤ x.heap.size
theorem Grow.grownBy {x y : World} (h : Grow x y) (row : Option Nat) : x.grownBy y row := ⟨h.os, h.tape, h.output, Grow.size h, fun k hk _ => Below.block h k hk⟩
theorem Bw.grow {B ba b1 b2 R a w0 lx ly x y} (h : Bw B ba b1 b2 R a w0 lx ly x) (g : Grow x y) : Bw B ba b1 b2 R a w0 lx ly y := by
  obtain ⟨l1, l2, l3, l4, l5, l6, l7⟩ := h.lt
  obtain ⟨v1, v2, e1, e2, o1, o2, dj⟩ := h.ex
  have kp : ∀ {v : Value} {n : Nat} {xs : List Value}, x.ownsRow R 3 1 v n xs → y.ownsRow R 3 1 v n xs := fun {v n xs} ho => ho.kept (g.grownBy none) (by cases hc : v.ownBlock with | none => exact .inl rfl | some k => exact .inr (by simp))
  exact ⟨Below.trans h.bel (Below.mono g (by omega)), g.block h.ar, ⟨v1, v2, g.block e1, g.block e2, kp o1, kp o2, dj⟩, l1, l2, l3, l4, l5, l6, Nat.le_trans l7 (Grow.size g)⟩
set_option maxRecDepth 100000 in
set_option maxHeartbeats 4000000 in
theorem push_any (B ba b1 b2 R : Nat) (a : Af) (hv : a.val = true) (w0 : World) (lx ly : List Int) (hl : lx.length ≤ 50 ∧ ly.length ≤ 50) (X Y : Int) (hX : -70000 ≤ X ∧ X ≤ 70000) (hY : -70000 ≤ Y ∧ Y ≤ 70000) (x : World) (h : Bw B ba b1 b2 R a w0 lx ly x) :
    Calls Try.prog 51 #[.agg #[.int .i64 X, .int .i64 Y], .pointer (some ⟨b1, 0, none⟩), .pointer (some ⟨ba, 0, none⟩), .pointer (some ⟨b2, 0, none⟩)] x fun e x' => e = .returned (.tuple #[]) ∧ Bw B ba b1 b2 R a w0 (lx ++ [a.bx X Y]) (ly ++ [a.bY X Y]) x' := by
  obtain ⟨p1, p2, p3, p4, p5, p6, p7, p8, -⟩ := a.val_iff.1 hv
  have m0 : -(4096 * 70000) ≤ (a.A) * (X) ∧ (a.A) * (X) ≤ 4096 * 70000 := Af.mul_bd (by omega) (by omega)
  have e0 : IntKind.i64.wrap (a.A * X) = a.A * X := w64 _ (by omega) (by omega)
  have m1 : -(4096 * 70000) ≤ (a.B) * (Y) ∧ (a.B) * (Y) ≤ 4096 * 70000 := Af.mul_bd (by omega) (by omega)
  have e1 : IntKind.i64.wrap (a.B * Y) = a.B * Y := w64 _ (by omega) (by omega)
  have e2 : IntKind.i64.wrap (a.A * X + a.B * Y) = a.A * X + a.B * Y := w64 _ (by omega) (by omega)
  have e3 : IntKind.i64.wrap (a.A * X + a.B * Y + a.C) = a.A * X + a.B * Y + a.C := w64 _ (by omega) (by omega)
  have m4 : -(4096 * 70000) ≤ (a.D) * (X) ∧ (a.D) * (X) ≤ 4096 * 70000 := Af.mul_bd (by omega) (by omega)
  have e4 : IntKind.i64.wrap (a.D * X) = a.D * X := w64 _ (by omega) (by omega)
  have m5 : -(4096 * 70000) ≤ (a.E) * (Y) ∧ (a.E) * (Y) ≤ 4096 * 70000 := Af.mul_bd (by omega) (by omega)
  have e5 : IntKind.i64.wrap (a.E * Y) = a.E * Y := w64 _ (by omega) (by omega)
  have e6 : IntKind.i64.wrap (a.D * X + a.E * Y) = a.D * X + a.E * Y := w64 _ (by omega) (by omega)
  have e7 : IntKind.i64.wrap (a.D * X + a.E * Y + a.F) = a.D * X + a.E * Y + a.F := w64 _ (by omega) (by omega)
  clear m0 m1 m4 m5 p1 p2 p3 p4 p5 p6 p7 p8 hX hY hv
  obtain ⟨hbel, ra0, ⟨v1, v2, r1, r2, o1, o2, dj⟩, hlt⟩ := h
  have ra1 := Lib.hid ra0
  have hall := Lib.hid (And.intro hbel (And.intro r1 (And.intro r2 (And.intro o1 (And.intro o2 (And.intro dj (And.intro hlt hl)))))))
  clear hbel ra0 r1 r2 o1 o2 dj hlt hl
  have hbx : a.bx X Y = a.A * X + a.B * Y + a.C := rfl
  have hbY : a.bY X Y = a.D * X + a.E * Y + a.F := rfl
  rw [hbx, hbY]
  clear hbx hbY
  go_enter Try.func51, Try.ntmps51
  go_upto_region 1 with fail
  obtain ⟨hbel, r1, r2, o1, o2, dj, hlt, hl⟩ := hall.out
  have rp0 : (x.alloc (.cells #[.int .i64 X, .int .i64 Y] 41)).drew.heap[x.heap.size]? = some (.cells #[.int .i64 X, .int .i64 Y] 41 (0, 0)) := heap_alloc_new _ _
  have gA := Grow.alloc x (.cells #[.int .i64 X, .int .i64 Y] 41)
  have ra0 : (x.alloc (.cells #[.int .i64 X, .int .i64 Y] 41)).drew.heap[ba]? = some (.cells #[.int .i64 a.A, .int .i64 a.B, .int .i64 a.C, .int .i64 a.D, .int .i64 a.E, .int .i64 a.F, .int .i64 a.N] 23 (0, 0)) := gA.block ra1.out
  have kp : ∀ {v : Value} {n : Nat} {xs : List Value}, x.ownsRow R 3 1 v n xs → (x.alloc (.cells #[.int .i64 X, .int .i64 Y] 41)).drew.ownsRow R 3 1 v n xs := fun {v n xs} ho => ho.kept (gA.d.grownBy none) (by cases hc : v.ownBlock with | none => exact .inl rfl | some k => exact .inr (by simp))
  have r1' : (x.alloc (.cells #[.int .i64 X, .int .i64 Y] 41)).drew.heap[b1]? = some (.cells #[v1] 83 (0, 0)) := gA.block r1
  have r2' : (x.alloc (.cells #[.int .i64 X, .int .i64 Y] 41)).drew.heap[b2]? = some (.cells #[v2] 83 (0, 0)) := gA.block r2
  have ol1 := o1.lt
  have ol2 := o2.lt
  refine wp_region_two ?lit ?hlit (by kernel_rfl) (by kernel_rfl) (by kernel_rfl) (by kernel_rfl) rfl (fun ii => ([(v1), (.pointer (some ⟨ba, 0, none⟩)), (.int .i64 (a.A)), (.pointer (some ⟨x.heap.size, 0, none⟩)), (.int .i64 (X)), (.int .i64 (a.A * X)), (.pointer (some ⟨ba, 1, none⟩)), (.int .i64 (a.B)), (.pointer (some ⟨x.heap.size, 1, none⟩)), (.int .i64 (Y)), (.int .i64 (a.B * Y)), (.int .i64 (a.A * X + a.B * Y)), (.pointer (some ⟨ba, 2, none⟩)), (.int .i64 (a.C)), (.int .i64 (a.A * X + a.B * Y + a.C)), (undef), (undef), (v2), (.pointer (some ⟨ba, 3, none⟩)), (.int .i64 (a.D)), (.pointer (some ⟨x.heap.size, 0, none⟩)), (.int .i64 (X)), (.int .i64 (a.D * X)), (.pointer (some ⟨ba, 4, none⟩)), (.int .i64 (a.E)), (.pointer (some ⟨x.heap.size, 1, none⟩)), (.int .i64 (Y)), (.int .i64 (a.E * Y)), (.int .i64 (a.D * X + a.E * Y)), (.pointer (some ⟨ba, 5, none⟩)), (.int .i64 (a.F)), (.int .i64 (a.D * X + a.E * Y + a.F)), (undef), (undef), (undef), (undef)] : List Value).getD ii undef) (fun k => k < B ∨ k = x.heap.size) R b1 v1 (ivl lx) (.int .i64 (a.A * X + a.B * Y + a.C)) b2 v2 (ivl ly) (.int .i64 (a.D * X + a.E * Y + a.F)) rfl rfl (by rw [ivl_len]; omega) (by rw [ivl_len]; omega) infoI und83 ?_ ?_ ?_ ?_ ?_ ?_ ?_ ?_ ?_
  case hlit =>
    intro uu
    simp only [fill, Act.put, Nat.zero_add, Nat.reduceAdd, List.setIfInBounds_toArray, List.set_cons_zero, List.set_cons_succ]
    rfl
  · intro p q r s
    refine ⟨.inl ⟨rfl, rfl, rfl, Nat.le_refl _, fun _ _ _ => rfl⟩, ⟨r1', ?_, fun q => absurd q (by simp), fun q => absurd q (by simp), fun q => absurd q (by simp)⟩, ⟨r2', ?_, fun q => absurd q (by simp), fun q => absurd q (by simp), fun q => absurd q (by simp)⟩, dj, fun q => absurd q (by simp), fun q => absurd q (by simp), ?_, hlt.2.2.2.1, hlt.2.2.2.2.1, hlt.2.2.2.2.2.1, ?_⟩
    · have := kp o1; simpa [cur, ivl_len] using this
    · have := kp o2; simpa [cur, ivl_len] using this
    · intro k hk
      have hsz : (x.alloc (.cells #[.int .i64 X, .int .i64 Y] 41)).drew.heap.size = x.heap.size + 1 := by simp
      rw [hsz]
      have hk1 : ∀ v : Value, (∀ k, v.ownBlock = some k → R ≤ k ∧ k < x.heap.size) → v.ownBlock ≠ some k := fun v hv he => by have := hv k he; omega
      exact ⟨by omega, by omega, by omega, hk1 _ ol1, hk1 _ ol2⟩
    · have hsz : (x.alloc (.cells #[.int .i64 X, .int .i64 Y] 41)).drew.heap.size = x.heap.size + 1 := by simp
      rw [hsz]; omega
  · intro ii oo ho hs u y hP hb1 hb2 hd
    have ra := (hP ba (.inl hlt.1)).trans ra0
    have rp := (hP x.heap.size (.inr rfl)).trans rp0
    have hi : ii < 36 := (List.getElem?_eq_some_iff.1 ho).1
    obtain rfl | rfl | rfl | rfl | rfl | rfl | rfl | rfl | rfl | rfl | rfl | rfl | rfl | rfl | rfl | rfl | rfl | rfl | rfl | rfl | rfl | rfl | rfl | rfl | rfl | rfl | rfl | rfl | rfl | rfl | rfl | rfl | rfl | rfl | rfl | rfl : ii = 0 ∨ ii = 1 ∨ ii = 2 ∨ ii = 3 ∨ ii = 4 ∨ ii = 5 ∨ ii = 6 ∨ ii = 7 ∨ ii = 8 ∨ ii = 9 ∨ ii = 10 ∨ ii = 11 ∨ ii = 12 ∨ ii = 13 ∨ ii = 14 ∨ ii = 15 ∨ ii = 16 ∨ ii = 17 ∨ ii = 18 ∨ ii = 19 ∨ ii = 20 ∨ ii = 21 ∨ ii = 22 ∨ ii = 23 ∨ ii = 24 ∨ ii = 25 ∨ ii = 26 ∨ ii = 27 ∨ ii = 28 ∨ ii = 29 ∨ ii = 30 ∨ ii = 31 ∨ ii = 32 ∨ ii = 33 ∨ ii = 34 ∨ ii = 35 := by omega
    · simp only [List.getElem?_cons_zero, Option.some.injEq] at ho; subst ho
      exact run_ld83 _ _ rfl rfl (hb1 rfl)
    · simp only [List.getElem?_cons_succ, List.getElem?_cons_zero, Option.some.injEq] at ho; subst ho
      exact run_fa23 _ 0 rfl (by omega) rfl
    · simp only [List.getElem?_cons_succ, List.getElem?_cons_zero, Option.some.injEq] at ho; subst ho
      have q1 : u 1 = (.pointer (some ⟨ba, 0, none⟩)) := hd 1 (by kernel_rfl) rfl
      exact run_ld3 _ _ rfl q1 (by rw [cell_of_row y _ 0 _ _ _ ra]; rfl)
    · simp only [List.getElem?_cons_succ, List.getElem?_cons_zero, Option.some.injEq] at ho; subst ho
      exact run_fa41 _ 0 rfl (by omega) rfl
    · simp only [List.getElem?_cons_succ, List.getElem?_cons_zero, Option.some.injEq] at ho; subst ho
      have q1 : u 3 = (.pointer (some ⟨x.heap.size, 0, none⟩)) := hd 3 (by kernel_rfl) rfl
      exact run_ld3 _ _ rfl q1 (by rw [cell_of_row y _ 0 _ _ _ rp]; rfl)
    · simp only [List.getElem?_cons_succ, List.getElem?_cons_zero, Option.some.injEq] at ho; subst ho
      have q1 : u 2 = (.int .i64 (a.A)) := hd 2 (by kernel_rfl) rfl
      have q2 : u 4 = (.int .i64 (X)) := hd 4 (by kernel_rfl) rfl
      exact run_mul _ _ rfl q1 q2 e0
    · simp only [List.getElem?_cons_succ, List.getElem?_cons_zero, Option.some.injEq] at ho; subst ho
      exact run_fa23 _ 1 rfl (by omega) rfl
    · simp only [List.getElem?_cons_succ, List.getElem?_cons_zero, Option.some.injEq] at ho; subst ho
      have q1 : u 6 = (.pointer (some ⟨ba, 1, none⟩)) := hd 6 (by kernel_rfl) rfl
      exact run_ld3 _ _ rfl q1 (by rw [cell_of_row y _ 1 _ _ _ ra]; rfl)
    · simp only [List.getElem?_cons_succ, List.getElem?_cons_zero, Option.some.injEq] at ho; subst ho
      exact run_fa41 _ 1 rfl (by omega) rfl
    · simp only [List.getElem?_cons_succ, List.getElem?_cons_zero, Option.some.injEq] at ho; subst ho
      have q1 : u 8 = (.pointer (some ⟨x.heap.size, 1, none⟩)) := hd 8 (by kernel_rfl) rfl
      exact run_ld3 _ _ rfl q1 (by rw [cell_of_row y _ 1 _ _ _ rp]; rfl)
    · simp only [List.getElem?_cons_succ, List.getElem?_cons_zero, Option.some.injEq] at ho; subst ho
      have q1 : u 7 = (.int .i64 (a.B)) := hd 7 (by kernel_rfl) rfl
      have q2 : u 9 = (.int .i64 (Y)) := hd 9 (by kernel_rfl) rfl
      exact run_mul _ _ rfl q1 q2 e1
    · simp only [List.getElem?_cons_succ, List.getElem?_cons_zero, Option.some.injEq] at ho; subst ho
      have q1 : u 5 = (.int .i64 (a.A * X)) := hd 5 (by kernel_rfl) rfl
      have q2 : u 10 = (.int .i64 (a.B * Y)) := hd 10 (by kernel_rfl) rfl
      exact run_add _ _ rfl q1 q2 e2
    · simp only [List.getElem?_cons_succ, List.getElem?_cons_zero, Option.some.injEq] at ho; subst ho
      exact run_fa23 _ 2 rfl (by omega) rfl
    · simp only [List.getElem?_cons_succ, List.getElem?_cons_zero, Option.some.injEq] at ho; subst ho
      have q1 : u 12 = (.pointer (some ⟨ba, 2, none⟩)) := hd 12 (by kernel_rfl) rfl
      exact run_ld3 _ _ rfl q1 (by rw [cell_of_row y _ 2 _ _ _ ra]; rfl)
    · simp only [List.getElem?_cons_succ, List.getElem?_cons_zero, Option.some.injEq] at ho; subst ho
      have q1 : u 11 = (.int .i64 (a.A * X + a.B * Y)) := hd 11 (by kernel_rfl) rfl
      have q2 : u 13 = (.int .i64 (a.C)) := hd 13 (by kernel_rfl) rfl
      exact run_add _ _ rfl q1 q2 e3
    · exact absurd hs (by decide)
    · exact absurd hs (by decide)
    · simp only [List.getElem?_cons_succ, List.getElem?_cons_zero, Option.some.injEq] at ho; subst ho
      exact run_ld83 _ _ rfl rfl (hb2 rfl)
    · simp only [List.getElem?_cons_succ, List.getElem?_cons_zero, Option.some.injEq] at ho; subst ho
      exact run_fa23 _ 3 rfl (by omega) rfl
    · simp only [List.getElem?_cons_succ, List.getElem?_cons_zero, Option.some.injEq] at ho; subst ho
      have q1 : u 18 = (.pointer (some ⟨ba, 3, none⟩)) := hd 18 (by kernel_rfl) rfl
      exact run_ld3 _ _ rfl q1 (by rw [cell_of_row y _ 3 _ _ _ ra]; rfl)
    · simp only [List.getElem?_cons_succ, List.getElem?_cons_zero, Option.some.injEq] at ho; subst ho
      exact run_fa41 _ 0 rfl (by omega) rfl
    · simp only [List.getElem?_cons_succ, List.getElem?_cons_zero, Option.some.injEq] at ho; subst ho
      have q1 : u 20 = (.pointer (some ⟨x.heap.size, 0, none⟩)) := hd 20 (by kernel_rfl) rfl
      exact run_ld3 _ _ rfl q1 (by rw [cell_of_row y _ 0 _ _ _ rp]; rfl)
    · simp only [List.getElem?_cons_succ, List.getElem?_cons_zero, Option.some.injEq] at ho; subst ho
      have q1 : u 19 = (.int .i64 (a.D)) := hd 19 (by kernel_rfl) rfl
      have q2 : u 21 = (.int .i64 (X)) := hd 21 (by kernel_rfl) rfl
      exact run_mul _ _ rfl q1 q2 e4
    · simp only [List.getElem?_cons_succ, List.getElem?_cons_zero, Option.some.injEq] at ho; subst ho
      exact run_fa23 _ 4 rfl (by omega) rfl
    · simp only [List.getElem?_cons_succ, List.getElem?_cons_zero, Option.some.injEq] at ho; subst ho
      have q1 : u 23 = (.pointer (some ⟨ba, 4, none⟩)) := hd 23 (by kernel_rfl) rfl
      exact run_ld3 _ _ rfl q1 (by rw [cell_of_row y _ 4 _ _ _ ra]; rfl)
    · simp only [List.getElem?_cons_succ, List.getElem?_cons_zero, Option.some.injEq] at ho; subst ho
      exact run_fa41 _ 1 rfl (by omega) rfl
    · simp only [List.getElem?_cons_succ, List.getElem?_cons_zero, Option.some.injEq] at ho; subst ho
      have q1 : u 25 = (.pointer (some ⟨x.heap.size, 1, none⟩)) := hd 25 (by kernel_rfl) rfl
      exact run_ld3 _ _ rfl q1 (by rw [cell_of_row y _ 1 _ _ _ rp]; rfl)
    · simp only [List.getElem?_cons_succ, List.getElem?_cons_zero, Option.some.injEq] at ho; subst ho
      have q1 : u 24 = (.int .i64 (a.E)) := hd 24 (by kernel_rfl) rfl
      have q2 : u 26 = (.int .i64 (Y)) := hd 26 (by kernel_rfl) rfl
      exact run_mul _ _ rfl q1 q2 e5
    · simp only [List.getElem?_cons_succ, List.getElem?_cons_zero, Option.some.injEq] at ho; subst ho
      have q1 : u 22 = (.int .i64 (a.D * X)) := hd 22 (by kernel_rfl) rfl
      have q2 : u 27 = (.int .i64 (a.E * Y)) := hd 27 (by kernel_rfl) rfl
      exact run_add _ _ rfl q1 q2 e6
    · simp only [List.getElem?_cons_succ, List.getElem?_cons_zero, Option.some.injEq] at ho; subst ho
      exact run_fa23 _ 5 rfl (by omega) rfl
    · simp only [List.getElem?_cons_succ, List.getElem?_cons_zero, Option.some.injEq] at ho; subst ho
      have q1 : u 29 = (.pointer (some ⟨ba, 5, none⟩)) := hd 29 (by kernel_rfl) rfl
      exact run_ld3 _ _ rfl q1 (by rw [cell_of_row y _ 5 _ _ _ ra]; rfl)
    · simp only [List.getElem?_cons_succ, List.getElem?_cons_zero, Option.some.injEq] at ho; subst ho
      have q1 : u 28 = (.int .i64 (a.D * X + a.E * Y)) := hd 28 (by kernel_rfl) rfl
      have q2 : u 30 = (.int .i64 (a.F)) := hd 30 (by kernel_rfl) rfl
      exact run_add _ _ rfl q1 q2 e7
    · exact absurd hs (by decide)
    · exact absurd hs (by decide)
    · exact absurd hs (by decide)
    · exact absurd hs (by decide)
  · intro oo ho u y hd
    simp only [List.getElem?_cons_succ, List.getElem?_cons_zero, Option.some.injEq] at ho; subst ho
    have q1 : u 14 = (.int .i64 (a.A * X + a.B * Y + a.C)) := hd 14 (by kernel_rfl) rfl
    exact run_bs83 _ rfl q1
  · intro oo ho
    simp only [List.getElem?_cons_succ, List.getElem?_cons_zero, Option.some.injEq] at ho; subst ho
    refine ⟨by kernel_rfl, by kernel_rfl, 83, fun u y v' y' hd hr => ?_⟩
    have q1 : u 0 = v1 := hd 0 (by kernel_rfl) rfl
    exact run_app83 rfl q1 rfl hr
  · intro oo ho
    simp only [List.getElem?_cons_succ, List.getElem?_cons_zero, Option.some.injEq] at ho; subst ho
    exact ⟨by kernel_rfl, fun u y c hv hc => run_st83 _ _ hv rfl rfl rfl hc⟩
  · intro oo ho u y hd
    simp only [List.getElem?_cons_succ, List.getElem?_cons_zero, Option.some.injEq] at ho; subst ho
    have q1 : u 31 = (.int .i64 (a.D * X + a.E * Y + a.F)) := hd 31 (by kernel_rfl) rfl
    exact run_bs83 _ rfl q1
  · intro oo ho
    simp only [List.getElem?_cons_succ, List.getElem?_cons_zero, Option.some.injEq] at ho; subst ho
    refine ⟨by kernel_rfl, by kernel_rfl, 83, fun u y v' y' hd hr => ?_⟩
    have q1 : u 17 = v2 := hd 17 (by kernel_rfl) rfl
    exact run_app83 rfl q1 rfl hr
  · intro oo ho
    simp only [List.getElem?_cons_succ, List.getElem?_cons_zero, Option.some.injEq] at ho; subst ho
    exact ⟨by kernel_rfl, fun u y c hv hc => run_st83 _ _ hv rfl rfl rfl hc⟩
  · intro u y hT
    clear hall
    have hfin : Bw B ba b1 b2 R a w0 (lx ++ [a.A * X + a.B * Y + a.C]) (ly ++ [a.D * X + a.E * Y + a.F]) y := by
      obtain ⟨f1, f2, f3, f4, f5⟩ := hT.frame
      have hsz : (x.alloc (.cells #[.int .i64 X, .int .i64 Y] 41)).drew.heap.size = x.heap.size + 1 := by simp
      rw [hsz] at f4
      refine ⟨⟨f1.trans hbel.os, f2.trans hbel.tape, f3.trans hbel.output, by have := hbel.size; omega, fun k hk => ?_⟩, (f5 ba (.inl hlt.1)).trans ra0, ⟨_, _, hT.c1.var, hT.c2.var, ?_, ?_, hT.dj⟩, hlt.1, hlt.2.1, hlt.2.2.1, hlt.2.2.2.1, hlt.2.2.2.2.1, hlt.2.2.2.2.2.1, by omega⟩
      · have hkx : k < x.heap.size := by omega
        have h1 := f5 k (.inl hk)
        rw [h1]
        have h2 : (x.alloc (.cells #[.int .i64 X, .int .i64 Y] 41)).drew.heap[k]? = x.heap[k]? := heap_alloc_old x _ hkx
        rw [h2]
        exact hbel.block k hk
      · have := hT.c1.own
        rw [ivl_snoc, List.length_append]
        simpa [cur, ivl_len] using this
      · have := hT.c2.own
        rw [ivl_snoc, List.length_append]
        simpa [cur, ivl_len] using this
    replace hfin := Lib.hid hfin
    clear hT rp0 gA ra0 kp r1' r2' ol1 ol2 hbel r1 r2 o1 o2 dj hlt hl ra1
    go_wp2
    refine bodyPost_end (results_none rfl _ _ _) rfl ⟨rfl, hfin.out⟩
end Go.Proofs.Ytmfmnoajihiidaa
