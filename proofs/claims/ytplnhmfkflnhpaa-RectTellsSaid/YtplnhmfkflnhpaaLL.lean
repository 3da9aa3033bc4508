/- Walk of the law RectLattice of layer 3: it returns true and writes nothing that was there. -/
import Derived.Test.YtplnhmfkflnhpaaLM
import Derived.Test.YtplnhmfkflnhpaaA2
import Derived.Deep.DeepCutAuto
set_option linter.unusedVariables false
namespace Go.Proofs.Ytplnhmfkflnhpaa
open Go.RowKit
/-- The block g holds the rectangle r. -/
def Bx (W : World) (g : Nat) (r : R) : Prop := W.cell? ⟨g, 0, none⟩ = some (.int .i64 r.x0) ∧ W.cell? ⟨g, 1, none⟩ = some (.int .i64 r.y0) ∧ W.cell? ⟨g, 2, none⟩ = some (.int .i64 r.x1) ∧ W.cell? ⟨g, 3, none⟩ = some (.int .i64 r.y1)
theorem Bx.grow {x y : World} {g : Nat} {r : R} (hg : Grow x y) (h : Bx x g r) : Bx y g r := ⟨hg.cell h.1, hg.cell h.2.1, hg.cell h.2.2.1, hg.cell h.2.2.2⟩
def Bx5 (W : World) (g1 g2 g3 g4 g5 : Nat) (a b c u i : R) : Prop := Bx W g1 a ∧ Bx W g2 b ∧ Bx W g3 c ∧ Bx W g4 u ∧ Bx W g5 i
theorem Bx5.grow {x y : World} {g1 g2 g3 g4 g5 : Nat} {a b c u i : R} (hg : Grow x y) (h : Bx5 x g1 g2 g3 g4 g5 a b c u i) : Bx5 y g1 g2 g3 g4 g5 a b c u i := ⟨h.1.grow hg, h.2.1.grow hg, h.2.2.1.grow hg, h.2.2.2.1.grow hg, h.2.2.2.2.grow hg⟩
namespace rectLattice
set_option maxRecDepth 100000 in
set_option maxHeartbeats 8000000 in
theorem walk (q0 q1 q2 q3 q4 q5 q6 q7 q8 q9 q10 q11 : Int) (w : World) (wf0 : (Lit.int .i64 q0).wf = true) (wf1 : (Lit.int .i64 q1).wf = true) (wf2 : (Lit.int .i64 q2).wf = true) (wf3 : (Lit.int .i64 q3).wf = true) (wf4 : (Lit.int .i64 q4).wf = true) (wf5 : (Lit.int .i64 q5).wf = true) (wf6 : (Lit.int .i64 q6).wf = true) (wf7 : (Lit.int .i64 q7).wf = true) (wf8 : (Lit.int .i64 q8).wf = true) (wf9 : (Lit.int .i64 q9).wf = true) (wf10 : (Lit.int .i64 q10).wf = true) (wf11 : (Lit.int .i64 q11).wf = true) :
    Calls Try.prog 9 #[.agg #[.int .i64 q0, .int .i64 q1, .int .i64 q2, .int .i64 q3, .int .i64 q4, .int .i64 q5, .int .i64 q6, .int .i64 q7, .int .i64 q8, .int .i64 q9, .int .i64 q10, .int .i64 q11]] w fun e w' => e = .returned (.bool true) ∧ Below w.heap.size w w' := by
  have hS1 : ∀ w, Calls Try.prog 24 #[.agg #[.int .i64 q0, .int .i64 q1, .int .i64 q2, .int .i64 q3]] w fun e w' => e = .returned (.agg #[.int .i64 (smallR q0 q1 q2 q3).x0, .int .i64 (smallR q0 q1 q2 q3).y0, .int .i64 (smallR q0 q1 q2 q3).x1, .int .i64 (smallR q0 q1 q2 q3).y1]) ∧ Grow w w' := fun w => small_any q0 q1 q2 q3 w
  have hS2 : ∀ w, Calls Try.prog 24 #[.agg #[.int .i64 q4, .int .i64 q5, .int .i64 q6, .int .i64 q7]] w fun e w' => e = .returned (.agg #[.int .i64 (smallR q4 q5 q6 q7).x0, .int .i64 (smallR q4 q5 q6 q7).y0, .int .i64 (smallR q4 q5 q6 q7).x1, .int .i64 (smallR q4 q5 q6 q7).y1]) ∧ Grow w w' := fun w => small_any q4 q5 q6 q7 w
  have hS3 : ∀ w, Calls Try.prog 24 #[.agg #[.int .i64 q8, .int .i64 q9, .int .i64 q10, .int .i64 q11]] w fun e w' => e = .returned (.agg #[.int .i64 (smallR q8 q9 q10 q11).x0, .int .i64 (smallR q8 q9 q10 q11).y0, .int .i64 (smallR q8 q9 q10 q11).x1, .int .i64 (smallR q8 q9 q10 q11).y1]) ∧ Grow w w' := fun w => small_any q8 q9 q10 q11 w
  generalize smallR q0 q1 q2 q3 = a at hS1
  generalize smallR q4 q5 q6 q7 = b at hS2
  generalize smallR q8 q9 q10 q11 = c at hS3
  have m1 := ins_uni_l a b
  have m2 := ins_uni_r a b
  have m3 := ins_inter_l a b
  have m4 := ins_inter_r a b
  have m5 := @uni_least a b c
  have m6 := @inter_greatest a b c
  have m7 := uni_assoc a b c
  have m8 := inter_assoc a b c
  have m9 := uni_comm b a
  have m10 := inter_comm b a
  have h1 : ∀ w, Calls Try.prog 38 #[.agg #[.int .i64 a.x0, .int .i64 a.y0, .int .i64 a.x1, .int .i64 a.y1], .agg #[.int .i64 b.x0, .int .i64 b.y0, .int .i64 b.x1, .int .i64 b.y1]] w fun e w' => e = .returned (.agg #[.int .i64 (uni a b).x0, .int .i64 (uni a b).y0, .int .i64 (uni a b).x1, .int .i64 (uni a b).y1]) ∧ Grow w w' := fun w => uni_any _ _ _ _ _ _ _ _ w
  have h2 : ∀ w, Calls Try.prog 18 #[.agg #[.int .i64 a.x0, .int .i64 a.y0, .int .i64 a.x1, .int .i64 a.y1], .agg #[.int .i64 b.x0, .int .i64 b.y0, .int .i64 b.x1, .int .i64 b.y1]] w fun e w' => e = .returned (.agg #[.int .i64 (inter a b).x0, .int .i64 (inter a b).y0, .int .i64 (inter a b).x1, .int .i64 (inter a b).y1]) ∧ Grow w w' := fun w => inter_any _ _ _ _ _ _ _ _ w
  have h3 : ∀ w, Calls Try.prog 38 #[.agg #[.int .i64 b.x0, .int .i64 b.y0, .int .i64 b.x1, .int .i64 b.y1], .agg #[.int .i64 a.x0, .int .i64 a.y0, .int .i64 a.x1, .int .i64 a.y1]] w fun e w' => e = .returned (.agg #[.int .i64 (uni a b).x0, .int .i64 (uni a b).y0, .int .i64 (uni a b).x1, .int .i64 (uni a b).y1]) ∧ Grow w w' := fun w => by have := uni_any b.x0 b.y0 b.x1 b.y1 a.x0 a.y0 a.x1 a.y1 w; rw [show uni ⟨b.x0, b.y0, b.x1, b.y1⟩ ⟨a.x0, a.y0, a.x1, a.y1⟩ = uni a b from m9] at this; exact this
  have h4 : ∀ w, Calls Try.prog 18 #[.agg #[.int .i64 b.x0, .int .i64 b.y0, .int .i64 b.x1, .int .i64 b.y1], .agg #[.int .i64 a.x0, .int .i64 a.y0, .int .i64 a.x1, .int .i64 a.y1]] w fun e w' => e = .returned (.agg #[.int .i64 (inter a b).x0, .int .i64 (inter a b).y0, .int .i64 (inter a b).x1, .int .i64 (inter a b).y1]) ∧ Grow w w' := fun w => by have := inter_any b.x0 b.y0 b.x1 b.y1 a.x0 a.y0 a.x1 a.y1 w; rw [show inter ⟨b.x0, b.y0, b.x1, b.y1⟩ ⟨a.x0, a.y0, a.x1, a.y1⟩ = inter a b from m10] at this; exact this
  generalize uni a b = u at *
  generalize inter a b = i at *
  have h5 : ∀ w, Calls Try.prog 38 #[.agg #[.int .i64 u.x0, .int .i64 u.y0, .int .i64 u.x1, .int .i64 u.y1], .agg #[.int .i64 c.x0, .int .i64 c.y0, .int .i64 c.x1, .int .i64 c.y1]] w fun e w' => e = .returned (.agg #[.int .i64 (uni u c).x0, .int .i64 (uni u c).y0, .int .i64 (uni u c).x1, .int .i64 (uni u c).y1]) ∧ Grow w w' := fun w => uni_any _ _ _ _ _ _ _ _ w
  have h6 : ∀ w, Calls Try.prog 18 #[.agg #[.int .i64 i.x0, .int .i64 i.y0, .int .i64 i.x1, .int .i64 i.y1], .agg #[.int .i64 c.x0, .int .i64 c.y0, .int .i64 c.x1, .int .i64 c.y1]] w fun e w' => e = .returned (.agg #[.int .i64 (inter i c).x0, .int .i64 (inter i c).y0, .int .i64 (inter i c).x1, .int .i64 (inter i c).y1]) ∧ Grow w w' := fun w => inter_any _ _ _ _ _ _ _ _ w
  have h7 : ∀ w, Calls Try.prog 38 #[.agg #[.int .i64 b.x0, .int .i64 b.y0, .int .i64 b.x1, .int .i64 b.y1], .agg #[.int .i64 c.x0, .int .i64 c.y0, .int .i64 c.x1, .int .i64 c.y1]] w fun e w' => e = .returned (.agg #[.int .i64 (uni b c).x0, .int .i64 (uni b c).y0, .int .i64 (uni b c).x1, .int .i64 (uni b c).y1]) ∧ Grow w w' := fun w => uni_any _ _ _ _ _ _ _ _ w
  have h8 : ∀ w, Calls Try.prog 18 #[.agg #[.int .i64 b.x0, .int .i64 b.y0, .int .i64 b.x1, .int .i64 b.y1], .agg #[.int .i64 c.x0, .int .i64 c.y0, .int .i64 c.x1, .int .i64 c.y1]] w fun e w' => e = .returned (.agg #[.int .i64 (inter b c).x0, .int .i64 (inter b c).y0, .int .i64 (inter b c).x1, .int .i64 (inter b c).y1]) ∧ Grow w w' := fun w => inter_any _ _ _ _ _ _ _ _ w
  generalize uni b c = ubc at *
  generalize inter b c = ibc at *
  have h9 : ∀ w, Calls Try.prog 38 #[.agg #[.int .i64 a.x0, .int .i64 a.y0, .int .i64 a.x1, .int .i64 a.y1], .agg #[.int .i64 ubc.x0, .int .i64 ubc.y0, .int .i64 ubc.x1, .int .i64 ubc.y1]] w fun e w' => e = .returned (.agg #[.int .i64 (uni u c).x0, .int .i64 (uni u c).y0, .int .i64 (uni u c).x1, .int .i64 (uni u c).y1]) ∧ Grow w w' := fun w => by have := uni_any a.x0 a.y0 a.x1 a.y1 ubc.x0 ubc.y0 ubc.x1 ubc.y1 w; rw [show uni ⟨a.x0, a.y0, a.x1, a.y1⟩ ⟨ubc.x0, ubc.y0, ubc.x1, ubc.y1⟩ = uni u c from m7.symm] at this; exact this
  have h10 : ∀ w, Calls Try.prog 18 #[.agg #[.int .i64 a.x0, .int .i64 a.y0, .int .i64 a.x1, .int .i64 a.y1], .agg #[.int .i64 ibc.x0, .int .i64 ibc.y0, .int .i64 ibc.x1, .int .i64 ibc.y1]] w fun e w' => e = .returned (.agg #[.int .i64 (inter i c).x0, .int .i64 (inter i c).y0, .int .i64 (inter i c).x1, .int .i64 (inter i c).y1]) ∧ Grow w w' := fun w => by have := inter_any a.x0 a.y0 a.x1 a.y1 ibc.x0 ibc.y0 ibc.x1 ibc.y1 w; rw [show inter ⟨a.x0, a.y0, a.x1, a.y1⟩ ⟨ibc.x0, ibc.y0, ibc.x1, ibc.y1⟩ = inter i c from m8.symm] at this; exact this
  generalize uni u c = uu at *
  generalize inter i c = ii at *
  have he : ∀ (r : R) w, Calls Try.prog 35 #[.agg #[.int .i64 r.x0, .int .i64 r.y0, .int .i64 r.x1, .int .i64 r.y1], .agg #[.int .i64 r.x0, .int .i64 r.y0, .int .i64 r.x1, .int .i64 r.y1]] w fun e w' => e = .returned (.bool true) ∧ Grow w w' := fun r w => (eqr_any _ _ _ _ _ _ _ _ w).mono fun e w' h => ⟨by rw [h.1]; exact ret_bool (eqr_self r), h.2⟩
  have hi : ∀ (r s : R) (v : Bool), ins r s = v → ∀ w, Calls Try.prog 34 #[.agg #[.int .i64 r.x0, .int .i64 r.y0, .int .i64 r.x1, .int .i64 r.y1], .agg #[.int .i64 s.x0, .int .i64 s.y0, .int .i64 s.x1, .int .i64 s.y1]] w fun e w' => e = .returned (.bool v) ∧ Grow w w' := fun r s v hv w => (ins_any _ _ _ _ _ _ _ _ w).mono fun e w' h => ⟨by rw [h.1]; exact ret_bool hv, h.2⟩
  have HS1 := Lib.hid hS1
  have HS2 := Lib.hid hS2
  have HS3 := Lib.hid hS3
  have H1 := Lib.hid h1
  have H2 := Lib.hid h2
  have H3 := Lib.hid h3
  have H4 := Lib.hid h4
  have H5 := Lib.hid h5
  have H6 := Lib.hid h6
  have H7 := Lib.hid h7
  have H8 := Lib.hid h8
  have H9 := Lib.hid h9
  have H10 := Lib.hid h10
  have HE := Lib.hid he
  have HI := Lib.hid hi
  have M1 := Lib.hid m1
  have M2 := Lib.hid m2
  have M3 := Lib.hid m3
  have M4 := Lib.hid m4
  have M5 := Lib.hid m5
  have M6 := Lib.hid m6
  clear hS1 hS2 hS3 h1 h2 h3 h4 h5 h6 h7 h8 h9 h10 he hi m1 m2 m3 m4 m5 m6 m7 m8 m9 m10
  go_enter Try.func9, Try.ntmps9
  go_wp2_with fail
  refine (sanity_any _).mono ?_
  rintro e v1 ⟨rfl, hg1⟩
  have hG := Grow.trans (Grow.alloc w (.cells #[.int .i64 q0, .int .i64 q1, .int .i64 q2, .int .i64 q3, .int .i64 q4, .int .i64 q5, .int .i64 q6, .int .i64 q7, .int .i64 q8, .int .i64 q9, .int .i64 q10, .int .i64 q11] 53)) hg1
  obtain ⟨hc, hf⟩ := bcell hg1
  have hz1 : w.heap.size < v1.heap.size := by (have := hg1.size; simp at this; omega)
  go_wp2_with fail
  refine (HS1.out _).mono ?_
  rintro e v2 ⟨rfl, hg2⟩
  obtain ⟨hc2, hf2⟩ := bcell hg2
  have hz2 : w.heap.size < v2.heap.size := by (have := hg2.size; omega)
  go_wp2_with fail
  refine (HS2.out _).mono ?_
  rintro e v3 ⟨rfl, hg3⟩
  obtain ⟨hc3, hf3⟩ := bcell hg3
  have hz3 : w.heap.size < v3.heap.size ∧ v2.heap.size < v3.heap.size := by (have := hg3.size; simp at this; omega)
  obtain ⟨hz3, hz3'⟩ := hz3
  go_wp2_with fail
  refine (HS3.out _).mono ?_
  rintro e v4 ⟨rfl, hg4⟩
  obtain ⟨hc4, hf4⟩ := bcell hg4
  have hz4 : v2.heap.size < v4.heap.size ∧ v3.heap.size < v4.heap.size := by (have := hg4.size; simp at this; omega)
  obtain ⟨hz4, hz4'⟩ := hz4
  go_wp2_with fail
  refine (H1.out _).mono ?_
  rintro e v5 ⟨rfl, hg5⟩
  obtain ⟨hc5, hf5⟩ := bcell hg5
  have hz5 : v2.heap.size < v5.heap.size ∧ v3.heap.size < v5.heap.size ∧ v4.heap.size < v5.heap.size := by (have := hg5.size; simp at this; omega)
  obtain ⟨hz5, hz5', hz5''⟩ := hz5
  go_wp2_with fail
  refine (H2.out _).mono ?_
  rintro e v6 ⟨rfl, hg6⟩
  obtain ⟨hc6, hf6⟩ := bcell hg6
  have hz6 : v2.heap.size < v6.heap.size ∧ v3.heap.size < v6.heap.size ∧ v4.heap.size < v6.heap.size ∧ v5.heap.size < v6.heap.size := by (have := hg6.size; simp at this; omega)
  obtain ⟨hz6, hz6', hz6'', hz6x⟩ := hz6
  go_upto_region 7 with fail
  refine wp_gen (fun W0 => Bx5 W0 v2.heap.size v3.heap.size v4.heap.size v5.heap.size v6.heap.size a b c u i ∧ Grow w W0) ⟨by unfold Bx5 Bx; go_simp, ?_⟩ ?_
  · exact ((((((((((hG.trans hg2).a _).trans hg3).a _).trans hg4).a _).trans hg5).a _).trans hg6).a _)
  rintro W0 ⟨hBX, hG0⟩
  have HG := Lib.hid hG0
  generalize v2.heap.size = g1 at *
  generalize v3.heap.size = g2 at *
  generalize v4.heap.size = g3 at *
  generalize v5.heap.size = g4 at *
  generalize v6.heap.size = g5 at *
  clear hc hf hc2 hf2 hc3 hf3 hc4 hf4 hc5 hf5 hc6 hf6 hz1 hz2 hz3 hz3' hz4 hz4' hz5 hz5' hz5'' hz6 hz6' hz6'' hz6x hg1 hg2 hg3 hg4 hg5 hg6 hG hG0 HS1 HS2 HS3
  go_cut [9] (fun s9 wx => s9 = .bool true ∧ Bx5 wx g1 g2 g3 g4 g5 a b c u i ∧ Grow w wx)
  case first =>
    obtain ⟨⟨a0, a1, a2, a3⟩, ⟨b0, b1, b2, b3⟩, ⟨c0, c1, c2, c3⟩, ⟨d0, d1, d2, d3⟩, ⟨e0, e1, e2, e3⟩⟩ := id hBX
    have HB := Lib.hid hBX
    clear hBX
    cases k1 : ins a c with
    | false =>
      have j1 := Lib.hid (HI.out _ _ _ k1)
      clear k1
      go_wp2_with first
        | (go_at_call 34; (with_reducible refine Calls.mono (j1.out _) ?_); rintro e w' ⟨rfl, hg⟩; replace hg : Grow _ w' := hg; replace a0 := hg.cell a0; replace a1 := hg.cell a1; replace a2 := hg.cell a2; replace a3 := hg.cell a3; replace b0 := hg.cell b0; replace b1 := hg.cell b1; replace b2 := hg.cell b2; replace b3 := hg.cell b3; replace c0 := hg.cell c0; replace c1 := hg.cell c1; replace c2 := hg.cell c2; replace c3 := hg.cell c3; replace d0 := hg.cell d0; replace d1 := hg.cell d1; replace d2 := hg.cell d2; replace d3 := hg.cell d3; replace e0 := hg.cell e0; replace e1 := hg.cell e1; replace e2 := hg.cell e2; replace e3 := hg.cell e3; replace HB := Lib.hid (HB.out.grow hg); replace HG := Lib.hid (HG.out.trans hg); clear hg)
      go_wp2
      go_meet
      exact ⟨rfl, HB.out, HG.out⟩
    | true =>
      cases k2 : ins b c with
      | false =>
        have j1 := Lib.hid (HI.out _ _ _ k1)
        have j2 := Lib.hid (HI.out _ _ _ k2)
        clear k1 k2
        go_wp2_with first
          | (go_at_call 34; (with_reducible refine Calls.mono (j1.out _) ?_); rintro e w' ⟨rfl, hg⟩; replace hg : Grow _ w' := hg; replace a0 := hg.cell a0; replace a1 := hg.cell a1; replace a2 := hg.cell a2; replace a3 := hg.cell a3; replace b0 := hg.cell b0; replace b1 := hg.cell b1; replace b2 := hg.cell b2; replace b3 := hg.cell b3; replace c0 := hg.cell c0; replace c1 := hg.cell c1; replace c2 := hg.cell c2; replace c3 := hg.cell c3; replace d0 := hg.cell d0; replace d1 := hg.cell d1; replace d2 := hg.cell d2; replace d3 := hg.cell d3; replace e0 := hg.cell e0; replace e1 := hg.cell e1; replace e2 := hg.cell e2; replace e3 := hg.cell e3; replace HB := Lib.hid (HB.out.grow hg); replace HG := Lib.hid (HG.out.trans hg); clear hg)
          | (go_at_call 34; (with_reducible refine Calls.mono (j2.out _) ?_); rintro e w' ⟨rfl, hg⟩; replace hg : Grow _ w' := hg; replace a0 := hg.cell a0; replace a1 := hg.cell a1; replace a2 := hg.cell a2; replace a3 := hg.cell a3; replace b0 := hg.cell b0; replace b1 := hg.cell b1; replace b2 := hg.cell b2; replace b3 := hg.cell b3; replace c0 := hg.cell c0; replace c1 := hg.cell c1; replace c2 := hg.cell c2; replace c3 := hg.cell c3; replace d0 := hg.cell d0; replace d1 := hg.cell d1; replace d2 := hg.cell d2; replace d3 := hg.cell d3; replace e0 := hg.cell e0; replace e1 := hg.cell e1; replace e2 := hg.cell e2; replace e3 := hg.cell e3; replace HB := Lib.hid (HB.out.grow hg); replace HG := Lib.hid (HG.out.trans hg); clear hg)
        go_wp2
        go_meet
        exact ⟨rfl, HB.out, HG.out⟩
      | true =>
        have j1 := Lib.hid (HI.out _ _ _ k1)
        have j2 := Lib.hid (HI.out _ _ _ k2)
        have j3 := Lib.hid (HI.out _ _ _ (M5.out k1 k2))
        clear k1 k2
        go_wp2_with first
          | (go_at_call 34; (with_reducible refine Calls.mono (j1.out _) ?_); rintro e w' ⟨rfl, hg⟩; replace hg : Grow _ w' := hg; replace a0 := hg.cell a0; replace a1 := hg.cell a1; replace a2 := hg.cell a2; replace a3 := hg.cell a3; replace b0 := hg.cell b0; replace b1 := hg.cell b1; replace b2 := hg.cell b2; replace b3 := hg.cell b3; replace c0 := hg.cell c0; replace c1 := hg.cell c1; replace c2 := hg.cell c2; replace c3 := hg.cell c3; replace d0 := hg.cell d0; replace d1 := hg.cell d1; replace d2 := hg.cell d2; replace d3 := hg.cell d3; replace e0 := hg.cell e0; replace e1 := hg.cell e1; replace e2 := hg.cell e2; replace e3 := hg.cell e3; replace HB := Lib.hid (HB.out.grow hg); replace HG := Lib.hid (HG.out.trans hg); clear hg)
          | (go_at_call 34; (with_reducible refine Calls.mono (j2.out _) ?_); rintro e w' ⟨rfl, hg⟩; replace hg : Grow _ w' := hg; replace a0 := hg.cell a0; replace a1 := hg.cell a1; replace a2 := hg.cell a2; replace a3 := hg.cell a3; replace b0 := hg.cell b0; replace b1 := hg.cell b1; replace b2 := hg.cell b2; replace b3 := hg.cell b3; replace c0 := hg.cell c0; replace c1 := hg.cell c1; replace c2 := hg.cell c2; replace c3 := hg.cell c3; replace d0 := hg.cell d0; replace d1 := hg.cell d1; replace d2 := hg.cell d2; replace d3 := hg.cell d3; replace e0 := hg.cell e0; replace e1 := hg.cell e1; replace e2 := hg.cell e2; replace e3 := hg.cell e3; replace HB := Lib.hid (HB.out.grow hg); replace HG := Lib.hid (HG.out.trans hg); clear hg)
          | (go_at_call 34; (with_reducible refine Calls.mono (j3.out _) ?_); rintro e w' ⟨rfl, hg⟩; replace hg : Grow _ w' := hg; replace a0 := hg.cell a0; replace a1 := hg.cell a1; replace a2 := hg.cell a2; replace a3 := hg.cell a3; replace b0 := hg.cell b0; replace b1 := hg.cell b1; replace b2 := hg.cell b2; replace b3 := hg.cell b3; replace c0 := hg.cell c0; replace c1 := hg.cell c1; replace c2 := hg.cell c2; replace c3 := hg.cell c3; replace d0 := hg.cell d0; replace d1 := hg.cell d1; replace d2 := hg.cell d2; replace d3 := hg.cell d3; replace e0 := hg.cell e0; replace e1 := hg.cell e1; replace e2 := hg.cell e2; replace e3 := hg.cell e3; replace HB := Lib.hid (HB.out.grow hg); replace HG := Lib.hid (HG.out.trans hg); clear hg)
        go_wp2
        go_meet
        exact ⟨rfl, HB.out, HG.out⟩
  case rest =>
  obtain ⟨rfl, hBX, hG0⟩ := hcut
  obtain ⟨W1, rfl⟩ : ∃ W1 : World, W1 = wc := ⟨_, rfl⟩
  replace HG := Lib.hid hG0
  clear hG0
  go_upto_region 8 with fail
  go_cut [10] (fun s10 wx => s10 = .bool true ∧ Bx5 wx g1 g2 g3 g4 g5 a b c u i ∧ Grow w wx)
  case first =>
    obtain ⟨⟨a0, a1, a2, a3⟩, ⟨b0, b1, b2, b3⟩, ⟨c0, c1, c2, c3⟩, ⟨d0, d1, d2, d3⟩, ⟨e0, e1, e2, e3⟩⟩ := id hBX
    have HB := Lib.hid hBX
    clear hBX
    cases k1 : ins c a with
    | false =>
      have j1 := Lib.hid (HI.out _ _ _ k1)
      clear k1
      go_wp2_with first
        | (go_at_call 34; (with_reducible refine Calls.mono (j1.out _) ?_); rintro e w' ⟨rfl, hg⟩; replace hg : Grow _ w' := hg; replace a0 := hg.cell a0; replace a1 := hg.cell a1; replace a2 := hg.cell a2; replace a3 := hg.cell a3; replace b0 := hg.cell b0; replace b1 := hg.cell b1; replace b2 := hg.cell b2; replace b3 := hg.cell b3; replace c0 := hg.cell c0; replace c1 := hg.cell c1; replace c2 := hg.cell c2; replace c3 := hg.cell c3; replace d0 := hg.cell d0; replace d1 := hg.cell d1; replace d2 := hg.cell d2; replace d3 := hg.cell d3; replace e0 := hg.cell e0; replace e1 := hg.cell e1; replace e2 := hg.cell e2; replace e3 := hg.cell e3; replace HB := Lib.hid (HB.out.grow hg); replace HG := Lib.hid (HG.out.trans hg); clear hg)
      go_wp2
      go_meet
      exact ⟨rfl, HB.out, HG.out⟩
    | true =>
      cases k2 : ins c b with
      | false =>
        have j1 := Lib.hid (HI.out _ _ _ k1)
        have j2 := Lib.hid (HI.out _ _ _ k2)
        clear k1 k2
        go_wp2_with first
          | (go_at_call 34; (with_reducible refine Calls.mono (j1.out _) ?_); rintro e w' ⟨rfl, hg⟩; replace hg : Grow _ w' := hg; replace a0 := hg.cell a0; replace a1 := hg.cell a1; replace a2 := hg.cell a2; replace a3 := hg.cell a3; replace b0 := hg.cell b0; replace b1 := hg.cell b1; replace b2 := hg.cell b2; replace b3 := hg.cell b3; replace c0 := hg.cell c0; replace c1 := hg.cell c1; replace c2 := hg.cell c2; replace c3 := hg.cell c3; replace d0 := hg.cell d0; replace d1 := hg.cell d1; replace d2 := hg.cell d2; replace d3 := hg.cell d3; replace e0 := hg.cell e0; replace e1 := hg.cell e1; replace e2 := hg.cell e2; replace e3 := hg.cell e3; replace HB := Lib.hid (HB.out.grow hg); replace HG := Lib.hid (HG.out.trans hg); clear hg)
          | (go_at_call 34; (with_reducible refine Calls.mono (j2.out _) ?_); rintro e w' ⟨rfl, hg⟩; replace hg : Grow _ w' := hg; replace a0 := hg.cell a0; replace a1 := hg.cell a1; replace a2 := hg.cell a2; replace a3 := hg.cell a3; replace b0 := hg.cell b0; replace b1 := hg.cell b1; replace b2 := hg.cell b2; replace b3 := hg.cell b3; replace c0 := hg.cell c0; replace c1 := hg.cell c1; replace c2 := hg.cell c2; replace c3 := hg.cell c3; replace d0 := hg.cell d0; replace d1 := hg.cell d1; replace d2 := hg.cell d2; replace d3 := hg.cell d3; replace e0 := hg.cell e0; replace e1 := hg.cell e1; replace e2 := hg.cell e2; replace e3 := hg.cell e3; replace HB := Lib.hid (HB.out.grow hg); replace HG := Lib.hid (HG.out.trans hg); clear hg)
        go_wp2
        go_meet
        exact ⟨rfl, HB.out, HG.out⟩
      | true =>
        have j1 := Lib.hid (HI.out _ _ _ k1)
        have j2 := Lib.hid (HI.out _ _ _ k2)
        have j3 := Lib.hid (HI.out _ _ _ (M6.out k1 k2))
        clear k1 k2
        go_wp2_with first
          | (go_at_call 34; (with_reducible refine Calls.mono (j1.out _) ?_); rintro e w' ⟨rfl, hg⟩; replace hg : Grow _ w' := hg; replace a0 := hg.cell a0; replace a1 := hg.cell a1; replace a2 := hg.cell a2; replace a3 := hg.cell a3; replace b0 := hg.cell b0; replace b1 := hg.cell b1; replace b2 := hg.cell b2; replace b3 := hg.cell b3; replace c0 := hg.cell c0; replace c1 := hg.cell c1; replace c2 := hg.cell c2; replace c3 := hg.cell c3; replace d0 := hg.cell d0; replace d1 := hg.cell d1; replace d2 := hg.cell d2; replace d3 := hg.cell d3; replace e0 := hg.cell e0; replace e1 := hg.cell e1; replace e2 := hg.cell e2; replace e3 := hg.cell e3; replace HB := Lib.hid (HB.out.grow hg); replace HG := Lib.hid (HG.out.trans hg); clear hg)
          | (go_at_call 34; (with_reducible refine Calls.mono (j2.out _) ?_); rintro e w' ⟨rfl, hg⟩; replace hg : Grow _ w' := hg; replace a0 := hg.cell a0; replace a1 := hg.cell a1; replace a2 := hg.cell a2; replace a3 := hg.cell a3; replace b0 := hg.cell b0; replace b1 := hg.cell b1; replace b2 := hg.cell b2; replace b3 := hg.cell b3; replace c0 := hg.cell c0; replace c1 := hg.cell c1; replace c2 := hg.cell c2; replace c3 := hg.cell c3; replace d0 := hg.cell d0; replace d1 := hg.cell d1; replace d2 := hg.cell d2; replace d3 := hg.cell d3; replace e0 := hg.cell e0; replace e1 := hg.cell e1; replace e2 := hg.cell e2; replace e3 := hg.cell e3; replace HB := Lib.hid (HB.out.grow hg); replace HG := Lib.hid (HG.out.trans hg); clear hg)
          | (go_at_call 34; (with_reducible refine Calls.mono (j3.out _) ?_); rintro e w' ⟨rfl, hg⟩; replace hg : Grow _ w' := hg; replace a0 := hg.cell a0; replace a1 := hg.cell a1; replace a2 := hg.cell a2; replace a3 := hg.cell a3; replace b0 := hg.cell b0; replace b1 := hg.cell b1; replace b2 := hg.cell b2; replace b3 := hg.cell b3; replace c0 := hg.cell c0; replace c1 := hg.cell c1; replace c2 := hg.cell c2; replace c3 := hg.cell c3; replace d0 := hg.cell d0; replace d1 := hg.cell d1; replace d2 := hg.cell d2; replace d3 := hg.cell d3; replace e0 := hg.cell e0; replace e1 := hg.cell e1; replace e2 := hg.cell e2; replace e3 := hg.cell e3; replace HB := Lib.hid (HB.out.grow hg); replace HG := Lib.hid (HG.out.trans hg); clear hg)
        go_wp2
        go_meet
        exact ⟨rfl, HB.out, HG.out⟩
  case rest =>
  obtain ⟨rfl, hBX, hG0⟩ := hcut
  obtain ⟨W2, rfl⟩ : ∃ W2 : World, W2 = wc := ⟨_, rfl⟩
  replace HG := Lib.hid hG0
  clear hG0
  obtain ⟨⟨a0, a1, a2, a3⟩, ⟨b0, b1, b2, b3⟩, ⟨c0, c1, c2, c3⟩, ⟨d0, d1, d2, d3⟩, ⟨e0, e1, e2, e3⟩⟩ := id hBX
  clear hBX
  go_wp2_with fail
  refine q_region (C := fun x => Grow W2 x) (by kernel_rfl) (by kernel_rfl) (Grow.drew _) ?_
  repeat (first
    | go_big_quiet_skip
    | (go_big_quiet_want; refine q_val ?_; apply Exists.intro; refine ⟨fun x hx => ?_, ?_⟩; (focus (replace hx : Grow W2 x := hx; have xa0 := hx.cell a0; have xa1 := hx.cell a1; have xa2 := hx.cell a2; have xa3 := hx.cell a3; have xb0 := hx.cell b0; have xb1 := hx.cell b1; have xb2 := hx.cell b2; have xb3 := hx.cell b3; have xc0 := hx.cell c0; have xc1 := hx.cell c1; have xc2 := hx.cell c2; have xc3 := hx.cell c3; have xd0 := hx.cell d0; have xd1 := hx.cell d1; have xd2 := hx.cell d2; have xd3 := hx.cell d3; have xe0 := hx.cell e0; have xe1 := hx.cell e1; have xe2 := hx.cell e2; have xe3 := hx.cell e3; go_simp <;> rfl)); simp only [Act.put, List.setIfInBounds_toArray, List.set_cons_zero, List.set_cons_succ]; go_big_quiet_on)
    | (go_big_quiet_want; refine q_call 38 ?_; apply Exists.intro; refine ⟨fun x hx => ?_, ?_⟩; (focus (go_simp <;> rfl)); apply Exists.intro; refine ⟨fun x hx => ?_, ?_⟩; (focus ((with_reducible refine Calls.mono (H3.out _) ?_); exact fun e w' h => ⟨h.1, Grow.trans hx h.2⟩)); simp only [Act.put, List.setIfInBounds_toArray, List.set_cons_zero, List.set_cons_succ]; go_big_quiet_on)
    | (go_big_quiet_want; refine q_call 38 ?_; apply Exists.intro; refine ⟨fun x hx => ?_, ?_⟩; (focus (go_simp <;> rfl)); apply Exists.intro; refine ⟨fun x hx => ?_, ?_⟩; (focus ((with_reducible refine Calls.mono (H5.out _) ?_); exact fun e w' h => ⟨h.1, Grow.trans hx h.2⟩)); simp only [Act.put, List.setIfInBounds_toArray, List.set_cons_zero, List.set_cons_succ]; go_big_quiet_on)
    | (go_big_quiet_want; refine q_call 38 ?_; apply Exists.intro; refine ⟨fun x hx => ?_, ?_⟩; (focus (go_simp <;> rfl)); apply Exists.intro; refine ⟨fun x hx => ?_, ?_⟩; (focus ((with_reducible refine Calls.mono (H7.out _) ?_); exact fun e w' h => ⟨h.1, Grow.trans hx h.2⟩)); simp only [Act.put, List.setIfInBounds_toArray, List.set_cons_zero, List.set_cons_succ]; go_big_quiet_on)
    | (go_big_quiet_want; refine q_call 38 ?_; apply Exists.intro; refine ⟨fun x hx => ?_, ?_⟩; (focus (go_simp <;> rfl)); apply Exists.intro; refine ⟨fun x hx => ?_, ?_⟩; (focus ((with_reducible refine Calls.mono (H9.out _) ?_); exact fun e w' h => ⟨h.1, Grow.trans hx h.2⟩)); simp only [Act.put, List.setIfInBounds_toArray, List.set_cons_zero, List.set_cons_succ]; go_big_quiet_on)
    | (go_big_quiet_want; refine q_call 18 ?_; apply Exists.intro; refine ⟨fun x hx => ?_, ?_⟩; (focus (go_simp <;> rfl)); apply Exists.intro; refine ⟨fun x hx => ?_, ?_⟩; (focus ((with_reducible refine Calls.mono (H4.out _) ?_); exact fun e w' h => ⟨h.1, Grow.trans hx h.2⟩)); simp only [Act.put, List.setIfInBounds_toArray, List.set_cons_zero, List.set_cons_succ]; go_big_quiet_on)
    | (go_big_quiet_want; refine q_call 18 ?_; apply Exists.intro; refine ⟨fun x hx => ?_, ?_⟩; (focus (go_simp <;> rfl)); apply Exists.intro; refine ⟨fun x hx => ?_, ?_⟩; (focus ((with_reducible refine Calls.mono (H6.out _) ?_); exact fun e w' h => ⟨h.1, Grow.trans hx h.2⟩)); simp only [Act.put, List.setIfInBounds_toArray, List.set_cons_zero, List.set_cons_succ]; go_big_quiet_on)
    | (go_big_quiet_want; refine q_call 18 ?_; apply Exists.intro; refine ⟨fun x hx => ?_, ?_⟩; (focus (go_simp <;> rfl)); apply Exists.intro; refine ⟨fun x hx => ?_, ?_⟩; (focus ((with_reducible refine Calls.mono (H8.out _) ?_); exact fun e w' h => ⟨h.1, Grow.trans hx h.2⟩)); simp only [Act.put, List.setIfInBounds_toArray, List.set_cons_zero, List.set_cons_succ]; go_big_quiet_on)
    | (go_big_quiet_want; refine q_call 18 ?_; apply Exists.intro; refine ⟨fun x hx => ?_, ?_⟩; (focus (go_simp <;> rfl)); apply Exists.intro; refine ⟨fun x hx => ?_, ?_⟩; (focus ((with_reducible refine Calls.mono (H10.out _) ?_); exact fun e w' h => ⟨h.1, Grow.trans hx h.2⟩)); simp only [Act.put, List.setIfInBounds_toArray, List.set_cons_zero, List.set_cons_succ]; go_big_quiet_on)
    | (go_big_quiet_want; refine q_call 35 ?_; apply Exists.intro; refine ⟨fun x hx => ?_, ?_⟩; (focus (go_simp <;> rfl)); apply Exists.intro; refine ⟨fun x hx => ?_, ?_⟩; (focus ((with_reducible refine Calls.mono (HE.out _ _) ?_); exact fun e w' h => ⟨h.1, Grow.trans hx h.2⟩)); simp only [Act.put, List.setIfInBounds_toArray, List.set_cons_zero, List.set_cons_succ]; go_big_quiet_on))
  refine wpQuiet_nil ?_
  intro W3 hW3
  replace hW3 : Grow W2 W3 := hW3
  replace a0 := hW3.cell a0
  replace a1 := hW3.cell a1
  replace a2 := hW3.cell a2
  replace a3 := hW3.cell a3
  replace b0 := hW3.cell b0
  replace b1 := hW3.cell b1
  replace b2 := hW3.cell b2
  replace b3 := hW3.cell b3
  replace c0 := hW3.cell c0
  replace c1 := hW3.cell c1
  replace c2 := hW3.cell c2
  replace c3 := hW3.cell c3
  replace d0 := hW3.cell d0
  replace d1 := hW3.cell d1
  replace d2 := hW3.cell d2
  replace d3 := hW3.cell d3
  replace e0 := hW3.cell e0
  replace e1 := hW3.cell e1
  replace e2 := hW3.cell e2
  replace e3 := hW3.cell e3
  replace HG := Lib.hid (HG.out.trans hW3)
  clear hW3
  have j1 := Lib.hid (HI.out _ _ _ M1.out)
  have j2 := Lib.hid (HI.out _ _ _ M2.out)
  have j3 := Lib.hid (HI.out _ _ _ M3.out)
  have j4 := Lib.hid (HI.out _ _ _ M4.out)
  go_wp2_with first
    | (go_at_call 34; (with_reducible refine Calls.mono (j1.out _) ?_); rintro e w' ⟨rfl, hg⟩; replace hg : Grow _ w' := hg; replace a0 := hg.cell a0; replace a1 := hg.cell a1; replace a2 := hg.cell a2; replace a3 := hg.cell a3; replace b0 := hg.cell b0; replace b1 := hg.cell b1; replace b2 := hg.cell b2; replace b3 := hg.cell b3; replace c0 := hg.cell c0; replace c1 := hg.cell c1; replace c2 := hg.cell c2; replace c3 := hg.cell c3; replace d0 := hg.cell d0; replace d1 := hg.cell d1; replace d2 := hg.cell d2; replace d3 := hg.cell d3; replace e0 := hg.cell e0; replace e1 := hg.cell e1; replace e2 := hg.cell e2; replace e3 := hg.cell e3; replace HG := Lib.hid (HG.out.trans hg); clear hg)
    | (go_at_call 34; (with_reducible refine Calls.mono (j2.out _) ?_); rintro e w' ⟨rfl, hg⟩; replace hg : Grow _ w' := hg; replace a0 := hg.cell a0; replace a1 := hg.cell a1; replace a2 := hg.cell a2; replace a3 := hg.cell a3; replace b0 := hg.cell b0; replace b1 := hg.cell b1; replace b2 := hg.cell b2; replace b3 := hg.cell b3; replace c0 := hg.cell c0; replace c1 := hg.cell c1; replace c2 := hg.cell c2; replace c3 := hg.cell c3; replace d0 := hg.cell d0; replace d1 := hg.cell d1; replace d2 := hg.cell d2; replace d3 := hg.cell d3; replace e0 := hg.cell e0; replace e1 := hg.cell e1; replace e2 := hg.cell e2; replace e3 := hg.cell e3; replace HG := Lib.hid (HG.out.trans hg); clear hg)
    | (go_at_call 34; (with_reducible refine Calls.mono (j3.out _) ?_); rintro e w' ⟨rfl, hg⟩; replace hg : Grow _ w' := hg; replace a0 := hg.cell a0; replace a1 := hg.cell a1; replace a2 := hg.cell a2; replace a3 := hg.cell a3; replace b0 := hg.cell b0; replace b1 := hg.cell b1; replace b2 := hg.cell b2; replace b3 := hg.cell b3; replace c0 := hg.cell c0; replace c1 := hg.cell c1; replace c2 := hg.cell c2; replace c3 := hg.cell c3; replace d0 := hg.cell d0; replace d1 := hg.cell d1; replace d2 := hg.cell d2; replace d3 := hg.cell d3; replace e0 := hg.cell e0; replace e1 := hg.cell e1; replace e2 := hg.cell e2; replace e3 := hg.cell e3; replace HG := Lib.hid (HG.out.trans hg); clear hg)
    | (go_at_call 34; (with_reducible refine Calls.mono (j4.out _) ?_); rintro e w' ⟨rfl, hg⟩; replace hg : Grow _ w' := hg; replace a0 := hg.cell a0; replace a1 := hg.cell a1; replace a2 := hg.cell a2; replace a3 := hg.cell a3; replace b0 := hg.cell b0; replace b1 := hg.cell b1; replace b2 := hg.cell b2; replace b3 := hg.cell b3; replace c0 := hg.cell c0; replace c1 := hg.cell c1; replace c2 := hg.cell c2; replace c3 := hg.cell c3; replace d0 := hg.cell d0; replace d1 := hg.cell d1; replace d2 := hg.cell d2; replace d3 := hg.cell d3; replace e0 := hg.cell e0; replace e1 := hg.cell e1; replace e2 := hg.cell e2; replace e3 := hg.cell e3; replace HG := Lib.hid (HG.out.trans hg); clear hg)
  go_ret
  exact ⟨rfl, HG.out⟩
end rectLattice
end Go.Proofs.Ytplnhmfkflnhpaa
