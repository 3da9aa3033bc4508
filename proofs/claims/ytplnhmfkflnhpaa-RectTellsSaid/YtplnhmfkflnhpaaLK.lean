/- Walk of the law RectTells of layer 3: it returns true and writes nothing that was there. -/
import Derived.Test.YtplnhmfkflnhpaaLJ
set_option linter.unusedVariables false
namespace Go.Proofs.Ytplnhmfkflnhpaa
open Go.RowKit
namespace rectTells
set_option maxRecDepth 100000 in
set_option maxHeartbeats 8000000 in
theorem walk (x0 y0 x1 y1 u0 v0 u1 v1 n0 n1 n2 : Int) (w : World) (wf0 : (Lit.int .i64 x0).wf = true) (wf1 : (Lit.int .i64 y0).wf = true) (wf2 : (Lit.int .i64 x1).wf = true) (wf3 : (Lit.int .i64 y1).wf = true) (wf4 : (Lit.int .i64 u0).wf = true) (wf5 : (Lit.int .i64 v0).wf = true) (wf6 : (Lit.int .i64 u1).wf = true) (wf7 : (Lit.int .i64 v1).wf = true) (wf8 : (Lit.int .i64 n0).wf = true) (wf9 : (Lit.int .i64 n1).wf = true) (wf10 : (Lit.int .i64 n2).wf = true) :
    Calls Try.prog 12 #[.agg #[.int .i64 x0, .int .i64 y0, .int .i64 x1, .int .i64 y1], .agg #[.int .i64 u0, .int .i64 v0, .int .i64 u1, .int .i64 v1], .agg #[.int .i64 n0, .int .i64 n1, .int .i64 n2]] w fun e w' => e = .returned (.bool true) ∧ Below w.heap.size w w' := by
  have hS1 : ∀ w, Calls Try.prog 24 #[.agg #[.int .i64 x0, .int .i64 y0, .int .i64 x1, .int .i64 y1]] w fun e w' => e = .returned (.agg #[.int .i64 (smallR x0 y0 x1 y1).x0, .int .i64 (smallR x0 y0 x1 y1).y0, .int .i64 (smallR x0 y0 x1 y1).x1, .int .i64 (smallR x0 y0 x1 y1).y1]) ∧ Grow w w' := fun w => small_any x0 y0 x1 y1 w
  have hS2 : ∀ w, Calls Try.prog 24 #[.agg #[.int .i64 u0, .int .i64 v0, .int .i64 u1, .int .i64 v1]] w fun e w' => e = .returned (.agg #[.int .i64 (smallR u0 v0 u1 v1).x0, .int .i64 (smallR u0 v0 u1 v1).y0, .int .i64 (smallR u0 v0 u1 v1).x1, .int .i64 (smallR u0 v0 u1 v1).y1]) ∧ Grow w w' := fun w => small_any u0 v0 u1 v1 w
  generalize smallR x0 y0 x1 y1 = a at hS1
  generalize smallR u0 v0 u1 v1 = b at hS2
  have hx : ∀ (a b : R) (k0 k1 k2 : Int) w, Calls Try.prog 41 #[.agg #[.int .i64 a.x0, .int .i64 a.y0, .int .i64 a.x1, .int .i64 a.y1], .agg #[.int .i64 b.x0, .int .i64 b.y0, .int .i64 b.x1, .int .i64 b.y1], .agg #[.int .i64 k0, .int .i64 k1, .int .i64 k2]] w fun e w' => e = .returned (.bool true) ∧ Grow w w' := fun a b k0 k1 k2 w => exact_any a b k0 k1 k2 w
  have j1 := Lib.hid (hx ⟨x0, y0, x1, y1⟩ ⟨u0, v0, u1, v1⟩ n0 n1 n2)
  have j2 := Lib.hid (hx a b (n0.tmod 60) (n1.tmod 60) (n2.tmod 12))
  have j3 := Lib.hid (hx b a (n0.tmod 60) (n1.tmod 60) (n2.tmod 12))
  have j4 := Lib.hid (hx a a (n0.tmod 60) (n1.tmod 60) (n2.tmod 12))
  have HS1 := Lib.hid hS1
  have HS2 := Lib.hid hS2
  clear hx hS1 hS2
  go_enter Try.func12, Try.ntmps12
  go_wp2_with fail
  refine (sanity_any _).mono ?_
  rintro e w1 ⟨rfl, hg1⟩
  have hG := Grow.trans ((((Grow.refl w).a (.cells #[.int .i64 x0, .int .i64 y0, .int .i64 x1, .int .i64 y1] 26)).a (.cells #[.int .i64 u0, .int .i64 v0, .int .i64 u1, .int .i64 v1] 26)).a (.cells #[.int .i64 n0, .int .i64 n1, .int .i64 n2] 34)) hg1
  obtain ⟨hc, hf⟩ := bcell hg1
  have hz1 : w.heap.size < w1.heap.size ∧ w.heap.size + 1 < w1.heap.size ∧ w.heap.size + 1 + 1 < w1.heap.size := by (have := hg1.size; simp at this; omega)
  obtain ⟨hz1, hz1a, hz1b⟩ := hz1
  go_wp2_with fail
  refine (HS1.out _).mono ?_
  rintro e w2 ⟨rfl, hg2⟩
  obtain ⟨hc2, hf2⟩ := bcell hg2
  have hz2 : w.heap.size < w2.heap.size ∧ w.heap.size + 1 < w2.heap.size ∧ w.heap.size + 1 + 1 < w2.heap.size := by (have := hg2.size; omega)
  obtain ⟨hz2, hz2a, hz2b⟩ := hz2
  go_wp2_with fail
  refine (HS2.out _).mono ?_
  rintro e w3 ⟨rfl, hg3⟩
  obtain ⟨hc3, hf3⟩ := bcell hg3
  have hz3 : w.heap.size < w3.heap.size ∧ w.heap.size + 1 < w3.heap.size ∧ w.heap.size + 1 + 1 < w3.heap.size ∧ w2.heap.size < w3.heap.size := by (have := hg3.size; simp at this; omega)
  obtain ⟨hz3, hz3a, hz3b, hz3c⟩ := hz3
  go_upto_region 5 with fail
  refine wp_gen (fun W0 => ((W0.cell? ⟨w.heap.size, 0, none⟩ = some (.int .i64 x0) ∧ W0.cell? ⟨w.heap.size, 1, none⟩ = some (.int .i64 y0) ∧ W0.cell? ⟨w.heap.size, 2, none⟩ = some (.int .i64 x1) ∧ W0.cell? ⟨w.heap.size, 3, none⟩ = some (.int .i64 y1)) ∧ (W0.cell? ⟨w.heap.size + 1, 0, none⟩ = some (.int .i64 u0) ∧ W0.cell? ⟨w.heap.size + 1, 1, none⟩ = some (.int .i64 v0) ∧ W0.cell? ⟨w.heap.size + 1, 2, none⟩ = some (.int .i64 u1) ∧ W0.cell? ⟨w.heap.size + 1, 3, none⟩ = some (.int .i64 v1)) ∧ (W0.cell? ⟨w.heap.size + 1 + 1, 0, none⟩ = some (.int .i64 n0) ∧ W0.cell? ⟨w.heap.size + 1 + 1, 1, none⟩ = some (.int .i64 n1) ∧ W0.cell? ⟨w.heap.size + 1 + 1, 2, none⟩ = some (.int .i64 n2)) ∧ (W0.cell? ⟨w2.heap.size, 0, none⟩ = some (.int .i64 a.x0) ∧ W0.cell? ⟨w2.heap.size, 1, none⟩ = some (.int .i64 a.y0) ∧ W0.cell? ⟨w2.heap.size, 2, none⟩ = some (.int .i64 a.x1) ∧ W0.cell? ⟨w2.heap.size, 3, none⟩ = some (.int .i64 a.y1)) ∧ (W0.cell? ⟨w3.heap.size, 0, none⟩ = some (.int .i64 b.x0) ∧ W0.cell? ⟨w3.heap.size, 1, none⟩ = some (.int .i64 b.y0) ∧ W0.cell? ⟨w3.heap.size, 2, none⟩ = some (.int .i64 b.x1) ∧ W0.cell? ⟨w3.heap.size, 3, none⟩ = some (.int .i64 b.y1)) ∧ (W0.cell? ⟨w3.heap.size + 1, 0, none⟩ = some (.int .i64 (n0.tmod 60)) ∧ W0.cell? ⟨w3.heap.size + 1, 1, none⟩ = some (.int .i64 (n1.tmod 60)) ∧ W0.cell? ⟨w3.heap.size + 1, 2, none⟩ = some (.int .i64 (n2.tmod 12)))) ∧ Grow w W0) ⟨by go_simp, ((((hG.trans hg2).a _).trans hg3).a _).a _⟩ ?_
  rintro W0 ⟨⟨⟨a0, a1, a2, a3⟩, ⟨b0, b1, b2, b3⟩, ⟨c0, c1, c2⟩, ⟨d0, d1, d2, d3⟩, ⟨e0, e1, e2, e3⟩, ⟨f0, f1, f2⟩⟩, hG0⟩
  have HG := Lib.hid hG0
  clear hc hf hc2 hf2 hc3 hf3 hz1 hz1a hz1b hz2 hz2a hz2b hz3 hz3a hz3b hz3c hg1 hg2 hg3 hG hG0 HS1 HS2
  go_wp2_with first
    | (go_at_call 41; (with_reducible refine Calls.mono (j1.out _) ?_); rintro e w' ⟨rfl, hg⟩; replace hg : Grow _ w' := hg; replace a0 := hg.cell a0; replace a1 := hg.cell a1; replace a2 := hg.cell a2; replace a3 := hg.cell a3; replace b0 := hg.cell b0; replace b1 := hg.cell b1; replace b2 := hg.cell b2; replace b3 := hg.cell b3; replace c0 := hg.cell c0; replace c1 := hg.cell c1; replace c2 := hg.cell c2; replace d0 := hg.cell d0; replace d1 := hg.cell d1; replace d2 := hg.cell d2; replace d3 := hg.cell d3; replace e0 := hg.cell e0; replace e1 := hg.cell e1; replace e2 := hg.cell e2; replace e3 := hg.cell e3; replace f0 := hg.cell f0; replace f1 := hg.cell f1; replace f2 := hg.cell f2; replace HG := Lib.hid (HG.out.trans hg); clear hg)
    | (go_at_call 41; (with_reducible refine Calls.mono (j2.out _) ?_); rintro e w' ⟨rfl, hg⟩; replace hg : Grow _ w' := hg; replace a0 := hg.cell a0; replace a1 := hg.cell a1; replace a2 := hg.cell a2; replace a3 := hg.cell a3; replace b0 := hg.cell b0; replace b1 := hg.cell b1; replace b2 := hg.cell b2; replace b3 := hg.cell b3; replace c0 := hg.cell c0; replace c1 := hg.cell c1; replace c2 := hg.cell c2; replace d0 := hg.cell d0; replace d1 := hg.cell d1; replace d2 := hg.cell d2; replace d3 := hg.cell d3; replace e0 := hg.cell e0; replace e1 := hg.cell e1; replace e2 := hg.cell e2; replace e3 := hg.cell e3; replace f0 := hg.cell f0; replace f1 := hg.cell f1; replace f2 := hg.cell f2; replace HG := Lib.hid (HG.out.trans hg); clear hg)
    | (go_at_call 41; (with_reducible refine Calls.mono (j3.out _) ?_); rintro e w' ⟨rfl, hg⟩; replace hg : Grow _ w' := hg; replace a0 := hg.cell a0; replace a1 := hg.cell a1; replace a2 := hg.cell a2; replace a3 := hg.cell a3; replace b0 := hg.cell b0; replace b1 := hg.cell b1; replace b2 := hg.cell b2; replace b3 := hg.cell b3; replace c0 := hg.cell c0; replace c1 := hg.cell c1; replace c2 := hg.cell c2; replace d0 := hg.cell d0; replace d1 := hg.cell d1; replace d2 := hg.cell d2; replace d3 := hg.cell d3; replace e0 := hg.cell e0; replace e1 := hg.cell e1; replace e2 := hg.cell e2; replace e3 := hg.cell e3; replace f0 := hg.cell f0; replace f1 := hg.cell f1; replace f2 := hg.cell f2; replace HG := Lib.hid (HG.out.trans hg); clear hg)
    | (go_at_call 41; (with_reducible refine Calls.mono (j4.out _) ?_); rintro e w' ⟨rfl, hg⟩; replace hg : Grow _ w' := hg; replace a0 := hg.cell a0; replace a1 := hg.cell a1; replace a2 := hg.cell a2; replace a3 := hg.cell a3; replace b0 := hg.cell b0; replace b1 := hg.cell b1; replace b2 := hg.cell b2; replace b3 := hg.cell b3; replace c0 := hg.cell c0; replace c1 := hg.cell c1; replace c2 := hg.cell c2; replace d0 := hg.cell d0; replace d1 := hg.cell d1; replace d2 := hg.cell d2; replace d3 := hg.cell d3; replace e0 := hg.cell e0; replace e1 := hg.cell e1; replace e2 := hg.cell e2; replace e3 := hg.cell e3; replace f0 := hg.cell f0; replace f1 := hg.cell f1; replace f2 := hg.cell f2; replace HG := Lib.hid (HG.out.trans hg); clear hg)
  go_ret
  exact ⟨rfl, HG.out⟩
end rectTells
end Go.Proofs.Ytplnhmfkflnhpaa
