/- Walk of the law RectZooms of layer 3: it returns true and writes nothing that was there. -/
import Derived.Test.YtplnhmfkflnhpaaB
import Derived.Test.YtplnhmfkflnhpaaLB
set_option linter.unusedVariables false
namespace Go.Proofs.Ytplnhmfkflnhpaa
open Go.RowKit
theorem eqR (a b c d : Int) (W : World) : (binOp .eql 26 (.agg #[.int .i64 a, .int .i64 b, .int .i64 c, .int .i64 d]) (.agg #[.int .i64 a, .int .i64 b, .int .i64 c, .int .i64 d])).run Try.prog W = .ok (.bool true) W := by
  rw [eql26]; simp [same]
theorem eqT (a b : Int) (W : World) : (binOp .eql 31 (.agg #[.int .i64 a, .int .i64 b]) (.agg #[.int .i64 a, .int .i64 b])).run Try.prog W = .ok (.bool true) W := by
  rw [eql31]; simp [same2]
namespace rectZooms
set_option maxRecDepth 100000 in
set_option maxHeartbeats 4000000 in
theorem walk (x0 y0 x1 y1 n0 n1 n2 : Int) (w : World) (w0 : (Lit.int .i64 x0).wf = true) (w1 : (Lit.int .i64 y0).wf = true) (w2 : (Lit.int .i64 x1).wf = true) (w3 : (Lit.int .i64 y1).wf = true) (w4 : (Lit.int .i64 n0).wf = true) (w5 : (Lit.int .i64 n1).wf = true) (w6 : (Lit.int .i64 n2).wf = true) :
    Calls Try.prog 5 #[.agg #[.int .i64 x0, .int .i64 y0, .int .i64 x1, .int .i64 y1], .agg #[.int .i64 n0, .int .i64 n1, .int .i64 n2]] w fun e w' => e = .returned (.bool true) ∧ Below w.heap.size w w' := by
  obtain ⟨r, hr⟩ : ∃ r : R, r = ⟨x0, y0, x1, y1⟩ := ⟨_, rfl⟩
  obtain ⟨rfl, rfl, rfl, rfl⟩ : r.x0 = x0 ∧ r.y0 = y0 ∧ r.x1 = x1 ∧ r.y1 = y1 := by subst hr; exact ⟨rfl, rfl, rfl, rfl⟩
  clear hr
  obtain ⟨s, hs⟩ : ∃ s, smallR r.x0 r.y0 r.x1 r.y1 = s := ⟨_, rfl⟩
  have hsm := fun w => small_any r.x0 r.y0 r.x1 r.y1 w
  rw [hs] at hsm
  clear hs
  have HS := Lib.hid hsm
  clear hsm
  go_enter Try.func5, Try.ntmps5
  go_wp2_with fail
  refine (sanity_any _).mono ?_
  rintro e v1 ⟨rfl, hg1⟩
  have hG1 := Grow.trans (((Grow.refl w).a (.cells #[.int .i64 r.x0, .int .i64 r.y0, .int .i64 r.x1, .int .i64 r.y1] 26)).a (.cells #[.int .i64 n0, .int .i64 n1, .int .i64 n2] 34)) hg1
  obtain ⟨hc, hf⟩ := bcell hg1
  have hz1 : w.heap.size < v1.heap.size := by (have := hg1.size; simp at this; omega)
  have hz1' : w.heap.size + 1 < v1.heap.size := by (have := hg1.size; simp at this; omega)
  go_wp2_with fail
  refine (HS.out _).mono ?_
  rintro e v2 ⟨rfl, hg2⟩
  have hG2 := hG1.trans hg2
  obtain ⟨hc2, hf2⟩ := bcell hg2
  have hz2 : w.heap.size < v2.heap.size := by (have := hg2.size; omega)
  have hz2' : w.heap.size + 1 < v2.heap.size := by (have := hg2.size; omega)
  go_wp2_with fail
  refine wp_gen (fun W0 => ((W0.cell? ⟨w.heap.size, 0, none⟩ = some (.int .i64 r.x0) ∧ W0.cell? ⟨w.heap.size, 1, none⟩ = some (.int .i64 r.y0) ∧ W0.cell? ⟨w.heap.size, 2, none⟩ = some (.int .i64 r.x1) ∧ W0.cell? ⟨w.heap.size, 3, none⟩ = some (.int .i64 r.y1)) ∧ (W0.cell? ⟨w.heap.size + 1, 0, none⟩ = some (.int .i64 n0) ∧ W0.cell? ⟨w.heap.size + 1, 1, none⟩ = some (.int .i64 n1) ∧ W0.cell? ⟨w.heap.size + 1, 2, none⟩ = some (.int .i64 n2)) ∧ (W0.cell? ⟨v2.heap.size, 0, none⟩ = some (.int .i64 s.x0) ∧ W0.cell? ⟨v2.heap.size, 1, none⟩ = some (.int .i64 s.y0) ∧ W0.cell? ⟨v2.heap.size, 2, none⟩ = some (.int .i64 s.x1) ∧ W0.cell? ⟨v2.heap.size, 3, none⟩ = some (.int .i64 s.y1)) ∧ (W0.cell? ⟨v2.heap.size + 1, 0, none⟩ = some (.int .i64 n0) ∧ W0.cell? ⟨v2.heap.size + 1, 1, none⟩ = some (.int .i64 n1))) ∧ Grow w W0) ⟨by go_simp, (hG2.a _).a _⟩ ?_
  rintro W0 ⟨⟨⟨a0, a1, a2, a3⟩, ⟨b0, b1, b2⟩, ⟨c0, c1, c2, c3⟩, d0, d1⟩, hG0⟩
  have HG0 := Lib.hid hG0
  clear hc hf hc2 hf2 hG1 hG2 hg1 hg2 hz1 hz1' hz2 hz2' hG0 HS
  have hq := eqR
  have hq2 := eqT
  refine q_region (C := fun x => Grow W0 x) (by kernel_rfl) (by kernel_rfl) (Grow.drew _) ?_
  repeat (first
    | go_big_quiet_skip
    | (go_big_quiet_want; refine q_val ?_; apply Exists.intro; refine ⟨fun x hx => ?_, ?_⟩; (focus (replace hx : Grow W0 x := hx; have xa0 := hx.cell a0; have xa1 := hx.cell a1; have xa2 := hx.cell a2; have xa3 := hx.cell a3; have xb0 := hx.cell b0; have xb1 := hx.cell b1; have xb2 := hx.cell b2; have xc0 := hx.cell c0; have xc1 := hx.cell c1; have xc2 := hx.cell c2; have xc3 := hx.cell c3; have xd0 := hx.cell d0; have xd1 := hx.cell d1; go_simp <;> rfl)); simp only [Act.put, List.setIfInBounds_toArray, List.set_cons_zero, List.set_cons_succ]; go_big_quiet_on)
    | (go_big_quiet_want; refine q_call 25 ?_; apply Exists.intro; refine ⟨fun x hx => ?_, ?_⟩; (focus (go_simp <;> rfl)); apply Exists.intro; refine ⟨fun x hx => ?_, ?_⟩; (focus (exact (scale_any _ _ _).mono fun e w' h => ⟨h.1, Grow.trans hx h.2⟩)); simp only [Act.put, List.setIfInBounds_toArray, List.set_cons_zero, List.set_cons_succ]; go_big_quiet_on)
    | (go_big_quiet_want; refine q_call 26 ?_; apply Exists.intro; refine ⟨fun x hx => ?_, ?_⟩; (focus (go_simp <;> rfl)); apply Exists.intro; refine ⟨fun x hx => ?_, ?_⟩; (focus (exact (scale_ref _ _ _).mono fun e w' h => ⟨h.1, Grow.trans hx h.2⟩)); simp only [Act.put, List.setIfInBounds_toArray, List.set_cons_zero, List.set_cons_succ]; go_big_quiet_on)
    | (go_big_quiet_want; refine q_call 27 ?_; apply Exists.intro; refine ⟨fun x hx => ?_, ?_⟩; (focus (go_simp <;> rfl)); apply Exists.intro; refine ⟨fun x hx => ?_, ?_⟩; (focus (exact (shrink_any _ _ _).mono fun e w' h => ⟨h.1, Grow.trans hx h.2⟩)); simp only [Act.put, List.setIfInBounds_toArray, List.set_cons_zero, List.set_cons_succ]; go_big_quiet_on)
    | (go_big_quiet_want; refine q_call 28 ?_; apply Exists.intro; refine ⟨fun x hx => ?_, ?_⟩; (focus (go_simp <;> rfl)); apply Exists.intro; refine ⟨fun x hx => ?_, ?_⟩; (focus (exact (shrink_ref _ _ _).mono fun e w' h => ⟨h.1, Grow.trans hx h.2⟩)); simp only [Act.put, List.setIfInBounds_toArray, List.set_cons_zero, List.set_cons_succ]; go_big_quiet_on)
    | (go_big_quiet_want; refine q_call 29 ?_; apply Exists.intro; refine ⟨fun x hx => ?_, ?_⟩; (focus (go_simp <;> rfl)); apply Exists.intro; refine ⟨fun x hx => ?_, ?_⟩; (focus (exact (of_any _ _ _).mono fun e w' h => ⟨h.1, Grow.trans hx h.2⟩)); simp only [Act.put, List.setIfInBounds_toArray, List.set_cons_zero, List.set_cons_succ]; go_big_quiet_on)
    | (go_big_quiet_want; refine q_call 30 ?_; apply Exists.intro; refine ⟨fun x hx => ?_, ?_⟩; (focus (go_simp <;> rfl)); apply Exists.intro; refine ⟨fun x hx => ?_, ?_⟩; (focus (exact (of_ref _ _ _).mono fun e w' h => ⟨h.1, Grow.trans hx h.2⟩)); simp only [Act.put, List.setIfInBounds_toArray, List.set_cons_zero, List.set_cons_succ]; go_big_quiet_on)
    | (go_big_quiet_want; refine q_call 31 ?_; apply Exists.intro; refine ⟨fun x hx => ?_, ?_⟩; (focus (go_simp <;> rfl)); apply Exists.intro; refine ⟨fun x hx => ?_, ?_⟩; (focus (exact (at_any _ _ _).mono fun e w' h => ⟨h.1, Grow.trans hx h.2⟩)); simp only [Act.put, List.setIfInBounds_toArray, List.set_cons_zero, List.set_cons_succ]; go_big_quiet_on)
    | (go_big_quiet_want; refine q_call 32 ?_; apply Exists.intro; refine ⟨fun x hx => ?_, ?_⟩; (focus (go_simp <;> rfl)); apply Exists.intro; refine ⟨fun x hx => ?_, ?_⟩; (focus (exact (at_ref _ _ _).mono fun e w' h => ⟨h.1, Grow.trans hx h.2⟩)); simp only [Act.put, List.setIfInBounds_toArray, List.set_cons_zero, List.set_cons_succ]; go_big_quiet_on))
  refine wpQuiet_nil ?_
  intro W1 hW1
  replace hW1 : Grow W0 W1 := hW1
  replace a0 := hW1.cell a0
  replace a1 := hW1.cell a1
  replace a2 := hW1.cell a2
  replace a3 := hW1.cell a3
  replace b0 := hW1.cell b0
  replace b1 := hW1.cell b1
  replace b2 := hW1.cell b2
  replace c0 := hW1.cell c0
  replace c1 := hW1.cell c1
  replace c2 := hW1.cell c2
  replace c3 := hW1.cell c3
  replace d0 := hW1.cell d0
  replace d1 := hW1.cell d1
  have HG1 := Lib.hid (HG0.out.trans hW1)
  clear hW1
  go_wp2_with (go_at_call 19; refine (rest_any _ 6 (by omega) _).mono ?_; rintro e w' ⟨rfl, rfl⟩)
  refine q_region (C := fun x => Grow W1 x) (by kernel_rfl) (by kernel_rfl) (Grow.drew _) ?_
  repeat (first
    | go_big_quiet_skip
    | (go_big_quiet_want; refine q_val ?_; apply Exists.intro; refine ⟨fun x hx => ?_, ?_⟩; (focus (replace hx : Grow W1 x := hx; have xa0 := hx.cell a0; have xa1 := hx.cell a1; have xa2 := hx.cell a2; have xa3 := hx.cell a3; have xb0 := hx.cell b0; have xb1 := hx.cell b1; have xb2 := hx.cell b2; have xc0 := hx.cell c0; have xc1 := hx.cell c1; have xc2 := hx.cell c2; have xc3 := hx.cell c3; have xd0 := hx.cell d0; have xd1 := hx.cell d1; go_simp <;> rfl)); simp only [Act.put, List.setIfInBounds_toArray, List.set_cons_zero, List.set_cons_succ]; go_big_quiet_on)
    | (go_big_quiet_want; refine q_call 25 ?_; apply Exists.intro; refine ⟨fun x hx => ?_, ?_⟩; (focus (go_simp <;> rfl)); apply Exists.intro; refine ⟨fun x hx => ?_, ?_⟩; (focus (exact (scale_any _ _ _).mono fun e w' h => ⟨h.1, Grow.trans hx h.2⟩)); simp only [Act.put, List.setIfInBounds_toArray, List.set_cons_zero, List.set_cons_succ]; go_big_quiet_on)
    | (go_big_quiet_want; refine q_call 26 ?_; apply Exists.intro; refine ⟨fun x hx => ?_, ?_⟩; (focus (go_simp <;> rfl)); apply Exists.intro; refine ⟨fun x hx => ?_, ?_⟩; (focus (exact (scale_ref _ _ _).mono fun e w' h => ⟨h.1, Grow.trans hx h.2⟩)); simp only [Act.put, List.setIfInBounds_toArray, List.set_cons_zero, List.set_cons_succ]; go_big_quiet_on)
    | (go_big_quiet_want; refine q_call 27 ?_; apply Exists.intro; refine ⟨fun x hx => ?_, ?_⟩; (focus (go_simp <;> rfl)); apply Exists.intro; refine ⟨fun x hx => ?_, ?_⟩; (focus (exact (shrink_any _ _ _).mono fun e w' h => ⟨h.1, Grow.trans hx h.2⟩)); simp only [Act.put, List.setIfInBounds_toArray, List.set_cons_zero, List.set_cons_succ]; go_big_quiet_on)
    | (go_big_quiet_want; refine q_call 28 ?_; apply Exists.intro; refine ⟨fun x hx => ?_, ?_⟩; (focus (go_simp <;> rfl)); apply Exists.intro; refine ⟨fun x hx => ?_, ?_⟩; (focus (exact (shrink_ref _ _ _).mono fun e w' h => ⟨h.1, Grow.trans hx h.2⟩)); simp only [Act.put, List.setIfInBounds_toArray, List.set_cons_zero, List.set_cons_succ]; go_big_quiet_on)
    | (go_big_quiet_want; refine q_call 29 ?_; apply Exists.intro; refine ⟨fun x hx => ?_, ?_⟩; (focus (go_simp <;> rfl)); apply Exists.intro; refine ⟨fun x hx => ?_, ?_⟩; (focus (exact (of_any _ _ _).mono fun e w' h => ⟨h.1, Grow.trans hx h.2⟩)); simp only [Act.put, List.setIfInBounds_toArray, List.set_cons_zero, List.set_cons_succ]; go_big_quiet_on)
    | (go_big_quiet_want; refine q_call 30 ?_; apply Exists.intro; refine ⟨fun x hx => ?_, ?_⟩; (focus (go_simp <;> rfl)); apply Exists.intro; refine ⟨fun x hx => ?_, ?_⟩; (focus (exact (of_ref _ _ _).mono fun e w' h => ⟨h.1, Grow.trans hx h.2⟩)); simp only [Act.put, List.setIfInBounds_toArray, List.set_cons_zero, List.set_cons_succ]; go_big_quiet_on)
    | (go_big_quiet_want; refine q_call 31 ?_; apply Exists.intro; refine ⟨fun x hx => ?_, ?_⟩; (focus (go_simp <;> rfl)); apply Exists.intro; refine ⟨fun x hx => ?_, ?_⟩; (focus (exact (at_any _ _ _).mono fun e w' h => ⟨h.1, Grow.trans hx h.2⟩)); simp only [Act.put, List.setIfInBounds_toArray, List.set_cons_zero, List.set_cons_succ]; go_big_quiet_on)
    | (go_big_quiet_want; refine q_call 32 ?_; apply Exists.intro; refine ⟨fun x hx => ?_, ?_⟩; (focus (go_simp <;> rfl)); apply Exists.intro; refine ⟨fun x hx => ?_, ?_⟩; (focus (exact (at_ref _ _ _).mono fun e w' h => ⟨h.1, Grow.trans hx h.2⟩)); simp only [Act.put, List.setIfInBounds_toArray, List.set_cons_zero, List.set_cons_succ]; go_big_quiet_on))
  refine wpQuiet_nil ?_
  intro W2 hW2
  replace hW2 : Grow W1 W2 := hW2
  have HG2 := Lib.hid (HG1.out.trans hW2)
  clear hW2
  go_wp2
  go_ret
  exact ⟨rfl, HG2.out⟩
end rectZooms
end Go.Proofs.Ytplnhmfkflnhpaa
