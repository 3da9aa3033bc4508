/- Walk of the law RectShrinks of layer 3: it returns true and writes nothing that was there. -/
import Derived.Test.YtplnhmfkflnhpaaSM
set_option linter.unusedVariables false
namespace Go.Proofs.Ytplnhmfkflnhpaa
open Go.RowKit
namespace rectShrinks
set_option maxRecDepth 100000 in
set_option maxHeartbeats 4000000 in
theorem walk (q0 q1 q2 q3 q4 q5 q6 q7 n : Int) (w : World) (wf0 : (Lit.int .i64 q0).wf = true) (wf1 : (Lit.int .i64 q1).wf = true) (wf2 : (Lit.int .i64 q2).wf = true) (wf3 : (Lit.int .i64 q3).wf = true) (wf4 : (Lit.int .i64 q4).wf = true) (wf5 : (Lit.int .i64 q5).wf = true) (wf6 : (Lit.int .i64 q6).wf = true) (wf7 : (Lit.int .i64 q7).wf = true) (wf8 : (Lit.int .i64 n).wf = true) :
    Calls Try.prog 7 #[.agg #[.int .i64 q0, .int .i64 q1, .int .i64 q2, .int .i64 q3, .int .i64 q4, .int .i64 q5, .int .i64 q6, .int .i64 q7], .int .i64 n] w fun e w' => e = .returned (.bool true) ∧ Below w.heap.size w w' := by
  have hs1 := small_sm q0 q1 q2 q3
  have hs2 := small_sm q4 q5 q6 q7
  have hS1 : ∀ w, Calls Try.prog 24 #[.agg #[.int .i64 q0, .int .i64 q1, .int .i64 q2, .int .i64 q3]] w fun e w' => e = .returned (.agg #[.int .i64 (smallR q0 q1 q2 q3).x0, .int .i64 (smallR q0 q1 q2 q3).y0, .int .i64 (smallR q0 q1 q2 q3).x1, .int .i64 (smallR q0 q1 q2 q3).y1]) ∧ Grow w w' := fun w => small_any q0 q1 q2 q3 w
  have hS2 : ∀ w, Calls Try.prog 24 #[.agg #[.int .i64 q4, .int .i64 q5, .int .i64 q6, .int .i64 q7]] w fun e w' => e = .returned (.agg #[.int .i64 (smallR q4 q5 q6 q7).x0, .int .i64 (smallR q4 q5 q6 q7).y0, .int .i64 (smallR q4 q5 q6 q7).x1, .int .i64 (smallR q4 q5 q6 q7).y1]) ∧ Grow w w' := fun w => small_any q4 q5 q6 q7 w
  generalize smallR q0 q1 q2 q3 = r at hs1 hS1
  generalize smallR q4 q5 q6 q7 = c at hs2 hS2
  obtain ⟨z0, z1⟩ := rst_bd n 5 (by omega) (by omega)
  have hre : ∀ w, Calls Try.prog 19 #[.int .i64 n, .int .i64 5] w fun e w' => e = .returned (.int .i64 (rst n 5)) ∧ Grow w w' := fun w => (rest_any n 5 (by omega) w).mono fun e w' h => ⟨h.1, h.2 ▸ Grow.refl _⟩
  generalize rst n 5 = z at z0 z1 hre
  obtain ⟨m1, m2, m3⟩ := shrinks r c z hs1 hs2 z0 (by omega)
  have h1 : ∀ w, Calls Try.prog 27 #[.agg #[.int .i64 r.x0, .int .i64 r.y0, .int .i64 r.x1, .int .i64 r.y1], .int .i64 z] w fun e w' => e = .returned (.agg #[.int .i64 (zm r z shrR).x0, .int .i64 (zm r z shrR).y0, .int .i64 (zm r z shrR).x1, .int .i64 (zm r z shrR).y1]) ∧ Grow w w' := fun w => shrink_any r z w
  have h2 : ∀ w, Calls Try.prog 25 #[.agg #[.int .i64 c.x0, .int .i64 c.y0, .int .i64 c.x1, .int .i64 c.y1], .int .i64 z] w fun e w' => e = .returned (.agg #[.int .i64 (zm c z scaR).x0, .int .i64 (zm c z scaR).y0, .int .i64 (zm c z scaR).x1, .int .i64 (zm c z scaR).y1]) ∧ Grow w w' := fun w => scale_any c z w
  generalize zm r z shrR = s at m1 m2 h1
  generalize zm c z scaR = cs at m2 h2
  have h3 : ∀ w, Calls Try.prog 25 #[.agg #[.int .i64 s.x0, .int .i64 s.y0, .int .i64 s.x1, .int .i64 s.y1], .int .i64 z] w fun e w' => e = .returned (.agg #[.int .i64 (zm s z scaR).x0, .int .i64 (zm s z scaR).y0, .int .i64 (zm s z scaR).x1, .int .i64 (zm s z scaR).y1]) ∧ Grow w w' := fun w => scale_any s z w
  generalize zm s z scaR = ss at m1 h3
  have h4 : ∀ w, Calls Try.prog 25 #[.agg #[.int .i64 r.x0, .int .i64 r.y0, .int .i64 r.x1, .int .i64 r.y1], .int .i64 z] w fun e w' => e = .returned (.agg #[.int .i64 (zm r z scaR).x0, .int .i64 (zm r z scaR).y0, .int .i64 (zm r z scaR).x1, .int .i64 (zm r z scaR).y1]) ∧ Grow w w' := fun w => scale_any r z w
  generalize zm r z scaR = rs at m3 h4
  have h5 : ∀ w, Calls Try.prog 27 #[.agg #[.int .i64 rs.x0, .int .i64 rs.y0, .int .i64 rs.x1, .int .i64 rs.y1], .int .i64 z] w fun e w' => e = .returned (.agg #[.int .i64 (zm rs z shrR).x0, .int .i64 (zm rs z shrR).y0, .int .i64 (zm rs z shrR).x1, .int .i64 (zm rs z shrR).y1]) ∧ Grow w w' := fun w => shrink_any rs z w
  generalize zm rs z shrR = qs at m3 h5
  have h6 : ∀ w, Calls Try.prog 34 #[.agg #[.int .i64 r.x0, .int .i64 r.y0, .int .i64 r.x1, .int .i64 r.y1], .agg #[.int .i64 cs.x0, .int .i64 cs.y0, .int .i64 cs.x1, .int .i64 cs.y1]] w fun e w' => e = .returned (.bool (ins r cs)) ∧ Grow w w' := fun w => ins_any _ _ _ _ _ _ _ _ w
  have h7 : ∀ w, Calls Try.prog 34 #[.agg #[.int .i64 s.x0, .int .i64 s.y0, .int .i64 s.x1, .int .i64 s.y1], .agg #[.int .i64 c.x0, .int .i64 c.y0, .int .i64 c.x1, .int .i64 c.y1]] w fun e w' => e = .returned (.bool (ins s c)) ∧ Grow w w' := fun w => ins_any _ _ _ _ _ _ _ _ w
  have h8 : ∀ w, Calls Try.prog 34 #[.agg #[.int .i64 r.x0, .int .i64 r.y0, .int .i64 r.x1, .int .i64 r.y1], .agg #[.int .i64 ss.x0, .int .i64 ss.y0, .int .i64 ss.x1, .int .i64 ss.y1]] w fun e w' => e = .returned (.bool true) ∧ Grow w w' := fun w => (ins_any _ _ _ _ _ _ _ _ w).mono fun e w' h => ⟨by rw [h.1]; exact ret_bool m1, h.2⟩
  have h9 : ∀ w, Calls Try.prog 35 #[.agg #[.int .i64 qs.x0, .int .i64 qs.y0, .int .i64 qs.x1, .int .i64 qs.y1], .agg #[.int .i64 r.x0, .int .i64 r.y0, .int .i64 r.x1, .int .i64 r.y1]] w fun e w' => e = .returned (.bool true) ∧ Grow w w' := fun w => (eqr_any _ _ _ _ _ _ _ _ w).mono fun e w' h => ⟨by rw [h.1]; exact ret_bool m3, h.2⟩
  have HS1 := Lib.hid hS1
  have HS2 := Lib.hid hS2
  have HRE := Lib.hid hre
  have H1 := Lib.hid h1
  have H2 := Lib.hid h2
  have H3 := Lib.hid h3
  have H4 := Lib.hid h4
  have H5 := Lib.hid h5
  have H6 := Lib.hid h6
  have H7 := Lib.hid h7
  have H8 := Lib.hid h8
  have H9 := Lib.hid h9
  clear hS1 hS2 hre h1 h2 h3 h4 h5 h6 h7 h8 h9 m1 m3 hs1 hs2
  go_enter Try.func7, Try.ntmps7
  go_wp2_with fail
  refine (sanity_any _).mono ?_
  rintro e v1 ⟨rfl, hg1⟩
  have hG := Grow.trans (Grow.alloc w (.cells #[.int .i64 q0, .int .i64 q1, .int .i64 q2, .int .i64 q3, .int .i64 q4, .int .i64 q5, .int .i64 q6, .int .i64 q7] 46)) hg1
  obtain ⟨hc, hf⟩ := bcell hg1
  have hz1 : w.heap.size < v1.heap.size := by (have := hg1.size; simp at this; omega)
  go_wp2_with (go_at_call 19; refine (HRE.out _).mono ?_; rintro e v2 ⟨rfl, hg2⟩; obtain ⟨hc2, hf2⟩ := bcell hg2; have hz2 : w.heap.size < v2.heap.size := by (have := hg2.size; omega))
  refine (HS1.out _).mono ?_
  rintro e v3 ⟨rfl, hg3⟩
  obtain ⟨hc3, hf3⟩ := bcell hg3
  have hz3 : w.heap.size < v3.heap.size := by (have := hg3.size; omega)
  go_wp2_with fail
  refine (HS2.out _).mono ?_
  rintro e v4 ⟨rfl, hg4⟩
  obtain ⟨hc4, hf4⟩ := bcell hg4
  have hz4 : w.heap.size < v4.heap.size ∧ v3.heap.size < v4.heap.size := by (have := hg4.size; simp at this; omega)
  obtain ⟨hz4, hz4'⟩ := hz4
  go_wp2_with fail
  refine (H1.out _).mono ?_
  rintro e v5 ⟨rfl, hg5⟩
  obtain ⟨hc5, hf5⟩ := bcell hg5
  have hz5 : w.heap.size < v5.heap.size ∧ v3.heap.size < v5.heap.size ∧ v4.heap.size < v5.heap.size := by (have := hg5.size; simp at this; omega)
  obtain ⟨hz5, hz5', hz5''⟩ := hz5
  go_wp2_with fail
  refine wp_gen (fun W0 => ((W0.cell? ⟨v3.heap.size, 0, none⟩ = some (.int .i64 r.x0) ∧ W0.cell? ⟨v3.heap.size, 1, none⟩ = some (.int .i64 r.y0) ∧ W0.cell? ⟨v3.heap.size, 2, none⟩ = some (.int .i64 r.x1) ∧ W0.cell? ⟨v3.heap.size, 3, none⟩ = some (.int .i64 r.y1)) ∧ (W0.cell? ⟨v4.heap.size, 0, none⟩ = some (.int .i64 c.x0) ∧ W0.cell? ⟨v4.heap.size, 1, none⟩ = some (.int .i64 c.y0) ∧ W0.cell? ⟨v4.heap.size, 2, none⟩ = some (.int .i64 c.x1) ∧ W0.cell? ⟨v4.heap.size, 3, none⟩ = some (.int .i64 c.y1)) ∧ (W0.cell? ⟨v5.heap.size, 0, none⟩ = some (.int .i64 s.x0) ∧ W0.cell? ⟨v5.heap.size, 1, none⟩ = some (.int .i64 s.y0) ∧ W0.cell? ⟨v5.heap.size, 2, none⟩ = some (.int .i64 s.x1) ∧ W0.cell? ⟨v5.heap.size, 3, none⟩ = some (.int .i64 s.y1))) ∧ Grow w W0) ⟨by go_simp, ?_⟩ ?_
  · exact ((((((hG.trans hg2).trans hg3).a _).trans hg4).a _).trans hg5).a _
  rintro W0 ⟨⟨⟨a0, a1, a2, a3⟩, ⟨b0, b1, b2, b3⟩, ⟨c0, c1, c2, c3⟩⟩, hG0⟩
  have HG := Lib.hid hG0
  clear hc hf hc2 hf2 hc3 hf3 hc4 hf4 hc5 hf5 hz1 hz2 hz3 hz4 hz4' hz5 hz5' hz5'' hg1 hg2 hg3 hg4 hg5 hG hG0 HS1 HS2 HRE
  cases hb : ins r cs with
  | true =>
    have k1 := m2 hb
    have h6' : ∀ w, Calls Try.prog 34 #[.agg #[.int .i64 r.x0, .int .i64 r.y0, .int .i64 r.x1, .int .i64 r.y1], .agg #[.int .i64 cs.x0, .int .i64 cs.y0, .int .i64 cs.x1, .int .i64 cs.y1]] w fun e w' => e = .returned (.bool true) ∧ Grow w w' := fun w => (H6.out w).mono fun e w' h => ⟨by rw [h.1]; exact ret_bool hb, h.2⟩
    have h7' : ∀ w, Calls Try.prog 34 #[.agg #[.int .i64 s.x0, .int .i64 s.y0, .int .i64 s.x1, .int .i64 s.y1], .agg #[.int .i64 c.x0, .int .i64 c.y0, .int .i64 c.x1, .int .i64 c.y1]] w fun e w' => e = .returned (.bool true) ∧ Grow w w' := fun w => (H7.out w).mono fun e w' h => ⟨by rw [h.1]; exact ret_bool k1, h.2⟩
    replace H6 := Lib.hid h6'
    replace H7 := Lib.hid h7'
    clear h6' h7' k1 hb m2
    refine q_region (C := fun x => Grow W0 x) (by kernel_rfl) (by kernel_rfl) (Grow.drew _) ?_
    repeat (first
      | go_big_quiet_skip
      | (go_big_quiet_want; refine q_val ?_; apply Exists.intro; refine ⟨fun x hx => ?_, ?_⟩; (focus (replace hx : Grow W0 x := hx; have xa0 := hx.cell a0; have xa1 := hx.cell a1; have xa2 := hx.cell a2; have xa3 := hx.cell a3; have xb0 := hx.cell b0; have xb1 := hx.cell b1; have xb2 := hx.cell b2; have xb3 := hx.cell b3; have xc0 := hx.cell c0; have xc1 := hx.cell c1; have xc2 := hx.cell c2; have xc3 := hx.cell c3; go_simp <;> rfl)); simp only [Act.put, List.setIfInBounds_toArray, List.set_cons_zero, List.set_cons_succ]; go_big_quiet_on)
      | (go_big_quiet_want; refine q_call 25 ?_; apply Exists.intro; refine ⟨fun x hx => ?_, ?_⟩; (focus (go_simp <;> rfl)); apply Exists.intro; refine ⟨fun x hx => ?_, ?_⟩; (focus ((with_reducible refine Calls.mono (H2.out _) ?_); exact fun e w' h => ⟨h.1, Grow.trans hx h.2⟩)); simp only [Act.put, List.setIfInBounds_toArray, List.set_cons_zero, List.set_cons_succ]; go_big_quiet_on)
      | (go_big_quiet_want; refine q_call 34 ?_; apply Exists.intro; refine ⟨fun x hx => ?_, ?_⟩; (focus (go_simp <;> rfl)); apply Exists.intro; refine ⟨fun x hx => ?_, ?_⟩; (focus ((with_reducible refine Calls.mono (H6.out _) ?_); exact fun e w' h => ⟨h.1, Grow.trans hx h.2⟩)); simp only [Act.put, List.setIfInBounds_toArray, List.set_cons_zero, List.set_cons_succ]; go_big_quiet_on)
      | (go_big_quiet_want; refine q_call 34 ?_; apply Exists.intro; refine ⟨fun x hx => ?_, ?_⟩; (focus (go_simp <;> rfl)); apply Exists.intro; refine ⟨fun x hx => ?_, ?_⟩; (focus ((with_reducible refine Calls.mono (H7.out _) ?_); exact fun e w' h => ⟨h.1, Grow.trans hx h.2⟩)); simp only [Act.put, List.setIfInBounds_toArray, List.set_cons_zero, List.set_cons_succ]; go_big_quiet_on))
    refine wpQuiet_nil ?_
    intro W1 hW1
    replace hW1 : Grow W0 W1 := hW1
    replace a0 := hW1.cell a0
    replace a1 := hW1.cell a1
    replace a2 := hW1.cell a2
    replace a3 := hW1.cell a3
    replace b0 := hW1.cell b0
    replace b1 := hW1.cell b1
    replace b2 := hW1.cell b2
    replace b3 := hW1.cell b3
    replace c0 := hW1.cell c0
    replace c1 := hW1.cell c1
    replace c2 := hW1.cell c2
    replace c3 := hW1.cell c3
    replace HG := Lib.hid (HG.out.trans hW1)
    clear hW1
    go_wp2
    refine q_region (C := fun x => Grow W1 x) (by kernel_rfl) (by kernel_rfl) (Grow.drew _) ?_
    repeat (first
      | go_big_quiet_skip
      | (go_big_quiet_want; refine q_val ?_; apply Exists.intro; refine ⟨fun x hx => ?_, ?_⟩; (focus (replace hx : Grow W1 x := hx; have xa0 := hx.cell a0; have xa1 := hx.cell a1; have xa2 := hx.cell a2; have xa3 := hx.cell a3; have xb0 := hx.cell b0; have xb1 := hx.cell b1; have xb2 := hx.cell b2; have xb3 := hx.cell b3; have xc0 := hx.cell c0; have xc1 := hx.cell c1; have xc2 := hx.cell c2; have xc3 := hx.cell c3; go_simp <;> rfl)); simp only [Act.put, List.setIfInBounds_toArray, List.set_cons_zero, List.set_cons_succ]; go_big_quiet_on)
      | (go_big_quiet_want; refine q_call 25 ?_; apply Exists.intro; refine ⟨fun x hx => ?_, ?_⟩; (focus (go_simp <;> rfl)); apply Exists.intro; refine ⟨fun x hx => ?_, ?_⟩; (focus ((with_reducible refine Calls.mono (H3.out _) ?_); exact fun e w' h => ⟨h.1, Grow.trans hx h.2⟩)); simp only [Act.put, List.setIfInBounds_toArray, List.set_cons_zero, List.set_cons_succ]; go_big_quiet_on)
      | (go_big_quiet_want; refine q_call 25 ?_; apply Exists.intro; refine ⟨fun x hx => ?_, ?_⟩; (focus (go_simp <;> rfl)); apply Exists.intro; refine ⟨fun x hx => ?_, ?_⟩; (focus ((with_reducible refine Calls.mono (H4.out _) ?_); exact fun e w' h => ⟨h.1, Grow.trans hx h.2⟩)); simp only [Act.put, List.setIfInBounds_toArray, List.set_cons_zero, List.set_cons_succ]; go_big_quiet_on)
      | (go_big_quiet_want; refine q_call 27 ?_; apply Exists.intro; refine ⟨fun x hx => ?_, ?_⟩; (focus (go_simp <;> rfl)); apply Exists.intro; refine ⟨fun x hx => ?_, ?_⟩; (focus ((with_reducible refine Calls.mono (H5.out _) ?_); exact fun e w' h => ⟨h.1, Grow.trans hx h.2⟩)); simp only [Act.put, List.setIfInBounds_toArray, List.set_cons_zero, List.set_cons_succ]; go_big_quiet_on)
      | (go_big_quiet_want; refine q_call 34 ?_; apply Exists.intro; refine ⟨fun x hx => ?_, ?_⟩; (focus (go_simp <;> rfl)); apply Exists.intro; refine ⟨fun x hx => ?_, ?_⟩; (focus ((with_reducible refine Calls.mono (H8.out _) ?_); exact fun e w' h => ⟨h.1, Grow.trans hx h.2⟩)); simp only [Act.put, List.setIfInBounds_toArray, List.set_cons_zero, List.set_cons_succ]; go_big_quiet_on)
      | (go_big_quiet_want; refine q_call 35 ?_; apply Exists.intro; refine ⟨fun x hx => ?_, ?_⟩; (focus (go_simp <;> rfl)); apply Exists.intro; refine ⟨fun x hx => ?_, ?_⟩; (focus ((with_reducible refine Calls.mono (H9.out _) ?_); exact fun e w' h => ⟨h.1, Grow.trans hx h.2⟩)); simp only [Act.put, List.setIfInBounds_toArray, List.set_cons_zero, List.set_cons_succ]; go_big_quiet_on))
    refine wpQuiet_nil ?_
    intro W2 hW2
    replace hW2 : Grow W1 W2 := hW2
    replace HG := Lib.hid (HG.out.trans hW2)
    clear hW2
    go_wp2
    go_ret
    exact ⟨rfl, HG.out⟩
  | false =>
    have h6' : ∀ w, Calls Try.prog 34 #[.agg #[.int .i64 r.x0, .int .i64 r.y0, .int .i64 r.x1, .int .i64 r.y1], .agg #[.int .i64 cs.x0, .int .i64 cs.y0, .int .i64 cs.x1, .int .i64 cs.y1]] w fun e w' => e = .returned (.bool false) ∧ Grow w w' := fun w => (H6.out w).mono fun e w' h => ⟨by rw [h.1]; exact ret_bool hb, h.2⟩
    replace H6 := Lib.hid h6'
    clear h6' hb m2
    refine q_region (C := fun x => Grow W0 x) (by kernel_rfl) (by kernel_rfl) (Grow.drew _) ?_
    repeat (first
      | go_big_quiet_skip
      | (go_big_quiet_want; refine q_val ?_; apply Exists.intro; refine ⟨fun x hx => ?_, ?_⟩; (focus (replace hx : Grow W0 x := hx; have xa0 := hx.cell a0; have xa1 := hx.cell a1; have xa2 := hx.cell a2; have xa3 := hx.cell a3; have xb0 := hx.cell b0; have xb1 := hx.cell b1; have xb2 := hx.cell b2; have xb3 := hx.cell b3; have xc0 := hx.cell c0; have xc1 := hx.cell c1; have xc2 := hx.cell c2; have xc3 := hx.cell c3; go_simp <;> rfl)); simp only [Act.put, List.setIfInBounds_toArray, List.set_cons_zero, List.set_cons_succ]; go_big_quiet_on)
      | (go_big_quiet_want; refine q_call 25 ?_; apply Exists.intro; refine ⟨fun x hx => ?_, ?_⟩; (focus (go_simp <;> rfl)); apply Exists.intro; refine ⟨fun x hx => ?_, ?_⟩; (focus ((with_reducible refine Calls.mono (H2.out _) ?_); exact fun e w' h => ⟨h.1, Grow.trans hx h.2⟩)); simp only [Act.put, List.setIfInBounds_toArray, List.set_cons_zero, List.set_cons_succ]; go_big_quiet_on)
      | (go_big_quiet_want; refine q_call 34 ?_; apply Exists.intro; refine ⟨fun x hx => ?_, ?_⟩; (focus (go_simp <;> rfl)); apply Exists.intro; refine ⟨fun x hx => ?_, ?_⟩; (focus ((with_reducible refine Calls.mono (H6.out _) ?_); exact fun e w' h => ⟨h.1, Grow.trans hx h.2⟩)); simp only [Act.put, List.setIfInBounds_toArray, List.set_cons_zero, List.set_cons_succ]; go_big_quiet_on))
    refine wpQuiet_nil ?_
    intro W1 hW1
    replace hW1 : Grow W0 W1 := hW1
    replace a0 := hW1.cell a0
    replace a1 := hW1.cell a1
    replace a2 := hW1.cell a2
    replace a3 := hW1.cell a3
    replace b0 := hW1.cell b0
    replace b1 := hW1.cell b1
    replace b2 := hW1.cell b2
    replace b3 := hW1.cell b3
    replace c0 := hW1.cell c0
    replace c1 := hW1.cell c1
    replace c2 := hW1.cell c2
    replace c3 := hW1.cell c3
    replace HG := Lib.hid (HG.out.trans hW1)
    clear hW1
    go_wp2
    refine q_region (C := fun x => Grow W1 x) (by kernel_rfl) (by kernel_rfl) (Grow.drew _) ?_
    repeat (first
      | go_big_quiet_skip
      | (go_big_quiet_want; refine q_val ?_; apply Exists.intro; refine ⟨fun x hx => ?_, ?_⟩; (focus (replace hx : Grow W1 x := hx; have xa0 := hx.cell a0; have xa1 := hx.cell a1; have xa2 := hx.cell a2; have xa3 := hx.cell a3; have xb0 := hx.cell b0; have xb1 := hx.cell b1; have xb2 := hx.cell b2; have xb3 := hx.cell b3; have xc0 := hx.cell c0; have xc1 := hx.cell c1; have xc2 := hx.cell c2; have xc3 := hx.cell c3; go_simp <;> rfl)); simp only [Act.put, List.setIfInBounds_toArray, List.set_cons_zero, List.set_cons_succ]; go_big_quiet_on)
      | (go_big_quiet_want; refine q_call 25 ?_; apply Exists.intro; refine ⟨fun x hx => ?_, ?_⟩; (focus (go_simp <;> rfl)); apply Exists.intro; refine ⟨fun x hx => ?_, ?_⟩; (focus ((with_reducible refine Calls.mono (H3.out _) ?_); exact fun e w' h => ⟨h.1, Grow.trans hx h.2⟩)); simp only [Act.put, List.setIfInBounds_toArray, List.set_cons_zero, List.set_cons_succ]; go_big_quiet_on)
      | (go_big_quiet_want; refine q_call 25 ?_; apply Exists.intro; refine ⟨fun x hx => ?_, ?_⟩; (focus (go_simp <;> rfl)); apply Exists.intro; refine ⟨fun x hx => ?_, ?_⟩; (focus ((with_reducible refine Calls.mono (H4.out _) ?_); exact fun e w' h => ⟨h.1, Grow.trans hx h.2⟩)); simp only [Act.put, List.setIfInBounds_toArray, List.set_cons_zero, List.set_cons_succ]; go_big_quiet_on)
      | (go_big_quiet_want; refine q_call 27 ?_; apply Exists.intro; refine ⟨fun x hx => ?_, ?_⟩; (focus (go_simp <;> rfl)); apply Exists.intro; refine ⟨fun x hx => ?_, ?_⟩; (focus ((with_reducible refine Calls.mono (H5.out _) ?_); exact fun e w' h => ⟨h.1, Grow.trans hx h.2⟩)); simp only [Act.put, List.setIfInBounds_toArray, List.set_cons_zero, List.set_cons_succ]; go_big_quiet_on)
      | (go_big_quiet_want; refine q_call 34 ?_; apply Exists.intro; refine ⟨fun x hx => ?_, ?_⟩; (focus (go_simp <;> rfl)); apply Exists.intro; refine ⟨fun x hx => ?_, ?_⟩; (focus ((with_reducible refine Calls.mono (H8.out _) ?_); exact fun e w' h => ⟨h.1, Grow.trans hx h.2⟩)); simp only [Act.put, List.setIfInBounds_toArray, List.set_cons_zero, List.set_cons_succ]; go_big_quiet_on)
      | (go_big_quiet_want; refine q_call 35 ?_; apply Exists.intro; refine ⟨fun x hx => ?_, ?_⟩; (focus (go_simp <;> rfl)); apply Exists.intro; refine ⟨fun x hx => ?_, ?_⟩; (focus ((with_reducible refine Calls.mono (H9.out _) ?_); exact fun e w' h => ⟨h.1, Grow.trans hx h.2⟩)); simp only [Act.put, List.setIfInBounds_toArray, List.set_cons_zero, List.set_cons_succ]; go_big_quiet_on))
    refine wpQuiet_nil ?_
    intro W2 hW2
    replace hW2 : Grow W1 W2 := hW2
    replace HG := Lib.hid (HG.out.trans hW2)
    clear hW2
    go_wp2
    go_ret
    exact ⟨rfl, HG.out⟩
end rectShrinks
end Go.Proofs.Ytplnhmfkflnhpaa
