/- Walk of the law RectAreas of layer 3: it returns true and writes nothing that was there. -/
import Derived.Test.YtplnhmfkflnhpaaAM
import Derived.Test.YtplnhmfkflnhpaaLL
set_option linter.unusedVariables false
namespace Go.Proofs.Ytplnhmfkflnhpaa
open Go.RowKit
theorem rdR_at' {W : World} {o : Option Addr} {n c : Nat} {L : List R} (h : RdR W (.slice o n c) L) {i : Nat} {r : R} (hi : L[i]? = some r) : ∃ g, o = some ⟨g, 0, none⟩ ∧ W.cell? ⟨g, i * 4, none⟩ = some (.int .i64 r.x0) ∧ W.cell? ⟨g, i * 4 + 1, none⟩ = some (.int .i64 r.y0) ∧ W.cell? ⟨g, i * 4 + 2, none⟩ = some (.int .i64 r.x1) ∧ W.cell? ⟨g, i * 4 + 3, none⟩ = some (.int .i64 r.y1) := by
  obtain ⟨o', cap, e, f⟩ := h
  injection e with e _ _
  subst e
  exact f i r hi
theorem area_bd {p a : R} (ha : Sm a) (he : emp p = false) (hi : ins p a = true) : 0 ≤ area p ∧ area p ≤ 10000 := by
  have h1 := emp_false he
  have h2 := (ins_iff he).1 hi
  unfold Sm at ha
  rw [area_full (by omega) (by omega) (by omega) (by omega)]
  have h3 : (p.x1 - p.x0) * (p.y1 - p.y0) ≤ 100 * 100 := Int.mul_le_mul (by omega) (by omega) (by omega) (by omega)
  exact ⟨Int.mul_nonneg (by omega) (by omega), by omega⟩
theorem area_bd' {a : R} (ha : Sm a) : 0 ≤ area a ∧ area a ≤ 10000 := by
  have ha' := ha
  unfold Sm at ha
  rw [area_full (by omega) (by omega) (by omega) (by omega)]
  have h3 : (a.x1 - a.x0) * (a.y1 - a.y0) ≤ 100 * 100 := Int.mul_le_mul (by omega) (by omega) (by omega) (by omega)
  exact ⟨Int.mul_nonneg (by omega) (by omega), by omega⟩
theorem sumA_bd (a : R) (ha : Sm a) : ∀ l : List R, (∀ p ∈ l, emp p = false ∧ ins p a = true) → 0 ≤ sumA l ∧ sumA l ≤ 10000 * l.length
  | [], _ => ⟨by decide, by decide⟩
  | p :: l, h => by
    have h1 := area_bd ha (h p (by simp)).1 (h p (by simp)).2
    have h2 := sumA_bd a ha l fun q hq => h q (by simp [hq])
    have e : sumA (p :: l) = area p + sumA l := rfl
    rw [e, List.length_cons]
    omega
namespace rectAreas
set_option maxRecDepth 100000 in
set_option maxHeartbeats 8000000 in
theorem walk (q0 q1 q2 q3 q4 q5 q6 q7 : Int) (w : World) (wf0 : (Lit.int .i64 q0).wf = true) (wf1 : (Lit.int .i64 q1).wf = true) (wf2 : (Lit.int .i64 q2).wf = true) (wf3 : (Lit.int .i64 q3).wf = true) (wf4 : (Lit.int .i64 q4).wf = true) (wf5 : (Lit.int .i64 q5).wf = true) (wf6 : (Lit.int .i64 q6).wf = true) (wf7 : (Lit.int .i64 q7).wf = true) :
    Calls Try.prog 8 #[.agg #[.int .i64 q0, .int .i64 q1, .int .i64 q2, .int .i64 q3, .int .i64 q4, .int .i64 q5, .int .i64 q6, .int .i64 q7]] w fun e w' => e = .returned (.bool true) ∧ Below w.heap.size w w' := by
  have hs1 := small_sm q0 q1 q2 q3
  have hS1 : ∀ w, Calls Try.prog 24 #[.agg #[.int .i64 q0, .int .i64 q1, .int .i64 q2, .int .i64 q3]] w fun e w' => e = .returned (.agg #[.int .i64 (smallR q0 q1 q2 q3).x0, .int .i64 (smallR q0 q1 q2 q3).y0, .int .i64 (smallR q0 q1 q2 q3).x1, .int .i64 (smallR q0 q1 q2 q3).y1]) ∧ Grow w w' := fun w => small_any q0 q1 q2 q3 w
  have hS2 : ∀ w, Calls Try.prog 24 #[.agg #[.int .i64 q4, .int .i64 q5, .int .i64 q6, .int .i64 q7]] w fun e w' => e = .returned (.agg #[.int .i64 (smallR q4 q5 q6 q7).x0, .int .i64 (smallR q4 q5 q6 q7).y0, .int .i64 (smallR q4 q5 q6 q7).x1, .int .i64 (smallR q4 q5 q6 q7).y1]) ∧ Grow w w' := fun w => small_any q4 q5 q6 q7 w
  generalize smallR q0 q1 q2 q3 = a at hs1 hS1
  generalize smallR q4 q5 q6 q7 = b at hS2
  have ms := sum_parts a b hs1
  have ml := minus_len a b
  have mp : ∀ p, p ∈ minusL a b → emp p = false ∧ ins p a = true ∧ emp (inter p b) = true := fun p => part_in a b
  have hm : ∀ w, Calls Try.prog 37 #[.agg #[.int .i64 a.x0, .int .i64 a.y0, .int .i64 a.x1, .int .i64 a.y1], .agg #[.int .i64 b.x0, .int .i64 b.y0, .int .i64 b.x1, .int .i64 b.y1]] w fun e W' => ∃ v, e = .returned v ∧ RdR W' v (minusL a b) ∧ Grow w W' := fun w => (minus_any a b w).mono fun e W' h => by obtain ⟨v, h1, h2, h3⟩ := h; exact ⟨v, h1, rdR_own h2, h3⟩
  have h1 : ∀ w, Calls Try.prog 18 #[.agg #[.int .i64 a.x0, .int .i64 a.y0, .int .i64 a.x1, .int .i64 a.y1], .agg #[.int .i64 b.x0, .int .i64 b.y0, .int .i64 b.x1, .int .i64 b.y1]] w fun e w' => e = .returned (.agg #[.int .i64 (inter a b).x0, .int .i64 (inter a b).y0, .int .i64 (inter a b).x1, .int .i64 (inter a b).y1]) ∧ Grow w w' := fun w => inter_any _ _ _ _ _ _ _ _ w
  have mb := area_bd' hs1
  have mi : 0 ≤ area (inter a b) ∧ area (inter a b) ≤ 10000 := by
    cases hie : emp (inter a b) with
    | true => unfold area; rw [if_pos hie]; decide
    | false => exact area_bd hs1 hie (ins_inter_l a b)
  have mq : ∀ k, 0 ≤ sumA ((minusL a b).take k) ∧ sumA ((minusL a b).take k) ≤ 40000 := by
    intro k
    have := sumA_bd a hs1 ((minusL a b).take k) fun p hp => ⟨(mp _ (List.mem_of_mem_take hp)).1, (mp _ (List.mem_of_mem_take hp)).2.1⟩
    have h2 := List.length_take_le' k (minusL a b)
    omega
  generalize inter a b = i at *
  generalize minusL a b = L at *
  have hi : ∀ (r s : R) (v : Bool), ins r s = v → ∀ w, Calls Try.prog 34 #[.agg #[.int .i64 r.x0, .int .i64 r.y0, .int .i64 r.x1, .int .i64 r.y1], .agg #[.int .i64 s.x0, .int .i64 s.y0, .int .i64 s.x1, .int .i64 s.y1]] w fun e w' => e = .returned (.bool v) ∧ Grow w w' := fun r s v hv w => (ins_any _ _ _ _ _ _ _ _ w).mono fun e w' h => ⟨by rw [h.1]; exact ret_bool hv, h.2⟩
  have he : ∀ (r : R) (v : Bool), emp r = v → ∀ w, Calls Try.prog 22 #[.agg #[.int .i64 r.x0, .int .i64 r.y0, .int .i64 r.x1, .int .i64 r.y1]] w fun e w' => e = .returned (.bool v) ∧ Grow w w' := fun r v hv w => (empty_any _ _ _ _ w).mono fun e w' h => ⟨by rw [h.1]; exact ret_bool hv, by rw [← h.2]; exact Grow.alloc _ _⟩
  have ha : ∀ (r : R) (n : Int), area r = n → ∀ w, Calls Try.prog 36 #[.agg #[.int .i64 r.x0, .int .i64 r.y0, .int .i64 r.x1, .int .i64 r.y1]] w fun e w' => e = .returned (.int .i64 n) ∧ Grow w w' := fun r v hv w => (area_any _ _ _ _ w).mono fun e w' h => ⟨by rw [h.1]; exact ret_int hv, h.2⟩
  have HS1 := Lib.hid hS1
  have HS2 := Lib.hid hS2
  have H1 := Lib.hid h1
  have HI := Lib.hid hi
  have HE := Lib.hid he
  have HA := Lib.hid ha
  have HM := Lib.hid hm
  have MS := Lib.hid ms
  have MP := Lib.hid mp
  have MQ := Lib.hid mq
  have hL4 : L.length ≤ 4 := ml
  clear hS1 hS2 h1 hi he ha hm ms mp mq ml hs1
  obtain ⟨mb0, mb1⟩ := mb
  obtain ⟨mi0, mi1⟩ := mi
  go_enter Try.func8, Try.ntmps8
  go_wp2_with fail
  refine (sanity_any _).mono ?_
  rintro e v1 ⟨rfl, hg1⟩
  have hG := Grow.trans (Grow.alloc w (.cells #[.int .i64 q0, .int .i64 q1, .int .i64 q2, .int .i64 q3, .int .i64 q4, .int .i64 q5, .int .i64 q6, .int .i64 q7] 46)) hg1
  obtain ⟨hc, hf⟩ := bcell hg1
  have hz1 : w.heap.size < v1.heap.size := by (have := hg1.size; simp at this; omega)
  go_wp2_with fail
  refine (HS1.out _).mono ?_
  rintro e v2 ⟨rfl, hg2⟩
  obtain ⟨hc2, hf2⟩ := bcell hg2
  have hz2 : w.heap.size < v2.heap.size := by (have := hg2.size; omega)
  go_wp2_with fail
  refine (HS2.out _).mono ?_
  rintro e v3 ⟨rfl, hg3⟩
  obtain ⟨hc3, hf3⟩ := bcell hg3
  have hz3 : w.heap.size < v3.heap.size ∧ v2.heap.size < v3.heap.size := by (have := hg3.size; simp at this; omega)
  obtain ⟨hz3, hz3'⟩ := hz3
  go_wp2_with fail
  refine (H1.out _).mono ?_
  rintro e v4 ⟨rfl, hg4⟩
  have jA := Lib.hid (HA.out i _ rfl)
  obtain ⟨hc4, hf4⟩ := bcell hg4
  have hz4 : v2.heap.size < v4.heap.size ∧ v3.heap.size < v4.heap.size := by (have := hg4.size; simp at this; omega)
  obtain ⟨hz4, hz4'⟩ := hz4
  go_wp2_with (go_at_call 36; (with_reducible refine Calls.mono (jA.out _) ?_); rintro e v5 ⟨rfl, hg5⟩; replace hg5 : Grow _ v5 := hg5; obtain ⟨hc5, hf5⟩ := bcell hg5; have hz5 : v2.heap.size < v5.heap.size := (by have := hg5.size; omega); have hz5' : v3.heap.size < v5.heap.size := (by have := hg5.size; omega))
  refine (HM.out _).mono ?_
  rintro e v6 ⟨s, rfl, hR, hg6⟩
  obtain ⟨hc6, hf6⟩ := bcell hg6
  have hz6 : v2.heap.size < v6.heap.size ∧ v3.heap.size < v6.heap.size := by (have := hg6.size; omega)
  obtain ⟨hz6, hz6'⟩ := hz6
  have hR' := hR
  obtain ⟨o, cp, rfl, -⟩ := hR'
  have HR := Lib.hid hR
  clear hR
  go_wp2_with fail
  refine wp_gen (fun W0 => (Bx W0 v2.heap.size a ∧ Bx W0 v3.heap.size b) ∧ Grow w W0 ∧ RdR W0 (.slice o L.length cp) L) ⟨by unfold Bx; go_simp, ?_, HR.out⟩ ?_
  · exact ((((((hG.trans hg2).a _).trans hg3).a _).trans hg4).trans hg5).trans hg6
  rintro W0 ⟨⟨⟨a0, a1, a2, a3⟩, ⟨b0, b1, b2, b3⟩⟩, hG0, hR⟩
  replace HR := Lib.hid hR
  have HG := Lib.hid hG0
  generalize v2.heap.size = g1 at *
  generalize v3.heap.size = g2 at *
  clear hc hf hc2 hf2 hc3 hf3 hc4 hf4 hc5 hf5 hc6 hf6 hz1 hz2 hz3 hz3' hz4 hz4' hz5 hz5' hz6 hz6' hg1 hg2 hg3 hg4 hg5 hg6 hG hG0 hR HS1 HS2 HM H1 jA
  have h1 : ∀ (p : R) w, Calls Try.prog 18 #[.agg #[.int .i64 p.x0, .int .i64 p.y0, .int .i64 p.x1, .int .i64 p.y1], .agg #[.int .i64 b.x0, .int .i64 b.y0, .int .i64 b.x1, .int .i64 b.y1]] w fun e w' => e = .returned (.agg #[.int .i64 (inter p b).x0, .int .i64 (inter p b).y0, .int .i64 (inter p b).x1, .int .i64 (inter p b).y1]) ∧ Grow w w' := fun p w => inter_any _ _ _ _ _ _ _ _ w
  have H1 := Lib.hid h1
  clear h1
  go_loopw [6, 8] (fun s j wr => ∃ k : Nat, k ≤ L.length ∧ j = .int .i64 k ∧ s = .int .i64 (area i + sumA (L.take k)) ∧ Grow W0 wr) (fun _ j _ => L.length - (intOf j).toNat)
  case atStart => exact ⟨0, by omega, rfl, by simp [sumA], Grow.refl _⟩
  case round =>
    obtain ⟨k, hk, rfl, rfl, hgw⟩ := hrel
    by_cases hlt : k < L.length
    · obtain ⟨p, hp⟩ : ∃ p, L[k]? = some p := ⟨_, List.getElem?_eq_getElem hlt⟩
      obtain ⟨k1, k2, k3⟩ := MP.out _ (List.mem_of_getElem? hp)
      obtain ⟨g, rfl, c0, c1, c2, c3⟩ := rdR_at' HR.out hp
      have hst := Lib.hid (sumA_take L k p hp)
      have hq := MQ.out k
      have hq2 := MQ.out (k + 1)
      rw [hst.out] at hq2
      have h1p := H1.out p
      generalize inter p b = pi at k3 h1p
      have j0 := Lib.hid h1p
      have j1 := Lib.hid (HE.out _ _ k1)
      have j2 := Lib.hid (HI.out _ _ _ k2)
      have j3 := Lib.hid (HE.out _ _ k3)
      have j4 := Lib.hid (HA.out p _ rfl)
      clear hp k1 k2 k3 h1p
      obtain ⟨q1, q2⟩ := hq
      obtain ⟨q3, q4⟩ := hq2
      replace a0 := hgw.cell a0
      replace a1 := hgw.cell a1
      replace a2 := hgw.cell a2
      replace a3 := hgw.cell a3
      replace b0 := hgw.cell b0
      replace b1 := hgw.cell b1
      replace b2 := hgw.cell b2
      replace b3 := hgw.cell b3
      replace c0 := hgw.cell c0
      replace c1 := hgw.cell c1
      replace c2 := hgw.cell c2
      replace c3 := hgw.cell c3
      go_wp2
      refine q_region (C := fun x => Grow wr x) (by kernel_rfl) (by kernel_rfl) (Grow.drew _) ?_
      repeat (first
        | go_big_quiet_skip
        | (go_big_quiet_want; refine q_val ?_; apply Exists.intro; refine ⟨fun x hx => ?_, ?_⟩; (focus (replace hx : Grow wr x := hx; have xa0 := hx.cell a0; have xa1 := hx.cell a1; have xa2 := hx.cell a2; have xa3 := hx.cell a3; have xb0 := hx.cell b0; have xb1 := hx.cell b1; have xb2 := hx.cell b2; have xb3 := hx.cell b3; have xc0 := hx.cell c0; have xc1 := hx.cell c1; have xc2 := hx.cell c2; have xc3 := hx.cell c3; go_simp <;> rfl)); simp only [Act.put, List.setIfInBounds_toArray, List.set_cons_zero, List.set_cons_succ]; go_big_quiet_on)
        | (go_big_quiet_want; refine q_call 22 ?_; apply Exists.intro; refine ⟨fun x hx => ?_, ?_⟩; (focus (go_simp <;> rfl)); apply Exists.intro; refine ⟨fun x hx => ?_, ?_⟩; (focus ((with_reducible refine Calls.mono (j1.out _) ?_); exact fun e w' h => ⟨h.1, Grow.trans hx h.2⟩)); simp only [Act.put, List.setIfInBounds_toArray, List.set_cons_zero, List.set_cons_succ]; go_big_quiet_on)
        | (go_big_quiet_want; refine q_call 34 ?_; apply Exists.intro; refine ⟨fun x hx => ?_, ?_⟩; (focus (go_simp <;> rfl)); apply Exists.intro; refine ⟨fun x hx => ?_, ?_⟩; (focus ((with_reducible refine Calls.mono (j2.out _) ?_); exact fun e w' h => ⟨h.1, Grow.trans hx h.2⟩)); simp only [Act.put, List.setIfInBounds_toArray, List.set_cons_zero, List.set_cons_succ]; go_big_quiet_on)
        | (go_big_quiet_want; refine q_call 18 ?_; apply Exists.intro; refine ⟨fun x hx => ?_, ?_⟩; (focus (go_simp <;> rfl)); apply Exists.intro; refine ⟨fun x hx => ?_, ?_⟩; (focus ((with_reducible refine Calls.mono (j0.out _) ?_); exact fun e w' h => ⟨h.1, Grow.trans hx h.2⟩)); simp only [Act.put, List.setIfInBounds_toArray, List.set_cons_zero, List.set_cons_succ]; go_big_quiet_on)
        | (go_big_quiet_want; refine q_call 22 ?_; apply Exists.intro; refine ⟨fun x hx => ?_, ?_⟩; (focus (go_simp <;> rfl)); apply Exists.intro; refine ⟨fun x hx => ?_, ?_⟩; (focus ((with_reducible refine Calls.mono (j3.out _) ?_); exact fun e w' h => ⟨h.1, Grow.trans hx h.2⟩)); simp only [Act.put, List.setIfInBounds_toArray, List.set_cons_zero, List.set_cons_succ]; go_big_quiet_on))
      refine wpQuiet_nil ?_
      intro W1 hW1
      replace hW1 : Grow wr W1 := hW1
      have HG1 := Lib.hid (hgw.trans hW1)
      replace a0 := hW1.cell a0
      replace a1 := hW1.cell a1
      replace a2 := hW1.cell a2
      replace a3 := hW1.cell a3
      replace b0 := hW1.cell b0
      replace b1 := hW1.cell b1
      replace b2 := hW1.cell b2
      replace b3 := hW1.cell b3
      replace c0 := hW1.cell c0
      replace c1 := hW1.cell c1
      replace c2 := hW1.cell c2
      replace c3 := hW1.cell c3
      clear hW1
      go_wp2_with first
        | (go_at_call 36; (with_reducible refine Calls.mono (j4.out _) ?_); rintro e w' ⟨rfl, hg⟩; replace hg : Grow _ w' := hg; replace a0 := hg.cell a0; replace a1 := hg.cell a1; replace a2 := hg.cell a2; replace a3 := hg.cell a3; replace b0 := hg.cell b0; replace b1 := hg.cell b1; replace b2 := hg.cell b2; replace b3 := hg.cell b3; replace c0 := hg.cell c0; replace c1 := hg.cell c1; replace c2 := hg.cell c2; replace c3 := hg.cell c3; replace HG1 := Lib.hid (HG1.out.trans hg); clear hg)
      go_roundw
      case rel => exact ⟨k + 1, by omega, by go_num, by rw [hst.out]; go_num, HG1.out⟩
      case measure => simp [intOf]; omega
    · obtain rfl : k = L.length := by omega
      rw [List.take_length, MS.out]
      have hGe := Lib.hid (HG.out.trans hgw)
      have j1 := Lib.hid (HA.out a _ rfl)
      replace a0 := hgw.cell a0
      replace a1 := hgw.cell a1
      replace a2 := hgw.cell a2
      replace a3 := hgw.cell a3
      have hl4 : (L.length : Int) ≤ 4 := by omega
      clear hlt hgw
      go_wp2_with (go_at_call 36; (with_reducible refine Calls.mono (j1.out _) ?_); rintro e w' ⟨rfl, hg⟩)
      go_ret
      exact ⟨rfl, hGe.out.trans hg⟩
end rectAreas
end Go.Proofs.Ytplnhmfkflnhpaa
