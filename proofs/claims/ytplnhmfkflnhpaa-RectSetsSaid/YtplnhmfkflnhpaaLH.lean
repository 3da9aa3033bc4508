/- Walk of the law RectSets of layer 3: it returns true and writes nothing that was there. -/
import Derived.Test.YtplnhmfkflnhpaaAM
import Derived.Test.YtplnhmfkflnhpaaLG
set_option linter.unusedVariables false
namespace Go.Proofs.Ytplnhmfkflnhpaa
open Go.RowKit
theorem small_x {r : R} (h : Sm r) : True := trivial
namespace rectSets
set_option maxRecDepth 100000 in
set_option maxHeartbeats 16000000 in
theorem walk (q0 q1 q2 q3 q4 q5 q6 q7 n0 n1 : Int) (w : World) (wf0 : (Lit.int .i64 q0).wf = true) (wf1 : (Lit.int .i64 q1).wf = true) (wf2 : (Lit.int .i64 q2).wf = true) (wf3 : (Lit.int .i64 q3).wf = true) (wf4 : (Lit.int .i64 q4).wf = true) (wf5 : (Lit.int .i64 q5).wf = true) (wf6 : (Lit.int .i64 q6).wf = true) (wf7 : (Lit.int .i64 q7).wf = true) (wf8 : (Lit.int .i64 n0).wf = true) (wf9 : (Lit.int .i64 n1).wf = true) :
    Calls Try.prog 10 #[.agg #[.int .i64 q0, .int .i64 q1, .int .i64 q2, .int .i64 q3, .int .i64 q4, .int .i64 q5, .int .i64 q6, .int .i64 q7], .agg #[.int .i64 n0, .int .i64 n1]] w fun e w' => e = .returned (.bool true) ∧ Below w.heap.size w w' := by
  have hS1 : ∀ w, Calls Try.prog 24 #[.agg #[.int .i64 q0, .int .i64 q1, .int .i64 q2, .int .i64 q3]] w fun e w' => e = .returned (.agg #[.int .i64 (smallR q0 q1 q2 q3).x0, .int .i64 (smallR q0 q1 q2 q3).y0, .int .i64 (smallR q0 q1 q2 q3).x1, .int .i64 (smallR q0 q1 q2 q3).y1]) ∧ Grow w w' := fun w => small_any q0 q1 q2 q3 w
  have hS2 : ∀ w, Calls Try.prog 24 #[.agg #[.int .i64 q4, .int .i64 q5, .int .i64 q6, .int .i64 q7]] w fun e w' => e = .returned (.agg #[.int .i64 (smallR q4 q5 q6 q7).x0, .int .i64 (smallR q4 q5 q6 q7).y0, .int .i64 (smallR q4 q5 q6 q7).x1, .int .i64 (smallR q4 q5 q6 q7).y1]) ∧ Grow w w' := fun w => small_any q4 q5 q6 q7 w
  generalize smallR q0 q1 q2 q3 = a at hS1
  generalize smallR q4 q5 q6 q7 = b at hS2
  obtain ⟨r1, r2⟩ := rst_bd n0 90 (by omega) (by omega)
  obtain ⟨r3, r4⟩ := rst_bd n1 90 (by omega) (by omega)
  obtain ⟨px, hpx⟩ : ∃ px, IntKind.i64.wrap (rst n0 90 - 25) = px := ⟨_, rfl⟩
  obtain ⟨py, hpy⟩ : ∃ py, IntKind.i64.wrap (rst n1 90 - 25) = py := ⟨_, rfl⟩
  have mh := hits_minus a b px py
  have ml := minus_len a b
  have hm : ∀ w, Calls Try.prog 37 #[.agg #[.int .i64 a.x0, .int .i64 a.y0, .int .i64 a.x1, .int .i64 a.y1], .agg #[.int .i64 b.x0, .int .i64 b.y0, .int .i64 b.x1, .int .i64 b.y1]] w fun e W' => ∃ v, e = .returned v ∧ RdR W' v (minusL a b) ∧ Grow w W' := fun w => (minus_any a b w).mono fun e W' h => by obtain ⟨v, h1, h2, h3⟩ := h; exact ⟨v, h1, rdR_own h2, h3⟩
  have h1 : ∀ w, Calls Try.prog 18 #[.agg #[.int .i64 a.x0, .int .i64 a.y0, .int .i64 a.x1, .int .i64 a.y1], .agg #[.int .i64 b.x0, .int .i64 b.y0, .int .i64 b.x1, .int .i64 b.y1]] w fun e w' => e = .returned (.agg #[.int .i64 (inter a b).x0, .int .i64 (inter a b).y0, .int .i64 (inter a b).x1, .int .i64 (inter a b).y1]) ∧ Grow w w' := fun w => inter_any _ _ _ _ _ _ _ _ w
  have h2 : ∀ w, Calls Try.prog 38 #[.agg #[.int .i64 a.x0, .int .i64 a.y0, .int .i64 a.x1, .int .i64 a.y1], .agg #[.int .i64 b.x0, .int .i64 b.y0, .int .i64 b.x1, .int .i64 b.y1]] w fun e w' => e = .returned (.agg #[.int .i64 (uni a b).x0, .int .i64 (uni a b).y0, .int .i64 (uni a b).x1, .int .i64 (uni a b).y1]) ∧ Grow w w' := fun w => uni_any _ _ _ _ _ _ _ _ w
  have mi := has_inter a b px py
  have mu := has_uni a b px py
  have mn := @has_ins a b px py
  generalize inter a b = i at *
  generalize uni a b = u at *
  generalize minusL a b = L at *
  have hi : ∀ (r s : R) (v : Bool), ins r s = v → ∀ w, Calls Try.prog 34 #[.agg #[.int .i64 r.x0, .int .i64 r.y0, .int .i64 r.x1, .int .i64 r.y1], .agg #[.int .i64 s.x0, .int .i64 s.y0, .int .i64 s.x1, .int .i64 s.y1]] w fun e w' => e = .returned (.bool v) ∧ Grow w w' := fun r s v hv w => (ins_any _ _ _ _ _ _ _ _ w).mono fun e w' h => ⟨by rw [h.1]; exact ret_bool hv, h.2⟩
  have hh : ∀ (r : R) (v : Bool), has r px py = v → ∀ w, Calls Try.prog 33 #[.agg #[.int .i64 r.x0, .int .i64 r.y0, .int .i64 r.x1, .int .i64 r.y1], .agg #[.int .i64 px, .int .i64 py]] w fun e w' => e = .returned (.bool v) ∧ Grow w w' := fun r v hv w => (has_any _ _ _ _ _ _ w).mono fun e w' h => ⟨by rw [h.1]; exact ret_bool hv, h.2⟩
  have HS1 := Lib.hid hS1
  have HS2 := Lib.hid hS2
  have H1 := Lib.hid h1
  have H2 := Lib.hid h2
  have HI := Lib.hid hi
  have HH := Lib.hid hh
  have HM := Lib.hid hm
  have MH := Lib.hid mh
  have MI := Lib.hid mi
  have MU := Lib.hid mu
  have MN := Lib.hid mn
  have hL4 : L.length ≤ 4 := ml
  have jx := Lib.hid (HH.out a _ rfl)
  have jy := Lib.hid (HH.out b _ rfl)
  clear hS1 hS2 h1 h2 hi hh hm mh mi mu mn ml
  go_enter Try.func10, Try.ntmps10
  go_wp2_with fail
  refine (sanity_any _).mono ?_
  rintro e v1 ⟨rfl, hg1⟩
  have hG := Grow.trans (((Grow.refl w).a (.cells #[.int .i64 q0, .int .i64 q1, .int .i64 q2, .int .i64 q3, .int .i64 q4, .int .i64 q5, .int .i64 q6, .int .i64 q7] 46)).a (.cells #[.int .i64 n0, .int .i64 n1] 43)) hg1
  obtain ⟨hc, hf⟩ := bcell hg1
  have hz1 : w.heap.size < v1.heap.size := by (have := hg1.size; simp at this; omega)
  have hz1n : w.heap.size + 1 < v1.heap.size := by (have := hg1.size; simp at this; omega)
  go_wp2_with fail
  refine (HS1.out _).mono ?_
  rintro e v2 ⟨rfl, hg2⟩
  obtain ⟨hc2, hf2⟩ := bcell hg2
  have hz2 : w.heap.size < v2.heap.size := by (have := hg2.size; omega)
  have hz2n : w.heap.size + 1 < v2.heap.size := by (have := hg2.size; omega)
  go_wp2_with fail
  refine (HS2.out _).mono ?_
  rintro e v3 ⟨rfl, hg3⟩
  obtain ⟨hc3, hf3⟩ := bcell hg3
  have hz3 : w.heap.size < v3.heap.size ∧ v2.heap.size < v3.heap.size := by (have := hg3.size; simp at this; omega)
  obtain ⟨hz3, hz3'⟩ := hz3
  have hz3n : w.heap.size + 1 < v3.heap.size := by (have := hg3.size; simp at this; omega)
  go_wp2_with fail
  refine wp_gen (fun W0 => (Bx W0 v2.heap.size a ∧ Bx W0 v3.heap.size b ∧ W0.cell? ⟨w.heap.size + 1, 0, none⟩ = some (.int .i64 n0) ∧ W0.cell? ⟨w.heap.size + 1, 1, none⟩ = some (.int .i64 n1)) ∧ Grow w W0) ⟨by unfold Bx; go_simp, ?_⟩ ?_
  · exact ((((hG.trans hg2).a _).trans hg3).a _)
  rintro W0 ⟨⟨⟨a0, a1, a2, a3⟩, ⟨b0, b1, b2, b3⟩, m0, m1⟩, hG0⟩
  have HG := Lib.hid hG0
  generalize v2.heap.size = g1 at *
  generalize v3.heap.size = g2 at *
  clear hc hf hc2 hf2 hc3 hf3 hz1 hz2 hz3 hz3' hz1n hz2n hz3n hg1 hg2 hg3 hG hG0 HS1 HS2
  refine wp_region_box1 9 8 40 #[.int .i64 0, .int .i64 0] (by kernel_rfl) rfl (by kernel_rfl) (by kernel_rfl) new40 ?_
  simp only [lastOp, List.dropLast]
  repeat (first
    | (refine qg_new rfl ?_; simp only [Act.put, List.setIfInBounds_toArray, List.set_cons_zero, List.set_cons_succ])
    | (refine qg_skip rfl rfl ?_; simp only [Act.put, List.setIfInBounds_toArray, List.set_cons_zero, List.set_cons_succ])
    | (refine qg_val rfl rfl ?_; apply Exists.intro; refine ⟨fun x hx => ?_, ?_⟩; (focus (replace hx : Grow W0 x := hx; have xm0 := hx.cell m0; have xm1 := hx.cell m1; go_simp <;> rfl)); simp only [Act.put, List.setIfInBounds_toArray, List.set_cons_zero, List.set_cons_succ])
    | (refine qg_call 19 rfl rfl ?_; apply Exists.intro; refine ⟨fun x hx => ?_, ?_⟩; (focus (go_simp <;> rfl)); apply Exists.intro; refine ⟨fun x hx => ?_, ?_⟩; (focus (exact (rest_any _ _ (by decide) _).mono fun e w' h => ⟨h.1, h.2 ▸ Grow.refl _⟩)); simp only [Act.put, List.setIfInBounds_toArray, List.set_cons_zero, List.set_cons_succ]))
  refine qg_nil ?_
  intro bp x hx hb hblk
  replace hx : Grow W0 x := hx
  refine wp_store_2 40 (.tmp 8) (.tmp 31) rfl bp px py _ rfl rfl hblk rfl (by kernel_rfl) ?_
  intro w5 hb5 hB5
  have hg5 : Grow W0 w5 := Below.trans hx (hB5 _ hb)
  replace a0 := hg5.cell a0
  replace a1 := hg5.cell a1
  replace a2 := hg5.cell a2
  replace a3 := hg5.cell a3
  replace b0 := hg5.cell b0
  replace b1 := hg5.cell b1
  replace b2 := hg5.cell b2
  replace b3 := hg5.cell b3
  have p0 : w5.cell? ⟨bp, 0, none⟩ = some (.int .i64 px) := by unfold World.cell?; rw [hb5]; rfl
  have p1 : w5.cell? ⟨bp, 1, none⟩ = some (.int .i64 py) := by unfold World.cell?; rw [hb5]; rfl
  replace HG := Lib.hid (HG.out.trans hg5)
  clear hb5 hB5 hg5 hx hblk m0 m1 hb hpx hpy
  go_wp2_with first
    | (go_at_call 33; (with_reducible refine Calls.mono (jx.out _) ?_); rintro e w' ⟨rfl, hg⟩; replace hg : Grow _ w' := hg; replace a0 := hg.cell a0; replace a1 := hg.cell a1; replace a2 := hg.cell a2; replace a3 := hg.cell a3; replace b0 := hg.cell b0; replace b1 := hg.cell b1; replace b2 := hg.cell b2; replace b3 := hg.cell b3; replace p0 := hg.cell p0; replace p1 := hg.cell p1;  replace HG := Lib.hid (HG.out.trans hg); clear hg)
    | (go_at_call 33; (with_reducible refine Calls.mono (jy.out _) ?_); rintro e w' ⟨rfl, hg⟩; replace hg : Grow _ w' := hg; replace a0 := hg.cell a0; replace a1 := hg.cell a1; replace a2 := hg.cell a2; replace a3 := hg.cell a3; replace b0 := hg.cell b0; replace b1 := hg.cell b1; replace b2 := hg.cell b2; replace b3 := hg.cell b3; replace p0 := hg.cell p0; replace p1 := hg.cell p1;  replace HG := Lib.hid (HG.out.trans hg); clear hg)
  refine (HM.out _).mono ?_
  rintro e v6 ⟨s, rfl, hR, hg6⟩
  have hR' := hR
  obtain ⟨o, cp, rfl, -⟩ := hR'
  have HR := Lib.hid hR
  clear hR
  replace a0 := hg6.cell a0
  replace a1 := hg6.cell a1
  replace a2 := hg6.cell a2
  replace a3 := hg6.cell a3
  replace b0 := hg6.cell b0
  replace b1 := hg6.cell b1
  replace b2 := hg6.cell b2
  replace b3 := hg6.cell b3
  replace p0 := hg6.cell p0
  replace p1 := hg6.cell p1
  replace HG := Lib.hid (HG.out.trans hg6)
  clear hg6
  go_wp2_with fail
  go_loopw [11, 13] (fun s j wr => ∃ k : Nat, k ≤ L.length ∧ j = .int .i64 k ∧ s = .int .i64 (hits px py (L.take k)) ∧ Grow v6 wr) (fun _ j _ => L.length - (intOf j).toNat)
  case atStart => exact ⟨0, by omega, rfl, by simp [hits], Grow.refl _⟩
  case round =>
    obtain ⟨k, hk, rfl, rfl, hgw⟩ := hrel
    have hq := hits_le px py (L.take k)
    have hq3 := List.length_take_le' k L
    obtain ⟨q1, q2⟩ := hq
    replace a0 := hgw.cell a0
    replace a1 := hgw.cell a1
    replace a2 := hgw.cell a2
    replace a3 := hgw.cell a3
    replace b0 := hgw.cell b0
    replace b1 := hgw.cell b1
    replace b2 := hgw.cell b2
    replace b3 := hgw.cell b3
    replace p0 := hgw.cell p0
    replace p1 := hgw.cell p1
    by_cases hlt : k < L.length
    · obtain ⟨p, hp⟩ : ∃ p, L[k]? = some p := ⟨_, List.getElem?_eq_getElem hlt⟩
      obtain ⟨g, rfl, c0, c1, c2, c3⟩ := rdR_at' HR.out hp
      replace c0 := hgw.cell c0
      replace c1 := hgw.cell c1
      replace c2 := hgw.cell c2
      replace c3 := hgw.cell c3
      have hst := hits_take px py L k p hp
      clear hp
      cases hpp : has p px py with
      | true =>
        rw [if_pos hpp] at hst
        have HST := Lib.hid hst
        have j1 := Lib.hid (HH.out _ _ hpp)
        clear hst hpp
        go_wp2
        refine q_region (C := fun x => Grow wr x) (by kernel_rfl) (by kernel_rfl) (Grow.drew _) ?_
        repeat (first
          | go_big_quiet_skip
          | (go_big_quiet_want; refine q_val ?_; apply Exists.intro; refine ⟨fun x hx => ?_, ?_⟩; (focus (replace hx : Grow wr x := hx; have xc0 := hx.cell c0; have xc1 := hx.cell c1; have xc2 := hx.cell c2; have xc3 := hx.cell c3; have xp0 := hx.cell p0; have xp1 := hx.cell p1; go_simp <;> rfl)); simp only [Act.put, List.setIfInBounds_toArray, List.set_cons_zero, List.set_cons_succ]; go_big_quiet_on)
          | (go_big_quiet_want; refine q_call 33 ?_; apply Exists.intro; refine ⟨fun x hx => ?_, ?_⟩; (focus (go_simp <;> rfl)); apply Exists.intro; refine ⟨fun x hx => ?_, ?_⟩; (focus ((with_reducible refine Calls.mono (j1.out _) ?_); exact fun e w' h => ⟨h.1, Grow.trans hx h.2⟩)); simp only [Act.put, List.setIfInBounds_toArray, List.set_cons_zero, List.set_cons_succ]; go_big_quiet_on))
        refine wpQuiet_nil ?_
        intro W1 hW1
        replace hW1 : Grow wr W1 := hW1
        have HG1 := Lib.hid (hgw.trans hW1)
        clear hW1
        go_wp2
        go_roundw
        case rel => exact ⟨k + 1, by omega, by go_num, by rw [HST.out], HG1.out⟩
        case measure => simp [intOf]; omega
      | false =>
        rw [if_neg (by rw [hpp]; simp)] at hst
        have HST := Lib.hid hst
        have j1 := Lib.hid (HH.out _ _ hpp)
        clear hst hpp
        go_wp2
        refine q_region (C := fun x => Grow wr x) (by kernel_rfl) (by kernel_rfl) (Grow.drew _) ?_
        repeat (first
          | go_big_quiet_skip
          | (go_big_quiet_want; refine q_val ?_; apply Exists.intro; refine ⟨fun x hx => ?_, ?_⟩; (focus (replace hx : Grow wr x := hx; have xc0 := hx.cell c0; have xc1 := hx.cell c1; have xc2 := hx.cell c2; have xc3 := hx.cell c3; have xp0 := hx.cell p0; have xp1 := hx.cell p1; go_simp <;> rfl)); simp only [Act.put, List.setIfInBounds_toArray, List.set_cons_zero, List.set_cons_succ]; go_big_quiet_on)
          | (go_big_quiet_want; refine q_call 33 ?_; apply Exists.intro; refine ⟨fun x hx => ?_, ?_⟩; (focus (go_simp <;> rfl)); apply Exists.intro; refine ⟨fun x hx => ?_, ?_⟩; (focus ((with_reducible refine Calls.mono (j1.out _) ?_); exact fun e w' h => ⟨h.1, Grow.trans hx h.2⟩)); simp only [Act.put, List.setIfInBounds_toArray, List.set_cons_zero, List.set_cons_succ]; go_big_quiet_on))
        refine wpQuiet_nil ?_
        intro W1 hW1
        replace hW1 : Grow wr W1 := hW1
        have HG1 := Lib.hid (hgw.trans hW1)
        clear hW1
        go_wp2
        go_roundw
        case rel => exact ⟨k + 1, by omega, by go_num, by rw [HST.out]; go_num, HG1.out⟩
        case measure => simp [intOf]; omega
    · obtain rfl : k = L.length := by omega
      have hGe := Lib.hid (HG.out.trans hgw)
      have mh := MH.out
      rw [List.take_length] at q1 q2 ⊢
      clear hlt hgw HR
      have fin : ∀ (vx vy : Bool) (un inn : Bool), has a px py = vx → has b px py = vy → has u px py = un → ins a b = inn → ((vx = true ∨ vy = true) → un = true) → (inn = true → vx = true → vy = true) → has i px py = (vx && vy) → True := fun _ _ _ _ _ _ _ _ _ _ _ => trivial
      clear fin
      cases kx : has a px py with
      | true =>
        cases ky : has b px py with
        | true =>
          have ku := MU.out (.inl kx)
          cases ki : ins a b with
          | true =>
            rw [kx, ky] at mh
            replace mh : hits px py L = 0 := by rw [mh]; decide
            have mi := MI.out
            try rw [kx, ky] at mi
            replace mi : has i px py = true := by rw [mi]; rfl
            have j1 := Lib.hid H1.out
            have j2 := Lib.hid (HH.out _ _ mi)
            have j3 := Lib.hid H2.out
            have j4 := Lib.hid (HH.out _ _ ku)
            have j5 := Lib.hid (HI.out _ _ _ ki)
            rw [mh]
            clear kx ky ku ki mi mh
            go_wp2
            refine q_region (C := fun x => Grow wr x) (by kernel_rfl) (by kernel_rfl) (Grow.drew _) ?_
            repeat (first
              | go_big_quiet_skip
              | (go_big_quiet_want; refine q_val ?_; apply Exists.intro; refine ⟨fun x hx => ?_, ?_⟩; (focus (replace hx : Grow wr x := hx; have xa0 := hx.cell a0; have xa1 := hx.cell a1; have xa2 := hx.cell a2; have xa3 := hx.cell a3; have xb0 := hx.cell b0; have xb1 := hx.cell b1; have xb2 := hx.cell b2; have xb3 := hx.cell b3; have xp0 := hx.cell p0; have xp1 := hx.cell p1; go_simp <;> rfl)); simp only [Act.put, List.setIfInBounds_toArray, List.set_cons_zero, List.set_cons_succ]; go_big_quiet_on)
              | (go_big_quiet_want; refine q_call 38 ?_; apply Exists.intro; refine ⟨fun x hx => ?_, ?_⟩; (focus (go_simp <;> rfl)); apply Exists.intro; refine ⟨fun x hx => ?_, ?_⟩; (focus ((with_reducible refine Calls.mono (j3.out _) ?_); exact fun e w' h => ⟨h.1, Grow.trans hx h.2⟩)); simp only [Act.put, List.setIfInBounds_toArray, List.set_cons_zero, List.set_cons_succ]; go_big_quiet_on)
              | (go_big_quiet_want; refine q_call 33 ?_; apply Exists.intro; refine ⟨fun x hx => ?_, ?_⟩; (focus (go_simp <;> rfl)); apply Exists.intro; refine ⟨fun x hx => ?_, ?_⟩; (focus ((with_reducible refine Calls.mono (j4.out _) ?_); exact fun e w' h => ⟨h.1, Grow.trans hx h.2⟩)); simp only [Act.put, List.setIfInBounds_toArray, List.set_cons_zero, List.set_cons_succ]; go_big_quiet_on))
            refine wpQuiet_nil ?_
            intro W1 hW1
            replace hW1 : Grow wr W1 := hW1
            replace a0 := hW1.cell a0
            replace a1 := hW1.cell a1
            replace a2 := hW1.cell a2
            replace a3 := hW1.cell a3
            replace b0 := hW1.cell b0
            replace b1 := hW1.cell b1
            replace b2 := hW1.cell b2
            replace b3 := hW1.cell b3
            replace p0 := hW1.cell p0
            replace p1 := hW1.cell p1
            have HG1 := Lib.hid (hGe.out.trans hW1)
            clear hW1
            go_wp2
            refine q_region (C := fun x => Grow W1 x) (by kernel_rfl) (by kernel_rfl) (Grow.drew _) ?_
            repeat (first
              | go_big_quiet_skip
              | (go_big_quiet_want; refine q_val ?_; apply Exists.intro; refine ⟨fun x hx => ?_, ?_⟩; (focus (replace hx : Grow W1 x := hx; have xa0 := hx.cell a0; have xa1 := hx.cell a1; have xa2 := hx.cell a2; have xa3 := hx.cell a3; have xb0 := hx.cell b0; have xb1 := hx.cell b1; have xb2 := hx.cell b2; have xb3 := hx.cell b3; have xp0 := hx.cell p0; have xp1 := hx.cell p1; go_simp <;> rfl)); simp only [Act.put, List.setIfInBounds_toArray, List.set_cons_zero, List.set_cons_succ]; go_big_quiet_on)
              | (go_big_quiet_want; refine q_call 18 ?_; apply Exists.intro; refine ⟨fun x hx => ?_, ?_⟩; (focus (go_simp <;> rfl)); apply Exists.intro; refine ⟨fun x hx => ?_, ?_⟩; (focus ((with_reducible refine Calls.mono (j1.out _) ?_); exact fun e w' h => ⟨h.1, Grow.trans hx h.2⟩)); simp only [Act.put, List.setIfInBounds_toArray, List.set_cons_zero, List.set_cons_succ]; go_big_quiet_on)
              | (go_big_quiet_want; refine q_call 33 ?_; apply Exists.intro; refine ⟨fun x hx => ?_, ?_⟩; (focus (go_simp <;> rfl)); apply Exists.intro; refine ⟨fun x hx => ?_, ?_⟩; (focus ((with_reducible refine Calls.mono (j2.out _) ?_); exact fun e w' h => ⟨h.1, Grow.trans hx h.2⟩)); simp only [Act.put, List.setIfInBounds_toArray, List.set_cons_zero, List.set_cons_succ]; go_big_quiet_on)
              | (go_big_quiet_want; refine q_call 34 ?_; apply Exists.intro; refine ⟨fun x hx => ?_, ?_⟩; (focus (go_simp <;> rfl)); apply Exists.intro; refine ⟨fun x hx => ?_, ?_⟩; (focus ((with_reducible refine Calls.mono (j5.out _) ?_); exact fun e w' h => ⟨h.1, Grow.trans hx h.2⟩)); simp only [Act.put, List.setIfInBounds_toArray, List.set_cons_zero, List.set_cons_succ]; go_big_quiet_on))
            refine wpQuiet_nil ?_
            intro W2 hW2
            replace hW2 : Grow W1 W2 := hW2
            have HG2 := Lib.hid (HG1.out.trans hW2)
            clear hW2
            go_wp2
            go_ret
            exact ⟨rfl, HG2.out⟩
          | false =>
            rw [kx, ky] at mh
            replace mh : hits px py L = 0 := by rw [mh]; decide
            have mi := MI.out
            try rw [kx, ky] at mi
            replace mi : has i px py = true := by rw [mi]; rfl
            have j1 := Lib.hid H1.out
            have j2 := Lib.hid (HH.out _ _ mi)
            have j3 := Lib.hid H2.out
            have j4 := Lib.hid (HH.out _ _ ku)
            have j5 := Lib.hid (HI.out _ _ _ ki)
            rw [mh]
            clear kx ky ku ki mi mh
            go_wp2
            refine q_region (C := fun x => Grow wr x) (by kernel_rfl) (by kernel_rfl) (Grow.drew _) ?_
            repeat (first
              | go_big_quiet_skip
              | (go_big_quiet_want; refine q_val ?_; apply Exists.intro; refine ⟨fun x hx => ?_, ?_⟩; (focus (replace hx : Grow wr x := hx; have xa0 := hx.cell a0; have xa1 := hx.cell a1; have xa2 := hx.cell a2; have xa3 := hx.cell a3; have xb0 := hx.cell b0; have xb1 := hx.cell b1; have xb2 := hx.cell b2; have xb3 := hx.cell b3; have xp0 := hx.cell p0; have xp1 := hx.cell p1; go_simp <;> rfl)); simp only [Act.put, List.setIfInBounds_toArray, List.set_cons_zero, List.set_cons_succ]; go_big_quiet_on)
              | (go_big_quiet_want; refine q_call 38 ?_; apply Exists.intro; refine ⟨fun x hx => ?_, ?_⟩; (focus (go_simp <;> rfl)); apply Exists.intro; refine ⟨fun x hx => ?_, ?_⟩; (focus ((with_reducible refine Calls.mono (j3.out _) ?_); exact fun e w' h => ⟨h.1, Grow.trans hx h.2⟩)); simp only [Act.put, List.setIfInBounds_toArray, List.set_cons_zero, List.set_cons_succ]; go_big_quiet_on)
              | (go_big_quiet_want; refine q_call 33 ?_; apply Exists.intro; refine ⟨fun x hx => ?_, ?_⟩; (focus (go_simp <;> rfl)); apply Exists.intro; refine ⟨fun x hx => ?_, ?_⟩; (focus ((with_reducible refine Calls.mono (j4.out _) ?_); exact fun e w' h => ⟨h.1, Grow.trans hx h.2⟩)); simp only [Act.put, List.setIfInBounds_toArray, List.set_cons_zero, List.set_cons_succ]; go_big_quiet_on))
            refine wpQuiet_nil ?_
            intro W1 hW1
            replace hW1 : Grow wr W1 := hW1
            replace a0 := hW1.cell a0
            replace a1 := hW1.cell a1
            replace a2 := hW1.cell a2
            replace a3 := hW1.cell a3
            replace b0 := hW1.cell b0
            replace b1 := hW1.cell b1
            replace b2 := hW1.cell b2
            replace b3 := hW1.cell b3
            replace p0 := hW1.cell p0
            replace p1 := hW1.cell p1
            have HG1 := Lib.hid (hGe.out.trans hW1)
            clear hW1
            go_wp2
            refine q_region (C := fun x => Grow W1 x) (by kernel_rfl) (by kernel_rfl) (Grow.drew _) ?_
            repeat (first
              | go_big_quiet_skip
              | (go_big_quiet_want; refine q_val ?_; apply Exists.intro; refine ⟨fun x hx => ?_, ?_⟩; (focus (replace hx : Grow W1 x := hx; have xa0 := hx.cell a0; have xa1 := hx.cell a1; have xa2 := hx.cell a2; have xa3 := hx.cell a3; have xb0 := hx.cell b0; have xb1 := hx.cell b1; have xb2 := hx.cell b2; have xb3 := hx.cell b3; have xp0 := hx.cell p0; have xp1 := hx.cell p1; go_simp <;> rfl)); simp only [Act.put, List.setIfInBounds_toArray, List.set_cons_zero, List.set_cons_succ]; go_big_quiet_on)
              | (go_big_quiet_want; refine q_call 18 ?_; apply Exists.intro; refine ⟨fun x hx => ?_, ?_⟩; (focus (go_simp <;> rfl)); apply Exists.intro; refine ⟨fun x hx => ?_, ?_⟩; (focus ((with_reducible refine Calls.mono (j1.out _) ?_); exact fun e w' h => ⟨h.1, Grow.trans hx h.2⟩)); simp only [Act.put, List.setIfInBounds_toArray, List.set_cons_zero, List.set_cons_succ]; go_big_quiet_on)
              | (go_big_quiet_want; refine q_call 33 ?_; apply Exists.intro; refine ⟨fun x hx => ?_, ?_⟩; (focus (go_simp <;> rfl)); apply Exists.intro; refine ⟨fun x hx => ?_, ?_⟩; (focus ((with_reducible refine Calls.mono (j2.out _) ?_); exact fun e w' h => ⟨h.1, Grow.trans hx h.2⟩)); simp only [Act.put, List.setIfInBounds_toArray, List.set_cons_zero, List.set_cons_succ]; go_big_quiet_on)
              | (go_big_quiet_want; refine q_call 34 ?_; apply Exists.intro; refine ⟨fun x hx => ?_, ?_⟩; (focus (go_simp <;> rfl)); apply Exists.intro; refine ⟨fun x hx => ?_, ?_⟩; (focus ((with_reducible refine Calls.mono (j5.out _) ?_); exact fun e w' h => ⟨h.1, Grow.trans hx h.2⟩)); simp only [Act.put, List.setIfInBounds_toArray, List.set_cons_zero, List.set_cons_succ]; go_big_quiet_on))
            refine wpQuiet_nil ?_
            intro W2 hW2
            replace hW2 : Grow W1 W2 := hW2
            have HG2 := Lib.hid (HG1.out.trans hW2)
            clear hW2
            go_wp2
            go_ret
            exact ⟨rfl, HG2.out⟩
        | false =>
          have ku := MU.out (.inl kx)
          have ki : ins a b = false := by cases ki : ins a b; rfl; exact absurd (MN.out ki kx) (by rw [ky]; simp)
          rw [kx, ky] at mh
          replace mh : hits px py L = 1 := by rw [mh]; decide
          have mi := MI.out
          try rw [kx, ky] at mi
          replace mi : has i px py = false := by rw [mi]; rfl
          have j1 := Lib.hid H1.out
          have j2 := Lib.hid (HH.out _ _ mi)
          have j3 := Lib.hid H2.out
          have j4 := Lib.hid (HH.out _ _ ku)
          have j5 := Lib.hid (HI.out _ _ _ ki)
          rw [mh]
          clear kx ky ku ki mi mh
          go_wp2
          refine q_region (C := fun x => Grow wr x) (by kernel_rfl) (by kernel_rfl) (Grow.drew _) ?_
          repeat (first
            | go_big_quiet_skip
            | (go_big_quiet_want; refine q_val ?_; apply Exists.intro; refine ⟨fun x hx => ?_, ?_⟩; (focus (replace hx : Grow wr x := hx; have xa0 := hx.cell a0; have xa1 := hx.cell a1; have xa2 := hx.cell a2; have xa3 := hx.cell a3; have xb0 := hx.cell b0; have xb1 := hx.cell b1; have xb2 := hx.cell b2; have xb3 := hx.cell b3; have xp0 := hx.cell p0; have xp1 := hx.cell p1; go_simp <;> rfl)); simp only [Act.put, List.setIfInBounds_toArray, List.set_cons_zero, List.set_cons_succ]; go_big_quiet_on)
            | (go_big_quiet_want; refine q_call 38 ?_; apply Exists.intro; refine ⟨fun x hx => ?_, ?_⟩; (focus (go_simp <;> rfl)); apply Exists.intro; refine ⟨fun x hx => ?_, ?_⟩; (focus ((with_reducible refine Calls.mono (j3.out _) ?_); exact fun e w' h => ⟨h.1, Grow.trans hx h.2⟩)); simp only [Act.put, List.setIfInBounds_toArray, List.set_cons_zero, List.set_cons_succ]; go_big_quiet_on)
            | (go_big_quiet_want; refine q_call 33 ?_; apply Exists.intro; refine ⟨fun x hx => ?_, ?_⟩; (focus (go_simp <;> rfl)); apply Exists.intro; refine ⟨fun x hx => ?_, ?_⟩; (focus ((with_reducible refine Calls.mono (j4.out _) ?_); exact fun e w' h => ⟨h.1, Grow.trans hx h.2⟩)); simp only [Act.put, List.setIfInBounds_toArray, List.set_cons_zero, List.set_cons_succ]; go_big_quiet_on))
          refine wpQuiet_nil ?_
          intro W1 hW1
          replace hW1 : Grow wr W1 := hW1
          replace a0 := hW1.cell a0
          replace a1 := hW1.cell a1
          replace a2 := hW1.cell a2
          replace a3 := hW1.cell a3
          replace b0 := hW1.cell b0
          replace b1 := hW1.cell b1
          replace b2 := hW1.cell b2
          replace b3 := hW1.cell b3
          replace p0 := hW1.cell p0
          replace p1 := hW1.cell p1
          have HG1 := Lib.hid (hGe.out.trans hW1)
          clear hW1
          go_wp2
          refine q_region (C := fun x => Grow W1 x) (by kernel_rfl) (by kernel_rfl) (Grow.drew _) ?_
          repeat (first
            | go_big_quiet_skip
            | (go_big_quiet_want; refine q_val ?_; apply Exists.intro; refine ⟨fun x hx => ?_, ?_⟩; (focus (replace hx : Grow W1 x := hx; have xa0 := hx.cell a0; have xa1 := hx.cell a1; have xa2 := hx.cell a2; have xa3 := hx.cell a3; have xb0 := hx.cell b0; have xb1 := hx.cell b1; have xb2 := hx.cell b2; have xb3 := hx.cell b3; have xp0 := hx.cell p0; have xp1 := hx.cell p1; go_simp <;> rfl)); simp only [Act.put, List.setIfInBounds_toArray, List.set_cons_zero, List.set_cons_succ]; go_big_quiet_on)
            | (go_big_quiet_want; refine q_call 18 ?_; apply Exists.intro; refine ⟨fun x hx => ?_, ?_⟩; (focus (go_simp <;> rfl)); apply Exists.intro; refine ⟨fun x hx => ?_, ?_⟩; (focus ((with_reducible refine Calls.mono (j1.out _) ?_); exact fun e w' h => ⟨h.1, Grow.trans hx h.2⟩)); simp only [Act.put, List.setIfInBounds_toArray, List.set_cons_zero, List.set_cons_succ]; go_big_quiet_on)
            | (go_big_quiet_want; refine q_call 33 ?_; apply Exists.intro; refine ⟨fun x hx => ?_, ?_⟩; (focus (go_simp <;> rfl)); apply Exists.intro; refine ⟨fun x hx => ?_, ?_⟩; (focus ((with_reducible refine Calls.mono (j2.out _) ?_); exact fun e w' h => ⟨h.1, Grow.trans hx h.2⟩)); simp only [Act.put, List.setIfInBounds_toArray, List.set_cons_zero, List.set_cons_succ]; go_big_quiet_on)
            | (go_big_quiet_want; refine q_call 34 ?_; apply Exists.intro; refine ⟨fun x hx => ?_, ?_⟩; (focus (go_simp <;> rfl)); apply Exists.intro; refine ⟨fun x hx => ?_, ?_⟩; (focus ((with_reducible refine Calls.mono (j5.out _) ?_); exact fun e w' h => ⟨h.1, Grow.trans hx h.2⟩)); simp only [Act.put, List.setIfInBounds_toArray, List.set_cons_zero, List.set_cons_succ]; go_big_quiet_on))
          refine wpQuiet_nil ?_
          intro W2 hW2
          replace hW2 : Grow W1 W2 := hW2
          have HG2 := Lib.hid (HG1.out.trans hW2)
          clear hW2
          go_wp2
          go_ret
          exact ⟨rfl, HG2.out⟩
      | false =>
        cases ky : has b px py with
        | true =>
          have ku := MU.out (.inr ky)
          cases ki : ins a b with
          | true =>
            rw [kx, ky] at mh
            replace mh : hits px py L = 0 := by rw [mh]; decide
            have mi := MI.out
            try rw [kx, ky] at mi
            replace mi : has i px py = false := by rw [mi]; rfl
            have j1 := Lib.hid H1.out
            have j2 := Lib.hid (HH.out _ _ mi)
            have j3 := Lib.hid H2.out
            have j4 := Lib.hid (HH.out _ _ ku)
            have j5 := Lib.hid (HI.out _ _ _ ki)
            rw [mh]
            clear kx ky ku ki mi mh
            go_wp2
            refine q_region (C := fun x => Grow wr x) (by kernel_rfl) (by kernel_rfl) (Grow.drew _) ?_
            repeat (first
              | go_big_quiet_skip
              | (go_big_quiet_want; refine q_val ?_; apply Exists.intro; refine ⟨fun x hx => ?_, ?_⟩; (focus (replace hx : Grow wr x := hx; have xa0 := hx.cell a0; have xa1 := hx.cell a1; have xa2 := hx.cell a2; have xa3 := hx.cell a3; have xb0 := hx.cell b0; have xb1 := hx.cell b1; have xb2 := hx.cell b2; have xb3 := hx.cell b3; have xp0 := hx.cell p0; have xp1 := hx.cell p1; go_simp <;> rfl)); simp only [Act.put, List.setIfInBounds_toArray, List.set_cons_zero, List.set_cons_succ]; go_big_quiet_on)
              | (go_big_quiet_want; refine q_call 38 ?_; apply Exists.intro; refine ⟨fun x hx => ?_, ?_⟩; (focus (go_simp <;> rfl)); apply Exists.intro; refine ⟨fun x hx => ?_, ?_⟩; (focus ((with_reducible refine Calls.mono (j3.out _) ?_); exact fun e w' h => ⟨h.1, Grow.trans hx h.2⟩)); simp only [Act.put, List.setIfInBounds_toArray, List.set_cons_zero, List.set_cons_succ]; go_big_quiet_on)
              | (go_big_quiet_want; refine q_call 33 ?_; apply Exists.intro; refine ⟨fun x hx => ?_, ?_⟩; (focus (go_simp <;> rfl)); apply Exists.intro; refine ⟨fun x hx => ?_, ?_⟩; (focus ((with_reducible refine Calls.mono (j4.out _) ?_); exact fun e w' h => ⟨h.1, Grow.trans hx h.2⟩)); simp only [Act.put, List.setIfInBounds_toArray, List.set_cons_zero, List.set_cons_succ]; go_big_quiet_on))
            refine wpQuiet_nil ?_
            intro W1 hW1
            replace hW1 : Grow wr W1 := hW1
            replace a0 := hW1.cell a0
            replace a1 := hW1.cell a1
            replace a2 := hW1.cell a2
            replace a3 := hW1.cell a3
            replace b0 := hW1.cell b0
            replace b1 := hW1.cell b1
            replace b2 := hW1.cell b2
            replace b3 := hW1.cell b3
            replace p0 := hW1.cell p0
            replace p1 := hW1.cell p1
            have HG1 := Lib.hid (hGe.out.trans hW1)
            clear hW1
            go_wp2
            refine q_region (C := fun x => Grow W1 x) (by kernel_rfl) (by kernel_rfl) (Grow.drew _) ?_
            repeat (first
              | go_big_quiet_skip
              | (go_big_quiet_want; refine q_val ?_; apply Exists.intro; refine ⟨fun x hx => ?_, ?_⟩; (focus (replace hx : Grow W1 x := hx; have xa0 := hx.cell a0; have xa1 := hx.cell a1; have xa2 := hx.cell a2; have xa3 := hx.cell a3; have xb0 := hx.cell b0; have xb1 := hx.cell b1; have xb2 := hx.cell b2; have xb3 := hx.cell b3; have xp0 := hx.cell p0; have xp1 := hx.cell p1; go_simp <;> rfl)); simp only [Act.put, List.setIfInBounds_toArray, List.set_cons_zero, List.set_cons_succ]; go_big_quiet_on)
              | (go_big_quiet_want; refine q_call 18 ?_; apply Exists.intro; refine ⟨fun x hx => ?_, ?_⟩; (focus (go_simp <;> rfl)); apply Exists.intro; refine ⟨fun x hx => ?_, ?_⟩; (focus ((with_reducible refine Calls.mono (j1.out _) ?_); exact fun e w' h => ⟨h.1, Grow.trans hx h.2⟩)); simp only [Act.put, List.setIfInBounds_toArray, List.set_cons_zero, List.set_cons_succ]; go_big_quiet_on)
              | (go_big_quiet_want; refine q_call 33 ?_; apply Exists.intro; refine ⟨fun x hx => ?_, ?_⟩; (focus (go_simp <;> rfl)); apply Exists.intro; refine ⟨fun x hx => ?_, ?_⟩; (focus ((with_reducible refine Calls.mono (j2.out _) ?_); exact fun e w' h => ⟨h.1, Grow.trans hx h.2⟩)); simp only [Act.put, List.setIfInBounds_toArray, List.set_cons_zero, List.set_cons_succ]; go_big_quiet_on)
              | (go_big_quiet_want; refine q_call 34 ?_; apply Exists.intro; refine ⟨fun x hx => ?_, ?_⟩; (focus (go_simp <;> rfl)); apply Exists.intro; refine ⟨fun x hx => ?_, ?_⟩; (focus ((with_reducible refine Calls.mono (j5.out _) ?_); exact fun e w' h => ⟨h.1, Grow.trans hx h.2⟩)); simp only [Act.put, List.setIfInBounds_toArray, List.set_cons_zero, List.set_cons_succ]; go_big_quiet_on))
            refine wpQuiet_nil ?_
            intro W2 hW2
            replace hW2 : Grow W1 W2 := hW2
            have HG2 := Lib.hid (HG1.out.trans hW2)
            clear hW2
            go_wp2
            go_ret
            exact ⟨rfl, HG2.out⟩
          | false =>
            rw [kx, ky] at mh
            replace mh : hits px py L = 0 := by rw [mh]; decide
            have mi := MI.out
            try rw [kx, ky] at mi
            replace mi : has i px py = false := by rw [mi]; rfl
            have j1 := Lib.hid H1.out
            have j2 := Lib.hid (HH.out _ _ mi)
            have j3 := Lib.hid H2.out
            have j4 := Lib.hid (HH.out _ _ ku)
            have j5 := Lib.hid (HI.out _ _ _ ki)
            rw [mh]
            clear kx ky ku ki mi mh
            go_wp2
            refine q_region (C := fun x => Grow wr x) (by kernel_rfl) (by kernel_rfl) (Grow.drew _) ?_
            repeat (first
              | go_big_quiet_skip
              | (go_big_quiet_want; refine q_val ?_; apply Exists.intro; refine ⟨fun x hx => ?_, ?_⟩; (focus (replace hx : Grow wr x := hx; have xa0 := hx.cell a0; have xa1 := hx.cell a1; have xa2 := hx.cell a2; have xa3 := hx.cell a3; have xb0 := hx.cell b0; have xb1 := hx.cell b1; have xb2 := hx.cell b2; have xb3 := hx.cell b3; have xp0 := hx.cell p0; have xp1 := hx.cell p1; go_simp <;> rfl)); simp only [Act.put, List.setIfInBounds_toArray, List.set_cons_zero, List.set_cons_succ]; go_big_quiet_on)
              | (go_big_quiet_want; refine q_call 38 ?_; apply Exists.intro; refine ⟨fun x hx => ?_, ?_⟩; (focus (go_simp <;> rfl)); apply Exists.intro; refine ⟨fun x hx => ?_, ?_⟩; (focus ((with_reducible refine Calls.mono (j3.out _) ?_); exact fun e w' h => ⟨h.1, Grow.trans hx h.2⟩)); simp only [Act.put, List.setIfInBounds_toArray, List.set_cons_zero, List.set_cons_succ]; go_big_quiet_on)
              | (go_big_quiet_want; refine q_call 33 ?_; apply Exists.intro; refine ⟨fun x hx => ?_, ?_⟩; (focus (go_simp <;> rfl)); apply Exists.intro; refine ⟨fun x hx => ?_, ?_⟩; (focus ((with_reducible refine Calls.mono (j4.out _) ?_); exact fun e w' h => ⟨h.1, Grow.trans hx h.2⟩)); simp only [Act.put, List.setIfInBounds_toArray, List.set_cons_zero, List.set_cons_succ]; go_big_quiet_on))
            refine wpQuiet_nil ?_
            intro W1 hW1
            replace hW1 : Grow wr W1 := hW1
            replace a0 := hW1.cell a0
            replace a1 := hW1.cell a1
            replace a2 := hW1.cell a2
            replace a3 := hW1.cell a3
            replace b0 := hW1.cell b0
            replace b1 := hW1.cell b1
            replace b2 := hW1.cell b2
            replace b3 := hW1.cell b3
            replace p0 := hW1.cell p0
            replace p1 := hW1.cell p1
            have HG1 := Lib.hid (hGe.out.trans hW1)
            clear hW1
            go_wp2
            refine q_region (C := fun x => Grow W1 x) (by kernel_rfl) (by kernel_rfl) (Grow.drew _) ?_
            repeat (first
              | go_big_quiet_skip
              | (go_big_quiet_want; refine q_val ?_; apply Exists.intro; refine ⟨fun x hx => ?_, ?_⟩; (focus (replace hx : Grow W1 x := hx; have xa0 := hx.cell a0; have xa1 := hx.cell a1; have xa2 := hx.cell a2; have xa3 := hx.cell a3; have xb0 := hx.cell b0; have xb1 := hx.cell b1; have xb2 := hx.cell b2; have xb3 := hx.cell b3; have xp0 := hx.cell p0; have xp1 := hx.cell p1; go_simp <;> rfl)); simp only [Act.put, List.setIfInBounds_toArray, List.set_cons_zero, List.set_cons_succ]; go_big_quiet_on)
              | (go_big_quiet_want; refine q_call 18 ?_; apply Exists.intro; refine ⟨fun x hx => ?_, ?_⟩; (focus (go_simp <;> rfl)); apply Exists.intro; refine ⟨fun x hx => ?_, ?_⟩; (focus ((with_reducible refine Calls.mono (j1.out _) ?_); exact fun e w' h => ⟨h.1, Grow.trans hx h.2⟩)); simp only [Act.put, List.setIfInBounds_toArray, List.set_cons_zero, List.set_cons_succ]; go_big_quiet_on)
              | (go_big_quiet_want; refine q_call 33 ?_; apply Exists.intro; refine ⟨fun x hx => ?_, ?_⟩; (focus (go_simp <;> rfl)); apply Exists.intro; refine ⟨fun x hx => ?_, ?_⟩; (focus ((with_reducible refine Calls.mono (j2.out _) ?_); exact fun e w' h => ⟨h.1, Grow.trans hx h.2⟩)); simp only [Act.put, List.setIfInBounds_toArray, List.set_cons_zero, List.set_cons_succ]; go_big_quiet_on)
              | (go_big_quiet_want; refine q_call 34 ?_; apply Exists.intro; refine ⟨fun x hx => ?_, ?_⟩; (focus (go_simp <;> rfl)); apply Exists.intro; refine ⟨fun x hx => ?_, ?_⟩; (focus ((with_reducible refine Calls.mono (j5.out _) ?_); exact fun e w' h => ⟨h.1, Grow.trans hx h.2⟩)); simp only [Act.put, List.setIfInBounds_toArray, List.set_cons_zero, List.set_cons_succ]; go_big_quiet_on))
            refine wpQuiet_nil ?_
            intro W2 hW2
            replace hW2 : Grow W1 W2 := hW2
            have HG2 := Lib.hid (HG1.out.trans hW2)
            clear hW2
            go_wp2
            go_ret
            exact ⟨rfl, HG2.out⟩
        | false =>
          cases ku : has u px py with
          | true =>
            cases ki : ins a b with
            | true =>
              rw [kx, ky] at mh
              replace mh : hits px py L = 0 := by rw [mh]; decide
              have mi := MI.out
              try rw [kx, ky] at mi
              replace mi : has i px py = false := by rw [mi]; rfl
              have j1 := Lib.hid H1.out
              have j2 := Lib.hid (HH.out _ _ mi)
              have j3 := Lib.hid H2.out
              have j4 := Lib.hid (HH.out _ _ ku)
              have j5 := Lib.hid (HI.out _ _ _ ki)
              rw [mh]
              clear kx ky ku ki mi mh
              go_wp2
              refine q_region (C := fun x => Grow wr x) (by kernel_rfl) (by kernel_rfl) (Grow.drew _) ?_
              repeat (first
                | go_big_quiet_skip
                | (go_big_quiet_want; refine q_val ?_; apply Exists.intro; refine ⟨fun x hx => ?_, ?_⟩; (focus (replace hx : Grow wr x := hx; have xa0 := hx.cell a0; have xa1 := hx.cell a1; have xa2 := hx.cell a2; have xa3 := hx.cell a3; have xb0 := hx.cell b0; have xb1 := hx.cell b1; have xb2 := hx.cell b2; have xb3 := hx.cell b3; have xp0 := hx.cell p0; have xp1 := hx.cell p1; go_simp <;> rfl)); simp only [Act.put, List.setIfInBounds_toArray, List.set_cons_zero, List.set_cons_succ]; go_big_quiet_on)
                | (go_big_quiet_want; refine q_call 38 ?_; apply Exists.intro; refine ⟨fun x hx => ?_, ?_⟩; (focus (go_simp <;> rfl)); apply Exists.intro; refine ⟨fun x hx => ?_, ?_⟩; (focus ((with_reducible refine Calls.mono (j3.out _) ?_); exact fun e w' h => ⟨h.1, Grow.trans hx h.2⟩)); simp only [Act.put, List.setIfInBounds_toArray, List.set_cons_zero, List.set_cons_succ]; go_big_quiet_on)
                | (go_big_quiet_want; refine q_call 33 ?_; apply Exists.intro; refine ⟨fun x hx => ?_, ?_⟩; (focus (go_simp <;> rfl)); apply Exists.intro; refine ⟨fun x hx => ?_, ?_⟩; (focus ((with_reducible refine Calls.mono (j4.out _) ?_); exact fun e w' h => ⟨h.1, Grow.trans hx h.2⟩)); simp only [Act.put, List.setIfInBounds_toArray, List.set_cons_zero, List.set_cons_succ]; go_big_quiet_on))
              refine wpQuiet_nil ?_
              intro W1 hW1
              replace hW1 : Grow wr W1 := hW1
              replace a0 := hW1.cell a0
              replace a1 := hW1.cell a1
              replace a2 := hW1.cell a2
              replace a3 := hW1.cell a3
              replace b0 := hW1.cell b0
              replace b1 := hW1.cell b1
              replace b2 := hW1.cell b2
              replace b3 := hW1.cell b3
              replace p0 := hW1.cell p0
              replace p1 := hW1.cell p1
              have HG1 := Lib.hid (hGe.out.trans hW1)
              clear hW1
              go_wp2
              refine q_region (C := fun x => Grow W1 x) (by kernel_rfl) (by kernel_rfl) (Grow.drew _) ?_
              repeat (first
                | go_big_quiet_skip
                | (go_big_quiet_want; refine q_val ?_; apply Exists.intro; refine ⟨fun x hx => ?_, ?_⟩; (focus (replace hx : Grow W1 x := hx; have xa0 := hx.cell a0; have xa1 := hx.cell a1; have xa2 := hx.cell a2; have xa3 := hx.cell a3; have xb0 := hx.cell b0; have xb1 := hx.cell b1; have xb2 := hx.cell b2; have xb3 := hx.cell b3; have xp0 := hx.cell p0; have xp1 := hx.cell p1; go_simp <;> rfl)); simp only [Act.put, List.setIfInBounds_toArray, List.set_cons_zero, List.set_cons_succ]; go_big_quiet_on)
                | (go_big_quiet_want; refine q_call 18 ?_; apply Exists.intro; refine ⟨fun x hx => ?_, ?_⟩; (focus (go_simp <;> rfl)); apply Exists.intro; refine ⟨fun x hx => ?_, ?_⟩; (focus ((with_reducible refine Calls.mono (j1.out _) ?_); exact fun e w' h => ⟨h.1, Grow.trans hx h.2⟩)); simp only [Act.put, List.setIfInBounds_toArray, List.set_cons_zero, List.set_cons_succ]; go_big_quiet_on)
                | (go_big_quiet_want; refine q_call 33 ?_; apply Exists.intro; refine ⟨fun x hx => ?_, ?_⟩; (focus (go_simp <;> rfl)); apply Exists.intro; refine ⟨fun x hx => ?_, ?_⟩; (focus ((with_reducible refine Calls.mono (j2.out _) ?_); exact fun e w' h => ⟨h.1, Grow.trans hx h.2⟩)); simp only [Act.put, List.setIfInBounds_toArray, List.set_cons_zero, List.set_cons_succ]; go_big_quiet_on)
                | (go_big_quiet_want; refine q_call 34 ?_; apply Exists.intro; refine ⟨fun x hx => ?_, ?_⟩; (focus (go_simp <;> rfl)); apply Exists.intro; refine ⟨fun x hx => ?_, ?_⟩; (focus ((with_reducible refine Calls.mono (j5.out _) ?_); exact fun e w' h => ⟨h.1, Grow.trans hx h.2⟩)); simp only [Act.put, List.setIfInBounds_toArray, List.set_cons_zero, List.set_cons_succ]; go_big_quiet_on))
              refine wpQuiet_nil ?_
              intro W2 hW2
              replace hW2 : Grow W1 W2 := hW2
              have HG2 := Lib.hid (HG1.out.trans hW2)
              clear hW2
              go_wp2
              go_ret
              exact ⟨rfl, HG2.out⟩
            | false =>
              rw [kx, ky] at mh
              replace mh : hits px py L = 0 := by rw [mh]; decide
              have mi := MI.out
              try rw [kx, ky] at mi
              replace mi : has i px py = false := by rw [mi]; rfl
              have j1 := Lib.hid H1.out
              have j2 := Lib.hid (HH.out _ _ mi)
              have j3 := Lib.hid H2.out
              have j4 := Lib.hid (HH.out _ _ ku)
              have j5 := Lib.hid (HI.out _ _ _ ki)
              rw [mh]
              clear kx ky ku ki mi mh
              go_wp2
              refine q_region (C := fun x => Grow wr x) (by kernel_rfl) (by kernel_rfl) (Grow.drew _) ?_
              repeat (first
                | go_big_quiet_skip
                | (go_big_quiet_want; refine q_val ?_; apply Exists.intro; refine ⟨fun x hx => ?_, ?_⟩; (focus (replace hx : Grow wr x := hx; have xa0 := hx.cell a0; have xa1 := hx.cell a1; have xa2 := hx.cell a2; have xa3 := hx.cell a3; have xb0 := hx.cell b0; have xb1 := hx.cell b1; have xb2 := hx.cell b2; have xb3 := hx.cell b3; have xp0 := hx.cell p0; have xp1 := hx.cell p1; go_simp <;> rfl)); simp only [Act.put, List.setIfInBounds_toArray, List.set_cons_zero, List.set_cons_succ]; go_big_quiet_on)
                | (go_big_quiet_want; refine q_call 38 ?_; apply Exists.intro; refine ⟨fun x hx => ?_, ?_⟩; (focus (go_simp <;> rfl)); apply Exists.intro; refine ⟨fun x hx => ?_, ?_⟩; (focus ((with_reducible refine Calls.mono (j3.out _) ?_); exact fun e w' h => ⟨h.1, Grow.trans hx h.2⟩)); simp only [Act.put, List.setIfInBounds_toArray, List.set_cons_zero, List.set_cons_succ]; go_big_quiet_on)
                | (go_big_quiet_want; refine q_call 33 ?_; apply Exists.intro; refine ⟨fun x hx => ?_, ?_⟩; (focus (go_simp <;> rfl)); apply Exists.intro; refine ⟨fun x hx => ?_, ?_⟩; (focus ((with_reducible refine Calls.mono (j4.out _) ?_); exact fun e w' h => ⟨h.1, Grow.trans hx h.2⟩)); simp only [Act.put, List.setIfInBounds_toArray, List.set_cons_zero, List.set_cons_succ]; go_big_quiet_on))
              refine wpQuiet_nil ?_
              intro W1 hW1
              replace hW1 : Grow wr W1 := hW1
              replace a0 := hW1.cell a0
              replace a1 := hW1.cell a1
              replace a2 := hW1.cell a2
              replace a3 := hW1.cell a3
              replace b0 := hW1.cell b0
              replace b1 := hW1.cell b1
              replace b2 := hW1.cell b2
              replace b3 := hW1.cell b3
              replace p0 := hW1.cell p0
              replace p1 := hW1.cell p1
              have HG1 := Lib.hid (hGe.out.trans hW1)
              clear hW1
              go_wp2
              refine q_region (C := fun x => Grow W1 x) (by kernel_rfl) (by kernel_rfl) (Grow.drew _) ?_
              repeat (first
                | go_big_quiet_skip
                | (go_big_quiet_want; refine q_val ?_; apply Exists.intro; refine ⟨fun x hx => ?_, ?_⟩; (focus (replace hx : Grow W1 x := hx; have xa0 := hx.cell a0; have xa1 := hx.cell a1; have xa2 := hx.cell a2; have xa3 := hx.cell a3; have xb0 := hx.cell b0; have xb1 := hx.cell b1; have xb2 := hx.cell b2; have xb3 := hx.cell b3; have xp0 := hx.cell p0; have xp1 := hx.cell p1; go_simp <;> rfl)); simp only [Act.put, List.setIfInBounds_toArray, List.set_cons_zero, List.set_cons_succ]; go_big_quiet_on)
                | (go_big_quiet_want; refine q_call 18 ?_; apply Exists.intro; refine ⟨fun x hx => ?_, ?_⟩; (focus (go_simp <;> rfl)); apply Exists.intro; refine ⟨fun x hx => ?_, ?_⟩; (focus ((with_reducible refine Calls.mono (j1.out _) ?_); exact fun e w' h => ⟨h.1, Grow.trans hx h.2⟩)); simp only [Act.put, List.setIfInBounds_toArray, List.set_cons_zero, List.set_cons_succ]; go_big_quiet_on)
                | (go_big_quiet_want; refine q_call 33 ?_; apply Exists.intro; refine ⟨fun x hx => ?_, ?_⟩; (focus (go_simp <;> rfl)); apply Exists.intro; refine ⟨fun x hx => ?_, ?_⟩; (focus ((with_reducible refine Calls.mono (j2.out _) ?_); exact fun e w' h => ⟨h.1, Grow.trans hx h.2⟩)); simp only [Act.put, List.setIfInBounds_toArray, List.set_cons_zero, List.set_cons_succ]; go_big_quiet_on)
                | (go_big_quiet_want; refine q_call 34 ?_; apply Exists.intro; refine ⟨fun x hx => ?_, ?_⟩; (focus (go_simp <;> rfl)); apply Exists.intro; refine ⟨fun x hx => ?_, ?_⟩; (focus ((with_reducible refine Calls.mono (j5.out _) ?_); exact fun e w' h => ⟨h.1, Grow.trans hx h.2⟩)); simp only [Act.put, List.setIfInBounds_toArray, List.set_cons_zero, List.set_cons_succ]; go_big_quiet_on))
              refine wpQuiet_nil ?_
              intro W2 hW2
              replace hW2 : Grow W1 W2 := hW2
              have HG2 := Lib.hid (HG1.out.trans hW2)
              clear hW2
              go_wp2
              go_ret
              exact ⟨rfl, HG2.out⟩
          | false =>
            cases ki : ins a b with
            | true =>
              rw [kx, ky] at mh
              replace mh : hits px py L = 0 := by rw [mh]; decide
              have mi := MI.out
              try rw [kx, ky] at mi
              replace mi : has i px py = false := by rw [mi]; rfl
              have j1 := Lib.hid H1.out
              have j2 := Lib.hid (HH.out _ _ mi)
              have j3 := Lib.hid H2.out
              have j4 := Lib.hid (HH.out _ _ ku)
              have j5 := Lib.hid (HI.out _ _ _ ki)
              rw [mh]
              clear kx ky ku ki mi mh
              go_wp2
              refine q_region (C := fun x => Grow wr x) (by kernel_rfl) (by kernel_rfl) (Grow.drew _) ?_
              repeat (first
                | go_big_quiet_skip
                | (go_big_quiet_want; refine q_val ?_; apply Exists.intro; refine ⟨fun x hx => ?_, ?_⟩; (focus (replace hx : Grow wr x := hx; have xa0 := hx.cell a0; have xa1 := hx.cell a1; have xa2 := hx.cell a2; have xa3 := hx.cell a3; have xb0 := hx.cell b0; have xb1 := hx.cell b1; have xb2 := hx.cell b2; have xb3 := hx.cell b3; have xp0 := hx.cell p0; have xp1 := hx.cell p1; go_simp <;> rfl)); simp only [Act.put, List.setIfInBounds_toArray, List.set_cons_zero, List.set_cons_succ]; go_big_quiet_on)
                | (go_big_quiet_want; refine q_call 38 ?_; apply Exists.intro; refine ⟨fun x hx => ?_, ?_⟩; (focus (go_simp <;> rfl)); apply Exists.intro; refine ⟨fun x hx => ?_, ?_⟩; (focus ((with_reducible refine Calls.mono (j3.out _) ?_); exact fun e w' h => ⟨h.1, Grow.trans hx h.2⟩)); simp only [Act.put, List.setIfInBounds_toArray, List.set_cons_zero, List.set_cons_succ]; go_big_quiet_on)
                | (go_big_quiet_want; refine q_call 33 ?_; apply Exists.intro; refine ⟨fun x hx => ?_, ?_⟩; (focus (go_simp <;> rfl)); apply Exists.intro; refine ⟨fun x hx => ?_, ?_⟩; (focus ((with_reducible refine Calls.mono (j4.out _) ?_); exact fun e w' h => ⟨h.1, Grow.trans hx h.2⟩)); simp only [Act.put, List.setIfInBounds_toArray, List.set_cons_zero, List.set_cons_succ]; go_big_quiet_on))
              refine wpQuiet_nil ?_
              intro W1 hW1
              replace hW1 : Grow wr W1 := hW1
              replace a0 := hW1.cell a0
              replace a1 := hW1.cell a1
              replace a2 := hW1.cell a2
              replace a3 := hW1.cell a3
              replace b0 := hW1.cell b0
              replace b1 := hW1.cell b1
              replace b2 := hW1.cell b2
              replace b3 := hW1.cell b3
              replace p0 := hW1.cell p0
              replace p1 := hW1.cell p1
              have HG1 := Lib.hid (hGe.out.trans hW1)
              clear hW1
              go_wp2
              refine q_region (C := fun x => Grow W1 x) (by kernel_rfl) (by kernel_rfl) (Grow.drew _) ?_
              repeat (first
                | go_big_quiet_skip
                | (go_big_quiet_want; refine q_val ?_; apply Exists.intro; refine ⟨fun x hx => ?_, ?_⟩; (focus (replace hx : Grow W1 x := hx; have xa0 := hx.cell a0; have xa1 := hx.cell a1; have xa2 := hx.cell a2; have xa3 := hx.cell a3; have xb0 := hx.cell b0; have xb1 := hx.cell b1; have xb2 := hx.cell b2; have xb3 := hx.cell b3; have xp0 := hx.cell p0; have xp1 := hx.cell p1; go_simp <;> rfl)); simp only [Act.put, List.setIfInBounds_toArray, List.set_cons_zero, List.set_cons_succ]; go_big_quiet_on)
                | (go_big_quiet_want; refine q_call 18 ?_; apply Exists.intro; refine ⟨fun x hx => ?_, ?_⟩; (focus (go_simp <;> rfl)); apply Exists.intro; refine ⟨fun x hx => ?_, ?_⟩; (focus ((with_reducible refine Calls.mono (j1.out _) ?_); exact fun e w' h => ⟨h.1, Grow.trans hx h.2⟩)); simp only [Act.put, List.setIfInBounds_toArray, List.set_cons_zero, List.set_cons_succ]; go_big_quiet_on)
                | (go_big_quiet_want; refine q_call 33 ?_; apply Exists.intro; refine ⟨fun x hx => ?_, ?_⟩; (focus (go_simp <;> rfl)); apply Exists.intro; refine ⟨fun x hx => ?_, ?_⟩; (focus ((with_reducible refine Calls.mono (j2.out _) ?_); exact fun e w' h => ⟨h.1, Grow.trans hx h.2⟩)); simp only [Act.put, List.setIfInBounds_toArray, List.set_cons_zero, List.set_cons_succ]; go_big_quiet_on)
                | (go_big_quiet_want; refine q_call 34 ?_; apply Exists.intro; refine ⟨fun x hx => ?_, ?_⟩; (focus (go_simp <;> rfl)); apply Exists.intro; refine ⟨fun x hx => ?_, ?_⟩; (focus ((with_reducible refine Calls.mono (j5.out _) ?_); exact fun e w' h => ⟨h.1, Grow.trans hx h.2⟩)); simp only [Act.put, List.setIfInBounds_toArray, List.set_cons_zero, List.set_cons_succ]; go_big_quiet_on))
              refine wpQuiet_nil ?_
              intro W2 hW2
              replace hW2 : Grow W1 W2 := hW2
              have HG2 := Lib.hid (HG1.out.trans hW2)
              clear hW2
              go_wp2
              go_ret
              exact ⟨rfl, HG2.out⟩
            | false =>
              rw [kx, ky] at mh
              replace mh : hits px py L = 0 := by rw [mh]; decide
              have mi := MI.out
              try rw [kx, ky] at mi
              replace mi : has i px py = false := by rw [mi]; rfl
              have j1 := Lib.hid H1.out
              have j2 := Lib.hid (HH.out _ _ mi)
              have j3 := Lib.hid H2.out
              have j4 := Lib.hid (HH.out _ _ ku)
              have j5 := Lib.hid (HI.out _ _ _ ki)
              rw [mh]
              clear kx ky ku ki mi mh
              go_wp2
              refine q_region (C := fun x => Grow wr x) (by kernel_rfl) (by kernel_rfl) (Grow.drew _) ?_
              repeat (first
                | go_big_quiet_skip
                | (go_big_quiet_want; refine q_val ?_; apply Exists.intro; refine ⟨fun x hx => ?_, ?_⟩; (focus (replace hx : Grow wr x := hx; have xa0 := hx.cell a0; have xa1 := hx.cell a1; have xa2 := hx.cell a2; have xa3 := hx.cell a3; have xb0 := hx.cell b0; have xb1 := hx.cell b1; have xb2 := hx.cell b2; have xb3 := hx.cell b3; have xp0 := hx.cell p0; have xp1 := hx.cell p1; go_simp <;> rfl)); simp only [Act.put, List.setIfInBounds_toArray, List.set_cons_zero, List.set_cons_succ]; go_big_quiet_on)
                | (go_big_quiet_want; refine q_call 38 ?_; apply Exists.intro; refine ⟨fun x hx => ?_, ?_⟩; (focus (go_simp <;> rfl)); apply Exists.intro; refine ⟨fun x hx => ?_, ?_⟩; (focus ((with_reducible refine Calls.mono (j3.out _) ?_); exact fun e w' h => ⟨h.1, Grow.trans hx h.2⟩)); simp only [Act.put, List.setIfInBounds_toArray, List.set_cons_zero, List.set_cons_succ]; go_big_quiet_on)
                | (go_big_quiet_want; refine q_call 33 ?_; apply Exists.intro; refine ⟨fun x hx => ?_, ?_⟩; (focus (go_simp <;> rfl)); apply Exists.intro; refine ⟨fun x hx => ?_, ?_⟩; (focus ((with_reducible refine Calls.mono (j4.out _) ?_); exact fun e w' h => ⟨h.1, Grow.trans hx h.2⟩)); simp only [Act.put, List.setIfInBounds_toArray, List.set_cons_zero, List.set_cons_succ]; go_big_quiet_on))
              refine wpQuiet_nil ?_
              intro W1 hW1
              replace hW1 : Grow wr W1 := hW1
              replace a0 := hW1.cell a0
              replace a1 := hW1.cell a1
              replace a2 := hW1.cell a2
              replace a3 := hW1.cell a3
              replace b0 := hW1.cell b0
              replace b1 := hW1.cell b1
              replace b2 := hW1.cell b2
              replace b3 := hW1.cell b3
              replace p0 := hW1.cell p0
              replace p1 := hW1.cell p1
              have HG1 := Lib.hid (hGe.out.trans hW1)
              clear hW1
              go_wp2
              refine q_region (C := fun x => Grow W1 x) (by kernel_rfl) (by kernel_rfl) (Grow.drew _) ?_
              repeat (first
                | go_big_quiet_skip
                | (go_big_quiet_want; refine q_val ?_; apply Exists.intro; refine ⟨fun x hx => ?_, ?_⟩; (focus (replace hx : Grow W1 x := hx; have xa0 := hx.cell a0; have xa1 := hx.cell a1; have xa2 := hx.cell a2; have xa3 := hx.cell a3; have xb0 := hx.cell b0; have xb1 := hx.cell b1; have xb2 := hx.cell b2; have xb3 := hx.cell b3; have xp0 := hx.cell p0; have xp1 := hx.cell p1; go_simp <;> rfl)); simp only [Act.put, List.setIfInBounds_toArray, List.set_cons_zero, List.set_cons_succ]; go_big_quiet_on)
                | (go_big_quiet_want; refine q_call 18 ?_; apply Exists.intro; refine ⟨fun x hx => ?_, ?_⟩; (focus (go_simp <;> rfl)); apply Exists.intro; refine ⟨fun x hx => ?_, ?_⟩; (focus ((with_reducible refine Calls.mono (j1.out _) ?_); exact fun e w' h => ⟨h.1, Grow.trans hx h.2⟩)); simp only [Act.put, List.setIfInBounds_toArray, List.set_cons_zero, List.set_cons_succ]; go_big_quiet_on)
                | (go_big_quiet_want; refine q_call 33 ?_; apply Exists.intro; refine ⟨fun x hx => ?_, ?_⟩; (focus (go_simp <;> rfl)); apply Exists.intro; refine ⟨fun x hx => ?_, ?_⟩; (focus ((with_reducible refine Calls.mono (j2.out _) ?_); exact fun e w' h => ⟨h.1, Grow.trans hx h.2⟩)); simp only [Act.put, List.setIfInBounds_toArray, List.set_cons_zero, List.set_cons_succ]; go_big_quiet_on)
                | (go_big_quiet_want; refine q_call 34 ?_; apply Exists.intro; refine ⟨fun x hx => ?_, ?_⟩; (focus (go_simp <;> rfl)); apply Exists.intro; refine ⟨fun x hx => ?_, ?_⟩; (focus ((with_reducible refine Calls.mono (j5.out _) ?_); exact fun e w' h => ⟨h.1, Grow.trans hx h.2⟩)); simp only [Act.put, List.setIfInBounds_toArray, List.set_cons_zero, List.set_cons_succ]; go_big_quiet_on))
              refine wpQuiet_nil ?_
              intro W2 hW2
              replace hW2 : Grow W1 W2 := hW2
              have HG2 := Lib.hid (HG1.out.trans hW2)
              clear hW2
              go_wp2
              go_ret
              exact ⟨rfl, HG2.out⟩
end rectSets
end Go.Proofs.Ytplnhmfkflnhpaa
