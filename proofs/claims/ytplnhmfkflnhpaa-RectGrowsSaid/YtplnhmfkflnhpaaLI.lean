/- Walk of the law RectGrows of layer 3: it returns true and writes nothing that was there. -/
import Derived.Test.YtplnhmfkflnhpaaAM
import Derived.Test.YtplnhmfkflnhpaaLG
import Derived.Test.YtplnhmfkflnhpaaGM
import Derived.Test.YtplnhmfkflnhpaaA2
set_option linter.unusedVariables false
namespace Go.Proofs.Ytplnhmfkflnhpaa
open Go.RowKit
namespace rectGrows
set_option maxRecDepth 100000 in
set_option maxHeartbeats 16000000 in
theorem walk (q0 q1 q2 q3 n0 n1 n2 : Int) (w : World) (wf0 : (Lit.int .i64 q0).wf = true) (wf1 : (Lit.int .i64 q1).wf = true) (wf2 : (Lit.int .i64 q2).wf = true) (wf3 : (Lit.int .i64 q3).wf = true) (wf4 : (Lit.int .i64 n0).wf = true) (wf5 : (Lit.int .i64 n1).wf = true) (wf6 : (Lit.int .i64 n2).wf = true) :
    Calls Try.prog 11 #[.agg #[.int .i64 q0, .int .i64 q1, .int .i64 q2, .int .i64 q3], .agg #[.int .i64 n0, .int .i64 n1, .int .i64 n2]] w fun e w' => e = .returned (.bool true) ∧ Below w.heap.size w w' := by
  have hs1 := small_sm q0 q1 q2 q3
  have hS1 : ∀ w, Calls Try.prog 24 #[.agg #[.int .i64 q0, .int .i64 q1, .int .i64 q2, .int .i64 q3]] w fun e w' => e = .returned (.agg #[.int .i64 (smallR q0 q1 q2 q3).x0, .int .i64 (smallR q0 q1 q2 q3).y0, .int .i64 (smallR q0 q1 q2 q3).x1, .int .i64 (smallR q0 q1 q2 q3).y1]) ∧ Grow w w' := fun w => small_any q0 q1 q2 q3 w
  generalize smallR q0 q1 q2 q3 = r at hs1 hS1
  obtain ⟨r1, r2⟩ := rst_bd n0 110 (by omega) (by omega)
  obtain ⟨r3, r4⟩ := rst_bd n1 110 (by omega) (by omega)
  obtain ⟨k0, k9⟩ := rst_bd n2 10 (by omega) (by omega)
  have hrk : ∀ w, Calls Try.prog 19 #[.int .i64 n2, .int .i64 10] w fun e w' => e = .returned (.int .i64 (rst n2 10)) ∧ Grow w w' := fun w => (rest_any n2 10 (by omega) w).mono fun e w' h => ⟨h.1, h.2 ▸ Grow.refl _⟩
  generalize rst n2 10 = k at k0 k9 hrk
  obtain ⟨px, hpx⟩ : ∃ px, IntKind.i64.wrap (rst n0 110 - 35) = px := ⟨_, rfl⟩
  obtain ⟨py, hpy⟩ : ∃ py, IntKind.i64.wrap (rst n1 110 - 35) = py := ⟨_, rfl⟩
  have bx : -35 ≤ px ∧ px ≤ 74 := by rw [← hpx, IntWalk.i64_in _ (by omega)]; omega
  have bY : -35 ≤ py ∧ py ≤ 74 := by rw [← hpy, IntWalk.i64_in _ (by omega)]; omega
  obtain ⟨bx1, bx2⟩ := bx
  obtain ⟨by1, by2⟩ := bY
  obtain ⟨dx1, dx2⟩ := (show -50 < n0.tmod 50 ∧ n0.tmod 50 < 50 from ⟨Int.lt_tmod_of_pos n0 (by omega), Int.tmod_lt_of_pos n0 (by omega)⟩)
  obtain ⟨dy1, dy2⟩ := (show -50 < n1.tmod 50 ∧ n1.tmod 50 < 50 from ⟨Int.lt_tmod_of_pos n1 (by omega), Int.tmod_lt_of_pos n1 (by omega)⟩)
  obtain ⟨m1, m2⟩ := grows r hs1 k px py k0 (by omega) (by omega) (by omega) (by omega) (by omega)
  obtain ⟨m3, m4⟩ := moves r hs1 (n0.tmod 50) (n1.tmod 50) px py (by omega) (by omega) (by omega) (by omega)
  have h1 : ∀ w, Calls Try.prog 18 #[.agg #[.int .i64 r.x0, .int .i64 r.y0, .int .i64 r.x1, .int .i64 r.y1], .agg #[.int .i64 (px - k), .int .i64 (py - k), .int .i64 (px + k + 1), .int .i64 (py + k + 1)]] w fun e w' => e = .returned (.agg #[.int .i64 (inter r ⟨px - k, py - k, px + k + 1, py + k + 1⟩).x0, .int .i64 (inter r ⟨px - k, py - k, px + k + 1, py + k + 1⟩).y0, .int .i64 (inter r ⟨px - k, py - k, px + k + 1, py + k + 1⟩).x1, .int .i64 (inter r ⟨px - k, py - k, px + k + 1, py + k + 1⟩).y1]) ∧ Grow w w' := fun w => inter_any _ _ _ _ _ _ _ _ w
  have h2 : ∀ w, Calls Try.prog 39 #[.agg #[.int .i64 r.x0, .int .i64 r.y0, .int .i64 r.x1, .int .i64 r.y1], .int .i64 k] w fun e w' => e = .returned (.agg #[.int .i64 (grow r k).x0, .int .i64 (grow r k).y0, .int .i64 (grow r k).x1, .int .i64 (grow r k).y1]) ∧ Grow w w' := fun w => grow_any _ _ _ _ _ w
  have h3 : ∀ w, Calls Try.prog 40 #[.agg #[.int .i64 r.x0, .int .i64 r.y0, .int .i64 r.x1, .int .i64 r.y1], .int .i64 (n0.tmod 50), .int .i64 (n1.tmod 50)] w fun e w' => e = .returned (.agg #[.int .i64 (move r (n0.tmod 50) (n1.tmod 50)).x0, .int .i64 (move r (n0.tmod 50) (n1.tmod 50)).y0, .int .i64 (move r (n0.tmod 50) (n1.tmod 50)).x1, .int .i64 (move r (n0.tmod 50) (n1.tmod 50)).y1]) ∧ Grow w w' := fun w => move_any _ _ _ _ _ _ w
  generalize inter r ⟨px - k, py - k, px + k + 1, py + k + 1⟩ = nb at m1 h1
  generalize grow r k = g at m1 m2 h2
  have h4 : ∀ w, Calls Try.prog 39 #[.agg #[.int .i64 g.x0, .int .i64 g.y0, .int .i64 g.x1, .int .i64 g.y1], .int .i64 (-k)] w fun e w' => e = .returned (.agg #[.int .i64 (grow g (-k)).x0, .int .i64 (grow g (-k)).y0, .int .i64 (grow g (-k)).x1, .int .i64 (grow g (-k)).y1]) ∧ Grow w w' := fun w => grow_any _ _ _ _ _ w
  generalize grow g (-k) = gb at m2 h4
  generalize move r (n0.tmod 50) (n1.tmod 50) = mv at m3 m4 h3
  have he : ∀ (r : R) (v : Bool), emp r = v → ∀ w, Calls Try.prog 22 #[.agg #[.int .i64 r.x0, .int .i64 r.y0, .int .i64 r.x1, .int .i64 r.y1]] w fun e w' => e = .returned (.bool v) ∧ Grow w w' := fun r v hv w => (empty_any _ _ _ _ w).mono fun e w' h => ⟨by rw [h.1]; exact ret_bool hv, by rw [← h.2]; exact Grow.alloc _ _⟩
  have ha : ∀ (r : R) (n : Int), area r = n → ∀ w, Calls Try.prog 36 #[.agg #[.int .i64 r.x0, .int .i64 r.y0, .int .i64 r.x1, .int .i64 r.y1]] w fun e w' => e = .returned (.int .i64 n) ∧ Grow w w' := fun r v hv w => (area_any _ _ _ _ w).mono fun e w' h => ⟨by rw [h.1]; exact ret_int hv, h.2⟩
  have hh : ∀ (r : R) (x y : Int) (v : Bool), has r x y = v → ∀ w, Calls Try.prog 33 #[.agg #[.int .i64 r.x0, .int .i64 r.y0, .int .i64 r.x1, .int .i64 r.y1], .agg #[.int .i64 x, .int .i64 y]] w fun e w' => e = .returned (.bool v) ∧ Grow w w' := fun r x y v hv w => (has_any _ _ _ _ _ _ w).mono fun e w' h => ⟨by rw [h.1]; exact ret_bool hv, h.2⟩
  have hq : ∀ (r s : R) (v : Bool), eqr r s = v → ∀ w, Calls Try.prog 35 #[.agg #[.int .i64 r.x0, .int .i64 r.y0, .int .i64 r.x1, .int .i64 r.y1], .agg #[.int .i64 s.x0, .int .i64 s.y0, .int .i64 s.x1, .int .i64 s.y1]] w fun e w' => e = .returned (.bool v) ∧ Grow w w' := fun r s v hv w => (eqr_any _ _ _ _ _ _ _ _ w).mono fun e w' h => ⟨by rw [h.1]; exact ret_bool hv, h.2⟩
  have HS1 := Lib.hid hS1
  have H1 := Lib.hid h1
  have H2 := Lib.hid h2
  have H3 := Lib.hid h3
  have H4 := Lib.hid h4
  have HRK := Lib.hid hrk
  have HE := Lib.hid he
  have HA := Lib.hid ha
  have HH := Lib.hid hh
  have JQ := Lib.hid (hq _ _ _ m2)
  have JA := Lib.hid (ha _ _ m4)
  have JA2 := Lib.hid (ha r _ rfl)
  have M1 := Lib.hid m1
  have M3 := Lib.hid m3
  have ek : IntKind.i64.wrap (-k) = -k := IntWalk.i64_in _ (by omega)
  have EK := Lib.hid ek
  clear hS1 h1 h2 h3 h4 hrk he ha hh hq m1 m2 m3 m4 ek hs1
  go_enter Try.func11, Try.ntmps11
  go_wp2_with fail
  refine (sanity_any _).mono ?_
  rintro e v1 ⟨rfl, hg1⟩
  have hG := Grow.trans (((Grow.refl w).a (.cells #[.int .i64 q0, .int .i64 q1, .int .i64 q2, .int .i64 q3] 36)).a (.cells #[.int .i64 n0, .int .i64 n1, .int .i64 n2] 34)) hg1
  obtain ⟨hc, hf⟩ := bcell hg1
  have hz1 : w.heap.size < v1.heap.size ∧ w.heap.size + 1 < v1.heap.size := by (have := hg1.size; simp at this; omega)
  obtain ⟨hz1, hz1n⟩ := hz1
  go_wp2_with fail
  refine (HS1.out _).mono ?_
  rintro e v2 ⟨rfl, hg2⟩
  obtain ⟨hc2, hf2⟩ := bcell hg2
  have hz2 : w.heap.size + 1 < v2.heap.size := by (have := hg2.size; omega)
  have hz2n : w.heap.size < v2.heap.size := by omega
  go_wp2_with fail
  refine (HRK.out _).mono ?_
  rintro e v3 ⟨rfl, hg3⟩
  obtain ⟨hc3, hf3⟩ := bcell hg3
  have hz3 : w.heap.size + 1 < v3.heap.size ∧ v2.heap.size < v3.heap.size := by (have := hg3.size; simp at this; omega)
  obtain ⟨hz3, hz3'⟩ := hz3
  go_wp2_with fail
  refine wp_gen (fun W0 => (Bx W0 v2.heap.size r ∧ W0.cell? ⟨w.heap.size + 1, 0, none⟩ = some (.int .i64 n0) ∧ W0.cell? ⟨w.heap.size + 1, 1, none⟩ = some (.int .i64 n1)) ∧ Grow w W0 ∧ v2.heap.size < W0.heap.size ∧ w.heap.size + 1 < W0.heap.size) ⟨by unfold Bx; go_simp, ((hG.trans hg2).a _).trans hg3, by first | exact hz3' | (simp; omega), by first | exact hz3 | (simp; omega)⟩ ?_
  rintro W0 ⟨⟨⟨a0, a1, a2, a3⟩, m0, m1⟩, hG0, z1, z2⟩
  have HG := Lib.hid hG0
  generalize v2.heap.size = g1 at *
  generalize w.heap.size + 1 = g2 at *
  clear hc hf hc2 hf2 hc3 hf3 hz1 hz1n hz2 hz2n hz3 hz3' hg1 hg2 hg3 hG hG0 HS1
  refine wp_region_box1 9 8 40 #[.int .i64 0, .int .i64 0] (by kernel_rfl) rfl (by kernel_rfl) (by kernel_rfl) new40 ?_
  simp only [lastOp, List.dropLast]
  repeat (first
    | (refine qg_new rfl ?_; simp only [Act.put, List.setIfInBounds_toArray, List.set_cons_zero, List.set_cons_succ])
    | (refine qg_skip rfl rfl ?_; simp only [Act.put, List.setIfInBounds_toArray, List.set_cons_zero, List.set_cons_succ])
    | (refine qg_val rfl rfl ?_; apply Exists.intro; refine ⟨fun x hx => ?_, ?_⟩; (focus (replace hx : Grow W0 x := hx; have xm0 := hx.cell m0; have xm1 := hx.cell m1; go_simp <;> rfl)); simp only [Act.put, List.setIfInBounds_toArray, List.set_cons_zero, List.set_cons_succ])
    | (refine qg_call 19 rfl rfl ?_; apply Exists.intro; refine ⟨fun x hx => ?_, ?_⟩; (focus (go_simp <;> rfl)); apply Exists.intro; refine ⟨fun x hx => ?_, ?_⟩; (focus (exact (rest_any _ _ (by decide) _).mono fun e w' h => ⟨h.1, h.2 ▸ Grow.refl _⟩)); simp only [Act.put, List.setIfInBounds_toArray, List.set_cons_zero, List.set_cons_succ]))
  refine qg_nil ?_
  intro bp x hx hb hblk
  replace hx : Grow W0 x := hx
  refine wp_store_2 40 (.tmp 8) (.tmp 27) rfl bp px py _ rfl rfl hblk rfl (by kernel_rfl) ?_
  intro w5 hb5 hB5
  have hg5 : Grow W0 w5 := Below.trans hx (hB5 _ hb)
  replace a0 := hg5.cell a0
  replace a1 := hg5.cell a1
  replace a2 := hg5.cell a2
  replace a3 := hg5.cell a3
  replace m0 := hg5.cell m0
  replace m1 := hg5.cell m1
  have p0 : w5.cell? ⟨bp, 0, none⟩ = some (.int .i64 px) := by unfold World.cell?; rw [hb5]; rfl
  have p1 : w5.cell? ⟨bp, 1, none⟩ = some (.int .i64 py) := by unfold World.cell?; rw [hb5]; rfl
  have zp : bp < w5.heap.size := (Array.getElem?_eq_some_iff.1 hb5).1
  replace z1 : g1 < w5.heap.size := by have := hg5.size; omega
  replace z2 : g2 < w5.heap.size := by have := hg5.size; omega
  replace HG := Lib.hid (HG.out.trans hg5)
  clear hb5 hB5 hg5 hx hblk hb hpx hpy r1 r2 r3 r4
  go_wp2_with fail
  refine (H1.out _).mono ?_
  rintro e w6 ⟨rfl, hg6⟩
  replace a0 := hg6.cell a0
  replace a1 := hg6.cell a1
  replace a2 := hg6.cell a2
  replace a3 := hg6.cell a3
  replace m0 := hg6.cell m0
  replace m1 := hg6.cell m1
  replace p0 := hg6.cell p0
  replace p1 := hg6.cell p1
  replace z1 : g1 < w6.heap.size := by have := hg6.size; omega
  replace z2 : g2 < w6.heap.size := by have := hg6.size; omega
  replace zp : bp < w6.heap.size := by have := hg6.size; omega
  replace HG := Lib.hid (HG.out.trans hg6)
  clear hg6
  cases kn : emp nb with
  | true =>
    have j1 := Lib.hid (HE.out _ _ kn)
    have kg := M1.out
    rw [kn] at kg
    have j2 := Lib.hid (HH.out _ _ _ _ kg)
    clear kn kg
    go_wp2_with (go_at_call 22; (with_reducible refine Calls.mono (j1.out _) ?_); rintro e w7 ⟨rfl, hg⟩; replace hg : Grow _ w7 := hg; replace a0 := hg.cell a0; replace a1 := hg.cell a1; replace a2 := hg.cell a2; replace a3 := hg.cell a3; replace m0 := hg.cell m0; replace m1 := hg.cell m1; replace p0 := hg.cell p0; replace p1 := hg.cell p1; have z1b : g1 < w7.heap.size := (by have := hg.size; omega); have z2b : g2 < w7.heap.size := (by have := hg.size; omega); have zpb : bp < w7.heap.size := (by have := hg.size; omega); replace HG := Lib.hid (HG.out.trans hg); clear hg)
    refine (H2.out _).mono ?_
    rintro e w8 ⟨rfl, hg8⟩
    replace a0 := hg8.cell a0
    replace a1 := hg8.cell a1
    replace a2 := hg8.cell a2
    replace a3 := hg8.cell a3
    replace m0 := hg8.cell m0
    replace m1 := hg8.cell m1
    replace p0 := hg8.cell p0
    replace p1 := hg8.cell p1
    have z1c : g1 < w8.heap.size := by have := hg8.size; omega
    have z2c : g2 < w8.heap.size := by have := hg8.size; omega
    have zpc : bp < w8.heap.size := by have := hg8.size; omega
    replace HG := Lib.hid ((HG.out.trans hg8).a (.cells #[.int .i64 g.x0, .int .i64 g.y0, .int .i64 g.x1, .int .i64 g.y1] 26))
    clear hg8 z1 z2 zp
    go_wp2_with fail
    refine (H3.out _).mono ?_
    rintro e w9 ⟨rfl, hg9⟩
    obtain ⟨hc9, hf9⟩ := bcell hg9
    have hz9 : g1 < w9.heap.size ∧ g2 < w9.heap.size ∧ bp < w9.heap.size ∧ w8.heap.size < w9.heap.size := by (have := hg9.size; simp at this; omega)
    obtain ⟨hz9, hz9a, hz9b, hz9c⟩ := hz9
    go_wp2_with fail
    refine (HH.out _ _ _ _ rfl _).mono ?_
    rintro e wA ⟨rfl, hgA⟩
    obtain ⟨hcA, hfA⟩ := bcell hgA
    have hzA : g1 < wA.heap.size ∧ g2 < wA.heap.size ∧ bp < wA.heap.size ∧ w8.heap.size < wA.heap.size ∧ w9.heap.size < wA.heap.size := by (have := hgA.size; simp at this; omega)
    obtain ⟨hzA, hzAa, hzAb, hzAc, hzAd⟩ := hzA
    rw [M3.out]
    cases kh : has r px py with
    | true =>
      have j3 := Lib.hid (HH.out _ _ _ _ kh)
      clear kh
      go_wp2_with fail
      refine wp_gen (fun W0 => (Bx W0 g1 r ∧ (W0.cell? ⟨bp, 0, none⟩ = some (.int .i64 px) ∧ W0.cell? ⟨bp, 1, none⟩ = some (.int .i64 py)) ∧ Bx W0 w8.heap.size g ∧ Bx W0 w9.heap.size mv) ∧ Grow w W0) ⟨by unfold Bx; go_simp, ((HG.out.trans hg9).a _).trans hgA⟩ ?_
      rintro WB ⟨⟨⟨a0, a1, a2, a3⟩, ⟨p0, p1⟩, ⟨g0, g1', g2', g3⟩, ⟨v0, v1', v2', v3'⟩⟩, hGB⟩
      have ek := EK.out
      refine q_region (C := fun x => Grow WB x) (by kernel_rfl) (by kernel_rfl) (Grow.drew _) ?_
      repeat (first
        | go_big_quiet_skip
        | (go_big_quiet_want; refine q_val ?_; apply Exists.intro; refine ⟨fun x hx => ?_, ?_⟩; (focus (replace hx : Grow WB x := hx; have xa0 := hx.cell a0; have xa1 := hx.cell a1; have xa2 := hx.cell a2; have xa3 := hx.cell a3; have xp0 := hx.cell p0; have xp1 := hx.cell p1; have xg0 := hx.cell g0; have xg1' := hx.cell g1'; have xg2' := hx.cell g2'; have xg3 := hx.cell g3; have xv0 := hx.cell v0; have xv1' := hx.cell v1'; have xv2' := hx.cell v2'; have xv3' := hx.cell v3'; go_simp <;> rfl)); simp only [Act.put, List.setIfInBounds_toArray, List.set_cons_zero, List.set_cons_succ]; go_big_quiet_on)
        | (go_big_quiet_want; refine q_call 33 ?_; apply Exists.intro; refine ⟨fun x hx => ?_, ?_⟩; (focus (go_simp <;> rfl)); apply Exists.intro; refine ⟨fun x hx => ?_, ?_⟩; (focus ((with_reducible refine Calls.mono (j2.out _) ?_); exact fun e w' h => ⟨h.1, Grow.trans hx h.2⟩)); simp only [Act.put, List.setIfInBounds_toArray, List.set_cons_zero, List.set_cons_succ]; go_big_quiet_on)
        | (go_big_quiet_want; refine q_call 39 ?_; apply Exists.intro; refine ⟨fun x hx => ?_, ?_⟩; (focus (go_simp <;> rfl)); apply Exists.intro; refine ⟨fun x hx => ?_, ?_⟩; (focus ((with_reducible refine Calls.mono (H4.out _) ?_); exact fun e w' h => ⟨h.1, Grow.trans hx h.2⟩)); simp only [Act.put, List.setIfInBounds_toArray, List.set_cons_zero, List.set_cons_succ]; go_big_quiet_on)
        | (go_big_quiet_want; refine q_call 35 ?_; apply Exists.intro; refine ⟨fun x hx => ?_, ?_⟩; (focus (go_simp <;> rfl)); apply Exists.intro; refine ⟨fun x hx => ?_, ?_⟩; (focus ((with_reducible refine Calls.mono (JQ.out _) ?_); exact fun e w' h => ⟨h.1, Grow.trans hx h.2⟩)); simp only [Act.put, List.setIfInBounds_toArray, List.set_cons_zero, List.set_cons_succ]; go_big_quiet_on)
        | (go_big_quiet_want; refine q_call 33 ?_; apply Exists.intro; refine ⟨fun x hx => ?_, ?_⟩; (focus (go_simp <;> rfl)); apply Exists.intro; refine ⟨fun x hx => ?_, ?_⟩; (focus ((with_reducible refine Calls.mono (j3.out _) ?_); exact fun e w' h => ⟨h.1, Grow.trans hx h.2⟩)); simp only [Act.put, List.setIfInBounds_toArray, List.set_cons_zero, List.set_cons_succ]; go_big_quiet_on)
        | (go_big_quiet_want; refine q_call 36 ?_; apply Exists.intro; refine ⟨fun x hx => ?_, ?_⟩; (focus (go_simp <;> rfl)); apply Exists.intro; refine ⟨fun x hx => ?_, ?_⟩; (focus ((with_reducible refine Calls.mono (JA.out _) ?_); exact fun e w' h => ⟨h.1, Grow.trans hx h.2⟩)); simp only [Act.put, List.setIfInBounds_toArray, List.set_cons_zero, List.set_cons_succ]; go_big_quiet_on)
        | (go_big_quiet_want; refine q_call 36 ?_; apply Exists.intro; refine ⟨fun x hx => ?_, ?_⟩; (focus (go_simp <;> rfl)); apply Exists.intro; refine ⟨fun x hx => ?_, ?_⟩; (focus ((with_reducible refine Calls.mono (JA2.out _) ?_); exact fun e w' h => ⟨h.1, Grow.trans hx h.2⟩)); simp only [Act.put, List.setIfInBounds_toArray, List.set_cons_zero, List.set_cons_succ]; go_big_quiet_on))
      refine wpQuiet_nil ?_
      intro WC hWC
      replace hWC : Grow WB WC := hWC
      go_wp2
      go_ret
      exact ⟨rfl, hGB.trans hWC⟩
    | false =>
      have j3 := Lib.hid (HH.out _ _ _ _ kh)
      clear kh
      go_wp2_with fail
      refine wp_gen (fun W0 => (Bx W0 g1 r ∧ (W0.cell? ⟨bp, 0, none⟩ = some (.int .i64 px) ∧ W0.cell? ⟨bp, 1, none⟩ = some (.int .i64 py)) ∧ Bx W0 w8.heap.size g ∧ Bx W0 w9.heap.size mv) ∧ Grow w W0) ⟨by unfold Bx; go_simp, ((HG.out.trans hg9).a _).trans hgA⟩ ?_
      rintro WB ⟨⟨⟨a0, a1, a2, a3⟩, ⟨p0, p1⟩, ⟨g0, g1', g2', g3⟩, ⟨v0, v1', v2', v3'⟩⟩, hGB⟩
      have ek := EK.out
      refine q_region (C := fun x => Grow WB x) (by kernel_rfl) (by kernel_rfl) (Grow.drew _) ?_
      repeat (first
        | go_big_quiet_skip
        | (go_big_quiet_want; refine q_val ?_; apply Exists.intro; refine ⟨fun x hx => ?_, ?_⟩; (focus (replace hx : Grow WB x := hx; have xa0 := hx.cell a0; have xa1 := hx.cell a1; have xa2 := hx.cell a2; have xa3 := hx.cell a3; have xp0 := hx.cell p0; have xp1 := hx.cell p1; have xg0 := hx.cell g0; have xg1' := hx.cell g1'; have xg2' := hx.cell g2'; have xg3 := hx.cell g3; have xv0 := hx.cell v0; have xv1' := hx.cell v1'; have xv2' := hx.cell v2'; have xv3' := hx.cell v3'; go_simp <;> rfl)); simp only [Act.put, List.setIfInBounds_toArray, List.set_cons_zero, List.set_cons_succ]; go_big_quiet_on)
        | (go_big_quiet_want; refine q_call 33 ?_; apply Exists.intro; refine ⟨fun x hx => ?_, ?_⟩; (focus (go_simp <;> rfl)); apply Exists.intro; refine ⟨fun x hx => ?_, ?_⟩; (focus ((with_reducible refine Calls.mono (j2.out _) ?_); exact fun e w' h => ⟨h.1, Grow.trans hx h.2⟩)); simp only [Act.put, List.setIfInBounds_toArray, List.set_cons_zero, List.set_cons_succ]; go_big_quiet_on)
        | (go_big_quiet_want; refine q_call 39 ?_; apply Exists.intro; refine ⟨fun x hx => ?_, ?_⟩; (focus (go_simp <;> rfl)); apply Exists.intro; refine ⟨fun x hx => ?_, ?_⟩; (focus ((with_reducible refine Calls.mono (H4.out _) ?_); exact fun e w' h => ⟨h.1, Grow.trans hx h.2⟩)); simp only [Act.put, List.setIfInBounds_toArray, List.set_cons_zero, List.set_cons_succ]; go_big_quiet_on)
        | (go_big_quiet_want; refine q_call 35 ?_; apply Exists.intro; refine ⟨fun x hx => ?_, ?_⟩; (focus (go_simp <;> rfl)); apply Exists.intro; refine ⟨fun x hx => ?_, ?_⟩; (focus ((with_reducible refine Calls.mono (JQ.out _) ?_); exact fun e w' h => ⟨h.1, Grow.trans hx h.2⟩)); simp only [Act.put, List.setIfInBounds_toArray, List.set_cons_zero, List.set_cons_succ]; go_big_quiet_on)
        | (go_big_quiet_want; refine q_call 33 ?_; apply Exists.intro; refine ⟨fun x hx => ?_, ?_⟩; (focus (go_simp <;> rfl)); apply Exists.intro; refine ⟨fun x hx => ?_, ?_⟩; (focus ((with_reducible refine Calls.mono (j3.out _) ?_); exact fun e w' h => ⟨h.1, Grow.trans hx h.2⟩)); simp only [Act.put, List.setIfInBounds_toArray, List.set_cons_zero, List.set_cons_succ]; go_big_quiet_on)
        | (go_big_quiet_want; refine q_call 36 ?_; apply Exists.intro; refine ⟨fun x hx => ?_, ?_⟩; (focus (go_simp <;> rfl)); apply Exists.intro; refine ⟨fun x hx => ?_, ?_⟩; (focus ((with_reducible refine Calls.mono (JA.out _) ?_); exact fun e w' h => ⟨h.1, Grow.trans hx h.2⟩)); simp only [Act.put, List.setIfInBounds_toArray, List.set_cons_zero, List.set_cons_succ]; go_big_quiet_on)
        | (go_big_quiet_want; refine q_call 36 ?_; apply Exists.intro; refine ⟨fun x hx => ?_, ?_⟩; (focus (go_simp <;> rfl)); apply Exists.intro; refine ⟨fun x hx => ?_, ?_⟩; (focus ((with_reducible refine Calls.mono (JA2.out _) ?_); exact fun e w' h => ⟨h.1, Grow.trans hx h.2⟩)); simp only [Act.put, List.setIfInBounds_toArray, List.set_cons_zero, List.set_cons_succ]; go_big_quiet_on))
      refine wpQuiet_nil ?_
      intro WC hWC
      replace hWC : Grow WB WC := hWC
      go_wp2
      go_ret
      exact ⟨rfl, hGB.trans hWC⟩
  | false =>
    have j1 := Lib.hid (HE.out _ _ kn)
    have kg := M1.out
    rw [kn] at kg
    have j2 := Lib.hid (HH.out _ _ _ _ kg)
    clear kn kg
    go_wp2_with (go_at_call 22; (with_reducible refine Calls.mono (j1.out _) ?_); rintro e w7 ⟨rfl, hg⟩; replace hg : Grow _ w7 := hg; replace a0 := hg.cell a0; replace a1 := hg.cell a1; replace a2 := hg.cell a2; replace a3 := hg.cell a3; replace m0 := hg.cell m0; replace m1 := hg.cell m1; replace p0 := hg.cell p0; replace p1 := hg.cell p1; have z1b : g1 < w7.heap.size := (by have := hg.size; omega); have z2b : g2 < w7.heap.size := (by have := hg.size; omega); have zpb : bp < w7.heap.size := (by have := hg.size; omega); replace HG := Lib.hid (HG.out.trans hg); clear hg)
    refine (H2.out _).mono ?_
    rintro e w8 ⟨rfl, hg8⟩
    replace a0 := hg8.cell a0
    replace a1 := hg8.cell a1
    replace a2 := hg8.cell a2
    replace a3 := hg8.cell a3
    replace m0 := hg8.cell m0
    replace m1 := hg8.cell m1
    replace p0 := hg8.cell p0
    replace p1 := hg8.cell p1
    have z1c : g1 < w8.heap.size := by have := hg8.size; omega
    have z2c : g2 < w8.heap.size := by have := hg8.size; omega
    have zpc : bp < w8.heap.size := by have := hg8.size; omega
    replace HG := Lib.hid ((HG.out.trans hg8).a (.cells #[.int .i64 g.x0, .int .i64 g.y0, .int .i64 g.x1, .int .i64 g.y1] 26))
    clear hg8 z1 z2 zp
    go_wp2_with fail
    refine (H3.out _).mono ?_
    rintro e w9 ⟨rfl, hg9⟩
    obtain ⟨hc9, hf9⟩ := bcell hg9
    have hz9 : g1 < w9.heap.size ∧ g2 < w9.heap.size ∧ bp < w9.heap.size ∧ w8.heap.size < w9.heap.size := by (have := hg9.size; simp at this; omega)
    obtain ⟨hz9, hz9a, hz9b, hz9c⟩ := hz9
    go_wp2_with fail
    refine (HH.out _ _ _ _ rfl _).mono ?_
    rintro e wA ⟨rfl, hgA⟩
    obtain ⟨hcA, hfA⟩ := bcell hgA
    have hzA : g1 < wA.heap.size ∧ g2 < wA.heap.size ∧ bp < wA.heap.size ∧ w8.heap.size < wA.heap.size ∧ w9.heap.size < wA.heap.size := by (have := hgA.size; simp at this; omega)
    obtain ⟨hzA, hzAa, hzAb, hzAc, hzAd⟩ := hzA
    rw [M3.out]
    cases kh : has r px py with
    | true =>
      have j3 := Lib.hid (HH.out _ _ _ _ kh)
      clear kh
      go_wp2_with fail
      refine wp_gen (fun W0 => (Bx W0 g1 r ∧ (W0.cell? ⟨bp, 0, none⟩ = some (.int .i64 px) ∧ W0.cell? ⟨bp, 1, none⟩ = some (.int .i64 py)) ∧ Bx W0 w8.heap.size g ∧ Bx W0 w9.heap.size mv) ∧ Grow w W0) ⟨by unfold Bx; go_simp, ((HG.out.trans hg9).a _).trans hgA⟩ ?_
      rintro WB ⟨⟨⟨a0, a1, a2, a3⟩, ⟨p0, p1⟩, ⟨g0, g1', g2', g3⟩, ⟨v0, v1', v2', v3'⟩⟩, hGB⟩
      have ek := EK.out
      refine q_region (C := fun x => Grow WB x) (by kernel_rfl) (by kernel_rfl) (Grow.drew _) ?_
      repeat (first
        | go_big_quiet_skip
        | (go_big_quiet_want; refine q_val ?_; apply Exists.intro; refine ⟨fun x hx => ?_, ?_⟩; (focus (replace hx : Grow WB x := hx; have xa0 := hx.cell a0; have xa1 := hx.cell a1; have xa2 := hx.cell a2; have xa3 := hx.cell a3; have xp0 := hx.cell p0; have xp1 := hx.cell p1; have xg0 := hx.cell g0; have xg1' := hx.cell g1'; have xg2' := hx.cell g2'; have xg3 := hx.cell g3; have xv0 := hx.cell v0; have xv1' := hx.cell v1'; have xv2' := hx.cell v2'; have xv3' := hx.cell v3'; go_simp <;> rfl)); simp only [Act.put, List.setIfInBounds_toArray, List.set_cons_zero, List.set_cons_succ]; go_big_quiet_on)
        | (go_big_quiet_want; refine q_call 33 ?_; apply Exists.intro; refine ⟨fun x hx => ?_, ?_⟩; (focus (go_simp <;> rfl)); apply Exists.intro; refine ⟨fun x hx => ?_, ?_⟩; (focus ((with_reducible refine Calls.mono (j2.out _) ?_); exact fun e w' h => ⟨h.1, Grow.trans hx h.2⟩)); simp only [Act.put, List.setIfInBounds_toArray, List.set_cons_zero, List.set_cons_succ]; go_big_quiet_on)
        | (go_big_quiet_want; refine q_call 39 ?_; apply Exists.intro; refine ⟨fun x hx => ?_, ?_⟩; (focus (go_simp <;> rfl)); apply Exists.intro; refine ⟨fun x hx => ?_, ?_⟩; (focus ((with_reducible refine Calls.mono (H4.out _) ?_); exact fun e w' h => ⟨h.1, Grow.trans hx h.2⟩)); simp only [Act.put, List.setIfInBounds_toArray, List.set_cons_zero, List.set_cons_succ]; go_big_quiet_on)
        | (go_big_quiet_want; refine q_call 35 ?_; apply Exists.intro; refine ⟨fun x hx => ?_, ?_⟩; (focus (go_simp <;> rfl)); apply Exists.intro; refine ⟨fun x hx => ?_, ?_⟩; (focus ((with_reducible refine Calls.mono (JQ.out _) ?_); exact fun e w' h => ⟨h.1, Grow.trans hx h.2⟩)); simp only [Act.put, List.setIfInBounds_toArray, List.set_cons_zero, List.set_cons_succ]; go_big_quiet_on)
        | (go_big_quiet_want; refine q_call 33 ?_; apply Exists.intro; refine ⟨fun x hx => ?_, ?_⟩; (focus (go_simp <;> rfl)); apply Exists.intro; refine ⟨fun x hx => ?_, ?_⟩; (focus ((with_reducible refine Calls.mono (j3.out _) ?_); exact fun e w' h => ⟨h.1, Grow.trans hx h.2⟩)); simp only [Act.put, List.setIfInBounds_toArray, List.set_cons_zero, List.set_cons_succ]; go_big_quiet_on)
        | (go_big_quiet_want; refine q_call 36 ?_; apply Exists.intro; refine ⟨fun x hx => ?_, ?_⟩; (focus (go_simp <;> rfl)); apply Exists.intro; refine ⟨fun x hx => ?_, ?_⟩; (focus ((with_reducible refine Calls.mono (JA.out _) ?_); exact fun e w' h => ⟨h.1, Grow.trans hx h.2⟩)); simp only [Act.put, List.setIfInBounds_toArray, List.set_cons_zero, List.set_cons_succ]; go_big_quiet_on)
        | (go_big_quiet_want; refine q_call 36 ?_; apply Exists.intro; refine ⟨fun x hx => ?_, ?_⟩; (focus (go_simp <;> rfl)); apply Exists.intro; refine ⟨fun x hx => ?_, ?_⟩; (focus ((with_reducible refine Calls.mono (JA2.out _) ?_); exact fun e w' h => ⟨h.1, Grow.trans hx h.2⟩)); simp only [Act.put, List.setIfInBounds_toArray, List.set_cons_zero, List.set_cons_succ]; go_big_quiet_on))
      refine wpQuiet_nil ?_
      intro WC hWC
      replace hWC : Grow WB WC := hWC
      go_wp2
      go_ret
      exact ⟨rfl, hGB.trans hWC⟩
    | false =>
      have j3 := Lib.hid (HH.out _ _ _ _ kh)
      clear kh
      go_wp2_with fail
      refine wp_gen (fun W0 => (Bx W0 g1 r ∧ (W0.cell? ⟨bp, 0, none⟩ = some (.int .i64 px) ∧ W0.cell? ⟨bp, 1, none⟩ = some (.int .i64 py)) ∧ Bx W0 w8.heap.size g ∧ Bx W0 w9.heap.size mv) ∧ Grow w W0) ⟨by unfold Bx; go_simp, ((HG.out.trans hg9).a _).trans hgA⟩ ?_
      rintro WB ⟨⟨⟨a0, a1, a2, a3⟩, ⟨p0, p1⟩, ⟨g0, g1', g2', g3⟩, ⟨v0, v1', v2', v3'⟩⟩, hGB⟩
      have ek := EK.out
      refine q_region (C := fun x => Grow WB x) (by kernel_rfl) (by kernel_rfl) (Grow.drew _) ?_
      repeat (first
        | go_big_quiet_skip
        | (go_big_quiet_want; refine q_val ?_; apply Exists.intro; refine ⟨fun x hx => ?_, ?_⟩; (focus (replace hx : Grow WB x := hx; have xa0 := hx.cell a0; have xa1 := hx.cell a1; have xa2 := hx.cell a2; have xa3 := hx.cell a3; have xp0 := hx.cell p0; have xp1 := hx.cell p1; have xg0 := hx.cell g0; have xg1' := hx.cell g1'; have xg2' := hx.cell g2'; have xg3 := hx.cell g3; have xv0 := hx.cell v0; have xv1' := hx.cell v1'; have xv2' := hx.cell v2'; have xv3' := hx.cell v3'; go_simp <;> rfl)); simp only [Act.put, List.setIfInBounds_toArray, List.set_cons_zero, List.set_cons_succ]; go_big_quiet_on)
        | (go_big_quiet_want; refine q_call 33 ?_; apply Exists.intro; refine ⟨fun x hx => ?_, ?_⟩; (focus (go_simp <;> rfl)); apply Exists.intro; refine ⟨fun x hx => ?_, ?_⟩; (focus ((with_reducible refine Calls.mono (j2.out _) ?_); exact fun e w' h => ⟨h.1, Grow.trans hx h.2⟩)); simp only [Act.put, List.setIfInBounds_toArray, List.set_cons_zero, List.set_cons_succ]; go_big_quiet_on)
        | (go_big_quiet_want; refine q_call 39 ?_; apply Exists.intro; refine ⟨fun x hx => ?_, ?_⟩; (focus (go_simp <;> rfl)); apply Exists.intro; refine ⟨fun x hx => ?_, ?_⟩; (focus ((with_reducible refine Calls.mono (H4.out _) ?_); exact fun e w' h => ⟨h.1, Grow.trans hx h.2⟩)); simp only [Act.put, List.setIfInBounds_toArray, List.set_cons_zero, List.set_cons_succ]; go_big_quiet_on)
        | (go_big_quiet_want; refine q_call 35 ?_; apply Exists.intro; refine ⟨fun x hx => ?_, ?_⟩; (focus (go_simp <;> rfl)); apply Exists.intro; refine ⟨fun x hx => ?_, ?_⟩; (focus ((with_reducible refine Calls.mono (JQ.out _) ?_); exact fun e w' h => ⟨h.1, Grow.trans hx h.2⟩)); simp only [Act.put, List.setIfInBounds_toArray, List.set_cons_zero, List.set_cons_succ]; go_big_quiet_on)
        | (go_big_quiet_want; refine q_call 33 ?_; apply Exists.intro; refine ⟨fun x hx => ?_, ?_⟩; (focus (go_simp <;> rfl)); apply Exists.intro; refine ⟨fun x hx => ?_, ?_⟩; (focus ((with_reducible refine Calls.mono (j3.out _) ?_); exact fun e w' h => ⟨h.1, Grow.trans hx h.2⟩)); simp only [Act.put, List.setIfInBounds_toArray, List.set_cons_zero, List.set_cons_succ]; go_big_quiet_on)
        | (go_big_quiet_want; refine q_call 36 ?_; apply Exists.intro; refine ⟨fun x hx => ?_, ?_⟩; (focus (go_simp <;> rfl)); apply Exists.intro; refine ⟨fun x hx => ?_, ?_⟩; (focus ((with_reducible refine Calls.mono (JA.out _) ?_); exact fun e w' h => ⟨h.1, Grow.trans hx h.2⟩)); simp only [Act.put, List.setIfInBounds_toArray, List.set_cons_zero, List.set_cons_succ]; go_big_quiet_on)
        | (go_big_quiet_want; refine q_call 36 ?_; apply Exists.intro; refine ⟨fun x hx => ?_, ?_⟩; (focus (go_simp <;> rfl)); apply Exists.intro; refine ⟨fun x hx => ?_, ?_⟩; (focus ((with_reducible refine Calls.mono (JA2.out _) ?_); exact fun e w' h => ⟨h.1, Grow.trans hx h.2⟩)); simp only [Act.put, List.setIfInBounds_toArray, List.set_cons_zero, List.set_cons_succ]; go_big_quiet_on))
      refine wpQuiet_nil ?_
      intro WC hWC
      replace hWC : Grow WB WC := hWC
      go_wp2
      go_ret
      exact ⟨rfl, hGB.trans hWC⟩
end rectGrows
end Go.Proofs.Ytplnhmfkflnhpaa
