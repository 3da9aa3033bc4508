/- Walk of the law RectTiles of layer 3: it returns true and writes nothing that was there. -/
import Derived.Test.YtplnhmfkflnhpaaLC
import Derived.Test.YtplnhmfkflnhpaaTM
import Derived.Test.YtplnhmfkflnhpaaJH
set_option linter.unusedVariables false
namespace Go.Proofs.Ytplnhmfkflnhpaa
open Go.RowKit
theorem new40 (o : Oper) (ho : o.op = .alloc 40) (a : Operand → Value) (x : World) : (execOp a o).run Try.prog x = .ok (.value (.pointer (some ⟨x.heap.size, 0, none⟩))) (x.alloc (.cells #[.int .i64 0, .int .i64 0] 40)) := by
  unfold execOp
  rw [ho]
  go_simp
theorem wp_store_2 {o : Oper} {a : Act} {w : World} {K : Act → World → Prop} {Q : Exit → Act → World → Prop} (T : TypeId) (x y : Operand) (ho : o.op = .store T x y)
    (g : Nat) (p q : Int) (old : Array Value) (hx : a.eval x = .pointer (some ⟨g, 0, none⟩)) (hy : a.eval y = .agg #[.int .i64 p, .int .i64 q]) (hN : w.heap[g]? = some (.cells old T (0, 0))) (hs : old.size = 2) (hi : (Try.prog.info? T).map (·.size) = some 2)
    (h : ∀ w', w'.heap[g]? = some (.cells #[.int .i64 p, .int .i64 q] T (0, 0)) → (∀ n, n ≤ g → Below n w w') → K (a.put o.dst undef) w') : o.wp Try.prog a w K Q := by
  refine wp_store_row T x y ho g _ hx hy T _ hN hi hs (by simp [Value.oneCell']) ?_
  refine h _ ?_ (fun n hn => below_setRow w g _ n hn)
  exact setRow_heap w g _ _ T (0, 0) hN
namespace rectTiles
set_option maxRecDepth 100000 in
set_option maxHeartbeats 4000000 in
theorem walk (x0 y0 x1 y1 n0 n1 : Int) (w : World) (w0 : (Lit.int .i64 x0).wf = true) (w1 : (Lit.int .i64 y0).wf = true) (w2 : (Lit.int .i64 x1).wf = true) (w3 : (Lit.int .i64 y1).wf = true) (w4 : (Lit.int .i64 n0).wf = true) (w5 : (Lit.int .i64 n1).wf = true) :
    Calls Try.prog 6 #[.agg #[.int .i64 x0, .int .i64 y0, .int .i64 x1, .int .i64 y1], .agg #[.int .i64 n0, .int .i64 n1]] w fun e w' => e = .returned (.bool true) ∧ Below w.heap.size w w' := by
  have hs := small_sm x0 y0 x1 y1
  have hsm := fun w => small_any x0 y0 x1 y1 w
  generalize smallR x0 y0 x1 y1 = r at hs hsm
  have hok := Lib.hid (okr_bd hs.bd)
  have HS := Lib.hid hs
  obtain ⟨L, hL⟩ : ∃ L, tilesL r = L := ⟨_, rfl⟩
  have hL100 : L.length ≤ 100 := by rw [← hL]; exact tiles_len hs
  have hti := fun w => tiles_any r 100 (by omega) hok.out w
  have htr := fun w => tiles_ref r 100 (by omega) hok.out w
  rw [hL, List.take_of_length_le hL100] at hti htr
  have HL := Lib.hid hL
  clear hL
  have HSM := Lib.hid hsm
  have HTI := Lib.hid hti
  have HTR := Lib.hid htr
  unfold Sm at hs
  obtain ⟨s1, s2, s3, s4, s5, s6, s7, s8⟩ := hs
  clear hsm hti htr
  go_enter Try.func6, Try.ntmps6
  go_wp2_with fail
  refine (sanity_any _).mono ?_
  rintro e v1 ⟨rfl, hg1⟩
  have hG1 := Grow.trans (((Grow.refl w).a (.cells #[.int .i64 x0, .int .i64 y0, .int .i64 x1, .int .i64 y1] 36)).a (.cells #[.int .i64 n0, .int .i64 n1] 43)) hg1
  obtain ⟨hc, hf⟩ := bcell hg1
  have hz1 : w.heap.size < v1.heap.size := by (have := hg1.size; simp at this; omega)
  have hz1' : w.heap.size + 1 < v1.heap.size := by (have := hg1.size; simp at this; omega)
  go_wp2_with fail
  refine (HSM.out _).mono ?_
  rintro e v2 ⟨rfl, hg2⟩
  have hG2 := hG1.trans hg2
  obtain ⟨hc2, hf2⟩ := bcell hg2
  have hz2 : w.heap.size < v2.heap.size := by (have := hg2.size; omega)
  have hz2' : w.heap.size + 1 < v2.heap.size := by (have := hg2.size; omega)
  go_wp2_with fail
  refine (HTI.out _).mono ?_
  rintro e v3 ⟨t1, rfl, ho1, hg3⟩
  have hG3 := (hG2.a (.cells #[.int .i64 r.x0, .int .i64 r.y0, .int .i64 r.x1, .int .i64 r.y1] 26)).trans hg3
  obtain ⟨hc3, hf3⟩ := bcell hg3
  have hz3 : v2.heap.size < v3.heap.size := by (have := hg3.size; simp at this; omega)
  have hz3' : w.heap.size + 1 < v3.heap.size := by omega
  go_wp2_with fail
  refine (HTR.out _).mono ?_
  rintro e v4 ⟨t2, rfl, ho2, hg4⟩
  have hG4 := hG3.trans hg4
  obtain ⟨hc4, hf4⟩ := bcell hg4
  have R1 := (rdT_own ho1).grow hg4
  have R2 := rdT_own ho2
  clear ho1 ho2
  have R1' := R1
  have R2' := R2
  obtain ⟨o1, c1, rfl, -⟩ := R1'
  obtain ⟨o2, c2, rfl, -⟩ := R2'
  have HR1 := Lib.hid R1
  have HR2 := Lib.hid R2
  clear R1 R2
  go_wp2_with fail
  refine wp_gen (fun W0 => ((W0.cell? ⟨v2.heap.size, 0, none⟩ = some (.int .i64 r.x0) ∧ W0.cell? ⟨v2.heap.size, 1, none⟩ = some (.int .i64 r.y0) ∧ W0.cell? ⟨v2.heap.size, 2, none⟩ = some (.int .i64 r.x1) ∧ W0.cell? ⟨v2.heap.size, 3, none⟩ = some (.int .i64 r.y1)) ∧ (W0.cell? ⟨w.heap.size + 1, 0, none⟩ = some (.int .i64 n0) ∧ W0.cell? ⟨w.heap.size + 1, 1, none⟩ = some (.int .i64 n1))) ∧ Grow w W0 ∧ RdT W0 (.slice o1 L.length c1) L ∧ RdT W0 (.slice o2 L.length c2) L) ?_ ?_
  · exact ⟨by go_simp, hG4, HR1.out, HR2.out⟩
  rintro W0 ⟨⟨⟨a0, a1, a2, a3⟩, b0, b1⟩, hG0, R1, R2⟩
  clear hc hf hc2 hf2 hc3 hf3 hc4 hf4 hz1 hz1' hz2 hz2' hz3 hz3' hG1 hG2 hG3 hG4 hg1 hg2 hg3 hg4 HR1 HR2 HSM HTI HTR
  have HG0 := Lib.hid hG0
  replace R1 := Lib.hid R1
  replace R2 := Lib.hid R2
  clear hG0
  obtain ⟨m1, m2⟩ := rst_bd n0 40 (by omega) (by omega)
  obtain ⟨m3, m4⟩ := rst_bd n1 40 (by omega) (by omega)
  obtain ⟨px, hpx⟩ : ∃ px, IntKind.i64.wrap (r.x0 + rst n0 40) = px := ⟨_, rfl⟩
  obtain ⟨py, hpy⟩ : ∃ py, IntKind.i64.wrap (r.y0 + rst n1 40) = py := ⟨_, rfl⟩
  have px1 : r.x0 ≤ px ∧ px ≤ r.x0 + 39 := by rw [← hpx, IntWalk.i64_in _ (by omega)]; omega
  have py1 : r.y0 ≤ py ∧ py ≤ r.y0 + 39 := by rw [← hpy, IntWalk.i64_in _ (by omega)]; omega
  refine wp_region_box1 13 9 40 #[.int .i64 0, .int .i64 0] (by kernel_rfl) rfl (by kernel_rfl) (by kernel_rfl) new40 ?_
  simp only [lastOp, List.dropLast]
  repeat (first
    | (refine qg_new rfl ?_; simp only [Act.put, List.setIfInBounds_toArray, List.set_cons_zero, List.set_cons_succ])
    | (refine qg_skip rfl rfl ?_; simp only [Act.put, List.setIfInBounds_toArray, List.set_cons_zero, List.set_cons_succ])
    | (refine qg_val rfl rfl ?_; apply Exists.intro; refine ⟨fun x hx => ?_, ?_⟩; (focus (replace hx : Grow W0 x := hx; have xa0 := hx.cell a0; have xa1 := hx.cell a1; have xa2 := hx.cell a2; have xa3 := hx.cell a3; have xb0 := hx.cell b0; have xb1 := hx.cell b1; go_simp <;> rfl)); simp only [Act.put, List.setIfInBounds_toArray, List.set_cons_zero, List.set_cons_succ])
    | (refine qg_call 19 rfl rfl ?_; apply Exists.intro; refine ⟨fun x hx => ?_, ?_⟩; (focus (go_simp <;> rfl)); apply Exists.intro; refine ⟨fun x hx => ?_, ?_⟩; (focus (exact (rest_any _ _ (by decide) _).mono fun e w' h => ⟨h.1, h.2 ▸ Grow.refl _⟩)); simp only [Act.put, List.setIfInBounds_toArray, List.set_cons_zero, List.set_cons_succ]))
  refine qg_nil ?_
  intro b x hx hb hblk
  replace hx : Grow W0 x := hx
  have hb2 : W0.heap.size ≤ b := hb
  refine wp_store_2 40 (.tmp 9) (.tmp 36) rfl b px py _ rfl rfl hblk rfl (by kernel_rfl) ?_
  intro w5 hb5 hB5
  have hg5 : Grow W0 w5 := Below.trans hx (hB5 _ hb2)
  replace a0 := hg5.cell a0
  replace a1 := hg5.cell a1
  replace a2 := hg5.cell a2
  replace a3 := hg5.cell a3
  replace R1 := Lib.hid (R1.out.grow hg5)
  replace R2 := Lib.hid (R2.out.grow hg5)
  replace HG0 := Lib.hid (HG0.out.trans hg5)
  have q0 : w5.cell? ⟨b, 0, none⟩ = some (.int .i64 px) := by unfold World.cell?; rw [hb5]; rfl
  have q1 : w5.cell? ⟨b, 1, none⟩ = some (.int .i64 py) := by unfold World.cell?; rw [hb5]; rfl
  clear hb5 hB5 hg5 hx hblk b0 b1 hb hb2 hpx hpy
  obtain ⟨p1, p2⟩ := px1
  obtain ⟨p3, p4⟩ := py1
  have HCT := Lib.hid (tile_count HS.out px py (by omega) (by omega) (by omega) (by omega))
  have hqe := eqT
  have hqn : ∀ (a b : Int) (W : World), (binOp .neq 31 (.agg #[.int .i64 a, .int .i64 b]) (.agg #[.int .i64 a, .int .i64 b])).run Try.prog W = .ok (.bool false) W := fun a b W => by rw [neq31]; simp [same2]
  go_wp2
  go_loopw [10, 11] (fun n i wr => ∃ k : Nat, k ≤ L.length ∧ i = .int .i64 k ∧ n = .int .i64 (cnt (flr px 8, flr py 8) (L.take k)) ∧ Grow w5 wr) (fun _ i _ => L.length - (intOf i).toNat)
  case atStart => exact ⟨0, by omega, rfl, by simp [cnt], Grow.refl _⟩
  case round =>
    obtain ⟨k, hk, rfl, rfl, hgw⟩ := hrel
    have hcn : 0 ≤ cnt (flr px 8, flr py 8) (L.take k) ∧ cnt (flr px 8, flr py 8) (L.take k) ≤ 100 := by
      unfold cnt
      have h1 := List.count_le_length (a := (flr px 8, flr py 8)) (l := L.take k)
      have h2 := List.length_take_le k L
      omega
    obtain ⟨hcn1, hcn2⟩ := hcn
    by_cases hlt : k < L.length
    · obtain ⟨⟨tx, ty⟩, hx⟩ : ∃ x, L[k]? = some x := ⟨_, List.getElem?_eq_getElem hlt⟩
      have hmem : (tx, ty) ∈ tilesL r := by rw [HL.out]; exact List.mem_of_getElem? hx
      obtain ⟨g1, rfl, c0, c1⟩ := rdT_at R1.out hx
      obtain ⟨g2, rfl, d0, d1⟩ := rdT_at R2.out hx
      have hct := cnt_take (flr px 8, flr py 8) L k (tx, ty) hx
      dsimp only at c0 c1 d0 d1
      replace c0 := hgw.cell c0
      replace c1 := hgw.cell c1
      replace d0 := hgw.cell d0
      replace d1 := hgw.cell d1
      replace a0 := hgw.cell a0
      replace a1 := hgw.cell a1
      replace a2 := hgw.cell a2
      replace a3 := hgw.cell a3
      replace q0 := hgw.cell q0
      replace q1 := hgw.cell q1
      have hth : has (ofR tx ty) px py = decide ((tx, ty) = (flr px 8, flr py 8)) := tile_has HS.out hmem px py (by omega) (by omega) (by omega) (by omega)
      have hmt := tile_meets HS.out hmem
      dsimp only at hmt
      have hE : ∀ w, Calls Try.prog 22 #[.agg #[.int .i64 (inter (ofR tx ty) r).x0, .int .i64 (inter (ofR tx ty) r).y0, .int .i64 (inter (ofR tx ty) r).x1, .int .i64 (inter (ofR tx ty) r).y1]] w fun e w' => e = .returned (.bool false) ∧ Grow w w' := fun w => (empty_any (inter (ofR tx ty) r).x0 (inter (ofR tx ty) r).y0 (inter (ofR tx ty) r).x1 (inter (ofR tx ty) r).y1 w).mono fun e w' h => ⟨by rw [h.1]; exact ret_bool hmt, by rw [← h.2]; exact Grow.alloc _ _⟩
      clear hx hmem hmt
      by_cases hT : (tx, ty) = (flr px 8, flr py 8)
      · rw [if_pos hT] at hct
        have hht : has (ofR tx ty) px py = true := by rw [hth]; exact decide_eq_true hT
        have hH : ∀ w, Calls Try.prog 33 #[.agg #[.int .i64 (ofR tx ty).x0, .int .i64 (ofR tx ty).y0, .int .i64 (ofR tx ty).x1, .int .i64 (ofR tx ty).y1], .agg #[.int .i64 px, .int .i64 py]] w fun e w' => e = .returned (.bool true) ∧ Grow w w' := fun w => (has_any (ofR tx ty).x0 (ofR tx ty).y0 (ofR tx ty).x1 (ofR tx ty).y1 px py w).mono fun e w' h => ⟨by rw [h.1]; exact ret_bool hht, h.2⟩
        obtain ⟨rfl, rfl⟩ : tx = flr px 8 ∧ ty = flr py 8 := by simpa using hT
        have HCT1 := Lib.hid hct
        clear hct hT hth hht
        go_wp2
        refine q_region (C := fun x => Grow wr x) (by kernel_rfl) (by kernel_rfl) (Grow.drew _) ?_
        repeat (first
          | go_big_quiet_skip
          | (go_big_quiet_want; refine q_val ?_; apply Exists.intro; refine ⟨fun x hx => ?_, ?_⟩; (focus (replace hx : Grow wr x := hx; have xa0 := hx.cell a0; have xa1 := hx.cell a1; have xa2 := hx.cell a2; have xa3 := hx.cell a3; have xc0 := hx.cell c0; have xc1 := hx.cell c1; have xd0 := hx.cell d0; have xd1 := hx.cell d1; have xq0 := hx.cell q0; have xq1 := hx.cell q1; go_simp <;> rfl)); simp only [Act.put, List.setIfInBounds_toArray, List.set_cons_zero, List.set_cons_succ]; go_big_quiet_on)
          | (go_big_quiet_want; refine q_call 29 ?_; apply Exists.intro; refine ⟨fun x hx => ?_, ?_⟩; (focus (go_simp <;> rfl)); apply Exists.intro; refine ⟨fun x hx => ?_, ?_⟩; (focus (exact (of_any _ _ _).mono fun e w' h => ⟨h.1, Grow.trans hx h.2⟩)); simp only [Act.put, List.setIfInBounds_toArray, List.set_cons_zero, List.set_cons_succ]; go_big_quiet_on)
          | (go_big_quiet_want; refine q_call 18 ?_; apply Exists.intro; refine ⟨fun x hx => ?_, ?_⟩; (focus (go_simp <;> rfl)); apply Exists.intro; refine ⟨fun x hx => ?_, ?_⟩; (focus (exact (inter_any _ _ _ _ _ _ _ _ _).mono fun e w' h => ⟨h.1, Grow.trans hx h.2⟩)); simp only [Act.put, List.setIfInBounds_toArray, List.set_cons_zero, List.set_cons_succ]; go_big_quiet_on)
          | (go_big_quiet_want; refine q_call 22 ?_; apply Exists.intro; refine ⟨fun x hx => ?_, ?_⟩; (focus (go_simp <;> rfl)); apply Exists.intro; refine ⟨fun x hx => ?_, ?_⟩; (focus (exact (hE _).mono fun e w' h => ⟨h.1, Grow.trans hx h.2⟩)); simp only [Act.put, List.setIfInBounds_toArray, List.set_cons_zero, List.set_cons_succ]; go_big_quiet_on))
        refine wpQuiet_nil ?_
        intro W1 hW1
        replace hW1 : Grow wr W1 := hW1
        have hg1 := Lib.hid (hgw.trans hW1)
        replace a0 := hW1.cell a0
        replace a1 := hW1.cell a1
        replace a2 := hW1.cell a2
        replace a3 := hW1.cell a3
        replace c0 := hW1.cell c0
        replace c1 := hW1.cell c1
        replace d0 := hW1.cell d0
        replace d1 := hW1.cell d1
        replace q0 := hW1.cell q0
        replace q1 := hW1.cell q1
        clear hW1
        go_wp2
        refine q_region (C := fun x => Grow W1 x) (by kernel_rfl) (by kernel_rfl) (Grow.drew _) ?_
        repeat (first
          | go_big_quiet_skip
          | (go_big_quiet_want; refine q_val ?_; apply Exists.intro; refine ⟨fun x hx => ?_, ?_⟩; (focus (replace hx : Grow W1 x := hx; have xa0 := hx.cell a0; have xa1 := hx.cell a1; have xa2 := hx.cell a2; have xa3 := hx.cell a3; have xc0 := hx.cell c0; have xc1 := hx.cell c1; have xd0 := hx.cell d0; have xd1 := hx.cell d1; have xq0 := hx.cell q0; have xq1 := hx.cell q1; go_simp <;> rfl)); simp only [Act.put, List.setIfInBounds_toArray, List.set_cons_zero, List.set_cons_succ]; go_big_quiet_on)
          | (go_big_quiet_want; refine q_call 29 ?_; apply Exists.intro; refine ⟨fun x hx => ?_, ?_⟩; (focus (go_simp <;> rfl)); apply Exists.intro; refine ⟨fun x hx => ?_, ?_⟩; (focus (exact (of_any _ _ _).mono fun e w' h => ⟨h.1, Grow.trans hx h.2⟩)); simp only [Act.put, List.setIfInBounds_toArray, List.set_cons_zero, List.set_cons_succ]; go_big_quiet_on)
          | (go_big_quiet_want; refine q_call 33 ?_; apply Exists.intro; refine ⟨fun x hx => ?_, ?_⟩; (focus (go_simp <;> rfl)); apply Exists.intro; refine ⟨fun x hx => ?_, ?_⟩; (focus (exact (hH _).mono fun e w' h => ⟨h.1, Grow.trans hx h.2⟩)); simp only [Act.put, List.setIfInBounds_toArray, List.set_cons_zero, List.set_cons_succ]; go_big_quiet_on))
        refine wpQuiet_nil ?_
        intro W2 hW2
        replace hW2 : Grow W1 W2 := hW2
        have hg2 := Lib.hid (hg1.out.trans hW2)
        replace a0 := hW2.cell a0
        replace a1 := hW2.cell a1
        replace a2 := hW2.cell a2
        replace a3 := hW2.cell a3
        replace c0 := hW2.cell c0
        replace c1 := hW2.cell c1
        replace d0 := hW2.cell d0
        replace d1 := hW2.cell d1
        replace q0 := hW2.cell q0
        replace q1 := hW2.cell q1
        clear hW2
        go_wp2
        refine q_region (C := fun x => Grow W2 x) (by kernel_rfl) (by kernel_rfl) (Grow.drew _) ?_
        repeat (first
          | go_big_quiet_skip
          | (go_big_quiet_want; refine q_val ?_; apply Exists.intro; refine ⟨fun x hx => ?_, ?_⟩; (focus (replace hx : Grow W2 x := hx; have xa0 := hx.cell a0; have xa1 := hx.cell a1; have xa2 := hx.cell a2; have xa3 := hx.cell a3; have xc0 := hx.cell c0; have xc1 := hx.cell c1; have xd0 := hx.cell d0; have xd1 := hx.cell d1; have xq0 := hx.cell q0; have xq1 := hx.cell q1; go_simp <;> rfl)); simp only [Act.put, List.setIfInBounds_toArray, List.set_cons_zero, List.set_cons_succ]; go_big_quiet_on)
          | (go_big_quiet_want; refine q_call 31 ?_; apply Exists.intro; refine ⟨fun x hx => ?_, ?_⟩; (focus (go_simp <;> rfl)); apply Exists.intro; refine ⟨fun x hx => ?_, ?_⟩; (focus (exact (at_any _ _ _).mono fun e w' h => ⟨h.1, Grow.trans hx h.2⟩)); simp only [Act.put, List.setIfInBounds_toArray, List.set_cons_zero, List.set_cons_succ]; go_big_quiet_on))
        refine wpQuiet_nil ?_
        intro W3 hW3
        replace hW3 : Grow W2 W3 := hW3
        have hg3 := Lib.hid (hg2.out.trans hW3)
        clear hW3
        go_wp2
        go_roundw
        case rel => exact ⟨k + 1, by omega, by go_num, by rw [HCT1.out], hg3.out⟩
        case measure => simp [intOf]; omega
      · rw [if_neg hT] at hct
        have hht : has (ofR tx ty) px py = false := by rw [hth]; exact decide_eq_false hT
        have hH : ∀ w, Calls Try.prog 33 #[.agg #[.int .i64 (ofR tx ty).x0, .int .i64 (ofR tx ty).y0, .int .i64 (ofR tx ty).x1, .int .i64 (ofR tx ty).y1], .agg #[.int .i64 px, .int .i64 py]] w fun e w' => e = .returned (.bool false) ∧ Grow w w' := fun w => (has_any (ofR tx ty).x0 (ofR tx ty).y0 (ofR tx ty).x1 (ofR tx ty).y1 px py w).mono fun e w' h => ⟨by rw [h.1]; exact ret_bool hht, h.2⟩
        have HCT1 := Lib.hid hct
        clear hct hT hth hht
        go_wp2
        refine q_region (C := fun x => Grow wr x) (by kernel_rfl) (by kernel_rfl) (Grow.drew _) ?_
        repeat (first
          | go_big_quiet_skip
          | (go_big_quiet_want; refine q_val ?_; apply Exists.intro; refine ⟨fun x hx => ?_, ?_⟩; (focus (replace hx : Grow wr x := hx; have xa0 := hx.cell a0; have xa1 := hx.cell a1; have xa2 := hx.cell a2; have xa3 := hx.cell a3; have xc0 := hx.cell c0; have xc1 := hx.cell c1; have xd0 := hx.cell d0; have xd1 := hx.cell d1; have xq0 := hx.cell q0; have xq1 := hx.cell q1; go_simp <;> rfl)); simp only [Act.put, List.setIfInBounds_toArray, List.set_cons_zero, List.set_cons_succ]; go_big_quiet_on)
          | (go_big_quiet_want; refine q_call 29 ?_; apply Exists.intro; refine ⟨fun x hx => ?_, ?_⟩; (focus (go_simp <;> rfl)); apply Exists.intro; refine ⟨fun x hx => ?_, ?_⟩; (focus (exact (of_any _ _ _).mono fun e w' h => ⟨h.1, Grow.trans hx h.2⟩)); simp only [Act.put, List.setIfInBounds_toArray, List.set_cons_zero, List.set_cons_succ]; go_big_quiet_on)
          | (go_big_quiet_want; refine q_call 18 ?_; apply Exists.intro; refine ⟨fun x hx => ?_, ?_⟩; (focus (go_simp <;> rfl)); apply Exists.intro; refine ⟨fun x hx => ?_, ?_⟩; (focus (exact (inter_any _ _ _ _ _ _ _ _ _).mono fun e w' h => ⟨h.1, Grow.trans hx h.2⟩)); simp only [Act.put, List.setIfInBounds_toArray, List.set_cons_zero, List.set_cons_succ]; go_big_quiet_on)
          | (go_big_quiet_want; refine q_call 22 ?_; apply Exists.intro; refine ⟨fun x hx => ?_, ?_⟩; (focus (go_simp <;> rfl)); apply Exists.intro; refine ⟨fun x hx => ?_, ?_⟩; (focus (exact (hE _).mono fun e w' h => ⟨h.1, Grow.trans hx h.2⟩)); simp only [Act.put, List.setIfInBounds_toArray, List.set_cons_zero, List.set_cons_succ]; go_big_quiet_on))
        refine wpQuiet_nil ?_
        intro W1 hW1
        replace hW1 : Grow wr W1 := hW1
        have hg1 := Lib.hid (hgw.trans hW1)
        replace a0 := hW1.cell a0
        replace a1 := hW1.cell a1
        replace a2 := hW1.cell a2
        replace a3 := hW1.cell a3
        replace c0 := hW1.cell c0
        replace c1 := hW1.cell c1
        replace d0 := hW1.cell d0
        replace d1 := hW1.cell d1
        replace q0 := hW1.cell q0
        replace q1 := hW1.cell q1
        clear hW1
        go_wp2
        refine q_region (C := fun x => Grow W1 x) (by kernel_rfl) (by kernel_rfl) (Grow.drew _) ?_
        repeat (first
          | go_big_quiet_skip
          | (go_big_quiet_want; refine q_val ?_; apply Exists.intro; refine ⟨fun x hx => ?_, ?_⟩; (focus (replace hx : Grow W1 x := hx; have xa0 := hx.cell a0; have xa1 := hx.cell a1; have xa2 := hx.cell a2; have xa3 := hx.cell a3; have xc0 := hx.cell c0; have xc1 := hx.cell c1; have xd0 := hx.cell d0; have xd1 := hx.cell d1; have xq0 := hx.cell q0; have xq1 := hx.cell q1; go_simp <;> rfl)); simp only [Act.put, List.setIfInBounds_toArray, List.set_cons_zero, List.set_cons_succ]; go_big_quiet_on)
          | (go_big_quiet_want; refine q_call 29 ?_; apply Exists.intro; refine ⟨fun x hx => ?_, ?_⟩; (focus (go_simp <;> rfl)); apply Exists.intro; refine ⟨fun x hx => ?_, ?_⟩; (focus (exact (of_any _ _ _).mono fun e w' h => ⟨h.1, Grow.trans hx h.2⟩)); simp only [Act.put, List.setIfInBounds_toArray, List.set_cons_zero, List.set_cons_succ]; go_big_quiet_on)
          | (go_big_quiet_want; refine q_call 33 ?_; apply Exists.intro; refine ⟨fun x hx => ?_, ?_⟩; (focus (go_simp <;> rfl)); apply Exists.intro; refine ⟨fun x hx => ?_, ?_⟩; (focus (exact (hH _).mono fun e w' h => ⟨h.1, Grow.trans hx h.2⟩)); simp only [Act.put, List.setIfInBounds_toArray, List.set_cons_zero, List.set_cons_succ]; go_big_quiet_on))
        refine wpQuiet_nil ?_
        intro W2 hW2
        replace hW2 : Grow W1 W2 := hW2
        have hg2 := Lib.hid (hg1.out.trans hW2)
        clear hW2
        go_wp2
        go_roundw
        case rel => exact ⟨k + 1, by omega, by go_num, by rw [HCT1.out]; simp, hg2.out⟩
        case measure => simp [intOf]; omega
    · obtain rfl : k = L.length := by omega
      have hfull : L.take L.length = L := List.take_length
      rw [hfull] at hcn1 hcn2 ⊢
      have h1 := HCT.out
      rw [HL.out] at h1
      obtain ⟨h1, h2⟩ := h1
      generalize cnt (flr px 8, flr py 8) L = c at *
      replace a0 := hgw.cell a0
      replace a1 := hgw.cell a1
      replace a2 := hgw.cell a2
      replace a3 := hgw.cell a3
      replace q0 := hgw.cell q0
      replace q1 := hgw.cell q1
      have hGe := Lib.hid (HG0.out.trans hgw)
      clear hlt hfull hk hgw
      by_cases hc1 : c = 1
      · subst hc1
        go_wp2
        go_ret
        exact ⟨rfl, hGe.out⟩
      · have hh : has r px py = false := by cases hh : has r px py; rfl; exact absurd (h2 hh) hc1
        have hH : ∀ w, Calls Try.prog 33 #[.agg #[.int .i64 r.x0, .int .i64 r.y0, .int .i64 r.x1, .int .i64 r.y1], .agg #[.int .i64 px, .int .i64 py]] w fun e w' => e = .returned (.bool false) ∧ Grow w w' := fun w => (has_any _ _ _ _ _ _ w).mono fun e w' h => ⟨by rw [h.1]; exact ret_bool hh, h.2⟩
        obtain rfl : c = 0 := by omega
        clear hh h1 h2 hc1
        go_wp2_with (go_at_call 33; refine (hH _).mono ?_; rintro e w' ⟨rfl, hg6⟩)
        go_ret
        exact ⟨rfl, hGe.out.trans hg6⟩
end rectTiles
end Go.Proofs.Ytplnhmfkflnhpaa
