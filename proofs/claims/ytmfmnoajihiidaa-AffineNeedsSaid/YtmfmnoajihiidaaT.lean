/- Walks of canvas, Source. Printed by genT.py. -/
import Derived.Test.YtmfmnoajihiidaaS
set_option linter.unusedVariables false
namespace Go.Proofs.Ytmfmnoajihiidaa
open Go.RowKit
def Af.src (a : Af) (X Y : Int) : (Int × Int) × Int := if a.val && Rct.has ⟨-65536, -65536, 65536, 65536⟩ X Y then ((a.srcX X Y, a.srcY X Y), 0) else ((0, 0), 1)
theorem cells4 {y : World} {g : Nat} {a0 a1 a2 a3 : Value} (h : y.heap[g]? = some (.cells #[a0, a1, a2, a3] 48 (0, 0))) (u0 u1 u2 u3 : Value) :
    ((((y.setCell ⟨g, 0, none⟩ u0).setCell ⟨g, 1, none⟩ u1).setCell ⟨g, 2, none⟩ u2).setCell ⟨g, 3, none⟩ u3).heap[g]? = some (.cells #[u0, u1, u2, u3] 48 (0, 0)) := by
  rw [heap_setCell_same _ _ _ _ _ _ (heap_setCell_same _ _ _ _ _ _ (heap_setCell_same _ _ _ _ _ _ (heap_setCell_same _ _ _ _ _ _ h)))]
  rfl
theorem grow4 {w y : World} {g : Nat} (h : Grow w y) (hg : w.heap.size ≤ g) (u0 u1 u2 u3 : Value) : Grow w ((((y.setCell ⟨g, 0, none⟩ u0).setCell ⟨g, 1, none⟩ u1).setCell ⟨g, 2, none⟩ u2).setCell ⟨g, 3, none⟩ u3) := by
  have s : ∀ (z : World) (i : Nat) (v : Value), Below w.heap.size w z → Below w.heap.size w (z.setCell ⟨g, i, none⟩ v) := fun z i v hz => hz.setCell (p := ⟨g, i, none⟩) hg v
  exact s _ _ _ (s _ _ _ (s _ _ _ (s _ _ _ h)))
theorem other4 {y : World} {g k : Nat} (h : k ≠ g) (u0 u1 u2 u3 : Value) : ((((y.setCell ⟨g, 0, none⟩ u0).setCell ⟨g, 1, none⟩ u1).setCell ⟨g, 2, none⟩ u2).setCell ⟨g, 3, none⟩ u3).heap[k]? = y.heap[k]? := by
  have s : ∀ (z : World) (i : Nat) (v : Value), (z.setCell ⟨g, i, none⟩ v).heap[k]? = z.heap[k]? := fun z i v => heap_setCell_other _ _ _ _ h
  rw [s, s, s, s]
theorem results_cell48 {fn : Func} {t : Tmp} (h : fn.results = #[.cell t 48]) (tmps : Array Value) (g : Nat) (a0 a1 a2 a3 : Value) (w : World) (ht : tmps[t]?.getD undef = .pointer (some ⟨g, 0, none⟩)) (hl : w.heap[g]? = some (.cells #[a0, a1, a2, a3] 48 (0, 0))) :
    (results fn tmps).run Try.prog w = .ok (.agg #[a0, a1, a2, a3]) w := by
  have c0 : w.cell? ⟨g, 0, none⟩ = some a0 := by rw [cell_of_row w _ 0 _ _ _ hl]; rfl
  have c1 : w.cell? ⟨g, 1, none⟩ = some a1 := by rw [cell_of_row w _ 1 _ _ _ hl]; rfl
  have c2 : w.cell? ⟨g, 2, none⟩ = some a2 := by rw [cell_of_row w _ 2 _ _ _ hl]; rfl
  have c3 : w.cell? ⟨g, 3, none⟩ = some a3 := by rw [cell_of_row w _ 3 _ _ _ hl]; rfl
  simp [results, h, ht, asAddr, loadVar, loadCells, loadCellsFrom, Addr.add, c0, c1, c2, c3]
theorem results_cell48e {fn : Func} {t u : Tmp} (h : fn.results = #[.cell t 48, .tmp u]) (tmps : Array Value) (g : Nat) (a0 a1 a2 a3 v : Value) (w : World) (ht : tmps[t]?.getD undef = .pointer (some ⟨g, 0, none⟩)) (hu : tmps[u]?.getD undef = v) (hl : w.heap[g]? = some (.cells #[a0, a1, a2, a3] 48 (0, 0))) :
    (results fn tmps).run Try.prog w = .ok (.tuple #[.agg #[a0, a1, a2, a3], v]) w := by
  have c0 : w.cell? ⟨g, 0, none⟩ = some a0 := by rw [cell_of_row w _ 0 _ _ _ hl]; rfl
  have c1 : w.cell? ⟨g, 1, none⟩ = some a1 := by rw [cell_of_row w _ 1 _ _ _ hl]; rfl
  have c2 : w.cell? ⟨g, 2, none⟩ = some a2 := by rw [cell_of_row w _ 2 _ _ _ hl]; rfl
  have c3 : w.cell? ⟨g, 3, none⟩ = some a3 := by rw [cell_of_row w _ 3 _ _ _ hl]; rfl
  simp [results, h, ht, hu, asAddr, loadVar, loadCells, loadCellsFrom, Addr.add, c0, c1, c2, c3]
set_option maxRecDepth 100000 in
set_option maxHeartbeats 1000000 in
theorem canvas_any (w : World) : Calls Try.prog 45 #[] w fun e w' => e = .returned (.agg #[.int .i64 (-65536), .int .i64 (-65536), .int .i64 65536, .int .i64 65536]) ∧ Grow w w' := by
  go_enter Try.func45, Try.ntmps45
  go_wp2
  refine bodyPost_ret (results_cell48 rfl _ w.heap.size _ _ _ _ _ rfl (heap_alloc_new _ _)) rfl ⟨rfl, Grow.alloc _ _⟩
set_option maxRecDepth 100000 in
set_option maxHeartbeats 4000000 in
theorem Source_any (a : Af) (X Y : Int) (w : World) :
    Calls Try.prog 19 #[.agg #[.int .i64 a.A, .int .i64 a.B, .int .i64 a.C, .int .i64 a.D, .int .i64 a.E, .int .i64 a.F, .int .i64 a.N], .agg #[.int .i64 X, .int .i64 Y]] w fun e w' => e = .returned (.tuple #[.agg #[.int .i64 (a.src X Y).1.1, .int .i64 (a.src X Y).1.2], .int .i64 (a.src X Y).2]) ∧ Grow w w' := by
  have HA := Lib.hid (valid_any a.A a.B a.C a.D a.E a.F a.N)
  have HH := Lib.hid (Rct.has_any (-65536) (-65536) 65536 65536 X Y)
  have hc : a.src X Y = if a.val && Rct.has ⟨-65536, -65536, 65536, 65536⟩ X Y then ((a.srcX X Y, a.srcY X Y), 0) else ((0, 0), 1) := rfl
  rw [show Af.mk a.A a.B a.C a.D a.E a.F a.N = a from rfl] at HA
  have hb : Rct.has ⟨-65536, -65536, 65536, 65536⟩ X Y = true → (-70000 ≤ X ∧ X ≤ 70000) ∧ (-70000 ≤ Y ∧ Y ≤ 70000) := by
    intro h; unfold Rct.has at h; simp only [Bool.and_eq_true, decide_eq_true_eq] at h; omega
  have HS := Lib.hid (fun (h1 : a.val = true) (h2 : Rct.has ⟨-65536, -65536, 65536, 65536⟩ X Y = true) => source_any a h1 X Y (hb h2).1 (hb h2).2)
  clear hb
  generalize a.src X Y = sr at *
  generalize a.srcX X Y = rx at *
  generalize a.srcY X Y = ry at *
  generalize a.val = va at *
  generalize Rct.has ⟨-65536, -65536, 65536, 65536⟩ X Y = vh at *
  replace hc := Lib.hid hc
  go_enter Try.func19, Try.ntmps19
  go_upto_region 1 with fail
  refine wp_gen (fun W0 => W0.heap[w.heap.size]? = some (.cells #[.int .i64 a.A, .int .i64 a.B, .int .i64 a.C, .int .i64 a.D, .int .i64 a.E, .int .i64 a.F, .int .i64 a.N] 23 (0, 0)) ∧ W0.heap[w.heap.size + 1]? = some (.cells #[.int .i64 X, .int .i64 Y] 41 (0, 0)) ∧ W0.heap[w.heap.size + 2]? = some (.cells #[.int .i64 0, .int .i64 0] 41 (0, 0)) ∧ Grow w W0) ⟨(Grow.alloc _ _).block ((Grow.alloc _ _).block (heap_alloc_new _ _)), (Grow.alloc _ _).block (heap_new' _ _ _ (by simp)), heap_new' _ _ _ (by simp), ((Grow.alloc w _).a _).a _⟩ ?_
  rintro W ⟨r1, r2, r3, hG⟩
  have hcell : ∀ x, Grow W x → x.cell? ⟨w.heap.size, 0, none⟩ = some (.int .i64 a.A) ∧ x.cell? ⟨w.heap.size, 1, none⟩ = some (.int .i64 a.B) ∧ x.cell? ⟨w.heap.size, 2, none⟩ = some (.int .i64 a.C) ∧ x.cell? ⟨w.heap.size, 3, none⟩ = some (.int .i64 a.D) ∧ x.cell? ⟨w.heap.size, 4, none⟩ = some (.int .i64 a.E) ∧ x.cell? ⟨w.heap.size, 5, none⟩ = some (.int .i64 a.F) ∧ x.cell? ⟨w.heap.size, 6, none⟩ = some (.int .i64 a.N) ∧ x.cell? ⟨w.heap.size + 1, 0, none⟩ = some (.int .i64 X) ∧ x.cell? ⟨w.heap.size + 1, 1, none⟩ = some (.int .i64 Y) := by
    intro x g
    have r1 := g.block r1
    have r2 := g.block r2
    have c0 : x.cell? ⟨w.heap.size, 0, none⟩ = some (.int .i64 a.A) := by rw [cell_of_row x _ 0 _ _ _ r1]; rfl
    have c1 : x.cell? ⟨w.heap.size, 1, none⟩ = some (.int .i64 a.B) := by rw [cell_of_row x _ 1 _ _ _ r1]; rfl
    have c2 : x.cell? ⟨w.heap.size, 2, none⟩ = some (.int .i64 a.C) := by rw [cell_of_row x _ 2 _ _ _ r1]; rfl
    have c3 : x.cell? ⟨w.heap.size, 3, none⟩ = some (.int .i64 a.D) := by rw [cell_of_row x _ 3 _ _ _ r1]; rfl
    have c4 : x.cell? ⟨w.heap.size, 4, none⟩ = some (.int .i64 a.E) := by rw [cell_of_row x _ 4 _ _ _ r1]; rfl
    have c5 : x.cell? ⟨w.heap.size, 5, none⟩ = some (.int .i64 a.F) := by rw [cell_of_row x _ 5 _ _ _ r1]; rfl
    have c6 : x.cell? ⟨w.heap.size, 6, none⟩ = some (.int .i64 a.N) := by rw [cell_of_row x _ 6 _ _ _ r1]; rfl
    have k0 : x.cell? ⟨w.heap.size + 1, 0, none⟩ = some (.int .i64 X) := by rw [cell_of_row x _ 0 _ _ _ r2]; rfl
    have k1 : x.cell? ⟨w.heap.size + 1, 1, none⟩ = some (.int .i64 Y) := by rw [cell_of_row x _ 1 _ _ _ r2]; rfl
    exact ⟨c0, c1, c2, c3, c4, c5, c6, k0, k1⟩
  replace r1 := Lib.hid r1
  replace r2 := Lib.hid r2
  replace r3 := Lib.hid r3
  replace hG := Lib.hid hG
  replace hcell := Lib.hid hcell
  cases va with
  | false =>
    refine q_region (C := fun x => Grow W x) rfl (by kernel_rfl) (Grow.drew _) ?_
    repeat (first
      | go_big_quiet_skip
      | (go_big_quiet_want; refine q_val ?_; apply Exists.intro; refine ⟨fun x hx => ?_, ?_⟩; (focus (obtain ⟨c0, c1, c2, c3, c4, c5, c6, k0, k1⟩ := hcell.out x hx; go_simp <;> rfl)); simp only [Act.put, List.setIfInBounds_toArray, List.set_cons_zero, List.set_cons_succ]; go_big_quiet_on)
      | (go_big_quiet_want; refine q_call 27 ?_; apply Exists.intro; refine ⟨fun x hx => ?_, ?_⟩; (focus (go_simp <;> rfl)); apply Exists.intro; refine ⟨fun x hx => ?_, ?_⟩; (focus (exact (HA.out _).mono fun e w' h => ⟨h.1, Grow.trans hx h.2⟩)); simp only [Act.put, List.setIfInBounds_toArray, List.set_cons_zero, List.set_cons_succ]; go_big_quiet_on)
      | (go_big_quiet_want; refine q_call 45 ?_; apply Exists.intro; refine ⟨fun x hx => ?_, ?_⟩; (focus (go_simp <;> rfl)); apply Exists.intro; refine ⟨fun x hx => ?_, ?_⟩; (focus (exact (canvas_any _).mono fun e w' h => ⟨h.1, Grow.trans hx h.2⟩)); simp only [Act.put, List.setIfInBounds_toArray, List.set_cons_zero, List.set_cons_succ]; go_big_quiet_on)
      | (go_big_quiet_want; refine q_call 24 ?_; apply Exists.intro; refine ⟨fun x hx => ?_, ?_⟩; (focus (go_simp <;> rfl)); apply Exists.intro; refine ⟨fun x hx => ?_, ?_⟩; (focus (exact (HH.out _).mono fun e w' h => ⟨h.1, Grow.trans hx h.2⟩)); simp only [Act.put, List.setIfInBounds_toArray, List.set_cons_zero, List.set_cons_succ]; go_big_quiet_on))
    refine wpQuiet_nil ?_
    intro x g
    replace r3 := g.block r3.out
    replace hG := Lib.hid (hG.out.trans g)
    have d0 : x.cell? ⟨w.heap.size + 2, 0, none⟩ = some (.int .i64 0) := by rw [cell_of_row x _ 0 _ _ _ r3]; rfl
    have d1 : x.cell? ⟨w.heap.size + 2, 1, none⟩ = some (.int .i64 0) := by rw [cell_of_row x _ 1 _ _ _ r3]; rfl
    have fd0 := frozen_of_row x (w.heap.size + 2) 0 _ _ r3
    have fd1 := frozen_of_row x (w.heap.size + 2) 1 _ _ r3
    replace r3 := Lib.hid r3
    clear hcell r1 r2 HA HH HS g
    go_wp2
    refine bodyPost_ret (results_cell41e rfl _ (w.heap.size + 2) _ _ _ _ rfl rfl (cells2 r3.out _ _)) rfl ⟨by rw [hc.out]; rfl, grow2 hG.out (by omega) _ _⟩
  | true =>
    cases vh with
    | false =>
      refine q_region (C := fun x => Grow W x) rfl (by kernel_rfl) (Grow.drew _) ?_
      repeat (first
        | go_big_quiet_skip
        | (go_big_quiet_want; refine q_val ?_; apply Exists.intro; refine ⟨fun x hx => ?_, ?_⟩; (focus (obtain ⟨c0, c1, c2, c3, c4, c5, c6, k0, k1⟩ := hcell.out x hx; go_simp <;> rfl)); simp only [Act.put, List.setIfInBounds_toArray, List.set_cons_zero, List.set_cons_succ]; go_big_quiet_on)
        | (go_big_quiet_want; refine q_call 27 ?_; apply Exists.intro; refine ⟨fun x hx => ?_, ?_⟩; (focus (go_simp <;> rfl)); apply Exists.intro; refine ⟨fun x hx => ?_, ?_⟩; (focus (exact (HA.out _).mono fun e w' h => ⟨h.1, Grow.trans hx h.2⟩)); simp only [Act.put, List.setIfInBounds_toArray, List.set_cons_zero, List.set_cons_succ]; go_big_quiet_on)
        | (go_big_quiet_want; refine q_call 45 ?_; apply Exists.intro; refine ⟨fun x hx => ?_, ?_⟩; (focus (go_simp <;> rfl)); apply Exists.intro; refine ⟨fun x hx => ?_, ?_⟩; (focus (exact (canvas_any _).mono fun e w' h => ⟨h.1, Grow.trans hx h.2⟩)); simp only [Act.put, List.setIfInBounds_toArray, List.set_cons_zero, List.set_cons_succ]; go_big_quiet_on)
        | (go_big_quiet_want; refine q_call 24 ?_; apply Exists.intro; refine ⟨fun x hx => ?_, ?_⟩; (focus (go_simp <;> rfl)); apply Exists.intro; refine ⟨fun x hx => ?_, ?_⟩; (focus (exact (HH.out _).mono fun e w' h => ⟨h.1, Grow.trans hx h.2⟩)); simp only [Act.put, List.setIfInBounds_toArray, List.set_cons_zero, List.set_cons_succ]; go_big_quiet_on))
      refine wpQuiet_nil ?_
      intro x g
      replace r3 := g.block r3.out
      replace hG := Lib.hid (hG.out.trans g)
      have d0 : x.cell? ⟨w.heap.size + 2, 0, none⟩ = some (.int .i64 0) := by rw [cell_of_row x _ 0 _ _ _ r3]; rfl
      have d1 : x.cell? ⟨w.heap.size + 2, 1, none⟩ = some (.int .i64 0) := by rw [cell_of_row x _ 1 _ _ _ r3]; rfl
      have fd0 := frozen_of_row x (w.heap.size + 2) 0 _ _ r3
      have fd1 := frozen_of_row x (w.heap.size + 2) 1 _ _ r3
      replace r3 := Lib.hid r3
      clear hcell r1 r2 HA HH HS g
      go_wp2
      refine bodyPost_ret (results_cell41e rfl _ (w.heap.size + 2) _ _ _ _ rfl rfl (cells2 r3.out _ _)) rfl ⟨by rw [hc.out]; rfl, grow2 hG.out (by omega) _ _⟩
    | true =>
      refine q_region (C := fun x => Grow W x) rfl (by kernel_rfl) (Grow.drew _) ?_
      repeat (first
        | go_big_quiet_skip
        | (go_big_quiet_want; refine q_val ?_; apply Exists.intro; refine ⟨fun x hx => ?_, ?_⟩; (focus (obtain ⟨c0, c1, c2, c3, c4, c5, c6, k0, k1⟩ := hcell.out x hx; go_simp <;> rfl)); simp only [Act.put, List.setIfInBounds_toArray, List.set_cons_zero, List.set_cons_succ]; go_big_quiet_on)
        | (go_big_quiet_want; refine q_call 27 ?_; apply Exists.intro; refine ⟨fun x hx => ?_, ?_⟩; (focus (go_simp <;> rfl)); apply Exists.intro; refine ⟨fun x hx => ?_, ?_⟩; (focus (exact (HA.out _).mono fun e w' h => ⟨h.1, Grow.trans hx h.2⟩)); simp only [Act.put, List.setIfInBounds_toArray, List.set_cons_zero, List.set_cons_succ]; go_big_quiet_on)
        | (go_big_quiet_want; refine q_call 45 ?_; apply Exists.intro; refine ⟨fun x hx => ?_, ?_⟩; (focus (go_simp <;> rfl)); apply Exists.intro; refine ⟨fun x hx => ?_, ?_⟩; (focus (exact (canvas_any _).mono fun e w' h => ⟨h.1, Grow.trans hx h.2⟩)); simp only [Act.put, List.setIfInBounds_toArray, List.set_cons_zero, List.set_cons_succ]; go_big_quiet_on)
        | (go_big_quiet_want; refine q_call 24 ?_; apply Exists.intro; refine ⟨fun x hx => ?_, ?_⟩; (focus (go_simp <;> rfl)); apply Exists.intro; refine ⟨fun x hx => ?_, ?_⟩; (focus (exact (HH.out _).mono fun e w' h => ⟨h.1, Grow.trans hx h.2⟩)); simp only [Act.put, List.setIfInBounds_toArray, List.set_cons_zero, List.set_cons_succ]; go_big_quiet_on))
      refine wpQuiet_nil ?_
      intro x g
      replace r3 := g.block r3.out
      replace hG := Lib.hid (hG.out.trans g)
      obtain ⟨c0, c1, c2, c3, c4, c5, c6, k0, k1⟩ := hcell.out x g
      replace HS := Lib.hid (HS.out rfl rfl)
      replace r3 := Lib.hid r3
      clear hcell r1 r2 HA HH g
      go_wp2_with fail
      refine (HS.out _).mono ?_
      rintro e y ⟨rfl, g⟩
      replace r3 := g.block r3.out
      replace hG := Lib.hid (hG.out.trans g)
      clear c0 c1 c2 c3 c4 c5 c6 k0 k1 g
      have d0 : y.cell? ⟨w.heap.size + 2, 0, none⟩ = some (.int .i64 0) := by rw [cell_of_row y _ 0 _ _ _ r3]; rfl
      have d1 : y.cell? ⟨w.heap.size + 2, 1, none⟩ = some (.int .i64 0) := by rw [cell_of_row y _ 1 _ _ _ r3]; rfl
      have fd0 := frozen_of_row y (w.heap.size + 2) 0 _ _ r3
      have fd1 := frozen_of_row y (w.heap.size + 2) 1 _ _ r3
      replace r3 := Lib.hid r3
      go_wp2
      refine bodyPost_ret (results_cell41e rfl _ (w.heap.size + 2) _ _ _ _ rfl rfl (cells2 r3.out _ _)) rfl ⟨by rw [hc.out]; rfl, grow2 hG.out (by omega) _ _⟩
end Go.Proofs.Ytmfmnoajihiidaa
