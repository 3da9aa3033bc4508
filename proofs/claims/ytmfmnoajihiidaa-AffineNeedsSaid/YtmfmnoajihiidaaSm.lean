/- Walk of the reference's Small. Printed by genSm.py. -/
import Derived.Test.YtmfmnoajihiidaaK
import Derived.Test.YtmfmnoajihiidaaJH
set_option linter.unusedVariables false
namespace Go.Proofs.Ytmfmnoajihiidaa
open Go.RowKit
def sm0 (q0 q1 q2 q3 q4 q5 q6 : Int) : Af := ⟨(Rct.rst q0 9 - 4), (Rct.rst q1 9 - 4), (Rct.rst q2 41 - 20), (Rct.rst q3 9 - 4), (Rct.rst q4 9 - 4), (Rct.rst q5 41 - 20), (1 + Rct.rst q6 4)⟩
def Af.fix (a : Af) : Af := if a.det = 0 then ⟨1, 0, a.C, a.D, 1, a.F, a.N⟩ else a
def small (q0 q1 q2 q3 q4 q5 q6 : Int) : Af := (sm0 q0 q1 q2 q3 q4 q5 q6).fix
theorem new23 : ∀ o : Oper, o.op = .alloc 23 → ∀ a x, (execOp a o).run Try.prog x = .ok (.value (.pointer (some ⟨x.heap.size, 0, none⟩))) (x.alloc (.cells #[.int .i64 0, .int .i64 0, .int .i64 0, .int .i64 0, .int .i64 0, .int .i64 0, .int .i64 0] 23)) := by
  intro o ho a x
  unfold execOp; rw [ho]; go_simp
set_option maxRecDepth 100000 in
set_option maxHeartbeats 4000000 in
theorem small_any (q0 q1 q2 q3 q4 q5 q6 : Int) (w : World) :
    Calls Try.prog 14 #[.agg #[.int .i64 q0, .int .i64 q1, .int .i64 q2, .int .i64 q3, .int .i64 q4, .int .i64 q5, .int .i64 q6]] w fun e w' => e = .returned (.agg #[.int .i64 (small q0 q1 q2 q3 q4 q5 q6).A, .int .i64 (small q0 q1 q2 q3 q4 q5 q6).B, .int .i64 (small q0 q1 q2 q3 q4 q5 q6).C, .int .i64 (small q0 q1 q2 q3 q4 q5 q6).D, .int .i64 (small q0 q1 q2 q3 q4 q5 q6).E, .int .i64 (small q0 q1 q2 q3 q4 q5 q6).F, .int .i64 (small q0 q1 q2 q3 q4 q5 q6).N]) ∧ Grow w w' := by
  have hsm : small q0 q1 q2 q3 q4 q5 q6 = (sm0 q0 q1 q2 q3 q4 q5 q6).fix := rfl
  have hs0 : sm0 q0 q1 q2 q3 q4 q5 q6 = ⟨(Rct.rst q0 9 - 4), (Rct.rst q1 9 - 4), (Rct.rst q2 41 - 20), (Rct.rst q3 9 - 4), (Rct.rst q4 9 - 4), (Rct.rst q5 41 - 20), (1 + Rct.rst q6 4)⟩ := rfl
  generalize small q0 q1 q2 q3 q4 q5 q6 = sm at *
  generalize sm0 q0 q1 q2 q3 q4 q5 q6 = s at *
  have b0 := rst_bd q0 9 (by omega) (by omega)
  have H0 := Lib.hid (rest41_any q0 9 (by decide))
  have b1 := rst_bd q1 9 (by omega) (by omega)
  have H1 := Lib.hid (rest41_any q1 9 (by decide))
  have b2 := rst_bd q2 41 (by omega) (by omega)
  have H2 := Lib.hid (rest41_any q2 41 (by decide))
  have b3 := rst_bd q3 9 (by omega) (by omega)
  have H3 := Lib.hid (rest41_any q3 9 (by decide))
  have b4 := rst_bd q4 9 (by omega) (by omega)
  have H4 := Lib.hid (rest41_any q4 9 (by decide))
  have b5 := rst_bd q5 41 (by omega) (by omega)
  have H5 := Lib.hid (rest41_any q5 41 (by decide))
  have b6 := rst_bd q6 4 (by omega) (by omega)
  have H6 := Lib.hid (rest41_any q6 4 (by decide))
  generalize Rct.rst q0 9 = r0 at *
  generalize Rct.rst q1 9 = r1 at *
  generalize Rct.rst q2 41 = r2 at *
  generalize Rct.rst q3 9 = r3 at *
  generalize Rct.rst q4 9 = r4 at *
  generalize Rct.rst q5 41 = r5 at *
  generalize Rct.rst q6 4 = r6 at *
  have e0 : IntKind.i64.wrap (r0 - 4) = r0 - 4 := w64 _ (by omega) (by omega)
  have e1 : IntKind.i64.wrap (r1 - 4) = r1 - 4 := w64 _ (by omega) (by omega)
  have e2 : IntKind.i64.wrap (r2 - 20) = r2 - 20 := w64 _ (by omega) (by omega)
  have e3 : IntKind.i64.wrap (r3 - 4) = r3 - 4 := w64 _ (by omega) (by omega)
  have e4 : IntKind.i64.wrap (r4 - 4) = r4 - 4 := w64 _ (by omega) (by omega)
  have e5 : IntKind.i64.wrap (r5 - 20) = r5 - 20 := w64 _ (by omega) (by omega)
  have e6 : IntKind.i64.wrap (1 + r6) = 1 + r6 := w64 _ (by omega) (by omega)
  have p0 : s.A = r0 - 4 := by rw [hs0]
  have p1 : s.B = r1 - 4 := by rw [hs0]
  have p2 : s.C = r2 - 20 := by rw [hs0]
  have p3 : s.D = r3 - 4 := by rw [hs0]
  have p4 : s.E = r4 - 4 := by rw [hs0]
  have p5 : s.F = r5 - 20 := by rw [hs0]
  have p6 : s.N = 1 + r6 := by rw [hs0]
  have HD := Lib.hid (det_ref s.A s.B s.C s.D s.E s.F s.N (by omega) (by omega) (by omega) (by omega))
  rw [show Af.mk s.A s.B s.C s.D s.E s.F s.N = s from rfl] at HD
  have hfix : sm = if s.det = 0 then ⟨1, 0, s.C, s.D, 1, s.F, s.N⟩ else s := hsm
  replace hfix := Lib.hid hfix
  clear hs0 hsm b0 b1 b2 b3 b4 b5 b6
  replace p0 := Lib.hid p0
  replace p1 := Lib.hid p1
  replace p2 := Lib.hid p2
  replace p3 := Lib.hid p3
  replace p4 := Lib.hid p4
  replace p5 := Lib.hid p5
  replace p6 := Lib.hid p6
  go_enter Try.func14, Try.ntmps14
  go_upto_region 1 with fail
  refine wp_gen (fun W0 => W0.heap[w.heap.size]? = some (.cells #[.int .i64 q0, .int .i64 q1, .int .i64 q2, .int .i64 q3, .int .i64 q4, .int .i64 q5, .int .i64 q6] 24 (0, 0)) ∧ W0.heap[w.heap.size + 1]? = some (.cells #[.int .i64 0, .int .i64 0, .int .i64 0, .int .i64 0, .int .i64 0, .int .i64 0, .int .i64 0] 23 (0, 0)) ∧ Grow w W0) ⟨(Grow.alloc _ _).block (heap_alloc_new _ _), heap_new' _ _ _ (by simp), (Grow.alloc w _).a _⟩ ?_
  rintro W ⟨rq, r2z, hG⟩
  have hcell : ∀ x, Grow W x → x.cell? ⟨w.heap.size, 0, none⟩ = some (.int .i64 q0) ∧ x.cell? ⟨w.heap.size, 1, none⟩ = some (.int .i64 q1) ∧ x.cell? ⟨w.heap.size, 2, none⟩ = some (.int .i64 q2) ∧ x.cell? ⟨w.heap.size, 3, none⟩ = some (.int .i64 q3) ∧ x.cell? ⟨w.heap.size, 4, none⟩ = some (.int .i64 q4) ∧ x.cell? ⟨w.heap.size, 5, none⟩ = some (.int .i64 q5) ∧ x.cell? ⟨w.heap.size, 6, none⟩ = some (.int .i64 q6) := by
    intro x g
    have rq := g.block rq
    have c0 : x.cell? ⟨w.heap.size, 0, none⟩ = some (.int .i64 q0) := by rw [cell_of_row x _ 0 _ _ _ rq]; rfl
    have c1 : x.cell? ⟨w.heap.size, 1, none⟩ = some (.int .i64 q1) := by rw [cell_of_row x _ 1 _ _ _ rq]; rfl
    have c2 : x.cell? ⟨w.heap.size, 2, none⟩ = some (.int .i64 q2) := by rw [cell_of_row x _ 2 _ _ _ rq]; rfl
    have c3 : x.cell? ⟨w.heap.size, 3, none⟩ = some (.int .i64 q3) := by rw [cell_of_row x _ 3 _ _ _ rq]; rfl
    have c4 : x.cell? ⟨w.heap.size, 4, none⟩ = some (.int .i64 q4) := by rw [cell_of_row x _ 4 _ _ _ rq]; rfl
    have c5 : x.cell? ⟨w.heap.size, 5, none⟩ = some (.int .i64 q5) := by rw [cell_of_row x _ 5 _ _ _ rq]; rfl
    have c6 : x.cell? ⟨w.heap.size, 6, none⟩ = some (.int .i64 q6) := by rw [cell_of_row x _ 6 _ _ _ rq]; rfl
    exact ⟨c0, c1, c2, c3, c4, c5, c6⟩
  have hWs : w.heap.size + 1 < W.heap.size := (Array.getElem?_eq_some_iff.1 r2z).1
  replace hcell := Lib.hid hcell
  replace r2z := Lib.hid r2z
  replace hG := Lib.hid hG
  replace hWs := Lib.hid hWs
  clear rq
  refine wp_region_box1 29 3 23 #[.int .i64 0, .int .i64 0, .int .i64 0, .int .i64 0, .int .i64 0, .int .i64 0, .int .i64 0] (by kernel_rfl) rfl (by kernel_rfl) (by kernel_rfl) new23 ?_
  simp only [lastOp, List.dropLast]
  refine qg_val rfl rfl ?_
  apply Exists.intro
  refine ⟨fun x hx => ?_, ?_⟩
  focus (obtain ⟨c0, c1, c2, c3, c4, c5, c6⟩ := hcell.out x hx; go_simp <;> rfl)
  simp only [Act.put, List.setIfInBounds_toArray, List.set_cons_zero, List.set_cons_succ]
  refine qg_val rfl rfl ?_
  apply Exists.intro
  refine ⟨fun x hx => ?_, ?_⟩
  focus (obtain ⟨c0, c1, c2, c3, c4, c5, c6⟩ := hcell.out x hx; go_simp <;> rfl)
  simp only [Act.put, List.setIfInBounds_toArray, List.set_cons_zero, List.set_cons_succ]
  refine qg_call 41 rfl rfl ?_
  apply Exists.intro
  refine ⟨fun x hx => ?_, ?_⟩
  focus (go_simp <;> rfl)
  apply Exists.intro
  refine ⟨fun x hx => ?_, ?_⟩
  focus (exact (H0.out _).mono fun e w' h => ⟨h.1, h.2 ▸ Grow.refl _⟩)
  simp only [Act.put, List.setIfInBounds_toArray, List.set_cons_zero, List.set_cons_succ]
  refine qg_val rfl rfl ?_
  apply Exists.intro
  refine ⟨fun x hx => ?_, ?_⟩
  focus (obtain ⟨c0, c1, c2, c3, c4, c5, c6⟩ := hcell.out x hx; go_simp <;> rfl)
  simp only [Act.put, List.setIfInBounds_toArray, List.set_cons_zero, List.set_cons_succ]
  refine qg_val rfl rfl ?_
  apply Exists.intro
  refine ⟨fun x hx => ?_, ?_⟩
  focus (obtain ⟨c0, c1, c2, c3, c4, c5, c6⟩ := hcell.out x hx; go_simp <;> rfl)
  simp only [Act.put, List.setIfInBounds_toArray, List.set_cons_zero, List.set_cons_succ]
  refine qg_val rfl rfl ?_
  apply Exists.intro
  refine ⟨fun x hx => ?_, ?_⟩
  focus (obtain ⟨c0, c1, c2, c3, c4, c5, c6⟩ := hcell.out x hx; go_simp <;> rfl)
  simp only [Act.put, List.setIfInBounds_toArray, List.set_cons_zero, List.set_cons_succ]
  refine qg_call 41 rfl rfl ?_
  apply Exists.intro
  refine ⟨fun x hx => ?_, ?_⟩
  focus (go_simp <;> rfl)
  apply Exists.intro
  refine ⟨fun x hx => ?_, ?_⟩
  focus (exact (H1.out _).mono fun e w' h => ⟨h.1, h.2 ▸ Grow.refl _⟩)
  simp only [Act.put, List.setIfInBounds_toArray, List.set_cons_zero, List.set_cons_succ]
  refine qg_val rfl rfl ?_
  apply Exists.intro
  refine ⟨fun x hx => ?_, ?_⟩
  focus (obtain ⟨c0, c1, c2, c3, c4, c5, c6⟩ := hcell.out x hx; go_simp <;> rfl)
  simp only [Act.put, List.setIfInBounds_toArray, List.set_cons_zero, List.set_cons_succ]
  refine qg_val rfl rfl ?_
  apply Exists.intro
  refine ⟨fun x hx => ?_, ?_⟩
  focus (obtain ⟨c0, c1, c2, c3, c4, c5, c6⟩ := hcell.out x hx; go_simp <;> rfl)
  simp only [Act.put, List.setIfInBounds_toArray, List.set_cons_zero, List.set_cons_succ]
  refine qg_val rfl rfl ?_
  apply Exists.intro
  refine ⟨fun x hx => ?_, ?_⟩
  focus (obtain ⟨c0, c1, c2, c3, c4, c5, c6⟩ := hcell.out x hx; go_simp <;> rfl)
  simp only [Act.put, List.setIfInBounds_toArray, List.set_cons_zero, List.set_cons_succ]
  refine qg_call 41 rfl rfl ?_
  apply Exists.intro
  refine ⟨fun x hx => ?_, ?_⟩
  focus (go_simp <;> rfl)
  apply Exists.intro
  refine ⟨fun x hx => ?_, ?_⟩
  focus (exact (H2.out _).mono fun e w' h => ⟨h.1, h.2 ▸ Grow.refl _⟩)
  simp only [Act.put, List.setIfInBounds_toArray, List.set_cons_zero, List.set_cons_succ]
  refine qg_val rfl rfl ?_
  apply Exists.intro
  refine ⟨fun x hx => ?_, ?_⟩
  focus (obtain ⟨c0, c1, c2, c3, c4, c5, c6⟩ := hcell.out x hx; go_simp <;> rfl)
  simp only [Act.put, List.setIfInBounds_toArray, List.set_cons_zero, List.set_cons_succ]
  refine qg_val rfl rfl ?_
  apply Exists.intro
  refine ⟨fun x hx => ?_, ?_⟩
  focus (obtain ⟨c0, c1, c2, c3, c4, c5, c6⟩ := hcell.out x hx; go_simp <;> rfl)
  simp only [Act.put, List.setIfInBounds_toArray, List.set_cons_zero, List.set_cons_succ]
  refine qg_val rfl rfl ?_
  apply Exists.intro
  refine ⟨fun x hx => ?_, ?_⟩
  focus (obtain ⟨c0, c1, c2, c3, c4, c5, c6⟩ := hcell.out x hx; go_simp <;> rfl)
  simp only [Act.put, List.setIfInBounds_toArray, List.set_cons_zero, List.set_cons_succ]
  refine qg_call 41 rfl rfl ?_
  apply Exists.intro
  refine ⟨fun x hx => ?_, ?_⟩
  focus (go_simp <;> rfl)
  apply Exists.intro
  refine ⟨fun x hx => ?_, ?_⟩
  focus (exact (H3.out _).mono fun e w' h => ⟨h.1, h.2 ▸ Grow.refl _⟩)
  simp only [Act.put, List.setIfInBounds_toArray, List.set_cons_zero, List.set_cons_succ]
  refine qg_val rfl rfl ?_
  apply Exists.intro
  refine ⟨fun x hx => ?_, ?_⟩
  focus (obtain ⟨c0, c1, c2, c3, c4, c5, c6⟩ := hcell.out x hx; go_simp <;> rfl)
  simp only [Act.put, List.setIfInBounds_toArray, List.set_cons_zero, List.set_cons_succ]
  refine qg_val rfl rfl ?_
  apply Exists.intro
  refine ⟨fun x hx => ?_, ?_⟩
  focus (obtain ⟨c0, c1, c2, c3, c4, c5, c6⟩ := hcell.out x hx; go_simp <;> rfl)
  simp only [Act.put, List.setIfInBounds_toArray, List.set_cons_zero, List.set_cons_succ]
  refine qg_val rfl rfl ?_
  apply Exists.intro
  refine ⟨fun x hx => ?_, ?_⟩
  focus (obtain ⟨c0, c1, c2, c3, c4, c5, c6⟩ := hcell.out x hx; go_simp <;> rfl)
  simp only [Act.put, List.setIfInBounds_toArray, List.set_cons_zero, List.set_cons_succ]
  refine qg_call 41 rfl rfl ?_
  apply Exists.intro
  refine ⟨fun x hx => ?_, ?_⟩
  focus (go_simp <;> rfl)
  apply Exists.intro
  refine ⟨fun x hx => ?_, ?_⟩
  focus (exact (H4.out _).mono fun e w' h => ⟨h.1, h.2 ▸ Grow.refl _⟩)
  simp only [Act.put, List.setIfInBounds_toArray, List.set_cons_zero, List.set_cons_succ]
  refine qg_val rfl rfl ?_
  apply Exists.intro
  refine ⟨fun x hx => ?_, ?_⟩
  focus (obtain ⟨c0, c1, c2, c3, c4, c5, c6⟩ := hcell.out x hx; go_simp <;> rfl)
  simp only [Act.put, List.setIfInBounds_toArray, List.set_cons_zero, List.set_cons_succ]
  refine qg_val rfl rfl ?_
  apply Exists.intro
  refine ⟨fun x hx => ?_, ?_⟩
  focus (obtain ⟨c0, c1, c2, c3, c4, c5, c6⟩ := hcell.out x hx; go_simp <;> rfl)
  simp only [Act.put, List.setIfInBounds_toArray, List.set_cons_zero, List.set_cons_succ]
  refine qg_val rfl rfl ?_
  apply Exists.intro
  refine ⟨fun x hx => ?_, ?_⟩
  focus (obtain ⟨c0, c1, c2, c3, c4, c5, c6⟩ := hcell.out x hx; go_simp <;> rfl)
  simp only [Act.put, List.setIfInBounds_toArray, List.set_cons_zero, List.set_cons_succ]
  refine qg_call 41 rfl rfl ?_
  apply Exists.intro
  refine ⟨fun x hx => ?_, ?_⟩
  focus (go_simp <;> rfl)
  apply Exists.intro
  refine ⟨fun x hx => ?_, ?_⟩
  focus (exact (H5.out _).mono fun e w' h => ⟨h.1, h.2 ▸ Grow.refl _⟩)
  simp only [Act.put, List.setIfInBounds_toArray, List.set_cons_zero, List.set_cons_succ]
  refine qg_val rfl rfl ?_
  apply Exists.intro
  refine ⟨fun x hx => ?_, ?_⟩
  focus (obtain ⟨c0, c1, c2, c3, c4, c5, c6⟩ := hcell.out x hx; go_simp <;> rfl)
  simp only [Act.put, List.setIfInBounds_toArray, List.set_cons_zero, List.set_cons_succ]
  refine qg_val rfl rfl ?_
  apply Exists.intro
  refine ⟨fun x hx => ?_, ?_⟩
  focus (obtain ⟨c0, c1, c2, c3, c4, c5, c6⟩ := hcell.out x hx; go_simp <;> rfl)
  simp only [Act.put, List.setIfInBounds_toArray, List.set_cons_zero, List.set_cons_succ]
  refine qg_val rfl rfl ?_
  apply Exists.intro
  refine ⟨fun x hx => ?_, ?_⟩
  focus (obtain ⟨c0, c1, c2, c3, c4, c5, c6⟩ := hcell.out x hx; go_simp <;> rfl)
  simp only [Act.put, List.setIfInBounds_toArray, List.set_cons_zero, List.set_cons_succ]
  refine qg_call 41 rfl rfl ?_
  apply Exists.intro
  refine ⟨fun x hx => ?_, ?_⟩
  focus (go_simp <;> rfl)
  apply Exists.intro
  refine ⟨fun x hx => ?_, ?_⟩
  focus (exact (H6.out _).mono fun e w' h => ⟨h.1, h.2 ▸ Grow.refl _⟩)
  simp only [Act.put, List.setIfInBounds_toArray, List.set_cons_zero, List.set_cons_succ]
  refine qg_val rfl rfl ?_
  apply Exists.intro
  refine ⟨fun x hx => ?_, ?_⟩
  focus (obtain ⟨c0, c1, c2, c3, c4, c5, c6⟩ := hcell.out x hx; go_simp <;> rfl)
  simp only [Act.put, List.setIfInBounds_toArray, List.set_cons_zero, List.set_cons_succ]
  refine qg_val rfl rfl ?_
  apply Exists.intro
  refine ⟨fun x hx => ?_, ?_⟩
  focus (obtain ⟨c0, c1, c2, c3, c4, c5, c6⟩ := hcell.out x hx; go_simp <;> rfl)
  simp only [Act.put, List.setIfInBounds_toArray, List.set_cons_zero, List.set_cons_succ]
  refine qg_new rfl ?_
  simp only [Act.put, List.setIfInBounds_toArray, List.set_cons_zero, List.set_cons_succ]
  refine qg_nil ?_
  intro b x hx hb hblk
  replace hx : Grow W x := hx
  unfold Oper.wp
  rw [run_st23 b _ _ _ _ _ _ _ _ _ _ _ _ _ _ rfl rfl rfl hblk]
  have hbW : w.heap.size + 1 < b := Nat.lt_of_lt_of_le hWs.out hb
  have hst : ∀ X : World, X = (((((((x.setCell ⟨b, 0, none⟩ (.int .i64 (r0 - 4))).setCell ⟨b, 1, none⟩ (.int .i64 (r1 - 4))).setCell ⟨b, 2, none⟩ (.int .i64 (r2 - 20))).setCell ⟨b, 3, none⟩ (.int .i64 (r3 - 4))).setCell ⟨b, 4, none⟩ (.int .i64 (r4 - 4))).setCell ⟨b, 5, none⟩ (.int .i64 (r5 - 20))).setCell ⟨b, 6, none⟩ (.int .i64 (1 + r6))) → X.heap[b]? = some (.cells #[.int .i64 s.A, .int .i64 s.B, .int .i64 s.C, .int .i64 s.D, .int .i64 s.E, .int .i64 s.F, .int .i64 s.N] 23 (0, 0)) ∧ X.heap[w.heap.size + 1]? = some (.cells #[.int .i64 0, .int .i64 0, .int .i64 0, .int .i64 0, .int .i64 0, .int .i64 0, .int .i64 0] 23 (0, 0)) ∧ Grow w X := by
    rintro X rfl
    refine ⟨by rw [p0.out, p1.out, p2.out, p3.out, p4.out, p5.out, p6.out]; exact cells7 hblk _ _ _ _ _ _ _, (other7 (by omega) _ _ _ _ _ _ _).trans (hx.block r2z.out), grow7 (hG.out.trans hx) (by omega) _ _ _ _ _ _ _⟩
  replace hst := Lib.hid hst
  replace hbW := Lib.hid hbW
  clear hcell r2z hG hWs p0 p1 p2 p3 p4 p5 p6 hx hb hblk e0 e1 e2 e3 e4 e5 e6
  go_upto_region 2 with fail
  refine wp_gen (fun X => X.heap[b]? = some (.cells #[.int .i64 s.A, .int .i64 s.B, .int .i64 s.C, .int .i64 s.D, .int .i64 s.E, .int .i64 s.F, .int .i64 s.N] 23 (0, 0)) ∧ X.heap[w.heap.size + 1]? = some (.cells #[.int .i64 0, .int .i64 0, .int .i64 0, .int .i64 0, .int .i64 0, .int .i64 0, .int .i64 0] 23 (0, 0)) ∧ Grow w X) (hst.out _ rfl) ?_
  clear hst
  rintro V ⟨rb, rz, hG⟩
  have c0 : V.cell? ⟨b, 0, none⟩ = some (.int .i64 s.A) := by rw [cell_of_row V _ 0 _ _ _ rb]; rfl
  have c1 : V.cell? ⟨b, 1, none⟩ = some (.int .i64 s.B) := by rw [cell_of_row V _ 1 _ _ _ rb]; rfl
  have c2 : V.cell? ⟨b, 2, none⟩ = some (.int .i64 s.C) := by rw [cell_of_row V _ 2 _ _ _ rb]; rfl
  have c3 : V.cell? ⟨b, 3, none⟩ = some (.int .i64 s.D) := by rw [cell_of_row V _ 3 _ _ _ rb]; rfl
  have c4 : V.cell? ⟨b, 4, none⟩ = some (.int .i64 s.E) := by rw [cell_of_row V _ 4 _ _ _ rb]; rfl
  have c5 : V.cell? ⟨b, 5, none⟩ = some (.int .i64 s.F) := by rw [cell_of_row V _ 5 _ _ _ rb]; rfl
  have c6 : V.cell? ⟨b, 6, none⟩ = some (.int .i64 s.N) := by rw [cell_of_row V _ 6 _ _ _ rb]; rfl
  replace hG := Lib.hid hG
  replace rb := Lib.hid rb
  replace rz := Lib.hid rz
  go_wp2_with fail
  refine (HD.out _).mono ?_
  rintro e y ⟨rfl, g⟩
  replace rb := g.block rb.out
  replace rz := g.block rz.out
  replace hG := Lib.hid (hG.out.trans g)
  clear g HD c0 c1 c2 c3 c4 c5 c6
  have c0 : y.cell? ⟨b, 0, none⟩ = some (.int .i64 s.A) := by rw [cell_of_row y _ 0 _ _ _ rb]; rfl
  have c1 : y.cell? ⟨b, 1, none⟩ = some (.int .i64 s.B) := by rw [cell_of_row y _ 1 _ _ _ rb]; rfl
  have c2 : y.cell? ⟨b, 2, none⟩ = some (.int .i64 s.C) := by rw [cell_of_row y _ 2 _ _ _ rb]; rfl
  have c3 : y.cell? ⟨b, 3, none⟩ = some (.int .i64 s.D) := by rw [cell_of_row y _ 3 _ _ _ rb]; rfl
  have c4 : y.cell? ⟨b, 4, none⟩ = some (.int .i64 s.E) := by rw [cell_of_row y _ 4 _ _ _ rb]; rfl
  have c5 : y.cell? ⟨b, 5, none⟩ = some (.int .i64 s.F) := by rw [cell_of_row y _ 5 _ _ _ rb]; rfl
  have c6 : y.cell? ⟨b, 6, none⟩ = some (.int .i64 s.N) := by rw [cell_of_row y _ 6 _ _ _ rb]; rfl
  have fc0 := frozen_of_row y (b) 0 _ _ rb
  have fc1 := frozen_of_row y (b) 1 _ _ rb
  have fc2 := frozen_of_row y (b) 2 _ _ rb
  have fc3 := frozen_of_row y (b) 3 _ _ rb
  have fc4 := frozen_of_row y (b) 4 _ _ rb
  have fc5 := frozen_of_row y (b) 5 _ _ rb
  have fc6 := frozen_of_row y (b) 6 _ _ rb
  have d0 : y.cell? ⟨w.heap.size + 1, 0, none⟩ = some (.int .i64 0) := by rw [cell_of_row y _ 0 _ _ _ rz]; rfl
  have d1 : y.cell? ⟨w.heap.size + 1, 1, none⟩ = some (.int .i64 0) := by rw [cell_of_row y _ 1 _ _ _ rz]; rfl
  have d2 : y.cell? ⟨w.heap.size + 1, 2, none⟩ = some (.int .i64 0) := by rw [cell_of_row y _ 2 _ _ _ rz]; rfl
  have d3 : y.cell? ⟨w.heap.size + 1, 3, none⟩ = some (.int .i64 0) := by rw [cell_of_row y _ 3 _ _ _ rz]; rfl
  have d4 : y.cell? ⟨w.heap.size + 1, 4, none⟩ = some (.int .i64 0) := by rw [cell_of_row y _ 4 _ _ _ rz]; rfl
  have d5 : y.cell? ⟨w.heap.size + 1, 5, none⟩ = some (.int .i64 0) := by rw [cell_of_row y _ 5 _ _ _ rz]; rfl
  have d6 : y.cell? ⟨w.heap.size + 1, 6, none⟩ = some (.int .i64 0) := by rw [cell_of_row y _ 6 _ _ _ rz]; rfl
  have fd0 := frozen_of_row y (w.heap.size + 1) 0 _ _ rz
  have fd1 := frozen_of_row y (w.heap.size + 1) 1 _ _ rz
  have fd2 := frozen_of_row y (w.heap.size + 1) 2 _ _ rz
  have fd3 := frozen_of_row y (w.heap.size + 1) 3 _ _ rz
  have fd4 := frozen_of_row y (w.heap.size + 1) 4 _ _ rz
  have fd5 := frozen_of_row y (w.heap.size + 1) 5 _ _ rz
  have fd6 := frozen_of_row y (w.heap.size + 1) 6 _ _ rz
  have hne : w.heap.size + 1 ≠ b := by have := hbW.out; omega
  replace rb := Lib.hid rb
  replace rz := Lib.hid rz
  by_cases hd : s.det = 0
  · rw [hd]
    replace hfix := Lib.hid (hfix.out.trans (if_pos hd))
    clear hd
    go_upto_region 6 with fail
    refine wp_gen (fun X => X.heap[b]? = some (.cells #[.int .i64 1, .int .i64 0, .int .i64 s.C, .int .i64 s.D, .int .i64 1, .int .i64 s.F, .int .i64 s.N] 23 (0, 0)) ∧ X.heap[w.heap.size + 1]? = some (.cells #[.int .i64 0, .int .i64 0, .int .i64 0, .int .i64 0, .int .i64 0, .int .i64 0, .int .i64 0] 23 (0, 0)) ∧ Grow w X) ⟨(heap_setCell_same _ _ _ _ _ _ (heap_setCell_same _ _ _ _ _ _ (heap_setCell_same _ _ _ _ _ _ rb.out))).trans rfl, ?_, ?_⟩ ?_
    · rw [heap_setCell_other _ _ _ _ hne, heap_setCell_other _ _ _ _ hne, heap_setCell_other _ _ _ _ hne]; exact rz.out
    · exact ((hG.out.s (p := ⟨b, 0, none⟩) (by have := hbW.out; show w.heap.size ≤ b; omega) _).s (p := ⟨b, 4, none⟩) (by have := hbW.out; show w.heap.size ≤ b; omega) _).s (p := ⟨b, 1, none⟩) (by have := hbW.out; show w.heap.size ≤ b; omega) _
    clear c0 c1 c2 c3 c4 c5 c6 fc0 fc1 fc2 fc3 fc4 fc5 fc6 d0 d1 d2 d3 d4 d5 d6 fd0 fd1 fd2 fd3 fd4 fd5 fd6 rb rz hG
    rintro V ⟨rb, rz, hG⟩
    have c0 : V.cell? ⟨b, 0, none⟩ = some (.int .i64 1) := by rw [cell_of_row V _ 0 _ _ _ rb]; rfl
    have c1 : V.cell? ⟨b, 1, none⟩ = some (.int .i64 0) := by rw [cell_of_row V _ 1 _ _ _ rb]; rfl
    have c2 : V.cell? ⟨b, 2, none⟩ = some (.int .i64 s.C) := by rw [cell_of_row V _ 2 _ _ _ rb]; rfl
    have c3 : V.cell? ⟨b, 3, none⟩ = some (.int .i64 s.D) := by rw [cell_of_row V _ 3 _ _ _ rb]; rfl
    have c4 : V.cell? ⟨b, 4, none⟩ = some (.int .i64 1) := by rw [cell_of_row V _ 4 _ _ _ rb]; rfl
    have c5 : V.cell? ⟨b, 5, none⟩ = some (.int .i64 s.F) := by rw [cell_of_row V _ 5 _ _ _ rb]; rfl
    have c6 : V.cell? ⟨b, 6, none⟩ = some (.int .i64 s.N) := by rw [cell_of_row V _ 6 _ _ _ rb]; rfl
    have d0 : V.cell? ⟨w.heap.size + 1, 0, none⟩ = some (.int .i64 0) := by rw [cell_of_row V _ 0 _ _ _ rz]; rfl
    have d1 : V.cell? ⟨w.heap.size + 1, 1, none⟩ = some (.int .i64 0) := by rw [cell_of_row V _ 1 _ _ _ rz]; rfl
    have d2 : V.cell? ⟨w.heap.size + 1, 2, none⟩ = some (.int .i64 0) := by rw [cell_of_row V _ 2 _ _ _ rz]; rfl
    have d3 : V.cell? ⟨w.heap.size + 1, 3, none⟩ = some (.int .i64 0) := by rw [cell_of_row V _ 3 _ _ _ rz]; rfl
    have d4 : V.cell? ⟨w.heap.size + 1, 4, none⟩ = some (.int .i64 0) := by rw [cell_of_row V _ 4 _ _ _ rz]; rfl
    have d5 : V.cell? ⟨w.heap.size + 1, 5, none⟩ = some (.int .i64 0) := by rw [cell_of_row V _ 5 _ _ _ rz]; rfl
    have d6 : V.cell? ⟨w.heap.size + 1, 6, none⟩ = some (.int .i64 0) := by rw [cell_of_row V _ 6 _ _ _ rz]; rfl
    have fd0 := frozen_of_row V (w.heap.size + 1) 0 _ _ rz
    have fd1 := frozen_of_row V (w.heap.size + 1) 1 _ _ rz
    have fd2 := frozen_of_row V (w.heap.size + 1) 2 _ _ rz
    have fd3 := frozen_of_row V (w.heap.size + 1) 3 _ _ rz
    have fd4 := frozen_of_row V (w.heap.size + 1) 4 _ _ rz
    have fd5 := frozen_of_row V (w.heap.size + 1) 5 _ _ rz
    have fd6 := frozen_of_row V (w.heap.size + 1) 6 _ _ rz
    replace rb := Lib.hid rb
    replace rz := Lib.hid rz
    replace hG := Lib.hid hG
    go_wp2
    refine bodyPost_ret (results_cell23 rfl _ (w.heap.size + 1) _ _ _ _ _ _ _ _ rfl (cells7 rz.out _ _ _ _ _ _ _)) rfl ⟨by rw [hfix.out], grow7 hG.out (by omega) _ _ _ _ _ _ _⟩
  · have hdb : (s.det == 0) = false := by simpa using hd
    replace hfix := Lib.hid (hfix.out.trans (if_neg hd))
    clear hd
    go_wp2
    refine bodyPost_ret (results_cell23 rfl _ (w.heap.size + 1) _ _ _ _ _ _ _ _ rfl (cells7 rz.out _ _ _ _ _ _ _)) rfl ⟨by rw [hfix.out], grow7 hG.out (by omega) _ _ _ _ _ _ _⟩
end Go.Proofs.Ytmfmnoajihiidaa
