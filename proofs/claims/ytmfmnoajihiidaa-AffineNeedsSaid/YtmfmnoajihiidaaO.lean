/- Walk of over. Printed by genO.py. -/
import Derived.Test.YtmfmnoajihiidaaU
set_option linter.unusedVariables false
namespace Go.Proofs.Ytmfmnoajihiidaa
open Go.RowKit
def ovr (a : Af) (r q : Rct.R) : Rct.R × Int := if a.val then (if Rct.emp r then (Rct.R.zero, 0) else if Rct.valid r then (q, 0) else (Rct.R.zero, 1)) else (Rct.R.zero, 1)
/-- What a function that over calls does. -/
structure CbO (fn : Nat) (cap : Array Value) (q : Rct.R) (w : World) : Prop where
  enters : ∀ args w, (callFunc fn args).run Try.prog w = .ok (.enter fn args) w
  call : ∀ x, Grow w x → Calls Try.prog fn cap x fun e x' => e = .returned (.agg #[.int .i64 q.x0, .int .i64 q.y0, .int .i64 q.x1, .int .i64 q.y1]) ∧ Grow x x'
set_option maxRecDepth 100000 in
set_option maxHeartbeats 4000000 in
theorem over_any (a : Af) (r q : Rct.R) (fn : Nat) (cap : Array Value) (w : World) (H : Hid (a.val = true → Rct.emp r = false → Rct.valid r = true → CbO fn cap q w)) :
    Calls Try.prog 48 #[.agg #[.int .i64 a.A, .int .i64 a.B, .int .i64 a.C, .int .i64 a.D, .int .i64 a.E, .int .i64 a.F, .int .i64 a.N], .agg #[.int .i64 r.x0, .int .i64 r.y0, .int .i64 r.x1, .int .i64 r.y1], .func (.func fn) #[] cap] w fun e w' => e = .returned (.tuple #[.agg #[.int .i64 (ovr a r q).1.x0, .int .i64 (ovr a r q).1.y0, .int .i64 (ovr a r q).1.x1, .int .i64 (ovr a r q).1.y1], .int .i64 (ovr a r q).2]) ∧ Grow w w' := by
  have HA := Lib.hid (valid_any a.A a.B a.C a.D a.E a.F a.N)
  rw [show Af.mk a.A a.B a.C a.D a.E a.F a.N = a from rfl] at HA
  have HE := Lib.hid (Rct.empty_any r.x0 r.y0 r.x1 r.y1)
  have HV := Lib.hid (Rct.valid_any r.x0 r.y0 r.x1 r.y1)
  rw [show Rct.R.mk r.x0 r.y0 r.x1 r.y1 = r from rfl] at HE HV
  have hc : ovr a r q = if a.val then (if Rct.emp r then (Rct.R.zero, 0) else if Rct.valid r then (q, 0) else (Rct.R.zero, 1)) else (Rct.R.zero, 1) := rfl
  generalize ovr a r q = oo at *
  generalize a.val = va at *
  generalize Rct.emp r = em at *
  generalize Rct.valid r = vr at *
  replace hc := Lib.hid hc
  go_enter Try.func48, Try.ntmps48
  go_upto_region 1 with fail
  refine wp_gen (fun W0 => W0.heap[w.heap.size]? = some (.cells #[.int .i64 a.A, .int .i64 a.B, .int .i64 a.C, .int .i64 a.D, .int .i64 a.E, .int .i64 a.F, .int .i64 a.N] 23 (0, 0)) ∧ W0.heap[w.heap.size + 1]? = some (.cells #[.int .i64 r.x0, .int .i64 r.y0, .int .i64 r.x1, .int .i64 r.y1] 48 (0, 0)) ∧ W0.heap[w.heap.size + 2]? = some (.cells #[.int .i64 0, .int .i64 0, .int .i64 0, .int .i64 0] 48 (0, 0)) ∧ Grow w W0) ⟨(Grow.alloc _ _).block ((Grow.alloc _ _).block (heap_alloc_new _ _)), (Grow.alloc _ _).block (heap_new' _ _ _ (by simp)), heap_new' _ _ _ (by simp), ((Grow.alloc w _).a _).a _⟩ ?_
  rintro W ⟨r1, r2, r3, hG⟩
  replace hG := Lib.hid hG
  have c0 : W.cell? ⟨w.heap.size, 0, none⟩ = some (.int .i64 a.A) := by rw [cell_of_row W _ 0 _ _ _ r1]; rfl
  have c1 : W.cell? ⟨w.heap.size, 1, none⟩ = some (.int .i64 a.B) := by rw [cell_of_row W _ 1 _ _ _ r1]; rfl
  have c2 : W.cell? ⟨w.heap.size, 2, none⟩ = some (.int .i64 a.C) := by rw [cell_of_row W _ 2 _ _ _ r1]; rfl
  have c3 : W.cell? ⟨w.heap.size, 3, none⟩ = some (.int .i64 a.D) := by rw [cell_of_row W _ 3 _ _ _ r1]; rfl
  have c4 : W.cell? ⟨w.heap.size, 4, none⟩ = some (.int .i64 a.E) := by rw [cell_of_row W _ 4 _ _ _ r1]; rfl
  have c5 : W.cell? ⟨w.heap.size, 5, none⟩ = some (.int .i64 a.F) := by rw [cell_of_row W _ 5 _ _ _ r1]; rfl
  have c6 : W.cell? ⟨w.heap.size, 6, none⟩ = some (.int .i64 a.N) := by rw [cell_of_row W _ 6 _ _ _ r1]; rfl
  replace r1 := Lib.hid r1
  replace r2 := Lib.hid r2
  replace r3 := Lib.hid r3
  go_wp2_with fail
  refine (HA.out _).mono ?_
  rintro e x ⟨rfl, g⟩
  replace r1 := g.block r1.out
  replace r2 := g.block r2.out
  replace r3 := g.block r3.out
  replace hG := Lib.hid (hG.out.trans g)
  clear g c0 c1 c2 c3 c4 c5 c6
  cases va with
  | false =>
    have d0 : x.cell? ⟨w.heap.size + 2, 0, none⟩ = some (.int .i64 0) := by rw [cell_of_row x _ 0 _ _ _ r3]; rfl
    have d1 : x.cell? ⟨w.heap.size + 2, 1, none⟩ = some (.int .i64 0) := by rw [cell_of_row x _ 1 _ _ _ r3]; rfl
    have d2 : x.cell? ⟨w.heap.size + 2, 2, none⟩ = some (.int .i64 0) := by rw [cell_of_row x _ 2 _ _ _ r3]; rfl
    have d3 : x.cell? ⟨w.heap.size + 2, 3, none⟩ = some (.int .i64 0) := by rw [cell_of_row x _ 3 _ _ _ r3]; rfl
    have fd0 := frozen_of_row x (w.heap.size + 2) 0 _ _ r3
    have fd1 := frozen_of_row x (w.heap.size + 2) 1 _ _ r3
    have fd2 := frozen_of_row x (w.heap.size + 2) 2 _ _ r3
    have fd3 := frozen_of_row x (w.heap.size + 2) 3 _ _ r3
    replace r1 := Lib.hid r1
    replace r2 := Lib.hid r2
    replace r3 := Lib.hid r3
    clear HA HE HV H
    go_wp2
    refine bodyPost_ret (results_cell48e rfl _ (w.heap.size + 2) _ _ _ _ _ _ rfl rfl (cells4 r3.out _ _ _ _)) rfl ⟨by rw [hc.out]; rfl, grow4 hG.out (by omega) _ _ _ _⟩
  | true =>
    have k0 : x.cell? ⟨w.heap.size + 1, 0, none⟩ = some (.int .i64 r.x0) := by rw [cell_of_row x _ 0 _ _ _ r2]; rfl
    have k1 : x.cell? ⟨w.heap.size + 1, 1, none⟩ = some (.int .i64 r.y0) := by rw [cell_of_row x _ 1 _ _ _ r2]; rfl
    have k2 : x.cell? ⟨w.heap.size + 1, 2, none⟩ = some (.int .i64 r.x1) := by rw [cell_of_row x _ 2 _ _ _ r2]; rfl
    have k3 : x.cell? ⟨w.heap.size + 1, 3, none⟩ = some (.int .i64 r.y1) := by rw [cell_of_row x _ 3 _ _ _ r2]; rfl
    replace r1 := Lib.hid r1
    replace r2 := Lib.hid r2
    replace r3 := Lib.hid r3
    cases em with
    | true =>
      go_wp2_with fail
      refine (HE.out _).mono ?_
      rintro e y ⟨rfl, rfl⟩
      have g := Grow.alloc x (.cells #[.int .i64 r.x0, .int .i64 r.y0, .int .i64 r.x1, .int .i64 r.y1] 48)
      replace r1 := g.block r1.out
      replace r2 := g.block r2.out
      replace r3 := g.block r3.out
      replace hG := Lib.hid (hG.out.trans g)
      clear g k0 k1 k2 k3
      have k0 : (x.alloc (.cells #[.int .i64 r.x0, .int .i64 r.y0, .int .i64 r.x1, .int .i64 r.y1] 48)).cell? ⟨w.heap.size + 1, 0, none⟩ = some (.int .i64 r.x0) := by rw [cell_of_row (x.alloc (.cells #[.int .i64 r.x0, .int .i64 r.y0, .int .i64 r.x1, .int .i64 r.y1] 48)) _ 0 _ _ _ r2]; rfl
      have k1 : (x.alloc (.cells #[.int .i64 r.x0, .int .i64 r.y0, .int .i64 r.x1, .int .i64 r.y1] 48)).cell? ⟨w.heap.size + 1, 1, none⟩ = some (.int .i64 r.y0) := by rw [cell_of_row (x.alloc (.cells #[.int .i64 r.x0, .int .i64 r.y0, .int .i64 r.x1, .int .i64 r.y1] 48)) _ 1 _ _ _ r2]; rfl
      have k2 : (x.alloc (.cells #[.int .i64 r.x0, .int .i64 r.y0, .int .i64 r.x1, .int .i64 r.y1] 48)).cell? ⟨w.heap.size + 1, 2, none⟩ = some (.int .i64 r.x1) := by rw [cell_of_row (x.alloc (.cells #[.int .i64 r.x0, .int .i64 r.y0, .int .i64 r.x1, .int .i64 r.y1] 48)) _ 2 _ _ _ r2]; rfl
      have k3 : (x.alloc (.cells #[.int .i64 r.x0, .int .i64 r.y0, .int .i64 r.x1, .int .i64 r.y1] 48)).cell? ⟨w.heap.size + 1, 3, none⟩ = some (.int .i64 r.y1) := by rw [cell_of_row (x.alloc (.cells #[.int .i64 r.x0, .int .i64 r.y0, .int .i64 r.x1, .int .i64 r.y1] 48)) _ 3 _ _ _ r2]; rfl
      replace r1 := Lib.hid r1
      replace r2 := Lib.hid r2
      replace r3 := Lib.hid r3
      go_wp2_with fail
      refine (HE.out _).mono ?_
      rintro e y ⟨rfl, rfl⟩
      have g := Grow.alloc (x.alloc (.cells #[.int .i64 r.x0, .int .i64 r.y0, .int .i64 r.x1, .int .i64 r.y1] 48)) (.cells #[.int .i64 r.x0, .int .i64 r.y0, .int .i64 r.x1, .int .i64 r.y1] 48)
      replace r1 := g.block r1.out
      replace r2 := g.block r2.out
      replace r3 := g.block r3.out
      replace hG := Lib.hid (hG.out.trans g)
      clear g k0 k1 k2 k3
      have d0 : ((x.alloc (.cells #[.int .i64 r.x0, .int .i64 r.y0, .int .i64 r.x1, .int .i64 r.y1] 48)).alloc (.cells #[.int .i64 r.x0, .int .i64 r.y0, .int .i64 r.x1, .int .i64 r.y1] 48)).cell? ⟨w.heap.size + 2, 0, none⟩ = some (.int .i64 0) := by rw [cell_of_row ((x.alloc (.cells #[.int .i64 r.x0, .int .i64 r.y0, .int .i64 r.x1, .int .i64 r.y1] 48)).alloc (.cells #[.int .i64 r.x0, .int .i64 r.y0, .int .i64 r.x1, .int .i64 r.y1] 48)) _ 0 _ _ _ r3]; rfl
      have d1 : ((x.alloc (.cells #[.int .i64 r.x0, .int .i64 r.y0, .int .i64 r.x1, .int .i64 r.y1] 48)).alloc (.cells #[.int .i64 r.x0, .int .i64 r.y0, .int .i64 r.x1, .int .i64 r.y1] 48)).cell? ⟨w.heap.size + 2, 1, none⟩ = some (.int .i64 0) := by rw [cell_of_row ((x.alloc (.cells #[.int .i64 r.x0, .int .i64 r.y0, .int .i64 r.x1, .int .i64 r.y1] 48)).alloc (.cells #[.int .i64 r.x0, .int .i64 r.y0, .int .i64 r.x1, .int .i64 r.y1] 48)) _ 1 _ _ _ r3]; rfl
      have d2 : ((x.alloc (.cells #[.int .i64 r.x0, .int .i64 r.y0, .int .i64 r.x1, .int .i64 r.y1] 48)).alloc (.cells #[.int .i64 r.x0, .int .i64 r.y0, .int .i64 r.x1, .int .i64 r.y1] 48)).cell? ⟨w.heap.size + 2, 2, none⟩ = some (.int .i64 0) := by rw [cell_of_row ((x.alloc (.cells #[.int .i64 r.x0, .int .i64 r.y0, .int .i64 r.x1, .int .i64 r.y1] 48)).alloc (.cells #[.int .i64 r.x0, .int .i64 r.y0, .int .i64 r.x1, .int .i64 r.y1] 48)) _ 2 _ _ _ r3]; rfl
      have d3 : ((x.alloc (.cells #[.int .i64 r.x0, .int .i64 r.y0, .int .i64 r.x1, .int .i64 r.y1] 48)).alloc (.cells #[.int .i64 r.x0, .int .i64 r.y0, .int .i64 r.x1, .int .i64 r.y1] 48)).cell? ⟨w.heap.size + 2, 3, none⟩ = some (.int .i64 0) := by rw [cell_of_row ((x.alloc (.cells #[.int .i64 r.x0, .int .i64 r.y0, .int .i64 r.x1, .int .i64 r.y1] 48)).alloc (.cells #[.int .i64 r.x0, .int .i64 r.y0, .int .i64 r.x1, .int .i64 r.y1] 48)) _ 3 _ _ _ r3]; rfl
      have fd0 := frozen_of_row ((x.alloc (.cells #[.int .i64 r.x0, .int .i64 r.y0, .int .i64 r.x1, .int .i64 r.y1] 48)).alloc (.cells #[.int .i64 r.x0, .int .i64 r.y0, .int .i64 r.x1, .int .i64 r.y1] 48)) (w.heap.size + 2) 0 _ _ r3
      have fd1 := frozen_of_row ((x.alloc (.cells #[.int .i64 r.x0, .int .i64 r.y0, .int .i64 r.x1, .int .i64 r.y1] 48)).alloc (.cells #[.int .i64 r.x0, .int .i64 r.y0, .int .i64 r.x1, .int .i64 r.y1] 48)) (w.heap.size + 2) 1 _ _ r3
      have fd2 := frozen_of_row ((x.alloc (.cells #[.int .i64 r.x0, .int .i64 r.y0, .int .i64 r.x1, .int .i64 r.y1] 48)).alloc (.cells #[.int .i64 r.x0, .int .i64 r.y0, .int .i64 r.x1, .int .i64 r.y1] 48)) (w.heap.size + 2) 2 _ _ r3
      have fd3 := frozen_of_row ((x.alloc (.cells #[.int .i64 r.x0, .int .i64 r.y0, .int .i64 r.x1, .int .i64 r.y1] 48)).alloc (.cells #[.int .i64 r.x0, .int .i64 r.y0, .int .i64 r.x1, .int .i64 r.y1] 48)) (w.heap.size + 2) 3 _ _ r3
      replace r1 := Lib.hid r1
      replace r2 := Lib.hid r2
      replace r3 := Lib.hid r3
      clear HA HE HV H
      go_wp2
      refine bodyPost_ret (results_cell48e rfl _ (w.heap.size + 2) _ _ _ _ _ _ rfl rfl (cells4 r3.out _ _ _ _)) rfl ⟨by rw [hc.out]; rfl, grow4 hG.out (by omega) _ _ _ _⟩
    | false =>
      go_wp2_with fail
      refine (HE.out _).mono ?_
      rintro e y ⟨rfl, rfl⟩
      have g := Grow.alloc x (.cells #[.int .i64 r.x0, .int .i64 r.y0, .int .i64 r.x1, .int .i64 r.y1] 48)
      replace r1 := g.block r1.out
      replace r2 := g.block r2.out
      replace r3 := g.block r3.out
      replace hG := Lib.hid (hG.out.trans g)
      clear g k0 k1 k2 k3
      have k0 : (x.alloc (.cells #[.int .i64 r.x0, .int .i64 r.y0, .int .i64 r.x1, .int .i64 r.y1] 48)).cell? ⟨w.heap.size + 1, 0, none⟩ = some (.int .i64 r.x0) := by rw [cell_of_row (x.alloc (.cells #[.int .i64 r.x0, .int .i64 r.y0, .int .i64 r.x1, .int .i64 r.y1] 48)) _ 0 _ _ _ r2]; rfl
      have k1 : (x.alloc (.cells #[.int .i64 r.x0, .int .i64 r.y0, .int .i64 r.x1, .int .i64 r.y1] 48)).cell? ⟨w.heap.size + 1, 1, none⟩ = some (.int .i64 r.y0) := by rw [cell_of_row (x.alloc (.cells #[.int .i64 r.x0, .int .i64 r.y0, .int .i64 r.x1, .int .i64 r.y1] 48)) _ 1 _ _ _ r2]; rfl
      have k2 : (x.alloc (.cells #[.int .i64 r.x0, .int .i64 r.y0, .int .i64 r.x1, .int .i64 r.y1] 48)).cell? ⟨w.heap.size + 1, 2, none⟩ = some (.int .i64 r.x1) := by rw [cell_of_row (x.alloc (.cells #[.int .i64 r.x0, .int .i64 r.y0, .int .i64 r.x1, .int .i64 r.y1] 48)) _ 2 _ _ _ r2]; rfl
      have k3 : (x.alloc (.cells #[.int .i64 r.x0, .int .i64 r.y0, .int .i64 r.x1, .int .i64 r.y1] 48)).cell? ⟨w.heap.size + 1, 3, none⟩ = some (.int .i64 r.y1) := by rw [cell_of_row (x.alloc (.cells #[.int .i64 r.x0, .int .i64 r.y0, .int .i64 r.x1, .int .i64 r.y1] 48)) _ 3 _ _ _ r2]; rfl
      replace r1 := Lib.hid r1
      replace r2 := Lib.hid r2
      replace r3 := Lib.hid r3
      go_wp2_with fail
      refine (HV.out _).mono ?_
      rintro e y ⟨rfl, g⟩
      replace g : Grow _ _ := g
      replace r1 := g.block r1.out
      replace r2 := g.block r2.out
      replace r3 := g.block r3.out
      replace hG := Lib.hid (hG.out.trans g)
      clear g k0 k1 k2 k3
      cases vr with
      | false =>
        have d0 : y.cell? ⟨w.heap.size + 2, 0, none⟩ = some (.int .i64 0) := by rw [cell_of_row y _ 0 _ _ _ r3]; rfl
        have d1 : y.cell? ⟨w.heap.size + 2, 1, none⟩ = some (.int .i64 0) := by rw [cell_of_row y _ 1 _ _ _ r3]; rfl
        have d2 : y.cell? ⟨w.heap.size + 2, 2, none⟩ = some (.int .i64 0) := by rw [cell_of_row y _ 2 _ _ _ r3]; rfl
        have d3 : y.cell? ⟨w.heap.size + 2, 3, none⟩ = some (.int .i64 0) := by rw [cell_of_row y _ 3 _ _ _ r3]; rfl
        have fd0 := frozen_of_row y (w.heap.size + 2) 0 _ _ r3
        have fd1 := frozen_of_row y (w.heap.size + 2) 1 _ _ r3
        have fd2 := frozen_of_row y (w.heap.size + 2) 2 _ _ r3
        have fd3 := frozen_of_row y (w.heap.size + 2) 3 _ _ r3
        replace r1 := Lib.hid r1
        replace r2 := Lib.hid r2
        replace r3 := Lib.hid r3
        clear HA HE HV H
        go_wp2
        refine bodyPost_ret (results_cell48e rfl _ (w.heap.size + 2) _ _ _ _ _ _ rfl rfl (cells4 r3.out _ _ _ _)) rfl ⟨by rw [hc.out]; rfl, grow4 hG.out (by omega) _ _ _ _⟩
      | true =>
        have k0 : y.cell? ⟨w.heap.size + 1, 0, none⟩ = some (.int .i64 r.x0) := by rw [cell_of_row y _ 0 _ _ _ r2]; rfl
        have k1 : y.cell? ⟨w.heap.size + 1, 1, none⟩ = some (.int .i64 r.y0) := by rw [cell_of_row y _ 1 _ _ _ r2]; rfl
        have k2 : y.cell? ⟨w.heap.size + 1, 2, none⟩ = some (.int .i64 r.x1) := by rw [cell_of_row y _ 2 _ _ _ r2]; rfl
        have k3 : y.cell? ⟨w.heap.size + 1, 3, none⟩ = some (.int .i64 r.y1) := by rw [cell_of_row y _ 3 _ _ _ r2]; rfl
        replace r1 := Lib.hid r1
        replace r2 := Lib.hid r2
        replace r3 := Lib.hid r3
        go_wp2_with fail
        refine (HE.out _).mono ?_
        rintro e z ⟨rfl, rfl⟩
        have g := Grow.alloc y (.cells #[.int .i64 r.x0, .int .i64 r.y0, .int .i64 r.x1, .int .i64 r.y1] 48)
        replace r1 := g.block r1.out
        replace r2 := g.block r2.out
        replace r3 := g.block r3.out
        replace hG := Lib.hid (hG.out.trans g)
        clear g k0 k1 k2 k3
        replace r1 := Lib.hid r1
        replace r2 := Lib.hid r2
        replace r3 := Lib.hid r3
        have hen := Lib.hid (H.out (by trivial) (by trivial) (by trivial)).enters
        have hcl := Lib.hid (H.out (by trivial) (by trivial) (by trivial)).call
        clear H
        go_wp2_with fail
        rw [hen.out, Oper.upon_enter]
        refine (hcl.out _ hG.out).mono ?_
        rintro e v ⟨rfl, g⟩
        replace r3 := g.block r3.out
        replace hG := Lib.hid (hG.out.trans g)
        clear g hcl hen
        have d0 : v.cell? ⟨w.heap.size + 2, 0, none⟩ = some (.int .i64 0) := by rw [cell_of_row v _ 0 _ _ _ r3]; rfl
        have d1 : v.cell? ⟨w.heap.size + 2, 1, none⟩ = some (.int .i64 0) := by rw [cell_of_row v _ 1 _ _ _ r3]; rfl
        have d2 : v.cell? ⟨w.heap.size + 2, 2, none⟩ = some (.int .i64 0) := by rw [cell_of_row v _ 2 _ _ _ r3]; rfl
        have d3 : v.cell? ⟨w.heap.size + 2, 3, none⟩ = some (.int .i64 0) := by rw [cell_of_row v _ 3 _ _ _ r3]; rfl
        have fd0 := frozen_of_row v (w.heap.size + 2) 0 _ _ r3
        have fd1 := frozen_of_row v (w.heap.size + 2) 1 _ _ r3
        have fd2 := frozen_of_row v (w.heap.size + 2) 2 _ _ r3
        have fd3 := frozen_of_row v (w.heap.size + 2) 3 _ _ r3
        replace r3 := Lib.hid r3
        go_wp2
        refine bodyPost_ret (results_cell48e rfl _ (w.heap.size + 2) _ _ _ _ _ _ rfl rfl (cells4 r3.out _ _ _ _)) rfl ⟨by rw [hc.out]; rfl, grow4 hG.out (by omega) _ _ _ _⟩
end Go.Proofs.Ytmfmnoajihiidaa
