/- Walk of source. Printed by genS.py. -/
import Derived.Test.YtmfmnoajihiidaaRa
import Derived.Test.YtmfmnoajihiidaaJ5
set_option linter.unusedVariables false
namespace Go.Proofs.Ytmfmnoajihiidaa
open Go.RowKit
namespace Af
def sx (a : Af) (X Y : Int) : Int := a.N * (a.E * (2 * X + 1) - (a.B * (2 * Y + 1))) + (2 * (a.B * a.F - a.E * a.C))
def sy (a : Af) (X Y : Int) : Int := a.N * (a.A * (2 * Y + 1) - (a.D * (2 * X + 1))) + (2 * (a.D * a.C - a.A * a.F))
def srcX (a : Af) (X Y : Int) : Int := Rct.flr (a.sx X Y) (2 * a.det)
def srcY (a : Af) (X Y : Int) : Int := Rct.flr (a.sy X Y) (2 * a.det)
end Af
theorem cells2 {y : World} {g : Nat} {a0 a1 : Value} (h : y.heap[g]? = some (.cells #[a0, a1] 41 (0, 0))) (u0 u1 : Value) :
    ((y.setCell ⟨g, 0, none⟩ u0).setCell ⟨g, 1, none⟩ u1).heap[g]? = some (.cells #[u0, u1] 41 (0, 0)) := by
  rw [heap_setCell_same _ _ _ _ _ _ (heap_setCell_same _ _ _ _ _ _ h)]
  rfl
theorem grow2 {w y : World} {g : Nat} (h : Grow w y) (hg : w.heap.size ≤ g) (u0 u1 : Value) : Grow w ((y.setCell ⟨g, 0, none⟩ u0).setCell ⟨g, 1, none⟩ u1) := by
  have s : ∀ (z : World) (i : Nat) (v : Value), Below w.heap.size w z → Below w.heap.size w (z.setCell ⟨g, i, none⟩ v) := fun z i v hz => hz.setCell (p := ⟨g, i, none⟩) hg v
  exact s _ _ _ (s _ _ _ h)
theorem other2 {y : World} {g k : Nat} (h : k ≠ g) (u0 u1 : Value) : ((y.setCell ⟨g, 0, none⟩ u0).setCell ⟨g, 1, none⟩ u1).heap[k]? = y.heap[k]? := by
  have s : ∀ (z : World) (i : Nat) (v : Value), (z.setCell ⟨g, i, none⟩ v).heap[k]? = z.heap[k]? := fun z i v => heap_setCell_other _ _ _ _ h
  rw [s, s]
theorem results_cell41 {fn : Func} {t : Tmp} (h : fn.results = #[.cell t 41]) (tmps : Array Value) (g : Nat) (a0 a1 : Value) (w : World) (ht : tmps[t]?.getD undef = .pointer (some ⟨g, 0, none⟩)) (hl : w.heap[g]? = some (.cells #[a0, a1] 41 (0, 0))) :
    (results fn tmps).run Try.prog w = .ok (.agg #[a0, a1]) w := by
  have c0 : w.cell? ⟨g, 0, none⟩ = some a0 := by rw [cell_of_row w _ 0 _ _ _ hl]; rfl
  have c1 : w.cell? ⟨g, 1, none⟩ = some a1 := by rw [cell_of_row w _ 1 _ _ _ hl]; rfl
  simp [results, h, ht, asAddr, loadVar, loadCells, loadCellsFrom, Addr.add, c0, c1]
theorem results_cell41e {fn : Func} {t u : Tmp} (h : fn.results = #[.cell t 41, .tmp u]) (tmps : Array Value) (g : Nat) (a0 a1 v : Value) (w : World) (ht : tmps[t]?.getD undef = .pointer (some ⟨g, 0, none⟩)) (hu : tmps[u]?.getD undef = v) (hl : w.heap[g]? = some (.cells #[a0, a1] 41 (0, 0))) :
    (results fn tmps).run Try.prog w = .ok (.tuple #[.agg #[a0, a1], v]) w := by
  have c0 : w.cell? ⟨g, 0, none⟩ = some a0 := by rw [cell_of_row w _ 0 _ _ _ hl]; rfl
  have c1 : w.cell? ⟨g, 1, none⟩ = some a1 := by rw [cell_of_row w _ 1 _ _ _ hl]; rfl
  simp [results, h, ht, hu, asAddr, loadVar, loadCells, loadCellsFrom, Addr.add, c0, c1]
set_option maxRecDepth 100000 in
set_option maxHeartbeats 4000000 in
theorem source_any (a : Af) (hv : a.val = true) (X Y : Int) (hX : -70000 ≤ X ∧ X ≤ 70000) (hY : -70000 ≤ Y ∧ Y ≤ 70000) (w : World) :
    Calls Try.prog 46 #[.agg #[.int .i64 a.A, .int .i64 a.B, .int .i64 a.C, .int .i64 a.D, .int .i64 a.E, .int .i64 a.F, .int .i64 a.N], .agg #[.int .i64 X, .int .i64 Y]] w fun e w' => e = .returned (.agg #[.int .i64 (a.srcX X Y), .int .i64 (a.srcY X Y)]) ∧ Grow w w' := by
  have hdb := Af.det_bd hv
  obtain ⟨p1, p2, p3, p4, p5, p6, p7, p8, -⟩ := a.val_iff.1 hv
  have HD := Lib.hid (det_any a.A a.B a.C a.D a.E a.F a.N p2 p3 p4 p5)
  rw [show Af.mk a.A a.B a.C a.D a.E a.F a.N = a from rfl] at HD
  have hx1 : a.srcX X Y = Rct.flr (a.N * (a.E * (2 * X + 1) - (a.B * (2 * Y + 1))) + (2 * (a.B * a.F - a.E * a.C))) (2 * a.det) := rfl
  have hy1 : a.srcY X Y = Rct.flr (a.N * (a.A * (2 * Y + 1) - (a.D * (2 * X + 1))) + (2 * (a.D * a.C - a.A * a.F))) (2 * a.det) := rfl
  generalize a.srcX X Y = rx at *
  generalize a.srcY X Y = ry at *
  generalize a.det = dd at *
  replace hx1 := Lib.hid hx1
  replace hy1 := Lib.hid hy1
  have e0 : wrap64 (2 * X) = 2 * X := ww64 _ (by omega) (by omega)
  have e1 : wrap64 (2 * X + 1) = 2 * X + 1 := ww64 _ (by omega) (by omega)
  have e2 : wrap64 (2 * Y) = 2 * Y := ww64 _ (by omega) (by omega)
  have e3 : wrap64 (2 * Y + 1) = 2 * Y + 1 := ww64 _ (by omega) (by omega)
  have e4 : wrap64 (2 * dd) = 2 * dd := ww64 _ (by omega) (by omega)
  have m5 : -(4096 * 140001) ≤ (a.E) * (2 * X + 1) ∧ (a.E) * (2 * X + 1) ≤ 4096 * 140001 := Af.mul_bd (by omega) (by omega)
  have e5 : wrap64 (a.E * (2 * X + 1)) = a.E * (2 * X + 1) := ww64 _ (by omega) (by omega)
  have m6 : -(4096 * 140001) ≤ (a.B) * (2 * Y + 1) ∧ (a.B) * (2 * Y + 1) ≤ 4096 * 140001 := Af.mul_bd (by omega) (by omega)
  have e6 : wrap64 (a.B * (2 * Y + 1)) = a.B * (2 * Y + 1) := ww64 _ (by omega) (by omega)
  have e7 : wrap64 (a.E * (2 * X + 1) - (a.B * (2 * Y + 1))) = a.E * (2 * X + 1) - (a.B * (2 * Y + 1)) := ww64 _ (by omega) (by omega)
  have m8 : -(4096 * 1146888192) ≤ (a.N) * (a.E * (2 * X + 1) - (a.B * (2 * Y + 1))) ∧ (a.N) * (a.E * (2 * X + 1) - (a.B * (2 * Y + 1))) ≤ 4096 * 1146888192 := Af.mul_bd (by omega) (by omega)
  have e8 : wrap64 (a.N * (a.E * (2 * X + 1) - (a.B * (2 * Y + 1)))) = a.N * (a.E * (2 * X + 1) - (a.B * (2 * Y + 1))) := ww64 _ (by omega) (by omega)
  have m9 : -(4096 * 268435456) ≤ (a.B) * (a.F) ∧ (a.B) * (a.F) ≤ 4096 * 268435456 := Af.mul_bd (by omega) (by omega)
  have e9 : wrap64 (a.B * a.F) = a.B * a.F := ww64 _ (by omega) (by omega)
  have m10 : -(4096 * 268435456) ≤ (a.E) * (a.C) ∧ (a.E) * (a.C) ≤ 4096 * 268435456 := Af.mul_bd (by omega) (by omega)
  have e10 : wrap64 (a.E * a.C) = a.E * a.C := ww64 _ (by omega) (by omega)
  have e11 : wrap64 (a.B * a.F - a.E * a.C) = a.B * a.F - a.E * a.C := ww64 _ (by omega) (by omega)
  have e12 : wrap64 (2 * (a.B * a.F - a.E * a.C)) = 2 * (a.B * a.F - a.E * a.C) := ww64 _ (by omega) (by omega)
  have e13 : wrap64 (a.N * (a.E * (2 * X + 1) - (a.B * (2 * Y + 1))) + (2 * (a.B * a.F - a.E * a.C))) = a.N * (a.E * (2 * X + 1) - (a.B * (2 * Y + 1))) + (2 * (a.B * a.F - a.E * a.C)) := ww64 _ (by omega) (by omega)
  have m14 : -(4096 * 140001) ≤ (a.A) * (2 * Y + 1) ∧ (a.A) * (2 * Y + 1) ≤ 4096 * 140001 := Af.mul_bd (by omega) (by omega)
  have e14 : wrap64 (a.A * (2 * Y + 1)) = a.A * (2 * Y + 1) := ww64 _ (by omega) (by omega)
  have m15 : -(4096 * 140001) ≤ (a.D) * (2 * X + 1) ∧ (a.D) * (2 * X + 1) ≤ 4096 * 140001 := Af.mul_bd (by omega) (by omega)
  have e15 : wrap64 (a.D * (2 * X + 1)) = a.D * (2 * X + 1) := ww64 _ (by omega) (by omega)
  have e16 : wrap64 (a.A * (2 * Y + 1) - (a.D * (2 * X + 1))) = a.A * (2 * Y + 1) - (a.D * (2 * X + 1)) := ww64 _ (by omega) (by omega)
  have m17 : -(4096 * 1146888192) ≤ (a.N) * (a.A * (2 * Y + 1) - (a.D * (2 * X + 1))) ∧ (a.N) * (a.A * (2 * Y + 1) - (a.D * (2 * X + 1))) ≤ 4096 * 1146888192 := Af.mul_bd (by omega) (by omega)
  have e17 : wrap64 (a.N * (a.A * (2 * Y + 1) - (a.D * (2 * X + 1)))) = a.N * (a.A * (2 * Y + 1) - (a.D * (2 * X + 1))) := ww64 _ (by omega) (by omega)
  have m18 : -(4096 * 268435456) ≤ (a.D) * (a.C) ∧ (a.D) * (a.C) ≤ 4096 * 268435456 := Af.mul_bd (by omega) (by omega)
  have e18 : wrap64 (a.D * a.C) = a.D * a.C := ww64 _ (by omega) (by omega)
  have m19 : -(4096 * 268435456) ≤ (a.A) * (a.F) ∧ (a.A) * (a.F) ≤ 4096 * 268435456 := Af.mul_bd (by omega) (by omega)
  have e19 : wrap64 (a.A * a.F) = a.A * a.F := ww64 _ (by omega) (by omega)
  have e20 : wrap64 (a.D * a.C - a.A * a.F) = a.D * a.C - a.A * a.F := ww64 _ (by omega) (by omega)
  have e21 : wrap64 (2 * (a.D * a.C - a.A * a.F)) = 2 * (a.D * a.C - a.A * a.F) := ww64 _ (by omega) (by omega)
  have e22 : wrap64 (a.N * (a.A * (2 * Y + 1) - (a.D * (2 * X + 1))) + (2 * (a.D * a.C - a.A * a.F))) = a.N * (a.A * (2 * Y + 1) - (a.D * (2 * X + 1))) + (2 * (a.D * a.C - a.A * a.F)) := ww64 _ (by omega) (by omega)
  have ew : IntKind.i64.wrap (2 * dd) = 2 * dd := w64 _ (by omega) (by omega)
  clear m5 m6 m8 m9 m10 m14 m15 m17 m18 m19 p1 p2 p3 p4 p5 p6 p7 p8 hX hY hdb hv
  go_enter Try.func46, Try.ntmps46
  go_upto_region 1 with fail
  refine wp_gen (fun W0 => W0.heap[w.heap.size]? = some (.cells #[.int .i64 a.A, .int .i64 a.B, .int .i64 a.C, .int .i64 a.D, .int .i64 a.E, .int .i64 a.F, .int .i64 a.N] 23 (0, 0)) ∧ W0.heap[w.heap.size + 1]? = some (.cells #[.int .i64 X, .int .i64 Y] 41 (0, 0)) ∧ W0.heap[w.heap.size + 2]? = some (.cells #[.int .i64 0, .int .i64 0] 41 (0, 0)) ∧ Grow w W0) ⟨(Grow.alloc _ _).block ((Grow.alloc _ _).block (heap_alloc_new _ _)), (Grow.alloc _ _).block (heap_new' _ _ _ (by simp)), heap_new' _ _ _ (by simp), ((Grow.alloc w _).a _).a _⟩ ?_
  rintro W ⟨r1, r2, r3, hG⟩
  have hcell : ∀ x, Grow W x → x.cell? ⟨w.heap.size, 0, none⟩ = some (.int .i64 a.A) ∧ x.cell? ⟨w.heap.size, 1, none⟩ = some (.int .i64 a.B) ∧ x.cell? ⟨w.heap.size, 2, none⟩ = some (.int .i64 a.C) ∧ x.cell? ⟨w.heap.size, 3, none⟩ = some (.int .i64 a.D) ∧ x.cell? ⟨w.heap.size, 4, none⟩ = some (.int .i64 a.E) ∧ x.cell? ⟨w.heap.size, 5, none⟩ = some (.int .i64 a.F) ∧ x.cell? ⟨w.heap.size, 6, none⟩ = some (.int .i64 a.N) ∧ x.cell? ⟨w.heap.size + 1, 0, none⟩ = some (.int .i64 X) ∧ x.cell? ⟨w.heap.size + 1, 1, none⟩ = some (.int .i64 Y) := by
    intro x g
    have r1 := g.block r1
    have r2 := g.block r2
    have c0 : x.cell? ⟨w.heap.size, 0, none⟩ = some (.int .i64 a.A) := by rw [cell_of_row x _ 0 _ _ _ r1]; rfl
    have c1 : x.cell? ⟨w.heap.size, 1, none⟩ = some (.int .i64 a.B) := by rw [cell_of_row x _ 1 _ _ _ r1]; rfl
    have c2 : x.cell? ⟨w.heap.size, 2, none⟩ = some (.int .i64 a.C) := by rw [cell_of_row x _ 2 _ _ _ r1]; rfl
    have c3 : x.cell? ⟨w.heap.size, 3, none⟩ = some (.int .i64 a.D) := by rw [cell_of_row x _ 3 _ _ _ r1]; rfl
    have c4 : x.cell? ⟨w.heap.size, 4, none⟩ = some (.int .i64 a.E) := by rw [cell_of_row x _ 4 _ _ _ r1]; rfl
    have c5 : x.cell? ⟨w.heap.size, 5, none⟩ = some (.int .i64 a.F) := by rw [cell_of_row x _ 5 _ _ _ r1]; rfl
    have c6 : x.cell? ⟨w.heap.size, 6, none⟩ = some (.int .i64 a.N) := by rw [cell_of_row x _ 6 _ _ _ r1]; rfl
    have k0 : x.cell? ⟨w.heap.size + 1, 0, none⟩ = some (.int .i64 X) := by rw [cell_of_row x _ 0 _ _ _ r2]; rfl
    have k1 : x.cell? ⟨w.heap.size + 1, 1, none⟩ = some (.int .i64 Y) := by rw [cell_of_row x _ 1 _ _ _ r2]; rfl
    exact ⟨c0, c1, c2, c3, c4, c5, c6, k0, k1⟩
  replace r1 := Lib.hid r1
  replace r2 := Lib.hid r2
  replace r3 := Lib.hid r3
  replace hG := Lib.hid hG
  replace hcell := Lib.hid hcell
  refine q_region (C := fun x => Grow W x) rfl (by kernel_rfl) (Grow.drew _) ?_
  repeat (first
    | go_big_quiet_skip
    | (go_big_quiet_want; refine q_val ?_; apply Exists.intro; refine ⟨fun x hx => ?_, ?_⟩; (focus (obtain ⟨c0, c1, c2, c3, c4, c5, c6, k0, k1⟩ := hcell.out x hx; go_simp <;> rfl)); simp only [Act.put, List.setIfInBounds_toArray, List.set_cons_zero, List.set_cons_succ]; go_big_quiet_on)
    | (go_big_quiet_want; refine q_call 43 ?_; apply Exists.intro; refine ⟨fun x hx => ?_, ?_⟩; (focus (go_simp <;> rfl)); apply Exists.intro; refine ⟨fun x hx => ?_, ?_⟩; (focus (exact (HD.out _).mono fun e w' h => ⟨h.1, Grow.trans hx h.2⟩)); simp only [Act.put, List.setIfInBounds_toArray, List.set_cons_zero, List.set_cons_succ]; go_big_quiet_on))
  refine wpQuiet_nil ?_
  intro x g
  clear ew
  obtain ⟨c0, c1, c2, c3, c4, c5, c6, k0, k1⟩ := hcell.out x g
  replace r3 := g.block r3.out
  replace hG := Lib.hid (hG.out.trans g)
  clear hcell r1 r2 HD g
  have d0 : x.cell? ⟨w.heap.size + 2, 0, none⟩ = some (.int .i64 0) := by rw [cell_of_row x _ 0 _ _ _ r3]; rfl
  have d1 : x.cell? ⟨w.heap.size + 2, 1, none⟩ = some (.int .i64 0) := by rw [cell_of_row x _ 1 _ _ _ r3]; rfl
  have fd0 := frozen_of_row x (w.heap.size + 2) 0 _ _ r3
  have fd1 := frozen_of_row x (w.heap.size + 2) 1 _ _ r3
  replace r3 := Lib.hid r3
  have HX := Lib.hid (Rct.floor_any (a.N * (a.E * (2 * X + 1) - (a.B * (2 * Y + 1))) + (2 * (a.B * a.F - a.E * a.C))) (2 * dd))
  rw [← hx1.out] at HX
  have HY := Lib.hid (Rct.floor_any (a.N * (a.A * (2 * Y + 1) - (a.D * (2 * X + 1))) + (2 * (a.D * a.C - a.A * a.F))) (2 * dd))
  rw [← hy1.out] at HY
  clear hx1 hy1
  go_wp2_with fail
  refine (HX.out _).mono ?_
  rintro e x2 ⟨rfl, rfl⟩
  go_wp2_with fail
  refine (HY.out _).mono ?_
  rintro e x2 ⟨rfl, rfl⟩
  go_wp2
  refine bodyPost_ret (results_cell41 rfl _ (w.heap.size + 2) _ _ _ rfl (cells2 r3.out _ _)) rfl ⟨rfl, grow2 hG.out (by omega) _ _⟩
end Go.Proofs.Ytmfmnoajihiidaa
