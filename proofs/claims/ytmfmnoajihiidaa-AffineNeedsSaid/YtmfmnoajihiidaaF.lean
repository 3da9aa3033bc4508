/- Walk of Then. Printed by genF.py. -/
import Derived.Test.YtmfmnoajihiidaaE
set_option linter.unusedVariables false
namespace Go.Proofs.Ytmfmnoajihiidaa
open Go.RowKit
set_option maxRecDepth 100000 in
set_option maxHeartbeats 4000000 in
theorem thn_any (a b : Af) (w : World) :
    Calls Try.prog 15 #[.agg #[.int .i64 a.A, .int .i64 a.B, .int .i64 a.C, .int .i64 a.D, .int .i64 a.E, .int .i64 a.F, .int .i64 a.N], .agg #[.int .i64 b.A, .int .i64 b.B, .int .i64 b.C, .int .i64 b.D, .int .i64 b.E, .int .i64 b.F, .int .i64 b.N]] w fun e w' => e = .returned (.tuple #[.agg #[.int .i64 (Af.thn a b).1.A, .int .i64 (Af.thn a b).1.B, .int .i64 (Af.thn a b).1.C, .int .i64 (Af.thn a b).1.D, .int .i64 (Af.thn a b).1.E, .int .i64 (Af.thn a b).1.F, .int .i64 (Af.thn a b).1.N], .int .i64 (Af.thn a b).2]) ∧ Grow w w' := by
  have HA := Lib.hid (valid_any a.A a.B a.C a.D a.E a.F a.N)
  have HB := Lib.hid (valid_any b.A b.B b.C b.D b.E b.F b.N)
  have hc : Af.thn a b = if a.val && b.val then Af.chk (Af.mul a b) else (Af.zero, 1) := rfl
  rw [show Af.mk a.A a.B a.C a.D a.E a.F a.N = a from rfl] at HA
  rw [show Af.mk b.A b.B b.C b.D b.E b.F b.N = b from rfl] at HB
  have hva := a.val_iff
  have hvb := b.val_iff
  generalize Af.thn a b = tn at *
  generalize a.val = va at *
  generalize b.val = vb at *
  replace hc := Lib.hid hc
  go_enter Try.func15, Try.ntmps15
  go_wp2_with fail
  refine (HA.out _).mono ?_
  rintro e x ⟨rfl, g⟩
  have r1 : x.heap[w.heap.size]? = some (.cells #[.int .i64 a.A, .int .i64 a.B, .int .i64 a.C, .int .i64 a.D, .int .i64 a.E, .int .i64 a.F, .int .i64 a.N] 23 (0, 0)) := g.block ((Grow.alloc _ _).block ((Grow.alloc _ _).block (heap_alloc_new _ _)))
  have r2 : x.heap[w.heap.size + 1]? = some (.cells #[.int .i64 b.A, .int .i64 b.B, .int .i64 b.C, .int .i64 b.D, .int .i64 b.E, .int .i64 b.F, .int .i64 b.N] 23 (0, 0)) := by
    refine g.block ((Grow.alloc _ _).block ?_)
    have := heap_alloc_new (w.alloc (.cells #[.int .i64 a.A, .int .i64 a.B, .int .i64 a.C, .int .i64 a.D, .int .i64 a.E, .int .i64 a.F, .int .i64 a.N] 23)) (.cells #[.int .i64 b.A, .int .i64 b.B, .int .i64 b.C, .int .i64 b.D, .int .i64 b.E, .int .i64 b.F, .int .i64 b.N] 23)
    simpa using this
  have r3 : x.heap[w.heap.size + 2]? = some (.cells #[.int .i64 0, .int .i64 0, .int .i64 0, .int .i64 0, .int .i64 0, .int .i64 0, .int .i64 0] 23 (0, 0)) := by
    refine g.block ?_
    have := heap_alloc_new ((w.alloc (.cells #[.int .i64 a.A, .int .i64 a.B, .int .i64 a.C, .int .i64 a.D, .int .i64 a.E, .int .i64 a.F, .int .i64 a.N] 23)).alloc (.cells #[.int .i64 b.A, .int .i64 b.B, .int .i64 b.C, .int .i64 b.D, .int .i64 b.E, .int .i64 b.F, .int .i64 b.N] 23)) (.cells #[.int .i64 0, .int .i64 0, .int .i64 0, .int .i64 0, .int .i64 0, .int .i64 0, .int .i64 0] 23)
    simpa using this
  have hG := Lib.hid ((((Grow.alloc w (.cells #[.int .i64 a.A, .int .i64 a.B, .int .i64 a.C, .int .i64 a.D, .int .i64 a.E, .int .i64 a.F, .int .i64 a.N] 23)).a (.cells #[.int .i64 b.A, .int .i64 b.B, .int .i64 b.C, .int .i64 b.D, .int .i64 b.E, .int .i64 b.F, .int .i64 b.N] 23)).a (.cells #[.int .i64 0, .int .i64 0, .int .i64 0, .int .i64 0, .int .i64 0, .int .i64 0, .int .i64 0] 23)).trans g)
  clear g HA
  cases va with
  | false =>
    have d0 : x.cell? ⟨w.heap.size + 2, 0, none⟩ = some (.int .i64 0) := by rw [cell_of_row x _ 0 _ _ _ r3]; rfl
    have d1 : x.cell? ⟨w.heap.size + 2, 1, none⟩ = some (.int .i64 0) := by rw [cell_of_row x _ 1 _ _ _ r3]; rfl
    have d2 : x.cell? ⟨w.heap.size + 2, 2, none⟩ = some (.int .i64 0) := by rw [cell_of_row x _ 2 _ _ _ r3]; rfl
    have d3 : x.cell? ⟨w.heap.size + 2, 3, none⟩ = some (.int .i64 0) := by rw [cell_of_row x _ 3 _ _ _ r3]; rfl
    have d4 : x.cell? ⟨w.heap.size + 2, 4, none⟩ = some (.int .i64 0) := by rw [cell_of_row x _ 4 _ _ _ r3]; rfl
    have d5 : x.cell? ⟨w.heap.size + 2, 5, none⟩ = some (.int .i64 0) := by rw [cell_of_row x _ 5 _ _ _ r3]; rfl
    have d6 : x.cell? ⟨w.heap.size + 2, 6, none⟩ = some (.int .i64 0) := by rw [cell_of_row x _ 6 _ _ _ r3]; rfl
    have fd0 := frozen_of_row x (w.heap.size + 2) 0 _ _ r3
    have fd1 := frozen_of_row x (w.heap.size + 2) 1 _ _ r3
    have fd2 := frozen_of_row x (w.heap.size + 2) 2 _ _ r3
    have fd3 := frozen_of_row x (w.heap.size + 2) 3 _ _ r3
    have fd4 := frozen_of_row x (w.heap.size + 2) 4 _ _ r3
    have fd5 := frozen_of_row x (w.heap.size + 2) 5 _ _ r3
    have fd6 := frozen_of_row x (w.heap.size + 2) 6 _ _ r3
    replace r3 := Lib.hid r3
    clear r1 r2 hva hvb HB
    go_wp2
    refine bodyPost_ret (results_cell23e rfl _ (w.heap.size + 2) _ _ _ _ _ _ _ _ _ rfl rfl (cells7 r3.out _ _ _ _ _ _ _)) rfl ⟨by rw [hc.out]; rfl, grow7 hG.out (by omega) _ _ _ _ _ _ _⟩
  | true =>
    have c0 : x.cell? ⟨w.heap.size + 1, 0, none⟩ = some (.int .i64 b.A) := by rw [cell_of_row x _ 0 _ _ _ r2]; rfl
    have c1 : x.cell? ⟨w.heap.size + 1, 1, none⟩ = some (.int .i64 b.B) := by rw [cell_of_row x _ 1 _ _ _ r2]; rfl
    have c2 : x.cell? ⟨w.heap.size + 1, 2, none⟩ = some (.int .i64 b.C) := by rw [cell_of_row x _ 2 _ _ _ r2]; rfl
    have c3 : x.cell? ⟨w.heap.size + 1, 3, none⟩ = some (.int .i64 b.D) := by rw [cell_of_row x _ 3 _ _ _ r2]; rfl
    have c4 : x.cell? ⟨w.heap.size + 1, 4, none⟩ = some (.int .i64 b.E) := by rw [cell_of_row x _ 4 _ _ _ r2]; rfl
    have c5 : x.cell? ⟨w.heap.size + 1, 5, none⟩ = some (.int .i64 b.F) := by rw [cell_of_row x _ 5 _ _ _ r2]; rfl
    have c6 : x.cell? ⟨w.heap.size + 1, 6, none⟩ = some (.int .i64 b.N) := by rw [cell_of_row x _ 6 _ _ _ r2]; rfl
    replace r1 := Lib.hid r1
    replace r2 := Lib.hid r2
    replace r3 := Lib.hid r3
    replace hva := Lib.hid (hva.1 rfl)
    replace hvb := Lib.hid hvb
    go_wp2_with fail
    refine (HB.out _).mono ?_
    rintro e y ⟨rfl, g⟩
    replace r1 := g.block r1.out
    replace r2 := g.block r2.out
    replace r3 := g.block r3.out
    replace hG := Lib.hid (hG.out.trans g)
    clear c0 c1 c2 c3 c4 c5 c6 g HB
    cases vb with
    | false =>
      have d0 : y.cell? ⟨w.heap.size + 2, 0, none⟩ = some (.int .i64 0) := by rw [cell_of_row y _ 0 _ _ _ r3]; rfl
      have d1 : y.cell? ⟨w.heap.size + 2, 1, none⟩ = some (.int .i64 0) := by rw [cell_of_row y _ 1 _ _ _ r3]; rfl
      have d2 : y.cell? ⟨w.heap.size + 2, 2, none⟩ = some (.int .i64 0) := by rw [cell_of_row y _ 2 _ _ _ r3]; rfl
      have d3 : y.cell? ⟨w.heap.size + 2, 3, none⟩ = some (.int .i64 0) := by rw [cell_of_row y _ 3 _ _ _ r3]; rfl
      have d4 : y.cell? ⟨w.heap.size + 2, 4, none⟩ = some (.int .i64 0) := by rw [cell_of_row y _ 4 _ _ _ r3]; rfl
      have d5 : y.cell? ⟨w.heap.size + 2, 5, none⟩ = some (.int .i64 0) := by rw [cell_of_row y _ 5 _ _ _ r3]; rfl
      have d6 : y.cell? ⟨w.heap.size + 2, 6, none⟩ = some (.int .i64 0) := by rw [cell_of_row y _ 6 _ _ _ r3]; rfl
      have fd0 := frozen_of_row y (w.heap.size + 2) 0 _ _ r3
      have fd1 := frozen_of_row y (w.heap.size + 2) 1 _ _ r3
      have fd2 := frozen_of_row y (w.heap.size + 2) 2 _ _ r3
      have fd3 := frozen_of_row y (w.heap.size + 2) 3 _ _ r3
      have fd4 := frozen_of_row y (w.heap.size + 2) 4 _ _ r3
      have fd5 := frozen_of_row y (w.heap.size + 2) 5 _ _ r3
      have fd6 := frozen_of_row y (w.heap.size + 2) 6 _ _ r3
      replace r3 := Lib.hid r3
      clear r1 r2 hva hvb
      go_wp2
      refine bodyPost_ret (results_cell23e rfl _ (w.heap.size + 2) _ _ _ _ _ _ _ _ _ rfl rfl (cells7 r3.out _ _ _ _ _ _ _)) rfl ⟨by rw [hc.out]; rfl, grow7 hG.out (by omega) _ _ _ _ _ _ _⟩
    | true =>
      obtain ⟨p1, p2, p3, p4, p5, p6, p7, p8, -⟩ := hva.out
      obtain ⟨o1, o2, o3, o4, o5, o6, o7, o8, -⟩ := hvb.out.1 rfl
      clear hva hvb
      have m0 : -(4096 * 4096) ≤ (b.A) * (a.A) ∧ (b.A) * (a.A) ≤ 4096 * 4096 := Af.mul_bd (by omega) (by omega)
      have e0 : wrap64 (b.A * a.A) = b.A * a.A := ww64 _ (by omega) (by omega)
      have m1 : -(4096 * 4096) ≤ (b.B) * (a.D) ∧ (b.B) * (a.D) ≤ 4096 * 4096 := Af.mul_bd (by omega) (by omega)
      have e1 : wrap64 (b.B * a.D) = b.B * a.D := ww64 _ (by omega) (by omega)
      have e2 : wrap64 (b.A * a.A + b.B * a.D) = b.A * a.A + b.B * a.D := ww64 _ (by omega) (by omega)
      have m3 : -(4096 * 4096) ≤ (b.A) * (a.B) ∧ (b.A) * (a.B) ≤ 4096 * 4096 := Af.mul_bd (by omega) (by omega)
      have e3 : wrap64 (b.A * a.B) = b.A * a.B := ww64 _ (by omega) (by omega)
      have m4 : -(4096 * 4096) ≤ (b.B) * (a.E) ∧ (b.B) * (a.E) ≤ 4096 * 4096 := Af.mul_bd (by omega) (by omega)
      have e4 : wrap64 (b.B * a.E) = b.B * a.E := ww64 _ (by omega) (by omega)
      have e5 : wrap64 (b.A * a.B + b.B * a.E) = b.A * a.B + b.B * a.E := ww64 _ (by omega) (by omega)
      have m6 : -(4096 * 268435456) ≤ (b.A) * (a.C) ∧ (b.A) * (a.C) ≤ 4096 * 268435456 := Af.mul_bd (by omega) (by omega)
      have e6 : wrap64 (b.A * a.C) = b.A * a.C := ww64 _ (by omega) (by omega)
      have m7 : -(4096 * 268435456) ≤ (b.B) * (a.F) ∧ (b.B) * (a.F) ≤ 4096 * 268435456 := Af.mul_bd (by omega) (by omega)
      have e7 : wrap64 (b.B * a.F) = b.B * a.F := ww64 _ (by omega) (by omega)
      have e8 : wrap64 (b.A * a.C + b.B * a.F) = b.A * a.C + b.B * a.F := ww64 _ (by omega) (by omega)
      have m9 : -(268435456 * 4096) ≤ (b.C) * (a.N) ∧ (b.C) * (a.N) ≤ 268435456 * 4096 := Af.mul_bd (by omega) (by omega)
      have e9 : wrap64 (b.C * a.N) = b.C * a.N := ww64 _ (by omega) (by omega)
      have e10 : wrap64 (b.A * a.C + b.B * a.F + b.C * a.N) = b.A * a.C + b.B * a.F + b.C * a.N := ww64 _ (by omega) (by omega)
      have m11 : -(4096 * 4096) ≤ (b.D) * (a.A) ∧ (b.D) * (a.A) ≤ 4096 * 4096 := Af.mul_bd (by omega) (by omega)
      have e11 : wrap64 (b.D * a.A) = b.D * a.A := ww64 _ (by omega) (by omega)
      have m12 : -(4096 * 4096) ≤ (b.E) * (a.D) ∧ (b.E) * (a.D) ≤ 4096 * 4096 := Af.mul_bd (by omega) (by omega)
      have e12 : wrap64 (b.E * a.D) = b.E * a.D := ww64 _ (by omega) (by omega)
      have e13 : wrap64 (b.D * a.A + b.E * a.D) = b.D * a.A + b.E * a.D := ww64 _ (by omega) (by omega)
      have m14 : -(4096 * 4096) ≤ (b.D) * (a.B) ∧ (b.D) * (a.B) ≤ 4096 * 4096 := Af.mul_bd (by omega) (by omega)
      have e14 : wrap64 (b.D * a.B) = b.D * a.B := ww64 _ (by omega) (by omega)
      have m15 : -(4096 * 4096) ≤ (b.E) * (a.E) ∧ (b.E) * (a.E) ≤ 4096 * 4096 := Af.mul_bd (by omega) (by omega)
      have e15 : wrap64 (b.E * a.E) = b.E * a.E := ww64 _ (by omega) (by omega)
      have e16 : wrap64 (b.D * a.B + b.E * a.E) = b.D * a.B + b.E * a.E := ww64 _ (by omega) (by omega)
      have m17 : -(4096 * 268435456) ≤ (b.D) * (a.C) ∧ (b.D) * (a.C) ≤ 4096 * 268435456 := Af.mul_bd (by omega) (by omega)
      have e17 : wrap64 (b.D * a.C) = b.D * a.C := ww64 _ (by omega) (by omega)
      have m18 : -(4096 * 268435456) ≤ (b.E) * (a.F) ∧ (b.E) * (a.F) ≤ 4096 * 268435456 := Af.mul_bd (by omega) (by omega)
      have e18 : wrap64 (b.E * a.F) = b.E * a.F := ww64 _ (by omega) (by omega)
      have e19 : wrap64 (b.D * a.C + b.E * a.F) = b.D * a.C + b.E * a.F := ww64 _ (by omega) (by omega)
      have m20 : -(268435456 * 4096) ≤ (b.F) * (a.N) ∧ (b.F) * (a.N) ≤ 268435456 * 4096 := Af.mul_bd (by omega) (by omega)
      have e20 : wrap64 (b.F * a.N) = b.F * a.N := ww64 _ (by omega) (by omega)
      have e21 : wrap64 (b.D * a.C + b.E * a.F + b.F * a.N) = b.D * a.C + b.E * a.F + b.F * a.N := ww64 _ (by omega) (by omega)
      have m22 : -(4096 * 4096) ≤ (a.N) * (b.N) ∧ (a.N) * (b.N) ≤ 4096 * 4096 := Af.mul_bd (by omega) (by omega)
      have e22 : wrap64 (a.N * b.N) = a.N * b.N := ww64 _ (by omega) (by omega)
      have hck : tn = Af.chk (Af.mul a b) := by rw [hc.out]; rfl
      have hsm : Sm (Af.mul a b) 1000000000000000000 := by
        refine ⟨?_, ?_, ?_, ?_, ?_, ?_, ?_⟩
        · show (b.A * a.A + b.B * a.D).natAbs ≤ _; omega
        · show (b.A * a.B + b.B * a.E).natAbs ≤ _; omega
        · show (b.A * a.C + b.B * a.F + b.C * a.N).natAbs ≤ _; omega
        · show (b.D * a.A + b.E * a.D).natAbs ≤ _; omega
        · show (b.D * a.B + b.E * a.E).natAbs ≤ _; omega
        · show (b.D * a.C + b.E * a.F + b.F * a.N).natAbs ≤ _; omega
        · show (a.N * b.N).natAbs ≤ _; omega
      have HC : Hid (∀ w, Calls Try.prog 42 #[.agg #[.int .i64 (b.A * a.A + b.B * a.D), .int .i64 (b.A * a.B + b.B * a.E), .int .i64 (b.A * a.C + b.B * a.F + b.C * a.N), .int .i64 (b.D * a.A + b.E * a.D), .int .i64 (b.D * a.B + b.E * a.E), .int .i64 (b.D * a.C + b.E * a.F + b.F * a.N), .int .i64 (a.N * b.N)]] w fun e w' => e = .returned (.tuple #[.agg #[.int .i64 (Af.mul a b).chk.1.A, .int .i64 (Af.mul a b).chk.1.B, .int .i64 (Af.mul a b).chk.1.C, .int .i64 (Af.mul a b).chk.1.D, .int .i64 (Af.mul a b).chk.1.E, .int .i64 (Af.mul a b).chk.1.F, .int .i64 (Af.mul a b).chk.1.N], .int .i64 (Af.mul a b).chk.2]) ∧ Grow w w') := Lib.hid (chk_any (Af.mul a b) hsm)
      rw [← hck] at HC
      clear hck hsm hc
      clear m0 m1 m3 m4 m6 m7 m9 m11 m12 m14 m15 m17 m18 m20 m22 p1 p2 p3 p4 p5 p6 p7 p8 o1 o2 o3 o4 o5 o6 o7 o8
      have c0 : y.cell? ⟨w.heap.size, 0, none⟩ = some (.int .i64 a.A) := by rw [cell_of_row y _ 0 _ _ _ r1]; rfl
      have c1 : y.cell? ⟨w.heap.size, 1, none⟩ = some (.int .i64 a.B) := by rw [cell_of_row y _ 1 _ _ _ r1]; rfl
      have c2 : y.cell? ⟨w.heap.size, 2, none⟩ = some (.int .i64 a.C) := by rw [cell_of_row y _ 2 _ _ _ r1]; rfl
      have c3 : y.cell? ⟨w.heap.size, 3, none⟩ = some (.int .i64 a.D) := by rw [cell_of_row y _ 3 _ _ _ r1]; rfl
      have c4 : y.cell? ⟨w.heap.size, 4, none⟩ = some (.int .i64 a.E) := by rw [cell_of_row y _ 4 _ _ _ r1]; rfl
      have c5 : y.cell? ⟨w.heap.size, 5, none⟩ = some (.int .i64 a.F) := by rw [cell_of_row y _ 5 _ _ _ r1]; rfl
      have c6 : y.cell? ⟨w.heap.size, 6, none⟩ = some (.int .i64 a.N) := by rw [cell_of_row y _ 6 _ _ _ r1]; rfl
      have k0 : y.cell? ⟨w.heap.size + 1, 0, none⟩ = some (.int .i64 b.A) := by rw [cell_of_row y _ 0 _ _ _ r2]; rfl
      have k1 : y.cell? ⟨w.heap.size + 1, 1, none⟩ = some (.int .i64 b.B) := by rw [cell_of_row y _ 1 _ _ _ r2]; rfl
      have k2 : y.cell? ⟨w.heap.size + 1, 2, none⟩ = some (.int .i64 b.C) := by rw [cell_of_row y _ 2 _ _ _ r2]; rfl
      have k3 : y.cell? ⟨w.heap.size + 1, 3, none⟩ = some (.int .i64 b.D) := by rw [cell_of_row y _ 3 _ _ _ r2]; rfl
      have k4 : y.cell? ⟨w.heap.size + 1, 4, none⟩ = some (.int .i64 b.E) := by rw [cell_of_row y _ 4 _ _ _ r2]; rfl
      have k5 : y.cell? ⟨w.heap.size + 1, 5, none⟩ = some (.int .i64 b.F) := by rw [cell_of_row y _ 5 _ _ _ r2]; rfl
      have k6 : y.cell? ⟨w.heap.size + 1, 6, none⟩ = some (.int .i64 b.N) := by rw [cell_of_row y _ 6 _ _ _ r2]; rfl
      replace r1 := Lib.hid r1
      replace r2 := Lib.hid r2
      replace r3 := Lib.hid r3
      go_wp2_with fail
      refine (HC.out _).mono ?_
      rintro e z ⟨rfl, g⟩
      replace r3 := g.block r3.out
      replace hG := Lib.hid (hG.out.trans g)
      clear c0 c1 c2 c3 c4 c5 c6 k0 k1 k2 k3 k4 k5 k6 g HC r1 r2
      have d0 : z.cell? ⟨w.heap.size + 2, 0, none⟩ = some (.int .i64 0) := by rw [cell_of_row z _ 0 _ _ _ r3]; rfl
      have d1 : z.cell? ⟨w.heap.size + 2, 1, none⟩ = some (.int .i64 0) := by rw [cell_of_row z _ 1 _ _ _ r3]; rfl
      have d2 : z.cell? ⟨w.heap.size + 2, 2, none⟩ = some (.int .i64 0) := by rw [cell_of_row z _ 2 _ _ _ r3]; rfl
      have d3 : z.cell? ⟨w.heap.size + 2, 3, none⟩ = some (.int .i64 0) := by rw [cell_of_row z _ 3 _ _ _ r3]; rfl
      have d4 : z.cell? ⟨w.heap.size + 2, 4, none⟩ = some (.int .i64 0) := by rw [cell_of_row z _ 4 _ _ _ r3]; rfl
      have d5 : z.cell? ⟨w.heap.size + 2, 5, none⟩ = some (.int .i64 0) := by rw [cell_of_row z _ 5 _ _ _ r3]; rfl
      have d6 : z.cell? ⟨w.heap.size + 2, 6, none⟩ = some (.int .i64 0) := by rw [cell_of_row z _ 6 _ _ _ r3]; rfl
      have fd0 := frozen_of_row z (w.heap.size + 2) 0 _ _ r3
      have fd1 := frozen_of_row z (w.heap.size + 2) 1 _ _ r3
      have fd2 := frozen_of_row z (w.heap.size + 2) 2 _ _ r3
      have fd3 := frozen_of_row z (w.heap.size + 2) 3 _ _ r3
      have fd4 := frozen_of_row z (w.heap.size + 2) 4 _ _ r3
      have fd5 := frozen_of_row z (w.heap.size + 2) 5 _ _ r3
      have fd6 := frozen_of_row z (w.heap.size + 2) 6 _ _ r3
      replace r3 := Lib.hid r3
      go_wp2
      refine bodyPost_ret (results_cell23e rfl _ (w.heap.size + 2) _ _ _ _ _ _ _ _ _ rfl rfl (cells7 r3.out _ _ _ _ _ _ _)) rfl ⟨rfl, grow7 hG.out (by omega) _ _ _ _ _ _ _⟩
end Go.Proofs.Ytmfmnoajihiidaa

