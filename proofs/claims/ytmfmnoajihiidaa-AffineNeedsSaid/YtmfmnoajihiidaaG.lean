/- Walk of Inverse. Printed by genG.py. -/
import Derived.Test.YtmfmnoajihiidaaJ5
set_option linter.unusedVariables false
namespace Go.Proofs.Ytmfmnoajihiidaa
open Go.RowKit
set_option maxRecDepth 100000 in
set_option maxHeartbeats 4000000 in
theorem inv_any (a : Af) (w : World) :
    Calls Try.prog 16 #[.agg #[.int .i64 a.A, .int .i64 a.B, .int .i64 a.C, .int .i64 a.D, .int .i64 a.E, .int .i64 a.F, .int .i64 a.N]] w fun e w' => e = .returned (.tuple #[.agg #[.int .i64 (Af.inv a).1.A, .int .i64 (Af.inv a).1.B, .int .i64 (Af.inv a).1.C, .int .i64 (Af.inv a).1.D, .int .i64 (Af.inv a).1.E, .int .i64 (Af.inv a).1.F, .int .i64 (Af.inv a).1.N], .int .i64 (Af.inv a).2]) ∧ Grow w w' := by
  have HA := Lib.hid (valid_any a.A a.B a.C a.D a.E a.F a.N)
  have hc : Af.inv a = if a.val then Af.chk (Af.adj a a.sg) else (Af.zero, 1) := rfl
  rw [show Af.mk a.A a.B a.C a.D a.E a.F a.N = a from rfl] at HA
  have hva := a.val_iff
  have hdb := @Af.det_bd a
  generalize Af.inv a = iv at *
  generalize a.val = va at *
  replace hc := Lib.hid hc
  replace hdb := Lib.hid hdb
  go_enter Try.func16, Try.ntmps16
  go_wp2_with fail
  refine (HA.out _).mono ?_
  rintro e x ⟨rfl, g⟩
  have r1 : x.heap[w.heap.size]? = some (.cells #[.int .i64 a.A, .int .i64 a.B, .int .i64 a.C, .int .i64 a.D, .int .i64 a.E, .int .i64 a.F, .int .i64 a.N] 23 (0, 0)) := g.block ((Grow.alloc _ _).block (heap_alloc_new _ _))
  have r3 : x.heap[w.heap.size + 1]? = some (.cells #[.int .i64 0, .int .i64 0, .int .i64 0, .int .i64 0, .int .i64 0, .int .i64 0, .int .i64 0] 23 (0, 0)) := by
    refine g.block ?_
    have := heap_alloc_new (w.alloc (.cells #[.int .i64 a.A, .int .i64 a.B, .int .i64 a.C, .int .i64 a.D, .int .i64 a.E, .int .i64 a.F, .int .i64 a.N] 23)) (.cells #[.int .i64 0, .int .i64 0, .int .i64 0, .int .i64 0, .int .i64 0, .int .i64 0, .int .i64 0] 23)
    simpa using this
  have hG := Lib.hid (((Grow.alloc w (.cells #[.int .i64 a.A, .int .i64 a.B, .int .i64 a.C, .int .i64 a.D, .int .i64 a.E, .int .i64 a.F, .int .i64 a.N] 23)).a (.cells #[.int .i64 0, .int .i64 0, .int .i64 0, .int .i64 0, .int .i64 0, .int .i64 0, .int .i64 0] 23)).trans g)
  clear g HA
  cases va with
  | false =>
    have d0 : x.cell? ⟨w.heap.size + 1, 0, none⟩ = some (.int .i64 0) := by rw [cell_of_row x _ 0 _ _ _ r3]; rfl
    have d1 : x.cell? ⟨w.heap.size + 1, 1, none⟩ = some (.int .i64 0) := by rw [cell_of_row x _ 1 _ _ _ r3]; rfl
    have d2 : x.cell? ⟨w.heap.size + 1, 2, none⟩ = some (.int .i64 0) := by rw [cell_of_row x _ 2 _ _ _ r3]; rfl
    have d3 : x.cell? ⟨w.heap.size + 1, 3, none⟩ = some (.int .i64 0) := by rw [cell_of_row x _ 3 _ _ _ r3]; rfl
    have d4 : x.cell? ⟨w.heap.size + 1, 4, none⟩ = some (.int .i64 0) := by rw [cell_of_row x _ 4 _ _ _ r3]; rfl
    have d5 : x.cell? ⟨w.heap.size + 1, 5, none⟩ = some (.int .i64 0) := by rw [cell_of_row x _ 5 _ _ _ r3]; rfl
    have d6 : x.cell? ⟨w.heap.size + 1, 6, none⟩ = some (.int .i64 0) := by rw [cell_of_row x _ 6 _ _ _ r3]; rfl
    have fd0 := frozen_of_row x (w.heap.size + 1) 0 _ _ r3
    have fd1 := frozen_of_row x (w.heap.size + 1) 1 _ _ r3
    have fd2 := frozen_of_row x (w.heap.size + 1) 2 _ _ r3
    have fd3 := frozen_of_row x (w.heap.size + 1) 3 _ _ r3
    have fd4 := frozen_of_row x (w.heap.size + 1) 4 _ _ r3
    have fd5 := frozen_of_row x (w.heap.size + 1) 5 _ _ r3
    have fd6 := frozen_of_row x (w.heap.size + 1) 6 _ _ r3
    replace r3 := Lib.hid r3
    clear r1 hva hdb
    go_wp2
    refine bodyPost_ret (results_cell23e rfl _ (w.heap.size + 1) _ _ _ _ _ _ _ _ _ rfl rfl (cells7 r3.out _ _ _ _ _ _ _)) rfl ⟨by rw [hc.out]; rfl, grow7 hG.out (by omega) _ _ _ _ _ _ _⟩
  | true =>
    replace hdb := hdb.out rfl
    obtain ⟨p1, p2, p3, p4, p5, p6, p7, p8, -⟩ := hva.1 rfl
    clear hva
    have HD := Lib.hid (det_any a.A a.B a.C a.D a.E a.F a.N p2 p3 p4 p5)
    rw [show Af.mk a.A a.B a.C a.D a.E a.F a.N = a from rfl] at HD
    replace hc := hc.out.trans (if_pos rfl)
    have hadj : Af.adj a a.sg = ⟨a.sg * a.N * a.E, -a.sg * a.N * a.B, a.sg * (a.B * a.F - a.E * a.C), -a.sg * a.N * a.D, a.sg * a.N * a.A, a.sg * (a.D * a.C - a.A * a.F), a.sg * a.det⟩ := rfl
    have hsg : a.sg = if a.det < 0 then -1 else 1 := rfl
    have hs : -1 ≤ a.sg ∧ a.sg ≤ 1 := by rw [hsg]; split <;> omega
    have hsm : Hid (∀ x y z u v w q : Int, x.natAbs ≤ 1000000000000000000 → y.natAbs ≤ 1000000000000000000 → z.natAbs ≤ 1000000000000000000 → u.natAbs ≤ 1000000000000000000 → v.natAbs ≤ 1000000000000000000 → w.natAbs ≤ 1000000000000000000 → q.natAbs ≤ 1000000000000000000 → Sm ⟨x, y, z, u, v, w, q⟩ 1000000000000000000) := Lib.hid fun _ _ _ _ _ _ _ h1 h2 h3 h4 h5 h6 h7 => ⟨h1, h2, h3, h4, h5, h6, h7⟩
    generalize a.sg = s at *
    generalize a.det = dd at *
    replace hsg := Lib.hid hsg
    have m0 : -(1 * 4096) ≤ (s) * (a.N) ∧ (s) * (a.N) ≤ 1 * 4096 := Af.mul_bd (by omega) (by omega)
    have e0 : IntKind.i64.wrap (s * a.N) = s * a.N := w64 _ (by omega) (by omega)
    have m1 : -(4096 * 4096) ≤ (s * a.N) * (a.E) ∧ (s * a.N) * (a.E) ≤ 4096 * 4096 := Af.mul_bd (by omega) (by omega)
    have e1 : IntKind.i64.wrap ((s * a.N) * a.E) = (s * a.N) * a.E := w64 _ (by omega) (by omega)
    have e2 : IntKind.i64.wrap (-s) = -s := w64 _ (by omega) (by omega)
    have m3 : -(1 * 4096) ≤ (-s) * (a.N) ∧ (-s) * (a.N) ≤ 1 * 4096 := Af.mul_bd (by omega) (by omega)
    have e3 : IntKind.i64.wrap (-s * a.N) = -s * a.N := w64 _ (by omega) (by omega)
    have m4 : -(4096 * 4096) ≤ (-s * a.N) * (a.B) ∧ (-s * a.N) * (a.B) ≤ 4096 * 4096 := Af.mul_bd (by omega) (by omega)
    have e4 : IntKind.i64.wrap ((-s * a.N) * a.B) = (-s * a.N) * a.B := w64 _ (by omega) (by omega)
    have m5 : -(4096 * 268435456) ≤ (a.B) * (a.F) ∧ (a.B) * (a.F) ≤ 4096 * 268435456 := Af.mul_bd (by omega) (by omega)
    have e5 : IntKind.i64.wrap (a.B * a.F) = a.B * a.F := w64 _ (by omega) (by omega)
    have m6 : -(4096 * 268435456) ≤ (a.E) * (a.C) ∧ (a.E) * (a.C) ≤ 4096 * 268435456 := Af.mul_bd (by omega) (by omega)
    have e6 : IntKind.i64.wrap (a.E * a.C) = a.E * a.C := w64 _ (by omega) (by omega)
    have e7 : IntKind.i64.wrap (a.B * a.F - a.E * a.C) = a.B * a.F - a.E * a.C := w64 _ (by omega) (by omega)
    have m8 : -(1 * 2199023255552) ≤ (s) * (a.B * a.F - a.E * a.C) ∧ (s) * (a.B * a.F - a.E * a.C) ≤ 1 * 2199023255552 := Af.mul_bd (by omega) (by omega)
    have e8 : IntKind.i64.wrap (s * (a.B * a.F - a.E * a.C)) = s * (a.B * a.F - a.E * a.C) := w64 _ (by omega) (by omega)
    have m9 : -(4096 * 4096) ≤ (-s * a.N) * (a.D) ∧ (-s * a.N) * (a.D) ≤ 4096 * 4096 := Af.mul_bd (by omega) (by omega)
    have e9 : IntKind.i64.wrap ((-s * a.N) * a.D) = (-s * a.N) * a.D := w64 _ (by omega) (by omega)
    have m10 : -(4096 * 4096) ≤ (s * a.N) * (a.A) ∧ (s * a.N) * (a.A) ≤ 4096 * 4096 := Af.mul_bd (by omega) (by omega)
    have e10 : IntKind.i64.wrap ((s * a.N) * a.A) = (s * a.N) * a.A := w64 _ (by omega) (by omega)
    have m11 : -(4096 * 268435456) ≤ (a.D) * (a.C) ∧ (a.D) * (a.C) ≤ 4096 * 268435456 := Af.mul_bd (by omega) (by omega)
    have e11 : IntKind.i64.wrap (a.D * a.C) = a.D * a.C := w64 _ (by omega) (by omega)
    have m12 : -(4096 * 268435456) ≤ (a.A) * (a.F) ∧ (a.A) * (a.F) ≤ 4096 * 268435456 := Af.mul_bd (by omega) (by omega)
    have e12 : IntKind.i64.wrap (a.A * a.F) = a.A * a.F := w64 _ (by omega) (by omega)
    have e13 : IntKind.i64.wrap (a.D * a.C - a.A * a.F) = a.D * a.C - a.A * a.F := w64 _ (by omega) (by omega)
    have m14 : -(1 * 2199023255552) ≤ (s) * (a.D * a.C - a.A * a.F) ∧ (s) * (a.D * a.C - a.A * a.F) ≤ 1 * 2199023255552 := Af.mul_bd (by omega) (by omega)
    have e14 : IntKind.i64.wrap (s * (a.D * a.C - a.A * a.F)) = s * (a.D * a.C - a.A * a.F) := w64 _ (by omega) (by omega)
    have m15 : -(1 * 33554432) ≤ (s) * (dd) ∧ (s) * (dd) ≤ 1 * 33554432 := Af.mul_bd (by omega) (by omega)
    have e15 : IntKind.i64.wrap (s * dd) = s * dd := w64 _ (by omega) (by omega)
    have hsm2 : Sm (Af.adj a s) 1000000000000000000 := by
      rw [hadj]
      refine hsm.out _ _ _ _ _ _ _ ?_ ?_ ?_ ?_ ?_ ?_ ?_ <;> omega
    have HC := Lib.hid (chk_any (Af.adj a s) hsm2)
    rw [← hc, hadj] at HC
    clear hsm hsm2 hc hadj m0 m1 m3 m4 m5 m6 m8 m9 m10 m11 m12 m14 m15 p1 p2 p3 p4 p5 p6 p7 p8 hs
    have c0 : x.cell? ⟨w.heap.size, 0, none⟩ = some (.int .i64 a.A) := by rw [cell_of_row x _ 0 _ _ _ r1]; rfl
    have c1 : x.cell? ⟨w.heap.size, 1, none⟩ = some (.int .i64 a.B) := by rw [cell_of_row x _ 1 _ _ _ r1]; rfl
    have c2 : x.cell? ⟨w.heap.size, 2, none⟩ = some (.int .i64 a.C) := by rw [cell_of_row x _ 2 _ _ _ r1]; rfl
    have c3 : x.cell? ⟨w.heap.size, 3, none⟩ = some (.int .i64 a.D) := by rw [cell_of_row x _ 3 _ _ _ r1]; rfl
    have c4 : x.cell? ⟨w.heap.size, 4, none⟩ = some (.int .i64 a.E) := by rw [cell_of_row x _ 4 _ _ _ r1]; rfl
    have c5 : x.cell? ⟨w.heap.size, 5, none⟩ = some (.int .i64 a.F) := by rw [cell_of_row x _ 5 _ _ _ r1]; rfl
    have c6 : x.cell? ⟨w.heap.size, 6, none⟩ = some (.int .i64 a.N) := by rw [cell_of_row x _ 6 _ _ _ r1]; rfl
    replace r1 := Lib.hid r1
    replace r3 := Lib.hid r3
    replace hdb := Lib.hid hdb
    go_wp2_with fail
    refine (HD.out _).mono ?_
    rintro e y ⟨rfl, g⟩
    replace r1 := g.block r1.out
    replace r3 := g.block r3.out
    replace hG := Lib.hid (hG.out.trans g)
    clear c0 c1 c2 c3 c4 c5 c6 g
    have c0 : y.cell? ⟨w.heap.size, 0, none⟩ = some (.int .i64 a.A) := by rw [cell_of_row y _ 0 _ _ _ r1]; rfl
    have c1 : y.cell? ⟨w.heap.size, 1, none⟩ = some (.int .i64 a.B) := by rw [cell_of_row y _ 1 _ _ _ r1]; rfl
    have c2 : y.cell? ⟨w.heap.size, 2, none⟩ = some (.int .i64 a.C) := by rw [cell_of_row y _ 2 _ _ _ r1]; rfl
    have c3 : y.cell? ⟨w.heap.size, 3, none⟩ = some (.int .i64 a.D) := by rw [cell_of_row y _ 3 _ _ _ r1]; rfl
    have c4 : y.cell? ⟨w.heap.size, 4, none⟩ = some (.int .i64 a.E) := by rw [cell_of_row y _ 4 _ _ _ r1]; rfl
    have c5 : y.cell? ⟨w.heap.size, 5, none⟩ = some (.int .i64 a.F) := by rw [cell_of_row y _ 5 _ _ _ r1]; rfl
    have c6 : y.cell? ⟨w.heap.size, 6, none⟩ = some (.int .i64 a.N) := by rw [cell_of_row y _ 6 _ _ _ r1]; rfl
    replace r1 := Lib.hid r1
    replace r3 := Lib.hid r3
    generalize hdl : decide (dd < 0) = bl
    replace hdl := Lib.hid hdl
    go_upto_if 11 with fail
    go_cut [4] (fun s4 wx => s4 = .int .i64 s ∧ wx = y)
    case first =>
      by_cases hd : dd < 0
      · obtain rfl := hdl.out.symm.trans (decide_eq_true hd)
        go_wp2
        go_meet
        exact ⟨by rw [hsg.out, if_pos hd], rfl⟩
      · obtain rfl := hdl.out.symm.trans (decide_eq_false hd)
        go_wp2
        go_meet
        exact ⟨by rw [hsg.out, if_neg (by omega)], rfl⟩
    case rest =>
      obtain ⟨rfl, rfl⟩ := hcut
      go_upto_region 6 with fail
      simp only [List.append_eq, List.cons_append, List.nil_append]
      have hSu : ∀ (bb : Bool) (xx : World), (fun bb xx => Grow w xx ∧ xx.heap[w.heap.size]? = some (.cells #[.int .i64 a.A, .int .i64 a.B, .int .i64 a.C, .int .i64 a.D, .int .i64 a.E, .int .i64 a.F, .int .i64 a.N] 23 (0, 0)) ∧ xx.heap[w.heap.size + 1]? = some (cond bb (.cells #[.int .i64 iv.1.A, .int .i64 iv.1.B, .int .i64 iv.1.C, .int .i64 iv.1.D, .int .i64 iv.1.E, .int .i64 iv.1.F, .int .i64 iv.1.N] 23 (0, 0)) (.cells #[.int .i64 0, .int .i64 0, .int .i64 0, .int .i64 0, .int .i64 0, .int .i64 0, .int .i64 0] 23 (0, 0)))) bb xx → Grow w xx ∧ xx.heap[w.heap.size]? = some (.cells #[.int .i64 a.A, .int .i64 a.B, .int .i64 a.C, .int .i64 a.D, .int .i64 a.E, .int .i64 a.F, .int .i64 a.N] 23 (0, 0)) ∧ xx.heap[w.heap.size + 1]? = some (cond bb (.cells #[.int .i64 iv.1.A, .int .i64 iv.1.B, .int .i64 iv.1.C, .int .i64 iv.1.D, .int .i64 iv.1.E, .int .i64 iv.1.F, .int .i64 iv.1.N] 23 (0, 0)) (.cells #[.int .i64 0, .int .i64 0, .int .i64 0, .int .i64 0, .int .i64 0, .int .i64 0, .int .i64 0] 23 (0, 0))) := fun _ _ h => h
      refine wp_region_calls ?lit6 ?hlit6 (by kernel_rfl) (by kernel_rfl) (by kernel_rfl) (by kernel_rfl) 64 (fun ii => ([(.int .i64 (s)), (.pointer (some ⟨w.heap.size, 6, none⟩)), (.int .i64 (a.N)), (.int .i64 (s * a.N)), (.pointer (some ⟨w.heap.size, 4, none⟩)), (.int .i64 (a.E)), (.int .i64 ((s * a.N) * a.E)), (.int .i64 (s)), (.int .i64 (-s)), (.pointer (some ⟨w.heap.size, 6, none⟩)), (.int .i64 (a.N)), (.int .i64 (-s * a.N)), (.pointer (some ⟨w.heap.size, 1, none⟩)), (.int .i64 (a.B)), (.int .i64 ((-s * a.N) * a.B)), (.int .i64 (s)), (.pointer (some ⟨w.heap.size, 1, none⟩)), (.int .i64 (a.B)), (.pointer (some ⟨w.heap.size, 5, none⟩)), (.int .i64 (a.F)), (.int .i64 (a.B * a.F)), (.pointer (some ⟨w.heap.size, 4, none⟩)), (.int .i64 (a.E)), (.pointer (some ⟨w.heap.size, 2, none⟩)), (.int .i64 (a.C)), (.int .i64 (a.E * a.C)), (.int .i64 (a.B * a.F - a.E * a.C)), (.int .i64 (s * (a.B * a.F - a.E * a.C))), (.int .i64 (s)), (.int .i64 (-s)), (.pointer (some ⟨w.heap.size, 6, none⟩)), (.int .i64 (a.N)), (.int .i64 (-s * a.N)), (.pointer (some ⟨w.heap.size, 3, none⟩)), (.int .i64 (a.D)), (.int .i64 ((-s * a.N) * a.D)), (.int .i64 (s)), (.pointer (some ⟨w.heap.size, 6, none⟩)), (.int .i64 (a.N)), (.int .i64 (s * a.N)), (.pointer (some ⟨w.heap.size, 0, none⟩)), (.int .i64 (a.A)), (.int .i64 ((s * a.N) * a.A)), (.int .i64 (s)), (.pointer (some ⟨w.heap.size, 3, none⟩)), (.int .i64 (a.D)), (.pointer (some ⟨w.heap.size, 2, none⟩)), (.int .i64 (a.C)), (.int .i64 (a.D * a.C)), (.pointer (some ⟨w.heap.size, 0, none⟩)), (.int .i64 (a.A)), (.pointer (some ⟨w.heap.size, 5, none⟩)), (.int .i64 (a.F)), (.int .i64 (a.A * a.F)), (.int .i64 (a.D * a.C - a.A * a.F)), (.int .i64 (s * (a.D * a.C - a.A * a.F))), (.int .i64 (s)), (.agg #[.int .i64 (a.A), .int .i64 (a.B), .int .i64 (a.C), .int .i64 (a.D), .int .i64 (a.E), .int .i64 (a.F), .int .i64 (a.N)]), (.int .i64 (dd)), (.int .i64 (s * dd)), (.agg #[.int .i64 ((s * a.N) * a.E), .int .i64 ((-s * a.N) * a.B), .int .i64 (s * (a.B * a.F - a.E * a.C)), .int .i64 ((-s * a.N) * a.D), .int .i64 ((s * a.N) * a.A), .int .i64 (s * (a.D * a.C - a.A * a.F)), .int .i64 (s * dd)]), (.tuple #[(.agg #[.int .i64 (iv.1.A), .int .i64 (iv.1.B), .int .i64 (iv.1.C), .int .i64 (iv.1.D), .int .i64 (iv.1.E), .int .i64 (iv.1.F), .int .i64 (iv.1.N)]), (.int .i64 (iv.2))]), (.agg #[.int .i64 (iv.1.A), .int .i64 (iv.1.B), .int .i64 (iv.1.C), .int .i64 (iv.1.D), .int .i64 (iv.1.E), .int .i64 (iv.1.F), .int .i64 (iv.1.N)]), (.int .i64 (iv.2)), (undef), (.int .i64 (iv.2))] : List Value).getD ii undef) (fun bb xx => Grow w xx ∧ xx.heap[w.heap.size]? = some (.cells #[.int .i64 a.A, .int .i64 a.B, .int .i64 a.C, .int .i64 a.D, .int .i64 a.E, .int .i64 a.F, .int .i64 a.N] 23 (0, 0)) ∧ xx.heap[w.heap.size + 1]? = some (cond bb (.cells #[.int .i64 iv.1.A, .int .i64 iv.1.B, .int .i64 iv.1.C, .int .i64 iv.1.D, .int .i64 iv.1.E, .int .i64 iv.1.F, .int .i64 iv.1.N] 23 (0, 0)) (.cells #[.int .i64 0, .int .i64 0, .int .i64 0, .int .i64 0, .int .i64 0, .int .i64 0, .int .i64 0] 23 (0, 0)))) ⟨hG.out.d, r1.out, r3.out⟩ ?_ ?_ ?_
      case hlit6 =>
        intro uu
        simp only [fill, Act.put, Nat.zero_add, Nat.reduceAdd, List.setIfInBounds_toArray, List.set_cons_zero, List.set_cons_succ]
        rfl
      · intro ii oo ho him uu xx bb hx hd
        replace hx := hSu bb xx hx
        have hi : ii < 66 := (List.getElem?_eq_some_iff.1 ho).1
        obtain rfl | rfl | rfl | rfl | rfl | rfl | rfl | rfl | rfl | rfl | rfl | rfl | rfl | rfl | rfl | rfl | rfl | rfl | rfl | rfl | rfl | rfl | rfl | rfl | rfl | rfl | rfl | rfl | rfl | rfl | rfl | rfl | rfl | rfl | rfl | rfl | rfl | rfl | rfl | rfl | rfl | rfl | rfl | rfl | rfl | rfl | rfl | rfl | rfl | rfl | rfl | rfl | rfl | rfl | rfl | rfl | rfl | rfl | rfl | rfl | rfl | rfl | rfl | rfl | rfl | rfl : ii = 0 ∨ ii = 1 ∨ ii = 2 ∨ ii = 3 ∨ ii = 4 ∨ ii = 5 ∨ ii = 6 ∨ ii = 7 ∨ ii = 8 ∨ ii = 9 ∨ ii = 10 ∨ ii = 11 ∨ ii = 12 ∨ ii = 13 ∨ ii = 14 ∨ ii = 15 ∨ ii = 16 ∨ ii = 17 ∨ ii = 18 ∨ ii = 19 ∨ ii = 20 ∨ ii = 21 ∨ ii = 22 ∨ ii = 23 ∨ ii = 24 ∨ ii = 25 ∨ ii = 26 ∨ ii = 27 ∨ ii = 28 ∨ ii = 29 ∨ ii = 30 ∨ ii = 31 ∨ ii = 32 ∨ ii = 33 ∨ ii = 34 ∨ ii = 35 ∨ ii = 36 ∨ ii = 37 ∨ ii = 38 ∨ ii = 39 ∨ ii = 40 ∨ ii = 41 ∨ ii = 42 ∨ ii = 43 ∨ ii = 44 ∨ ii = 45 ∨ ii = 46 ∨ ii = 47 ∨ ii = 48 ∨ ii = 49 ∨ ii = 50 ∨ ii = 51 ∨ ii = 52 ∨ ii = 53 ∨ ii = 54 ∨ ii = 55 ∨ ii = 56 ∨ ii = 57 ∨ ii = 58 ∨ ii = 59 ∨ ii = 60 ∨ ii = 61 ∨ ii = 62 ∨ ii = 63 ∨ ii = 64 ∨ ii = 65 := by omega
        · simp only [List.getElem?_cons_zero, Option.some.injEq] at ho; subst ho
          exact .inl (run_mv _ rfl rfl)
        · simp only [List.getElem?_cons_succ, List.getElem?_cons_zero, Option.some.injEq] at ho; subst ho
          exact .inl (run_fa23 _ 6 rfl (by omega) rfl)
        · simp only [List.getElem?_cons_succ, List.getElem?_cons_zero, Option.some.injEq] at ho; subst ho
          have q1 : uu 1 = (.pointer (some ⟨w.heap.size, 6, none⟩)) := hd 1 (by kernel_rfl)
          exact .inl (run_ld3 _ _ rfl q1 (by rw [cell_of_row xx _ 6 _ _ _ (hx.2.1)]; rfl))
        · simp only [List.getElem?_cons_succ, List.getElem?_cons_zero, Option.some.injEq] at ho; subst ho
          have q1 : uu 0 = (.int .i64 (s)) := hd 0 (by kernel_rfl)
          have q2 : uu 2 = (.int .i64 (a.N)) := hd 2 (by kernel_rfl)
          exact .inl (run_mul _ _ rfl q1 q2 e0)
        · simp only [List.getElem?_cons_succ, List.getElem?_cons_zero, Option.some.injEq] at ho; subst ho
          exact .inl (run_fa23 _ 4 rfl (by omega) rfl)
        · simp only [List.getElem?_cons_succ, List.getElem?_cons_zero, Option.some.injEq] at ho; subst ho
          have q1 : uu 4 = (.pointer (some ⟨w.heap.size, 4, none⟩)) := hd 4 (by kernel_rfl)
          exact .inl (run_ld3 _ _ rfl q1 (by rw [cell_of_row xx _ 4 _ _ _ (hx.2.1)]; rfl))
        · simp only [List.getElem?_cons_succ, List.getElem?_cons_zero, Option.some.injEq] at ho; subst ho
          have q1 : uu 3 = (.int .i64 (s * a.N)) := hd 3 (by kernel_rfl)
          have q2 : uu 5 = (.int .i64 (a.E)) := hd 5 (by kernel_rfl)
          exact .inl (run_mul _ _ rfl q1 q2 e1)
        · simp only [List.getElem?_cons_succ, List.getElem?_cons_zero, Option.some.injEq] at ho; subst ho
          exact .inl (run_mv _ rfl rfl)
        · simp only [List.getElem?_cons_succ, List.getElem?_cons_zero, Option.some.injEq] at ho; subst ho
          have q1 : uu 7 = (.int .i64 (s)) := hd 7 (by kernel_rfl)
          exact .inl (run_neg _ rfl q1 e2)
        · simp only [List.getElem?_cons_succ, List.getElem?_cons_zero, Option.some.injEq] at ho; subst ho
          exact .inl (run_fa23 _ 6 rfl (by omega) rfl)
        · simp only [List.getElem?_cons_succ, List.getElem?_cons_zero, Option.some.injEq] at ho; subst ho
          have q1 : uu 9 = (.pointer (some ⟨w.heap.size, 6, none⟩)) := hd 9 (by kernel_rfl)
          exact .inl (run_ld3 _ _ rfl q1 (by rw [cell_of_row xx _ 6 _ _ _ (hx.2.1)]; rfl))
        · simp only [List.getElem?_cons_succ, List.getElem?_cons_zero, Option.some.injEq] at ho; subst ho
          have q1 : uu 8 = (.int .i64 (-s)) := hd 8 (by kernel_rfl)
          have q2 : uu 10 = (.int .i64 (a.N)) := hd 10 (by kernel_rfl)
          exact .inl (run_mul _ _ rfl q1 q2 e3)
        · simp only [List.getElem?_cons_succ, List.getElem?_cons_zero, Option.some.injEq] at ho; subst ho
          exact .inl (run_fa23 _ 1 rfl (by omega) rfl)
        · simp only [List.getElem?_cons_succ, List.getElem?_cons_zero, Option.some.injEq] at ho; subst ho
          have q1 : uu 12 = (.pointer (some ⟨w.heap.size, 1, none⟩)) := hd 12 (by kernel_rfl)
          exact .inl (run_ld3 _ _ rfl q1 (by rw [cell_of_row xx _ 1 _ _ _ (hx.2.1)]; rfl))
        · simp only [List.getElem?_cons_succ, List.getElem?_cons_zero, Option.some.injEq] at ho; subst ho
          have q1 : uu 11 = (.int .i64 (-s * a.N)) := hd 11 (by kernel_rfl)
          have q2 : uu 13 = (.int .i64 (a.B)) := hd 13 (by kernel_rfl)
          exact .inl (run_mul _ _ rfl q1 q2 e4)
        · simp only [List.getElem?_cons_succ, List.getElem?_cons_zero, Option.some.injEq] at ho; subst ho
          exact .inl (run_mv _ rfl rfl)
        · simp only [List.getElem?_cons_succ, List.getElem?_cons_zero, Option.some.injEq] at ho; subst ho
          exact .inl (run_fa23 _ 1 rfl (by omega) rfl)
        · simp only [List.getElem?_cons_succ, List.getElem?_cons_zero, Option.some.injEq] at ho; subst ho
          have q1 : uu 16 = (.pointer (some ⟨w.heap.size, 1, none⟩)) := hd 16 (by kernel_rfl)
          exact .inl (run_ld3 _ _ rfl q1 (by rw [cell_of_row xx _ 1 _ _ _ (hx.2.1)]; rfl))
        · simp only [List.getElem?_cons_succ, List.getElem?_cons_zero, Option.some.injEq] at ho; subst ho
          exact .inl (run_fa23 _ 5 rfl (by omega) rfl)
        · simp only [List.getElem?_cons_succ, List.getElem?_cons_zero, Option.some.injEq] at ho; subst ho
          have q1 : uu 18 = (.pointer (some ⟨w.heap.size, 5, none⟩)) := hd 18 (by kernel_rfl)
          exact .inl (run_ld3 _ _ rfl q1 (by rw [cell_of_row xx _ 5 _ _ _ (hx.2.1)]; rfl))
        · simp only [List.getElem?_cons_succ, List.getElem?_cons_zero, Option.some.injEq] at ho; subst ho
          have q1 : uu 17 = (.int .i64 (a.B)) := hd 17 (by kernel_rfl)
          have q2 : uu 19 = (.int .i64 (a.F)) := hd 19 (by kernel_rfl)
          exact .inl (run_mul _ _ rfl q1 q2 e5)
        · simp only [List.getElem?_cons_succ, List.getElem?_cons_zero, Option.some.injEq] at ho; subst ho
          exact .inl (run_fa23 _ 4 rfl (by omega) rfl)
        · simp only [List.getElem?_cons_succ, List.getElem?_cons_zero, Option.some.injEq] at ho; subst ho
          have q1 : uu 21 = (.pointer (some ⟨w.heap.size, 4, none⟩)) := hd 21 (by kernel_rfl)
          exact .inl (run_ld3 _ _ rfl q1 (by rw [cell_of_row xx _ 4 _ _ _ (hx.2.1)]; rfl))
        · simp only [List.getElem?_cons_succ, List.getElem?_cons_zero, Option.some.injEq] at ho; subst ho
          exact .inl (run_fa23 _ 2 rfl (by omega) rfl)
        · simp only [List.getElem?_cons_succ, List.getElem?_cons_zero, Option.some.injEq] at ho; subst ho
          have q1 : uu 23 = (.pointer (some ⟨w.heap.size, 2, none⟩)) := hd 23 (by kernel_rfl)
          exact .inl (run_ld3 _ _ rfl q1 (by rw [cell_of_row xx _ 2 _ _ _ (hx.2.1)]; rfl))
        · simp only [List.getElem?_cons_succ, List.getElem?_cons_zero, Option.some.injEq] at ho; subst ho
          have q1 : uu 22 = (.int .i64 (a.E)) := hd 22 (by kernel_rfl)
          have q2 : uu 24 = (.int .i64 (a.C)) := hd 24 (by kernel_rfl)
          exact .inl (run_mul _ _ rfl q1 q2 e6)
        · simp only [List.getElem?_cons_succ, List.getElem?_cons_zero, Option.some.injEq] at ho; subst ho
          have q1 : uu 20 = (.int .i64 (a.B * a.F)) := hd 20 (by kernel_rfl)
          have q2 : uu 25 = (.int .i64 (a.E * a.C)) := hd 25 (by kernel_rfl)
          exact .inl (run_sub _ _ rfl q1 q2 e7)
        · simp only [List.getElem?_cons_succ, List.getElem?_cons_zero, Option.some.injEq] at ho; subst ho
          have q1 : uu 15 = (.int .i64 (s)) := hd 15 (by kernel_rfl)
          have q2 : uu 26 = (.int .i64 (a.B * a.F - a.E * a.C)) := hd 26 (by kernel_rfl)
          exact .inl (run_mul _ _ rfl q1 q2 e8)
        · simp only [List.getElem?_cons_succ, List.getElem?_cons_zero, Option.some.injEq] at ho; subst ho
          exact .inl (run_mv _ rfl rfl)
        · simp only [List.getElem?_cons_succ, List.getElem?_cons_zero, Option.some.injEq] at ho; subst ho
          have q1 : uu 28 = (.int .i64 (s)) := hd 28 (by kernel_rfl)
          exact .inl (run_neg _ rfl q1 e2)
        · simp only [List.getElem?_cons_succ, List.getElem?_cons_zero, Option.some.injEq] at ho; subst ho
          exact .inl (run_fa23 _ 6 rfl (by omega) rfl)
        · simp only [List.getElem?_cons_succ, List.getElem?_cons_zero, Option.some.injEq] at ho; subst ho
          have q1 : uu 30 = (.pointer (some ⟨w.heap.size, 6, none⟩)) := hd 30 (by kernel_rfl)
          exact .inl (run_ld3 _ _ rfl q1 (by rw [cell_of_row xx _ 6 _ _ _ (hx.2.1)]; rfl))
        · simp only [List.getElem?_cons_succ, List.getElem?_cons_zero, Option.some.injEq] at ho; subst ho
          have q1 : uu 29 = (.int .i64 (-s)) := hd 29 (by kernel_rfl)
          have q2 : uu 31 = (.int .i64 (a.N)) := hd 31 (by kernel_rfl)
          exact .inl (run_mul _ _ rfl q1 q2 e3)
        · simp only [List.getElem?_cons_succ, List.getElem?_cons_zero, Option.some.injEq] at ho; subst ho
          exact .inl (run_fa23 _ 3 rfl (by omega) rfl)
        · simp only [List.getElem?_cons_succ, List.getElem?_cons_zero, Option.some.injEq] at ho; subst ho
          have q1 : uu 33 = (.pointer (some ⟨w.heap.size, 3, none⟩)) := hd 33 (by kernel_rfl)
          exact .inl (run_ld3 _ _ rfl q1 (by rw [cell_of_row xx _ 3 _ _ _ (hx.2.1)]; rfl))
        · simp only [List.getElem?_cons_succ, List.getElem?_cons_zero, Option.some.injEq] at ho; subst ho
          have q1 : uu 32 = (.int .i64 (-s * a.N)) := hd 32 (by kernel_rfl)
          have q2 : uu 34 = (.int .i64 (a.D)) := hd 34 (by kernel_rfl)
          exact .inl (run_mul _ _ rfl q1 q2 e9)
        · simp only [List.getElem?_cons_succ, List.getElem?_cons_zero, Option.some.injEq] at ho; subst ho
          exact .inl (run_mv _ rfl rfl)
        · simp only [List.getElem?_cons_succ, List.getElem?_cons_zero, Option.some.injEq] at ho; subst ho
          exact .inl (run_fa23 _ 6 rfl (by omega) rfl)
        · simp only [List.getElem?_cons_succ, List.getElem?_cons_zero, Option.some.injEq] at ho; subst ho
          have q1 : uu 37 = (.pointer (some ⟨w.heap.size, 6, none⟩)) := hd 37 (by kernel_rfl)
          exact .inl (run_ld3 _ _ rfl q1 (by rw [cell_of_row xx _ 6 _ _ _ (hx.2.1)]; rfl))
        · simp only [List.getElem?_cons_succ, List.getElem?_cons_zero, Option.some.injEq] at ho; subst ho
          have q1 : uu 36 = (.int .i64 (s)) := hd 36 (by kernel_rfl)
          have q2 : uu 38 = (.int .i64 (a.N)) := hd 38 (by kernel_rfl)
          exact .inl (run_mul _ _ rfl q1 q2 e0)
        · simp only [List.getElem?_cons_succ, List.getElem?_cons_zero, Option.some.injEq] at ho; subst ho
          exact .inl (run_fa23 _ 0 rfl (by omega) rfl)
        · simp only [List.getElem?_cons_succ, List.getElem?_cons_zero, Option.some.injEq] at ho; subst ho
          have q1 : uu 40 = (.pointer (some ⟨w.heap.size, 0, none⟩)) := hd 40 (by kernel_rfl)
          exact .inl (run_ld3 _ _ rfl q1 (by rw [cell_of_row xx _ 0 _ _ _ (hx.2.1)]; rfl))
        · simp only [List.getElem?_cons_succ, List.getElem?_cons_zero, Option.some.injEq] at ho; subst ho
          have q1 : uu 39 = (.int .i64 (s * a.N)) := hd 39 (by kernel_rfl)
          have q2 : uu 41 = (.int .i64 (a.A)) := hd 41 (by kernel_rfl)
          exact .inl (run_mul _ _ rfl q1 q2 e10)
        · simp only [List.getElem?_cons_succ, List.getElem?_cons_zero, Option.some.injEq] at ho; subst ho
          exact .inl (run_mv _ rfl rfl)
        · simp only [List.getElem?_cons_succ, List.getElem?_cons_zero, Option.some.injEq] at ho; subst ho
          exact .inl (run_fa23 _ 3 rfl (by omega) rfl)
        · simp only [List.getElem?_cons_succ, List.getElem?_cons_zero, Option.some.injEq] at ho; subst ho
          have q1 : uu 44 = (.pointer (some ⟨w.heap.size, 3, none⟩)) := hd 44 (by kernel_rfl)
          exact .inl (run_ld3 _ _ rfl q1 (by rw [cell_of_row xx _ 3 _ _ _ (hx.2.1)]; rfl))
        · simp only [List.getElem?_cons_succ, List.getElem?_cons_zero, Option.some.injEq] at ho; subst ho
          exact .inl (run_fa23 _ 2 rfl (by omega) rfl)
        · simp only [List.getElem?_cons_succ, List.getElem?_cons_zero, Option.some.injEq] at ho; subst ho
          have q1 : uu 46 = (.pointer (some ⟨w.heap.size, 2, none⟩)) := hd 46 (by kernel_rfl)
          exact .inl (run_ld3 _ _ rfl q1 (by rw [cell_of_row xx _ 2 _ _ _ (hx.2.1)]; rfl))
        · simp only [List.getElem?_cons_succ, List.getElem?_cons_zero, Option.some.injEq] at ho; subst ho
          have q1 : uu 45 = (.int .i64 (a.D)) := hd 45 (by kernel_rfl)
          have q2 : uu 47 = (.int .i64 (a.C)) := hd 47 (by kernel_rfl)
          exact .inl (run_mul _ _ rfl q1 q2 e11)
        · simp only [List.getElem?_cons_succ, List.getElem?_cons_zero, Option.some.injEq] at ho; subst ho
          exact .inl (run_fa23 _ 0 rfl (by omega) rfl)
        · simp only [List.getElem?_cons_succ, List.getElem?_cons_zero, Option.some.injEq] at ho; subst ho
          have q1 : uu 49 = (.pointer (some ⟨w.heap.size, 0, none⟩)) := hd 49 (by kernel_rfl)
          exact .inl (run_ld3 _ _ rfl q1 (by rw [cell_of_row xx _ 0 _ _ _ (hx.2.1)]; rfl))
        · simp only [List.getElem?_cons_succ, List.getElem?_cons_zero, Option.some.injEq] at ho; subst ho
          exact .inl (run_fa23 _ 5 rfl (by omega) rfl)
        · simp only [List.getElem?_cons_succ, List.getElem?_cons_zero, Option.some.injEq] at ho; subst ho
          have q1 : uu 51 = (.pointer (some ⟨w.heap.size, 5, none⟩)) := hd 51 (by kernel_rfl)
          exact .inl (run_ld3 _ _ rfl q1 (by rw [cell_of_row xx _ 5 _ _ _ (hx.2.1)]; rfl))
        · simp only [List.getElem?_cons_succ, List.getElem?_cons_zero, Option.some.injEq] at ho; subst ho
          have q1 : uu 50 = (.int .i64 (a.A)) := hd 50 (by kernel_rfl)
          have q2 : uu 52 = (.int .i64 (a.F)) := hd 52 (by kernel_rfl)
          exact .inl (run_mul _ _ rfl q1 q2 e12)
        · simp only [List.getElem?_cons_succ, List.getElem?_cons_zero, Option.some.injEq] at ho; subst ho
          have q1 : uu 48 = (.int .i64 (a.D * a.C)) := hd 48 (by kernel_rfl)
          have q2 : uu 53 = (.int .i64 (a.A * a.F)) := hd 53 (by kernel_rfl)
          exact .inl (run_sub _ _ rfl q1 q2 e13)
        · simp only [List.getElem?_cons_succ, List.getElem?_cons_zero, Option.some.injEq] at ho; subst ho
          have q1 : uu 43 = (.int .i64 (s)) := hd 43 (by kernel_rfl)
          have q2 : uu 54 = (.int .i64 (a.D * a.C - a.A * a.F)) := hd 54 (by kernel_rfl)
          exact .inl (run_mul _ _ rfl q1 q2 e14)
        · simp only [List.getElem?_cons_succ, List.getElem?_cons_zero, Option.some.injEq] at ho; subst ho
          exact .inl (run_mv _ rfl rfl)
        · simp only [List.getElem?_cons_succ, List.getElem?_cons_zero, Option.some.injEq] at ho; subst ho
          exact .inl (run_ld23 _ _ _ _ _ _ _ _ rfl rfl (hx.2.1))
        · simp only [List.getElem?_cons_succ, List.getElem?_cons_zero, Option.some.injEq] at ho; subst ho
          have q1 : uu 57 = (.agg #[.int .i64 (a.A), .int .i64 (a.B), .int .i64 (a.C), .int .i64 (a.D), .int .i64 (a.E), .int .i64 (a.F), .int .i64 (a.N)]) := hd 57 (by kernel_rfl)
          exact .inr ⟨43, _, run_c43 _ rfl rfl q1, (HD.out _).mono fun e x h => ⟨h.1, ⟨hx.1.trans h.2, h.2.block hx.2.1, h.2.block hx.2.2⟩⟩⟩
        · simp only [List.getElem?_cons_succ, List.getElem?_cons_zero, Option.some.injEq] at ho; subst ho
          have q1 : uu 56 = (.int .i64 (s)) := hd 56 (by kernel_rfl)
          have q2 : uu 58 = (.int .i64 (dd)) := hd 58 (by kernel_rfl)
          exact .inl (run_mul _ _ rfl q1 q2 e15)
        · simp only [List.getElem?_cons_succ, List.getElem?_cons_zero, Option.some.injEq] at ho; subst ho
          have q1 : uu 6 = (.int .i64 ((s * a.N) * a.E)) := hd 6 (by kernel_rfl)
          have q2 : uu 14 = (.int .i64 ((-s * a.N) * a.B)) := hd 14 (by kernel_rfl)
          have q3 : uu 27 = (.int .i64 (s * (a.B * a.F - a.E * a.C))) := hd 27 (by kernel_rfl)
          have q4 : uu 35 = (.int .i64 ((-s * a.N) * a.D)) := hd 35 (by kernel_rfl)
          have q5 : uu 42 = (.int .i64 ((s * a.N) * a.A)) := hd 42 (by kernel_rfl)
          have q6 : uu 55 = (.int .i64 (s * (a.D * a.C - a.A * a.F))) := hd 55 (by kernel_rfl)
          have q7 : uu 59 = (.int .i64 (s * dd)) := hd 59 (by kernel_rfl)
          exact .inl (run_bld23 _ _ _ _ _ _ _ rfl q1 q2 q3 q4 q5 q6 q7)
        · simp only [List.getElem?_cons_succ, List.getElem?_cons_zero, Option.some.injEq] at ho; subst ho
          have q1 : uu 60 = (.agg #[.int .i64 ((s * a.N) * a.E), .int .i64 ((-s * a.N) * a.B), .int .i64 (s * (a.B * a.F - a.E * a.C)), .int .i64 ((-s * a.N) * a.D), .int .i64 ((s * a.N) * a.A), .int .i64 (s * (a.D * a.C - a.A * a.F)), .int .i64 (s * dd)]) := hd 60 (by kernel_rfl)
          exact .inr ⟨42, _, run_c42 _ rfl rfl q1, (HC.out _).mono fun e x h => ⟨h.1, ⟨hx.1.trans h.2, h.2.block hx.2.1, h.2.block hx.2.2⟩⟩⟩
        · simp only [List.getElem?_cons_succ, List.getElem?_cons_zero, Option.some.injEq] at ho; subst ho
          have q1 : uu 61 = (.tuple #[(.agg #[.int .i64 (iv.1.A), .int .i64 (iv.1.B), .int .i64 (iv.1.C), .int .i64 (iv.1.D), .int .i64 (iv.1.E), .int .i64 (iv.1.F), .int .i64 (iv.1.N)]), (.int .i64 (iv.2))]) := hd 61 (by kernel_rfl)
          exact .inl (run_ext0 _ _ rfl q1)
        · simp only [List.getElem?_cons_succ, List.getElem?_cons_zero, Option.some.injEq] at ho; subst ho
          have q1 : uu 61 = (.tuple #[(.agg #[.int .i64 (iv.1.A), .int .i64 (iv.1.B), .int .i64 (iv.1.C), .int .i64 (iv.1.D), .int .i64 (iv.1.E), .int .i64 (iv.1.F), .int .i64 (iv.1.N)]), (.int .i64 (iv.2))]) := hd 61 (by kernel_rfl)
          exact .inl (run_ext1 _ _ rfl q1)
        · exact absurd rfl him
        · simp only [List.getElem?_cons_succ, List.getElem?_cons_zero, Option.some.injEq] at ho; subst ho
          have q1 : uu 63 = (.int .i64 (iv.2)) := hd 63 (by kernel_rfl)
          exact .inl (run_asg _ rfl q1)
      · intro oo ho
        refine ⟨rfl, fun uu xx hx hd => ?_⟩
        replace hx := hSu false xx hx
        simp only [List.getElem?_cons_succ, List.getElem?_cons_zero, Option.some.injEq] at ho; subst ho
        have q1 : uu 62 = (.agg #[.int .i64 (iv.1.A), .int .i64 (iv.1.B), .int .i64 (iv.1.C), .int .i64 (iv.1.D), .int .i64 (iv.1.E), .int .i64 (iv.1.F), .int .i64 (iv.1.N)]) := hd 62 (by kernel_rfl)
        exact ⟨_, run_st23 _ _ _ _ _ _ _ _ _ _ _ _ _ _ _ rfl rfl q1 hx.2.2, grow7 hx.1 (by omega) _ _ _ _ _ _ _, (other7 (by omega) _ _ _ _ _ _ _).trans hx.2.1, cells7 hx.2.2 _ _ _ _ _ _ _⟩
      · intro xx hx
        replace hx := hSu _ xx hx
        have r4 : xx.heap[w.heap.size + 1]? = some (.cells #[.int .i64 iv.1.A, .int .i64 iv.1.B, .int .i64 iv.1.C, .int .i64 iv.1.D, .int .i64 iv.1.E, .int .i64 iv.1.F, .int .i64 iv.1.N] 23 (0, 0)) := hx.2.2
        have hG2 := Lib.hid hx.1
        clear hx
        have d0 : xx.cell? ⟨w.heap.size + 1, 0, none⟩ = some (.int .i64 iv.1.A) := by rw [cell_of_row xx _ 0 _ _ _ r4]; rfl
        have d1 : xx.cell? ⟨w.heap.size + 1, 1, none⟩ = some (.int .i64 iv.1.B) := by rw [cell_of_row xx _ 1 _ _ _ r4]; rfl
        have d2 : xx.cell? ⟨w.heap.size + 1, 2, none⟩ = some (.int .i64 iv.1.C) := by rw [cell_of_row xx _ 2 _ _ _ r4]; rfl
        have d3 : xx.cell? ⟨w.heap.size + 1, 3, none⟩ = some (.int .i64 iv.1.D) := by rw [cell_of_row xx _ 3 _ _ _ r4]; rfl
        have d4 : xx.cell? ⟨w.heap.size + 1, 4, none⟩ = some (.int .i64 iv.1.E) := by rw [cell_of_row xx _ 4 _ _ _ r4]; rfl
        have d5 : xx.cell? ⟨w.heap.size + 1, 5, none⟩ = some (.int .i64 iv.1.F) := by rw [cell_of_row xx _ 5 _ _ _ r4]; rfl
        have d6 : xx.cell? ⟨w.heap.size + 1, 6, none⟩ = some (.int .i64 iv.1.N) := by rw [cell_of_row xx _ 6 _ _ _ r4]; rfl
        have fd0 := frozen_of_row xx (w.heap.size + 1) 0 _ _ r4
        have fd1 := frozen_of_row xx (w.heap.size + 1) 1 _ _ r4
        have fd2 := frozen_of_row xx (w.heap.size + 1) 2 _ _ r4
        have fd3 := frozen_of_row xx (w.heap.size + 1) 3 _ _ r4
        have fd4 := frozen_of_row xx (w.heap.size + 1) 4 _ _ r4
        have fd5 := frozen_of_row xx (w.heap.size + 1) 5 _ _ r4
        have fd6 := frozen_of_row xx (w.heap.size + 1) 6 _ _ r4
        replace r4 := Lib.hid r4
        go_wp2
        refine bodyPost_ret (results_cell23e rfl _ (w.heap.size + 1) _ _ _ _ _ _ _ _ _ rfl rfl r4.out) rfl ⟨rfl, hG2.out⟩
end Go.Proofs.Ytmfmnoajihiidaa
