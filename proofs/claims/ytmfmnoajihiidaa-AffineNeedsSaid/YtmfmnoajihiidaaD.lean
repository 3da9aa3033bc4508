/- A placement in memory; walk of lowest. Printed by genLow.py. -/
import Derived.Test.YtmfmnoajihiidaaC
import Derived.Test.YtmfmnoajihiidaaJ3
set_option linter.unusedVariables false
namespace Go.Proofs.Ytmfmnoajihiidaa
open Go.RowKit
theorem cells7 {y : World} {g : Nat} {a0 a1 a2 a3 a4 a5 a6 : Value} (h : y.heap[g]? = some (.cells #[a0, a1, a2, a3, a4, a5, a6] 23 (0, 0))) (u0 u1 u2 u3 u4 u5 u6 : Value) :
    (((((((y.setCell ⟨g, 0, none⟩ u0).setCell ⟨g, 1, none⟩ u1).setCell ⟨g, 2, none⟩ u2).setCell ⟨g, 3, none⟩ u3).setCell ⟨g, 4, none⟩ u4).setCell ⟨g, 5, none⟩ u5).setCell ⟨g, 6, none⟩ u6).heap[g]? = some (.cells #[u0, u1, u2, u3, u4, u5, u6] 23 (0, 0)) := by
  rw [heap_setCell_same _ _ _ _ _ _ (heap_setCell_same _ _ _ _ _ _ (heap_setCell_same _ _ _ _ _ _ (heap_setCell_same _ _ _ _ _ _ (heap_setCell_same _ _ _ _ _ _ (heap_setCell_same _ _ _ _ _ _ (heap_setCell_same _ _ _ _ _ _ h))))))]
  rfl
theorem grow7 {w y : World} {g : Nat} (h : Grow w y) (hg : w.heap.size ≤ g) (u0 u1 u2 u3 u4 u5 u6 : Value) : Grow w (((((((y.setCell ⟨g, 0, none⟩ u0).setCell ⟨g, 1, none⟩ u1).setCell ⟨g, 2, none⟩ u2).setCell ⟨g, 3, none⟩ u3).setCell ⟨g, 4, none⟩ u4).setCell ⟨g, 5, none⟩ u5).setCell ⟨g, 6, none⟩ u6) := by
  have s : ∀ (z : World) (i : Nat) (v : Value), Below w.heap.size w z → Below w.heap.size w (z.setCell ⟨g, i, none⟩ v) := fun z i v hz => hz.setCell (p := ⟨g, i, none⟩) hg v
  exact s _ _ _ (s _ _ _ (s _ _ _ (s _ _ _ (s _ _ _ (s _ _ _ (s _ _ _ h))))))
theorem results_cell23 {fn : Func} {t : Tmp} (h : fn.results = #[.cell t 23]) (tmps : Array Value) (g : Nat) (a0 a1 a2 a3 a4 a5 a6 : Value) (w : World) (ht : tmps[t]?.getD undef = .pointer (some ⟨g, 0, none⟩)) (hl : w.heap[g]? = some (.cells #[a0, a1, a2, a3, a4, a5, a6] 23 (0, 0))) :
    (results fn tmps).run Try.prog w = .ok (.agg #[a0, a1, a2, a3, a4, a5, a6]) w := by
  have c0 : w.cell? ⟨g, 0, none⟩ = some a0 := by rw [cell_of_row w _ 0 _ _ _ hl]; rfl
  have c1 : w.cell? ⟨g, 1, none⟩ = some a1 := by rw [cell_of_row w _ 1 _ _ _ hl]; rfl
  have c2 : w.cell? ⟨g, 2, none⟩ = some a2 := by rw [cell_of_row w _ 2 _ _ _ hl]; rfl
  have c3 : w.cell? ⟨g, 3, none⟩ = some a3 := by rw [cell_of_row w _ 3 _ _ _ hl]; rfl
  have c4 : w.cell? ⟨g, 4, none⟩ = some a4 := by rw [cell_of_row w _ 4 _ _ _ hl]; rfl
  have c5 : w.cell? ⟨g, 5, none⟩ = some a5 := by rw [cell_of_row w _ 5 _ _ _ hl]; rfl
  have c6 : w.cell? ⟨g, 6, none⟩ = some a6 := by rw [cell_of_row w _ 6 _ _ _ hl]; rfl
  simp [results, h, ht, asAddr, loadVar, loadCells, loadCellsFrom, Addr.add, c0, c1, c2, c3, c4, c5, c6]
theorem g_gl (a : Af) : a.g = gl [a.A, a.B, a.C, a.D, a.E, a.F, a.N] := by
  unfold Af.g gl
  simp only [List.foldl_cons, List.foldl_nil, Nat.gcd_zero_left]
def Sm (a : Af) (m : Nat) : Prop := a.A.natAbs ≤ m ∧ a.B.natAbs ≤ m ∧ a.C.natAbs ≤ m ∧ a.D.natAbs ≤ m ∧ a.E.natAbs ≤ m ∧ a.F.natAbs ≤ m ∧ a.N.natAbs ≤ m
theorem tdiv_bd (a : Int) (k : Nat) (m : Nat) (h : a.natAbs ≤ m) : (a.tdiv (k : Int)).natAbs ≤ m := by
  rw [Int.natAbs_tdiv]
  exact Nat.le_trans (Nat.div_le_self _ _) h

set_option maxRecDepth 100000 in
set_option maxHeartbeats 4000000 in
theorem lowest_any (a : Af) (hs : Sm a 1000000000000000000) (w : World) :
    Calls Try.prog 60 #[.agg #[.int .i64 a.A, .int .i64 a.B, .int .i64 a.C, .int .i64 a.D, .int .i64 a.E, .int .i64 a.F, .int .i64 a.N]] w fun e w' => e = .returned (.agg #[.int .i64 a.low.A, .int .i64 a.low.B, .int .i64 a.low.C, .int .i64 a.low.D, .int .i64 a.low.E, .int .i64 a.low.F, .int .i64 a.low.N]) ∧ Grow w w' := by
  obtain ⟨h1, h2, h3, h4, h5, h6, h7⟩ := hs
  have hlow : a.low = if a.g = 0 then a else a.quo a.g := rfl
  have hg := g_gl a
  have HG : Hid (∀ w : World, Calls Try.prog 75 #[.slice (some ⟨w.heap.size, 0, none⟩) 7 7] (w.alloc (.cells #[.int .i64 a.A, .int .i64 a.B, .int .i64 a.C, .int .i64 a.D, .int .i64 a.E, .int .i64 a.F, .int .i64 a.N] 3)) fun e w' => e = .returned (.int .i64 (gl [a.A, a.B, a.C, a.D, a.E, a.F, a.N] : Int)) ∧ Grow (w.alloc (.cells #[.int .i64 a.A, .int .i64 a.B, .int .i64 a.C, .int .i64 a.D, .int .i64 a.E, .int .i64 a.F, .int .i64 a.N] 3)) w') := Lib.hid fun w => gcd_any [a.A, a.B, a.C, a.D, a.E, a.F, a.N] (by simp) (by
    intro z hz
    simp only [List.mem_cons, List.not_mem_nil, or_false] at hz
    rcases hz with rfl | rfl | rfl | rfl | rfl | rfl | rfl <;> assumption) _ _ (heap_alloc_new _ _)
  rw [← hg] at HG
  have hgb : a.g ≤ 1000000000000000000 := by rw [hg]; exact gl_bd _ _ (by
    intro z hz
    simp only [List.mem_cons, List.not_mem_nil, or_false] at hz
    rcases hz with rfl | rfl | rfl | rfl | rfl | rfl | rfl <;> assumption)
  have q := fun (z : Int) (hz : z.natAbs ≤ 1000000000000000000) => tdiv_bd z a.g 1000000000000000000 hz
  have q0 := q a.A h1
  have q1 := q a.B h2
  have q2 := q a.C h3
  have q3 := q a.D h4
  have q4 := q a.E h5
  have q5 := q a.F h6
  have q6 := q a.N h7
  have hq : a.quo a.g = ⟨a.A.tdiv a.g, a.B.tdiv a.g, a.C.tdiv a.g, a.D.tdiv a.g, a.E.tdiv a.g, a.F.tdiv a.g, a.N.tdiv a.g⟩ := rfl
  generalize a.g = g at *
  generalize hlo : a.low = lo at *
  obtain ⟨A, B, C, D, E, F, N⟩ := a
  dsimp only at *
  clear q hg hlo
  replace hlow := Lib.hid hlow
  replace hq := Lib.hid hq
  go_enter Try.func60, Try.ntmps60
  go_wp2_with fail
  have hG := HG.out ((w.alloc (.cells #[.int .i64 A, .int .i64 B, .int .i64 C, .int .i64 D, .int .i64 E, .int .i64 F, .int .i64 N] 23)).alloc (.cells #[.int .i64 0, .int .i64 0, .int .i64 0, .int .i64 0, .int .i64 0, .int .i64 0, .int .i64 0] 23))
  rw [show ((w.alloc (.cells #[.int .i64 A, .int .i64 B, .int .i64 C, .int .i64 D, .int .i64 E, .int .i64 F, .int .i64 N] 23)).alloc (.cells #[.int .i64 0, .int .i64 0, .int .i64 0, .int .i64 0, .int .i64 0, .int .i64 0, .int .i64 0] 23)).heap.size = w.heap.size + 2 by simp] at hG
  refine hG.mono ?_
  rintro e x ⟨rfl, gx⟩
  have r1 : x.heap[w.heap.size]? = some (.cells #[.int .i64 A, .int .i64 B, .int .i64 C, .int .i64 D, .int .i64 E, .int .i64 F, .int .i64 N] 23 (0, 0)) := gx.block ((Grow.alloc _ _).block ((Grow.alloc _ _).block (heap_alloc_new _ _)))
  have r2 : x.heap[w.heap.size + 1]? = some (.cells #[.int .i64 0, .int .i64 0, .int .i64 0, .int .i64 0, .int .i64 0, .int .i64 0, .int .i64 0] 23 (0, 0)) := by
    refine gx.block ((Grow.alloc _ _).block ?_)
    have := heap_alloc_new (w.alloc (.cells #[.int .i64 A, .int .i64 B, .int .i64 C, .int .i64 D, .int .i64 E, .int .i64 F, .int .i64 N] 23)) (.cells #[.int .i64 0, .int .i64 0, .int .i64 0, .int .i64 0, .int .i64 0, .int .i64 0, .int .i64 0] 23)
    simpa using this
  have hGx : Hid (Grow w x) := Lib.hid ((((Grow.alloc w (.cells #[.int .i64 A, .int .i64 B, .int .i64 C, .int .i64 D, .int .i64 E, .int .i64 F, .int .i64 N] 23)).a (.cells #[.int .i64 0, .int .i64 0, .int .i64 0, .int .i64 0, .int .i64 0, .int .i64 0, .int .i64 0] 23)).a _).trans gx)
  have b0 : x.cell? ⟨w.heap.size, 0, none⟩ = some (.int .i64 A) := by rw [cell_of_row x _ 0 _ _ _ r1]; rfl
  have b1 : x.cell? ⟨w.heap.size, 1, none⟩ = some (.int .i64 B) := by rw [cell_of_row x _ 1 _ _ _ r1]; rfl
  have b2 : x.cell? ⟨w.heap.size, 2, none⟩ = some (.int .i64 C) := by rw [cell_of_row x _ 2 _ _ _ r1]; rfl
  have b3 : x.cell? ⟨w.heap.size, 3, none⟩ = some (.int .i64 D) := by rw [cell_of_row x _ 3 _ _ _ r1]; rfl
  have b4 : x.cell? ⟨w.heap.size, 4, none⟩ = some (.int .i64 E) := by rw [cell_of_row x _ 4 _ _ _ r1]; rfl
  have b5 : x.cell? ⟨w.heap.size, 5, none⟩ = some (.int .i64 F) := by rw [cell_of_row x _ 5 _ _ _ r1]; rfl
  have b6 : x.cell? ⟨w.heap.size, 6, none⟩ = some (.int .i64 N) := by rw [cell_of_row x _ 6 _ _ _ r1]; rfl
  have z0 : x.cell? ⟨w.heap.size + 1, 0, none⟩ = some (.int .i64 0) := by rw [cell_of_row x _ 0 _ _ _ r2]; rfl
  have z1 : x.cell? ⟨w.heap.size + 1, 1, none⟩ = some (.int .i64 0) := by rw [cell_of_row x _ 1 _ _ _ r2]; rfl
  have z2 : x.cell? ⟨w.heap.size + 1, 2, none⟩ = some (.int .i64 0) := by rw [cell_of_row x _ 2 _ _ _ r2]; rfl
  have z3 : x.cell? ⟨w.heap.size + 1, 3, none⟩ = some (.int .i64 0) := by rw [cell_of_row x _ 3 _ _ _ r2]; rfl
  have z4 : x.cell? ⟨w.heap.size + 1, 4, none⟩ = some (.int .i64 0) := by rw [cell_of_row x _ 4 _ _ _ r2]; rfl
  have z5 : x.cell? ⟨w.heap.size + 1, 5, none⟩ = some (.int .i64 0) := by rw [cell_of_row x _ 5 _ _ _ r2]; rfl
  have z6 : x.cell? ⟨w.heap.size + 1, 6, none⟩ = some (.int .i64 0) := by rw [cell_of_row x _ 6 _ _ _ r2]; rfl
  have f0 := frozen_of_row x (w.heap.size + 1) 0 _ _ r2
  have f1 := frozen_of_row x (w.heap.size + 1) 1 _ _ r2
  have f2 := frozen_of_row x (w.heap.size + 1) 2 _ _ r2
  have f3 := frozen_of_row x (w.heap.size + 1) 3 _ _ r2
  have f4 := frozen_of_row x (w.heap.size + 1) 4 _ _ r2
  have f5 := frozen_of_row x (w.heap.size + 1) 5 _ _ r2
  have f6 := frozen_of_row x (w.heap.size + 1) 6 _ _ r2
  clear HG hG gx r1
  replace r2 := Lib.hid r2
  by_cases hg0 : g = 0
  · have hl0 : lo = ⟨A, B, C, D, E, F, N⟩ := by rw [hlow.out, if_pos hg0]
    clear q0 q1 q2 q3 q4 q5 q6 hgb
    go_wp2
    refine bodyPost_ret (results_cell23 rfl _ (w.heap.size + 1) _ _ _ _ _ _ _ _ rfl (cells7 r2.out _ _ _ _ _ _ _)) rfl ⟨by rw [hl0], grow7 hGx.out (by omega) _ _ _ _ _ _ _⟩
  · have hl0 : lo = ⟨A.tdiv g, B.tdiv g, C.tdiv g, D.tdiv g, E.tdiv g, F.tdiv g, N.tdiv g⟩ := by rw [hlow.out, if_neg hg0, hq.out]
    have hgi : ¬ (g : Int) = 0 := by omega
    have hgi2 : ¬ (g : Int) = -1 := by omega
    go_upto_region 4 with fail
    refine wp_region_lastB2 (C := fun y => ∃ n, y = x.drewN n) rfl (by kernel_rfl) (by kernel_rfl) (by kernel_rfl) (by kernel_rfl) rfl rfl ⟨1, rfl⟩ ?_
    simp only [lastOp, List.dropLast, List.cons_append, List.nil_append]
    repeat (first
      | go_big_quiet_skip
      | (go_big_quiet_want; refine q_val ?_; apply Exists.intro; refine ⟨fun x hx => ?_, ?_⟩; (focus (obtain ⟨n, rfl⟩ := hx; go_simp <;> rfl)); simp only [Act.put, List.setIfInBounds_toArray, List.set_cons_zero, List.set_cons_succ]; go_big_quiet_on))
    refine wpQuiet_nil ?_
    rintro y ⟨nn, rfl⟩
    replace z0 : (x.drewN nn).cell? ⟨w.heap.size + 1, 0, none⟩ = some (.int .i64 0) := z0
    replace z1 : (x.drewN nn).cell? ⟨w.heap.size + 1, 1, none⟩ = some (.int .i64 0) := z1
    replace z2 : (x.drewN nn).cell? ⟨w.heap.size + 1, 2, none⟩ = some (.int .i64 0) := z2
    replace z3 : (x.drewN nn).cell? ⟨w.heap.size + 1, 3, none⟩ = some (.int .i64 0) := z3
    replace z4 : (x.drewN nn).cell? ⟨w.heap.size + 1, 4, none⟩ = some (.int .i64 0) := z4
    replace z5 : (x.drewN nn).cell? ⟨w.heap.size + 1, 5, none⟩ = some (.int .i64 0) := z5
    replace z6 : (x.drewN nn).cell? ⟨w.heap.size + 1, 6, none⟩ = some (.int .i64 0) := z6
    replace f0 : (x.drewN nn).frozen? ⟨w.heap.size + 1, 0, none⟩ = false := f0
    replace f1 : (x.drewN nn).frozen? ⟨w.heap.size + 1, 1, none⟩ = false := f1
    replace f2 : (x.drewN nn).frozen? ⟨w.heap.size + 1, 2, none⟩ = false := f2
    replace f3 : (x.drewN nn).frozen? ⟨w.heap.size + 1, 3, none⟩ = false := f3
    replace f4 : (x.drewN nn).frozen? ⟨w.heap.size + 1, 4, none⟩ = false := f4
    replace f5 : (x.drewN nn).frozen? ⟨w.heap.size + 1, 5, none⟩ = false := f5
    replace f6 : (x.drewN nn).frozen? ⟨w.heap.size + 1, 6, none⟩ = false := f6
    replace r2 := Lib.hid (show (x.drewN nn).heap[w.heap.size + 1]? = _ from r2.out)
    replace hGx := Lib.hid (show Grow w (x.drewN nn) from hGx.out.trans ⟨rfl, rfl, rfl, Nat.le_refl _, fun _ _ => rfl⟩)
    clear b0 b1 b2 b3 b4 b5 b6
    generalize x.drewN nn = y at *
    go_wp2
    refine bodyPost_ret (results_cell23 rfl _ (w.heap.size + 1) _ _ _ _ _ _ _ _ rfl (cells7 r2.out _ _ _ _ _ _ _)) rfl ⟨by rw [hl0], grow7 hGx.out (by omega) _ _ _ _ _ _ _⟩

end Go.Proofs.Ytmfmnoajihiidaa
