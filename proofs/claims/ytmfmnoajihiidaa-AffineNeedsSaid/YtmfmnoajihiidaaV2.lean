/- Walks of low and high. Printed by genV2.py. -/
import Derived.Test.YtmfmnoajihiidaaU
set_option linter.unusedVariables false
namespace Go.Proofs.Ytmfmnoajihiidaa
open Go.RowKit
theorem low4_run (a b c d : Int) (w : World) : (Builtin.min_ #[3, 3, 3, 3] 3 #[.int .i64 a, .int .i64 b, .int .i64 c, .int .i64 d]).run Try.prog w = .ok (.int .i64 (Rct.mn (Rct.mn (Rct.mn a b) c) d)) w := by
  have h : ∀ x y : Int, ∀ w, (Builtin.min2 (.int .i64 x) (.int .i64 y)).run Try.prog w = .ok (.int .i64 (Rct.mn x y)) w := by
    intro x y w
    unfold Builtin.min2 Rct.mn
    by_cases h : y < x <;> simp [h]
  simp [Builtin.min_, h]
set_option maxRecDepth 100000 in
set_option maxHeartbeats 1000000 in
theorem low_any (a b c d : Int) (g cap : Nat) (w : World) (h0 : w.cell? ⟨g, 0, none⟩ = some (.int .i64 a)) (h1 : w.cell? ⟨g, 1, none⟩ = some (.int .i64 b)) (h2 : w.cell? ⟨g, 2, none⟩ = some (.int .i64 c)) (h3 : w.cell? ⟨g, 3, none⟩ = some (.int .i64 d)) :
    Calls Try.prog 56 #[.slice (some ⟨g, 0, none⟩) 4 cap] w fun e w' => e = .returned (.int .i64 (Rct.mn (Rct.mn (Rct.mn a b) c) d)) ∧ Grow w w' := by
  have hm := low4_run a b c d
  generalize Rct.mn (Rct.mn (Rct.mn a b) c) d = r at *
  have hcell : ∀ x, (∃ n, x = w.drewN n) → x.cell? ⟨g, 0, none⟩ = some (.int .i64 a) ∧ x.cell? ⟨g, 1, none⟩ = some (.int .i64 b) ∧ x.cell? ⟨g, 2, none⟩ = some (.int .i64 c) ∧ x.cell? ⟨g, 3, none⟩ = some (.int .i64 d) := by
    rintro x ⟨n, rfl⟩
    exact ⟨h0, h1, h2, h3⟩
  replace hcell := Lib.hid hcell
  clear h0 h1 h2 h3
  go_enter Try.func56, Try.ntmps56
  go_upto_region 1 with fail
  refine q_region (C := fun x => ∃ n, x = w.drewN n) rfl (by kernel_rfl) ⟨1, rfl⟩ ?_
  repeat (first
    | go_big_quiet_skip
    | (go_big_quiet_want; refine q_val ?_; apply Exists.intro; refine ⟨fun x hx => ?_, ?_⟩; (focus (obtain ⟨c0, c1, c2, c3⟩ := hcell.out x hx; go_simp <;> rfl)); simp only [Act.put, List.setIfInBounds_toArray, List.set_cons_zero, List.set_cons_succ]; go_big_quiet_on))
  refine wpQuiet_nil ?_
  rintro x ⟨n, rfl⟩
  clear hcell hm
  go_wp2
  go_ret
  refine ⟨rfl, (Grow.refl _).dN n⟩
theorem high4_run (a b c d : Int) (w : World) : (Builtin.max_ #[3, 3, 3, 3] 3 #[.int .i64 a, .int .i64 b, .int .i64 c, .int .i64 d]).run Try.prog w = .ok (.int .i64 (Rct.mx (Rct.mx (Rct.mx a b) c) d)) w := by
  have h : ∀ x y : Int, ∀ w, (Builtin.max2 (.int .i64 x) (.int .i64 y)).run Try.prog w = .ok (.int .i64 (Rct.mx x y)) w := by
    intro x y w
    unfold Builtin.max2 Rct.mx
    by_cases h : x < y <;> simp [h]
  simp [Builtin.max_, h]
set_option maxRecDepth 100000 in
set_option maxHeartbeats 1000000 in
theorem high_any (a b c d : Int) (g cap : Nat) (w : World) (h0 : w.cell? ⟨g, 0, none⟩ = some (.int .i64 a)) (h1 : w.cell? ⟨g, 1, none⟩ = some (.int .i64 b)) (h2 : w.cell? ⟨g, 2, none⟩ = some (.int .i64 c)) (h3 : w.cell? ⟨g, 3, none⟩ = some (.int .i64 d)) :
    Calls Try.prog 57 #[.slice (some ⟨g, 0, none⟩) 4 cap] w fun e w' => e = .returned (.int .i64 (Rct.mx (Rct.mx (Rct.mx a b) c) d)) ∧ Grow w w' := by
  have hm := high4_run a b c d
  generalize Rct.mx (Rct.mx (Rct.mx a b) c) d = r at *
  have hcell : ∀ x, (∃ n, x = w.drewN n) → x.cell? ⟨g, 0, none⟩ = some (.int .i64 a) ∧ x.cell? ⟨g, 1, none⟩ = some (.int .i64 b) ∧ x.cell? ⟨g, 2, none⟩ = some (.int .i64 c) ∧ x.cell? ⟨g, 3, none⟩ = some (.int .i64 d) := by
    rintro x ⟨n, rfl⟩
    exact ⟨h0, h1, h2, h3⟩
  replace hcell := Lib.hid hcell
  clear h0 h1 h2 h3
  go_enter Try.func57, Try.ntmps57
  go_upto_region 1 with fail
  refine q_region (C := fun x => ∃ n, x = w.drewN n) rfl (by kernel_rfl) ⟨1, rfl⟩ ?_
  repeat (first
    | go_big_quiet_skip
    | (go_big_quiet_want; refine q_val ?_; apply Exists.intro; refine ⟨fun x hx => ?_, ?_⟩; (focus (obtain ⟨c0, c1, c2, c3⟩ := hcell.out x hx; go_simp <;> rfl)); simp only [Act.put, List.setIfInBounds_toArray, List.set_cons_zero, List.set_cons_succ]; go_big_quiet_on))
  refine wpQuiet_nil ?_
  rintro x ⟨n, rfl⟩
  clear hcell hm
  go_wp2
  go_ret
  refine ⟨rfl, (Grow.refl _).dN n⟩
end Go.Proofs.Ytmfmnoajihiidaa
