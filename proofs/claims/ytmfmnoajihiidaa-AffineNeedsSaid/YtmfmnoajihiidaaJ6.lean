/- Runs of single operations: rectangles, calls. -/
import Derived.Test.YtmfmnoajihiidaaP4
set_option linter.unusedVariables false
namespace Go.Proofs.Ytmfmnoajihiidaa
open Go.RowKit
section
variable {o : Oper} {ρ : Operand → Value} {x : World} {y z : Operand}
theorem run_fa48 (g k : Nat) (ho : o.op = .fieldAddr 48 y k) (hk : k < 4) (hy : ρ y = .pointer (some ⟨g, 0, none⟩)) : (execOp ρ o).run Try.prog x = .ok (.value (.pointer (some ⟨g, k, none⟩))) x := by
  obtain rfl | rfl | rfl | rfl : k = 0 ∨ k = 1 ∨ k = 2 ∨ k = 3 := by omega
  all_goals (unfold execOp; rw [ho]; simp only [hy]; go_simp; first | done | rfl)
theorem run_bld48 {y0 y1 y2 y3 : Operand} (a0 a1 a2 a3 : Int) (ho : o.op = .build 48 #[(0, y0), (1, y1), (2, y2), (3, y3)]) (e0 : ρ y0 = .int .i64 a0) (e1 : ρ y1 = .int .i64 a1) (e2 : ρ y2 = .int .i64 a2) (e3 : ρ y3 = .int .i64 a3) : (execOp ρ o).run Try.prog x = .ok (.value (.agg #[.int .i64 a0, .int .i64 a1, .int .i64 a2, .int .i64 a3])) x := by
  unfold execOp; rw [ho]; go_simp
theorem run_bld41 {y0 y1 : Operand} (a0 a1 : Int) (ho : o.op = .build 41 #[(0, y0), (1, y1)]) (e0 : ρ y0 = .int .i64 a0) (e1 : ρ y1 = .int .i64 a1) : (execOp ρ o).run Try.prog x = .ok (.value (.agg #[.int .i64 a0, .int .i64 a1])) x := by
  unfold execOp; rw [ho]; go_simp
theorem run_st48 (g : Nat) (a0 a1 a2 a3 : Int) (z0 z1 z2 z3 : Value) (ho : o.op = .store 48 y z) (hy : ρ y = .pointer (some ⟨g, 0, none⟩)) (hz : ρ z = .agg #[.int .i64 a0, .int .i64 a1, .int .i64 a2, .int .i64 a3]) (h : x.heap[g]? = some (.cells #[z0, z1, z2, z3] 48 (0, 0))) :
    (execOp ρ o).run Try.prog x = .ok .skip ((((x.setCell ⟨g, 0, none⟩ (.int .i64 a0)).setCell ⟨g, 1, none⟩ (.int .i64 a1)).setCell ⟨g, 2, none⟩ (.int .i64 a2)).setCell ⟨g, 3, none⟩ (.int .i64 a3)) := by
  have c0 : x.cell? ⟨g, 0, none⟩ = some z0 := by rw [cell_of_row x _ 0 _ _ _ h]; rfl
  have c1 : x.cell? ⟨g, 1, none⟩ = some z1 := by rw [cell_of_row x _ 1 _ _ _ h]; rfl
  have c2 : x.cell? ⟨g, 2, none⟩ = some z2 := by rw [cell_of_row x _ 2 _ _ _ h]; rfl
  have c3 : x.cell? ⟨g, 3, none⟩ = some z3 := by rw [cell_of_row x _ 3 _ _ _ h]; rfl
  have f0 := frozen_of_row x g 0 _ _ h
  have f1 := frozen_of_row x g 1 _ _ h
  have f2 := frozen_of_row x g 2 _ _ h
  have f3 := frozen_of_row x g 3 _ _ h
  clear h
  unfold execOp; rw [ho]; simp only [hy, hz]; go_simp
theorem run_c45  {t}  (h0 : ρ (.func 45) = .func (.func 45) #[] #[]) (ho : o.op = .call { callee := .value (.func 45), args := #[], argTypes := t })  : (execOp ρ o).run Try.prog x = .ok (.enter 45 #[]) x := by
  unfold execOp; rw [ho]; go_simp
theorem run_c58 {y1 y2 : Operand} {t} (v1 v2 : Value) (h0 : ρ (.func 58) = .func (.func 58) #[] #[]) (ho : o.op = .call { callee := .value (.func 58), args := #[y1, y2], argTypes := t }) (h1 : ρ y1 = v1) (h2 : ρ y2 = v2) : (execOp ρ o).run Try.prog x = .ok (.enter 58 #[v1, v2]) x := by
  unfold execOp; rw [ho]; go_simp
theorem run_c69 {y1 y2 : Operand} {t} (v1 v2 : Value) (h0 : ρ (.func 69) = .func (.func 69) #[] #[]) (ho : o.op = .call { callee := .value (.func 69), args := #[y1, y2], argTypes := t }) (h1 : ρ y1 = v1) (h2 : ρ y2 = v2) : (execOp ρ o).run Try.prog x = .ok (.enter 69 #[v1, v2]) x := by
  unfold execOp; rw [ho]; go_simp
theorem run_c70 {y1 y2 : Operand} {t} (v1 v2 : Value) (h0 : ρ (.func 70) = .func (.func 70) #[] #[]) (ho : o.op = .call { callee := .value (.func 70), args := #[y1, y2], argTypes := t }) (h1 : ρ y1 = v1) (h2 : ρ y2 = v2) : (execOp ρ o).run Try.prog x = .ok (.enter 70 #[v1, v2]) x := by
  unfold execOp; rw [ho]; go_simp
theorem run_c65 {y1 y2 y3 : Operand} {t} (v1 v2 v3 : Value) (h0 : ρ (.func 65) = .func (.func 65) #[] #[]) (ho : o.op = .call { callee := .value (.func 65), args := #[y1, y2, y3], argTypes := t }) (h1 : ρ y1 = v1) (h2 : ρ y2 = v2) (h3 : ρ y3 = v3) : (execOp ρ o).run Try.prog x = .ok (.enter 65 #[v1, v2, v3]) x := by
  unfold execOp; rw [ho]; go_simp
theorem run_cv56 {y0 y1 : Operand} {t} (v1 : Value) (ho : o.op = .call { callee := .value y0, args := #[y1], argTypes := t }) (h0 : ρ y0 = .func (.func 56) #[] #[]) (h1 : ρ y1 = v1) : (execOp ρ o).run Try.prog x = .ok (.enter 56 #[v1]) x := by
  unfold execOp; rw [ho]; go_simp
theorem run_cv57 {y0 y1 : Operand} {t} (v1 : Value) (ho : o.op = .call { callee := .value y0, args := #[y1], argTypes := t }) (h0 : ρ y0 = .func (.func 57) #[] #[]) (h1 : ρ y1 = v1) : (execOp ρ o).run Try.prog x = .ok (.enter 57 #[v1]) x := by
  unfold execOp; rw [ho]; go_simp
theorem run_cv52 {y0 y1 : Operand} {t} (v1 c : Value) (ho : o.op = .call { callee := .value y0, args := #[y1], argTypes := t }) (h0 : ρ y0 = .func (.func 52) #[] #[c]) (h1 : ρ y1 = v1) : (execOp ρ o).run Try.prog x = .ok (.enter 52 #[v1, c]) x := by
  unfold execOp; rw [ho]; go_simp
theorem run_cv54 {y0 y1 : Operand} {t} (v1 c : Value) (ho : o.op = .call { callee := .value y0, args := #[y1], argTypes := t }) (h0 : ρ y0 = .func (.func 54) #[] #[c]) (h1 : ρ y1 = v1) : (execOp ρ o).run Try.prog x = .ok (.enter 54 #[v1, c]) x := by
  unfold execOp; rw [ho]; go_simp
end
end Go.Proofs.Ytmfmnoajihiidaa
