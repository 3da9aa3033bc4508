/- Single operations of a frame that is not written out: a rectangle is loaded, a function of two arguments is called. -/
import Derived.Test.YtplnhmfkflnhpaaN
set_option linter.unusedVariables false
namespace Go.Proofs.Ytplnhmfkflnhpaa
open Go.RowKit
theorem wn {o : Oper} {y : Nat → Option Bool} (h : o.guard = none) : Region.wanted o y = true := by unfold Region.wanted; rw [h]
theorem run_loadR {o : Oper} {ρ : Operand → Value} {x : World} {y : Operand} (r : R) (g : Nat) (ho : o.op = .load 26 y) (hy : ρ y = .pointer (some ⟨g, 0, none⟩))
    (h0 : x.cell? ⟨g, 0, none⟩ = some (.int .i64 r.x0)) (h1 : x.cell? ⟨g, 1, none⟩ = some (.int .i64 r.y0)) (h2 : x.cell? ⟨g, 2, none⟩ = some (.int .i64 r.x1)) (h3 : x.cell? ⟨g, 3, none⟩ = some (.int .i64 r.y1)) :
    (execOp ρ o).run Try.prog x = .ok (.value (.agg #[.int .i64 r.x0, .int .i64 r.y0, .int .i64 r.x1, .int .i64 r.y1])) x := by
  unfold execOp; rw [ho]; simp only [hy]; go_simp
theorem run_assign1 {o : Oper} {ρ : Operand → Value} {x : World} {y : Operand} (v : Value) (ho : o.op = .assign y) (hy : ρ y = v) : (execOp ρ o).run Try.prog x = .ok (.value v) x := by
  unfold execOp; rw [ho]; simp only [hy]; go_simp
theorem run_call37 {o : Oper} {ρ : Operand → Value} {x : World} {y1 y2 : Operand} {ts : Array TypeId} (v1 v2 : Value) (ho : o.op = .call { callee := .value (.func 37), args := #[y1, y2], argTypes := ts }) (hf : ρ (.func 37) = .func (.func 37) #[] #[]) (h1 : ρ y1 = v1) (h2 : ρ y2 = v2) :
    (execOp ρ o).run Try.prog x = .ok (.enter 37 #[v1, v2]) x := by
  unfold execOp; rw [ho]; simp [resolve, hf, h1, h2, Deferred.ofValue, invoke, go_sem]
theorem run_call60 {o : Oper} {ρ : Operand → Value} {x : World} {y1 y2 : Operand} {ts : Array TypeId} (v1 v2 : Value) (ho : o.op = .call { callee := .value (.func 60), args := #[y1, y2], argTypes := ts }) (hf : ρ (.func 60) = .func (.func 60) #[] #[]) (h1 : ρ y1 = v1) (h2 : ρ y2 = v2) :
    (execOp ρ o).run Try.prog x = .ok (.enter 60 #[v1, v2]) x := by
  unfold execOp; rw [ho]; simp [resolve, hf, h1, h2, Deferred.ofValue, invoke, go_sem]
theorem run_call42 {o : Oper} {ρ : Operand → Value} {x : World} {y1 y2 : Operand} {ts : Array TypeId} (v1 v2 : Value) (ho : o.op = .call { callee := .value (.func 42), args := #[y1, y2], argTypes := ts }) (hf : ρ (.func 42) = .func (.func 42) #[] #[]) (h1 : ρ y1 = v1) (h2 : ρ y2 = v2) :
    (execOp ρ o).run Try.prog x = .ok (.enter 42 #[v1, v2]) x := by
  unfold execOp; rw [ho]; simp [resolve, hf, h1, h2, Deferred.ofValue, invoke, go_sem]
end Go.Proofs.Ytplnhmfkflnhpaa
