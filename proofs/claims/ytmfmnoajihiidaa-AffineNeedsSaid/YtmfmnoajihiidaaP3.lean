/- Runs of single operations: points, slices of integers. -/
import Derived.Test.YtmfmnoajihiidaaP2
import Derived.Test.YtmfmnoajihiidaaJ5
set_option linter.unusedVariables false
namespace Go.Proofs.Ytmfmnoajihiidaa
open Go.RowKit
theorem infoI : (Try.prog.info? 3).map (fun i => (i.zero, i.size, i.bytes)) = some (some (.int .i64 0), 1, 8) := by kernel_rfl
theorem und83 : Try.prog.underlying 83 = some (.slice 3) := by kernel_rfl
section
variable {o : Oper} {ρ : Operand → Value} {x : World} {y z : Operand}
theorem run_fa41 (g k : Nat) (ho : o.op = .fieldAddr 41 y k) (hk : k < 2) (hy : ρ y = .pointer (some ⟨g, 0, none⟩)) : (execOp ρ o).run Try.prog x = .ok (.value (.pointer (some ⟨g, k, none⟩))) x := by
  obtain rfl | rfl : k = 0 ∨ k = 1 := by omega
  all_goals (unfold execOp; rw [ho]; simp only [hy]; go_simp; first | done | rfl)
theorem run_ld83 (g : Nat) (v : Value) (ho : o.op = .load 83 y) (hy : ρ y = .pointer (some ⟨g, 0, none⟩)) (h : x.heap[g]? = some (.cells #[v] 83 (0, 0))) : (execOp ρ o).run Try.prog x = .ok (.value v) x := by
  have c0 : x.cell? ⟨g, 0, none⟩ = some v := by rw [cell_of_row x _ 0 _ _ _ h]; rfl
  clear h
  unfold execOp; rw [ho]; simp only [hy]; go_simp
theorem run_bs83 (n : Int) (ho : o.op = .buildSlice 83 1 #[(0, z)]) (hz : ρ z = .int .i64 n) : (execOp ρ o).run Try.prog x = .ok (.value (.slice (some ⟨x.heap.size, 0, none⟩) 1 1)) (x.alloc (.cells #[.int .i64 n] 3 (0, 0))) := by
  unfold execOp; rw [ho]; go_simp
theorem run_app83 {v t v' : Value} {x' : World} (ho : o.op = .call { callee := .builtin .append, args := #[y, z], argTypes := #[83, 83] }) (hy : ρ y = v) (hz : ρ z = t) (h : (Builtin.append_ #[83, 83] o.type #[v, t]).run Try.prog x = .ok v' x') : (execOp ρ o).run Try.prog x = .ok (.value v') x' := by
  unfold execOp; rw [ho]
  simp [resolve, invoke, builtin, hy, hz, h, Result.andThen]
theorem run_st83 (g : Nat) (c : Value) {v : Value} (hv : ∃ p n m, v = .slice p n m) (ho : o.op = .store 83 y z) (hy : ρ y = .pointer (some ⟨g, 0, none⟩)) (hz : ρ z = v) (h : x.heap[g]? = some (.cells #[c] 83 (0, 0))) : (execOp ρ o).run Try.prog x = .ok .skip (x.setCell ⟨g, 0, none⟩ v) := by
  obtain ⟨p, n, m, rfl⟩ := hv
  have c0 : x.cell? ⟨g, 0, none⟩ = some c := by rw [cell_of_row x _ 0 _ _ _ h]; rfl
  have f0 := frozen_of_row x g 0 _ _ h
  clear h
  unfold execOp; rw [ho]; simp only [hy, hz]; go_simp
end
end Go.Proofs.Ytmfmnoajihiidaa
