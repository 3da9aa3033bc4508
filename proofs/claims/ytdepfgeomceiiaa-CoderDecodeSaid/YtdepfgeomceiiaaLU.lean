/- What the laws' loops over bits need: the argument's cells, runs of single operations, sequences of bits. -/
import Derived.Test.YtdepfgeomceiiaaT
import Derived.Test.YtdepfgeomceiiaaJ4
import Derived.Test.YtdepfgeomceiiaaFlatP
import Derived.Deep.DeepCutAuto
import Derived.Deep.CutBlock
import Derived.Deep.LoopGhost
set_option linter.unusedVariables false
namespace Go.Proofs.Ytdepfgeomceiiaa
open Go.RowKit
section
variable {o : Oper} {ρ : Operand → Value} {x : World} {y z : Operand}
theorem run_ia36 (a : Addr) (n c i : Nat) (hi : i < n) (ho : o.op = .indexAddr 36 y z) (hy : ρ y = .slice (some a) n c) (hz : ρ z = .int .i64 (i : Int)) : (execOp ρ o).run Try.prog x = .ok (.value (.pointer (some (a.add (i * 2))))) x := by
  have h1 : (i : Int) < n := by omega
  unfold execOp; rw [ho]; simp only [hy, hz]; go_simp
theorem run_fa43_0 (p : Addr) (ho : o.op = .fieldAddr 43 y 0) (hy : ρ y = .pointer (some p)) : (execOp ρ o).run Try.prog x = .ok (.value (.pointer (some p))) x := by
  unfold execOp; rw [ho]; simp only [hy]; go_simp
theorem run_fa43_1 (p : Addr) (ho : o.op = .fieldAddr 43 y 1) (hy : ρ y = .pointer (some p)) : (execOp ρ o).run Try.prog x = .ok (.value (.pointer (some (p.add 1)))) x := by
  unfold execOp; rw [ho]; simp only [hy]; go_simp
theorem run_ld3 (p : Addr) (k : Int) (ho : o.op = .load 3 y) (hy : ρ y = .pointer (some p)) (hc : x.cell? p = some (.int .i64 k)) : (execOp ρ o).run Try.prog x = .ok (.value (.int .i64 k)) x := by
  unfold execOp; rw [ho]; simp only [hy]; go_simp
theorem run_mul (a b : Int) {t} (ho : o.op = .binOp .mul 3 y z t) (hy : ρ y = .int .i64 a) (hz : ρ z = .int .i64 b) : (execOp ρ o).run Try.prog x = .ok (.value (.int .i64 (IntKind.i64.wrap (a * b)))) x := by
  unfold execOp; rw [ho]; simp only [hy, hz]; go_simp
theorem run_add (a b : Int) {t} (ho : o.op = .binOp .add 3 y z t) (hy : ρ y = .int .i64 a) (hz : ρ z = .int .i64 b) : (execOp ρ o).run Try.prog x = .ok (.value (.int .i64 (IntKind.i64.wrap (a + b)))) x := by
  unfold execOp; rw [ho]; simp only [hy, hz]; go_simp
theorem run_and1 (a : Int) {t} (ho : o.op = .binOp .and 3 y (.const (.int .i64 1)) t) (hy : ρ y = .int .i64 a) (hz : ρ (.const (.int .i64 1)) = .int .i64 1) : (execOp ρ o).run Try.prog x = .ok (.value (.int .i64 (a % 2))) x := by
  have h := and_1 a
  unfold execOp; rw [ho]; simp only [hy, hz]; go_simp
theorem run_neq (a b : Int) {t} (ho : o.op = .binOp .neq 3 y z t) (hy : ρ y = .int .i64 a) (hz : ρ z = .int .i64 b) : (execOp ρ o).run Try.prog x = .ok (.value (.bool (a != b))) x := by
  unfold execOp; rw [ho]; simp only [hy, hz]; go_simp
theorem run_c21 {y1 y2 y3 : Operand} {t} (v1 v2 v3 : Value) (h0 : ρ (.func 21) = .func (.func 21) #[] #[]) (ho : o.op = .call { callee := .value (.func 21), args := #[y1, y2, y3], argTypes := t }) (h1 : ρ y1 = v1) (h2 : ρ y2 = v2) (h3 : ρ y3 = v3) : (execOp ρ o).run Try.prog x = .ok (.enter 21 #[v1, v2, v3]) x := by
  unfold execOp; rw [ho]; go_simp
theorem run_c22 {y1 y2 y3 : Operand} {t} (v1 v2 v3 : Value) (h0 : ρ (.func 22) = .func (.func 22) #[] #[]) (ho : o.op = .call { callee := .value (.func 22), args := #[y1, y2, y3], argTypes := t }) (h1 : ρ y1 = v1) (h2 : ρ y2 = v2) (h3 : ρ y3 = v3) : (execOp ρ o).run Try.prog x = .ok (.enter 22 #[v1, v2, v3]) x := by
  unfold execOp; rw [ho]; go_simp
theorem run_c28 {y1 y2 : Operand} {t} (v1 v2 : Value) (h0 : ρ (.func 28) = .func (.func 28) #[] #[]) (ho : o.op = .call { callee := .value (.func 28), args := #[y1, y2], argTypes := t }) (h1 : ρ y1 = v1) (h2 : ρ y2 = v2) : (execOp ρ o).run Try.prog x = .ok (.enter 28 #[v1, v2]) x := by
  unfold execOp; rw [ho]; go_simp
theorem run_c29 {y1 y2 : Operand} {t} (v1 v2 : Value) (h0 : ρ (.func 29) = .func (.func 29) #[] #[]) (ho : o.op = .call { callee := .value (.func 29), args := #[y1, y2], argTypes := t }) (h1 : ρ y1 = v1) (h2 : ρ y2 = v2) : (execOp ρ o).run Try.prog x = .ok (.enter 29 #[v1, v2]) x := by
  unfold execOp; rw [ho]; go_simp
end
theorem add_add (a : Addr) (m : Nat) : (a.add m).add 1 = a.add (m + 1) := by
  unfold Addr.add
  by_cases h : m = 0
  · subst h; simp
  · simp [h]; omega
theorem add_block (a : Addr) (m : Nat) : (a.add m).block = a.block := by
  unfold Addr.add; split <;> rfl
/-- The cells of the argument's i-th pair, as long as nothing old is touched. -/
theorem pair_cells {W : World} {a : Addr} {i : Nat} {k n : Int} (hb : a.block < W.heap.size) (h1 : W.cell? (a.add (i * 2)) = some (.int .i64 k)) (h2 : W.cell? (a.add (i * 2 + 1)) = some (.int .i64 n)) :
    (∀ x, Below W.heap.size W x → x.cell? (a.add (i * 2)) = some (.int .i64 k)) ∧ (∀ x, Below W.heap.size W x → x.cell? ((a.add (i * 2)).add 1) = some (.int .i64 n)) := by
  refine ⟨fun x hx => ?_, fun x hx => ?_⟩
  · rw [hx.cell (by rw [add_block]; exact hb)]; exact h1
  · rw [add_add, hx.cell (by rw [add_block]; exact hb)]; exact h2
/-- The first k bits in their contexts. -/
def sq (K N : Nat → Int) (i j : Nat) : List (Nat × Int) := (List.range' i j).map fun t => (cx (K t), N t % 2)
theorem sq_len (K N i j) : (sq K N i j).length = j := by simp [sq]
theorem sq_succ (K N : Nat → Int) (k : Nat) : sq K N 0 (k + 1) = sq K N 0 k ++ [(cx (K k), N k % 2)] := by
  unfold sq; rw [List.range'_concat, List.map_append]; simp
theorem sq_cons (K N : Nat → Int) (i j : Nat) : sq K N i (j + 1) = (cx (K i), N i % 2) :: sq K N (i + 1) j := by
  unfold sq; rw [List.range'_succ]; rfl
theorem sq_split (K N : Nat → Int) (i j : Nat) : sq K N 0 (i + j) = sq K N 0 i ++ sq K N i j := by
  unfold sq
  rw [← List.map_append]
  congr 1
  have := List.range'_append (s := 0) (m := i) (n := j) (step := 1)
  simpa using this.symm
theorem sq_bits (K N : Nat → Int) (i j : Nat) : M.Bits (sq K N i j) := by
  intro x hx
  unfold sq at hx
  obtain ⟨t, _, rfl⟩ := List.mem_map.1 hx
  show N t % 2 = 0 ∨ N t % 2 = 1
  omega
theorem sq_lt (K N : Nat → Int) (i j : Nat) : ∀ x ∈ sq K N i j, x.1 < 256 := by
  intro x hx
  unfold sq at hx
  obtain ⟨t, _, rfl⟩ := List.mem_map.1 hx
  exact cx_lt _
theorem runS_succ (K N : Nat → Int) (k : Nat) : M.runS M.start (sq K N 0 (k + 1)) = M.nxt (M.runS M.start (sq K N 0 k)) (cx (K k)) (N k % 2) := by
  rw [sq_succ, M.runS_append]; rfl
theorem runO_succ (K N : Nat → Int) (k : Nat) : M.runO M.start (sq K N 0 (k + 1)) = M.runO M.start (sq K N 0 k) ++ M.outB (M.runS M.start (sq K N 0 k)) (cx (K k)) (N k % 2) := by
  rw [sq_succ, M.runO_append]
  show _ ++ (M.outB _ _ _ ++ []) = _
  rw [List.append_nil]
theorem runO_sq_len (K N : Nat → Int) (k : Nat) : (M.runO M.start (sq K N 0 k)).length ≤ 4 * k := by
  have := M.runO_len (sq K N 0 k) M.start
  rwa [sq_len] at this
end Go.Proofs.Ytdepfgeomceiiaa
