/- An argument that is a slice of structs of two ints: the slice's value, its cells. General over a program; no function is in sight. -/
import Derived.Test.YtdepfgeomceiiaaFlatS
import Derived.Test.YtdepfgeomceiiaaFlat
import Derived.Deep.SlicePairs
import Derived.OpenShut
namespace Go.Proofs.Ytdepfgeomceiiaa
open Go.WideShapes Go.ChangeShapes Go.Deep

section
variable {H : Type} {enc : TypeId × Value → H} {P : Program} {W : World} {base : Nat}
theorem row_lt2 {p Q : List MemPlace} {a : Addr} {n i : Nat} (hp : p = MemPlace.row a n ++ Q) (hi : i < n) (hlt : ∀ x ∈ p, x.block < W.heap.size) : a.block < W.heap.size := by
  obtain ⟨b, off, spot⟩ := a
  exact hlt (.cell b off) (by rw [hp]; exact List.mem_append_left _ (MemPlace.mem_row.2 ⟨0, by omega, by simp⟩))

theorem open_pair_slice {t e : TypeId} {f0 f1 : Field} {r : Reach} {b0 : Nat} {v : Value} {d : DataW H} {p : List MemPlace} (ht : P.underlying t = some (.slice e)) (he : P.underlying e = some (.struct #[f0, f1])) (ce : P.cellsOf e = 2) (o0 : f0.offset = 0) (o1 : f1.offset = 1) (c0 : P.cellsOf f0.type = 1) (c1 : P.cellsOf f1.type = 1)
    (h0 : P.underlying f0.type = some (.int .i64)) (h1 : P.underlying f1.type = some (.int .i64))
    (hv : Value.okWide P W r b0 t v) (h : DataW.Trod enc P W base (fun _ => true) true t v d p) (hlt : ∀ x ∈ p, x.block < W.heap.size) :
    ∃ (o : Option Addr) (n cap : Nat) (K : Nat → Int) (N : Nat → Int), v = .slice o n cap ∧ n ≤ cap ∧ (∀ i, i < n → (Lit.int .i64 (K i)).wf = true ∧ (Lit.int .i64 (N i)).wf = true) ∧
      (∀ i, i < n → ∃ a, o = some a ∧ a.block < W.heap.size ∧ W.cell? (a.add (i * 2)) = some (.int .i64 (K i)) ∧ W.cell? (a.add (i * 2 + 1)) = some (.int .i64 (N i))) ∧ (d = .nil ∧ n = 0 ∨ ∃ elems spare, d = .slice elems spare ∧ elems.length = n) := by
  obtain ⟨o, len, cap, rfl⟩ := okWide_slice ht hv
  obtain ⟨fuel, hf⟩ := h
  rcases open_slice_pairs ht he ce o0 o1 c0 c1 hf with ⟨hcs, hx⟩ | ⟨a, len', cap', m, n, V0, V1, D0, D1, P0, P1, hcs, _, hl, hm, hmm, hx, hcell⟩
  · simp [Value.cells] at hcs
    obtain ⟨rfl, rfl, rfl⟩ := hcs
    simp only [Prod.mk.injEq] at hx
    obtain ⟨rfl, rfl⟩ := hx
    exact ⟨none, 0, 0, fun _ => 0, fun _ => 0, rfl, Nat.le_refl _, fun i h => by omega, fun i h => by omega, Or.inl ⟨rfl, rfl⟩⟩
  · simp [Value.cells] at hcs
    obtain ⟨rfl, rfl, rfl⟩ := hcs
    simp only [Prod.mk.injEq] at hx
    obtain ⟨rfl, hp⟩ := hx
    simp only [if_true] at hmm
    have each : ∀ i, ∃ q : Int × Int, i < len → V0 i = .int .i64 q.1 ∧ V1 i = .int .i64 q.2 ∧ (Lit.int .i64 q.1).wf = true ∧ (Lit.int .i64 q.2).wf = true := by
      intro i
      by_cases hi : i < len
      · obtain ⟨_, _, h3, h4⟩ := hcell i (by omega)
        obtain ⟨x, hx1, _, hx2⟩ := DataW.trod_int h0 h3
        obtain ⟨y, hy1, _, hy2⟩ := DataW.trod_int h1 h4
        refine ⟨(x, y), fun _ => ⟨?_, ?_, hx2, hy2⟩⟩
        · simpa using hx1
        · simpa using hy1
      · exact ⟨(0, 0), fun h => absurd h hi⟩
    obtain ⟨q, hq⟩ := Classical.axiomOfChoice each
    refine ⟨some a, len, cap, fun i => (q i).1, fun i => (q i).2, rfl, hl, fun i hi => (hq i hi).2.2, fun i hi => ?_, Or.inr ⟨_, _, rfl, by simp⟩⟩
    obtain ⟨h5, h6, _, _⟩ := hcell i (by omega)
    exact ⟨a, rfl, row_lt2 hp (show i < m * 2 by omega) hlt, by rw [h5, (hq i hi).1], by rw [h6, (hq i hi).2.1]⟩
end
end Go.Proofs.Ytdepfgeomceiiaa
