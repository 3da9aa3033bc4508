/- Arguments that are slices of integers or of strings: the slice's value, its cells, its reach. General over a program; no function is in sight. -/
import Derived.WalkKit
import Derived.ProofKit
import Derived.OpenShut
import Derived.SliceStrings
import Derived.SizedLaws
namespace Go.Proofs.Ytpdckpifhniioaa
open Go.WideShapes Go.ChangeShapes

section
variable {H : Type} {enc : TypeId × Value → H} {P : Program} {W : World} {base : Nat}
theorem row_lt {p : List MemPlace} {a : Addr} {n i : Nat} (hp : p = MemPlace.row a n) (hi : i < n) (hlt : ∀ x ∈ p, x.block < W.heap.size) : a.block < W.heap.size := by
  obtain ⟨b, off, spot⟩ := a
  exact hlt (.cell b off) (by rw [hp]; exact MemPlace.mem_row.2 ⟨0, by omega, by simp⟩)

/-- A slice of integers that came in. -/
theorem open_int_slice {t e : TypeId} {k : IntKind} {r : Reach} {b0 : Nat} {v : Value} {d : DataW H} {p : List MemPlace} (ht : P.underlying t = some (.slice e)) (he : P.underlying e = some (.int k)) (hc : P.cellsOf e = 1)
    (hv : Value.okWide P W r b0 t v) (h : DataW.Trod enc P W base (fun _ => true) true t v d p) (hlt : ∀ x ∈ p, x.block < W.heap.size) :
    ∃ (o : Option Addr) (n cap : Nat) (zs : List Int), v = .slice o n cap ∧ zs.length = n ∧ n ≤ cap ∧ (∀ z ∈ zs, (Lit.int k z).wf = true) ∧
      (∀ i (h : i < zs.length), ∃ a, o = some a ∧ a.block < W.heap.size ∧ W.cell? (a.add i) = some (.int k zs[i])) ∧ (d = .nil ∧ n = 0 ∨ ∃ elems spare, d = .slice elems spare ∧ elems.length = n) := by
  obtain ⟨o, len, cap, rfl⟩ := okWide_slice ht hv
  obtain ⟨fuel, hf⟩ := h
  rcases open_ints ht he hc hf with ⟨hcs, hx⟩ | ⟨a, len', cap', zs, hcs, _, hl, hm, hz, hx, hcell, hwz⟩
  · simp [Value.cells] at hcs
    obtain ⟨rfl, rfl, rfl⟩ := hcs
    simp only [Prod.mk.injEq] at hx
    obtain ⟨rfl, rfl⟩ := hx
    exact ⟨none, 0, 0, [], rfl, rfl, Nat.le_refl _, by simp, fun i h => by simp at h, Or.inl ⟨rfl, rfl⟩⟩
  · simp [Value.cells] at hcs
    obtain ⟨rfl, rfl, rfl⟩ := hcs
    simp only [Prod.mk.injEq] at hx
    obtain ⟨rfl, hp⟩ := hx
    simp only [if_true] at hz
    refine ⟨some a, len, cap, zs.take len, rfl, by rw [List.length_take]; omega, hl, fun z hzz => hwz z (List.mem_of_mem_take hzz), fun i hi => ?_, Or.inr ⟨_, _, rfl, by simp [lits]; omega⟩⟩
    rw [List.length_take] at hi
    refine ⟨a, rfl, row_lt hp (show i < zs.length by omega) hlt, ?_⟩
    rw [hcell i (by omega), List.getElem_take, List.getD_eq_getElem?_getD, List.getElem?_eq_getElem (by omega)]; rfl

/-- A slice of strings that came in. -/
theorem open_string_slice {t e : TypeId} {r : Reach} {b0 : Nat} {v : Value} {d : DataW H} {p : List MemPlace} (ht : P.underlying t = some (.slice e)) (he : P.underlying e = some .string) (hc : P.cellsOf e = 1)
    (hv : Value.okWide P W r b0 t v) (h : DataW.Trod enc P W base (fun _ => true) true t v d p) (hlt : ∀ x ∈ p, x.block < W.heap.size) :
    ∃ (o : Option Addr) (n cap : Nat) (ss : List ByteArray), v = .slice o n cap ∧ ss.length = n ∧ n ≤ cap ∧ (∀ s ∈ ss, s.size ≤ maxLen) ∧
      (∀ i (h : i < ss.length), ∃ a, o = some a ∧ a.block < W.heap.size ∧ W.cell? (a.add i) = some (.string ss[i])) ∧ (d = .nil ∧ n = 0 ∨ ∃ elems spare, d = .slice elems spare ∧ elems.length = n) := by
  obtain ⟨o, len, cap, rfl⟩ := okWide_slice ht hv
  obtain ⟨fuel, hf⟩ := h
  rcases open_strings ht he hc hf with ⟨hcs, hx⟩ | ⟨a, len', cap', zs, hcs, _, hl, hm, hz, hx, hcell, hwz⟩
  · simp [Value.cells] at hcs
    obtain ⟨rfl, rfl, rfl⟩ := hcs
    simp only [Prod.mk.injEq] at hx
    obtain ⟨rfl, rfl⟩ := hx
    exact ⟨none, 0, 0, [], rfl, rfl, Nat.le_refl _, by simp, fun i h => by simp at h, Or.inl ⟨rfl, rfl⟩⟩
  · simp [Value.cells] at hcs
    obtain ⟨rfl, rfl, rfl⟩ := hcs
    simp only [Prod.mk.injEq] at hx
    obtain ⟨rfl, hp⟩ := hx
    simp only [if_true] at hz
    refine ⟨some a, len, cap, zs.take len, rfl, by rw [List.length_take]; omega, hl, fun z hzz => hwz z (List.mem_of_mem_take hzz), fun i hi => ?_, Or.inr ⟨_, _, rfl, by simp [strs]; omega⟩⟩
    rw [List.length_take] at hi
    refine ⟨a, rfl, row_lt hp (show i < zs.length by omega) hlt, ?_⟩
    rw [hcell i (by omega), List.getElem_take, List.getD_eq_getElem?_getD, List.getElem?_eq_getElem (by omega)]; rfl

/-- The reach of such a slice. -/
theorem reach_slice {ts : List TypeId} {ds : List (DataW H)} {j : Nat} {t e : TypeId} {d : DataW H} {n : Nat} (h : (DataW.weightsEach P ts ds).all (· ≤ reachBytes) = true) (ht : ts[j]? = some t) (hd : ds[j]? = some d)
    (hu : P.underlying t = some (.slice e)) (hs : d = .nil ∧ n = 0 ∨ ∃ elems spare, d = .slice elems spare ∧ elems.length = n) : n * P.bytesOf e ≤ 140737488351232 := by
  rcases hs with ⟨_, rfl⟩ | ⟨elems, spare, rfl, rfl⟩
  · simp
  · have := sized_slice h ht hd hu
    refine Nat.le_trans (Nat.mul_le_mul_right _ (Nat.le_add_right _ _)) (show _ ≤ 140737488351232 from this)
end
end Go.Proofs.Ytpdckpifhniioaa
