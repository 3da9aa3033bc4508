/- The plain mathematics of layer 3 (rect): lists of tiles; relations between the worlds of an iterator's rounds. -/
import Derived.Test.YtplnhmfkflnhpaaN
set_option linter.unusedVariables false
namespace Go.Proofs.Ytplnhmfkflnhpaa
open Go.RowKit Go.Shelf

def row (ax y : Int) (n : Nat) : List (Int × Int) := (List.range n).map fun (i : Nat) => (ax + (i : Int), y)
def tls (ax ay : Int) (nx ny : Nat) : List (Int × Int) := (List.range ny).flatMap fun (j : Nat) => row ax (ay + (j : Int)) nx
theorem row_succ (ax y : Int) (n : Nat) : row ax y (n + 1) = row ax y n ++ [(ax + (n : Int), y)] := by simp [row, List.range_succ]
theorem tls_succ (ax ay : Int) (nx ny : Nat) : tls ax ay nx (ny + 1) = tls ax ay nx ny ++ row ax (ay + (ny : Int)) nx := by simp [tls, List.range_succ]
theorem row_length (ax y : Int) (n : Nat) : (row ax y n).length = n := by simp [row]
theorem tls_length (ax ay : Int) (nx ny : Nat) : (tls ax ay nx ny).length = ny * nx := by
  induction ny with
  | zero => simp [tls]
  | succ n ih => rw [tls_succ, List.length_append, ih, row_length, Nat.succ_mul]
theorem row_le (ax y : Int) {i n : Nat} (h : i ≤ n) : row ax y i <+: row ax y n := by
  induction n with
  | zero => obtain rfl : i = 0 := by omega
            exact List.prefix_refl _
  | succ n ih =>
    by_cases hi : i = n + 1
    · subst hi; exact List.prefix_refl _
    · rw [row_succ]; exact (ih (by omega)).trans (List.prefix_append _ _)
theorem tls_le (ax ay : Int) (nx : Nat) {j n : Nat} (h : j ≤ n) : tls ax ay nx j <+: tls ax ay nx n := by
  induction n with
  | zero => obtain rfl : j = 0 := by omega
            exact List.prefix_refl _
  | succ n ih =>
    by_cases hi : j = n + 1
    · subst hi; exact List.prefix_refl _
    · rw [tls_succ]; exact (ih (by omega)).trans (List.prefix_append _ _)
theorem tls_at (ax ay : Int) {nx ny i j : Nat} (hi : i ≤ nx) (hj : j < ny) : tls ax ay nx j ++ row ax (ay + (j : Int)) i <+: tls ax ay nx ny := by
  refine List.IsPrefix.trans ?_ (tls_le ax ay nx (j := j + 1) (by omega))
  rw [tls_succ]
  exact (List.prefix_append_right_inj _).2 (row_le _ _ hi)

/-- The block that the slice in the box BO owns. -/
def own (BO : Nat) (W : World) : Option Nat := (W.cell? ⟨BO, 0, none⟩).bind Value.ownBlock
/-- Cells lie as they lay, but for the box BO and the block of its slice, which is the same one or a new one. -/
structure Gro (BO : Nat) (A B : World) : Prop where
  size : A.heap.size ≤ B.heap.size
  same : ∀ k o, A.heap[k]? = some o → o.isCells = true → k ≠ BO → own BO A ≠ some k → B.heap[k]? = some o
  fresh : own BO B = own BO A ∨ ∀ g, own BO B = some g → A.heap.size ≤ g
theorem Gro.refl (BO : Nat) (A : World) : Gro BO A A := ⟨Nat.le_refl _, fun _ _ h _ _ _ => h, .inl rfl⟩
theorem Gro.trans {BO : Nat} {A B C : World} (h : Gro BO A B) (k : Gro BO B C) : Gro BO A C := by
  have hf : ∀ j, j < A.heap.size → own BO A ≠ some j → own BO B ≠ some j := by
    intro j hj hA hB
    rcases h.fresh with e | e
    · exact hA (e ▸ hB)
    · have := e j hB; omega
  refine ⟨Nat.le_trans h.size k.size, fun j o hj hc hne hA => ?_, ?_⟩
  · exact k.same j o (h.same j o hj hc hne hA) hc hne (hf j (Array.getElem?_eq_some_iff.1 hj).1 hA)
  · rcases k.fresh with e | e
    · rw [e]; exact h.fresh
    · exact .inr fun g hg => Nat.le_trans h.size (e g hg)
theorem Gro.put {BO B0 : Nat} (hB : BO < B0) (W : World) (l : Nat) (o o' : Obj) (hl : B0 ≤ l) (ho : W.heap[l]? = some o) (hc : o.isCells = false) : Gro BO W (W.putObj l o') := by
  have hs : W.heap.size ≤ (W.putObj l o').heap.size := (grownBy_putObj' W l o').size
  have hc' : own BO (W.putObj l o') = own BO W := by
    unfold own
    rw [World.cell?_of_block (a := ⟨BO, 0, none⟩) (World.putObj_heap_other (by simp; omega))]
  exact ⟨hs, fun k o2 hk h2 hne _ => by
    have : k ≠ l := fun e => by subst e; rw [ho] at hk; cases hk; rw [hc] at h2; cases h2
    exact (World.putObj_heap_other this).trans hk, .inl hc'⟩
end Go.Proofs.Ytplnhmfkflnhpaa
