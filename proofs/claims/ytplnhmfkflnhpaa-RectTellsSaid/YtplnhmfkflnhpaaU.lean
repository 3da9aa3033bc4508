/- Walks of layer 3 (rect): the tiles of a rectangle, an iterator: its region that draws its order, lays two tiles and calls twice. -/
import Derived.Test.YtplnhmfkflnhpaaA4
import Derived.Test.YtplnhmfkflnhpaaA
import Derived.Test.YtplnhmfkflnhpaaT
import Derived.Test.YtplnhmfkflnhpaaJ
import Derived.Test.YtplnhmfkflnhpaaP
set_option linter.unusedVariables false
namespace Go.Proofs.Ytplnhmfkflnhpaa
open Go.RowKit Go.Shelf
section
variable {P : Program} {o : Oper} {a : Act} {w w' : World} {K : Act → World → Prop} {Q : Exit → Act → World → Prop}
theorem op_val {v : Value} (h : (execOp a.eval o).run P w = .ok (.value v) w') (k : K (a.put o.dst v) w') : o.wp P a w K Q := by
  unfold Oper.wp; rw [h]; exact k
theorem op_call {f : FuncId} {args : Array Value} (h : (execOp a.eval o).run P w = .ok (.enter f args) w) (k : Calls P f args w fun e w' => ∃ v, e = .returned v ∧ K (a.put o.dst v) w') : o.wp P a w K Q := by
  unfold Oper.wp; rw [h]
  exact k.mono fun e w' ⟨v, he, hk⟩ => by subst he; exact hk
end
def BoxT (W : World) (b : Nat) (x y : Int) : Prop := W.heap[b]? = some (.cells #[.int .i64 x, .int .i64 y] 31 (0, 0))
def upd (x : Nat → Value) (i : Nat) (v : Value) : Nat → Value := fun j => if j = i then v else x j
/-- The values of the operations of the region, but for its allocations and stores. -/
def tval (b1 : Nat) (r : R) : Nat → Value
  | 0 => .pointer (some ⟨b1, 0, none⟩)
  | 1 => .int .i64 r.x0
  | 2 => .pointer (some ⟨b1, 1, none⟩)
  | 3 => .int .i64 r.y0
  | 4 => .agg #[.int .i64 r.x0, .int .i64 r.y0]
  | 5 => .agg #[.int .i64 (flr r.x0 8), .int .i64 (flr r.y0 8)]
  | 6 => .pointer (some ⟨b1, 2, none⟩)
  | 7 => .int .i64 r.x1
  | 8 => .int .i64 (wrap64 (r.x1 - 1))
  | 9 => .pointer (some ⟨b1, 3, none⟩)
  | 10 => .int .i64 r.y1
  | 11 => .int .i64 (wrap64 (r.y1 - 1))
  | 12 => .agg #[.int .i64 (wrap64 (r.x1 - 1)), .int .i64 (wrap64 (r.y1 - 1))]
  | 13 => .agg #[.int .i64 (flr (wrap64 (r.x1 - 1)) 8), .int .i64 (flr (wrap64 (r.y1 - 1)) 8)]
  | _ => undef
/-- The activation while the region runs. -/
def tact (y : Value) (b1 : Nat) (t7 t8 : Value) (x : Nat → Value) : Act := { tmps := #[y, .pointer (some ⟨b1, 0, none⟩), undef, x 14, x 15, undef, undef, t7, t8, x 0, x 1, x 2, x 3, x 4, x 5, x 6, x 7, x 8, x 9, x 10, x 11, x 12, x 13, undef, undef, undef, undef, undef, undef, undef, undef, undef, undef, undef, undef, undef, undef, undef, undef, undef, undef, undef, undef, undef, undef, undef, undef, undef, undef, undef, undef, undef, undef, undef, undef], defers := [] }
theorem tact_put (y : Value) (b1 : Nat) (t7 t8 : Value) (x : Nat → Value) (i d : Nat) (v : Value) (h : (i, d) ∈ [(0, 9), (1, 10), (2, 11), (3, 12), (4, 13), (5, 14), (6, 15), (7, 16), (8, 17), (9, 18), (10, 19), (11, 20), (12, 21), (13, 22), (14, 3), (15, 4)]) : (tact y b1 t7 t8 x).put (some d) v = tact y b1 t7 t8 (upd x i v) := by
  simp only [List.mem_cons, Prod.mk.injEq, List.not_mem_nil, or_false] at h
  rcases h with ⟨rfl, rfl⟩ | ⟨rfl, rfl⟩ | ⟨rfl, rfl⟩ | ⟨rfl, rfl⟩ | ⟨rfl, rfl⟩ | ⟨rfl, rfl⟩ | ⟨rfl, rfl⟩ | ⟨rfl, rfl⟩ | ⟨rfl, rfl⟩ | ⟨rfl, rfl⟩ | ⟨rfl, rfl⟩ | ⟨rfl, rfl⟩ | ⟨rfl, rfl⟩ | ⟨rfl, rfl⟩ | ⟨rfl, rfl⟩ | ⟨rfl, rfl⟩ <;> rfl
/-- What holds while the region runs. -/
def TI (W : World) (b1 : Nat) (r : R) (D : Nat → Bool) (x : Nat → Value) (w : World) : Prop :=
  Below W.heap.size W w ∧ (∀ i, i < 14 → D i = true → x i = tval b1 r i) ∧
    (D 14 = true → ∃ b, x 14 = .pointer (some ⟨b, 0, none⟩) ∧ W.heap.size ≤ b ∧ b < w.heap.size ∧ (D 16 = false → BoxT w b 0 0) ∧ (D 16 = true → BoxT w b (flr r.x0 8) (flr r.y0 8))) ∧
    (D 15 = true → ∃ b, x 15 = .pointer (some ⟨b, 0, none⟩) ∧ W.heap.size ≤ b ∧ b < w.heap.size ∧ (D 17 = false → BoxT w b 0 0) ∧ (D 17 = true → BoxT w b (flr (wrap64 (r.x1 - 1)) 8) (flr (wrap64 (r.y1 - 1)) 8))) ∧
    (D 14 = true → D 15 = true → x 14 ≠ x 15) ∧ (D 16 = true → D 14 = true) ∧ (D 17 = true → D 15 = true)
/-- A quiet step keeps it. -/
theorem TI.quiet {W : World} {b1 : Nat} {r : R} {D : Nat → Bool} {x : Nat → Value} {w w' : World} (i : Nat) (hi : i < 14) (h : TI W b1 r D x w) (hB : Below w.heap.size w w') :
    TI W b1 r (fun j => if j = i then true else D j) (upd x i (tval b1 r i)) w' := by
  obtain ⟨hW, hv, h14, h15, hne, h16, h17⟩ := h
  refine ⟨bt hW hB, ?_, ?_, ?_, ?_, ?_, ?_⟩
  · intro j hj hD
    by_cases hji : j = i
    · subst hji; simp [upd]
    · simp only [hji, if_false] at hD
      simp only [upd, hji, if_false]
      exact hv j hj hD
  · intro hD
    have n1 : ¬ (14 = i) := by omega
    have n2 : ¬ (16 = i) := by omega
    simp only [n1, n2, if_false] at hD ⊢
    obtain ⟨b, h1, h2, h3, h4, h5⟩ := h14 hD
    refine ⟨b, ?_, h2, Nat.lt_of_lt_of_le h3 hB.size, fun h => (hB.block b h3).trans (h4 h), fun h => (hB.block b h3).trans (h5 h)⟩
    simp only [upd, n1, if_false]
    exact h1
  · intro hD
    have n1 : ¬ (15 = i) := by omega
    have n2 : ¬ (17 = i) := by omega
    simp only [n1, n2, if_false] at hD ⊢
    obtain ⟨b, h1, h2, h3, h4, h5⟩ := h15 hD
    refine ⟨b, ?_, h2, Nat.lt_of_lt_of_le h3 hB.size, fun h => (hB.block b h3).trans (h4 h), fun h => (hB.block b h3).trans (h5 h)⟩
    simp only [upd, n1, if_false]
    exact h1
  · intro h1 h2
    have n1 : ¬ (14 = i) := by omega
    have n2 : ¬ (15 = i) := by omega
    simp only [n1, n2, if_false] at h1 h2
    simp only [upd, n1, n2, if_false]
    exact hne h1 h2
  · intro h1
    have n1 : ¬ (14 = i) := by omega
    have n2 : ¬ (16 = i) := by omega
    simp only [n1, n2, if_false] at h1 ⊢
    exact h16 h1
  · intro h1
    have n1 : ¬ (15 = i) := by omega
    have n2 : ¬ (17 = i) := by omega
    simp only [n1, n2, if_false] at h1 ⊢
    exact h17 h1
theorem TI.alloc3 {W : World} {b1 : Nat} {r : R} {D : Nat → Bool} {x : Nat → Value} {w : World} (h : TI W b1 r D x w) (h0 : D 14 = false) :
    TI W b1 r (fun j => if j = 14 then true else D j) (upd x 14 (.pointer (some ⟨w.heap.size, 0, none⟩))) (w.alloc (.cells #[.int .i64 0, .int .i64 0] 31)) := by
  obtain ⟨hW, hv, h14, h15, hne, h16, h17⟩ := h
  have h16f : D 16 = false := by cases hh : D 16; rfl; rw [h16 hh] at h0; cases h0
  have hs := hW.size
  refine ⟨hW.alloc hs _, fun j hj hD => ?_, fun _ => ⟨w.heap.size, by simp [upd], hs, by simp, fun _ => World.alloc_heap_new w _, fun hh => ?_⟩, fun hD => ?_, fun _ hD => ?_, fun hh => ?_, fun hh => ?_⟩
  · have n : ¬ (j = 14) := by omega
    simp only [n, if_false] at hD
    simp only [upd, n, if_false]; exact hv j hj hD
  · simp [h16f] at hh
  · simp at hD
    obtain ⟨b, k1, k2, k3, k4, k5⟩ := h15 hD
    refine ⟨b, by simpa [upd] using k1, k2, by simp; omega, fun hh => ?_, fun hh => ?_⟩
    · simp at hh; exact (Below.heap_alloc w _ b k3).trans (k4 hh)
    · simp at hh; exact (Below.heap_alloc w _ b k3).trans (k5 hh)
  · simp at hD
    obtain ⟨b, k1, k2, k3, k4, k5⟩ := h15 hD
    simp only [upd]
    simp [k1]
  · simp
  · simp at hh ⊢; exact h17 hh
theorem TI.alloc4 {W : World} {b1 : Nat} {r : R} {D : Nat → Bool} {x : Nat → Value} {w : World} (h : TI W b1 r D x w) (h0 : D 15 = false) :
    TI W b1 r (fun j => if j = 15 then true else D j) (upd x 15 (.pointer (some ⟨w.heap.size, 0, none⟩))) (w.alloc (.cells #[.int .i64 0, .int .i64 0] 31)) := by
  obtain ⟨hW, hv, h14, h15, hne, h16, h17⟩ := h
  have h17f : D 17 = false := by cases hh : D 17; rfl; rw [h17 hh] at h0; cases h0
  have hs := hW.size
  refine ⟨hW.alloc hs _, fun j hj hD => ?_, fun hD => ?_, fun _ => ⟨w.heap.size, by simp [upd], hs, by simp, fun _ => World.alloc_heap_new w _, fun hh => ?_⟩, fun hD _ => ?_, fun hh => ?_, fun hh => ?_⟩
  · have n : ¬ (j = 15) := by omega
    simp only [n, if_false] at hD
    simp only [upd, n, if_false]; exact hv j hj hD
  · simp at hD
    obtain ⟨b, k1, k2, k3, k4, k5⟩ := h14 hD
    refine ⟨b, by simpa [upd] using k1, k2, by simp; omega, fun hh => ?_, fun hh => ?_⟩
    · simp at hh; exact (Below.heap_alloc w _ b k3).trans (k4 hh)
    · simp at hh; exact (Below.heap_alloc w _ b k3).trans (k5 hh)
  · simp [h17f] at hh
  · simp at hD
    obtain ⟨b, k1, k2, k3, k4, k5⟩ := h14 hD
    simp only [upd]
    simp [k1]
  · simp at hh ⊢; exact h16 hh
  · simp
theorem TI.store3 {W : World} {b1 : Nat} {r : R} {D : Nat → Bool} {x : Nat → Value} {w : World} (h : TI W b1 r D x w) (h0 : D 16 = false) (hkD : D 14 = true) (b : Nat) (hb : x 14 = .pointer (some ⟨b, 0, none⟩)) :
    TI W b1 r (fun j => if j = 16 then true else D j) x (w.setRow b #[.int .i64 (flr r.x0 8), .int .i64 (flr r.y0 8)]) := by
  obtain ⟨hW, hv, h14, h15, hne, h16, h17⟩ := h
  have hsz : (w.setRow b #[.int .i64 (flr r.x0 8), .int .i64 (flr r.y0 8)]).heap.size = w.heap.size := by simp
  have hge : W.heap.size ≤ b := by
    obtain ⟨b', k1, k2, _⟩ := h14 hkD
    have : b' = b := by rw [hb] at k1; simpa using k1.symm
    omega
  refine ⟨hW.trans ⟨rfl, rfl, rfl, by omega, fun q hq => setRow_other w b q _ (by omega)⟩, fun j hj hD => ?_, fun hD => ?_, fun hD => ?_, fun hD hD' => ?_, fun hh => ?_, fun hh => ?_⟩
  · have n : ¬ (j = 16) := by omega
    simp only [n, if_false] at hD
    exact hv j hj hD
  · simp at hD
    obtain ⟨b', k1, k2, k3, k4, k5⟩ := h14 hD
    have : b' = b := by rw [hb] at k1; simpa using k1.symm
    subst this
    refine ⟨b', hb, k2, by rw [hsz]; exact k3, fun hh => ?_, fun hh => ?_⟩
    · simp at hh
    · exact setRow_heap w b' _ _ 31 (0, 0) (k4 h0)
  · simp at hD
    obtain ⟨b', k1, k2, k3, k4, k5⟩ := h15 hD
    have hnb : b' ≠ b := by
      intro e; subst e
      exact hne (hkD) hD (by rw [hb, k1])
    refine ⟨b', k1, k2, by rw [hsz]; exact k3, fun hh => ?_, fun hh => ?_⟩
    · simp at hh; exact (setRow_other w b b' _ hnb).trans (k4 hh)
    · simp at hh; exact (setRow_other w b b' _ hnb).trans (k5 hh)
  · simp at hD hD'; exact hne hD hD'
  · simpa using hkD
  · simp at hh ⊢; exact h17 hh
theorem TI.store4 {W : World} {b1 : Nat} {r : R} {D : Nat → Bool} {x : Nat → Value} {w : World} (h : TI W b1 r D x w) (h0 : D 17 = false) (hkD : D 15 = true) (b : Nat) (hb : x 15 = .pointer (some ⟨b, 0, none⟩)) :
    TI W b1 r (fun j => if j = 17 then true else D j) x (w.setRow b #[.int .i64 (flr (wrap64 (r.x1 - 1)) 8), .int .i64 (flr (wrap64 (r.y1 - 1)) 8)]) := by
  obtain ⟨hW, hv, h14, h15, hne, h16, h17⟩ := h
  have hsz : (w.setRow b #[.int .i64 (flr (wrap64 (r.x1 - 1)) 8), .int .i64 (flr (wrap64 (r.y1 - 1)) 8)]).heap.size = w.heap.size := by simp
  have hge : W.heap.size ≤ b := by
    obtain ⟨b', k1, k2, _⟩ := h15 hkD
    have : b' = b := by rw [hb] at k1; simpa using k1.symm
    omega
  refine ⟨hW.trans ⟨rfl, rfl, rfl, by omega, fun q hq => setRow_other w b q _ (by omega)⟩, fun j hj hD => ?_, fun hD => ?_, fun hD => ?_, fun hD hD' => ?_, fun hh => ?_, fun hh => ?_⟩
  · have n : ¬ (j = 17) := by omega
    simp only [n, if_false] at hD
    exact hv j hj hD
  · simp at hD
    obtain ⟨b', k1, k2, k3, k4, k5⟩ := h14 hD
    have hnb : b' ≠ b := by
      intro e; subst e
      exact hne hD hkD (by rw [hb, k1])
    refine ⟨b', k1, k2, by rw [hsz]; exact k3, fun hh => ?_, fun hh => ?_⟩
    · simp at hh; exact (setRow_other w b b' _ hnb).trans (k4 hh)
    · simp at hh; exact (setRow_other w b b' _ hnb).trans (k5 hh)
  · simp at hD
    obtain ⟨b', k1, k2, k3, k4, k5⟩ := h15 hD
    have : b' = b := by rw [hb] at k1; simpa using k1.symm
    subst this
    refine ⟨b', hb, k2, by rw [hsz]; exact k3, fun hh => ?_, fun hh => ?_⟩
    · simp at hh
    · exact setRow_heap w b' _ _ 31 (0, 0) (k4 h0)
  · simp at hD hD'; exact hne hD hD'
  · simp at hh ⊢; exact h16 hh
  · simpa using hkD
end Go.Proofs.Ytplnhmfkflnhpaa
