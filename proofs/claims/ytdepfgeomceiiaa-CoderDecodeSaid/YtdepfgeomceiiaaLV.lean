/- The laws' writers and readers over a sequence of bits. -/
import Derived.Test.YtdepfgeomceiiaaLU
set_option linter.unusedVariables false
namespace Go.Proofs.Ytdepfgeomceiiaa
open Go.RowKit
/-- After i bits: the writer's state. -/
structure LW (K N : Nat → Int) (W : World) (g i : Nat) (w : World) : Prop where
  ws : ∃ ro, WS W.heap.size g ro (M.runS M.start (sq K N 0 i)) (M.runO M.start (sq K N 0 i)) w
  below : Below W.heap.size W w
theorem below_grow {B : Nat} {W w w' : World} (h : Below B W w) (hB : B ≤ w.heap.size) (hg : Grow w w') : Below B W w' := h.trans (Below.mono hg hB)
theorem LW.grow {K N W g i w w'} (h : LW K N W g i w) (hg : Grow w w') : LW K N W g i w' := by
  obtain ⟨ro, k⟩ := h.ws
  exact ⟨⟨ro, k.grow hg⟩, below_grow h.below k.bd hg⟩
theorem LW.bit {K N W g i w} (h : LW K N W g i w) (hi : i ≤ 1000) : Calls Try.prog 21 #[.pointer (some ⟨g, 0, none⟩), .int .i64 (K i), .int .i64 (N i)] w.drew fun e x' => e = .returned (.tuple #[]) ∧ LW K N W g (i + 1) x' := by
  obtain ⟨ro, k⟩ := (h.grow (Grow.drew w)).ws
  have hl := runO_sq_len K N i
  refine (bit_ws k (K i) (N i) (by omega)).mono ?_
  rintro e x ⟨rfl, ro', k', _, hc⟩
  refine ⟨rfl, ⟨ro', ?_⟩, (h.grow (Grow.drew w)).below.trans (k.below hc)⟩
  rw [runS_succ, runO_succ]; exact k'
/-- The writer's bytes. -/
def cd (K N : Nat → Int) (i : Nat) : ByteArray := ⟨(M.code (sq K N 0 i)).toArray⟩
theorem LW.bytes {K N W g i w} (h : LW K N W g i w) (hi : i ≤ 1000) : Calls Try.prog 23 #[.pointer (some ⟨g, 0, none⟩)] w fun e x' => e = .returned (.string (cd K N i)) ∧ Grow w x' := by
  obtain ⟨ro, k⟩ := h.ws
  have hl := runO_sq_len K N i
  exact bytes_ws k (by omega)
theorem cd_size (K N i) : (cd K N i).size = (M.runO M.start (sq K N 0 i)).length + 4 := by
  have := M.code_len (sq K N 0 i)
  show (M.code (sq K N 0 i)).toArray.size = _
  simpa using this
theorem cd_le (K N i) : (cd K N i).size ≤ 4 * i + 4 := by
  rw [cd_size]; have := runO_sq_len K N i; omega
/-- After i bits read of the text f. -/
structure LR (K N : Nat → Int) (W : World) (g : Nat) (f : ByteArray) (i : Nat) (w : World) : Prop where
  rs : RS g f (M.runO M.start (sq K N 0 i)).length (M.runS M.start (sq K N 0 i)) w
  below : Below W.heap.size W w
  ge : W.heap.size ≤ g
theorem LR.grow {K N W g f i w w'} (h : LR K N W g f i w) (hg : Grow w w') : LR K N W g f i w' :=
  ⟨h.rs.grow hg, below_grow h.below h.below.size hg, h.ge⟩
/-- A text that begins with the bytes of k bits holds what a reader wants. -/
theorem has_cd (K N : Nat → Int) (k : Nat) (more : ByteArray) (i j : Nat) (h : i + j = k) : M.Has (cd K N k ++ more).data.toList (M.runO M.start (sq K N 0 i)).length (M.runO (M.runS M.start (sq K N 0 i)) (sq K N i j) ++ M.be4 (M.runS (M.runS M.start (sq K N 0 i)) (sq K N i j)).lo) := by
  subst h
  have e : (cd K N (i + j) ++ more).data.toList = M.runO M.start (sq K N 0 i) ++ (M.runO (M.runS M.start (sq K N 0 i)) (sq K N i j) ++ M.be4 (M.runS (M.runS M.start (sq K N 0 i)) (sq K N i j)).lo) ++ more.data.toList := by
    rw [ByteArray.data_append, Array.toList_append]
    congr 1
    show (M.code (sq K N 0 (i + j))).toArray.toList = _
    unfold M.code
    rw [sq_split, M.runO_append, M.runS_append, List.append_assoc]
  rw [e]
  exact M.Has.self _ _ _
theorem LR.bit {K N W g f i w} (h : LR K N W g f i w) (k : Nat) (more : ByteArray) (hf : f = cd K N k ++ more) (hik : i < k) (hk : k ≤ 1000) (hm : more.size ≤ 1000000) :
    Calls Try.prog 28 #[.pointer (some ⟨g, 0, none⟩), .int .i64 (K i)] w.drew fun e x' => e = .returned (.int .i64 (N i % 2)) ∧ LR K N W g f (i + 1) x' := by
  have hg := h.grow (Grow.drew w)
  have hl := runO_sq_len K N i
  have hfs : f.size ≤ 1000000000000000 := by
    rw [hf, ByteArray.size_append]
    have := cd_le K N k
    omega
  have hb : nb f (M.runO M.start (sq K N 0 i)).length (M.runS M.start (sq K N 0 i)) (K i) = N i % 2 := by
    have hh := has_cd K N k more i (k - i) (by omega)
    rw [← hf, show k - i = (k - i - 1) + 1 by omega, sq_cons] at hh
    have := M.rb_run f.data.toList (cx (K i), N i % 2) (sq K N (i + 1) (k - i - 1)) (M.runS M.start (sq K N 0 i)) _ hg.rs.ok (by rw [← sq_cons]; exact sq_bits _ _ _ _) hh
    exact this.1
  have hc := bit_rs hg.rs (K i) (by omega) hfs
  rw [hb] at hc
  refine hc.mono ?_
  rintro e x ⟨rfl, k1, k2⟩
  refine ⟨rfl, ?_, hg.below.trans (k2.below hg.ge (by simp) hg.below.size), hg.ge⟩
  rw [runS_succ, runO_succ, List.length_append]; exact k1
end Go.Proofs.Ytdepfgeomceiiaa
