/- Walks of coder: the coder claims' texts, turned to this seat by genPort.py. -/
import Derived.Test.YtpdckpifhniioaaCo4
import Derived.Lib.Builder
import Derived.Lib.UnsafeStr
import Derived.Laws.Externs
import Derived.Deep.DeepCutAuto
set_option linter.unusedVariables false
set_option linter.unusedSimpArgs false
namespace Go.Proofs.Ytpdckpifhniioaa.Cod
open Go.RowKit
open Go.Proofs.Ytpdckpifhniioaa
section
theorem sizeBld : (Try.prog.info? 54).map (·.size) = some 2 := by kernel_rfl
theorem liesBld : liesAt Try.prog Try.prog.depth 54 (2 / Try.prog.cellsOf 54) 0 54 1 = true := by kernel_rfl
set_option maxRecDepth 100000 in
set_option maxHeartbeats 1000000 in
theorem ck_used (b : Nat) (v : Value) (w : World) (h : w.heap[b]? = some (.cells #[.pointer (some ⟨b, 0, none⟩), v] 54 (0, 0))) :
    Calls Try.prog 40 #[.pointer (some ⟨b, 0, none⟩)] w fun e w' => e = .returned (.tuple #[]) ∧ w' = w := by
  obtain ⟨j, hj, _⟩ := Option.map_eq_some_iff.1 sizeBld
  have h0 : w.cell? ⟨b, 0, none⟩ = some (.pointer (some ⟨b, 0, none⟩)) := by rw [Lib.cell_of_heap h]; rfl
  go_enter Try.func40, Try.ntmps40
  go_wp2
  rw [Lib.run_neq_ptr_same w _ Try.underlying52 hj]
  go_wp2
  refine bodyPost_end (results_none rfl _ _ _) rfl ⟨rfl, rfl⟩
set_option maxRecDepth 100000 in
set_option maxHeartbeats 1000000 in
theorem ck_fresh (b : Nat) (v : Value) (w : World) (h : w.heap[b]? = some (.cells #[.pointer none, v] 54 (0, 0))) :
    Calls Try.prog 40 #[.pointer (some ⟨b, 0, none⟩)] w fun e w' => e = .returned (.tuple #[]) ∧ w' = w.setCell ⟨b, 0, none⟩ (.pointer (some ⟨b, 0, none⟩)) := by
  obtain ⟨j, hj, hjs⟩ := Option.map_eq_some_iff.1 sizeBld
  have h0 : w.cell? ⟨b, 0, none⟩ = some (.pointer none) := by rw [Lib.cell_of_heap h]; rfl
  have hfz : w.frozen? ⟨b, 0, none⟩ = false := Lib.frozen_of_heap h 0
  have hsh : w.shape? b = some (54, 2) := by simp [World.shape?, h]
  clear h
  go_enter Try.func40, Try.ntmps40
  go_wp2
  rw [Lib.run_to_unsafe w ⟨b, 0, none⟩ Try.underlying52 Try.underlying118 hj (by rw [hjs]; decide) hsh (Nat.zero_lt_succ 1)]
  simp only [Result.andThen]
  rw [Oper.upon_value]
  go_wp2
  rw [run_callFunc_extern Try.func66 (by kernel_rfl) (by kernel_rfl) (by kernel_rfl) (e := Extern.AbiNoEscape.same) (by kernel_rfl)]
  rw [Lib.run_noEscape]
  simp only [Result.andThen]
  rw [Oper.upon_value]
  go_wp2
  rw [Lib.run_from_unsafe w ⟨b, 0, none⟩ Try.underlying118 Try.underlying52 hj hsh liesBld]
  simp only [Result.andThen]
  rw [Oper.upon_value]
  go_wp2
  refine bodyPost_end (results_none rfl _ _ _) rfl ⟨rfl, rfl⟩
/-- The builder in block b holds the bytes l; its row lies behind it. -/
structure HB (b : Nat) (l : List UInt8) (w : World) : Prop where
  ex : ∃ p v, w.heap[b]? = some (.cells #[p, v] 54 (0, 0)) ∧ (p = .pointer none ∨ p = .pointer (some ⟨b, 0, none⟩)) ∧ w.ownsRow (b + 1) 5 1 v l.length (bvals l) ∧ (l = [] → v = .slice none 0 0)
theorem HB.below {b l w w'} (h : HB b l w) (k : Below w.heap.size w w') : HB b l w' := by
  obtain ⟨p, v, h1, h2, h3, h4⟩ := h.ex
  refine ⟨p, v, (show Grow w w' from k).block h1, h2, own_grow h3 k, h4⟩
/-- .. its row perhaps frozen. -/
structure HF (b : Nat) (l : List UInt8) (w : World) : Prop where
  ex : ∃ p v, w.heap[b]? = some (.cells #[p, v] 54 (0, 0)) ∧ ((l = [] ∧ v = .slice none 0 0) ∨ (l ≠ [] ∧ ∃ g cap cur fr, v = .slice (some ⟨g, 0, none⟩) l.length cap ∧ b + 1 ≤ g ∧ w.heap[g]? = some (.cells cur 5 fr) ∧ l.length ≤ cap ∧ cap ≤ maxLen ∧ cur.size = cap ∧ cur.toList.take l.length = bvals l))
theorem HF.grow {b l w w'} (h : HF b l w) (k : Grow w w') : HF b l w' := by
  obtain ⟨p, v, h1, h2⟩ := h.ex
  refine ⟨p, v, k.block h1, h2.imp id ?_⟩
  rintro ⟨h0, g, cap, cur, fr, r1, r2, r3, r4⟩
  exact ⟨h0, g, cap, cur, fr, r1, r2, k.block r3, r4⟩
theorem HB.hf {b l w} (h : HB b l w) : HF b l w := by
  obtain ⟨p, v, h1, h2, h3, h4⟩ := h.ex
  refine ⟨p, v, h1, ?_⟩
  by_cases h0 : l = []
  · exact .inl ⟨h0, h4 h0⟩
  · refine .inr ⟨h0, ?_⟩
    rcases h3.2 with ⟨_, hz⟩ | ⟨g, cap, cur, r1, r2, r3, r4, r5, r6, r7⟩
    · exact absurd (List.length_eq_zero_iff.1 hz) h0
    · exact ⟨g, cap, cur, (0, 0), r1, r2, r3, r4, r5, by omega, by simpa using r7⟩
theorem cellsU8 : Try.prog.cellsOf 5 = 1 := by kernel_rfl
theorem freeze_keeps {w : World} {g n : Nat} {cur : Array Value} {t fr} (hg : w.heap[g]? = some (.cells cur t fr)) : ∃ fr', (w.freeze ⟨g, 0, none⟩ n).heap[g]? = some (.cells cur t fr') := by
  unfold World.freeze
  split
  · exact ⟨fr, hg⟩
  · simp only [Array.getElem?_modify]
    simp [hg]
theorem freeze_other {w : World} {g n k : Nat} (h : k ≠ g) : (w.freeze ⟨g, 0, none⟩ n).heap[k]? = w.heap[k]? := by
  unfold World.freeze
  split
  · rfl
  · simp only [Array.getElem?_modify]
    simp [Ne.symm h]
set_option maxRecDepth 100000 in
set_option maxHeartbeats 1000000 in
theorem bstring (b : Nat) (l : List UInt8) (w : World) (h : HF b l w) :
    Calls Try.prog 21 #[.pointer (some ⟨b, 0, none⟩)] w fun e w' => e = .returned (.string ⟨l.toArray⟩) ∧ HF b l w' ∧ Below (b + 1) w w' := by
  obtain ⟨p, v, h1, h2 | ⟨h0, g, cap, cur, fr, rfl, r2, r3, r4, r5, r6, r7⟩⟩ := h.ex
  · obtain ⟨rfl, rfl⟩ := h2
    have hf : HF b [] w.drew := ⟨h.ex⟩
    have c1 : w.drew.cell? ⟨b, 1, none⟩ = some (.slice none 0 0) := by
      have : w.drew.heap[b]? = some (.cells #[p, .slice none 0 0] 54 (0, 0)) := h1
      rw [Lib.cell_of_heap this]; rfl
    have hSD : (Builtin.unsafeSliceData_ #[46] 105 #[.slice none 0 0]).run Try.prog w.drew = .ok (.pointer none) w.drew := rfl
    have hUS : (Builtin.unsafeString_ #[105, 3] 9 #[.pointer none, .int .i64 0]).run Try.prog w.drew = .ok (.string .empty) w.drew := Lib.run_unsafeString_none _ _ _ _ _
    clear h h1
    go_enter Try.func21, Try.ntmps21
    go_wp2
    go_region
    all_goals (go_wp2; go_ret; exact ⟨rfl, hf, Below.drew (Below.refl _ w)⟩)
  · have hl : 0 < l.length := by cases l with | nil => exact absurd rfl h0 | cons => simp
    have c1 : w.drew.cell? ⟨b, 1, none⟩ = some (.slice (some ⟨g, 0, none⟩) l.length cap) := by
      have : w.drew.heap[b]? = some (.cells #[p, .slice (some ⟨g, 0, none⟩) l.length cap] 54 (0, 0)) := h1
      rw [Lib.cell_of_heap this]; rfl
    have hSD : (Builtin.unsafeSliceData_ #[46] 105 #[.slice (some ⟨g, 0, none⟩) l.length cap]).run Try.prog w.drew = .ok (.pointer (some ⟨g, 0, none⟩)) w.drew :=
      Lib.run_unsafeSliceData_row _ _ _ _ _ _ (by omega)
    have hUS : (Builtin.unsafeString_ #[105, 3] 9 #[.pointer (some ⟨g, 0, none⟩), .int .i64 l.length]).run Try.prog w.drew = .ok (.string ⟨l.toArray⟩) (w.drew.freeze ⟨g, 0, none⟩ l.length) := by
      refine Lib.run_unsafeString_row w.drew 105 3 9 5 Try.underlying105 cellsU8 g cur.size (by have hg' : w.drew.heap[g]? = some (.cells cur 5 fr) := r3; simp [World.shape?, hg']) l h0 (by omega) (by unfold maxLen at r5; omega) ?_
      intro j x hx
      have hj : j < l.length := (List.getElem?_eq_some_iff.1 hx).1
      have hg' : w.drew.heap[g]? = some (.cells cur 5 fr) := r3
      have e : (⟨g, 0, none⟩ : Addr).add j = ⟨g, j, none⟩ := by unfold Addr.add; split <;> simp_all
      rw [e, Lib.cell_of_heap hg']
      have h3 : (cur.toList.take l.length)[j]? = some (.int .u8 x.toNat) := by rw [r7]; simp [bvals, hx]
      rw [List.getElem?_take, if_pos hj, Array.getElem?_toList] at h3
      exact h3
    have hf : HF b l (w.drew.freeze ⟨g, 0, none⟩ l.length) := by
      obtain ⟨fr', h5⟩ := freeze_keeps (w := w.drew) (n := l.length) r3
      refine ⟨p, _, ?_, .inr ⟨h0, g, cap, cur, fr', rfl, r2, h5, r4, r5, r6, r7⟩⟩
      rw [freeze_other (by omega)]; exact h1
    clear h h1 r3 r4 r5 r6 r7
    go_enter Try.func21, Try.ntmps21
    go_wp2
    go_region
    all_goals (go_wp2; go_ret; exact ⟨rfl, hf, Lib.below_freeze (Below.drew (Below.refl _ w)) (p := ⟨g, 0, none⟩) r2 _⟩)
end
section
theorem shl_wrap (b k : Nat) (hb : b ≤ 1) (hk : k < 8) : b * 2 ^ (7 - k) < 256 := by
  have e4 : b * 2 ^ (7 - k) ≤ 1 * 2 ^ (7 - k) := Nat.mul_le_mul_right _ hb
  have : 2 ^ (7 - k) ≤ 2 ^ 7 := Nat.pow_le_pow_right (by decide) (by omega)
  omega
end
section
theorem RS.below {g f m s w w' N} (h : RS g f m s w) (k : Below N w w') (hg : g < N) : RS g f m s w' := by
  obtain ⟨n, h0, x1⟩ := h.ex
  refine ⟨h.ok, n, h0, ?_⟩
  have := k.block g hg
  unfold Blk at x1 ⊢; rw [this]; exact x1
/-- Decode's result: the text, the error. -/
def dres (f : ByteArray) (n : Nat) : ByteArray × Int := if (⟨(M.enc (M.dec f.data.toList n)).toArray⟩ : ByteArray) = f then (⟨(M.dec f.data.toList n).toArray⟩, 0) else (⟨#[]⟩, 11)
theorem HB.lt {b l w} (h : HB b l w) : b < w.heap.size := by
  obtain ⟨p, v, h1, _⟩ := h.ex
  exact (Array.getElem?_eq_some_iff.1 h1).1
theorem HB.chg {b l w w' g} (h : HB b l w) (k : Chg g none w w') (hg : b ≠ g) (hr : ∀ c fr, w.heap[g]? ≠ some (.cells c 5 fr)) : HB b l w' := by
  obtain ⟨p, v, h1, h2, h3, h4⟩ := h.ex
  have hl : b < w.heap.size := (Array.getElem?_eq_some_iff.1 h1).1
  refine ⟨p, v, by rw [k.block b hl hg (by simp)]; exact h1, h2, ?_, h4⟩
  obtain ⟨y1, y2⟩ := h3
  refine ⟨y1, y2.imp id ?_⟩
  rintro ⟨j, cap, cur, e1, e2, e3, e4⟩
  refine ⟨j, cap, cur, e1, e2, ?_, e4⟩
  rw [k.block j (Array.getElem?_eq_some_iff.1 e3).1 (fun e => hr cur _ (e ▸ e3)) (by simp)]; exact e3
theorem Try.zero54 (w : World) : (zeroValue 54).run Try.prog w = .ok (.agg #[.pointer none, .slice none 0 0]) w := by kernel_rfl
theorem beq_bytes (a b : ByteArray) : (a.toList == b.toList) = decide (a = b) := by
  by_cases h : a = b
  · subst h; simp
  · simp only [h, decide_false]
    have : a.toList ≠ b.toList := by
      intro e
      rw [ByteArray.toList_eq, ByteArray.toList_eq] at e
      exact h (ByteArray.ext (Array.toList_inj.mp e))
    simpa using this
end
end Go.Proofs.Ytpdckpifhniioaa.Cod
