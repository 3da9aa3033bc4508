/- Walks of strings.Builder: WriteString and String. -/
import Derived.Test.YtpdckpifhniioaaOc2
import Derived.Test.YtpdckpifhniioaaJG
import Derived.Lib.Builder
import Derived.Lib.UnsafeStr
import Derived.Lib.AppendStr
import Derived.Laws.Externs
import Derived.Deep.DeepCutAuto
set_option linter.unusedVariables false
namespace Go.Proofs.Ytpdckpifhniioaa.Oct
open Go.RowKit
open Go.Proofs.Ytpdckpifhniioaa
open Go.Lib (strCells)
theorem infoU8 : (Try.prog.info? 5).map (fun i => (i.zero, i.size, i.bytes)) = some (some (.int .u8 0), 1, 1) := by kernel_rfl
/-- A row of bytes lies in no block of another element type. -/
theorem row_ne {x : World} {B : Nat} {v : Value} {n : Nat} {xs : List Value} {g t : Nat} {c : Array Value} {fr : Nat × Nat} (h : x.ownsRow B 5 1 v n xs) (hg : x.heap[g]? = some (.cells c t fr)) (ht : t ≠ 5) : some g ≠ v.ownBlock := by
  rcases h.2 with ⟨rfl, _⟩ | ⟨k, cap, cur, rfl, _, hk, _⟩
  · simp [Value.ownBlock]
  · intro e
    have e : g = k := by simpa [Value.ownBlock] using e
    subst e
    rw [hg] at hk
    injection hk with hk
    injection hk with _ hk _
    exact ht hk
theorem own_mem {x : World} {B : Nat} {e : TypeId} {v : Value} {n : Nat} {xs : List Value} (h : x.ownsRow B e 1 v n xs) : ∃ o c, v = .slice o n c := by
  rcases h.2 with ⟨rfl, h0⟩ | ⟨g, cap, cur, rfl, _⟩
  · exact ⟨none, 0, by rw [h0]⟩
  · exact ⟨_, _, rfl⟩
theorem own_grow {w x : World} {B : Nat} {v : Value} {n : Nat} {xs : List Value} (h : w.ownsRow B 5 1 v n xs) (hg : Grow w x) : x.ownsRow B 5 1 v n xs := by
  obtain ⟨h1, h2⟩ := h
  refine ⟨h1, h2.imp id ?_⟩
  rintro ⟨g, cap, cur, e1, e2, e3, e4⟩
  exact ⟨g, cap, cur, e1, e2, hg.block e3, e4⟩
theorem sizeBld : (Try.prog.info? 54).map (·.size) = some 2 := by kernel_rfl
theorem liesBld : liesAt Try.prog Try.prog.depth 54 (2 / Try.prog.cellsOf 54) 0 54 1 = true := by kernel_rfl
set_option maxRecDepth 100000 in
set_option maxHeartbeats 1000000 in
theorem ck_used (b : Nat) (v : Value) (w : World) (h : w.heap[b]? = some (.cells #[.pointer (some ⟨b, 0, none⟩), v] 54 (0, 0))) :
    Calls Try.prog 40 #[.pointer (some ⟨b, 0, none⟩)] w fun e w' => e = .returned (.tuple #[]) ∧ w' = w := by
  obtain ⟨j, hj, _⟩ := Option.map_eq_some_iff.1 sizeBld
  have h0 : w.cell? ⟨b, 0, none⟩ = some (.pointer (some ⟨b, 0, none⟩)) := by rw [Lib.cell_of_heap h]; rfl
  go_enter Try.func40, Try.ntmps40
  go_wp2
  rw [Lib.run_neq_ptr_same w _ Try.underlying52 hj]
  go_wp2
  refine bodyPost_end (results_none rfl _ _ _) rfl ⟨rfl, rfl⟩
set_option maxRecDepth 100000 in
set_option maxHeartbeats 1000000 in
theorem ck_fresh (b : Nat) (v : Value) (w : World) (h : w.heap[b]? = some (.cells #[.pointer none, v] 54 (0, 0))) :
    Calls Try.prog 40 #[.pointer (some ⟨b, 0, none⟩)] w fun e w' => e = .returned (.tuple #[]) ∧ w' = w.setCell ⟨b, 0, none⟩ (.pointer (some ⟨b, 0, none⟩)) := by
  obtain ⟨j, hj, hjs⟩ := Option.map_eq_some_iff.1 sizeBld
  have h0 : w.cell? ⟨b, 0, none⟩ = some (.pointer none) := by rw [Lib.cell_of_heap h]; rfl
  have hfz : w.frozen? ⟨b, 0, none⟩ = false := Lib.frozen_of_heap h 0
  have hsh : w.shape? b = some (54, 2) := by simp [World.shape?, h]
  clear h
  go_enter Try.func40, Try.ntmps40
  go_wp2
  rw [Lib.run_to_unsafe w ⟨b, 0, none⟩ Try.underlying52 Try.underlying118 hj (by rw [hjs]; decide) hsh (Nat.zero_lt_succ 1)]
  simp only [Result.andThen]
  rw [Oper.upon_value]
  go_wp2
  rw [run_callFunc_extern Try.func66 (by kernel_rfl) (by kernel_rfl) (by kernel_rfl) (e := Extern.AbiNoEscape.same) (by kernel_rfl)]
  rw [Lib.run_noEscape]
  simp only [Result.andThen]
  rw [Oper.upon_value]
  go_wp2
  rw [Lib.run_from_unsafe w ⟨b, 0, none⟩ Try.underlying118 Try.underlying52 hj hsh liesBld]
  simp only [Result.andThen]
  rw [Oper.upon_value]
  go_wp2
  refine bodyPost_end (results_none rfl _ _ _) rfl ⟨rfl, rfl⟩
/-- The builder in block b holds the bytes l; its row lies behind it. -/
structure HB (b : Nat) (l : List UInt8) (w : World) : Prop where
  ex : ∃ p v, w.heap[b]? = some (.cells #[p, v] 54 (0, 0)) ∧ (p = .pointer none ∨ p = .pointer (some ⟨b, 0, none⟩)) ∧ w.ownsRow (b + 1) 5 1 v l.length (bvals l) ∧ (l = [] → v = .slice none 0 0)
theorem HB.below {b l w w'} (h : HB b l w) (k : Below w.heap.size w w') : HB b l w' := by
  obtain ⟨p, v, h1, h2, h3, h4⟩ := h.ex
  refine ⟨p, v, (show Grow w w' from k).block h1, h2, own_grow h3 k, h4⟩
/-- Every block but b that holds no bytes lies as it lay. -/
def Kp (b : Nat) (w w' : World) : Prop := ∀ k c t fr, w.heap[k]? = some (.cells c t fr) → t ≠ 5 → k ≠ b → w'.heap[k]? = w.heap[k]?
theorem strCells_bvals (s : ByteArray) : strCells s = bvals s.data.toList := by
  rfl
set_option maxRecDepth 100000 in
set_option maxHeartbeats 1000000 in
theorem wstr (b : Nat) (l : List UInt8) (s : ByteArray) (w : World) (h : HB b l w) (hl : l.length + s.size ≤ 100000000) :
    Calls Try.prog 14 #[.pointer (some ⟨b, 0, none⟩), .string s] w fun e w' => e = .returned (.tuple #[.int .i64 s.size, .nilIface]) ∧ HB b (l ++ s.data.toList) w' ∧ Below b w w' ∧ Kp b w w' := by
  obtain ⟨p, v, h1, h2, h3, h4⟩ := h.ex
  have hlt : b < w.heap.size := (Array.getElem?_eq_some_iff.1 h1).1
  have hck : Calls Try.prog 40 #[.pointer (some ⟨b, 0, none⟩)] w fun e w' => e = .returned (.tuple #[]) ∧ w'.heap[b]? = some (.cells #[.pointer (some ⟨b, 0, none⟩), v] 54 (0, 0)) ∧ w'.ownsRow (b + 1) 5 1 v l.length (bvals l) ∧ Below b w w' ∧ b < w'.heap.size ∧ Kp b w w' := by
    rcases h2 with rfl | rfl
    · refine (ck_fresh b v w h1).mono ?_
      rintro e w' ⟨rfl, rfl⟩
      refine ⟨rfl, ?_, ?_, (Below.refl b w).setCell (p := ⟨b, 0, none⟩) (Nat.le_refl _) _, by simpa [World.setCell] using hlt, fun k c t fr hk ht hne => heap_setCell_other _ _ _ _ hne⟩
      · simp [World.setCell, Array.getElem?_modify, h1]
      · refine h3.kept (row := some b) ⟨rfl, rfl, rfl, by simp [World.setCell], fun k _ hk => Below.heap_setCell _ _ _ _ (fun e => hk (by simp [e]))⟩ (Or.inr ?_)
        exact (row_ne h3 h1 (by decide)).symm
    · refine (ck_used b v w h1).mono ?_
      rintro e w' ⟨rfl, rfl⟩
      exact ⟨rfl, h1, h3, Below.refl b _, hlt, fun k c t fr hk ht hne => rfl⟩
  have HC := Lib.hid hck
  have HX := Lib.hid h4
  clear hck h1 h2 h3 h h4
  obtain ⟨iu, hiu, hz1, hz2, hz3⟩ := info_parts infoU8
  go_enter Try.func14, Try.ntmps14
  go_wp2_with fail
  refine HC.out.mono ?_
  rintro e W ⟨rfl, h1, h2, h3, h4, hkp⟩
  clear HC
  replace hkp := Lib.hid hkp
  have c1 : W.cell? ⟨b, 1, none⟩ = some v := by rw [Lib.cell_of_heap h1]; rfl
  replace h1 := Lib.hid h1
  replace h3 := Lib.hid h3
  have hml : l.length + s.size ≤ maxLen := by unfold maxLen; omega
  go_wp2_with (at_builtin; go_loud (refine Lib.wpList_append_own_string _ rfl _ _ 46 9 rfl (b + 1) 5 iu Try.underlying46 Try.underlying9 hiu hz1 hz2 hz3 _ _ _ rfl h2 s rfl hml (by omega) (by omega) ?_))
  intro v' W2 hown hgr hnil
  have hbl : Below (b + 1) W W2 := (Below.refl (b + 1) W).grown hgr (by omega) fun k hk => (h2.lt k hk).1
  have h12 : W2.heap[b]? = some (.cells #[.pointer (some ⟨b, 0, none⟩), v] 54 (0, 0)) := by rw [hbl.block b (by omega)]; exact h1.out
  have d1 : W2.cell? ⟨b, 1, none⟩ = some v := by rw [Lib.cell_of_heap h12]; rfl
  have f1 : W2.frozen? ⟨b, 1, none⟩ = false := Lib.frozen_of_heap h12 1
  obtain ⟨so, sc, hv⟩ := own_mem hown
  have hlen : (l ++ s.data.toList).length = l.length + s.size := by rw [List.length_append, Array.length_toList]; rfl
  have HN : Hid (l ++ s.data.toList = [] → v' = .slice none 0 0) := Lib.hid fun e => by
    have e1 : l = [] := (List.append_eq_nil_iff.1 e).1
    have e2 : s.data.toList = [] := (List.append_eq_nil_iff.1 e).2
    refine hnil.2 ⟨?_, ?_⟩
    · rcases h2.2 with ⟨hvv, _⟩ | ⟨g, cap, cur, hvv, q1, q2, q3, q4, q5, q6⟩
      · exact hvv
      · exact absurd (HX.out e1) (by rw [hvv]; simp)
    · have := congrArg List.length e2; simpa using this
  subst hv
  have HB2 : Hid (HB b (l ++ s.data.toList) (W2.setCell ⟨b, 1, none⟩ (.slice so (l.length + s.size) sc))) := by
    refine Lib.hid ⟨_, .slice so (l.length + s.size) sc, ?_, .inr rfl, ?_, HN.out⟩
    · simp [World.setCell, Array.getElem?_modify, h12]
    · rw [bvals_append, hlen, ← strCells_bvals]
      refine hown.kept (row := some b) ⟨rfl, rfl, rfl, by simp [World.setCell], fun k _ hk => Below.heap_setCell _ _ _ _ (fun e => hk (by simp [e]))⟩ (Or.inr ?_)
      exact (row_ne hown h12 (by decide)).symm
  have HW : Hid (Below b w (W2.setCell ⟨b, 1, none⟩ (.slice so (l.length + s.size) sc))) := by
    refine Lib.hid ((h3.out.trans ?_).setCell (p := ⟨b, 1, none⟩) (Nat.le_refl _) _)
    exact ⟨hbl.os, hbl.tape, hbl.output, hbl.size, fun k hk => hbl.block k (by omega)⟩
  have HK : Hid (Kp b w (W2.setCell ⟨b, 1, none⟩ (.slice so (l.length + s.size) sc))) := by
    refine Lib.hid fun k c t fr hk ht hne => ?_
    have e1 := hkp.out k c t fr hk ht hne
    have hk1 : W.heap[k]? = some (.cells c t fr) := e1.trans hk
    rw [heap_setCell_other _ _ _ _ hne, hgr.block k (Array.getElem?_eq_some_iff.1 hk1).1 (fun e => row_ne h2 hk1 ht e), e1]
  clear hown h12 hbl h1 h3 hgr hnil HN HX h2 hkp
  go_wp2
  go_ret2
  exact ⟨rfl, HB2.out, HW.out, HK.out⟩

/-- .. its row perhaps frozen. -/
structure HF (b : Nat) (l : List UInt8) (w : World) : Prop where
  ex : ∃ p v, w.heap[b]? = some (.cells #[p, v] 54 (0, 0)) ∧ ((l = [] ∧ v = .slice none 0 0) ∨ (l ≠ [] ∧ ∃ g cap cur fr, v = .slice (some ⟨g, 0, none⟩) l.length cap ∧ b + 1 ≤ g ∧ w.heap[g]? = some (.cells cur 5 fr) ∧ l.length ≤ cap ∧ cap ≤ maxLen ∧ cur.size = cap ∧ cur.toList.take l.length = bvals l))
theorem HF.grow {b l w w'} (h : HF b l w) (k : Grow w w') : HF b l w' := by
  obtain ⟨p, v, h1, h2⟩ := h.ex
  refine ⟨p, v, k.block h1, h2.imp id ?_⟩
  rintro ⟨h0, g, cap, cur, fr, r1, r2, r3, r4⟩
  exact ⟨h0, g, cap, cur, fr, r1, r2, k.block r3, r4⟩
theorem HB.hf {b l w} (h : HB b l w) : HF b l w := by
  obtain ⟨p, v, h1, h2, h3, h4⟩ := h.ex
  refine ⟨p, v, h1, ?_⟩
  by_cases h0 : l = []
  · exact .inl ⟨h0, h4 h0⟩
  · refine .inr ⟨h0, ?_⟩
    rcases h3.2 with ⟨_, hz⟩ | ⟨g, cap, cur, r1, r2, r3, r4, r5, r6, r7⟩
    · exact absurd (List.length_eq_zero_iff.1 hz) h0
    · exact ⟨g, cap, cur, (0, 0), r1, r2, r3, r4, r5, by omega, by simpa using r7⟩
theorem cellsU8 : Try.prog.cellsOf 5 = 1 := by kernel_rfl
theorem freeze_keeps {w : World} {g n : Nat} {cur : Array Value} {t fr} (hg : w.heap[g]? = some (.cells cur t fr)) : ∃ fr', (w.freeze ⟨g, 0, none⟩ n).heap[g]? = some (.cells cur t fr') := by
  unfold World.freeze
  split
  · exact ⟨fr, hg⟩
  · simp only [Array.getElem?_modify]
    simp [hg]
theorem freeze_other {w : World} {g n k : Nat} (h : k ≠ g) : (w.freeze ⟨g, 0, none⟩ n).heap[k]? = w.heap[k]? := by
  unfold World.freeze
  split
  · rfl
  · simp only [Array.getElem?_modify]
    simp [Ne.symm h]
set_option maxRecDepth 100000 in
set_option maxHeartbeats 1000000 in
theorem bstring (b : Nat) (l : List UInt8) (w : World) (h : HF b l w) :
    Calls Try.prog 21 #[.pointer (some ⟨b, 0, none⟩)] w fun e w' => e = .returned (.string ⟨l.toArray⟩) ∧ HF b l w' ∧ Below (b + 1) w w' ∧ Kp b w w' := by
  obtain ⟨p, v, h1, h2 | ⟨h0, g, cap, cur, fr, rfl, r2, r3, r4, r5, r6, r7⟩⟩ := h.ex
  · obtain ⟨rfl, rfl⟩ := h2
    have hf : HF b [] w.drew := ⟨h.ex⟩
    have c1 : w.drew.cell? ⟨b, 1, none⟩ = some (.slice none 0 0) := by
      have : w.drew.heap[b]? = some (.cells #[p, .slice none 0 0] 54 (0, 0)) := h1
      rw [Lib.cell_of_heap this]; rfl
    have hSD : (Builtin.unsafeSliceData_ #[46] 105 #[.slice none 0 0]).run Try.prog w.drew = .ok (.pointer none) w.drew := rfl
    have hUS : (Builtin.unsafeString_ #[105, 3] 9 #[.pointer none, .int .i64 0]).run Try.prog w.drew = .ok (.string .empty) w.drew := Lib.run_unsafeString_none _ _ _ _ _
    clear h h1
    go_enter Try.func21, Try.ntmps21
    go_wp2
    go_region
    all_goals (go_wp2; go_ret; exact ⟨rfl, hf, Below.drew (Below.refl _ w), fun k c t fr hk ht hne => rfl⟩)
  · have hl : 0 < l.length := by cases l with | nil => exact absurd rfl h0 | cons => simp
    have c1 : w.drew.cell? ⟨b, 1, none⟩ = some (.slice (some ⟨g, 0, none⟩) l.length cap) := by
      have : w.drew.heap[b]? = some (.cells #[p, .slice (some ⟨g, 0, none⟩) l.length cap] 54 (0, 0)) := h1
      rw [Lib.cell_of_heap this]; rfl
    have hSD : (Builtin.unsafeSliceData_ #[46] 105 #[.slice (some ⟨g, 0, none⟩) l.length cap]).run Try.prog w.drew = .ok (.pointer (some ⟨g, 0, none⟩)) w.drew :=
      Lib.run_unsafeSliceData_row _ _ _ _ _ _ (by omega)
    have hUS : (Builtin.unsafeString_ #[105, 3] 9 #[.pointer (some ⟨g, 0, none⟩), .int .i64 l.length]).run Try.prog w.drew = .ok (.string ⟨l.toArray⟩) (w.drew.freeze ⟨g, 0, none⟩ l.length) := by
      refine Lib.run_unsafeString_row w.drew 105 3 9 5 Try.underlying105 cellsU8 g cur.size (by have hg' : w.drew.heap[g]? = some (.cells cur 5 fr) := r3; simp [World.shape?, hg']) l h0 (by omega) (by unfold maxLen at r5; omega) ?_
      intro j x hx
      have hj : j < l.length := (List.getElem?_eq_some_iff.1 hx).1
      have hg' : w.drew.heap[g]? = some (.cells cur 5 fr) := r3
      have e : (⟨g, 0, none⟩ : Addr).add j = ⟨g, j, none⟩ := by unfold Addr.add; split <;> simp_all
      rw [e, Lib.cell_of_heap hg']
      have h3 : (cur.toList.take l.length)[j]? = some (.int .u8 x.toNat) := by rw [r7]; simp [bvals, hx]
      rw [List.getElem?_take, if_pos hj, Array.getElem?_toList] at h3
      exact h3
    have hf : HF b l (w.drew.freeze ⟨g, 0, none⟩ l.length) := by
      obtain ⟨fr', h5⟩ := freeze_keeps (w := w.drew) (n := l.length) r3
      refine ⟨p, _, ?_, .inr ⟨h0, g, cap, cur, fr', rfl, r2, h5, r4, r5, r6, r7⟩⟩
      rw [freeze_other (by omega)]; exact h1
    have HK : Hid (Kp b w (w.drew.freeze ⟨g, 0, none⟩ l.length)) := Lib.hid fun k c t fr' hk ht hne => by
      rw [freeze_other (fun e => by subst e; rw [r3] at hk; injection hk with hk; injection hk with _ hk _; exact ht hk.symm)]; rfl
    clear h h1 r3 r4 r5 r6 r7
    go_enter Try.func21, Try.ntmps21
    go_wp2
    go_region
    all_goals (go_wp2; go_ret; exact ⟨rfl, hf, Lib.below_freeze (Below.drew (Below.refl _ w)) (p := ⟨g, 0, none⟩) r2 _, HK.out⟩)
end Go.Proofs.Ytpdckpifhniioaa.Oct
