/- Walks of layer 10 (predict): the cost, the program's and the reference's; strings of zero bytes. -/
import Derived.Test.YtihhcmgidgffoaaH
import Derived.Test.YtihhcmgidgffoaaMath
import Derived.Deep.QuietTactic
import Derived.BigQuiet
import Derived.Deep.OwnRows
set_option linter.unusedVariables false
namespace Go.Proofs.Ytihhcmgidgffoaa
open Go.RowKit

theorem take_snoc (t : ByteArray) (j : Nat) (h : j < t.size) : t.data.toList.take (j + 1) = t.data.toList.take j ++ [t.data[j]] := by
  rw [List.take_add_one, List.getElem?_eq_getElem (by simpa using h)]; simp
theorem cost_snoc (t : ByteArray) (j : Nat) (h : j < t.size) : M.cost (t.data.toList.take (j + 1)) = M.cost (t.data.toList.take j) + M.cb t.data[j] := by
  rw [take_snoc t j h, M.cost_append]; simp [M.cost]
theorem cost_take_le (t : ByteArray) (j : Nat) : M.cost (t.data.toList.take j) ≤ 128 * j := by
  have := M.cost_le (t.data.toList.take j)
  have : (t.data.toList.take j).length ≤ j := List.length_take_le _ _
  omega

theorem cb_go (n : Nat) (b : UInt8) (h : n ≤ 1000000000000000000) : wrap64 ((n : Int) + (if wrap64 (256 - wrap64 (b.toNat : Int)) < wrap64 (b.toNat : Int) then wrap64 (256 - wrap64 (b.toNat : Int)) else wrap64 (b.toNat : Int))) = ((n + M.cb b : Nat) : Int) := by
  have := b.toNat_lt
  rw [IntWalk.wrap64_in (b.toNat : Int) ⟨by omega, by omega⟩, IntWalk.wrap64_in (256 - (b.toNat : Int)) ⟨by omega, by omega⟩]
  unfold M.cb
  split
  · rw [IntWalk.wrap64_in _ ⟨by omega, by omega⟩]; omega
  · rw [IntWalk.wrap64_in _ ⟨by omega, by omega⟩]; omega
set_option maxRecDepth 100000 in
set_option maxHeartbeats 400000 in
theorem cost_any (t : ByteArray) (w : World) (hs : t.size ≤ 1000000000000000) (c : Int) (hc : c = (M.cost t.data.toList : Nat)) :
    Calls Try.prog 11 #[.string t] w fun e w' => e = .returned (.int .i64 c) ∧ Below w.heap.size w w' := by
  have HC := Lib.hid hc
  clear hc
  obtain ⟨W1, cap, hcb, hcap, hlie, hfree, hbW, hgW⟩ := conv_bytes w t
  go_enter Try.func11, Try.ntmps11
  go_wp2_with fail
  clear hcb
  have hlen : t.data.toList.length = t.size := Array.length_toList
  clear hfree hgW
  go_loopw [3, 9] (fun a i wr => ∃ j : Nat, j ≤ t.size ∧ i = .int .i64 j ∧ a = .int .i64 ((M.cost (t.data.toList.take j) : Nat) : Int) ∧ Hid (wr = W1)) (fun a i _ => t.size - (intOf i).toNat)
  case atStart => exact ⟨0, Nat.zero_le _, rfl, by rw [List.take_zero]; rfl, rfl⟩
  case round =>
    obtain ⟨j, hj, rfl, rfl, HW⟩ := hrel
    have hle := cost_take_le t j
    by_cases hlt : j < t.size
    · have hi : j < t.data.toList.length := by omega
      have f1 := hlie j hi
      rw [← HW.out] at f1
      have hb := (t.data.toList[j]).toNat_lt
      have hsn := Lib.hid (cost_snoc t j hlt)
      go_wp2_with fail
      all_goals
        go_roundw
        case rel =>
          refine ⟨j + 1, by omega, by go_num, ?_, HW⟩
          rw [hsn.out]
          exact congrArg (Value.int .i64) (cb_go _ _ (by omega))
        case measure => simp [intOf]; omega
    · go_wp2_with fail
      go_ret
      have hje : j = t.size := by omega
      rw [List.take_of_length_le (by omega)]
      rw [HW.out, HC.out]
      exact ⟨rfl, hbW⟩

set_option maxRecDepth 100000 in
set_option maxHeartbeats 400000 in
theorem cost_ref (t : ByteArray) (w : World) (hs : t.size ≤ 1000000000000000) (c : Int) (hc : c = (M.cost t.data.toList : Nat)) :
    Calls Try.prog 12 #[.string t] w fun e w' => e = .returned (.int .i64 c) ∧ Below w.heap.size w w' := by
  have HC := Lib.hid hc
  clear hc
  go_enter Try.func12, Try.ntmps12
  go_wp2_with fail
  go_loopw [3, 4] (fun a i wr => ∃ j : Nat, j ≤ t.size ∧ i = .int .i64 j ∧ a = .int .i64 ((M.cost (t.data.toList.take j) : Nat) : Int) ∧ Below w.heap.size w wr) (fun a i _ => t.size - (intOf i).toNat)
  case atStart => exact ⟨0, Nat.zero_le _, rfl, by rw [List.take_zero]; rfl, Below.refl _ _⟩
  case round =>
    obtain ⟨j, hj, rfl, rfl, HW⟩ := hrel
    have hle := cost_take_le t j
    by_cases hlt : j < t.size
    · have hb := (t.data[j]).toNat_lt
      have hsn := Lib.hid (cost_snoc t j hlt)
      go_wp2_with fail
      go_quiet (fail)
      go_wp2_with fail
      all_goals
        go_roundw
        case rel =>
          refine ⟨j + 1, by omega, by go_num, ?_, below_drewN HW _⟩
          rw [hsn.out]
          exact congrArg (Value.int .i64) (cb_go _ _ (by omega))
        case measure => simp [intOf]; omega
    · go_wp2_with fail
      go_ret
      have hje : j = t.size := by omega
      rw [List.take_of_length_le (by rw [Array.length_toList]; show t.size ≤ j; omega)]
      rw [HC.out]
      exact ⟨rfl, HW⟩

theorem zeros_cells (n : Nat) : ∀ j (h : j < (List.replicate n (0 : UInt8)).length), (madeCells #[Value.int .u8 0] n)[0 + j]? = some (.int .u8 (((List.replicate n (0 : UInt8))[j]).toNat : Int)) := by
  intro j h
  simp at h
  simp [madeCells, h]
  rw [Nat.mod_one]; rfl
theorem Try.info5 : (Try.prog.info? 5).map (fun i => (i.zero, i.size, i.bytes)) = some (some (.int .u8 0), 1, 1) := by kernel_rfl
set_option maxRecDepth 100000 in
theorem zeros_any (n : Nat) (hn : n ≤ 1000) (w : World) :
    Calls Try.prog 14 #[.int .i64 n] w fun e w' => e = .returned (.string ⟨(List.replicate n (0 : UInt8)).toArray⟩) ∧ Below w.heap.size w w' := by
  have hc : (convert 23 9 (.slice (some ⟨w.heap.size, 0, none⟩) n n)).run Try.prog (w.alloc (.cells (madeCells #[Value.int .u8 0] n) 5)) = .ok (.string ⟨(List.replicate n (0 : UInt8)).toArray⟩) (w.alloc (.cells (madeCells #[Value.int .u8 0] n) 5)) :=
    conv_row (P := Try.prog) _ 23 9 5 Try.underlying23 Try.underlying5 Try.underlying9 w.heap.size 5 (0, 0) _ (heap_alloc_new _ _) 0 n n (List.replicate n 0) (by simp) (zeros_cells n)
  generalize (⟨(List.replicate n (0 : UInt8)).toArray⟩ : ByteArray) = z at *
  go_enter Try.func14, Try.ntmps14
  go_wp2_with fail
  rw [run_make_row' 23 5 (.int .u8 0) 1 Try.underlying23 Try.info5 rfl _ _ n (by omega) (by omega)]
  go_wp2_with fail
  go_ret
  exact ⟨rfl, (Below.refl _ _).alloc (Nat.le_refl _) _⟩
end Go.Proofs.Ytihhcmgidgffoaa
