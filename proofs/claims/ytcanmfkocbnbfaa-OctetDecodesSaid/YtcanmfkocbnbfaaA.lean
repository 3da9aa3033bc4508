/- Walks of layer 1: size and Put. -/
import Derived.Test.YtcanmfkocbnbfaaBase
import Derived.Test.YtcanmfkocbnbfaaMath
namespace Go.Proofs.Ytcanmfkocbnbfaa
open Go.RowKit

def sz (n : Int) : Nat := (max 0 (min n 8)).toNat
theorem sz_le (n : Int) : sz n ≤ 8 := by unfold sz; omega

theorem size_any (n : Int) (w : World) :
    Calls Try.prog 34 #[.int .i64 n] w fun e w' => e = .returned (.int .i64 (sz n)) ∧ w = w' := by
  go_enter Try.func34, Try.ntmps34
  go_wp2
  all_goals
    go_ret
    exact ⟨ret_int (by unfold sz; split at * <;> omega), rfl⟩

theorem size_ref (n : Int) (w : World) :
    Calls Try.prog 35 #[.int .i64 n] w fun e w' => e = .returned (.int .i64 (sz n)) ∧ w = w' := by
  go_enter Try.func35, Try.ntmps35
  go_wp2
  all_goals
    go_ret
    exact ⟨ret_int (by unfold sz; split at * <;> omega), rfl⟩

theorem be8_cells (u : Nat) (h : u < 18446744073709551616) :
    #[Value.int .u8 ((u : Int) / 72057594037927936), .int .u8 ((u : Int) / 281474976710656 % 256), .int .u8 ((u : Int) / 1099511627776 % 256),
      .int .u8 ((u : Int) / 4294967296 % 256), .int .u8 ((u : Int) / 16777216 % 256), .int .u8 ((u : Int) / 65536 % 256), .int .u8 ((u : Int) / 256 % 256), .int .u8 ((u : Int) % 256)] = bcells (M.be 8 u) := by
  have e : (u : Int) / 72057594037927936 = (u : Int) / 72057594037927936 % 256 := by omega
  rw [e]
  simp [bcells, M.be]

theorem be_window (u s k : Nat) (h : s = 0 ∨ k + s = 8) : ∀ j (hj : j < (M.be s u).length), (bcells (M.be 8 u))[k + j]? = some (.int .u8 (((M.be s u)[j]).toNat : Int)) := by
  intro j hj
  have hl : j < s := by rw [M.be_length] at hj; exact hj
  have h8 : k + s = 8 := by omega
  have hd := M.be_drop k s u
  rw [h8] at hd
  rw [bcells_at _ _ (by rw [M.be_length]; omega)]
  congr 3
  simp only [← hd, List.getElem_drop]

set_option maxHeartbeats 400000 in
theorem put_any (n m : Int) (w : World) :
    Calls Try.prog 14 #[.int .i64 n, .int .i64 m] w fun e w' => e = .returned (.string ⟨(M.be (sz m) (u64 n)).toArray⟩) ∧ Below w.heap.size w w' := by
  have hs8 := sz_le m
  have hu := u64_eq n
  have hul := u64_lt n
  go_enter Try.func14, Try.ntmps14
  go_wp2_with fail
  refine wp_loop_rounds 9 ?_
  iterate 9 (rw [rounds_succ]; go_wp2_with fail)
  refine (size_any _ _).mono ?_
  rintro e w' ⟨rfl, rfl⟩
  have hk : sz m = 0 ∨ sz m = 1 ∨ sz m = 2 ∨ sz m = 3 ∨ sz m = 4 ∨ sz m = 5 ∨ sz m = 6 ∨ sz m = 7 ∨ sz m = 8 := by omega
  rcases hk with h | h | h | h | h | h | h | h | h
  all_goals
    go_wp2_with fail
    rw [be8_cells _ hul]
    rw [conv_row (P := Try.prog) _ 35 9 5 Try.underlying35 Try.underlying5 Try.underlying9 w.heap.size 56 (0,0) (bcells (M.be 8 (u64 n))) (heap_alloc_new _ _) _ _ _ (M.be (sz m) (u64 n)) (by rw [M.be_length, h]) (be_window _ _ _ (by omega))]
    go_wp2_with fail
    go_ret
    exact ⟨by first | (rw [h]; done) | (rw [h]; rfl), (Below.refl _ _).alloc (Nat.le_refl _) _⟩
end Go.Proofs.Ytcanmfkocbnbfaa
