/- Walks of layer 1: the checksum. -/
import Derived.Test.YtcanmfkocbnbfaaC
import Derived.Deep.WholeRow
namespace Go.Proofs.Ytcanmfkocbnbfaa
open Go.RowKit

/-- The table of the checksums of single bytes. -/
def tabC : Array Value := ((List.range 256).map fun i => Value.int .u32 (M.steps 8 i : Nat)).toArray
theorem tabC_at (i : Nat) (h : i < 256) : tabC[i]? = some (.int .u32 (M.steps 8 i : Nat)) := by
  simp [tabC, h]

theorem not_nat (c : Nat) (h : c < 4294967296) : 4294967295 ^^^ c = 4294967295 - c := by
  apply Nat.eq_of_testBit_eq
  intro i
  have h1 := Nat.testBit_two_pow_sub_succ (x := c) (n := 32) h i
  have h2 := Nat.testBit_two_pow_sub_one 32 i
  rw [show 4294967295 - c = 2 ^ 32 - (c + 1) by omega, h1, Nat.testBit_xor, show (4294967295 : Nat) = 2 ^ 32 - 1 from rfl, h2]
  by_cases hi : i < 32
  · simp [hi]
  · have : c.testBit i = false := Nat.testBit_lt_two_pow (Nat.lt_of_lt_of_le (show c < 2 ^ 32 from h) (Nat.pow_le_pow_right (by omega) (by omega : 32 ≤ i)))
    simp [hi, this]
theorem not_u32 (c : Nat) (h : c < 4294967296) : bits .xor .u32 IntKind.u32.max (c : Int) = ((4294967295 - c : Nat) : Int) := by
  have h1 := u32_xor_nat 4294967295 c (by omega) h
  rw [not_nat c h] at h1
  exact h1
theorem tabC_size : tabC.size = 256 := by simp [tabC]
theorem Try.size58 : (Try.prog.info? 58).map (·.size) = some tabC.size := by rw [tabC_size]; kernel_rfl
theorem tabC_one : tabC.all (·.oneCell') = true := by
  rw [Array.all_eq_true_iff_forall_mem]
  intro x hx
  simp [tabC] at hx
  obtain ⟨i, _, rfl⟩ := hx
  rfl
theorem step_go (x : Nat) (h : x < 4294967296) : bits .xor .u32 ((x : Int) / 2) (3988292384 * bits .and .u32 (x : Int) 1 % 4294967296) = ((M.step x : Nat) : Int) := by
  have h1 := u32_and_nat x 1 h (by omega)
  rw [show ((1 : Nat) : Int) = 1 from rfl] at h1
  rw [h1, Nat.and_one_is_mod]
  have h2 : 3988292384 * ((x % 2 : Nat) : Int) % 4294967296 = ((if x % 2 = 1 then M.poly else 0 : Nat) : Int) := by
    unfold M.poly
    rcases Nat.mod_two_eq_zero_or_one x with e | e <;> rw [e] <;> rfl
  have h3 := u32_xor_nat (x / 2) (if x % 2 = 1 then M.poly else 0) (by omega) (by unfold M.poly; split <;> omega)
  rw [h2, show (x : Int) / 2 = ((x / 2 : Nat) : Int) by omega, h3]
  unfold M.step
  rw [M.shr1]

/-- The table when its first k places are filled. -/
def tabK (k : Nat) : Array Value := ((List.range 256).map fun i => Value.int .u32 (if i < k then M.steps 8 i else 0 : Nat)).toArray
theorem tabK_zero : tabK 0 = Array.replicate 256 (.int .u32 0) := by
  apply Array.ext
  · simp [tabK]
  · intro i h1 h2
    simp [tabK]
theorem tabK_size (k : Nat) : (tabK k).size = 256 := by simp [tabK]
theorem tabK_set (k : Nat) : (tabK k).setIfInBounds k (.int .u32 (M.steps 8 k : Nat)) = tabK (k + 1) := by
  apply Array.ext
  · simp [tabK]
  · intro i h1 h2
    rw [Array.getElem_setIfInBounds (by simpa using h1)]
    split
    · rename_i e; subst e; simp [tabK]
    · simp only [tabK, List.getElem_toArray, List.getElem_map, List.getElem_range]
      congr 2
      by_cases h3 : i < k
      · rw [if_pos h3, if_pos (by omega)]
      · rw [if_neg h3, if_neg (by omega)]
theorem tabK_cell (k : Nat) (h : k < 256) : (tabK k)[k]? = some (.int .u32 0) := by
  simp [tabK, h]
theorem tabK_full : tabK 256 = tabC := by
  unfold tabK tabC
  apply congrArg List.toArray
  apply List.map_congr_left
  intro i hi
  rw [if_pos (by simpa using hi)]

theorem Try.zero58 (w : World) : (zeroValue 58).run Try.prog w = .ok (.agg (Array.replicate 256 (.int .u32 0))) w := by kernel_rfl

set_option maxRecDepth 100000 in
set_option maxHeartbeats 400000 in
theorem table_any (w : World) :
    Calls Try.prog 36 #[] w fun e w' => e = .returned (.agg tabC) ∧ Below w.heap.size w w' := by
  have hz := Try.zero58
  go_enter Try.func36, Try.ntmps36
  go_wp2_with fail
  clear hz
  go_loopw [3] (fun i wr => ∃ k : Nat, k ≤ 256 ∧ i = .int .i64 k ∧ wr.heap[w.heap.size]? = some (.cells (tabK k) 58 (0, 0)) ∧ Below w.heap.size w wr)
    (fun i _ => 256 - (intOf i).toNat)
  case atStart => exact ⟨0, by omega, rfl, by rw [tabK_zero]; exact heap_alloc_new _ _, (Below.refl _ _).alloc (Nat.le_refl _) _⟩
  case round =>
    obtain ⟨k, hk, rfl, hg, hb⟩ := hrel
    have hG := Lib.hid hg
    clear hg
    by_cases hlt : k < 256
    · go_wp2_with fail
      go_loop [2, 8] (fun c j => ∃ m x : Nat, m ≤ 8 ∧ j = .int .i64 m ∧ c = .int .u32 (x : Nat) ∧ Hid (x < 4294967296) ∧ Hid (M.steps (8 - m) x = M.steps 8 k)) (fun _ j => 8 - (intOf j).toNat)
      case atStart => exact ⟨0, k, by omega, rfl, by first | rfl | go_num, (show k < 4294967296 by omega), rfl⟩
      case round =>
        obtain ⟨m, x, hm, rfl, rfl, hx, HX⟩ := hrel
        by_cases hm8 : m < 8
        · have hst := step_go x hx.out
          have HY : Hid (M.steps (8 - (m + 1)) (M.step x) = M.steps 8 k) := by
            have := HX.out
            rw [show 8 - m = (8 - (m + 1)) + 1 by omega] at this
            exact this
          go_wp2_with fail
          go_round
          case rel => exact ⟨m + 1, M.step x, by omega, by go_num, rfl, M.step_lt x hx.out, HY⟩
          case measure => simp [intOf]; omega
        · have hxk : x = M.steps 8 k := by have := HX.out; rw [show 8 - m = 0 by omega] at this; exact this
          have hcell : wr.cell? ⟨w.heap.size, k, none⟩ = some (.int .u32 0) := by rw [cell_of_row wr _ _ _ _ _ hG.out]; exact tabK_cell k hlt
          have hfr : wr.frozen? ⟨w.heap.size, k, none⟩ = false := frozen_of_row wr _ _ _ _ hG.out
          have HXK := Lib.hid hxk
          clear hxk
          go_wp2_with fail
          go_roundw
          case rel => exact ⟨k + 1, by omega, by go_num, by rw [HXK.out, heap_setCell_same wr _ _ _ _ _ hG.out, tabK_set k], hb.setCell (Nat.le_refl _) _⟩
          case measure => simp [intOf]; omega
    · have hkk : k = 256 := by omega
      have hg : wr.heap[w.heap.size]? = some (.cells tabC 58 (0, 0)) := by rw [hG.out, hkk, tabK_full]
      have hset : wr.setRow w.heap.size tabC = wr := setRow_self wr _ _ _ _ hg
      clear hG
      go_wp2_with (first | (refine wpList_store_row rfl 58 _ _ rfl w.heap.size tabC rfl rfl 58 tabC hg (by kernel_rfl) rfl tabC_one ?_) | (refine wpList_load_row rfl 58 _ rfl w.heap.size rfl 58 _ (0, 0) _ hg Try.underlying58 rfl (by kernel_rfl) ?_))
      rw [hset]
      exact bodyPost_ret (v := .agg tabC) (results_cell_row rfl _ _ w.heap.size 58 tabC (0, 0) _ rfl hg Try.underlying58 rfl (by kernel_rfl)) rfl ⟨rfl, hb⟩

theorem xor_u8 (c : Nat) (b : UInt8) : bits .xor .u8 ((c : Int) % 256) (b.toNat : Int) = ((c % 256 ^^^ b.toNat : Nat) : Int) := by
  have h := u8_xor_nat (c % 256) b.toNat (by omega) b.toNat_lt
  rw [← h]; rfl
theorem xor_lt256 (c : Nat) (b : UInt8) : (c % 256 ^^^ b.toNat) < 256 := Nat.xor_lt_two_pow (n := 8) (by omega) b.toNat_lt
theorem xor_u32 (c : Nat) (b : Nat) (hc : c < 4294967296) (hb : b < 256) : bits .xor .u32 (M.steps 8 (c % 256 ^^^ b) : Nat) ((c : Int) / 256) = ((M.crcB c b : Nat) : Int) := by
  have h := u32_xor_nat (M.steps 8 (c % 256 ^^^ b)) (c / 256) (M.steps_lt 8 _ (M.xor_lt32 (by omega) (by omega))) (by omega)
  rw [M.crcB_table, Nat.shiftRight_eq_div_pow]
  rw [show ((c / 256 : Nat) : Int) = (c : Int) / 256 by omega] at h
  rw [h]

set_option maxRecDepth 100000 in
set_option maxHeartbeats 400000 in
theorem sum1_any (gt gc : Nat) (c : Nat) (b : UInt8) (w : World)
   (ht : w.heap[gt]? = some (.cells tabC 58 (0, 0))) (hc : w.heap[gc]? = some (.cells #[.int .u32 c] 26 (0, 0))) (hlt : c < 4294967296) :
    Calls Try.prog 37 #[.int .u8 b.toNat, .pointer (some ⟨gt, 0, none⟩), .pointer (some ⟨gc, 0, none⟩)] w fun e w' => e = .returned (.tuple #[]) ∧ w' = (w.setCell ⟨gc, 0, none⟩ (.int .u32 (M.crcB c b.toNat : Nat))).drew := by
  have h1 := xor_u8 c b
  have h2 := xor_lt256 c b
  have h3 := xor_u32 c b.toNat hlt b.toNat_lt
  have h4 : w.cell? ⟨gc, 0, none⟩ = some (.int .u32 c) := by rw [cell_of_row w gc 0 _ _ _ hc]; rfl
  have h5 : w.frozen? ⟨gc, 0, none⟩ = false := frozen_of_row w gc 0 _ _ hc
  have h6 : w.cell? ⟨gt, (c % 256 ^^^ b.toNat), none⟩ = some (.int .u32 (M.steps 8 (c % 256 ^^^ b.toNat) : Nat)) := by rw [cell_of_row w gt _ _ _ _ ht]; exact tabC_at _ h2
  have h7 : ((c % 256 ^^^ b.toNat : Nat) : Int) < 256 := by omega
  go_enter Try.func37, Try.ntmps37
  go_wp2_with fail
  go_region
  all_goals (go_end0; exact ⟨rfl, rfl⟩)

theorem take_snoc (s : ByteArray) (k : Nat) (h : k < s.size) : s.data.toList.take (k + 1) = s.data.toList.take k ++ [s[k]] := by
  rw [List.take_succ_eq_append_getElem (by simpa using h)]; rfl

theorem crc_snoc (s : ByteArray) (k : Nat) (h : k < s.size) : M.crcL 4294967295 (s.data.toList.take (k + 1)) = M.crcB (M.crcL 4294967295 (s.data.toList.take k)) (s[k]).toNat := by
  rw [take_snoc s k h, M.crcL_append]; rfl

set_option maxRecDepth 100000 in
set_option maxHeartbeats 400000 in
theorem sum_any (s : ByteArray) (w : World) (hs : s.size ≤ 1000000000000000000) :
    Calls Try.prog 20 #[.string s] w fun e w' => e = .returned (.int .u32 (M.sum s.data.toList : Nat)) ∧ Below w.heap.size w w' := by
  have hz := Try.zero58
  go_enter Try.func20, Try.ntmps20
  go_wp2_with fail
  refine (table_any _).mono ?_
  rintro e w1 ⟨rfl, hb⟩
  go_wp2_with fail
  rw [run_storeCells_new w1 58 _ tabC Try.size58 (by rw [tabC_size, Array.size_replicate]) tabC_one]
  go_wp2_with fail
  clear hz
  go_loopw [11] (fun i wr => ∃ k c : Nat, k ≤ s.size ∧ i = .int .i64 k ∧ Hid (c < 4294967296) ∧ Hid (c = M.crcL 4294967295 (s.data.toList.take k)) ∧ wr.heap[w1.heap.size]? = some (.cells tabC 58 (0, 0)) ∧ wr.heap[w1.heap.size + 1]? = some (.cells #[.int .u32 c] 26 (0, 0)) ∧ Below w.heap.size w wr) (fun i _ => s.size - (intOf i).toNat)
  case atStart => exact ⟨0, 4294967295, by omega, rfl, (show 4294967295 < 4294967296 by omega), rfl, heap_alloc2_old _ _ _, heap_alloc2_new _ _ _, (hb.alloc hb.size _).alloc (by rw [World.size_alloc]; have := hb.size; omega) _⟩
  case round =>
    obtain ⟨k, c, hk, rfl, hc, HC, hgt, hgc, hbr⟩ := hrel
    have Hgt := Lib.hid hgt
    have Hgc := Lib.hid hgc
    clear hgt hgc
    by_cases hlt : k < s.size
    · go_wp2_with fail
      refine (sum1_any w1.heap.size (w1.heap.size + 1) c (s[k]) _ Hgt.out Hgc.out hc.out).mono ?_
      rintro e w2 ⟨rfl, h1⟩
      have H1 := Lib.hid h1
      clear h1
      go_wp2_with fail
      go_roundw
      case rel =>
        refine ⟨k + 1, M.crcB c (s[k]).toNat, by omega, by go_num, M.crcB_lt c _ hc.out (s[k]).toNat_lt, (show M.crcB c (s[k]).toNat = _ by rw [crc_snoc s k hlt, ← HC.out]), ?_, ?_, ?_⟩
        · rw [H1.out, heap_drew, heap_setCell_other _ _ _ _ (by simp), Hgt.out]
        · rw [H1.out, heap_drew, heap_setCell_same _ _ _ _ _ _ Hgc.out]; rfl
        · rw [H1.out]
          exact (hbr.setCell (by have := hb.size; simp; omega) _).drew
      case measure => simp [intOf]; omega
    · have h4 : wr.cell? ⟨w1.heap.size + 1, 0, none⟩ = some (.int .u32 c) := by rw [cell_of_row wr _ 0 _ _ _ Hgc.out]; rfl
      have hkk : k = s.size := by omega
      have HF : Hid (bits .xor .u32 IntKind.u32.max (c : Int) = ((M.sum s.data.toList : Nat) : Int)) := by
        have h1 := HC.out
        rw [List.take_of_length_le (by rw [hkk]; exact Nat.le_refl _)] at h1
        unfold M.sum
        rw [← h1]
        exact not_u32 c hc.out
      go_wp2_with fail
      go_ret
      exact ⟨ret_int HF.out, hbr⟩

set_option maxRecDepth 100000 in
set_option maxHeartbeats 400000 in
theorem sum_ref (s : ByteArray) (w : World) (hs : s.size ≤ 1000000000000000000) :
    Calls Try.prog 21 #[.string s] w fun e w' => e = .returned (.int .u32 (M.sum s.data.toList : Nat)) ∧ w = w' := by
  go_enter Try.func21, Try.ntmps21
  go_wp2_with fail
  go_loop [3, 4] (fun c i => ∃ k x : Nat, k ≤ s.size ∧ i = .int .i64 k ∧ c = .int .u32 x ∧ Hid (x < 4294967296) ∧ Hid (x = M.crcL 4294967295 (s.data.toList.take k))) (fun _ i => s.size - (intOf i).toNat)
  case atStart => exact ⟨0, 4294967295, by omega, rfl, rfl, (show 4294967295 < 4294967296 by omega), rfl⟩
  case round =>
    obtain ⟨k, x, hk, rfl, rfl, hx, HX⟩ := hrel
    by_cases hlt : k < s.size
    · have hb := (s[k]).toNat_lt
      have h1 := u32_xor_nat x (s[k]).toNat hx.out (by omega)
      have HS : Hid (M.crcL 4294967295 (s.data.toList.take (k + 1)) = M.crcB x (s[k]).toNat) := by rw [HX.out]; exact crc_snoc s k hlt
      go_wp2_with fail
      clear h1
      go_loop [3, 5] (fun c j => ∃ m y : Nat, m ≤ 8 ∧ j = .int .i64 m ∧ c = .int .u32 (y : Nat) ∧ Hid (y < 4294967296) ∧ Hid (M.steps (8 - m) y = M.crcB x (s[k]).toNat)) (fun _ j => 8 - (intOf j).toNat)
      case atStart => exact ⟨0, x ^^^ (s[k]).toNat, by omega, rfl, rfl, M.xor_lt32 hx.out (by omega), rfl⟩
      case round =>
        obtain ⟨m, y, hm, rfl, rfl, hy, HY⟩ := hrel
        by_cases hm8 : m < 8
        · have hd : ((y : Int) / 2 % 4294967296) = ((y / 2 : Nat) : Int) := by have := hy.out; omega
          have hst : bits .xor .u32 ((y / 2 : Nat) : Int) 3988292384 = (((y / 2) ^^^ M.poly : Nat) : Int) := u32_xor_nat (y / 2) M.poly (by have := hy.out; omega) (by unfold M.poly; omega)
          have HZ : Hid (M.steps (8 - (m + 1)) (M.step y) = M.crcB x (s[k]).toNat) := by
            have := HY.out
            rw [show 8 - m = (8 - (m + 1)) + 1 by omega] at this
            exact this
          go_wp2_with fail
          · have h2 : ((y : Int) % 2 == 1) = true := by assumption
            have h3 : (y : Int) % 2 = 1 := by simpa using h2
            go_round
            case rel => exact ⟨m + 1, M.step y, by omega, by go_num, by rw [M.step_odd y (by omega)]; exact congrArg (Value.int .u32) hst, M.step_lt y hy.out, HZ⟩
            case measure => simp [intOf]; omega
          · have h2 : ((y : Int) % 2 == 1) = false := by assumption
            have h3 : ¬ (y : Int) % 2 = 1 := by simpa using h2
            go_round
            case rel => exact ⟨m + 1, M.step y, by omega, by go_num, by rw [M.step_even y (by omega)]; rfl, M.step_lt y hy.out, HZ⟩
            case measure => simp [intOf]; omega
        · go_wp2_with fail
          go_round
          case rel => exact ⟨k + 1, y, by omega, by go_num, rfl, hy, (show y = _ by rw [HS.out, ← HY.out, show 8 - m = 0 by omega]; rfl)⟩
          case measure => simp [intOf]; omega
    · have hkk : k = s.size := by omega
      have HF : Hid (((4294967295 - (x : Int)) % 4294967296) = (M.sum s.data.toList : Nat)) := by
        have h1 := HX.out
        have h2 := hx.out
        rw [List.take_of_length_le (by rw [hkk]; exact Nat.le_refl _)] at h1
        unfold M.sum
        rw [← h1]
        show _ = _
        omega
      go_wp2_with fail
      go_ret
      exact ⟨ret_int HF.out, rfl⟩
end Go.Proofs.Ytcanmfkocbnbfaa
