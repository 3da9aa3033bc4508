/- Walk of the law PredictGradient of layer 10: it returns true and writes nothing that was there. -/
import Derived.Test.YtihhcmgidgffoaaG
import Derived.Test.YtihhcmgidgffoaaFlat
set_option linter.unusedVariables false
namespace Go.Proofs.Ytihhcmgidgffoaa
open Go.RowKit
namespace predictGradient
/-- The grey value at an index. -/
def gv (a b c : UInt8) (i : Nat) : UInt8 := a + b * UInt8.ofNat (i % 8) + c * UInt8.ofNat (i / 8)
def tile (a b c : UInt8) (j : Nat) : UInt8 := if j % 4 = 3 then 255 else gv a b c (j / 4)
def tileN (a b c : UInt8) (n j : Nat) : UInt8 := if j < n * 4 then tile a b c j else 0
theorem ofNat_succ (x : Nat) : UInt8.ofNat (x + 1) = UInt8.ofNat x + 1 := by
  apply UInt8.toNat_inj.1
  rw [UInt8.toNat_add]
  simp
theorem gv_right (a b c : UInt8) (i : Nat) (h : 0 < i % 8) : gv a b c i = b + gv a b c (i - 1) := by
  unfold gv
  rw [show i % 8 = (i - 1) % 8 + 1 by omega, show (i - 1) / 8 = i / 8 by omega, ofNat_succ, UInt8.mul_add, UInt8.mul_one]
  generalize b * UInt8.ofNat ((i - 1) % 8) = x
  generalize c * UInt8.ofNat (i / 8) = y
  rw [UInt8.add_comm x b, ← UInt8.add_assoc, UInt8.add_comm a b, UInt8.add_assoc, UInt8.add_assoc, UInt8.add_assoc]
theorem gv_down (a b c : UInt8) (i : Nat) (h : 8 ≤ i) : gv a b c i = c + gv a b c (i - 8) := by
  unfold gv
  rw [show i / 8 = (i - 8) / 8 + 1 by omega, show (i - 8) % 8 = i % 8 by omega, ofNat_succ, UInt8.mul_add, UInt8.mul_one]
  generalize b * UInt8.ofNat (i % 8) = x
  generalize c * UInt8.ofNat ((i - 8) / 8) = y
  rw [UInt8.add_comm y c, ← UInt8.add_assoc, UInt8.add_comm (a + x) c, UInt8.add_assoc]
theorem gv_go (a b c : UInt8) (n : Nat) (h : n < 64) : ((a.toNat : Int) + (b.toNat : Int) * ((n : Int) % 8) + (c.toNat : Int) * ((n : Int) / 8)) % 256 = ((gv a b c n).toNat : Int) := by
  have e1 : (b.toNat : Int) * ((n : Int) % 8) = ((b.toNat * (n % 8) : Nat) : Int) := by rw [Int.natCast_mul]; rfl
  have e2 : (c.toNat : Int) * ((n : Int) / 8) = ((c.toNat * (n / 8) : Nat) : Int) := by rw [Int.natCast_mul]; rfl
  rw [e1, e2]
  unfold gv
  have h1 : (UInt8.ofNat (n % 8)).toNat = n % 8 := by simp; omega
  have h2 : (UInt8.ofNat (n / 8)).toNat = n / 8 := by simp; omega
  rw [UInt8.toNat_add, UInt8.toNat_add, UInt8.toNat_mul, UInt8.toNat_mul, h1, h2]
  generalize b.toNat * (n % 8) = x
  generalize c.toNat * (n / 8) = y
  omega
theorem tileN_zero (a b c : UInt8) : tileN a b c 0 = fun _ => 0 := by funext j; simp [tileN]
theorem tileN_full (a b c : UInt8) (j : Nat) (h : j < 256) : tileN a b c 64 j = tile a b c j := by unfold tileN; rw [if_pos (by omega)]
theorem tileN_put (a b c : UInt8) (n j : Nat) : M.put (M.put (M.put (M.put (tileN a b c n) (n * 4) (gv a b c n)) (n * 4 + 1) (gv a b c n)) (n * 4 + 2) (gv a b c n)) (n * 4 + 3) 255 j = tileN a b c (n + 1) j := by
  unfold M.put tileN
  by_cases h3 : j = n * 4 + 3
  · subst h3; rw [if_pos rfl, if_pos (by omega)]; unfold tile; rw [if_pos (by omega)]
  rw [if_neg h3]
  by_cases h2 : j = n * 4 + 2
  · subst h2; rw [if_pos rfl, if_pos (by omega)]; unfold tile; rw [if_neg (by omega), show (n * 4 + 2) / 4 = n by omega]
  rw [if_neg h2]
  by_cases h1 : j = n * 4 + 1
  · subst h1; rw [if_pos rfl, if_pos (by omega)]; unfold tile; rw [if_neg (by omega), show (n * 4 + 1) / 4 = n by omega]
  rw [if_neg h1]
  by_cases h0 : j = n * 4
  · subst h0; rw [if_pos rfl, if_pos (by omega)]; unfold tile; rw [if_neg (by omega), show (n * 4) / 4 = n by omega]
  rw [if_neg h0]
  by_cases h : j < n * 4
  · rw [if_pos h, if_pos (by omega)]
  · rw [if_neg h, if_neg (by omega)]
theorem plf_tile (a b c : UInt8) (i : Nat) (h : i < 64) : plf (tile a b c) i = gv a b c i := by
  unfold plf
  rw [if_pos h]
  unfold tile
  rw [if_neg (by omega), if_neg (by omega), if_neg (by omega), show 4 * i / 4 = i by omega, show (4 * i + 1) / 4 = i by omega, show (4 * i + 2) / 4 = i by omega]
  exact (M.sw_grey _).2.2
theorem res1 (a b c : UInt8) (i : Nat) (h : i < 64) (h0 : 0 < i % 8) : M.res 1 (plf (tile a b c)) i = b := by
  unfold M.res
  rw [show i / 64 = 0 by omega, show i % 64 = i by omega]
  have hg : M.gs 1 (M.pl (plf (tile a b c)) 0) i = gv a b c (i - 1) := by
    have hv := M.gs_val 1 (M.pl (plf (tile a b c)) 0) i
    have hn : M.gi 1 (M.pl (plf (tile a b c)) 0) i = ((gv a b c (i - 1)).toNat : Int) := by
      show M.nbL _ _ = _
      unfold M.nbL
      rw [if_neg (by omega), ← plf_tile a b c (i - 1) (by omega)]
      by_cases h8 : i < 8
      · rw [if_pos h8]; unfold M.pl; simp
      · rw [if_neg h8, if_neg (by omega)]; unfold M.pl; simp
    rw [hn] at hv
    exact UInt8.toNat_inj.1 (by omega)
  rw [hg, plf_tile a b c i h, gv_right a b c i h0]
  exact UInt8.add_sub_cancel _ _
theorem res2 (a b c : UInt8) (i : Nat) (h : i < 64) (h0 : 8 ≤ i) : M.res 2 (plf (tile a b c)) i = c := by
  unfold M.res
  rw [show i / 64 = 0 by omega, show i % 64 = i by omega]
  have hg : M.gs 2 (M.pl (plf (tile a b c)) 0) i = gv a b c (i - 8) := by
    have hv := M.gs_val 2 (M.pl (plf (tile a b c)) 0) i
    have hn : M.gi 2 (M.pl (plf (tile a b c)) 0) i = ((gv a b c (i - 8)).toNat : Int) := by
      show M.nbU _ _ = _
      unfold M.nbU
      rw [if_neg (by omega), if_neg (by omega), ← plf_tile a b c (i - 8) (by omega)]
      unfold M.pl; simp
    rw [hn] at hv
    exact UInt8.toNat_inj.1 (by omega)
  rw [hg, plf_tile a b c i h, gv_down a b c i h0]
  exact UInt8.add_sub_cancel _ _

theorem index1 (a b c : UInt8) (i : Nat) (h : i < 64) (h0 : 0 < i % 8) (W : World) : (Instr.index 9 (.string (fw 1 (tile a b c))) (.int .i64 i)).run Try.prog W = .ok (.int .u8 b.toNat) W := by
  have hi : i < (fw 1 (tile a b c)).size := by rw [fw_size]; omega
  have hg : (fw 1 (tile a b c))[i]? = some b := by rw [getElem?_pos (fw 1 (tile a b c)) i hi, fw_get, res1 a b c i h h0]
  simp [Instr.index, asIntOf, Sem.run_bind, run_underlying Try.underlying9, hg]
theorem index2 (a b c : UInt8) (i : Nat) (h : i < 64) (h0 : 8 ≤ i) (W : World) : (Instr.index 9 (.string (fw 2 (tile a b c))) (.int .i64 i)).run Try.prog W = .ok (.int .u8 c.toNat) W := by
  have hi : i < (fw 2 (tile a b c)).size := by rw [fw_size]; omega
  have hg : (fw 2 (tile a b c))[i]? = some c := by rw [getElem?_pos (fw 2 (tile a b c)) i hi, fw_get, res2 a b c i h h0]
  simp [Instr.index, asIntOf, Sem.run_bind, run_underlying Try.underlying9, hg]

set_option maxRecDepth 100000 in
set_option maxHeartbeats 800000 in
theorem walk (a0 a1 a2 : Int) (w : World) (w0 : (Lit.int .u8 a0).wf = true) (w1 : (Lit.int .u8 a1).wf = true) (w2 : (Lit.int .u8 a2).wf = true) :
    Calls Try.prog 7 #[.int .u8 a0, .int .u8 a1, .int .u8 a2] w fun e w' => e = .returned (.bool true) ∧ Below w.heap.size w w' := by
  obtain ⟨a, rfl⟩ := u8_of w0
  obtain ⟨b, rfl⟩ := u8_of w1
  obtain ⟨c, rfl⟩ := u8_of w2
  clear w0 w1 w2
  have hz := Try.zero36
  go_enter Try.func7, Try.ntmps7
  go_wp2_with fail
  refine (sanity_any _).mono ?_
  rintro e x1 ⟨rfl, b1⟩
  go_wp2_with (refine wp_store_cf x1 rfl 36 _ _ rfl rfl x1.heap.size rfl 256 (fun _ => 0) (fun _ => 0) rfl rfl Try.size36 36 ?_)
  clear hz
  have l1 := b1.size
  go_loopw [9] (fun i wr => ∃ n : Nat, n ≤ 64 ∧ i = .int .i64 n ∧ Bk x1.heap.size 36 256 (tileN a b c n) wr ∧ Below w.heap.size w wr) (fun i _ => 64 - (intOf i).toNat)
  case atStart => exact ⟨0, by omega, rfl, by rw [tileN_zero]; exact Bk.new _ _ _ _, b1.alloc b1.size _⟩
  case round =>
    obtain ⟨n, hn, rfl, hB, hb⟩ := hrel
    by_cases hlt : n < 64
    · have c0 := hB.cell (n * 4) (by omega)
      have c1 := hB.cell (n * 4 + 1) (by omega)
      have c2 := hB.cell (n * 4 + 2) (by omega)
      have c3 := hB.cell (n * 4 + 3) (by omega)
      have f0 := hB.free (n * 4)
      have f1 := hB.free (n * 4 + 1)
      have f2 := hB.free (n * 4 + 2)
      have f3 := hB.free (n * 4 + 3)
      have HB := Lib.hid hB
      clear hB
      go_wp2_with fail
      go_roundw
      case rel =>
        rw [gv_go a b c n hlt]
        exact ⟨n + 1, by omega, by go_num, ((((HB.out.set (n * 4) _).set (n * 4 + 1) _).set (n * 4 + 2) _).set (n * 4 + 3) 255).congr (fun j _ => tileN_put a b c n j),
          (((hb.setCell (p := ⟨x1.heap.size, n * 4, none⟩) l1 _).setCell (p := ⟨x1.heap.size, n * 4 + 1, none⟩) l1 _).setCell (p := ⟨x1.heap.size, n * 4 + 2, none⟩) l1 _).setCell (p := ⟨x1.heap.size, n * 4 + 3, none⟩) l1 _⟩
      case measure => simp [intOf]; omega
    · have hn64 : n = 64 := by omega
      have hB2 : Bk x1.heap.size 36 256 (tile a b c) wr := hB.congr (fun j hj => (by rw [hn64]; exact tileN_full a b c j hj))
      clear hB hn64
      go_wp2_with (refine wpList_load_row rfl 36 _ rfl x1.heap.size rfl 36 _ (0, 0) _ hB2 Try.underlying36 rfl (by rw [cf_size]; exact Try.size36) ?_)
      refine (forward_of _ 1 (by omega) 1 rfl _).mono ?_
      rintro e x2 ⟨rfl, b2⟩
      have hB3 := hB2.keep b2
      replace hb := bt hb b2
      clear hB2 b2 b1
      go_wp2_with (refine wpList_load_row rfl 36 _ rfl x1.heap.size rfl 36 _ (0, 0) _ hB3 Try.underlying36 rfl (by rw [cf_size]; exact Try.size36) ?_)
      refine (forward_of _ 2 (by omega) 2 rfl _).mono ?_
      rintro e x3 ⟨rfl, b3⟩
      replace hb := bt hb b3
      clear hB3 b3 l1
      have s1 := fw_size 1 (tile a b c)
      have s2 := fw_size 2 (tile a b c)
      have X1 := index1 a b c
      have X2 := index2 a b c
      have HX1 := Lib.hid X1
      have HX2 := Lib.hid X2
      clear X1 X2
      generalize fw 1 (tile a b c) = r1 at *
      generalize fw 2 (tile a b c) = r2 at *
      go_wp2_with fail
      clear s1 s2
      go_loopw [15] (fun i wi => ∃ m : Nat, m ≤ 64 ∧ i = .int .i64 m ∧ Hid (wi = x3)) (fun i _ => 64 - (intOf i).toNat)
      case atStart => exact ⟨0, by omega, rfl, rfl⟩
      case round =>
        obtain ⟨m, hm, rfl, HW⟩ := hrel
        by_cases hm64 : m < 64
        · by_cases h8 : m % 8 = 0
          · have h80 : (m : Int) % 8 = 0 := by omega
            have h81 : ¬ (0 : Int) < (m : Int) % 8 := by omega
            by_cases hr : m < 8
            · go_wp2_with fail
              go_roundw
              case rel => exact ⟨m + 1, by omega, by go_num, HW⟩
              case measure => simp [intOf]; omega
            · have hi2 := HX2.out m hm64 (by omega)
              go_wp2_with fail
              go_roundw
              case rel => exact ⟨m + 1, by omega, by go_num, HW⟩
              case measure => simp [intOf]; omega
          · have h81 : (0 : Int) < (m : Int) % 8 := by omega
            have hi1 := HX1.out m hm64 (by omega)
            by_cases hr : m < 8
            · go_wp2_with fail
              go_roundw
              case rel => exact ⟨m + 1, by omega, by go_num, HW⟩
              case measure => simp [intOf]; omega
            · have hi2 := HX2.out m hm64 (by omega)
              go_wp2_with fail
              go_roundw
              case rel => exact ⟨m + 1, by omega, by go_num, HW⟩
              case measure => simp [intOf]; omega
        · go_wp2_with fail
          go_ret
          rw [HW.out]
          exact ⟨rfl, hb⟩
end predictGradient
end Go.Proofs.Ytihhcmgidgffoaa
