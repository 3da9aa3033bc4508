/- The reader: its block; walk of next. -/
import Derived.Test.YtdepfgeomceiiaaF
import Derived.Test.YtdepfgeomceiiaaJ3
set_option linter.unusedVariables false
namespace Go.Proofs.Ytdepfgeomceiiaa
open Go.RowKit
/-- The value behind n bytes. -/
def vv (F : List UInt8) : Nat → Int
  | 0 => 0
  | n + 1 => vv F n * 256 % 4294967296 + M.at' F n
theorem vv_bd (F : List UInt8) : ∀ n, 0 ≤ vv F n ∧ vv F n ≤ 4294967295
  | 0 => by simp [vv]
  | n + 1 => by
    have := M.at_bd F n
    show 0 ≤ vv F n * 256 % 4294967296 + M.at' F n ∧ vv F n * 256 % 4294967296 + M.at' F n ≤ 4294967295
    omega
theorem vv_val (F : List UInt8) : ∀ n, vv F (n + 4) = M.val F n
  | 0 => by
    have := M.at_bd F 0
    have := M.at_bd F 1
    have := M.at_bd F 2
    have := M.at_bd F 3
    show (((0 * 256 % 4294967296 + M.at' F 0) * 256 % 4294967296 + M.at' F 1) * 256 % 4294967296 + M.at' F 2) * 256 % 4294967296 + M.at' F 3 = M.at' F 0 * 16777216 + M.at' F 1 * 65536 + M.at' F 2 * 256 + M.at' F 3
    omega
  | n + 1 => by
    rw [M.val_next, ← vv_val F n]; rfl
/-- The reader's cells behind the coder's. -/
def RX (f : ByteArray) (n : Nat) : Nat → Value := fun i => if i = 258 then .string f else if i = 259 then .int .i64 (n : Int) else .int .u32 (vv f.data.toList n)
theorem or_byte (v b : Int) (h0 : 0 ≤ v) (h1 : v ≤ 4294967295) (b0 : 0 ≤ b) (b1 : b ≤ 255) : bits .or .u32 (v * 256 % 4294967296) b = v * 256 % 4294967296 + b := by
  obtain ⟨k, hk⟩ : ∃ k : Nat, v % 16777216 = k := ⟨(v % 16777216).toNat, by omega⟩
  obtain ⟨c, rfl⟩ : ∃ c : Nat, b = c := ⟨b.toNat, by omega⟩
  have e : v * 256 % 4294967296 = ((k * 256 : Nat) : Int) := by omega
  have hb : k * 256 < 4294967296 := by omega
  rw [e]
  have h := u32_or_nat (k * 256) c (by omega) (by omega)
  rw [h]
  have : k * 256 ||| c = k * 256 + c := by
    have := Nat.shiftLeft_add_eq_or_of_lt (show c < 2 ^ 8 by omega) k
    rw [Nat.shiftLeft_eq] at this
    exact this.symm
  rw [this]; omega
set_option maxRecDepth 100000 in
set_option maxHeartbeats 1000000 in
theorem rnext (g : Nat) (f : ByteArray) (n : Nat) (p : Nat → Int) (lo en b : Int) (w : World) (hB : Blk w g 70 261 (cc p lo en (RX f n))) (hn : n ≤ 1000000000000) (hf : f.size ≤ 1000000000000000) :
    Calls Try.prog 42 #[.pointer (some ⟨g, 0, none⟩), .int .u8 b] w fun e w' => e = .returned (.tuple #[]) ∧ Blk w' g 70 261 (cc p lo en (RX f (n + 1))) ∧ Chg g none w w' := by
  obtain ⟨v0, v1⟩ := vv_bd f.data.toList n
  have c8 : w.cell? ⟨g, 258, none⟩ = some (.string f) := hB.cell 258 (by omega)
  have c9 : w.cell? ⟨g, 259, none⟩ = some (.int .i64 (n : Int)) := hB.cell 259 (by omega)
  have c10 : w.cell? ⟨g, 260, none⟩ = some (.int .u32 (vv f.data.toList n)) := hB.cell 260 (by omega)
  have fr := fun i => hB.free i
  have HB := Lib.hid hB
  clear hB
  go_enter Try.func42, Try.ntmps42
  go_upto_region 1 with fail
  have h1 := HB.out.set 260 (.int .u32 (vv f.data.toList n * 256 % 4294967296))
  have hC1 := (Chg.refl g none w).set 260 (.int .u32 (vv f.data.toList n * 256 % 4294967296))
  generalize w.setCell ⟨g, 260, none⟩ (.int .u32 (vv f.data.toList n * 256 % 4294967296)) = W1 at *
  rw [cc_put_x 260 (by omega)] at h1
  replace c8 : W1.cell? ⟨g, 258, none⟩ = some (.string f) := h1.cell 258 (by omega)
  replace c9 : W1.cell? ⟨g, 259, none⟩ = some (.int .i64 (n : Int)) := h1.cell 259 (by omega)
  replace c10 : W1.cell? ⟨g, 260, none⟩ = some (.int .u32 (vv f.data.toList n * 256 % 4294967296)) := h1.cell 260 (by omega)
  replace fr := fun i => h1.free i
  replace HB := Lib.hid h1
  have HC := Lib.hid hC1
  clear h1 hC1
  refine q_region (C := fun x => ∃ n, x = W1.drewN n) (by kernel_rfl) (by kernel_rfl) ⟨1, rfl⟩ ?_
  repeat (first
    | go_big_quiet_skip
    | (go_big_quiet_want; refine q_val ?_; apply Exists.intro; refine ⟨fun x hx => ?_, ?_⟩; (focus (obtain ⟨n, rfl⟩ := hx; go_simp <;> rfl)); simp only [Act.put, List.setIfInBounds_toArray, List.set_cons_zero, List.set_cons_succ]; go_big_quiet_on))
  refine wpQuiet_nil ?_
  rintro x ⟨nn, rfl⟩
  go_upto_if 20 with fail
  replace HB := Lib.hid (show Blk (W1.drewN nn) _ _ _ _ from HB.out)
  replace HC := Lib.hid (show Chg g none w (W1.drewN nn) from ⟨HC.out.os, HC.out.tape, HC.out.output, HC.out.size, HC.out.block⟩)
  replace c8 : (W1.drewN nn).cell? ⟨g, 258, none⟩ = some (.string f) := c8
  replace c9 : (W1.drewN nn).cell? ⟨g, 259, none⟩ = some (.int .i64 (n : Int)) := c9
  replace c10 : (W1.drewN nn).cell? ⟨g, 260, none⟩ = some (.int .u32 (vv f.data.toList n * 256 % 4294967296)) := c10
  replace fr : ∀ i, (W1.drewN nn).frozen? ⟨g, i, none⟩ = false := fr
  generalize W1.drewN nn = W2 at *
  go_cut [20] (fun _ wx => Blk wx g 70 261 (cc p lo en (vput (vput (RX f n) 260 (.int .u32 (vv f.data.toList n * 256 % 4294967296))) 260 (.int .u32 (vv f.data.toList (n + 1))))) ∧ Chg g none w wx)
  case first =>
    by_cases hlt : n < f.size
    · go_upto_region 2 with fail
      refine wp_region_lastB2 (C := fun x => ∃ n, x = W2.drewN n) rfl (by kernel_rfl) (by kernel_rfl) (by kernel_rfl) (by kernel_rfl) rfl rfl ⟨1, rfl⟩ ?_
      simp only [lastOp, List.dropLast, List.cons_append, List.nil_append]
      repeat (first
        | go_big_quiet_skip
        | (go_big_quiet_want; refine q_val ?_; apply Exists.intro; refine ⟨fun x hx => ?_, ?_⟩; (focus (obtain ⟨n, rfl⟩ := hx; go_simp <;> rfl)); simp only [Act.put, List.setIfInBounds_toArray, List.set_cons_zero, List.set_cons_succ]; go_big_quiet_on))
      refine wpQuiet_nil ?_
      rintro x ⟨mm, rfl⟩
      have hby : (f[n].toNat : Int) = M.at' f.data.toList n := by
        unfold M.at'
        rw [List.getD_eq_getElem?_getD]
        have : f.data.toList[n]? = some f[n] := by
          rw [Array.getElem?_toList, Array.getElem?_eq_getElem hlt]; rfl
        rw [this]; rfl
      have hb := M.at_bd f.data.toList n
      rw [hby]
      have hwr : IntKind.u32.wrap (M.at' f.data.toList n) = M.at' f.data.toList n := w32 _ (by omega) (by omega)
      have hor := or_byte (vv f.data.toList n) (M.at' f.data.toList n) v0 v1 hb.1 hb.2
      rw [hwr, hor]
      have hvv : vv f.data.toList n * 256 % 4294967296 + M.at' f.data.toList n = vv f.data.toList (n + 1) := rfl
      rw [hvv]
      replace c10 : (W2.drewN mm).cell? ⟨g, 260, none⟩ = some (.int .u32 (vv f.data.toList n * 256 % 4294967296)) := c10
      have fr2 : ∀ i, (W2.drewN mm).frozen? ⟨g, i, none⟩ = false := fr
      have HB3 := Lib.hid (Blk.set (show Blk (W2.drewN mm) _ _ _ _ from HB.out) 260 (.int .u32 (vv f.data.toList (n + 1))))
      have HC3 := Lib.hid (Chg.set (show Chg g none w (W2.drewN mm) from ⟨HC.out.os, HC.out.tape, HC.out.output, HC.out.size, HC.out.block⟩) 260 (.int .u32 (vv f.data.toList (n + 1))))
      clear hby hwr hor hvv
      generalize vv f.data.toList (n + 1) = vn at *
      generalize W2.drewN mm = W3 at *
      go_wp2
      go_meet
      exact ⟨by rw [← cc_put_x 260 (by omega)]; exact HB3.out, HC3.out⟩
    · have hz : M.at' f.data.toList n = 0 := by
        unfold M.at'
        rw [List.getD_eq_getElem?_getD, List.getElem?_eq_none (by simpa using hlt)]; rfl
      go_wp2
      go_meet
      refine ⟨HB.out.congr fun i hi => ?_, HC.out⟩
      have e : vv f.data.toList (n + 1) = vv f.data.toList n * 256 % 4294967296 := by show _ + _ = _; rw [hz]; omega
      rw [e]
      congr 1
      funext k
      unfold vput
      split <;> rfl
  case rest =>
  obtain ⟨hB, hC⟩ := hcut
  clear HB HC c8 c9 c10 fr
  obtain ⟨W3, hW3⟩ : ∃ W3 : World, W3 = wc := ⟨_, rfl⟩
  subst hW3
  have c9 : W3.cell? ⟨g, 259, none⟩ = some (.int .i64 (n : Int)) := hB.cell 259 (by omega)
  have fr := hB.free 259
  have HB := Lib.hid (hB.set 259 (.int .i64 ((n : Int) + 1)))
  have HC := Lib.hid (hC.set 259 (.int .i64 ((n : Int) + 1)))
  clear hB hC
  go_wp2
  refine bodyPost_end (results_none rfl _ _ _) rfl ⟨rfl, HB.out.congr fun i hi => ?_, HC.out⟩
  rw [cc_put_x 259 (by omega)]
  by_cases h : i < 258
  · unfold cc
    by_cases h1 : i < 256
    · simp [h1]
    · by_cases h2 : i = 256
      · simp [h2]
      · simp [show i = 257 by omega]
  · rw [cc_x i (by omega), cc_x i (by omega)]
    obtain rfl | rfl | rfl : i = 258 ∨ i = 259 ∨ i = 260 := by omega
    · rfl
    · show Value.int .i64 ((n : Int) + 1) = .int .i64 ((n + 1 : Nat) : Int)
      rw [Int.natCast_add]; rfl
    · rfl
end Go.Proofs.Ytdepfgeomceiiaa
