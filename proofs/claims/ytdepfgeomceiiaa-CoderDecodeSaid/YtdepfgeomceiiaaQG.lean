/- Walk of the reference's next. -/
import Derived.Test.YtdepfgeomceiiaaQC
import Derived.Test.YtdepfgeomceiiaaG
set_option linter.unusedVariables false
namespace Go.Proofs.Ytdepfgeomceiiaa
open Go.RowKit
set_option maxRecDepth 100000 in
set_option maxHeartbeats 1000000 in
theorem rnext39 (g : Nat) (f : ByteArray) (n : Nat) (p : Nat → Int) (lo en : Int) (w : World) (hB : Blk w g 58 261 (cr p lo en (RX f n))) (hn : n ≤ 1000000000000) (hf : f.size ≤ 1000000000000000) :
    Calls Try.prog 39 #[.pointer (some ⟨g, 0, none⟩)] w fun e w' => e = .returned (.tuple #[]) ∧ Blk w' g 58 261 (cr p lo en (RX f (n + 1))) ∧ Chg g none w w' := by
  obtain ⟨v0, v1⟩ := vv_bd f.data.toList n
  have c8 : w.cell? ⟨g, 258, none⟩ = some (.string f) := hB.cell 258 (by omega)
  have c9 : w.cell? ⟨g, 259, none⟩ = some (.int .i64 (n : Int)) := hB.cell 259 (by omega)
  have c10 : w.cell? ⟨g, 260, none⟩ = some (.int .u32 (vv f.data.toList n)) := hB.cell 260 (by omega)
  have fr := fun i => hB.free i
  have HB := Lib.hid hB
  clear hB
  go_enter Try.func39, Try.ntmps39
  go_upto_region 1 with fail
  refine q_region (C := fun x => ∃ n, x = w.drewN n) (by kernel_rfl) (by kernel_rfl) ⟨1, rfl⟩ ?_
  repeat (first
    | go_big_quiet_skip
    | (go_big_quiet_want; refine q_val ?_; apply Exists.intro; refine ⟨fun x hx => ?_, ?_⟩; (focus (obtain ⟨n, rfl⟩ := hx; go_simp <;> rfl)); simp only [Act.put, List.setIfInBounds_toArray, List.set_cons_zero, List.set_cons_succ]; go_big_quiet_on))
  refine wpQuiet_nil ?_
  rintro x ⟨nn, rfl⟩
  go_upto_if 12 with fail
  replace HB := Lib.hid (show Blk (w.drewN nn) _ _ _ _ from HB.out)
  have HC := Lib.hid (show Chg g none w (w.drewN nn) from ⟨rfl, rfl, rfl, Nat.le_refl _, fun _ _ _ _ => rfl⟩)
  replace c8 : (w.drewN nn).cell? ⟨g, 258, none⟩ = some (.string f) := c8
  replace c9 : (w.drewN nn).cell? ⟨g, 259, none⟩ = some (.int .i64 (n : Int)) := c9
  replace c10 : (w.drewN nn).cell? ⟨g, 260, none⟩ = some (.int .u32 (vv f.data.toList n)) := c10
  replace fr : ∀ i, (w.drewN nn).frozen? ⟨g, i, none⟩ = false := fr
  generalize w.drewN nn = W2 at *
  go_cut [2] (fun s2 wx => s2 = .int .i64 (M.at' f.data.toList n) ∧ ∃ m, wx = W2.drewN m)
  case first =>
    by_cases hlt : n < f.size
    · go_upto_region 2 with fail
      refine q_region (C := fun x => ∃ n, x = W2.drewN n) (by kernel_rfl) (by kernel_rfl) ⟨1, rfl⟩ ?_
      repeat (first
        | go_big_quiet_skip
        | (go_big_quiet_want; refine q_val ?_; apply Exists.intro; refine ⟨fun x hx => ?_, ?_⟩; (focus (obtain ⟨n, rfl⟩ := hx; go_simp <;> rfl)); simp only [Act.put, List.setIfInBounds_toArray, List.set_cons_zero, List.set_cons_succ]; go_big_quiet_on))
      refine wpQuiet_nil ?_
      rintro x ⟨mm, rfl⟩
      have hby : (f[n].toNat : Int) = M.at' f.data.toList n := by
        unfold M.at'
        rw [List.getD_eq_getElem?_getD]
        have : f.data.toList[n]? = some f[n] := by
          rw [Array.getElem?_toList, Array.getElem?_eq_getElem hlt]; rfl
        rw [this]; rfl
      have hwr : IntKind.i64.wrap (f[n].toNat : Int) = M.at' f.data.toList n := by rw [hby, IntKind.wrap_i64]; have := M.at_bd f.data.toList n; omega
      rw [hwr]
      go_wp2
      go_meet
      exact ⟨rfl, mm, rfl⟩
    · have hz : M.at' f.data.toList n = 0 := by
        unfold M.at'
        rw [List.getD_eq_getElem?_getD, List.getElem?_eq_none (by simpa using hlt)]; rfl
      go_wp2
      go_meet
      exact ⟨by rw [hz], 0, rfl⟩
  case rest =>
  obtain ⟨rfl, mm, hw⟩ := hcut
  rw [hw]
  replace HB := Lib.hid (show Blk (W2.drewN mm) _ _ _ _ from HB.out)
  replace HC := Lib.hid (show Chg g none w (W2.drewN mm) from ⟨HC.out.os, HC.out.tape, HC.out.output, HC.out.size, HC.out.block⟩)
  replace c9 : (W2.drewN mm).cell? ⟨g, 259, none⟩ = some (.int .i64 (n : Int)) := c9
  replace c10 : (W2.drewN mm).cell? ⟨g, 260, none⟩ = some (.int .u32 (vv f.data.toList n)) := c10
  replace fr : ∀ i, (W2.drewN mm).frozen? ⟨g, i, none⟩ = false := fr
  clear hw
  generalize W2.drewN mm = W3 at *
  have hb := M.at_bd f.data.toList n
  have hvv : vv f.data.toList (n + 1) = vv f.data.toList n * 256 % 4294967296 + M.at' f.data.toList n := rfl
  have hwa : IntKind.u32.wrap (M.at' f.data.toList n) = M.at' f.data.toList n := w32 _ (by omega) (by omega)
  replace hvv := Lib.hid hvv
  generalize M.at' f.data.toList n = bt at *
  have h1 := HB.out.set 260 (.int .u32 (vv f.data.toList n * 256 % 4294967296 + bt))
  rw [cr_put_x 260 (by omega)] at h1
  have h2 := h1.set 259 (.int .i64 ((n : Int) + 1))
  rw [cr_put_x 259 (by omega)] at h2
  have hC2 := Lib.hid ((HC.out.set 260 (.int .u32 (vv f.data.toList n * 256 % 4294967296 + bt))).set 259 (.int .i64 ((n : Int) + 1)))
  have d9 : (W3.setCell ⟨g, 260, none⟩ (.int .u32 (vv f.data.toList n * 256 % 4294967296 + bt))).cell? ⟨g, 259, none⟩ = some (.int .i64 (n : Int)) := by rw [h1.cell 259 (by omega), cr_x 259 (by omega)]; rfl
  replace h1 := Lib.hid h1
  replace h2 := Lib.hid h2
  go_wp2
  refine bodyPost_end (results_none rfl _ _ _) rfl ⟨rfl, h2.out.congr fun i hi => ?_, hC2.out⟩
  by_cases h : i < 258
  · unfold cr
    by_cases h1 : i < 256
    · simp [h1]
    · by_cases h2 : i = 256
      · simp [h2]
      · simp [show i = 257 by omega]
  · rw [cr_x i (by omega), cr_x i (by omega)]
    obtain rfl | rfl | rfl : i = 258 ∨ i = 259 ∨ i = 260 := by omega
    · rfl
    · show Value.int .i64 ((n : Int) + 1) = .int .i64 ((n + 1 : Nat) : Int)
      rw [Int.natCast_add]; rfl
    · show Value.int .u32 _ = .int .u32 (vv f.data.toList (n + 1))
      rw [hvv.out]
end Go.Proofs.Ytdepfgeomceiiaa
