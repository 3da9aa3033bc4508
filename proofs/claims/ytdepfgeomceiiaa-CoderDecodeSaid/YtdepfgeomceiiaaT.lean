/- Walk of the law's sanity and of some. -/
import Derived.Test.YtdepfgeomceiiaaY
set_option linter.unusedVariables false
namespace Go.Proofs.Ytdepfgeomceiiaa
open Go.RowKit
theorem san1 : M.outB M.start (cx 0) (1 % 2) = [] ∧ (M.nxt M.start (cx 0) (1 % 2)).lo = 0 := by decide
theorem san2 : M.outB M.start (cx 0) (0 % 2) = [] ∧ (M.nxt M.start (cx 0) (0 % 2)).lo = 2147481601 := by decide
theorem san3 : nb ⟨#[127, 255, 248, 1]⟩ 0 M.start 0 = 0 := by decide
theorem san4 : M.outB M.start (cx 0) 0 = [] := by decide
theorem san5 : (⟨(M.enc (⟨#[]⟩ : ByteArray).data.toList).toArray⟩ : ByteArray) = ⟨#[0, 0, 0, 0]⟩ := by decide
theorem san6 : dres ⟨#[0, 0, 0, 0]⟩ 0 = (⟨#[]⟩, 0) := by
  unfold dres
  rw [show M.dec (⟨#[0, 0, 0, 0]⟩ : ByteArray).data.toList 0 = [] from rfl, if_pos (by decide)]
theorem san7 : dres ⟨#[]⟩ 0 = (⟨#[]⟩, 11) := by
  unfold dres
  rw [show M.dec (⟨#[]⟩ : ByteArray).data.toList 0 = [] from rfl, if_neg (by decide)]
set_option maxRecDepth 100000 in
set_option maxHeartbeats 4000000 in
theorem sanity_any (w : World) : Calls Try.prog 13 #[] w fun e w' => e = .returned (.bool true) ∧ Grow w w' := by
  have H1 := Lib.hid (newWriter_ws w)
  go_enter Try.func13, Try.ntmps13
  go_wp2_with fail
  refine H1.out.mono ?_
  rintro e x ⟨rfl, ha, g1⟩
  have H2 := Lib.hid (newWriter_ws x)
  have o1 := ha.lt
  replace ha := Lib.hid ha
  replace g1 := Lib.hid g1
  clear H1
  go_wp2_with fail
  refine H2.out.mono ?_
  rintro e y ⟨rfl, hb, g2⟩
  have H3 := Lib.hid (newReader_rs ⟨#[127, 255, 248, 1]⟩ y)
  have o2 := hb.lt
  replace hb := Lib.hid hb
  replace ha := Lib.hid (ha.out.grow g2)
  replace g1 := Lib.hid (Below.trans (B := w.heap.size) g1.out (Below.mono g2 (by have := g1.out.size; omega)))
  clear H2 g2
  go_wp2_with fail
  refine H3.out.mono ?_
  rintro e z ⟨rfl, hr, g3⟩
  replace hr := Lib.hid hr
  replace ha := Lib.hid (ha.out.grow g3)
  replace hb := Lib.hid ((hb.out.grow g3).lower (B' := w.heap.size) (by omega))
  replace g1 := Lib.hid (Below.trans (B := w.heap.size) g1.out (Below.mono g3 (by have := g1.out.size; omega)))
  have o3 := hr.out.lt
  clear H3 g3
  have H4 := Lib.hid (bit_ws ha.out 0 1 (by simp))
  rw [san1.1] at H4
  have hsa := san1.2
  generalize M.nxt M.start (cx 0) (1 % 2) = sa at H4 hsa
  replace hsa := Lib.hid hsa
  go_wp2_with fail
  refine H4.out.mono ?_
  rintro e z1 ⟨rfl, ro1, ha1, hn1, hc1⟩
  have hro1 : ∀ k, ro1 = some k → k ≠ x.heap.size := by
    intro k e
    rcases hn1 with h | ⟨k', h, hk⟩
    · rw [h] at e; cases e
    · rw [h] at e; injection e with e; omega
  have hb1 := Lib.hid (hb.out.keep hc1 (by omega) (by simp) (fun k e => by cases e))
  have hr1 := Lib.hid (hr.out.keep hc1 (by omega) (by simp))
  replace g1 := Lib.hid (Below.trans (B := w.heap.size) g1.out (hc1.below (by omega) (by simp) g1.out.size))
  replace ha1 := Lib.hid ha1
  clear H4 hn1 hc1 ha hb hr o3
  have H5 := Lib.hid (bit_ws hb1.out 0 0 (by simp))
  rw [san2.1] at H5
  have hsb := san2.2
  generalize M.nxt M.start (cx 0) (0 % 2) = sb at H5 hsb
  replace hsb := Lib.hid hsb
  go_wp2_with fail
  refine H5.out.mono ?_
  rintro e z2 ⟨rfl, ro2, hb2, hn2, hc2⟩
  have ha2 := Lib.hid (ha1.out.keep hc2 (by omega) (by simp) (fun k e => ⟨hro1 k e, by simp⟩))
  have hr2 := Lib.hid (hr1.out.keep hc2 (by omega) (by simp))
  replace g1 := Lib.hid (Below.trans (B := w.heap.size) g1.out (hc2.below (by omega) (by simp) g1.out.size))
  replace hb2 := Lib.hid hb2
  clear H5 hn2 hc2 ha1 hb1 hr1 hro1
  have H6 := Lib.hid (decode_any ⟨#[0, 0, 0, 0]⟩ 0 (by omega) (by decide) z2)
  rw [san6] at H6
  go_wp2_with fail
  refine H6.out.mono ?_
  rintro e z3 ⟨rfl, hg⟩
  have ha3 := Lib.hid (ha2.out.grow hg)
  have hb3 := Lib.hid (hb2.out.grow hg)
  have hr3 := Lib.hid (hr2.out.grow hg)
  replace g1 := Lib.hid (Below.trans (B := w.heap.size) g1.out (Below.mono hg g1.out.size))
  clear H6 hg ha2 hb2 hr2
  have H7 := Lib.hid (decode_any ⟨#[]⟩ 0 (by omega) (by decide) z3)
  rw [san7] at H7
  go_wp2_with fail
  refine H7.out.mono ?_
  rintro e z4 ⟨rfl, hg⟩
  have ha4 := Lib.hid (ha3.out.grow hg)
  have hb4 := Lib.hid (hb3.out.grow hg)
  have hr4 := Lib.hid (hr3.out.grow hg)
  replace g1 := Lib.hid (Below.trans (B := w.heap.size) g1.out (Below.mono hg g1.out.size))
  clear H7 hg ha3 hb3 hr3
  have H8 := Lib.hid (encode_any ⟨#[]⟩ z4 (by decide))
  rw [san5] at H8
  go_wp2_with fail
  refine H8.out.mono ?_
  rintro e z5 ⟨rfl, hg⟩
  have ha5 := Lib.hid (ha4.out.grow hg)
  have hb5 := Lib.hid (hb4.out.grow hg)
  have hr5 := Lib.hid (hr4.out.grow hg)
  replace g1 := Lib.hid (Below.trans (B := w.heap.size) g1.out (Below.mono hg g1.out.size))
  clear H8 hg ha4 hb4 hr4
  have H9 := Lib.hid (bytes_ws ha5.out (by simp))
  rw [hsa.out] at H9
  go_wp2_with fail
  refine H9.out.mono ?_
  rintro e z6 ⟨rfl, hg⟩
  have hb6 := Lib.hid (hb5.out.grow hg)
  have hr6 := Lib.hid (hr5.out.grow hg)
  replace g1 := Lib.hid (Below.trans (B := w.heap.size) g1.out (Below.mono hg g1.out.size))
  clear H9 hg ha5 hb5 hr5
  have H10 := Lib.hid (bytes_ws hb6.out (by simp))
  rw [hsb.out, show ([] ++ [] ++ M.be4 2147481601) = [127, 255, 248, 1] from by decide] at H10
  go_wp2_with fail
  refine H10.out.mono ?_
  rintro e z7 ⟨rfl, hg⟩
  have hr7 := Lib.hid (hr6.out.grow hg)
  replace g1 := Lib.hid (Below.trans (B := w.heap.size) g1.out (Below.mono hg g1.out.size))
  clear H10 hg hb6 hr6
  have H11 := Lib.hid (bit_rs hr7.out 0 (by omega) (by decide))
  rw [san3, san4] at H11
  go_wp2_with fail
  refine H11.out.mono ?_
  rintro e z8 ⟨rfl, hr8, hc⟩
  replace g1 := Lib.hid (Below.trans (B := w.heap.size) g1.out (hc.below (by omega) (by simp) g1.out.size))
  have H12 := Lib.hid (used_rs hr8)
  clear H11 hr7 hr8 hc
  go_wp2_with fail
  refine H12.out.mono ?_
  rintro e z9 ⟨rfl, rfl⟩
  go_wp2
  go_ret
  exact ⟨rfl, g1.out⟩
set_option maxRecDepth 100000 in
theorem some_any (f : ByteArray) (n : Nat) (w : World) (hn : n ≤ 100000) (hf : f.size ≤ 9223372036854775807) : Calls Try.prog 14 #[.string f, .int .i64 (n : Int)] w fun e w' => e = .returned (.string (f.extract 0 (min f.size n))) ∧ Grow w w' := by
  by_cases h : f.size ≤ n
  · rw [Nat.min_eq_left h]
    have h2 : min (f.size : Int) n = f.size := by omega
    go_enter Try.func14, Try.ntmps14
    go_wp2
    go_ret
    refine ⟨ret_str ?_, Grow.refl _⟩
    exact ByteArray.extract_zero_size.symm
  · have h2 : min (f.size : Int) n = n := by omega
    rw [Nat.min_eq_right (by omega)]
    go_enter Try.func14, Try.ntmps14
    go_wp2
    go_ret
    exact ⟨rfl, Grow.refl _⟩
set_option maxRecDepth 100000 in
theorem decode_bad (f : ByteArray) (n : Int) (hn : n < 0 ∨ 65536 < n) (w : World) :
    Calls Try.prog 17 #[.string f, .int .i64 n] w fun e w' => e = .returned (.tuple #[.string ⟨#[]⟩, .int .i64 1]) ∧ Grow w w' := by
  by_cases h : n < 0
  · go_enter Try.func17, Try.ntmps17
    go_wp2
    go_ret2
    exact ⟨rfl, Grow.refl _⟩
  · have h2 : n > 65536 := by omega
    go_enter Try.func17, Try.ntmps17
    go_wp2
    go_ret2
    exact ⟨rfl, Grow.refl _⟩
end Go.Proofs.Ytdepfgeomceiiaa
