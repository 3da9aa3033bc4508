/- CoderBack: the walk. -/
import Derived.Test.YtdepfgeomceiiaaT
import Derived.Test.YtdepfgeomceiiaaFlat
set_option linter.unusedVariables false
namespace Go.Proofs.Ytdepfgeomceiiaa
open Go.RowKit
theorem ext_size (f : ByteArray) (n : Nat) : (f.extract 0 (min f.size n)).size = min f.size n := by simp
theorem toList_len (f : ByteArray) : f.data.toList.length = f.size := by simp [← ByteArray.size_data]
theorem mk_toList (f : ByteArray) : (⟨f.data.toList.toArray⟩ : ByteArray) = f := by simp
theorem back1 (f : ByteArray) : dres ⟨(M.enc f.data.toList).toArray⟩ f.size = (f, 0) := by
  have h := M.dec_enc f.data.toList []
  rw [List.append_nil, toList_len] at h
  unfold dres
  show (if (⟨(M.enc (M.dec (M.enc f.data.toList) f.size)).toArray⟩ : ByteArray) = ⟨(M.enc f.data.toList).toArray⟩ then ((⟨(M.dec (M.enc f.data.toList) f.size).toArray⟩ : ByteArray), (0 : Int)) else (⟨#[]⟩, 11)) = _
  rw [h, if_pos rfl]
theorem back2 (f : ByteArray) (c : UInt8) : dres (⟨(M.enc f.data.toList).toArray⟩ ++ ⟨#[c]⟩) f.size = (⟨#[]⟩, 11) := by
  have h := M.dec_enc f.data.toList [c]
  rw [toList_len] at h
  have e : ((⟨(M.enc f.data.toList).toArray⟩ : ByteArray) ++ ⟨#[c]⟩) = ⟨(M.enc f.data.toList ++ [c]).toArray⟩ := by apply ByteArray.ext; simp [ByteArray.data_append]
  rw [e]
  unfold dres
  show (if (⟨(M.enc (M.dec (M.enc f.data.toList ++ [c]) f.size)).toArray⟩ : ByteArray) = ⟨(M.enc f.data.toList ++ [c]).toArray⟩ then _ else ((⟨#[]⟩ : ByteArray), (11 : Int))) = _
  rw [h, if_neg]
  intro h2
  have h3 := congrArg ByteArray.size h2
  have h4 : (M.enc f.data.toList).toArray.size = (M.enc f.data.toList ++ [c]).toArray.size := h3
  simp at h4
namespace coderBack
set_option maxRecDepth 100000 in
set_option maxHeartbeats 2000000 in
theorem walk (f : ByteArray) (c : Int) (w : World) (hf : f.size ≤ 140737488351232) (wc : (Lit.int .u8 c).wf = true) :
    Calls Try.prog 5 #[.string f, .int .u8 c] w fun e w' => e = .returned (.bool true) ∧ Below w.heap.size w w' := by
  go_enter Try.func5, Try.ntmps5
  go_wp2_with fail
  refine (sanity_any w).mono ?_
  rintro e x ⟨rfl, g1⟩
  have H1 := Lib.hid (some_any f 500 x (by omega) (by omega))
  rw [show ((500 : Nat) : Int) = 500 from rfl] at H1
  replace g1 := Lib.hid g1
  go_wp2_with fail
  refine H1.out.mono ?_
  rintro e y ⟨rfl, g2⟩
  have hs : (f.extract 0 (min f.size 500)).size ≤ 500 := by rw [ext_size]; omega
  generalize f.extract 0 (min f.size 500) = F at *
  replace g1 := Lib.hid (Below.trans (B := w.heap.size) g1.out (Below.mono g2 g1.out.size))
  have H2 := Lib.hid (encode_any F y (by omega))
  clear g2 H1
  go_wp2_with fail
  refine H2.out.mono ?_
  rintro e z ⟨rfl, g2⟩
  replace g1 := Lib.hid (Below.trans (B := w.heap.size) g1.out (Below.mono g2 g1.out.size))
  have hel := M.enc_bd F.data.toList
  rw [toList_len] at hel
  have hsz : (⟨(M.enc F.data.toList).toArray⟩ : ByteArray).size = (M.enc F.data.toList).length := by show (M.enc F.data.toList).toArray.size = _; simp
  have H3 := Lib.hid (decode_any ⟨(M.enc F.data.toList).toArray⟩ F.size (by omega) (by omega) z)
  rw [back1] at H3
  clear g2 H2
  obtain ⟨c', rfl⟩ : ∃ c' : UInt8, c = (c'.toNat : Int) := u8_of wc
  have hb2 := Lib.hid (back2 F c')
  generalize (⟨(M.enc F.data.toList).toArray⟩ : ByteArray) = t at *
  go_wp2_with fail
  refine H3.out.mono ?_
  rintro e u ⟨rfl, g2⟩
  replace g1 := Lib.hid (Below.trans (B := w.heap.size) g1.out (Below.mono g2 g1.out.size))
  clear g2 H3
  have hsz2 : t.size + 1 ≤ 1000000000 := by omega
  go_wp2_with fail
  have hcv := conv_row (P := Try.prog) (u.alloc (.cells #[.int .u8 (c'.toNat : Int)] 5)) 33 9 5 Try.underlying33 Try.underlying5 Try.underlying9 u.heap.size 5 (0, 0) _ (heap_alloc_new _ _) 0 1 1 [c'] rfl (fun j hj => by
    obtain rfl : j = 0 := by simpa using hj
    rfl)
  rw [hcv]
  clear hcv
  simp only [Result.andThen]
  rw [Oper.upon_value]
  have hts : (t ++ ⟨#[c']⟩).size ≤ 1000000000 := by rw [ByteArray.size_append]; exact hsz2
  have H4 := Lib.hid (decode_any (t ++ ⟨#[c']⟩) F.size (by omega) (by omega) (u.alloc (.cells #[.int .u8 (c'.toNat : Int)] 5)))
  rw [hb2.out] at H4
  have hc1 : t.size + (⟨#[c']⟩ : ByteArray).size ≤ 9223372036854775807 := by show t.size + 1 ≤ _; omega
  go_wp2_with fail
  refine H4.out.mono ?_
  rintro e v ⟨rfl, g2⟩
  replace g1 := Lib.hid (Below.trans (B := w.heap.size) g1.out (Below.mono ((Grow.alloc u (.cells #[.int .u8 (c'.toNat : Int)] 5)).trans g2) g1.out.size))
  clear g2 H4
  go_wp2
  go_ret
  exact ⟨rfl, g1.out⟩
end coderBack
end Go.Proofs.Ytdepfgeomceiiaa
