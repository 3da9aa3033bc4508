/- CoderEncode: the walk. -/
import Derived.Test.YtdepfgeomceiiaaQF
import Derived.Test.YtdepfgeomceiiaaLA
set_option linter.unusedVariables false
namespace Go.Proofs.Ytdepfgeomceiiaa
open Go.RowKit
namespace coderEncode
set_option maxRecDepth 100000 in
set_option maxHeartbeats 2000000 in
theorem walk (f : ByteArray) (w : World) (hf : f.size ≤ 140737488351232) :
    Calls Try.prog 3 #[.string f] w fun e w' => e = .returned (.bool true) ∧ Below w.heap.size w w' := by
  go_enter Try.func3, Try.ntmps3
  go_wp2_with fail
  refine (sanity_any w).mono ?_
  rintro e x ⟨rfl, g1⟩
  have H1 := Lib.hid (some_any f 300 x (by omega) (by omega))
  rw [show ((300 : Nat) : Int) = 300 from rfl] at H1
  replace g1 := Lib.hid g1
  go_wp2_with fail
  refine H1.out.mono ?_
  rintro e y ⟨rfl, g2⟩
  have hs : (f.extract 0 (min f.size 300)).size ≤ 300 := by rw [ext_size]; omega
  generalize f.extract 0 (min f.size 300) = F at *
  replace g1 := Lib.hid (below_grow (show Below w.heap.size w x from g1.out) (Below.size g1.out) g2)
  have H2 := Lib.hid (encode_any F y (by omega))
  clear g2 H1
  go_wp2_with fail
  refine H2.out.mono ?_
  rintro e z ⟨rfl, g2⟩
  replace g1 := Lib.hid (below_grow g1.out g1.out.size g2)
  have H3 := Lib.hid (rencode_any F z (by omega))
  clear g2 H2
  generalize (⟨(M.enc F.data.toList).toArray⟩ : ByteArray) = t at *
  go_wp2_with fail
  refine H3.out.mono ?_
  rintro e u ⟨rfl, g2⟩
  replace g1 := Lib.hid (below_grow g1.out g1.out.size g2)
  clear g2 H3
  go_wp2
  go_ret
  exact ⟨rfl, g1.out⟩
end coderEncode
end Go.Proofs.Ytdepfgeomceiiaa
