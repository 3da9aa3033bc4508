/- Walk of NewReader. -/
import Derived.Test.YtdepfgeomceiiaaN
set_option linter.unusedVariables false
namespace Go.Proofs.Ytdepfgeomceiiaa
open Go.RowKit
theorem Try.zero70 (w : World) : (zeroValue 70).run Try.prog w = .ok (.agg (cv 261 (cc M.start.p M.start.lo (4294967295 - M.start.hi) (RX ⟨#[]⟩ 0)))) w := by kernel_rfl
set_option maxRecDepth 100000 in
set_option maxHeartbeats 1000000 in
theorem newReader_any (f : ByteArray) (w : World) : Calls Try.prog 25 #[.string f] w fun e w' => e = .returned (.pointer (some ⟨w.heap.size, 0, none⟩)) ∧ Blk w' w.heap.size 70 261 (cc M.start.p M.start.lo (4294967295 - M.start.hi) (RX f 0)) ∧ Grow w w' := by
  have hz := Try.zero70
  have hset := cv_set 261 (cc M.start.p M.start.lo (4294967295 - M.start.hi) (RX ⟨#[]⟩ 0)) 258 (.string f)
  have hzs : ¬ (cv 261 (cc M.start.p M.start.lo (4294967295 - M.start.hi) (RX ⟨#[]⟩ 0))).size < 259 := by rw [cv_size]; omega
  generalize cv 261 (cc M.start.p M.start.lo (4294967295 - M.start.hi) (RX ⟨#[]⟩ 0)) = Z at *
  replace hset := Lib.hid hset
  go_enter Try.func25, Try.ntmps25
  go_wp2
  go_ret
  refine ⟨rfl, ?_, Grow.alloc _ _⟩
  unfold Blk
  rw [heap_alloc_new, hset.out, cc_put_x 258 (by omega)]
  congr 2
end Go.Proofs.Ytdepfgeomceiiaa
