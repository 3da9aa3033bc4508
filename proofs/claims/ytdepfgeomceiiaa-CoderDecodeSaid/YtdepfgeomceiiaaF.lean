/- Walk of NewWriter, of the reference's too. -/
import Derived.Test.YtdepfgeomceiiaaE
set_option linter.unusedVariables false
namespace Go.Proofs.Ytdepfgeomceiiaa
open Go.RowKit
theorem Try.zero68 (w : World) : (zeroValue 68).run Try.prog w = .ok (.agg (cv 259 (cc M.start.p M.start.lo (4294967295 - M.start.hi) (fun _ => .slice none 0 0)))) w := by kernel_rfl
set_option maxRecDepth 100000 in
set_option maxHeartbeats 1000000 in
theorem newWriter_any (w : World) : Calls Try.prog 19 #[] w fun e w' => e = .returned (.pointer (some ⟨w.heap.size, 0, none⟩)) ∧ w' = w.alloc (.cells (cv 259 (cc M.start.p M.start.lo (4294967295 - M.start.hi) (fun _ => .slice none 0 0))) 68) := by
  have hz := Try.zero68
  generalize cv 259 (cc M.start.p M.start.lo (4294967295 - M.start.hi) (fun _ => .slice none 0 0)) = Z at *
  go_enter Try.func19, Try.ntmps19
  go_wp2
  go_ret
  exact ⟨rfl, rfl⟩
end Go.Proofs.Ytdepfgeomceiiaa
