/- Comparison of rectangles on abstract values. -/
import Derived.Test.YtpdckpifhniioaaC1
import Derived.Laws.StructEq
import Derived.Deep.QuietTactic
import Derived.BigQuiet
import Derived.Deep.RegionWith
set_option linter.unusedVariables false
namespace Go.Proofs.Ytpdckpifhniioaa
open Go.RowKit
namespace Ab
theorem eql66 (a0 a1 a2 a3 b0 b1 b2 b3 : Int) (W : World) : (binOp .eql 49 (.agg #[.int .i64 a0, .int .i64 a1, .int .i64 a2, .int .i64 a3]) (.agg #[.int .i64 b0, .int .i64 b1, .int .i64 b2, .int .i64 b3])).run Try.prog W = .ok (.bool (a0 == b0 && (a1 == b1 && (a2 == b2 && a3 == b3)))) W := by
  by_cases h0 : a0 = b0
  · by_cases h1 : a1 = b1
    · by_cases h2 : a2 = b2
      · by_cases h3 : a3 = b3
        · subst h0 h1 h2 h3; go_simp
        · subst h0 h1 h2; go_simp
      · subst h0 h1; go_simp
    · subst h0; go_simp
  · go_simp
theorem neq66 (a0 a1 a2 a3 b0 b1 b2 b3 : Int) (W : World) : (binOp .neq 49 (.agg #[.int .i64 a0, .int .i64 a1, .int .i64 a2, .int .i64 a3]) (.agg #[.int .i64 b0, .int .i64 b1, .int .i64 b2, .int .i64 b3])).run Try.prog W = .ok (.bool (!(a0 == b0 && (a1 == b1 && (a2 == b2 && a3 == b3))))) W := by
  by_cases h0 : a0 = b0
  · by_cases h1 : a1 = b1
    · by_cases h2 : a2 = b2
      · by_cases h3 : a3 = b3
        · subst h0 h1 h2 h3; go_simp
        · subst h0 h1 h2; go_simp
      · subst h0 h1; go_simp
    · subst h0; go_simp
  · go_simp
set_option maxRecDepth 100000 in
theorem eq66 (a0 a1 a2 a3 b0 b1 b2 b3 : Int) : EqOK Try.prog 49 [li a0, li a1, li a2, li a3] [li b0, li b1, li b2, li b3] (a0 == b0 && (a1 == b1 && (a2 == b2 && a3 == b3))) := by
  intro β u v x y w hu hv
  rw [(plLs_iff (ys := [.int .i64 a0, .int .i64 a1, .int .i64 a2, .int .i64 a3]) rfl β u).1 hu, (plLs_iff (ys := [.int .i64 b0, .int .i64 b1, .int .i64 b2, .int .i64 b3]) rfl β v).1 hv]
  have h1 := eql66 a0 a1 a2 a3 b0 b1 b2 b3 w
  have h2 := neq66 a0 a1 a2 a3 b0 b1 b2 b3 w
  have g : ∀ op, (eqGuard op 49 x y (.agg [.int .i64 a0, .int .i64 a1, .int .i64 a2, .int .i64 a3].toArray) (.agg [.int .i64 b0, .int .i64 b1, .int .i64 b2, .int .i64 b3].toArray)).run Try.prog w = .ok () w := by
    intro op; unfold eqGuard; cases op <;> go_simp
  constructor
  · rw [Sem.run_bind, g]; exact h1
  · rw [Sem.run_bind, g]; exact h2
end Ab
end Go.Proofs.Ytpdckpifhniioaa
