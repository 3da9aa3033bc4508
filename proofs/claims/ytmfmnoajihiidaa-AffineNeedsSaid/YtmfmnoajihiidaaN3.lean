/- Comparisons of placements, points and rectangles on abstract values. -/
import Derived.Test.YtmfmnoajihiidaaN2
import Derived.Test.YtmfmnoajihiidaaJ8
set_option linter.unusedVariables false
namespace Go.Proofs.Ytmfmnoajihiidaa
open Go.RowKit
namespace Ab
theorem eq23 (a b : Af) : EqOK Try.prog 23 [li a.A, li a.B, li a.C, li a.D, li a.E, li a.F, li a.N] [li b.A, li b.B, li b.C, li b.D, li b.E, li b.F, li b.N] (a.same b) := by
  intro β u v x y w hu hv
  rw [(plLs_iff (ys := [.int .i64 a.A, .int .i64 a.B, .int .i64 a.C, .int .i64 a.D, .int .i64 a.E, .int .i64 a.F, .int .i64 a.N]) rfl β u).1 hu, (plLs_iff (ys := [.int .i64 b.A, .int .i64 b.B, .int .i64 b.C, .int .i64 b.D, .int .i64 b.E, .int .i64 b.F, .int .i64 b.N]) rfl β v).1 hv]
  have h1 := eql23 a b w
  have h2 := neq23 a b w
  have g : ∀ op, (eqGuard op 23 x y (.agg [.int .i64 a.A, .int .i64 a.B, .int .i64 a.C, .int .i64 a.D, .int .i64 a.E, .int .i64 a.F, .int .i64 a.N].toArray) (.agg [.int .i64 b.A, .int .i64 b.B, .int .i64 b.C, .int .i64 b.D, .int .i64 b.E, .int .i64 b.F, .int .i64 b.N].toArray)).run Try.prog w = .ok () w := by
    intro op; unfold eqGuard; cases op <;> go_simp
  constructor
  · rw [Sem.run_bind, g]; exact h1
  · rw [Sem.run_bind, g]; exact h2
theorem eq41 (ax ay bx by_ : Int) : EqOK Try.prog 41 [li ax, li ay] [li bx, li by_] (Rct.same2 ax ay bx by_) := by
  intro β u v x y w hu hv
  rw [(plLs_iff (ys := [.int .i64 ax, .int .i64 ay]) rfl β u).1 hu, (plLs_iff (ys := [.int .i64 bx, .int .i64 by_]) rfl β v).1 hv]
  have h1 := Rct.eql41 ax ay bx by_ w
  have h2 := Rct.neq41 ax ay bx by_ w
  have g : ∀ op, (eqGuard op 41 x y (.agg [.int .i64 ax, .int .i64 ay].toArray) (.agg [.int .i64 bx, .int .i64 by_].toArray)).run Try.prog w = .ok () w := by
    intro op; unfold eqGuard; cases op <;> go_simp
  constructor
  · rw [Sem.run_bind, g]; exact h1
  · rw [Sem.run_bind, g]; exact h2
theorem eq48 (a b : Rct.R) : EqOK Try.prog 48 [li a.x0, li a.y0, li a.x1, li a.y1] [li b.x0, li b.y0, li b.x1, li b.y1] (Rct.same a b) := by
  intro β u v x y w hu hv
  rw [(plLs_iff (ys := [.int .i64 a.x0, .int .i64 a.y0, .int .i64 a.x1, .int .i64 a.y1]) rfl β u).1 hu, (plLs_iff (ys := [.int .i64 b.x0, .int .i64 b.y0, .int .i64 b.x1, .int .i64 b.y1]) rfl β v).1 hv]
  have h1 := Rct.eql48 a.x0 a.y0 a.x1 a.y1 b.x0 b.y0 b.x1 b.y1 w
  have h2 := Rct.neq48 a.x0 a.y0 a.x1 a.y1 b.x0 b.y0 b.x1 b.y1 w
  have g : ∀ op, (eqGuard op 48 x y (.agg [.int .i64 a.x0, .int .i64 a.y0, .int .i64 a.x1, .int .i64 a.y1].toArray) (.agg [.int .i64 b.x0, .int .i64 b.y0, .int .i64 b.x1, .int .i64 b.y1].toArray)).run Try.prog w = .ok () w := by
    intro op; unfold eqGuard; cases op <;> go_simp
  constructor
  · rw [Sem.run_bind, g]; exact h1
  · rw [Sem.run_bind, g]; exact h2
end Ab
end Go.Proofs.Ytmfmnoajihiidaa
