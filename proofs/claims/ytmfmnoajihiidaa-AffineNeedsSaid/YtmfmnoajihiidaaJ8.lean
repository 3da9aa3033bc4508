/- Runs of single operations: pairs of placements, placements compared. -/
import Derived.Test.YtmfmnoajihiidaaJ7
import Derived.Test.YtmfmnoajihiidaaJ6
import Derived.Laws.StructEq
set_option linter.unusedVariables false
namespace Go.Proofs.Ytmfmnoajihiidaa
open Go.RowKit
def Af.same (a b : Af) : Bool := a.A == b.A && (a.B == b.B && (a.C == b.C && (a.D == b.D && (a.E == b.E && (a.F == b.F && a.N == b.N)))))
theorem Af.same_iff (a b : Af) : a.same b = true ↔ a = b := by
  unfold Af.same
  simp only [Bool.and_eq_true, beq_iff_eq]
  constructor
  · rintro ⟨h1, h2, h3, h4, h5, h6, h7⟩
    cases a; cases b; simp_all
  · rintro rfl; simp
def ag7 (a : Af) : Value := .agg #[.int .i64 a.A, .int .i64 a.B, .int .i64 a.C, .int .i64 a.D, .int .i64 a.E, .int .i64 a.F, .int .i64 a.N]
theorem eql23 (a b : Af) (W : World) : (binOp .eql 23 (.agg #[.int .i64 a.A, .int .i64 a.B, .int .i64 a.C, .int .i64 a.D, .int .i64 a.E, .int .i64 a.F, .int .i64 a.N]) (.agg #[.int .i64 b.A, .int .i64 b.B, .int .i64 b.C, .int .i64 b.D, .int .i64 b.E, .int .i64 b.F, .int .i64 b.N])).run Try.prog W = .ok (.bool (a.same b)) W := by
  obtain ⟨a0, a1, a2, a3, a4, a5, a6⟩ := a
  obtain ⟨b0, b1, b2, b3, b4, b5, b6⟩ := b
  unfold Af.same
  by_cases h0 : a0 = b0
  · by_cases h1 : a1 = b1
    · by_cases h2 : a2 = b2
      · by_cases h3 : a3 = b3
        · by_cases h4 : a4 = b4
          · by_cases h5 : a5 = b5
            · by_cases h6 : a6 = b6
              · subst h0 h1 h2 h3 h4 h5 h6; go_simp
              · subst h0 h1 h2 h3 h4 h5; go_simp
            · subst h0 h1 h2 h3 h4; go_simp
          · subst h0 h1 h2 h3; go_simp
        · subst h0 h1 h2; go_simp
      · subst h0 h1; go_simp
    · subst h0; go_simp
  · go_simp
theorem neq23 (a b : Af) (W : World) : (binOp .neq 23 (.agg #[.int .i64 a.A, .int .i64 a.B, .int .i64 a.C, .int .i64 a.D, .int .i64 a.E, .int .i64 a.F, .int .i64 a.N]) (.agg #[.int .i64 b.A, .int .i64 b.B, .int .i64 b.C, .int .i64 b.D, .int .i64 b.E, .int .i64 b.F, .int .i64 b.N])).run Try.prog W = .ok (.bool (!a.same b)) W := by
  obtain ⟨a0, a1, a2, a3, a4, a5, a6⟩ := a
  obtain ⟨b0, b1, b2, b3, b4, b5, b6⟩ := b
  unfold Af.same
  by_cases h0 : a0 = b0
  · by_cases h1 : a1 = b1
    · by_cases h2 : a2 = b2
      · by_cases h3 : a3 = b3
        · by_cases h4 : a4 = b4
          · by_cases h5 : a5 = b5
            · by_cases h6 : a6 = b6
              · subst h0 h1 h2 h3 h4 h5 h6; go_simp
              · subst h0 h1 h2 h3 h4 h5; go_simp
            · subst h0 h1 h2 h3 h4; go_simp
          · subst h0 h1 h2 h3; go_simp
        · subst h0 h1 h2; go_simp
      · subst h0 h1; go_simp
    · subst h0; go_simp
  · go_simp
end Go.Proofs.Ytmfmnoajihiidaa
