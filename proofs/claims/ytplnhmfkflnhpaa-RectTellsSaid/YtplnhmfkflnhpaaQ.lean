/- Rectangles and tile positions compared as values. -/
import Derived.Test.YtplnhmfkflnhpaaBase
import Derived.Test.YtplnhmfkflnhpaaM
import Derived.Laws.StructEq
namespace Go.Proofs.Ytplnhmfkflnhpaa
open Go.RowKit
theorem eql26 (a b c d a' b' c' d' : Int) (W : World) : (binOp .eql 26 (.agg #[.int .i64 a, .int .i64 b, .int .i64 c, .int .i64 d]) (.agg #[.int .i64 a', .int .i64 b', .int .i64 c', .int .i64 d'])).run Try.prog W = .ok (.bool (same ⟨a, b, c, d⟩ ⟨a', b', c', d'⟩)) W := by
  unfold same
  by_cases h1 : a = a'
  · by_cases h2 : b = b'
    · by_cases h3 : c = c'
      · by_cases h4 : d = d'
        · subst h1 h2 h3 h4; go_simp
        · subst h1 h2 h3; go_simp
      · subst h1 h2; go_simp
    · subst h1; go_simp
  · go_simp
theorem neq26 (a b c d a' b' c' d' : Int) (W : World) : (binOp .neq 26 (.agg #[.int .i64 a, .int .i64 b, .int .i64 c, .int .i64 d]) (.agg #[.int .i64 a', .int .i64 b', .int .i64 c', .int .i64 d'])).run Try.prog W = .ok (.bool (!same ⟨a, b, c, d⟩ ⟨a', b', c', d'⟩)) W := by
  unfold same
  by_cases h1 : a = a'
  · by_cases h2 : b = b'
    · by_cases h3 : c = c'
      · by_cases h4 : d = d'
        · subst h1 h2 h3 h4; go_simp
        · subst h1 h2 h3; go_simp
      · subst h1 h2; go_simp
    · subst h1; go_simp
  · go_simp
def same2 (a b c d : Int) : Bool := a == c && b == d
theorem eql31 (a b a' b' : Int) (W : World) : (binOp .eql 31 (.agg #[.int .i64 a, .int .i64 b]) (.agg #[.int .i64 a', .int .i64 b'])).run Try.prog W = .ok (.bool (same2 a b a' b')) W := by
  unfold same2
  by_cases h1 : a = a'
  · by_cases h2 : b = b'
    · subst h1 h2; go_simp
    · subst h1; go_simp
  · go_simp
theorem neq31 (a b a' b' : Int) (W : World) : (binOp .neq 31 (.agg #[.int .i64 a, .int .i64 b]) (.agg #[.int .i64 a', .int .i64 b'])).run Try.prog W = .ok (.bool (!same2 a b a' b')) W := by
  unfold same2
  by_cases h1 : a = a'
  · by_cases h2 : b = b'
    · subst h1 h2; go_simp
    · subst h1; go_simp
  · go_simp
end Go.Proofs.Ytplnhmfkflnhpaa
