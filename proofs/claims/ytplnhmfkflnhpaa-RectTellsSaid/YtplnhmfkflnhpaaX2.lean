/- A function value compared with nil. -/
import Derived.Test.YtplnhmfkflnhpaaX
set_option linter.unusedVariables false
namespace Go.Proofs.Ytplnhmfkflnhpaa
open Go.RowKit Go.Shelf
theorem eqIn62 (d : Nat) (lb : Array Value) (W : World) : (Op.equalIn (d + 1) 62 (.func (.func 61) #[] lb) .nilFunc).run Try.prog W = .ok false W := by
  unfold Op.equalIn
  simp [go_sem, run_underlying Try.underlying62]
theorem eql62 (lb : Array Value) (W : World) : (binOp .eql 62 (.func (.func 61) #[] lb) .nilFunc).run Try.prog W = .ok (.bool false) W := by
  have h : ∃ d, Op.maxDepth = d + 1 := ⟨_, rfl⟩
  obtain ⟨d, hd⟩ := h
  simp [binOp, go_sem, Op.equal, hd, eqIn62]
end Go.Proofs.Ytplnhmfkflnhpaa
