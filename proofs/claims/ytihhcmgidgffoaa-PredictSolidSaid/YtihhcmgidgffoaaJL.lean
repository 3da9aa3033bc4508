/- The rule for regions that only add to memory, the frame written out once. No function of the program is in sight. -/
import Derived.Test.YtihhcmgidgffoaaJG
set_option linter.unusedVariables false
namespace Go.Proofs.Ytihhcmgidgffoaa
open Go.RowKit
section
variable {P : Program}
theorem wn {o : Oper} {y : Nat → Option Bool} (h : o.guard = none) : Region.wanted o y = true := by unfold Region.wanted; rw [h]
/-- No operation is guarded; 'lit u' is the frame with u i in the slot of operation i. -/
theorem wp_region_growL {id : Nat} {l : List Oper} {a : Act} {w : World} {Q : Exit → Act → World → Prop} (lit : (Nat → Value) → Act) (hlit : ∀ u, fill l u a = lit u) (hm : P.follows .mixedOrders = true) (hL : lowers l.toArray = true) (hd : distinct l = true) (hg : (l.all fun o => o.guard.isNone) = true) (T : Nat → Value → World → Prop)
    (hstep : ∀ i o, l[i]? = some o → ∀ u x, Grow w x → (∀ j, waitsOn o j = true → T j (u j) x) →
      o.wp P (lit u) x (fun a' x' => ∃ v, a' = (lit u).put o.dst v ∧ Grow x x' ∧ Al x' (T i v)) Q)
    (hend : ∀ u x, Grow w x → (∀ i, i < l.length → T i (u i) x) → Q .normal (lit u) x) : (Code.region id l.toArray true).wp P Q a w := by
  refine wp_region_grow hm hL hd T ?_ ?_
  · intro i o ho u x hx hT
    have hgo : o.guard = none := by
      have := (List.all_eq_true.1 hg) o (List.mem_of_getElem? ho)
      simpa using this
    rw [if_pos (wn hgo), hlit u]
    exact hstep i o ho u x hx fun j hj => (hT j hj).now
  · intro u x hx hT
    rw [hlit u]
    exact hend u x hx fun i hi => (hT i hi).now
end
end Go.Proofs.Ytihhcmgidgffoaa
