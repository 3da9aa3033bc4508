/- The rule for regions that only add to memory, the frame written out once. No function of the program is in sight. -/
import Derived.Test.YtmfmnoajihiidaaJG
set_option linter.unusedVariables false
namespace Go.Proofs.Ytmfmnoajihiidaa
open Go.RowKit
section
variable {P : Program}
theorem wn {o : Oper} {y : Nat → Option Bool} (h : o.guard = none) : Region.wanted o y = true := by unfold Region.wanted; rw [h]
/-- No operation is guarded; 'lit u' is the frame with u i in the slot of operation i. -/
theorem wp_region_growL {id : Nat} {l : List Oper} {a : Act} {w : World} {Q : Exit → Act → World → Prop} (lit : (Nat → Value) → Act) (hlit : ∀ u, fill l u a = lit u) (hm : P.follows .mixedOrders = true) (hL : lowers l.toArray = true) (hd : distinct l = true) (hg : (l.all fun o => o.guard.isNone) = true) (T : Nat → Value → World → Prop)
    (hstep : ∀ i o, l[i]? = some o → ∀ u x, Grow w x → (∀ j, waitsOn o j = true → T j (u j) x) →
      o.wp P (lit u) x (fun a' x' => ∃ v, a' = (lit u).put o.dst v ∧ Grow x x' ∧ Al x' (T i v)) Q)
    (hend : ∀ u x, Grow w x → (∀ i, i < l.length → T i (u i) x) → Q .normal (lit u) x) : (Code.region id l.toArray true).wp P Q a w := by
  refine wp_region_grow hm hL hd T ?_ ?_
  · intro i o ho u x hx hT
    have hgo : o.guard = none := by
      have := (List.all_eq_true.1 hg) o (List.mem_of_getElem? ho)
      simpa using this
    rw [if_pos (wn hgo), hlit u]
    exact hstep i o ho u x hx fun j hj => (hT j hj).now
  · intro u x hx hT
    rw [hlit u]
    exact hend u x hx fun i hi => (hT i hi).now
/-- An invariant of what has come up (D), of the values (u) and of the world. -/
theorem wp_region_invL {id : Nat} {l : List Oper} {a : Act} {w : World} {Q : Exit → Act → World → Prop} (lit : (Nat → Value) → Act) (hlit : ∀ u, fill l u a = lit u) (hm : P.follows .mixedOrders = true) (hL : lowers l.toArray = true) (hd : distinct l = true) (hg : (l.all fun o => o.guard.isNone) = true) (Inv : (Nat → Bool) → (Nat → Value) → World → Prop)
    (h0 : ∀ u, Inv (fun _ => false) u w.drew)
    (hstep : ∀ D u x i o, l[i]? = some o → D i = false → (∀ j, waitsOn o j = true → D j = true) → Inv D u x →
      o.wp P (lit u) x (fun a' x' => ∃ v, a' = (lit u).put o.dst v ∧ Inv (fun j => if j = i then true else D j) (updv u i v) x') Q)
    (hend : ∀ D u x, (∀ i, i < l.length → D i = true) → Inv D u x → Q .normal (lit u) x) : (Code.region id l.toArray true).wp P Q a w := by
  refine wp_region_invU hm hg (fun D a' x => ∃ u, a' = lit u ∧ Inv D u x) ?_ ?_ ?_
  · obtain ⟨u, hu⟩ := fill_start l a
    exact ⟨u, by rw [← hlit u, hu], h0 u⟩
  · rintro D a' x i o ho hD hdep ⟨u, rfl, hI⟩
    have dep : ∀ j, waitsOn o j = true → D j = true := by
      intro j hj
      obtain ⟨k, hk, he⟩ := Array.any_eq_true.1 hj
      simp only [Bool.and_eq_true, beq_iff_eq] at he
      have := hdep _ (Array.getElem_mem hk) he.2
      rwa [he.1] at this
    refine Oper.wp_mono ?_ (hstep D u x i o ho hD dep hI)
    rintro a'' x' ⟨v, rfl, h⟩
    refine ⟨updv u i v, ?_, h⟩
    rw [← hlit u, ← hlit (updv u i v)]
    exact fill_upd l u a i o v hd ho
  · rintro D a' x hD ⟨u, rfl, hI⟩
    exact hend D u x (all_done hL hD) hI
variable {o : Oper} {a : Act} {x : World} {Q : Exit → Act → World → Prop} {K : Value → World → Prop}
theorem iv_val {v : Value} {x' : World} (h : (execOp a.eval o).run P x = .ok (.value v) x') (hK : K v x') : o.wp P a x (fun a' x' => ∃ v, a' = a.put o.dst v ∧ K v x') Q := by
  unfold Oper.wp; rw [h]; exact ⟨v, rfl, hK⟩
theorem iv_skip {x' : World} (h : (execOp a.eval o).run P x = .ok .skip x') (hK : K undef x') : o.wp P a x (fun a' x' => ∃ v, a' = a.put o.dst v ∧ K v x') Q := by
  unfold Oper.wp; rw [h]; exact ⟨undef, rfl, hK⟩
end
end Go.Proofs.Ytmfmnoajihiidaa
