/- A region that draws its order and holds one call that writes: every operation's value is known ahead; the others only read what the call keeps. No function of the program is in sight. -/
import Derived.Test.YtdepfgeomceiiaaJL
set_option linter.unusedVariables false
namespace Go.Proofs.Ytdepfgeomceiiaa
open Go.RowKit
section
variable {P : Program}
theorem wp_region_call1 {id : Nat} {l : List Oper} {a : Act} {w : World} {Q : Exit → Act → World → Prop} (lit : (Nat → Value) → Act) (hlit : ∀ u, fill l u a = lit u) (hm : P.follows .mixedOrders = true) (hL : lowers l.toArray = true) (hd : distinct l = true) (hg : (l.all fun o => o.guard.isNone) = true)
    (m : Nat) (hml : m < l.length) (V : Nat → Value) (R K : World → Prop) (hR : R w.drew) (hKR : ∀ x, K x → R x)
    (hstep : ∀ i o, l[i]? = some o → i ≠ m → ∀ u x, R x → (∀ j, waitsOn o j = true → u j = V j) → (execOp (lit u).eval o).run P x = .ok (.value (V i)) x)
    (hcall : ∀ o, l[m]? = some o → ∀ u, (∀ j, waitsOn o j = true → u j = V j) → ∃ f args, (execOp (lit u).eval o).run P w.drew = .ok (.enter f args) w.drew ∧ Calls P f args w.drew fun e x' => e = .returned (V m) ∧ K x')
    (hend : ∀ x, K x → Q .normal (lit V) x) : (Code.region id l.toArray true).wp P Q a w := by
  refine wp_region_invL lit hlit hm hL hd hg (fun D u x => (∀ j, D j = true → u j = V j) ∧ (D m = true → K x) ∧ (D m = false → x = w.drew)) ?_ ?_ ?_
  · intro u
    exact ⟨fun j (h : false = true) => Bool.noConfusion h, fun (h : false = true) => Bool.noConfusion h, fun _ => rfl⟩
  · rintro D u x i o ho hDi hdep ⟨h1, h2, h3⟩
    have hv : ∀ j, waitsOn o j = true → u j = V j := fun j hj => h1 j (hdep j hj)
    have hupd : ∀ v, v = V i → ∀ j, (if j = i then true else D j) = true → updv u i v j = V j := by
      intro v hv j hj
      unfold updv
      by_cases e : j = i
      · rw [if_pos e, hv, e]
      · rw [if_neg e] at hj ⊢; exact h1 j hj
    by_cases him : i = m
    · subst him
      obtain ⟨f, args, e1, hc⟩ := hcall o ho u hv
      obtain rfl := h3 hDi
      unfold Oper.wp
      rw [e1]
      refine Calls.mono hc ?_
      rintro e x' ⟨rfl, hK⟩
      exact ⟨V i, rfl, hupd _ rfl, fun _ => hK, fun h => by simp at h⟩
    · have hRx : R x := by
        cases hDm : D m with
        | true => exact hKR x (h2 hDm)
        | false => rw [h3 hDm]; exact hR
      refine iv_val (hstep i o ho him u x hRx hv) ⟨hupd _ rfl, ?_, ?_⟩
      · show (if m = i then true else D m) = true → K x
        rw [if_neg (Ne.symm him)]; exact h2
      · show (if m = i then true else D m) = false → x = w.drew
        rw [if_neg (Ne.symm him)]; exact h3
  · rintro D u x hD ⟨h1, h2, h3⟩
    have : lit u = lit V := by
      rw [← hlit u, ← hlit V]
      exact fill_congr l u V a fun i hi => h1 i (hD i hi)
    rw [this]
    exact hend x (h2 (hD m hml))
end
end Go.Proofs.Ytdepfgeomceiiaa
