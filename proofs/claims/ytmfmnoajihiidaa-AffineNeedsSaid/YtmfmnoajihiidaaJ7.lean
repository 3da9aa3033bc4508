/- A region that draws its order, lays one new block and stores into it; its calls only add to memory: every operation's value is known ahead but for the block's number. -/
import Derived.Test.YtmfmnoajihiidaaJ5
set_option linter.unusedVariables false
namespace Go.Proofs.Ytmfmnoajihiidaa
open Go.RowKit
section
variable {P : Program}
def pv (na : Nat) (V : Nat → Value) (b j : Nat) : Value := if j = na then .pointer (some ⟨b, 0, none⟩) else V j
theorem wp_region_boxS {id : Nat} {l : List Oper} {a : Act} {w : World} {Q : Exit → Act → World → Prop} (lit : (Nat → Value) → Act) (hlit : ∀ u, fill l u a = lit u) (hm : P.follows .mixedOrders = true) (hL : lowers l.toArray = true) (hd : distinct l = true) (hg : (l.all fun o => o.guard.isNone) = true)
    (na ms : Nat) (hna : na < l.length) (hms : ms < l.length) (hne : na ≠ ms) (V : Nat → Value) (o0 o1 : Obj)
    (hnew : ∀ o, l[na]? = some o → ∀ u x, (execOp (lit u).eval o).run P x = .ok (.value (.pointer (some ⟨x.heap.size, 0, none⟩))) (x.alloc o0))
    (hstep : ∀ i o, l[i]? = some o → i ≠ na → i ≠ ms → ∀ b u x, Grow w x → (∀ j, waitsOn o j = true → u j = pv na V b j) → (execOp (lit u).eval o).run P x = .ok (.value (V i)) x ∨ ∃ f args, (execOp (lit u).eval o).run P x = .ok (.enter f args) x ∧ Calls P f args x fun e x' => e = .returned (V i) ∧ Grow x x')
    (hstore : ∀ o, l[ms]? = some o → V ms = undef ∧ waitsOn o na = true ∧ ∀ b u x, w.heap.size ≤ b → Grow w x → x.heap[b]? = some o0 → (∀ j, waitsOn o j = true → u j = pv na V b j) → ∃ x', (execOp (lit u).eval o).run P x = .ok .skip x' ∧ Grow w x' ∧ x'.heap[b]? = some o1)
    (hend : ∀ b x, w.heap.size ≤ b → Grow w x → x.heap[b]? = some o1 → Q .normal (lit (pv na V b)) x) : (Code.region id l.toArray true).wp P Q a w := by
  refine wp_region_invL lit hlit hm hL hd hg (fun D u x => Grow w x ∧ (D ms = true → D na = true) ∧ ∃ b, (∀ j, D j = true → u j = pv na V b j) ∧ (D na = true → w.heap.size ≤ b ∧ x.heap[b]? = some (cond (D ms) o1 o0))) ?_ ?_ ?_
  · intro u
    exact ⟨Grow.drew w, fun (h : false = true) => Bool.noConfusion h, 0, fun j (h : false = true) => Bool.noConfusion h, fun (h : false = true) => Bool.noConfusion h⟩
  · rintro D u x i o ho hDi hdep ⟨hG, hmn, b, h1, h2⟩
    have hv : ∀ j, waitsOn o j = true → u j = pv na V b j := fun j hj => h1 j (hdep j hj)
    have hupd : ∀ b', (∀ j, j ≠ i → D j = true → u j = pv na V b' j) → ∀ v, v = pv na V b' i → ∀ j, (if j = i then true else D j) = true → updv u i v j = pv na V b' j := by
      intro b' hb' v hv j hj
      unfold updv
      by_cases e : j = i
      · rw [if_pos e, hv, e]
      · rw [if_neg e] at hj ⊢; exact hb' j e hj
    by_cases hin : i = na
    · subst hin
      refine iv_val (hnew o ho u x) ⟨hG.a _, fun _ => if_pos rfl, x.heap.size, hupd _ (fun j hj hD => ?_) _ (by unfold pv; rw [if_pos rfl]), fun _ => ⟨Grow.size hG, ?_⟩⟩
      · rw [h1 j hD]; unfold pv; rw [if_neg hj, if_neg hj]
      · have hms0 : D ms = false := by
          cases hc : D ms with
          | false => rfl
          | true => rw [hmn hc] at hDi; cases hDi
        show (x.alloc o0).heap[x.heap.size]? = some (cond (if ms = i then true else D ms) o1 o0)
        rw [if_neg (Ne.symm hne), hms0]
        exact heap_alloc_new _ _
    · by_cases him : i = ms
      · subst him
        obtain ⟨hV, hw, hs⟩ := hstore o ho
        have hDn := hdep _ hw
        obtain ⟨k1, k2⟩ := h2 hDn
        rw [hDi] at k2
        obtain ⟨x', e1, hG', hx'⟩ := hs b u x k1 hG k2 hv
        refine iv_skip e1 ⟨hG', fun _ => ?_, b, hupd _ (fun j _ hD => h1 j hD) _ (by unfold pv; rw [if_neg hin, hV]), fun _ => ⟨k1, ?_⟩⟩
        · show (if na = i then true else D na) = true
          rw [if_neg (Ne.symm hin)]; exact hDn
        · show x'.heap[b]? = some (cond (if i = i then true else D i) o1 o0)
          rw [if_pos rfl]; exact hx'
      · have kmn : (if ms = i then true else D ms) = true → (if na = i then true else D na) = true := by
          rw [if_neg (Ne.symm him), if_neg (Ne.symm hin)]; exact hmn
        rcases hstep i o ho hin him b u x hG hv with e1 | ⟨f, args, e1, hc⟩
        · refine iv_val e1 ⟨hG, kmn, b, hupd _ (fun j _ hD => h1 j hD) _ (by unfold pv; rw [if_neg hin]), ?_⟩
          show (if na = i then true else D na) = true → w.heap.size ≤ b ∧ x.heap[b]? = some (cond (if ms = i then true else D ms) o1 o0)
          rw [if_neg (Ne.symm him), if_neg (Ne.symm hin)]; exact h2
        · unfold Oper.wp
          rw [e1]
          refine Calls.mono hc ?_
          rintro e x' ⟨rfl, g⟩
          refine ⟨V i, rfl, hG.trans g, kmn, b, hupd _ (fun j _ hD => h1 j hD) _ (by unfold pv; rw [if_neg hin]), ?_⟩
          show (if na = i then true else D na) = true → w.heap.size ≤ b ∧ x'.heap[b]? = some (cond (if ms = i then true else D ms) o1 o0)
          rw [if_neg (Ne.symm him), if_neg (Ne.symm hin)]
          exact fun h => ⟨(h2 h).1, g.block (h2 h).2⟩
  · rintro D u x hD ⟨hG, _, b, h1, h2⟩
    have : lit u = lit (pv na V b) := by
      rw [← hlit u, ← hlit (pv na V b)]
      exact fill_congr l u _ a fun i hi => h1 i (hD i hi)
    rw [this]
    obtain ⟨k1, k2⟩ := h2 (hD na hna)
    rw [hD ms hms] at k2
    exact hend b x k1 hG k2
end
end Go.Proofs.Ytmfmnoajihiidaa
