/- An invariant rule for a region that draws its order: each operation, once what it waits for has come up, keeps the invariant. No function of the program is in sight. -/
import Derived.WalkKit
import Derived.Orders
set_option linter.unusedVariables false
namespace Go.Proofs.Ytpdckpifhniioaa
open Go.RowKit
section
variable {P : Program} {ops : Array Oper} {Q : Exit → Act → World → Prop}

/-- How many operations have not come up yet. -/
def left (listed : Array Bool) : Nat := listed.count false
theorem left_set (listed : Array Bool) (i : Nat) (h : listed.getD i true = false) : left (listed.setIfInBounds i true) + 1 ≤ left listed := by
  have hi : i < listed.size := by
    by_cases hc : i < listed.size
    · exact hc
    · simp [Array.getD, hc] at h
  have hv : listed[i] = false := by simpa [Array.getD, hi] using h
  unfold left
  rw [Array.setIfInBounds, dif_pos hi, Array.count_set, hv]
  have : 0 < listed.count false := Array.count_pos_iff.2 (hv ▸ Array.getElem_mem hi)
  simp
  omega
theorem ready_none (listed : Array Bool) (md : Region.Mode) (hs : listed.size = ops.size) (h : left listed = 0) : Region.ready md ops listed = [] := by
  unfold Region.ready
  rw [List.filter_eq_nil_iff]
  intro i hi
  have hi' : i < listed.size := by simpa [hs] using hi
  have : listed[i] = true := by
    cases hb : listed[i] with
    | true => rfl
    | false =>
      have : 0 < listed.count false := Array.count_pos_iff.2 (hb ▸ Array.getElem_mem hi')
      unfold left at h; omega
  simp [Array.getD, hi', this]

theorem wpAny_inv (md : Region.Mode) (Inv : Array Bool → Act → World → Prop)
    (hstep : ∀ listed a w i, listed.size = ops.size → i ∈ Region.ready md ops listed → Inv listed a w → wpOp P ops Q i (fun a' w' => Inv (listed.setIfInBounds i true) a' w') a w)
    (hend : ∀ listed a w, listed.size = ops.size → Region.ready md ops listed = [] → Inv listed a w → Q .normal a w) :
    ∀ (fuel : Nat) (listed : Array Bool) (a : Act) (w : World), listed.size = ops.size → left listed ≤ fuel → Inv listed a w → wpAny P md ops Q fuel listed a w
  | 0, listed, a, w, hs, hl, hI => by
    have hr := ready_none (ops := ops) listed md hs (by omega)
    exact ⟨hr, hend listed a w hs hr hI⟩
  | fuel + 1, listed, a, w, hs, hl, hI => by
    refine ⟨fun hr => hend listed a w hs hr hI, fun i hi => wpOp_mono (fun a' w' h' => ?_) (hstep listed a w i hs hi hI)⟩
    refine wpAny_inv md Inv hstep hend fuel _ a' w' (by simpa using hs) ?_ h'
    have hu : listed.getD i true = false := by
      have := (List.mem_filter.1 hi).2
      simp only [Bool.and_eq_true] at this
      simpa using this.1
    have := left_set listed i hu
    omega

/-- **A REGION THAT DRAWS ITS ORDER, BY AN INVARIANT.** 'D i': operation i has come up. -/
theorem wp_region_inv {id : Nat} {a : Act} {w : World} (hm : P.follows .mixedOrders = true) (Inv : (Nat → Bool) → Act → World → Prop)
    (h0 : Inv (fun _ => false) a w.drew)
    (hstep : ∀ (D : Nat → Bool) a w i o, ops[i]? = some o → D i = false → (∀ e ∈ o.after, Region.binds .any e = true → D e.on = true) → Inv D a w →
      if Region.wanted o (yielded ops a.tmps) then o.wp P a w (fun a' w' => Inv (fun j => if j = i then true else D j) a' w') Q else Inv (fun j => if j = i then true else D j) (a.put o.dst undef) w)
    (hend : ∀ (D : Nat → Bool) a w, (∀ i, i < ops.size → (∃ o, ops[i]? = some o ∧ ∃ e ∈ o.after, Region.binds .any e = true ∧ D e.on = false) ∨ D i = true) → Inv D a w → Q .normal a w) :
    (Code.region id ops true).wp P Q a w := by
  refine wp_region_any hm (wpAny_inv .any (fun listed a w => Inv (fun i => listed.getD i false) a w) ?_ ?_ ops.size _ a _ (by simp) (by simp [left]) ?_)
  · intro listed a w i hs hi hI
    have hr := (List.mem_filter.1 hi)
    have hlt : i < ops.size := by simpa using hr.1
    have hr2 := hr.2
    simp only [Bool.and_eq_true] at hr2
    have ho : ops[i]? = some ops[i] := Array.getElem?_eq_getElem hlt
    have hli : i < listed.size := by omega
    have hDi : listed.getD i false = false := by
      have := hr2.1
      simpa [Array.getD, hli] using this
    have hdeps : ∀ e ∈ ops[i].after, Region.binds .any e = true → listed.getD e.on false = true := by
      have := hr2.2
      rw [ho] at this
      simp only [Option.map_some, Option.getD_some] at this
      intro e he hb
      obtain ⟨k, hk, rfl⟩ := Array.mem_iff_getElem.1 he
      have := (Array.all_eq_true.1 this) k hk
      rw [hb] at this
      simpa using this
    have hD : (fun j => (listed.setIfInBounds i true).getD j false) = fun j => if j = i then true else listed.getD j false := by
      funext j
      by_cases hj : j = i
      · subst hj; simp [Array.getD, hli]
      · rw [if_neg hj, Array.getD_eq_getD_getElem?, Array.getD_eq_getD_getElem?, Array.getElem?_setIfInBounds_ne (Ne.symm hj)]
    have h := hstep (fun j => listed.getD j false) a w i ops[i] ho hDi hdeps hI
    unfold wpOp
    simp only [ho]
    rw [hD]
    split
    · rename_i hw; rw [if_pos hw] at h; exact .inl h
    · rename_i hw; rw [if_neg hw] at h; exact h
  · intro listed a w hs hr hI
    refine hend (fun i => listed.getD i false) a w (fun i hi => ?_) hI
    have hli : i < listed.size := by omega
    have := (List.filter_eq_nil_iff.1 hr) i (by simpa using hi)
    have ho : ops[i]? = some ops[i] := Array.getElem?_eq_getElem hi
    rw [ho] at this
    simp only [Option.map_some, Option.getD_some, Bool.and_eq_true, not_and] at this
    cases hd : listed.getD i false with
    | true => exact .inr rfl
    | false =>
      left
      have h1 : (!listed.getD i true) = true := by simpa [Array.getD, hli] using hd
      have h2 := this h1
      refine ⟨_, ho, ?_⟩
      rw [Array.all_eq_true] at h2
      simp only [Classical.not_forall] at h2
      obtain ⟨k, hk, hne⟩ := h2
      refine ⟨_, Array.getElem_mem hk, ?_⟩
      simpa using hne
  · have : (fun i => (Array.replicate ops.size false).getD i false) = fun _ => false := by
      funext i
      rw [Array.getD_eq_getD_getElem?, Array.getElem?_replicate]
      split <;> rfl
    rw [this]
    exact h0
/-- The same where no operation is guarded, the operations written out. -/
theorem wp_region_invU {id : Nat} {l : List Oper} {a : Act} {w : World} (hm : P.follows .mixedOrders = true) (hg : (l.all fun o => o.guard.isNone) = true) (Inv : (Nat → Bool) → Act → World → Prop)
    (h0 : Inv (fun _ => false) a w.drew)
    (hstep : ∀ (D : Nat → Bool) a w i o, l[i]? = some o → D i = false → (∀ e ∈ o.after, Region.binds .any e = true → D e.on = true) → Inv D a w →
      o.wp P a w (fun a' w' => Inv (fun j => if j = i then true else D j) a' w') Q)
    (hend : ∀ (D : Nat → Bool) a w, (∀ i, i < l.length → (∃ o, l[i]? = some o ∧ ∃ e ∈ o.after, Region.binds .any e = true ∧ D e.on = false) ∨ D i = true) → Inv D a w → Q .normal a w) :
    (Code.region id l.toArray true).wp P Q a w := by
  refine wp_region_inv hm Inv h0 (fun D a w i o ho hD hd hI => ?_) (fun D a w hD hI => hend D a w (fun i hi => by simpa using hD i (by simpa using hi)) hI)
  have ho : l[i]? = some o := by simpa using ho
  have hgo : o.guard = none := by
    have := (List.all_eq_true.1 hg) o (List.mem_of_getElem? ho)
    simpa using this
  have hw : Region.wanted o (yielded l.toArray a.tmps) = true := by unfold Region.wanted; rw [hgo]
  rw [if_pos hw]
  exact hstep D a w i o ho hD hd hI
end
end Go.Proofs.Ytpdckpifhniioaa
