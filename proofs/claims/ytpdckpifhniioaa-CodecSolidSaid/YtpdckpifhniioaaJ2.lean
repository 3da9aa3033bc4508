/- A region that draws its order, of quiet operations but for the last, which waits for all the others (a store of the result). No function of the program is in sight. -/
import Derived.Test.YtpdckpifhniioaaJ
import Derived.Deep.Quiet
set_option linter.unusedVariables false
namespace Go.Proofs.Ytpdckpifhniioaa
open Go.RowKit
section
variable {P : Program} {C : World → Prop}

/-- Each edge goes to an earlier operation. -/
def lowers (ops : Array Oper) : Bool := (List.range ops.size).all fun i => ((ops[i]?).map fun o => o.after.all fun e => decide (e.on < i)).getD true
/-- The last operation waits for each other one. -/
def waits (st : Oper) (n : Nat) : Bool := (List.range n).all fun i => st.after.any fun e => e.on == i && Region.binds .any e

theorem ready_of_unlisted {ops : Array Oper} (hL : lowers ops = true) (listed : Array Bool) (hs : listed.size = ops.size) {i : Nat} (hi : i < ops.size) (hu : listed.getD i false = false) : Region.ready .any ops listed ≠ [] := by
  have key : ∀ n i, i < n → i < ops.size → listed.getD i false = false → Region.ready .any ops listed ≠ [] := by
    intro n
    induction n with
    | zero => intro i h; omega
    | succ n ih =>
      intro i hin hi hu hr
      have hli : i < listed.size := by omega
      have ho : ops[i]? = some ops[i] := Array.getElem?_eq_getElem hi
      have := (List.filter_eq_nil_iff.1 hr) i (by simpa using hi)
      rw [ho] at this
      simp only [Option.map_some, Option.getD_some, Bool.and_eq_true, not_and] at this
      have h1 : (!listed.getD i true) = true := by simpa [Array.getD, hli] using hu
      have h2 := this h1
      rw [Array.all_eq_true] at h2
      simp only [Classical.not_forall] at h2
      obtain ⟨k, hk, hne⟩ := h2
      have hlow := (List.all_eq_true.1 hL) i (by simpa using hi)
      rw [ho] at hlow
      simp only [Option.map_some, Option.getD_some] at hlow
      have hlt := (Array.all_eq_true.1 hlow) k hk
      have hlt' : (ops[i].after[k]).on < i := by simpa using hlt
      have hun : listed.getD (ops[i].after[k]).on false = false := by
        cases hb : listed.getD (ops[i].after[k]).on false with
        | false => rfl
        | true => exact absurd (by rw [hb]; simp) hne
      exact ih _ (by omega) (by omega) hun hr
  exact key (i + 1) i (by omega) hi hu

theorem wpAny_last {l : List Oper} {st nop : Oper} {Q : Exit → Act → World → Prop} (hd : nop.dst = st.dst) (hg : nop.guard = st.guard) (hgn : st.guard = none) (hdn : st.dst = none) (ha : nop.after = st.after)
    (hL : lowers (l ++ [st]).toArray = true) (hw : waits st l.length = true) :
    ∀ (fuel : Nat) (listed : Array Bool) (a : Act) (w : World), listed.size = l.length + 1 → listed.getD l.length true = false → C w →
      wpAnyQ P .any (l ++ [nop]).toArray C (fun a' => ∀ w', C w' → st.wp P a' w' (fun a w => Q .normal a w) Q) fuel listed a → wpAny P .any (l ++ [st]).toArray Q fuel listed a w := by
  have hsz : ∀ x : Oper, (l ++ [x]).toArray.size = l.length + 1 := by simp
  have hat : ∀ (x : Oper) (i : Nat), i < l.length → (l ++ [x]).toArray[i]? = l[i]? := by intro x i hi; simp [List.getElem?_append_left hi]
  have hlast : ∀ x : Oper, (l ++ [x]).toArray[l.length]? = some x := by intro x; simp
  have hy : ∀ tmps j, yielded (l ++ [nop]).toArray tmps j = yielded (l ++ [st]).toArray tmps j := by
    intro tmps j
    unfold yielded
    rcases Nat.lt_trichotomy j l.length with h | h | h
    · rw [hat _ _ h, hat _ _ h]
    · subst h; rw [hlast, hlast]; simp [hd]
    · rw [Array.getElem?_eq_none (by rw [hsz]; omega), Array.getElem?_eq_none (by rw [hsz]; omega)]
  have hrd : ∀ listed, Region.ready .any (l ++ [nop]).toArray listed = Region.ready .any (l ++ [st]).toArray listed := by
    intro listed
    unfold Region.ready
    rw [hsz, hsz]
    apply List.filter_congr
    intro i hi
    have hi : i < l.length + 1 := by simpa using hi
    by_cases h : i < l.length
    · rw [hat _ _ h, hat _ _ h]
    · obtain rfl : i = l.length := by omega
      rw [hlast, hlast]; simp [ha]
  intro fuel
  induction fuel with
  | zero =>
    intro listed a w hs hu hC h
    exfalso
    refine ready_of_unlisted hL listed (by rw [hsz]; exact hs) (i := l.length) (by rw [hsz]; omega) ?_ (by rw [← hrd]; exact h.1)
    simpa [Array.getD, hs] using hu
  | succ fuel ih =>
    intro listed a w hs hu hC h
    refine ⟨fun hr => ?_, fun i hi => ?_⟩
    · exfalso
      refine ready_of_unlisted hL listed (by rw [hsz]; exact hs) (i := l.length) (by rw [hsz]; omega) ?_ hr
      simpa [Array.getD, hs] using hu
    · have hq := h.2 i (by rw [hrd]; exact hi)
      have hlt : i < l.length + 1 := by have := (List.mem_filter.1 hi).1; simpa [hsz] using this
      by_cases hil : i < l.length
      · unfold qOp at hq
        unfold wpOp
        rw [hat _ _ hil] at hq ⊢
        have ho : l[i]? = some l[i] := List.getElem?_eq_getElem hil
        rw [ho] at hq ⊢
        simp only at hq ⊢
        have hwe : Region.wanted l[i] (yielded (l ++ [nop]).toArray a.tmps) = Region.wanted l[i] (yielded (l ++ [st]).toArray a.tmps) := by
          congr 1; funext j; exact hy _ _
        rw [hwe] at hq
        have hnext : ∀ a' w', C w' → wpAnyQ P .any (l ++ [nop]).toArray C (fun a' => ∀ w', C w' → st.wp P a' w' (fun a w => Q .normal a w) Q) fuel (listed.setIfInBounds i true) a' → wpAny P .any (l ++ [st]).toArray Q fuel (listed.setIfInBounds i true) a' w' := by
          intro a' w' hw' hh
          refine ih _ a' w' (by simpa using hs) ?_ hw' hh
          rw [Array.getD_eq_getD_getElem?, Array.getElem?_setIfInBounds_ne (by omega), ← Array.getD_eq_getD_getElem?]
          exact hu
        split
        · rename_i hwt; rw [if_pos hwt] at hq
          exact .inl (Oper.wp_of_quiet hC hnext hq)
        · rename_i hwt; rw [if_neg hwt] at hq
          exact hnext _ _ hC hq
      · obtain rfl : i = l.length := by omega
        -- the last: all the others have come up
        have hrn : Region.ready .any (l ++ [st]).toArray (listed.setIfInBounds l.length true) = [] := by
          have hr2 := (List.mem_filter.1 hi).2
          simp only [Bool.and_eq_true] at hr2
          have hd2 := hr2.2
          rw [hlast] at hd2
          simp only [Option.map_some, Option.getD_some] at hd2
          unfold Region.ready
          rw [List.filter_eq_nil_iff]
          intro j hj
          have hj : j < l.length + 1 := by simpa [hsz] using hj
          have : (listed.setIfInBounds l.length true).getD j true = true := by
            by_cases hjl : j = l.length
            · subst hjl; simp [Array.getD, hs]
            · have hjl' : j < l.length := by omega
              have h1 := (List.all_eq_true.1 hw) j (by simpa using hjl')
              obtain ⟨k, hk, hke⟩ := Array.any_eq_true.1 h1
              simp only [Bool.and_eq_true, beq_iff_eq] at hke
              have h2 := (Array.all_eq_true.1 hd2) k hk
              rw [hke.2] at h2
              have h3 : listed.getD j false = true := by
                have : listed.getD (st.after[k]).on false = true := by simpa using h2
                rwa [hke.1] at this
              rw [Array.getD_eq_getD_getElem?, Array.getElem?_setIfInBounds_ne (Ne.symm hjl)]
              rw [Array.getD_eq_getD_getElem?] at h3
              have hjs : j < listed.size := by omega
              rw [Array.getElem?_eq_getElem hjs] at h3 ⊢
              simpa using h3
          simp [this]
        unfold qOp at hq
        rw [hlast] at hq
        simp only at hq
        have hwn : Region.wanted nop (yielded (l ++ [nop]).toArray a.tmps) = true := by unfold Region.wanted; rw [hg, hgn]
        rw [if_pos hwn] at hq
        obtain ⟨v, _, hq2⟩ := hq
        have hQ : ∀ w', C w' → st.wp P a w' (fun a w => Q .normal a w) Q := by
          have hput : a.put nop.dst v = a := by rw [hd, hdn]; rfl
          rw [hput] at hq2
          cases fuel with
          | zero => exact hq2.2
          | succ f => exact hq2.1 (by rw [hrd]; exact hrn)
        unfold wpOp
        rw [hlast]
        simp only
        have hwn' : Region.wanted st (yielded (l ++ [st]).toArray a.tmps) = true := by unfold Region.wanted; rw [hgn]
        rw [if_pos hwn']
        exact .inl (Oper.wp_mono (fun a' w' h' => wpAny_done hrn h' fuel) (hQ w hC))

/-- **ONE WALK OF THE TEXT'S ORDER, WHERE THE LAST OPERATION STORES AND WAITS FOR ALL THE OTHERS.** -/
theorem wp_region_last {id : Nat} {l : List Oper} {st : Oper} {Q : Exit → Act → World → Prop} {a : Act} {w : World} (hm : P.follows .mixedOrders = true)
    (hB : Region.lexB .any (l ++ [{ st with op := .move (.const (.bool false)) }]).toArray = true) (hL : lowers (l ++ [st]).toArray = true) (hw : waits st l.length = true) (hgn : st.guard = none) (hdn : st.dst = none) (hC : C w.drew)
    (h : wpQuiet P (l ++ [{ st with op := .move (.const (.bool false)) }]).toArray C (fun a' => ∀ w', C w' → st.wp P a' w' (fun a w => Q .normal a w) Q) l a) : (Code.region id (l ++ [st]).toArray true).wp P Q a w := by
  refine wp_region_any hm ?_
  obtain ⟨nop, hnop⟩ : ∃ nop, nop = ({ st with op := .move (.const (.bool false)) } : Oper) := ⟨_, rfl⟩
  rw [← hnop] at h hB
  have e : (l ++ [st]).toArray.size = l.length + 1 := by simp
  rw [e]
  refine wpAny_last (nop := nop) (by rw [hnop]) (by rw [hnop]) hgn hdn (by rw [hnop]) hL hw (l.length + 1) (Array.replicate (l.length + 1) false) a _ (by simp) (by simp [Array.getD]) hC ?_
  simp only [Region.lexB, Bool.and_eq_true] at hB
  have hlen : (l ++ [nop]).toArray.size = l.length + 1 := by simp
  have h2 : wpQuiet P (l ++ [nop]).toArray C (fun a' => ∀ w', C w' → st.wp P a' w' (fun a w => Q .normal a w) Q) (l ++ [nop]) a := by
    have gen : ∀ (m : List Oper) (b : Act), wpQuiet P (l ++ [nop]).toArray C (fun a' => ∀ w', C w' → st.wp P a' w' (fun a w => Q .normal a w) Q) m b → wpQuiet P (l ++ [nop]).toArray C (fun a' => ∀ w', C w' → st.wp P a' w' (fun a w => Q .normal a w) Q) (m ++ [nop]) b := by
      intro m
      induction m with
      | nil =>
        intro b hb
        have hwn : Region.wanted nop (yielded (l ++ [nop]).toArray b.tmps) = true := by unfold Region.wanted; rw [hnop]; simp [hgn]
        show if _ then _ else _
        rw [if_pos hwn]
        refine ⟨.bool false, fun w _ => ?_, ?_⟩
        · unfold Oper.quietAt
          rw [hnop]
          simp [execOp, go_sem, Oper.quietUpon]
        · have : nop.dst = none := by rw [hnop]; exact hdn
          rw [this]; exact hb
      | cons o m ih =>
        intro b hb
        show if _ then _ else _
        have hb : if Region.wanted o (yielded (l ++ [nop]).toArray b.tmps) then o.quiet P b C (wpQuiet P (l ++ [nop]).toArray C (fun a' => ∀ w', C w' → st.wp P a' w' (fun a w => Q .normal a w) Q) m) else wpQuiet P (l ++ [nop]).toArray C (fun a' => ∀ w', C w' → st.wp P a' w' (fun a w => Q .normal a w) Q) m (b.put o.dst undef) := hb
        split
        · rename_i hwt; rw [if_pos hwt] at hb; exact Oper.quiet_mono (fun _ => ih _) hb
        · rename_i hwt; rw [if_neg hwt] at hb; exact ih _ hb
    exact gen l a h
  have := wpAnyQ_lex (P := P) (C := C) (md := .any) (ops := (l ++ [nop]).toArray) hB.1 (l ++ [nop]) 0 (Array.replicate (l.length + 1) false) a (by simp) (by simpa using hB.2) h2
  simpa using this
/-- The same for a region that is written out. -/
theorem wp_region_lastA {id : Nat} {ops : List Oper} (st : Oper) {Q : Exit → Act → World → Prop} {a : Act} {w : World} (hst : ops.getLast? = some st) (hm : P.follows .mixedOrders = true)
    (hB : Region.lexB .any (ops.dropLast ++ [{ st with op := .move (.const (.bool false)) }]).toArray = true) (hL : lowers ops.toArray = true) (hw : waits st ops.dropLast.length = true) (hgn : st.guard = none) (hdn : st.dst = none) (hC : C w.drew)
    (h : wpQuiet P (ops.dropLast ++ [{ st with op := .move (.const (.bool false)) }]).toArray C (fun a' => ∀ w', C w' → st.wp P a' w' (fun a w => Q .normal a w) Q) ops.dropLast a) : (Code.region id ops.toArray true).wp P Q a w := by
  have e : ops = ops.dropLast ++ [st] := by
    rcases List.eq_nil_or_concat ops with rfl | ⟨l, x, rfl⟩
    · simp at hst
    · simp at hst ⊢; exact hst
  have := wp_region_last (C := C) (id := id) (Q := Q) (a := a) (w := w) (l := ops.dropLast) (st := st) hm hB (by rw [← e]; exact hL) hw hgn hdn hC h
  rw [← e] at this
  exact this
/-- The last operation of a list. -/
def lastOp : List Oper → Oper
  | [] => { dst := none, op := .move (.const (.bool false)), type := 0, pos := "", after := #[], guard := none }
  | [o] => o
  | _ :: o :: os => lastOp (o :: os)
theorem lastOp_spec : ∀ (l : List Oper), l ≠ [] → l.getLast? = some (lastOp l)
  | [], h => absurd rfl h
  | [o], _ => rfl
  | _ :: o :: os, _ => by rw [List.getLast?_cons_cons]; exact lastOp_spec (o :: os) (by simp)
theorem wp_region_lastB {id : Nat} {ops : List Oper} {Q : Exit → Act → World → Prop} {a : Act} {w : World} (hne : ops.isEmpty = false) (hm : P.follows .mixedOrders = true)
    (hB : Region.lexB .any (ops.dropLast ++ [{ (lastOp ops) with op := .move (.const (.bool false)) }]).toArray = true) (hL : lowers ops.toArray = true) (hw : waits (lastOp ops) ops.dropLast.length = true) (hgn : (lastOp ops).guard = none) (hdn : (lastOp ops).dst = none) (hC : C w.drew)
    (h : wpQuiet P (ops.dropLast ++ [{ (lastOp ops) with op := .move (.const (.bool false)) }]).toArray C (fun a' => ∀ w', C w' → (lastOp ops).wp P a' w' (fun a w => Q .normal a w) Q) ops.dropLast a) : (Code.region id ops.toArray true).wp P Q a w :=
  wp_region_lastA (C := C) _ (lastOp_spec ops (by intro e; subst e; simp at hne)) hm hB hL hw hgn hdn hC h
/-- Behind the region all its operations have come up. -/
theorem all_done {l : List Oper} (hL : lowers l.toArray = true) {D : Nat → Bool}
    (hD : ∀ i, i < l.length → (∃ o, l[i]? = some o ∧ ∃ e ∈ o.after, Region.binds .any e = true ∧ D e.on = false) ∨ D i = true) : ∀ i, i < l.length → D i = true := by
  intro i
  induction i using Nat.strongRecOn with
  | _ i ih =>
    intro hi
    rcases hD i hi with ⟨o, ho, e, he, _, hf⟩ | h
    · have hlow := (List.all_eq_true.1 hL) i (by simpa using hi)
      have ho' : l.toArray[i]? = some o := by simpa using ho
      rw [ho'] at hlow
      simp only [Option.map_some, Option.getD_some] at hlow
      obtain ⟨k, hk, rfl⟩ := Array.mem_iff_getElem.1 he
      have h1 := (Array.all_eq_true.1 hlow) k hk
      have h2 : (o.after[k]).on < i := by simpa using h1
      rw [ih _ h2 (by omega)] at hf
      cases hf
    · exact h
end
end Go.Proofs.Ytpdckpifhniioaa
