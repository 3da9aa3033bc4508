/- A region that draws its order and whose operations only add to memory: each operation has a fact of its value, which later growth keeps. No function of the program is in sight. -/
import Derived.Test.YtpdckpifhniioaaJ2
import Derived.Below
set_option linter.unusedVariables false
namespace Go.Proofs.Ytpdckpifhniioaa
open Go.RowKit
/-- y is x with more memory: what x held lies as it lay. -/
def Grow (x y : World) : Prop := Below x.heap.size x y
theorem Grow.refl (x : World) : Grow x x := Below.refl _ _
theorem Grow.trans {x y z : World} (h : Grow x y) (k : Grow y z) : Grow x z := Below.trans h (Below.mono k h.size)
theorem Grow.drew (x : World) : Grow x x.drew := (Below.refl _ _).drew
theorem Grow.alloc (x : World) (o : Obj) : Grow x (x.alloc o) := (Below.refl _ _).alloc (Nat.le_refl _) o
theorem Grow.block {x y : World} (h : Grow x y) {k : Nat} {o : Obj} (hk : x.heap[k]? = some o) : y.heap[k]? = some o :=
  (Below.block h k (Array.getElem?_eq_some_iff.1 hk).1).trans hk
/-- In each world that grows out of x. -/
def Al (x : World) (F : World → Prop) : Prop := ∀ y, Grow x y → F y
theorem Al.mono {x y : World} {F : World → Prop} (h : Al x F) (g : Grow x y) : Al y F := fun z hz => h z (g.trans hz)
theorem Al.now {x : World} {F : World → Prop} (h : Al x F) : F x := h x (Grow.refl x)
theorem Al.of {x : World} {p : Prop} (h : p) : Al x (fun _ => p) := fun _ _ => h
theorem Al.block {x : World} {k : Nat} {o : Obj} (h : x.heap[k]? = some o) : Al x (fun y => y.heap[k]? = some o) := fun _ g => g.block h

theorem Act.put_put (a : Act) (d : Option Tmp) (u v : Value) : (a.put d u).put d v = a.put d v := by
  cases d with
  | none => rfl
  | some d => simp [Act.put]
theorem Act.put_comm (a : Act) (d e : Option Tmp) (hne : d = none ∨ e = none ∨ d ≠ e) (u v : Value) : (a.put d u).put e v = (a.put e v).put d u := by
  cases d with
  | none => rfl
  | some d =>
    cases e with
    | none => rfl
    | some e =>
      have h : d ≠ e := by rcases hne with h | h | h <;> first | cases h | (intro e'; exact h (by rw [e']))
      simp only [Act.put]
      rw [Array.setIfInBounds_comm _ _ h]
theorem Act.put_self (a : Act) (d : Option Tmp) : a.put d ((d.map fun t => a.tmps.getD t undef).getD undef) = a := by
  cases d with
  | none => rfl
  | some d =>
    simp only [Act.put, Option.map_some, Option.getD_some]
    have : a.tmps.setIfInBounds d (a.tmps.getD d undef) = a.tmps := by
      apply Array.ext
      · simp
      · intro i h1 h2
        rw [Array.getElem_setIfInBounds (by simpa using h2)]
        split
        · rename_i h; subst h; simp [Array.getD, h2]
        · rfl
    rw [this]
/-- The frame with u i in the slot of operation i. -/
def fill : List Oper → (Nat → Value) → Act → Act
  | [], _, a => a
  | o :: l, u, a => fill l (fun k => u (k + 1)) (a.put o.dst (u 0))
def updv (u : Nat → Value) (i : Nat) (v : Value) : Nat → Value := fun k => if k = i then v else u k
/-- No slot is written twice. -/
def apart (d e : Option Tmp) : Bool := match d, e with | some d, some e => d != e | _, _ => true
def distinct : List Oper → Bool
  | [] => true
  | o :: l => (l.all fun p => apart o.dst p.dst) && distinct l
theorem apart_ne {d e : Option Tmp} (h : apart d e = true) : d = none ∨ e = none ∨ d ≠ e := by
  cases d with
  | none => exact .inl rfl
  | some d =>
    cases e with
    | none => exact .inr (.inl rfl)
    | some e => exact .inr (.inr (by intro he; cases he; simp [apart] at h))
theorem apart_ne' {d e : Option Tmp} (h : apart d e = true) : e = none ∨ d = none ∨ e ≠ d := by
  rcases apart_ne h with h | h | h
  · exact .inr (.inl h)
  · exact .inl h
  · exact .inr (.inr (Ne.symm h))
theorem fill_put : ∀ (l : List Oper) (u : Nat → Value) (a : Act) (d : Option Tmp) (v : Value), (l.all fun p => apart d p.dst) = true → (fill l u a).put d v = fill l u (a.put d v)
  | [], _, _, _, _, _ => rfl
  | o :: l, u, a, d, v, h => by
    simp only [List.all_cons, Bool.and_eq_true] at h
    simp only [fill]
    rw [fill_put l _ _ d v h.2, Act.put_comm _ _ _ (apart_ne' h.1)]
theorem fill_congr : ∀ (l : List Oper) (u v : Nat → Value) (a : Act), (∀ i, i < l.length → u i = v i) → fill l u a = fill l v a
  | [], _, _, _, _ => rfl
  | o :: l, u, v, a, h => by
    simp only [fill]
    rw [h 0 (by simp)]
    exact fill_congr l _ _ _ fun i hi => h (i + 1) (by simp; omega)
theorem fill_upd : ∀ (l : List Oper) (u : Nat → Value) (a : Act) (i : Nat) (o : Oper) (v : Value), distinct l = true → l[i]? = some o → (fill l u a).put o.dst v = fill l (updv u i v) a
  | [], _, _, i, _, _, _, h => by simp at h
  | p :: l, u, a, 0, o, v, hd, h => by
    simp at h; subst h
    simp only [distinct, Bool.and_eq_true] at hd
    simp only [fill]
    rw [fill_put _ _ _ _ _ hd.1, Act.put_put]
    have : updv u 0 v 0 = v := by simp [updv]
    rw [this]
    exact fill_congr _ _ _ _ fun i hi => by simp [updv]
  | p :: l, u, a, i + 1, o, v, hd, h => by
    simp only [distinct, Bool.and_eq_true] at hd
    simp only [fill]
    rw [fill_upd l _ _ i o v hd.2 (by simpa using h)]
    have : updv u (i + 1) v 0 = u 0 := by simp [updv]
    rw [this]
    exact fill_congr _ _ _ _ fun j hj => by simp [updv]
theorem fill_start : ∀ (l : List Oper) (a : Act), ∃ u, fill l u a = a
  | [], a => ⟨fun _ => undef, rfl⟩
  | o :: l, a => by
    obtain ⟨u, hu⟩ := fill_start l a
    refine ⟨fun k => match k with | 0 => (o.dst.map fun t => a.tmps.getD t undef).getD undef | k + 1 => u k, ?_⟩
    show fill l (fun k => u k) (a.put o.dst _) = a
    rw [Act.put_self]
    exact hu
/-- Operation o waits for operation j. -/
def waitsOn (o : Oper) (j : Nat) : Bool := o.after.any fun e => e.on == j && Region.binds .any e
section
variable {P : Program}
/-- **A REGION THAT DRAWS ITS ORDER AND ONLY ADDS TO MEMORY.** 'T i v x': the fact of the value of operation i. -/
theorem wp_region_grow {id : Nat} {l : List Oper} {a : Act} {w : World} {Q : Exit → Act → World → Prop} (hm : P.follows .mixedOrders = true) (hL : lowers l.toArray = true) (hd : distinct l = true) (T : Nat → Value → World → Prop)
    (hstep : ∀ i o, l[i]? = some o → ∀ u x, Grow w x → (∀ j, waitsOn o j = true → Al x (T j (u j))) →
      if Region.wanted o (yielded l.toArray (fill l u a).tmps) then o.wp P (fill l u a) x (fun a' x' => ∃ v, a' = (fill l u a).put o.dst v ∧ Grow x x' ∧ Al x' (T i v)) Q else Al x (T i undef))
    (hend : ∀ u x, Grow w x → (∀ i, i < l.length → Al x (T i (u i))) → Q .normal (fill l u a) x) : (Code.region id l.toArray true).wp P Q a w := by
  refine wp_region_inv hm (fun D a' x => Grow w x ∧ ∃ u, a' = fill l u a ∧ ∀ i, i < l.length → D i = true → Al x (T i (u i))) ?_ ?_ ?_
  · obtain ⟨u, hu⟩ := fill_start l a
    exact ⟨Grow.drew w, u, hu.symm, fun i _ h => by cases h⟩
  · rintro D a' x i o ho hD hdep ⟨hg, u, rfl, hT⟩
    have ho' : l[i]? = some o := by simpa using ho
    have hlow : ∀ j, waitsOn o j = true → j < l.length := by
      intro j hj
      obtain ⟨k, hk, he⟩ := Array.any_eq_true.1 hj
      simp only [Bool.and_eq_true, beq_iff_eq] at he
      have hi : i < l.length := (List.getElem?_eq_some_iff.1 ho').1
      have h1 := (List.all_eq_true.1 hL) i (by simpa using hi)
      rw [ho] at h1
      simp only [Option.map_some, Option.getD_some] at h1
      have h2 := (Array.all_eq_true.1 h1) k hk
      have h3 : (o.after[k]).on < i := by simpa using h2
      omega
    have h := hstep i o ho' u x hg (fun j hj => by
      refine hT j (hlow j hj) ?_
      obtain ⟨k, hk, he⟩ := Array.any_eq_true.1 hj
      simp only [Bool.and_eq_true, beq_iff_eq] at he
      have := hdep _ (Array.getElem_mem hk) he.2
      rwa [he.1] at this)
    have fin : ∀ v x', Grow x x' → Al x' (T i v) → Grow w x' ∧ ∃ u', (fill l u a).put o.dst v = fill l u' a ∧ ∀ j, j < l.length → (if j = i then true else D j) = true → Al x' (T j (u' j)) := by
      intro v x' hgx hTi
      refine ⟨hg.trans hgx, updv u i v, fill_upd l u a i o v hd ho', fun j hj hDj => ?_⟩
      unfold updv
      split
      · rename_i e; subst e; exact hTi
      · rename_i e; rw [if_neg e] at hDj; exact (hT j hj hDj).mono hgx
    split
    · rename_i hw
      rw [if_pos hw] at h
      refine Oper.wp_mono ?_ h
      rintro a'' x' ⟨v, rfl, hgx, hTi⟩
      exact fin v x' hgx hTi
    · rename_i hw
      rw [if_neg hw] at h
      exact fin undef x (Grow.refl x) h
  · rintro D a' x hD ⟨hg, u, rfl, hT⟩
    have hall := all_done hL (D := D) (fun i hi => by simpa using hD i (by simpa using hi))
    exact hend u x hg fun i hi => hT i hi (hall i hi)
variable {o : Oper} {a : Act} {x : World} {Q : Exit → Act → World → Prop} {K : Value → World → Prop}
/-- An operation that yields a value. -/
theorem gw_val {v : Value} {x' : World} (h : (execOp a.eval o).run P x = .ok (.value v) x') (hg : Grow x x') (hT : Al x' (K v)) :
    o.wp P a x (fun a' x' => ∃ v, a' = a.put o.dst v ∧ Grow x x' ∧ Al x' (K v)) Q := by
  unfold Oper.wp
  rw [h]
  exact ⟨v, rfl, hg, hT⟩
/-- An operation that calls. -/
theorem gw_call (f : FuncId) {args : Array Value} (h : (execOp a.eval o).run P x = .ok (.enter f args) x)
    (hc : Calls P f args x fun e x' => ∃ v, e = .returned v ∧ Grow x x' ∧ Al x' (K v)) :
    o.wp P a x (fun a' x' => ∃ v, a' = a.put o.dst v ∧ Grow x x' ∧ Al x' (K v)) Q := by
  unfold Oper.wp
  rw [h]
  refine Calls.mono hc ?_
  rintro e x' ⟨v, rfl, hg, hT⟩
  exact ⟨v, rfl, hg, hT⟩
end
end Go.Proofs.Ytpdckpifhniioaa
