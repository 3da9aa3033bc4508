/- A region that draws its order: quiet operations (calls may add to memory), at most one new block, and one last store that waits for all. One walk of the text's order serves. No function of the program is in sight. -/
import Derived.Test.YtmfmnoajihiidaaJG
set_option linter.unusedVariables false
namespace Go.Proofs.Ytmfmnoajihiidaa
open Go.RowKit
/-- A new block of zero cells. -/
def isNew (o : Oper) : Bool := match o.op with | .alloc _ => true | _ => false
theorem put_at (a : Act) (d : Tmp) (v : Value) (t : Nat) : (a.put (some d) v).tmps[t]? = if d = t then (if t < a.tmps.size then some v else none) else a.tmps[t]? := by
  simp only [Act.put]
  by_cases h : d = t
  · subst h
    rw [if_pos rfl]
    by_cases hs : d < a.tmps.size
    · rw [if_pos hs, Array.getElem?_setIfInBounds_self_of_lt hs]
    · rw [if_neg hs, Array.getElem?_eq_none (by simpa using hs)]
  · rw [if_neg h, Array.getElem?_setIfInBounds_ne h]
theorem lt_of_at {a a' : Act} {t : Nat} (h : a.tmps[t]? = a'.tmps[t]?) : t < a.tmps.size ↔ t < a'.tmps.size := by
  constructor
  · intro hs
    rw [Array.getElem?_eq_getElem hs] at h
    exact (Array.getElem?_eq_some_iff.1 h.symm).1
  · intro hs
    rw [Array.getElem?_eq_getElem hs] at h
    exact (Array.getElem?_eq_some_iff.1 h).1
theorem fill_agree (t : Nat) : ∀ (l : List Oper) (u u' : Nat → Value) (a a' : Act), a.tmps[t]? = a'.tmps[t]? → (∀ (j : Nat) o, l[j]? = some o → o.dst = some t → u j = u' j) → (fill l u a).tmps[t]? = (fill l u' a').tmps[t]?
  | [], _, _, _, _, h, _ => h
  | o :: l, u, u', a, a', h, hu => by
    simp only [fill]
    refine fill_agree t l _ _ _ _ ?_ (fun j p hp hd => hu (j + 1) p (by simpa using hp) hd)
    cases hd : o.dst with
    | none => exact h
    | some d =>
      rw [put_at, put_at]
      by_cases he : d = t
      · subst he
        have h0 := hu 0 o (by simp) hd
        have := lt_of_at h
        rw [if_pos rfl, if_pos rfl, h0]
        by_cases hs : d < a.tmps.size
        · rw [if_pos hs, if_pos (this.1 hs)]
        · rw [if_neg hs, if_neg (fun h' => hs (this.2 h'))]
      · rw [if_neg he, if_neg he, h]
theorem fill_keep (t : Nat) : ∀ (l : List Oper) (u : Nat → Value) (a : Act), (∀ (j : Nat) o, l[j]? = some o → o.dst ≠ some t) → (fill l u a).tmps[t]? = a.tmps[t]?
  | [], _, _, _ => rfl
  | o :: l, u, a, h => by
    simp only [fill]
    rw [fill_keep t l _ _ fun j p hp => h (j + 1) p (by simpa using hp)]
    have h0 := h 0 o (by simp)
    cases hd : o.dst with
    | none => rfl
    | some d => rw [put_at, if_neg (fun e => h0 (by rw [hd, e]))]
theorem fill_append : ∀ (l m : List Oper) (u : Nat → Value) (a : Act), fill (l ++ m) u a = fill m (fun k => u (k + l.length)) (fill l u a)
  | [], m, u, a => rfl
  | o :: l, m, u, a => by
    simp only [List.cons_append, fill]
    rw [fill_append l m]
    rfl
theorem fill_defers : ∀ (l : List Oper) (u : Nat → Value) (a : Act), (fill l u a).defers = a.defers
  | [], _, _ => rfl
  | o :: l, u, a => by
    simp only [fill]
    rw [fill_defers l]
    cases o.dst <;> rfl
/-- Each slot that an operation looks at and that the region writes is written by an earlier quiet operation that it waits for. -/
def sees (ops : Array Oper) (l : List Oper) : Bool :=
  (List.range l.length).all fun i => match l[i]? with
    | none => true
    | some o => (o.looksAt ops).all fun t => (List.range l.length).all fun j => match l[j]? with
      | none => true
      | some p => p.dst != some t || (decide (j < i) && waitsOn o j && !isNew p)
def noSelect (l : List Oper) : Bool := l.all fun o => match o.op with | .select _ _ => false | _ => true
theorem sees_at {ops : Array Oper} {l : List Oper} (h : sees ops l = true) {i j : Nat} {o p : Oper} {t : Tmp} (ho : l[i]? = some o) (hp : l[j]? = some p) (ht : t ∈ o.looksAt ops) (hd : p.dst = some t) : j < i ∧ waitsOn o j = true ∧ isNew p = false := by
  have hi := (List.getElem?_eq_some_iff.1 ho).1
  have hj := (List.getElem?_eq_some_iff.1 hp).1
  have h1 := (List.all_eq_true.1 h) i (by simpa using hi)
  rw [ho] at h1
  have h2 := (List.all_eq_true.1 h1) t ht
  have h3 := (List.all_eq_true.1 h2) j (by simpa using hj)
  rw [hp] at h3
  simp only [Bool.or_eq_true, bne_iff_ne, ne_eq, Bool.and_eq_true, decide_eq_true_eq, Bool.not_eq_true'] at h3
  rcases h3 with h3 | ⟨⟨h3, h4⟩, h5⟩
  · exact absurd hd h3
  · exact ⟨h3, h4, h5⟩
section
variable {P : Program}
/-- The operation yields v in the world x, or calls what hands v back and only adds to memory. -/
def quietUponG (P : Program) (x : World) (v : Value) : Result Next → Prop
  | .ok (.value u) x' => x' = x ∧ u = v
  | .ok .skip x' => x' = x ∧ v = undef
  | .ok (.enter f args) x' => x' = x ∧ Calls P f args x (fun e x'' => e = .returned v ∧ Grow x x'')
  | _ => False
def quietG (P : Program) (o : Oper) (a : Act) (x : World) (v : Value) : Prop := quietUponG P x v ((execOp a.eval o).run P x)
/-- The walk of the text's order. -/
def wpQG (P : Program) (ops : Array Oper) (W0 : World) (K : Act → Prop) : List Oper → Act → Prop
  | [], a => K a
  | o :: rest, a =>
    if isNew o = true then wpQG P ops W0 K rest (a.put o.dst undef)
    else if Region.wanted o (yielded ops a.tmps) then ∃ v, (∀ x, Grow W0 x → quietG P o a x v) ∧ wpQG P ops W0 K rest (a.put o.dst v)
    else wpQG P ops W0 K rest (a.put o.dst undef)
/-- What the walk shows of one operation. -/
def YG (P : Program) (ops : Array Oper) (W0 : World) (o : Oper) (v : Value) (a : Act) : Prop :=
  isNew o = true ∨ (Region.wanted o (yielded ops a.tmps) = true ∧ ∀ x, Grow W0 x → quietG P o a x v) ∨ (Region.wanted o (yielded ops a.tmps) = false ∧ v = undef)
theorem wpQG_vals {ops : Array Oper} {W0 : World} {K : Act → Prop} : ∀ (l : List Oper) (a : Act), wpQG P ops W0 K l a → ∃ vals : Nat → Value, K (fill l vals a) ∧ (∀ (i : Nat) o, l[i]? = some o → YG P ops W0 o (vals i) (fill (l.take i) vals a)) ∧ ∀ (i : Nat) o, l[i]? = some o → isNew o = true → vals i = undef
  | [], a, h => ⟨fun _ => undef, h, fun i o ho => by simp at ho, fun i o ho => by simp at ho⟩
  | o :: l, a, h => by
    have main : ∀ v, YG P ops W0 o v a → (isNew o = true → v = undef) → wpQG P ops W0 K l (a.put o.dst v) → ∃ vals : Nat → Value, K (fill (o :: l) vals a) ∧ (∀ (i : Nat) p, (o :: l)[i]? = some p → YG P ops W0 p (vals i) (fill ((o :: l).take i) vals a)) ∧ ∀ (i : Nat) p, (o :: l)[i]? = some p → isNew p = true → vals i = undef := by
      intro v hv hv0 hl
      obtain ⟨vals, h1, h2, h3⟩ := wpQG_vals l _ hl
      refine ⟨fun k => match k with | 0 => v | k + 1 => vals k, h1, fun i p hp => ?_, fun i p hp hn => ?_⟩
      · cases i with
        | zero => simp at hp; subst hp; exact hv
        | succ i => exact h2 i p (by simpa using hp)
      · cases i with
        | zero => simp at hp; subst hp; exact hv0 hn
        | succ i => exact h3 i p (by simpa using hp) hn
    unfold wpQG at h
    by_cases hn : isNew o = true
    · rw [if_pos hn] at h
      exact main undef (.inl hn) (fun _ => rfl) h
    · rw [if_neg hn] at h
      by_cases hw : Region.wanted o (yielded ops a.tmps) = true
      · rw [if_pos hw] at h
        obtain ⟨v, hv, hl⟩ := h
        exact main v (.inr (.inl ⟨hw, hv⟩)) (fun h' => absurd h' hn) hl
      · rw [if_neg hw] at h
        exact main undef (.inr (.inr ⟨by simpa using hw, rfl⟩)) (fun h' => absurd h' hn) h
theorem YG.congr {ops : Array Oper} {W0 : World} {o : Oper} {v : Value} {a a' : Act} (hs : ∀ cs b, o.op ≠ .select cs b) (h : ∀ t ∈ o.looksAt ops, a.tmps[t]? = a'.tmps[t]?) (hy : YG P ops W0 o v a) : YG P ops W0 o v a' := by
  have he : execOp a'.eval o = execOp a.eval o := by
    refine execOp_congr o hs fun x hx => ?_
    cases x with
    | tmp t =>
      have := h t (List.mem_append_left _ (List.mem_filterMap.2 ⟨.tmp t, by simpa using hx, rfl⟩))
      simp only [Act.eval, Array.getD_eq_getD_getElem?, this]
    | const v => rfl
    | global g => rfl
    | func f => rfl
  have hw : Region.wanted o (yielded ops a'.tmps) = Region.wanted o (yielded ops a.tmps) := by
    unfold Region.wanted
    cases hg : o.guard with
    | none => rfl
    | some gw =>
      obtain ⟨g, want⟩ := gw
      have hyd : yielded ops a'.tmps g = yielded ops a.tmps g := by
        unfold yielded
        cases ht : (ops[g]?).bind (·.dst) with
        | none => rfl
        | some t =>
          have := h t (List.mem_append_right _ (by rw [hg]; simp [ht]))
          simp only [Option.bind_some, this]
      simp only [hyd]
  unfold YG quietG at *
  rw [he, hw]
  exact hy
/-- All that is looked at before the region is left. -/
def boxed (l : List Oper) (st : Oper) : Bool :=
  lowers (l ++ [st]).toArray && distinct l && sees (l ++ [st]).toArray l && noSelect l && waits st l.length && st.guard.isNone && st.dst.isNone && (l.all fun o => !isNew o || o.guard.isNone)
/-- The blocks that the region's new blocks are: operation i's pointer, and its zero cells. -/
def News (P : Program) (l : List Oper) (W0 : World) (u : Nat → Value) (x : World) (z : TypeId → Array Value) : Prop :=
  ∀ (i : Nat) o T, l[i]? = some o → o.op = .alloc T → ∃ b, u i = .pointer (some ⟨b, 0, none⟩) ∧ W0.heap.size ≤ b ∧ x.heap[b]? = some (.cells (z T) T (0, 0))
theorem wp_region_box {id : Nat} {l : List Oper} {st : Oper} {a : Act} {w : World} {Q : Exit → Act → World → Prop} (hm : P.follows .mixedOrders = true) (hB : boxed l st = true)
    (z : TypeId → Array Value) (hz : ∀ o ∈ l, ∀ T, o.op = .alloc T → ∀ a x, (execOp a o).run P x = .ok (.value (.pointer (some ⟨x.heap.size, 0, none⟩))) (x.alloc (.cells (z T) T)))
    (h : wpQG P (l ++ [st]).toArray w (fun a' => ∀ (u : Nat → Value) x, (∀ (i : Nat) o, l[i]? = some o → isNew o = false → u i = undef) → News P l w u x z → Grow w x →
      ∀ vals, a' = fill l vals a → (∀ (i : Nat) o, l[i]? = some o → isNew o = true → vals i = undef) → st.wp P (fill l (fun i => if ((l[i]?).map isNew).getD false then u i else vals i) a) x (fun a w => Q .normal a w) Q) l a) : (Code.region id (l ++ [st]).toArray true).wp P Q a w := by
  unfold boxed at hB
  simp only [Bool.and_eq_true, Option.isNone_iff_eq_none] at hB
  obtain ⟨⟨⟨⟨⟨⟨⟨hL, hd⟩, hs⟩, hsel⟩, hwt⟩, hgn⟩, hdn⟩, hng⟩ := hB
  obtain ⟨vals, hK, hY, hV⟩ := wpQG_vals l a h
  have hnew : ∀ o, isNew o = true → ∃ T, o.op = .alloc T := by
    intro o ho
    unfold isNew at ho
    split at ho
    · exact ⟨_, by assumption⟩
    · cases ho
  have hat : ∀ i, i < l.length → (l ++ [st]).toArray[i]? = l[i]? := by intro i hi; simp [List.getElem?_append_left hi]
  have hlast : (l ++ [st]).toArray[l.length]? = some st := by simp
  refine wp_region_inv hm (fun D a' x => (D l.length = false ∧ Grow w x ∧ ∃ u, a' = fill l u a ∧ ∀ (i : Nat) o, l[i]? = some o → D i = true → (isNew o = false → u i = vals i) ∧ ∀ T, o.op = .alloc T → ∃ b, u i = .pointer (some ⟨b, 0, none⟩) ∧ w.heap.size ≤ b ∧ x.heap[b]? = some (.cells (z T) T (0, 0))) ∨ (D l.length = true ∧ (∀ j, j < l.length → D j = true) ∧ Q .normal a' x)) ?_ ?_ ?_
  · obtain ⟨u, hu⟩ := fill_start l a
    exact .inl ⟨rfl, Grow.drew w, u, hu.symm, fun i o _ hf => by cases hf⟩
  · rintro D a' x i o ho hD hdep hI
    have hin : i < l.length + 1 := by
      have := (Array.getElem?_eq_some_iff.1 ho).1
      simpa using this
    have hI : D l.length = false ∧ Grow w x ∧ ∃ u, a' = fill l u a ∧ ∀ (i : Nat) o, l[i]? = some o → D i = true → (isNew o = false → u i = vals i) ∧ ∀ T, o.op = .alloc T → ∃ b, u i = .pointer (some ⟨b, 0, none⟩) ∧ w.heap.size ≤ b ∧ x.heap[b]? = some (.cells (z T) T (0, 0)) := by
      rcases hI with hI | ⟨h1, h2, _⟩
      · exact hI
      · by_cases hil : i < l.length
        · rw [h2 i hil] at hD; cases hD
        · obtain rfl : i = l.length := by omega
          rw [h1] at hD; cases hD
    obtain ⟨hDn, hg, u, rfl, hu⟩ := hI
    by_cases hil : i < l.length
    · have ho' : l[i]? = some o := by rw [← hat i hil]; exact ho
      have hne : l.length ≠ i := by omega
      have dep : ∀ j, waitsOn o j = true → D j = true := by
        intro j hj
        obtain ⟨k, hk, he⟩ := Array.any_eq_true.1 hj
        simp only [Bool.and_eq_true, beq_iff_eq] at he
        have := hdep _ (Array.getElem_mem hk) he.2
        rwa [he.1] at this
      have fin : ∀ v x', Grow x x' → (isNew o = false → v = vals i) → (∀ T, o.op = .alloc T → ∃ b, v = .pointer (some ⟨b, 0, none⟩) ∧ w.heap.size ≤ b ∧ x'.heap[b]? = some (.cells (z T) T (0, 0))) →
          ((if l.length = i then true else D l.length) = false ∧ Grow w x' ∧ ∃ u', (fill l u a).put o.dst v = fill l u' a ∧ ∀ (j : Nat) p, l[j]? = some p → (if j = i then true else D j) = true → (isNew p = false → u' j = vals j) ∧ ∀ T, p.op = .alloc T → ∃ b, u' j = .pointer (some ⟨b, 0, none⟩) ∧ w.heap.size ≤ b ∧ x'.heap[b]? = some (.cells (z T) T (0, 0))) := by
        intro v x' hgx h1 h2
        refine ⟨by rw [if_neg hne]; exact hDn, hg.trans hgx, updv u i v, fill_upd l u a i o v hd ho', fun j p hp hDj => ?_⟩
        unfold updv
        by_cases e : j = i
        · subst e
          rw [ho'] at hp; cases hp
          rw [if_pos rfl]
          exact ⟨h1, h2⟩
        · rw [if_neg e] at hDj ⊢
          obtain ⟨k1, k2⟩ := hu j p hp hDj
          exact ⟨k1, fun T hT => by obtain ⟨b, e1, e2, e3⟩ := k2 T hT; exact ⟨b, e1, e2, hgx.block e3⟩⟩
      by_cases hno : isNew o = true
      · obtain ⟨T, hT⟩ := hnew o hno
        have hgo : o.guard = none := by
          have := (List.all_eq_true.1 hng) o (List.mem_of_getElem? ho')
          simpa [hno] using this
        have hw : Region.wanted o (yielded (l ++ [st]).toArray (fill l u a).tmps) = true := by unfold Region.wanted; rw [hgo]
        rw [if_pos hw]
        unfold Oper.wp
        rw [hz o (List.mem_of_getElem? ho') T hT]
        refine .inl (fin _ _ (Grow.alloc x _) (fun h' => by rw [hno] at h'; cases h') fun T' hT' => ?_)
        rw [hT] at hT'; cases hT'
        exact ⟨x.heap.size, rfl, Below.size hg, heap_alloc_new x _⟩
      · have hno' : isNew o = false := by simpa using hno
        have hy := hY i o ho'
        have hsel' : ∀ cs b, o.op ≠ .select cs b := by
          intro cs b e
          have := (List.all_eq_true.1 hsel) o (List.mem_of_getElem? ho')
          rw [e] at this; cases this
        have hy2 : YG P (l ++ [st]).toArray w o (vals i) (fill l u a) := by
          refine hy.congr hsel' fun t ht => ?_
          have e1 : (fill l u a).tmps[t]? = (fill l vals a).tmps[t]? := by
            refine fill_agree t l u vals a a rfl fun j p hp hdp => ?_
            obtain ⟨_, s2, s3⟩ := sees_at hs ho' hp ht hdp
            exact (hu j p hp (dep j s2)).1 s3
          have e2 : (fill l vals a).tmps[t]? = (fill (l.take i) vals a).tmps[t]? := by
            conv => lhs; rw [← List.take_append_drop i l]
            rw [fill_append]
            refine fill_keep t _ _ _ fun j p hp hdp => ?_
            have hp' : l[i + j]? = some p := by rw [List.getElem?_drop] at hp; exact hp
            have := (sees_at hs ho' hp' ht hdp).1
            omega
          rw [e1, e2]
        rcases hy2 with hy2 | ⟨hw, hq⟩ | ⟨hw, hv⟩
        · rw [hno'] at hy2; cases hy2
        · rw [if_pos hw]
          have hq := hq x hg
          unfold quietG at hq
          unfold Oper.wp
          have noT : ∀ T, o.op = .alloc T → False := fun T hT => by unfold isNew at hno'; rw [hT] at hno'; cases hno'
          generalize (execOp (fill l u a).eval o).run P x = r at hq ⊢
          cases r with
          | ok n x' =>
            cases n <;> simp only [quietUponG] at hq <;> simp only [Oper.upon]
            case value v =>
              obtain ⟨rfl, rfl⟩ := hq
              exact .inl (fin _ _ (Grow.refl _) (fun _ => rfl) fun T hT => (noT T hT).elim)
            case skip =>
              obtain ⟨rfl, hv⟩ := hq
              rw [← hv]
              exact .inl (fin _ _ (Grow.refl _) (fun _ => rfl) fun T hT => (noT T hT).elim)
            case enter f args =>
              obtain ⟨rfl, hc⟩ := hq
              refine Calls.mono hc ?_
              rintro e x'' ⟨rfl, hgx⟩
              exact .inl (fin _ _ hgx (fun _ => rfl) fun T hT => (noT T hT).elim)
          | halt _ _ => simp only [quietUponG] at hq
        · rw [if_neg (by rw [hw]; simp)]
          rw [← hv]
          exact .inl (fin _ _ (Grow.refl _) (fun _ => rfl) fun T hT => by unfold isNew at hno'; rw [hT] at hno'; cases hno')
    · obtain rfl : i = l.length := by omega
      rw [hlast] at ho; cases ho
      have hw : Region.wanted st (yielded (l ++ [st]).toArray (fill l u a).tmps) = true := by unfold Region.wanted; rw [hgn]
      rw [if_pos hw]
      have hall : ∀ j, j < l.length → D j = true := by
        intro j hj
        have h1 := (List.all_eq_true.1 hwt) j (by simpa using hj)
        obtain ⟨k, hk, hke⟩ := Array.any_eq_true.1 h1
        simp only [Bool.and_eq_true, beq_iff_eq] at hke
        have := hdep _ (Array.getElem_mem hk) hke.2
        rwa [hke.1] at this
      have hfin := hK (fun i => if ((l[i]?).map isNew).getD false then u i else undef) x ?_ ?_ hg vals rfl hV
      · have e : fill l (fun i => if ((l[i]?).map isNew).getD false then (if ((l[i]?).map isNew).getD false then u i else undef) else vals i) a = fill l u a := by
          refine fill_congr l _ _ a fun i hi => ?_
          have hi' : l[i]? = some l[i] := List.getElem?_eq_getElem hi
          by_cases hn : isNew l[i] = true
          · simp [hi', hn]
          · simp only [hi', Option.map_some, Option.getD_some, if_neg hn]
            exact ((hu i _ hi' (hall i hi)).1 (by simpa using hn)).symm
        rw [e] at hfin
        refine Oper.wp_mono ?_ hfin
        intro a' x' hq
        exact .inr ⟨by simp, fun j hj => by show (if j = l.length then true else D j) = true; rw [if_neg (by omega)]; exact hall j hj, hq⟩
      · intro i o hi hn
        simp [hi, hn]
      · intro i o T hi hT
        have hn : isNew o = true := by unfold isNew; rw [hT]
        obtain ⟨b, e1, e2, e3⟩ := (hu i o hi (hall i (List.getElem?_eq_some_iff.1 hi).1)).2 T hT
        exact ⟨b, by simp [hi, hn, e1], e2, e3⟩
  · rintro D a' x hD hI
    have hall := all_done hL (D := D) (fun i hi => by simpa using hD i (by simpa using hi))
    have hn := hall l.length (by simp)
    rcases hI with ⟨h1, _⟩ | ⟨_, _, h3⟩
    · rw [hn] at h1; cases h1
    · exact h3
/-- Exactly one new block: operation i0's, of type T, in slot d. -/
def oneNew (l : List Oper) (i0 : Nat) (d : Tmp) (T : TypeId) : Bool :=
  ((List.range l.length).all fun i => match l[i]? with | none => true | some o => isNew o == (i == i0)) &&
  (match l[i0]? with | none => false | some o => o.dst == some d && (match o.op with | .alloc t => t == T | _ => false))
theorem wp_region_box1 {id : Nat} {ops : List Oper} {a : Act} {w : World} {Q : Exit → Act → World → Prop} (i0 : Nat) (d : Tmp) (T : TypeId) (z : Array Value) (hm : P.follows .mixedOrders = true) (hne : ops.isEmpty = false) (hB : boxed ops.dropLast (lastOp ops) = true) (h1 : oneNew ops.dropLast i0 d T = true)
    (hz : ∀ o : Oper, o.op = .alloc T → ∀ a x, (execOp a o).run P x = .ok (.value (.pointer (some ⟨x.heap.size, 0, none⟩))) (x.alloc (.cells z T)))
    (h : wpQG P ops.toArray w (fun a' => ∀ b x, Grow w x → w.heap.size ≤ b → x.heap[b]? = some (.cells z T (0, 0)) → (lastOp ops).wp P (a'.put (some d) (.pointer (some ⟨b, 0, none⟩))) x (fun a w => Q .normal a w) Q) ops.dropLast a) : (Code.region id ops.toArray true).wp P Q a w := by
  have e : ops = ops.dropLast ++ [lastOp ops] := by
    rcases List.eq_nil_or_concat ops with rfl | ⟨l, x, rfl⟩
    · simp at hne
    · have := lastOp_spec (l ++ [x]) (by simp)
      simp at this ⊢; exact this
  generalize hl : ops.dropLast = l at *
  generalize hst : lastOp ops = st at *
  subst e
  simp only [oneNew, Bool.and_eq_true] at h1
  obtain ⟨h1, h2⟩ := h1
  have hi0 : ∃ o, l[i0]? = some o ∧ o.dst = some d ∧ o.op = .alloc T := by
    cases ho : l[i0]? with
    | none => rw [ho] at h2; cases h2
    | some o =>
      rw [ho] at h2
      simp only [Bool.and_eq_true, beq_iff_eq] at h2
      refine ⟨o, rfl, h2.1, ?_⟩
      have := h2.2
      split at this
      · rename_i t ht; rw [ht]; simp at this; rw [this]
      · cases this
  obtain ⟨o0, ho0, hd0, hT0⟩ := hi0
  have hnew : ∀ (i : Nat) o, l[i]? = some o → isNew o = (i == i0) := by
    intro i o ho
    have := (List.all_eq_true.1 h1) i (by simpa using (List.getElem?_eq_some_iff.1 ho).1)
    rw [ho] at this
    simpa using this
  refine wp_region_box hm hB (fun t => if t = T then z else #[]) ?_ ?_
  · intro o ho T' hT' a x
    obtain ⟨i, hi, rfl⟩ := List.getElem_of_mem ho
    have ho' : l[i]? = some l[i] := List.getElem?_eq_getElem hi
    have hn : isNew l[i] = true := by unfold isNew; rw [hT']
    have := hnew i _ ho'
    rw [hn] at this
    obtain rfl : i = i0 := by simpa using this.symm
    rw [ho0] at ho'; cases ho'
    rw [hT0] at hT'; cases hT'
    rw [if_pos rfl]
    exact hz _ hT0 a x
  · have mono : ∀ (l' : List Oper) (a' : Act) (K K' : Act → Prop), (∀ a, K a → K' a) → wpQG P (l ++ [st]).toArray w K l' a' → wpQG P (l ++ [st]).toArray w K' l' a' := by
      intro l'
      induction l' with
      | nil => intro a' K K' hk h; exact hk _ h
      | cons o l' ih =>
        intro a' K K' hk h
        unfold wpQG at h ⊢
        split
        · rename_i hn; rw [if_pos hn] at h; exact ih _ K K' hk h
        · rename_i hn
          rw [if_neg hn] at h
          split
          · rename_i hw; rw [if_pos hw] at h; obtain ⟨v, h1, h2⟩ := h; exact ⟨v, h1, ih _ K K' hk h2⟩
          · rename_i hw; rw [if_neg hw] at h; exact ih _ K K' hk h
    refine mono l a _ _ ?_ h
    rintro a' hK u x hu hN hg vals rfl hV
    obtain ⟨b, e1, e2, e3⟩ := hN i0 o0 T ho0 hT0
    replace e3 : x.heap[b]? = some (.cells z T (0, 0)) := by have e4 := e3; simp only [if_pos] at e4; exact e4
    have := hK b x hg e2 e3
    have hd : distinct l = true := by
      unfold boxed at hB; simp only [Bool.and_eq_true] at hB; exact hB.1.1.1.1.1.1.2
    rw [← hd0, fill_upd l vals a i0 o0 _ hd ho0] at this
    have e : fill l (updv vals i0 (.pointer (some ⟨b, 0, none⟩))) a = fill l (fun i => if ((l[i]?).map isNew).getD false then u i else vals i) a := by
      refine fill_congr l _ _ a fun i hi => ?_
      have ho' : l[i]? = some l[i] := List.getElem?_eq_getElem hi
      have hn := hnew i _ ho'
      unfold updv
      by_cases h : i = i0
      · subst h
        simp only [ho', Option.map_some, Option.getD_some, hn]
        simp [e1]
      · simp only [ho', Option.map_some, Option.getD_some, hn, if_neg h]
        simp [h]
    rw [e] at this
    exact this
variable {ops : Array Oper} {W0 : World} {K : Act → Prop} {o : Oper} {rest : List Oper} {a : Act}
theorem qg_nil (h : K a) : wpQG P ops W0 K [] a := h
theorem qg_new (hn : isNew o = true) (h : wpQG P ops W0 K rest (a.put o.dst undef)) : wpQG P ops W0 K (o :: rest) a := by
  unfold wpQG; rw [if_pos hn]; exact h
theorem qg_skip (hn : isNew o = false) (hw : Region.wanted o (yielded ops a.tmps) = false) (h : wpQG P ops W0 K rest (a.put o.dst undef)) : wpQG P ops W0 K (o :: rest) a := by
  unfold wpQG; rw [if_neg (by simp [hn]), if_neg (by simp [hw])]; exact h
theorem qg_val (hn : isNew o = false) (hw : Region.wanted o (yielded ops a.tmps) = true) (h : ∃ v, (∀ x, Grow W0 x → (execOp a.eval o).run P x = .ok (.value v) x) ∧ wpQG P ops W0 K rest (a.put o.dst v)) : wpQG P ops W0 K (o :: rest) a := by
  unfold wpQG; rw [if_neg (by simp [hn]), if_pos hw]
  obtain ⟨v, h1, h2⟩ := h
  exact ⟨v, fun x hx => by unfold quietG; rw [h1 x hx]; exact ⟨rfl, rfl⟩, h2⟩
theorem qg_call (f : FuncId) (hn : isNew o = false) (hw : Region.wanted o (yielded ops a.tmps) = true) (h : ∃ args, (∀ x, Grow W0 x → (execOp a.eval o).run P x = .ok (.enter f args) x) ∧
    ∃ v, (∀ x, Grow W0 x → Calls P f args x fun e x' => e = .returned v ∧ Grow x x') ∧ wpQG P ops W0 K rest (a.put o.dst v)) : wpQG P ops W0 K (o :: rest) a := by
  unfold wpQG; rw [if_neg (by simp [hn]), if_pos hw]
  obtain ⟨args, h1, v, h2, h3⟩ := h
  exact ⟨v, fun x hx => by unfold quietG; rw [h1 x hx]; exact ⟨rfl, h2 x hx⟩, h3⟩
end
end Go.Proofs.Ytmfmnoajihiidaa
