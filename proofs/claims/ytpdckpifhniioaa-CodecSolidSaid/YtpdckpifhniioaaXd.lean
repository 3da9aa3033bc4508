/- Contracts that take for granted how much room there is: the walk of straight code in which a slice grows, its way chosen. -/
import Derived.Test.YtpdckpifhniioaaLp
set_option linter.unusedVariables false
namespace Go.Proofs.Ytpdckpifhniioaa
open Go.RowKit
namespace Ab
def dcsOf : List Tr → List (Nat × Nat × Bool)
  | [] => []
  | t :: l => t.e.dc ++ dcsOf l
theorem trace_bs {P : Program} {cx : Cy} {ops : List Oper} {n0 : Nat} (c0 : Nat → Option Nat) : ∀ (r : List Oper) (bs : List Bool) (S S' : St) (l : List Tr), trace P cx ops n0 r bs S = some (l, S') →
    (∀ p ∈ dcsOf l, ∀ v, c0 p.1 = some v → decide (p.2.1 ≤ v) = p.2.2) → TraceR P ops c0 n0 r S l S'
  | [], bs, S, S', l, h, hd => by
    simp only [trace, Option.some.injEq, Prod.mk.injEq] at h
    obtain ⟨rfl, rfl⟩ := h
    exact .nil _
  | o :: r, bs, S, S', l, h, hD => by
    unfold trace at h
    split at h
    · cases h
    · rename_i e he
      split at h
      · rename_i hdc
        split at h
        · rename_i hd hn
          split at h
          · rename_i l1 S1 ht
            cases h
            exact .cons (stepS he) hd hn (fun _ p hp => by rw [hdc] at hp; cases hp) (trace_bs c0 r bs _ _ _ ht fun p hp => hD p (by simp only [dcsOf]; exact List.mem_append_right _ hp))
          · cases h
        · cases h
      · rename_i id m hdc
        split at h
        · rename_i bs' hlt
          have hid : id < n0 := Nat.le_of_ble_eq_true hlt
          split at h
          · rename_i hd hn
            split at h
            · rename_i l1 S1 ht
              cases h
              refine .cons (stepS he) hd hn (fun _ p hp => ?_) (trace_bs c0 r bs' _ _ _ ht fun p hp => hD p (by simp only [dcsOf]; exact List.mem_append_right _ hp))
              refine ⟨?_, hD p (by simp only [dcsOf]; exact List.mem_append_left _ hp)⟩
              rw [hdc] at hp
              simp only [List.mem_singleton] at hp
              subst hp
              exact hid
            · cases h
          · cases h
        · rename_i bs' hlt
          have hid : id < n0 := Nat.le_of_ble_eq_true hlt
          split at h
          · cases h
          · rename_i e' he'
            split at h
            · rename_i hd hn
              split at h
              · rename_i l1 S1 ht
                cases h
                refine .cons (e := { e' with obs := (e'.dc = [(id, m, false)]) :: e'.obs }) (fun β a x Q ho hw hsl hrd hnew hdc => stepS he' β a x Q ho.2 hw hsl hrd hnew hdc) hd hn (fun ho p hp => ?_) (trace_bs c0 r bs' _ _ _ ht fun p hp => hD p (by simp only [dcsOf]; exact List.mem_append_right _ hp))
                refine ⟨?_, hD p (by simp only [dcsOf]; exact List.mem_append_left _ hp)⟩
                have hp : p ∈ e'.dc := hp
                rw [ho.1] at hp
                simp only [List.mem_singleton] at hp
                subst hp
                exact hid
              · cases h
            · cases h
        · cases h
      · cases h
def WPD (P : Program) (D : List (Nat × Nat × Bool)) (c : Code) (S : St) (K : Exit → St → Prop) : Prop := ∀ β a x, Rep β S a x → DcOK β D → (∀ p ∈ D, p.1 < S.q) → c.wp P (Post S β x K) a x
/-- Straight code; rb: the ways of a region's slices that grow. -/
def evD (P : Program) (cx : Cz) (rb : Nat → Option (List Bool)) (D : List (Nat × Nat × Bool)) : Code → St → (Exit → St → Prop) → Prop
  | .skip, S, K => K .normal S
  | .region id ops draw, S, K => match rb id, draw with
    | some bs, false => match trace P cx.toCy ops.toList S.n ops.toList bs S with
      | some (l, S') => dcsOf l = D ∧ obsT l (K .normal S')
      | none => Bad id 777
    | _, _ => regA id P cx.toCy ops.toList draw S (K .normal)
  | .seq c d, S, K => evD P cx rb D c S fun e S' => match e with | .normal => evD P cx rb D d S' K | e => K e S'
  | .ret, S, K => K .ret S
  | _, _, _ => False
theorem evD_sound {P : Program} {cx : Cz} {rb : Nat → Option (List Bool)} {D : List (Nat × Nat × Bool)} (hm : P.follows .mixedOrders = true) : ∀ (c : Code) (S : St) (K : Exit → St → Prop), evD P cx rb D c S K → WPD P D c S K
  | .skip, S, K, h => fun β a x hR _ _ => ev_sound (cx := cx) hm .skip S K h β a x hR
  | .ret, S, K, h => fun β a x hR _ _ => ev_sound (cx := cx) hm .ret S K h β a x hR
  | .region id ops draw, S, K, h => fun β a x hR hdc hq => by
    unfold evD at h
    split at h
    · rename_i bs _
      split at h
      · rename_i l S' ht
        obtain ⟨hl, h⟩ := h
        obtain ⟨ho, hk⟩ := obsT_iff.1 h
        have hT := trace_bs (P := P) β.c ops.toList bs S S' l ht (fun p hp v hv => hdc p (hl ▸ hp) v hv)
        obtain ⟨_, _, h3, h4⟩ := trace_mono hT
        refine wp_region ?_
        have := seq_ops (P := P) (Q := Post S β x K) ops.toList 0 S S' l a x β (fun j => by simp) hT (Nat.le_refl _) (fun _ _ _ h => h) ho hR (fun β' a' x' hN hR' => ⟨S', β', hk, h4.symm, fun i hi _ => h3 i hi, hN, hR'⟩)
        rw [List.range_eq_range']
        simpa using this
      · exact nomatch h
    · exact reg_sound hm h β a x hR
  | .seq c d, S, K, h => fun β a x hR hdc hq => by
    have h1 := evD_sound hm c S _ h
    refine wp_seq (wp_mono (h1 β a x hR hdc hq) ?_)
    rintro e a' x' ⟨S', β', k, h1, h2, h3, h4⟩
    cases e with
    | normal =>
      have hd' : DcOK β' D := fun p hp v hv => hdc p hp v (by rw [← h3.oldc p.1 (hq p hp)]; exact hv)
      exact wp_mono (evD_sound hm d S' K k β' a' x' h4 hd' (fun p hp => by rw [h1]; exact hq p hp)) (Post.chain h1 h2 h3)
    | exit i => exact ⟨S', β', k, h1, h2, h3, h4⟩
    | goto i => exact ⟨S', β', k, h1, h2, h3, h4⟩
    | ret => exact ⟨S', β', k, h1, h2, h3, h4⟩
    | panic i => exact ⟨S', β', k, h1, h2, h3, h4⟩
    | outgrown => exact ⟨S', β', k, h1, h2, h3, h4⟩
set_option maxHeartbeats 1000000 in
theorem call_okW {P : Program} {D : List (Nat × Nat × Bool)} {f : Nat} {fn : Func} {body : Code} (hf : P.funcs[f]? = some fn) (hb : fn.body = some body) (hent : Enters P f)
    {args : List SV} {H : List (Nat × Blk)} {n : Nat} {v : SV} {wr : List (Nat × Blk)} {nm : List Nat} (hck : inck args H n fn.ntmps wr nm = true) (hD : (D.all fun p => Nat.blt p.1 n) = true) (h : WPD P D body (st0 args H n fn.ntmps) (finK P fn.results.toList n v wr nm)) : CallOKd P f D args H n v wr nm.length := by
  refine ⟨hent, fun β x vals hd hinj hlt hnone hH hdc => ?_⟩
  simp only [inck, Bool.and_eq_true] at hck
  obtain ⟨c1, c2, c3, c4, c5, c6⟩ := hck
  have c1 := Nat.le_of_ble_eq_true c1
  have hd' := ltN_all (cut_to (n := n)) c2 hd
  have hdl := hd.length
  have hR : Rep (cut β n) (st0 args H n fn.ntmps) { tmps := vals.toArray ++ Array.replicate (fn.ntmps - vals.toArray.size) undef, defers := [] } x := by
    refine ⟨fun t => ?_, by simp [st0]; omega, rfl, fun id b k hb hk => ?_, fun i j b hi hj => hinj i j b (cut_some hi).2 (cut_some hj).2, fun i b hb => ⟨hlt i b (cut_some hb).2, (cut_some hb).1⟩, fun i v hv => (cut_somec hv).1, Nat.le_refl _⟩
    · show SV.den _ (match lk (numb 0 args) t with | some v => v | none => .u) _
      cases hq : lk (numb 0 args) t with
      | none => trivial
      | some s =>
        obtain ⟨_, hs⟩ := lk_numb hq
        obtain ⟨y, hy, hyd⟩ := hd'.get hs
        have hlt' : t < vals.length := (List.getElem?_eq_some_iff.1 hy).1
        have : Act.eval { tmps := vals.toArray ++ Array.replicate (fn.ntmps - vals.toArray.size) undef, defers := [] } (.tmp t) = y := by
          show (vals.toArray ++ Array.replicate (fn.ntmps - vals.toArray.size) undef).getD t undef = y
          rw [Array.getD_eq_getD_getElem?, Array.getElem?_append_left (by simpa using hlt')]
          have hy' : vals[t]? = some y := by simpa using hy
          simp [hy']
        rw [this]; exact hyd
    · have hk' : lk H id = some k := by
        have : (st0 args H n fn.ntmps).blk id = match lk (H.map fun p => (p.1, some p.2)) id with | some b => b | none => none := rfl
        rw [this, lk_map] at hk
        cases hq : lk H id with
        | none => rw [hq] at hk; cases hk
        | some k' => rw [hq] at hk; exact hk
      exact blkLt_den ((List.all_eq_true.1 c3) _ (lk_mem hk')) (hH id b k (cut_some hb).2 hk') cut_to
  have fin' : ∀ S' β' a' x', fin P fn.results.toList n v wr nm S' → Nx n S'.W (cut β n) x β' x' → Rep β' S' a' x' →
      a'.defers = [] ∧ ∃ y, (results fn a'.tmps).run P x' = .ok y x' ∧ ∃ y' β'', Ending.returned y = .returned y' ∧ Done n nm.length β x wr v y' β'' x' := by
    intro S' β' a' x' hfin hN hR'
    unfold fin at hfin
    split at hfin
    · rename_i v' hv'
      split at hfin
      · rename_i v'' hv''
        obtain ⟨hle, hwr⟩ := hfin
        split at hwr
        · rename_i hwck
          obtain ⟨y, hy, hyd⟩ := resV_sound hR' hv'
          obtain ⟨β₂, hβ₂⟩ : ∃ g : Bt, g = ⟨fun id => if id < n then β id else if id < n + nm.length then (match nm[id - n]? with | some j => β' j | none => none) else β id,
            fun id => if id < n then β.c id else if id < n + nm.length then (match nm[id - n]? with | some j => β'.c j | none => none) else β.c id⟩ := ⟨_, rfl⟩
          refine ⟨hR'.defs, y, hy, y, β₂, rfl, ?_⟩
          have b1 : ∀ id, id < n → β₂ id = β id := fun id hi => by rw [hβ₂]; exact if_pos hi
          have d1 : ∀ id, id < n → β₂.c id = β.c id := fun id hi => by rw [hβ₂]; exact if_pos hi
          have b2 : ∀ q j, nm[q]? = some j → β₂ (n + q) = β' j := fun q j hq => by
            have hql : q < nm.length := (List.getElem?_eq_some_iff.1 hq).1
            rw [hβ₂]
            show (if n + q < n then _ else _) = _
            rw [if_neg (by omega), if_pos (by omega), show n + q - n = q by omega, hq]
          have d2 : ∀ q j, nm[q]? = some j → β₂.c (n + q) = β'.c j := fun q j hq => by
            have hql : q < nm.length := (List.getElem?_eq_some_iff.1 hq).1
            rw [hβ₂]
            show (if n + q < n then _ else _) = _
            rw [if_neg (by omega), if_pos (by omega), show n + q - n = q by omega, hq]
          have b3 : ∀ id, n + nm.length ≤ id → β₂ id = β id := fun id hi => by
            rw [hβ₂]; show (if id < n then _ else _) = _; rw [if_neg (by omega), if_neg (by omega)]
          have d3 : ∀ id, n + nm.length ≤ id → β₂.c id = β.c id := fun id hi => by
            rw [hβ₂]; show (if id < n then _ else _) = _; rw [if_neg (by omega), if_neg (by omega)]
          have b4 : ∀ id, id < n → β' id = β id := fun id hi => (hN.old id hi).trans (cut_lt hi)
          have d4 : ∀ id, id < n → β'.c id = β.c id := fun id hi => (hN.oldc id hi).trans (cut_ltc hi)
          have hnmge : ∀ q j, nm[q]? = some j → n ≤ j := fun q j hq => Nat.le_of_ble_eq_true ((List.all_eq_true.1 c5) j (List.mem_of_getElem? hq))
          have hnew : ∀ q j b, nm[q]? = some j → β' j = some b → x.heap.size ≤ b := fun q j b hq hb => by
            rcases hN.new j b hb with ⟨h1, _⟩ | ⟨_, h2 | ⟨i, h2, h3⟩⟩
            · have := hnmge q j hq; omega
            · exact h2
            · have := (cut_some h3).1; omega
          -- where a name of β₂ comes from
          have src : ∀ id b, β₂ id = some b → (β id = some b ∧ (id < n ∨ n + nm.length ≤ id)) ∨ (∃ q j, nm[q]? = some j ∧ id = n + q ∧ β' j = some b) := fun id b hb => by
            by_cases h1 : id < n
            · rw [b1 id h1] at hb; exact .inl ⟨hb, .inl h1⟩
            · by_cases h2 : id < n + nm.length
              · have hq : nm[id - n]? = some nm[id - n] := List.getElem?_eq_getElem (by omega)
                have := b2 (id - n) _ hq
                rw [show n + (id - n) = id by omega] at this
                rw [this] at hb
                exact .inr ⟨id - n, _, hq, by omega, hb⟩
              · rw [b3 id (by omega)] at hb; exact .inl ⟨hb, .inr (by omega)⟩
          have hrn : RnTo (rnId n 0 nm) β' β₂ := ⟨fun i j b hi hb => by
            rcases rnId_spec hi with ⟨e, hl⟩ | ⟨q, hq, e⟩
            · rw [e, b1 i hl, ← b4 i hl]; exact hb
            · rw [e, show n + (0 + q) = n + q by omega, b2 q i hq]; exact hb, fun i j b hi hb => by
            rcases rnId_spec hi with ⟨e, hl⟩ | ⟨q, hq, e⟩
            · rw [e, d1 i hl, ← d4 i hl]; exact hb
            · rw [e, show n + (0 + q) = n + q by omega, d2 q i hq]; exact hb⟩
          refine ⟨hle β₂ y (sv_rn hrn hv'' hyd), ⟨fun id b hb => ?_, fun id b hb => ?_⟩, fun id b hb => ?_, fun id v hv => ?_, fun i j b hi hj => ?_, fun i b hb => ?_, hN.os, hN.tape, hN.output, hN.size, fun k hk hne => ?_, fun id b k hb hk => ?_⟩
          · by_cases h1 : id < n
            · rw [b1 id h1]; exact hb
            · by_cases h2 : id < n + nm.length
              · rw [(hnone id (by omega) h2).1] at hb; cases hb
              · rw [b3 id (by omega)]; exact hb
          · by_cases h1 : id < n
            · rw [d1 id h1]; exact hb
            · by_cases h2 : id < n + nm.length
              · rw [(hnone id (by omega) h2).2] at hb; cases hb
              · rw [d3 id (by omega)]; exact hb
          · rcases src id b hb with ⟨h1, _⟩ | ⟨q, j, hq, e, hb'⟩
            · exact .inl h1
            · have hql : q < nm.length := (List.getElem?_eq_some_iff.1 hq).1
              exact .inr ⟨by omega, by omega, hnew q j b hq hb'⟩
          · by_cases h1 : id < n
            · rw [d1 id h1] at hv; exact .inl hv
            · by_cases h2 : id < n + nm.length
              · exact .inr ⟨by omega, h2⟩
              · rw [d3 id (by omega)] at hv; exact .inl hv
          · rcases src i b hi with ⟨h1, _⟩ | ⟨q, j1, hq, e, hb'⟩
            · rcases src j b hj with ⟨k1, _⟩ | ⟨q', j2, hq', e', hb''⟩
              · exact hinj i j b h1 k1
              · have := hnew q' j2 b hq' hb''; have := hlt i b h1; omega
            · rcases src j b hj with ⟨k1, _⟩ | ⟨q', j2, hq', e', hb''⟩
              · have := hnew q j1 b hq hb'; have := hlt j b k1; omega
              · have hjj := hR'.inj j1 j2 b hb' hb''
                subst hjj
                have := nodup_inj c6 hq hq'
                omega
          · rcases src i b hb with ⟨h1, _⟩ | ⟨q, j, hq, e, hb'⟩
            · exact Nat.lt_of_lt_of_le (hlt i b h1) hN.size
            · exact (hR'.lt j b hb').1
          · refine hN.keep k hk fun id hid => ⟨(cut_some hid).1, fun hw => ?_⟩
            have := (List.all_eq_true.1 hwck) id hw
            simp only [Bool.or_eq_true] at this
            rcases this with h1 | h1
            · have := Nat.le_of_ble_eq_true h1; have := (cut_some hid).1; omega
            · rw [hne id (cut_some hid).2] at h1; cases h1
          · obtain ⟨k', h1, h2⟩ := wrs_spec hwr hk
            have hidlt : id < n + nm.length := Nat.le_of_ble_eq_true ((List.all_eq_true.1 c4) _ (lk_mem hk))
            have hb' : β' (srcId n nm id) = some b := by
              unfold srcId
              rcases src id b hb with ⟨q1, q2⟩ | ⟨q, j, hq, e, hb'⟩
              · rcases q2 with q2 | q2
                · have : Nat.blt id n = true := Nat.ble_eq_true_of_le q2
                  rw [this]; simp only; rw [b4 id q2]; exact q1
                · omega
              · have : Nat.blt id n = false := by
                  cases hbb : Nat.blt id n with
                  | false => rfl
                  | true => have := Nat.le_of_ble_eq_true hbb; omega
                rw [this]; simp only
                rw [e, show n + q - n = q by omega, List.getD, hq]
                exact hb'
            exact h2 β' β₂ x' b hrn (hR'.blk _ b k' hb' h1)
        · exact hwr.elim
      · exact hfin.elim
    · exact hfin.elim
  refine calls_of_wp hf hb (wp_mono (h (cut β n) _ x hR (fun p hp v hv => hdc p hp v (cut_somec hv).2) (fun p hp => Nat.le_of_ble_eq_true ((List.all_eq_true.1 hD) p hp))) ?_)
  rintro e a' x' ⟨S', β', hk, h1, _, h3, h4⟩
  cases e with
  | normal => exact fin' S' β' a' x' hk h3 h4
  | ret => exact fin' S' β' a' x' hk h3 h4
  | exit i => exact hk.elim
  | goto i => exact hk.elim
  | panic i => exact hk.elim
  | outgrown => exact hk.elim

set_option maxHeartbeats 1000000 in
theorem fin_done {P : Program} {fn : Func} {args : List SV} {H : List (Nat × Blk)} {n : Nat} {v : SV} {wr : List (Nat × Blk)} {nm : List Nat} {β : Bt} {x : World} (hck : inck args H n fn.ntmps wr nm = true)
    (hinj : ∀ i j b, β i = some b → β j = some b → i = j) (hlt : ∀ i b, β i = some b → b < x.heap.size) (hnone : ∀ id, n ≤ id → id < n + nm.length → β id = none ∧ β.c id = none) :
    ∀ S' β' a' x', fin P fn.results.toList n v wr nm S' → Nx n S'.W (cut β n) x β' x' → Rep β' S' a' x' →
      a'.defers = [] ∧ ∃ y, (results fn a'.tmps).run P x' = .ok y x' ∧ ∃ y' β'', Ending.returned y = .returned y' ∧ Done n nm.length β x wr v y' β'' x' := by
  simp only [inck, Bool.and_eq_true] at hck
  obtain ⟨c1, c2, c3, c4, c5, c6⟩ := hck

  intro S' β' a' x' hfin hN hR'
  unfold fin at hfin
  split at hfin
  · rename_i v' hv'
    split at hfin
    · rename_i v'' hv''
      obtain ⟨hle, hwr⟩ := hfin
      split at hwr
      · rename_i hwck
        obtain ⟨y, hy, hyd⟩ := resV_sound hR' hv'
        obtain ⟨β₂, hβ₂⟩ : ∃ g : Bt, g = ⟨fun id => if id < n then β id else if id < n + nm.length then (match nm[id - n]? with | some j => β' j | none => none) else β id,
          fun id => if id < n then β.c id else if id < n + nm.length then (match nm[id - n]? with | some j => β'.c j | none => none) else β.c id⟩ := ⟨_, rfl⟩
        refine ⟨hR'.defs, y, hy, y, β₂, rfl, ?_⟩
        have b1 : ∀ id, id < n → β₂ id = β id := fun id hi => by rw [hβ₂]; exact if_pos hi
        have d1 : ∀ id, id < n → β₂.c id = β.c id := fun id hi => by rw [hβ₂]; exact if_pos hi
        have b2 : ∀ q j, nm[q]? = some j → β₂ (n + q) = β' j := fun q j hq => by
          have hql : q < nm.length := (List.getElem?_eq_some_iff.1 hq).1
          rw [hβ₂]
          show (if n + q < n then _ else _) = _
          rw [if_neg (by omega), if_pos (by omega), show n + q - n = q by omega, hq]
        have d2 : ∀ q j, nm[q]? = some j → β₂.c (n + q) = β'.c j := fun q j hq => by
          have hql : q < nm.length := (List.getElem?_eq_some_iff.1 hq).1
          rw [hβ₂]
          show (if n + q < n then _ else _) = _
          rw [if_neg (by omega), if_pos (by omega), show n + q - n = q by omega, hq]
        have b3 : ∀ id, n + nm.length ≤ id → β₂ id = β id := fun id hi => by
          rw [hβ₂]; show (if id < n then _ else _) = _; rw [if_neg (by omega), if_neg (by omega)]
        have d3 : ∀ id, n + nm.length ≤ id → β₂.c id = β.c id := fun id hi => by
          rw [hβ₂]; show (if id < n then _ else _) = _; rw [if_neg (by omega), if_neg (by omega)]
        have b4 : ∀ id, id < n → β' id = β id := fun id hi => (hN.old id hi).trans (cut_lt hi)
        have d4 : ∀ id, id < n → β'.c id = β.c id := fun id hi => (hN.oldc id hi).trans (cut_ltc hi)
        have hnmge : ∀ q j, nm[q]? = some j → n ≤ j := fun q j hq => Nat.le_of_ble_eq_true ((List.all_eq_true.1 c5) j (List.mem_of_getElem? hq))
        have hnew : ∀ q j b, nm[q]? = some j → β' j = some b → x.heap.size ≤ b := fun q j b hq hb => by
          rcases hN.new j b hb with ⟨h1, _⟩ | ⟨_, h2 | ⟨i, h2, h3⟩⟩
          · have := hnmge q j hq; omega
          · exact h2
          · have := (cut_some h3).1; omega
        -- where a name of β₂ comes from
        have src : ∀ id b, β₂ id = some b → (β id = some b ∧ (id < n ∨ n + nm.length ≤ id)) ∨ (∃ q j, nm[q]? = some j ∧ id = n + q ∧ β' j = some b) := fun id b hb => by
          by_cases h1 : id < n
          · rw [b1 id h1] at hb; exact .inl ⟨hb, .inl h1⟩
          · by_cases h2 : id < n + nm.length
            · have hq : nm[id - n]? = some nm[id - n] := List.getElem?_eq_getElem (by omega)
              have := b2 (id - n) _ hq
              rw [show n + (id - n) = id by omega] at this
              rw [this] at hb
              exact .inr ⟨id - n, _, hq, by omega, hb⟩
            · rw [b3 id (by omega)] at hb; exact .inl ⟨hb, .inr (by omega)⟩
        have hrn : RnTo (rnId n 0 nm) β' β₂ := ⟨fun i j b hi hb => by
          rcases rnId_spec hi with ⟨e, hl⟩ | ⟨q, hq, e⟩
          · rw [e, b1 i hl, ← b4 i hl]; exact hb
          · rw [e, show n + (0 + q) = n + q by omega, b2 q i hq]; exact hb, fun i j b hi hb => by
          rcases rnId_spec hi with ⟨e, hl⟩ | ⟨q, hq, e⟩
          · rw [e, d1 i hl, ← d4 i hl]; exact hb
          · rw [e, show n + (0 + q) = n + q by omega, d2 q i hq]; exact hb⟩
        refine ⟨hle β₂ y (sv_rn hrn hv'' hyd), ⟨fun id b hb => ?_, fun id b hb => ?_⟩, fun id b hb => ?_, fun id v hv => ?_, fun i j b hi hj => ?_, fun i b hb => ?_, hN.os, hN.tape, hN.output, hN.size, fun k hk hne => ?_, fun id b k hb hk => ?_⟩
        · by_cases h1 : id < n
          · rw [b1 id h1]; exact hb
          · by_cases h2 : id < n + nm.length
            · rw [(hnone id (by omega) h2).1] at hb; cases hb
            · rw [b3 id (by omega)]; exact hb
        · by_cases h1 : id < n
          · rw [d1 id h1]; exact hb
          · by_cases h2 : id < n + nm.length
            · rw [(hnone id (by omega) h2).2] at hb; cases hb
            · rw [d3 id (by omega)]; exact hb
        · rcases src id b hb with ⟨h1, _⟩ | ⟨q, j, hq, e, hb'⟩
          · exact .inl h1
          · have hql : q < nm.length := (List.getElem?_eq_some_iff.1 hq).1
            exact .inr ⟨by omega, by omega, hnew q j b hq hb'⟩
        · by_cases h1 : id < n
          · rw [d1 id h1] at hv; exact .inl hv
          · by_cases h2 : id < n + nm.length
            · exact .inr ⟨by omega, h2⟩
            · rw [d3 id (by omega)] at hv; exact .inl hv
        · rcases src i b hi with ⟨h1, _⟩ | ⟨q, j1, hq, e, hb'⟩
          · rcases src j b hj with ⟨k1, _⟩ | ⟨q', j2, hq', e', hb''⟩
            · exact hinj i j b h1 k1
            · have := hnew q' j2 b hq' hb''; have := hlt i b h1; omega
          · rcases src j b hj with ⟨k1, _⟩ | ⟨q', j2, hq', e', hb''⟩
            · have := hnew q j1 b hq hb'; have := hlt j b k1; omega
            · have hjj := hR'.inj j1 j2 b hb' hb''
              subst hjj
              have := nodup_inj c6 hq hq'
              omega
        · rcases src i b hb with ⟨h1, _⟩ | ⟨q, j, hq, e, hb'⟩
          · exact Nat.lt_of_lt_of_le (hlt i b h1) hN.size
          · exact (hR'.lt j b hb').1
        · refine hN.keep k hk fun id hid => ⟨(cut_some hid).1, fun hw => ?_⟩
          have := (List.all_eq_true.1 hwck) id hw
          simp only [Bool.or_eq_true] at this
          rcases this with h1 | h1
          · have := Nat.le_of_ble_eq_true h1; have := (cut_some hid).1; omega
          · rw [hne id (cut_some hid).2] at h1; cases h1
        · obtain ⟨k', h1, h2⟩ := wrs_spec hwr hk
          have hidlt : id < n + nm.length := Nat.le_of_ble_eq_true ((List.all_eq_true.1 c4) _ (lk_mem hk))
          have hb' : β' (srcId n nm id) = some b := by
            unfold srcId
            rcases src id b hb with ⟨q1, q2⟩ | ⟨q, j, hq, e, hb'⟩
            · rcases q2 with q2 | q2
              · have : Nat.blt id n = true := Nat.ble_eq_true_of_le q2
                rw [this]; simp only; rw [b4 id q2]; exact q1
              · omega
            · have : Nat.blt id n = false := by
                cases hbb : Nat.blt id n with
                | false => rfl
                | true => have := Nat.le_of_ble_eq_true hbb; omega
              rw [this]; simp only
              rw [e, show n + q - n = q by omega, List.getD, hq]
              exact hb'
          exact h2 β' β₂ x' b hrn (hR'.blk _ b k' hb' h1)
      · exact hwr.elim
    · exact hfin.elim
  · exact hfin.elim
set_option maxHeartbeats 1000000 in
theorem call_ok2 {P : Program} {cx : Cz} (hm : P.follows .mixedOrders = true) (N1 : Nat) {f : Nat} {fn : Func} {body : Code} (hf : P.funcs[f]? = some fn) (hb : fn.body = some body) (hent : Enters P f)
    {args : List SV} {H : List (Nat × Blk)} {n : Nat} {v : SV} {wr : List (Nat × Blk)} {nm nm2 : List Nat} (hck : inck args H n fn.ntmps wr nm = true) (hck2 : inck args H n fn.ntmps wr nm2 = true) (hl : nm2.length = nm.length) (h : ev P cx body (st0 args H n fn.ntmps) fun e S => match Nat.beq S.n N1 with | true => finK P fn.results.toList n v wr nm e S | false => finK P fn.results.toList n v wr nm2 e S) : CallOK P f args H n v wr nm.length := by
  refine ⟨hent, fun β x vals hd hinj hlt hnone hH _ => ?_⟩
  have hck0 := hck
  simp only [inck, Bool.and_eq_true] at hck
  obtain ⟨c1, c2, c3, c4, c5, c6⟩ := hck
  have c1 := Nat.le_of_ble_eq_true c1
  have hd' := ltN_all (cut_to (n := n)) c2 hd
  have hdl := hd.length
  have hR : Rep (cut β n) (st0 args H n fn.ntmps) { tmps := vals.toArray ++ Array.replicate (fn.ntmps - vals.toArray.size) undef, defers := [] } x := by
    refine ⟨fun t => ?_, by simp [st0]; omega, rfl, fun id b k hb hk => ?_, fun i j b hi hj => hinj i j b (cut_some hi).2 (cut_some hj).2, fun i b hb => ⟨hlt i b (cut_some hb).2, (cut_some hb).1⟩, fun i v hv => (cut_somec hv).1, Nat.le_refl _⟩
    · show SV.den _ (match lk (numb 0 args) t with | some v => v | none => .u) _
      cases hq : lk (numb 0 args) t with
      | none => trivial
      | some s =>
        obtain ⟨_, hs⟩ := lk_numb hq
        obtain ⟨y, hy, hyd⟩ := hd'.get hs
        have hlt' : t < vals.length := (List.getElem?_eq_some_iff.1 hy).1
        have : Act.eval { tmps := vals.toArray ++ Array.replicate (fn.ntmps - vals.toArray.size) undef, defers := [] } (.tmp t) = y := by
          show (vals.toArray ++ Array.replicate (fn.ntmps - vals.toArray.size) undef).getD t undef = y
          rw [Array.getD_eq_getD_getElem?, Array.getElem?_append_left (by simpa using hlt')]
          have hy' : vals[t]? = some y := by simpa using hy
          simp [hy']
        rw [this]; exact hyd
    · have hk' : lk H id = some k := by
        have : (st0 args H n fn.ntmps).blk id = match lk (H.map fun p => (p.1, some p.2)) id with | some b => b | none => none := rfl
        rw [this, lk_map] at hk
        cases hq : lk H id with
        | none => rw [hq] at hk; cases hk
        | some k' => rw [hq] at hk; exact hk
      exact blkLt_den ((List.all_eq_true.1 c3) _ (lk_mem hk')) (hH id b k (cut_some hb).2 hk') cut_to
  refine calls_of_wp hf hb (wp_mono (ev_sound hm body _ _ h (cut β n) _ x hR) ?_)
  have hnone2 : ∀ id, n ≤ id → id < n + nm2.length → β id = none ∧ β.c id = none := fun id h1 h2 => hnone id h1 (by omega)
  rintro e a' x' ⟨S', β', hk, h1, _, h3, h4⟩
  split at hk
  · cases e with
    | normal => exact fin_done hck0 hinj hlt hnone S' β' a' x' hk h3 h4
    | ret => exact fin_done hck0 hinj hlt hnone S' β' a' x' hk h3 h4
    | exit i => exact hk.elim
    | goto i => exact hk.elim
    | panic i => exact hk.elim
    | outgrown => exact hk.elim
  · cases e with
    | normal => have := fin_done hck2 hinj hlt hnone2 S' β' a' x' hk h3 h4; rw [hl] at this; exact this
    | ret => have := fin_done hck2 hinj hlt hnone2 S' β' a' x' hk h3 h4; rw [hl] at this; exact this
    | exit i => exact hk.elim
    | goto i => exact hk.elim
    | panic i => exact hk.elim
    | outgrown => exact hk.elim
/-- The end of a round, told by the number of names and by the second block that was written last. -/
theorem RoundTo.toH {P : Program} {c : Code} {n : Nat} {K : Exit → St → Prop} (N k2 : Nat) {h1 : Nat × Option Blk} {b2 : Option Blk} {E : List (Nat × SV)} {H : List (Nat × Option Blk)} {m q : Nat} {W : List Nat} (S : St) (hn : n ≤ S.n) (hb : wkB ⟨E, h1 :: (k2, b2) :: H, N, m, W, q⟩ S = true) (hE : wkE ⟨E, h1 :: (k2, b2) :: H, N, m, W, q⟩ S.n S.E) (hH : wkH ⟨E, h1 :: (k2, b2) :: H, N, m, W, q⟩ S.n S.H) (h : WPL P c S K) : RoundTo P c n K ⟨E, h1 :: (k2, b2) :: H, N, m, W, q⟩ := RoundTo.to S hn hb hE hH h
theorem RoundTo.reH {P : Program} {c : Code} {n : Nat} {K : Exit → St → Prop} (N k2 : Nat) {h1 : Nat × Option Blk} {b2 : Option Blk} {E : List (Nat × SV)} {H : List (Nat × Option Blk)} {m q : Nat} {W : List Nat} (l : List (Nat × Option Nat)) (S : St) (hb : wkBR l ⟨E, h1 :: (k2, b2) :: H, N, m, W, q⟩ S = true) (hE : wkER l ⟨E, h1 :: (k2, b2) :: H, N, m, W, q⟩ S.n S.E) (hH : wkHR l ⟨E, h1 :: (k2, b2) :: H, N, m, W, q⟩ S.n S.H) (h : WPL P c S K) : RoundTo P c n K ⟨E, h1 :: (k2, b2) :: H, N, m, W, q⟩ := RoundTo.re l S hb hE hH h
end Ab
end Go.Proofs.Ytpdckpifhniioaa
