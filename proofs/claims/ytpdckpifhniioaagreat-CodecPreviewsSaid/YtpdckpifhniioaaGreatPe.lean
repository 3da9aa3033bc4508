/- Part 5 of what CodecPreviews rests on. -/
import Derived.Lib.Builder
import Derived.Lib.UnsafeStr
import Derived.Lib.AppendStr
import Derived.Laws.Externs
import Derived.Deep.DeepCutAuto
import Derived.Test.YtpdckpifhniioaaGreatPa
import Derived.Test.YtpdckpifhniioaaGreatPc
import Derived.Test.YtpdckpifhniioaaGreatPd
section
set_option linter.unusedVariables false
namespace Go.Proofs.YtpdckpifhniioaaGreat
open Go.RowKit
namespace Ab
def dcsOf : List Tr → List (Nat × Nat × Bool)
  | [] => []
  | t :: l => t.e.dc ++ dcsOf l
theorem trace_bs {P : Program} {cx : Cy} {ops : List Oper} {n0 : Nat} (c0 : Nat → Option Nat) : ∀ (r : List Oper) (bs : List Bool) (S S' : St) (l : List Tr), trace P cx ops n0 r bs S = some (l, S') →
    (∀ p ∈ dcsOf l, ∀ v, c0 p.1 = some v → decide (p.2.1 ≤ v) = p.2.2) → TraceR P ops c0 n0 r S l S'
  | [], bs, S, S', l, h, hd => by
    simp only [trace, Option.some.injEq, Prod.mk.injEq] at h
    obtain ⟨rfl, rfl⟩ := h
    exact .nil _
  | o :: r, bs, S, S', l, h, hD => by
    unfold trace at h
    split at h
    · cases h
    · rename_i e he
      split at h
      · rename_i hdc
        split at h
        · rename_i hd hn
          split at h
          · rename_i l1 S1 ht
            cases h
            exact .cons (stepS he) hd hn (fun _ p hp => by rw [hdc] at hp; cases hp) (trace_bs c0 r bs _ _ _ ht fun p hp => hD p (by simp only [dcsOf]; exact List.mem_append_right _ hp))
          · cases h
        · cases h
      · rename_i id m hdc
        split at h
        · rename_i bs' hlt
          have hid : id < n0 := Nat.le_of_ble_eq_true hlt
          split at h
          · rename_i hd hn
            split at h
            · rename_i l1 S1 ht
              cases h
              refine .cons (stepS he) hd hn (fun _ p hp => ?_) (trace_bs c0 r bs' _ _ _ ht fun p hp => hD p (by simp only [dcsOf]; exact List.mem_append_right _ hp))
              refine ⟨?_, hD p (by simp only [dcsOf]; exact List.mem_append_left _ hp)⟩
              rw [hdc] at hp
              simp only [List.mem_singleton] at hp
              subst hp
              exact hid
            · cases h
          · cases h
        · rename_i bs' hlt
          have hid : id < n0 := Nat.le_of_ble_eq_true hlt
          split at h
          · cases h
          · rename_i e' he'
            split at h
            · rename_i hd hn
              split at h
              · rename_i l1 S1 ht
                cases h
                refine .cons (e := { e' with obs := (e'.dc = [(id, m, false)]) :: e'.obs }) (fun β a x Q ho hw hsl hrd hnew hdc => stepS he' β a x Q ho.2 hw hsl hrd hnew hdc) hd hn (fun ho p hp => ?_) (trace_bs c0 r bs' _ _ _ ht fun p hp => hD p (by simp only [dcsOf]; exact List.mem_append_right _ hp))
                refine ⟨?_, hD p (by simp only [dcsOf]; exact List.mem_append_left _ hp)⟩
                have hp : p ∈ e'.dc := hp
                rw [ho.1] at hp
                simp only [List.mem_singleton] at hp
                subst hp
                exact hid
              · cases h
            · cases h
        · cases h
      · cases h
def WPD (P : Program) (D : List (Nat × Nat × Bool)) (c : Code) (S : St) (K : Exit → St → Prop) : Prop := ∀ β a x, Rep β S a x → DcOK β D → (∀ p ∈ D, p.1 < S.q) → c.wp P (Post S β x K) a x
/-- Straight code; rb: the ways of a region's slices that grow. -/
def evD (P : Program) (cx : Cz) (rb : Nat → Option (List Bool)) (D : List (Nat × Nat × Bool)) : Code → St → (Exit → St → Prop) → Prop
  | .skip, S, K => K .normal S
  | .region id ops draw, S, K => match rb id, draw with
    | some bs, false => match trace P cx.toCy ops.toList S.n ops.toList bs S with
      | some (l, S') => dcsOf l = D ∧ obsT l (K .normal S')
      | none => Bad id 777
    | _, _ => regA id P cx.toCy ops.toList draw S (K .normal)
  | .seq c d, S, K => evD P cx rb D c S fun e S' => match e with | .normal => evD P cx rb D d S' K | e => K e S'
  | .ret, S, K => K .ret S
  | _, _, _ => False
theorem evD_sound {P : Program} {cx : Cz} {rb : Nat → Option (List Bool)} {D : List (Nat × Nat × Bool)} (hm : P.follows .mixedOrders = true) : ∀ (c : Code) (S : St) (K : Exit → St → Prop), evD P cx rb D c S K → WPD P D c S K
  | .skip, S, K, h => fun β a x hR _ _ => ev_sound (cx := cx) hm .skip S K h β a x hR
  | .ret, S, K, h => fun β a x hR _ _ => ev_sound (cx := cx) hm .ret S K h β a x hR
  | .region id ops draw, S, K, h => fun β a x hR hdc hq => by
    unfold evD at h
    split at h
    · rename_i bs _
      split at h
      · rename_i l S' ht
        obtain ⟨hl, h⟩ := h
        obtain ⟨ho, hk⟩ := obsT_iff.1 h
        have hT := trace_bs (P := P) β.c ops.toList bs S S' l ht (fun p hp v hv => hdc p (hl ▸ hp) v hv)
        obtain ⟨_, _, h3, h4⟩ := trace_mono hT
        refine wp_region ?_
        have := seq_ops (P := P) (Q := Post S β x K) ops.toList 0 S S' l a x β (fun j => by simp) hT (Nat.le_refl _) (fun _ _ _ h => h) ho hR (fun β' a' x' hN hR' => ⟨S', β', hk, h4.symm, fun i hi _ => h3 i hi, hN, hR'⟩)
        rw [List.range_eq_range']
        simpa using this
      · exact nomatch h
    · exact reg_sound hm h β a x hR
  | .seq c d, S, K, h => fun β a x hR hdc hq => by
    have h1 := evD_sound hm c S _ h
    refine wp_seq (wp_mono (h1 β a x hR hdc hq) ?_)
    rintro e a' x' ⟨S', β', k, h1, h2, h3, h4⟩
    cases e with
    | normal =>
      have hd' : DcOK β' D := fun p hp v hv => hdc p hp v (by rw [← h3.oldc p.1 (hq p hp)]; exact hv)
      exact wp_mono (evD_sound hm d S' K k β' a' x' h4 hd' (fun p hp => by rw [h1]; exact hq p hp)) (Post.chain h1 h2 h3)
    | exit i => exact ⟨S', β', k, h1, h2, h3, h4⟩
    | goto i => exact ⟨S', β', k, h1, h2, h3, h4⟩
    | ret => exact ⟨S', β', k, h1, h2, h3, h4⟩
    | panic i => exact ⟨S', β', k, h1, h2, h3, h4⟩
    | outgrown => exact ⟨S', β', k, h1, h2, h3, h4⟩
set_option maxHeartbeats 1000000 in
theorem call_okW {P : Program} {D : List (Nat × Nat × Bool)} {f : Nat} {fn : Func} {body : Code} (hf : P.funcs[f]? = some fn) (hb : fn.body = some body) (hent : Enters P f)
    {args : List SV} {H : List (Nat × Blk)} {n : Nat} {v : SV} {wr : List (Nat × Blk)} {nm : List Nat} (hck : inck args H n fn.ntmps wr nm = true) (hD : (D.all fun p => Nat.blt p.1 n) = true) (h : WPD P D body (st0 args H n fn.ntmps) (finK P fn.results.toList n v wr nm)) : CallOKd P f D args H n v wr nm.length := by
  refine ⟨hent, fun β x vals hd hinj hlt hnone hH hdc => ?_⟩
  simp only [inck, Bool.and_eq_true] at hck
  obtain ⟨c1, c2, c3, c4, c5, c6⟩ := hck
  have c1 := Nat.le_of_ble_eq_true c1
  have hd' := ltN_all (cut_to (n := n)) c2 hd
  have hdl := hd.length
  have hR : Rep (cut β n) (st0 args H n fn.ntmps) { tmps := vals.toArray ++ Array.replicate (fn.ntmps - vals.toArray.size) undef, defers := [] } x := by
    refine ⟨fun t => ?_, by simp [st0]; omega, rfl, fun id b k hb hk => ?_, fun i j b hi hj => hinj i j b (cut_some hi).2 (cut_some hj).2, fun i b hb => ⟨hlt i b (cut_some hb).2, (cut_some hb).1⟩, fun i v hv => (cut_somec hv).1, Nat.le_refl _⟩
    · show SV.den _ (match lk (numb 0 args) t with | some v => v | none => .u) _
      cases hq : lk (numb 0 args) t with
      | none => trivial
      | some s =>
        obtain ⟨_, hs⟩ := lk_numb hq
        obtain ⟨y, hy, hyd⟩ := hd'.get hs
        have hlt' : t < vals.length := (List.getElem?_eq_some_iff.1 hy).1
        have : Act.eval { tmps := vals.toArray ++ Array.replicate (fn.ntmps - vals.toArray.size) undef, defers := [] } (.tmp t) = y := by
          show (vals.toArray ++ Array.replicate (fn.ntmps - vals.toArray.size) undef).getD t undef = y
          rw [Array.getD_eq_getD_getElem?, Array.getElem?_append_left (by simpa using hlt')]
          have hy' : vals[t]? = some y := by simpa using hy
          simp [hy']
        rw [this]; exact hyd
    · have hk' : lk H id = some k := by
        have : (st0 args H n fn.ntmps).blk id = match lk (H.map fun p => (p.1, some p.2)) id with | some b => b | none => none := rfl
        rw [this, lk_map] at hk
        cases hq : lk H id with
        | none => rw [hq] at hk; cases hk
        | some k' => rw [hq] at hk; exact hk
      exact blkLt_den ((List.all_eq_true.1 c3) _ (lk_mem hk')) (hH id b k (cut_some hb).2 hk') cut_to
  have fin' : ∀ S' β' a' x', fin P fn.results.toList n v wr nm S' → Nx n S'.W (cut β n) x β' x' → Rep β' S' a' x' →
      a'.defers = [] ∧ ∃ y, (results fn a'.tmps).run P x' = .ok y x' ∧ ∃ y' β'', Ending.returned y = .returned y' ∧ Done n nm.length β x wr v y' β'' x' := by
    intro S' β' a' x' hfin hN hR'
    unfold fin at hfin
    split at hfin
    · rename_i v' hv'
      split at hfin
      · rename_i v'' hv''
        obtain ⟨hle, hwr⟩ := hfin
        split at hwr
        · rename_i hwck
          obtain ⟨y, hy, hyd⟩ := resV_sound hR' hv'
          obtain ⟨β₂, hβ₂⟩ : ∃ g : Bt, g = ⟨fun id => if id < n then β id else if id < n + nm.length then (match nm[id - n]? with | some j => β' j | none => none) else β id,
            fun id => if id < n then β.c id else if id < n + nm.length then (match nm[id - n]? with | some j => β'.c j | none => none) else β.c id⟩ := ⟨_, rfl⟩
          refine ⟨hR'.defs, y, hy, y, β₂, rfl, ?_⟩
          have b1 : ∀ id, id < n → β₂ id = β id := fun id hi => by rw [hβ₂]; exact if_pos hi
          have d1 : ∀ id, id < n → β₂.c id = β.c id := fun id hi => by rw [hβ₂]; exact if_pos hi
          have b2 : ∀ q j, nm[q]? = some j → β₂ (n + q) = β' j := fun q j hq => by
            have hql : q < nm.length := (List.getElem?_eq_some_iff.1 hq).1
            rw [hβ₂]
            show (if n + q < n then _ else _) = _
            rw [if_neg (by omega), if_pos (by omega), show n + q - n = q by omega, hq]
          have d2 : ∀ q j, nm[q]? = some j → β₂.c (n + q) = β'.c j := fun q j hq => by
            have hql : q < nm.length := (List.getElem?_eq_some_iff.1 hq).1
            rw [hβ₂]
            show (if n + q < n then _ else _) = _
            rw [if_neg (by omega), if_pos (by omega), show n + q - n = q by omega, hq]
          have b3 : ∀ id, n + nm.length ≤ id → β₂ id = β id := fun id hi => by
            rw [hβ₂]; show (if id < n then _ else _) = _; rw [if_neg (by omega), if_neg (by omega)]
          have d3 : ∀ id, n + nm.length ≤ id → β₂.c id = β.c id := fun id hi => by
            rw [hβ₂]; show (if id < n then _ else _) = _; rw [if_neg (by omega), if_neg (by omega)]
          have b4 : ∀ id, id < n → β' id = β id := fun id hi => (hN.old id hi).trans (cut_lt hi)
          have d4 : ∀ id, id < n → β'.c id = β.c id := fun id hi => (hN.oldc id hi).trans (cut_ltc hi)
          have hnmge : ∀ q j, nm[q]? = some j → n ≤ j := fun q j hq => Nat.le_of_ble_eq_true ((List.all_eq_true.1 c5) j (List.mem_of_getElem? hq))
          have hnew : ∀ q j b, nm[q]? = some j → β' j = some b → x.heap.size ≤ b := fun q j b hq hb => by
            rcases hN.new j b hb with ⟨h1, _⟩ | ⟨_, h2 | ⟨i, h2, h3⟩⟩
            · have := hnmge q j hq; omega
            · exact h2
            · have := (cut_some h3).1; omega
          -- where a name of β₂ comes from
          have src : ∀ id b, β₂ id = some b → (β id = some b ∧ (id < n ∨ n + nm.length ≤ id)) ∨ (∃ q j, nm[q]? = some j ∧ id = n + q ∧ β' j = some b) := fun id b hb => by
            by_cases h1 : id < n
            · rw [b1 id h1] at hb; exact .inl ⟨hb, .inl h1⟩
            · by_cases h2 : id < n + nm.length
              · have hq : nm[id - n]? = some nm[id - n] := List.getElem?_eq_getElem (by omega)
                have := b2 (id - n) _ hq
                rw [show n + (id - n) = id by omega] at this
                rw [this] at hb
                exact .inr ⟨id - n, _, hq, by omega, hb⟩
              · rw [b3 id (by omega)] at hb; exact .inl ⟨hb, .inr (by omega)⟩
          have hrn : RnTo (rnId n 0 nm) β' β₂ := ⟨fun i j b hi hb => by
            rcases rnId_spec hi with ⟨e, hl⟩ | ⟨q, hq, e⟩
            · rw [e, b1 i hl, ← b4 i hl]; exact hb
            · rw [e, show n + (0 + q) = n + q by omega, b2 q i hq]; exact hb, fun i j b hi hb => by
            rcases rnId_spec hi with ⟨e, hl⟩ | ⟨q, hq, e⟩
            · rw [e, d1 i hl, ← d4 i hl]; exact hb
            · rw [e, show n + (0 + q) = n + q by omega, d2 q i hq]; exact hb⟩
          refine ⟨hle β₂ y (sv_rn hrn hv'' hyd), ⟨fun id b hb => ?_, fun id b hb => ?_⟩, fun id b hb => ?_, fun id v hv => ?_, fun i j b hi hj => ?_, fun i b hb => ?_, hN.os, hN.tape, hN.output, hN.size, fun k hk hne => ?_, fun id b k hb hk => ?_⟩
          · by_cases h1 : id < n
            · rw [b1 id h1]; exact hb
            · by_cases h2 : id < n + nm.length
              · rw [(hnone id (by omega) h2).1] at hb; cases hb
              · rw [b3 id (by omega)]; exact hb
          · by_cases h1 : id < n
            · rw [d1 id h1]; exact hb
            · by_cases h2 : id < n + nm.length
              · rw [(hnone id (by omega) h2).2] at hb; cases hb
              · rw [d3 id (by omega)]; exact hb
          · rcases src id b hb with ⟨h1, _⟩ | ⟨q, j, hq, e, hb'⟩
            · exact .inl h1
            · have hql : q < nm.length := (List.getElem?_eq_some_iff.1 hq).1
              exact .inr ⟨by omega, by omega, hnew q j b hq hb'⟩
          · by_cases h1 : id < n
            · rw [d1 id h1] at hv; exact .inl hv
            · by_cases h2 : id < n + nm.length
              · exact .inr ⟨by omega, h2⟩
              · rw [d3 id (by omega)] at hv; exact .inl hv
          · rcases src i b hi with ⟨h1, _⟩ | ⟨q, j1, hq, e, hb'⟩
            · rcases src j b hj with ⟨k1, _⟩ | ⟨q', j2, hq', e', hb''⟩
              · exact hinj i j b h1 k1
              · have := hnew q' j2 b hq' hb''; have := hlt i b h1; omega
            · rcases src j b hj with ⟨k1, _⟩ | ⟨q', j2, hq', e', hb''⟩
              · have := hnew q j1 b hq hb'; have := hlt j b k1; omega
              · have hjj := hR'.inj j1 j2 b hb' hb''
                subst hjj
                have := nodup_inj c6 hq hq'
                omega
          · rcases src i b hb with ⟨h1, _⟩ | ⟨q, j, hq, e, hb'⟩
            · exact Nat.lt_of_lt_of_le (hlt i b h1) hN.size
            · exact (hR'.lt j b hb').1
          · refine hN.keep k hk fun id hid => ⟨(cut_some hid).1, fun hw => ?_⟩
            have := (List.all_eq_true.1 hwck) id hw
            simp only [Bool.or_eq_true] at this
            rcases this with h1 | h1
            · have := Nat.le_of_ble_eq_true h1; have := (cut_some hid).1; omega
            · rw [hne id (cut_some hid).2] at h1; cases h1
          · obtain ⟨k', h1, h2⟩ := wrs_spec hwr hk
            have hidlt : id < n + nm.length := Nat.le_of_ble_eq_true ((List.all_eq_true.1 c4) _ (lk_mem hk))
            have hb' : β' (srcId n nm id) = some b := by
              unfold srcId
              rcases src id b hb with ⟨q1, q2⟩ | ⟨q, j, hq, e, hb'⟩
              · rcases q2 with q2 | q2
                · have : Nat.blt id n = true := Nat.ble_eq_true_of_le q2
                  rw [this]; simp only; rw [b4 id q2]; exact q1
                · omega
              · have : Nat.blt id n = false := by
                  cases hbb : Nat.blt id n with
                  | false => rfl
                  | true => have := Nat.le_of_ble_eq_true hbb; omega
                rw [this]; simp only
                rw [e, show n + q - n = q by omega, List.getD, hq]
                exact hb'
            exact h2 β' β₂ x' b hrn (hR'.blk _ b k' hb' h1)
        · exact hwr.elim
      · exact hfin.elim
    · exact hfin.elim
  refine calls_of_wp hf hb (wp_mono (h (cut β n) _ x hR (fun p hp v hv => hdc p hp v (cut_somec hv).2) (fun p hp => Nat.le_of_ble_eq_true ((List.all_eq_true.1 hD) p hp))) ?_)
  rintro e a' x' ⟨S', β', hk, h1, _, h3, h4⟩
  cases e with
  | normal => exact fin' S' β' a' x' hk h3 h4
  | ret => exact fin' S' β' a' x' hk h3 h4
  | exit i => exact hk.elim
  | goto i => exact hk.elim
  | panic i => exact hk.elim
  | outgrown => exact hk.elim
set_option maxHeartbeats 1000000 in
theorem fin_done {P : Program} {fn : Func} {args : List SV} {H : List (Nat × Blk)} {n : Nat} {v : SV} {wr : List (Nat × Blk)} {nm : List Nat} {β : Bt} {x : World} (hck : inck args H n fn.ntmps wr nm = true)
    (hinj : ∀ i j b, β i = some b → β j = some b → i = j) (hlt : ∀ i b, β i = some b → b < x.heap.size) (hnone : ∀ id, n ≤ id → id < n + nm.length → β id = none ∧ β.c id = none) :
    ∀ S' β' a' x', fin P fn.results.toList n v wr nm S' → Nx n S'.W (cut β n) x β' x' → Rep β' S' a' x' →
      a'.defers = [] ∧ ∃ y, (results fn a'.tmps).run P x' = .ok y x' ∧ ∃ y' β'', Ending.returned y = .returned y' ∧ Done n nm.length β x wr v y' β'' x' := by
  simp only [inck, Bool.and_eq_true] at hck
  obtain ⟨c1, c2, c3, c4, c5, c6⟩ := hck
  intro S' β' a' x' hfin hN hR'
  unfold fin at hfin
  split at hfin
  · rename_i v' hv'
    split at hfin
    · rename_i v'' hv''
      obtain ⟨hle, hwr⟩ := hfin
      split at hwr
      · rename_i hwck
        obtain ⟨y, hy, hyd⟩ := resV_sound hR' hv'
        obtain ⟨β₂, hβ₂⟩ : ∃ g : Bt, g = ⟨fun id => if id < n then β id else if id < n + nm.length then (match nm[id - n]? with | some j => β' j | none => none) else β id,
          fun id => if id < n then β.c id else if id < n + nm.length then (match nm[id - n]? with | some j => β'.c j | none => none) else β.c id⟩ := ⟨_, rfl⟩
        refine ⟨hR'.defs, y, hy, y, β₂, rfl, ?_⟩
        have b1 : ∀ id, id < n → β₂ id = β id := fun id hi => by rw [hβ₂]; exact if_pos hi
        have d1 : ∀ id, id < n → β₂.c id = β.c id := fun id hi => by rw [hβ₂]; exact if_pos hi
        have b2 : ∀ q j, nm[q]? = some j → β₂ (n + q) = β' j := fun q j hq => by
          have hql : q < nm.length := (List.getElem?_eq_some_iff.1 hq).1
          rw [hβ₂]
          show (if n + q < n then _ else _) = _
          rw [if_neg (by omega), if_pos (by omega), show n + q - n = q by omega, hq]
        have d2 : ∀ q j, nm[q]? = some j → β₂.c (n + q) = β'.c j := fun q j hq => by
          have hql : q < nm.length := (List.getElem?_eq_some_iff.1 hq).1
          rw [hβ₂]
          show (if n + q < n then _ else _) = _
          rw [if_neg (by omega), if_pos (by omega), show n + q - n = q by omega, hq]
        have b3 : ∀ id, n + nm.length ≤ id → β₂ id = β id := fun id hi => by
          rw [hβ₂]; show (if id < n then _ else _) = _; rw [if_neg (by omega), if_neg (by omega)]
        have d3 : ∀ id, n + nm.length ≤ id → β₂.c id = β.c id := fun id hi => by
          rw [hβ₂]; show (if id < n then _ else _) = _; rw [if_neg (by omega), if_neg (by omega)]
        have b4 : ∀ id, id < n → β' id = β id := fun id hi => (hN.old id hi).trans (cut_lt hi)
        have d4 : ∀ id, id < n → β'.c id = β.c id := fun id hi => (hN.oldc id hi).trans (cut_ltc hi)
        have hnmge : ∀ q j, nm[q]? = some j → n ≤ j := fun q j hq => Nat.le_of_ble_eq_true ((List.all_eq_true.1 c5) j (List.mem_of_getElem? hq))
        have hnew : ∀ q j b, nm[q]? = some j → β' j = some b → x.heap.size ≤ b := fun q j b hq hb => by
          rcases hN.new j b hb with ⟨h1, _⟩ | ⟨_, h2 | ⟨i, h2, h3⟩⟩
          · have := hnmge q j hq; omega
          · exact h2
          · have := (cut_some h3).1; omega
        -- where a name of β₂ comes from
        have src : ∀ id b, β₂ id = some b → (β id = some b ∧ (id < n ∨ n + nm.length ≤ id)) ∨ (∃ q j, nm[q]? = some j ∧ id = n + q ∧ β' j = some b) := fun id b hb => by
          by_cases h1 : id < n
          · rw [b1 id h1] at hb; exact .inl ⟨hb, .inl h1⟩
          · by_cases h2 : id < n + nm.length
            · have hq : nm[id - n]? = some nm[id - n] := List.getElem?_eq_getElem (by omega)
              have := b2 (id - n) _ hq
              rw [show n + (id - n) = id by omega] at this
              rw [this] at hb
              exact .inr ⟨id - n, _, hq, by omega, hb⟩
            · rw [b3 id (by omega)] at hb; exact .inl ⟨hb, .inr (by omega)⟩
        have hrn : RnTo (rnId n 0 nm) β' β₂ := ⟨fun i j b hi hb => by
          rcases rnId_spec hi with ⟨e, hl⟩ | ⟨q, hq, e⟩
          · rw [e, b1 i hl, ← b4 i hl]; exact hb
          · rw [e, show n + (0 + q) = n + q by omega, b2 q i hq]; exact hb, fun i j b hi hb => by
          rcases rnId_spec hi with ⟨e, hl⟩ | ⟨q, hq, e⟩
          · rw [e, d1 i hl, ← d4 i hl]; exact hb
          · rw [e, show n + (0 + q) = n + q by omega, d2 q i hq]; exact hb⟩
        refine ⟨hle β₂ y (sv_rn hrn hv'' hyd), ⟨fun id b hb => ?_, fun id b hb => ?_⟩, fun id b hb => ?_, fun id v hv => ?_, fun i j b hi hj => ?_, fun i b hb => ?_, hN.os, hN.tape, hN.output, hN.size, fun k hk hne => ?_, fun id b k hb hk => ?_⟩
        · by_cases h1 : id < n
          · rw [b1 id h1]; exact hb
          · by_cases h2 : id < n + nm.length
            · rw [(hnone id (by omega) h2).1] at hb; cases hb
            · rw [b3 id (by omega)]; exact hb
        · by_cases h1 : id < n
          · rw [d1 id h1]; exact hb
          · by_cases h2 : id < n + nm.length
            · rw [(hnone id (by omega) h2).2] at hb; cases hb
            · rw [d3 id (by omega)]; exact hb
        · rcases src id b hb with ⟨h1, _⟩ | ⟨q, j, hq, e, hb'⟩
          · exact .inl h1
          · have hql : q < nm.length := (List.getElem?_eq_some_iff.1 hq).1
            exact .inr ⟨by omega, by omega, hnew q j b hq hb'⟩
        · by_cases h1 : id < n
          · rw [d1 id h1] at hv; exact .inl hv
          · by_cases h2 : id < n + nm.length
            · exact .inr ⟨by omega, h2⟩
            · rw [d3 id (by omega)] at hv; exact .inl hv
        · rcases src i b hi with ⟨h1, _⟩ | ⟨q, j1, hq, e, hb'⟩
          · rcases src j b hj with ⟨k1, _⟩ | ⟨q', j2, hq', e', hb''⟩
            · exact hinj i j b h1 k1
            · have := hnew q' j2 b hq' hb''; have := hlt i b h1; omega
          · rcases src j b hj with ⟨k1, _⟩ | ⟨q', j2, hq', e', hb''⟩
            · have := hnew q j1 b hq hb'; have := hlt j b k1; omega
            · have hjj := hR'.inj j1 j2 b hb' hb''
              subst hjj
              have := nodup_inj c6 hq hq'
              omega
        · rcases src i b hb with ⟨h1, _⟩ | ⟨q, j, hq, e, hb'⟩
          · exact Nat.lt_of_lt_of_le (hlt i b h1) hN.size
          · exact (hR'.lt j b hb').1
        · refine hN.keep k hk fun id hid => ⟨(cut_some hid).1, fun hw => ?_⟩
          have := (List.all_eq_true.1 hwck) id hw
          simp only [Bool.or_eq_true] at this
          rcases this with h1 | h1
          · have := Nat.le_of_ble_eq_true h1; have := (cut_some hid).1; omega
          · rw [hne id (cut_some hid).2] at h1; cases h1
        · obtain ⟨k', h1, h2⟩ := wrs_spec hwr hk
          have hidlt : id < n + nm.length := Nat.le_of_ble_eq_true ((List.all_eq_true.1 c4) _ (lk_mem hk))
          have hb' : β' (srcId n nm id) = some b := by
            unfold srcId
            rcases src id b hb with ⟨q1, q2⟩ | ⟨q, j, hq, e, hb'⟩
            · rcases q2 with q2 | q2
              · have : Nat.blt id n = true := Nat.ble_eq_true_of_le q2
                rw [this]; simp only; rw [b4 id q2]; exact q1
              · omega
            · have : Nat.blt id n = false := by
                cases hbb : Nat.blt id n with
                | false => rfl
                | true => have := Nat.le_of_ble_eq_true hbb; omega
              rw [this]; simp only
              rw [e, show n + q - n = q by omega, List.getD, hq]
              exact hb'
          exact h2 β' β₂ x' b hrn (hR'.blk _ b k' hb' h1)
      · exact hwr.elim
    · exact hfin.elim
  · exact hfin.elim
set_option maxHeartbeats 1000000 in
theorem call_ok2 {P : Program} {cx : Cz} (hm : P.follows .mixedOrders = true) (N1 : Nat) {f : Nat} {fn : Func} {body : Code} (hf : P.funcs[f]? = some fn) (hb : fn.body = some body) (hent : Enters P f)
    {args : List SV} {H : List (Nat × Blk)} {n : Nat} {v : SV} {wr : List (Nat × Blk)} {nm nm2 : List Nat} (hck : inck args H n fn.ntmps wr nm = true) (hck2 : inck args H n fn.ntmps wr nm2 = true) (hl : nm2.length = nm.length) (h : ev P cx body (st0 args H n fn.ntmps) fun e S => match Nat.beq S.n N1 with | true => finK P fn.results.toList n v wr nm e S | false => finK P fn.results.toList n v wr nm2 e S) : CallOK P f args H n v wr nm.length := by
  refine ⟨hent, fun β x vals hd hinj hlt hnone hH _ => ?_⟩
  have hck0 := hck
  simp only [inck, Bool.and_eq_true] at hck
  obtain ⟨c1, c2, c3, c4, c5, c6⟩ := hck
  have c1 := Nat.le_of_ble_eq_true c1
  have hd' := ltN_all (cut_to (n := n)) c2 hd
  have hdl := hd.length
  have hR : Rep (cut β n) (st0 args H n fn.ntmps) { tmps := vals.toArray ++ Array.replicate (fn.ntmps - vals.toArray.size) undef, defers := [] } x := by
    refine ⟨fun t => ?_, by simp [st0]; omega, rfl, fun id b k hb hk => ?_, fun i j b hi hj => hinj i j b (cut_some hi).2 (cut_some hj).2, fun i b hb => ⟨hlt i b (cut_some hb).2, (cut_some hb).1⟩, fun i v hv => (cut_somec hv).1, Nat.le_refl _⟩
    · show SV.den _ (match lk (numb 0 args) t with | some v => v | none => .u) _
      cases hq : lk (numb 0 args) t with
      | none => trivial
      | some s =>
        obtain ⟨_, hs⟩ := lk_numb hq
        obtain ⟨y, hy, hyd⟩ := hd'.get hs
        have hlt' : t < vals.length := (List.getElem?_eq_some_iff.1 hy).1
        have : Act.eval { tmps := vals.toArray ++ Array.replicate (fn.ntmps - vals.toArray.size) undef, defers := [] } (.tmp t) = y := by
          show (vals.toArray ++ Array.replicate (fn.ntmps - vals.toArray.size) undef).getD t undef = y
          rw [Array.getD_eq_getD_getElem?, Array.getElem?_append_left (by simpa using hlt')]
          have hy' : vals[t]? = some y := by simpa using hy
          simp [hy']
        rw [this]; exact hyd
    · have hk' : lk H id = some k := by
        have : (st0 args H n fn.ntmps).blk id = match lk (H.map fun p => (p.1, some p.2)) id with | some b => b | none => none := rfl
        rw [this, lk_map] at hk
        cases hq : lk H id with
        | none => rw [hq] at hk; cases hk
        | some k' => rw [hq] at hk; exact hk
      exact blkLt_den ((List.all_eq_true.1 c3) _ (lk_mem hk')) (hH id b k (cut_some hb).2 hk') cut_to
  refine calls_of_wp hf hb (wp_mono (ev_sound hm body _ _ h (cut β n) _ x hR) ?_)
  have hnone2 : ∀ id, n ≤ id → id < n + nm2.length → β id = none ∧ β.c id = none := fun id h1 h2 => hnone id h1 (by omega)
  rintro e a' x' ⟨S', β', hk, h1, _, h3, h4⟩
  split at hk
  · cases e with
    | normal => exact fin_done hck0 hinj hlt hnone S' β' a' x' hk h3 h4
    | ret => exact fin_done hck0 hinj hlt hnone S' β' a' x' hk h3 h4
    | exit i => exact hk.elim
    | goto i => exact hk.elim
    | panic i => exact hk.elim
    | outgrown => exact hk.elim
  · cases e with
    | normal => have := fin_done hck2 hinj hlt hnone2 S' β' a' x' hk h3 h4; rw [hl] at this; exact this
    | ret => have := fin_done hck2 hinj hlt hnone2 S' β' a' x' hk h3 h4; rw [hl] at this; exact this
    | exit i => exact hk.elim
    | goto i => exact hk.elim
    | panic i => exact hk.elim
    | outgrown => exact hk.elim
theorem RoundTo.reH {P : Program} {c : Code} {n : Nat} {K : Exit → St → Prop} (N k2 : Nat) {h1 : Nat × Option Blk} {b2 : Option Blk} {E : List (Nat × SV)} {H : List (Nat × Option Blk)} {m q : Nat} {W : List Nat} (l : List (Nat × Option Nat)) (S : St) (hb : wkBR l ⟨E, h1 :: (k2, b2) :: H, N, m, W, q⟩ S = true) (hE : wkER l ⟨E, h1 :: (k2, b2) :: H, N, m, W, q⟩ S.n S.E) (hH : wkHR l ⟨E, h1 :: (k2, b2) :: H, N, m, W, q⟩ S.n S.H) (h : WPL P c S K) : RoundTo P c n K ⟨E, h1 :: (k2, b2) :: H, N, m, W, q⟩ := RoundTo.re l S hb hE hH h
end Ab
end Go.Proofs.YtpdckpifhniioaaGreat
end
section
set_option linter.unusedVariables false
namespace Go.Proofs.YtpdckpifhniioaaGreat.Oct
open Go.RowKit
open Go.Proofs.YtpdckpifhniioaaGreat
open Go.Lib (strCells)
theorem infoU8 : (Tryz.prog.info? 5).map (fun i => (i.zero, i.size, i.bytes)) = some (some (.int .u8 0), 1, 1) := by kernel_rfl
/-- A row of bytes lies in no block of another element type. -/
theorem row_ne {x : World} {B : Nat} {v : Value} {n : Nat} {xs : List Value} {g t : Nat} {c : Array Value} {fr : Nat × Nat} (h : x.ownsRow B 5 1 v n xs) (hg : x.heap[g]? = some (.cells c t fr)) (ht : t ≠ 5) : some g ≠ v.ownBlock := by
  rcases h.2 with ⟨rfl, _⟩ | ⟨k, cap, cur, rfl, _, hk, _⟩
  · simp [Value.ownBlock]
  · intro e
    have e : g = k := by simpa [Value.ownBlock] using e
    subst e
    rw [hg] at hk
    injection hk with hk
    injection hk with _ hk _
    exact ht hk
theorem own_mem {x : World} {B : Nat} {e : TypeId} {v : Value} {n : Nat} {xs : List Value} (h : x.ownsRow B e 1 v n xs) : ∃ o c, v = .slice o n c := by
  rcases h.2 with ⟨rfl, h0⟩ | ⟨g, cap, cur, rfl, _⟩
  · exact ⟨none, 0, by rw [h0]⟩
  · exact ⟨_, _, rfl⟩
theorem own_grow {w x : World} {B : Nat} {v : Value} {n : Nat} {xs : List Value} (h : w.ownsRow B 5 1 v n xs) (hg : Grow w x) : x.ownsRow B 5 1 v n xs := by
  obtain ⟨h1, h2⟩ := h
  refine ⟨h1, h2.imp id ?_⟩
  rintro ⟨g, cap, cur, e1, e2, e3, e4⟩
  exact ⟨g, cap, cur, e1, e2, hg.block e3, e4⟩
theorem sizeBld : (Tryz.prog.info? 101).map (·.size) = some 2 := by kernel_rfl
theorem liesBld : liesAt Tryz.prog Tryz.prog.depth 101 (2 / Tryz.prog.cellsOf 101) 0 101 1 = true := by kernel_rfl
set_option maxRecDepth 100000 in
set_option maxHeartbeats 1000000 in
theorem ck_used (b : Nat) (v : Value) (w : World) (h : w.heap[b]? = some (.cells #[.pointer (some ⟨b, 0, none⟩), v] 101 (0, 0))) :
    Calls Tryz.prog 110 #[.pointer (some ⟨b, 0, none⟩)] w fun e w' => e = .returned (.tuple #[]) ∧ w' = w := by
  obtain ⟨j, hj, _⟩ := Option.map_eq_some_iff.1 sizeBld
  have h0 : w.cell? ⟨b, 0, none⟩ = some (.pointer (some ⟨b, 0, none⟩)) := by rw [Lib.cell_of_heap h]; rfl
  go_enter Tryz.func110, Tryz.ntmps110
  go_wp2
  rw [Lib.run_neq_ptr_same w _ Tryz.underlying99 hj]
  go_wp2
  refine bodyPost_end (results_none rfl _ _ _) rfl ⟨rfl, rfl⟩
set_option maxRecDepth 100000 in
set_option maxHeartbeats 1000000 in
theorem ck_fresh (b : Nat) (v : Value) (w : World) (h : w.heap[b]? = some (.cells #[.pointer none, v] 101 (0, 0))) :
    Calls Tryz.prog 110 #[.pointer (some ⟨b, 0, none⟩)] w fun e w' => e = .returned (.tuple #[]) ∧ w' = w.setCell ⟨b, 0, none⟩ (.pointer (some ⟨b, 0, none⟩)) := by
  obtain ⟨j, hj, hjs⟩ := Option.map_eq_some_iff.1 sizeBld
  have h0 : w.cell? ⟨b, 0, none⟩ = some (.pointer none) := by rw [Lib.cell_of_heap h]; rfl
  have hfz : w.frozen? ⟨b, 0, none⟩ = false := Lib.frozen_of_heap h 0
  have hsh : w.shape? b = some (101, 2) := by simp [World.shape?, h]
  clear h
  go_enter Tryz.func110, Tryz.ntmps110
  go_wp2
  rw [Lib.run_to_unsafe w ⟨b, 0, none⟩ Tryz.underlying99 Tryz.underlying185 hj (by rw [hjs]; decide) hsh (Nat.zero_lt_succ 1)]
  simp only [Result.andThen]
  rw [Oper.upon_value]
  go_wp2
  rw [run_callFunc_extern Tryz.func145 (by kernel_rfl) (by kernel_rfl) (by kernel_rfl) (e := Extern.AbiNoEscape.same) (by kernel_rfl)]
  rw [Lib.run_noEscape]
  simp only [Result.andThen]
  rw [Oper.upon_value]
  go_wp2
  rw [Lib.run_from_unsafe w ⟨b, 0, none⟩ Tryz.underlying185 Tryz.underlying99 hj hsh liesBld]
  simp only [Result.andThen]
  rw [Oper.upon_value]
  go_wp2
  refine bodyPost_end (results_none rfl _ _ _) rfl ⟨rfl, rfl⟩
/-- The builder in block b holds the bytes l; its row lies behind it. -/
structure HB (b : Nat) (l : List UInt8) (w : World) : Prop where
  ex : ∃ p v, w.heap[b]? = some (.cells #[p, v] 101 (0, 0)) ∧ (p = .pointer none ∨ p = .pointer (some ⟨b, 0, none⟩)) ∧ w.ownsRow (b + 1) 5 1 v l.length (bvals l) ∧ (l = [] → v = .slice none 0 0)
theorem HB.below {b l w w'} (h : HB b l w) (k : Below w.heap.size w w') : HB b l w' := by
  obtain ⟨p, v, h1, h2, h3, h4⟩ := h.ex
  refine ⟨p, v, (show Grow w w' from k).block h1, h2, own_grow h3 k, h4⟩
/-- Every block but b that holds no bytes lies as it lay. -/
def Kp (b : Nat) (w w' : World) : Prop := ∀ k c t fr, w.heap[k]? = some (.cells c t fr) → t ≠ 5 → k ≠ b → w'.heap[k]? = w.heap[k]?
theorem strCells_bvals (s : ByteArray) : strCells s = bvals s.data.toList := by
  rfl
set_option maxRecDepth 100000 in
set_option maxHeartbeats 1000000 in
theorem wstr (b : Nat) (l : List UInt8) (s : ByteArray) (w : World) (h : HB b l w) (hl : l.length + s.size ≤ 100000000) :
    Calls Tryz.prog 47 #[.pointer (some ⟨b, 0, none⟩), .string s] w fun e w' => e = .returned (.tuple #[.int .i64 s.size, .nilIface]) ∧ HB b (l ++ s.data.toList) w' ∧ Below b w w' ∧ Kp b w w' := by
  obtain ⟨p, v, h1, h2, h3, h4⟩ := h.ex
  have hlt : b < w.heap.size := (Array.getElem?_eq_some_iff.1 h1).1
  have hck : Calls Tryz.prog 110 #[.pointer (some ⟨b, 0, none⟩)] w fun e w' => e = .returned (.tuple #[]) ∧ w'.heap[b]? = some (.cells #[.pointer (some ⟨b, 0, none⟩), v] 101 (0, 0)) ∧ w'.ownsRow (b + 1) 5 1 v l.length (bvals l) ∧ Below b w w' ∧ b < w'.heap.size ∧ Kp b w w' := by
    rcases h2 with rfl | rfl
    · refine (ck_fresh b v w h1).mono ?_
      rintro e w' ⟨rfl, rfl⟩
      refine ⟨rfl, ?_, ?_, (Below.refl b w).setCell (p := ⟨b, 0, none⟩) (Nat.le_refl _) _, by simpa [World.setCell] using hlt, fun k c t fr hk ht hne => heap_setCell_other _ _ _ _ hne⟩
      · simp [World.setCell, Array.getElem?_modify, h1]
      · refine h3.kept (row := some b) ⟨rfl, rfl, rfl, by simp [World.setCell], fun k _ hk => Below.heap_setCell _ _ _ _ (fun e => hk (by simp [e]))⟩ (Or.inr ?_)
        exact (row_ne h3 h1 (by decide)).symm
    · refine (ck_used b v w h1).mono ?_
      rintro e w' ⟨rfl, rfl⟩
      exact ⟨rfl, h1, h3, Below.refl b _, hlt, fun k c t fr hk ht hne => rfl⟩
  have HC := Lib.hid hck
  have HX := Lib.hid h4
  clear hck h1 h2 h3 h h4
  obtain ⟨iu, hiu, hz1, hz2, hz3⟩ := info_parts infoU8
  go_enter Tryz.func47, Tryz.ntmps47
  go_wp2_with fail
  refine HC.out.mono ?_
  rintro e W ⟨rfl, h1, h2, h3, h4, hkp⟩
  clear HC
  replace hkp := Lib.hid hkp
  have c1 : W.cell? ⟨b, 1, none⟩ = some v := by rw [Lib.cell_of_heap h1]; rfl
  replace h1 := Lib.hid h1
  replace h3 := Lib.hid h3
  have hml : l.length + s.size ≤ maxLen := by unfold maxLen; omega
  go_wp2_with (at_builtin; go_loud (refine Lib.wpList_append_own_string _ rfl _ _ 57 9 rfl (b + 1) 5 iu Tryz.underlying57 Tryz.underlying9 hiu hz1 hz2 hz3 _ _ _ rfl h2 s rfl hml (by omega) (by omega) ?_))
  intro v' W2 hown hgr hnil
  have hbl : Below (b + 1) W W2 := (Below.refl (b + 1) W).grown hgr (by omega) fun k hk => (h2.lt k hk).1
  have h12 : W2.heap[b]? = some (.cells #[.pointer (some ⟨b, 0, none⟩), v] 101 (0, 0)) := by rw [hbl.block b (by omega)]; exact h1.out
  have d1 : W2.cell? ⟨b, 1, none⟩ = some v := by rw [Lib.cell_of_heap h12]; rfl
  have f1 : W2.frozen? ⟨b, 1, none⟩ = false := Lib.frozen_of_heap h12 1
  obtain ⟨so, sc, hv⟩ := own_mem hown
  have hlen : (l ++ s.data.toList).length = l.length + s.size := by rw [List.length_append, Array.length_toList]; rfl
  have HN : Hid (l ++ s.data.toList = [] → v' = .slice none 0 0) := Lib.hid fun e => by
    have e1 : l = [] := (List.append_eq_nil_iff.1 e).1
    have e2 : s.data.toList = [] := (List.append_eq_nil_iff.1 e).2
    refine hnil.2 ⟨?_, ?_⟩
    · rcases h2.2 with ⟨hvv, _⟩ | ⟨g, cap, cur, hvv, q1, q2, q3, q4, q5, q6⟩
      · exact hvv
      · exact absurd (HX.out e1) (by rw [hvv]; simp)
    · have := congrArg List.length e2; simpa using this
  subst hv
  have HB2 : Hid (HB b (l ++ s.data.toList) (W2.setCell ⟨b, 1, none⟩ (.slice so (l.length + s.size) sc))) := by
    refine Lib.hid ⟨_, .slice so (l.length + s.size) sc, ?_, .inr rfl, ?_, HN.out⟩
    · simp [World.setCell, Array.getElem?_modify, h12]
    · rw [bvals_append, hlen, ← strCells_bvals]
      refine hown.kept (row := some b) ⟨rfl, rfl, rfl, by simp [World.setCell], fun k _ hk => Below.heap_setCell _ _ _ _ (fun e => hk (by simp [e]))⟩ (Or.inr ?_)
      exact (row_ne hown h12 (by decide)).symm
  have HW : Hid (Below b w (W2.setCell ⟨b, 1, none⟩ (.slice so (l.length + s.size) sc))) := by
    refine Lib.hid ((h3.out.trans ?_).setCell (p := ⟨b, 1, none⟩) (Nat.le_refl _) _)
    exact ⟨hbl.os, hbl.tape, hbl.output, hbl.size, fun k hk => hbl.block k (by omega)⟩
  have HK : Hid (Kp b w (W2.setCell ⟨b, 1, none⟩ (.slice so (l.length + s.size) sc))) := by
    refine Lib.hid fun k c t fr hk ht hne => ?_
    have e1 := hkp.out k c t fr hk ht hne
    have hk1 : W.heap[k]? = some (.cells c t fr) := e1.trans hk
    rw [heap_setCell_other _ _ _ _ hne, hgr.block k (Array.getElem?_eq_some_iff.1 hk1).1 (fun e => row_ne h2 hk1 ht e), e1]
  clear hown h12 hbl h1 h3 hgr hnil HN HX h2 hkp
  go_wp2
  go_ret2
  exact ⟨rfl, HB2.out, HW.out, HK.out⟩
/-- .. its row perhaps frozen. -/
structure HF (b : Nat) (l : List UInt8) (w : World) : Prop where
  ex : ∃ p v, w.heap[b]? = some (.cells #[p, v] 101 (0, 0)) ∧ ((l = [] ∧ v = .slice none 0 0) ∨ (l ≠ [] ∧ ∃ g cap cur fr, v = .slice (some ⟨g, 0, none⟩) l.length cap ∧ b + 1 ≤ g ∧ w.heap[g]? = some (.cells cur 5 fr) ∧ l.length ≤ cap ∧ cap ≤ maxLen ∧ cur.size = cap ∧ cur.toList.take l.length = bvals l))
theorem HF.grow {b l w w'} (h : HF b l w) (k : Grow w w') : HF b l w' := by
  obtain ⟨p, v, h1, h2⟩ := h.ex
  refine ⟨p, v, k.block h1, h2.imp id ?_⟩
  rintro ⟨h0, g, cap, cur, fr, r1, r2, r3, r4⟩
  exact ⟨h0, g, cap, cur, fr, r1, r2, k.block r3, r4⟩
theorem HB.hf {b l w} (h : HB b l w) : HF b l w := by
  obtain ⟨p, v, h1, h2, h3, h4⟩ := h.ex
  refine ⟨p, v, h1, ?_⟩
  by_cases h0 : l = []
  · exact .inl ⟨h0, h4 h0⟩
  · refine .inr ⟨h0, ?_⟩
    rcases h3.2 with ⟨_, hz⟩ | ⟨g, cap, cur, r1, r2, r3, r4, r5, r6, r7⟩
    · exact absurd (List.length_eq_zero_iff.1 hz) h0
    · exact ⟨g, cap, cur, (0, 0), r1, r2, r3, r4, r5, by omega, by simpa using r7⟩
theorem cellsU8 : Tryz.prog.cellsOf 5 = 1 := by kernel_rfl
theorem freeze_keeps {w : World} {g n : Nat} {cur : Array Value} {t fr} (hg : w.heap[g]? = some (.cells cur t fr)) : ∃ fr', (w.freeze ⟨g, 0, none⟩ n).heap[g]? = some (.cells cur t fr') := by
  unfold World.freeze
  split
  · exact ⟨fr, hg⟩
  · simp only [Array.getElem?_modify]
    simp [hg]
theorem freeze_other {w : World} {g n k : Nat} (h : k ≠ g) : (w.freeze ⟨g, 0, none⟩ n).heap[k]? = w.heap[k]? := by
  unfold World.freeze
  split
  · rfl
  · simp only [Array.getElem?_modify]
    simp [Ne.symm h]
set_option maxRecDepth 100000 in
set_option maxHeartbeats 1000000 in
theorem bstring (b : Nat) (l : List UInt8) (w : World) (h : HF b l w) :
    Calls Tryz.prog 54 #[.pointer (some ⟨b, 0, none⟩)] w fun e w' => e = .returned (.string ⟨l.toArray⟩) ∧ HF b l w' ∧ Below (b + 1) w w' ∧ Kp b w w' := by
  obtain ⟨p, v, h1, h2 | ⟨h0, g, cap, cur, fr, rfl, r2, r3, r4, r5, r6, r7⟩⟩ := h.ex
  · obtain ⟨rfl, rfl⟩ := h2
    have hf : HF b [] w.drew := ⟨h.ex⟩
    have c1 : w.drew.cell? ⟨b, 1, none⟩ = some (.slice none 0 0) := by
      have : w.drew.heap[b]? = some (.cells #[p, .slice none 0 0] 101 (0, 0)) := h1
      rw [Lib.cell_of_heap this]; rfl
    have hSD : (Builtin.unsafeSliceData_ #[57] 171 #[.slice none 0 0]).run Tryz.prog w.drew = .ok (.pointer none) w.drew := rfl
    have hUS : (Builtin.unsafeString_ #[171, 3] 9 #[.pointer none, .int .i64 0]).run Tryz.prog w.drew = .ok (.string .empty) w.drew := Lib.run_unsafeString_none _ _ _ _ _
    clear h h1
    go_enter Tryz.func54, Tryz.ntmps54
    go_wp2
    go_region
    all_goals (go_wp2; go_ret; exact ⟨rfl, hf, Below.drew (Below.refl _ w), fun k c t fr hk ht hne => rfl⟩)
  · have hl : 0 < l.length := by cases l with | nil => exact absurd rfl h0 | cons => simp
    have c1 : w.drew.cell? ⟨b, 1, none⟩ = some (.slice (some ⟨g, 0, none⟩) l.length cap) := by
      have : w.drew.heap[b]? = some (.cells #[p, .slice (some ⟨g, 0, none⟩) l.length cap] 101 (0, 0)) := h1
      rw [Lib.cell_of_heap this]; rfl
    have hSD : (Builtin.unsafeSliceData_ #[57] 171 #[.slice (some ⟨g, 0, none⟩) l.length cap]).run Tryz.prog w.drew = .ok (.pointer (some ⟨g, 0, none⟩)) w.drew :=
      Lib.run_unsafeSliceData_row _ _ _ _ _ _ (by omega)
    have hUS : (Builtin.unsafeString_ #[171, 3] 9 #[.pointer (some ⟨g, 0, none⟩), .int .i64 l.length]).run Tryz.prog w.drew = .ok (.string ⟨l.toArray⟩) (w.drew.freeze ⟨g, 0, none⟩ l.length) := by
      refine Lib.run_unsafeString_row w.drew 171 3 9 5 Tryz.underlying171 cellsU8 g cur.size (by have hg' : w.drew.heap[g]? = some (.cells cur 5 fr) := r3; simp [World.shape?, hg']) l h0 (by omega) (by unfold maxLen at r5; omega) ?_
      intro j x hx
      have hj : j < l.length := (List.getElem?_eq_some_iff.1 hx).1
      have hg' : w.drew.heap[g]? = some (.cells cur 5 fr) := r3
      have e : (⟨g, 0, none⟩ : Addr).add j = ⟨g, j, none⟩ := by unfold Addr.add; split <;> simp_all
      rw [e, Lib.cell_of_heap hg']
      have h3 : (cur.toList.take l.length)[j]? = some (.int .u8 x.toNat) := by rw [r7]; simp [bvals, hx]
      rw [List.getElem?_take, if_pos hj, Array.getElem?_toList] at h3
      exact h3
    have hf : HF b l (w.drew.freeze ⟨g, 0, none⟩ l.length) := by
      obtain ⟨fr', h5⟩ := freeze_keeps (w := w.drew) (n := l.length) r3
      refine ⟨p, _, ?_, .inr ⟨h0, g, cap, cur, fr', rfl, r2, h5, r4, r5, r6, r7⟩⟩
      rw [freeze_other (by omega)]; exact h1
    have HK : Hid (Kp b w (w.drew.freeze ⟨g, 0, none⟩ l.length)) := Lib.hid fun k c t fr' hk ht hne => by
      rw [freeze_other (fun e => by subst e; rw [r3] at hk; injection hk with hk; injection hk with _ hk _; exact ht hk.symm)]; rfl
    clear h h1 r3 r4 r5 r6 r7
    go_enter Tryz.func54, Tryz.ntmps54
    go_wp2
    go_region
    all_goals (go_wp2; go_ret; exact ⟨rfl, hf, Lib.below_freeze (Below.drew (Below.refl _ w)) (p := ⟨g, 0, none⟩) r2 _, HK.out⟩)
end Go.Proofs.YtpdckpifhniioaaGreat.Oct
end
section
set_option linter.unusedVariables false
namespace Go.Proofs.YtpdckpifhniioaaGreat
open Go.RowKit
namespace Ab
theorem enters110 : Enters Tryz.prog 110 := fun args w => by go_simp
theorem enters54 : Enters Tryz.prog 54 := fun args w => by go_simp
theorem blkE2 {β : Bt} {x : World} {b t : Nat} {l0 l1 : Leaf} (h : BlkAt β x b ⟨[l0, l1], .e t⟩) : ∃ y0 y1, x.heap[b]? = some (.cells #[y0, y1] t (0, 0)) ∧ l0.den β y0 ∧ l1.den β y1 := by
  rcases h with (⟨h, _⟩ | ⟨h, _⟩) | ⟨ys, zs, h1, h2, h3⟩
  · cases h
  · cases h
  have hz : zs = [] := by
    have : ys.length = (ys ++ zs).length := h3
    rw [List.length_append] at this
    exact List.eq_nil_of_length_eq_zero (by omega)
  subst hz
  match ys, h2 with
  | [y0, y1], ⟨d0, d1, _⟩ => exact ⟨y0, y1, by simpa [BT.ty, BT.fr] using h1, d0, d1⟩
  | [], h2 => exact h2.elim
  | [_], h2 => exact h2.2.elim
  | _ :: _ :: _ :: _, h2 => exact h2.2.2.elim
theorem mkE2 {β : Bt} {x : World} {b t : Nat} {l0 l1 : Leaf} {y0 y1 : Value} (h : x.heap[b]? = some (.cells #[y0, y1] t (0, 0))) (d0 : l0.den β y0) (d1 : l1.den β y1) : BlkAt β x b ⟨[l0, l1], .e t⟩ :=
  .inr ⟨[y0, y1], [], by simpa [BT.ty, BT.fr] using h, ⟨d0, d1, trivial⟩, rfl⟩
/-- A call that writes some named blocks and makes none. -/
theorem done_wr {n : Nat} {β : Bt} {x x' : World} {wr : List (Nat × Blk)} {v : SV} {y : Value} (hinj : ∀ i j b, β i = some b → β j = some b → i = j) (hlt : ∀ i b, β i = some b → b < x.heap.size) (hd : v.den β y)
    (h1 : x'.os = x.os) (h2 : x'.tape = x.tape) (h3 : x'.output = x.output) (hs : x.heap.size ≤ x'.heap.size) (hk : ∀ k, k < x.heap.size → (∀ id, β id = some k → lk wr id = none) → x'.heap[k]? = x.heap[k]?)
    (hb : ∀ id b k, β id = some b → lk wr id = some k → BlkAt β x' b k) : Done n 0 β x wr v y β x' :=
  ⟨hd, Ext.refl β, fun _ _ h => .inl h, fun _ _ h => .inl h, hinj, fun i b h => Nat.lt_of_lt_of_le (hlt i b h) hs, h1, h2, h3, hs, hk, hb⟩
theorem lk_one {k : Nat} {v : Blk} {i : Nat} {w : Blk} (h : lk [(k, v)] i = some w) : i = k ∧ w = v := by
  have := lk_mem h
  simp only [List.mem_singleton, Prod.mk.injEq] at this
  exact this
theorem C110f (id n : Nat) (lx : Leaf) : CallOK Tryz.prog 110 [.c (.l (.p id 0))] [(id, ⟨[.v (.pointer none), lx], .e 101⟩)] n (.tup []) [(id, ⟨[.p id 0, lx], .e 101⟩)] 0 := by
  refine ⟨enters110, fun β x vals hv hinj hlt hnew hH _ => ?_⟩
  match vals, hv with
  | [y], ⟨⟨b, hb, hy⟩, _⟩ =>
    subst hy
    obtain ⟨y0, y1, h1, d0, d1⟩ := blkE2 (hH id b _ hb (lk_cons_eq _ _ _))
    obtain ⟨d0, _⟩ := d0
    subst d0
    refine (Oct.ck_fresh b y1 x h1).mono ?_
    rintro e x' ⟨rfl, rfl⟩
    have hh : (x.setCell ⟨b, 0, none⟩ (.pointer (some ⟨b, 0, none⟩))).heap[b]? = some (.cells #[.pointer (some ⟨b, 0, none⟩), y1] 101 (0, 0)) := by
      rw [heap_setCell_same _ _ _ _ _ _ h1]; simp
    refine ⟨_, β, rfl, done_wr hinj hlt ⟨[], rfl, trivial⟩ rfl rfl rfl (by simp [World.setCell]) (fun k hk hne => heap_setCell_other _ _ _ _ (fun e => ?_)) (fun i c k hi hk => ?_)⟩
    · have e : k = b := e
      subst e
      have := hne id hb
      rw [lk_cons_eq] at this; cases this
    · obtain ⟨rfl, rfl⟩ := lk_one hk
      rw [hb] at hi; cases hi
      exact mkE2 hh ⟨b, hb, rfl⟩ d1
theorem C110u (id n : Nat) (lx : Leaf) : CallOK Tryz.prog 110 [.c (.l (.p id 0))] [(id, ⟨[.p id 0, lx], .e 101⟩)] n (.tup []) [(id, ⟨[.p id 0, lx], .e 101⟩)] 0 := by
  refine ⟨enters110, fun β x vals hv hinj hlt hnew hH _ => ?_⟩
  match vals, hv with
  | [y], ⟨⟨b, hb, hy⟩, _⟩ =>
    subst hy
    obtain ⟨y0, y1, h1, d0, d1⟩ := blkE2 (hH id b _ hb (lk_cons_eq _ _ _))
    obtain ⟨b', hb', d0⟩ := d0
    rw [hb] at hb'; cases hb'
    subst d0
    refine (Oct.ck_used b y1 x h1).mono ?_
    rintro e x' ⟨rfl, rfl⟩
    refine ⟨_, β, rfl, done_wr hinj hlt ⟨[], rfl, trivial⟩ rfl rfl rfl (Nat.le_refl _) (fun k hk hne => rfl) (fun i c k hi hk => ?_)⟩
    obtain ⟨rfl, rfl⟩ := lk_one hk
    rw [hb] at hi; cases hi
    exact mkE2 h1 ⟨b, hb, rfl⟩ d1
set_option maxRecDepth 100000 in
set_option maxHeartbeats 1000000 in
theorem bstr2 (b g cap : Nat) (p : Value) (l : List UInt8) (cur : Array Value) (fr : Nat × Nat) (w : World) (h1 : w.heap[b]? = some (.cells #[p, .slice (some ⟨g, 0, none⟩) l.length cap] 101 (0, 0))) (r3 : w.heap[g]? = some (.cells cur 5 fr))
    (h0 : l ≠ []) (hle : l.length ≤ cur.size) (hM : l.length ≤ 1000000000) (hcap : l.length ≤ cap) (r7 : cur.toList.take l.length = Oct.bvals l) :
    Calls Tryz.prog 54 #[.pointer (some ⟨b, 0, none⟩)] w fun e w' => e = .returned (.string ⟨l.toArray⟩) ∧ w' = w.drew.freeze ⟨g, 0, none⟩ l.length := by
  have hl : 0 < l.length := by cases l with | nil => exact absurd rfl h0 | cons => simp
  have c1 : w.drew.cell? ⟨b, 1, none⟩ = some (.slice (some ⟨g, 0, none⟩) l.length cap) := by
    have : w.drew.heap[b]? = some (.cells #[p, .slice (some ⟨g, 0, none⟩) l.length cap] 101 (0, 0)) := h1
    rw [Lib.cell_of_heap this]; rfl
  have hSD : (Builtin.unsafeSliceData_ #[57] 171 #[.slice (some ⟨g, 0, none⟩) l.length cap]).run Tryz.prog w.drew = .ok (.pointer (some ⟨g, 0, none⟩)) w.drew :=
    Lib.run_unsafeSliceData_row _ _ _ _ _ _ (by omega)
  have hUS : (Builtin.unsafeString_ #[171, 3] 9 #[.pointer (some ⟨g, 0, none⟩), .int .i64 l.length]).run Tryz.prog w.drew = .ok (.string ⟨l.toArray⟩) (w.drew.freeze ⟨g, 0, none⟩ l.length) := by
    refine Lib.run_unsafeString_row w.drew 171 3 9 5 Tryz.underlying171 Oct.cellsU8 g cur.size (by have hg' : w.drew.heap[g]? = some (.cells cur 5 fr) := r3; simp [World.shape?, hg']) l h0 hle (by omega) ?_
    intro j x hx
    have hj : j < l.length := (List.getElem?_eq_some_iff.1 hx).1
    have hg' : w.drew.heap[g]? = some (.cells cur 5 fr) := r3
    have e : (⟨g, 0, none⟩ : Addr).add j = ⟨g, j, none⟩ := by unfold Addr.add; split <;> simp_all
    rw [e, Lib.cell_of_heap hg']
    have h3 : (cur.toList.take l.length)[j]? = some (.int .u8 x.toNat) := by rw [r7]; simp [Oct.bvals, hx]
    rw [List.getElem?_take, if_pos hj, Array.getElem?_toList] at h3
    exact h3
  clear h1 r3 r7
  go_enter Tryz.func54, Tryz.ntmps54
  go_wp2
  go_region
  all_goals (go_wp2; go_ret; exact ⟨rfl, rfl⟩)
/-- String of a builder with something in it. -/
theorem C54 (id bf n m : Nat) (l0 : Leaf) (cs : List Leaf) (hm : 0 < m) (hc : cs.length = m) (ha : AllB cs) (hM : m ≤ 1000000000) (hne : id ≠ bf) :
    CallOK Tryz.prog 54 [.c (.l (.p id 0))] [(id, ⟨[l0, .o bf m], .e 101⟩), (bf, ⟨cs, .r 5 1 bf⟩)] n (.c (.l (.v (.string (strL cs))))) [(bf, ⟨[], .x⟩)] 0 := by
  refine ⟨enters54, fun β x vals hv hinj hlt hnew hH _ => ?_⟩
  match vals, hv with
  | [y], ⟨⟨b, hb, hy⟩, _⟩ =>
    subst hy
    obtain ⟨y0, y1, h1, d0, d1⟩ := blkE2 (hH id b _ hb (lk_cons_eq _ _ _))
    rcases d1 with ⟨h0, _⟩ | ⟨g, cap, hg, hcc, hcap, hy1⟩
    · omega
    subst hy1
    rcases hH bf g _ hg (by rw [lk_cons_ne _ _ hne, lk_cons_eq]) with (⟨hx, _⟩ | ⟨hx, _⟩) | ⟨ys, zs, r3, hd, v, hv, hroom⟩
    · cases hx
    · cases hx
    have hys := allB_spec ha hd
    have hyl : ys.length = m := by rw [← hd.length, hc]
    have hl : (cs.map lfB).length = m := by rw [List.length_map, hc]
    have key := bstr2 b g cap y0 (cs.map lfB) (ys ++ zs).toArray (0, 0) x (by rw [hl]; exact h1) (by simpa [BT.ty, BT.fr] using r3) (by intro e; rw [e] at hl; simp at hl; omega) (by simp; omega) (by omega) (by omega) (by
      rw [hl]
      show (ys ++ zs).take m = _
      rw [List.take_append_of_le_length (by omega), List.take_of_length_le (by omega), hys]
      rfl)
    refine key.mono ?_
    rintro e x' ⟨rfl, rfl⟩
    have hbg : b ≠ g := fun e => hne (hinj _ _ _ hb (e ▸ hg))
    have hsz : (x.drew.freeze ⟨g, 0, none⟩ (cs.map lfB).length).heap.size = x.heap.size := by
      unfold World.freeze
      split
      · rfl
      · simp
    have hio : ∀ w : World, ∀ k, (w.freeze ⟨g, 0, none⟩ k).os = w.os ∧ (w.freeze ⟨g, 0, none⟩ k).tape = w.tape ∧ (w.freeze ⟨g, 0, none⟩ k).output = w.output := by
      intro w k; unfold World.freeze; split <;> exact ⟨rfl, rfl, rfl⟩
    obtain ⟨i1, i2, i3⟩ := hio x.drew (cs.map lfB).length
    refine ⟨_, β, rfl, done_wr hinj hlt ⟨rfl, rfl⟩ i1 i2 i3 (by rw [hsz]; exact Nat.le_refl _) (fun k hk hn => ?_) (fun i c k hi hk => ?_)⟩
    · rw [Oct.freeze_other (fun e => ?_)]
      · rfl
      · subst e
        have := hn bf hg
        rw [lk_cons_eq] at this; cases this
    · obtain ⟨rfl, rfl⟩ := lk_one hk
      exact .inl (.inl ⟨rfl, rfl⟩)
end Ab
end Go.Proofs.YtpdckpifhniioaaGreat
end
section
set_option linter.unusedVariables false
set_option linter.unusedSimpArgs false
namespace Go.Proofs.YtpdckpifhniioaaGreat
open Go.RowKit
namespace Ab
def W110 (S : St) (i : Nat) : Blk := match S.blk i with | some ⟨[_, x], t⟩ => ⟨[.p i 0, x], t⟩ | _ => ⟨[], .t 0⟩
theorem enters47 : Enters Tryz.prog 47 := fun args w => by go_simp
def cz_C47a : Cz := {
  ct := (fun f => match f with
  | 110 => some fun _ _S ar => match ar with | [.c (.l (.p i 0))] => some { v := .tup [], rd := [i], wr := [(i, W110 _S i)], nw := 0 } | _ => none
  | _ => none)
  eq := (fun t => match t with
  | _ => none)
  raw := [], sym := [], nf := [], ap := true, off := [], on := [], lp := fun _ => none, un := 0 }
set_option maxRecDepth 100000 in
set_option maxHeartbeats 400000 in
theorem C47a (s : ByteArray) (hs : s.size ≤ 1000000000) (h0 : 0 < s.size) : CallOK Tryz.prog 47 [.c (.l (.p 0 0)), .c (.l (.v (.string s)))] [(0, ⟨[.v (.pointer none), .v (.slice none 0 0)], .e 101⟩)] 1 (.tup [.l (li s.size), .l (.v .nilIface)]) [(0, ⟨[.p 0 0, .o 1 s.size], .e 101⟩), (1, ⟨sbytes s, .r 5 1 1⟩)] 1 := by
  refine call_ok (cx := cz_C47a) (nm := [1]) rfl Tryz.func47 (body := Tryz.f47.body.getD .skip) rfl enters47 (by kernel_rfl) ?_
  apply of_eq (q := CallOKd Tryz.prog 110 [] [SV.c (Cp.l (Leaf.p 0 0))] [(0, Blk.mk [Leaf.v (Value.pointer none), Leaf.v (Value.slice none 0 0)] (BT.e 101))] 1 (SV.tup []) [(0, Blk.mk [Leaf.p 0 0, Leaf.v (Value.slice none 0 0)] (BT.e 101))] 0 ∧ 0 < s.size ∧ ApB Tryz.prog 5 s.size ∧ Le (SV.tup [Cp.l (li (Nat.cast s.size : Int)), Cp.l (Leaf.v Value.nilIface)]) (SV.tup [Cp.l (li (Nat.cast s.size : Int)), Cp.l (Leaf.v Value.nilIface)]) ∧ BkR (rnId 1 0 [1]) (Blk.mk [Leaf.p 0 0, Leaf.o 1 s.size] (BT.e 101)) (Blk.mk [Leaf.p 0 0, Leaf.o 1 s.size] (BT.e 101)) ∧ BkR (rnId 1 0 [1]) (Blk.mk (sbytes s) (BT.r 5 1 1)) (Blk.mk (sbytes s) (BT.r 5 1 1)) ∧ True) (by kernel_rfl)
  repeat' (first | exact trivial | with_reducible apply And.intro | (with_reducible apply HB.mk) | with_reducible intro _)
  all_goals first
    | (assumption)
    | (with_reducible exact Le.refl _)
    | (((with_reducible first | exact C110u _ _ _ | exact C110f _ _ _)))
    | (exact apB (bytes := 1) (by kernel_rfl) (by omega))
    | (exact BkR.plain rfl (plain_sbytes s) (by kernel_rfl))
    | (exact BkR.of (by kernel_rfl))
    | (exact okw _ (by omega) (by omega))
    | (exact Le.of rfl)
    | (exact BkR.of rfl)
    | (unfold SlOK; omega)
    | (unfold SlOK; decide)
    | (unfold inByte; decide)
    | (simp only [*, Bool.and_self, Bool.not_false, Bool.not_true]; done)
    | (simp_all [wants]; done)
def cz_C47t : Cz := {
  ct := (fun f => match f with
  | 110 => some fun _ _S ar => match ar with | [.c (.l (.p i 0))] => some { v := .tup [], rd := [i], wr := [(i, W110 _S i)], nw := 0 } | _ => none
  | _ => none)
  eq := (fun t => match t with
  | _ => none)
  raw := [], sym := [14], nf := [], ap := true, off := [], on := [], lp := fun _ => none, un := 0 }
set_option maxRecDepth 100000 in
set_option maxHeartbeats 400000 in
theorem C47t (s : ByteArray) (m : Nat) (cs : List Leaf) (hs : s.size ≤ 1000000000) (hm : m ≤ 1000000000) (hc : cs.length = m) (hp : Plain cs) : CallOKd Tryz.prog 47 [(1, m + s.size, true)] [.c (.l (.p 0 0)), .c (.l (.v (.string s)))] [(0, ⟨[.p 0 0, .o 1 m], .e 101⟩), (1, ⟨cs, .r 5 1 1⟩)] 2 (.tup [.l (li s.size), .l (.v .nilIface)]) [(0, ⟨[.p 0 0, .o 1 (m + s.size)], .e 101⟩), (1, ⟨cs ++ sbytes s, .r 5 1 1⟩)] 0 := by
  refine call_okW (D := [(1, m + s.size, true)]) (nm := []) Tryz.func47 (body := Tryz.f47.body.getD .skip) rfl enters47 (by unfold inck; simp only [List.all_cons, List.all_nil, blkLt_plain hp (show (BT.rn (rnId 2 0 []) (.r 5 1 1)).isSome = true from rfl), Bool.and_true, Bool.true_and]; kernel_rfl) (by kernel_rfl) (evD_sound (cx := cz_C47t) (rb := fun r => match r with | 2 => some [true] | _ => none) rfl _ _ _ ?_)
  apply of_eq (q := CallOKd Tryz.prog 110 [] [SV.c (Cp.l (Leaf.p 0 0))] [(0, Blk.mk [Leaf.p 0 0, Leaf.o 1 m] (BT.e 101))] 2 (SV.tup []) [(0, Blk.mk [Leaf.p 0 0, Leaf.o 1 m] (BT.e 101))] 0 ∧ [(1, m + s.size, true)] = [(1, m + s.size, true)] ∧ (Blk.mk cs (BT.r 5 1 1)).cs.length = m * 1 ∧ Le (SV.tup [Cp.l (li (Nat.cast s.size : Int)), Cp.l (Leaf.v Value.nilIface)]) (SV.tup [Cp.l (li (Nat.cast s.size : Int)), Cp.l (Leaf.v Value.nilIface)]) ∧ BkR (rnId 2 0 []) (Blk.mk [Leaf.p 0 0, Leaf.o 1 (m + s.size)] (BT.e 101)) (Blk.mk [Leaf.p 0 0, Leaf.o 1 (m + s.size)] (BT.e 101)) ∧ BkR (rnId 2 0 []) (Blk.mk ((Blk.mk cs (BT.r 5 1 1)).cs ++ sbytes s) (BT.r 5 1 1)) (Blk.mk (cs ++ sbytes s) (BT.r 5 1 1)) ∧ True) (by kernel_rfl)
  repeat' (first | exact trivial | with_reducible apply And.intro | (with_reducible apply HB.mk) | with_reducible intro _)
  all_goals first
    | (assumption)
    | (with_reducible exact Le.refl _)
    | (((with_reducible first | exact C110u _ _ _ | exact C110f _ _ _)))
    | (exact apB (bytes := 1) (by kernel_rfl) (by omega))
    | (omega)
    | (exact BkR.plain rfl (hp.append (plain_sbytes s)) (by kernel_rfl))
    | (exact BkR.of (by kernel_rfl))
    | (exact okw _ (by omega) (by omega))
    | (exact Le.of rfl)
    | (exact BkR.of rfl)
    | (unfold SlOK; omega)
    | (unfold SlOK; decide)
    | (unfold inByte; decide)
    | (simp only [*, Bool.and_self, Bool.not_false, Bool.not_true]; done)
    | (simp_all [wants]; done)
def cz_C47f : Cz := {
  ct := (fun f => match f with
  | 110 => some fun _ _S ar => match ar with | [.c (.l (.p i 0))] => some { v := .tup [], rd := [i], wr := [(i, W110 _S i)], nw := 0 } | _ => none
  | _ => none)
  eq := (fun t => match t with
  | _ => none)
  raw := [], sym := [14], nf := [], ap := true, off := [], on := [], lp := fun _ => none, un := 0 }
set_option maxRecDepth 100000 in
set_option maxHeartbeats 400000 in
theorem C47f (s : ByteArray) (m : Nat) (cs : List Leaf) (hs : s.size ≤ 1000000000) (hm : m ≤ 1000000000) (hc : cs.length = m) (hp : Plain cs) : CallOKd Tryz.prog 47 [(1, m + s.size, false)] [.c (.l (.p 0 0)), .c (.l (.v (.string s)))] [(0, ⟨[.p 0 0, .o 1 m], .e 101⟩), (1, ⟨cs, .r 5 1 1⟩)] 2 (.tup [.l (li s.size), .l (.v .nilIface)]) [(0, ⟨[.p 0 0, .o 2 (m + s.size)], .e 101⟩), (2, ⟨cs ++ sbytes s, .r 5 1 2⟩)] 1 := by
  refine call_okW (D := [(1, m + s.size, false)]) (nm := [2]) Tryz.func47 (body := Tryz.f47.body.getD .skip) rfl enters47 (by unfold inck; simp only [List.all_cons, List.all_nil, blkLt_plain hp (show (BT.rn (rnId 2 0 []) (.r 5 1 1)).isSome = true from rfl), Bool.and_true, Bool.true_and]; kernel_rfl) (by kernel_rfl) (evD_sound (cx := cz_C47f) (rb := fun r => match r with | 2 => some [false] | _ => none) rfl _ _ _ ?_)
  apply of_eq (q := CallOKd Tryz.prog 110 [] [SV.c (Cp.l (Leaf.p 0 0))] [(0, Blk.mk [Leaf.p 0 0, Leaf.o 1 m] (BT.e 101))] 2 (SV.tup []) [(0, Blk.mk [Leaf.p 0 0, Leaf.o 1 m] (BT.e 101))] 0 ∧ [(1, m + s.size, false)] = [(1, m + s.size, false)] ∧ [(1, m + s.size, false)] = [(1, m + s.size, false)] ∧ ApB Tryz.prog 5 (m + s.size) ∧ (Blk.mk cs (BT.r 5 1 1)).cs.length = m * 1 ∧ Le (SV.tup [Cp.l (li (Nat.cast s.size : Int)), Cp.l (Leaf.v Value.nilIface)]) (SV.tup [Cp.l (li (Nat.cast s.size : Int)), Cp.l (Leaf.v Value.nilIface)]) ∧ BkR (rnId 2 0 [2]) (Blk.mk [Leaf.p 0 0, Leaf.o 2 (m + s.size)] (BT.e 101)) (Blk.mk [Leaf.p 0 0, Leaf.o 2 (m + s.size)] (BT.e 101)) ∧ BkR (rnId 2 0 [2]) (Blk.mk ((Blk.mk cs (BT.r 5 1 1)).cs ++ sbytes s) (BT.r 5 1 2)) (Blk.mk (cs ++ sbytes s) (BT.r 5 1 2)) ∧ True) (by kernel_rfl)
  repeat' (first | exact trivial | with_reducible apply And.intro | (with_reducible apply HB.mk) | with_reducible intro _)
  all_goals first
    | (assumption)
    | (with_reducible exact Le.refl _)
    | (((with_reducible first | exact C110u _ _ _ | exact C110f _ _ _)))
    | (exact apB (bytes := 1) (by kernel_rfl) (by omega))
    | (omega)
    | (exact BkR.plain rfl (hp.append (plain_sbytes s)) (by kernel_rfl))
    | (exact BkR.of (by kernel_rfl))
    | (exact okw _ (by omega) (by omega))
    | (exact Le.of rfl)
    | (exact BkR.of rfl)
    | (unfold SlOK; omega)
    | (unfold SlOK; decide)
    | (unfold inByte; decide)
    | (simp only [*, Bool.and_self, Bool.not_false, Bool.not_true]; done)
    | (simp_all [wants]; done)
end Ab
end Go.Proofs.YtpdckpifhniioaaGreat
end
section
set_option linter.unusedVariables false
set_option linter.unusedSimpArgs false
namespace Go.Proofs.YtpdckpifhniioaaGreat
open Go.RowKit
namespace Ab
theorem ren_plain {σ : Nat → Nat} : ∀ {l : List Leaf}, Plain l → l.map (Leaf.ren σ) = l
  | [], _ => rfl
  | x :: l, h => by
    obtain ⟨v, rfl⟩ := h x (by simp)
    rw [List.map_cons, ren_plain (fun y hy => h y (by simp [hy]))]
    rfl
def up2 (id bf n : Nat) : Nat → Nat
  | 0 => id
  | 1 => bf
  | k + 2 => n + k
theorem CallOKd.at2 {P : Program} {f : Nat} {dc : List (Nat × Nat × Bool)} {args : List SV} {H : List (Nat × Blk)} {v : SV} {wr : List (Nat × Blk)} {nw : Nat} (h : CallOKd P f dc args H 2 v wr nw) (id bf n : Nat) (hi : id < n) (hb : bf < n) (hne : id ≠ bf) :
    CallOKd P f (dc.map fun p => (up2 id bf n p.1, p.2)) (args.map (SV.ren (up2 id bf n))) (H.map fun p => (up2 id bf n p.1, p.2.ren (up2 id bf n))) n (v.ren (up2 id bf n)) (wr.map fun p => (up2 id bf n p.1, p.2.ren (up2 id bf n))) nw :=
  CallOKd.ren h (up2 id bf n) n (fun i hi' => by
    match i, hi' with
    | 0, _ => exact hi
    | 1, _ => exact hb) (fun i hi' => by
    match i, hi' with
    | k + 2, _ => show n + k = n + (k + 2 - 2); omega) (fun i j h1 h2 e => by
    match i, j, h1, h2, e with
    | 0, 0, _, _, _ => rfl
    | 1, 1, _, _, _ => rfl
    | 0, 1, _, _, e => exact absurd e hne
    | 1, 0, _, _, e => exact absurd e.symm hne)
theorem C47tg (s : ByteArray) (m : Nat) (cs : List Leaf) (hs : s.size ≤ 1000000000) (hm : m ≤ 1000000000) (hc : cs.length = m) (hp : Plain cs) (id bf n : Nat) (hi : id < n) (hb : bf < n) (hne : id ≠ bf) :
    CallOKd Tryz.prog 47 [(bf, m + s.size, true)] [.c (.l (.p id 0)), .c (.l (.v (.string s)))] [(id, ⟨[.p id 0, .o bf m], .e 101⟩), (bf, ⟨cs, .r 5 1 bf⟩)] n (.tup [.l (li s.size), .l (.v .nilIface)]) [(id, ⟨[.p id 0, .o bf (m + s.size)], .e 101⟩), (bf, ⟨cs ++ sbytes s, .r 5 1 bf⟩)] 0 := by
  have key := CallOKd.at2 (C47t s m cs hs hm hc hp) id bf n hi hb hne
  have e1 := ren_plain (σ := up2 id bf n) hp
  have e2 := ren_plain (σ := up2 id bf n) (hp.append (plain_sbytes s))
  simp only [List.map_cons, List.map_nil, Blk.ren, e1, e2] at key
  exact key
theorem C47fg (s : ByteArray) (m : Nat) (cs : List Leaf) (hs : s.size ≤ 1000000000) (hm : m ≤ 1000000000) (hc : cs.length = m) (hp : Plain cs) (id bf n : Nat) (hi : id < n) (hb : bf < n) (hne : id ≠ bf) :
    CallOKd Tryz.prog 47 [(bf, m + s.size, false)] [.c (.l (.p id 0)), .c (.l (.v (.string s)))] [(id, ⟨[.p id 0, .o bf m], .e 101⟩), (bf, ⟨cs, .r 5 1 bf⟩)] n (.tup [.l (li s.size), .l (.v .nilIface)]) [(id, ⟨[.p id 0, .o n (m + s.size)], .e 101⟩), (n, ⟨cs ++ sbytes s, .r 5 1 n⟩)] 1 := by
  have key := CallOKd.at2 (C47f s m cs hs hm hc hp) id bf n hi hb hne
  have e1 := ren_plain (σ := up2 id bf n) hp
  have e2 := ren_plain (σ := up2 id bf n) (hp.append (plain_sbytes s))
  simp only [List.map_cons, List.map_nil, Blk.ren, e1, e2] at key
  exact key
theorem C47ag (s : ByteArray) (hs : s.size ≤ 1000000000) (h0 : 0 < s.size) (id n : Nat) (hi : id < n) :
    CallOK Tryz.prog 47 [.c (.l (.p id 0)), .c (.l (.v (.string s)))] [(id, ⟨[.v (.pointer none), .v (.slice none 0 0)], .e 101⟩)] n (.tup [.l (li s.size), .l (.v .nilIface)]) [(id, ⟨[.p id 0, .o n s.size], .e 101⟩), (n, ⟨sbytes s, .r 5 1 n⟩)] 1 := by
  have key := CallOK.at1 (C47a s hs h0) id n hi
  have e2 := ren_plain (σ := up1 id n) (plain_sbytes s)
  simp only [List.map_cons, List.map_nil, Blk.ren, e2] at key
  exact key
def R47 (s : ByteArray) : SV := .tup [.l (li s.size), .l (.v .nilIface)]
/-- WriteString: what a builder's block says of it. -/
def B47 (ap : Bool) (S : St) (i : Nat) (s : ByteArray) : Option Cr := match S.blk i with
  | some ⟨[.v (.pointer none), .v (.slice none 0 0)], _⟩ => some ⟨R47 s, [i], [(i, ⟨[.p i 0, .o S.n s.size], .e 101⟩), (S.n, ⟨sbytes s, .r 5 1 S.n⟩)], 1, []⟩
  | some ⟨[.p _ 0, .o bf m], _⟩ => match S.blk bf with
    | some k => match ap with
      | true => some ⟨R47 s, [i, bf], [(i, ⟨[.p i 0, .o bf (m + s.size)], .e 101⟩), (bf, ⟨k.cs ++ sbytes s, .r 5 1 bf⟩)], 0, [(bf, m + s.size, true)]⟩
      | false => some ⟨R47 s, [i, bf], [(i, ⟨[.p i 0, .o S.n (m + s.size)], .e 101⟩), (S.n, ⟨k.cs ++ sbytes s, .r 5 1 S.n⟩)], 1, [(bf, m + s.size, false)]⟩
    | none => none
  | _ => none
def V54 (S : St) (i : Nat) : SV := match S.blk i with | some ⟨[_, .o bf _], _⟩ => (match S.blk bf with | some k => .c (.l (.v (.string (strL k.cs)))) | none => .u) | _ => .u
def bf54 (S : St) (i : Nat) : Nat := match S.blk i with | some ⟨[_, .o bf _], _⟩ => bf | _ => 0
theorem C46g (l : List TA) (hg : Good l) (id n : Nat) (hi : id < n) : CallOK Tryz.prog 46 [.c (.agg [.o id l.length])] [(id, ⟨rws l, .r 42 258 id⟩)] n (bv true) [] 0 := by
  have key := CallOK.at1 (C46 l hg) id n hi
  have e1 := ren_plain (σ := up1 id n) (plain_rws l)
  simp only [List.map_cons, List.map_nil, Blk.ren, e1] at key
  exact key
theorem blobT_lsB (t : Nat → UInt8) : blobT (lsB (tl t)) = blobT t := by
  unfold blobT codT
  rw [sol_lsB, bestT_lsB, fw_lsB, bytesT_lsB, lsB_tl t (by decide), lsB_tl t (by decide), lsB_tl t (by decide), lsB_tl t (by decide)]
theorem C49L (l : List Leaf) (t : Nat → UInt8) (h : l = tl t) (n : Nat) : CallOK Tryz.prog 49 [.c (.agg l)] [] n (.c (.l (.v (.string (blobT (lsB l)))))) [] 0 := by
  subst h; rw [blobT_lsB]; exact C49 t n
theorem sbytes_len (s : ByteArray) : (sbytes s).length = s.size := by unfold sbytes; rw [List.length_map, Array.length_toList]; rfl
theorem allB_sbytes (s : ByteArray) : AllB (sbytes s) := fun x hx => by
  simp only [sbytes, List.mem_map] at hx
  obtain ⟨b, _, rfl⟩ := hx
  exact ⟨b, rfl⟩
theorem strL_sbytes (s : ByteArray) : strL (sbytes s) = s := by
  unfold strL sbytes
  rw [List.map_map]
  have : (lfB ∘ fun b : UInt8 => Leaf.v (.int .u8 (b.toNat : Int))) = id := funext fun b => by simp [lfB]
  rw [this, List.map_id]
theorem sbytes_append (s t : ByteArray) : sbytes s ++ sbytes t = sbytes (s ++ t) := by simp [sbytes, ByteArray.data_append]
def putB (k m : Int) : ByteArray := ⟨(Oct.M.be (Oct.sz m) (Oct.u64 k)).toArray⟩
def varB (k : Int) : ByteArray := ⟨(Oct.M.leb (Oct.u64 k)).toArray⟩
def sumI (s : ByteArray) : Int := (Oct.M.sum s.data.toList : Nat)
def txtB (s : ByteArray) : ByteArray := ⟨(Oct.txt s).toArray⟩
def quadB (t : Nat → UInt8) : ByteArray := ⟨#[meanB t 0, meanB t 1, meanB t 2, meanB t 3]⟩
/-- An entry of the index. -/
def entB (e : TA) : ByteArray := putB (e.X + 8192) 2 ++ putB (e.Y + 8192) 2 ++ quadB e.t ++ varB (blobT e.t).size ++ putB (sumI (blobT e.t)) 4
def hdB (l : List TA) : Nat → ByteArray
  | 0 => varB l.length
  | k + 1 => hdB l k ++ entB (at' l k)
def blB (l : List TA) : Nat → ByteArray
  | 0 => ⟨#[]⟩
  | k + 1 => blB l k ++ blobT (at' l k).t
/-- The packed raster. -/
def packB (l : List TA) : ByteArray := ⟨#[71, 1]⟩ ++ txtB (hdB l l.length) ++ putB (sumI (hdB l l.length)) 4 ++ blB l l.length
theorem leb_len (n : Nat) : 1 ≤ (Oct.M.leb n).length := by
  unfold Oct.M.leb
  split <;> simp
theorem varB_pos (k : Int) : 1 ≤ (varB k).size := leb_len _
def I12s (l : List TA) : St := ⟨[(21, iv .i64 0), (20, iv .i64 (l.length : Nat)), (19, .c (.l (.o 0 l.length))), (5, .c (.l (.p 3 0))), (4, .c (.l (.p 2 0))), (1, .c (.l (.p 1 0)))], [(0, some ⟨rws l, .r 42 258 0⟩), (1, some ⟨[.o 0 l.length], .t 26⟩), (2, some ⟨[.p 2 0, .o 4 (hdB l 0).size], .e 101⟩), (3, some ⟨[.v (.pointer none), .v (.slice none 0 0)], .e 101⟩), (4, some ⟨sbytes (hdB l 0), .r 5 1 4⟩)], 5, 68, [4, 3, 2, 1], (1)⟩
def I12 (l : List TA) (k : Nat) : St := ⟨[(21, iv .i64 (k : Nat)), (20, iv .i64 (l.length : Nat)), (19, .c (.l (.o 0 l.length))), (5, .c (.l (.p 3 0))), (4, .c (.l (.p 2 0))), (1, .c (.l (.p 1 0)))], [(0, some ⟨rws l, .r 42 258 0⟩), (1, some ⟨[.o 0 l.length], .t 26⟩), (2, some ⟨[.p 2 0, .o 4 (hdB l k).size], .e 101⟩), (3, some ⟨[.p 3 0, .o 5 (blB l k).size], .e 101⟩), (4, some ⟨sbytes (hdB l k), .r 5 1 4⟩), (5, some ⟨sbytes (blB l k), .r 5 1 5⟩)], 6, 68, [5, 4, 3, 2, 1], (1)⟩
theorem quad_sz (t : Nat → UInt8) : (quadB t).size = 4 := rfl
theorem putB_sz (k m : Int) : (putB k m).size = Oct.sz m := Oct.M.be_length _ _
theorem sz2 : Oct.sz 2 = 2 := rfl
theorem sz4 : Oct.sz 4 = 4 := rfl
theorem varB_le (k : Int) : (varB k).size ≤ 10 := Oct.M.leb_le _ (Oct.u64_lt _)
theorem entB_le (e : TA) : (entB e).size ≤ 22 := by
  unfold entB
  simp only [ByteArray.size_append, putB_sz, sz2, sz4, quad_sz]
  have := varB_le (blobT e.t).size
  omega
theorem hdB_le (l : List TA) : ∀ k, (hdB l k).size ≤ 10 + 22 * k
  | 0 => varB_le _
  | k + 1 => by
    rw [hdB, ByteArray.size_append]
    have := hdB_le l k
    have := entB_le (at' l k)
    omega
theorem hdB_pos (l : List TA) : ∀ k, 1 ≤ (hdB l k).size
  | 0 => varB_pos _
  | k + 1 => by
    rw [hdB, ByteArray.size_append]
    have := hdB_pos l k
    omega
theorem blobT_le (t : Nat → UInt8) : (blobT t).size ≤ 257 := by
  unfold blobT
  cases solT t
  · cases h : decide (((codT t).size : Int) < 257)
    · show (⟨#[1]⟩ ++ bytesT t : ByteArray).size ≤ 257
      rw [ByteArray.size_append, bytesT_len]; exact Nat.le_refl _
    · have := of_decide_eq_true h
      show (codT t).size ≤ 257
      omega
  · show 5 ≤ 257; decide
theorem blobT_pos (t : Nat → UInt8) : 1 ≤ (blobT t).size := by
  unfold blobT
  cases solT t
  · cases h : decide (((codT t).size : Int) < 257)
    · show 1 ≤ (⟨#[1]⟩ ++ bytesT t : ByteArray).size
      rw [ByteArray.size_append, bytesT_len]; decide
    · show 1 ≤ (codT t).size
      unfold codT
      rw [ByteArray.size_append]
      have e : (⟨#[2, UInt8.ofNat (bestT t)]⟩ : ByteArray).size = 2 := rfl
      omega
  · show 1 ≤ 5; decide
theorem blB_le (l : List TA) : ∀ k, (blB l k).size ≤ 257 * k
  | 0 => Nat.le_refl _
  | k + 1 => by
    rw [blB, ByteArray.size_append]
    have := blB_le l k
    have := blobT_le (at' l k).t
    omega
theorem hd_sz (l : List TA) (k : Nat) : (hdB l k).size + (entB (at' l k)).size = (hdB l (k + 1)).size := by rw [hdB, ByteArray.size_append]
theorem bl_sz (l : List TA) (k : Nat) : (blB l k).size + (blobT (at' l k).t).size = (blB l (k + 1)).size := by rw [blB, ByteArray.size_append]
theorem hd_by (l : List TA) (k : Nat) : sbytes (hdB l k) ++ sbytes (entB (at' l k)) = sbytes (hdB l (k + 1)) := by rw [sbytes_append, hdB]
theorem bl_by (l : List TA) (k : Nat) : sbytes (blB l k) ++ sbytes (blobT (at' l k).t) = sbytes (blB l (k + 1)) := by rw [sbytes_append, blB]
theorem bl_by1 (l : List TA) : sbytes (blobT (at' l 0).t) = sbytes (blB l 1) := by rw [← bl_by]; rfl
theorem bl_sz1 (l : List TA) : (blobT (at' l 0).t).size = (blB l 1).size := by rw [← bl_sz]; exact (Nat.zero_add _).symm
theorem blB_pos (l : List TA) (h : 0 < l.length) : 0 < (blB l l.length).size := by
  obtain ⟨n, e⟩ : ∃ n, l.length = n + 1 := ⟨l.length - 1, by omega⟩
  rw [e, blB, ByteArray.size_append]
  have := blobT_pos (at' l n).t
  omega
theorem txtB_le (s : ByteArray) (h : s.size ≤ 1000000000) : (txtB s).size ≤ 10 + s.size := by
  show (Oct.txt s).length ≤ _
  unfold Oct.txt
  rw [List.length_append, Array.length_toList]
  have := Oct.M.leb_le s.size (by omega)
  exact Nat.add_le_add_right this _
theorem rws_at0 {l : List TA} (h : 0 < l.length) : List.take 258 (rws l) = el (at' l 0) := by
  have := rws_at h
  rwa [Nat.zero_mul, List.drop_zero] at this
theorem sumI_bd (s : ByteArray) : 0 ≤ sumI s ∧ sumI s ≤ 4294967295 := by
  unfold sumI Oct.M.sum
  omega
theorem good_xy {l : List TA} (hg : Good l) {k : Nat} (hk : k < l.length) : -8192 ≤ (at' l k).X ∧ (at' l k).X ≤ 8191 ∧ -8192 ≤ (at' l k).Y ∧ (at' l k).Y ≤ 8191 := of_decide_eq_true (hg.inn k hk)
theorem mean_ub (t : Nat → UInt8) : meanL (lsB (tl t)) = [ub (meanB t 0), ub (meanB t 1), ub (meanB t 2), ub (meanB t 3)] := by rw [meanL_lsB, meanL_ub]
theorem ofI4 (t : Nat → UInt8) : (⟨#[ofI ((meanB t 0).toNat : Nat), ofI ((meanB t 1).toNat : Nat), ofI ((meanB t 2).toNat : Nat), ofI ((meanB t 3).toNat : Nat)]⟩ : ByteArray) = quadB t := by
  rw [ofI_nat, ofI_nat, ofI_nat, ofI_nat]; rfl
attribute [local irreducible] solT codT bestT blobT bytesT tl sameT Prd.fw Cod.M.enc meanB Oct.M.sum hdB blB entB
def cz_R12 (l : List TA) (k : Nat) : Cz := {
  ct := (fun f => match f with
  | 47 => some fun _ap _S ar => match ar with | [.c (.l (.p i _)), .c (.l (.v (.string s)))] => B47 _ap _S i s | _ => none
  | 48 => some fun _ _S ar => match ar with | [.c (.l (.v (.int _ k)))] => some { v := .c (.l (.v (.string ⟨(Oct.M.leb (Oct.u64 k)).toArray⟩))), rd := [], wr := [], nw := 0 } | _ => none
  | 49 => some fun _ _S ar => match ar with | [.c (.agg l)] => some { v := .c (.l (.v (.string (blobT (lsB l))))), rd := [], wr := [], nw := 0 } | _ => none
  | 50 => some fun _ _S ar => match ar with | [.c (.l (.v (.int _ k))), .c (.l (.v (.int _ m)))] => some { v := .c (.l (.v (.string ⟨(Oct.M.be (Oct.sz m) (Oct.u64 k)).toArray⟩))), rd := [], wr := [], nw := 0 } | _ => none
  | 51 => some fun _ _S ar => match ar with | [.c (.agg [.v (.int _ a), .v (.int _ b), .v (.int _ c), .v (.int _ e)])] => some { v := .c (.l (.v (.string ⟨#[ofI a, ofI b, ofI c, ofI e]⟩))), rd := [], wr := [], nw := 0 } | _ => none
  | 52 => some fun _ _S ar => match ar with | [.c (.agg l)] => some { v := ag (meanL (lsB l)), rd := [], wr := [], nw := 0 } | _ => none
  | 53 => some fun _ _S ar => match ar with | [.c (.l (.v (.string s)))] => some { v := iv .u32 (Oct.M.sum s.data.toList : Nat), rd := [], wr := [], nw := 0 } | _ => none
  | 54 => some fun _ _S ar => match ar with | [.c (.l (.p i _))] => some { v := V54 _S i, rd := [i, bf54 _S i], wr := [(bf54 _S i, ⟨[], .x⟩)], nw := 0 } | _ => none
  | 55 => some fun _ _S ar => match ar with | [.c (.l (.v (.string s)))] => some { v := .c (.l (.v (.string ⟨(Oct.txt s).toArray⟩))), rd := [], wr := [], nw := 0 } | _ => none
  | _ => none)
  eq := (fun t => match t with
  | _ => none)
  raw := [], sym := [23, 24], nf := [(24, .c (.agg (el (at' l k)))), (26, .c (.agg (tl (at' l k).t))), (27, .c (.l (.v (.string (blobT (at' l k).t))))), (32, .c (.l (.v (.string (putB ((at' l k).X + 8192) 2))))), (37, .c (.l (.v (.string (putB ((at' l k).Y + 8192) 2))))), (40, .c (.agg (tl (at' l k).t))), (41, .c (.agg [ub (meanB (at' l k).t 0), ub (meanB (at' l k).t 1), ub (meanB (at' l k).t 2), ub (meanB (at' l k).t 3)])), (42, .c (.l (.v (.string (quadB (at' l k).t))))), (46, .c (.l (.v (.string (varB (blobT (at' l k).t).size))))), (49, iv .u32 (sumI (blobT (at' l k).t))), (50, iv .i64 (sumI (blobT (at' l k).t))), (51, .c (.l (.v (.string (putB (sumI (blobT (at' l k).t)) 4))))), (52, .c (.l (.v (.string (entB (at' l k))))))], ap := true, off := [], on := [], lp := fun _ => none, un := 0, ex := [101] }
set_option maxRecDepth 100000 in
theorem R12 (l : List TA) (k : Nat)  (K : Exit → St → Prop) (h : HB (decide ((Nat.cast k : Int) < (Nat.cast l.length : Int))) (InR ((Nat.cast k : Int)) l.length ∧ ((Nat.cast k : Int)).toNat * 258 + 258 ≤ (rws l).length ∧ Le (ag (List.take 258 (List.drop (((Nat.cast k : Int)).toNat * 258) (rws l)))) (ag (el (at' l k))) ∧ Le (ag (List.take 256 (List.drop 2 (splice zA258 0 (el (at' l k)))))) (ag (tl (at' l k).t)) ∧ CallOKd Tryz.prog 49 [] [ag (tl (at' l k).t)] [] 7 (SV.c (Cp.l (Leaf.v (Value.string (blobT (lsB (tl (at' l k).t))))))) [] 0 ∧ Le (SV.c (Cp.l (Leaf.v (Value.string (blobT (lsB (tl (at' l k).t))))))) (SV.c (Cp.l (Leaf.v (Value.string (blobT (at' l k).t))))) ∧ (IntKind.i64.wrap ((at' l k).X + 8192) = (at' l k).X + 8192 ∧ CallOKd Tryz.prog 50 [] [iv IntKind.i64 ((at' l k).X + 8192), iv IntKind.i64 2] [] 7 (SV.c (Cp.l (Leaf.v (Value.string (ByteArray.mk (Oct.M.be (Oct.sz 2) (Oct.u64 ((at' l k).X + 8192))).toArray))))) [] 0 ∧ Le (SV.c (Cp.l (Leaf.v (Value.string (ByteArray.mk (Oct.M.be (Oct.sz 2) (Oct.u64 ((at' l k).X + 8192))).toArray))))) (SV.c (Cp.l (Leaf.v (Value.string (putB ((at' l k).X + 8192) 2))))) ∧ IntKind.i64.wrap ((at' l k).Y + 8192) = (at' l k).Y + 8192 ∧ CallOKd Tryz.prog 50 [] [iv IntKind.i64 ((at' l k).Y + 8192), iv IntKind.i64 2] [] 7 (SV.c (Cp.l (Leaf.v (Value.string (ByteArray.mk (Oct.M.be (Oct.sz 2) (Oct.u64 ((at' l k).Y + 8192))).toArray))))) [] 0 ∧ Le (SV.c (Cp.l (Leaf.v (Value.string (ByteArray.mk (Oct.M.be (Oct.sz 2) (Oct.u64 ((at' l k).Y + 8192))).toArray))))) (SV.c (Cp.l (Leaf.v (Value.string (putB ((at' l k).Y + 8192) 2))))) ∧ (Nat.cast (((putB ((at' l k).X + 8192) 2).size + (putB ((at' l k).Y + 8192) 2).size)) : Int) ≤ IntKind.i64.max ∧ Le (ag (List.take 256 (List.drop 2 (splice zA258 0 (el (at' l k)))))) (ag (tl (at' l k).t)) ∧ CallOKd Tryz.prog 52 [] [ag (tl (at' l k).t)] [] 7 (ag [Leaf.v (Value.int IntKind.u8 (mch (mS (lsB (tl (at' l k).t)) 0 64) (mS (lsB (tl (at' l k).t)) 3 64))), Leaf.v (Value.int IntKind.u8 (mch (mS (lsB (tl (at' l k).t)) 1 64) (mS (lsB (tl (at' l k).t)) 3 64))), Leaf.v (Value.int IntKind.u8 (mch (mS (lsB (tl (at' l k).t)) 2 64) (mS (lsB (tl (at' l k).t)) 3 64))), Leaf.v (Value.int IntKind.u8 (mal (mS (lsB (tl (at' l k).t)) 3 64)))]) [] 0 ∧ Le (ag [Leaf.v (Value.int IntKind.u8 (mch (mS (lsB (tl (at' l k).t)) 0 64) (mS (lsB (tl (at' l k).t)) 3 64))), Leaf.v (Value.int IntKind.u8 (mch (mS (lsB (tl (at' l k).t)) 1 64) (mS (lsB (tl (at' l k).t)) 3 64))), Leaf.v (Value.int IntKind.u8 (mch (mS (lsB (tl (at' l k).t)) 2 64) (mS (lsB (tl (at' l k).t)) 3 64))), Leaf.v (Value.int IntKind.u8 (mal (mS (lsB (tl (at' l k).t)) 3 64)))]) (ag [Leaf.v (Value.int IntKind.u8 (Nat.cast ((meanB (at' l k).t 0).toNat) : Int)), Leaf.v (Value.int IntKind.u8 (Nat.cast ((meanB (at' l k).t 1).toNat) : Int)), Leaf.v (Value.int IntKind.u8 (Nat.cast ((meanB (at' l k).t 2).toNat) : Int)), Leaf.v (Value.int IntKind.u8 (Nat.cast ((meanB (at' l k).t 3).toNat) : Int))]) ∧ CallOKd Tryz.prog 51 [] [ag [Leaf.v (Value.int IntKind.u8 (Nat.cast ((meanB (at' l k).t 0).toNat) : Int)), Leaf.v (Value.int IntKind.u8 (Nat.cast ((meanB (at' l k).t 1).toNat) : Int)), Leaf.v (Value.int IntKind.u8 (Nat.cast ((meanB (at' l k).t 2).toNat) : Int)), Leaf.v (Value.int IntKind.u8 (Nat.cast ((meanB (at' l k).t 3).toNat) : Int))]] [] 7 (SV.c (Cp.l (Leaf.v (Value.string (ByteArray.mk #[ofI (Nat.cast ((meanB (at' l k).t 0).toNat) : Int), ofI (Nat.cast ((meanB (at' l k).t 1).toNat) : Int), ofI (Nat.cast ((meanB (at' l k).t 2).toNat) : Int), ofI (Nat.cast ((meanB (at' l k).t 3).toNat) : Int)]))))) [] 0 ∧ Le (SV.c (Cp.l (Leaf.v (Value.string (ByteArray.mk #[ofI (Nat.cast ((meanB (at' l k).t 0).toNat) : Int), ofI (Nat.cast ((meanB (at' l k).t 1).toNat) : Int), ofI (Nat.cast ((meanB (at' l k).t 2).toNat) : Int), ofI (Nat.cast ((meanB (at' l k).t 3).toNat) : Int)]))))) (SV.c (Cp.l (Leaf.v (Value.string (quadB (at' l k).t))))) ∧ (Nat.cast (((putB ((at' l k).X + 8192) 2 ++ putB ((at' l k).Y + 8192) 2).size + (quadB (at' l k).t).size)) : Int) ≤ IntKind.i64.max ∧ CallOKd Tryz.prog 48 [] [iv IntKind.i64 (Nat.cast ((blobT (at' l k).t).size) : Int)] [] 7 (SV.c (Cp.l (Leaf.v (Value.string (ByteArray.mk (Oct.M.leb (Oct.u64 (Nat.cast ((blobT (at' l k).t).size) : Int))).toArray))))) [] 0 ∧ Le (SV.c (Cp.l (Leaf.v (Value.string (ByteArray.mk (Oct.M.leb (Oct.u64 (Nat.cast ((blobT (at' l k).t).size) : Int))).toArray))))) (SV.c (Cp.l (Leaf.v (Value.string (varB (Nat.cast ((blobT (at' l k).t).size) : Int)))))) ∧ (Nat.cast (((putB ((at' l k).X + 8192) 2 ++ putB ((at' l k).Y + 8192) 2 ++ quadB (at' l k).t).size + (varB (Nat.cast ((blobT (at' l k).t).size) : Int)).size)) : Int) ≤ IntKind.i64.max ∧ CallOKd Tryz.prog 53 [] [SV.c (Cp.l (Leaf.v (Value.string (blobT (at' l k).t))))] [] 7 (iv IntKind.u32 (Nat.cast ((Oct.M.sum (blobT (at' l k).t).data.toList)) : Int)) [] 0 ∧ Le (iv IntKind.u32 (Nat.cast ((Oct.M.sum (blobT (at' l k).t).data.toList)) : Int)) (iv IntKind.u32 (sumI (blobT (at' l k).t))) ∧ Le (iv IntKind.i64 (IntKind.i64.wrap (sumI (blobT (at' l k).t)))) (iv IntKind.i64 (sumI (blobT (at' l k).t))) ∧ CallOKd Tryz.prog 50 [] [iv IntKind.i64 (sumI (blobT (at' l k).t)), iv IntKind.i64 4] [] 7 (SV.c (Cp.l (Leaf.v (Value.string (ByteArray.mk (Oct.M.be (Oct.sz 4) (Oct.u64 (sumI (blobT (at' l k).t)))).toArray))))) [] 0 ∧ Le (SV.c (Cp.l (Leaf.v (Value.string (ByteArray.mk (Oct.M.be (Oct.sz 4) (Oct.u64 (sumI (blobT (at' l k).t)))).toArray))))) (SV.c (Cp.l (Leaf.v (Value.string (putB (sumI (blobT (at' l k).t)) 4))))) ∧ (Nat.cast (((putB ((at' l k).X + 8192) 2 ++ putB ((at' l k).Y + 8192) 2 ++ quadB (at' l k).t ++ varB (Nat.cast ((blobT (at' l k).t).size) : Int)).size + (putB (sumI (blobT (at' l k).t)) 4).size)) : Int) ≤ IntKind.i64.max ∧ Le (SV.c (Cp.l (Leaf.v (Value.string (putB ((at' l k).X + 8192) 2 ++ putB ((at' l k).Y + 8192) 2 ++ quadB (at' l k).t ++ varB (Nat.cast ((blobT (at' l k).t).size) : Int) ++ putB (sumI (blobT (at' l k).t)) 4))))) (SV.c (Cp.l (Leaf.v (Value.string (entB (at' l k)))))) ∧ CallOKd Tryz.prog 47 [(4, (hdB l k).size + (entB (at' l k)).size, true)] [SV.c (Cp.l (Leaf.p 2 0)), SV.c (Cp.l (Leaf.v (Value.string (entB (at' l k)))))] [(2, Blk.mk [Leaf.p 2 0, Leaf.o 4 (hdB l k).size] (BT.e 101)), (4, Blk.mk (sbytes (hdB l k)) (BT.r 5 1 4))] 7 (SV.tup [Cp.l (li (Nat.cast ((entB (at' l k)).size) : Int)), Cp.l (Leaf.v Value.nilIface)]) [(2, Blk.mk [Leaf.p 2 0, Leaf.o 4 ((hdB l k).size + (entB (at' l k)).size)] (BT.e 101)), (4, Blk.mk (sbytes (hdB l k) ++ sbytes (entB (at' l k))) (BT.r 5 1 4))] 0 ∧ (CallOKd Tryz.prog 47 [(5, (blB l k).size + (blobT (at' l k).t).size, true)] [SV.c (Cp.l (Leaf.p 3 0)), SV.c (Cp.l (Leaf.v (Value.string (blobT (at' l k).t))))] [(3, Blk.mk [Leaf.p 3 0, Leaf.o 5 (blB l k).size] (BT.e 101)), (5, Blk.mk (sbytes (blB l k)) (BT.r 5 1 5))] 7 (SV.tup [Cp.l (li (Nat.cast ((blobT (at' l k).t).size) : Int)), Cp.l (Leaf.v Value.nilIface)]) [(3, Blk.mk [Leaf.p 3 0, Leaf.o 5 ((blB l k).size + (blobT (at' l k).t).size)] (BT.e 101)), (5, Blk.mk (sbytes (blB l k) ++ sbytes (blobT (at' l k).t)) (BT.r 5 1 5))] 0 ∧ IntKind.i64.wrap ((Nat.cast k : Int) + 1) = (Nat.cast k : Int) + 1 ∧ RoundTo Tryz.prog ((getLoop 6 (Tryz.f12.body.getD Code.skip)).getD Code.skip) 6 (wkK 6 K) (St.mk [(21, iv IntKind.i64 ((Nat.cast k : Int) + 1)), (56, iv IntKind.i64 ((Nat.cast k : Int) + 1)), (55, SV.tup [Cp.l (li (Nat.cast ((blobT (at' l k).t).size) : Int)), Cp.l (Leaf.v Value.nilIface)]), (54, SV.c (Cp.l (Leaf.v (Value.string (blobT (at' l k).t))))), (53, SV.tup [Cp.l (li (Nat.cast ((entB (at' l k)).size) : Int)), Cp.l (Leaf.v Value.nilIface)]), (52, SV.c (Cp.l (Leaf.v (Value.string (entB (at' l k)))))), (51, SV.c (Cp.l (Leaf.v (Value.string (putB (sumI (blobT (at' l k).t)) 4))))), (50, iv IntKind.i64 (sumI (blobT (at' l k).t))), (49, iv IntKind.u32 (sumI (blobT (at' l k).t))), (48, SV.c (Cp.l (Leaf.v (Value.string (blobT (at' l k).t))))), (47, SV.c (Cp.l (Leaf.v (Value.string (putB ((at' l k).X + 8192) 2 ++ putB ((at' l k).Y + 8192) 2 ++ quadB (at' l k).t ++ varB (Nat.cast ((blobT (at' l k).t).size) : Int)))))), (46, SV.c (Cp.l (Leaf.v (Value.string (varB (Nat.cast ((blobT (at' l k).t).size) : Int)))))), (45, iv IntKind.i64 (Nat.cast ((blobT (at' l k).t).size) : Int)), (44, SV.c (Cp.l (Leaf.v (Value.string (blobT (at' l k).t))))), (43, SV.c (Cp.l (Leaf.v (Value.string (putB ((at' l k).X + 8192) 2 ++ putB ((at' l k).Y + 8192) 2 ++ quadB (at' l k).t))))), (42, SV.c (Cp.l (Leaf.v (Value.string (quadB (at' l k).t))))), (41, ag [Leaf.v (Value.int IntKind.u8 (Nat.cast ((meanB (at' l k).t 0).toNat) : Int)), Leaf.v (Value.int IntKind.u8 (Nat.cast ((meanB (at' l k).t 1).toNat) : Int)), Leaf.v (Value.int IntKind.u8 (Nat.cast ((meanB (at' l k).t 2).toNat) : Int)), Leaf.v (Value.int IntKind.u8 (Nat.cast ((meanB (at' l k).t 3).toNat) : Int))]), (40, ag (tl (at' l k).t)), (39, SV.c (Cp.l (Leaf.p 6 2))), (38, SV.c (Cp.l (Leaf.v (Value.string (putB ((at' l k).X + 8192) 2 ++ putB ((at' l k).Y + 8192) 2))))), (37, SV.c (Cp.l (Leaf.v (Value.string (putB ((at' l k).Y + 8192) 2))))), (36, iv IntKind.i64 ((at' l k).Y + 8192)), (35, iv IntKind.i64 (at' l k).Y), (34, SV.c (Cp.l (Leaf.p 6 1))), (33, SV.c (Cp.l (Leaf.p 6 0))), (32, SV.c (Cp.l (Leaf.v (Value.string (putB ((at' l k).X + 8192) 2))))), (31, iv IntKind.i64 ((at' l k).X + 8192)), (30, iv IntKind.i64 (at' l k).X), (29, SV.c (Cp.l (Leaf.p 6 0))), (28, SV.c (Cp.l (Leaf.p 6 0))), (8, SV.c (Cp.l (Leaf.v (Value.string (blobT (at' l k).t))))), (27, SV.c (Cp.l (Leaf.v (Value.string (blobT (at' l k).t))))), (26, ag (tl (at' l k).t)), (25, SV.c (Cp.l (Leaf.p 6 2))), (7, SV.c (Cp.l (Leaf.p 6 0))), (24, ag (el (at' l k))), (23, SV.c (Cp.l (Leaf.p 0 (((Nat.cast k : Int)).toNat * 258)))), (22, bv (decide ((Nat.cast k : Int) < (Nat.cast l.length : Int)))), (21, iv IntKind.i64 (Nat.cast k : Int)), (20, iv IntKind.i64 (Nat.cast l.length : Int)), (19, SV.c (Cp.l (Leaf.o 0 l.length))), (5, SV.c (Cp.l (Leaf.p 3 0))), (4, SV.c (Cp.l (Leaf.p 2 0))), (1, SV.c (Cp.l (Leaf.p 1 0)))] [(3, some (Blk.mk [Leaf.p 3 0, Leaf.o 5 ((blB l k).size + (blobT (at' l k).t).size)] (BT.e 101))), (5, some (Blk.mk (sbytes (blB l k) ++ sbytes (blobT (at' l k).t)) (BT.r 5 1 5))), (2, some (Blk.mk [Leaf.p 2 0, Leaf.o 4 ((hdB l k).size + (entB (at' l k)).size)] (BT.e 101))), (4, some (Blk.mk (sbytes (hdB l k) ++ sbytes (entB (at' l k))) (BT.r 5 1 4))), (6, some (Blk.mk (splice zA258 0 (el (at' l k))) (BT.t 42))), (6, some (Blk.mk zA258 (BT.t 42))), (0, some (Blk.mk (rws l) (BT.r 42 258 0))), (1, some (Blk.mk [Leaf.o 0 l.length] (BT.t 26))), (2, some (Blk.mk [Leaf.p 2 0, Leaf.o 4 (hdB l k).size] (BT.e 101))), (3, some (Blk.mk [Leaf.p 3 0, Leaf.o 5 (blB l k).size] (BT.e 101))), (4, some (Blk.mk (sbytes (hdB l k)) (BT.r 5 1 4))), (5, some (Blk.mk (sbytes (blB l k)) (BT.r 5 1 5)))] 7 68 [3, 5, 2, 4, 6, 6, 5, 4, 3, 2, 1] 1)) ∧ [(5, (blB l k).size + (blobT (at' l k).t).size, false)] = [(5, (blB l k).size + (blobT (at' l k).t).size, false)] ∧ CallOKd Tryz.prog 47 [(5, (blB l k).size + (blobT (at' l k).t).size, false)] [SV.c (Cp.l (Leaf.p 3 0)), SV.c (Cp.l (Leaf.v (Value.string (blobT (at' l k).t))))] [(3, Blk.mk [Leaf.p 3 0, Leaf.o 5 (blB l k).size] (BT.e 101)), (5, Blk.mk (sbytes (blB l k)) (BT.r 5 1 5))] 7 (SV.tup [Cp.l (li (Nat.cast ((blobT (at' l k).t).size) : Int)), Cp.l (Leaf.v Value.nilIface)]) [(3, Blk.mk [Leaf.p 3 0, Leaf.o 7 ((blB l k).size + (blobT (at' l k).t).size)] (BT.e 101)), (7, Blk.mk (sbytes (blB l k) ++ sbytes (blobT (at' l k).t)) (BT.r 5 1 7))] 1 ∧ IntKind.i64.wrap ((Nat.cast k : Int) + 1) = (Nat.cast k : Int) + 1 ∧ RoundTo Tryz.prog ((getLoop 6 (Tryz.f12.body.getD Code.skip)).getD Code.skip) 6 (wkK 6 K) (St.mk [(21, iv IntKind.i64 ((Nat.cast k : Int) + 1)), (56, iv IntKind.i64 ((Nat.cast k : Int) + 1)), (55, SV.tup [Cp.l (li (Nat.cast ((blobT (at' l k).t).size) : Int)), Cp.l (Leaf.v Value.nilIface)]), (54, SV.c (Cp.l (Leaf.v (Value.string (blobT (at' l k).t))))), (53, SV.tup [Cp.l (li (Nat.cast ((entB (at' l k)).size) : Int)), Cp.l (Leaf.v Value.nilIface)]), (52, SV.c (Cp.l (Leaf.v (Value.string (entB (at' l k)))))), (51, SV.c (Cp.l (Leaf.v (Value.string (putB (sumI (blobT (at' l k).t)) 4))))), (50, iv IntKind.i64 (sumI (blobT (at' l k).t))), (49, iv IntKind.u32 (sumI (blobT (at' l k).t))), (48, SV.c (Cp.l (Leaf.v (Value.string (blobT (at' l k).t))))), (47, SV.c (Cp.l (Leaf.v (Value.string (putB ((at' l k).X + 8192) 2 ++ putB ((at' l k).Y + 8192) 2 ++ quadB (at' l k).t ++ varB (Nat.cast ((blobT (at' l k).t).size) : Int)))))), (46, SV.c (Cp.l (Leaf.v (Value.string (varB (Nat.cast ((blobT (at' l k).t).size) : Int)))))), (45, iv IntKind.i64 (Nat.cast ((blobT (at' l k).t).size) : Int)), (44, SV.c (Cp.l (Leaf.v (Value.string (blobT (at' l k).t))))), (43, SV.c (Cp.l (Leaf.v (Value.string (putB ((at' l k).X + 8192) 2 ++ putB ((at' l k).Y + 8192) 2 ++ quadB (at' l k).t))))), (42, SV.c (Cp.l (Leaf.v (Value.string (quadB (at' l k).t))))), (41, ag [Leaf.v (Value.int IntKind.u8 (Nat.cast ((meanB (at' l k).t 0).toNat) : Int)), Leaf.v (Value.int IntKind.u8 (Nat.cast ((meanB (at' l k).t 1).toNat) : Int)), Leaf.v (Value.int IntKind.u8 (Nat.cast ((meanB (at' l k).t 2).toNat) : Int)), Leaf.v (Value.int IntKind.u8 (Nat.cast ((meanB (at' l k).t 3).toNat) : Int))]), (40, ag (tl (at' l k).t)), (39, SV.c (Cp.l (Leaf.p 6 2))), (38, SV.c (Cp.l (Leaf.v (Value.string (putB ((at' l k).X + 8192) 2 ++ putB ((at' l k).Y + 8192) 2))))), (37, SV.c (Cp.l (Leaf.v (Value.string (putB ((at' l k).Y + 8192) 2))))), (36, iv IntKind.i64 ((at' l k).Y + 8192)), (35, iv IntKind.i64 (at' l k).Y), (34, SV.c (Cp.l (Leaf.p 6 1))), (33, SV.c (Cp.l (Leaf.p 6 0))), (32, SV.c (Cp.l (Leaf.v (Value.string (putB ((at' l k).X + 8192) 2))))), (31, iv IntKind.i64 ((at' l k).X + 8192)), (30, iv IntKind.i64 (at' l k).X), (29, SV.c (Cp.l (Leaf.p 6 0))), (28, SV.c (Cp.l (Leaf.p 6 0))), (8, SV.c (Cp.l (Leaf.v (Value.string (blobT (at' l k).t))))), (27, SV.c (Cp.l (Leaf.v (Value.string (blobT (at' l k).t))))), (26, ag (tl (at' l k).t)), (25, SV.c (Cp.l (Leaf.p 6 2))), (7, SV.c (Cp.l (Leaf.p 6 0))), (24, ag (el (at' l k))), (23, SV.c (Cp.l (Leaf.p 0 (((Nat.cast k : Int)).toNat * 258)))), (22, bv (decide ((Nat.cast k : Int) < (Nat.cast l.length : Int)))), (21, iv IntKind.i64 (Nat.cast k : Int)), (20, iv IntKind.i64 (Nat.cast l.length : Int)), (19, SV.c (Cp.l (Leaf.o 0 l.length))), (5, SV.c (Cp.l (Leaf.p 3 0))), (4, SV.c (Cp.l (Leaf.p 2 0))), (1, SV.c (Cp.l (Leaf.p 1 0)))] [(3, some (Blk.mk [Leaf.p 3 0, Leaf.o 7 ((blB l k).size + (blobT (at' l k).t).size)] (BT.e 101))), (7, some (Blk.mk (sbytes (blB l k) ++ sbytes (blobT (at' l k).t)) (BT.r 5 1 7))), (2, some (Blk.mk [Leaf.p 2 0, Leaf.o 4 ((hdB l k).size + (entB (at' l k)).size)] (BT.e 101))), (4, some (Blk.mk (sbytes (hdB l k) ++ sbytes (entB (at' l k))) (BT.r 5 1 4))), (6, some (Blk.mk (splice zA258 0 (el (at' l k))) (BT.t 42))), (6, some (Blk.mk zA258 (BT.t 42))), (0, some (Blk.mk (rws l) (BT.r 42 258 0))), (1, some (Blk.mk [Leaf.o 0 l.length] (BT.t 26))), (2, some (Blk.mk [Leaf.p 2 0, Leaf.o 4 (hdB l k).size] (BT.e 101))), (3, some (Blk.mk [Leaf.p 3 0, Leaf.o 5 (blB l k).size] (BT.e 101))), (4, some (Blk.mk (sbytes (hdB l k)) (BT.r 5 1 4))), (5, some (Blk.mk (sbytes (blB l k)) (BT.r 5 1 5)))] 8 68 [3, 7, 2, 4, 6, 6, 5, 4, 3, 2, 1] 1)) ∧ IntKind.i64.wrap ((at' l k).X + 8192) = (at' l k).X + 8192 ∧ CallOKd Tryz.prog 50 [] [iv IntKind.i64 ((at' l k).X + 8192), iv IntKind.i64 2] [] 7 (SV.c (Cp.l (Leaf.v (Value.string (ByteArray.mk (Oct.M.be (Oct.sz 2) (Oct.u64 ((at' l k).X + 8192))).toArray))))) [] 0 ∧ Le (SV.c (Cp.l (Leaf.v (Value.string (ByteArray.mk (Oct.M.be (Oct.sz 2) (Oct.u64 ((at' l k).X + 8192))).toArray))))) (SV.c (Cp.l (Leaf.v (Value.string (putB ((at' l k).X + 8192) 2))))) ∧ IntKind.i64.wrap ((at' l k).Y + 8192) = (at' l k).Y + 8192 ∧ CallOKd Tryz.prog 50 [] [iv IntKind.i64 ((at' l k).Y + 8192), iv IntKind.i64 2] [] 7 (SV.c (Cp.l (Leaf.v (Value.string (ByteArray.mk (Oct.M.be (Oct.sz 2) (Oct.u64 ((at' l k).Y + 8192))).toArray))))) [] 0 ∧ Le (SV.c (Cp.l (Leaf.v (Value.string (ByteArray.mk (Oct.M.be (Oct.sz 2) (Oct.u64 ((at' l k).Y + 8192))).toArray))))) (SV.c (Cp.l (Leaf.v (Value.string (putB ((at' l k).Y + 8192) 2))))) ∧ (Nat.cast (((putB ((at' l k).X + 8192) 2).size + (putB ((at' l k).Y + 8192) 2).size)) : Int) ≤ IntKind.i64.max ∧ Le (ag (List.take 256 (List.drop 2 (splice zA258 0 (el (at' l k)))))) (ag (tl (at' l k).t)) ∧ CallOKd Tryz.prog 52 [] [ag (tl (at' l k).t)] [] 7 (ag [Leaf.v (Value.int IntKind.u8 (mch (mS (lsB (tl (at' l k).t)) 0 64) (mS (lsB (tl (at' l k).t)) 3 64))), Leaf.v (Value.int IntKind.u8 (mch (mS (lsB (tl (at' l k).t)) 1 64) (mS (lsB (tl (at' l k).t)) 3 64))), Leaf.v (Value.int IntKind.u8 (mch (mS (lsB (tl (at' l k).t)) 2 64) (mS (lsB (tl (at' l k).t)) 3 64))), Leaf.v (Value.int IntKind.u8 (mal (mS (lsB (tl (at' l k).t)) 3 64)))]) [] 0 ∧ Le (ag [Leaf.v (Value.int IntKind.u8 (mch (mS (lsB (tl (at' l k).t)) 0 64) (mS (lsB (tl (at' l k).t)) 3 64))), Leaf.v (Value.int IntKind.u8 (mch (mS (lsB (tl (at' l k).t)) 1 64) (mS (lsB (tl (at' l k).t)) 3 64))), Leaf.v (Value.int IntKind.u8 (mch (mS (lsB (tl (at' l k).t)) 2 64) (mS (lsB (tl (at' l k).t)) 3 64))), Leaf.v (Value.int IntKind.u8 (mal (mS (lsB (tl (at' l k).t)) 3 64)))]) (ag [Leaf.v (Value.int IntKind.u8 (Nat.cast ((meanB (at' l k).t 0).toNat) : Int)), Leaf.v (Value.int IntKind.u8 (Nat.cast ((meanB (at' l k).t 1).toNat) : Int)), Leaf.v (Value.int IntKind.u8 (Nat.cast ((meanB (at' l k).t 2).toNat) : Int)), Leaf.v (Value.int IntKind.u8 (Nat.cast ((meanB (at' l k).t 3).toNat) : Int))]) ∧ CallOKd Tryz.prog 51 [] [ag [Leaf.v (Value.int IntKind.u8 (Nat.cast ((meanB (at' l k).t 0).toNat) : Int)), Leaf.v (Value.int IntKind.u8 (Nat.cast ((meanB (at' l k).t 1).toNat) : Int)), Leaf.v (Value.int IntKind.u8 (Nat.cast ((meanB (at' l k).t 2).toNat) : Int)), Leaf.v (Value.int IntKind.u8 (Nat.cast ((meanB (at' l k).t 3).toNat) : Int))]] [] 7 (SV.c (Cp.l (Leaf.v (Value.string (ByteArray.mk #[ofI (Nat.cast ((meanB (at' l k).t 0).toNat) : Int), ofI (Nat.cast ((meanB (at' l k).t 1).toNat) : Int), ofI (Nat.cast ((meanB (at' l k).t 2).toNat) : Int), ofI (Nat.cast ((meanB (at' l k).t 3).toNat) : Int)]))))) [] 0 ∧ Le (SV.c (Cp.l (Leaf.v (Value.string (ByteArray.mk #[ofI (Nat.cast ((meanB (at' l k).t 0).toNat) : Int), ofI (Nat.cast ((meanB (at' l k).t 1).toNat) : Int), ofI (Nat.cast ((meanB (at' l k).t 2).toNat) : Int), ofI (Nat.cast ((meanB (at' l k).t 3).toNat) : Int)]))))) (SV.c (Cp.l (Leaf.v (Value.string (quadB (at' l k).t))))) ∧ (Nat.cast (((putB ((at' l k).X + 8192) 2 ++ putB ((at' l k).Y + 8192) 2).size + (quadB (at' l k).t).size)) : Int) ≤ IntKind.i64.max ∧ CallOKd Tryz.prog 48 [] [iv IntKind.i64 (Nat.cast ((blobT (at' l k).t).size) : Int)] [] 7 (SV.c (Cp.l (Leaf.v (Value.string (ByteArray.mk (Oct.M.leb (Oct.u64 (Nat.cast ((blobT (at' l k).t).size) : Int))).toArray))))) [] 0 ∧ Le (SV.c (Cp.l (Leaf.v (Value.string (ByteArray.mk (Oct.M.leb (Oct.u64 (Nat.cast ((blobT (at' l k).t).size) : Int))).toArray))))) (SV.c (Cp.l (Leaf.v (Value.string (varB (Nat.cast ((blobT (at' l k).t).size) : Int)))))) ∧ (Nat.cast (((putB ((at' l k).X + 8192) 2 ++ putB ((at' l k).Y + 8192) 2 ++ quadB (at' l k).t).size + (varB (Nat.cast ((blobT (at' l k).t).size) : Int)).size)) : Int) ≤ IntKind.i64.max ∧ CallOKd Tryz.prog 53 [] [SV.c (Cp.l (Leaf.v (Value.string (blobT (at' l k).t))))] [] 7 (iv IntKind.u32 (Nat.cast ((Oct.M.sum (blobT (at' l k).t).data.toList)) : Int)) [] 0 ∧ Le (iv IntKind.u32 (Nat.cast ((Oct.M.sum (blobT (at' l k).t).data.toList)) : Int)) (iv IntKind.u32 (sumI (blobT (at' l k).t))) ∧ Le (iv IntKind.i64 (IntKind.i64.wrap (sumI (blobT (at' l k).t)))) (iv IntKind.i64 (sumI (blobT (at' l k).t))) ∧ CallOKd Tryz.prog 50 [] [iv IntKind.i64 (sumI (blobT (at' l k).t)), iv IntKind.i64 4] [] 7 (SV.c (Cp.l (Leaf.v (Value.string (ByteArray.mk (Oct.M.be (Oct.sz 4) (Oct.u64 (sumI (blobT (at' l k).t)))).toArray))))) [] 0 ∧ Le (SV.c (Cp.l (Leaf.v (Value.string (ByteArray.mk (Oct.M.be (Oct.sz 4) (Oct.u64 (sumI (blobT (at' l k).t)))).toArray))))) (SV.c (Cp.l (Leaf.v (Value.string (putB (sumI (blobT (at' l k).t)) 4))))) ∧ (Nat.cast (((putB ((at' l k).X + 8192) 2 ++ putB ((at' l k).Y + 8192) 2 ++ quadB (at' l k).t ++ varB (Nat.cast ((blobT (at' l k).t).size) : Int)).size + (putB (sumI (blobT (at' l k).t)) 4).size)) : Int) ≤ IntKind.i64.max ∧ Le (SV.c (Cp.l (Leaf.v (Value.string (putB ((at' l k).X + 8192) 2 ++ putB ((at' l k).Y + 8192) 2 ++ quadB (at' l k).t ++ varB (Nat.cast ((blobT (at' l k).t).size) : Int) ++ putB (sumI (blobT (at' l k).t)) 4))))) (SV.c (Cp.l (Leaf.v (Value.string (entB (at' l k)))))) ∧ [(4, (hdB l k).size + (entB (at' l k)).size, false)] = [(4, (hdB l k).size + (entB (at' l k)).size, false)] ∧ CallOKd Tryz.prog 47 [(4, (hdB l k).size + (entB (at' l k)).size, false)] [SV.c (Cp.l (Leaf.p 2 0)), SV.c (Cp.l (Leaf.v (Value.string (entB (at' l k)))))] [(2, Blk.mk [Leaf.p 2 0, Leaf.o 4 (hdB l k).size] (BT.e 101)), (4, Blk.mk (sbytes (hdB l k)) (BT.r 5 1 4))] 7 (SV.tup [Cp.l (li (Nat.cast ((entB (at' l k)).size) : Int)), Cp.l (Leaf.v Value.nilIface)]) [(2, Blk.mk [Leaf.p 2 0, Leaf.o 7 ((hdB l k).size + (entB (at' l k)).size)] (BT.e 101)), (7, Blk.mk (sbytes (hdB l k) ++ sbytes (entB (at' l k))) (BT.r 5 1 7))] 1 ∧ (CallOKd Tryz.prog 47 [(5, (blB l k).size + (blobT (at' l k).t).size, true)] [SV.c (Cp.l (Leaf.p 3 0)), SV.c (Cp.l (Leaf.v (Value.string (blobT (at' l k).t))))] [(3, Blk.mk [Leaf.p 3 0, Leaf.o 5 (blB l k).size] (BT.e 101)), (5, Blk.mk (sbytes (blB l k)) (BT.r 5 1 5))] 8 (SV.tup [Cp.l (li (Nat.cast ((blobT (at' l k).t).size) : Int)), Cp.l (Leaf.v Value.nilIface)]) [(3, Blk.mk [Leaf.p 3 0, Leaf.o 5 ((blB l k).size + (blobT (at' l k).t).size)] (BT.e 101)), (5, Blk.mk (sbytes (blB l k) ++ sbytes (blobT (at' l k).t)) (BT.r 5 1 5))] 0 ∧ IntKind.i64.wrap ((Nat.cast k : Int) + 1) = (Nat.cast k : Int) + 1 ∧ RoundTo Tryz.prog ((getLoop 6 (Tryz.f12.body.getD Code.skip)).getD Code.skip) 6 (wkK 6 K) (St.mk [(21, iv IntKind.i64 ((Nat.cast k : Int) + 1)), (56, iv IntKind.i64 ((Nat.cast k : Int) + 1)), (55, SV.tup [Cp.l (li (Nat.cast ((blobT (at' l k).t).size) : Int)), Cp.l (Leaf.v Value.nilIface)]), (54, SV.c (Cp.l (Leaf.v (Value.string (blobT (at' l k).t))))), (53, SV.tup [Cp.l (li (Nat.cast ((entB (at' l k)).size) : Int)), Cp.l (Leaf.v Value.nilIface)]), (52, SV.c (Cp.l (Leaf.v (Value.string (entB (at' l k)))))), (51, SV.c (Cp.l (Leaf.v (Value.string (putB (sumI (blobT (at' l k).t)) 4))))), (50, iv IntKind.i64 (sumI (blobT (at' l k).t))), (49, iv IntKind.u32 (sumI (blobT (at' l k).t))), (48, SV.c (Cp.l (Leaf.v (Value.string (blobT (at' l k).t))))), (47, SV.c (Cp.l (Leaf.v (Value.string (putB ((at' l k).X + 8192) 2 ++ putB ((at' l k).Y + 8192) 2 ++ quadB (at' l k).t ++ varB (Nat.cast ((blobT (at' l k).t).size) : Int)))))), (46, SV.c (Cp.l (Leaf.v (Value.string (varB (Nat.cast ((blobT (at' l k).t).size) : Int)))))), (45, iv IntKind.i64 (Nat.cast ((blobT (at' l k).t).size) : Int)), (44, SV.c (Cp.l (Leaf.v (Value.string (blobT (at' l k).t))))), (43, SV.c (Cp.l (Leaf.v (Value.string (putB ((at' l k).X + 8192) 2 ++ putB ((at' l k).Y + 8192) 2 ++ quadB (at' l k).t))))), (42, SV.c (Cp.l (Leaf.v (Value.string (quadB (at' l k).t))))), (41, ag [Leaf.v (Value.int IntKind.u8 (Nat.cast ((meanB (at' l k).t 0).toNat) : Int)), Leaf.v (Value.int IntKind.u8 (Nat.cast ((meanB (at' l k).t 1).toNat) : Int)), Leaf.v (Value.int IntKind.u8 (Nat.cast ((meanB (at' l k).t 2).toNat) : Int)), Leaf.v (Value.int IntKind.u8 (Nat.cast ((meanB (at' l k).t 3).toNat) : Int))]), (40, ag (tl (at' l k).t)), (39, SV.c (Cp.l (Leaf.p 6 2))), (38, SV.c (Cp.l (Leaf.v (Value.string (putB ((at' l k).X + 8192) 2 ++ putB ((at' l k).Y + 8192) 2))))), (37, SV.c (Cp.l (Leaf.v (Value.string (putB ((at' l k).Y + 8192) 2))))), (36, iv IntKind.i64 ((at' l k).Y + 8192)), (35, iv IntKind.i64 (at' l k).Y), (34, SV.c (Cp.l (Leaf.p 6 1))), (33, SV.c (Cp.l (Leaf.p 6 0))), (32, SV.c (Cp.l (Leaf.v (Value.string (putB ((at' l k).X + 8192) 2))))), (31, iv IntKind.i64 ((at' l k).X + 8192)), (30, iv IntKind.i64 (at' l k).X), (29, SV.c (Cp.l (Leaf.p 6 0))), (28, SV.c (Cp.l (Leaf.p 6 0))), (8, SV.c (Cp.l (Leaf.v (Value.string (blobT (at' l k).t))))), (27, SV.c (Cp.l (Leaf.v (Value.string (blobT (at' l k).t))))), (26, ag (tl (at' l k).t)), (25, SV.c (Cp.l (Leaf.p 6 2))), (7, SV.c (Cp.l (Leaf.p 6 0))), (24, ag (el (at' l k))), (23, SV.c (Cp.l (Leaf.p 0 (((Nat.cast k : Int)).toNat * 258)))), (22, bv (decide ((Nat.cast k : Int) < (Nat.cast l.length : Int)))), (21, iv IntKind.i64 (Nat.cast k : Int)), (20, iv IntKind.i64 (Nat.cast l.length : Int)), (19, SV.c (Cp.l (Leaf.o 0 l.length))), (5, SV.c (Cp.l (Leaf.p 3 0))), (4, SV.c (Cp.l (Leaf.p 2 0))), (1, SV.c (Cp.l (Leaf.p 1 0)))] [(3, some (Blk.mk [Leaf.p 3 0, Leaf.o 5 ((blB l k).size + (blobT (at' l k).t).size)] (BT.e 101))), (5, some (Blk.mk (sbytes (blB l k) ++ sbytes (blobT (at' l k).t)) (BT.r 5 1 5))), (2, some (Blk.mk [Leaf.p 2 0, Leaf.o 7 ((hdB l k).size + (entB (at' l k)).size)] (BT.e 101))), (7, some (Blk.mk (sbytes (hdB l k) ++ sbytes (entB (at' l k))) (BT.r 5 1 7))), (6, some (Blk.mk (splice zA258 0 (el (at' l k))) (BT.t 42))), (6, some (Blk.mk zA258 (BT.t 42))), (0, some (Blk.mk (rws l) (BT.r 42 258 0))), (1, some (Blk.mk [Leaf.o 0 l.length] (BT.t 26))), (2, some (Blk.mk [Leaf.p 2 0, Leaf.o 4 (hdB l k).size] (BT.e 101))), (3, some (Blk.mk [Leaf.p 3 0, Leaf.o 5 (blB l k).size] (BT.e 101))), (4, some (Blk.mk (sbytes (hdB l k)) (BT.r 5 1 4))), (5, some (Blk.mk (sbytes (blB l k)) (BT.r 5 1 5)))] 8 68 [3, 5, 2, 7, 6, 6, 5, 4, 3, 2, 1] 1)) ∧ [(5, (blB l k).size + (blobT (at' l k).t).size, false)] = [(5, (blB l k).size + (blobT (at' l k).t).size, false)] ∧ CallOKd Tryz.prog 47 [(5, (blB l k).size + (blobT (at' l k).t).size, false)] [SV.c (Cp.l (Leaf.p 3 0)), SV.c (Cp.l (Leaf.v (Value.string (blobT (at' l k).t))))] [(3, Blk.mk [Leaf.p 3 0, Leaf.o 5 (blB l k).size] (BT.e 101)), (5, Blk.mk (sbytes (blB l k)) (BT.r 5 1 5))] 8 (SV.tup [Cp.l (li (Nat.cast ((blobT (at' l k).t).size) : Int)), Cp.l (Leaf.v Value.nilIface)]) [(3, Blk.mk [Leaf.p 3 0, Leaf.o 8 ((blB l k).size + (blobT (at' l k).t).size)] (BT.e 101)), (8, Blk.mk (sbytes (blB l k) ++ sbytes (blobT (at' l k).t)) (BT.r 5 1 8))] 1 ∧ IntKind.i64.wrap ((Nat.cast k : Int) + 1) = (Nat.cast k : Int) + 1 ∧ RoundTo Tryz.prog ((getLoop 6 (Tryz.f12.body.getD Code.skip)).getD Code.skip) 6 (wkK 6 K) (St.mk [(21, iv IntKind.i64 ((Nat.cast k : Int) + 1)), (56, iv IntKind.i64 ((Nat.cast k : Int) + 1)), (55, SV.tup [Cp.l (li (Nat.cast ((blobT (at' l k).t).size) : Int)), Cp.l (Leaf.v Value.nilIface)]), (54, SV.c (Cp.l (Leaf.v (Value.string (blobT (at' l k).t))))), (53, SV.tup [Cp.l (li (Nat.cast ((entB (at' l k)).size) : Int)), Cp.l (Leaf.v Value.nilIface)]), (52, SV.c (Cp.l (Leaf.v (Value.string (entB (at' l k)))))), (51, SV.c (Cp.l (Leaf.v (Value.string (putB (sumI (blobT (at' l k).t)) 4))))), (50, iv IntKind.i64 (sumI (blobT (at' l k).t))), (49, iv IntKind.u32 (sumI (blobT (at' l k).t))), (48, SV.c (Cp.l (Leaf.v (Value.string (blobT (at' l k).t))))), (47, SV.c (Cp.l (Leaf.v (Value.string (putB ((at' l k).X + 8192) 2 ++ putB ((at' l k).Y + 8192) 2 ++ quadB (at' l k).t ++ varB (Nat.cast ((blobT (at' l k).t).size) : Int)))))), (46, SV.c (Cp.l (Leaf.v (Value.string (varB (Nat.cast ((blobT (at' l k).t).size) : Int)))))), (45, iv IntKind.i64 (Nat.cast ((blobT (at' l k).t).size) : Int)), (44, SV.c (Cp.l (Leaf.v (Value.string (blobT (at' l k).t))))), (43, SV.c (Cp.l (Leaf.v (Value.string (putB ((at' l k).X + 8192) 2 ++ putB ((at' l k).Y + 8192) 2 ++ quadB (at' l k).t))))), (42, SV.c (Cp.l (Leaf.v (Value.string (quadB (at' l k).t))))), (41, ag [Leaf.v (Value.int IntKind.u8 (Nat.cast ((meanB (at' l k).t 0).toNat) : Int)), Leaf.v (Value.int IntKind.u8 (Nat.cast ((meanB (at' l k).t 1).toNat) : Int)), Leaf.v (Value.int IntKind.u8 (Nat.cast ((meanB (at' l k).t 2).toNat) : Int)), Leaf.v (Value.int IntKind.u8 (Nat.cast ((meanB (at' l k).t 3).toNat) : Int))]), (40, ag (tl (at' l k).t)), (39, SV.c (Cp.l (Leaf.p 6 2))), (38, SV.c (Cp.l (Leaf.v (Value.string (putB ((at' l k).X + 8192) 2 ++ putB ((at' l k).Y + 8192) 2))))), (37, SV.c (Cp.l (Leaf.v (Value.string (putB ((at' l k).Y + 8192) 2))))), (36, iv IntKind.i64 ((at' l k).Y + 8192)), (35, iv IntKind.i64 (at' l k).Y), (34, SV.c (Cp.l (Leaf.p 6 1))), (33, SV.c (Cp.l (Leaf.p 6 0))), (32, SV.c (Cp.l (Leaf.v (Value.string (putB ((at' l k).X + 8192) 2))))), (31, iv IntKind.i64 ((at' l k).X + 8192)), (30, iv IntKind.i64 (at' l k).X), (29, SV.c (Cp.l (Leaf.p 6 0))), (28, SV.c (Cp.l (Leaf.p 6 0))), (8, SV.c (Cp.l (Leaf.v (Value.string (blobT (at' l k).t))))), (27, SV.c (Cp.l (Leaf.v (Value.string (blobT (at' l k).t))))), (26, ag (tl (at' l k).t)), (25, SV.c (Cp.l (Leaf.p 6 2))), (7, SV.c (Cp.l (Leaf.p 6 0))), (24, ag (el (at' l k))), (23, SV.c (Cp.l (Leaf.p 0 (((Nat.cast k : Int)).toNat * 258)))), (22, bv (decide ((Nat.cast k : Int) < (Nat.cast l.length : Int)))), (21, iv IntKind.i64 (Nat.cast k : Int)), (20, iv IntKind.i64 (Nat.cast l.length : Int)), (19, SV.c (Cp.l (Leaf.o 0 l.length))), (5, SV.c (Cp.l (Leaf.p 3 0))), (4, SV.c (Cp.l (Leaf.p 2 0))), (1, SV.c (Cp.l (Leaf.p 1 0)))] [(3, some (Blk.mk [Leaf.p 3 0, Leaf.o 8 ((blB l k).size + (blobT (at' l k).t).size)] (BT.e 101))), (8, some (Blk.mk (sbytes (blB l k) ++ sbytes (blobT (at' l k).t)) (BT.r 5 1 8))), (2, some (Blk.mk [Leaf.p 2 0, Leaf.o 7 ((hdB l k).size + (entB (at' l k)).size)] (BT.e 101))), (7, some (Blk.mk (sbytes (hdB l k) ++ sbytes (entB (at' l k))) (BT.r 5 1 7))), (6, some (Blk.mk (splice zA258 0 (el (at' l k))) (BT.t 42))), (6, some (Blk.mk zA258 (BT.t 42))), (0, some (Blk.mk (rws l) (BT.r 42 258 0))), (1, some (Blk.mk [Leaf.o 0 l.length] (BT.t 26))), (2, some (Blk.mk [Leaf.p 2 0, Leaf.o 4 (hdB l k).size] (BT.e 101))), (3, some (Blk.mk [Leaf.p 3 0, Leaf.o 5 (blB l k).size] (BT.e 101))), (4, some (Blk.mk (sbytes (hdB l k)) (BT.r 5 1 4))), (5, some (Blk.mk (sbytes (blB l k)) (BT.r 5 1 5)))] 9 68 [3, 8, 2, 7, 6, 6, 5, 4, 3, 2, 1] 1)) (wkK 6 K (Exit.exit 0) (St.mk [(22, bv (decide ((Nat.cast k : Int) < (Nat.cast l.length : Int)))), (21, iv IntKind.i64 (Nat.cast k : Int)), (20, iv IntKind.i64 (Nat.cast l.length : Int)), (19, SV.c (Cp.l (Leaf.o 0 l.length))), (5, SV.c (Cp.l (Leaf.p 3 0))), (4, SV.c (Cp.l (Leaf.p 2 0))), (1, SV.c (Cp.l (Leaf.p 1 0)))] [(0, some (Blk.mk (rws l) (BT.r 42 258 0))), (1, some (Blk.mk [Leaf.o 0 l.length] (BT.t 26))), (2, some (Blk.mk [Leaf.p 2 0, Leaf.o 4 (hdB l k).size] (BT.e 101))), (3, some (Blk.mk [Leaf.p 3 0, Leaf.o 5 (blB l k).size] (BT.e 101))), (4, some (Blk.mk (sbytes (hdB l k)) (BT.r 5 1 4))), (5, some (Blk.mk (sbytes (blB l k)) (BT.r 5 1 5)))] 6 68 [5, 4, 3, 2, 1] 1))) : WPL Tryz.prog ((getLoop 6 (Tryz.f12.body.getD .skip)).getD .skip) (I12 l k) (wkK 6 K) :=
  wp_round (cx := cz_R12 l k) rfl (of_eq (by kernel_rfl) h)
set_option maxRecDepth 100000 in
set_option maxHeartbeats 4000000 in
theorem L12 (l : List TA) (hg : Good l) : ∀ (m k : Nat), l.length - k = m → k ≤ l.length → ∀ (K : Exit → St → Prop), K (.exit 0) (I12 l l.length) → WPL Tryz.prog ((getLoop 6 (Tryz.f12.body.getD .skip)).getD .skip) (I12 l k) (wkK 6 K)
  | 0, k, hm, hk, K, hK => by
    have e : k = l.length := by omega
    subst e
    refine R12 l _ K (HB.mk (fun hne => absurd (of_decide_eq_true hne) (by omega)) (fun he => ?_))
    exact wkK.to (I12 l _) (Nat.le_refl _) (by kernel_rfl) (wkE_cons (LeN.sl (by kernel_rfl) rfl) (wkE_cons (LeN.sl (by kernel_rfl) rfl) (wkE_cons (LeN.sl (by kernel_rfl) rfl) (wkE_cons (LeN.sl (by kernel_rfl) rfl) (wkE_cons (LeN.sl (by kernel_rfl) rfl) (wkE_cons (LeN.sl (by kernel_rfl) rfl) trivial)))))) (wkH_cons (BkN.plain (cs := rws l) (b := .r 42 258 0) (by kernel_rfl) (rfl) (plain_rws l) (by kernel_rfl)) (wkH_cons (BkN.blk (k := ⟨[.o 0 l.length], .t 26⟩) (by kernel_rfl) (rfl) (by kernel_rfl)) (wkH_cons (BkN.blk (k := ⟨[.p 2 0, .o 4 (hdB l l.length).size], .e 101⟩) (by kernel_rfl) (rfl) (by kernel_rfl)) (wkH_cons (BkN.blk (k := ⟨[.p 3 0, .o 5 (blB l l.length).size], .e 101⟩) (by kernel_rfl) (rfl) (by kernel_rfl)) (wkH_cons (BkN.plain (cs := sbytes (hdB l l.length)) (b := .r 5 1 4) (by kernel_rfl) (rfl) (plain_sbytes _) (by kernel_rfl)) (wkH_cons (BkN.plain (cs := sbytes (blB l l.length)) (b := .r 5 1 5) (by kernel_rfl) (rfl) (plain_sbytes _) (by kernel_rfl)) trivial)))))) hK
  | m + 1, k, hm, hk, K, hK => by
    refine R12 l k K (HB.mk (fun hne => ?_) (fun he => absurd (show ((k : Nat) : Int) < (l.length : Nat) by omega) (of_decide_eq_false he)))
    have hlt : k < l.length := by omega
    have hlen := hg.len
    have hh := hdB_le l k
    have hb := blB_le l k
    have he := entB_le (at' l k)
    have hbb := blobT_le (at' l k).t
    have hbp := blobT_pos (at' l k).t
    repeat' (first | exact trivial | with_reducible apply And.intro | (with_reducible apply HB.mk) | with_reducible intro _)
    all_goals first
      | (assumption)
      | (with_reducible exact Le.refl _)
      | ((first | with_reducible refine C47ag _ ?_ ?_ _ _ ?_ | with_reducible refine C47tg _ _ _ ?_ ?_ ?_ ?_ _ _ _ ?_ ?_ ?_ | with_reducible refine C47fg _ _ _ ?_ ?_ ?_ ?_ _ _ _ ?_ ?_ ?_) <;> first | exact plain_sbytes _ | (rw [sbytes_len]; done) | omega)
      | (with_reducible exact C48 _ _)
      | ((with_reducible exact C49L _ _ rfl _))
      | (with_reducible exact C50 _ _ _)
      | ((with_reducible exact C51I _ _ _ _ _))
      | ((with_reducible exact C52L _ _ rfl _))
      | ((with_reducible refine C53 _ ?_ _); first | assumption | decide +kernel | (simp; omega))
      | (exact ⟨by omega, by omega⟩)
      | (rw [rws_len, show (((k : Nat) : Int)).toNat = k from rfl]; omega)
      | (refine Le.of ?_; rw [show (((k : Nat) : Int)).toNat = k from rfl, rws_at hlt])
      | (refine Le.of ?_; rw [put_el]; exact congrArg (fun x => ag x) (tl_take _))
      | ((with_reducible exact C49L _ _ rfl _))
      | (exact Le.of (by rw [blobT_lsB]))
      | (exact Le.of (congrArg (fun l => SV.c (.agg l)) (mean_ub _)))
      | (exact Le.of (by rw [ofI4]))
      | (exact Le.of (by unfold entB; rfl))
      | (exact C52L _ _ rfl _)
      | ((refine Le.int ?_; rw [IntKind.wrap_i64]; have := sumI_bd (blobT (at' l k).t); omega))
      | (exact Le.of rfl)
      | (((with_reducible refine C53 _ ?_ _); have := blobT_le (at' l k).t; omega))
      | ((have := good_xy hg hlt; exact okw _ (by omega) (by omega)))
      | ((rw [IntKind.max_i64]; (try simp only [ByteArray.size_append, putB_sz, sz2, sz4, quad_sz]); have := varB_le (blobT (at' l k).t).size; omega))
      | ((with_reducible refine RoundTo.toN 7 (I12 l (k + 1)) ?_ ?_ ?_ ?_ ?_); exact Nat.le_refl _; kernel_rfl; exact (wkE_cons (LeN.sl (by kernel_rfl) rfl) (wkE_cons (LeN.sl (by kernel_rfl) rfl) (wkE_cons (LeN.sl (by kernel_rfl) rfl) (wkE_cons (LeN.sl (by kernel_rfl) rfl) (wkE_cons (LeN.sl (by kernel_rfl) rfl) (wkE_cons (LeN.sl (by kernel_rfl) rfl) trivial)))))); exact (wkH_cons (BkN.plain (cs := rws l) (b := .r 42 258 0) (by kernel_rfl) (rfl) (plain_rws l) (by kernel_rfl)) (wkH_cons (BkN.blk (k := ⟨[.o 0 l.length], .t 26⟩) (by kernel_rfl) (rfl) (by kernel_rfl)) (wkH_cons (BkN.blk (k := ⟨[.p 2 0, .o 4 ((hdB l k).size + (entB (at' l k)).size)], .e 101⟩) (by kernel_rfl) (by rw [hd_sz]) (by kernel_rfl)) (wkH_cons (BkN.blk (k := ⟨[.p 3 0, .o 5 ((blB l k).size + (blobT (at' l k).t).size)], .e 101⟩) (by kernel_rfl) (by rw [bl_sz]) (by kernel_rfl)) (wkH_cons (BkN.plain (cs := sbytes (hdB l k) ++ sbytes (entB (at' l k))) (b := .r 5 1 4) (by kernel_rfl) (hd_by l k) (plain_sbytes _) (by kernel_rfl)) (wkH_cons (BkN.plain (cs := sbytes (blB l k) ++ sbytes (blobT (at' l k).t)) (b := .r 5 1 5) (by kernel_rfl) (bl_by l k) (plain_sbytes _) (by kernel_rfl)) trivial)))))); exact (L12 l hg m (k + 1) (by omega) (by omega) K hK))
      | ((with_reducible refine RoundTo.reH 8 7 [(5, some 7)] (I12 l (k + 1)) ?_ ?_ ?_ ?_); kernel_rfl; exact (wkER_cons (LeR.of (by kernel_rfl)) (wkER_cons (LeR.of (by kernel_rfl)) (wkER_cons (LeR.of (by kernel_rfl)) (wkER_cons (LeR.of (by kernel_rfl)) (wkER_cons (LeR.of (by kernel_rfl)) (wkER_cons (LeR.of (by kernel_rfl)) trivial)))))); exact (wkHR_cons (j := 0) rfl (BkM.plain (cs := rws l) (b := .r 42 258 0) (by kernel_rfl) (rfl) (plain_rws l) (by kernel_rfl)) (wkHR_cons (j := 1) rfl (BkM.blk (k := ⟨[.o 0 l.length], .t 26⟩) (k'' := ⟨[.o 0 l.length], .t 26⟩) (by kernel_rfl) (by kernel_rfl) rfl) (wkHR_cons (j := 2) rfl (BkM.blk (k := ⟨[.p 2 0, .o 4 ((hdB l k).size + (entB (at' l k)).size)], .e 101⟩) (k'' := ⟨[.p 2 0, .o 4 ((hdB l k).size + (entB (at' l k)).size)], .e 101⟩) (by kernel_rfl) (by kernel_rfl) (by rw [hd_sz])) (wkHR_cons (j := 3) rfl (BkM.blk (k := ⟨[.p 3 0, .o 7 ((blB l k).size + (blobT (at' l k).t).size)], .e 101⟩) (k'' := ⟨[.p 3 0, .o 5 ((blB l k).size + (blobT (at' l k).t).size)], .e 101⟩) (by kernel_rfl) (by kernel_rfl) (by rw [bl_sz])) (wkHR_cons (j := 4) rfl (BkM.plain (cs := sbytes (hdB l k) ++ sbytes (entB (at' l k))) (b := .r 5 1 4) (by kernel_rfl) (hd_by l k) (plain_sbytes _) (by kernel_rfl)) (wkHR_cons (j := 7) rfl (BkM.plain (cs := sbytes (blB l k) ++ sbytes (blobT (at' l k).t)) (b := .r 5 1 7) (by kernel_rfl) (bl_by l k) (plain_sbytes _) (by kernel_rfl)) trivial)))))); exact (L12 l hg m (k + 1) (by omega) (by omega) K hK))
      | ((with_reducible refine RoundTo.reH 8 5 [(4, some 7)] (I12 l (k + 1)) ?_ ?_ ?_ ?_); kernel_rfl; exact (wkER_cons (LeR.of (by kernel_rfl)) (wkER_cons (LeR.of (by kernel_rfl)) (wkER_cons (LeR.of (by kernel_rfl)) (wkER_cons (LeR.of (by kernel_rfl)) (wkER_cons (LeR.of (by kernel_rfl)) (wkER_cons (LeR.of (by kernel_rfl)) trivial)))))); exact (wkHR_cons (j := 0) rfl (BkM.plain (cs := rws l) (b := .r 42 258 0) (by kernel_rfl) (rfl) (plain_rws l) (by kernel_rfl)) (wkHR_cons (j := 1) rfl (BkM.blk (k := ⟨[.o 0 l.length], .t 26⟩) (k'' := ⟨[.o 0 l.length], .t 26⟩) (by kernel_rfl) (by kernel_rfl) rfl) (wkHR_cons (j := 2) rfl (BkM.blk (k := ⟨[.p 2 0, .o 7 ((hdB l k).size + (entB (at' l k)).size)], .e 101⟩) (k'' := ⟨[.p 2 0, .o 4 ((hdB l k).size + (entB (at' l k)).size)], .e 101⟩) (by kernel_rfl) (by kernel_rfl) (by rw [hd_sz])) (wkHR_cons (j := 3) rfl (BkM.blk (k := ⟨[.p 3 0, .o 5 ((blB l k).size + (blobT (at' l k).t).size)], .e 101⟩) (k'' := ⟨[.p 3 0, .o 5 ((blB l k).size + (blobT (at' l k).t).size)], .e 101⟩) (by kernel_rfl) (by kernel_rfl) (by rw [bl_sz])) (wkHR_cons (j := 7) rfl (BkM.plain (cs := sbytes (hdB l k) ++ sbytes (entB (at' l k))) (b := .r 5 1 7) (by kernel_rfl) (hd_by l k) (plain_sbytes _) (by kernel_rfl)) (wkHR_cons (j := 5) rfl (BkM.plain (cs := sbytes (blB l k) ++ sbytes (blobT (at' l k).t)) (b := .r 5 1 5) (by kernel_rfl) (bl_by l k) (plain_sbytes _) (by kernel_rfl)) trivial)))))); exact (L12 l hg m (k + 1) (by omega) (by omega) K hK))
      | ((with_reducible refine RoundTo.reH 9 8 [(4, some 7), (5, some 8)] (I12 l (k + 1)) ?_ ?_ ?_ ?_); kernel_rfl; exact (wkER_cons (LeR.of (by kernel_rfl)) (wkER_cons (LeR.of (by kernel_rfl)) (wkER_cons (LeR.of (by kernel_rfl)) (wkER_cons (LeR.of (by kernel_rfl)) (wkER_cons (LeR.of (by kernel_rfl)) (wkER_cons (LeR.of (by kernel_rfl)) trivial)))))); exact (wkHR_cons (j := 0) rfl (BkM.plain (cs := rws l) (b := .r 42 258 0) (by kernel_rfl) (rfl) (plain_rws l) (by kernel_rfl)) (wkHR_cons (j := 1) rfl (BkM.blk (k := ⟨[.o 0 l.length], .t 26⟩) (k'' := ⟨[.o 0 l.length], .t 26⟩) (by kernel_rfl) (by kernel_rfl) rfl) (wkHR_cons (j := 2) rfl (BkM.blk (k := ⟨[.p 2 0, .o 7 ((hdB l k).size + (entB (at' l k)).size)], .e 101⟩) (k'' := ⟨[.p 2 0, .o 4 ((hdB l k).size + (entB (at' l k)).size)], .e 101⟩) (by kernel_rfl) (by kernel_rfl) (by rw [hd_sz])) (wkHR_cons (j := 3) rfl (BkM.blk (k := ⟨[.p 3 0, .o 8 ((blB l k).size + (blobT (at' l k).t).size)], .e 101⟩) (k'' := ⟨[.p 3 0, .o 5 ((blB l k).size + (blobT (at' l k).t).size)], .e 101⟩) (by kernel_rfl) (by kernel_rfl) (by rw [bl_sz])) (wkHR_cons (j := 7) rfl (BkM.plain (cs := sbytes (hdB l k) ++ sbytes (entB (at' l k))) (b := .r 5 1 7) (by kernel_rfl) (hd_by l k) (plain_sbytes _) (by kernel_rfl)) (wkHR_cons (j := 8) rfl (BkM.plain (cs := sbytes (blB l k) ++ sbytes (blobT (at' l k).t)) (b := .r 5 1 8) (by kernel_rfl) (bl_by l k) (plain_sbytes _) (by kernel_rfl)) trivial)))))); exact (L12 l hg m (k + 1) (by omega) (by omega) K hK))
      | (exact okw _ (by omega) (by omega))
      | (exact Le.of rfl)
      | (exact BkR.of rfl)
      | (unfold SlOK; omega)
      | (unfold SlOK; decide)
      | (unfold inByte; decide)
      | (simp only [*, Bool.and_self, Bool.not_false, Bool.not_true]; done)
      | (simp_all [wants]; done)
def cz_R12s (l : List TA) : Cz := {
  ct := (fun f => match f with
  | 47 => some fun _ap _S ar => match ar with | [.c (.l (.p i _)), .c (.l (.v (.string s)))] => B47 _ap _S i s | _ => none
  | 48 => some fun _ _S ar => match ar with | [.c (.l (.v (.int _ k)))] => some { v := .c (.l (.v (.string ⟨(Oct.M.leb (Oct.u64 k)).toArray⟩))), rd := [], wr := [], nw := 0 } | _ => none
  | 49 => some fun _ _S ar => match ar with | [.c (.agg l)] => some { v := .c (.l (.v (.string (blobT (lsB l))))), rd := [], wr := [], nw := 0 } | _ => none
  | 50 => some fun _ _S ar => match ar with | [.c (.l (.v (.int _ k))), .c (.l (.v (.int _ m)))] => some { v := .c (.l (.v (.string ⟨(Oct.M.be (Oct.sz m) (Oct.u64 k)).toArray⟩))), rd := [], wr := [], nw := 0 } | _ => none
  | 51 => some fun _ _S ar => match ar with | [.c (.agg [.v (.int _ a), .v (.int _ b), .v (.int _ c), .v (.int _ e)])] => some { v := .c (.l (.v (.string ⟨#[ofI a, ofI b, ofI c, ofI e]⟩))), rd := [], wr := [], nw := 0 } | _ => none
  | 52 => some fun _ _S ar => match ar with | [.c (.agg l)] => some { v := ag (meanL (lsB l)), rd := [], wr := [], nw := 0 } | _ => none
  | 53 => some fun _ _S ar => match ar with | [.c (.l (.v (.string s)))] => some { v := iv .u32 (Oct.M.sum s.data.toList : Nat), rd := [], wr := [], nw := 0 } | _ => none
  | 54 => some fun _ _S ar => match ar with | [.c (.l (.p i _))] => some { v := V54 _S i, rd := [i, bf54 _S i], wr := [(bf54 _S i, ⟨[], .x⟩)], nw := 0 } | _ => none
  | 55 => some fun _ _S ar => match ar with | [.c (.l (.v (.string s)))] => some { v := .c (.l (.v (.string ⟨(Oct.txt s).toArray⟩))), rd := [], wr := [], nw := 0 } | _ => none
  | _ => none)
  eq := (fun t => match t with
  | _ => none)
  raw := [], sym := [23, 24], nf := [(24, .c (.agg (el (at' l 0)))), (26, .c (.agg (tl (at' l 0).t))), (27, .c (.l (.v (.string (blobT (at' l 0).t))))), (32, .c (.l (.v (.string (putB ((at' l 0).X + 8192) 2))))), (37, .c (.l (.v (.string (putB ((at' l 0).Y + 8192) 2))))), (40, .c (.agg (tl (at' l 0).t))), (41, .c (.agg [ub (meanB (at' l 0).t 0), ub (meanB (at' l 0).t 1), ub (meanB (at' l 0).t 2), ub (meanB (at' l 0).t 3)])), (42, .c (.l (.v (.string (quadB (at' l 0).t))))), (46, .c (.l (.v (.string (varB (blobT (at' l 0).t).size))))), (49, iv .u32 (sumI (blobT (at' l 0).t))), (50, iv .i64 (sumI (blobT (at' l 0).t))), (51, .c (.l (.v (.string (putB (sumI (blobT (at' l 0).t)) 4))))), (52, .c (.l (.v (.string (entB (at' l 0))))))], ap := true, off := [], on := [], lp := fun _ => none, un := 0, ex := [101] }
set_option maxRecDepth 100000 in
theorem R12s (l : List TA)  (K : Exit → St → Prop) (h : HB (decide (0 < (Nat.cast l.length : Int))) (InR 0 l.length ∧ 258 ≤ (rws l).length ∧ Le (ag (List.take 258 (rws l))) (ag (el (at' l 0))) ∧ Le (ag (List.take 256 (List.drop 2 (splice zA258 0 (el (at' l 0)))))) (ag (tl (at' l 0).t)) ∧ CallOKd Tryz.prog 49 [] [ag (tl (at' l 0).t)] [] 6 (SV.c (Cp.l (Leaf.v (Value.string (blobT (lsB (tl (at' l 0).t))))))) [] 0 ∧ Le (SV.c (Cp.l (Leaf.v (Value.string (blobT (lsB (tl (at' l 0).t))))))) (SV.c (Cp.l (Leaf.v (Value.string (blobT (at' l 0).t))))) ∧ (IntKind.i64.wrap ((at' l 0).X + 8192) = (at' l 0).X + 8192 ∧ CallOKd Tryz.prog 50 [] [iv IntKind.i64 ((at' l 0).X + 8192), iv IntKind.i64 2] [] 6 (SV.c (Cp.l (Leaf.v (Value.string (ByteArray.mk (Oct.M.be (Oct.sz 2) (Oct.u64 ((at' l 0).X + 8192))).toArray))))) [] 0 ∧ Le (SV.c (Cp.l (Leaf.v (Value.string (ByteArray.mk (Oct.M.be (Oct.sz 2) (Oct.u64 ((at' l 0).X + 8192))).toArray))))) (SV.c (Cp.l (Leaf.v (Value.string (putB ((at' l 0).X + 8192) 2))))) ∧ IntKind.i64.wrap ((at' l 0).Y + 8192) = (at' l 0).Y + 8192 ∧ CallOKd Tryz.prog 50 [] [iv IntKind.i64 ((at' l 0).Y + 8192), iv IntKind.i64 2] [] 6 (SV.c (Cp.l (Leaf.v (Value.string (ByteArray.mk (Oct.M.be (Oct.sz 2) (Oct.u64 ((at' l 0).Y + 8192))).toArray))))) [] 0 ∧ Le (SV.c (Cp.l (Leaf.v (Value.string (ByteArray.mk (Oct.M.be (Oct.sz 2) (Oct.u64 ((at' l 0).Y + 8192))).toArray))))) (SV.c (Cp.l (Leaf.v (Value.string (putB ((at' l 0).Y + 8192) 2))))) ∧ (Nat.cast (((putB ((at' l 0).X + 8192) 2).size + (putB ((at' l 0).Y + 8192) 2).size)) : Int) ≤ IntKind.i64.max ∧ Le (ag (List.take 256 (List.drop 2 (splice zA258 0 (el (at' l 0)))))) (ag (tl (at' l 0).t)) ∧ CallOKd Tryz.prog 52 [] [ag (tl (at' l 0).t)] [] 6 (ag [Leaf.v (Value.int IntKind.u8 (mch (mS (lsB (tl (at' l 0).t)) 0 64) (mS (lsB (tl (at' l 0).t)) 3 64))), Leaf.v (Value.int IntKind.u8 (mch (mS (lsB (tl (at' l 0).t)) 1 64) (mS (lsB (tl (at' l 0).t)) 3 64))), Leaf.v (Value.int IntKind.u8 (mch (mS (lsB (tl (at' l 0).t)) 2 64) (mS (lsB (tl (at' l 0).t)) 3 64))), Leaf.v (Value.int IntKind.u8 (mal (mS (lsB (tl (at' l 0).t)) 3 64)))]) [] 0 ∧ Le (ag [Leaf.v (Value.int IntKind.u8 (mch (mS (lsB (tl (at' l 0).t)) 0 64) (mS (lsB (tl (at' l 0).t)) 3 64))), Leaf.v (Value.int IntKind.u8 (mch (mS (lsB (tl (at' l 0).t)) 1 64) (mS (lsB (tl (at' l 0).t)) 3 64))), Leaf.v (Value.int IntKind.u8 (mch (mS (lsB (tl (at' l 0).t)) 2 64) (mS (lsB (tl (at' l 0).t)) 3 64))), Leaf.v (Value.int IntKind.u8 (mal (mS (lsB (tl (at' l 0).t)) 3 64)))]) (ag [Leaf.v (Value.int IntKind.u8 (Nat.cast ((meanB (at' l 0).t 0).toNat) : Int)), Leaf.v (Value.int IntKind.u8 (Nat.cast ((meanB (at' l 0).t 1).toNat) : Int)), Leaf.v (Value.int IntKind.u8 (Nat.cast ((meanB (at' l 0).t 2).toNat) : Int)), Leaf.v (Value.int IntKind.u8 (Nat.cast ((meanB (at' l 0).t 3).toNat) : Int))]) ∧ CallOKd Tryz.prog 51 [] [ag [Leaf.v (Value.int IntKind.u8 (Nat.cast ((meanB (at' l 0).t 0).toNat) : Int)), Leaf.v (Value.int IntKind.u8 (Nat.cast ((meanB (at' l 0).t 1).toNat) : Int)), Leaf.v (Value.int IntKind.u8 (Nat.cast ((meanB (at' l 0).t 2).toNat) : Int)), Leaf.v (Value.int IntKind.u8 (Nat.cast ((meanB (at' l 0).t 3).toNat) : Int))]] [] 6 (SV.c (Cp.l (Leaf.v (Value.string (ByteArray.mk #[ofI (Nat.cast ((meanB (at' l 0).t 0).toNat) : Int), ofI (Nat.cast ((meanB (at' l 0).t 1).toNat) : Int), ofI (Nat.cast ((meanB (at' l 0).t 2).toNat) : Int), ofI (Nat.cast ((meanB (at' l 0).t 3).toNat) : Int)]))))) [] 0 ∧ Le (SV.c (Cp.l (Leaf.v (Value.string (ByteArray.mk #[ofI (Nat.cast ((meanB (at' l 0).t 0).toNat) : Int), ofI (Nat.cast ((meanB (at' l 0).t 1).toNat) : Int), ofI (Nat.cast ((meanB (at' l 0).t 2).toNat) : Int), ofI (Nat.cast ((meanB (at' l 0).t 3).toNat) : Int)]))))) (SV.c (Cp.l (Leaf.v (Value.string (quadB (at' l 0).t))))) ∧ (Nat.cast (((putB ((at' l 0).X + 8192) 2 ++ putB ((at' l 0).Y + 8192) 2).size + (quadB (at' l 0).t).size)) : Int) ≤ IntKind.i64.max ∧ CallOKd Tryz.prog 48 [] [iv IntKind.i64 (Nat.cast ((blobT (at' l 0).t).size) : Int)] [] 6 (SV.c (Cp.l (Leaf.v (Value.string (ByteArray.mk (Oct.M.leb (Oct.u64 (Nat.cast ((blobT (at' l 0).t).size) : Int))).toArray))))) [] 0 ∧ Le (SV.c (Cp.l (Leaf.v (Value.string (ByteArray.mk (Oct.M.leb (Oct.u64 (Nat.cast ((blobT (at' l 0).t).size) : Int))).toArray))))) (SV.c (Cp.l (Leaf.v (Value.string (varB (Nat.cast ((blobT (at' l 0).t).size) : Int)))))) ∧ (Nat.cast (((putB ((at' l 0).X + 8192) 2 ++ putB ((at' l 0).Y + 8192) 2 ++ quadB (at' l 0).t).size + (varB (Nat.cast ((blobT (at' l 0).t).size) : Int)).size)) : Int) ≤ IntKind.i64.max ∧ CallOKd Tryz.prog 53 [] [SV.c (Cp.l (Leaf.v (Value.string (blobT (at' l 0).t))))] [] 6 (iv IntKind.u32 (Nat.cast ((Oct.M.sum (blobT (at' l 0).t).data.toList)) : Int)) [] 0 ∧ Le (iv IntKind.u32 (Nat.cast ((Oct.M.sum (blobT (at' l 0).t).data.toList)) : Int)) (iv IntKind.u32 (sumI (blobT (at' l 0).t))) ∧ Le (iv IntKind.i64 (IntKind.i64.wrap (sumI (blobT (at' l 0).t)))) (iv IntKind.i64 (sumI (blobT (at' l 0).t))) ∧ CallOKd Tryz.prog 50 [] [iv IntKind.i64 (sumI (blobT (at' l 0).t)), iv IntKind.i64 4] [] 6 (SV.c (Cp.l (Leaf.v (Value.string (ByteArray.mk (Oct.M.be (Oct.sz 4) (Oct.u64 (sumI (blobT (at' l 0).t)))).toArray))))) [] 0 ∧ Le (SV.c (Cp.l (Leaf.v (Value.string (ByteArray.mk (Oct.M.be (Oct.sz 4) (Oct.u64 (sumI (blobT (at' l 0).t)))).toArray))))) (SV.c (Cp.l (Leaf.v (Value.string (putB (sumI (blobT (at' l 0).t)) 4))))) ∧ (Nat.cast (((putB ((at' l 0).X + 8192) 2 ++ putB ((at' l 0).Y + 8192) 2 ++ quadB (at' l 0).t ++ varB (Nat.cast ((blobT (at' l 0).t).size) : Int)).size + (putB (sumI (blobT (at' l 0).t)) 4).size)) : Int) ≤ IntKind.i64.max ∧ Le (SV.c (Cp.l (Leaf.v (Value.string (putB ((at' l 0).X + 8192) 2 ++ putB ((at' l 0).Y + 8192) 2 ++ quadB (at' l 0).t ++ varB (Nat.cast ((blobT (at' l 0).t).size) : Int) ++ putB (sumI (blobT (at' l 0).t)) 4))))) (SV.c (Cp.l (Leaf.v (Value.string (entB (at' l 0)))))) ∧ CallOKd Tryz.prog 47 [(4, (hdB l 0).size + (entB (at' l 0)).size, true)] [SV.c (Cp.l (Leaf.p 2 0)), SV.c (Cp.l (Leaf.v (Value.string (entB (at' l 0)))))] [(2, Blk.mk [Leaf.p 2 0, Leaf.o 4 (hdB l 0).size] (BT.e 101)), (4, Blk.mk (sbytes (hdB l 0)) (BT.r 5 1 4))] 6 (SV.tup [Cp.l (li (Nat.cast ((entB (at' l 0)).size) : Int)), Cp.l (Leaf.v Value.nilIface)]) [(2, Blk.mk [Leaf.p 2 0, Leaf.o 4 ((hdB l 0).size + (entB (at' l 0)).size)] (BT.e 101)), (4, Blk.mk (sbytes (hdB l 0) ++ sbytes (entB (at' l 0))) (BT.r 5 1 4))] 0 ∧ CallOKd Tryz.prog 47 [] [SV.c (Cp.l (Leaf.p 3 0)), SV.c (Cp.l (Leaf.v (Value.string (blobT (at' l 0).t))))] [(3, Blk.mk [Leaf.v (Value.pointer none), Leaf.v (Value.slice none 0 0)] (BT.e 101))] 6 (SV.tup [Cp.l (li (Nat.cast ((blobT (at' l 0).t).size) : Int)), Cp.l (Leaf.v Value.nilIface)]) [(3, Blk.mk [Leaf.p 3 0, Leaf.o 6 (blobT (at' l 0).t).size] (BT.e 101)), (6, Blk.mk (sbytes (blobT (at' l 0).t)) (BT.r 5 1 6))] 1 ∧ IntKind.i64.wrap (0 + 1) = 0 + 1 ∧ RoundTo Tryz.prog ((getLoop 6 (Tryz.f12.body.getD Code.skip)).getD Code.skip) 5 (wkK 5 K) (St.mk [(21, iv IntKind.i64 (0 + 1)), (56, iv IntKind.i64 (0 + 1)), (55, SV.tup [Cp.l (li (Nat.cast ((blobT (at' l 0).t).size) : Int)), Cp.l (Leaf.v Value.nilIface)]), (54, SV.c (Cp.l (Leaf.v (Value.string (blobT (at' l 0).t))))), (53, SV.tup [Cp.l (li (Nat.cast ((entB (at' l 0)).size) : Int)), Cp.l (Leaf.v Value.nilIface)]), (52, SV.c (Cp.l (Leaf.v (Value.string (entB (at' l 0)))))), (51, SV.c (Cp.l (Leaf.v (Value.string (putB (sumI (blobT (at' l 0).t)) 4))))), (50, iv IntKind.i64 (sumI (blobT (at' l 0).t))), (49, iv IntKind.u32 (sumI (blobT (at' l 0).t))), (48, SV.c (Cp.l (Leaf.v (Value.string (blobT (at' l 0).t))))), (47, SV.c (Cp.l (Leaf.v (Value.string (putB ((at' l 0).X + 8192) 2 ++ putB ((at' l 0).Y + 8192) 2 ++ quadB (at' l 0).t ++ varB (Nat.cast ((blobT (at' l 0).t).size) : Int)))))), (46, SV.c (Cp.l (Leaf.v (Value.string (varB (Nat.cast ((blobT (at' l 0).t).size) : Int)))))), (45, iv IntKind.i64 (Nat.cast ((blobT (at' l 0).t).size) : Int)), (44, SV.c (Cp.l (Leaf.v (Value.string (blobT (at' l 0).t))))), (43, SV.c (Cp.l (Leaf.v (Value.string (putB ((at' l 0).X + 8192) 2 ++ putB ((at' l 0).Y + 8192) 2 ++ quadB (at' l 0).t))))), (42, SV.c (Cp.l (Leaf.v (Value.string (quadB (at' l 0).t))))), (41, ag [Leaf.v (Value.int IntKind.u8 (Nat.cast ((meanB (at' l 0).t 0).toNat) : Int)), Leaf.v (Value.int IntKind.u8 (Nat.cast ((meanB (at' l 0).t 1).toNat) : Int)), Leaf.v (Value.int IntKind.u8 (Nat.cast ((meanB (at' l 0).t 2).toNat) : Int)), Leaf.v (Value.int IntKind.u8 (Nat.cast ((meanB (at' l 0).t 3).toNat) : Int))]), (40, ag (tl (at' l 0).t)), (39, SV.c (Cp.l (Leaf.p 5 2))), (38, SV.c (Cp.l (Leaf.v (Value.string (putB ((at' l 0).X + 8192) 2 ++ putB ((at' l 0).Y + 8192) 2))))), (37, SV.c (Cp.l (Leaf.v (Value.string (putB ((at' l 0).Y + 8192) 2))))), (36, iv IntKind.i64 ((at' l 0).Y + 8192)), (35, iv IntKind.i64 (at' l 0).Y), (34, SV.c (Cp.l (Leaf.p 5 1))), (33, SV.c (Cp.l (Leaf.p 5 0))), (32, SV.c (Cp.l (Leaf.v (Value.string (putB ((at' l 0).X + 8192) 2))))), (31, iv IntKind.i64 ((at' l 0).X + 8192)), (30, iv IntKind.i64 (at' l 0).X), (29, SV.c (Cp.l (Leaf.p 5 0))), (28, SV.c (Cp.l (Leaf.p 5 0))), (8, SV.c (Cp.l (Leaf.v (Value.string (blobT (at' l 0).t))))), (27, SV.c (Cp.l (Leaf.v (Value.string (blobT (at' l 0).t))))), (26, ag (tl (at' l 0).t)), (25, SV.c (Cp.l (Leaf.p 5 2))), (7, SV.c (Cp.l (Leaf.p 5 0))), (24, ag (el (at' l 0))), (23, SV.c (Cp.l (Leaf.p 0 0))), (22, bv (decide (0 < (Nat.cast l.length : Int)))), (21, iv IntKind.i64 0), (20, iv IntKind.i64 (Nat.cast l.length : Int)), (19, SV.c (Cp.l (Leaf.o 0 l.length))), (5, SV.c (Cp.l (Leaf.p 3 0))), (4, SV.c (Cp.l (Leaf.p 2 0))), (1, SV.c (Cp.l (Leaf.p 1 0)))] [(3, some (Blk.mk [Leaf.p 3 0, Leaf.o 6 (blobT (at' l 0).t).size] (BT.e 101))), (6, some (Blk.mk (sbytes (blobT (at' l 0).t)) (BT.r 5 1 6))), (2, some (Blk.mk [Leaf.p 2 0, Leaf.o 4 ((hdB l 0).size + (entB (at' l 0)).size)] (BT.e 101))), (4, some (Blk.mk (sbytes (hdB l 0) ++ sbytes (entB (at' l 0))) (BT.r 5 1 4))), (5, some (Blk.mk (splice zA258 0 (el (at' l 0))) (BT.t 42))), (5, some (Blk.mk zA258 (BT.t 42))), (0, some (Blk.mk (rws l) (BT.r 42 258 0))), (1, some (Blk.mk [Leaf.o 0 l.length] (BT.t 26))), (2, some (Blk.mk [Leaf.p 2 0, Leaf.o 4 (hdB l 0).size] (BT.e 101))), (3, some (Blk.mk [Leaf.v (Value.pointer none), Leaf.v (Value.slice none 0 0)] (BT.e 101))), (4, some (Blk.mk (sbytes (hdB l 0)) (BT.r 5 1 4)))] 7 68 [3, 6, 2, 4, 5, 5, 4, 3, 2, 1] 1)) ∧ IntKind.i64.wrap ((at' l 0).X + 8192) = (at' l 0).X + 8192 ∧ CallOKd Tryz.prog 50 [] [iv IntKind.i64 ((at' l 0).X + 8192), iv IntKind.i64 2] [] 6 (SV.c (Cp.l (Leaf.v (Value.string (ByteArray.mk (Oct.M.be (Oct.sz 2) (Oct.u64 ((at' l 0).X + 8192))).toArray))))) [] 0 ∧ Le (SV.c (Cp.l (Leaf.v (Value.string (ByteArray.mk (Oct.M.be (Oct.sz 2) (Oct.u64 ((at' l 0).X + 8192))).toArray))))) (SV.c (Cp.l (Leaf.v (Value.string (putB ((at' l 0).X + 8192) 2))))) ∧ IntKind.i64.wrap ((at' l 0).Y + 8192) = (at' l 0).Y + 8192 ∧ CallOKd Tryz.prog 50 [] [iv IntKind.i64 ((at' l 0).Y + 8192), iv IntKind.i64 2] [] 6 (SV.c (Cp.l (Leaf.v (Value.string (ByteArray.mk (Oct.M.be (Oct.sz 2) (Oct.u64 ((at' l 0).Y + 8192))).toArray))))) [] 0 ∧ Le (SV.c (Cp.l (Leaf.v (Value.string (ByteArray.mk (Oct.M.be (Oct.sz 2) (Oct.u64 ((at' l 0).Y + 8192))).toArray))))) (SV.c (Cp.l (Leaf.v (Value.string (putB ((at' l 0).Y + 8192) 2))))) ∧ (Nat.cast (((putB ((at' l 0).X + 8192) 2).size + (putB ((at' l 0).Y + 8192) 2).size)) : Int) ≤ IntKind.i64.max ∧ Le (ag (List.take 256 (List.drop 2 (splice zA258 0 (el (at' l 0)))))) (ag (tl (at' l 0).t)) ∧ CallOKd Tryz.prog 52 [] [ag (tl (at' l 0).t)] [] 6 (ag [Leaf.v (Value.int IntKind.u8 (mch (mS (lsB (tl (at' l 0).t)) 0 64) (mS (lsB (tl (at' l 0).t)) 3 64))), Leaf.v (Value.int IntKind.u8 (mch (mS (lsB (tl (at' l 0).t)) 1 64) (mS (lsB (tl (at' l 0).t)) 3 64))), Leaf.v (Value.int IntKind.u8 (mch (mS (lsB (tl (at' l 0).t)) 2 64) (mS (lsB (tl (at' l 0).t)) 3 64))), Leaf.v (Value.int IntKind.u8 (mal (mS (lsB (tl (at' l 0).t)) 3 64)))]) [] 0 ∧ Le (ag [Leaf.v (Value.int IntKind.u8 (mch (mS (lsB (tl (at' l 0).t)) 0 64) (mS (lsB (tl (at' l 0).t)) 3 64))), Leaf.v (Value.int IntKind.u8 (mch (mS (lsB (tl (at' l 0).t)) 1 64) (mS (lsB (tl (at' l 0).t)) 3 64))), Leaf.v (Value.int IntKind.u8 (mch (mS (lsB (tl (at' l 0).t)) 2 64) (mS (lsB (tl (at' l 0).t)) 3 64))), Leaf.v (Value.int IntKind.u8 (mal (mS (lsB (tl (at' l 0).t)) 3 64)))]) (ag [Leaf.v (Value.int IntKind.u8 (Nat.cast ((meanB (at' l 0).t 0).toNat) : Int)), Leaf.v (Value.int IntKind.u8 (Nat.cast ((meanB (at' l 0).t 1).toNat) : Int)), Leaf.v (Value.int IntKind.u8 (Nat.cast ((meanB (at' l 0).t 2).toNat) : Int)), Leaf.v (Value.int IntKind.u8 (Nat.cast ((meanB (at' l 0).t 3).toNat) : Int))]) ∧ CallOKd Tryz.prog 51 [] [ag [Leaf.v (Value.int IntKind.u8 (Nat.cast ((meanB (at' l 0).t 0).toNat) : Int)), Leaf.v (Value.int IntKind.u8 (Nat.cast ((meanB (at' l 0).t 1).toNat) : Int)), Leaf.v (Value.int IntKind.u8 (Nat.cast ((meanB (at' l 0).t 2).toNat) : Int)), Leaf.v (Value.int IntKind.u8 (Nat.cast ((meanB (at' l 0).t 3).toNat) : Int))]] [] 6 (SV.c (Cp.l (Leaf.v (Value.string (ByteArray.mk #[ofI (Nat.cast ((meanB (at' l 0).t 0).toNat) : Int), ofI (Nat.cast ((meanB (at' l 0).t 1).toNat) : Int), ofI (Nat.cast ((meanB (at' l 0).t 2).toNat) : Int), ofI (Nat.cast ((meanB (at' l 0).t 3).toNat) : Int)]))))) [] 0 ∧ Le (SV.c (Cp.l (Leaf.v (Value.string (ByteArray.mk #[ofI (Nat.cast ((meanB (at' l 0).t 0).toNat) : Int), ofI (Nat.cast ((meanB (at' l 0).t 1).toNat) : Int), ofI (Nat.cast ((meanB (at' l 0).t 2).toNat) : Int), ofI (Nat.cast ((meanB (at' l 0).t 3).toNat) : Int)]))))) (SV.c (Cp.l (Leaf.v (Value.string (quadB (at' l 0).t))))) ∧ (Nat.cast (((putB ((at' l 0).X + 8192) 2 ++ putB ((at' l 0).Y + 8192) 2).size + (quadB (at' l 0).t).size)) : Int) ≤ IntKind.i64.max ∧ CallOKd Tryz.prog 48 [] [iv IntKind.i64 (Nat.cast ((blobT (at' l 0).t).size) : Int)] [] 6 (SV.c (Cp.l (Leaf.v (Value.string (ByteArray.mk (Oct.M.leb (Oct.u64 (Nat.cast ((blobT (at' l 0).t).size) : Int))).toArray))))) [] 0 ∧ Le (SV.c (Cp.l (Leaf.v (Value.string (ByteArray.mk (Oct.M.leb (Oct.u64 (Nat.cast ((blobT (at' l 0).t).size) : Int))).toArray))))) (SV.c (Cp.l (Leaf.v (Value.string (varB (Nat.cast ((blobT (at' l 0).t).size) : Int)))))) ∧ (Nat.cast (((putB ((at' l 0).X + 8192) 2 ++ putB ((at' l 0).Y + 8192) 2 ++ quadB (at' l 0).t).size + (varB (Nat.cast ((blobT (at' l 0).t).size) : Int)).size)) : Int) ≤ IntKind.i64.max ∧ CallOKd Tryz.prog 53 [] [SV.c (Cp.l (Leaf.v (Value.string (blobT (at' l 0).t))))] [] 6 (iv IntKind.u32 (Nat.cast ((Oct.M.sum (blobT (at' l 0).t).data.toList)) : Int)) [] 0 ∧ Le (iv IntKind.u32 (Nat.cast ((Oct.M.sum (blobT (at' l 0).t).data.toList)) : Int)) (iv IntKind.u32 (sumI (blobT (at' l 0).t))) ∧ Le (iv IntKind.i64 (IntKind.i64.wrap (sumI (blobT (at' l 0).t)))) (iv IntKind.i64 (sumI (blobT (at' l 0).t))) ∧ CallOKd Tryz.prog 50 [] [iv IntKind.i64 (sumI (blobT (at' l 0).t)), iv IntKind.i64 4] [] 6 (SV.c (Cp.l (Leaf.v (Value.string (ByteArray.mk (Oct.M.be (Oct.sz 4) (Oct.u64 (sumI (blobT (at' l 0).t)))).toArray))))) [] 0 ∧ Le (SV.c (Cp.l (Leaf.v (Value.string (ByteArray.mk (Oct.M.be (Oct.sz 4) (Oct.u64 (sumI (blobT (at' l 0).t)))).toArray))))) (SV.c (Cp.l (Leaf.v (Value.string (putB (sumI (blobT (at' l 0).t)) 4))))) ∧ (Nat.cast (((putB ((at' l 0).X + 8192) 2 ++ putB ((at' l 0).Y + 8192) 2 ++ quadB (at' l 0).t ++ varB (Nat.cast ((blobT (at' l 0).t).size) : Int)).size + (putB (sumI (blobT (at' l 0).t)) 4).size)) : Int) ≤ IntKind.i64.max ∧ Le (SV.c (Cp.l (Leaf.v (Value.string (putB ((at' l 0).X + 8192) 2 ++ putB ((at' l 0).Y + 8192) 2 ++ quadB (at' l 0).t ++ varB (Nat.cast ((blobT (at' l 0).t).size) : Int) ++ putB (sumI (blobT (at' l 0).t)) 4))))) (SV.c (Cp.l (Leaf.v (Value.string (entB (at' l 0)))))) ∧ [(4, (hdB l 0).size + (entB (at' l 0)).size, false)] = [(4, (hdB l 0).size + (entB (at' l 0)).size, false)] ∧ CallOKd Tryz.prog 47 [(4, (hdB l 0).size + (entB (at' l 0)).size, false)] [SV.c (Cp.l (Leaf.p 2 0)), SV.c (Cp.l (Leaf.v (Value.string (entB (at' l 0)))))] [(2, Blk.mk [Leaf.p 2 0, Leaf.o 4 (hdB l 0).size] (BT.e 101)), (4, Blk.mk (sbytes (hdB l 0)) (BT.r 5 1 4))] 6 (SV.tup [Cp.l (li (Nat.cast ((entB (at' l 0)).size) : Int)), Cp.l (Leaf.v Value.nilIface)]) [(2, Blk.mk [Leaf.p 2 0, Leaf.o 6 ((hdB l 0).size + (entB (at' l 0)).size)] (BT.e 101)), (6, Blk.mk (sbytes (hdB l 0) ++ sbytes (entB (at' l 0))) (BT.r 5 1 6))] 1 ∧ CallOKd Tryz.prog 47 [] [SV.c (Cp.l (Leaf.p 3 0)), SV.c (Cp.l (Leaf.v (Value.string (blobT (at' l 0).t))))] [(3, Blk.mk [Leaf.v (Value.pointer none), Leaf.v (Value.slice none 0 0)] (BT.e 101))] 7 (SV.tup [Cp.l (li (Nat.cast ((blobT (at' l 0).t).size) : Int)), Cp.l (Leaf.v Value.nilIface)]) [(3, Blk.mk [Leaf.p 3 0, Leaf.o 7 (blobT (at' l 0).t).size] (BT.e 101)), (7, Blk.mk (sbytes (blobT (at' l 0).t)) (BT.r 5 1 7))] 1 ∧ IntKind.i64.wrap (0 + 1) = 0 + 1 ∧ RoundTo Tryz.prog ((getLoop 6 (Tryz.f12.body.getD Code.skip)).getD Code.skip) 5 (wkK 5 K) (St.mk [(21, iv IntKind.i64 (0 + 1)), (56, iv IntKind.i64 (0 + 1)), (55, SV.tup [Cp.l (li (Nat.cast ((blobT (at' l 0).t).size) : Int)), Cp.l (Leaf.v Value.nilIface)]), (54, SV.c (Cp.l (Leaf.v (Value.string (blobT (at' l 0).t))))), (53, SV.tup [Cp.l (li (Nat.cast ((entB (at' l 0)).size) : Int)), Cp.l (Leaf.v Value.nilIface)]), (52, SV.c (Cp.l (Leaf.v (Value.string (entB (at' l 0)))))), (51, SV.c (Cp.l (Leaf.v (Value.string (putB (sumI (blobT (at' l 0).t)) 4))))), (50, iv IntKind.i64 (sumI (blobT (at' l 0).t))), (49, iv IntKind.u32 (sumI (blobT (at' l 0).t))), (48, SV.c (Cp.l (Leaf.v (Value.string (blobT (at' l 0).t))))), (47, SV.c (Cp.l (Leaf.v (Value.string (putB ((at' l 0).X + 8192) 2 ++ putB ((at' l 0).Y + 8192) 2 ++ quadB (at' l 0).t ++ varB (Nat.cast ((blobT (at' l 0).t).size) : Int)))))), (46, SV.c (Cp.l (Leaf.v (Value.string (varB (Nat.cast ((blobT (at' l 0).t).size) : Int)))))), (45, iv IntKind.i64 (Nat.cast ((blobT (at' l 0).t).size) : Int)), (44, SV.c (Cp.l (Leaf.v (Value.string (blobT (at' l 0).t))))), (43, SV.c (Cp.l (Leaf.v (Value.string (putB ((at' l 0).X + 8192) 2 ++ putB ((at' l 0).Y + 8192) 2 ++ quadB (at' l 0).t))))), (42, SV.c (Cp.l (Leaf.v (Value.string (quadB (at' l 0).t))))), (41, ag [Leaf.v (Value.int IntKind.u8 (Nat.cast ((meanB (at' l 0).t 0).toNat) : Int)), Leaf.v (Value.int IntKind.u8 (Nat.cast ((meanB (at' l 0).t 1).toNat) : Int)), Leaf.v (Value.int IntKind.u8 (Nat.cast ((meanB (at' l 0).t 2).toNat) : Int)), Leaf.v (Value.int IntKind.u8 (Nat.cast ((meanB (at' l 0).t 3).toNat) : Int))]), (40, ag (tl (at' l 0).t)), (39, SV.c (Cp.l (Leaf.p 5 2))), (38, SV.c (Cp.l (Leaf.v (Value.string (putB ((at' l 0).X + 8192) 2 ++ putB ((at' l 0).Y + 8192) 2))))), (37, SV.c (Cp.l (Leaf.v (Value.string (putB ((at' l 0).Y + 8192) 2))))), (36, iv IntKind.i64 ((at' l 0).Y + 8192)), (35, iv IntKind.i64 (at' l 0).Y), (34, SV.c (Cp.l (Leaf.p 5 1))), (33, SV.c (Cp.l (Leaf.p 5 0))), (32, SV.c (Cp.l (Leaf.v (Value.string (putB ((at' l 0).X + 8192) 2))))), (31, iv IntKind.i64 ((at' l 0).X + 8192)), (30, iv IntKind.i64 (at' l 0).X), (29, SV.c (Cp.l (Leaf.p 5 0))), (28, SV.c (Cp.l (Leaf.p 5 0))), (8, SV.c (Cp.l (Leaf.v (Value.string (blobT (at' l 0).t))))), (27, SV.c (Cp.l (Leaf.v (Value.string (blobT (at' l 0).t))))), (26, ag (tl (at' l 0).t)), (25, SV.c (Cp.l (Leaf.p 5 2))), (7, SV.c (Cp.l (Leaf.p 5 0))), (24, ag (el (at' l 0))), (23, SV.c (Cp.l (Leaf.p 0 0))), (22, bv (decide (0 < (Nat.cast l.length : Int)))), (21, iv IntKind.i64 0), (20, iv IntKind.i64 (Nat.cast l.length : Int)), (19, SV.c (Cp.l (Leaf.o 0 l.length))), (5, SV.c (Cp.l (Leaf.p 3 0))), (4, SV.c (Cp.l (Leaf.p 2 0))), (1, SV.c (Cp.l (Leaf.p 1 0)))] [(3, some (Blk.mk [Leaf.p 3 0, Leaf.o 7 (blobT (at' l 0).t).size] (BT.e 101))), (7, some (Blk.mk (sbytes (blobT (at' l 0).t)) (BT.r 5 1 7))), (2, some (Blk.mk [Leaf.p 2 0, Leaf.o 6 ((hdB l 0).size + (entB (at' l 0)).size)] (BT.e 101))), (6, some (Blk.mk (sbytes (hdB l 0) ++ sbytes (entB (at' l 0))) (BT.r 5 1 6))), (5, some (Blk.mk (splice zA258 0 (el (at' l 0))) (BT.t 42))), (5, some (Blk.mk zA258 (BT.t 42))), (0, some (Blk.mk (rws l) (BT.r 42 258 0))), (1, some (Blk.mk [Leaf.o 0 l.length] (BT.t 26))), (2, some (Blk.mk [Leaf.p 2 0, Leaf.o 4 (hdB l 0).size] (BT.e 101))), (3, some (Blk.mk [Leaf.v (Value.pointer none), Leaf.v (Value.slice none 0 0)] (BT.e 101))), (4, some (Blk.mk (sbytes (hdB l 0)) (BT.r 5 1 4)))] 8 68 [3, 7, 2, 6, 5, 5, 4, 3, 2, 1] 1)) (wkK 5 K (Exit.exit 0) (St.mk [(22, bv (decide (0 < (Nat.cast l.length : Int)))), (21, iv IntKind.i64 0), (20, iv IntKind.i64 (Nat.cast l.length : Int)), (19, SV.c (Cp.l (Leaf.o 0 l.length))), (5, SV.c (Cp.l (Leaf.p 3 0))), (4, SV.c (Cp.l (Leaf.p 2 0))), (1, SV.c (Cp.l (Leaf.p 1 0)))] [(0, some (Blk.mk (rws l) (BT.r 42 258 0))), (1, some (Blk.mk [Leaf.o 0 l.length] (BT.t 26))), (2, some (Blk.mk [Leaf.p 2 0, Leaf.o 4 (hdB l 0).size] (BT.e 101))), (3, some (Blk.mk [Leaf.v (Value.pointer none), Leaf.v (Value.slice none 0 0)] (BT.e 101))), (4, some (Blk.mk (sbytes (hdB l 0)) (BT.r 5 1 4)))] 5 68 [4, 3, 2, 1] 1))) : WPL Tryz.prog ((getLoop 6 (Tryz.f12.body.getD .skip)).getD .skip) (I12s l) (wkK 5 K) :=
  wp_round (cx := cz_R12s l) rfl (of_eq (by kernel_rfl) h)
theorem WPL.mono {P : Program} {c : Code} {S : St} {K K' : Exit → St → Prop} (h : WPL P c S K) (hk : ∀ e S', K e S' → K' e S') : WPL P c S K' := fun β a x hR => loopAt_mono (h β a x hR) (Post.mono hk)
set_option maxRecDepth 100000 in
set_option maxHeartbeats 4000000 in
theorem L12s (l : List TA) (hg : Good l) (hl : 0 < l.length) (K : Exit → St → Prop) (hK : K (.exit 0) (I12 l l.length)) : WPL Tryz.prog ((getLoop 6 (Tryz.f12.body.getD .skip)).getD .skip) (I12s l) (wkK 5 K) := by
  refine R12s l K (HB.mk (fun hne => ?_) (fun he => absurd (show (0 : Int) < l.length by omega) (of_decide_eq_false he)))
  have hlt : 0 < l.length := hl
  have hlen := hg.len
  have hh := hdB_le l 0
  have hb := blB_le l 0
  have he := entB_le (at' l 0)
  have hbb := blobT_le (at' l 0).t
  have hbp := blobT_pos (at' l 0).t
  repeat' (first | exact trivial | with_reducible apply And.intro | (with_reducible apply HB.mk) | with_reducible intro _)
  all_goals first
    | (assumption)
    | (with_reducible exact Le.refl _)
    | ((first | with_reducible refine C47ag _ ?_ ?_ _ _ ?_ | with_reducible refine C47tg _ _ _ ?_ ?_ ?_ ?_ _ _ _ ?_ ?_ ?_ | with_reducible refine C47fg _ _ _ ?_ ?_ ?_ ?_ _ _ _ ?_ ?_ ?_) <;> first | exact plain_sbytes _ | (rw [sbytes_len]; done) | omega)
    | (with_reducible exact C48 _ _)
    | ((with_reducible exact C49L _ _ rfl _))
    | (with_reducible exact C50 _ _ _)
    | ((with_reducible exact C51I _ _ _ _ _))
    | ((with_reducible exact C52L _ _ rfl _))
    | ((with_reducible refine C53 _ ?_ _); first | assumption | decide +kernel | (simp; omega))
    | (exact ⟨by omega, by omega⟩)
    | (rw [rws_len, show (0 : Int).toNat = 0 from rfl]; omega)
    | (refine Le.of ?_; rw [show (0 : Int).toNat = 0 from rfl, rws_at hlt])
    | (refine Le.of ?_; rw [put_el]; exact congrArg (fun x => ag x) (tl_take _))
    | ((with_reducible exact C49L _ _ rfl _))
    | (exact Le.of (by rw [blobT_lsB]))
    | (exact Le.of (congrArg (fun l => SV.c (.agg l)) (mean_ub _)))
    | (exact Le.of (by rw [ofI4]))
    | (exact Le.of (by unfold entB; rfl))
    | (exact C52L _ _ rfl _)
    | ((refine Le.int ?_; rw [IntKind.wrap_i64]; have := sumI_bd (blobT (at' l 0).t); omega))
    | (exact Le.of rfl)
    | (((with_reducible refine C53 _ ?_ _); have := blobT_le (at' l 0).t; omega))
    | ((have := good_xy hg hlt; exact okw _ (by omega) (by omega)))
    | ((rw [IntKind.max_i64]; (try simp only [ByteArray.size_append, putB_sz, sz2, sz4, quad_sz]); have := varB_le (blobT (at' l 0).t).size; omega))
    | (rw [rws_len]; omega)
    | (exact Le.of (by rw [rws_at0 hlt]))
    | ((with_reducible refine RoundTo.reN 7 [(5, some 6)] (I12 l 1) ?_ ?_ ?_ ?_); kernel_rfl; exact (wkER_cons (LeR.of (by kernel_rfl)) (wkER_cons (LeR.of (by kernel_rfl)) (wkER_cons (LeR.of (by kernel_rfl)) (wkER_cons (LeR.of (by kernel_rfl)) (wkER_cons (LeR.of (by kernel_rfl)) (wkER_cons (LeR.of (by kernel_rfl)) trivial)))))); exact (wkHR_cons (j := 0) rfl (BkM.plain (cs := rws l) (b := .r 42 258 0) (by kernel_rfl) (rfl) (plain_rws l) (by kernel_rfl)) (wkHR_cons (j := 1) rfl (BkM.blk (k := ⟨[.o 0 l.length], .t 26⟩) (k'' := ⟨[.o 0 l.length], .t 26⟩) (by kernel_rfl) (by kernel_rfl) rfl) (wkHR_cons (j := 2) rfl (BkM.blk (k := ⟨[.p 2 0, .o 4 ((hdB l 0).size + (entB (at' l 0)).size)], .e 101⟩) (k'' := ⟨[.p 2 0, .o 4 ((hdB l 0).size + (entB (at' l 0)).size)], .e 101⟩) (by kernel_rfl) (by kernel_rfl) (by rw [hd_sz])) (wkHR_cons (j := 3) rfl (BkM.blk (k := ⟨[.p 3 0, .o 6 (blobT (at' l 0).t).size], .e 101⟩) (k'' := ⟨[.p 3 0, .o 5 (blobT (at' l 0).t).size], .e 101⟩) (by kernel_rfl) (by kernel_rfl) (by rw [bl_sz1])) (wkHR_cons (j := 4) rfl (BkM.plain (cs := sbytes (hdB l 0) ++ sbytes (entB (at' l 0))) (b := .r 5 1 4) (by kernel_rfl) (hd_by l 0) (plain_sbytes _) (by kernel_rfl)) (wkHR_cons (j := 6) rfl (BkM.plain (cs := sbytes (blobT (at' l 0).t)) (b := .r 5 1 6) (by kernel_rfl) (bl_by1 l) (plain_sbytes _) (by kernel_rfl)) trivial)))))); exact (WPL.mono (L12 l hg _ 1 rfl (by omega) K hK) fun e S h => ⟨h.h⟩))
    | ((with_reducible refine RoundTo.reN 8 [(4, some 6), (5, some 7)] (I12 l 1) ?_ ?_ ?_ ?_); kernel_rfl; exact (wkER_cons (LeR.of (by kernel_rfl)) (wkER_cons (LeR.of (by kernel_rfl)) (wkER_cons (LeR.of (by kernel_rfl)) (wkER_cons (LeR.of (by kernel_rfl)) (wkER_cons (LeR.of (by kernel_rfl)) (wkER_cons (LeR.of (by kernel_rfl)) trivial)))))); exact (wkHR_cons (j := 0) rfl (BkM.plain (cs := rws l) (b := .r 42 258 0) (by kernel_rfl) (rfl) (plain_rws l) (by kernel_rfl)) (wkHR_cons (j := 1) rfl (BkM.blk (k := ⟨[.o 0 l.length], .t 26⟩) (k'' := ⟨[.o 0 l.length], .t 26⟩) (by kernel_rfl) (by kernel_rfl) rfl) (wkHR_cons (j := 2) rfl (BkM.blk (k := ⟨[.p 2 0, .o 6 ((hdB l 0).size + (entB (at' l 0)).size)], .e 101⟩) (k'' := ⟨[.p 2 0, .o 4 ((hdB l 0).size + (entB (at' l 0)).size)], .e 101⟩) (by kernel_rfl) (by kernel_rfl) (by rw [hd_sz])) (wkHR_cons (j := 3) rfl (BkM.blk (k := ⟨[.p 3 0, .o 7 (blobT (at' l 0).t).size], .e 101⟩) (k'' := ⟨[.p 3 0, .o 5 (blobT (at' l 0).t).size], .e 101⟩) (by kernel_rfl) (by kernel_rfl) (by rw [bl_sz1])) (wkHR_cons (j := 6) rfl (BkM.plain (cs := sbytes (hdB l 0) ++ sbytes (entB (at' l 0))) (b := .r 5 1 6) (by kernel_rfl) (hd_by l 0) (plain_sbytes _) (by kernel_rfl)) (wkHR_cons (j := 7) rfl (BkM.plain (cs := sbytes (blobT (at' l 0).t)) (b := .r 5 1 7) (by kernel_rfl) (bl_by1 l) (plain_sbytes _) (by kernel_rfl)) trivial)))))); exact (WPL.mono (L12 l hg _ 1 rfl (by omega) K hK) fun e S h => ⟨h.h⟩))
    | (exact okw _ (by omega) (by omega))
    | (exact Le.of rfl)
    | (exact BkR.of rfl)
    | (unfold SlOK; omega)
    | (unfold SlOK; decide)
    | (unfold inByte; decide)
    | (simp only [*, Bool.and_self, Bool.not_false, Bool.not_true]; done)
    | (simp_all [wants]; done)
theorem enters12 : Enters Tryz.prog 12 := fun args w => by go_simp
def cz_C12 (l : List TA) : Cz := {
  ct := (fun f => match f with
  | 46 => some fun _ _S ar => match ar with | [.c (.agg [.o i _])] => some { v := bv true, rd := [i], wr := [], nw := 0 } | _ => none
  | 47 => some fun _ap _S ar => match ar with | [.c (.l (.p i _)), .c (.l (.v (.string s)))] => B47 _ap _S i s | _ => none
  | 48 => some fun _ _S ar => match ar with | [.c (.l (.v (.int _ k)))] => some { v := .c (.l (.v (.string ⟨(Oct.M.leb (Oct.u64 k)).toArray⟩))), rd := [], wr := [], nw := 0 } | _ => none
  | 49 => some fun _ _S ar => match ar with | [.c (.agg l)] => some { v := .c (.l (.v (.string (blobT (lsB l))))), rd := [], wr := [], nw := 0 } | _ => none
  | 50 => some fun _ _S ar => match ar with | [.c (.l (.v (.int _ k))), .c (.l (.v (.int _ m)))] => some { v := .c (.l (.v (.string ⟨(Oct.M.be (Oct.sz m) (Oct.u64 k)).toArray⟩))), rd := [], wr := [], nw := 0 } | _ => none
  | 51 => some fun _ _S ar => match ar with | [.c (.agg [.v (.int _ a), .v (.int _ b), .v (.int _ c), .v (.int _ e)])] => some { v := .c (.l (.v (.string ⟨#[ofI a, ofI b, ofI c, ofI e]⟩))), rd := [], wr := [], nw := 0 } | _ => none
  | 52 => some fun _ _S ar => match ar with | [.c (.agg l)] => some { v := ag (meanL (lsB l)), rd := [], wr := [], nw := 0 } | _ => none
  | 53 => some fun _ _S ar => match ar with | [.c (.l (.v (.string s)))] => some { v := iv .u32 (Oct.M.sum s.data.toList : Nat), rd := [], wr := [], nw := 0 } | _ => none
  | 54 => some fun _ _S ar => match ar with | [.c (.l (.p i _))] => some { v := V54 _S i, rd := [i, bf54 _S i], wr := [(bf54 _S i, ⟨[], .x⟩)], nw := 0 } | _ => none
  | 55 => some fun _ _S ar => match ar with | [.c (.l (.v (.string s)))] => some { v := .c (.l (.v (.string ⟨(Oct.txt s).toArray⟩))), rd := [], wr := [], nw := 0 } | _ => none
  | _ => none)
  eq := (fun t => match t with
  | _ => none)
  raw := [], sym := [], nf := [(11, bv true), (12, bv false), (16, .c (.l (.v (.string (hdB l 0))))), (57, .c (.l (.v (.string (hdB l l.length))))), (59, .c (.l (.v (.string (txtB (hdB l l.length)))))), (62, iv .u32 (sumI (hdB l l.length))), (63, iv .i64 (sumI (hdB l l.length))), (64, .c (.l (.v (.string (putB (sumI (hdB l l.length)) 4))))), (66, .c (.l (.v (.string (blB l l.length))))), (67, .c (.l (.v (.string (packB l)))))], ap := true, off := [], on := [], lp := fun r => match r with | 6 => some (fun _ K => K (.exit 0) (I12 l l.length)) | _ => none, un := 0, ex := [101] }
set_option maxRecDepth 100000 in
set_option maxHeartbeats 400000 in
theorem C12 (l : List TA) (hg : Good l) (hl : 0 < l.length) : CallOK Tryz.prog 12 [.c (.agg [.o 0 l.length])] [(0, ⟨rws l, .r 42 258 0⟩)] 1 (.tup [.l (.v (.string (packB l))), .l (li 0)]) [] 0 := by
  have hlen := hg.len
  have hh := hdB_le l l.length
  have hb := blB_le l l.length
  have hhp := hdB_pos l l.length
  have hh0 := hdB_le l 0
  have hh1 := hdB_pos l 0
  have hbp : 0 < (blB l l.length).size := blB_pos l hl
  refine call_ok (cx := cz_C12 l) (nm := []) rfl Tryz.func12 (body := Tryz.f12.body.getD .skip) rfl enters12 (by unfold inck; simp only [List.all_cons, List.all_nil, blt_rws _ _ (show (BT.rn (rnId 1 0 []) (.r 42 258 0)).isSome = true from rfl), Bool.and_true, Bool.true_and]; kernel_rfl) ?_
  apply of_eq (q := CallOKd Tryz.prog 46 [] [ag [Leaf.o 0 l.length]] [(0, Blk.mk (rws l) (BT.r 42 258 0))] 2 (bv true) [] 0 ∧ Le (bv true) (bv true) ∧ Le (bv !true) (bv false) ∧ CallOKd Tryz.prog 48 [] [iv IntKind.i64 (Nat.cast l.length : Int)] [] 4 (SV.c (Cp.l (Leaf.v (Value.string (ByteArray.mk (Oct.M.leb (Oct.u64 (Nat.cast l.length : Int))).toArray))))) [] 0 ∧ Le (SV.c (Cp.l (Leaf.v (Value.string (ByteArray.mk (Oct.M.leb (Oct.u64 (Nat.cast l.length : Int))).toArray))))) (SV.c (Cp.l (Leaf.v (Value.string (hdB l 0))))) ∧ CallOKd Tryz.prog 47 [] [SV.c (Cp.l (Leaf.p 2 0)), SV.c (Cp.l (Leaf.v (Value.string (hdB l 0))))] [(2, Blk.mk [Leaf.v (Value.pointer none), Leaf.v (Value.slice none 0 0)] (BT.e 101))] 4 (SV.tup [Cp.l (li (Nat.cast ((hdB l 0).size) : Int)), Cp.l (Leaf.v Value.nilIface)]) [(2, Blk.mk [Leaf.p 2 0, Leaf.o 4 (hdB l 0).size] (BT.e 101)), (4, Blk.mk (sbytes (hdB l 0)) (BT.r 5 1 4))] 1 ∧ (LoopOK Tryz.prog ((getLoop 6 (Tryz.f12.body.getD .skip)).getD .skip) (St.mk [(21, iv IntKind.i64 0), (20, iv IntKind.i64 (Nat.cast l.length : Int)), (19, SV.c (Cp.l (Leaf.o 0 l.length))), (18, SV.c (Cp.l (Leaf.p 1 0))), (17, SV.tup [Cp.l (li (Nat.cast ((hdB l 0).size) : Int)), Cp.l (Leaf.v Value.nilIface)]), (16, SV.c (Cp.l (Leaf.v (Value.string (hdB l 0))))), (15, iv IntKind.i64 (Nat.cast l.length : Int)), (14, SV.c (Cp.l (Leaf.o 0 l.length))), (13, SV.c (Cp.l (Leaf.p 1 0))), (5, SV.c (Cp.l (Leaf.p 3 0))), (4, SV.c (Cp.l (Leaf.p 2 0))), (12, bv false), (11, bv true), (10, ag [Leaf.o 0 l.length]), (3, iv IntKind.i64 0), (2, SV.c (Cp.l (Leaf.v (Value.string (ByteArray.mk #[]))))), (1, SV.c (Cp.l (Leaf.p 1 0))), (0, ag [Leaf.o 0 l.length])] [(2, some (Blk.mk [Leaf.p 2 0, Leaf.o 4 (hdB l 0).size] (BT.e 101))), (4, some (Blk.mk (sbytes (hdB l 0)) (BT.r 5 1 4))), (3, some (Blk.mk [Leaf.v (Value.pointer none), Leaf.v (Value.slice none 0 0)] (BT.e 101))), (2, some (Blk.mk [Leaf.v (Value.pointer none), Leaf.v (Value.slice none 0 0)] (BT.e 101))), (1, some (Blk.mk [Leaf.o 0 l.length] (BT.t 26))), (0, some (Blk.mk (rws l) (BT.r 42 258 0)))] 5 68 [2, 4, 3, 2, 1] 1) fun K => K (Exit.exit 0) (I12 l l.length)) ∧ CallOKd Tryz.prog 54 [] [SV.c (Cp.l (Leaf.p 2 0))] [(2, Blk.mk [Leaf.p 2 0, Leaf.o 4 (hdB l l.length).size] (BT.e 101)), (4, Blk.mk (sbytes (hdB l l.length)) (BT.r 5 1 4))] 6 (SV.c (Cp.l (Leaf.v (Value.string (strL (sbytes (hdB l l.length))))))) [(4, Blk.mk [] BT.x)] 0 ∧ Le (SV.c (Cp.l (Leaf.v (Value.string (strL (sbytes (hdB l l.length))))))) (SV.c (Cp.l (Leaf.v (Value.string (hdB l l.length))))) ∧ CallOKd Tryz.prog 55 [] [SV.c (Cp.l (Leaf.v (Value.string (hdB l l.length))))] [] 6 (SV.c (Cp.l (Leaf.v (Value.string (ByteArray.mk (Oct.txt (hdB l l.length)).toArray))))) [] 0 ∧ Le (SV.c (Cp.l (Leaf.v (Value.string (ByteArray.mk (Oct.txt (hdB l l.length)).toArray))))) (SV.c (Cp.l (Leaf.v (Value.string (txtB (hdB l l.length)))))) ∧ (Nat.cast (((ByteArray.mk #[71, 1]).size + (txtB (hdB l l.length)).size)) : Int) ≤ IntKind.i64.max ∧ CallOKd Tryz.prog 53 [] [SV.c (Cp.l (Leaf.v (Value.string (hdB l l.length))))] [] 6 (iv IntKind.u32 (Nat.cast ((Oct.M.sum (hdB l l.length).data.toList)) : Int)) [] 0 ∧ Le (iv IntKind.u32 (Nat.cast ((Oct.M.sum (hdB l l.length).data.toList)) : Int)) (iv IntKind.u32 (sumI (hdB l l.length))) ∧ Le (iv IntKind.i64 (IntKind.i64.wrap (sumI (hdB l l.length)))) (iv IntKind.i64 (sumI (hdB l l.length))) ∧ CallOKd Tryz.prog 50 [] [iv IntKind.i64 (sumI (hdB l l.length)), iv IntKind.i64 4] [] 6 (SV.c (Cp.l (Leaf.v (Value.string (ByteArray.mk (Oct.M.be (Oct.sz 4) (Oct.u64 (sumI (hdB l l.length)))).toArray))))) [] 0 ∧ Le (SV.c (Cp.l (Leaf.v (Value.string (ByteArray.mk (Oct.M.be (Oct.sz 4) (Oct.u64 (sumI (hdB l l.length)))).toArray))))) (SV.c (Cp.l (Leaf.v (Value.string (putB (sumI (hdB l l.length)) 4))))) ∧ (Nat.cast (((ByteArray.mk #[71, 1] ++ txtB (hdB l l.length)).size + (putB (sumI (hdB l l.length)) 4).size)) : Int) ≤ IntKind.i64.max ∧ CallOKd Tryz.prog 54 [] [SV.c (Cp.l (Leaf.p 3 0))] [(3, Blk.mk [Leaf.p 3 0, Leaf.o 5 (blB l l.length).size] (BT.e 101)), (5, Blk.mk (sbytes (blB l l.length)) (BT.r 5 1 5))] 6 (SV.c (Cp.l (Leaf.v (Value.string (strL (sbytes (blB l l.length))))))) [(5, Blk.mk [] BT.x)] 0 ∧ Le (SV.c (Cp.l (Leaf.v (Value.string (strL (sbytes (blB l l.length))))))) (SV.c (Cp.l (Leaf.v (Value.string (blB l l.length))))) ∧ (Nat.cast (((ByteArray.mk #[71, 1] ++ txtB (hdB l l.length) ++ putB (sumI (hdB l l.length)) 4).size + (blB l l.length).size)) : Int) ≤ IntKind.i64.max ∧ Le (SV.c (Cp.l (Leaf.v (Value.string (ByteArray.mk #[71, 1] ++ txtB (hdB l l.length) ++ putB (sumI (hdB l l.length)) 4 ++ blB l l.length))))) (SV.c (Cp.l (Leaf.v (Value.string (packB l))))) ∧ Le (SV.tup [Cp.l (Leaf.v (Value.string (packB l))), Cp.l (li 0)]) (SV.tup [Cp.l (Leaf.v (Value.string (packB l))), Cp.l (li 0)]) ∧ True) (by kernel_rfl)
  repeat' (first | exact trivial | with_reducible apply And.intro | (with_reducible apply HB.mk) | with_reducible intro _)
  all_goals first
    | (assumption)
    | (with_reducible exact Le.refl _)
    | ((with_reducible exact C46g _ hg _ _ (by omega)))
    | ((first | with_reducible refine C47ag _ ?_ ?_ _ _ ?_ | with_reducible refine C47tg _ _ _ ?_ ?_ ?_ ?_ _ _ _ ?_ ?_ ?_ | with_reducible refine C47fg _ _ _ ?_ ?_ ?_ ?_ _ _ _ ?_ ?_ ?_) <;> first | exact plain_sbytes _ | (rw [sbytes_len]; done) | omega)
    | (with_reducible exact C48 _ _)
    | (with_reducible exact C50 _ _ _)
    | ((with_reducible refine C53 _ ?_ _); first | assumption | decide +kernel | (simp; omega))
    | ((with_reducible refine C54 _ _ _ _ _ _ ?_ ?_ ?_ ?_ ?_) <;> first | (rw [sbytes_len]; done) | exact allB_sbytes _ | omega)
    | ((with_reducible refine C55 _ ?_ _); first | assumption | decide +kernel | (simp; omega))
    | (exact LoopOK.mk (I12s l) rfl (by kernel_rfl) (wkE_cons (LeN.sl (by kernel_rfl) rfl) (wkE_cons (LeN.sl (by kernel_rfl) rfl) (wkE_cons (LeN.sl (by kernel_rfl) rfl) (wkE_cons (LeN.sl (by kernel_rfl) rfl) (wkE_cons (LeN.sl (by kernel_rfl) rfl) (wkE_cons (LeN.sl (by kernel_rfl) rfl) trivial)))))) (wkH_cons (BkN.plain (cs := rws l) (b := .r 42 258 0) (by kernel_rfl) (rfl) (plain_rws l) (by kernel_rfl)) (wkH_cons (BkN.blk (k := ⟨[.o 0 l.length], .t 26⟩) (by kernel_rfl) (rfl) (by kernel_rfl)) (wkH_cons (BkN.blk (k := ⟨[.p 2 0, .o 4 (hdB l 0).size], .e 101⟩) (by kernel_rfl) (rfl) (by kernel_rfl)) (wkH_cons (BkN.blk (k := ⟨[.v (.pointer none), .v (.slice none 0 0)], .e 101⟩) (by kernel_rfl) (rfl) (by kernel_rfl)) (wkH_cons (BkN.plain (cs := sbytes (hdB l 0)) (b := .r 5 1 4) (by kernel_rfl) (rfl) (plain_sbytes _) (by kernel_rfl)) trivial))))) (fun K hT => L12s l hg hl K hT))
    | (exact Le.of (by rw [strL_sbytes]))
    | (((with_reducible refine C55 _ ?_ _); omega))
    | (((with_reducible refine C53 _ ?_ _); omega))
    | (exact Le.of (by unfold hdB; rfl))
    | (exact Le.of (by unfold packB; rfl))
    | (exact Le.of rfl)
    | ((refine Le.int ?_; rw [IntKind.wrap_i64]; have := sumI_bd (hdB l l.length); omega))
    | ((rw [IntKind.max_i64]; have := txtB_le (hdB l l.length) (by omega); (try simp only [ByteArray.size_append, putB_sz, sz2, sz4]); have e0 : (⟨#[71, 1]⟩ : ByteArray).size = 2 := rfl; omega))
    | (exact okw _ (by omega) (by omega))
    | (exact Le.of rfl)
    | (exact BkR.of rfl)
    | (unfold SlOK; omega)
    | (unfold SlOK; decide)
    | (unfold inByte; decide)
    | (simp only [*, Bool.and_self, Bool.not_false, Bool.not_true]; done)
    | (simp_all [wants]; done)
end Ab
end Go.Proofs.YtpdckpifhniioaaGreat
end
section
set_option linter.unusedVariables false
set_option linter.unusedSimpArgs false
namespace Go.Proofs.YtpdckpifhniioaaGreat
open Go.RowKit
namespace Ab
theorem rest_bd {x n : Int} (h0 : 0 < n) (h1 : n ≤ 1000000000) : 0 ≤ (x.tmod n + n).tmod n ∧ (x.tmod n + n).tmod n < n ∧ -n < x.tmod n ∧ x.tmod n < n := by
  have h2 := Int.tmod_lt_of_pos x h0
  have h3 : -n < x.tmod n := by
    rcases Int.le_total 0 x with h | h
    · have := Int.tmod_nonneg n h; omega
    · have := Int.tmod_nonneg n (show 0 ≤ -x by omega)
      have h4 := Int.tmod_lt_of_pos (-x) h0
      rw [Int.neg_tmod] at h4; omega
  have h4 : 0 ≤ x.tmod n + n := by omega
  exact ⟨Int.tmod_nonneg n h4, Int.tmod_lt_of_pos _ h0, h3, h2⟩
def rst (x n : Int) : Int := (x.tmod n + n).tmod n
theorem enters14 : Enters Tryz.prog 14 := fun args w => by go_simp
def cz_C14 : Cz := {
  ct := (fun f => match f with
  | _ => none)
  eq := (fun t => match t with
  | _ => none)
  raw := [], sym := [], nf := [], ap := true, off := [], on := [], lp := fun _ => none, un := 0 }
set_option maxRecDepth 100000 in
set_option maxHeartbeats 400000 in
theorem C14 (x d : Int) (h0 : 0 < d) (h1 : d ≤ 1000000000) (n : Nat) : CallOK Tryz.prog 14 [iv .i64 x, iv .i64 d] [] n (iv .i64 (rst x d)) [] 0 := by
  refine CallOK.any ?_ (by kernel_rfl) (by kernel_rfl) n
  refine call_ok (cx := cz_C14) (nm := []) rfl Tryz.func14 (body := Tryz.f14.body.getD .skip) rfl enters14 (by kernel_rfl) ?_
  apply of_eq (q := d ≠ 0 ∧ IntKind.i64.wrap (x.tmod d + d) = x.tmod d + d ∧ d ≠ 0 ∧ Le (iv IntKind.i64 ((x.tmod d + d).tmod d)) (iv IntKind.i64 (rst x d)) ∧ True) (by kernel_rfl)
  repeat' (first | exact trivial | with_reducible apply And.intro | (with_reducible apply HB.mk) | with_reducible intro _)
  all_goals first
    | (assumption)
    | (with_reducible exact Le.refl _)
    | (with_reducible rfl)
    | (omega)
    | (have := rest_bd (x := x) h0 h1; exact okw _ (by omega) (by omega))
    | (exact okw _ (by omega) (by omega))
    | (exact Le.of rfl)
    | (exact BkR.of rfl)
    | (unfold SlOK; omega)
    | (unfold SlOK; decide)
    | (unfold inByte; decide)
    | (simp only [*, Bool.and_self, Bool.not_false, Bool.not_true]; done)
    | (simp_all [wants]; done)
/-- The pixel that a number describes. -/
def pxM (x : Int) (c : Nat) : UInt8 := ofI (match c with | 0 => IntKind.u8.wrap (IntKind.u32.wrap x) | 1 => IntKind.u8.wrap (IntKind.u32.wrap ((IntKind.u32.wrap x).tdiv 256)) | 2 => IntKind.u8.wrap (IntKind.u32.wrap ((IntKind.u32.wrap x).tdiv 65536)) | _ => bif (IntKind.u32.wrap x).tmod 5 == 3 then 0 else bif (IntKind.u32.wrap x).tmod 5 == 1 then 255 else IntKind.u8.wrap (IntKind.u32.wrap ((IntKind.u32.wrap x).tdiv 16777216)))
def pxL (x : Int) : List Leaf := [ub (pxM x 0), ub (pxM x 1), ub (pxM x 2), ub (pxM x 3)]
theorem ub_wrap (x : Int) : ub (ofI (IntKind.u8.wrap x)) = u8 (IntKind.u8.wrap x) := (u8_ofI (u8_rng x)).symm
theorem pxL_eq (x : Int) (w : Int) (h0 : 0 ≤ w ∧ w < 256) (h : w = bif (IntKind.u32.wrap x).tmod 5 == 3 then 0 else bif (IntKind.u32.wrap x).tmod 5 == 1 then 255 else IntKind.u8.wrap (IntKind.u32.wrap ((IntKind.u32.wrap x).tdiv 16777216))) :
    [u8 (IntKind.u8.wrap (IntKind.u32.wrap x)), u8 (IntKind.u8.wrap (IntKind.u32.wrap ((IntKind.u32.wrap x).tdiv 256))), u8 (IntKind.u8.wrap (IntKind.u32.wrap ((IntKind.u32.wrap x).tdiv 65536))), u8 w] = pxL x := by
  unfold pxL pxM
  simp only [ub_wrap, ← h]
  rw [← u8_ofI h0]
theorem enters103 : Enters Tryz.prog 103 := fun args w => by go_simp
def cz_C103 : Cz := {
  ct := (fun f => match f with
  | _ => none)
  eq := (fun t => match t with
  | _ => none)
  raw := [], sym := [], nf := [], ap := true, off := [], on := [], lp := fun _ => none, un := 0 }
set_option maxRecDepth 100000 in
set_option maxHeartbeats 400000 in
theorem C103 (x : Int)  (n : Nat) : CallOK Tryz.prog 103 [iv .i64 x] [] n (ag (pxL x)) [] 0 := by
  refine CallOK.any ?_ (by kernel_rfl) (by kernel_rfl) n
  refine call_ok (cx := cz_C103) (nm := []) rfl Tryz.func103 (body := Tryz.f103.body.getD .skip) rfl enters103 (by kernel_rfl) ?_
  apply of_eq (q := (256 : Int) ≠ 0 ∧ (65536 : Int) ≠ 0 ∧ (16777216 : Int) ≠ 0 ∧ (5 : Int) ≠ 0 ∧ HB ((IntKind.u32.wrap x).tmod 5 == 1) ((5 : Int) ≠ 0 ∧ HB ((IntKind.u32.wrap x).tmod 5 == 3) (Le (ag [Leaf.v (Value.int IntKind.u8 (IntKind.u8.wrap (IntKind.u32.wrap x))), Leaf.v (Value.int IntKind.u8 (IntKind.u8.wrap (IntKind.u32.wrap ((IntKind.u32.wrap x).tdiv 256)))), Leaf.v (Value.int IntKind.u8 (IntKind.u8.wrap (IntKind.u32.wrap ((IntKind.u32.wrap x).tdiv 65536)))), Leaf.v (Value.int IntKind.u8 0)]) (ag [Leaf.v (Value.int IntKind.u8 (Nat.cast ((pxM x 0).toNat) : Int)), Leaf.v (Value.int IntKind.u8 (Nat.cast ((pxM x 1).toNat) : Int)), Leaf.v (Value.int IntKind.u8 (Nat.cast ((pxM x 2).toNat) : Int)), Leaf.v (Value.int IntKind.u8 (Nat.cast ((pxM x 3).toNat) : Int))]) ∧ True) (Le (ag [Leaf.v (Value.int IntKind.u8 (IntKind.u8.wrap (IntKind.u32.wrap x))), Leaf.v (Value.int IntKind.u8 (IntKind.u8.wrap (IntKind.u32.wrap ((IntKind.u32.wrap x).tdiv 256)))), Leaf.v (Value.int IntKind.u8 (IntKind.u8.wrap (IntKind.u32.wrap ((IntKind.u32.wrap x).tdiv 65536)))), Leaf.v (Value.int IntKind.u8 255)]) (ag [Leaf.v (Value.int IntKind.u8 (Nat.cast ((pxM x 0).toNat) : Int)), Leaf.v (Value.int IntKind.u8 (Nat.cast ((pxM x 1).toNat) : Int)), Leaf.v (Value.int IntKind.u8 (Nat.cast ((pxM x 2).toNat) : Int)), Leaf.v (Value.int IntKind.u8 (Nat.cast ((pxM x 3).toNat) : Int))]) ∧ True)) ((5 : Int) ≠ 0 ∧ HB ((IntKind.u32.wrap x).tmod 5 == 3) (Le (ag [Leaf.v (Value.int IntKind.u8 (IntKind.u8.wrap (IntKind.u32.wrap x))), Leaf.v (Value.int IntKind.u8 (IntKind.u8.wrap (IntKind.u32.wrap ((IntKind.u32.wrap x).tdiv 256)))), Leaf.v (Value.int IntKind.u8 (IntKind.u8.wrap (IntKind.u32.wrap ((IntKind.u32.wrap x).tdiv 65536)))), Leaf.v (Value.int IntKind.u8 0)]) (ag [Leaf.v (Value.int IntKind.u8 (Nat.cast ((pxM x 0).toNat) : Int)), Leaf.v (Value.int IntKind.u8 (Nat.cast ((pxM x 1).toNat) : Int)), Leaf.v (Value.int IntKind.u8 (Nat.cast ((pxM x 2).toNat) : Int)), Leaf.v (Value.int IntKind.u8 (Nat.cast ((pxM x 3).toNat) : Int))]) ∧ True) (Le (ag [Leaf.v (Value.int IntKind.u8 (IntKind.u8.wrap (IntKind.u32.wrap x))), Leaf.v (Value.int IntKind.u8 (IntKind.u8.wrap (IntKind.u32.wrap ((IntKind.u32.wrap x).tdiv 256)))), Leaf.v (Value.int IntKind.u8 (IntKind.u8.wrap (IntKind.u32.wrap ((IntKind.u32.wrap x).tdiv 65536)))), Leaf.v (Value.int IntKind.u8 (IntKind.u8.wrap (IntKind.u32.wrap ((IntKind.u32.wrap x).tdiv 16777216))))]) (ag [Leaf.v (Value.int IntKind.u8 (Nat.cast ((pxM x 0).toNat) : Int)), Leaf.v (Value.int IntKind.u8 (Nat.cast ((pxM x 1).toNat) : Int)), Leaf.v (Value.int IntKind.u8 (Nat.cast ((pxM x 2).toNat) : Int)), Leaf.v (Value.int IntKind.u8 (Nat.cast ((pxM x 3).toNat) : Int))]) ∧ True))) (by kernel_rfl)
  repeat' (first | exact trivial | with_reducible apply And.intro | (with_reducible apply HB.mk) | with_reducible intro _)
  all_goals first
    | (assumption)
    | (with_reducible exact Le.refl _)
    | (with_reducible rfl)
    | ((refine Le.of (congrArg (fun l => SV.c (.agg l)) (pxL_eq x _ ⟨by decide, by decide⟩ ?_)); rw [‹((IntKind.u32.wrap x).tmod 5 == 3) = true›]; rfl))
    | ((refine Le.of (congrArg (fun l => SV.c (.agg l)) (pxL_eq x _ ⟨by decide, by decide⟩ ?_)); rw [‹((IntKind.u32.wrap x).tmod 5 == 3) = false›, ‹((IntKind.u32.wrap x).tmod 5 == 1) = true›]; rfl))
    | ((refine Le.of (congrArg (fun l => SV.c (.agg l)) (pxL_eq x _ (u8_rng _) ?_)); rw [‹((IntKind.u32.wrap x).tmod 5 == 3) = false›, ‹((IntKind.u32.wrap x).tmod 5 == 1) = false›]; rfl))
    | (decide)
    | (exact okw _ (by omega) (by omega))
    | (exact Le.of rfl)
    | (exact BkR.of rfl)
    | (unfold SlOK; omega)
    | (unfold SlOK; decide)
    | (unfold inByte; decide)
    | (simp only [*, Bool.and_self, Bool.not_false, Bool.not_true]; done)
    | (simp_all [wants]; done)
theorem enters100 : Enters Tryz.prog 100 := fun args w => by go_simp
def cz_C100 : Cz := {
  ct := (fun f => match f with
  | _ => none)
  eq := (fun t => match t with
  | _ => none)
  raw := [], sym := [], nf := [], ap := true, off := [], on := [], lp := fun _ => none, un := 0 }
set_option maxRecDepth 100000 in
set_option maxHeartbeats 400000 in
theorem C100 (a b c e : Int)  (n : Nat) : CallOK Tryz.prog 100 [ag [u8 a, u8 b, u8 c, u8 e]] [] n (ag [u8 (pcl e a), u8 (pcl e b), u8 (pcl e c), u8 (pcl e e)]) [] 0 := by
  refine CallOK.any ?_ (by kernel_rfl) (by kernel_rfl) n
  refine call_ok (cx := cz_C100) (nm := []) rfl Tryz.func100 (body := Tryz.f100.body.getD .skip) rfl enters100 (by kernel_rfl) ?_
  apply of_eq (q := HB (e == 0) (Le (ag [Leaf.v (Value.int IntKind.u8 0), Leaf.v (Value.int IntKind.u8 0), Leaf.v (Value.int IntKind.u8 0), Leaf.v (Value.int IntKind.u8 0)]) (ag [Leaf.v (Value.int IntKind.u8 (pcl e a)), Leaf.v (Value.int IntKind.u8 (pcl e b)), Leaf.v (Value.int IntKind.u8 (pcl e c)), Leaf.v (Value.int IntKind.u8 (pcl e e))]) ∧ True) (Le (ag [Leaf.v (Value.int IntKind.u8 a), Leaf.v (Value.int IntKind.u8 b), Leaf.v (Value.int IntKind.u8 c), Leaf.v (Value.int IntKind.u8 e)]) (ag [Leaf.v (Value.int IntKind.u8 (pcl e a)), Leaf.v (Value.int IntKind.u8 (pcl e b)), Leaf.v (Value.int IntKind.u8 (pcl e c)), Leaf.v (Value.int IntKind.u8 (pcl e e))]) ∧ True)) (by kernel_rfl)
  repeat' (first | exact trivial | with_reducible apply And.intro | (with_reducible apply HB.mk) | with_reducible intro _)
  all_goals first
    | (assumption)
    | (with_reducible exact Le.refl _)
    | (with_reducible rfl)
    | (rw [pcl_t (by assumption), pcl_t (by assumption), pcl_t (by assumption), pcl_t (by assumption)]; exact Le.refl _)
    | (rw [pcl_f (by assumption), pcl_f (by assumption), pcl_f (by assumption), pcl_f (by assumption)]; exact Le.refl _)
    | (exact okw _ (by omega) (by omega))
    | (exact Le.of rfl)
    | (exact BkR.of rfl)
    | (unfold SlOK; omega)
    | (unfold SlOK; decide)
    | (unfold inByte; decide)
    | (simp only [*, Bool.and_self, Bool.not_false, Bool.not_true]; done)
    | (simp_all [wants]; done)
/-- The cells of a slice that came in: those ahead of it are not known. -/
def qls (p : Nat) (s : List Int) : List Leaf := List.replicate p .u ++ s.map li
def xM (s : List Int) (o n i : Nat) : Int := s.getD (o + i * n / 64) 0
/-- The number of the i-th pixel. -/
def yM (s : List Int) (o n i : Nat) : Int := bif bitsV .and .i64 (xM s o n i) 3 == 2 then IntKind.i64.wrap (xM s o n i + 7919 * i) else xM s o n i
def pxC (x : Int) (c : Nat) : UInt8 := pcb (pxM x 3) (pxM x c)
/-- The tile that numbers describe. -/
def mdT (s : List Int) (o n : Nat) : Nat → UInt8 := fun i => pxC (yM s o n (i / 4)) (i % 4)
def pxCL (x : Int) : List Leaf := [ub (pxC x 0), ub (pxC x 1), ub (pxC x 2), ub (pxC x 3)]
def I43 (p : Nat) (s : List Int) (o n : Nat) (k : Nat) : St := ⟨[(4, iv .i64 (k : Nat)), (3, .c (.l (.p 2 0))), (2, .c (.l (.p 1 0))), (0, .c (.l (.s 0 (p + o) n)))], [(0, some ⟨qls p s, .q⟩), (1, some ⟨tl zT, .t 38⟩), (2, some ⟨tl (upTo k (mdT s o n) zT), .t 38⟩)], 3, 41, [2, 1], (1)⟩
theorem cond_tf (b : Bool) : (bif b then true else false) = b := by cases b <;> rfl
theorem qls_len (p : Nat) (s : List Int) : (qls p s).length = p + s.length := by simp [qls]
theorem getD_pad {α : Type} (p : Nat) (a d : α) (l : List α) (i : Nat) : (List.replicate p a ++ l).getD (p + i) d = l.getD i d := by
  simp [List.getD, List.getElem?_append_right]
theorem qls_at (p : Nat) (s : List Int) {i : Nat} (h : i < s.length) : (qls p s).getD (p + i) .u = li (s.getD i 0) := by
  unfold qls
  rw [getD_pad]
  simp [List.getD, h]
theorem qls_ne (p : Nat) (s : List Int) {i : Nat} (h : i < s.length) : (qls p s).getD (p + i) .u ≠ .u := by
  rw [qls_at p s h]; exact fun h => by cases h
/-- Cells that hold no names. -/
def Fix (l : List Leaf) : Prop := (∀ ρ, rnLs ρ l = some l) ∧ ∀ σ, l.map (Leaf.ren σ) = l
theorem Fix.cons {x : Leaf} {l : List Leaf} (hx : ∀ ρ, x.rn ρ = some x) (hy : ∀ σ, x.ren σ = x) (h : Fix l) : Fix (x :: l) :=
  ⟨fun ρ => by rw [rnLs, hx ρ, h.1 ρ], fun σ => by rw [List.map_cons, hy σ, h.2 σ]⟩
theorem fix_li : ∀ s : List Int, Fix (s.map li)
  | [] => ⟨fun _ => rfl, fun _ => rfl⟩
  | x :: s => Fix.cons (fun _ => rfl) (fun _ => rfl) (fix_li s)
theorem fix_qls : ∀ (p : Nat) (s : List Int), Fix (qls p s)
  | 0, s => fix_li s
  | p + 1, s => Fix.cons (fun _ => rfl) (fun _ => rfl) (fix_qls p s)
section
variable {S : St} {l : List (Nat × Option Nat)} {n id j : Nat}
theorem BkM.fix {cs cs' : List Leaf} {b b' : BT} (h : S.blk j = some ⟨cs, b⟩) (e : cs = cs') (hp : Fix cs') (hb : b.rn (ri l n) = some b') : BkM l n (S.blk j) ⟨cs', b'⟩ := by
  subst e
  rw [h]; refine BkM.of ?_
  unfold Blk.rn
  simp only [hp.1, hb]
theorem BkN.fix {cs cs' : List Leaf} {b : BT} (h : S.blk id = some ⟨cs, b⟩) (e : cs = cs') (hp : Fix cs') (hb : (b.rn (rnId n 0 [])).isSome = true) : BkN n (S.blk id) ⟨cs', b⟩ := by
  subst e
  rw [h]; refine BkN.of rfl ?_
  unfold blkLt
  simp only [hp.1, hb, Option.isSome_some, Bool.and_self]
theorem blkLt_fix {cs : List Leaf} {b : BT} (hp : Fix cs) (hb : (b.rn (rnId n 0 [])).isSome = true) : blkLt n ⟨cs, b⟩ = true := by
  unfold blkLt
  simp only [hp.1, hb, Option.isSome_some, Bool.and_self]
end
theorem pxC_eq (x : Int) : [u8 (pcl ((pxM x 3).toNat : Nat) ((pxM x 0).toNat : Nat)), u8 (pcl ((pxM x 3).toNat : Nat) ((pxM x 1).toNat : Nat)), u8 (pcl ((pxM x 3).toNat : Nat) ((pxM x 2).toNat : Nat)), u8 (pcl ((pxM x 3).toNat : Nat) ((pxM x 3).toNat : Nat))] = pxCL x := by
  unfold pxCL pxC
  rw [pcb_pcl, pcb_pcl, pcb_pcl, pcb_pcl]
theorem mdT_px (s : List Int) (o n k : Nat) : pxCL (yM s o n k) = [ub (mdT s o n (4 * k)), ub (mdT s o n (4 * k + 1)), ub (mdT s o n (4 * k + 2)), ub (mdT s o n (4 * k + 3))] := by
  unfold mdT pxCL
  rw [show 4 * k / 4 = k by omega, show (4 * k + 1) / 4 = k by omega, show (4 * k + 2) / 4 = k by omega, show (4 * k + 3) / 4 = k by omega, show 4 * k % 4 = 0 by omega, show (4 * k + 1) % 4 = 1 by omega, show (4 * k + 2) % 4 = 2 by omega, show (4 * k + 3) % 4 = 3 by omega]
theorem yM_f {s : List Int} {o n k : Nat} (h : (bitsV .and .i64 (xM s o n k) 3 == 2) = false) : yM s o n k = xM s o n k := by unfold yM; rw [h]; rfl
theorem yM_t {s : List Int} {o n k : Nat} (h : (bitsV .and .i64 (xM s o n k) 3 == 2) = true) : yM s o n k = IntKind.i64.wrap (xM s o n k + 7919 * k) := by unfold yM; rw [h]; rfl
theorem md_one {s : List Int} {o n k : Nat} (hk : k < 64) (h : (bitsV .and .i64 (xM s o n k) 3 == 2) = false) : splice (tl (upTo k (mdT s o n) zT)) (0 + k * 4) (pxCL (xM s o n k)) = tl (upTo (k + 1) (mdT s o n) zT) := by
  rw [Nat.zero_add, ← yM_f h, mdT_px, upTo_set k _ _ hk]
theorem md_two {s : List Int} {o n k : Nat} (hk : k < 64) (h : (bitsV .and .i64 (xM s o n k) 3 == 2) = true) : splice (splice (tl (upTo k (mdT s o n) zT)) (0 + k * 4) (pxCL (xM s o n k))) (0 + k * 4) (pxCL (IntKind.i64.wrap (xM s o n k + 7919 * k))) = tl (upTo (k + 1) (mdT s o n) zT) := by
  rw [Nat.zero_add, ← yM_t h, mdT_px, ← upTo_set k _ _ hk]
  unfold pxCL
  rw [tl_set _ hk, tl_set _ hk, tl_set _ hk]
  refine tl_ext fun i hi => ?_
  unfold setP
  split
  · rfl
  · split
    · rfl
    · split
      · rfl
      · split
        · rfl
        · rfl
theorem idx_bd {k n : Nat} (hk : k < 64) (hn : 0 < n) : k * n / 64 < n := by
  have := Nat.mul_lt_mul_of_pos_right hk hn
  omega
theorem idx_int (k n : Nat) : ((k : Int) * n).tdiv 64 = ((k * n / 64 : Nat) : Int) := by
  rw [Int.tdiv_eq_ediv_of_nonneg (by exact Int.mul_nonneg (by omega) (by omega))]
  rfl
attribute [local irreducible] pxM pxC
def cz_R43 (p : Nat) (s : List Int) (o n : Nat) (k : Nat) : Cz := {
  ct := (fun f => match f with
  | 100 => some fun _ _S ar => match ar with | [.c (.agg [.v (.int _ a), .v (.int _ b), .v (.int _ c), .v (.int _ e)])] => some { v := ag [u8 (pcl e a), u8 (pcl e b), u8 (pcl e c), u8 (pcl e e)], rd := [], wr := [], nw := 0 } | _ => none
  | 103 => some fun _ _S ar => match ar with | [.c (.l (.v (.int _ x)))] => some { v := ag (pxL x), rd := [], wr := [], nw := 0 } | _ => none
  | _ => none)
  eq := (fun t => match t with
  | _ => none)
  raw := [36], sym := [0, 22, 23, 28, 39], nf := [(13, bv (decide (((k : Nat) : Int) < 64))), (21, iv .i64 ((k * n / 64 : Nat) : Nat)), (23, iv .i64 (xM s o n k)), (27, .c (.agg (pxCL (xM s o n k)))), (38, .c (.agg (pxCL (IntKind.i64.wrap (xM s o n k + 7919 * k)))))], ap := true, off := [], on := [], lp := fun _ => none, un := 0 }
set_option maxRecDepth 100000 in
theorem R43 (p : Nat) (s : List Int) (o n : Nat) (k : Nat)  (K : Exit → St → Prop) (h : (decide ((Nat.cast k : Int) < 64) = true → decide ((Nat.cast k : Int) < 64) = true ∧ True) ∧ (decide ((Nat.cast k : Int) < 64) = true → decide ((Nat.cast k : Int) < 64) = true ∧ True) ∧ (decide ((Nat.cast k : Int) < 64) = true → decide ((Nat.cast k : Int) < 64) = true) ∧ Le (bv (bif decide ((Nat.cast k : Int) < 64) then decide ((Nat.cast n : Int) > 0) else false)) (bv (decide ((Nat.cast k : Int) < 64))) ∧ HB (decide ((Nat.cast k : Int) < 64)) (IntKind.i64.wrap ((Nat.cast k : Int) * (Nat.cast n : Int)) = (Nat.cast k : Int) * (Nat.cast n : Int) ∧ (64 : Int) ≠ 0 ∧ IntKind.i64.wrap (((Nat.cast k : Int) * (Nat.cast n : Int)).tdiv 64) = ((Nat.cast k : Int) * (Nat.cast n : Int)).tdiv 64 ∧ Le (iv IntKind.i64 (((Nat.cast k : Int) * (Nat.cast n : Int)).tdiv 64)) (iv IntKind.i64 (Nat.cast ((k * n / 64)) : Int)) ∧ InR ((Nat.cast ((k * n / 64)) : Int)) n ∧ p + o + ((Nat.cast ((k * n / 64)) : Int)).toNat * 1 < (qls p s).length ∧ (qls p s).getD (p + o + ((Nat.cast ((k * n / 64)) : Int)).toNat * 1) Leaf.u ≠ Leaf.u ∧ Le (SV.c (Cp.l ((qls p s).getD (p + o + ((Nat.cast ((k * n / 64)) : Int)).toNat * 1) Leaf.u))) (iv IntKind.i64 (xM s o n k)) ∧ CallOKd Tryz.prog 103 [] [iv IntKind.i64 (xM s o n k)] [] 3 (ag [Leaf.v (Value.int IntKind.u8 (Nat.cast ((pxM (xM s o n k) 0).toNat) : Int)), Leaf.v (Value.int IntKind.u8 (Nat.cast ((pxM (xM s o n k) 1).toNat) : Int)), Leaf.v (Value.int IntKind.u8 (Nat.cast ((pxM (xM s o n k) 2).toNat) : Int)), Leaf.v (Value.int IntKind.u8 (Nat.cast ((pxM (xM s o n k) 3).toNat) : Int))]) [] 0 ∧ CallOKd Tryz.prog 100 [] [ag [Leaf.v (Value.int IntKind.u8 (Nat.cast ((pxM (xM s o n k) 0).toNat) : Int)), Leaf.v (Value.int IntKind.u8 (Nat.cast ((pxM (xM s o n k) 1).toNat) : Int)), Leaf.v (Value.int IntKind.u8 (Nat.cast ((pxM (xM s o n k) 2).toNat) : Int)), Leaf.v (Value.int IntKind.u8 (Nat.cast ((pxM (xM s o n k) 3).toNat) : Int))]] [] 3 (ag [Leaf.v (Value.int IntKind.u8 (pcl (Nat.cast ((pxM (xM s o n k) 3).toNat) : Int) (Nat.cast ((pxM (xM s o n k) 0).toNat) : Int))), Leaf.v (Value.int IntKind.u8 (pcl (Nat.cast ((pxM (xM s o n k) 3).toNat) : Int) (Nat.cast ((pxM (xM s o n k) 1).toNat) : Int))), Leaf.v (Value.int IntKind.u8 (pcl (Nat.cast ((pxM (xM s o n k) 3).toNat) : Int) (Nat.cast ((pxM (xM s o n k) 2).toNat) : Int))), Leaf.v (Value.int IntKind.u8 (pcl (Nat.cast ((pxM (xM s o n k) 3).toNat) : Int) (Nat.cast ((pxM (xM s o n k) 3).toNat) : Int)))]) [] 0 ∧ Le (ag [Leaf.v (Value.int IntKind.u8 (pcl (Nat.cast ((pxM (xM s o n k) 3).toNat) : Int) (Nat.cast ((pxM (xM s o n k) 0).toNat) : Int))), Leaf.v (Value.int IntKind.u8 (pcl (Nat.cast ((pxM (xM s o n k) 3).toNat) : Int) (Nat.cast ((pxM (xM s o n k) 1).toNat) : Int))), Leaf.v (Value.int IntKind.u8 (pcl (Nat.cast ((pxM (xM s o n k) 3).toNat) : Int) (Nat.cast ((pxM (xM s o n k) 2).toNat) : Int))), Leaf.v (Value.int IntKind.u8 (pcl (Nat.cast ((pxM (xM s o n k) 3).toNat) : Int) (Nat.cast ((pxM (xM s o n k) 3).toNat) : Int)))]) (ag [Leaf.v (Value.int IntKind.u8 (Nat.cast ((pxC (xM s o n k) 0).toNat) : Int)), Leaf.v (Value.int IntKind.u8 (Nat.cast ((pxC (xM s o n k) 1).toNat) : Int)), Leaf.v (Value.int IntKind.u8 (Nat.cast ((pxC (xM s o n k) 2).toNat) : Int)), Leaf.v (Value.int IntKind.u8 (Nat.cast ((pxC (xM s o n k) 3).toNat) : Int))]) ∧ InR ((Nat.cast k : Int)) 64 ∧ 0 + ((Nat.cast k : Int)).toNat * 4 + 4 ≤ 256 ∧ HB (bitsV BinOp.and IntKind.i64 (xM s o n k) 3 == 2) (IntKind.i64.wrap (7919 * (Nat.cast k : Int)) = 7919 * (Nat.cast k : Int) ∧ CallOKd Tryz.prog 103 [] [iv IntKind.i64 (IntKind.i64.wrap (xM s o n k + 7919 * (Nat.cast k : Int)))] [] 3 (ag [Leaf.v (Value.int IntKind.u8 (Nat.cast ((pxM (IntKind.i64.wrap (xM s o n k + 7919 * (Nat.cast k : Int))) 0).toNat) : Int)), Leaf.v (Value.int IntKind.u8 (Nat.cast ((pxM (IntKind.i64.wrap (xM s o n k + 7919 * (Nat.cast k : Int))) 1).toNat) : Int)), Leaf.v (Value.int IntKind.u8 (Nat.cast ((pxM (IntKind.i64.wrap (xM s o n k + 7919 * (Nat.cast k : Int))) 2).toNat) : Int)), Leaf.v (Value.int IntKind.u8 (Nat.cast ((pxM (IntKind.i64.wrap (xM s o n k + 7919 * (Nat.cast k : Int))) 3).toNat) : Int))]) [] 0 ∧ CallOKd Tryz.prog 100 [] [ag [Leaf.v (Value.int IntKind.u8 (Nat.cast ((pxM (IntKind.i64.wrap (xM s o n k + 7919 * (Nat.cast k : Int))) 0).toNat) : Int)), Leaf.v (Value.int IntKind.u8 (Nat.cast ((pxM (IntKind.i64.wrap (xM s o n k + 7919 * (Nat.cast k : Int))) 1).toNat) : Int)), Leaf.v (Value.int IntKind.u8 (Nat.cast ((pxM (IntKind.i64.wrap (xM s o n k + 7919 * (Nat.cast k : Int))) 2).toNat) : Int)), Leaf.v (Value.int IntKind.u8 (Nat.cast ((pxM (IntKind.i64.wrap (xM s o n k + 7919 * (Nat.cast k : Int))) 3).toNat) : Int))]] [] 3 (ag [Leaf.v (Value.int IntKind.u8 (pcl (Nat.cast ((pxM (IntKind.i64.wrap (xM s o n k + 7919 * (Nat.cast k : Int))) 3).toNat) : Int) (Nat.cast ((pxM (IntKind.i64.wrap (xM s o n k + 7919 * (Nat.cast k : Int))) 0).toNat) : Int))), Leaf.v (Value.int IntKind.u8 (pcl (Nat.cast ((pxM (IntKind.i64.wrap (xM s o n k + 7919 * (Nat.cast k : Int))) 3).toNat) : Int) (Nat.cast ((pxM (IntKind.i64.wrap (xM s o n k + 7919 * (Nat.cast k : Int))) 1).toNat) : Int))), Leaf.v (Value.int IntKind.u8 (pcl (Nat.cast ((pxM (IntKind.i64.wrap (xM s o n k + 7919 * (Nat.cast k : Int))) 3).toNat) : Int) (Nat.cast ((pxM (IntKind.i64.wrap (xM s o n k + 7919 * (Nat.cast k : Int))) 2).toNat) : Int))), Leaf.v (Value.int IntKind.u8 (pcl (Nat.cast ((pxM (IntKind.i64.wrap (xM s o n k + 7919 * (Nat.cast k : Int))) 3).toNat) : Int) (Nat.cast ((pxM (IntKind.i64.wrap (xM s o n k + 7919 * (Nat.cast k : Int))) 3).toNat) : Int)))]) [] 0 ∧ Le (ag [Leaf.v (Value.int IntKind.u8 (pcl (Nat.cast ((pxM (IntKind.i64.wrap (xM s o n k + 7919 * (Nat.cast k : Int))) 3).toNat) : Int) (Nat.cast ((pxM (IntKind.i64.wrap (xM s o n k + 7919 * (Nat.cast k : Int))) 0).toNat) : Int))), Leaf.v (Value.int IntKind.u8 (pcl (Nat.cast ((pxM (IntKind.i64.wrap (xM s o n k + 7919 * (Nat.cast k : Int))) 3).toNat) : Int) (Nat.cast ((pxM (IntKind.i64.wrap (xM s o n k + 7919 * (Nat.cast k : Int))) 1).toNat) : Int))), Leaf.v (Value.int IntKind.u8 (pcl (Nat.cast ((pxM (IntKind.i64.wrap (xM s o n k + 7919 * (Nat.cast k : Int))) 3).toNat) : Int) (Nat.cast ((pxM (IntKind.i64.wrap (xM s o n k + 7919 * (Nat.cast k : Int))) 2).toNat) : Int))), Leaf.v (Value.int IntKind.u8 (pcl (Nat.cast ((pxM (IntKind.i64.wrap (xM s o n k + 7919 * (Nat.cast k : Int))) 3).toNat) : Int) (Nat.cast ((pxM (IntKind.i64.wrap (xM s o n k + 7919 * (Nat.cast k : Int))) 3).toNat) : Int)))]) (ag [Leaf.v (Value.int IntKind.u8 (Nat.cast ((pxC (IntKind.i64.wrap (xM s o n k + 7919 * (Nat.cast k : Int))) 0).toNat) : Int)), Leaf.v (Value.int IntKind.u8 (Nat.cast ((pxC (IntKind.i64.wrap (xM s o n k + 7919 * (Nat.cast k : Int))) 1).toNat) : Int)), Leaf.v (Value.int IntKind.u8 (Nat.cast ((pxC (IntKind.i64.wrap (xM s o n k + 7919 * (Nat.cast k : Int))) 2).toNat) : Int)), Leaf.v (Value.int IntKind.u8 (Nat.cast ((pxC (IntKind.i64.wrap (xM s o n k + 7919 * (Nat.cast k : Int))) 3).toNat) : Int))]) ∧ InR ((Nat.cast k : Int)) 64 ∧ 0 + ((Nat.cast k : Int)).toNat * 4 + 4 ≤ (splice (tl (upTo k (mdT s o n) zT)) (0 + ((Nat.cast k : Int)).toNat * 4) [Leaf.v (Value.int IntKind.u8 (Nat.cast ((pxC (xM s o n k) 0).toNat) : Int)), Leaf.v (Value.int IntKind.u8 (Nat.cast ((pxC (xM s o n k) 1).toNat) : Int)), Leaf.v (Value.int IntKind.u8 (Nat.cast ((pxC (xM s o n k) 2).toNat) : Int)), Leaf.v (Value.int IntKind.u8 (Nat.cast ((pxC (xM s o n k) 3).toNat) : Int))]).length ∧ IntKind.i64.wrap ((Nat.cast k : Int) + 1) = (Nat.cast k : Int) + 1 ∧ RoundTo Tryz.prog ((getLoop 3 (Tryz.f43.body.getD Code.skip)).getD Code.skip) 3 (wkK 3 K) (St.mk [(4, iv IntKind.i64 ((Nat.cast k : Int) + 1)), (15, iv IntKind.i64 ((Nat.cast k : Int) + 1)), (14, iv IntKind.i64 (Nat.cast k : Int)), (39, SV.c (Cp.l (Leaf.p 2 (0 + ((Nat.cast k : Int)).toNat * 4)))), (38, ag [Leaf.v (Value.int IntKind.u8 (Nat.cast ((pxC (IntKind.i64.wrap (xM s o n k + 7919 * (Nat.cast k : Int))) 0).toNat) : Int)), Leaf.v (Value.int IntKind.u8 (Nat.cast ((pxC (IntKind.i64.wrap (xM s o n k + 7919 * (Nat.cast k : Int))) 1).toNat) : Int)), Leaf.v (Value.int IntKind.u8 (Nat.cast ((pxC (IntKind.i64.wrap (xM s o n k + 7919 * (Nat.cast k : Int))) 2).toNat) : Int)), Leaf.v (Value.int IntKind.u8 (Nat.cast ((pxC (IntKind.i64.wrap (xM s o n k + 7919 * (Nat.cast k : Int))) 3).toNat) : Int))]), (37, ag [Leaf.v (Value.int IntKind.u8 (Nat.cast ((pxM (IntKind.i64.wrap (xM s o n k + 7919 * (Nat.cast k : Int))) 0).toNat) : Int)), Leaf.v (Value.int IntKind.u8 (Nat.cast ((pxM (IntKind.i64.wrap (xM s o n k + 7919 * (Nat.cast k : Int))) 1).toNat) : Int)), Leaf.v (Value.int IntKind.u8 (Nat.cast ((pxM (IntKind.i64.wrap (xM s o n k + 7919 * (Nat.cast k : Int))) 2).toNat) : Int)), Leaf.v (Value.int IntKind.u8 (Nat.cast ((pxM (IntKind.i64.wrap (xM s o n k + 7919 * (Nat.cast k : Int))) 3).toNat) : Int))]), (36, iv IntKind.i64 (IntKind.i64.wrap (xM s o n k + 7919 * (Nat.cast k : Int)))), (35, iv IntKind.i64 (7919 * (Nat.cast k : Int))), (34, iv IntKind.i64 (Nat.cast k : Int)), (33, iv IntKind.i64 (xM s o n k)), (32, iv IntKind.i64 (Nat.cast k : Int)), (31, bv (bitsV BinOp.and IntKind.i64 (xM s o n k) 3 == 2)), (30, iv IntKind.i64 (bitsV BinOp.and IntKind.i64 (xM s o n k) 3)), (29, iv IntKind.i64 (xM s o n k)), (28, SV.c (Cp.l (Leaf.p 2 (0 + ((Nat.cast k : Int)).toNat * 4)))), (27, ag [Leaf.v (Value.int IntKind.u8 (Nat.cast ((pxC (xM s o n k) 0).toNat) : Int)), Leaf.v (Value.int IntKind.u8 (Nat.cast ((pxC (xM s o n k) 1).toNat) : Int)), Leaf.v (Value.int IntKind.u8 (Nat.cast ((pxC (xM s o n k) 2).toNat) : Int)), Leaf.v (Value.int IntKind.u8 (Nat.cast ((pxC (xM s o n k) 3).toNat) : Int))]), (26, ag [Leaf.v (Value.int IntKind.u8 (Nat.cast ((pxM (xM s o n k) 0).toNat) : Int)), Leaf.v (Value.int IntKind.u8 (Nat.cast ((pxM (xM s o n k) 1).toNat) : Int)), Leaf.v (Value.int IntKind.u8 (Nat.cast ((pxM (xM s o n k) 2).toNat) : Int)), Leaf.v (Value.int IntKind.u8 (Nat.cast ((pxM (xM s o n k) 3).toNat) : Int))]), (25, iv IntKind.i64 (xM s o n k)), (24, iv IntKind.i64 (Nat.cast k : Int)), (5, iv IntKind.i64 (xM s o n k)), (23, iv IntKind.i64 (xM s o n k)), (22, SV.c (Cp.l (Leaf.p 0 (p + o + ((Nat.cast ((k * n / 64)) : Int)).toNat * 1)))), (21, iv IntKind.i64 (Nat.cast ((k * n / 64)) : Int)), (20, iv IntKind.i64 ((Nat.cast k : Int) * (Nat.cast n : Int))), (19, iv IntKind.i64 (Nat.cast n : Int)), (18, SV.c (Cp.l (Leaf.s 0 (p + o) n))), (17, iv IntKind.i64 (Nat.cast k : Int)), (16, SV.c (Cp.l (Leaf.s 0 (p + o) n))), (13, bv (decide ((Nat.cast k : Int) < 64))), (12, SV.g (decide ((Nat.cast k : Int) < 64)) (Cp.l (lb (decide ((Nat.cast n : Int) > 0))))), (11, SV.g (decide ((Nat.cast k : Int) < 64)) (Cp.l (li (Nat.cast n : Int)))), (10, SV.g (decide ((Nat.cast k : Int) < 64)) (Cp.l (Leaf.s 0 (p + o) n))), (9, bv (decide ((Nat.cast k : Int) < 64))), (8, bv (decide ((Nat.cast k : Int) < 64))), (7, iv IntKind.i64 (Nat.cast k : Int)), (4, iv IntKind.i64 (Nat.cast k : Int)), (3, SV.c (Cp.l (Leaf.p 2 0))), (2, SV.c (Cp.l (Leaf.p 1 0))), (0, SV.c (Cp.l (Leaf.s 0 (p + o) n)))] [(2, some (Blk.mk (splice (splice (tl (upTo k (mdT s o n) zT)) (0 + ((Nat.cast k : Int)).toNat * 4) [Leaf.v (Value.int IntKind.u8 (Nat.cast ((pxC (xM s o n k) 0).toNat) : Int)), Leaf.v (Value.int IntKind.u8 (Nat.cast ((pxC (xM s o n k) 1).toNat) : Int)), Leaf.v (Value.int IntKind.u8 (Nat.cast ((pxC (xM s o n k) 2).toNat) : Int)), Leaf.v (Value.int IntKind.u8 (Nat.cast ((pxC (xM s o n k) 3).toNat) : Int))]) (0 + ((Nat.cast k : Int)).toNat * 4) [Leaf.v (Value.int IntKind.u8 (Nat.cast ((pxC (IntKind.i64.wrap (xM s o n k + 7919 * (Nat.cast k : Int))) 0).toNat) : Int)), Leaf.v (Value.int IntKind.u8 (Nat.cast ((pxC (IntKind.i64.wrap (xM s o n k + 7919 * (Nat.cast k : Int))) 1).toNat) : Int)), Leaf.v (Value.int IntKind.u8 (Nat.cast ((pxC (IntKind.i64.wrap (xM s o n k + 7919 * (Nat.cast k : Int))) 2).toNat) : Int)), Leaf.v (Value.int IntKind.u8 (Nat.cast ((pxC (IntKind.i64.wrap (xM s o n k + 7919 * (Nat.cast k : Int))) 3).toNat) : Int))]) (BT.t 38))), (2, some (Blk.mk (splice (tl (upTo k (mdT s o n) zT)) (0 + ((Nat.cast k : Int)).toNat * 4) [Leaf.v (Value.int IntKind.u8 (Nat.cast ((pxC (xM s o n k) 0).toNat) : Int)), Leaf.v (Value.int IntKind.u8 (Nat.cast ((pxC (xM s o n k) 1).toNat) : Int)), Leaf.v (Value.int IntKind.u8 (Nat.cast ((pxC (xM s o n k) 2).toNat) : Int)), Leaf.v (Value.int IntKind.u8 (Nat.cast ((pxC (xM s o n k) 3).toNat) : Int))]) (BT.t 38))), (0, some (Blk.mk (qls p s) BT.q)), (1, some (Blk.mk (tl zT) (BT.t 38))), (2, some (Blk.mk (tl (upTo k (mdT s o n) zT)) (BT.t 38)))] 3 41 [2, 2, 2, 1] 1)) (IntKind.i64.wrap ((Nat.cast k : Int) + 1) = (Nat.cast k : Int) + 1 ∧ RoundTo Tryz.prog ((getLoop 3 (Tryz.f43.body.getD Code.skip)).getD Code.skip) 3 (wkK 3 K) (St.mk [(4, iv IntKind.i64 ((Nat.cast k : Int) + 1)), (15, iv IntKind.i64 ((Nat.cast k : Int) + 1)), (14, iv IntKind.i64 (Nat.cast k : Int)), (31, bv (bitsV BinOp.and IntKind.i64 (xM s o n k) 3 == 2)), (30, iv IntKind.i64 (bitsV BinOp.and IntKind.i64 (xM s o n k) 3)), (29, iv IntKind.i64 (xM s o n k)), (28, SV.c (Cp.l (Leaf.p 2 (0 + ((Nat.cast k : Int)).toNat * 4)))), (27, ag [Leaf.v (Value.int IntKind.u8 (Nat.cast ((pxC (xM s o n k) 0).toNat) : Int)), Leaf.v (Value.int IntKind.u8 (Nat.cast ((pxC (xM s o n k) 1).toNat) : Int)), Leaf.v (Value.int IntKind.u8 (Nat.cast ((pxC (xM s o n k) 2).toNat) : Int)), Leaf.v (Value.int IntKind.u8 (Nat.cast ((pxC (xM s o n k) 3).toNat) : Int))]), (26, ag [Leaf.v (Value.int IntKind.u8 (Nat.cast ((pxM (xM s o n k) 0).toNat) : Int)), Leaf.v (Value.int IntKind.u8 (Nat.cast ((pxM (xM s o n k) 1).toNat) : Int)), Leaf.v (Value.int IntKind.u8 (Nat.cast ((pxM (xM s o n k) 2).toNat) : Int)), Leaf.v (Value.int IntKind.u8 (Nat.cast ((pxM (xM s o n k) 3).toNat) : Int))]), (25, iv IntKind.i64 (xM s o n k)), (24, iv IntKind.i64 (Nat.cast k : Int)), (5, iv IntKind.i64 (xM s o n k)), (23, iv IntKind.i64 (xM s o n k)), (22, SV.c (Cp.l (Leaf.p 0 (p + o + ((Nat.cast ((k * n / 64)) : Int)).toNat * 1)))), (21, iv IntKind.i64 (Nat.cast ((k * n / 64)) : Int)), (20, iv IntKind.i64 ((Nat.cast k : Int) * (Nat.cast n : Int))), (19, iv IntKind.i64 (Nat.cast n : Int)), (18, SV.c (Cp.l (Leaf.s 0 (p + o) n))), (17, iv IntKind.i64 (Nat.cast k : Int)), (16, SV.c (Cp.l (Leaf.s 0 (p + o) n))), (13, bv (decide ((Nat.cast k : Int) < 64))), (12, SV.g (decide ((Nat.cast k : Int) < 64)) (Cp.l (lb (decide ((Nat.cast n : Int) > 0))))), (11, SV.g (decide ((Nat.cast k : Int) < 64)) (Cp.l (li (Nat.cast n : Int)))), (10, SV.g (decide ((Nat.cast k : Int) < 64)) (Cp.l (Leaf.s 0 (p + o) n))), (9, bv (decide ((Nat.cast k : Int) < 64))), (8, bv (decide ((Nat.cast k : Int) < 64))), (7, iv IntKind.i64 (Nat.cast k : Int)), (4, iv IntKind.i64 (Nat.cast k : Int)), (3, SV.c (Cp.l (Leaf.p 2 0))), (2, SV.c (Cp.l (Leaf.p 1 0))), (0, SV.c (Cp.l (Leaf.s 0 (p + o) n)))] [(2, some (Blk.mk (splice (tl (upTo k (mdT s o n) zT)) (0 + ((Nat.cast k : Int)).toNat * 4) [Leaf.v (Value.int IntKind.u8 (Nat.cast ((pxC (xM s o n k) 0).toNat) : Int)), Leaf.v (Value.int IntKind.u8 (Nat.cast ((pxC (xM s o n k) 1).toNat) : Int)), Leaf.v (Value.int IntKind.u8 (Nat.cast ((pxC (xM s o n k) 2).toNat) : Int)), Leaf.v (Value.int IntKind.u8 (Nat.cast ((pxC (xM s o n k) 3).toNat) : Int))]) (BT.t 38))), (0, some (Blk.mk (qls p s) BT.q)), (1, some (Blk.mk (tl zT) (BT.t 38))), (2, some (Blk.mk (tl (upTo k (mdT s o n) zT)) (BT.t 38)))] 3 41 [2, 2, 1] 1))) (wkK 3 K (Exit.exit 0) (St.mk [(13, bv (decide ((Nat.cast k : Int) < 64))), (12, SV.g (decide ((Nat.cast k : Int) < 64)) (Cp.l (lb (decide ((Nat.cast n : Int) > 0))))), (11, SV.g (decide ((Nat.cast k : Int) < 64)) (Cp.l (li (Nat.cast n : Int)))), (10, SV.g (decide ((Nat.cast k : Int) < 64)) (Cp.l (Leaf.s 0 (p + o) n))), (9, bv (decide ((Nat.cast k : Int) < 64))), (8, bv (decide ((Nat.cast k : Int) < 64))), (7, iv IntKind.i64 (Nat.cast k : Int)), (4, iv IntKind.i64 (Nat.cast k : Int)), (3, SV.c (Cp.l (Leaf.p 2 0))), (2, SV.c (Cp.l (Leaf.p 1 0))), (0, SV.c (Cp.l (Leaf.s 0 (p + o) n)))] [(0, some (Blk.mk (qls p s) BT.q)), (1, some (Blk.mk (tl zT) (BT.t 38))), (2, some (Blk.mk (tl (upTo k (mdT s o n) zT)) (BT.t 38)))] 3 41 [2, 1] 1))) : WPL Tryz.prog ((getLoop 3 (Tryz.f43.body.getD .skip)).getD .skip) (I43 p s o n k) (wkK 3 K) :=
  wp_round (cx := cz_R43 p s o n k) rfl (of_eq (by kernel_rfl) h)
set_option maxRecDepth 100000 in
set_option maxHeartbeats 4000000 in
theorem L43 (p : Nat) (s : List Int) (o n : Nat) (hn : 0 < n) (ho : o + n ≤ s.length) (hs : s.length ≤ 20000000000000) : ∀ (m k : Nat), 64 - k = m → k ≤ 64 → ∀ (K : Exit → St → Prop), K (.exit 0) (I43 p s o n 64) → WPL Tryz.prog ((getLoop 3 (Tryz.f43.body.getD .skip)).getD .skip) (I43 p s o n k) (wkK 3 K)
  | 0, k, hm, hk, K, hK => by
    have e : k = 64 := by omega
    subst e
    refine R43 p s o n _ K ⟨fun h => ⟨h, trivial⟩, ⟨fun h => ⟨h, trivial⟩, ⟨fun h => h, ⟨(Le.bool (by rw [decide_eq_true (show ((n : Nat) : Int) > 0 by omega)]; exact cond_tf _)), (HB.mk (fun hne => absurd (of_decide_eq_true hne) (by omega)) (fun he => ?_))⟩⟩⟩⟩
    exact wkK.to (I43 p s o n _) (Nat.le_refl _) (by kernel_rfl) (wkE_cons (LeN.sl (by kernel_rfl) rfl) (wkE_cons (LeN.sl (by kernel_rfl) rfl) (wkE_cons (LeN.sl (by kernel_rfl) rfl) (wkE_cons (LeN.sl (by kernel_rfl) rfl) trivial)))) (wkH_cons (BkN.fix (cs := qls p s) (b := .q) (by kernel_rfl) (rfl) (fix_qls p s) (by kernel_rfl)) (wkH_cons (BkN.plain (cs := tl zT) (b := .t 38) (by kernel_rfl) (rfl) (plain_tl zT) (by kernel_rfl)) (wkH_cons (BkN.plain (cs := tl (upTo 64 (mdT s o n) zT)) (b := .t 38) (by kernel_rfl) (rfl) (plain_tl _) (by kernel_rfl)) trivial))) hK
  | m + 1, k, hm, hk, K, hK => by
    refine R43 p s o n k K ⟨fun h => ⟨h, trivial⟩, ⟨fun h => ⟨h, trivial⟩, ⟨fun h => h, ⟨(Le.bool (by rw [decide_eq_true (show ((n : Nat) : Int) > 0 by omega)]; exact cond_tf _)), (HB.mk (fun hne => ?_) (fun he => absurd (show ((k : Nat) : Int) < (64 : Nat) by omega) (of_decide_eq_false he)))⟩⟩⟩⟩
    have hlt : k < 64 := by omega
    have hkn : (k : Int) * n ≤ 64 * n := Int.mul_le_mul_of_nonneg_right (by omega) (by omega)
    have hkn0 : 0 ≤ (k : Int) * n := Int.mul_nonneg (by omega) (by omega)
    have hd64 : ((k : Int) * n).tdiv 64 = ((k * n / 64 : Nat) : Int) := idx_int k n
    have hib := idx_bd hlt hn
    repeat' (first | exact trivial | with_reducible apply And.intro | (with_reducible apply HB.mk) | with_reducible intro _)
    all_goals first
      | (assumption)
      | (with_reducible exact Le.refl _)
      | (with_reducible rfl)
      | (with_reducible exact C100 _ _ _ _ _)
      | (with_reducible exact C103 _ _)
      | (exact ⟨by omega, by omega⟩)
      | ((refine Le.bool ?_; rw [decide_eq_true (show ((n : Nat) : Int) > 0 by omega)]; cases decide (((k : Nat) : Int) < 64) <;> rfl))
      | (exact okw _ (by omega) (by omega))
      | (exact Le.int (idx_int k n))
      | (exact ⟨by omega, by have := idx_bd hlt hn; omega⟩)
      | ((rw [qls_len, show (((k * n / 64 : Nat) : Nat) : Int).toNat = k * n / 64 from rfl]; have := idx_bd hlt hn; omega))
      | ((rw [show (((k * n / 64 : Nat) : Nat) : Int).toNat * 1 = k * n / 64 from Nat.mul_one _, Nat.add_assoc]; exact qls_ne p s (by have := idx_bd hlt hn; omega)))
      | ((refine Le.of ?_; rw [show (((k * n / 64 : Nat) : Nat) : Int).toNat * 1 = k * n / 64 from Nat.mul_one _, Nat.add_assoc, qls_at p s (by have := idx_bd hlt hn; omega)]; rfl))
      | (exact Le.of (congrArg (fun l => SV.c (.agg l)) (pxC_eq _)))
      | ((rw [tl_len]; omega))
      | ((rw [splice_length, tl_len]; omega))
      | (exact C103 _ _)
      | (omega)
      | (have hcnd : (bitsV .and .i64 (xM s o n k) 3 == 2) = false := (by with_reducible assumption); (with_reducible refine RoundTo.toN 3 (I43 p s o n (k + 1)) ?_ ?_ ?_ ?_ ?_); exact Nat.le_refl _; kernel_rfl; exact (wkE_cons (LeN.sl (by kernel_rfl) rfl) (wkE_cons (LeN.sl (by kernel_rfl) rfl) (wkE_cons (LeN.sl (by kernel_rfl) rfl) (wkE_cons (LeN.sl (by kernel_rfl) rfl) trivial)))); exact (wkH_cons (BkN.fix (cs := qls p s) (b := .q) (by kernel_rfl) (rfl) (fix_qls p s) (by kernel_rfl)) (wkH_cons (BkN.plain (cs := tl zT) (b := .t 38) (by kernel_rfl) (rfl) (plain_tl zT) (by kernel_rfl)) (wkH_cons (BkN.plain (cs := splice (tl (upTo k (mdT s o n) zT)) (0 + k * 4) (pxCL (xM s o n k))) (b := .t 38) (by kernel_rfl) (md_one hlt hcnd) (plain_tl _) (by kernel_rfl)) trivial))); exact (L43 p s o n hn ho hs m (k + 1) (by omega) (by omega) K hK))
      | (have hcnd : (bitsV .and .i64 (xM s o n k) 3 == 2) = true := (by with_reducible assumption); (with_reducible refine RoundTo.toN 3 (I43 p s o n (k + 1)) ?_ ?_ ?_ ?_ ?_); exact Nat.le_refl _; kernel_rfl; exact (wkE_cons (LeN.sl (by kernel_rfl) rfl) (wkE_cons (LeN.sl (by kernel_rfl) rfl) (wkE_cons (LeN.sl (by kernel_rfl) rfl) (wkE_cons (LeN.sl (by kernel_rfl) rfl) trivial)))); exact (wkH_cons (BkN.fix (cs := qls p s) (b := .q) (by kernel_rfl) (rfl) (fix_qls p s) (by kernel_rfl)) (wkH_cons (BkN.plain (cs := tl zT) (b := .t 38) (by kernel_rfl) (rfl) (plain_tl zT) (by kernel_rfl)) (wkH_cons (BkN.plain (cs := splice (splice (tl (upTo k (mdT s o n) zT)) (0 + k * 4) (pxCL (xM s o n k))) (0 + k * 4) (pxCL (IntKind.i64.wrap (xM s o n k + 7919 * k)))) (b := .t 38) (by kernel_rfl) (md_two hlt hcnd) (plain_tl _) (by kernel_rfl)) trivial))); exact (L43 p s o n hn ho hs m (k + 1) (by omega) (by omega) K hK))
      | (exact okw _ (by omega) (by omega))
      | (exact Le.of rfl)
      | (exact BkR.of rfl)
      | (unfold SlOK; omega)
      | (unfold SlOK; decide)
      | (unfold inByte; decide)
      | (simp only [*, Bool.and_self, Bool.not_false, Bool.not_true]; done)
      | (simp_all [wants]; done)
theorem enters43 : Enters Tryz.prog 43 := fun args w => by go_simp
def cz_C43 (p : Nat) (s : List Int) (o y : Nat) : Cz := {
  ct := (fun f => match f with
  | 100 => some fun _ _S ar => match ar with | [.c (.agg [.v (.int _ a), .v (.int _ b), .v (.int _ c), .v (.int _ e)])] => some { v := ag [u8 (pcl e a), u8 (pcl e b), u8 (pcl e c), u8 (pcl e e)], rd := [], wr := [], nw := 0 } | _ => none
  | 103 => some fun _ _S ar => match ar with | [.c (.l (.v (.int _ x)))] => some { v := ag (pxL x), rd := [], wr := [], nw := 0 } | _ => none
  | _ => none)
  eq := (fun t => match t with
  | _ => none)
  raw := [], sym := [], nf := [(40, .c (.agg (tl (mdT s o y))))], ap := true, off := [], on := [], lp := fun r => match r with | 3 => some (fun _ K => K (.exit 0) (I43 p s o y 64)) | _ => none, un := 0, wh := [38] }
set_option maxRecDepth 100000 in
set_option maxHeartbeats 400000 in
theorem C43 (p : Nat) (s : List Int) (o y : Nat) (hn : 0 < y) (ho : o + y ≤ s.length) (hs : s.length ≤ 20000000000000) : CallOK Tryz.prog 43 [.c (.l (.s 0 (p + o) y))] [(0, ⟨qls p s, .q⟩)] 1 (.c (.agg (tl (mdT s o y)))) [] 0 := by
  refine call_ok (cx := cz_C43 p s o y) (nm := []) rfl Tryz.func43 (body := Tryz.f43.body.getD .skip) rfl enters43 (by unfold inck; simp only [List.all_cons, List.all_nil, blkLt_fix (fix_qls p s) (show (BT.rn (rnId 1 0 []) (.q)).isSome = true from rfl), Bool.and_true, Bool.true_and]; kernel_rfl) ?_
  apply of_eq (q := 0 = 0 ∧ 256 = 256 ∧ (LoopOK Tryz.prog ((getLoop 3 (Tryz.f43.body.getD .skip)).getD .skip) (St.mk [(4, iv IntKind.i64 0), (3, SV.c (Cp.l (Leaf.p 2 0))), (6, ag zT256), (2, SV.c (Cp.l (Leaf.p 1 0))), (0, SV.c (Cp.l (Leaf.s 0 (p + o) y)))] [(2, some (Blk.mk zT256 (BT.t 38))), (2, some (Blk.mk zT256 (BT.t 38))), (1, some (Blk.mk zT256 (BT.t 38))), (0, some (Blk.mk (qls p s) BT.q))] 3 41 [2, 2, 1] 1) fun K => K (Exit.exit 0) (I43 p s o y 64)) ∧ Le (ag (List.take 256 (tl (upTo 64 (mdT s o y) zT)))) (ag (tl (mdT s o y))) ∧ 0 = 0 ∧ 256 = 256 ∧ Le (ag (tl (mdT s o y))) (ag (tl (mdT s o y))) ∧ True) (by kernel_rfl)
  repeat' (first | exact trivial | with_reducible apply And.intro | (with_reducible apply HB.mk) | with_reducible intro _)
  all_goals first
    | (assumption)
    | (with_reducible exact Le.refl _)
    | (with_reducible rfl)
    | (exact LoopOK.mk (I43 p s o y 0) rfl (by kernel_rfl) (wkE_cons (LeN.sl (by kernel_rfl) rfl) (wkE_cons (LeN.sl (by kernel_rfl) rfl) (wkE_cons (LeN.sl (by kernel_rfl) rfl) (wkE_cons (LeN.sl (by kernel_rfl) rfl) trivial)))) (wkH_cons (BkN.fix (cs := qls p s) (b := .q) (by kernel_rfl) (rfl) (fix_qls p s) (by kernel_rfl)) (wkH_cons (BkN.plain (cs := tl zT) (b := .t 38) (by kernel_rfl) (rfl) (plain_tl zT) (by kernel_rfl)) (wkH_cons (BkN.plain (cs := tl zT) (b := .t 38) (by kernel_rfl) (by rw [upTo_none]) (plain_tl _) (by kernel_rfl)) trivial))) (fun K hT => L43 p s o y hn ho hs _ 0 rfl (by decide) K hT))
    | (refine Le.of ?_; rw [upTo_all, tl_take])
    | (exact Le.of (by kernel_rfl))
    | (exact okw _ (by omega) (by omega))
    | (exact Le.of rfl)
    | (exact BkR.of rfl)
    | (unfold SlOK; omega)
    | (unfold SlOK; decide)
    | (unfold inByte; decide)
    | (simp only [*, Bool.and_self, Bool.not_false, Bool.not_true]; done)
    | (simp_all [wants]; done)
theorem C43g (p : Nat) (s : List Int) (o y : Nat) (hn : 0 < y) (ho : o + y ≤ s.length) (hs : s.length ≤ 20000000000000) (id n : Nat) (hi : id < n) : CallOK Tryz.prog 43 [.c (.l (.s id (p + o) y))] [(id, ⟨qls p s, .q⟩)] n (.c (.agg (tl (mdT s o y)))) [] 0 := by
  have key := CallOK.at1 (C43 p s o y hn ho hs) id n hi
  have e1 := (fix_qls p s).2 (up1 id n)
  have e2 := ren_plain (σ := up1 id n) (plain_tl (mdT s o y))
  simp only [List.map_cons, List.map_nil, Blk.ren, BT.ren, SV.ren, Cp.ren, Leaf.ren, e1, e2] at key
  exact key
end Ab
end Go.Proofs.YtpdckpifhniioaaGreat
end
section
set_option linter.unusedVariables false
set_option linter.unusedSimpArgs false
namespace Go.Proofs.YtpdckpifhniioaaGreat
open Go.RowKit
namespace Ab
def I122 (t : Nat → UInt8) (k : Nat) : St := ⟨[(3, iv .i64 (k : Nat)), (1, .c (.l (.p 0 0))), (2, .c (.l (.p 1 0)))], [(0, some ⟨tl (upTo k (clnT t) t), .t 38⟩), (1, some ⟨tl zT, .t 38⟩)], 2, 15, [1, 0], (0)⟩
theorem upTo_px (t : Nat → UInt8) {k : Nat} (hk : k < 64) : List.take 4 (List.drop (0 + k * 4) (tl (upTo k (clnT t) t))) = [ub (t (4 * k)), ub (t (4 * k + 1)), ub (t (4 * k + 2)), ub (t (4 * k + 3))] := by
  rw [Nat.zero_add, tl_pix _ hk]
  unfold px upTo
  rw [if_neg (by omega), if_neg (by omega), if_neg (by omega), if_neg (by omega)]
def cz_R122 (t : Nat → UInt8) (k : Nat) : Cz := {
  ct := (fun f => match f with
  | 100 => some fun _ _S ar => match ar with | [.c (.agg [.v (.int _ a), .v (.int _ b), .v (.int _ c), .v (.int _ e)])] => some { v := ag [u8 (pcl e a), u8 (pcl e b), u8 (pcl e c), u8 (pcl e e)], rd := [], wr := [], nw := 0 } | _ => none
  | _ => none)
  eq := (fun t => match t with
  | _ => none)
  raw := [], sym := [0, 10, 11, 13], nf := [(11, .c (.agg [ub (t (4 * k)), ub (t (4 * k + 1)), ub (t (4 * k + 2)), ub (t (4 * k + 3))])), (12, .c (.agg [ub ((clnT t) (4 * k)), ub ((clnT t) (4 * k + 1)), ub ((clnT t) (4 * k + 2)), ub ((clnT t) (4 * k + 3))]))], ap := true, off := [], on := [], lp := fun _ => none, un := 0 }
set_option maxRecDepth 100000 in
theorem R122 (t : Nat → UInt8) (k : Nat)  (K : Exit → St → Prop) (h : HB (decide ((Nat.cast k : Int) < 64)) (InR ((Nat.cast k : Int)) 64 ∧ 0 + ((Nat.cast k : Int)).toNat * 4 + 4 ≤ 256 ∧ Le (ag (List.take 4 (List.drop (0 + ((Nat.cast k : Int)).toNat * 4) (tl (upTo k (clnT t) t))))) (ag [Leaf.v (Value.int IntKind.u8 (Nat.cast ((t (4 * k)).toNat) : Int)), Leaf.v (Value.int IntKind.u8 (Nat.cast ((t (4 * k + 1)).toNat) : Int)), Leaf.v (Value.int IntKind.u8 (Nat.cast ((t (4 * k + 2)).toNat) : Int)), Leaf.v (Value.int IntKind.u8 (Nat.cast ((t (4 * k + 3)).toNat) : Int))]) ∧ CallOKd Tryz.prog 100 [] [ag [Leaf.v (Value.int IntKind.u8 (Nat.cast ((t (4 * k)).toNat) : Int)), Leaf.v (Value.int IntKind.u8 (Nat.cast ((t (4 * k + 1)).toNat) : Int)), Leaf.v (Value.int IntKind.u8 (Nat.cast ((t (4 * k + 2)).toNat) : Int)), Leaf.v (Value.int IntKind.u8 (Nat.cast ((t (4 * k + 3)).toNat) : Int))]] [] 2 (ag [Leaf.v (Value.int IntKind.u8 (pcl (Nat.cast ((t (4 * k + 3)).toNat) : Int) (Nat.cast ((t (4 * k)).toNat) : Int))), Leaf.v (Value.int IntKind.u8 (pcl (Nat.cast ((t (4 * k + 3)).toNat) : Int) (Nat.cast ((t (4 * k + 1)).toNat) : Int))), Leaf.v (Value.int IntKind.u8 (pcl (Nat.cast ((t (4 * k + 3)).toNat) : Int) (Nat.cast ((t (4 * k + 2)).toNat) : Int))), Leaf.v (Value.int IntKind.u8 (pcl (Nat.cast ((t (4 * k + 3)).toNat) : Int) (Nat.cast ((t (4 * k + 3)).toNat) : Int)))]) [] 0 ∧ Le (ag [Leaf.v (Value.int IntKind.u8 (pcl (Nat.cast ((t (4 * k + 3)).toNat) : Int) (Nat.cast ((t (4 * k)).toNat) : Int))), Leaf.v (Value.int IntKind.u8 (pcl (Nat.cast ((t (4 * k + 3)).toNat) : Int) (Nat.cast ((t (4 * k + 1)).toNat) : Int))), Leaf.v (Value.int IntKind.u8 (pcl (Nat.cast ((t (4 * k + 3)).toNat) : Int) (Nat.cast ((t (4 * k + 2)).toNat) : Int))), Leaf.v (Value.int IntKind.u8 (pcl (Nat.cast ((t (4 * k + 3)).toNat) : Int) (Nat.cast ((t (4 * k + 3)).toNat) : Int)))]) (ag [Leaf.v (Value.int IntKind.u8 (Nat.cast ((clnT t (4 * k)).toNat) : Int)), Leaf.v (Value.int IntKind.u8 (Nat.cast ((clnT t (4 * k + 1)).toNat) : Int)), Leaf.v (Value.int IntKind.u8 (Nat.cast ((clnT t (4 * k + 2)).toNat) : Int)), Leaf.v (Value.int IntKind.u8 (Nat.cast ((clnT t (4 * k + 3)).toNat) : Int))]) ∧ InR ((Nat.cast k : Int)) 64 ∧ 0 + ((Nat.cast k : Int)).toNat * 4 + 4 ≤ 256 ∧ IntKind.i64.wrap ((Nat.cast k : Int) + 1) = (Nat.cast k : Int) + 1 ∧ RoundTo Tryz.prog ((getLoop 2 (Tryz.f122.body.getD Code.skip)).getD Code.skip) 2 (wkK 2 K) (St.mk [(3, iv IntKind.i64 ((Nat.cast k : Int) + 1)), (7, iv IntKind.i64 ((Nat.cast k : Int) + 1)), (6, iv IntKind.i64 (Nat.cast k : Int)), (13, SV.c (Cp.l (Leaf.p 0 (0 + ((Nat.cast k : Int)).toNat * 4)))), (12, ag [Leaf.v (Value.int IntKind.u8 (Nat.cast ((clnT t (4 * k)).toNat) : Int)), Leaf.v (Value.int IntKind.u8 (Nat.cast ((clnT t (4 * k + 1)).toNat) : Int)), Leaf.v (Value.int IntKind.u8 (Nat.cast ((clnT t (4 * k + 2)).toNat) : Int)), Leaf.v (Value.int IntKind.u8 (Nat.cast ((clnT t (4 * k + 3)).toNat) : Int))]), (11, ag [Leaf.v (Value.int IntKind.u8 (Nat.cast ((t (4 * k)).toNat) : Int)), Leaf.v (Value.int IntKind.u8 (Nat.cast ((t (4 * k + 1)).toNat) : Int)), Leaf.v (Value.int IntKind.u8 (Nat.cast ((t (4 * k + 2)).toNat) : Int)), Leaf.v (Value.int IntKind.u8 (Nat.cast ((t (4 * k + 3)).toNat) : Int))]), (10, SV.c (Cp.l (Leaf.p 0 (0 + ((Nat.cast k : Int)).toNat * 4)))), (9, iv IntKind.i64 (Nat.cast k : Int)), (8, iv IntKind.i64 (Nat.cast k : Int)), (5, bv (decide ((Nat.cast k : Int) < 64))), (4, iv IntKind.i64 (Nat.cast k : Int)), (3, iv IntKind.i64 (Nat.cast k : Int)), (1, SV.c (Cp.l (Leaf.p 0 0))), (2, SV.c (Cp.l (Leaf.p 1 0)))] [(0, some (Blk.mk (splice (tl (upTo k (clnT t) t)) (0 + ((Nat.cast k : Int)).toNat * 4) [Leaf.v (Value.int IntKind.u8 (Nat.cast ((clnT t (4 * k)).toNat) : Int)), Leaf.v (Value.int IntKind.u8 (Nat.cast ((clnT t (4 * k + 1)).toNat) : Int)), Leaf.v (Value.int IntKind.u8 (Nat.cast ((clnT t (4 * k + 2)).toNat) : Int)), Leaf.v (Value.int IntKind.u8 (Nat.cast ((clnT t (4 * k + 3)).toNat) : Int))]) (BT.t 38))), (0, some (Blk.mk (tl (upTo k (clnT t) t)) (BT.t 38))), (1, some (Blk.mk (tl zT) (BT.t 38)))] 2 15 [0, 1, 0] 0)) (wkK 2 K (Exit.exit 0) (St.mk [(5, bv (decide ((Nat.cast k : Int) < 64))), (4, iv IntKind.i64 (Nat.cast k : Int)), (3, iv IntKind.i64 (Nat.cast k : Int)), (1, SV.c (Cp.l (Leaf.p 0 0))), (2, SV.c (Cp.l (Leaf.p 1 0)))] [(0, some (Blk.mk (tl (upTo k (clnT t) t)) (BT.t 38))), (1, some (Blk.mk (tl zT) (BT.t 38)))] 2 15 [1, 0] 0))) : WPL Tryz.prog ((getLoop 2 (Tryz.f122.body.getD .skip)).getD .skip) (I122 t k) (wkK 2 K) :=
  wp_round (cx := cz_R122 t k) rfl (of_eq (by kernel_rfl) h)
set_option maxRecDepth 100000 in
set_option maxHeartbeats 4000000 in
theorem L122 (t : Nat → UInt8)  : ∀ (m k : Nat), 64 - k = m → k ≤ 64 → ∀ (K : Exit → St → Prop), K (.exit 0) (I122 t 64) → WPL Tryz.prog ((getLoop 2 (Tryz.f122.body.getD .skip)).getD .skip) (I122 t k) (wkK 2 K)
  | 0, k, hm, hk, K, hK => by
    have e : k = 64 := by omega
    subst e
    refine R122 t _ K (HB.mk (fun hne => absurd (of_decide_eq_true hne) (by omega)) (fun he => ?_))
    exact wkK.to (I122 t _) (Nat.le_refl _) (by kernel_rfl) (wkE_cons (LeN.sl (by kernel_rfl) rfl) (wkE_cons (LeN.sl (by kernel_rfl) rfl) (wkE_cons (LeN.sl (by kernel_rfl) rfl) trivial))) (wkH_cons (BkN.plain (cs := tl (upTo 64 (clnT t) t)) (b := .t 38) (by kernel_rfl) (rfl) (plain_tl _) (by kernel_rfl)) (wkH_cons (BkN.plain (cs := tl zT) (b := .t 38) (by kernel_rfl) (rfl) (plain_tl _) (by kernel_rfl)) trivial)) hK
  | m + 1, k, hm, hk, K, hK => by
    refine R122 t k K (HB.mk (fun hne => ?_) (fun he => absurd (show ((k : Nat) : Int) < (64 : Nat) by omega) (of_decide_eq_false he)))
    have hlt : k < 64 := by omega
    repeat' (first | exact trivial | with_reducible apply And.intro | (with_reducible apply HB.mk) | with_reducible intro _)
    all_goals first
      | (assumption)
      | (with_reducible exact Le.refl _)
      | (with_reducible rfl)
      | (with_reducible exact C100 _ _ _ _ _)
      | (exact ⟨by omega, by omega⟩)
      | ((rw [tl_len]; omega))
      | (omega)
      | (exact Le.of (congrArg (fun l => SV.c (.agg l)) (upTo_px t hlt)))
      | (exact Le.of (cln_px t k))
      | ((with_reducible refine RoundTo.toN 2 (I122 t (k + 1)) ?_ ?_ ?_ ?_ ?_); exact Nat.le_refl _; kernel_rfl; exact (wkE_cons (LeN.sl (by kernel_rfl) rfl) (wkE_cons (LeN.sl (by kernel_rfl) rfl) (wkE_cons (LeN.sl (by kernel_rfl) rfl) trivial))); exact (wkH_cons (BkN.plain (cs := splice (tl (upTo k (clnT t) t)) (0 + k * 4) [ub ((clnT t) (4 * k)), ub ((clnT t) (4 * k + 1)), ub ((clnT t) (4 * k + 2)), ub ((clnT t) (4 * k + 3))]) (b := .t 38) (by kernel_rfl) (by rw [Nat.zero_add, upTo_set k _ _ hlt]) (plain_tl _) (by kernel_rfl)) (wkH_cons (BkN.plain (cs := tl zT) (b := .t 38) (by kernel_rfl) (rfl) (plain_tl _) (by kernel_rfl)) trivial)); exact (L122 t  m (k + 1) (by omega) (by omega) K hK))
      | (exact okw _ (by omega) (by omega))
      | (exact Le.of rfl)
      | (exact BkR.of rfl)
      | (unfold SlOK; omega)
      | (unfold SlOK; decide)
      | (unfold inByte; decide)
      | (simp only [*, Bool.and_self, Bool.not_false, Bool.not_true]; done)
      | (simp_all [wants]; done)
theorem enters122 : Enters Tryz.prog 122 := fun args w => by go_simp
def cz_C122 (t : Nat → UInt8) : Cz := {
  ct := (fun f => match f with
  | 100 => some fun _ _S ar => match ar with | [.c (.agg [.v (.int _ a), .v (.int _ b), .v (.int _ c), .v (.int _ e)])] => some { v := ag [u8 (pcl e a), u8 (pcl e b), u8 (pcl e c), u8 (pcl e e)], rd := [], wr := [], nw := 0 } | _ => none
  | _ => none)
  eq := (fun t => match t with
  | _ => none)
  raw := [], sym := [], nf := [(14, .c (.agg (tl (clnT t))))], ap := true, off := [], on := [], lp := fun r => match r with | 2 => some (fun _ K => K (.exit 0) (I122 t 64)) | _ => none, un := 0, wh := [38] }
set_option maxRecDepth 100000 in
set_option maxHeartbeats 400000 in
theorem C122 (t : Nat → UInt8)  (n : Nat) : CallOK Tryz.prog 122 [.c (.agg (tl t))] [] n (.c (.agg (tl (clnT t)))) [] 0 := by
  refine CallOK.any ?_ (by kernel_rfl) (by kernel_rfl) n
  refine call_ok (cx := cz_C122 t) (nm := []) rfl Tryz.func122 (body := Tryz.f122.body.getD .skip) rfl enters122 (by kernel_rfl) ?_
  apply of_eq (q := (LoopOK Tryz.prog ((getLoop 2 (Tryz.f122.body.getD .skip)).getD .skip) (St.mk [(3, iv IntKind.i64 0), (2, SV.c (Cp.l (Leaf.p 1 0))), (1, SV.c (Cp.l (Leaf.p 0 0))), (0, ag (tl t))] [(1, some (Blk.mk zT256 (BT.t 38))), (0, some (Blk.mk (tl t) (BT.t 38)))] 2 15 [1, 0] 0) fun K => K (Exit.exit 0) (I122 t 64)) ∧ Le (ag (List.take 256 (tl (upTo 64 (clnT t) t)))) (ag (tl (clnT t))) ∧ 0 = 0 ∧ 256 = 256 ∧ Le (ag (tl (clnT t))) (ag (tl (clnT t))) ∧ True) (by kernel_rfl)
  repeat' (first | exact trivial | with_reducible apply And.intro | (with_reducible apply HB.mk) | with_reducible intro _)
  all_goals first
    | (assumption)
    | (with_reducible exact Le.refl _)
    | (with_reducible rfl)
    | (exact LoopOK.mk (I122 t 0) rfl (by kernel_rfl) (wkE_cons (LeN.sl (by kernel_rfl) rfl) (wkE_cons (LeN.sl (by kernel_rfl) rfl) (wkE_cons (LeN.sl (by kernel_rfl) rfl) trivial))) (wkH_cons (BkN.plain (cs := tl t) (b := .t 38) (by kernel_rfl) (by rw [upTo_none]) (plain_tl _) (by kernel_rfl)) (wkH_cons (BkN.plain (cs := zT256) (b := .t 38) (by kernel_rfl) (zT256_eq) (plain_tl _) (by kernel_rfl)) trivial)) (fun K hT => L122 t  _ 0 rfl (by first | decide | omega) K hT))
    | (refine Le.of ?_; rw [upTo_all, tl_take])
    | (exact Le.of (by kernel_rfl))
    | (exact okw _ (by omega) (by omega))
    | (exact Le.of rfl)
    | (exact BkR.of rfl)
    | (unfold SlOK; omega)
    | (unfold SlOK; decide)
    | (unfold inByte; decide)
    | (simp only [*, Bool.and_self, Bool.not_false, Bool.not_true]; done)
    | (simp_all [wants]; done)
theorem C122L (l : List Leaf) (t : Nat → UInt8) (h : l = tl t) (n : Nat) : CallOK Tryz.prog 122 [.c (.agg l)] [] n (.c (.agg (tl (clnT (lsB l))))) [] 0 := by
  subst h
  rw [cln_lsB]; exact C122 t n
def I44 (t : Nat → UInt8) (k : Nat) : St := ⟨[(3, iv .i64 (k : Nat)), (1, .c (.l (.p 0 0)))], [(0, some ⟨tl t, .t 38⟩)], 1, 13, [0], (0)⟩
def Q44 (t : Nat → UInt8) : St := ⟨[(2, bv false)], [(0, some ⟨tl t, .t 38⟩)], 1, 13, [0], (0)⟩
theorem tl_a (t : Nat → UInt8) {k : Nat} (hk : k < 64) : (tl t).getD (0 + ((k : Nat) : Int).toNat * 4 + 3) .u = ub (t (4 * k + 3)) := by
  rw [show 0 + ((k : Nat) : Int).toNat * 4 + 3 = 4 * k + 3 by omega, tl_getD t (by omega)]
theorem a_yes {b : UInt8} (h : (((b.toNat : Nat) : Int) != 0) = false) : decide (b = 0) = true := by
  have : ((b.toNat : Nat) : Int) = 0 := by simpa using h
  exact decide_eq_true (UInt8.toNat_inj.1 (by simpa using this))
theorem a_no {b : UInt8} (h : (((b.toNat : Nat) : Int) != 0) = true) : decide (b = 0) = false := by
  refine decide_eq_false fun e => ?_
  subst e
  exact absurd h (by decide)
theorem zero_iff (t : Nat → UInt8) : zeroT t = true ↔ ∀ j, j < 64 → decide (t (4 * j + 3) = 0) = true := by
  unfold zeroT
  rw [sameT_iff]
  constructor
  · intro h j hj
    have := h (4 * j + 3) (by omega)
    unfold clnT pcb zT at this
    rw [show (4 * j + 3) / 4 = j by omega] at this
    refine decide_eq_true ?_
    by_cases e : t (4 * j + 3) = 0
    · exact e
    · rwa [if_neg e] at this
  · intro h i hi
    unfold clnT pcb zT
    rw [if_pos (of_decide_eq_true (h (i / 4) (by omega)))]
theorem zero_no {t : Nat → UInt8} {j : Nat} (hj : j < 64) (h : decide (t (4 * j + 3) = 0) = false) : zeroT t = false := by
  cases e : zeroT t with
  | false => rfl
  | true => rw [(zero_iff t).1 e j hj] at h; cases h
def cz_R44 (t : Nat → UInt8) (k : Nat) : Cz := {
  ct := (fun f => match f with
  | _ => none)
  eq := (fun t => match t with
  | _ => none)
  raw := [], sym := [9, 11], nf := [(11, iv .u8 ((t (4 * k + 3)).toNat : Nat))], ap := true, off := [], on := [], lp := fun _ => none, un := 0 }
set_option maxRecDepth 100000 in
theorem R44 (t : Nat → UInt8) (k : Nat)  (K : Exit → St → Prop) (h : HB (decide ((Nat.cast k : Int) < 64)) (InR ((Nat.cast k : Int)) 64 ∧ 0 + ((Nat.cast k : Int)).toNat * 4 + 3 < 256 ∧ Le (SV.c (Cp.l ((tl t).getD (0 + ((Nat.cast k : Int)).toNat * 4 + 3) Leaf.u))) (iv IntKind.u8 (Nat.cast ((t (4 * k + 3)).toNat) : Int)) ∧ HB ((Nat.cast ((t (4 * k + 3)).toNat) : Int) != 0) (wkK 1 K Exit.ret (St.mk [(2, bv false), (12, bv ((Nat.cast ((t (4 * k + 3)).toNat) : Int) != 0)), (11, iv IntKind.u8 (Nat.cast ((t (4 * k + 3)).toNat) : Int)), (10, SV.c (Cp.l (Leaf.p 0 (0 + ((Nat.cast k : Int)).toNat * 4 + 3)))), (9, SV.c (Cp.l (Leaf.p 0 (0 + ((Nat.cast k : Int)).toNat * 4)))), (8, iv IntKind.i64 (Nat.cast k : Int)), (5, bv (decide ((Nat.cast k : Int) < 64))), (4, iv IntKind.i64 (Nat.cast k : Int)), (3, iv IntKind.i64 (Nat.cast k : Int)), (1, SV.c (Cp.l (Leaf.p 0 0)))] [(0, some (Blk.mk (tl t) (BT.t 38)))] 1 13 [0] 0)) (IntKind.i64.wrap ((Nat.cast k : Int) + 1) = (Nat.cast k : Int) + 1 ∧ RoundTo Tryz.prog ((getLoop 2 (Tryz.f44.body.getD Code.skip)).getD Code.skip) 1 (wkK 1 K) (St.mk [(3, iv IntKind.i64 ((Nat.cast k : Int) + 1)), (7, iv IntKind.i64 ((Nat.cast k : Int) + 1)), (6, iv IntKind.i64 (Nat.cast k : Int)), (12, bv ((Nat.cast ((t (4 * k + 3)).toNat) : Int) != 0)), (11, iv IntKind.u8 (Nat.cast ((t (4 * k + 3)).toNat) : Int)), (10, SV.c (Cp.l (Leaf.p 0 (0 + ((Nat.cast k : Int)).toNat * 4 + 3)))), (9, SV.c (Cp.l (Leaf.p 0 (0 + ((Nat.cast k : Int)).toNat * 4)))), (8, iv IntKind.i64 (Nat.cast k : Int)), (5, bv (decide ((Nat.cast k : Int) < 64))), (4, iv IntKind.i64 (Nat.cast k : Int)), (3, iv IntKind.i64 (Nat.cast k : Int)), (1, SV.c (Cp.l (Leaf.p 0 0)))] [(0, some (Blk.mk (tl t) (BT.t 38)))] 1 13 [0] 0))) (wkK 1 K (Exit.exit 0) (St.mk [(5, bv (decide ((Nat.cast k : Int) < 64))), (4, iv IntKind.i64 (Nat.cast k : Int)), (3, iv IntKind.i64 (Nat.cast k : Int)), (1, SV.c (Cp.l (Leaf.p 0 0)))] [(0, some (Blk.mk (tl t) (BT.t 38)))] 1 13 [0] 0))) : WPL Tryz.prog ((getLoop 2 (Tryz.f44.body.getD .skip)).getD .skip) (I44 t k) (wkK 1 K) :=
  wp_round (cx := cz_R44 t k) rfl (of_eq (by kernel_rfl) h)
set_option maxRecDepth 100000 in
set_option maxHeartbeats 4000000 in
theorem L44 (t : Nat → UInt8)  : ∀ (m k : Nat), 64 - k = m → k ≤ 64 → (∀ j, j < k → decide (t (4 * j + 3) = 0) = true) → ∀ (K : Exit → St → Prop), ((∀ j, j < 64 → decide (t (4 * j + 3) = 0) = true) → K (.exit 0) (I44 t 64)) → (∀ j, j < 64 → decide (t (4 * j + 3) = 0) = false → K .ret (Q44 t)) → WPL Tryz.prog ((getLoop 2 (Tryz.f44.body.getD .skip)).getD .skip) (I44 t k) (wkK 1 K)
  | 0, k, hm, hk, hall, K, hK, hR => by
    have e : k = 64 := by omega
    subst e
    refine R44 t _ K (HB.mk (fun hne => absurd (of_decide_eq_true hne) (by omega)) (fun he => ?_))
    exact wkK.to (I44 t _) (Nat.le_refl _) (by kernel_rfl) (wkE_cons (LeN.sl (by kernel_rfl) rfl) (wkE_cons (LeN.sl (by kernel_rfl) rfl) trivial)) (wkH_cons (BkN.plain (cs := tl t) (b := .t 38) (by kernel_rfl) (rfl) (plain_tl _) (by kernel_rfl)) trivial) (hK hall)
  | m + 1, k, hm, hk, hall, K, hK, hR => by
    refine R44 t k K (HB.mk (fun hne => ?_) (fun he => absurd (show ((k : Nat) : Int) < (64 : Nat) by omega) (of_decide_eq_false he)))
    have hlt : k < 64 := by omega
    repeat' (first | exact trivial | with_reducible apply And.intro | (with_reducible apply HB.mk) | with_reducible intro _)
    all_goals first
      | (assumption)
      | (with_reducible exact Le.refl _)
      | (with_reducible rfl)
      | (exact ⟨by omega, by omega⟩)
      | ((rw [tl_len]; omega))
      | (omega)
      | (exact Le.of (congrArg (fun l => SV.c (.l l)) (tl_a t hlt)))
      | (have hcnd : ((((t (4 * k + 3)).toNat : Nat) : Int) != 0) = false := (by with_reducible assumption); (with_reducible refine RoundTo.toN 1 (I44 t (k + 1)) ?_ ?_ ?_ ?_ ?_); exact Nat.le_refl _; kernel_rfl; exact (wkE_cons (LeN.sl (by kernel_rfl) rfl) (wkE_cons (LeN.sl (by kernel_rfl) rfl) trivial)); exact (wkH_cons (BkN.plain (cs := tl t) (b := .t 38) (by kernel_rfl) (rfl) (plain_tl _) (by kernel_rfl)) trivial); exact (L44 t  m (k + 1) (by omega) (by omega) (fun j hj => by rcases Nat.lt_or_ge j k with h | h; exact hall j h; have e : j = k := (by omega); subst e; exact a_yes hcnd) K hK hR))
      | (exact wkK.to (Q44 t) (Nat.le_refl _) (by kernel_rfl) (wkE_cons (LeN.sl (by kernel_rfl) rfl) trivial) (wkH_cons (BkN.plain (cs := tl t) (b := .t 38) (by kernel_rfl) (rfl) (plain_tl _) (by kernel_rfl)) trivial) (hR k hlt (a_no (by with_reducible assumption))))
      | (exact okw _ (by omega) (by omega))
      | (exact Le.of rfl)
      | (exact BkR.of rfl)
      | (unfold SlOK; omega)
      | (unfold SlOK; decide)
      | (unfold inByte; decide)
      | (simp only [*, Bool.and_self, Bool.not_false, Bool.not_true]; done)
      | (simp_all [wants]; done)
theorem enters44 : Enters Tryz.prog 44 := fun args w => by go_simp
def cz_C44 (t : Nat → UInt8) : Cz := {
  ct := (fun f => match f with
  | _ => none)
  eq := (fun t => match t with
  | _ => none)
  raw := [], sym := [], nf := [], ap := true, off := [], on := [], lp := fun r => match r with | 2 => some (fun _ K => ((∀ j, j < 64 → decide (t (4 * j + 3) = 0) = true) → K (.exit 0) (I44 t 64)) ∧ (∀ j, j < 64 → decide (t (4 * j + 3) = 0) = false → K .ret (Q44 t))) | _ => none, un := 0 }
set_option maxRecDepth 100000 in
set_option maxHeartbeats 400000 in
theorem C44 (t : Nat → UInt8)  (n : Nat) : CallOK Tryz.prog 44 [.c (.agg (tl t))] [] n (bv (zeroT t)) [] 0 := by
  refine CallOK.any ?_ (by kernel_rfl) (by kernel_rfl) n
  refine call_ok (cx := cz_C44 t) (nm := []) rfl Tryz.func44 (body := Tryz.f44.body.getD .skip) rfl enters44 (by kernel_rfl) ?_
  apply of_eq (q := (LoopOK Tryz.prog ((getLoop 2 (Tryz.f44.body.getD .skip)).getD .skip) (St.mk [(3, iv IntKind.i64 0), (2, bv false), (1, SV.c (Cp.l (Leaf.p 0 0))), (0, ag (tl t))] [(0, some (Blk.mk (tl t) (BT.t 38)))] 1 13 [0] 0) fun K => ((∀ (j : Nat), j < 64 → decide (t (4 * j + 3) = 0) = true) → K (Exit.exit 0) (I44 t 64)) ∧ ∀ (j : Nat), j < 64 → decide (t (4 * j + 3) = 0) = false → K Exit.ret (Q44 t)) ∧ ((∀ (j : Nat), j < 64 → decide (t (4 * j + 3) = 0) = true) → Le (bv true) (bv (zeroT t)) ∧ True) ∧ ∀ (j : Nat), j < 64 → decide (t (4 * j + 3) = 0) = false → Le (bv false) (bv (zeroT t)) ∧ True) (by kernel_rfl)
  repeat' (first | exact trivial | with_reducible apply And.intro | (with_reducible apply HB.mk) | with_reducible intro _)
  all_goals first
    | (assumption)
    | (with_reducible exact Le.refl _)
    | (with_reducible rfl)
    | (exact LoopOK.mk (I44 t 0) rfl (by kernel_rfl) (wkE_cons (LeN.sl (by kernel_rfl) rfl) (wkE_cons (LeN.sl (by kernel_rfl) rfl) trivial)) (wkH_cons (BkN.plain (cs := tl t) (b := .t 38) (by kernel_rfl) (rfl) (plain_tl _) (by kernel_rfl)) trivial) (fun K hT => L44 t _ 0 rfl (by decide) (fun j hj => absurd hj (Nat.not_lt_zero j)) K hT.1 hT.2))
    | (exact Le.bool ((zero_iff t).2 ‹_›).symm)
    | (exact Le.bool (zero_no ‹_› ‹_›).symm)
    | (exact okw _ (by omega) (by omega))
    | (exact Le.of rfl)
    | (exact BkR.of rfl)
    | (unfold SlOK; omega)
    | (unfold SlOK; decide)
    | (unfold inByte; decide)
    | (simp only [*, Bool.and_self, Bool.not_false, Bool.not_true]; done)
    | (simp_all [wants]; done)
theorem C44L (l : List Leaf) (t : Nat → UInt8) (h : l = tl t) (n : Nat) : CallOK Tryz.prog 44 [.c (.agg l)] [] n (bv (zeroT (lsB l))) [] 0 := by
  subst h
  have e : zeroT (lsB (tl t)) = zeroT t := sameT_congr (fun i hi => by unfold clnT; rw [lsB_tl t hi, lsB_tl t (by omega)]) (fun i hi => rfl)
  rw [e]; exact C44 t n
theorem zeroT_lsB (t : Nat → UInt8) : zeroT (lsB (tl t)) = zeroT t := sameT_congr (fun i hi => by unfold clnT; rw [lsB_tl t hi, lsB_tl t (by omega)]) (fun i hi => rfl)
def pq (xs ys : List Leaf) : Bool := decide (lsB xs 0 = lsB ys 0 ∧ lsB xs 1 = lsB ys 1 ∧ lsB xs 2 = lsB ys 2 ∧ lsB xs 3 = lsB ys 3)
theorem lsB4 (a b c e : UInt8) : lsB [ub a, ub b, ub c, ub e] 0 = a ∧ lsB [ub a, ub b, ub c, ub e] 1 = b ∧ lsB [ub a, ub b, ub c, ub e] 2 = c ∧ lsB [ub a, ub b, ub c, ub e] 3 = e := ⟨ofI_nat a, ofI_nat b, ofI_nat c, ofI_nat e⟩
theorem eq36L (a b c e a' b' c' e' : UInt8) : EqOK Tryz.prog 36 [ub a, ub b, ub c, ub e] [ub a', ub b', ub c', ub e'] (pq [ub a, ub b, ub c, ub e] [ub a', ub b', ub c', ub e']) := by
  unfold pq
  obtain ⟨h0, h1, h2, h3⟩ := lsB4 a b c e
  obtain ⟨k0, k1, k2, k3⟩ := lsB4 a' b' c' e'
  rw [h0, h1, h2, h3, k0, k1, k2, k3]
  exact eq36 a b c e a' b' c' e'
def I121 (t u : Nat → UInt8) (k : Nat) : St := ⟨[(5, iv .i64 (k : Nat)), (2, .c (.l (.p 0 0))), (3, .c (.l (.p 1 0)))], [(0, some ⟨tl t, .t 38⟩), (1, some ⟨tl u, .t 38⟩)], 2, 17, [1, 0], (0)⟩
def Q121 (t u : Nat → UInt8) : St := ⟨[(4, bv false)], [(0, some ⟨tl t, .t 38⟩), (1, some ⟨tl u, .t 38⟩)], 2, 17, [1, 0], (0)⟩
def pe (t u : Nat → UInt8) (j : Nat) : Bool := decide (t (4 * j) = u (4 * j) ∧ t (4 * j + 1) = u (4 * j + 1) ∧ t (4 * j + 2) = u (4 * j + 2) ∧ t (4 * j + 3) = u (4 * j + 3))
theorem same_iff (t u : Nat → UInt8) : sameT t u = true ↔ ∀ j, j < 64 → pe t u j = true := by
  rw [sameT_iff]
  constructor
  · intro h j hj
    exact decide_eq_true ⟨h _ (by omega), h _ (by omega), h _ (by omega), h _ (by omega)⟩
  · intro h i hi
    obtain ⟨a, b, c, d⟩ := of_decide_eq_true (h (i / 4) (by omega))
    have : i = 4 * (i / 4) + i % 4 := by omega
    have h4 : i % 4 < 4 := by omega
    generalize i / 4 = q at *
    match hm : i % 4, h4 with
    | 0, _ => rw [this, hm]; exact a
    | 1, _ => rw [this, hm]; exact b
    | 2, _ => rw [this, hm]; exact c
    | 3, _ => rw [this, hm]; exact d
theorem same_no {t u : Nat → UInt8} {j : Nat} (hj : j < 64) (h : pe t u j = false) : sameT t u = false := by
  cases e : sameT t u with
  | false => rfl
  | true => rw [(same_iff t u).1 e j hj] at h; cases h
theorem pq_pe (t u : Nat → UInt8) (k : Nat) : pq [ub (t (4 * k)), ub (t (4 * k + 1)), ub (t (4 * k + 2)), ub (t (4 * k + 3))] [ub (u (4 * k)), ub (u (4 * k + 1)), ub (u (4 * k + 2)), ub (u (4 * k + 3))] = pe t u k := by
  unfold pq pe
  obtain ⟨h0, h1, h2, h3⟩ := lsB4 (t (4 * k)) (t (4 * k + 1)) (t (4 * k + 2)) (t (4 * k + 3))
  obtain ⟨k0, k1, k2, k3⟩ := lsB4 (u (4 * k)) (u (4 * k + 1)) (u (4 * k + 2)) (u (4 * k + 3))
  rw [h0, h1, h2, h3, k0, k1, k2, k3]
theorem tl_px0 (t : Nat → UInt8) {k : Nat} (hk : k < 64) : List.take 4 (List.drop (0 + ((k : Nat) : Int).toNat * 4) (tl t)) = [ub (t (4 * k)), ub (t (4 * k + 1)), ub (t (4 * k + 2)), ub (t (4 * k + 3))] := by
  rw [show 0 + ((k : Nat) : Int).toNat * 4 = k * 4 by omega, tl_pix t hk]; rfl
theorem not_t {b : Bool} (h : (!b) = false) : b = true := by simpa using h
theorem not_f {b : Bool} (h : (!b) = true) : b = false := by simpa using h
def cz_R121 (t u : Nat → UInt8) (k : Nat) : Cz := {
  ct := (fun f => match f with
  | _ => none)
  eq := (fun t => match t with
  | 36 => some pq
  | _ => none)
  raw := [], sym := [11, 12, 14, 15], nf := [(12, .c (.agg [ub (t (4 * k)), ub (t (4 * k + 1)), ub (t (4 * k + 2)), ub (t (4 * k + 3))])), (15, .c (.agg [ub (u (4 * k)), ub (u (4 * k + 1)), ub (u (4 * k + 2)), ub (u (4 * k + 3))])), (16, bv (!(pe t u k)))], ap := true, off := [], on := [], lp := fun _ => none, un := 0 }
set_option maxRecDepth 100000 in
theorem R121 (t u : Nat → UInt8) (k : Nat)  (K : Exit → St → Prop) (h : HB (decide ((Nat.cast k : Int) < 64)) (InR ((Nat.cast k : Int)) 64 ∧ 0 + ((Nat.cast k : Int)).toNat * 4 + 4 ≤ 256 ∧ Le (ag (List.take 4 (List.drop (0 + ((Nat.cast k : Int)).toNat * 4) (tl t)))) (ag [Leaf.v (Value.int IntKind.u8 (Nat.cast ((t (4 * k)).toNat) : Int)), Leaf.v (Value.int IntKind.u8 (Nat.cast ((t (4 * k + 1)).toNat) : Int)), Leaf.v (Value.int IntKind.u8 (Nat.cast ((t (4 * k + 2)).toNat) : Int)), Leaf.v (Value.int IntKind.u8 (Nat.cast ((t (4 * k + 3)).toNat) : Int))]) ∧ InR ((Nat.cast k : Int)) 64 ∧ 0 + ((Nat.cast k : Int)).toNat * 4 + 4 ≤ 256 ∧ Le (ag (List.take 4 (List.drop (0 + ((Nat.cast k : Int)).toNat * 4) (tl u)))) (ag [Leaf.v (Value.int IntKind.u8 (Nat.cast ((u (4 * k)).toNat) : Int)), Leaf.v (Value.int IntKind.u8 (Nat.cast ((u (4 * k + 1)).toNat) : Int)), Leaf.v (Value.int IntKind.u8 (Nat.cast ((u (4 * k + 2)).toNat) : Int)), Leaf.v (Value.int IntKind.u8 (Nat.cast ((u (4 * k + 3)).toNat) : Int))]) ∧ EqOK Tryz.prog 36 [Leaf.v (Value.int IntKind.u8 (Nat.cast ((t (4 * k)).toNat) : Int)), Leaf.v (Value.int IntKind.u8 (Nat.cast ((t (4 * k + 1)).toNat) : Int)), Leaf.v (Value.int IntKind.u8 (Nat.cast ((t (4 * k + 2)).toNat) : Int)), Leaf.v (Value.int IntKind.u8 (Nat.cast ((t (4 * k + 3)).toNat) : Int))] [Leaf.v (Value.int IntKind.u8 (Nat.cast ((u (4 * k)).toNat) : Int)), Leaf.v (Value.int IntKind.u8 (Nat.cast ((u (4 * k + 1)).toNat) : Int)), Leaf.v (Value.int IntKind.u8 (Nat.cast ((u (4 * k + 2)).toNat) : Int)), Leaf.v (Value.int IntKind.u8 (Nat.cast ((u (4 * k + 3)).toNat) : Int))] (pq [ub (t (4 * k)), ub (t (4 * k + 1)), ub (t (4 * k + 2)), ub (t (4 * k + 3))] [ub (u (4 * k)), ub (u (4 * k + 1)), ub (u (4 * k + 2)), ub (u (4 * k + 3))]) ∧ Le (bv !pq [ub (t (4 * k)), ub (t (4 * k + 1)), ub (t (4 * k + 2)), ub (t (4 * k + 3))] [ub (u (4 * k)), ub (u (4 * k + 1)), ub (u (4 * k + 2)), ub (u (4 * k + 3))]) (bv !pe t u k) ∧ HB (!pe t u k) (wkK 2 K Exit.ret (St.mk [(4, bv false), (16, bv !pe t u k), (15, ag [Leaf.v (Value.int IntKind.u8 (Nat.cast ((u (4 * k)).toNat) : Int)), Leaf.v (Value.int IntKind.u8 (Nat.cast ((u (4 * k + 1)).toNat) : Int)), Leaf.v (Value.int IntKind.u8 (Nat.cast ((u (4 * k + 2)).toNat) : Int)), Leaf.v (Value.int IntKind.u8 (Nat.cast ((u (4 * k + 3)).toNat) : Int))]), (14, SV.c (Cp.l (Leaf.p 1 (0 + ((Nat.cast k : Int)).toNat * 4)))), (13, iv IntKind.i64 (Nat.cast k : Int)), (12, ag [Leaf.v (Value.int IntKind.u8 (Nat.cast ((t (4 * k)).toNat) : Int)), Leaf.v (Value.int IntKind.u8 (Nat.cast ((t (4 * k + 1)).toNat) : Int)), Leaf.v (Value.int IntKind.u8 (Nat.cast ((t (4 * k + 2)).toNat) : Int)), Leaf.v (Value.int IntKind.u8 (Nat.cast ((t (4 * k + 3)).toNat) : Int))]), (11, SV.c (Cp.l (Leaf.p 0 (0 + ((Nat.cast k : Int)).toNat * 4)))), (10, iv IntKind.i64 (Nat.cast k : Int)), (7, bv (decide ((Nat.cast k : Int) < 64))), (6, iv IntKind.i64 (Nat.cast k : Int)), (5, iv IntKind.i64 (Nat.cast k : Int)), (2, SV.c (Cp.l (Leaf.p 0 0))), (3, SV.c (Cp.l (Leaf.p 1 0)))] [(0, some (Blk.mk (tl t) (BT.t 38))), (1, some (Blk.mk (tl u) (BT.t 38)))] 2 17 [1, 0] 0)) (IntKind.i64.wrap ((Nat.cast k : Int) + 1) = (Nat.cast k : Int) + 1 ∧ RoundTo Tryz.prog ((getLoop 2 (Tryz.f121.body.getD Code.skip)).getD Code.skip) 2 (wkK 2 K) (St.mk [(5, iv IntKind.i64 ((Nat.cast k : Int) + 1)), (9, iv IntKind.i64 ((Nat.cast k : Int) + 1)), (8, iv IntKind.i64 (Nat.cast k : Int)), (16, bv !pe t u k), (15, ag [Leaf.v (Value.int IntKind.u8 (Nat.cast ((u (4 * k)).toNat) : Int)), Leaf.v (Value.int IntKind.u8 (Nat.cast ((u (4 * k + 1)).toNat) : Int)), Leaf.v (Value.int IntKind.u8 (Nat.cast ((u (4 * k + 2)).toNat) : Int)), Leaf.v (Value.int IntKind.u8 (Nat.cast ((u (4 * k + 3)).toNat) : Int))]), (14, SV.c (Cp.l (Leaf.p 1 (0 + ((Nat.cast k : Int)).toNat * 4)))), (13, iv IntKind.i64 (Nat.cast k : Int)), (12, ag [Leaf.v (Value.int IntKind.u8 (Nat.cast ((t (4 * k)).toNat) : Int)), Leaf.v (Value.int IntKind.u8 (Nat.cast ((t (4 * k + 1)).toNat) : Int)), Leaf.v (Value.int IntKind.u8 (Nat.cast ((t (4 * k + 2)).toNat) : Int)), Leaf.v (Value.int IntKind.u8 (Nat.cast ((t (4 * k + 3)).toNat) : Int))]), (11, SV.c (Cp.l (Leaf.p 0 (0 + ((Nat.cast k : Int)).toNat * 4)))), (10, iv IntKind.i64 (Nat.cast k : Int)), (7, bv (decide ((Nat.cast k : Int) < 64))), (6, iv IntKind.i64 (Nat.cast k : Int)), (5, iv IntKind.i64 (Nat.cast k : Int)), (2, SV.c (Cp.l (Leaf.p 0 0))), (3, SV.c (Cp.l (Leaf.p 1 0)))] [(0, some (Blk.mk (tl t) (BT.t 38))), (1, some (Blk.mk (tl u) (BT.t 38)))] 2 17 [1, 0] 0))) (wkK 2 K (Exit.exit 0) (St.mk [(7, bv (decide ((Nat.cast k : Int) < 64))), (6, iv IntKind.i64 (Nat.cast k : Int)), (5, iv IntKind.i64 (Nat.cast k : Int)), (2, SV.c (Cp.l (Leaf.p 0 0))), (3, SV.c (Cp.l (Leaf.p 1 0)))] [(0, some (Blk.mk (tl t) (BT.t 38))), (1, some (Blk.mk (tl u) (BT.t 38)))] 2 17 [1, 0] 0))) : WPL Tryz.prog ((getLoop 2 (Tryz.f121.body.getD .skip)).getD .skip) (I121 t u k) (wkK 2 K) :=
  wp_round (cx := cz_R121 t u k) rfl (of_eq (by kernel_rfl) h)
set_option maxRecDepth 100000 in
set_option maxHeartbeats 4000000 in
theorem L121 (t u : Nat → UInt8)  : ∀ (m k : Nat), 64 - k = m → k ≤ 64 → (∀ j, j < k → pe t u j = true) → ∀ (K : Exit → St → Prop), ((∀ j, j < 64 → pe t u j = true) → K (.exit 0) (I121 t u 64)) → (∀ j, j < 64 → pe t u j = false → K .ret (Q121 t u)) → WPL Tryz.prog ((getLoop 2 (Tryz.f121.body.getD .skip)).getD .skip) (I121 t u k) (wkK 2 K)
  | 0, k, hm, hk, hall, K, hK, hR => by
    have e : k = 64 := by omega
    subst e
    refine R121 t u _ K (HB.mk (fun hne => absurd (of_decide_eq_true hne) (by omega)) (fun he => ?_))
    exact wkK.to (I121 t u _) (Nat.le_refl _) (by kernel_rfl) (wkE_cons (LeN.sl (by kernel_rfl) rfl) (wkE_cons (LeN.sl (by kernel_rfl) rfl) (wkE_cons (LeN.sl (by kernel_rfl) rfl) trivial))) (wkH_cons (BkN.plain (cs := tl t) (b := .t 38) (by kernel_rfl) (rfl) (plain_tl _) (by kernel_rfl)) (wkH_cons (BkN.plain (cs := tl u) (b := .t 38) (by kernel_rfl) (rfl) (plain_tl _) (by kernel_rfl)) trivial)) (hK hall)
  | m + 1, k, hm, hk, hall, K, hK, hR => by
    refine R121 t u k K (HB.mk (fun hne => ?_) (fun he => absurd (show ((k : Nat) : Int) < (64 : Nat) by omega) (of_decide_eq_false he)))
    have hlt : k < 64 := by omega
    repeat' (first | exact trivial | with_reducible apply And.intro | (with_reducible apply HB.mk) | with_reducible intro _)
    all_goals first
      | (assumption)
      | (with_reducible exact Le.refl _)
      | (with_reducible rfl)
      | (exact ⟨by omega, by omega⟩)
      | ((rw [tl_len]; omega))
      | (omega)
      | (exact Le.of (congrArg (fun l => SV.c (.agg l)) (tl_px0 _ hlt)))
      | (exact eq36L _ _ _ _ _ _ _ _)
      | (exact Le.bool (by rw [pq_pe]))
      | (have hcnd : (!(pe t u k)) = false := (by with_reducible assumption); (with_reducible refine RoundTo.toN 2 (I121 t u (k + 1)) ?_ ?_ ?_ ?_ ?_); exact Nat.le_refl _; kernel_rfl; exact (wkE_cons (LeN.sl (by kernel_rfl) rfl) (wkE_cons (LeN.sl (by kernel_rfl) rfl) (wkE_cons (LeN.sl (by kernel_rfl) rfl) trivial))); exact (wkH_cons (BkN.plain (cs := tl t) (b := .t 38) (by kernel_rfl) (rfl) (plain_tl _) (by kernel_rfl)) (wkH_cons (BkN.plain (cs := tl u) (b := .t 38) (by kernel_rfl) (rfl) (plain_tl _) (by kernel_rfl)) trivial)); exact (L121 t u  m (k + 1) (by omega) (by omega) (fun j hj => by rcases Nat.lt_or_ge j k with h | h; exact hall j h; have e : j = k := (by omega); subst e; exact not_t hcnd) K hK hR))
      | (exact wkK.to (Q121 t u) (Nat.le_refl _) (by kernel_rfl) (wkE_cons (LeN.sl (by kernel_rfl) rfl) trivial) (wkH_cons (BkN.plain (cs := tl t) (b := .t 38) (by kernel_rfl) (rfl) (plain_tl _) (by kernel_rfl)) (wkH_cons (BkN.plain (cs := tl u) (b := .t 38) (by kernel_rfl) (rfl) (plain_tl _) (by kernel_rfl)) trivial)) (hR k hlt (not_f (by with_reducible assumption))))
      | (exact okw _ (by omega) (by omega))
      | (exact Le.of rfl)
      | (exact BkR.of rfl)
      | (unfold SlOK; omega)
      | (unfold SlOK; decide)
      | (unfold inByte; decide)
      | (simp only [*, Bool.and_self, Bool.not_false, Bool.not_true]; done)
      | (simp_all [wants]; done)
theorem enters121 : Enters Tryz.prog 121 := fun args w => by go_simp
def cz_C121 (t u : Nat → UInt8) : Cz := {
  ct := (fun f => match f with
  | _ => none)
  eq := (fun t => match t with
  | 36 => some pq
  | _ => none)
  raw := [], sym := [], nf := [], ap := true, off := [], on := [], lp := fun r => match r with | 2 => some (fun _ K => ((∀ j, j < 64 → pe t u j = true) → K (.exit 0) (I121 t u 64)) ∧ (∀ j, j < 64 → pe t u j = false → K .ret (Q121 t u))) | _ => none, un := 0 }
set_option maxRecDepth 100000 in
set_option maxHeartbeats 400000 in
theorem C121 (t u : Nat → UInt8)  (n : Nat) : CallOK Tryz.prog 121 [.c (.agg (tl t)), .c (.agg (tl u))] [] n (bv (sameT t u)) [] 0 := by
  refine CallOK.any ?_ (by kernel_rfl) (by kernel_rfl) n
  refine call_ok (cx := cz_C121 t u) (nm := []) rfl Tryz.func121 (body := Tryz.f121.body.getD .skip) rfl enters121 (by kernel_rfl) ?_
  apply of_eq (q := (LoopOK Tryz.prog ((getLoop 2 (Tryz.f121.body.getD .skip)).getD .skip) (St.mk [(5, iv IntKind.i64 0), (4, bv false), (3, SV.c (Cp.l (Leaf.p 1 0))), (2, SV.c (Cp.l (Leaf.p 0 0))), (0, ag (tl t)), (1, ag (tl u))] [(1, some (Blk.mk (tl u) (BT.t 38))), (0, some (Blk.mk (tl t) (BT.t 38)))] 2 17 [1, 0] 0) fun K => ((∀ (j : Nat), j < 64 → pe t u j = true) → K (Exit.exit 0) (I121 t u 64)) ∧ ∀ (j : Nat), j < 64 → pe t u j = false → K Exit.ret (Q121 t u)) ∧ ((∀ (j : Nat), j < 64 → pe t u j = true) → Le (bv true) (bv (sameT t u)) ∧ True) ∧ ∀ (j : Nat), j < 64 → pe t u j = false → Le (bv false) (bv (sameT t u)) ∧ True) (by kernel_rfl)
  repeat' (first | exact trivial | with_reducible apply And.intro | (with_reducible apply HB.mk) | with_reducible intro _)
  all_goals first
    | (assumption)
    | (with_reducible exact Le.refl _)
    | (with_reducible rfl)
    | (exact LoopOK.mk (I121 t u 0) rfl (by kernel_rfl) (wkE_cons (LeN.sl (by kernel_rfl) rfl) (wkE_cons (LeN.sl (by kernel_rfl) rfl) (wkE_cons (LeN.sl (by kernel_rfl) rfl) trivial))) (wkH_cons (BkN.plain (cs := tl t) (b := .t 38) (by kernel_rfl) (rfl) (plain_tl _) (by kernel_rfl)) (wkH_cons (BkN.plain (cs := tl u) (b := .t 38) (by kernel_rfl) (rfl) (plain_tl _) (by kernel_rfl)) trivial)) (fun K hT => L121 t u _ 0 rfl (by decide) (fun j hj => absurd hj (Nat.not_lt_zero j)) K hT.1 hT.2))
    | (exact Le.bool ((same_iff t u).2 ‹_›).symm)
    | (exact Le.bool (same_no ‹_› ‹_›).symm)
    | (exact okw _ (by omega) (by omega))
    | (exact Le.of rfl)
    | (exact BkR.of rfl)
    | (unfold SlOK; omega)
    | (unfold SlOK; decide)
    | (unfold inByte; decide)
    | (simp only [*, Bool.and_self, Bool.not_false, Bool.not_true]; done)
    | (simp_all [wants]; done)
theorem C121L (l m : List Leaf) (t u : Nat → UInt8) (h : l = tl t) (h' : m = tl u) (n : Nat) : CallOK Tryz.prog 121 [.c (.agg l), .c (.agg m)] [] n (bv (sameT (lsB l) (lsB m))) [] 0 := by
  subst h h'
  rw [same_lsB]; exact C121 t u n
theorem enters104 : Enters Tryz.prog 104 := fun args w => by go_simp
def cz_C104 : Cz := {
  ct := (fun f => match f with
  | _ => none)
  eq := (fun t => match t with
  | _ => none)
  raw := [], sym := [], nf := [], ap := true, off := [], on := [], lp := fun _ => none, un := 0 }
set_option maxRecDepth 100000 in
set_option maxHeartbeats 400000 in
theorem C104 (x y : Int)  (n : Nat) : CallOK Tryz.prog 104 [ag [li x, li y]] [] n (bv (inB x y)) [] 0 := by
  refine CallOK.any ?_ (by kernel_rfl) (by kernel_rfl) n
  refine call_ok (cx := cz_C104) (nm := []) rfl Tryz.func104 (body := Tryz.f104.body.getD .skip) rfl enters104 (by kernel_rfl) ?_
  apply of_eq (q := (decide (x ≥ -8192) = true → decide (x ≥ -8192) = true ∧ True) ∧ (decide (x ≥ -8192) = true → decide (x ≥ -8192) = true ∧ True) ∧ (decide (x ≥ -8192) = true → decide (x ≥ -8192) = true) ∧ ((bif decide (x ≥ -8192) then decide (x ≤ 8191) else false) = true → (bif decide (x ≥ -8192) then decide (x ≤ 8191) else false) = true ∧ True) ∧ ((bif decide (x ≥ -8192) then decide (x ≤ 8191) else false) = true → (bif decide (x ≥ -8192) then decide (x ≤ 8191) else false) = true ∧ True) ∧ ((bif decide (x ≥ -8192) then decide (x ≤ 8191) else false) = true → (bif decide (x ≥ -8192) then decide (x ≤ 8191) else false) = true) ∧ ((bif bif decide (x ≥ -8192) then decide (x ≤ 8191) else false then decide (y ≥ -8192) else false) = true → (bif bif decide (x ≥ -8192) then decide (x ≤ 8191) else false then decide (y ≥ -8192) else false) = true ∧ True) ∧ ((bif bif decide (x ≥ -8192) then decide (x ≤ 8191) else false then decide (y ≥ -8192) else false) = true → (bif bif decide (x ≥ -8192) then decide (x ≤ 8191) else false then decide (y ≥ -8192) else false) = true ∧ True) ∧ ((bif bif decide (x ≥ -8192) then decide (x ≤ 8191) else false then decide (y ≥ -8192) else false) = true → (bif bif decide (x ≥ -8192) then decide (x ≤ 8191) else false then decide (y ≥ -8192) else false) = true) ∧ Le (bv (bif bif bif decide (x ≥ -8192) then decide (x ≤ 8191) else false then decide (y ≥ -8192) else false then decide (y ≤ 8191) else false)) (bv (inB x y)) ∧ True) (by kernel_rfl)
  repeat' (first | exact trivial | with_reducible apply And.intro | (with_reducible apply HB.mk) | with_reducible intro _)
  all_goals first
    | (assumption)
    | (with_reducible exact Le.refl _)
    | (with_reducible rfl)
    | (exact Le.bool (inB_eq x y))
    | (exact okw _ (by omega) (by omega))
    | (exact Le.of rfl)
    | (exact BkR.of rfl)
    | (unfold SlOK; omega)
    | (unfold SlOK; decide)
    | (unfold inByte; decide)
    | (simp only [*, Bool.and_self, Bool.not_false, Bool.not_true]; done)
    | (simp_all [wants]; done)
def lesB (ax ay bx by_ : Int) : Bool := decide (ay < by_ ∨ ay = by_ ∧ ax < bx)
theorem enters123 : Enters Tryz.prog 123 := fun args w => by go_simp
def cz_C123 : Cz := {
  ct := (fun f => match f with
  | _ => none)
  eq := (fun t => match t with
  | _ => none)
  raw := [], sym := [], nf := [], ap := true, off := [], on := [], lp := fun _ => none, un := 0 }
set_option maxRecDepth 100000 in
set_option maxHeartbeats 400000 in
theorem C123 (ax ay bx by_ : Int)  (n : Nat) : CallOK Tryz.prog 123 [ag [li ax, li ay], ag [li bx, li by_]] [] n (bv (lesB ax ay bx by_)) [] 0 := by
  refine CallOK.any ?_ (by kernel_rfl) (by kernel_rfl) n
  refine call_ok (cx := cz_C123) (nm := []) rfl Tryz.func123 (body := Tryz.f123.body.getD .skip) rfl enters123 (by kernel_rfl) ?_
  apply of_eq (q := ((!decide (ay < by_)) = true → (!decide (ay < by_)) = true ∧ True) ∧ ((!decide (ay < by_)) = true → (!decide (ay < by_)) = true ∧ True) ∧ ((!decide (ay < by_)) = true → (!decide (ay < by_)) = true ∧ (!decide (ay < by_)) = true ∧ True) ∧ ((!decide (ay < by_)) = true → (!decide (ay < by_)) = true ∧ True) ∧ ((!decide (ay < by_) && ay == by_) = true → (!decide (ay < by_) && ay == by_) = true ∧ True) ∧ ((!decide (ay < by_) && ay == by_) = true → (!decide (ay < by_) && ay == by_) = true ∧ True) ∧ ((!decide (ay < by_) && ay == by_) = true → (!decide (ay < by_) && ay == by_) = true ∧ (!decide (ay < by_) && ay == by_) = true ∧ True) ∧ ((!decide (ay < by_)) = true → (!decide (ay < by_)) = true ∧ ((ay == by_) = true → (!decide (ay < by_) && ay == by_) = true) ∧ True) ∧ (decide (ay < by_) = false → (!decide (ay < by_)) = true) ∧ Le (bv (bif decide (ay < by_) then true else bif ay == by_ then decide (ax < bx) else false)) (bv (lesB ax ay bx by_)) ∧ True) (by kernel_rfl)
  repeat' (first | exact trivial | with_reducible apply And.intro | (with_reducible apply HB.mk) | with_reducible intro _)
  all_goals first
    | (assumption)
    | (with_reducible exact Le.refl _)
    | (with_reducible rfl)
    | (refine Le.bool ?_; unfold lesB; by_cases h1 : ay < by_ <;> by_cases h2 : ay = by_ <;> by_cases h3 : ax < bx <;> simp [h1, h2, h3])
    | (exact okw _ (by omega) (by omega))
    | (exact Le.of rfl)
    | (exact BkR.of rfl)
    | (unfold SlOK; omega)
    | (unfold SlOK; decide)
    | (unfold inByte; decide)
    | (simp only [*, Bool.and_self, Bool.not_false, Bool.not_true]; done)
    | (simp_all [wants]; done)
end Ab
end Go.Proofs.YtpdckpifhniioaaGreat
end
