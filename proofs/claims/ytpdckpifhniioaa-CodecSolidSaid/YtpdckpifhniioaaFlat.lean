/- Arguments whose types are built of integers by arrays and structs: such a value is written out as its integers, each of its kind. General over a program; no function is in sight. -/
import Derived.WalkKit
import Derived.ProofKit
import Derived.OpenShut
namespace Go.Proofs.Ytpdckpifhniioaa
open Go.WideShapes

/-- cs are integers of the kinds ks, each fitting its kind. -/
def IsFlat : List IntKind → List Value → Prop
  | [], cs => cs = []
  | k :: ks, cs => ∃ z rest, cs = .int k z :: rest ∧ (Lit.int k z).wf = true ∧ IsFlat ks rest

theorem IsFlat.length : ∀ {ks : List IntKind} {cs : List Value}, IsFlat ks cs → cs.length = ks.length
  | [], cs, h => by rw [show cs = [] from h]; rfl
  | k :: ks, cs, h => by
    obtain ⟨z, rest, rfl, _, h'⟩ := h
    simp [IsFlat.length h']

theorem IsFlat.append : ∀ {ks ks' : List IntKind} {cs cs' : List Value}, IsFlat ks cs → IsFlat ks' cs' → IsFlat (ks ++ ks') (cs ++ cs')
  | [], ks', cs, cs', h, h' => by rw [show cs = [] from h]; exact h'
  | k :: ks, ks', cs, cs', h, h' => by
    obtain ⟨z, rest, rfl, hw, h2⟩ := h
    exact ⟨z, rest ++ cs', rfl, hw, h2.append h'⟩

/-- Chunks of one make, one behind the other. -/
theorem IsFlat.chunks {ks : List IntKind} : ∀ (m : Nat) (cs : List Value), cs.length = m * ks.length → (∀ i, i < m → IsFlat ks ((cs.drop (i * ks.length)).take ks.length)) → IsFlat (List.replicate m ks).flatten cs
  | 0, cs, hl, _ => by
    have : cs = [] := List.eq_nil_of_length_eq_zero (by simpa using hl)
    subst this; rfl
  | m + 1, cs, hl, h => by
    have h0 := h 0 (by omega)
    simp only [Nat.zero_mul, List.drop_zero] at h0
    have h1 := IsFlat.chunks (ks := ks) m (cs.drop ks.length) (by rw [List.length_drop, hl, Nat.add_mul]; omega) (fun i hi => by
      have := h (i + 1) (by omega)
      rw [List.drop_drop]
      rwa [Nat.add_mul, Nat.one_mul, Nat.add_comm] at this)
    have := h0.append h1
    rw [List.take_append_drop] at this
    simpa [List.replicate_succ] using this

/-- Fields from place 'at' on: they lie one behind the other. -/
def fieldsFlat (P : Program) (rec : TypeId → Option (List IntKind)) : List Field → Nat → Option (List IntKind)
  | [], _ => some []
  | f :: fs, a =>
    match rec f.type with
    | none => none
    | some ks => if f.offset = a ∧ P.cellsOf f.type = ks.length then (fieldsFlat P rec fs (a + ks.length)).map (ks ++ ·) else none

/-- The kinds of a type's integers, in order; none: the type is of another make. -/
def flatK (P : Program) : Nat → TypeId → Option (List IntKind)
  | 0, _ => none
  | n + 1, t =>
    match P.underlying t with
    | some (.int k) => some [k]
    | some (.array m e) =>
      match flatK P n e with
      | none => none
      | some ks => if P.cellsOf e = ks.length ∧ P.cellsOf t = m * ks.length then some (List.replicate m ks).flatten else none
    | some (.struct fs) =>
      match fieldsFlat P (flatK P n) fs.toList 0 with
      | none => none
      | some ks => if P.cellsOf t = ks.length then some ks else none
    | _ => none

section
variable {H : Type} {enc : TypeId × Value → H} {P : Program} {w : World} {base : Nat} {spare : Nat → Bool} {held : Bool}

theorem fields_flat {rec : TypeId → Option (List IntKind)} {m : Nat} (hrec : ∀ t ks cs x, rec t = some ks → DataW.trod enc P w base spare held m t cs = some x → IsFlat ks cs) (cs : List Value) :
    ∀ (fs : List Field) (a : Nat) (ks : List IntKind), fieldsFlat P rec fs a = some ks →
      (∀ (i : Nat) (f : Field), fs[i]? = some f → ∃ x, DataW.trod enc P w base spare held m f.type ((cs.drop f.offset).take (P.cellsOf f.type)) = some x) →
      IsFlat ks ((cs.drop a).take ks.length)
  | [], a, ks, h, _ => by
    have : ks = [] := by simpa [fieldsFlat] using h.symm
    subst this
    simp [IsFlat]
  | f :: fs, a, ks, h, hx => by
    unfold fieldsFlat at h
    cases hr : rec f.type with
    | none => simp [hr] at h
    | some k0 =>
      simp only [hr] at h
      split at h
      · rename_i hc
        obtain ⟨hoff, hcell⟩ := hc
        cases hf : fieldsFlat P rec fs (a + k0.length) with
        | none => simp [hf] at h
        | some k1 =>
          have hk : k0 ++ k1 = ks := by simpa [hf] using h
          subst hk
          obtain ⟨x, hx0⟩ := hx 0 f rfl
          have h0 := hrec _ _ _ _ hr hx0
          rw [hoff, hcell] at h0
          have h1 := fields_flat hrec cs fs (a + k0.length) k1 hf (fun i g hg => hx (i + 1) g (by simpa using hg))
          have := h0.append h1
          have e : (cs.drop a).take k0.length ++ (cs.drop (a + k0.length)).take k1.length = (cs.drop a).take (k0 ++ k1).length := by
            rw [List.length_append, List.take_add, List.drop_drop]
          rwa [e] at this
      · simp at h

theorem trod_flat : ∀ (n : Nat) (t : TypeId) (ks : List IntKind) (fuel : Nat) (cs : List Value) (x : DataW H × List MemPlace), flatK P n t = some ks →
    DataW.trod enc P w base spare held fuel t cs = some x → IsFlat ks cs
  | 0, t, ks, fuel, cs, x, h, _ => by simp [flatK] at h
  | n + 1, t, ks, fuel, cs, x, h, hx => by
    unfold flatK at h
    split at h
    · rename_i k hu
      have : ks = [k] := by simpa using h.symm
      subst this
      obtain ⟨z, rfl, _, hw⟩ := DataW.trod_int hu hx
      exact ⟨z, [], rfl, hw, rfl⟩
    · rename_i m e hu
      cases hr : flatK P n e with
      | none => simp [hr] at h
      | some k0 =>
        simp only [hr] at h
        split at h
        · rename_i hc
          obtain ⟨hc1, hc2⟩ := hc
          have : ks = (List.replicate m k0).flatten := by simpa using h.symm
          subst this
          obtain ⟨xs, mm, _, _, hl, hxs, hel⟩ := DataW.trod_array hu hx
          refine IsFlat.chunks m cs (by rw [hl, hc2]) fun i hi => ?_
          have hxi := hel i hi
          rw [hc1, List.getElem?_eq_getElem (by omega)] at hxi
          exact trod_flat n e k0 mm _ _ hr hxi
        · simp at h
    · rename_i fs hu
      cases hr : fieldsFlat P (flatK P n) fs.toList 0 with
      | none => simp [hr] at h
      | some k0 =>
        simp only [hr] at h
        split at h
        · rename_i hc
          have : ks = k0 := by simpa using h.symm
          subst this
          obtain ⟨xs, mm, _, _, hl, hxs, hel⟩ := DataW.trod_struct hu hx
          have := fields_flat (rec := flatK P n) (m := mm) (fun t ks cs x h1 h2 => trod_flat n t ks mm cs x h1 h2) cs fs.toList 0 ks hr (fun i f hf => by
            have hf' : fs[i]? = some f := by simpa using hf
            have := hel i f hf'
            rw [List.getElem?_eq_getElem (by
              have := (Array.getElem?_eq_some_iff.1 hf').1
              omega)] at this
            exact ⟨_, this⟩)
          rw [List.drop_zero, List.take_of_length_le (by rw [hl, hc]; exact Nat.le_refl _)] at this
          exact this
        · simp at h
    · simp at h

/-- A value of such a type: its cells are its integers. -/
theorem open_flat {t : TypeId} {v : Value} {d : DataW H} {p : List MemPlace} {ks : List IntKind} (n : Nat) (hk : flatK P n t = some ks) (hagg : ∃ C, v = .agg C)
    (h : DataW.Trod enc P w base spare held t v d p) : ∃ cs, v = .agg cs.toArray ∧ IsFlat ks cs := by
  obtain ⟨C, rfl⟩ := hagg
  obtain ⟨fuel, hf⟩ := h
  exact ⟨C.toList, by simp, trod_flat n t ks fuel _ _ hk (by simpa [Value.cells] using hf)⟩
theorem agg_array {r : Reach} {t : TypeId} {v : Value} {n : Nat} {e : TypeId} (hs : P.underlying t = some (.array n e)) (hv : Value.okWide P w r base t v) : ∃ C, v = .agg C := by
  unfold Value.okWide at hv
  rw [hs] at hv
  obtain ⟨C, h, _⟩ := hv
  exact ⟨C, h⟩
theorem agg_struct {r : Reach} {t : TypeId} {v : Value} {fs : Array Field} (hs : P.underlying t = some (.struct fs)) (hv : Value.okWide P w r base t v) : ∃ C, v = .agg C := by
  obtain ⟨C, h, _⟩ := okWide_struct hs hv
  exact ⟨C, h⟩
end
theorem u8_of {z : Int} (h : (Lit.int .u8 z).wf = true) : ∃ y : UInt8, z = (y.toNat : Int) := by
  have := bounds_u8 h
  exact ⟨UInt8.ofNat z.toNat, by simp; omega⟩
end Go.Proofs.Ytpdckpifhniioaa
