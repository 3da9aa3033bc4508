/- A contract under other names of its blocks. No function of the program is in sight. -/
import Derived.Test.YtpdckpifhniioaaX
set_option linter.unusedVariables false
namespace Go.Proofs.Ytpdckpifhniioaa
open Go.RowKit
namespace Ab
def Leaf.ren (σ : Nat → Nat) : Leaf → Leaf
  | .v x => .v x
  | .p id off => .p (σ id) off
  | .f fn caps => .f fn (caps.map fun c => (σ c.1, c.2))
  | .s id off len => .s (σ id) off len
  | .o id len => .o (σ id) len
  | .u => .u
def Cp.ren (σ : Nat → Nat) : Cp → Cp
  | .l x => .l (x.ren σ)
  | .agg xs => .agg (xs.map (Leaf.ren σ))
def SV.ren (σ : Nat → Nat) : SV → SV
  | .u => .u
  | .c x => .c (x.ren σ)
  | .tup xs => .tup (xs.map (Cp.ren σ))
  | .g b x => .g b (x.ren σ)
def BT.ren (σ : Nat → Nat) : BT → BT
  | .t n => .t n
  | .r n sz id => .r n sz (σ id)
  | .y n => .y n
  | .e n => .e n
  | .x => .x
  | .q => .q
def Blk.ren (σ : Nat → Nat) (k : Blk) : Blk := ⟨k.cs.map (Leaf.ren σ), k.ty.ren σ⟩
/-- The names that σ gives, looked up. -/
def Bt.of (β : Bt) (σ : Nat → Nat) : Bt := ⟨fun i => β (σ i), fun i => β.c (σ i)⟩
theorem all2_mapl {α β γ : Type} {R : γ → β → Prop} (f : α → γ) : ∀ {l : List α} {m : List β}, All2 R (l.map f) m ↔ All2 (fun a b => R (f a) b) l m
  | [], [] => Iff.rfl
  | [], _ :: _ => Iff.rfl
  | _ :: _, [] => Iff.rfl
  | a :: l, b :: m => by simp only [List.map_cons, All2, all2_mapl f (l := l) (m := m)]
theorem all2_iff {α β : Type} {R S : α → β → Prop} (h : ∀ a b, R a b ↔ S a b) : ∀ {l : List α} {m : List β}, All2 R l m ↔ All2 S l m
  | [], [] => Iff.rfl
  | [], _ :: _ => Iff.rfl
  | _ :: _, [] => Iff.rfl
  | a :: l, b :: m => by simp only [All2, h, all2_iff h (l := l) (m := m)]
section
variable {σ : Nat → Nat} {β : Bt}
theorem Leaf.ren_den (x : Leaf) (y : Value) : (x.ren σ).den β y ↔ x.den (β.of σ) y := by
  cases x with
  | v a => exact Iff.rfl
  | p id off => exact Iff.rfl
  | f fn caps =>
    simp only [Leaf.ren, Leaf.den]
    constructor
    · rintro ⟨cs, h, e⟩; exact ⟨cs, (all2_mapl _).1 h, e⟩
    · rintro ⟨cs, h, e⟩; exact ⟨cs, (all2_mapl _).2 h, e⟩
  | s id off len => exact Iff.rfl
  | o id len => exact Iff.rfl
  | u => exact Iff.rfl
theorem Cp.ren_den (x : Cp) (y : Value) : (x.ren σ).den β y ↔ x.den (β.of σ) y := by
  cases x with
  | l a => exact Leaf.ren_den a y
  | agg xs =>
    simp only [Cp.ren, Cp.den]
    constructor
    · rintro ⟨ys, e, h⟩; exact ⟨ys, e, (all2_iff fun a b => Leaf.ren_den a b).1 ((all2_mapl _).1 h)⟩
    · rintro ⟨ys, e, h⟩; exact ⟨ys, e, (all2_mapl _).2 ((all2_iff fun a b => Leaf.ren_den a b).2 h)⟩
theorem SV.ren_den (x : SV) (y : Value) : (x.ren σ).den β y ↔ x.den (β.of σ) y := by
  cases x with
  | u => exact Iff.rfl
  | c a => exact Cp.ren_den a y
  | tup xs =>
    simp only [SV.ren, SV.den]
    constructor
    · rintro ⟨ys, e, h⟩; exact ⟨ys, e, (all2_iff fun a b => Cp.ren_den a b).1 ((all2_mapl _).1 h)⟩
    · rintro ⟨ys, e, h⟩; exact ⟨ys, e, (all2_mapl _).2 ((all2_iff fun a b => Cp.ren_den a b).2 h)⟩
  | g b a => simp only [SV.ren, SV.den, Cp.ren_den]
theorem BT.ren_ty (t : BT) : (t.ren σ).ty = t.ty ∧ ((t.ren σ = .x ↔ t = .x) ∧ (t.ren σ = .q ↔ t = .q)) ∧ (∀ l m, (t.ren σ).room β l m ↔ t.room (β.of σ) l m) ∧ ∀ m, (t.ren σ).fr m = t.fr m := by
  cases t with
  | t n => exact ⟨rfl, ⟨⟨fun h => (by cases h), fun h => (by cases h)⟩, ⟨fun h => (by cases h), fun h => (by cases h)⟩⟩, fun _ _ => Iff.rfl, fun _ => rfl⟩
  | e n => exact ⟨rfl, ⟨⟨fun h => (by cases h), fun h => (by cases h)⟩, ⟨fun h => (by cases h), fun h => (by cases h)⟩⟩, fun _ _ => Iff.rfl, fun _ => rfl⟩
  | r n sz id => exact ⟨rfl, ⟨⟨fun h => (by cases h), fun h => (by cases h)⟩, ⟨fun h => (by cases h), fun h => (by cases h)⟩⟩, fun _ _ => Iff.rfl, fun _ => rfl⟩
  | y n => exact ⟨rfl, ⟨⟨fun h => (by cases h), fun h => (by cases h)⟩, ⟨fun h => (by cases h), fun h => (by cases h)⟩⟩, fun _ _ => Iff.rfl, fun _ => rfl⟩
  | q => exact ⟨rfl, ⟨⟨fun h => (by cases h), fun h => (by cases h)⟩, Iff.rfl⟩, fun _ _ => Iff.rfl, fun _ => rfl⟩
  | x => exact ⟨rfl, ⟨Iff.rfl, ⟨fun h => (by cases h), fun h => (by cases h)⟩⟩, fun _ _ => Iff.rfl, fun _ => rfl⟩
theorem Blk.ren_at {x : World} {b : Nat} (k : Blk) : BlkAt β x b (k.ren σ) ↔ BlkAt (β.of σ) x b k := by
  obtain ⟨q1, q2, q3, q4⟩ := BT.ren_ty (σ := σ) (β := β) k.ty
  unfold BlkAt Blk.ren
  simp only [q1, q2.1, q2.2, q3, q4, List.map_eq_nil_iff]
  refine or_congr (or_congr Iff.rfl (and_congr Iff.rfl ?_)) ?_
  · unfold QC
    constructor
    · intro h i l hl
      rcases h i (l.ren σ) (by rw [List.getElem?_map, hl]; rfl) with h1 | ⟨y, h1, h2⟩
      · left; cases l <;> simp_all [Leaf.ren]
      · exact .inr ⟨y, h1, (Leaf.ren_den l y).1 h2⟩
    · intro h i l hl
      rw [List.getElem?_map, Option.map_eq_some_iff] at hl
      obtain ⟨z, hz, rfl⟩ := hl
      rcases h i z hz with h1 | ⟨y, h1, h2⟩
      · left; rw [h1]; rfl
      · exact .inr ⟨y, h1, (Leaf.ren_den z y).2 h2⟩
  constructor
  · rintro ⟨ys, zs, h1, h2, h3⟩; exact ⟨ys, zs, h1, (all2_iff fun a b => Leaf.ren_den a b).1 ((all2_mapl _).1 h2), h3⟩
  · rintro ⟨ys, zs, h1, h2, h3⟩; exact ⟨ys, zs, h1, (all2_mapl _).2 ((all2_iff fun a b => Leaf.ren_den a b).2 h2), h3⟩
end
theorem lk_ren {α γ : Type} {σ : Nat → Nat} (hi : ∀ i j, σ i = σ j → i = j) (f : α → γ) : ∀ (l : List (Nat × α)) (i : Nat), lk (l.map fun p => (σ p.1, f p.2)) (σ i) = (lk l i).map f
  | [], i => rfl
  | (k, v) :: l, i => by
    by_cases e : k = i
    · subst e; rw [List.map_cons, lk_cons_eq, lk_cons_eq]; rfl
    · rw [List.map_cons, lk_cons_ne _ _ (fun h => e (hi _ _ h)), lk_cons_ne _ _ e]; exact lk_ren hi f l i
theorem lk_ren_of {α γ : Type} {σ : Nat → Nat} (f : α → γ) : ∀ (l : List (Nat × α)) (j : Nat) (k : γ), lk (l.map fun p => (σ p.1, f p.2)) j = some k → ∃ i, σ i = j
  | [], j, k, h => by cases h
  | (a, v) :: l, j, k, h => by
    by_cases e : σ a = j
    · exact ⟨a, e⟩
    · rw [List.map_cons, lk_cons_ne _ _ e] at h; exact lk_ren_of f l j k h
/-- **A CONTRACT UNDER OTHER NAMES.** -/
theorem CallOKd.ren {P : Program} {f : Nat} {dc : List (Nat × Nat × Bool)} {args : List SV} {H : List (Nat × Blk)} {n : Nat} {v : SV} {wr : List (Nat × Blk)} {nw : Nat} (h : CallOKd P f dc args H n v wr nw) (σ : Nat → Nat) (n' : Nat)
    (hlo : ∀ i, i < n → σ i < n') (hhi : ∀ i, n ≤ i → σ i = n' + (i - n)) (hin : ∀ i j, i < n → j < n → σ i = σ j → i = j) :
    CallOKd P f (dc.map fun p => (σ p.1, p.2)) (args.map (SV.ren σ)) (H.map fun p => (σ p.1, p.2.ren σ)) n' (v.ren σ) (wr.map fun p => (σ p.1, p.2.ren σ)) nw := by
  have hi : ∀ i j, σ i = σ j → i = j := by
    intro i j e
    by_cases h1 : i < n
    · by_cases h2 : j < n
      · exact hin i j h1 h2 e
      · have := hlo i h1; have := hhi j (by omega); omega
    · by_cases h2 : j < n
      · have := hlo j h2; have := hhi i (by omega); omega
      · have := hhi i (by omega); have := hhi j (by omega); omega
  refine ⟨h.1, fun β x vals ha hinj hlt hnew hH hdc => ?_⟩
  have key := h.2 (β.of σ) x vals ((all2_iff fun a b => SV.ren_den a b).1 ((all2_mapl _).1 ha)) (fun i j b h1 h2 => hi _ _ (hinj _ _ b h1 h2)) (fun i b h1 => hlt _ b h1)
    (fun id h1 h2 => hnew (σ id) (by rw [hhi id h1]; omega) (by rw [hhi id h1]; omega))
    (fun id b k h1 h2 => (Blk.ren_at k).1 (hH (σ id) b (k.ren σ) h1 (by rw [lk_ren hi (Blk.ren σ), h2]; rfl))) (fun p hp w hv => hdc (σ p.1, p.2) (List.mem_map.2 ⟨p, hp, rfl⟩) w hv)
  refine key.mono ?_
  rintro e x' ⟨y, β₂, rfl, hD⟩
  have hE : ∀ i b, β i = some b → ¬ (n' ≤ i ∧ i < n' + nw) := fun i b h1 ⟨h2, h3⟩ => by rw [(hnew i h2 h3).1] at h1; cases h1
  have hEc : ∀ i b, β.c i = some b → ¬ (n' ≤ i ∧ i < n' + nw) := fun i b h1 ⟨h2, h3⟩ => by rw [(hnew i h2 h3).2] at h1; cases h1
  obtain ⟨β₃, hβ₃⟩ : ∃ g : Bt, g = ⟨fun j => if n' ≤ j ∧ j < n' + nw then β₂ (n + (j - n')) else β j, fun j => if n' ≤ j ∧ j < n' + nw then β₂.c (n + (j - n')) else β.c j⟩ := ⟨_, rfl⟩
  have v3 : ∀ j, β₃ j = if n' ≤ j ∧ j < n' + nw then β₂ (n + (j - n')) else β j := fun j => by rw [hβ₃]
  have w3 : ∀ j, β₃.c j = if n' ≤ j ∧ j < n' + nw then β₂.c (n + (j - n')) else β.c j := fun j => by rw [hβ₃]
  have hX : Ext β₂ (β₃.of σ) := by
    refine ⟨fun i b hb => ?_, fun i b hb => ?_⟩
    · rcases hD.new i b hb with h1 | ⟨h1, h2, h3⟩
      · show β₃ (σ i) = _
        rw [v3, if_neg (hE _ _ h1)]; exact h1
      · show β₃ (σ i) = _
        have e := hhi i h1
        rw [v3, if_pos ⟨by omega, by omega⟩, show n + (σ i - n') = i by omega]; exact hb
    · rcases hD.newc i b hb with h1 | ⟨h1, h2⟩
      · show β₃.c (σ i) = _
        rw [w3, if_neg (hEc _ _ h1)]; exact h1
      · show β₃.c (σ i) = _
        have e := hhi i h1
        rw [w3, if_pos ⟨by omega, by omega⟩, show n + (σ i - n') = i by omega]; exact hb
  refine ⟨y, β₃, rfl, ⟨(SV.ren_den v y).2 (SV.ext hX hD.den), ⟨?_, ?_⟩, ?_, ?_, ?_, ?_, hD.os, hD.tape, hD.output, hD.size, ?_, ?_⟩⟩
  · intro i b hb
    rw [v3, if_neg (hE i b hb)]; exact hb
  · intro i b hb
    rw [w3, if_neg (hEc i b hb)]; exact hb
  · intro i b hb
    rw [v3] at hb
    split at hb
    · rename_i hr
      rcases hD.new _ b hb with h1 | ⟨h1, h2, h3⟩
      · exfalso
        have e := hhi (n + (i - n')) (by omega)
        rw [show n' + (n + (i - n') - n) = i by omega] at e
        have h1 : β (σ (n + (i - n'))) = some b := h1
        rw [e] at h1
        exact hE i b h1 hr
      · exact .inr ⟨hr.1, hr.2, h3⟩
    · exact .inl hb
  · intro i b hb
    rw [w3] at hb
    split at hb
    · rename_i hr
      exact .inr hr
    · exact .inl hb
  · intro i j b hb hc
    rw [v3] at hb hc
    split at hb
    · rename_i hr
      split at hc
      · rename_i hs
        have := hD.inj _ _ b hb hc
        omega
      · rename_i hs
        exfalso
        rcases hD.new _ b hb with h1 | ⟨h1, h2, h3⟩
        · have e := hhi (n + (i - n')) (by omega)
          rw [show n' + (n + (i - n') - n) = i by omega] at e
          have h1 : β (σ (n + (i - n'))) = some b := h1
          rw [e] at h1
          exact hE i b h1 hr
        · have := hlt j b hc; omega
    · rename_i hr
      split at hc
      · rename_i hs
        exfalso
        rcases hD.new _ b hc with h1 | ⟨h1, h2, h3⟩
        · have e := hhi (n + (j - n')) (by omega)
          rw [show n' + (n + (j - n') - n) = j by omega] at e
          have h1 : β (σ (n + (j - n'))) = some b := h1
          rw [e] at h1
          exact hE j b h1 hs
        · have := hlt i b hb; omega
      · exact hinj i j b hb hc
  · intro i b hb
    rw [v3] at hb
    split at hb
    · exact hD.lt _ b hb
    · exact Nat.lt_of_lt_of_le (hlt i b hb) hD.size
  · intro k hk hne
    refine hD.keep k hk fun id hb => ?_
    have := hne (σ id) hb
    rw [lk_ren hi (Blk.ren σ)] at this
    cases hq : lk wr id with
    | none => rfl
    | some q => rw [hq] at this; cases this
  · intro i b k hb hk
    obtain ⟨id, rfl⟩ := lk_ren_of (Blk.ren σ) wr i k hk
    rw [lk_ren hi (Blk.ren σ)] at hk
    cases hq : lk wr id with
    | none => rw [hq] at hk; cases hk
    | some q =>
      rw [hq] at hk
      simp only [Option.map_some, Option.some.injEq] at hk
      subst hk
      have hb2 : β₂ id = some b := by
        rw [v3] at hb
        split at hb
        · rename_i hr
          have hge : n ≤ id := by
            rcases Nat.lt_or_ge id n with h1 | h1
            · have := hlo id h1; omega
            · exact h1
          have e := hhi id hge
          rw [show n + (σ id - n') = id by omega] at hb
          exact hb
        · exact hD.ext.b id b hb
      refine (Blk.ren_at q).2 ?_
      exact (hD.blk id b q hb2 hq).ext hX rfl
theorem CallOK.ren {P : Program} {f : Nat} {args : List SV} {H : List (Nat × Blk)} {n : Nat} {v : SV} {wr : List (Nat × Blk)} {nw : Nat} (h : CallOK P f args H n v wr nw) (σ : Nat → Nat) (n' : Nat)
    (hlo : ∀ i, i < n → σ i < n') (hhi : ∀ i, n ≤ i → σ i = n' + (i - n)) (hin : ∀ i j, i < n → j < n → σ i = σ j → i = j) :
    CallOK P f (args.map (SV.ren σ)) (H.map fun p => (σ p.1, p.2.ren σ)) n' (v.ren σ) (wr.map fun p => (σ p.1, p.2.ren σ)) nw := CallOKd.ren h σ n' hlo hhi hin
end Ab
end Go.Proofs.Ytpdckpifhniioaa
