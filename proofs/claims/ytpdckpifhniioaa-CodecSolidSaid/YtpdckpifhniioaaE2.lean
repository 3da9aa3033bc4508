/- Arguments that are slices of integers; made and Pack at any name; sizes of packed rasters. -/
import Derived.Test.YtpdckpifhniioaaE1
set_option linter.unusedVariables false
set_option linter.unusedSimpArgs false
namespace Go.Proofs.Ytpdckpifhniioaa
open Go.RowKit
namespace Ab
/-- A slice of integers that came in. -/
def IntsAt (x : Leaf) (p : Nat) (s : List Int) : Prop := s.length ≤ 20000000000000 ∧ (x = .s 0 p s.length ∨ (s = [] ∧ p = 0 ∧ ∃ o c, x = .v (.slice o 0 c)))
theorem IntsAt.rn {x : Leaf} {p : Nat} {s : List Int} (h : IntsAt x p s) : x.rn (rnId 1 0 []) = some x := by
  rcases h.2 with rfl | ⟨_, _, o, c, rfl⟩
  · rfl
  · rfl
theorem IntsAt.lt {x : Leaf} {p : Nat} {s : List Int} (h : IntsAt x p s) : ltN 1 (.c (.l x)) = true := by
  rcases h.2 with rfl | ⟨_, _, o, c, rfl⟩ <;> rfl
theorem ints_call {P : Program} {f : Nat} {pre post : List SV} {vp vq : List Value} (ha : pls pre = some vp) (hb : pls post = some vq)
    (h : ∀ x p s, IntsAt x p s → CallOK P f (pre ++ .c (.l x) :: post) [(0, ⟨qls p s, .q⟩)] 1 (bv true) [] 0)
    (o : Option Addr) (zs : List Int) (n c : Nat) (w : World) (w0 : n * 8 ≤ 140737488351232) (hn : zs.length = n) (hcap : n ≤ c)
    (hc : ∀ i (h : i < zs.length), ∃ a, o = some a ∧ a.block < w.heap.size ∧ w.cell? (a.add i) = some (.int .i64 zs[i])) :
    Calls P f (vp ++ .slice o n c :: vq).toArray w fun e w' => e = .returned (.bool true) ∧ Below w.heap.size w w' := by
  have fin : ∀ (β : Bt) (x : Leaf) (p : Nat) (s : List Int), IntsAt x p s → x.den β (.slice o n c) → (∀ i j b, β i = some b → β j = some b → i = j) → (∀ i b, β i = some b → b < w.heap.size) → (∀ i, 1 ≤ i → β i = none ∧ β.c i = none) → (∀ b, β 0 = some b → BlkAt β w b ⟨qls p s, .q⟩) →
      Calls P f (vp ++ .slice o n c :: vq).toArray w fun e w' => e = .returned (.bool true) ∧ Below w.heap.size w w' := by
    intro β x p s hx hd hinj hlt hno hbk
    have hden : All2 (SV.den β) (pre ++ .c (.l x) :: post) (vp ++ .slice o n c :: vq) := ((pls_iff ha β vp).2 rfl).append ⟨hd, (pls_iff hb β vq).2 rfl⟩
    refine ((h x p s hx).2 β w _ hden hinj hlt (fun id h1 _ => hno id h1) (fun id b k hb hk => ?_) (fun _ h => by cases h)).mono ?_
    · cases id with
      | zero =>
        have : k = ⟨qls p s, .q⟩ := by
          have e : lk [(0, (⟨qls p s, .q⟩ : Blk))] 0 = some ⟨qls p s, .q⟩ := lk_cons_eq _ _ _
          rw [e] at hk; exact (Option.some.inj hk).symm
        subst this; exact hbk b hb
      | succ i => rw [(hno (i + 1) (by omega)).1] at hb; cases hb
    · rintro e x' ⟨z, β', rfl, hD⟩
      refine ⟨by rw [(SV.pl_iff (x := bv true) (y := .bool true) rfl β' z).1 hD.den], hD.os, hD.tape, hD.output, hD.size, fun k hk => hD.keep k hk fun id _ => rfl⟩
  cases zs with
  | nil =>
    have hn0 : n = 0 := by simpa using hn.symm
    subst hn0
    exact fin ⟨fun _ => none, fun _ => none⟩ (.v (.slice o 0 c)) 0 [] ⟨by simp, .inr ⟨rfl, rfl, o, c, rfl⟩⟩ ⟨rfl, rfl⟩ (fun _ _ _ h => by cases h) (fun _ _ h => by cases h) (fun _ _ => ⟨rfl, rfl⟩) (fun _ h => by cases h)
  | cons z zs =>
    obtain ⟨a, rfl, hal, ha0⟩ := hc 0 (by simp)
    obtain ⟨b, off, sp⟩ := a
    have hsp : sp = none := by
      cases sp with
      | none => rfl
      | some q =>
        have := ha0
        unfold World.cell? at this
        simp only [Addr.add] at this
        split at this <;> simp at this
    subst hsp
    refine fin ⟨fun i => if i = 0 then some b else none, fun _ => none⟩ (.s 0 off (z :: zs).length) off (z :: zs) ⟨by omega, .inl rfl⟩ ⟨b, c, rfl, by omega, by rw [hn]⟩ (fun i j b' h1 h2 => ?_) (fun i b' h1 => ?_) (fun i hi => ⟨if_neg (by omega), rfl⟩) (fun b' hb' => ?_)
    · by_cases e1 : i = 0
      · by_cases e2 : j = 0
        · omega
        · simp [e2] at h2
      · simp [e1] at h1
    · by_cases e1 : i = 0
      · simp [e1] at h1; subst h1; exact hal
      · simp [e1] at h1
    · have : b' = b := by simpa using hb'.symm
      subst this
      refine .inl (.inr ⟨rfl, fun i l hl => ?_⟩)
      have hl' : (qls off (z :: zs))[i]? = some l := hl
      by_cases hi : i < off
      · left
        unfold qls at hl'
        rw [List.getElem?_append_left (by simpa using hi), List.getElem?_replicate_of_lt hi] at hl'
        exact (Option.some.inj hl').symm
      · right
        unfold qls at hl'
        rw [List.getElem?_append_right (by simpa using (by omega : off ≤ i)), List.length_replicate, List.getElem?_map] at hl'
        obtain ⟨y, hy, rfl⟩ := Option.map_eq_some_iff.1 hl'
        obtain ⟨hy1, hy2⟩ := List.getElem?_eq_some_iff.1 hy
        obtain ⟨a, e, _, hcell⟩ := hc (i - off) hy1
        obtain rfl := Option.some.inj e
        refine ⟨.int .i64 y, ?_, rfl, rfl⟩
        have e2 : off + (i - off) = i := by omega
        have e3 : (⟨b', off, none⟩ : Addr).add (i - off) = ⟨b', i, none⟩ := by
          by_cases e0 : i - off = 0
          · have : off = i := by omega
            subst this
            rw [e0]; rfl
          · simp only [Addr.add, if_neg e0, e2]
        rw [e3] at hcell
        rw [hcell, hy2]
/-- made, at any name. -/
theorem made_any {x : Leaf} {p : Nat} {s : List Int} (h : IntsAt x p s) (n : Nat) (hn : 0 < n) : CallOK Try.prog 8 [.c (.l x)] [(0, ⟨qls p s, .q⟩)] n (.c (.agg [.o n (mdL s (mdN s)).length])) [(n, ⟨rws (mdL s (mdN s)), .r 35 258 n⟩)] 1 := by
  have e1 : ∀ σ, (qls p s).map (Leaf.ren σ) = qls p s := (fix_qls p s).2
  have e2 := ren_plain (σ := up1 0 n) (plain_rws (mdL s (mdN s)))
  rcases h.2 with rfl | ⟨rfl, rfl, o, c, rfl⟩
  · have key := CallOK.at1 (C11 p s h.1) 0 n hn
    simp only [List.map_cons, List.map_nil, Blk.ren, SV.ren, Cp.ren, Leaf.ren, BT.ren, e1, e2] at key
    exact key
  · have key := CallOK.at1 (C11z o c) 0 n hn
    simp only [List.map_cons, List.map_nil, Blk.ren, SV.ren, Cp.ren, Leaf.ren, BT.ren, e1, e2] at key
    exact key
/-- Pack of any good raster. -/
theorem pack_any (l : List TA) (hg : Good l) (id n : Nat) (hi : id < n) : CallOK Try.prog 7 [.c (.agg [.o id l.length])] [(id, ⟨rws l, .r 35 258 id⟩)] n (.tup [.l (.v (.string (packB l))), .l (li 0)]) [] 0 := by
  have e1 := ren_plain (σ := up1 id n) (plain_rws l)
  by_cases hl : l = []
  · subst hl
    have key := CallOK.at1 (C12y [] rfl) id n hi
    simp only [List.map_cons, List.map_nil, Blk.ren, SV.ren, Cp.ren, Leaf.ren, BT.ren, e1] at key
    exact key
  · have key := CallOK.at1 (C12 l hg (List.length_pos_iff.2 hl)) id n hi
    simp only [List.map_cons, List.map_nil, Blk.ren, SV.ren, Cp.ren, Leaf.ren, BT.ren, e1] at key
    exact key
theorem made_good (s : List Int) : Good (mdL s (mdN s)) := mdL_good s _ (Nat.min_le_right _ _)
theorem made_len (s : List Int) : (mdL s (mdN s)).length ≤ 6 := Nat.le_trans (mdL_len s _) (Nat.min_le_right _ _)
/-! ### Sizes -/
theorem varB_small {k : Nat} (h : k < 128) : (varB (k : Int)).size = 1 := by
  show (Oct.M.leb (Oct.u64 (k : Int))).length = 1
  rw [Oct.u64_nat k (by omega), Oct.M.leb_small k h]; rfl
theorem varB_two {k : Nat} (h : k < 16384) : (varB (k : Int)).size ≤ 2 := by
  show (Oct.M.leb (Oct.u64 (k : Int))).length ≤ 2
  rw [Oct.u64_nat k (by omega), Oct.M.leb_length]
  have := Oct.M.cnt_le 1 (k / 128) (by omega)
  omega
theorem txt_small {s : ByteArray} (h : s.size < 128) : (txtB s).size = 1 + s.size := by
  show (Oct.txt s).length = _
  unfold Oct.txt
  rw [List.length_append, Array.length_toList, Oct.M.leb_small _ h]; rfl
theorem entB_le14 (e : TA) : (entB e).size ≤ 14 := by
  unfold entB
  simp only [ByteArray.size_append, putB_sz, sz2, sz4, quad_sz]
  have := varB_two (show (blobT e.t).size < 16384 by have := blobT_le e.t; omega)
  omega
theorem hdB_le14 (l : List TA) (h : l.length < 128) : ∀ k, (hdB l k).size ≤ 1 + 14 * k
  | 0 => by
    show (varB (l.length : Nat)).size ≤ 1
    rw [varB_small h]; exact Nat.le_refl _
  | k + 1 => by
    rw [hdB, ByteArray.size_append]
    have := hdB_le14 l h k
    have := entB_le14 (at' l k)
    omega
theorem pack_size (l : List TA) : (packB l).size = 6 + (txtB (hdB l l.length)).size + (blB l l.length).size := by
  unfold packB
  simp only [ByteArray.size_append, putB_sz, sz4]
  have e0 : (⟨#[71, 1]⟩ : ByteArray).size = 2 := rfl
  omega
theorem pack_bound (l : List TA) (h : l.length ≤ 6) : (packB l).size ≤ 10 + l.length * 271 := by
  have h1 := hdB_le14 l (by omega) l.length
  have h2 := blB_le l l.length
  rw [pack_size, txt_small (by omega)]
  omega
theorem pack_nil : (packB []).size = 8 := by
  have h1 : (hdB [] 0).size = 1 := varB_small (k := 0) (by decide)
  have h2 : (blB [] 0).size = 0 := by unfold blB; rfl
  rw [pack_size, List.length_nil, txt_small (by omega)]
  omega
theorem pack_solid (x y : Int) (t : Nat → UInt8) (h : solT t = true) : (packB [⟨x, y, t⟩]).size = (packB []).size + 13 + 5 := by
  have hb : (blobT t).size = 5 := by unfold blobT; rw [h]; rfl
  have h2 : (blB [⟨x, y, t⟩] 1).size = 5 := by
    rw [blB, ByteArray.size_append]
    show (blB _ 0).size + (blobT t).size = 5
    rw [hb]; unfold blB; rfl
  have he : (entB ⟨x, y, t⟩).size = 13 := by
    unfold entB
    simp only [ByteArray.size_append, putB_sz, sz2, sz4, quad_sz]
    show 2 + 2 + 4 + (varB ((blobT t).size : Nat)).size + 4 = 13
    rw [hb, varB_small (by decide)]
  have h1 : (hdB [⟨x, y, t⟩] 1).size = 14 := by
    rw [hdB, ByteArray.size_append]
    show (varB (1 : Nat)).size + (entB ⟨x, y, t⟩).size = 14
    rw [he, varB_small (by decide)]
  rw [pack_nil, pack_size]
  show 6 + (txtB (hdB _ 1)).size + (blB _ 1).size = _
  rw [h2, txt_small (by omega), h1]
end Ab
end Go.Proofs.Ytpdckpifhniioaa
