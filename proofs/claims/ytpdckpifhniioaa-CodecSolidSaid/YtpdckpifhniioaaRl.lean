/- Rasters as lists of tiles at positions. -/
import Derived.Test.YtpdckpifhniioaaC5
set_option linter.unusedVariables false
namespace Go.Proofs.Ytpdckpifhniioaa
open Go.RowKit
namespace Ab
structure TA where
  X : Int
  Y : Int
  t : Nat → UInt8
def el (e : TA) : List Leaf := li e.X :: li e.Y :: tl e.t
def rws (l : List TA) : List Leaf := (l.map el).flatten
def TA.z : TA := ⟨0, 0, zT⟩
def at' (l : List TA) (k : Nat) : TA := l.getD k TA.z
def zA258 : List Leaf := li 0 :: li 0 :: List.replicate 256 (.v (.int .u8 0))
theorem el_len (e : TA) : (el e).length = 258 := by simp [el, tl_len]
theorem zA_len : zA258.length = 258 := by kernel_rfl
theorem rws_len : ∀ l : List TA, (rws l).length = 258 * l.length
  | [] => rfl
  | e :: l => by
    have := rws_len l
    simp only [rws, List.map_cons, List.flatten_cons, List.length_append, el_len, List.length_cons] at *
    omega
theorem rws_drop : ∀ (l : List TA) (k : Nat), k < l.length → ∃ m, (rws l).drop (k * 258) = el (at' l k) ++ m
  | [], k, h => by simp at h
  | e :: l, 0, h => ⟨rws l, by simp [rws, at']⟩
  | e :: l, k + 1, h => by
    obtain ⟨m, hm⟩ := rws_drop l k (by simpa using h)
    refine ⟨m, ?_⟩
    have : (rws (e :: l)).drop ((k + 1) * 258) = (rws l).drop (k * 258) := by
      simp only [rws, List.map_cons, List.flatten_cons]
      rw [List.drop_append, List.drop_eq_nil_of_le (by rw [el_len]; omega), List.nil_append, el_len, show (k + 1) * 258 - 258 = k * 258 by omega]
    rw [this, hm]
    rfl
theorem rws_at {l : List TA} {k : Nat} (h : k < l.length) : List.take 258 (List.drop (k * 258) (rws l)) = el (at' l k) := by
  obtain ⟨m, hm⟩ := rws_drop l k h
  rw [hm, List.take_append_of_le_length (by rw [el_len]; exact Nat.le_refl _), List.take_of_length_le (by rw [el_len]; exact Nat.le_refl _)]
theorem rws_pos {l : List TA} {k : Nat} (h : k < l.length) : List.take 2 (List.drop (k * 258) (rws l)) = [li (at' l k).X, li (at' l k).Y] := by
  obtain ⟨m, hm⟩ := rws_drop l k h
  rw [hm]; rfl
theorem splice_full : ∀ (m z : List Leaf) (p : List Leaf), z.length = m.length → splice (p ++ z) p.length m = p ++ m
  | [], z, p, h => by
    have : z = [] := List.eq_nil_of_length_eq_zero h
    subst this; rfl
  | a :: m, b :: z, p, h => by
    have := splice_full m z (p ++ [a]) (by simpa using h)
    rw [splice, List.set_append_right _ _ (Nat.le_refl _), Nat.sub_self, List.set_cons_zero]
    simpa using this
  | a :: m, [], p, h => by simp at h
theorem splice_all {m z : List Leaf} (h : z.length = m.length) : splice z 0 m = m := splice_full m z [] h
theorem put_el (e : TA) : splice zA258 0 (el e) = el e := splice_all (by rw [zA_len, el_len])
theorem rnLs_plain (ρ : Nat → Option Nat) : ∀ l : List Leaf, (∀ x ∈ l, ∃ v, x = .v v) → rnLs ρ l = some l
  | [], _ => rfl
  | x :: l, h => by
    obtain ⟨v, rfl⟩ := h x (by simp)
    simp [rnLs, Leaf.rn, rnLs_plain ρ l fun y hy => h y (by simp [hy])]
theorem tl_plain (t : Nat → UInt8) : ∀ x ∈ tl t, ∃ v, x = .v v := by
  intro x hx
  simp only [tl, List.mem_map] at hx
  obtain ⟨i, _, rfl⟩ := hx
  exact ⟨_, rfl⟩
theorem rws_plain (l : List TA) : ∀ x ∈ rws l, ∃ v, x = .v v := by
  intro x hx
  simp only [rws, List.mem_flatten, List.mem_map] at hx
  obtain ⟨m, ⟨e, _, rfl⟩, hx⟩ := hx
  simp only [el, List.mem_cons] at hx
  rcases hx with rfl | rfl | hx
  · exact ⟨_, rfl⟩
  · exact ⟨_, rfl⟩
  · exact tl_plain _ x hx
theorem rn_rws (ρ : Nat → Option Nat) (l : List TA) : rnLs ρ (rws l) = some (rws l) := rnLs_plain ρ _ (rws_plain l)
theorem blt_rws (n : Nat) (l : List TA) {t : BT} (h : (t.rn (rnId n 0 [])).isSome = true) : blkLt n ⟨rws l, t⟩ = true := by
  unfold blkLt; rw [rn_rws, h]; rfl
theorem bkr_rws {ρ : Nat → Option Nat} {l l' : List TA} {t t' : BT} (e : l = l') (h : t.rn ρ = some t') : BkR ρ ⟨rws l, t⟩ ⟨rws l', t'⟩ := by
  subst e
  refine BkR.of ?_
  unfold Blk.rn
  simp only [rn_rws, h]
theorem bkm_rws {l : List (Nat × Option Nat)} {n : Nat} {r r' : List TA} {t t' : BT} (e : r = r') (h : t.rn (ri l n) = some t') : BkM l n (some ⟨rws r, t⟩) ⟨rws r', t'⟩ := by
  subst e
  refine BkM.of ?_
  unfold Blk.rn
  simp only [rn_rws, h]
/-- What a raster's tiles must be. -/
structure Good (l : List TA) : Prop where
  len : l.length ≤ 1024
  inn : ∀ k, k < l.length → inB (at' l k).X (at' l k).Y = true
  nz : ∀ k, k < l.length → zeroT (at' l k).t = false
  cl : ∀ k, k < l.length → sameT (clnT (at' l k).t) (at' l k).t = true
  ord : ∀ k, k + 1 < l.length → (at' l k).Y < (at' l (k + 1)).Y ∨ ((at' l k).Y = (at' l (k + 1)).Y ∧ (at' l k).X < (at' l (k + 1)).X)
end Ab
end Go.Proofs.Ytpdckpifhniioaa
