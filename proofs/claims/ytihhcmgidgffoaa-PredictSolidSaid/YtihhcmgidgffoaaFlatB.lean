/- An argument whose type is built of bytes by arrays and structs: such a value is a block of bytes. -/
import Derived.Test.YtihhcmgidgffoaaFlat
import Derived.Test.YtihhcmgidgffoaaT
namespace Go.Proofs.Ytihhcmgidgffoaa
open Go.WideShapes

theorem flat_cf : ∀ (n : Nat) (cs : List Value), IsFlat (List.replicate n .u8) cs → ∃ f : Nat → UInt8, cs = (cf n f).toList
  | 0, cs, h => ⟨fun _ => 0, by rw [show cs = [] from h]; rfl⟩
  | n + 1, cs, h => by
    obtain ⟨z, rest, rfl, hw, h'⟩ := h
    obtain ⟨y, rfl⟩ := u8_of hw
    obtain ⟨f, rfl⟩ := flat_cf n rest h'
    refine ⟨fun i => if i = 0 then y else f (i - 1), ?_⟩
    simp [cf, List.range_succ_eq_map]
section
variable {H : Type} {enc : TypeId × Value → H} {P : Program} {w : World} {base : Nat} {spare : Nat → Bool} {held : Bool}
theorem open_bytes {t : TypeId} {v : Value} {d : DataW H} {p : List MemPlace} (n m : Nat) (hk : flatK P n t = some (List.replicate m .u8)) (hagg : ∃ C, v = .agg C)
    (h : DataW.Trod enc P w base spare held t v d p) : ∃ f : Nat → UInt8, v = .agg (cf m f) := by
  obtain ⟨cs, rfl, hf⟩ := open_flat n hk hagg h
  obtain ⟨f, rfl⟩ := flat_cf m cs hf
  exact ⟨f, by rw [Array.toArray_toList]⟩
end
end Go.Proofs.Ytihhcmgidgffoaa
