/- A tile equals itself. -/
import Derived.Test.YtihhcmgidgffoaaT
import Derived.Laws.StructEq
set_option linter.unusedVariables false
namespace Go.Proofs.Ytihhcmgidgffoaa
open Go.RowKit
theorem forIn_yield {P : Program} {β : Type} (b : β) (f : Nat → β → Sem (ForInStep β)) (w : World) : ∀ l : List Nat, (∀ i ∈ l, (f i b).run P w = .ok (.yield b) w) → (forIn l b f : Sem β).run P w = .ok b w
  | [], _ => by simp
  | i :: l, h => by
    rw [List.forIn_cons, Sem.run_bind, h i (by simp)]
    simp only [Result.andThen_ok]
    exact forIn_yield b f w l (fun j hj => h j (by simp [hj]))
theorem pix_self (d : Nat) (a b c e : UInt8) (w : World) : (Op.equalIn (d + 2) 27 (.agg #[.int .u8 a.toNat, .int .u8 b.toNat, .int .u8 c.toNat, .int .u8 e.toNat]) (.agg #[.int .u8 a.toNat, .int .u8 b.toNat, .int .u8 c.toNat, .int .u8 e.toNat])).run Try.prog w = .ok true w := by
  go_simp
theorem part_pix (t : Nat → UInt8) (i : Nat) (h : i < 64) (w : World) : (part 27 (cf 256 t) (i * 4)).run Try.prog w = .ok (.agg (px t i)) w := by
  have hp : (cf 256 t).extract (i * 4) (i * 4 + 4) = px t i := by
    rw [cf_extract 256 t _ _ (by omega), cf4, Nat.mul_comm]; rfl
  cases hq : Try.prog.info? 27 with
  | none => have := Try.size27; rw [hq] at this; simp at this
  | some inf =>
    have hs : inf.size = 4 := by have := Try.size27; rw [hq] at this; simpa using this
    simp [part, sizeOf, typeInfo, hq, hs, hp]
theorem tile_self (t : Nat → UInt8) (w : World) : (Op.equalIn 10000 36 (.agg (cf 256 t)) (.agg (cf 256 t))).run Try.prog w = .ok true w := by
  have hu := Try.underlying36
  rw [show (10000 : Nat) = 9999 + 1 from rfl]
  unfold Op.equalIn
  simp only [Sem.run_bind, run_underlying hu, Result.andThen_ok]
  have hz : (sizeOf 27).run Try.prog w = .ok 4 w := by
    cases hq : Try.prog.info? 27 with
    | none => have := Try.size27; rw [hq] at this; simp at this
    | some inf =>
      have hs : inf.size = 4 := by have := Try.size27; rw [hq] at this; simpa using this
      simp [sizeOf, typeInfo, hq, hs]
  rw [hz]
  simp only [Result.andThen_ok]
  rw [Std.Legacy.Range.forIn_eq_forIn_range']
  rw [forIn_yield]
  · simp
  · intro i hi
    have hi64 : i < 64 := by simp [List.mem_range'] at hi; omega
    simp only [Sem.run_bind, part_pix t i hi64, Result.andThen_ok]
    unfold px
    rw [show (9999 : Nat) = 9997 + 2 from rfl, pix_self]
    simp
theorem neq_tile (t : Nat → UInt8) (w : World) : (binOp .neq 36 (.agg (cf 256 t)) (.agg (cf 256 t))).run Try.prog w = .ok (.bool false) w := by
  rw [run_neq_struct, tile_self]
  simp
end Go.Proofs.Ytihhcmgidgffoaa
