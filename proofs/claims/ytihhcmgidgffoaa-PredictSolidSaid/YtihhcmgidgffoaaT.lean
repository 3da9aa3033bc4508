/- Blocks of bytes as functions of the place: cells, stores, whole loads; a pixel out of a tile. -/
import Derived.Test.YtihhcmgidgffoaaB
import Derived.Deep.MidRow
import Derived.Deep.WholeRow
set_option linter.unusedVariables false
namespace Go.Proofs.Ytihhcmgidgffoaa
open Go.RowKit

/-- The cells of n bytes. -/
def cf (n : Nat) (f : Nat → UInt8) : Array Value := ((List.range n).map fun i => Value.int .u8 ((f i).toNat : Int)).toArray
theorem cf_size (n : Nat) (f : Nat → UInt8) : (cf n f).size = n := by simp [cf]
theorem cf_at (n : Nat) (f : Nat → UInt8) (i : Nat) (h : i < n) : (cf n f)[i]? = some (.int .u8 ((f i).toNat : Int)) := by simp [cf, h]
theorem cf_none (n : Nat) (f : Nat → UInt8) (i : Nat) (h : n ≤ i) : (cf n f)[i]? = none := by simp [cf, h]
theorem cf_congr (n : Nat) (f g : Nat → UInt8) (h : ∀ i, i < n → f i = g i) : cf n f = cf n g := by
  unfold cf
  congr 1
  exact List.map_congr_left fun i hi => by rw [h i (by simpa using hi)]
theorem cf_set (n : Nat) (f : Nat → UInt8) (i : Nat) (v : UInt8) : (cf n f).setIfInBounds i (.int .u8 (v.toNat : Int)) = cf n (M.put f i v) := by
  apply Array.ext_getElem?
  intro j
  rw [Array.getElem?_setIfInBounds]
  by_cases hj : j < n
  · rw [cf_at n (M.put f i v) j hj]
    by_cases e : i = j
    · subst e; rw [if_pos rfl, if_pos (by rw [cf_size]; exact hj), M.put_same]
    · rw [if_neg e, cf_at n f j hj, M.put_other _ _ _ _ (fun h => e h.symm)]
  · rw [cf_none n (M.put f i v) j (by omega)]
    by_cases e : i = j
    · subst e; rw [if_pos rfl, if_neg (by rw [cf_size]; exact hj)]
    · rw [if_neg e, cf_none n f j (by omega)]
theorem cf_one (n : Nat) (f : Nat → UInt8) : (cf n f).all (·.oneCell') = true := by
  rw [Array.all_eq_true]
  intro i hi
  have h := cf_at n f i (by rw [cf_size] at hi; exact hi)
  rw [Array.getElem?_eq_getElem hi] at h
  rw [Option.some.inj h]; rfl
theorem cf_inj (n : Nat) (f g : Nat → UInt8) (h : cf n f = cf n g) (i : Nat) (hi : i < n) : f i = g i := by
  have h1 := cf_at n f i hi
  rw [h, cf_at n g i hi] at h1
  simp at h1
  exact UInt8.toNat_inj.1 (by omega)
theorem cf_extract (n : Nat) (f : Nat → UInt8) (o m : Nat) (h : o + m ≤ n) : (cf n f).extract o (o + m) = cf m (fun i => f (o + i)) := by
  apply Array.ext_getElem?
  intro j
  rw [Array.getElem?_extract]
  by_cases hj : j < m
  · rw [if_pos (by rw [cf_size]; omega), cf_at n f _ (by omega), cf_at m _ j hj]
  · rw [if_neg (by rw [cf_size]; omega), cf_none m _ j (by omega)]
theorem cf_tab (n : Nat) (f : Nat → UInt8) : (cf n f).toList = bvals (M.tab n f) := by simp [cf, bvals, M.tab]
theorem cf4 (f : Nat → UInt8) : cf 4 f = #[.int .u8 ((f 0).toNat : Int), .int .u8 ((f 1).toNat : Int), .int .u8 ((f 2).toNat : Int), .int .u8 ((f 3).toNat : Int)] := by rfl

/-- Block g holds the n bytes f. -/
def Bk (g : Nat) (t : TypeId) (n : Nat) (f : Nat → UInt8) (w : World) : Prop := w.heap[g]? = some (.cells (cf n f) t (0, 0))
theorem Bk.lt {g t n f w} (h : Bk g t n f w) : g < w.heap.size := by
  rcases Nat.lt_or_ge g w.heap.size with h' | h'
  · exact h'
  · unfold Bk at h; rw [Array.getElem?_eq_none h'] at h; simp at h
theorem Bk.cell {g t n f w} (h : Bk g t n f w) (i : Nat) (hi : i < n) : w.cell? ⟨g, i, none⟩ = some (.int .u8 ((f i).toNat : Int)) := by
  rw [cell_of_row w g i _ _ _ h]; exact cf_at n f i hi
theorem Bk.free {g t n f w} (h : Bk g t n f w) (i : Nat) : w.frozen? ⟨g, i, none⟩ = false := frozen_of_row w g i _ _ h
theorem Bk.set {g t n f w} (h : Bk g t n f w) (i : Nat) (v : UInt8) : Bk g t n (M.put f i v) (w.setCell ⟨g, i, none⟩ (.int .u8 (v.toNat : Int))) := by
  unfold Bk
  rw [heap_setCell_same _ _ _ _ _ _ h, cf_set]
theorem Bk.other {g t n f w} (h : Bk g t n f w) (a : Addr) (v : Value) (hne : g ≠ a.block) : Bk g t n f (w.setCell a v) := by
  unfold Bk
  rw [heap_setCell_other _ _ _ _ hne]; exact h
theorem Bk.keep {g t n f w w1} (h : Bk g t n f w) (hb : Below w.heap.size w w1) : Bk g t n f w1 := by
  have hl := h.lt
  unfold Bk at h ⊢
  rw [hb.block _ hl]; exact h
theorem Bk.drew {g t n f w} (h : Bk g t n f w) : Bk g t n f w.drew := h
theorem Bk.alloc {g t n f w} (h : Bk g t n f w) (o : Obj) : Bk g t n f (w.alloc o) := h.keep ((Below.refl _ _).alloc (Nat.le_refl _) o)
theorem Bk.new (w : World) (t : TypeId) (n : Nat) (f : Nat → UInt8) : Bk w.heap.size t n f (w.alloc (.cells (cf n f) t)) := heap_alloc_new _ _
theorem Bk.congr {g t n f f' w} (h : Bk g t n f w) (he : ∀ i, i < n → f i = f' i) : Bk g t n f' w := by
  unfold Bk at h ⊢
  rw [h, cf_congr n f f' he]

theorem Try.zero57 (w : World) : (zeroValue 57).run Try.prog w = .ok (.agg (cf 256 fun _ => 0)) w := by kernel_rfl
theorem Try.zero36 (w : World) : (zeroValue 36).run Try.prog w = .ok (.agg (cf 256 fun _ => 0)) w := by kernel_rfl
theorem Try.zero56 (w : World) : (zeroValue 56).run Try.prog w = .ok (.agg (cf 64 fun _ => 0)) w := by kernel_rfl
theorem Try.size57 : (Try.prog.info? 57).map (·.size) = some 256 := by kernel_rfl
theorem Try.size36 : (Try.prog.info? 36).map (·.size) = some 256 := by kernel_rfl
theorem Try.size56 : (Try.prog.info? 56).map (·.size) = some 64 := by kernel_rfl
theorem Try.size27 : (Try.prog.info? 27).map (·.size) = some 4 := by kernel_rfl

/-- Pixel i of a tile. -/
def px (t : Nat → UInt8) (i : Nat) : Array Value := #[.int .u8 ((t (4 * i)).toNat : Int), .int .u8 ((t (4 * i + 1)).toNat : Int), .int .u8 ((t (4 * i + 2)).toNat : Int), .int .u8 ((t (4 * i + 3)).toNat : Int)]
theorem run_index_pix (t : Nat → UInt8) (i : Nat) (h : i < 64) (w : World) : (Instr.index 36 (.agg (cf 256 t)) (.int .i64 i)).run Try.prog w = .ok (.agg (px t i)) w := by
  have hp : (cf 256 t).extract (i * 4) (i * 4 + 4) = px t i := by
    rw [cf_extract 256 t _ _ (by omega), cf4, Nat.mul_comm]; rfl
  have hu := Try.underlying36
  cases hq : Try.prog.info? 27 with
  | none => have := Try.size27; rw [hq] at this; simp at this
  | some inf =>
    have hs : inf.size = 4 := by have := Try.size27; rw [hq] at this; simpa using this
    simp [Instr.index, asIntOf, Sem.run_bind, run_underlying hu, h, part, sizeOf, typeInfo, hq, hs, hp]
end Go.Proofs.Ytihhcmgidgffoaa
