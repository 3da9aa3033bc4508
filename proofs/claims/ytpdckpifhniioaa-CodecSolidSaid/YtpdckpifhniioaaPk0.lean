/- Pack of the empty raster. -/
import Derived.Test.YtpdckpifhniioaaBl
set_option linter.unusedVariables false
namespace Go.Proofs.Ytpdckpifhniioaa.Oct
open Go.RowKit
open Go.Proofs.Ytpdckpifhniioaa
set_option maxRecDepth 100000 in
set_option maxHeartbeats 1000000 in
theorem valid_empty (w : World) : Calls Try.prog 13 #[.agg #[.slice none 0 0]] w fun e w' => e = .returned (.bool true) ∧ Grow w w' := by
  go_enter Try.func13, Try.ntmps13
  go_wp2
  refine wp_loop_rounds 1 ?_
  rw [rounds_succ]
  go_wp2
  go_ret
  exact ⟨rfl, (Below.refl _ _).alloc (Nat.le_refl _) _⟩
/-- A new builder. -/
theorem HB.new (w : World) : HB w.heap.size [] (w.alloc (.cells #[.pointer none, .slice none 0 0] 54)) :=
  ⟨_, _, heap_alloc_new _ _, .inl rfl, World.ownsRow_nil _ _ _ _, fun _ => rfl⟩
def packed0 : ByteArray := ⟨#[71, 1, 1, 0, 210, 2, 239, 141]⟩
theorem packed0_eq : (⟨#[71, 1]⟩ : ByteArray) ++ ⟨(txt ⟨#[0]⟩).toArray⟩ ++ ⟨(M.be (sz 4) (u64 ((M.sum [0] : Nat) : Int))).toArray⟩ ++ ⟨#[]⟩ = packed0 := by decide +kernel
theorem HB.nil {b : Nat} {w : World} (h : w.heap[b]? = some (.cells #[.pointer none, .slice none 0 0] 54 (0, 0))) : HB b [] w :=
  ⟨_, _, h, .inl rfl, World.ownsRow_nil _ _ _ _, fun _ => rfl⟩
theorem txt0 : (⟨(txt ⟨#[0]⟩).toArray⟩ : ByteArray) = ⟨#[1, 0]⟩ := by decide +kernel
theorem sum0 : ((M.sum (⟨#[0]⟩ : ByteArray).data.toList : Nat) : Int) = 3523407757 := by decide +kernel
theorem put0 : (⟨(M.be (sz 4) (u64 3523407757)).toArray⟩ : ByteArray) = ⟨#[210, 2, 239, 141]⟩ := by decide +kernel
abbrev BO : Obj := .cells #[.pointer none, .slice none 0 0] 54
theorem leb0 : (⟨(M.leb (u64 0)).toArray⟩ : ByteArray) = ⟨#[0]⟩ := by decide +kernel
set_option maxRecDepth 100000 in
set_option maxHeartbeats 1000000 in
theorem pack_empty (w : World) : Calls Try.prog 7 #[.agg #[.slice none 0 0]] w fun e w' => e = .returned (.tuple #[.string packed0, .int .i64 0]) ∧ Below w.heap.size w w' := by
  go_enter Try.func7, Try.ntmps7
  go_wp2_with fail
  refine (valid_empty _).mono ?_
  rintro e w1 ⟨rfl, g1⟩
  have r1 : w1.heap[w.heap.size]? = some (.cells #[.slice none 0 0] 38 (0, 0)) := g1.block (heap_alloc_new _ _)
  have b1 : Below w.heap.size w w1 := ((Below.refl _ w).alloc (Nat.le_refl _) _).trans (Below.mono g1 (by simp))
  have lt1 : w.heap.size < w1.heap.size := (Array.getElem?_eq_some_iff.1 r1).1
  have r2 : ((w1.alloc BO).alloc BO).heap[w.heap.size]? = some (.cells #[.slice none 0 0] 38 (0, 0)) := by
    rw [Below.heap_alloc _ _ _ (by simp; omega), Below.heap_alloc _ _ _ lt1]; exact r1
  have c2 : ((w1.alloc BO).alloc BO).cell? ⟨w.heap.size, 0, none⟩ = some (.slice none 0 0) := by rw [cell_of_row _ _ 0 _ _ _ r2]; rfl
  have p1 : ((w1.alloc BO).alloc BO).heap[w1.heap.size]? = some BO := heap_alloc2_old _ _ _
  have p2 : ((w1.alloc BO).alloc BO).heap[w1.heap.size + 1]? = some BO := heap_alloc2_new _ _ _
  have b2 : Below w.heap.size w ((w1.alloc BO).alloc BO) := (b1.alloc (Nat.le_of_lt lt1) _).alloc (by simp; omega) _
  have sz2 : ((w1.alloc BO).alloc BO).heap.size = w1.heap.size + 2 := by simp
  replace r2 := Lib.hid r2
  replace p1 := Lib.hid p1
  replace p2 := Lib.hid p2
  replace b2 := Lib.hid b2
  replace sz2 := Lib.hid sz2
  clear g1 r1 b1
  go_wp2_with fail
  generalize ((w1.alloc BO).alloc BO) = W at *
  clear c2
  refine (var_any _ _).mono ?_
  rintro e w2 ⟨rfl, g2⟩
  rw [leb0]
  have hz := sz2.out
  have r3 : w2.heap[w.heap.size]? = some (.cells #[.slice none 0 0] 38 (0, 0)) := (g2.block _ (by omega)).trans r2.out
  have p3 : w2.heap[w1.heap.size]? = some BO := (g2.block _ (by omega)).trans p1.out
  have p4 : w2.heap[w1.heap.size + 1]? = some BO := (g2.block _ (by omega)).trans p2.out
  have b3 : Below w.heap.size w w2 := b2.out.trans (Below.mono g2 (by omega))
  have sz3 : w1.heap.size + 2 ≤ w2.heap.size := by have := g2.size; omega
  clear r2 p1 p2 b2 sz2 g2 hz
  replace r3 := Lib.hid r3
  replace p3 := Lib.hid p3
  replace p4 := Lib.hid p4
  replace b3 := Lib.hid b3
  replace sz3 := Lib.hid sz3
  go_wp2_with fail
  refine (wstr _ [] _ _ (HB.nil p3.out) (by decide)).mono ?_
  rintro e w3 ⟨rfl, hB, g3, k3⟩
  have r4 : w3.heap[w.heap.size]? = some (.cells #[.slice none 0 0] 38 (0, 0)) := (k3 _ _ _ _ r3.out (by decide) (by omega)).trans r3.out
  have p5 : w3.heap[w1.heap.size + 1]? = some BO := (k3 _ _ _ _ p4.out (by decide) (by omega)).trans p4.out
  have b4 : Below w.heap.size w w3 := b3.out.trans (Below.mono g3 (by omega))
  have c4 : w3.cell? ⟨w.heap.size, 0, none⟩ = some (.slice none 0 0) := by rw [cell_of_row _ _ 0 _ _ _ r4]; rfl
  clear r3 p3 p4 b3 g3 k3 r4 sz3
  replace hB := Lib.hid hB
  replace p5 := Lib.hid p5
  replace b4 := Lib.hid b4
  go_wp2_with fail
  refine wp_loop_rounds 1 ?_
  rw [rounds_succ]
  go_wp2_with fail
  refine (bstring _ _ _ hB.out.hf).mono ?_
  rintro e w4 ⟨rfl, hF, g4, k4⟩
  have p6 : w4.heap[w1.heap.size + 1]? = some BO := (k4 _ _ _ _ p5.out (by decide) (by omega)).trans p5.out
  have b5 : Below w.heap.size w w4 := b4.out.trans (Below.mono g4 (by omega))
  clear c4 hB p5 b4 hF g4 k4
  replace p6 := Lib.hid p6
  replace b5 := Lib.hid b5
  go_wp2_with fail
  refine (text_any _ _ (by decide)).mono ?_
  rintro e w5 ⟨rfl, g5⟩
  rw [txt0]
  have p7 : w5.heap[w1.heap.size + 1]? = some BO := (g5.block _ (Array.getElem?_eq_some_iff.1 p6.out).1).trans p6.out
  have b6 : Below w.heap.size w w5 := b5.out.trans (Below.mono g5 b5.out.size)
  clear p6 b5 g5
  replace p7 := Lib.hid p7
  replace b6 := Lib.hid b6
  go_wp2_with fail
  refine (sum_any _ _ (by decide)).mono ?_
  rintro e w6 ⟨rfl, g6⟩
  rw [sum0]
  have p8 : w6.heap[w1.heap.size + 1]? = some BO := (g6.block _ (Array.getElem?_eq_some_iff.1 p7.out).1).trans p7.out
  have b7 : Below w.heap.size w w6 := b6.out.trans (Below.mono g6 b6.out.size)
  clear p7 b6 g6
  replace p8 := Lib.hid p8
  replace b7 := Lib.hid b7
  go_wp2_with fail
  refine (put_any _ _ _).mono ?_
  rintro e w7 ⟨rfl, g7⟩
  rw [put0]
  have p9 : w7.heap[w1.heap.size + 1]? = some BO := (g7.block _ (Array.getElem?_eq_some_iff.1 p8.out).1).trans p8.out
  have b8 : Below w.heap.size w w7 := b7.out.trans (Below.mono g7 b7.out.size)
  clear p8 b7 g7
  replace p9 := Lib.hid p9
  replace b8 := Lib.hid b8
  go_wp2_with fail
  refine (bstring _ _ _ (HB.nil p9.out).hf).mono ?_
  rintro e w8 ⟨rfl, hF, g8, k8⟩
  have b9 : Below w.heap.size w w8 := b8.out.trans (Below.mono g8 (by omega))
  clear p9 b8 hF g8 k8
  replace b9 := Lib.hid b9
  go_wp2
  go_ret2
  exact ⟨rfl, b9.out⟩
end Go.Proofs.Ytpdckpifhniioaa.Oct
