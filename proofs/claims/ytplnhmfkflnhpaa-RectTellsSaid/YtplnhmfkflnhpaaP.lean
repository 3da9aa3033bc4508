/- Walks of layer 3 (rect): the parts of a difference, an iterator. -/
import Derived.RangeFuncNested
import Derived.RangeFuncBound
import Derived.RangeFuncCalls
import Derived.RangeFuncLeaves
import Derived.Shelf.Abstract
import Derived.Shelf.RegionOpen
import Derived.WalkKit
import Derived.OwnWalkIn
import Derived.TacticsInMore
import Derived.LoopNIn
import Derived.LoopIn
import Derived.Test.YtplnhmfkflnhpaaBase
import Derived.Test.YtplnhmfkflnhpaaM
set_option linter.unusedVariables false
namespace Go.Proofs.Ytplnhmfkflnhpaa
open Go.RowKit Go.Shelf
attribute [local go_sem] Oper.semAt_some

/-- A rectangle's cells. -/
def rc (r : R) : Array Value := #[.int .i64 r.x0, .int .i64 r.y0, .int .i64 r.x1, .int .i64 r.y1]
/-- The parts of a above, below, left and right of i. -/
def partsL (a i : R) : List R := [⟨a.x0, a.y0, a.x1, i.y0⟩, ⟨a.x0, i.y1, a.x1, a.y1⟩, ⟨a.x0, i.y0, i.x0, i.y1⟩, ⟨i.x1, i.y0, a.x1, i.y1⟩]
def BoxR (W : World) (b : Nat) (r : R) : Prop := W.heap[b]? = some (.cells #[.int .i64 r.x0, .int .i64 r.y0, .int .i64 r.x1, .int .i64 r.y1] 26 (0, 0))
theorem BoxR.lt {W : World} {b : Nat} {r : R} (h : BoxR W b r) : b < W.heap.size := (Array.getElem?_eq_some_iff.1 h).1
theorem BoxR.c0 {W : World} {b : Nat} {r : R} (h : BoxR W b r) : W.cell? ⟨b, 0, none⟩ = some (.int .i64 r.x0) := by simp [World.cell?, show W.heap[b]? = _ from h]
theorem BoxR.c1 {W : World} {b : Nat} {r : R} (h : BoxR W b r) : W.cell? ⟨b, 1, none⟩ = some (.int .i64 r.y0) := by simp [World.cell?, show W.heap[b]? = _ from h]
theorem BoxR.c2 {W : World} {b : Nat} {r : R} (h : BoxR W b r) : W.cell? ⟨b, 2, none⟩ = some (.int .i64 r.x1) := by simp [World.cell?, show W.heap[b]? = _ from h]
theorem BoxR.c3 {W : World} {b : Nat} {r : R} (h : BoxR W b r) : W.cell? ⟨b, 3, none⟩ = some (.int .i64 r.y1) := by simp [World.cell?, show W.heap[b]? = _ from h]
/-- Two blocks lie as they lay. -/
def Keep (b1 b2 : Nat) (W W' : World) : Prop := W'.heap[b1]? = W.heap[b1]? ∧ W'.heap[b2]? = W.heap[b2]?
theorem Keep.trans {b1 b2 : Nat} {A B C : World} (h : Keep b1 b2 A B) (k : Keep b1 b2 B C) : Keep b1 b2 A C := ⟨k.1.trans h.1, k.2.trans h.2⟩
theorem BoxR.keep1 {W W' : World} {b1 b2 : Nat} {r : R} (h : BoxR W b1 r) (hk : Keep b1 b2 W W') : BoxR W' b1 r := hk.1.trans h
theorem BoxR.keep2 {W W' : World} {b1 b2 : Nat} {r : R} (h : BoxR W b2 r) (hk : Keep b1 b2 W W') : BoxR W' b2 r := hk.2.trans h
theorem BoxR.below {W W' : World} {n₀ b : Nat} {r : R} (h : BoxR W b r) (hb : b < n₀) (hB : Below n₀ W W') : BoxR W' b r := (hB.block b hb).trans h

set_option maxRecDepth 100000 in
set_option maxHeartbeats 2000000 in
theorem parts1_in (F : Fence) (n : Nat) (h6 : F.fn 62) (hro : F.round = none) (hn : 1 ≤ n) (l b1 b2 : Nat) (a i : R) (J Jx : List R → World → Prop)
    (hY : ∀ pre x W, J pre W → pre.length < 4 → YieldAt F (n - 1) Try.prog l #[.agg #[.int .i64 x.x0, .int .i64 x.y0, .int .i64 x.x1, .int .i64 x.y1]] W fun e W' =>
      (e = .returned (.bool true) ∧ J (pre ++ [x]) W' ∧ Keep b1 b2 W W') ∨ (e = .returned (.bool false) ∧ Jx (pre ++ [x]) W'))
    (W : World) (hA : BoxR W b1 a) (hI : BoxR W b2 i) (h0 : J [] W) :
    CallsIn F n Try.prog 62 #[.func (.yield l) #[] #[], .pointer (some ⟨b1, 0, none⟩), .pointer (some ⟨b2, 0, none⟩)] W fun e W' => (∃ v, e = .returned v) ∧
      ((∃ ys, ys = partsL a i ∧ J ys W') ∨ (∃ pre, pre <+: partsL a i ∧ Jx pre W')) := by
  refine callsIn_of_wp Try.func62 rfl h6 ?_ hro
  simp only [Try.ntmps62, List.size_toArray, List.length_cons, List.length_nil, Nat.reduceAdd, Nat.reduceSub, Array.replicate_succ, Array.replicate_zero, List.push_toArray, List.append_toArray, List.nil_append, List.cons_append]
  have a0 := hA.c0
  have a1 := hA.c1
  have a2 := hA.c2
  have a3 := hA.c3
  have i0 := hI.c0
  have i1 := hI.c1
  have i2 := hI.c2
  have i3 := hI.c3
  obtain ⟨fn, tmps, assign, body, hy0, hR0⟩ := hY [] ⟨a.x0, a.y0, a.x1, i.y0⟩ W h0 (by simp)
  dsimp only at hy0
  gi_wp2
  refine hR0.mono ?_
  rintro e W1 (⟨rfl, hJ1, hk1⟩ | ⟨rfl, hJx1⟩)
  · have hA1 := hA.keep1 hk1
    have hI1 := hI.keep2 hk1
    have a10 := hA1.c0
    have i10 := hI1.c0
    have a11 := hA1.c1
    have i11 := hI1.c1
    have a12 := hA1.c2
    have i12 := hI1.c2
    have a13 := hA1.c3
    have i13 := hI1.c3
    obtain ⟨fn, tmps, assign, body, hy1, hR1⟩ := hY [⟨a.x0, a.y0, a.x1, i.y0⟩] ⟨a.x0, i.y1, a.x1, a.y1⟩ W1 hJ1 (by simp)
    dsimp only at hy1
    gi_wp2
    refine hR1.mono ?_
    rintro e W2 (⟨rfl, hJ2, hk2⟩ | ⟨rfl, hJx2⟩)
    · have hA2 := hA1.keep1 hk2
      have hI2 := hI1.keep2 hk2
      have a20 := hA2.c0
      have i20 := hI2.c0
      have a21 := hA2.c1
      have i21 := hI2.c1
      have a22 := hA2.c2
      have i22 := hI2.c2
      have a23 := hA2.c3
      have i23 := hI2.c3
      obtain ⟨fn, tmps, assign, body, hy2, hR2⟩ := hY [⟨a.x0, a.y0, a.x1, i.y0⟩, ⟨a.x0, i.y1, a.x1, a.y1⟩] ⟨a.x0, i.y0, i.x0, i.y1⟩ W2 hJ2 (by simp)
      dsimp only at hy2
      gi_wp2
      refine hR2.mono ?_
      rintro e W3 (⟨rfl, hJ3, hk3⟩ | ⟨rfl, hJx3⟩)
      · have hA3 := hA2.keep1 hk3
        have hI3 := hI2.keep2 hk3
        have a30 := hA3.c0
        have i30 := hI3.c0
        have a31 := hA3.c1
        have i31 := hI3.c1
        have a32 := hA3.c2
        have i32 := hI3.c2
        have a33 := hA3.c3
        have i33 := hI3.c3
        obtain ⟨fn, tmps, assign, body, hy3, hR3⟩ := hY [⟨a.x0, a.y0, a.x1, i.y0⟩, ⟨a.x0, i.y1, a.x1, a.y1⟩, ⟨a.x0, i.y0, i.x0, i.y1⟩] ⟨i.x1, i.y0, a.x1, i.y1⟩ W3 hJ3 (by simp)
        dsimp only at hy3
        gi_wp2
        refine hR3.mono ?_
        rintro e W4 (⟨rfl, hJ4, hk4⟩ | ⟨rfl, hJx4⟩)
        · gi_wp2
          go_end0
          exact ⟨⟨_, rfl⟩, .inl ⟨_, rfl, hJ4⟩⟩
        · gi_wp2
          go_end0
          exact ⟨⟨_, rfl⟩, .inr ⟨[⟨a.x0, a.y0, a.x1, i.y0⟩, ⟨a.x0, i.y1, a.x1, a.y1⟩, ⟨a.x0, i.y0, i.x0, i.y1⟩, ⟨i.x1, i.y0, a.x1, i.y1⟩], ⟨[], rfl⟩, hJx4⟩⟩
      · gi_wp2
        repeat (refine ⟨fun _ h => (by cases h), ?_⟩; gi_wp2)
        go_end0
        exact ⟨⟨_, rfl⟩, .inr ⟨[⟨a.x0, a.y0, a.x1, i.y0⟩, ⟨a.x0, i.y1, a.x1, a.y1⟩, ⟨a.x0, i.y0, i.x0, i.y1⟩], ⟨[⟨i.x1, i.y0, a.x1, i.y1⟩], rfl⟩, hJx3⟩⟩
    · gi_wp2
      repeat (refine ⟨fun _ h => (by cases h), ?_⟩; gi_wp2)
      go_end0
      exact ⟨⟨_, rfl⟩, .inr ⟨[⟨a.x0, a.y0, a.x1, i.y0⟩, ⟨a.x0, i.y1, a.x1, a.y1⟩], ⟨[⟨a.x0, i.y0, i.x0, i.y1⟩, ⟨i.x1, i.y0, a.x1, i.y1⟩], rfl⟩, hJx2⟩⟩
  · gi_wp2
    repeat (refine ⟨fun _ h => (by cases h), ?_⟩; gi_wp2)
    go_end0
    exact ⟨⟨_, rfl⟩, .inr ⟨[⟨a.x0, a.y0, a.x1, i.y0⟩], ⟨[⟨a.x0, i.y1, a.x1, a.y1⟩, ⟨a.x0, i.y0, i.x0, i.y1⟩, ⟨i.x1, i.y0, a.x1, i.y1⟩], rfl⟩, hJx1⟩⟩

set_option maxHeartbeats 1000000 in
theorem parts_in (F : Fence) (n : Nat) (h5 : F.fn 50) (hro : F.round = none) (a i : R) (w : World) :
    CallsIn F n Try.prog 50 #[.agg #[.int .i64 a.x0, .int .i64 a.y0, .int .i64 a.x1, .int .i64 a.y1], .agg #[.int .i64 i.x0, .int .i64 i.y0, .int .i64 i.x1, .int .i64 i.y1]] w fun e w' => e = .returned (.func (.func 62) #[] #[.pointer (some ⟨w.heap.size, 0, none⟩), .pointer (some ⟨w.heap.size + 1, 0, none⟩)]) ∧ w' = (w.alloc (.cells #[.int .i64 a.x0, .int .i64 a.y0, .int .i64 a.x1, .int .i64 a.y1] 26)).alloc (.cells #[.int .i64 i.x0, .int .i64 i.y0, .int .i64 i.x1, .int .i64 i.y1] 26) := by
  refine callsIn_of_wp Try.func50 rfl h5 ?_ hro
  simp only [Try.ntmps50, List.size_toArray, List.length_cons, List.length_nil, Nat.reduceAdd, Nat.reduceSub, Array.replicate_succ, Array.replicate_zero, List.push_toArray, List.append_toArray, List.nil_append, List.cons_append]
  gi_wp2
  go_ret
  exact ⟨rfl, rfl⟩

theorem parts_stops (F : Fence) (n : Nat) (h6 : F.fn 62) (hro : F.round = none) (hn : 1 ≤ n) (b1 b2 : Nat) (a i : R) (w : World)
    (hA : BoxR w b1 a) (hI : BoxR w b2 i) :
    SeqStopsK F n Try.prog 62 #[.pointer (some ⟨b1, 0, none⟩), .pointer (some ⟨b2, 0, none⟩)] (fun x : R => #[.agg #[.int .i64 x.x0, .int .i64 x.y0, .int .i64 x.x1, .int .i64 x.y1]]) (Keep b1 b2) (fun ys => ys = partsL a i) (fun pre => pre <+: partsL a i) 4 w := fun l J Jx W hW _ _ hY h0 =>
  parts1_in F n h6 hro hn l b1 b2 a i J Jx hY W (hA.below hA.lt hW) (hI.below hI.lt hW) h0
end Go.Proofs.Ytplnhmfkflnhpaa
