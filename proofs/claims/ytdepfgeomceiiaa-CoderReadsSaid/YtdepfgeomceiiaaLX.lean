/- Nil writers and readers; zero values; two writers and two readers side by side. -/
import Derived.Test.YtdepfgeomceiiaaLW
set_option linter.unusedVariables false
namespace Go.Proofs.Ytdepfgeomceiiaa
open Go.RowKit
set_option maxRecDepth 100000 in
theorem bit_nil (c b : Int) (w : World) : Calls Try.prog 21 #[.pointer none, .int .i64 c, .int .i64 b] w fun e w' => e = .returned (.tuple #[]) ∧ Grow w w' := by
  go_enter Try.func21, Try.ntmps21
  go_wp2
  refine bodyPost_ret (results_none rfl _ _ _) rfl ⟨rfl, Grow.alloc _ _⟩
set_option maxRecDepth 100000 in
theorem bytes_nil (w : World) : Calls Try.prog 23 #[.pointer none] w fun e w' => e = .returned (.string ⟨#[]⟩) ∧ w' = w := by
  go_enter Try.func23, Try.ntmps23
  go_wp2
  go_ret
  exact ⟨rfl, rfl⟩
set_option maxRecDepth 100000 in
theorem rbit_nil (c : Int) (w : World) : Calls Try.prog 28 #[.pointer none, .int .i64 c] w fun e w' => e = .returned (.int .i64 0) ∧ w' = w := by
  go_enter Try.func28, Try.ntmps28
  go_wp2
  go_ret
  exact ⟨rfl, rfl⟩
set_option maxRecDepth 100000 in
theorem used_nil (w : World) : Calls Try.prog 27 #[.pointer none] w fun e w' => e = .returned (.int .i64 0) ∧ w' = w := by
  go_enter Try.func27, Try.ntmps27
  go_wp2
  go_ret
  exact ⟨rfl, rfl⟩
/-- The states of a reader of f over the contexts K. -/
def rst (f : ByteArray) (K : Nat → Int) : Nat → M.St × Nat
  | 0 => (M.start, 0)
  | i + 1 => (M.nxt (rst f K i).1 (cx (K i)) (nb f (rst f K i).2 (rst f K i).1 (K i)), (rst f K i).2 + (M.outB (rst f K i).1 (cx (K i)) (nb f (rst f K i).2 (rst f K i).1 (K i))).length)
theorem rst_le (f : ByteArray) (K : Nat → Int) : ∀ i, (rst f K i).2 ≤ 4 * i
  | 0 => Nat.le_refl _
  | i + 1 => by
    have h := rst_le f K i
    have h2 := M.outB_len (rst f K i).1 (cx (K i)) (nb f (rst f K i).2 (rst f K i).1 (K i))
    show (rst f K i).2 + (M.outB _ _ _).length ≤ _
    omega
def rbt (f : ByteArray) (K : Nat → Int) (i : Nat) : Int := nb f (rst f K i).2 (rst f K i).1 (K i)
/-- A reader of f after i contexts. -/
def RK (g : Nat) (f : ByteArray) (K : Nat → Int) (i : Nat) (w : World) : Prop := RS g f (rst f K i).2 (rst f K i).1 w
theorem RK.bit {g f K i w} (h : RK g f K i w) (hi : i ≤ 1000) (hf : f.size ≤ 1000000000000000) : Calls Try.prog 28 #[.pointer (some ⟨g, 0, none⟩), .int .i64 (K i)] w fun e w' => e = .returned (.int .i64 (rbt f K i)) ∧ RK g f K (i + 1) w' ∧ Chg g none w w' :=
  bit_rs h (K i) (by have := rst_le f K i; omega) hf
theorem RK.used {g f K i w} (h : RK g f K i w) : Calls Try.prog 27 #[.pointer (some ⟨g, 0, none⟩)] w fun e w' => e = .returned (.int .i64 (((rst f K i).2 + 4 : Nat) : Int)) ∧ w = w' := used_rs h
/-- Two writers and two readers that share nothing. -/
structure L4 (K N : Nat → Int) (W : World) (ga gb ge gr i j k l : Nat) (w : World) : Prop where
  w2 : W2 W.heap.size ga gb (M.runS M.start (sq K N 0 i)) (M.runO M.start (sq K N 0 i)) (M.runS M.start (sq K N 0 j)) (M.runO M.start (sq K N 0 j)) w
  re : RK ge ⟨#[]⟩ K k w
  rr : RK gr ⟨#[]⟩ K l w
  ne : ge ≠ gr
  g1 : W.heap.size ≤ ge
  g2 : W.heap.size ≤ gr
  below : Below W.heap.size W w
theorem RS.ty {g f m s w} (h : RS g f m s w) : ∃ c, w.heap[g]? = some (.cells c 70 (0, 0)) := by
  obtain ⟨n, _, x⟩ := h.ex
  exact ⟨_, x⟩
theorem L4.swap {K N W ga gb ge gr i j k l w} (h : L4 K N W ga gb ge gr i j k l w) : L4 K N W gb ga ge gr j i k l w := ⟨h.w2.swap, h.re, h.rr, h.ne, h.g1, h.g2, h.below⟩
theorem L4.flip {K N W ga gb ge gr i j k l w} (h : L4 K N W ga gb ge gr i j k l w) : L4 K N W ga gb gr ge i j l k w := ⟨h.w2, h.rr, h.re, Ne.symm h.ne, h.g2, h.g1, h.below⟩
theorem L4.grow {K N W ga gb ge gr i j k l w w'} (h : L4 K N W ga gb ge gr i j k l w) (hg : Grow w w') : L4 K N W ga gb ge gr i j k l w' :=
  ⟨h.w2.grow hg, RS.grow h.re hg, RS.grow h.rr hg, h.ne, h.g1, h.g2, below_grow h.below h.below.size hg⟩
theorem W2.chgR {B ga gb sa la sb lb w w' g} (h : W2 B ga gb sa la sb lb w) (hc : Chg g none w w') {c} (hg : w.heap[g]? = some (.cells c 70 (0, 0))) : W2 B ga gb sa la sb lb w' := by
  obtain ⟨ro, ro', h1, h2, h3⟩ := h.ex
  have n1 := h1.ne hg (by decide) (by decide)
  have n2 := h2.ne hg (by decide) (by decide)
  refine ⟨⟨ro, ro', h1.keep hc (Ne.symm n1.1) (by simp) (fun k e => ⟨fun e' => n1.2 (by rw [← e', e]), by simp⟩), h2.keep hc (Ne.symm n2.1) (by simp) (fun k e => ⟨fun e' => n2.2 (by rw [← e', e]), by simp⟩), h3⟩, h.ne⟩
theorem L4.bit {K N W ga gb ge gr i j k l w} (h : L4 K N W ga gb ge gr i j k l w) (hi : i ≤ 1000) : Calls Try.prog 21 #[.pointer (some ⟨ga, 0, none⟩), .int .i64 (K i), .int .i64 (N i)] w.drew fun e x' => e = .returned (.tuple #[]) ∧ L4 K N W ga gb ge gr (i + 1) j k l x' := by
  have hl := runO_sq_len K N i
  have hD := h.grow (Grow.drew w)
  obtain ⟨ro, ro', h1, h2, h3⟩ := hD.w2.ex
  refine (bit_ws h1 (K i) (N i) (by omega)).mono ?_
  rintro e x ⟨rfl, ro1, k1, k2, k3⟩
  obtain ⟨c1, y1⟩ := RS.ty hD.re
  obtain ⟨c2, y2⟩ := RS.ty hD.rr
  have n1 := h1.ne y1 (by decide) (by decide)
  have n2 := h1.ne y2 (by decide) (by decide)
  refine ⟨rfl, ?_, RS.keep hD.re k3 n1.1 n1.2, RS.keep hD.rr k3 n2.1 n2.2, h.ne, h.g1, h.g2, hD.below.trans (h1.below k3)⟩
  rw [runS_succ, runO_succ]
  exact W2.chg ⟨ro', h2, h3⟩ h.w2.ne h1 k1 k2 k3
theorem L4.rbit {K N W ga gb ge gr i j k l w} (h : L4 K N W ga gb ge gr i j k l w) (hk : k ≤ 1000) : Calls Try.prog 28 #[.pointer (some ⟨ge, 0, none⟩), .int .i64 (K k)] w fun e x' => e = .returned (.int .i64 (rbt ⟨#[]⟩ K k)) ∧ L4 K N W ga gb ge gr i j (k + 1) l x' := by
  refine (h.re.bit hk (by decide)).mono ?_
  rintro e x ⟨rfl, k1, k2⟩
  obtain ⟨c1, y1⟩ := RS.ty h.re
  exact ⟨rfl, h.w2.chgR k2 y1, k1, RS.keep h.rr k2 (Ne.symm h.ne) (by simp), h.ne, h.g1, h.g2, h.below.trans (k2.below h.g1 (by simp) h.below.size)⟩
theorem L4.lw {K N W ga gb ge gr i j k l w} (h : L4 K N W ga gb ge gr i j k l w) : LW K N W ga i w := ⟨h.w2.left, h.below⟩
end Go.Proofs.Ytdepfgeomceiiaa
