/- The program's writer and the reference's side by side. -/
import Derived.Test.YtdepfgeomceiiaaLV
import Derived.Test.YtdepfgeomceiiaaQE
set_option linter.unusedVariables false
namespace Go.Proofs.Ytdepfgeomceiiaa
open Go.RowKit
theorem RW.lower {B B' g ro s l w} (h : RW B g ro s l w) (hB : B' ≤ B) : RW B' g ro s l w := by
  obtain ⟨X, x1, x2, x3⟩ := h.ex
  refine ⟨h.ok, Nat.le_trans hB h.bd, Nat.le_trans hB h.ge, X, x1, ?_, x3⟩
  obtain ⟨y1, y2⟩ := x2
  refine ⟨y1, y2.imp id ?_⟩
  rintro ⟨k, cap, cur, e1, e2, e3⟩
  exact ⟨k, cap, cur, e1, Nat.le_trans hB e2, e3⟩
/-- A writer of the program's and one of the reference's that share nothing. -/
structure WR (B ga gb : Nat) (sa : M.St) (la : List UInt8) (sb : M.St) (lb : List UInt8) (w : World) : Prop where
  ex : ∃ ro ro', WS B ga ro sa la w ∧ RW B gb ro' sb lb w ∧ (∀ k, ro = some k → ro' ≠ some k)
theorem WR.grow {B ga gb sa la sb lb w w'} (h : WR B ga gb sa la sb lb w) (hg : Grow w w') : WR B ga gb sa la sb lb w' := by
  obtain ⟨ro, ro', h1, h2, h3⟩ := h.ex
  exact ⟨ro, ro', h1.grow hg, h2.grow hg, h3⟩
theorem WR.apart {B ga gb ro ro' sa la sb lb w} (h1 : WS B ga ro sa la w) (h2 : RW B gb ro' sb lb w) : ga ≠ gb ∧ some gb ≠ ro ∧ some ga ≠ ro' := by
  obtain ⟨X, x1, x2, x3⟩ := h1.ex
  obtain ⟨Y, y1, y2, y3⟩ := h2.ex
  have n1 := h1.ne y1 (by decide) (by decide)
  have n2 := h2.ne x1 (by decide) (by decide)
  exact ⟨n2.1, n1.2, n2.2⟩
theorem WR.bitA {B ga gb sa la sb lb w} (h : WR B ga gb sa la sb lb w) (c b : Int) (hl : la.length + 4 ≤ 100000000) :
    Calls Try.prog 21 #[.pointer (some ⟨ga, 0, none⟩), .int .i64 c, .int .i64 b] w fun e w' => e = .returned (.tuple #[]) ∧ WR B ga gb (M.nxt sa (cx c) (b % 2)) (la ++ M.outB sa (cx c) (b % 2)) sb lb w' ∧ Below B w w' := by
  obtain ⟨ro, ro', h1, h2, h3⟩ := h.ex
  obtain ⟨n1, n2, n3⟩ := WR.apart h1 h2
  refine (bit_ws h1 c b hl).mono ?_
  rintro e w' ⟨rfl, ro1, k1, k2, k3⟩
  refine ⟨rfl, ⟨ro1, ro', k1, h2.keep k3 (Ne.symm n1) n2 (fun k e => ⟨fun e' => n3 (by rw [← e', e]), fun e' => h3 k e'.symm e⟩), ?_⟩, h1.below k3⟩
  intro k e e'
  rcases k2 with hn | ⟨k', hn, hk⟩
  · exact h3 k (by rw [← hn]; exact e) e'
  · rw [hn] at e
    have e := Option.some.inj e
    have := (h2.ro_ge k e').2
    omega
theorem WR.bitR {B ga gb sa la sb lb w} (h : WR B ga gb sa la sb lb w) (c b : Int) (hl : lb.length + 4 ≤ 100000000) :
    Calls Try.prog 22 #[.pointer (some ⟨gb, 0, none⟩), .int .i64 c, .int .i64 b] w fun e w' => e = .returned (.tuple #[]) ∧ WR B ga gb sa la (M.nxt sb (cx c) (b % 2)) (lb ++ M.outB sb (cx c) (b % 2)) w' ∧ Below B w w' := by
  obtain ⟨ro, ro', h1, h2, h3⟩ := h.ex
  obtain ⟨n1, n2, n3⟩ := WR.apart h1 h2
  refine (rbit_rw h2 c b hl).mono ?_
  rintro e w' ⟨rfl, ro1, k1, k2, k3⟩
  refine ⟨rfl, ⟨ro, ro1, h1.keep k3 n1 n3 (fun k e => ⟨fun e' => n2 (by rw [← e', e]), fun e' => h3 k e e'.symm⟩), k1, ?_⟩, h2.below k3⟩
  intro k e e'
  rcases k2 with hn | ⟨k', hn, hk⟩
  · exact h3 k e (by rw [← hn]; exact e')
  · rw [hn] at e'
    have e' := Option.some.inj e'
    have := (h1.ro_ge k e).2
    omega
/-- After i and j bits. -/
structure LB2 (K N : Nat → Int) (W : World) (ga gb i j : Nat) (w : World) : Prop where
  w2 : WR W.heap.size ga gb (M.runS M.start (sq K N 0 i)) (M.runO M.start (sq K N 0 i)) (M.runS M.start (sq K N 0 j)) (M.runO M.start (sq K N 0 j)) w
  below : Below W.heap.size W w
theorem LB2.grow {K N W ga gb i j w w'} (h : LB2 K N W ga gb i j w) (hg : Grow w w') : LB2 K N W ga gb i j w' := ⟨h.w2.grow hg, below_grow h.below h.below.size hg⟩
theorem LB2.bit {K N W ga gb i j w} (h : LB2 K N W ga gb i j w) (hi : i ≤ 1000) : Calls Try.prog 21 #[.pointer (some ⟨ga, 0, none⟩), .int .i64 (K i), .int .i64 (N i)] w.drew fun e x' => e = .returned (.tuple #[]) ∧ LB2 K N W ga gb (i + 1) j x' := by
  have hl := runO_sq_len K N i
  refine ((h.grow (Grow.drew w)).w2.bitA (K i) (N i) (by omega)).mono ?_
  rintro e x ⟨rfl, k1, k2⟩
  refine ⟨rfl, ?_, (h.grow (Grow.drew w)).below.trans k2⟩
  rw [runS_succ, runO_succ]; exact k1
theorem LB2.rbit {K N W ga gb i j w} (h : LB2 K N W ga gb i j w) (hi : j ≤ 1000) : Calls Try.prog 22 #[.pointer (some ⟨gb, 0, none⟩), .int .i64 (K j), .int .i64 (N j)] w.drew fun e x' => e = .returned (.tuple #[]) ∧ LB2 K N W ga gb i (j + 1) x' := by
  have hl := runO_sq_len K N j
  refine ((h.grow (Grow.drew w)).w2.bitR (K j) (N j) (by omega)).mono ?_
  rintro e x ⟨rfl, k1, k2⟩
  refine ⟨rfl, ?_, (h.grow (Grow.drew w)).below.trans k2⟩
  rw [runS_succ, runO_succ]; exact k1
theorem LB2.lw {K N W ga gb i j w} (h : LB2 K N W ga gb i j w) : LW K N W ga i w := by
  obtain ⟨ro, ro', h1, h2, h3⟩ := h.w2.ex
  exact ⟨⟨ro, h1⟩, h.below⟩
theorem LB2.rbytes {K N W ga gb i j w} (h : LB2 K N W ga gb i j w) (hj : j ≤ 1000) : Calls Try.prog 24 #[.pointer (some ⟨gb, 0, none⟩)] w fun e x' => e = .returned (.string (cd K N j)) ∧ Grow w x' := by
  obtain ⟨ro, ro', h1, h2, h3⟩ := h.w2.ex
  have hl := runO_sq_len K N j
  exact rbytes_rw h2 (by omega)
end Go.Proofs.Ytdepfgeomceiiaa
