/- Blocks whose cells are a function of the place; the coder's block; walks of high, mid (program and reference). -/
import Derived.Test.YtdepfgeomceiiaaM
import Derived.Test.YtdepfgeomceiiaaRw
import Derived.Test.YtdepfgeomceiiaaH
import Derived.IntWalk
import Derived.Laws.Bits128
import Derived.Laws.BitsAllLaws
set_option linter.unusedVariables false
namespace Go.Proofs.Ytdepfgeomceiiaa
open Go.RowKit
/-- n cells. -/
def cv (n : Nat) (C : Nat → Value) : Array Value := ((List.range n).map C).toArray
theorem cv_size (n : Nat) (C : Nat → Value) : (cv n C).size = n := by simp [cv]
theorem cv_at (n : Nat) (C : Nat → Value) (i : Nat) (h : i < n) : (cv n C)[i]? = some (C i) := by simp [cv, h]
theorem cv_none (n : Nat) (C : Nat → Value) (i : Nat) (h : n ≤ i) : (cv n C)[i]? = none := by simp [cv, h]
theorem cv_congr (n : Nat) (C D : Nat → Value) (h : ∀ i, i < n → C i = D i) : cv n C = cv n D := by
  unfold cv
  congr 1
  exact List.map_congr_left fun i hi => h i (by simpa using hi)
def vput (C : Nat → Value) (i : Nat) (v : Value) : Nat → Value := fun k => if k = i then v else C k
theorem cv_set (n : Nat) (C : Nat → Value) (i : Nat) (v : Value) : (cv n C).setIfInBounds i v = cv n (vput C i v) := by
  apply Array.ext_getElem?
  intro j
  rw [Array.getElem?_setIfInBounds]
  by_cases hj : j < n
  · have h1 := cv_at n C j hj
    have h2 := cv_at n (vput C i v) j hj
    by_cases e : i = j
    · subst e
      rw [if_pos rfl, if_pos (by rw [cv_size]; exact hj), h2]
      simp [vput]
    · rw [if_neg e, h1, h2]
      simp [vput, Ne.symm e]
  · have h1 := cv_none n C j (by omega)
    have h2 := cv_none n (vput C i v) j (by omega)
    by_cases e : i = j
    · subst e
      rw [if_pos rfl, if_neg (by rw [cv_size]; exact hj), h2]
    · rw [if_neg e, h1, h2]
/-- Block g holds the n cells C. -/
def Blk (w : World) (g : Nat) (t : TypeId) (n : Nat) (C : Nat → Value) : Prop := w.heap[g]? = some (.cells (cv n C) t (0, 0))
theorem Blk.lt {w g t n C} (h : Blk w g t n C) : g < w.heap.size := (Array.getElem?_eq_some_iff.1 h).1
theorem Blk.cell {w g t n C} (h : Blk w g t n C) (i : Nat) (hi : i < n) : w.cell? ⟨g, i, none⟩ = some (C i) := by
  rw [cell_of_row w g i _ _ _ h]; exact cv_at n C i hi
theorem Blk.free {w g t n C} (h : Blk w g t n C) (i : Nat) : w.frozen? ⟨g, i, none⟩ = false := frozen_of_row w g i _ _ h
theorem Blk.set {w g t n C} (h : Blk w g t n C) (i : Nat) (v : Value) : Blk (w.setCell ⟨g, i, none⟩ v) g t n (vput C i v) := by
  unfold Blk; rw [heap_setCell_same _ _ _ _ _ _ h, cv_set]
theorem Blk.other {w g t n C} (h : Blk w g t n C) (a : Addr) (v : Value) (hne : g ≠ a.block) : Blk (w.setCell a v) g t n C := by
  unfold Blk; rw [heap_setCell_other _ _ _ _ hne]; exact h
theorem Blk.grow {w w' g t n C} (h : Blk w g t n C) (hg : Grow w w') : Blk w' g t n C := hg.block h
theorem Blk.congr {w g t n C D} (h : Blk w g t n C) (he : ∀ i, i < n → C i = D i) : Blk w g t n D := by
  unfold Blk at h ⊢; rw [h, cv_congr n C D he]
theorem Blk.eq {w g t n C D} (h : Blk w g t n C) (k : Blk w g t n D) (i : Nat) (hi : i < n) : C i = D i := by
  have h1 := h.cell i hi
  rw [k.cell i hi] at h1
  exact (Option.some.inj h1).symm

/-- The cells of the program's coder; behind them those of X. -/
def cc (p : Nat → Int) (lo en : Int) (X : Nat → Value) : Nat → Value := fun i => if i < 256 then .int .i16 (p i - 2048) else if i = 256 then .int .u32 lo else if i = 257 then .int .u32 en else X i
/-- The cells of the reference's coder. -/
def cr (p : Nat → Int) (lo hi : Int) (X : Nat → Value) : Nat → Value := fun i => if i < 256 then .int .i64 (p i) else if i = 256 then .int .u32 lo else if i = 257 then .int .u32 hi else X i
theorem cc_p {p lo en X} (i : Nat) (h : i < 256) : cc p lo en X i = .int .i16 (p i - 2048) := by simp [cc, h]
theorem cc_lo {p lo en X} : cc p lo en X 256 = .int .u32 lo := by simp [cc]
theorem cc_en {p lo en X} : cc p lo en X 257 = .int .u32 en := by simp [cc]
theorem cc_x {p lo en X} (i : Nat) (h : 258 ≤ i) : cc p lo en X i = X i := by unfold cc; rw [if_neg (by omega), if_neg (by omega), if_neg (by omega)]
theorem cr_p {p lo en X} (i : Nat) (h : i < 256) : cr p lo en X i = .int .i64 (p i) := by simp [cr, h]
theorem cr_lo {p lo en X} : cr p lo en X 256 = .int .u32 lo := by simp [cr]
theorem cr_en {p lo en X} : cr p lo en X 257 = .int .u32 en := by simp [cr]
theorem cr_x {p lo en X} (i : Nat) (h : 258 ≤ i) : cr p lo en X i = X i := by unfold cr; rw [if_neg (by omega), if_neg (by omega), if_neg (by omega)]
theorem cc_put_p {p lo en X} (i : Nat) (h : i < 256) (v : Int) : vput (cc p lo en X) i (.int .i16 (v - 2048)) = cc (M.put p i v) lo en X := by
  funext k
  unfold vput cc M.put
  by_cases e : k = i
  · subst e; simp [h]
  · simp [e]
theorem cc_put_lo {p lo en X} (v : Int) : vput (cc p lo en X) 256 (.int .u32 v) = cc p v en X := by
  funext k
  unfold vput cc
  by_cases e : k = 256
  · subst e; simp
  · simp [e]
theorem cc_put_en {p lo en X} (v : Int) : vput (cc p lo en X) 257 (.int .u32 v) = cc p lo v X := by
  funext k
  unfold vput cc
  by_cases e : k = 257
  · subst e; simp
  · simp [e]
theorem cc_put_x {p lo en X} (i : Nat) (h : 258 ≤ i) (v : Value) : vput (cc p lo en X) i v = cc p lo en (vput X i v) := by
  funext k
  unfold vput cc
  by_cases e : k = i
  · subst e; simp [show ¬ k < 256 by omega, show k ≠ 256 by omega, show k ≠ 257 by omega]
  · simp [e]
theorem cr_put_p {p lo en X} (i : Nat) (h : i < 256) (v : Int) : vput (cr p lo en X) i (.int .i64 v) = cr (M.put p i v) lo en X := by
  funext k
  unfold vput cr M.put
  by_cases e : k = i
  · subst e; simp [h]
  · simp [e]
theorem cr_put_lo {p lo en X} (v : Int) : vput (cr p lo en X) 256 (.int .u32 v) = cr p v en X := by
  funext k
  unfold vput cr
  by_cases e : k = 256
  · subst e; simp
  · simp [e]
theorem cr_put_en {p lo en X} (v : Int) : vput (cr p lo en X) 257 (.int .u32 v) = cr p lo v X := by
  funext k
  unfold vput cr
  by_cases e : k = 257
  · subst e; simp
  · simp [e]
theorem cr_put_x {p lo en X} (i : Nat) (h : 258 ≤ i) (v : Value) : vput (cr p lo en X) i v = cr p lo en (vput X i v) := by
  funext k
  unfold vput cr
  by_cases e : k = i
  · subst e; simp [show ¬ k < 256 by omega, show k ≠ 256 by omega, show k ≠ 257 by omega]
  · simp [e]
theorem and_mask (n : Int) (k : Nat) (m : Int) (hk : k ≤ 8) (hm : (BitVec.ofInt 64 m).toNat = 2 ^ k - 1) : bits .and .i64 n m = n % (2 ^ k : Nat) := by
  have key : (BitVec.ofInt 64 n &&& BitVec.ofInt 64 m).toNat = (n % ((2 ^ 64 : Nat) : Int)).toNat % 2 ^ k := by
    rw [BitVec.toNat_and, BitVec.toNat_ofInt, hm, Nat.and_two_pow_sub_one_eq_mod]
  show IntKind.i64.wrap ((BitVec.ofInt 64 n &&& BitVec.ofInt 64 m).toNat : Nat) = n % (2 ^ k : Nat)
  rw [key, IntKind.wrap_i64]
  have h2 : 2 ^ k ≤ 2 ^ 8 := Nat.pow_le_pow_right (by omega) hk
  obtain rfl | rfl | rfl | rfl | rfl | rfl | rfl | rfl | rfl : k = 0 ∨ k = 1 ∨ k = 2 ∨ k = 3 ∨ k = 4 ∨ k = 5 ∨ k = 6 ∨ k = 7 ∨ k = 8 := by omega
  all_goals omega
theorem and_255 (n : Int) : bits .and .i64 n 255 = n % 256 := and_mask n 8 255 (by omega) (by decide)
theorem and_1 (n : Int) : bits .and .i64 n 1 = n % 2 := and_mask n 1 1 (by omega) (by decide)
theorem not_nat (c : Nat) (h : c < 4294967296) : 4294967295 ^^^ c = 4294967295 - c := by
  apply Nat.eq_of_testBit_eq
  intro i
  have h1 := Nat.testBit_two_pow_sub_succ (x := c) (n := 32) h i
  have h2 := Nat.testBit_two_pow_sub_one 32 i
  rw [show 4294967295 - c = 2 ^ 32 - (c + 1) by omega, h1, Nat.testBit_xor, show (4294967295 : Nat) = 2 ^ 32 - 1 from rfl, h2]
  by_cases hi : i < 32
  · simp [hi]
  · have : c.testBit i = false := Nat.testBit_lt_two_pow (Nat.lt_of_lt_of_le (show c < 2 ^ 32 from h) (Nat.pow_le_pow_right (by omega) (by omega : 32 ≤ i)))
    simp [hi, this]
theorem not_u32 (x : Int) (h0 : 0 ≤ x) (h1 : x ≤ 4294967295) : bits .xor .u32 IntKind.u32.max x = 4294967295 - x := by
  obtain ⟨c, rfl⟩ : ∃ c : Nat, x = c := ⟨x.toNat, by omega⟩
  have h := u32_xor_nat 4294967295 c (by omega) (by omega)
  rw [not_nat c (by omega)] at h
  have e : ((4294967295 - c : Nat) : Int) = 4294967295 - (c : Int) := by omega
  rw [← e]; exact h
theorem w32 (n : Int) (h0 : 0 ≤ n) (h1 : n ≤ 4294967295) : IntKind.u32.wrap n = n := by rw [IntKind.wrap_u32]; omega
set_option maxRecDepth 100000 in
theorem high_any (g : Nat) (hi : Int) (h0 : 0 ≤ hi) (h1 : hi ≤ 4294967295) (w : World) (hc : w.cell? ⟨g, 257, none⟩ = some (.int .u32 (4294967295 - hi))) :
    Calls Try.prog 45 #[.pointer (some ⟨g, 0, none⟩)] w fun e w' => e = .returned (.int .u32 hi) ∧ w = w' := by
  have hn := not_u32 (4294967295 - hi) (by omega) (by omega)
  rw [show 4294967295 - (4294967295 - hi) = hi by omega] at hn
  go_enter Try.func45, Try.ntmps45
  go_wp2
  go_ret
  exact ⟨rfl, rfl⟩
/-- The place of a context. -/
def cx (c : Int) : Nat := (c % 256).toNat
theorem cx_lt (c : Int) : cx c < 256 := by unfold cx; omega
theorem cx_val (c : Int) : ((cx c : Nat) : Int) = c % 256 := by unfold cx; omega
set_option maxRecDepth 100000 in
set_option maxHeartbeats 1000000 in
theorem mid_any (g : Nat) (s : M.St) (hs : M.Ok s) (c : Int) (w : World) (hp : w.cell? ⟨g, cx c, none⟩ = some (.int .i16 (s.p (cx c) - 2048))) (hl : w.cell? ⟨g, 256, none⟩ = some (.int .u32 s.lo)) (he : w.cell? ⟨g, 257, none⟩ = some (.int .u32 (4294967295 - s.hi))) :
    Calls Try.prog 41 #[.pointer (some ⟨g, 0, none⟩), .int .i64 c] w fun e w' => e = .returned (.int .u32 (M.md s (cx c))) ∧ ∃ n, w' = w.drewN n := by
  obtain ⟨p1, p2⟩ := hs.p (cx c)
  obtain ⟨m1, m2⟩ := M.md_bd hs (cx c)
  have l0 := hs.lo
  have le := hs.le
  have l1 := hs.hi
  have hm : M.md s (cx c) = s.lo + (s.hi - s.lo) / 4096 * s.p (cx c) := rfl
  rw [hm]
  clear hm
  have ha := and_255 c
  rw [← cx_val] at ha
  have hk := cx_lt c
  have HI := Lib.hid (high_any g s.hi (by omega) l1)
  clear hs
  go_enter Try.func41, Try.ntmps41
  go_wp2
  refine q_region (C := fun x => ∃ n, x = w.drewN n) (by kernel_rfl) (by kernel_rfl) ⟨1, rfl⟩ ?_
  repeat (first
    | go_big_quiet_skip
    | (go_big_quiet_want; refine q_val ?_; apply Exists.intro; refine ⟨fun x hx => ?_, ?_⟩; (focus (obtain ⟨n, rfl⟩ := hx; go_simp <;> rfl)); simp only [Act.put, List.setIfInBounds_toArray, List.set_cons_zero, List.set_cons_succ]; go_big_quiet_on)
    | (go_big_quiet_want; refine q_call 45 ?_; apply Exists.intro; refine ⟨fun x hx => ?_, ?_⟩; (focus (go_simp <;> rfl)); apply Exists.intro; refine ⟨fun x hx => ?_, ?_⟩; (focus (obtain ⟨n, rfl⟩ := hx; exact (HI.out (w.drewN n) he).mono fun e w' h => ⟨h.1, n, h.2.symm⟩)); simp only [Act.put, List.setIfInBounds_toArray, List.set_cons_zero, List.set_cons_succ]; go_big_quiet_on))
  refine wpQuiet_nil ?_
  rintro x ⟨n, rfl⟩
  go_wp2
  go_ret
  refine ⟨ret_int ?_, n, rfl⟩
  have e1 : (s.hi - s.lo).tdiv 4096 = (s.hi - s.lo) / 4096 := Int.tdiv_eq_ediv_of_nonneg (by omega)
  have e2 : 0 ≤ (s.hi - s.lo) / 4096 ∧ (s.hi - s.lo) / 4096 ≤ 4294967295 := by omega
  show IntKind.u32.wrap (s.lo + IntKind.u32.wrap (IntKind.u32.wrap ((IntKind.u32.wrap (s.hi - s.lo)).tdiv 4096) * s.p (cx c))) = _
  rw [w32 (s.hi - s.lo) (by omega) (by omega), e1, w32 ((s.hi - s.lo) / 4096) (by omega) (by omega), w32 ((s.hi - s.lo) / 4096 * s.p (cx c)) (by omega) (by omega), w32 _ (by omega) (by omega)]
end Go.Proofs.Ytdepfgeomceiiaa
