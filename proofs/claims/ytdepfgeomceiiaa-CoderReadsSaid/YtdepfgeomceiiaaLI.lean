/- CoderReads: the walk. Printed by genRd.py. -/
import Derived.Test.YtdepfgeomceiiaaLX
import Derived.Test.YtdepfgeomceiiaaLA
import Derived.Test.YtdepfgeomceiiaaQI
set_option linter.unusedVariables false
namespace Go.Proofs.Ytdepfgeomceiiaa
open Go.RowKit
/-- A reader of the program's and one of the reference's after i and j contexts. -/
structure LRR (f : ByteArray) (K : Nat → Int) (W : World) (ga gb i j : Nat) (w : World) : Prop where
  re : RK ga f K i w
  rr : RR gb f (rst f K j).2 (rst f K j).1 w
  g1 : W.heap.size ≤ ga
  g2 : W.heap.size ≤ gb
  below : Below W.heap.size W w
theorem LRR.ne {f K W ga gb i j w} (h : LRR f K W ga gb i j w) : ga ≠ gb := by
  obtain ⟨c, hc⟩ := RS.ty h.re
  exact blk_ne h.rr.blk hc (by decide)
theorem LRR.grow {f K W ga gb i j w w'} (h : LRR f K W ga gb i j w) (hg : Grow w w') : LRR f K W ga gb i j w' := ⟨RS.grow h.re hg, h.rr.grow hg, h.g1, h.g2, below_grow h.below h.below.size hg⟩
theorem LRR.bit {f K W ga gb i j w} (h : LRR f K W ga gb i j w) (hi : i ≤ 1000) (hf : f.size ≤ 1000000) : Calls Try.prog 28 #[.pointer (some ⟨ga, 0, none⟩), .int .i64 (K i)] w fun e w' => e = .returned (.int .i64 (rbt f K i)) ∧ LRR f K W ga gb (i + 1) j w' := by
  refine (h.re.bit hi (by omega)).mono ?_
  rintro e x ⟨rfl, k1, k2⟩
  exact ⟨rfl, k1, h.rr.keep k2 (Ne.symm h.ne) (by simp), h.g1, h.g2, h.below.trans (k2.below h.g1 (by simp) h.below.size)⟩
theorem LRR.rbit {f K W ga gb i j w} (h : LRR f K W ga gb i j w) (hj : j ≤ 1000) (hf : f.size ≤ 1000000) : Calls Try.prog 29 #[.pointer (some ⟨gb, 0, none⟩), .int .i64 (K j)] w fun e w' => e = .returned (.int .i64 (rbt f K j)) ∧ LRR f K W ga gb i (j + 1) w' := by
  refine (rbit_rr h.rr (K j) (by have := rst_le f K j; omega) (by omega)).mono ?_
  rintro e x ⟨rfl, k1, k2⟩
  exact ⟨rfl, RS.keep h.re k2 h.ne (by simp), k1, h.g1, h.g2, h.below.trans (k2.below h.g2 (by simp) h.below.size)⟩
namespace coderReads
set_option maxRecDepth 100000 in
set_option maxHeartbeats 4000000 in
theorem walk (f : ByteArray) (o : Option Addr) (zs : List Int) (n c : Nat) (W : World) (hf : f.size ≤ 140737488351232) (zb : n * 8 ≤ 140737488351232) (zl : zs.length = n) (zc : n ≤ c)
    (zh : ∀ i (h : i < zs.length), ∃ a, o = some a ∧ a.block < W.heap.size ∧ W.cell? (a.add i) = some (.int .i64 zs[i])) (zw : ∀ z ∈ zs, (Lit.int .i64 z).wf = true) :
    Calls Try.prog 7 #[.string f, .slice o n c] W fun e w' => e = .returned (.bool true) ∧ Below W.heap.size W w' := by
  obtain ⟨K, hK⟩ : ∃ K : Nat → Int, ∀ i (h : i < zs.length), zs[i] = K i := ⟨fun i => zs.getD i 0, fun i h => by dsimp only; rw [List.getD_eq_getElem?_getD, List.getElem?_eq_getElem h]; rfl⟩
  have zh2 : ∀ i, i < n → ∃ a, o = some a ∧ a.block < W.heap.size ∧ W.cell? (a.add i) = some (.int .i64 (K i)) := fun i hi => by
    obtain ⟨a, h1, h2, h3⟩ := zh i (by omega)
    exact ⟨a, h1, h2, by rw [h3, hK]⟩
  replace zh2 := Lib.hid zh2
  clear zh zw hK zl
  go_enter Try.func7, Try.ntmps7
  go_wp2_with fail
  refine (sanity_any W).mono ?_
  rintro e x ⟨rfl, g1⟩
  have H1 := Lib.hid (some_any f 100 x (by omega) (by omega))
  rw [show ((100 : Nat) : Int) = 100 from rfl] at H1
  replace g1 := Lib.hid (show Below W.heap.size W x from g1)
  go_wp2_with fail
  refine H1.out.mono ?_
  rintro e y ⟨rfl, g2⟩
  have hs : (f.extract 0 (min f.size 100)).size ≤ 100 := by rw [ext_size]; omega
  generalize f.extract 0 (min f.size 100) = F at *
  replace g1 := Lib.hid (below_grow g1.out g1.out.size g2)
  have H2 := Lib.hid (newReader_rs F y)
  have hy := g1.out.size
  clear g2 H1
  go_wp2_with fail
  refine H2.out.mono ?_
  rintro e z ⟨rfl, hr, g2⟩
  replace g1 := Lib.hid (below_grow g1.out g1.out.size g2)
  replace hr := Lib.hid hr
  have H3 := Lib.hid (rnewReader_rr F z (by omega))
  have hz := g1.out.size
  clear g2 H2
  go_wp2_with fail
  refine H3.out.mono ?_
  rintro e u ⟨gb, hgb, rfl, hr2, g2⟩
  have hL : Hid (LRR F K W y.heap.size gb 0 0 u) := Lib.hid ⟨RS.grow hr.out g2, hr2, hy, by omega, below_grow g1.out g1.out.size g2⟩
  have HU := Lib.hid (RK.used hL.out.re)
  clear g2 H3 hr hr2 g1
  go_wp2_with fail
  refine HU.out.mono ?_
  rintro e u2 ⟨rfl, rfl⟩
  have h00 : (rst F K 0).2 = 0 := rfl
  rw [h00]
  clear HU h00
  go_upto_block 1 with fail
  obtain ⟨m, hm1, hm2, hm3⟩ : ∃ m, m ≤ n ∧ m ≤ 400 ∧ (m = n ∨ m = 400) := ⟨min n 400, by omega, by omega, by omega⟩
  go_loopg [8] m (fun k s8 wr => ∃ i, i + k = m ∧ s8 = .int .i64 (i : Int) ∧ Hid (LRR F K W y.heap.size gb i i wr))
  case atStart => exact ⟨0, by omega, rfl, hL⟩
  case round =>
    obtain ⟨i, hik, rfl, HR⟩ := hrel
    clear hL
    go_upto_region 8 with fail
    go_cut [32] (fun s22 wx => s22 = .bool (decide (i < m)) ∧ wx = wr)
    case first =>
      by_cases h1 : (i : Int) < n
      · by_cases h2 : (i : Int) < 400
        · have hd : decide (i < m) = true := decide_eq_true (by omega)
          go_wp2
          go_meet
          exact ⟨by rw [hd], rfl⟩
        · have hd : decide (i < m) = false := decide_eq_false (by omega)
          go_wp2
          go_meet
          exact ⟨by rw [hd], rfl⟩
      · have hd : decide (i < m) = false := decide_eq_false (by omega)
        go_wp2
        go_meet
        exact ⟨by rw [hd], rfl⟩
    case rest =>
    obtain ⟨rfl, hwc⟩ := hcut
    rw [hwc]
    clear hwc
    cases gk with
    | succ k =>
      have hd : decide (i < m) = true := decide_eq_true (by omega)
      rw [hd]
      have hlt : (i : Int) < n := by omega
      obtain ⟨a, rfl, hab, hk⟩ := zh2.out i (by omega)
      have ck : ∀ x, Below W.heap.size W x → x.cell? (a.add i) = some (.int .i64 (K i)) := fun x hx => by rw [hx.cell (by rw [add_block]; exact hab)]; exact hk
      have c1 := ck wr HR.out.below
      have HB := Lib.hid (HR.out.bit (by omega) (by omega))
      clear hd hab hk
      replace zh2 := Lib.hid zh2.out
      go_wp2_with fail
      refine HB.out.mono ?_
      rintro e z1 ⟨rfl, h1⟩
      have c2 := ck z1 h1.below
      have HB2 := Lib.hid (h1.rbit (by omega) (by omega))
      clear HB HR c1 h1
      generalize hbb : rbt F K i = bb at *
      clear hbb
      go_wp2_with fail
      refine HB2.out.mono ?_
      rintro e z2 ⟨rfl, h2⟩
      have HU := Lib.hid (fun k => RK.used (w := z2.drewN k) (show RS _ _ _ _ _ from ⟨h2.re.ok, h2.re.ex⟩))
      have cat : z2.cell? ⟨gb, 259, none⟩ = some (.int .i64 (((rst F K (i + 1)).2 + 4 : Nat) : Int)) := by rw [h2.rr.blk.cell 259 (by omega), cr_x 259 (by omega)]; rfl
      have hN := Lib.hid (fun k => h2.grow (w' := z2.drewN k) ⟨rfl, rfl, rfl, Nat.le_refl _, fun _ _ => rfl⟩)
      clear HB2 h2 c2 ck
      generalize (rst F K (i + 1)).2 + 4 = at4 at *
      go_upto_region 12 with fail
      refine q_region (C := fun x => ∃ n, x = z2.drewN n) (by kernel_rfl) (by kernel_rfl) ⟨1, rfl⟩ ?_
      repeat (first
        | go_big_quiet_skip
        | (go_big_quiet_want; refine q_val ?_; apply Exists.intro; refine ⟨fun x hx => ?_, ?_⟩; (focus (obtain ⟨n, rfl⟩ := hx; go_simp <;> rfl)); simp only [Act.put, List.setIfInBounds_toArray, List.set_cons_zero, List.set_cons_succ]; go_big_quiet_on)
        | (go_big_quiet_want; refine q_call 27 ?_; apply Exists.intro; refine ⟨fun x hx => ?_, ?_⟩; (focus (go_simp <;> rfl)); apply Exists.intro; refine ⟨fun x hx => ?_, ?_⟩; (focus (obtain ⟨n, rfl⟩ := hx; exact (HU.out n).mono fun e w' h => ⟨h.1, n, h.2.symm⟩)); simp only [Act.put, List.setIfInBounds_toArray, List.set_cons_zero, List.set_cons_succ]; go_big_quiet_on))
      refine wpQuiet_nil ?_
      rintro z3 ⟨kk, rfl⟩
      have hN2 := Lib.hid (hN.out kk)
      go_wp2
      go_roundg k
      case measure => omega
      case rel => exact ⟨i + 1, by omega, by rw [Int.natCast_add]; rfl, hN2⟩
    | zero =>
      obtain rfl : i = m := by omega
      have hd : decide (i < i) = false := decide_eq_false (by omega)
      rw [hd]
      have hbe := Lib.hid HR.out.below
      clear HR
      go_wp2
      go_ret
      exact ⟨rfl, hbe.out⟩
end coderReads
end Go.Proofs.Ytdepfgeomceiiaa

