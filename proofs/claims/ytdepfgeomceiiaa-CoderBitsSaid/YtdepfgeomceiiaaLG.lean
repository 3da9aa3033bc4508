/- CoderBits: the walk. Printed by genBits.py. -/
import Derived.Test.YtdepfgeomceiiaaLY
set_option linter.unusedVariables false
namespace Go.Proofs.Ytdepfgeomceiiaa
open Go.RowKit
namespace coderBits
set_option maxRecDepth 100000 in
set_option maxHeartbeats 4000000 in
theorem walk (o : Option Addr) (n c : Nat) (K N : Nat → Int) (W : World) (zb : n * 16 ≤ 140737488351232) (zc : n ≤ c) (zw : ∀ i, i < n → (Lit.int .i64 (K i)).wf = true ∧ (Lit.int .i64 (N i)).wf = true)
    (zh : ∀ i, i < n → ∃ a, o = some a ∧ a.block < W.heap.size ∧ W.cell? (a.add (i * 2)) = some (.int .i64 (K i)) ∧ W.cell? (a.add (i * 2 + 1)) = some (.int .i64 (N i))) :
    Calls Try.prog 6 #[.slice o n c] W fun e w' => e = .returned (.bool true) ∧ Below W.heap.size W w' := by
  replace zh := Lib.hid zh
  replace zw := Lib.hid zw
  go_enter Try.func6, Try.ntmps6
  go_wp2_with fail
  refine (sanity_any W).mono ?_
  rintro e x ⟨rfl, g1⟩
  have H1 := Lib.hid (newWriter_ws x)
  have hxs : W.heap.size ≤ x.heap.size := Below.size g1
  replace g1 := Lib.hid g1
  go_wp2_with fail
  refine H1.out.mono ?_
  rintro e y ⟨rfl, hw, g2⟩
  have hxy := hw.lt
  have H2 := Lib.hid (rnewWriter_rw y)
  replace g1 := Lib.hid (Below.trans (B := W.heap.size) g1.out (Below.mono g2 g1.out.size))
  replace hw := Lib.hid hw
  clear g2 H1
  go_wp2_with fail
  refine H2.out.mono ?_
  rintro e z ⟨gb, rfl, hw2, g2⟩
  have hL : Hid (LB2 K N W x.heap.size gb 0 0 z) := Lib.hid ⟨⟨none, none, (hw.out.lower hxs).grow g2, hw2.lower (by omega), fun k e => by cases e⟩, below_grow g1.out g1.out.size g2⟩
  clear hw hw2 g1 g2 H2
  go_upto_block 1 with fail
  obtain ⟨m, hm1, hm2, hm3⟩ : ∃ m, m ≤ n ∧ m ≤ 400 ∧ (m = n ∨ m = 400) := ⟨min n 400, by omega, by omega, by omega⟩
  go_loopg [6] m (fun k s6 wr => ∃ i, i + k = m ∧ s6 = .int .i64 (i : Int) ∧ Hid (LB2 K N W x.heap.size gb i i wr))
  case atStart => exact ⟨0, by omega, rfl, hL⟩
  case round =>
    obtain ⟨i, hik, rfl, HR⟩ := hrel
    clear hL
    go_upto_region 7 with fail
    go_cut [19] (fun s22 wx => s22 = .bool (decide (i < m)) ∧ wx = wr)
    case first =>
      by_cases h1 : (i : Int) < n
      · by_cases h2 : (i : Int) < 400
        · have hd : decide (i < m) = true := decide_eq_true (by omega)
          go_wp2
          go_meet
          exact ⟨by rw [hd], rfl⟩
        · have hd : decide (i < m) = false := decide_eq_false (by omega)
          go_wp2
          go_meet
          exact ⟨by rw [hd], rfl⟩
      · have hd : decide (i < m) = false := decide_eq_false (by omega)
        go_wp2
        go_meet
        exact ⟨by rw [hd], rfl⟩
    case rest =>
    obtain ⟨rfl, hwc⟩ := hcut
    rw [hwc]
    clear hwc
    cases gk with
    | succ k =>
      have hd : decide (i < m) = true := decide_eq_true (by omega)
      rw [hd]
      have hlt : i < n := by omega
      obtain ⟨a, rfl, hab, hk, hn⟩ := zh.out i hlt
      obtain ⟨ck, cn⟩ := pair_cells hab hk hn
      have hWd : Below W.heap.size W wr.drew := (HR.out.grow (Grow.drew _)).below
      replace zh := Lib.hid zh.out
      clear hd hab hk hn
      go_upto_region 9 with fail
      refine wp_region_call1 ?lit9 ?hlit9 (by kernel_rfl) (by kernel_rfl) (by kernel_rfl) (by kernel_rfl) 11 (by decide) (fun ii => ([(.pointer (some (⟨x.heap.size, 0, none⟩))), (.slice (some a) n c), (.int .i64 ((i : Int))), (.pointer (some (a.add (i * 2)))), (.pointer (some (a.add (i * 2)))), (.int .i64 (K i)), (.slice (some a) n c), (.int .i64 ((i : Int))), (.pointer (some (a.add (i * 2)))), (.pointer (some ((a.add (i * 2)).add 1))), (.int .i64 (N i)), (.tuple #[])] : List Value).getD ii undef) (fun xx => Below W.heap.size W xx) (LB2 K N W x.heap.size gb (i + 1) i) ?_ (fun x h => h.below) ?_ ?_ ?_
      case hlit9 =>
        intro uu
        simp only [fill, Act.put, Nat.zero_add, Nat.reduceAdd, List.setIfInBounds_toArray, List.set_cons_zero, List.set_cons_succ]
        rfl
      · exact hWd
      · intro ii oo ho him uu xx hx hd
        replace hx : Below W.heap.size W xx := hx
        have hi : ii < 12 := (List.getElem?_eq_some_iff.1 ho).1
        obtain rfl | rfl | rfl | rfl | rfl | rfl | rfl | rfl | rfl | rfl | rfl | rfl : ii = 0 ∨ ii = 1 ∨ ii = 2 ∨ ii = 3 ∨ ii = 4 ∨ ii = 5 ∨ ii = 6 ∨ ii = 7 ∨ ii = 8 ∨ ii = 9 ∨ ii = 10 ∨ ii = 11 := by omega
        · simp only [List.getElem?_cons_zero, Option.some.injEq] at ho; subst ho
          exact run_mv _ rfl rfl
        · simp only [List.getElem?_cons_succ, List.getElem?_cons_zero, Option.some.injEq] at ho; subst ho
          exact run_mv _ rfl rfl
        · simp only [List.getElem?_cons_succ, List.getElem?_cons_zero, Option.some.injEq] at ho; subst ho
          exact run_mv _ rfl rfl
        · simp only [List.getElem?_cons_succ, List.getElem?_cons_zero, Option.some.injEq] at ho; subst ho
          have e1 : uu 1 = (.slice (some a) n c) := hd 1 (by kernel_rfl)
          have e2 : uu 2 = (.int .i64 ((i : Int))) := hd 2 (by kernel_rfl)
          exact run_ia36 a _ _ i hlt rfl e1 e2
        · simp only [List.getElem?_cons_succ, List.getElem?_cons_zero, Option.some.injEq] at ho; subst ho
          have e1 : uu 3 = (.pointer (some (a.add (i * 2)))) := hd 3 (by kernel_rfl)
          exact run_fa43_0 _ rfl e1
        · simp only [List.getElem?_cons_succ, List.getElem?_cons_zero, Option.some.injEq] at ho; subst ho
          have e1 : uu 4 = (.pointer (some (a.add (i * 2)))) := hd 4 (by kernel_rfl)
          exact run_ld3 _ _ rfl e1 (ck _ hx)
        · simp only [List.getElem?_cons_succ, List.getElem?_cons_zero, Option.some.injEq] at ho; subst ho
          exact run_mv _ rfl rfl
        · simp only [List.getElem?_cons_succ, List.getElem?_cons_zero, Option.some.injEq] at ho; subst ho
          exact run_mv _ rfl rfl
        · simp only [List.getElem?_cons_succ, List.getElem?_cons_zero, Option.some.injEq] at ho; subst ho
          have e1 : uu 6 = (.slice (some a) n c) := hd 6 (by kernel_rfl)
          have e2 : uu 7 = (.int .i64 ((i : Int))) := hd 7 (by kernel_rfl)
          exact run_ia36 a _ _ i hlt rfl e1 e2
        · simp only [List.getElem?_cons_succ, List.getElem?_cons_zero, Option.some.injEq] at ho; subst ho
          have e1 : uu 8 = (.pointer (some (a.add (i * 2)))) := hd 8 (by kernel_rfl)
          exact run_fa43_1 _ rfl e1
        · simp only [List.getElem?_cons_succ, List.getElem?_cons_zero, Option.some.injEq] at ho; subst ho
          have e1 : uu 9 = (.pointer (some ((a.add (i * 2)).add 1))) := hd 9 (by kernel_rfl)
          exact run_ld3 _ _ rfl e1 (cn _ hx)
        · exact absurd rfl him
      · intro oo ho uu hd
        simp only [List.getElem?_cons_succ, List.getElem?_cons_zero, Option.some.injEq] at ho; subst ho
        have e1 : uu 0 = (.pointer (some (⟨x.heap.size, 0, none⟩))) := hd 0 (by kernel_rfl)
        have e2 : uu 5 = (.int .i64 (K i)) := hd 5 (by kernel_rfl)
        have e3 : uu 10 = (.int .i64 (N i)) := hd 10 (by kernel_rfl)
        exact ⟨21, _, run_c21 _ _ _ rfl rfl e1 e2 e3, HR.out.bit (by omega)⟩
      · intro z hz
        replace hz := Lib.hid hz
        have hWd : Below W.heap.size W z.drew := (hz.out.grow (Grow.drew _)).below
        go_upto_region 10 with fail
        refine wp_region_call1 ?lit10 ?hlit10 (by kernel_rfl) (by kernel_rfl) (by kernel_rfl) (by kernel_rfl) 11 (by decide) (fun ii => ([(.pointer (some (⟨gb, 0, none⟩))), (.slice (some a) n c), (.int .i64 ((i : Int))), (.pointer (some (a.add (i * 2)))), (.pointer (some (a.add (i * 2)))), (.int .i64 (K i)), (.slice (some a) n c), (.int .i64 ((i : Int))), (.pointer (some (a.add (i * 2)))), (.pointer (some ((a.add (i * 2)).add 1))), (.int .i64 (N i)), (.tuple #[])] : List Value).getD ii undef) (fun xx => Below W.heap.size W xx) (LB2 K N W x.heap.size gb (i + 1) (i + 1)) ?_ (fun x h => h.below) ?_ ?_ ?_
        case hlit10 =>
          intro uu
          simp only [fill, Act.put, Nat.zero_add, Nat.reduceAdd, List.setIfInBounds_toArray, List.set_cons_zero, List.set_cons_succ]
          rfl
        · exact hWd
        · intro ii oo ho him uu xx hx hd
          replace hx : Below W.heap.size W xx := hx
          have hi : ii < 12 := (List.getElem?_eq_some_iff.1 ho).1
          obtain rfl | rfl | rfl | rfl | rfl | rfl | rfl | rfl | rfl | rfl | rfl | rfl : ii = 0 ∨ ii = 1 ∨ ii = 2 ∨ ii = 3 ∨ ii = 4 ∨ ii = 5 ∨ ii = 6 ∨ ii = 7 ∨ ii = 8 ∨ ii = 9 ∨ ii = 10 ∨ ii = 11 := by omega
          · simp only [List.getElem?_cons_zero, Option.some.injEq] at ho; subst ho
            exact run_mv _ rfl rfl
          · simp only [List.getElem?_cons_succ, List.getElem?_cons_zero, Option.some.injEq] at ho; subst ho
            exact run_mv _ rfl rfl
          · simp only [List.getElem?_cons_succ, List.getElem?_cons_zero, Option.some.injEq] at ho; subst ho
            exact run_mv _ rfl rfl
          · simp only [List.getElem?_cons_succ, List.getElem?_cons_zero, Option.some.injEq] at ho; subst ho
            have e1 : uu 1 = (.slice (some a) n c) := hd 1 (by kernel_rfl)
            have e2 : uu 2 = (.int .i64 ((i : Int))) := hd 2 (by kernel_rfl)
            exact run_ia36 a _ _ i hlt rfl e1 e2
          · simp only [List.getElem?_cons_succ, List.getElem?_cons_zero, Option.some.injEq] at ho; subst ho
            have e1 : uu 3 = (.pointer (some (a.add (i * 2)))) := hd 3 (by kernel_rfl)
            exact run_fa43_0 _ rfl e1
          · simp only [List.getElem?_cons_succ, List.getElem?_cons_zero, Option.some.injEq] at ho; subst ho
            have e1 : uu 4 = (.pointer (some (a.add (i * 2)))) := hd 4 (by kernel_rfl)
            exact run_ld3 _ _ rfl e1 (ck _ hx)
          · simp only [List.getElem?_cons_succ, List.getElem?_cons_zero, Option.some.injEq] at ho; subst ho
            exact run_mv _ rfl rfl
          · simp only [List.getElem?_cons_succ, List.getElem?_cons_zero, Option.some.injEq] at ho; subst ho
            exact run_mv _ rfl rfl
          · simp only [List.getElem?_cons_succ, List.getElem?_cons_zero, Option.some.injEq] at ho; subst ho
            have e1 : uu 6 = (.slice (some a) n c) := hd 6 (by kernel_rfl)
            have e2 : uu 7 = (.int .i64 ((i : Int))) := hd 7 (by kernel_rfl)
            exact run_ia36 a _ _ i hlt rfl e1 e2
          · simp only [List.getElem?_cons_succ, List.getElem?_cons_zero, Option.some.injEq] at ho; subst ho
            have e1 : uu 8 = (.pointer (some (a.add (i * 2)))) := hd 8 (by kernel_rfl)
            exact run_fa43_1 _ rfl e1
          · simp only [List.getElem?_cons_succ, List.getElem?_cons_zero, Option.some.injEq] at ho; subst ho
            have e1 : uu 9 = (.pointer (some ((a.add (i * 2)).add 1))) := hd 9 (by kernel_rfl)
            exact run_ld3 _ _ rfl e1 (cn _ hx)
          · exact absurd rfl him
        · intro oo ho uu hd
          simp only [List.getElem?_cons_succ, List.getElem?_cons_zero, Option.some.injEq] at ho; subst ho
          have e1 : uu 0 = (.pointer (some (⟨gb, 0, none⟩))) := hd 0 (by kernel_rfl)
          have e2 : uu 5 = (.int .i64 (K i)) := hd 5 (by kernel_rfl)
          have e3 : uu 10 = (.int .i64 (N i)) := hd 10 (by kernel_rfl)
          exact ⟨22, _, run_c22 _ _ _ rfl rfl e1 e2 e3, hz.out.rbit (by omega)⟩
        · intro z3 hz3
          replace hz3 := Lib.hid hz3
          clear HR hz hWd ck cn
          have HA := Lib.hid (hz3.out.lw.bytes (by omega))
          go_wp2_with fail
          refine HA.out.mono ?_
          rintro e z4 ⟨rfl, g2⟩
          have hz4 := Lib.hid (hz3.out.grow g2)
          clear HA g2 hz3
          have HB := Lib.hid (hz4.out.rbytes (by omega))
          go_wp2_with fail
          refine HB.out.mono ?_
          rintro e z5 ⟨rfl, g2⟩
          have hz5 := Lib.hid (hz4.out.grow g2)
          clear HB g2 hz4
          go_wp2
          go_roundg k
          case measure => omega
          case rel => exact ⟨i + 1, by omega, by rw [Int.natCast_add]; rfl, hz5⟩
    | zero =>
      obtain rfl : i = m := by omega
      have hd : decide (i < i) = false := decide_eq_false (by omega)
      rw [hd]
      have HA := Lib.hid (HR.out.lw.bytes (by omega))
      go_wp2_with fail
      refine HA.out.mono ?_
      rintro e y3 ⟨rfl, g2⟩
      have hR2 := HR.out.grow g2
      have HB := Lib.hid (hR2.rbytes (by omega))
      have hbe := Lib.hid hR2.below
      clear HA HR g2 hR2
      go_wp2_with fail
      refine HB.out.mono ?_
      rintro e y4 ⟨rfl, g2⟩
      have hbe2 := Lib.hid (below_grow hbe.out hbe.out.size g2)
      clear HB g2
      go_wp2
      go_ret
      exact ⟨rfl, hbe2.out⟩
end coderBits
end Go.Proofs.Ytdepfgeomceiiaa

