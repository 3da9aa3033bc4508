/- CoderBitsBack: the walk. Printed by genBB.py. -/
import Derived.Test.YtdepfgeomceiiaaLV
import Derived.Test.YtdepfgeomceiiaaLA
set_option linter.unusedVariables false
namespace Go.Proofs.Ytdepfgeomceiiaa
open Go.RowKit
namespace coderBitsBack
set_option maxRecDepth 100000 in
set_option maxHeartbeats 4000000 in
theorem walk (o : Option Addr) (n c : Nat) (K N : Nat → Int) (f : ByteArray) (W : World) (zb : n * 16 ≤ 140737488351232) (zc : n ≤ c) (zw : ∀ i, i < n → (Lit.int .i64 (K i)).wf = true ∧ (Lit.int .i64 (N i)).wf = true)
    (zh : ∀ i, i < n → ∃ a, o = some a ∧ a.block < W.heap.size ∧ W.cell? (a.add (i * 2)) = some (.int .i64 (K i)) ∧ W.cell? (a.add (i * 2 + 1)) = some (.int .i64 (N i))) (hf : f.size ≤ 140737488351232) :
    Calls Try.prog 8 #[.slice o n c, .string f] W fun e w' => e = .returned (.bool true) ∧ Below W.heap.size W w' := by
  replace zh := Lib.hid zh
  replace zw := Lib.hid zw
  go_enter Try.func8, Try.ntmps8
  go_wp2_with fail
  refine (sanity_any W).mono ?_
  rintro e x ⟨rfl, g1⟩
  have H1 := Lib.hid (newWriter_ws x)
  have hxs : W.heap.size ≤ x.heap.size := Below.size g1
  replace g1 := Lib.hid g1
  go_wp2_with fail
  refine H1.out.mono ?_
  rintro e y ⟨rfl, hw, g2⟩
  replace g1 := Lib.hid (Below.trans (B := W.heap.size) g1.out (Below.mono g2 g1.out.size))
  have hL : Hid (LW K N W x.heap.size 0 y) := Lib.hid ⟨⟨none, hw.lower hxs⟩, g1.out⟩
  clear hw g1 g2 H1
  go_upto_block 1 with fail
  obtain ⟨m, hm1, hm2, hm3⟩ : ∃ m, m ≤ n ∧ m ≤ 600 ∧ (m = n ∨ m = 600) := ⟨min n 600, by omega, by omega, by omega⟩
  go_loopg [7] m (fun k s7 wr => ∃ i, i + k = m ∧ s7 = .int .i64 (i : Int) ∧ Hid (LW K N W x.heap.size i wr))
  case atStart => exact ⟨0, by omega, rfl, hL⟩
  case round =>
    obtain ⟨i, hik, rfl, HR⟩ := hrel
    clear hL
    go_upto_region 6 with fail
    go_cut [22] (fun s22 wx => s22 = .bool (decide (i < m)) ∧ wx = wr)
    case first =>
      by_cases h1 : (i : Int) < n
      · by_cases h2 : (i : Int) < 600
        · have hd : decide (i < m) = true := decide_eq_true (by omega)
          go_wp2
          go_meet
          exact ⟨by rw [hd], rfl⟩
        · have hd : decide (i < m) = false := decide_eq_false (by omega)
          go_wp2
          go_meet
          exact ⟨by rw [hd], rfl⟩
      · have hd : decide (i < m) = false := decide_eq_false (by omega)
        go_wp2
        go_meet
        exact ⟨by rw [hd], rfl⟩
    case rest =>
    obtain ⟨rfl, hwc⟩ := hcut
    rw [hwc]
    clear hwc
    cases gk with
    | succ k =>
      have hd : decide (i < m) = true := decide_eq_true (by omega)
      rw [hd]
      have hlt : i < n := by omega
      obtain ⟨a, rfl, hab, hk, hn⟩ := zh.out i hlt
      obtain ⟨ck, cn⟩ := pair_cells hab hk hn
      have hWd : Below W.heap.size W wr.drew := (HR.out.grow (Grow.drew _)).below
      replace zh := Lib.hid zh.out
      clear hd hab hk hn
      go_upto_region 8 with fail
      refine wp_region_call1 ?lit8 ?hlit8 (by kernel_rfl) (by kernel_rfl) (by kernel_rfl) (by kernel_rfl) 11 (by decide) (fun ii => ([(.pointer (some (⟨x.heap.size, 0, none⟩))), (.slice (some a) n c), (.int .i64 ((i : Int))), (.pointer (some (a.add (i * 2)))), (.pointer (some (a.add (i * 2)))), (.int .i64 (K i)), (.slice (some a) n c), (.int .i64 ((i : Int))), (.pointer (some (a.add (i * 2)))), (.pointer (some ((a.add (i * 2)).add 1))), (.int .i64 (N i)), (.tuple #[])] : List Value).getD ii undef) (fun xx => Below W.heap.size W xx) (LW K N W x.heap.size (i + 1)) ?_ (fun x h => h.below) ?_ ?_ ?_
      case hlit8 =>
        intro uu
        simp only [fill, Act.put, Nat.zero_add, Nat.reduceAdd, List.setIfInBounds_toArray, List.set_cons_zero, List.set_cons_succ]
        rfl
      · exact hWd
      · intro ii oo ho him uu xx hx hd
        replace hx : Below W.heap.size W xx := hx
        have hi : ii < 12 := (List.getElem?_eq_some_iff.1 ho).1
        obtain rfl | rfl | rfl | rfl | rfl | rfl | rfl | rfl | rfl | rfl | rfl | rfl : ii = 0 ∨ ii = 1 ∨ ii = 2 ∨ ii = 3 ∨ ii = 4 ∨ ii = 5 ∨ ii = 6 ∨ ii = 7 ∨ ii = 8 ∨ ii = 9 ∨ ii = 10 ∨ ii = 11 := by omega
        · simp only [List.getElem?_cons_zero, Option.some.injEq] at ho; subst ho
          exact run_mv _ rfl rfl
        · simp only [List.getElem?_cons_succ, List.getElem?_cons_zero, Option.some.injEq] at ho; subst ho
          exact run_mv _ rfl rfl
        · simp only [List.getElem?_cons_succ, List.getElem?_cons_zero, Option.some.injEq] at ho; subst ho
          exact run_mv _ rfl rfl
        · simp only [List.getElem?_cons_succ, List.getElem?_cons_zero, Option.some.injEq] at ho; subst ho
          have e1 : uu 1 = (.slice (some a) n c) := hd 1 (by kernel_rfl)
          have e2 : uu 2 = (.int .i64 ((i : Int))) := hd 2 (by kernel_rfl)
          exact run_ia36 a _ _ i hlt rfl e1 e2
        · simp only [List.getElem?_cons_succ, List.getElem?_cons_zero, Option.some.injEq] at ho; subst ho
          have e1 : uu 3 = (.pointer (some (a.add (i * 2)))) := hd 3 (by kernel_rfl)
          exact run_fa43_0 _ rfl e1
        · simp only [List.getElem?_cons_succ, List.getElem?_cons_zero, Option.some.injEq] at ho; subst ho
          have e1 : uu 4 = (.pointer (some (a.add (i * 2)))) := hd 4 (by kernel_rfl)
          exact run_ld3 _ _ rfl e1 (ck _ hx)
        · simp only [List.getElem?_cons_succ, List.getElem?_cons_zero, Option.some.injEq] at ho; subst ho
          exact run_mv _ rfl rfl
        · simp only [List.getElem?_cons_succ, List.getElem?_cons_zero, Option.some.injEq] at ho; subst ho
          exact run_mv _ rfl rfl
        · simp only [List.getElem?_cons_succ, List.getElem?_cons_zero, Option.some.injEq] at ho; subst ho
          have e1 : uu 6 = (.slice (some a) n c) := hd 6 (by kernel_rfl)
          have e2 : uu 7 = (.int .i64 ((i : Int))) := hd 7 (by kernel_rfl)
          exact run_ia36 a _ _ i hlt rfl e1 e2
        · simp only [List.getElem?_cons_succ, List.getElem?_cons_zero, Option.some.injEq] at ho; subst ho
          have e1 : uu 8 = (.pointer (some (a.add (i * 2)))) := hd 8 (by kernel_rfl)
          exact run_fa43_1 _ rfl e1
        · simp only [List.getElem?_cons_succ, List.getElem?_cons_zero, Option.some.injEq] at ho; subst ho
          have e1 : uu 9 = (.pointer (some ((a.add (i * 2)).add 1))) := hd 9 (by kernel_rfl)
          exact run_ld3 _ _ rfl e1 (cn _ hx)
        · exact absurd rfl him
      · intro oo ho uu hd
        simp only [List.getElem?_cons_succ, List.getElem?_cons_zero, Option.some.injEq] at ho; subst ho
        have e1 : uu 0 = (.pointer (some (⟨x.heap.size, 0, none⟩))) := hd 0 (by kernel_rfl)
        have e2 : uu 5 = (.int .i64 (K i)) := hd 5 (by kernel_rfl)
        have e3 : uu 10 = (.int .i64 (N i)) := hd 10 (by kernel_rfl)
        exact ⟨21, _, run_c21 _ _ _ rfl rfl e1 e2 e3, HR.out.bit (by omega)⟩
      · intro z hz
        replace hz := Lib.hid hz
        go_wp2
        go_roundg k
        case measure => omega
        case rel => exact ⟨i + 1, by omega, by rw [Int.natCast_add]; rfl, hz⟩
    | zero =>
      obtain rfl : i = m := by omega
      have hd : decide (i < i) = false := decide_eq_false (by omega)
      rw [hd]
      clear hd hik
      have hY := Lib.hid (HR.out.bytes (by omega))
      go_wp2_with fail
      refine hY.out.mono ?_
      rintro e y2 ⟨rfl, g2⟩
      have g1 := Lib.hid (HR.out.grow g2).below
      clear HR hY g2
      have H1 := Lib.hid (some_any f 50 y2 (by omega) (by omega))
      rw [show ((50 : Nat) : Int) = 50 from rfl] at H1
      have hcs := Lib.hid (cd_size K N i)
      have hcl := cd_le K N i
      obtain ⟨q, hq⟩ : ∃ q, q = cd K N i := ⟨_, rfl⟩
      go_wp2_with fail
      refine H1.out.mono ?_
      rintro e v ⟨rfl, g2⟩
      have hs : (f.extract 0 (min f.size 50)).size ≤ 50 := by rw [ext_size]; omega
      generalize f.extract 0 (min f.size 50) = F at *
      replace g1 := Lib.hid (below_grow g1.out g1.out.size g2)
      clear g2 H1
      have hsz : (cd K N i).size + F.size ≤ 9223372036854775807 := by omega
      have H2 := Lib.hid (newReader_rs (cd K N i ++ F) v)
      go_wp2_with fail
      refine H2.out.mono ?_
      rintro e u ⟨rfl, hr, g2⟩
      have hLR : Hid (LR K N W v.heap.size (cd K N i ++ F) 0 u) := Lib.hid ⟨hr, below_grow g1.out g1.out.size g2, g1.out.size⟩
      clear hr g2 H2 g1
      obtain ⟨m, rfl⟩ : ∃ m, m = i := ⟨_, rfl⟩
      go_upto_block 1 with fail
      go_loopg [10] m (fun k s10 wr => ∃ i, i + k = m ∧ s10 = .int .i64 (i : Int) ∧ Hid (LR K N W v.heap.size (cd K N m ++ F) i wr))
      case atStart => exact ⟨0, by omega, rfl, hLR⟩
      case round =>
        obtain ⟨i, hik, rfl, HR⟩ := hrel
        clear hLR
        go_upto_region 14 with fail
        go_cut [53] (fun s22 wx => s22 = .bool (decide (i < m)) ∧ wx = wr)
        case first =>
          by_cases h1 : (i : Int) < n
          · by_cases h2 : (i : Int) < 600
            · have hd : decide (i < m) = true := decide_eq_true (by omega)
              go_wp2
              go_meet
              exact ⟨by rw [hd], rfl⟩
            · have hd : decide (i < m) = false := decide_eq_false (by omega)
              go_wp2
              go_meet
              exact ⟨by rw [hd], rfl⟩
          · have hd : decide (i < m) = false := decide_eq_false (by omega)
            go_wp2
            go_meet
            exact ⟨by rw [hd], rfl⟩
        case rest =>
        obtain ⟨rfl, hwc⟩ := hcut
        rw [hwc]
        clear hwc
        cases gk with
        | succ k =>
          have hd : decide (i < m) = true := decide_eq_true (by omega)
          rw [hd]
          have hlt : i < n := by omega
          obtain ⟨a, rfl, hab, hk, hn⟩ := zh.out i hlt
          obtain ⟨ck, cn⟩ := pair_cells hab hk hn
          have hWd : Below W.heap.size W wr.drew := (HR.out.grow (Grow.drew _)).below
          replace zh := Lib.hid zh.out
          clear hd hab hk hn
          go_upto_region 16 with fail
          refine wp_region_call1 ?lit16 ?hlit16 (by kernel_rfl) (by kernel_rfl) (by kernel_rfl) (by kernel_rfl) 6 (by decide) (fun ii => ([(.pointer (some (⟨v.heap.size, 0, none⟩))), (.slice (some a) n c), (.int .i64 ((i : Int))), (.pointer (some (a.add (i * 2)))), (.pointer (some (a.add (i * 2)))), (.int .i64 (K i)), (.int .i64 (N i % 2)), (.slice (some a) n c), (.int .i64 ((i : Int))), (.pointer (some (a.add (i * 2)))), (.pointer (some ((a.add (i * 2)).add 1))), (.int .i64 (N i)), (.int .i64 ((N i) % 2)), (.bool ((N i % 2) != ((N i) % 2)))] : List Value).getD ii undef) (fun xx => Below W.heap.size W xx) (LR K N W v.heap.size (cd K N m ++ F) (i + 1)) ?_ (fun x h => h.below) ?_ ?_ ?_
          case hlit16 =>
            intro uu
            simp only [fill, Act.put, Nat.zero_add, Nat.reduceAdd, List.setIfInBounds_toArray, List.set_cons_zero, List.set_cons_succ]
            rfl
          · exact hWd
          · intro ii oo ho him uu xx hx hd
            replace hx : Below W.heap.size W xx := hx
            have hi : ii < 14 := (List.getElem?_eq_some_iff.1 ho).1
            obtain rfl | rfl | rfl | rfl | rfl | rfl | rfl | rfl | rfl | rfl | rfl | rfl | rfl | rfl : ii = 0 ∨ ii = 1 ∨ ii = 2 ∨ ii = 3 ∨ ii = 4 ∨ ii = 5 ∨ ii = 6 ∨ ii = 7 ∨ ii = 8 ∨ ii = 9 ∨ ii = 10 ∨ ii = 11 ∨ ii = 12 ∨ ii = 13 := by omega
            · simp only [List.getElem?_cons_zero, Option.some.injEq] at ho; subst ho
              exact run_mv _ rfl rfl
            · simp only [List.getElem?_cons_succ, List.getElem?_cons_zero, Option.some.injEq] at ho; subst ho
              exact run_mv _ rfl rfl
            · simp only [List.getElem?_cons_succ, List.getElem?_cons_zero, Option.some.injEq] at ho; subst ho
              exact run_mv _ rfl rfl
            · simp only [List.getElem?_cons_succ, List.getElem?_cons_zero, Option.some.injEq] at ho; subst ho
              have e1 : uu 1 = (.slice (some a) n c) := hd 1 (by kernel_rfl)
              have e2 : uu 2 = (.int .i64 ((i : Int))) := hd 2 (by kernel_rfl)
              exact run_ia36 a _ _ i hlt rfl e1 e2
            · simp only [List.getElem?_cons_succ, List.getElem?_cons_zero, Option.some.injEq] at ho; subst ho
              have e1 : uu 3 = (.pointer (some (a.add (i * 2)))) := hd 3 (by kernel_rfl)
              exact run_fa43_0 _ rfl e1
            · simp only [List.getElem?_cons_succ, List.getElem?_cons_zero, Option.some.injEq] at ho; subst ho
              have e1 : uu 4 = (.pointer (some (a.add (i * 2)))) := hd 4 (by kernel_rfl)
              exact run_ld3 _ _ rfl e1 (ck _ hx)
            · exact absurd rfl him
            · simp only [List.getElem?_cons_succ, List.getElem?_cons_zero, Option.some.injEq] at ho; subst ho
              exact run_mv _ rfl rfl
            · simp only [List.getElem?_cons_succ, List.getElem?_cons_zero, Option.some.injEq] at ho; subst ho
              exact run_mv _ rfl rfl
            · simp only [List.getElem?_cons_succ, List.getElem?_cons_zero, Option.some.injEq] at ho; subst ho
              have e1 : uu 7 = (.slice (some a) n c) := hd 7 (by kernel_rfl)
              have e2 : uu 8 = (.int .i64 ((i : Int))) := hd 8 (by kernel_rfl)
              exact run_ia36 a _ _ i hlt rfl e1 e2
            · simp only [List.getElem?_cons_succ, List.getElem?_cons_zero, Option.some.injEq] at ho; subst ho
              have e1 : uu 9 = (.pointer (some (a.add (i * 2)))) := hd 9 (by kernel_rfl)
              exact run_fa43_1 _ rfl e1
            · simp only [List.getElem?_cons_succ, List.getElem?_cons_zero, Option.some.injEq] at ho; subst ho
              have e1 : uu 10 = (.pointer (some ((a.add (i * 2)).add 1))) := hd 10 (by kernel_rfl)
              exact run_ld3 _ _ rfl e1 (cn _ hx)
            · simp only [List.getElem?_cons_succ, List.getElem?_cons_zero, Option.some.injEq] at ho; subst ho
              have e1 : uu 11 = (.int .i64 (N i)) := hd 11 (by kernel_rfl)
              exact run_and1 (N i) rfl e1 rfl
            · simp only [List.getElem?_cons_succ, List.getElem?_cons_zero, Option.some.injEq] at ho; subst ho
              have e1 : uu 6 = (.int .i64 (N i % 2)) := hd 6 (by kernel_rfl)
              have e2 : uu 12 = (.int .i64 ((N i) % 2)) := hd 12 (by kernel_rfl)
              exact run_neq (N i % 2) ((N i) % 2) rfl e1 e2
          · intro oo ho uu hd
            simp only [List.getElem?_cons_succ, List.getElem?_cons_zero, Option.some.injEq] at ho; subst ho
            have e1 : uu 0 = (.pointer (some (⟨v.heap.size, 0, none⟩))) := hd 0 (by kernel_rfl)
            have e2 : uu 5 = (.int .i64 (K i)) := hd 5 (by kernel_rfl)
            exact ⟨28, _, run_c28 _ _ rfl rfl e1 e2, HR.out.bit m F rfl (by omega) (by omega) (by omega)⟩
          · intro z hz
            replace hz := Lib.hid hz
            go_wp2
            go_roundg k
            case measure => omega
            case rel => exact ⟨i + 1, by omega, by rw [Int.natCast_add]; rfl, hz⟩
        | zero =>
          obtain rfl : i = m := by omega
          have hd : decide (i < i) = false := decide_eq_false (by omega)
          rw [hd]
          have HU := Lib.hid (used_rs HR.out.rs)
          have hbe := Lib.hid HR.out.below
          rw [← hcs.out] at HU
          clear HR
          go_wp2_with fail
          refine HU.out.mono ?_
          rintro e y ⟨rfl, rfl⟩
          go_wp2
          go_ret
          exact ⟨rfl, hbe.out⟩
end coderBitsBack
end Go.Proofs.Ytdepfgeomceiiaa

