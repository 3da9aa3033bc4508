/- CoderNil: the walk. Printed by genNil.py. -/
import Derived.Test.YtdepfgeomceiiaaLX
set_option linter.unusedVariables false
namespace Go.Proofs.Ytdepfgeomceiiaa
open Go.RowKit
theorem zero68_ws (w : World) : WS w.heap.size w.heap.size none M.start [] (w.alloc (.cells (cv 259 (cc M.start.p M.start.lo (4294967295 - M.start.hi) (fun _ => .slice none 0 0))) 68)) := by
  refine ⟨M.start_ok, Grow.size (Grow.alloc _ _), Nat.le_refl _, _, heap_alloc_new _ _, ?_, ?_⟩
  · exact ⟨rfl, .inl ⟨rfl, rfl⟩⟩
  · rfl
theorem zero70_rs (w : World) : RS w.heap.size ⟨#[]⟩ 0 M.start (w.alloc (.cells (cv 261 (cc M.start.p M.start.lo (4294967295 - M.start.hi) (RX ⟨#[]⟩ 0))) 70)) := ⟨M.start_ok, 0, rfl, heap_alloc_new _ _⟩
namespace coderNil
set_option maxRecDepth 100000 in
set_option maxHeartbeats 4000000 in
theorem walk (o : Option Addr) (n c : Nat) (K N : Nat → Int) (W : World) (zb : n * 16 ≤ 140737488351232) (zc : n ≤ c) (zw : ∀ i, i < n → (Lit.int .i64 (K i)).wf = true ∧ (Lit.int .i64 (N i)).wf = true)
    (zh : ∀ i, i < n → ∃ a, o = some a ∧ a.block < W.heap.size ∧ W.cell? (a.add (i * 2)) = some (.int .i64 (K i)) ∧ W.cell? (a.add (i * 2 + 1)) = some (.int .i64 (N i))) :
    Calls Try.prog 12 #[.slice o n c] W fun e w' => e = .returned (.bool true) ∧ Below W.heap.size W w' := by
  replace zh := Lib.hid zh
  replace zw := Lib.hid zw
  have hz68 := Try.zero68
  have hz70 := Try.zero70
  have hws := Lib.hid zero68_ws
  have hrs := Lib.hid zero70_rs
  have hs68 : ¬ (cv 259 (cc M.start.p M.start.lo (4294967295 - M.start.hi) (fun _ => .slice none 0 0))).size < 259 := by rw [cv_size]; omega
  have hs70 : ¬ (cv 261 (cc M.start.p M.start.lo (4294967295 - M.start.hi) (RX ⟨#[]⟩ 0))).size < 261 := by rw [cv_size]; omega
  generalize cv 259 (cc M.start.p M.start.lo (4294967295 - M.start.hi) (fun _ => .slice none 0 0)) = Z8 at *
  generalize cv 261 (cc M.start.p M.start.lo (4294967295 - M.start.hi) (RX ⟨#[]⟩ 0)) = Z0 at *
  go_enter Try.func12, Try.ntmps12
  go_wp2_with fail
  refine (sanity_any W).mono ?_
  rintro e x ⟨rfl, g1⟩
  have hxs : W.heap.size ≤ x.heap.size := Below.size g1
  replace g1 := Lib.hid g1
  go_wp2_with fail
  have hsz0 : (x.alloc (.cells Z8 68)).heap.size = x.heap.size + 1 := by simp
  have hsz : ((x.alloc (.cells Z8 68)).alloc (.cells Z0 70)).heap.size = x.heap.size + 2 := by simp
  have H1 := Lib.hid (newWriter_ws ((x.alloc (.cells Z8 68)).alloc (.cells Z0 70)))
  have ha := Lib.hid ((hws.out x).grow (Grow.alloc (x.alloc (.cells Z8 68)) (.cells Z0 70)))
  have he := Lib.hid (hrs.out (x.alloc (.cells Z8 68)))
  rw [hsz0] at he
  rw [hsz] at H1
  replace g1 := Lib.hid (below_grow (below_grow g1.out hxs (Grow.alloc x (.cells Z8 68))) (by omega) (Grow.alloc (x.alloc (.cells Z8 68)) (.cells Z0 70)))
  refine H1.out.mono ?_
  rintro e z1 ⟨rfl, hb, g2⟩
  replace ha := Lib.hid (ha.out.grow g2)
  replace he := Lib.hid (he.out.grow g2)
  replace g1 := Lib.hid (below_grow g1.out (by omega) g2)
  have hz1 : x.heap.size + 2 < z1.heap.size := hb.lt
  replace hb := Lib.hid hb
  have H2 := Lib.hid (newReader_rs ⟨#[]⟩ z1)
  clear g2 H1 hsz hsz0
  go_wp2_with fail
  refine H2.out.mono ?_
  rintro e z2 ⟨rfl, hr, g2⟩
  have hL : Hid (L4 K N W x.heap.size (x.heap.size + 2) (x.heap.size + 1) z1.heap.size 0 0 0 0 z2) := by
    refine Lib.hid ⟨⟨⟨none, none, (ha.out.grow g2).lower hxs, (hb.out.grow g2).lower (by omega), fun k e => by cases e⟩, by omega⟩, he.out.grow g2, hr, by omega, by omega, by omega, below_grow g1.out (by omega) g2⟩
  clear ha he hb hr g1 g2 H2
  go_upto_block 1 with fail
  obtain ⟨m, hm1, hm2, hm3⟩ : ∃ m, m ≤ n ∧ m ≤ 60 ∧ (m = n ∨ m = 60) := ⟨min n 60, by omega, by omega, by omega⟩
  go_loopg [10] m (fun k s10 wr => ∃ i, i + k = m ∧ s10 = .int .i64 (i : Int) ∧ Hid (L4 K N W x.heap.size (x.heap.size + 2) (x.heap.size + 1) z1.heap.size i i i i wr))
  case atStart => exact ⟨0, by omega, rfl, hL⟩
  case round =>
    obtain ⟨i, hik, rfl, HR⟩ := hrel
    clear hL
    go_upto_region 11 with fail
    go_cut [33] (fun s22 wx => s22 = .bool (decide (i < m)) ∧ wx = wr)
    case first =>
      by_cases h1 : (i : Int) < n
      · by_cases h2 : (i : Int) < 60
        · have hd : decide (i < m) = true := decide_eq_true (by omega)
          go_wp2
          go_meet
          exact ⟨by rw [hd], rfl⟩
        · have hd : decide (i < m) = false := decide_eq_false (by omega)
          go_wp2
          go_meet
          exact ⟨by rw [hd], rfl⟩
      · have hd : decide (i < m) = false := decide_eq_false (by omega)
        go_wp2
        go_meet
        exact ⟨by rw [hd], rfl⟩
    case rest =>
    obtain ⟨rfl, hwc⟩ := hcut
    rw [hwc]
    clear hwc
    cases gk with
    | succ k =>
      have hd : decide (i < m) = true := decide_eq_true (by omega)
      rw [hd]
      have hlt : i < n := by omega
      obtain ⟨a, rfl, hab, hk, hn⟩ := zh.out i hlt
      obtain ⟨ck, cn⟩ := pair_cells hab hk hn
      have hWd : Below W.heap.size W wr.drew := (HR.out.grow (Grow.drew _)).below
      replace zh := Lib.hid zh.out
      clear hd hab hk hn
      go_upto_region 13 with fail
      refine wp_region_call1 ?lit13 ?hlit13 (by kernel_rfl) (by kernel_rfl) (by kernel_rfl) (by kernel_rfl) 11 (by decide) (fun ii => ([(.pointer none), (.slice (some a) n c), (.int .i64 ((i : Int))), (.pointer (some (a.add (i * 2)))), (.pointer (some (a.add (i * 2)))), (.int .i64 (K i)), (.slice (some a) n c), (.int .i64 ((i : Int))), (.pointer (some (a.add (i * 2)))), (.pointer (some ((a.add (i * 2)).add 1))), (.int .i64 (N i)), (.tuple #[])] : List Value).getD ii undef) (fun xx => Below W.heap.size W xx) (L4 K N W x.heap.size (x.heap.size + 2) (x.heap.size + 1) z1.heap.size (i) (i) (i) (i)) ?_ (fun x h => h.below) ?_ ?_ ?_
      case hlit13 =>
        intro uu
        simp only [fill, Act.put, Nat.zero_add, Nat.reduceAdd, List.setIfInBounds_toArray, List.set_cons_zero, List.set_cons_succ]
        rfl
      · exact hWd
      · intro ii oo ho him uu xx hx hd
        replace hx : Below W.heap.size W xx := hx
        have hi : ii < 12 := (List.getElem?_eq_some_iff.1 ho).1
        obtain rfl | rfl | rfl | rfl | rfl | rfl | rfl | rfl | rfl | rfl | rfl | rfl : ii = 0 ∨ ii = 1 ∨ ii = 2 ∨ ii = 3 ∨ ii = 4 ∨ ii = 5 ∨ ii = 6 ∨ ii = 7 ∨ ii = 8 ∨ ii = 9 ∨ ii = 10 ∨ ii = 11 := by omega
        · simp only [List.getElem?_cons_zero, Option.some.injEq] at ho; subst ho
          exact run_mv _ rfl rfl
        · simp only [List.getElem?_cons_succ, List.getElem?_cons_zero, Option.some.injEq] at ho; subst ho
          exact run_mv _ rfl rfl
        · simp only [List.getElem?_cons_succ, List.getElem?_cons_zero, Option.some.injEq] at ho; subst ho
          exact run_mv _ rfl rfl
        · simp only [List.getElem?_cons_succ, List.getElem?_cons_zero, Option.some.injEq] at ho; subst ho
          have e1 : uu 1 = (.slice (some a) n c) := hd 1 (by kernel_rfl)
          have e2 : uu 2 = (.int .i64 ((i : Int))) := hd 2 (by kernel_rfl)
          exact run_ia36 a _ _ i hlt rfl e1 e2
        · simp only [List.getElem?_cons_succ, List.getElem?_cons_zero, Option.some.injEq] at ho; subst ho
          have e1 : uu 3 = (.pointer (some (a.add (i * 2)))) := hd 3 (by kernel_rfl)
          exact run_fa43_0 _ rfl e1
        · simp only [List.getElem?_cons_succ, List.getElem?_cons_zero, Option.some.injEq] at ho; subst ho
          have e1 : uu 4 = (.pointer (some (a.add (i * 2)))) := hd 4 (by kernel_rfl)
          exact run_ld3 _ _ rfl e1 (ck _ hx)
        · simp only [List.getElem?_cons_succ, List.getElem?_cons_zero, Option.some.injEq] at ho; subst ho
          exact run_mv _ rfl rfl
        · simp only [List.getElem?_cons_succ, List.getElem?_cons_zero, Option.some.injEq] at ho; subst ho
          exact run_mv _ rfl rfl
        · simp only [List.getElem?_cons_succ, List.getElem?_cons_zero, Option.some.injEq] at ho; subst ho
          have e1 : uu 6 = (.slice (some a) n c) := hd 6 (by kernel_rfl)
          have e2 : uu 7 = (.int .i64 ((i : Int))) := hd 7 (by kernel_rfl)
          exact run_ia36 a _ _ i hlt rfl e1 e2
        · simp only [List.getElem?_cons_succ, List.getElem?_cons_zero, Option.some.injEq] at ho; subst ho
          have e1 : uu 8 = (.pointer (some (a.add (i * 2)))) := hd 8 (by kernel_rfl)
          exact run_fa43_1 _ rfl e1
        · simp only [List.getElem?_cons_succ, List.getElem?_cons_zero, Option.some.injEq] at ho; subst ho
          have e1 : uu 9 = (.pointer (some ((a.add (i * 2)).add 1))) := hd 9 (by kernel_rfl)
          exact run_ld3 _ _ rfl e1 (cn _ hx)
        · exact absurd rfl him
      · intro oo ho uu hd
        simp only [List.getElem?_cons_succ, List.getElem?_cons_zero, Option.some.injEq] at ho; subst ho
        have e1 : uu 0 = (.pointer none) := hd 0 (by kernel_rfl)
        have e2 : uu 5 = (.int .i64 (K i)) := hd 5 (by kernel_rfl)
        have e3 : uu 10 = (.int .i64 (N i)) := hd 10 (by kernel_rfl)
        exact ⟨21, _, run_c21 _ _ _ rfl rfl e1 e2 e3, (bit_nil _ _ _).mono (fun e w1 h => ⟨h.1, (HR.out.grow (Grow.drew _)).grow h.2⟩)⟩
      · intro y13 h13
        replace h13 := Lib.hid h13
        clear HR hWd
        have hWd : Below W.heap.size W y13.drew := (h13.out.grow (Grow.drew _)).below
        go_upto_region 14 with fail
        refine wp_region_call1 ?lit14 ?hlit14 (by kernel_rfl) (by kernel_rfl) (by kernel_rfl) (by kernel_rfl) 11 (by decide) (fun ii => ([(.pointer (some (⟨x.heap.size, 0, none⟩))), (.slice (some a) n c), (.int .i64 ((i : Int))), (.pointer (some (a.add (i * 2)))), (.pointer (some (a.add (i * 2)))), (.int .i64 (K i)), (.slice (some a) n c), (.int .i64 ((i : Int))), (.pointer (some (a.add (i * 2)))), (.pointer (some ((a.add (i * 2)).add 1))), (.int .i64 (N i)), (.tuple #[])] : List Value).getD ii undef) (fun xx => Below W.heap.size W xx) (L4 K N W x.heap.size (x.heap.size + 2) (x.heap.size + 1) z1.heap.size (i + 1) (i) (i) (i)) ?_ (fun x h => h.below) ?_ ?_ ?_
        case hlit14 =>
          intro uu
          simp only [fill, Act.put, Nat.zero_add, Nat.reduceAdd, List.setIfInBounds_toArray, List.set_cons_zero, List.set_cons_succ]
          rfl
        · exact hWd
        · intro ii oo ho him uu xx hx hd
          replace hx : Below W.heap.size W xx := hx
          have hi : ii < 12 := (List.getElem?_eq_some_iff.1 ho).1
          obtain rfl | rfl | rfl | rfl | rfl | rfl | rfl | rfl | rfl | rfl | rfl | rfl : ii = 0 ∨ ii = 1 ∨ ii = 2 ∨ ii = 3 ∨ ii = 4 ∨ ii = 5 ∨ ii = 6 ∨ ii = 7 ∨ ii = 8 ∨ ii = 9 ∨ ii = 10 ∨ ii = 11 := by omega
          · simp only [List.getElem?_cons_zero, Option.some.injEq] at ho; subst ho
            exact run_mv _ rfl rfl
          · simp only [List.getElem?_cons_succ, List.getElem?_cons_zero, Option.some.injEq] at ho; subst ho
            exact run_mv _ rfl rfl
          · simp only [List.getElem?_cons_succ, List.getElem?_cons_zero, Option.some.injEq] at ho; subst ho
            exact run_mv _ rfl rfl
          · simp only [List.getElem?_cons_succ, List.getElem?_cons_zero, Option.some.injEq] at ho; subst ho
            have e1 : uu 1 = (.slice (some a) n c) := hd 1 (by kernel_rfl)
            have e2 : uu 2 = (.int .i64 ((i : Int))) := hd 2 (by kernel_rfl)
            exact run_ia36 a _ _ i hlt rfl e1 e2
          · simp only [List.getElem?_cons_succ, List.getElem?_cons_zero, Option.some.injEq] at ho; subst ho
            have e1 : uu 3 = (.pointer (some (a.add (i * 2)))) := hd 3 (by kernel_rfl)
            exact run_fa43_0 _ rfl e1
          · simp only [List.getElem?_cons_succ, List.getElem?_cons_zero, Option.some.injEq] at ho; subst ho
            have e1 : uu 4 = (.pointer (some (a.add (i * 2)))) := hd 4 (by kernel_rfl)
            exact run_ld3 _ _ rfl e1 (ck _ hx)
          · simp only [List.getElem?_cons_succ, List.getElem?_cons_zero, Option.some.injEq] at ho; subst ho
            exact run_mv _ rfl rfl
          · simp only [List.getElem?_cons_succ, List.getElem?_cons_zero, Option.some.injEq] at ho; subst ho
            exact run_mv _ rfl rfl
          · simp only [List.getElem?_cons_succ, List.getElem?_cons_zero, Option.some.injEq] at ho; subst ho
            have e1 : uu 6 = (.slice (some a) n c) := hd 6 (by kernel_rfl)
            have e2 : uu 7 = (.int .i64 ((i : Int))) := hd 7 (by kernel_rfl)
            exact run_ia36 a _ _ i hlt rfl e1 e2
          · simp only [List.getElem?_cons_succ, List.getElem?_cons_zero, Option.some.injEq] at ho; subst ho
            have e1 : uu 8 = (.pointer (some (a.add (i * 2)))) := hd 8 (by kernel_rfl)
            exact run_fa43_1 _ rfl e1
          · simp only [List.getElem?_cons_succ, List.getElem?_cons_zero, Option.some.injEq] at ho; subst ho
            have e1 : uu 9 = (.pointer (some ((a.add (i * 2)).add 1))) := hd 9 (by kernel_rfl)
            exact run_ld3 _ _ rfl e1 (cn _ hx)
          · exact absurd rfl him
        · intro oo ho uu hd
          simp only [List.getElem?_cons_succ, List.getElem?_cons_zero, Option.some.injEq] at ho; subst ho
          have e1 : uu 0 = (.pointer (some (⟨x.heap.size, 0, none⟩))) := hd 0 (by kernel_rfl)
          have e2 : uu 5 = (.int .i64 (K i)) := hd 5 (by kernel_rfl)
          have e3 : uu 10 = (.int .i64 (N i)) := hd 10 (by kernel_rfl)
          exact ⟨21, _, run_c21 _ _ _ rfl rfl e1 e2 e3, h13.out.bit (by omega)⟩
        · intro y14 h14
          replace h14 := Lib.hid h14
          clear h13 hWd
          have hWd : Below W.heap.size W y14.drew := (h14.out.grow (Grow.drew _)).below
          go_upto_region 15 with fail
          refine wp_region_call1 ?lit15 ?hlit15 (by kernel_rfl) (by kernel_rfl) (by kernel_rfl) (by kernel_rfl) 11 (by decide) (fun ii => ([(.pointer (some (⟨x.heap.size + 2, 0, none⟩))), (.slice (some a) n c), (.int .i64 ((i : Int))), (.pointer (some (a.add (i * 2)))), (.pointer (some (a.add (i * 2)))), (.int .i64 (K i)), (.slice (some a) n c), (.int .i64 ((i : Int))), (.pointer (some (a.add (i * 2)))), (.pointer (some ((a.add (i * 2)).add 1))), (.int .i64 (N i)), (.tuple #[])] : List Value).getD ii undef) (fun xx => Below W.heap.size W xx) (L4 K N W (x.heap.size + 2) x.heap.size (x.heap.size + 1) z1.heap.size (i + 1) (i + 1) (i) (i)) ?_ (fun x h => h.below) ?_ ?_ ?_
          case hlit15 =>
            intro uu
            simp only [fill, Act.put, Nat.zero_add, Nat.reduceAdd, List.setIfInBounds_toArray, List.set_cons_zero, List.set_cons_succ]
            rfl
          · exact hWd
          · intro ii oo ho him uu xx hx hd
            replace hx : Below W.heap.size W xx := hx
            have hi : ii < 12 := (List.getElem?_eq_some_iff.1 ho).1
            obtain rfl | rfl | rfl | rfl | rfl | rfl | rfl | rfl | rfl | rfl | rfl | rfl : ii = 0 ∨ ii = 1 ∨ ii = 2 ∨ ii = 3 ∨ ii = 4 ∨ ii = 5 ∨ ii = 6 ∨ ii = 7 ∨ ii = 8 ∨ ii = 9 ∨ ii = 10 ∨ ii = 11 := by omega
            · simp only [List.getElem?_cons_zero, Option.some.injEq] at ho; subst ho
              exact run_mv _ rfl rfl
            · simp only [List.getElem?_cons_succ, List.getElem?_cons_zero, Option.some.injEq] at ho; subst ho
              exact run_mv _ rfl rfl
            · simp only [List.getElem?_cons_succ, List.getElem?_cons_zero, Option.some.injEq] at ho; subst ho
              exact run_mv _ rfl rfl
            · simp only [List.getElem?_cons_succ, List.getElem?_cons_zero, Option.some.injEq] at ho; subst ho
              have e1 : uu 1 = (.slice (some a) n c) := hd 1 (by kernel_rfl)
              have e2 : uu 2 = (.int .i64 ((i : Int))) := hd 2 (by kernel_rfl)
              exact run_ia36 a _ _ i hlt rfl e1 e2
            · simp only [List.getElem?_cons_succ, List.getElem?_cons_zero, Option.some.injEq] at ho; subst ho
              have e1 : uu 3 = (.pointer (some (a.add (i * 2)))) := hd 3 (by kernel_rfl)
              exact run_fa43_0 _ rfl e1
            · simp only [List.getElem?_cons_succ, List.getElem?_cons_zero, Option.some.injEq] at ho; subst ho
              have e1 : uu 4 = (.pointer (some (a.add (i * 2)))) := hd 4 (by kernel_rfl)
              exact run_ld3 _ _ rfl e1 (ck _ hx)
            · simp only [List.getElem?_cons_succ, List.getElem?_cons_zero, Option.some.injEq] at ho; subst ho
              exact run_mv _ rfl rfl
            · simp only [List.getElem?_cons_succ, List.getElem?_cons_zero, Option.some.injEq] at ho; subst ho
              exact run_mv _ rfl rfl
            · simp only [List.getElem?_cons_succ, List.getElem?_cons_zero, Option.some.injEq] at ho; subst ho
              have e1 : uu 6 = (.slice (some a) n c) := hd 6 (by kernel_rfl)
              have e2 : uu 7 = (.int .i64 ((i : Int))) := hd 7 (by kernel_rfl)
              exact run_ia36 a _ _ i hlt rfl e1 e2
            · simp only [List.getElem?_cons_succ, List.getElem?_cons_zero, Option.some.injEq] at ho; subst ho
              have e1 : uu 8 = (.pointer (some (a.add (i * 2)))) := hd 8 (by kernel_rfl)
              exact run_fa43_1 _ rfl e1
            · simp only [List.getElem?_cons_succ, List.getElem?_cons_zero, Option.some.injEq] at ho; subst ho
              have e1 : uu 9 = (.pointer (some ((a.add (i * 2)).add 1))) := hd 9 (by kernel_rfl)
              exact run_ld3 _ _ rfl e1 (cn _ hx)
            · exact absurd rfl him
          · intro oo ho uu hd
            simp only [List.getElem?_cons_succ, List.getElem?_cons_zero, Option.some.injEq] at ho; subst ho
            have e1 : uu 0 = (.pointer (some (⟨x.heap.size + 2, 0, none⟩))) := hd 0 (by kernel_rfl)
            have e2 : uu 5 = (.int .i64 (K i)) := hd 5 (by kernel_rfl)
            have e3 : uu 10 = (.int .i64 (N i)) := hd 10 (by kernel_rfl)
            exact ⟨21, _, run_c21 _ _ _ rfl rfl e1 e2 e3, h14.out.swap.bit (by omega)⟩
          · intro y15 h15
            replace h15 := Lib.hid (L4.swap h15)
            clear h14 hWd
            have hlt2 : (i : Int) < n := by omega
            have c15 := ck y15 h15.out.below
            have H16 := Lib.hid (h15.out.rbit (by omega))
            go_wp2_with fail
            refine H16.out.mono ?_
            rintro e y16 ⟨rfl, h16⟩
            replace h16 := Lib.hid (L4.flip h16)
            have c16 := ck y16 h16.out.below
            have H17 := Lib.hid (h16.out.rbit (by omega))
            clear h15 H16 c15
            go_wp2_with fail
            refine H17.out.mono ?_
            rintro e y17 ⟨rfl, h17⟩
            replace h17 := Lib.hid (L4.flip h17)
            have c17 := ck y17 h17.out.below
            have H18 := Lib.hid (rbit_nil (K i) y17)
            clear h16 H17 c16
            go_wp2_with fail
            refine H18.out.mono ?_
            rintro e y18 ⟨rfl, rfl⟩
            have H19 := Lib.hid h17.out.re.used
            have H20 := Lib.hid h17.out.rr.used
            clear H18
            go_wp2_with fail
            refine H19.out.mono ?_
            rintro e y19 ⟨rfl, rfl⟩
            go_wp2_with fail
            refine H20.out.mono ?_
            rintro e y20 ⟨rfl, rfl⟩
            clear H19 H20
            go_wp2
            go_roundg k
            case measure => omega
            case rel => exact ⟨i + 1, by omega, by rw [Int.natCast_add]; rfl, h17⟩
    | zero =>
      obtain rfl : i = m := by omega
      have hd : decide (i < i) = false := decide_eq_false (by omega)
      rw [hd]
      have HB0 := Lib.hid (bytes_nil wr)
      go_wp2_with fail
      refine HB0.out.mono ?_
      rintro e y1 ⟨rfl, rfl⟩
      clear HB0
      have HU0 := Lib.hid (used_nil y1)
      go_wp2_with fail
      refine HU0.out.mono ?_
      rintro e y2 ⟨rfl, rfl⟩
      clear HU0
      have HA := Lib.hid (HR.out.lw.bytes (by omega))
      go_wp2_with fail
      refine HA.out.mono ?_
      rintro e y3 ⟨rfl, g2⟩
      have hR2 := HR.out.grow g2
      have HB := Lib.hid (hR2.swap.lw.bytes (by omega))
      have hbe := Lib.hid hR2.below
      clear HA HR g2 hR2
      go_wp2_with fail
      refine HB.out.mono ?_
      rintro e y4 ⟨rfl, g2⟩
      have hbe2 := Lib.hid (below_grow hbe.out hbe.out.size g2)
      clear HB g2 hbe
      have HU := Lib.hid (used_rs (hrs.out y4))
      go_wp2_with fail
      refine HU.out.mono ?_
      rintro e y5 ⟨rfl, rfl⟩
      have hbe3 := Lib.hid (below_grow hbe2.out hbe2.out.size (Grow.alloc y4 (.cells Z0 70)))
      go_wp2
      go_ret
      exact ⟨rfl, hbe3.out⟩
end coderNil
end Go.Proofs.Ytdepfgeomceiiaa

