/- Walks of layer 3 (rect): Scale and Shrink. -/
import Derived.Test.YtplnhmfkflnhpaaA
import Derived.Test.YtplnhmfkflnhpaaA6
set_option linter.unusedVariables false
namespace Go.Proofs.Ytplnhmfkflnhpaa
open Go.RowKit
def scaR (r : R) (k : Int) : R := ⟨wrap64 (r.x0 * k), wrap64 (r.y0 * k), wrap64 (r.x1 * k), wrap64 (r.y1 * k)⟩
/-- f of the zoom factor, or the zero rectangle. -/
def zm (r : R) (z : Int) (f : R → Int → R) : R := if z < 0 ∨ 4 < z ∨ emp r = true then R.zero else f r (2 ^ z.toNat)
theorem BoxR.kept' {W W' : World} {b : Nat} {r : R} (h : BoxR W b r) (hB : Below W.heap.size W W') : BoxR W' b r := h.below h.lt hB
theorem below_setRow (w : World) (g : Nat) (c : Array Value) (n : Nat) (h : n ≤ g) : Below n w (w.setRow g c) :=
  ⟨rfl, rfl, rfl, by simp, fun k hk => setRow_other w g k c (by omega)⟩
/-- The store of a rectangle into a block that holds one. -/
theorem wpList_store_R {ops : Array Oper} {rest : List Oper} {o : Oper} {a : Act} {w : World} {Q : Exit → Act → World → Prop} (hgd : o.guard = none) (x y : Operand) (ho : o.op = .store 26 x y)
    (g : Nat) (r r0 : R) (hx : a.eval x = .pointer (some ⟨g, 0, none⟩)) (hy : a.eval y = .agg #[.int .i64 r.x0, .int .i64 r.y0, .int .i64 r.x1, .int .i64 r.y1]) (hN : BoxR w g r0)
    (h : ∀ w', BoxR w' g r → (∀ n, n ≤ g → Below n w w') → wpList Try.prog ops Q rest (a.put o.dst undef) w') : wpList Try.prog ops Q (o :: rest) a w := by
  refine wpList_store_row hgd 26 x y ho g _ hx hy 26 _ hN (show (Try.prog.info? 26).map (·.size) = some 4 by kernel_rfl) rfl (by simp [Value.oneCell']) ?_
  refine h _ ?_ (fun n hn => below_setRow w g _ n hn)
  exact setRow_heap w g _ _ 26 (0, 0) hN
set_option maxRecDepth 100000 in
set_option maxHeartbeats 1000000 in
theorem scale1_any (r : R) (k : Int) (b : Nat) (w : World) (hr : BoxR w b r) : Calls Try.prog 48 #[.int .i64 k, .pointer (some ⟨b, 0, none⟩)] w fun e w' => e = .returned (.agg #[.int .i64 (scaR r k).x0, .int .i64 (scaR r k).y0, .int .i64 (scaR r k).x1, .int .i64 (scaR r k).y1]) ∧ Below w.heap.size w w' := by
  have hr1 := hr.kept' (ball w (.cells #[.int .i64 0, .int .i64 0, .int .i64 0, .int .i64 0] 26))
  have c0 := hr1.c0
  have c1 := hr1.c1
  have c2 := hr1.c2
  have c3 := hr1.c3
  go_enter Try.func48, Try.ntmps48
  go_wp2
  exact bodyPost_ret (v := .agg #[.int .i64 (wrap64 (r.x0 * k)), .int .i64 (wrap64 (r.y0 * k)), .int .i64 (wrap64 (r.x1 * k)), .int .i64 (wrap64 (r.y1 * k))]) (by simp [results, Try.results48, go_sem]) rfl ⟨rfl, ball _ _⟩
theorem shrink1_R (r : R) (k : Int) (b : Nat) (w : World) (hr : BoxR w b r) : Calls Try.prog 49 #[.int .i64 k, .pointer (some ⟨b, 0, none⟩)] w fun e w' => e = .returned (.agg #[.int .i64 (shrR r k).x0, .int .i64 (shrR r k).y0, .int .i64 (shrR r k).x1, .int .i64 (shrR r k).y1]) ∧ Below w.heap.size w w' := shrink1_any r k b w hr

set_option maxRecDepth 100000 in
set_option maxHeartbeats 2000000 in
theorem zoomed_scale (r : R) (z : Int) (b : Nat) (w : World) (hr : BoxR w b r) : Calls Try.prog 47 #[.agg #[.int .i64 r.x0, .int .i64 r.y0, .int .i64 r.x1, .int .i64 r.y1], .int .i64 z, .func (.func 48) #[] #[.pointer (some ⟨b, 0, none⟩)]] w fun e w' => e = .returned (.agg #[.int .i64 (zm r z scaR).x0, .int .i64 (zm r z scaR).y0, .int .i64 (zm r z scaR).x1, .int .i64 (zm r z scaR).y1]) ∧ Below w.heap.size w w' := by
  have hea : emp ⟨r.x0, r.y0, r.x1, r.y1⟩ = emp r := rfl
  by_cases h : z < 0 ∨ 4 < z ∨ emp r = true
  · have hz : zm r z scaR = R.zero := by unfold zm; rw [if_pos h]
    rw [hz]
    clear hz
    by_cases h1 : z < 0
    · go_enter Try.func47, Try.ntmps47
      go_wp2
      exact bodyPost_ret (v := .agg #[.int .i64 0, .int .i64 0, .int .i64 0, .int .i64 0]) (by simp [results, Try.results47, go_sem]) rfl ⟨rfl, by first | exact ball2 _ _ _ | exact ball3 _ _ _ _⟩
    · by_cases h2 : 4 < z
      · go_enter Try.func47, Try.ntmps47
        go_wp2
        exact bodyPost_ret (v := .agg #[.int .i64 0, .int .i64 0, .int .i64 0, .int .i64 0]) (by simp [results, Try.results47, go_sem]) rfl ⟨rfl, by first | exact ball2 _ _ _ | exact ball3 _ _ _ _⟩
      · have he : emp r = true := by
          rcases h with h | h | h
          · exact absurd h h1
          · exact absurd h h2
          · exact h
        rw [he] at hea
        go_enter Try.func47, Try.ntmps47
        go_wp2_with (go_at_call 22; refine (empty_any _ _ _ _ _).mono ?_; rintro e w2 ⟨rfl, rfl⟩)
        exact bodyPost_ret (v := .agg #[.int .i64 0, .int .i64 0, .int .i64 0, .int .i64 0]) (by simp [results, Try.results47, go_sem]) rfl ⟨rfl, by first | exact ball2 _ _ _ | exact ball3 _ _ _ _⟩
  · have he : emp r = false := by cases hh : emp r; rfl; exact absurd (.inr (.inr hh)) h
    rw [he] at hea
    have hr1 := hr.kept' (ball3 w (.cells #[.int .i64 r.x0, .int .i64 r.y0, .int .i64 r.x1, .int .i64 r.y1] 26) (.cells #[.int .i64 0, .int .i64 0, .int .i64 0, .int .i64 0] 26) (.cells #[.int .i64 r.x0, .int .i64 r.y0, .int .i64 r.x1, .int .i64 r.y1] 26))
    have hN := ((show BoxR _ _ R.zero from World.alloc_heap_new (w.alloc (.cells #[.int .i64 r.x0, .int .i64 r.y0, .int .i64 r.x1, .int .i64 r.y1] 26)) (.cells #[.int .i64 0, .int .i64 0, .int .i64 0, .int .i64 0] 26)).kept' (ball _ (.cells #[.int .i64 r.x0, .int .i64 r.y0, .int .i64 r.x1, .int .i64 r.y1] 26)))
    rw [World.size_alloc] at hN
    have hB0 := ball3 w (.cells #[.int .i64 r.x0, .int .i64 r.y0, .int .i64 r.x1, .int .i64 r.y1] 26) (.cells #[.int .i64 0, .int .i64 0, .int .i64 0, .int .i64 0] 26) (.cells #[.int .i64 r.x0, .int .i64 r.y0, .int .i64 r.x1, .int .i64 r.y1] 26)
    have h1 : 0 ≤ z := by by_cases hh : z < 0; exact absurd (.inl hh) h; omega
    have h2 : z ≤ 4 := by by_cases hh : 4 < z; exact absurd (.inr (.inl hh)) h; omega
    obtain rfl | rfl | rfl | rfl | rfl : z = 0 ∨ z = 1 ∨ z = 2 ∨ z = 3 ∨ z = 4 := by omega
    · have hz : zm r 0 scaR = scaR r 1 := by unfold zm; rw [if_neg h]; rfl
      rw [hz]
      clear hz h h1 h2
      go_enter Try.func47, Try.ntmps47
      go_wp2_with (first
        | (go_at_call 22; refine (empty_any _ _ _ _ _).mono ?_; rintro e w2 ⟨rfl, rfl⟩)
        | (go_at_call 48; refine (scale1_any r 1 b _ hr1).mono ?_; rintro e w2 ⟨rfl, hB⟩; have hN2 := hN.kept' hB)
        | (refine wpList_store_R rfl _ _ rfl (w.heap.size + 1) (scaR r 1) R.zero rfl rfl hN2 ?_; intro w5 hR5 hB5; have c0 := hR5.c0; have c1 := hR5.c1; have c2 := hR5.c2; have c3 := hR5.c3))
      exact bodyPost_ret (v := .agg #[.int .i64 (scaR r 1).x0, .int .i64 (scaR r 1).y0, .int .i64 (scaR r 1).x1, .int .i64 (scaR r 1).y1]) (by simp [results, Try.results47, go_sem, c0, c1, c2, c3]) rfl ⟨rfl, (bt hB0 hB).trans (hB5 _ (by omega))⟩
    · have hz : zm r 1 scaR = scaR r 2 := by unfold zm; rw [if_neg h]; rfl
      rw [hz]
      clear hz h h1 h2
      go_enter Try.func47, Try.ntmps47
      go_wp2_with (first
        | (go_at_call 22; refine (empty_any _ _ _ _ _).mono ?_; rintro e w2 ⟨rfl, rfl⟩)
        | (go_at_call 48; refine (scale1_any r 2 b _ hr1).mono ?_; rintro e w2 ⟨rfl, hB⟩; have hN2 := hN.kept' hB)
        | (refine wpList_store_R rfl _ _ rfl (w.heap.size + 1) (scaR r 2) R.zero rfl rfl hN2 ?_; intro w5 hR5 hB5; have c0 := hR5.c0; have c1 := hR5.c1; have c2 := hR5.c2; have c3 := hR5.c3))
      exact bodyPost_ret (v := .agg #[.int .i64 (scaR r 2).x0, .int .i64 (scaR r 2).y0, .int .i64 (scaR r 2).x1, .int .i64 (scaR r 2).y1]) (by simp [results, Try.results47, go_sem, c0, c1, c2, c3]) rfl ⟨rfl, (bt hB0 hB).trans (hB5 _ (by omega))⟩
    · have hz : zm r 2 scaR = scaR r 4 := by unfold zm; rw [if_neg h]; rfl
      rw [hz]
      clear hz h h1 h2
      go_enter Try.func47, Try.ntmps47
      go_wp2_with (first
        | (go_at_call 22; refine (empty_any _ _ _ _ _).mono ?_; rintro e w2 ⟨rfl, rfl⟩)
        | (go_at_call 48; refine (scale1_any r 4 b _ hr1).mono ?_; rintro e w2 ⟨rfl, hB⟩; have hN2 := hN.kept' hB)
        | (refine wpList_store_R rfl _ _ rfl (w.heap.size + 1) (scaR r 4) R.zero rfl rfl hN2 ?_; intro w5 hR5 hB5; have c0 := hR5.c0; have c1 := hR5.c1; have c2 := hR5.c2; have c3 := hR5.c3))
      exact bodyPost_ret (v := .agg #[.int .i64 (scaR r 4).x0, .int .i64 (scaR r 4).y0, .int .i64 (scaR r 4).x1, .int .i64 (scaR r 4).y1]) (by simp [results, Try.results47, go_sem, c0, c1, c2, c3]) rfl ⟨rfl, (bt hB0 hB).trans (hB5 _ (by omega))⟩
    · have hz : zm r 3 scaR = scaR r 8 := by unfold zm; rw [if_neg h]; rfl
      rw [hz]
      clear hz h h1 h2
      go_enter Try.func47, Try.ntmps47
      go_wp2_with (first
        | (go_at_call 22; refine (empty_any _ _ _ _ _).mono ?_; rintro e w2 ⟨rfl, rfl⟩)
        | (go_at_call 48; refine (scale1_any r 8 b _ hr1).mono ?_; rintro e w2 ⟨rfl, hB⟩; have hN2 := hN.kept' hB)
        | (refine wpList_store_R rfl _ _ rfl (w.heap.size + 1) (scaR r 8) R.zero rfl rfl hN2 ?_; intro w5 hR5 hB5; have c0 := hR5.c0; have c1 := hR5.c1; have c2 := hR5.c2; have c3 := hR5.c3))
      exact bodyPost_ret (v := .agg #[.int .i64 (scaR r 8).x0, .int .i64 (scaR r 8).y0, .int .i64 (scaR r 8).x1, .int .i64 (scaR r 8).y1]) (by simp [results, Try.results47, go_sem, c0, c1, c2, c3]) rfl ⟨rfl, (bt hB0 hB).trans (hB5 _ (by omega))⟩
    · have hz : zm r 4 scaR = scaR r 16 := by unfold zm; rw [if_neg h]; rfl
      rw [hz]
      clear hz h h1 h2
      go_enter Try.func47, Try.ntmps47
      go_wp2_with (first
        | (go_at_call 22; refine (empty_any _ _ _ _ _).mono ?_; rintro e w2 ⟨rfl, rfl⟩)
        | (go_at_call 48; refine (scale1_any r 16 b _ hr1).mono ?_; rintro e w2 ⟨rfl, hB⟩; have hN2 := hN.kept' hB)
        | (refine wpList_store_R rfl _ _ rfl (w.heap.size + 1) (scaR r 16) R.zero rfl rfl hN2 ?_; intro w5 hR5 hB5; have c0 := hR5.c0; have c1 := hR5.c1; have c2 := hR5.c2; have c3 := hR5.c3))
      exact bodyPost_ret (v := .agg #[.int .i64 (scaR r 16).x0, .int .i64 (scaR r 16).y0, .int .i64 (scaR r 16).x1, .int .i64 (scaR r 16).y1]) (by simp [results, Try.results47, go_sem, c0, c1, c2, c3]) rfl ⟨rfl, (bt hB0 hB).trans (hB5 _ (by omega))⟩

set_option maxRecDepth 100000 in
set_option maxHeartbeats 2000000 in
theorem zoomed_shrink (r : R) (z : Int) (b : Nat) (w : World) (hr : BoxR w b r) : Calls Try.prog 47 #[.agg #[.int .i64 r.x0, .int .i64 r.y0, .int .i64 r.x1, .int .i64 r.y1], .int .i64 z, .func (.func 49) #[] #[.pointer (some ⟨b, 0, none⟩)]] w fun e w' => e = .returned (.agg #[.int .i64 (zm r z shrR).x0, .int .i64 (zm r z shrR).y0, .int .i64 (zm r z shrR).x1, .int .i64 (zm r z shrR).y1]) ∧ Below w.heap.size w w' := by
  have hea : emp ⟨r.x0, r.y0, r.x1, r.y1⟩ = emp r := rfl
  by_cases h : z < 0 ∨ 4 < z ∨ emp r = true
  · have hz : zm r z shrR = R.zero := by unfold zm; rw [if_pos h]
    rw [hz]
    clear hz
    by_cases h1 : z < 0
    · go_enter Try.func47, Try.ntmps47
      go_wp2
      exact bodyPost_ret (v := .agg #[.int .i64 0, .int .i64 0, .int .i64 0, .int .i64 0]) (by simp [results, Try.results47, go_sem]) rfl ⟨rfl, by first | exact ball2 _ _ _ | exact ball3 _ _ _ _⟩
    · by_cases h2 : 4 < z
      · go_enter Try.func47, Try.ntmps47
        go_wp2
        exact bodyPost_ret (v := .agg #[.int .i64 0, .int .i64 0, .int .i64 0, .int .i64 0]) (by simp [results, Try.results47, go_sem]) rfl ⟨rfl, by first | exact ball2 _ _ _ | exact ball3 _ _ _ _⟩
      · have he : emp r = true := by
          rcases h with h | h | h
          · exact absurd h h1
          · exact absurd h h2
          · exact h
        rw [he] at hea
        go_enter Try.func47, Try.ntmps47
        go_wp2_with (go_at_call 22; refine (empty_any _ _ _ _ _).mono ?_; rintro e w2 ⟨rfl, rfl⟩)
        exact bodyPost_ret (v := .agg #[.int .i64 0, .int .i64 0, .int .i64 0, .int .i64 0]) (by simp [results, Try.results47, go_sem]) rfl ⟨rfl, by first | exact ball2 _ _ _ | exact ball3 _ _ _ _⟩
  · have he : emp r = false := by cases hh : emp r; rfl; exact absurd (.inr (.inr hh)) h
    rw [he] at hea
    have hr1 := hr.kept' (ball3 w (.cells #[.int .i64 r.x0, .int .i64 r.y0, .int .i64 r.x1, .int .i64 r.y1] 26) (.cells #[.int .i64 0, .int .i64 0, .int .i64 0, .int .i64 0] 26) (.cells #[.int .i64 r.x0, .int .i64 r.y0, .int .i64 r.x1, .int .i64 r.y1] 26))
    have hN := ((show BoxR _ _ R.zero from World.alloc_heap_new (w.alloc (.cells #[.int .i64 r.x0, .int .i64 r.y0, .int .i64 r.x1, .int .i64 r.y1] 26)) (.cells #[.int .i64 0, .int .i64 0, .int .i64 0, .int .i64 0] 26)).kept' (ball _ (.cells #[.int .i64 r.x0, .int .i64 r.y0, .int .i64 r.x1, .int .i64 r.y1] 26)))
    rw [World.size_alloc] at hN
    have hB0 := ball3 w (.cells #[.int .i64 r.x0, .int .i64 r.y0, .int .i64 r.x1, .int .i64 r.y1] 26) (.cells #[.int .i64 0, .int .i64 0, .int .i64 0, .int .i64 0] 26) (.cells #[.int .i64 r.x0, .int .i64 r.y0, .int .i64 r.x1, .int .i64 r.y1] 26)
    have h1 : 0 ≤ z := by by_cases hh : z < 0; exact absurd (.inl hh) h; omega
    have h2 : z ≤ 4 := by by_cases hh : 4 < z; exact absurd (.inr (.inl hh)) h; omega
    obtain rfl | rfl | rfl | rfl | rfl : z = 0 ∨ z = 1 ∨ z = 2 ∨ z = 3 ∨ z = 4 := by omega
    · have hz : zm r 0 shrR = shrR r 1 := by unfold zm; rw [if_neg h]; rfl
      rw [hz]
      clear hz h h1 h2
      go_enter Try.func47, Try.ntmps47
      go_wp2_with (first
        | (go_at_call 22; refine (empty_any _ _ _ _ _).mono ?_; rintro e w2 ⟨rfl, rfl⟩)
        | (go_at_call 49; refine (shrink1_R r 1 b _ hr1).mono ?_; rintro e w2 ⟨rfl, hB⟩; have hN2 := hN.kept' hB)
        | (refine wpList_store_R rfl _ _ rfl (w.heap.size + 1) (shrR r 1) R.zero rfl rfl hN2 ?_; intro w5 hR5 hB5; have c0 := hR5.c0; have c1 := hR5.c1; have c2 := hR5.c2; have c3 := hR5.c3))
      exact bodyPost_ret (v := .agg #[.int .i64 (shrR r 1).x0, .int .i64 (shrR r 1).y0, .int .i64 (shrR r 1).x1, .int .i64 (shrR r 1).y1]) (by simp [results, Try.results47, go_sem, c0, c1, c2, c3]) rfl ⟨rfl, (bt hB0 hB).trans (hB5 _ (by omega))⟩
    · have hz : zm r 1 shrR = shrR r 2 := by unfold zm; rw [if_neg h]; rfl
      rw [hz]
      clear hz h h1 h2
      go_enter Try.func47, Try.ntmps47
      go_wp2_with (first
        | (go_at_call 22; refine (empty_any _ _ _ _ _).mono ?_; rintro e w2 ⟨rfl, rfl⟩)
        | (go_at_call 49; refine (shrink1_R r 2 b _ hr1).mono ?_; rintro e w2 ⟨rfl, hB⟩; have hN2 := hN.kept' hB)
        | (refine wpList_store_R rfl _ _ rfl (w.heap.size + 1) (shrR r 2) R.zero rfl rfl hN2 ?_; intro w5 hR5 hB5; have c0 := hR5.c0; have c1 := hR5.c1; have c2 := hR5.c2; have c3 := hR5.c3))
      exact bodyPost_ret (v := .agg #[.int .i64 (shrR r 2).x0, .int .i64 (shrR r 2).y0, .int .i64 (shrR r 2).x1, .int .i64 (shrR r 2).y1]) (by simp [results, Try.results47, go_sem, c0, c1, c2, c3]) rfl ⟨rfl, (bt hB0 hB).trans (hB5 _ (by omega))⟩
    · have hz : zm r 2 shrR = shrR r 4 := by unfold zm; rw [if_neg h]; rfl
      rw [hz]
      clear hz h h1 h2
      go_enter Try.func47, Try.ntmps47
      go_wp2_with (first
        | (go_at_call 22; refine (empty_any _ _ _ _ _).mono ?_; rintro e w2 ⟨rfl, rfl⟩)
        | (go_at_call 49; refine (shrink1_R r 4 b _ hr1).mono ?_; rintro e w2 ⟨rfl, hB⟩; have hN2 := hN.kept' hB)
        | (refine wpList_store_R rfl _ _ rfl (w.heap.size + 1) (shrR r 4) R.zero rfl rfl hN2 ?_; intro w5 hR5 hB5; have c0 := hR5.c0; have c1 := hR5.c1; have c2 := hR5.c2; have c3 := hR5.c3))
      exact bodyPost_ret (v := .agg #[.int .i64 (shrR r 4).x0, .int .i64 (shrR r 4).y0, .int .i64 (shrR r 4).x1, .int .i64 (shrR r 4).y1]) (by simp [results, Try.results47, go_sem, c0, c1, c2, c3]) rfl ⟨rfl, (bt hB0 hB).trans (hB5 _ (by omega))⟩
    · have hz : zm r 3 shrR = shrR r 8 := by unfold zm; rw [if_neg h]; rfl
      rw [hz]
      clear hz h h1 h2
      go_enter Try.func47, Try.ntmps47
      go_wp2_with (first
        | (go_at_call 22; refine (empty_any _ _ _ _ _).mono ?_; rintro e w2 ⟨rfl, rfl⟩)
        | (go_at_call 49; refine (shrink1_R r 8 b _ hr1).mono ?_; rintro e w2 ⟨rfl, hB⟩; have hN2 := hN.kept' hB)
        | (refine wpList_store_R rfl _ _ rfl (w.heap.size + 1) (shrR r 8) R.zero rfl rfl hN2 ?_; intro w5 hR5 hB5; have c0 := hR5.c0; have c1 := hR5.c1; have c2 := hR5.c2; have c3 := hR5.c3))
      exact bodyPost_ret (v := .agg #[.int .i64 (shrR r 8).x0, .int .i64 (shrR r 8).y0, .int .i64 (shrR r 8).x1, .int .i64 (shrR r 8).y1]) (by simp [results, Try.results47, go_sem, c0, c1, c2, c3]) rfl ⟨rfl, (bt hB0 hB).trans (hB5 _ (by omega))⟩
    · have hz : zm r 4 shrR = shrR r 16 := by unfold zm; rw [if_neg h]; rfl
      rw [hz]
      clear hz h h1 h2
      go_enter Try.func47, Try.ntmps47
      go_wp2_with (first
        | (go_at_call 22; refine (empty_any _ _ _ _ _).mono ?_; rintro e w2 ⟨rfl, rfl⟩)
        | (go_at_call 49; refine (shrink1_R r 16 b _ hr1).mono ?_; rintro e w2 ⟨rfl, hB⟩; have hN2 := hN.kept' hB)
        | (refine wpList_store_R rfl _ _ rfl (w.heap.size + 1) (shrR r 16) R.zero rfl rfl hN2 ?_; intro w5 hR5 hB5; have c0 := hR5.c0; have c1 := hR5.c1; have c2 := hR5.c2; have c3 := hR5.c3))
      exact bodyPost_ret (v := .agg #[.int .i64 (shrR r 16).x0, .int .i64 (shrR r 16).y0, .int .i64 (shrR r 16).x1, .int .i64 (shrR r 16).y1]) (by simp [results, Try.results47, go_sem, c0, c1, c2, c3]) rfl ⟨rfl, (bt hB0 hB).trans (hB5 _ (by omega))⟩

set_option maxRecDepth 100000 in
set_option maxHeartbeats 1000000 in
theorem scale_any (r : R) (z : Int) (w : World) : Calls Try.prog 25 #[.agg #[.int .i64 r.x0, .int .i64 r.y0, .int .i64 r.x1, .int .i64 r.y1], .int .i64 z] w fun e w' => e = .returned (.agg #[.int .i64 (zm r z scaR).x0, .int .i64 (zm r z scaR).y0, .int .i64 (zm r z scaR).x1, .int .i64 (zm r z scaR).y1]) ∧ Below w.heap.size w w' := by
  have hr1 : BoxR ((w.alloc (.cells #[.int .i64 r.x0, .int .i64 r.y0, .int .i64 r.x1, .int .i64 r.y1] 26)).alloc (.cells #[.int .i64 0, .int .i64 0, .int .i64 0, .int .i64 0] 26)) w.heap.size r := (show BoxR _ _ r from World.alloc_heap_new w _).kept' (ball _ _)
  have hN := (show BoxR _ _ R.zero from World.alloc_heap_new (w.alloc (.cells #[.int .i64 r.x0, .int .i64 r.y0, .int .i64 r.x1, .int .i64 r.y1] 26)) (.cells #[.int .i64 0, .int .i64 0, .int .i64 0, .int .i64 0] 26))
  rw [World.size_alloc] at hN
  have hB0 := ball2 w (.cells #[.int .i64 r.x0, .int .i64 r.y0, .int .i64 r.x1, .int .i64 r.y1] 26) (.cells #[.int .i64 0, .int .i64 0, .int .i64 0, .int .i64 0] 26)
  go_enter Try.func25, Try.ntmps25
  go_wp2_with (first
    | (go_at_call 47; refine (zoomed_scale r _ _ _ hr1).mono ?_; rintro e w2 ⟨rfl, hB⟩; have hN2 := hN.kept' hB)
    | (refine wpList_store_R rfl _ _ rfl (w.heap.size + 1) (zm r z scaR) R.zero rfl rfl hN2 ?_; intro w5 hR5 hB5; have c0 := hR5.c0; have c1 := hR5.c1; have c2 := hR5.c2; have c3 := hR5.c3))
  exact bodyPost_ret (v := .agg #[.int .i64 (zm r z scaR).x0, .int .i64 (zm r z scaR).y0, .int .i64 (zm r z scaR).x1, .int .i64 (zm r z scaR).y1]) (by simp [results, Try.results25, go_sem, c0, c1, c2, c3]) rfl ⟨rfl, (bt hB0 hB).trans (hB5 _ (by omega))⟩

set_option maxRecDepth 100000 in
set_option maxHeartbeats 1000000 in
theorem shrink_any (r : R) (z : Int) (w : World) : Calls Try.prog 27 #[.agg #[.int .i64 r.x0, .int .i64 r.y0, .int .i64 r.x1, .int .i64 r.y1], .int .i64 z] w fun e w' => e = .returned (.agg #[.int .i64 (zm r z shrR).x0, .int .i64 (zm r z shrR).y0, .int .i64 (zm r z shrR).x1, .int .i64 (zm r z shrR).y1]) ∧ Below w.heap.size w w' := by
  have hr1 : BoxR ((w.alloc (.cells #[.int .i64 r.x0, .int .i64 r.y0, .int .i64 r.x1, .int .i64 r.y1] 26)).alloc (.cells #[.int .i64 0, .int .i64 0, .int .i64 0, .int .i64 0] 26)) w.heap.size r := (show BoxR _ _ r from World.alloc_heap_new w _).kept' (ball _ _)
  have hN := (show BoxR _ _ R.zero from World.alloc_heap_new (w.alloc (.cells #[.int .i64 r.x0, .int .i64 r.y0, .int .i64 r.x1, .int .i64 r.y1] 26)) (.cells #[.int .i64 0, .int .i64 0, .int .i64 0, .int .i64 0] 26))
  rw [World.size_alloc] at hN
  have hB0 := ball2 w (.cells #[.int .i64 r.x0, .int .i64 r.y0, .int .i64 r.x1, .int .i64 r.y1] 26) (.cells #[.int .i64 0, .int .i64 0, .int .i64 0, .int .i64 0] 26)
  go_enter Try.func27, Try.ntmps27
  go_wp2_with (first
    | (go_at_call 47; refine (zoomed_shrink r _ _ _ hr1).mono ?_; rintro e w2 ⟨rfl, hB⟩; have hN2 := hN.kept' hB)
    | (refine wpList_store_R rfl _ _ rfl (w.heap.size + 1) (zm r z shrR) R.zero rfl rfl hN2 ?_; intro w5 hR5 hB5; have c0 := hR5.c0; have c1 := hR5.c1; have c2 := hR5.c2; have c3 := hR5.c3))
  exact bodyPost_ret (v := .agg #[.int .i64 (zm r z shrR).x0, .int .i64 (zm r z shrR).y0, .int .i64 (zm r z shrR).x1, .int .i64 (zm r z shrR).y1]) (by simp [results, Try.results27, go_sem, c0, c1, c2, c3]) rfl ⟨rfl, (bt hB0 hB).trans (hB5 _ (by omega))⟩
end Go.Proofs.Ytplnhmfkflnhpaa
