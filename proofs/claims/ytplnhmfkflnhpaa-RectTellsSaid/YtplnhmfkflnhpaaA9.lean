/- Walks of layer 3's reference: Scale, Shrink. -/
import Derived.Test.YtplnhmfkflnhpaaN
import Derived.Test.YtplnhmfkflnhpaaA7
import Derived.IntWalk
import Derived.Test.YtplnhmfkflnhpaaRw
set_option linter.unusedVariables false
namespace Go.Proofs.Ytplnhmfkflnhpaa
open Go.RowKit
theorem two_z (z : Int) (h0 : 0 ≤ z) (h4 : z ≤ 4) : wrap64 (2 ^ z.toNat) = 2 ^ z.toNat := by
  obtain rfl | rfl | rfl | rfl | rfl : z = 0 ∨ z = 1 ∨ z = 2 ∨ z = 3 ∨ z = 4 := by omega
  all_goals exact IntWalk.wrap64_in _ ⟨by decide, by decide⟩
/-- The store of a rectangle into a block that holds one. -/
theorem wp_store_R {o : Oper} {a : Act} {w : World} {K : Act → World → Prop} {Q : Exit → Act → World → Prop} (x y : Operand) (ho : o.op = .store 26 x y)
    (g : Nat) (r r0 : R) (hx : a.eval x = .pointer (some ⟨g, 0, none⟩)) (hy : a.eval y = .agg #[.int .i64 r.x0, .int .i64 r.y0, .int .i64 r.x1, .int .i64 r.y1]) (hN : BoxR w g r0)
    (h : ∀ w', BoxR w' g r → (∀ n, n ≤ g → Below n w w') → K (a.put o.dst undef) w') : o.wp Try.prog a w K Q := by
  refine wp_store_row 26 x y ho g _ hx hy 26 _ hN (show (Try.prog.info? 26).map (·.size) = some 4 by kernel_rfl) rfl (by simp [Value.oneCell']) ?_
  refine h _ ?_ (fun n hn => below_setRow w g _ n hn)
  exact setRow_heap w g _ _ 26 (0, 0) hN
theorem zm_in {r : R} {z : Int} {f : R → Int → R} (h1 : 0 ≤ z) (h2 : z ≤ 4) (he : emp r = false) : zm r z f = f r (2 ^ z.toNat) := by
  unfold zm; rw [if_neg]; rintro (h | h | h)
  · omega
  · omega
  · rw [he] at h; cases h
theorem zm_out {r : R} {z : Int} {f : R → Int → R} (h : z < 0 ∨ 4 < z ∨ emp r = true) : zm r z f = R.zero := by unfold zm; rw [if_pos h]
set_option maxRecDepth 100000 in
set_option maxHeartbeats 2000000 in
theorem scale_ref (r : R) (z : Int) (w : World) : Calls Try.prog 26 #[.agg #[.int .i64 r.x0, .int .i64 r.y0, .int .i64 r.x1, .int .i64 r.y1], .int .i64 z] w fun e w' => e = .returned (.agg #[.int .i64 (zm r z scaR).x0, .int .i64 (zm r z scaR).y0, .int .i64 (zm r z scaR).x1, .int .i64 (zm r z scaR).y1]) ∧ Below w.heap.size w w' := by
  by_cases h1 : z < 0
  · rw [zm_out (.inl h1)]
    go_enter Try.func26, Try.ntmps26
    go_wp2_with (go_at_call 45; refine (empty_ref _ _ _ _ _).mono ?_; rintro e w2 ⟨rfl, rfl⟩)
    exact bodyPost_ret (v := .agg #[.int .i64 0, .int .i64 0, .int .i64 0, .int .i64 0]) (by simp [results, Try.results26, go_sem]) rfl ⟨rfl, by first | exact ball2 _ _ _ | exact ball3 _ _ _ _⟩
  by_cases h2 : 4 < z
  · rw [zm_out (.inr (.inl h2))]
    go_enter Try.func26, Try.ntmps26
    go_wp2_with (go_at_call 45; refine (empty_ref _ _ _ _ _).mono ?_; rintro e w2 ⟨rfl, rfl⟩)
    exact bodyPost_ret (v := .agg #[.int .i64 0, .int .i64 0, .int .i64 0, .int .i64 0]) (by simp [results, Try.results26, go_sem]) rfl ⟨rfl, by first | exact ball2 _ _ _ | exact ball3 _ _ _ _⟩
  cases he : emp r with
  | true =>
    rw [zm_out (.inr (.inr he))]
    go_enter Try.func26, Try.ntmps26
    go_wp2_with (go_at_call 45; refine (empty_ref _ _ _ _ _).mono ?_; rintro e w2 ⟨rfl, rfl⟩)
    exact bodyPost_ret (v := .agg #[.int .i64 0, .int .i64 0, .int .i64 0, .int .i64 0]) (by simp [results, Try.results26, go_sem]) rfl ⟨rfl, by first | exact ball2 _ _ _ | exact ball3 _ _ _ _⟩
  | false =>
    rw [zm_in (by omega) (by omega) he]
    have hs := two_z z (by omega) (by omega)
    go_enter Try.func26, Try.ntmps26
    go_wp2_with (go_at_call 45; refine (empty_ref _ _ _ _ _).mono ?_; rintro e w2 ⟨rfl, rfl⟩)
    exact bodyPost_ret (v := .agg #[.int .i64 (scaR r (2 ^ z.toNat)).x0, .int .i64 (scaR r (2 ^ z.toNat)).y0, .int .i64 (scaR r (2 ^ z.toNat)).x1, .int .i64 (scaR r (2 ^ z.toNat)).y1]) (by simp [results, Try.results26, go_sem, scaR]) rfl ⟨rfl, by first | exact ball2 _ _ _ | exact ball3 _ _ _ _⟩
set_option maxRecDepth 100000 in
set_option maxHeartbeats 2000000 in
theorem shrink_ref (r : R) (z : Int) (w : World) : Calls Try.prog 28 #[.agg #[.int .i64 r.x0, .int .i64 r.y0, .int .i64 r.x1, .int .i64 r.y1], .int .i64 z] w fun e w' => e = .returned (.agg #[.int .i64 (zm r z shrR).x0, .int .i64 (zm r z shrR).y0, .int .i64 (zm r z shrR).x1, .int .i64 (zm r z shrR).y1]) ∧ Below w.heap.size w w' := by
  by_cases h1 : z < 0
  · rw [zm_out (.inl h1)]
    go_enter Try.func28, Try.ntmps28
    go_wp2_with (go_at_call 45; refine (empty_ref _ _ _ _ _).mono ?_; rintro e w2 ⟨rfl, rfl⟩)
    exact bodyPost_ret (v := .agg #[.int .i64 0, .int .i64 0, .int .i64 0, .int .i64 0]) (by simp [results, Try.results28, go_sem]) rfl ⟨rfl, by first | exact ball2 _ _ _ | exact ball3 _ _ _ _⟩
  by_cases h2 : 4 < z
  · rw [zm_out (.inr (.inl h2))]
    go_enter Try.func28, Try.ntmps28
    go_wp2_with (go_at_call 45; refine (empty_ref _ _ _ _ _).mono ?_; rintro e w2 ⟨rfl, rfl⟩)
    exact bodyPost_ret (v := .agg #[.int .i64 0, .int .i64 0, .int .i64 0, .int .i64 0]) (by simp [results, Try.results28, go_sem]) rfl ⟨rfl, by first | exact ball2 _ _ _ | exact ball3 _ _ _ _⟩
  cases he : emp r with
  | true =>
    rw [zm_out (.inr (.inr he))]
    go_enter Try.func28, Try.ntmps28
    go_wp2_with (go_at_call 45; refine (empty_ref _ _ _ _ _).mono ?_; rintro e w2 ⟨rfl, rfl⟩)
    exact bodyPost_ret (v := .agg #[.int .i64 0, .int .i64 0, .int .i64 0, .int .i64 0]) (by simp [results, Try.results28, go_sem]) rfl ⟨rfl, by first | exact ball2 _ _ _ | exact ball3 _ _ _ _⟩
  | false =>
    rw [zm_in (by omega) (by omega) he]
    have hs := two_z z (by omega) (by omega)
    go_enter Try.func28, Try.ntmps28
    go_wp2_with (go_at_call 45; refine (empty_ref _ _ _ _ _).mono ?_; rintro e w2 ⟨rfl, rfl⟩)
    refine wp_gen (fun W0 => BoxR W0 w.heap.size r ∧ BoxR W0 (w.heap.size + 1) R.zero ∧ Grow w W0) ⟨((BoxR.new _ _).alloc _).alloc _, (show BoxR ((w.alloc (.cells #[.int .i64 r.x0, .int .i64 r.y0, .int .i64 r.x1, .int .i64 r.y1] 26)).alloc (.cells #[.int .i64 0, .int .i64 0, .int .i64 0, .int .i64 0] 26)) (w.heap.size + 1) R.zero from heap_new' _ _ _ (by rw [World.size_alloc])).alloc _, by ((repeat refine Grow.a ?_ _); exact Grow.refl _)⟩ ?_
    rintro W0 ⟨hr1, hN, hg⟩
    obtain ⟨k, hk⟩ : ∃ k : Int, 2 ^ z.toNat = k := ⟨_, rfl⟩
    rw [hk] at hs ⊢
    rw [hs]
    clear hs
    have c0 := hr1.c0
    have c1 := hr1.c1
    have c2 := hr1.c2
    have c3 := hr1.c3
    refine wp_region_lastB (C := fun x => ∃ n, x = W0.drewN n) rfl (by kernel_rfl) (by kernel_rfl) (by kernel_rfl) (by kernel_rfl) rfl rfl ⟨1, rfl⟩ ?_
    simp only [lastOp, List.dropLast, List.cons_append, List.nil_append]
    repeat (first
      | go_big_quiet_skip
      | (go_big_quiet_want; refine q_val ?_; apply Exists.intro; refine ⟨fun x hx => ?_, ?_⟩; (focus (obtain ⟨n, rfl⟩ := hx; go_simp <;> rfl)); simp only [Act.put, List.setIfInBounds_toArray, List.set_cons_zero, List.set_cons_succ]; go_big_quiet_on)
      | (go_big_quiet_want; refine q_call 16 ?_; apply Exists.intro; refine ⟨fun x hx => ?_, ?_⟩; (focus (go_simp <;> rfl)); apply Exists.intro; refine ⟨fun x hx => ?_, ?_⟩; (focus (exact (floor_ref _ _ _).mono fun e w' h => ⟨h.1, h.2 ▸ hx⟩)); simp only [Act.put, List.setIfInBounds_toArray, List.set_cons_zero, List.set_cons_succ]; go_big_quiet_on)
      | (go_big_quiet_want; refine q_call 17 ?_; apply Exists.intro; refine ⟨fun x hx => ?_, ?_⟩; (focus (go_simp <;> rfl)); apply Exists.intro; refine ⟨fun x hx => ?_, ?_⟩; (focus (exact (ceil_ref _ _ _).mono fun e w' h => ⟨h.1, h.2 ▸ hx⟩)); simp only [Act.put, List.setIfInBounds_toArray, List.set_cons_zero, List.set_cons_succ]; go_big_quiet_on))
    refine wpQuiet_nil ?_
    rintro w2 ⟨n, rfl⟩
    obtain ⟨w3, h3⟩ : ∃ w3, W0.drewN n = w3 := ⟨_, rfl⟩
    have hg3 : Grow w w3 := by rw [← h3]; exact hg.dN n
    have hN3 : BoxR w3 (w.heap.size + 1) R.zero := by rw [← h3]; exact hN
    rw [h3]
    clear h3
    refine wp_store_R (.tmp 4) (.tmp 37) rfl (w.heap.size + 1) (shrR r k) R.zero rfl rfl hN3 ?_
    intro w5 hR5 hB5
    have c0 := hR5.c0
    have c1 := hR5.c1
    have c2 := hR5.c2
    have c3 := hR5.c3
    go_wp2
    exact bodyPost_ret (v := .agg #[.int .i64 (shrR r k).x0, .int .i64 (shrR r k).y0, .int .i64 (shrR r k).x1, .int .i64 (shrR r k).y1]) (by simp [results, Try.results28, go_sem, c0, c1, c2, c3]) rfl ⟨by rw [hk], Below.trans hg3 (hB5 _ (by omega))⟩
end Go.Proofs.Ytplnhmfkflnhpaa
