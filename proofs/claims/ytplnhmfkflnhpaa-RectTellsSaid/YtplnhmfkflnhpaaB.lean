/- Walk of layer 3's law: the examples of the chapter. -/
import Derived.Test.YtplnhmfkflnhpaaZ
import Derived.Test.YtplnhmfkflnhpaaA8
import Derived.Test.YtplnhmfkflnhpaaA9
import Derived.Test.YtplnhmfkflnhpaaM60
set_option linter.unusedVariables false
namespace Go.Proofs.Ytplnhmfkflnhpaa
open Go.RowKit
/-- The slice v reads as the list l of tile positions. -/
def RdT (W : World) (v : Value) (l : List (Int × Int)) : Prop :=
  ∃ o cap, v = .slice o l.length cap ∧ ∀ i x, l[i]? = some x → ∃ g, o = some ⟨g, 0, none⟩ ∧ W.cell? ⟨g, i * 2, none⟩ = some (.int .i64 x.1) ∧ W.cell? ⟨g, i * 2 + 1, none⟩ = some (.int .i64 x.2)
theorem RdT.grow {x y : World} {v : Value} {l : List (Int × Int)} (g : Grow x y) (h : RdT x v l) : RdT y v l := by
  obtain ⟨o, cap, rfl, f⟩ := h
  exact ⟨o, cap, rfl, fun i r hr => by obtain ⟨b, e, c0, c1⟩ := f i r hr; exact ⟨b, e, g.cell c0, g.cell c1⟩⟩
theorem tcs_at (l : List (Int × Int)) (i : Nat) (x : Int × Int) (k : Nat) (hr : l[i]? = some x) (hk : k < 2) : (tcs l)[i * 2 + k]? = (tcl x)[k]? := by
  induction l generalizing i with
  | nil => simp at hr
  | cons a l ih =>
    cases i with
    | zero =>
      simp at hr; subst hr
      show (tcl a ++ tcs l)[0 * 2 + k]? = _
      rw [List.getElem?_append_left (by simp [tcl]; omega)]; simp
    | succ i =>
      show (tcl a ++ tcs l)[(i + 1) * 2 + k]? = _
      rw [List.getElem?_append_right (by simp [tcl]; omega)]
      have := ih i (by simpa using hr)
      rw [← this]; congr 1; simp [tcl]; omega
theorem rdT_own {W : World} {base : Nat} {v : Value} {l : List (Int × Int)} (h : W.ownsRow base 31 2 v l.length (tcs l)) : RdT W v l := by
  rcases h.2 with ⟨rfl, h0⟩ | ⟨g, cap, cur, rfl, _, hg, _, _, _, htk⟩
  · have := List.eq_nil_of_length_eq_zero h0
    subst this
    exact ⟨none, 0, rfl, fun i r hr => by simp at hr⟩
  · refine ⟨_, cap, rfl, fun i r hr => ⟨g, rfl, ?_⟩⟩
    have hi : i < l.length := (List.getElem?_eq_some_iff.1 hr).1
    have key : ∀ k x, k < 2 → (tcl r)[k]? = some x → W.cell? ⟨g, i * 2 + k, none⟩ = some x := by
      intro k x hk hx
      unfold World.cell?
      rw [hg]
      have h1 := tcs_at l i r k hr hk
      rw [← htk, List.getElem?_take, if_pos (by omega)] at h1
      simp only [Option.isSome_none, Bool.false_eq_true, if_false]
      rw [← Array.getElem?_toList, h1, hx]
    exact ⟨key 0 _ (by omega) rfl, key 1 _ (by omega) rfl⟩
theorem ex_minus : minusL ⟨0, 0, 4, 4⟩ ⟨1, 1, 3, 3⟩ = [⟨0, 0, 4, 1⟩, ⟨0, 3, 4, 4⟩, ⟨0, 1, 1, 3⟩, ⟨3, 1, 4, 3⟩] := by kernel_rfl
theorem ex_tiles : (tilesL ⟨-1, 0, 9, 8⟩).take 9 = [(-1, 0), (0, 0), (1, 0)] := by kernel_rfl
theorem ex_ok : Okr ⟨-1, 0, 9, 8⟩ := by
  intro _
  have e1 : flr (-1) 8 = -1 := by kernel_rfl
  have e2 : flr 0 8 = 0 := by kernel_rfl
  have e3 : flr (wrap64 (9 - 1)) 8 = 1 := by kernel_rfl
  have e4 : flr (wrap64 (8 - 1)) 8 = 0 := by kernel_rfl
  show _ ≤ flr (-1) 8 ∧ _ ≤ flr 0 8 ∧ flr (wrap64 (9 - 1)) 8 ≤ _ ∧ flr (wrap64 (8 - 1)) 8 ≤ _ ∧ flr (-1) 8 ≤ flr (wrap64 (9 - 1)) 8 ∧ flr 0 8 ≤ flr (wrap64 (8 - 1)) 8
  rw [e1, e2, e3, e4]
  omega
theorem ex_shrink : zm ⟨-3, 0, 5, 4⟩ 1 shrR = ⟨-2, 0, 3, 2⟩ := by kernel_rfl
theorem ex_floor : flr (-7) 2 = -4 := by kernel_rfl
theorem ex_ceil : cel (-7) 2 = -3 := by kernel_rfl
theorem shrink_ex (w : World) : Calls Try.prog 27 #[.agg #[.int .i64 (-3), .int .i64 0, .int .i64 5, .int .i64 4], .int .i64 1] w fun e w' => e = .returned (.agg #[.int .i64 (-2), .int .i64 0, .int .i64 3, .int .i64 2]) ∧ Below w.heap.size w w' := by
  have h := shrink_any ⟨-3, 0, 5, 4⟩ 1 w
  rw [ex_shrink] at h
  exact h
theorem floor_ex (w : World) : Calls Try.prog 14 #[.int .i64 (-7), .int .i64 2] w fun e w' => e = .returned (.int .i64 (-4)) ∧ w = w' := by
  have h := floor_any (-7) 2 w
  rw [ex_floor] at h
  exact h
theorem ceil_ex (w : World) : Calls Try.prog 15 #[.int .i64 (-7), .int .i64 2] w fun e w' => e = .returned (.int .i64 (-3)) ∧ w = w' := by
  have h := ceil_any (-7) 2 w
  rw [ex_ceil] at h
  exact h
theorem minus_ex (w : World) : Calls Try.prog 37 #[.agg #[.int .i64 0, .int .i64 0, .int .i64 4, .int .i64 4], .agg #[.int .i64 1, .int .i64 1, .int .i64 3, .int .i64 3]] w fun e W' =>
    ∃ v, e = .returned v ∧ RdR W' v [⟨0, 0, 4, 1⟩, ⟨0, 3, 4, 4⟩, ⟨0, 1, 1, 3⟩, ⟨3, 1, 4, 3⟩] ∧ Grow w W' := by
  have h := minus_any ⟨0, 0, 4, 4⟩ ⟨1, 1, 3, 3⟩ w
  rw [ex_minus] at h
  refine h.mono ?_
  rintro e W' ⟨v, rfl, h1, h2⟩
  exact ⟨v, rfl, rdR_own h1, h2⟩
theorem tiles_ex (w : World) : Calls Try.prog 20 #[.agg #[.int .i64 (-1), .int .i64 0, .int .i64 9, .int .i64 8], .int .i64 9] w fun e W' =>
    ∃ g cap, e = .returned (.slice (some ⟨g, 0, none⟩) 3 cap) ∧ (W'.cell? ⟨g, 0, none⟩ = some (.int .i64 (-1)) ∧ W'.cell? ⟨g, 1, none⟩ = some (.int .i64 0) ∧ W'.cell? ⟨g, 2, none⟩ = some (.int .i64 0) ∧ W'.cell? ⟨g, 3, none⟩ = some (.int .i64 0) ∧ W'.cell? ⟨g, 4, none⟩ = some (.int .i64 1) ∧ W'.cell? ⟨g, 5, none⟩ = some (.int .i64 0)) ∧ Grow w W' := by
  have h := tiles_any ⟨-1, 0, 9, 8⟩ 9 (by omega) ex_ok w
  rw [ex_tiles] at h
  refine h.mono ?_
  rintro e W' ⟨v, rfl, h1, h2⟩
  obtain ⟨o, cap, rfl, f⟩ := rdT_own h1
  obtain ⟨g, rfl, a0, a1⟩ := f 0 _ rfl
  obtain ⟨g', e1, b0, b1⟩ := f 1 _ rfl
  obtain ⟨g'', e2, c0, c1⟩ := f 2 _ rfl
  cases e1; cases e2
  exact ⟨g, cap, rfl, ⟨a0, a1, b0, b1, c0, c1⟩, h2⟩
set_option maxRecDepth 100000 in
set_option maxHeartbeats 4000000 in
theorem sanity_any (w : World) : Calls Try.prog 13 #[] w fun e w' => e = .returned (.bool true) ∧ Grow w w' := by
  go_enter Try.func13, Try.ntmps13
  go_wp2_with fail
  refine (minus_ex _).mono ?_
  rintro e w1 ⟨v1, rfl, hr1, hg1⟩
  go_wp2_with fail
  refine (same_yes _ _ _ _ (by decide) (hr1.grow (Grow.alloc _ _)) (rdR_block _ _ 4 4 _ 26 (0, 0) _ rfl (heap_new' _ _ _ rfl) rfl)).mono ?_
  rintro e w2 ⟨rfl, n2, rfl⟩
  have hz1 : Grow w ((w1.alloc (.cells #[.int .i64 0, .int .i64 0, .int .i64 4, .int .i64 1, .int .i64 0, .int .i64 3, .int .i64 4, .int .i64 4, .int .i64 0, .int .i64 1, .int .i64 1, .int .i64 3, .int .i64 3, .int .i64 1, .int .i64 4, .int .i64 3] 26)).drewN n2) := (hg1.a _).dN _
  go_wp2_with fail
  refine (tiles_ex _).mono ?_
  rintro e w3 ⟨g, cap, rfl, ⟨c0, c1, c2, c3, c4, c5⟩, hg3⟩
  replace hz1 := hz1.trans hg3
  go_wp2_with fail
  refine (shrink_ex _).mono ?_
  rintro e w4 ⟨rfl, hg4⟩
  replace hz1 := hz1.trans hg4
  go_wp2_with first
    | (go_at_call 14; refine (floor_ex _).mono ?_; rintro e w' ⟨rfl, rfl⟩)
    | (go_at_call 15; refine (ceil_ex _).mono ?_; rintro e w' ⟨rfl, rfl⟩)
  go_ret
  exact ⟨rfl, hz1⟩
end Go.Proofs.Ytplnhmfkflnhpaa
