/- Walk of layer 3's reference: Minus. -/
import Derived.Test.YtplnhmfkflnhpaaN
import Derived.Test.YtplnhmfkflnhpaaS
import Derived.Test.YtplnhmfkflnhpaaRw
import Derived.Test.YtplnhmfkflnhpaaA7
set_option linter.unusedVariables false
namespace Go.Proofs.Ytplnhmfkflnhpaa
open Go.RowKit
theorem RdR.grow {x y : World} {v : Value} {l : List R} (g : Grow x y) (h : RdR x v l) : RdR y v l := by
  obtain ⟨o, cap, rfl, f⟩ := h
  exact ⟨o, cap, rfl, fun i r hr => by obtain ⟨b, e, c0, c1, c2, c3⟩ := f i r hr; exact ⟨b, e, g.cell c0, g.cell c1, g.cell c2, g.cell c3⟩⟩
theorem rcs_at (l : List R) (i : Nat) (r : R) (k : Nat) (hr : l[i]? = some r) (hk : k < 4) : (rcs l)[i * 4 + k]? = (rcl r)[k]? := by
  induction l generalizing i with
  | nil => simp at hr
  | cons a l ih =>
    cases i with
    | zero =>
      simp at hr; subst hr
      show (rcl a ++ rcs l)[0 * 4 + k]? = _
      rw [List.getElem?_append_left (by simp [rcl]; omega)]; simp
    | succ i =>
      show (rcl a ++ rcs l)[(i + 1) * 4 + k]? = _
      rw [List.getElem?_append_right (by simp [rcl]; omega)]
      have := ih i (by simpa using hr)
      rw [← this]; congr 1; simp [rcl]; omega
theorem rdR_block (W : World) (g n cap : Nat) (C : Array Value) (t : TypeId) (fr : Nat × Nat) (l : List R) (hn : l.length = n) (hg : W.heap[g]? = some (.cells C t fr)) (hC : C.toList.take (n * 4) = rcs l) : RdR W (.slice (some ⟨g, 0, none⟩) n cap) l := by
  subst hn
  refine ⟨_, cap, rfl, fun i r hr => ⟨g, rfl, ?_⟩⟩
  have hi : i < l.length := (List.getElem?_eq_some_iff.1 hr).1
  have key : ∀ k x, k < 4 → (rcl r)[k]? = some x → W.cell? ⟨g, i * 4 + k, none⟩ = some x := by
    intro k x hk hx
    unfold World.cell?
    rw [hg]
    have h1 := rcs_at l i r k hr hk
    rw [← hC, List.getElem?_take, if_pos (by omega)] at h1
    simp only [Option.isSome_none, Bool.false_eq_true, if_false]
    rw [← Array.getElem?_toList, h1, hx]
  exact ⟨key 0 _ (by omega) rfl, key 1 _ (by omega) rfl, key 2 _ (by omega) rfl, key 3 _ (by omega) rfl⟩
theorem rdR_own {W : World} {base : Nat} {v : Value} {l : List R} (h : W.ownsRow base 26 4 v l.length (rcs l)) : RdR W v l := by
  rcases h.2 with ⟨rfl, h0⟩ | ⟨g, cap, cur, rfl, _, hg, _, _, _, htk⟩
  · have := List.eq_nil_of_length_eq_zero h0
    subst this
    exact ⟨none, 0, rfl, fun i r hr => by simp at hr⟩
  · exact rdR_block W g _ cap cur 26 (0, 0) l rfl hg htk
theorem minusL_full (a b : R) : minusL a b = if emp (inter a b) = true then full [a] else full (partsL a (inter a b)) := by
  unfold minusL
  by_cases ha : emp a = true
  · have hi : emp (inter a b) = true := by
      have := emp_true ha
      unfold inter nrm
      split
      · rfl
      · rename_i h
        simp only [Bool.not_eq_true] at h
        have := emp_false h
        simp only [mx_eq, mn_eq] at this
        omega
    rw [if_pos ha, if_pos hi]
    simp [full, ha]
  · rw [if_neg ha]
    split
    · simp [full, ha]
    · rfl
theorem full_take (L : List R) (k : Nat) (r : R) (h : L[k]? = some r) : full (L.take (k + 1)) = if emp r = true then full (L.take k) else full (L.take k) ++ [r] := by
  have hi : k < L.length := (List.getElem?_eq_some_iff.1 h).1
  have : L.take (k + 1) = L.take k ++ [r] := by
    rw [List.take_succ_eq_append_getElem hi]
    have : L[k] = r := by have := List.getElem?_eq_getElem hi; rw [this] at h; exact Option.some.inj h
    rw [this]
  rw [this, full_snoc]
theorem full_take_t {L : List R} {k : Nat} {r : R} (h : L[k]? = some r) (hx : emp r = true) : full (L.take (k + 1)) = full (L.take k) := by rw [full_take L k r h, if_pos hx]
theorem full_take_f {L : List R} {k : Nat} {r : R} (h : L[k]? = some r) (hx : emp r = false) : full (L.take (k + 1)) = full (L.take k) ++ [r] := by rw [full_take L k r h, if_neg (by simp [hx])]
theorem rdR_at {W : World} {g n cap : Nat} {L : List R} (h : RdR W (.slice (some ⟨g, 0, none⟩) n cap) L) : L.length = n ∧ ∀ i r, L[i]? = some r → W.cell? ⟨g, i * 4, none⟩ = some (.int .i64 r.x0) ∧ W.cell? ⟨g, i * 4 + 1, none⟩ = some (.int .i64 r.y0) ∧ W.cell? ⟨g, i * 4 + 2, none⟩ = some (.int .i64 r.x1) ∧ W.cell? ⟨g, i * 4 + 3, none⟩ = some (.int .i64 r.y1) := by
  obtain ⟨o, c, he, f⟩ := h
  injection he with h1 h2 h3
  subst h1
  refine ⟨h2.symm, fun i r hr => ?_⟩
  obtain ⟨g', e, h⟩ := f i r hr
  cases e
  exact h
set_option maxRecDepth 100000 in
set_option maxHeartbeats 4000000 in
theorem minus_ref (a b : R) (w : World) : Calls Try.prog 60 #[.agg #[.int .i64 a.x0, .int .i64 a.y0, .int .i64 a.x1, .int .i64 a.y1], .agg #[.int .i64 b.x0, .int .i64 b.y0, .int .i64 b.x1, .int .i64 b.y1]] w fun e W' =>
    ∃ v, e = .returned v ∧ W'.ownsRow w.heap.size 26 4 v (minusL a b).length (rcs (minusL a b)) ∧ Below w.heap.size w W' := by
  obtain ⟨L, hL⟩ : ∃ L, L = if emp (inter a b) = true then [a] else partsL a (inter a b) := ⟨_, rfl⟩
  have hLm : minusL a b = full L := by rw [hL, minusL_full]; split <;> rfl
  have hin := fun w => inter_ref a.x0 a.y0 a.x1 a.y1 b.x0 b.y0 b.x1 b.y1 w
  generalize hI : inter ⟨a.x0, a.y0, a.x1, a.y1⟩ ⟨b.x0, b.y0, b.x1, b.y1⟩ = i at hin
  have hI' : inter a b = i := hI
  rw [hI'] at hL
  clear hI hI'
  have hei : emp ⟨i.x0, i.y0, i.x1, i.y1⟩ = emp i := rfl
  rw [hLm]
  have hb0 : BoxR (w.alloc (.cells #[.int .i64 a.x0, .int .i64 a.y0, .int .i64 a.x1, .int .i64 a.y1] 26)) w.heap.size a := BoxR.new _ _
  have hb1 := hb0.alloc (.cells #[.int .i64 b.x0, .int .i64 b.y0, .int .i64 b.x1, .int .i64 b.y1] 26)
  have hbl := ball2 w (.cells #[.int .i64 a.x0, .int .i64 a.y0, .int .i64 a.x1, .int .i64 a.y1] 26) (.cells #[.int .i64 b.x0, .int .i64 b.y0, .int .i64 b.x1, .int .i64 b.y1] 26)
  go_enter Try.func60, Try.ntmps60
  cases hb : emp i with
  | true =>
    rw [hb] at hei hL
    rw [if_pos rfl] at hL
    go_wp2_with first
      | (go_at_call 56; refine (hin _).mono ?_; rintro e w1 ⟨rfl, hB⟩; obtain ⟨hc, hf⟩ := bcell hB; have hz : w.heap.size < w1.heap.size := by (have := hB.size; simp at this; omega))
      | (go_at_call 45; refine (empty_ref _ _ _ _ _).mono ?_; rintro e w2 ⟨rfl, rfl⟩)
    refine wp_gen (fun W0 => RdR W0 (.slice (some ⟨w1.heap.size + 1 + 1 + 1, 0, none⟩) 1 1) L ∧ Grow w W0 ∧ w1.heap.size + 1 + 1 + 1 < W0.heap.size) ⟨rdR_block _ _ 1 1 _ 26 (0, 0) L (by rw [hL]; rfl) (heap_new' _ _ _ (by simp)) (by rw [hL]; rfl), ?_, by simp⟩ ?_
    · repeat (refine Grow.a ?_ _)
      exact bt hbl hB
    rintro W0 ⟨hrd, hg, hW⟩
    clear hc hf hz
    obtain ⟨hN, hF⟩ := rdR_at hrd
    have HF := Lib.hid hF
    have HN := Lib.hid hN
    have HB := Lib.hid (bt hbl hB)
    clear hF hN hrd hL hB hbl hb0 hb1 hin
    go_loopw [8, 9] (fun v i wr => ∃ k : Nat, k ≤ 1 ∧ i = .int .i64 k ∧ wr.ownsRow W0.heap.size 26 4 v (full (L.take k)).length (rcs (full (L.take k))) ∧ Grow W0 wr) (fun _ i _ => 1 - (intOf i).toNat)
    case atStart => exact ⟨0, by omega, rfl, World.ownsRow_nil _ _ _ _, Grow.refl _⟩
    case round =>
      obtain ⟨k, hk, rfl, hown, hgw⟩ := hrel
      by_cases hlt : k < 1
      · obtain ⟨r, hr⟩ : ∃ r, L[k]? = some r := ⟨_, List.getElem?_eq_getElem (by rw [HN.out]; exact hlt)⟩
        obtain ⟨c0, c1, c2, c3⟩ := HF.out k r hr
        replace c0 := hgw.cell c0
        replace c1 := hgw.cell c1
        replace c2 := hgw.cell c2
        replace c3 := hgw.cell c3
        have hfl : (full (L.take k)).length ≤ 1 := Nat.le_trans (full_le _) (Nat.le_trans (List.length_take_le _ _) (by omega))
        have hWr : w1.heap.size + 1 + 1 + 1 < wr.heap.size := by have := hgw.size; omega
        have hW0r := hgw.size
        cases hx : emp r with
        | true =>
          have hft := Lib.hid (full_take_t hr hx)
          clear hr
          go_wp2_with (go_at_call 45; refine (empty_ref _ _ _ _ _).mono ?_; rintro e w2 ⟨rfl, rfl⟩)
          go_roundw
          case rel => exact ⟨k + 1, by omega, by go_num, by rw [hft.out]; exact hown.alloc _, hgw.a _⟩
          case measure => simp [intOf]; omega
        | false =>
          have hft := Lib.hid (full_take_f hr hx)
          clear hr
          go_wp2_with first
            | (go_at_call 45; refine (empty_ref _ _ _ _ _).mono ?_; rintro e w2 ⟨rfl, rfl⟩)
            | (at_builtin; refine wp_pushS _ rfl _ _ 50 26 rfl Try.underlying50 _ 4 32 infoR rfl (by decide) W0.heap.size _ _ _ rfl (hown.alloc _) (rcl r) rfl (0, 0) (by rw [World.size_alloc]; rfl) (rcl_one r) (by omega) (by decide) (by rw [World.size_alloc]; omega) ?_; intro v' w3 hown2 hne hb3 hsz3)
          go_roundw
          case rel => exact ⟨k + 1, by omega, by go_num, by rw [hft.out, rcs_snoc, List.length_append]; exact hown2, Below.trans (hgw.a _) hb3⟩
          case measure => simp [intOf]; omega
      · have hk' : k = 1 := by omega
        subst hk'
        go_wp2
        go_ret
        have hLt : L.take 1 = L := List.take_of_length_le (by rw [HN.out]; exact Nat.le_refl _)
        rw [hLt] at hown
        exact ⟨_, rfl, row_mono hown hg.size, hg.trans hgw⟩
  | false =>
    rw [hb] at hei hL
    rw [if_neg (by simp)] at hL
    go_wp2_with first
      | (go_at_call 56; refine (hin _).mono ?_; rintro e w1 ⟨rfl, hB⟩; obtain ⟨hc, hf⟩ := bcell hB; have hz : w.heap.size < w1.heap.size := by (have := hB.size; simp at this; omega))
      | (go_at_call 45; refine (empty_ref _ _ _ _ _).mono ?_; rintro e w2 ⟨rfl, rfl⟩)
    refine wp_gen (fun W0 => RdR W0 (.slice (some ⟨w1.heap.size + 1 + 1, 0, none⟩) 4 4) L ∧ Grow w W0 ∧ w1.heap.size + 1 + 1 < W0.heap.size) ⟨rdR_block _ _ 4 4 _ 26 (0, 0) L (by rw [hL]; rfl) (heap_new' _ _ _ (by simp)) (by rw [hL]; rfl), ?_, by simp⟩ ?_
    · repeat (refine Grow.a ?_ _)
      exact bt hbl hB
    rintro W0 ⟨hrd, hg, hW⟩
    clear hc hf hz
    obtain ⟨hN, hF⟩ := rdR_at hrd
    have HF := Lib.hid hF
    have HN := Lib.hid hN
    have HB := Lib.hid (bt hbl hB)
    clear hF hN hrd hL hB hbl hb0 hb1 hin
    go_loopw [8, 9] (fun v i wr => ∃ k : Nat, k ≤ 4 ∧ i = .int .i64 k ∧ wr.ownsRow W0.heap.size 26 4 v (full (L.take k)).length (rcs (full (L.take k))) ∧ Grow W0 wr) (fun _ i _ => 4 - (intOf i).toNat)
    case atStart => exact ⟨0, by omega, rfl, World.ownsRow_nil _ _ _ _, Grow.refl _⟩
    case round =>
      obtain ⟨k, hk, rfl, hown, hgw⟩ := hrel
      by_cases hlt : k < 4
      · obtain ⟨r, hr⟩ : ∃ r, L[k]? = some r := ⟨_, List.getElem?_eq_getElem (by rw [HN.out]; exact hlt)⟩
        obtain ⟨c0, c1, c2, c3⟩ := HF.out k r hr
        replace c0 := hgw.cell c0
        replace c1 := hgw.cell c1
        replace c2 := hgw.cell c2
        replace c3 := hgw.cell c3
        have hfl : (full (L.take k)).length ≤ 4 := Nat.le_trans (full_le _) (Nat.le_trans (List.length_take_le _ _) (by omega))
        have hWr : w1.heap.size + 1 + 1 < wr.heap.size := by have := hgw.size; omega
        have hW0r := hgw.size
        cases hx : emp r with
        | true =>
          have hft := Lib.hid (full_take_t hr hx)
          clear hr
          go_wp2_with (go_at_call 45; refine (empty_ref _ _ _ _ _).mono ?_; rintro e w2 ⟨rfl, rfl⟩)
          go_roundw
          case rel => exact ⟨k + 1, by omega, by go_num, by rw [hft.out]; exact hown.alloc _, hgw.a _⟩
          case measure => simp [intOf]; omega
        | false =>
          have hft := Lib.hid (full_take_f hr hx)
          clear hr
          go_wp2_with first
            | (go_at_call 45; refine (empty_ref _ _ _ _ _).mono ?_; rintro e w2 ⟨rfl, rfl⟩)
            | (at_builtin; refine wp_pushS _ rfl _ _ 50 26 rfl Try.underlying50 _ 4 32 infoR rfl (by decide) W0.heap.size _ _ _ rfl (hown.alloc _) (rcl r) rfl (0, 0) (by rw [World.size_alloc]; rfl) (rcl_one r) (by omega) (by decide) (by rw [World.size_alloc]; omega) ?_; intro v' w3 hown2 hne hb3 hsz3)
          go_roundw
          case rel => exact ⟨k + 1, by omega, by go_num, by rw [hft.out, rcs_snoc, List.length_append]; exact hown2, Below.trans (hgw.a _) hb3⟩
          case measure => simp [intOf]; omega
      · have hk' : k = 4 := by omega
        subst hk'
        go_wp2
        go_ret
        have hLt : L.take 4 = L := List.take_of_length_le (by rw [HN.out]; exact Nat.le_refl _)
        rw [hLt] at hown
        exact ⟨_, rfl, row_mono hown hg.size, hg.trans hgw⟩
end Go.Proofs.Ytplnhmfkflnhpaa
