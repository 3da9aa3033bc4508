/- Walk of the law RectStops of layer 3: it returns true and writes nothing that was there. -/
import Derived.Test.YtplnhmfkflnhpaaB
import Derived.Test.YtplnhmfkflnhpaaFL
set_option linter.unusedVariables false
namespace Go.Proofs.Ytplnhmfkflnhpaa
open Go.RowKit
/-- The remainder of 'rest' lies from 0 to n - 1. -/
theorem rst_bd (x n : Int) (h0 : 0 < n) (h1 : n ≤ 1000000) : 0 ≤ rst x n ∧ rst x n < n := by
  have h2 := Int.lt_tmod_of_pos x h0
  have h3 := Int.tmod_lt_of_pos x h0
  unfold rst
  rw [wr _ (by omega) (by omega)]
  exact ⟨Int.tmod_nonneg _ (by omega), Int.tmod_lt_of_pos _ h0⟩
theorem flr8 (x : Int) (h1 : -1000000 ≤ x) (h2 : x ≤ 1000000) : 8 * flr x 8 ≤ x ∧ x < 8 * flr x 8 + 8 := by
  obtain ⟨h, -, -, -⟩ := flr_spec x 8 (by omega) (by omega) (by omega)
  have := h (by omega)
  omega
/-- A rectangle within the coordinate limits. -/
def Bd (r : R) : Prop := -65536 ≤ r.x0 ∧ -65536 ≤ r.y0 ∧ r.x1 ≤ 65536 ∧ r.y1 ≤ 65536
theorem okr_bd {r : R} (h : Bd r) : Okr r := by
  intro he
  obtain ⟨h1, h2, h3, h4⟩ := h
  obtain ⟨e1, e2⟩ := emp_false he
  have w1 := wr (r.x1 - 1) (by omega) (by omega)
  have w2 := wr (r.y1 - 1) (by omega) (by omega)
  rw [w1, w2]
  have a1 := flr8 r.x0 (by omega) (by omega)
  have a2 := flr8 r.y0 (by omega) (by omega)
  have a3 := flr8 (r.x1 - 1) (by omega) (by omega)
  have a4 := flr8 (r.y1 - 1) (by omega) (by omega)
  omega
theorem inter_bd (a : R) : Bd (inter a ⟨-65536, -65536, 65536, 65536⟩) := by
  unfold inter nrm
  split
  · exact ⟨by decide, by decide, by decide, by decide⟩
  · refine ⟨?_, ?_, ?_, ?_⟩
    all_goals simp only [mx_eq, mn_eq]
    all_goals omega
theorem valid_bd {r : R} (h : Bd r) (he : emp r = false) : valid r = true := by
  obtain ⟨h1, h2, h3, h4⟩ := h
  unfold valid
  simp [he, h1, h2, h3, h4]
theorem rdT_at {W : World} {o : Option Addr} {n c : Nat} {l : List (Int × Int)} (h : RdT W (.slice o n c) l) {i : Nat} {x : Int × Int} (hi : l[i]? = some x) : ∃ g, o = some ⟨g, 0, none⟩ ∧ W.cell? ⟨g, i * 2, none⟩ = some (.int .i64 x.1) ∧ W.cell? ⟨g, i * 2 + 1, none⟩ = some (.int .i64 x.2) := by
  obtain ⟨o', cap, e, f⟩ := h
  injection e with e _ _
  subst e
  exact f i x hi
theorem same2_self (a b : Int) : same2 a b a b = true := by simp [same2]
namespace rectStops
set_option maxRecDepth 100000 in
set_option maxHeartbeats 4000000 in
theorem walk (x0 y0 x1 y1 n : Int) (w : World) (w0 : (Lit.int .i64 x0).wf = true) (w1 : (Lit.int .i64 y0).wf = true) (w2 : (Lit.int .i64 x1).wf = true) (w3 : (Lit.int .i64 y1).wf = true) (w4 : (Lit.int .i64 n).wf = true) :
    Calls Try.prog 4 #[.agg #[.int .i64 x0, .int .i64 y0, .int .i64 x1, .int .i64 y1], .int .i64 n] w fun e w' => e = .returned (.bool true) ∧ Below w.heap.size w w' := by
  have hC := inter_bd ⟨x0, y0, x1, y1⟩
  have hin := fun w => inter_any x0 y0 x1 y1 (-65536) (-65536) 65536 65536 w
  generalize inter ⟨x0, y0, x1, y1⟩ ⟨-65536, -65536, 65536, 65536⟩ = c at hC hin
  obtain ⟨r0, r1⟩ := rst_bd n 41 (by omega) (by omega)
  have hre := fun w => rest_any n 41 (by omega) w
  obtain ⟨k, hk⟩ : ∃ k : Nat, rst n 41 = (k : Int) := ⟨(rst n 41).toNat, by omega⟩
  rw [hk] at hre r1
  have hk40 : k ≤ 40 := by omega
  clear hk r0 r1
  have hok := Lib.hid (okr_bd hC)
  have HC := Lib.hid hC
  clear hC
  obtain ⟨L, hL⟩ : ∃ L, (tilesL c).take k = L := ⟨_, rfl⟩
  have hti := fun w => tiles_any c k (by omega) hok.out w
  have htr := fun w => tiles_ref c k (by omega) hok.out w
  rw [hL] at hti htr
  have hLk : L.length ≤ 40 := by rw [← hL]; exact Nat.le_trans (List.length_take_le _ _) hk40
  clear hL
  have HIN := Lib.hid hin
  have HRE := Lib.hid hre
  have HTI := Lib.hid hti
  have HTR := Lib.hid htr
  clear hin hre hti htr
  go_enter Try.func4, Try.ntmps4
  go_wp2_with fail
  refine (sanity_any _).mono ?_
  rintro e v1 ⟨rfl, hg1⟩
  have hG1 := Grow.trans (Grow.alloc w (.cells #[.int .i64 x0, .int .i64 y0, .int .i64 x1, .int .i64 y1] 26)) hg1
  obtain ⟨hc, hf⟩ := bcell hg1
  have hz1 : w.heap.size < v1.heap.size := by (have := hg1.size; simp at this; omega)
  go_wp2_with fail
  refine (HIN.out _).mono ?_
  rintro e v2 ⟨rfl, hg2⟩
  have hG2 := hG1.trans hg2
  clear hc hf hG1 hg1 hg2 hz1
  go_wp2_with fail
  refine (HRE.out _).mono ?_
  rintro e v3 ⟨rfl, rfl⟩
  go_wp2_with fail
  refine (HTI.out _).mono ?_
  rintro e v3 ⟨s1, rfl, ho1, hg3⟩
  obtain ⟨hc3, hf3⟩ := bcell hg3
  have hz3 : v2.heap.size < v3.heap.size := by (have := hg3.size; simp at this; omega)
  have hG3 := (hG2.a (.cells #[.int .i64 c.x0, .int .i64 c.y0, .int .i64 c.x1, .int .i64 c.y1] 26)).trans hg3
  go_wp2_with fail
  refine (HTI.out _).mono ?_
  rintro e v4 ⟨s2, rfl, ho2, hg4⟩
  obtain ⟨hc4, hf4⟩ := bcell hg4
  have hz4 : v2.heap.size < v4.heap.size := by (have := hg4.size; omega)
  go_wp2_with fail
  refine (HTR.out _).mono ?_
  rintro e v5 ⟨s3, rfl, ho3, hg5⟩
  obtain ⟨hc5, hf5⟩ := bcell hg5
  have hz5 : v2.heap.size < v5.heap.size := by (have := hg5.size; omega)
  have hG5 := Lib.hid ((hG3.trans hg4).trans hg5)
  have R1 := Lib.hid (((rdT_own ho1).grow hg4).grow hg5)
  have R2 := Lib.hid ((rdT_own ho2).grow hg5)
  have R3 := Lib.hid (rdT_own ho3)
  obtain ⟨o1, c1, rfl, -⟩ := rdT_own ho1
  obtain ⟨o2, c2, rfl, -⟩ := rdT_own ho2
  obtain ⟨o3, c3, rfl, -⟩ := rdT_own ho3
  clear ho1 ho2 ho3
  go_wp2_with fail
  have hq := neq31
  clear HIN HRE HTI HTR
  go_loopw [11] (fun i wr => ∃ j : Nat, j ≤ L.length ∧ i = .int .i64 j ∧ ∃ m, wr = v5.drewN m) (fun i _ => L.length - (intOf i).toNat)
  case atStart => exact ⟨0, by omega, rfl, 0, rfl⟩
  case round =>
    obtain ⟨j, hj, rfl, m, rfl⟩ := hrel
    by_cases hlt : j < L.length
    · obtain ⟨x, hx⟩ : ∃ x, L[j]? = some x := ⟨_, List.getElem?_eq_getElem hlt⟩
      obtain ⟨g1, rfl, a0, a1⟩ := rdT_at R1.out hx
      obtain ⟨g2, rfl, b0, b1⟩ := rdT_at R2.out hx
      obtain ⟨g3, rfl, d0, d1⟩ := rdT_at R3.out hx
      clear hx R1 R2 R3
      have hs := same2_self x.1 x.2
      go_wp2
      go_quiet (fail)
      go_wp2
      go_roundw
      case rel => exact ⟨j + 1, by omega, by go_num, _, rfl⟩
      case measure => simp [intOf]; omega
    · obtain rfl : j = L.length := by omega
      clear hlt R1 R2 R3
      refine wp_gen (fun W0 => (W0.cell? ⟨v2.heap.size, 0, none⟩ = some (.int .i64 c.x0) ∧ W0.cell? ⟨v2.heap.size, 1, none⟩ = some (.int .i64 c.y0) ∧ W0.cell? ⟨v2.heap.size, 2, none⟩ = some (.int .i64 c.x1) ∧ W0.cell? ⟨v2.heap.size, 3, none⟩ = some (.int .i64 c.y1)) ∧ Grow w W0 ∧ v2.heap.size < W0.heap.size) ⟨by go_simp, hG5.out.dN m, hz5⟩ ?_
      rintro W0 ⟨⟨q0, q1, q2, q3⟩, hG0, hz0⟩
      clear hc3 hc4 hc5 hf3 hf4 hf5 hz3 hz4 hz5
      have hec : emp ⟨c.x0, c.y0, c.x1, c.y1⟩ = emp c := rfl
      have hvc : valid ⟨c.x0, c.y0, c.x1, c.y1⟩ = valid c := rfl
      cases he : emp c with
      | true =>
        go_wp2_with (go_at_call 22; refine (empty_any _ _ _ _ _).mono ?_; rintro e w' ⟨rfl, rfl⟩)
        go_ret
        exact ⟨rfl, hG0.a _⟩
      | false =>
        have hv := valid_bd HC.out he
        go_wp2_with first
          | (go_at_call 22; refine (empty_any _ _ _ _ _).mono ?_; rintro e w' ⟨rfl, rfl⟩)
          | (go_at_call 23; refine (valid_any _ _ _ _ _).mono ?_; rintro e w' ⟨rfl, hg6⟩)
        go_ret
        exact ⟨rfl, (hG0.a _).trans hg6⟩
end rectStops
end Go.Proofs.Ytplnhmfkflnhpaa
