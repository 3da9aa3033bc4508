/- Walk of the law RectDivides of layer 3: it returns true and writes nothing that was there. -/
import Derived.Test.YtplnhmfkflnhpaaB
import Derived.Test.YtplnhmfkflnhpaaFL
set_option linter.unusedVariables false
namespace Go.Proofs.Ytplnhmfkflnhpaa
open Go.RowKit
namespace rectDivides
theorem tmod_bd (a n : Int) (h : 0 < n) : -n < a.tmod n ∧ a.tmod n < n := ⟨Int.lt_tmod_of_pos a h, Int.tmod_lt_of_pos a h⟩
set_option maxRecDepth 100000 in
set_option maxHeartbeats 4000000 in
theorem walk (a b : Int) (w : World) (wa : (Lit.int .i64 a).wf = true) (wb : (Lit.int .i64 b).wf = true) :
    Calls Try.prog 3 #[.int .i64 a, .int .i64 b] w fun e w' => e = .returned (.bool true) ∧ Below w.heap.size w w' := by
  have hx := tmod_bd a 1000000 (by omega)
  have hy := tmod_bd b 1000 (by omega)
  have hs1 := fun hne => flr_spec (a.tmod 1000000) (b.tmod 1000) hne (by omega) (by omega)
  have hs2 := fun hne => cel_spec (a.tmod 1000000) (b.tmod 1000) hne (by omega) (by omega)
  obtain ⟨x1, x2⟩ := hx
  obtain ⟨y1, y2⟩ := hy
  rcases Int.lt_trichotomy (b.tmod 1000) 0 with h0 | h0 | h0
  · obtain ⟨-, f1, f2, f3⟩ := hs1 (by omega)
    obtain ⟨-, c1, c2, c3⟩ := hs2 (by omega)
    obtain ⟨f4, f5⟩ := f1 h0
    obtain ⟨c4, c5⟩ := c1 h0
    clear f1 c1 hs1 hs2
    go_enter Try.func3, Try.ntmps3
    go_wp2_with first
      | (go_at_call 13; refine (sanity_any _).mono ?_; rintro e w' ⟨rfl, hg⟩)
      | (go_at_call 14; refine (floor_any _ _ _).mono ?_; rintro e w' ⟨rfl, rfl⟩)
      | (go_at_call 15; refine (ceil_any _ _ _).mono ?_; rintro e w' ⟨rfl, rfl⟩)
      | (go_at_call 16; refine (floor_ref _ _ _).mono ?_; rintro e w' ⟨rfl, rfl⟩)
      | (go_at_call 17; refine (ceil_ref _ _ _).mono ?_; rintro e w' ⟨rfl, rfl⟩)
    go_ret
    first | exact ⟨rfl, hg⟩ | exact ⟨ret_bool (decide_eq_true (by omega)), hg⟩
  · have z1 := flr_zero (a.tmod 1000000)
    have z2 := cel_zero (a.tmod 1000000)
    clear hs1 hs2
    go_enter Try.func3, Try.ntmps3
    go_wp2_with first
      | (go_at_call 13; refine (sanity_any _).mono ?_; rintro e w' ⟨rfl, hg⟩)
      | (go_at_call 14; refine (floor_any _ _ _).mono ?_; rintro e w' ⟨rfl, rfl⟩)
      | (go_at_call 15; refine (ceil_any _ _ _).mono ?_; rintro e w' ⟨rfl, rfl⟩)
      | (go_at_call 16; refine (floor_ref _ _ _).mono ?_; rintro e w' ⟨rfl, rfl⟩)
      | (go_at_call 17; refine (ceil_ref _ _ _).mono ?_; rintro e w' ⟨rfl, rfl⟩)
    go_ret
    first | exact ⟨rfl, hg⟩ | exact ⟨ret_bool (decide_eq_true (by omega)), hg⟩
  · obtain ⟨f1, -, f2, f3⟩ := hs1 (by omega)
    obtain ⟨c1, -, c2, c3⟩ := hs2 (by omega)
    obtain ⟨f4, f5⟩ := f1 h0
    obtain ⟨c4, c5⟩ := c1 h0
    clear f1 c1 hs1 hs2
    go_enter Try.func3, Try.ntmps3
    go_wp2_with first
      | (go_at_call 13; refine (sanity_any _).mono ?_; rintro e w' ⟨rfl, hg⟩)
      | (go_at_call 14; refine (floor_any _ _ _).mono ?_; rintro e w' ⟨rfl, rfl⟩)
      | (go_at_call 15; refine (ceil_any _ _ _).mono ?_; rintro e w' ⟨rfl, rfl⟩)
      | (go_at_call 16; refine (floor_ref _ _ _).mono ?_; rintro e w' ⟨rfl, rfl⟩)
      | (go_at_call 17; refine (ceil_ref _ _ _).mono ?_; rintro e w' ⟨rfl, rfl⟩)
    go_ret
    first | exact ⟨rfl, hg⟩ | exact ⟨ret_bool (decide_eq_true (by omega)), hg⟩
end rectDivides
end Go.Proofs.Ytplnhmfkflnhpaa
