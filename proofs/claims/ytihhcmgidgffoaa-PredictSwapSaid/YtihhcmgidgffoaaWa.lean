/- Walks of the laws PredictSwap and PredictCost of layer 10: each returns true and writes nothing that was there. -/
import Derived.Test.YtihhcmgidgffoaaG
import Derived.Test.YtihhcmgidgffoaaFlat
set_option linter.unusedVariables false
namespace Go.Proofs.Ytihhcmgidgffoaa
open Go.RowKit
namespace predictSwap
theorem grey1 (r : UInt8) : M.swU r r = 0 := (M.sw_grey r).1
theorem grey2 (r : UInt8) : M.swV r r r = 0 := (M.sw_grey r).2.1
theorem grey3 (r : UInt8) : M.swY r r r = r := (M.sw_grey r).2.2
theorem back_swap (r g b : UInt8) (w : World) : Calls Try.prog 20 #[.int .u8 (M.swY r g b).toNat, .int .u8 (M.swU r b).toNat, .int .u8 (M.swV r g b).toNat] w fun e w' => e = .returned (.tuple #[.int .u8 r.toNat, .int .u8 g.toNat, .int .u8 b.toNat]) ∧ w = w' := by
  have h := back_any (M.swY r g b) (M.swU r b) (M.swV r g b) w
  rwa [M.bk_r, M.bk_g, M.bk_b] at h
theorem swap_back (y u v : UInt8) (w : World) : Calls Try.prog 13 #[.int .u8 (M.bkR y u v).toNat, .int .u8 (M.bkG y v).toNat, .int .u8 (M.bkB y u v).toNat] w fun e w' => e = .returned (.tuple #[.int .u8 y.toNat, .int .u8 u.toNat, .int .u8 v.toNat]) ∧ w = w' := by
  have h := swap_any (M.bkR y u v) (M.bkG y v) (M.bkB y u v) w
  rwa [M.sw_y, M.sw_u, M.sw_v] at h
theorem swap_grey (r : UInt8) (w : World) : Calls Try.prog 13 #[.int .u8 r.toNat, .int .u8 r.toNat, .int .u8 r.toNat] w fun e w' => e = .returned (.tuple #[.int .u8 r.toNat, .int .u8 0, .int .u8 0]) ∧ w = w' := by
  have h := swap_any r r r w
  rwa [grey1, grey2, grey3] at h

set_option maxRecDepth 100000 in
set_option maxHeartbeats 800000 in
theorem walk (a0 a1 a2 : Int) (w : World) (w0 : (Lit.int .u8 a0).wf = true) (w1 : (Lit.int .u8 a1).wf = true) (w2 : (Lit.int .u8 a2).wf = true) :
    Calls Try.prog 8 #[.int .u8 a0, .int .u8 a1, .int .u8 a2] w fun e w' => e = .returned (.bool true) ∧ Below w.heap.size w w' := by
  obtain ⟨r, rfl⟩ := u8_of w0
  obtain ⟨g, rfl⟩ := u8_of w1
  obtain ⟨b, rfl⟩ := u8_of w2
  clear w0 w1 w2
  go_enter Try.func8, Try.ntmps8
  go_wp2_with fail
  refine (sanity_any _).mono ?_
  rintro e x1 ⟨rfl, b1⟩
  go_wp2_with fail
  refine (swap_any _ _ _ _).mono ?_
  rintro e x2 ⟨rfl, rfl⟩
  go_wp2_with fail
  refine (swap_ref _ _ _ _).mono ?_
  rintro e x3 ⟨rfl, b3⟩
  replace b1 := bt b1 b3
  clear b3
  go_wp2_with fail
  refine (back_swap _ _ _ _).mono ?_
  rintro e x4 ⟨rfl, rfl⟩
  go_wp2_with fail
  refine (back_any _ _ _ _).mono ?_
  rintro e x5 ⟨rfl, rfl⟩
  go_wp2_with fail
  refine (swap_back _ _ _ _).mono ?_
  rintro e x6 ⟨rfl, rfl⟩
  go_wp2_with fail
  refine (swap_grey _ _).mono ?_
  rintro e x7 ⟨rfl, rfl⟩
  go_wp2_with fail
  go_ret
  exact ⟨rfl, b1.alloc b1.size _⟩
end predictSwap
end Go.Proofs.Ytihhcmgidgffoaa
