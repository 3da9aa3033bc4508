/- Walk of the law's clip. Printed by genCl.py. -/
import Derived.Test.YtmfmnoajihiidaaSm
set_option linter.unusedVariables false
namespace Go.Proofs.Ytmfmnoajihiidaa
open Go.RowKit
def Af.clip (a : Af) : Af := ⟨(Rct.mn (Rct.mx a.A (-4096)) 4096), (Rct.mn (Rct.mx a.B (-4096)) 4096), (Rct.mn (Rct.mx a.C (-268435456)) 268435456), (Rct.mn (Rct.mx a.D (-4096)) 4096), (Rct.mn (Rct.mx a.E (-4096)) 4096), (Rct.mn (Rct.mx a.F (-268435456)) 268435456), (Rct.mn (Rct.mx a.N 1) 4096)⟩
theorem min2_run (x y : Int) (w : World) : (Builtin.min_ #[3, 3] 3 #[.int .i64 x, .int .i64 y]).run Try.prog w = .ok (.int .i64 (Rct.mn x y)) w := by
  unfold Rct.mn
  by_cases h : y < x <;> simp [Builtin.min_, Builtin.min2, h]
theorem max2_run (x y : Int) (w : World) : (Builtin.max_ #[3, 3] 3 #[.int .i64 x, .int .i64 y]).run Try.prog w = .ok (.int .i64 (Rct.mx x y)) w := by
  unfold Rct.mx
  by_cases h : x < y <;> simp [Builtin.max_, Builtin.max2, h]
set_option maxRecDepth 100000 in
set_option maxHeartbeats 4000000 in
theorem clip_any (a : Af) (w : World) :
    Calls Try.prog 26 #[.agg #[.int .i64 a.A, .int .i64 a.B, .int .i64 a.C, .int .i64 a.D, .int .i64 a.E, .int .i64 a.F, .int .i64 a.N]] w fun e w' => e = .returned (.agg #[.int .i64 a.clip.A, .int .i64 a.clip.B, .int .i64 a.clip.C, .int .i64 a.clip.D, .int .i64 a.clip.E, .int .i64 a.clip.F, .int .i64 a.clip.N]) ∧ Grow w w' := by
  have hc : a.clip = ⟨(Rct.mn (Rct.mx a.A (-4096)) 4096), (Rct.mn (Rct.mx a.B (-4096)) 4096), (Rct.mn (Rct.mx a.C (-268435456)) 268435456), (Rct.mn (Rct.mx a.D (-4096)) 4096), (Rct.mn (Rct.mx a.E (-4096)) 4096), (Rct.mn (Rct.mx a.F (-268435456)) 268435456), (Rct.mn (Rct.mx a.N 1) 4096)⟩ := rfl
  have hmin := min2_run
  have hmax := max2_run
  replace hc := Lib.hid hc
  go_enter Try.func26, Try.ntmps26
  go_wp2
  refine bodyPost_ret (results_cell23 rfl _ (w.heap.size + 1) _ _ _ _ _ _ _ _ rfl (heap_new' _ _ _ (by simp))) rfl ⟨by rw [hc.out], (Grow.alloc w _).a _⟩
end Go.Proofs.Ytmfmnoajihiidaa
