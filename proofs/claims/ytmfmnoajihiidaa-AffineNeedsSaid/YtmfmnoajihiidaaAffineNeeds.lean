/- AffineNeeds: for every input the law returns true: the frame round the walk. No condition beyond the row's own. -/
import Derived.Test.YtmfmnoajihiidaaRows
import Derived.Test.YtmfmnoajihiidaaLJ
import Derived.Test.YtmfmnoajihiidaaFlat
import Derived.WalkKit
import Derived.ProofKit
import Derived.OpenShut
import Derived.ShutString
import Derived.ChangeOld
import Derived.Below
import Derived.SizedLaws
namespace Go.Proofs.Ytmfmnoajihiidaa.affineNeeds
open Go.ChangeShapes Go.WideShapes Go.ChangeAt Go.RowKit
open Go.ChangeMaps (open_string shut_string)
set_option linter.unusedVariables false

theorem own : ownKnob Try.prog.godebug = none := by kernel_rfl
theorem laidOut : laidOutB Try.prog = true := by kernel_rfl

set_option maxRecDepth 100000 in
theorem lifted (os : Os) (started : os.Started) (H : Type) (enc : TypeId × Value → H) :
    ReturnsInHanded {} Try.checked os 12 .any (Rows.affineNeedsSpec.pre6 enc Try.prog Try.f12 Rows.affineNeedsRow.domain false) (Rows.affineNeedsSpec.post enc Try.prog Try.f12 false true false false) := by
  refine returnsInHanded_of_change_sized (C := Try.checked) own started (by kernel_rfl) Try.func12
    (ChangeSpec.witness6 (enc := enc) (C := Try.checked) false ⟨#[], #[.agg #[.int .i64 0, .int .i64 0, .int .i64 0, .int .i64 0, .int .i64 0, .int .i64 0, .int .i64 0], .agg #[.int .i64 0, .int .i64 0, .int .i64 0, .int .i64 0]], []⟩ 8 (by kernel_rfl) (by kernel_rfl) (by kernel_rfl) (by kernel_rfl)) ?_
  intro W base args ds gs before hval0 hW hcnd hsz0 _
  have hval : ∀ (j : Nat) t v, Try.f12.params[j]? = some t → args[j]? = some v → Value.okWide Try.prog W .any base t v := hval0
  have hsz : (DataW.weightsEach Try.prog (Try.f12.params.toList ++ Rows.affineNeedsSpec.plain.varTypes Try.prog) (ds ++ gs)).all (· ≤ reachBytes) = true := hsz0
  clear hsz0
  have hW' := hW
  obtain ⟨p, q, hA0, hV, rfl, hfz, hnd⟩ := hW
  have hA : DataW.TrodAll enc Try.prog W 0 (fun _ => true) true Try.f12.params.toList args.toList ds p := hA0
  rw [Try.params12] at hA hval hsz
  obtain ⟨v0, vs0, d0, ds0, p0, q0, hargs, rfl, rfl, h0, r0⟩ := trodAll_cons hA
  obtain ⟨v1, vs1, d1, ds1, p1, q1, rfl, rfl, rfl, h1, r1⟩ := trodAll_cons r0
  obtain ⟨rfl, rfl, rfl⟩ := trodAll_nil r1
  obtain rfl : args = #[v0, v1] := by cases args; simp_all
  obtain ⟨rfl, rfl⟩ := trodVars_none hV
  have k0 := h0
  have lt0 : ∀ x ∈ p0, x.block < W.heap.size := by obtain ⟨m, hm⟩ := k0; exact DataW.trod_lt m _ _ _ hm
  obtain ⟨cs0, rfl, f0⟩ := open_flat (ks := [.i64, .i64, .i64, .i64, .i64, .i64, .i64]) 12 (by kernel_rfl) (agg_array Try.underlying24 (hval 0 24 v0 rfl rfl)) h0
  obtain ⟨a0_0, t0, rfl, w0_0, f0⟩ := f0
  obtain ⟨a0_1, t0, rfl, w0_1, f0⟩ := f0
  obtain ⟨a0_2, t0, rfl, w0_2, f0⟩ := f0
  obtain ⟨a0_3, t0, rfl, w0_3, f0⟩ := f0
  obtain ⟨a0_4, t0, rfl, w0_4, f0⟩ := f0
  obtain ⟨a0_5, t0, rfl, w0_5, f0⟩ := f0
  obtain ⟨a0_6, t0, rfl, w0_6, f0⟩ := f0
  obtain rfl := f0
  have k1 := h1
  have lt1 : ∀ x ∈ p1, x.block < W.heap.size := by obtain ⟨m, hm⟩ := k1; exact DataW.trod_lt m _ _ _ hm
  obtain ⟨cs1, rfl, f1⟩ := open_flat (ks := [.i64, .i64, .i64, .i64]) 12 (by kernel_rfl) (agg_array Try.underlying46 (hval 1 46 v1 rfl rfl)) h1
  obtain ⟨a1_0, t1, rfl, w1_0, f1⟩ := f1
  obtain ⟨a1_1, t1, rfl, w1_1, f1⟩ := f1
  obtain ⟨a1_2, t1, rfl, w1_2, f1⟩ := f1
  obtain ⟨a1_3, t1, rfl, w1_3, f1⟩ := f1
  obtain rfl := f1
  clear hA0 hval0
  refine (walk a0_0 a0_1 a0_2 a0_3 a0_4 a0_5 a0_6 a1_0 a1_1 a1_2 a1_3 W w0_0 w0_1 w0_2 w0_3 w0_4 w0_5 w0_6 w1_0 w1_1 w1_2 w1_3).mono fun e W' ⟨he, bel⟩ => ?_
  subst he
  exact ⟨_, rfl, _, _, _, [], _, [], hW', trodAll_mk1 (shut_bool Try.underlying4 _), (trodAll_cons_mk (Below.trod laidOut (by kernel_rfl) (of_decide_eq_true (by kernel_rfl)) k0 bel lt0) (trodAll_cons_mk (Below.trod laidOut (by kernel_rfl) (of_decide_eq_true (by kernel_rfl)) k1 bel lt1) trodAll_mk0)), rfl, bel.frame _, fun h => by cases h⟩

theorem over : Rows.affineNeedsRow.holds Try.pinned (OpenSpec.ofChange Rows.affineNeedsSpec) :=
  OpenClaim.holds_of_wide 12 Try.f12 rfl rfl rfl rfl rfl rfl rfl ⟨rfl, rfl, rfl, rfl, rfl⟩ rfl rfl rfl rfl rfl (by kernel_rfl) Try.func12 (by kernel_rfl)
    (of_decide_eq_true (by kernel_rfl)) (by unfold Func.isWrapper; first | (rw [if_pos (by decide +kernel)]; kernel_rfl) | (rw [if_neg (by decide +kernel)]; exact ⟨rfl, rfl⟩))
    (fun os started H enc _ => lifted os started H enc)

theorem proved : Rows.AffineNeedsSaid := over
#print axioms proved
end Go.Proofs.Ytmfmnoajihiidaa.affineNeeds
