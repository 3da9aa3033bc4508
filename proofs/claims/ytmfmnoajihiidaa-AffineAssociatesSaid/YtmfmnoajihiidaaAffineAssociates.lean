/- AffineAssociates: for every input the law returns true: the frame round the walk. No condition beyond the row's own. -/
import Derived.Test.YtmfmnoajihiidaaRows
import Derived.Test.YtmfmnoajihiidaaLC
import Derived.Test.YtmfmnoajihiidaaFlat
import Derived.WalkKit
import Derived.ProofKit
import Derived.OpenShut
import Derived.ShutString
import Derived.ChangeOld
import Derived.Below
import Derived.SizedLaws
namespace Go.Proofs.Ytmfmnoajihiidaa.affineAssociates
open Go.ChangeShapes Go.WideShapes Go.ChangeAt Go.RowKit
open Go.ChangeMaps (open_string shut_string)
set_option linter.unusedVariables false

theorem own : ownKnob Try.prog.godebug = none := by kernel_rfl
theorem laidOut : laidOutB Try.prog = true := by kernel_rfl

set_option maxRecDepth 100000 in
theorem lifted (os : Os) (started : os.Started) (H : Type) (enc : TypeId × Value → H) :
    ReturnsInHanded {} Try.checked os 9 .any (Rows.affineAssociatesSpec.pre6 enc Try.prog Try.f9 Rows.affineAssociatesRow.domain false) (Rows.affineAssociatesSpec.post enc Try.prog Try.f9 false true false false) := by
  refine returnsInHanded_of_change_sized (C := Try.checked) own started (by kernel_rfl) Try.func9
    (ChangeSpec.witness6 (enc := enc) (C := Try.checked) false ⟨#[], #[.agg #[.int .i64 0, .int .i64 0, .int .i64 0, .int .i64 0, .int .i64 0, .int .i64 0, .int .i64 0, .int .i64 0, .int .i64 0, .int .i64 0, .int .i64 0, .int .i64 0, .int .i64 0, .int .i64 0, .int .i64 0, .int .i64 0, .int .i64 0, .int .i64 0, .int .i64 0, .int .i64 0, .int .i64 0]], []⟩ 8 (by kernel_rfl) (by kernel_rfl) (by kernel_rfl) (by kernel_rfl)) ?_
  intro W base args ds gs before hval0 hW hcnd hsz0 _
  have hval : ∀ (j : Nat) t v, Try.f9.params[j]? = some t → args[j]? = some v → Value.okWide Try.prog W .any base t v := hval0
  have hsz : (DataW.weightsEach Try.prog (Try.f9.params.toList ++ Rows.affineAssociatesSpec.plain.varTypes Try.prog) (ds ++ gs)).all (· ≤ reachBytes) = true := hsz0
  clear hsz0
  have hW' := hW
  obtain ⟨p, q, hA0, hV, rfl, hfz, hnd⟩ := hW
  have hA : DataW.TrodAll enc Try.prog W 0 (fun _ => true) true Try.f9.params.toList args.toList ds p := hA0
  rw [Try.params9] at hA hval hsz
  obtain ⟨v0, vs0, d0, ds0, p0, q0, hargs, rfl, rfl, h0, r0⟩ := trodAll_cons hA
  obtain ⟨rfl, rfl, rfl⟩ := trodAll_nil r0
  obtain rfl : args = #[v0] := by cases args; simp_all
  obtain ⟨rfl, rfl⟩ := trodVars_none hV
  have k0 := h0
  have lt0 : ∀ x ∈ p0, x.block < W.heap.size := by obtain ⟨m, hm⟩ := k0; exact DataW.trod_lt m _ _ _ hm
  obtain ⟨cs0, rfl, f0⟩ := open_flat (ks := [.i64, .i64, .i64, .i64, .i64, .i64, .i64, .i64, .i64, .i64, .i64, .i64, .i64, .i64, .i64, .i64, .i64, .i64, .i64, .i64, .i64]) 12 (by kernel_rfl) (agg_array Try.underlying62 (hval 0 62 v0 rfl rfl)) h0
  obtain ⟨a0_0, t0, rfl, w0_0, f0⟩ := f0
  obtain ⟨a0_1, t0, rfl, w0_1, f0⟩ := f0
  obtain ⟨a0_2, t0, rfl, w0_2, f0⟩ := f0
  obtain ⟨a0_3, t0, rfl, w0_3, f0⟩ := f0
  obtain ⟨a0_4, t0, rfl, w0_4, f0⟩ := f0
  obtain ⟨a0_5, t0, rfl, w0_5, f0⟩ := f0
  obtain ⟨a0_6, t0, rfl, w0_6, f0⟩ := f0
  obtain ⟨a0_7, t0, rfl, w0_7, f0⟩ := f0
  obtain ⟨a0_8, t0, rfl, w0_8, f0⟩ := f0
  obtain ⟨a0_9, t0, rfl, w0_9, f0⟩ := f0
  obtain ⟨a0_10, t0, rfl, w0_10, f0⟩ := f0
  obtain ⟨a0_11, t0, rfl, w0_11, f0⟩ := f0
  obtain ⟨a0_12, t0, rfl, w0_12, f0⟩ := f0
  obtain ⟨a0_13, t0, rfl, w0_13, f0⟩ := f0
  obtain ⟨a0_14, t0, rfl, w0_14, f0⟩ := f0
  obtain ⟨a0_15, t0, rfl, w0_15, f0⟩ := f0
  obtain ⟨a0_16, t0, rfl, w0_16, f0⟩ := f0
  obtain ⟨a0_17, t0, rfl, w0_17, f0⟩ := f0
  obtain ⟨a0_18, t0, rfl, w0_18, f0⟩ := f0
  obtain ⟨a0_19, t0, rfl, w0_19, f0⟩ := f0
  obtain ⟨a0_20, t0, rfl, w0_20, f0⟩ := f0
  obtain rfl := f0
  clear hA0 hval0
  refine (walk a0_0 a0_1 a0_2 a0_3 a0_4 a0_5 a0_6 a0_7 a0_8 a0_9 a0_10 a0_11 a0_12 a0_13 a0_14 a0_15 a0_16 a0_17 a0_18 a0_19 a0_20 W w0_0 w0_1 w0_2 w0_3 w0_4 w0_5 w0_6 w0_7 w0_8 w0_9 w0_10 w0_11 w0_12 w0_13 w0_14 w0_15 w0_16 w0_17 w0_18 w0_19 w0_20).mono fun e W' ⟨he, bel⟩ => ?_
  subst he
  exact ⟨_, rfl, _, _, _, [], _, [], hW', trodAll_mk1 (shut_bool Try.underlying4 _), (trodAll_cons_mk (Below.trod laidOut (by kernel_rfl) (of_decide_eq_true (by kernel_rfl)) k0 bel lt0) trodAll_mk0), rfl, bel.frame _, fun h => by cases h⟩

theorem over : Rows.affineAssociatesRow.holds Try.pinned (OpenSpec.ofChange Rows.affineAssociatesSpec) :=
  OpenClaim.holds_of_wide 9 Try.f9 rfl rfl rfl rfl rfl rfl rfl ⟨rfl, rfl, rfl, rfl, rfl⟩ rfl rfl rfl rfl rfl (by kernel_rfl) Try.func9 (by kernel_rfl)
    (of_decide_eq_true (by kernel_rfl)) (by unfold Func.isWrapper; first | (rw [if_pos (by decide +kernel)]; kernel_rfl) | (rw [if_neg (by decide +kernel)]; exact ⟨rfl, rfl⟩))
    (fun os started H enc _ => lifted os started H enc)

theorem proved : Rows.AffineAssociatesSaid := over
#print axioms proved
end Go.Proofs.Ytmfmnoajihiidaa.affineAssociates
