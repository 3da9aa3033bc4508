/- CodecSolid: for every input the law returns true: the frame round the walk. No condition beyond the row's own. -/
import Derived.Test.YtpdckpifhniioaaRows
import Derived.Test.YtpdckpifhniioaaW1
import Derived.Test.YtpdckpifhniioaaFlat
import Derived.Test.YtpdckpifhniioaaFlatS
import Derived.WalkKit
import Derived.ProofKit
import Derived.OpenShut
import Derived.ShutString
import Derived.ChangeOld
import Derived.Below
import Derived.SizedLaws
namespace Go.Proofs.Ytpdckpifhniioaa.codecSolid
open Go.ChangeShapes Go.WideShapes Go.ChangeAt Go.RowKit
open Go.ChangeMaps (open_string shut_string)
set_option linter.unusedVariables false

theorem own : ownKnob Try.prog.godebug = none := by kernel_rfl
theorem laidOut : laidOutB Try.prog = true := by kernel_rfl

set_option maxRecDepth 100000 in
theorem lifted (os : Os) (started : os.Started) (H : Type) (enc : TypeId × Value → H) :
    ReturnsInHanded {} Try.checked os 3 .any (Rows.codecSolidSpec.pre6 enc Try.prog Try.f3 Rows.codecSolidRow.domain false) (Rows.codecSolidSpec.post enc Try.prog Try.f3 false true false false) := by
  refine returnsInHanded_of_change_sized (C := Try.checked) own started (by kernel_rfl) Try.func3
    (ChangeSpec.witness6 (enc := enc) (C := Try.checked) false ⟨#[], #[.agg #[.int .u8 0, .int .u8 0, .int .u8 0, .int .u8 0], .slice none 0 0], []⟩ 8 (by kernel_rfl) (by kernel_rfl) (by kernel_rfl) (by kernel_rfl)) ?_
  intro W base args ds gs before hval0 hW hcnd hsz0 _
  have hval : ∀ (j : Nat) t v, Try.f3.params[j]? = some t → args[j]? = some v → Value.okWide Try.prog W .any base t v := hval0
  have hsz : (DataW.weightsEach Try.prog (Try.f3.params.toList ++ Rows.codecSolidSpec.plain.varTypes Try.prog) (ds ++ gs)).all (· ≤ reachBytes) = true := hsz0
  clear hsz0
  have hW' := hW
  obtain ⟨p, q, hA0, hV, rfl, hfz, hnd⟩ := hW
  have hA : DataW.TrodAll enc Try.prog W 0 (fun _ => true) true Try.f3.params.toList args.toList ds p := hA0
  rw [Try.params3] at hA hval hsz
  obtain ⟨v0, vs0, d0, ds0, p0, q0, hargs, rfl, rfl, h0, r0⟩ := trodAll_cons hA
  obtain ⟨v1, vs1, d1, ds1, p1, q1, rfl, rfl, rfl, h1, r1⟩ := trodAll_cons r0
  obtain ⟨rfl, rfl, rfl⟩ := trodAll_nil r1
  obtain rfl : args = #[v0, v1] := by cases args; simp_all
  obtain ⟨rfl, rfl⟩ := trodVars_none hV
  have k0 := h0
  have lt0 : ∀ x ∈ p0, x.block < W.heap.size := by obtain ⟨m, hm⟩ := k0; exact DataW.trod_lt m _ _ _ hm
  obtain ⟨cs0, rfl, f0⟩ := open_flat (ks := [.u8, .u8, .u8, .u8]) 12 (by kernel_rfl) (agg_struct Try.underlying23 (hval 0 23 v0 rfl rfl)) h0
  obtain ⟨a0_0, t0, rfl, w0_0, f0⟩ := f0
  obtain ⟨a0_1, t0, rfl, w0_1, f0⟩ := f0
  obtain ⟨a0_2, t0, rfl, w0_2, f0⟩ := f0
  obtain ⟨a0_3, t0, rfl, w0_3, f0⟩ := f0
  obtain rfl := f0
  obtain ⟨y0_0, rfl⟩ := u8_of w0_0
  obtain ⟨y0_1, rfl⟩ := u8_of w0_1
  obtain ⟨y0_2, rfl⟩ := u8_of w0_2
  obtain ⟨y0_3, rfl⟩ := u8_of w0_3
  have k1 := h1
  have lt1 : ∀ x ∈ p1, x.block < W.heap.size := by obtain ⟨m, hm⟩ := k1; exact DataW.trod_lt m _ _ _ hm
  obtain ⟨o1, n1, c1, z1, rfl, zl1, zc1, zw1, zh1, zd1⟩ := open_int_slice Try.underlying24 Try.underlying3 (by kernel_rfl) (hval 1 24 v1 rfl rfl) h1 lt1
  have zb1 : n1 * 8 ≤ 140737488351232 := by have h := reach_slice hsz (j := 1) (t := 24) rfl rfl Try.underlying24 zd1; rw [show Try.prog.bytesOf 3 = 8 by kernel_rfl] at h; exact h
  clear hA0 hval0
  refine (walk y0_0 y0_1 y0_2 y0_3 o1 z1 n1 c1 W zb1 zl1 zc1 zh1 zw1).mono fun e W' ⟨he, bel⟩ => ?_
  subst he
  exact ⟨_, rfl, _, _, _, [], _, [], hW', trodAll_mk1 (shut_bool Try.underlying4 _), (trodAll_cons_mk (Below.trod laidOut (by kernel_rfl) (of_decide_eq_true (by kernel_rfl)) k0 bel lt0) (trodAll_cons_mk (Below.trod laidOut (by kernel_rfl) (of_decide_eq_true (by kernel_rfl)) k1 bel lt1) trodAll_mk0)), rfl, bel.frame _, fun h => by cases h⟩

theorem over : Rows.codecSolidRow.holds Try.pinned (OpenSpec.ofChange Rows.codecSolidSpec) :=
  OpenClaim.holds_of_wide 3 Try.f3 rfl rfl rfl rfl rfl rfl rfl ⟨rfl, rfl, rfl, rfl, rfl⟩ rfl rfl rfl rfl rfl (by kernel_rfl) Try.func3 (by kernel_rfl)
    (of_decide_eq_true (by kernel_rfl)) (by unfold Func.isWrapper; first | (rw [if_pos (by decide +kernel)]; kernel_rfl) | (rw [if_neg (by decide +kernel)]; exact ⟨rfl, rfl⟩))
    (fun os started H enc _ => lifted os started H enc)

theorem proved : Rows.CodecSolidSaid := over
#print axioms proved
end Go.Proofs.Ytpdckpifhniioaa.codecSolid
