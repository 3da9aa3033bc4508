/- Walk of each: eight calls of its callback. -/
import Derived.Test.YtdepfgeomceiiaaP
import Derived.Deep.DeepCutAuto
import Derived.Deep.CutBlock
import Derived.Deep.LoopGhost
set_option linter.unusedVariables false
namespace Go.Proofs.Ytdepfgeomceiiaa
open Go.RowKit
theorem enters_fn {f : FuncId} {fn : Func} {c : Code} (hf : Try.prog.funcs[f]? = some fn) (hname : (fn.name == "runtime.NumGoroutine") = false) (hb : fn.body = some c) (args : Array Value) (w : World) : (callFunc f args).run Try.prog w = .ok (.enter f args) w := by
  have h1 : fn.name ≠ "runtime.NumGoroutine" := by simpa using hname
  simp [callFunc, hf, h1, hb, mark]
/-- What a callback of each does: round k, the context, the bit. -/
structure CbE (fn : Nat) (cap : Array Value) (cx bt : Nat → Int) (I : Nat → World → Prop) : Prop where
  enters : ∀ args w, (callFunc fn args).run Try.prog w = .ok (.enter fn args) w
  start : cx 0 = 1
  next : ∀ k, k < 8 → cx (k + 1) = 2 * cx k + bt k
  bit : ∀ k, k < 8 → bt k = 0 ∨ bt k = 1
  call : ∀ k w, k < 8 → I k w → Calls Try.prog fn (#[.int .i64 (7 - (k : Int)), .int .i64 (cx k)] ++ cap) w fun e w' => e = .returned (.int .i64 (bt k)) ∧ I (k + 1) w'
theorem CbE.bd {fn cap cx bt I} (h : CbE fn cap cx bt I) : ∀ k, k ≤ 8 → 1 ≤ cx k ∧ cx k < 2 ^ (k + 1)
  | 0, _ => by rw [h.start]; decide
  | k + 1, hk => by
    have ih := h.bd k (by omega)
    have hb := h.bit k (by omega)
    rw [h.next k (by omega)]
    have : (2 : Int) ^ (k + 1 + 1) = 2 * 2 ^ (k + 1) := by rw [Int.pow_succ, Int.mul_comm]
    omega
set_option maxRecDepth 100000 in
set_option maxHeartbeats 1000000 in
theorem each_any (fn : Nat) (cap : Array Value) (cx bt : Nat → Int) (I : Nat → World → Prop) (H : Hid (CbE fn cap cx bt I)) (w : World) (h : I 0 w) :
    Calls Try.prog 30 #[.func (.func fn) #[] cap] w fun e w' => e = .returned (.tuple #[]) ∧ I 8 w' := by
  go_enter Try.func30, Try.ntmps30
  go_upto_block 2 with fail
  go_loopg [2, 3] 8 (fun k s2 s3 wr => k ≤ 8 ∧ s2 = .int .i64 (cx (8 - k)) ∧ s3 = .int .i64 ((k : Int) - 1) ∧ I (8 - k) wr)
  case atStart => exact ⟨Nat.le_refl _, by rw [H.out.start], rfl, h⟩
  case round =>
    obtain ⟨hk, rfl, rfl, hI⟩ := hrel
    cases gk with
    | zero =>
      go_wp2
      refine bodyPost_end (results_none rfl _ _ _) rfl ⟨rfl, hI⟩
    | succ k =>
      have e8 : 8 - (k + 1) + 1 = 8 - k := by omega
      have e7 : 7 - k + 1 = 8 - k := by omega
      have e77 : 8 - (k + 1) = 7 - k := by omega
      rw [e77] at hI
      have hc := H.out.call (7 - k) wr (by omega) hI
      rw [show 7 - ((7 - k : Nat) : Int) = (k : Int) by omega, e7] at hc
      have hn := H.out.next (7 - k) (by omega)
      rw [e7] at hn
      have hb0 := H.out.bd (7 - k) (by omega)
      have hp0 : (2 : Int) ^ (7 - k + 1) ≤ 512 := by
        have : (2 : Nat) ^ (7 - k + 1) ≤ 2 ^ 9 := Nat.pow_le_pow_right (by omega) (by omega)
        exact_mod_cast this
      have hen := Lib.hid H.out.enters
      have hb := H.out.bd (8 - k) (by omega)
      have hb2 := H.out.bit (7 - k) (by omega)
      have hp : (2 : Int) ^ (8 - k + 1) ≤ 512 := by
        have : (2 : Nat) ^ (8 - k + 1) ≤ 2 ^ 9 := Nat.pow_le_pow_right (by omega) (by omega)
        exact_mod_cast this
      replace hc := Lib.hid hc
      replace hn := Lib.hid hn
      go_wp2_with fail
      rw [hen.out, Oper.upon_enter]
      refine hc.out.mono ?_
      rintro e w' ⟨rfl, hI'⟩
      replace hn := hn.out
      go_wp2
      go_roundg k
      case measure => omega
      case rel => exact ⟨by omega, by rw [hn], rfl, hI'⟩
end Go.Proofs.Ytdepfgeomceiiaa
