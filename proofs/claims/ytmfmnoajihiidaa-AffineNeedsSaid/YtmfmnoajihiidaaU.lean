/- Walk of corners: four calls of its callback. -/
import Derived.Test.YtmfmnoajihiidaaT
set_option linter.unusedVariables false
namespace Go.Proofs.Ytmfmnoajihiidaa
open Go.RowKit
theorem enters_fn {f : FuncId} {fn : Func} {c : Code} (hf : Try.prog.funcs[f]? = some fn) (hname : (fn.name == "runtime.NumGoroutine") = false) (hb : fn.body = some c) (args : Array Value) (w : World) : (callFunc f args).run Try.prog w = .ok (.enter f args) w := by
  have h1 : fn.name ≠ "runtime.NumGoroutine" := by simpa using hname
  simp [callFunc, hf, h1, hb, mark]
/-- What a callback of corners does. -/
structure CbC (fn : Nat) (cap : Array Value) (x0 y0 x1 y1 : Int) (I : Nat → World → Prop) : Prop where
  enters : ∀ args w, (callFunc fn args).run Try.prog w = .ok (.enter fn args) w
  grow : ∀ k w w', I k w → Grow w w' → I k w'
  c0 : ∀ w, I 0 w → Calls Try.prog fn (#[.agg #[.int .i64 x0, .int .i64 y0]] ++ cap) w fun e w' => e = .returned (.tuple #[]) ∧ I 1 w'
  c1 : ∀ w, I 1 w → Calls Try.prog fn (#[.agg #[.int .i64 x1, .int .i64 y0]] ++ cap) w fun e w' => e = .returned (.tuple #[]) ∧ I 2 w'
  c2 : ∀ w, I 2 w → Calls Try.prog fn (#[.agg #[.int .i64 x0, .int .i64 y1]] ++ cap) w fun e w' => e = .returned (.tuple #[]) ∧ I 3 w'
  c3 : ∀ w, I 3 w → Calls Try.prog fn (#[.agg #[.int .i64 x1, .int .i64 y1]] ++ cap) w fun e w' => e = .returned (.tuple #[]) ∧ I 4 w'
theorem index93_0 (a0 a1 a2 a3 a4 a5 a6 a7 : Int) (w : World) : (Instr.index 93 (.agg #[.int .i64 a0, .int .i64 a1, .int .i64 a2, .int .i64 a3, .int .i64 a4, .int .i64 a5, .int .i64 a6, .int .i64 a7]) (.int .i64 0)).run Try.prog w = .ok (.agg #[.int .i64 a0, .int .i64 a1]) w := by
  first | rfl | kernel_rfl | (go_simp; done) | (simp [Instr.index, go_sem]; done)
theorem index93_1 (a0 a1 a2 a3 a4 a5 a6 a7 : Int) (w : World) : (Instr.index 93 (.agg #[.int .i64 a0, .int .i64 a1, .int .i64 a2, .int .i64 a3, .int .i64 a4, .int .i64 a5, .int .i64 a6, .int .i64 a7]) (.int .i64 1)).run Try.prog w = .ok (.agg #[.int .i64 a2, .int .i64 a3]) w := by
  first | rfl | kernel_rfl | (go_simp; done) | (simp [Instr.index, go_sem]; done)
theorem index93_2 (a0 a1 a2 a3 a4 a5 a6 a7 : Int) (w : World) : (Instr.index 93 (.agg #[.int .i64 a0, .int .i64 a1, .int .i64 a2, .int .i64 a3, .int .i64 a4, .int .i64 a5, .int .i64 a6, .int .i64 a7]) (.int .i64 2)).run Try.prog w = .ok (.agg #[.int .i64 a4, .int .i64 a5]) w := by
  first | rfl | kernel_rfl | (go_simp; done) | (simp [Instr.index, go_sem]; done)
theorem index93_3 (a0 a1 a2 a3 a4 a5 a6 a7 : Int) (w : World) : (Instr.index 93 (.agg #[.int .i64 a0, .int .i64 a1, .int .i64 a2, .int .i64 a3, .int .i64 a4, .int .i64 a5, .int .i64 a6, .int .i64 a7]) (.int .i64 3)).run Try.prog w = .ok (.agg #[.int .i64 a6, .int .i64 a7]) w := by
  first | rfl | kernel_rfl | (go_simp; done) | (simp [Instr.index, go_sem]; done)
set_option maxRecDepth 100000 in
set_option maxHeartbeats 4000000 in
theorem corners_any (fn : Nat) (cap : Array Value) (x0 y0 x1 y1 : Int) (I : Nat → World → Prop) (H : Hid (CbC fn cap x0 y0 x1 y1 I)) (w : World) (h : I 0 w) :
    Calls Try.prog 50 #[.int .i64 x0, .int .i64 y0, .int .i64 x1, .int .i64 y1, .func (.func fn) #[] cap] w fun e w' => e = .returned (.tuple #[]) ∧ I 4 w' := by
  have hen := Lib.hid H.out.enters
  have hgw := Lib.hid H.out.grow
  have h0 := Lib.hid H.out.c0
  have h1 := Lib.hid H.out.c1
  have h2 := Lib.hid H.out.c2
  have h3 := Lib.hid H.out.c3
  clear H
  replace h := Lib.hid h
  go_enter Try.func50, Try.ntmps50
  go_upto_region 1 with fail
  go_loopg [25] 4 (fun k s25 wr => k ≤ 4 ∧ s25 = .int .i64 (4 - (k : Int)) ∧ I (4 - k) wr)
  case atStart => exact ⟨Nat.le_refl _, rfl, h.out⟩
  case round =>
    obtain ⟨hk, rfl, hI⟩ := hrel
    obtain rfl | rfl | rfl | rfl | rfl : gk = 0 ∨ gk = 1 ∨ gk = 2 ∨ gk = 3 ∨ gk = 4 := by omega
    · go_wp2
      refine bodyPost_end (results_none rfl _ _ _) rfl ⟨rfl, hI⟩
    · have hs : ((4 : Int) - ((1 : Nat) : Int)) = 3 := rfl
      have hx := fun W => index93_3 x0 y0 x1 y0 x0 y1 x1 y1 W
      rw [hs]
      clear hs hk
      replace hI := Lib.hid hI
      go_wp2_with fail
      rw [hen.out, Oper.upon_enter]
      refine (h3.out _ (hgw.out 3 wr _ hI.out (Grow.alloc _ _))).mono ?_
      rintro e w' ⟨rfl, hI'⟩
      replace hI' := Lib.hid hI'
      go_wp2
      go_roundg 0
      case measure => omega
      case rel => exact ⟨by omega, rfl, hI'.out⟩
    · have hs : ((4 : Int) - ((2 : Nat) : Int)) = 2 := rfl
      have hx := fun W => index93_2 x0 y0 x1 y0 x0 y1 x1 y1 W
      rw [hs]
      clear hs hk
      replace hI := Lib.hid hI
      go_wp2_with fail
      rw [hen.out, Oper.upon_enter]
      refine (h2.out _ (hgw.out 2 wr _ hI.out (Grow.alloc _ _))).mono ?_
      rintro e w' ⟨rfl, hI'⟩
      replace hI' := Lib.hid hI'
      go_wp2
      go_roundg 1
      case measure => omega
      case rel => exact ⟨by omega, rfl, hI'.out⟩
    · have hs : ((4 : Int) - ((3 : Nat) : Int)) = 1 := rfl
      have hx := fun W => index93_1 x0 y0 x1 y0 x0 y1 x1 y1 W
      rw [hs]
      clear hs hk
      replace hI := Lib.hid hI
      go_wp2_with fail
      rw [hen.out, Oper.upon_enter]
      refine (h1.out _ (hgw.out 1 wr _ hI.out (Grow.alloc _ _))).mono ?_
      rintro e w' ⟨rfl, hI'⟩
      replace hI' := Lib.hid hI'
      go_wp2
      go_roundg 2
      case measure => omega
      case rel => exact ⟨by omega, rfl, hI'.out⟩
    · have hs : ((4 : Int) - ((4 : Nat) : Int)) = 0 := rfl
      have hx := fun W => index93_0 x0 y0 x1 y0 x0 y1 x1 y1 W
      rw [hs]
      clear hs hk
      replace hI := Lib.hid hI
      go_wp2_with fail
      rw [hen.out, Oper.upon_enter]
      refine (h0.out _ (hgw.out 0 wr _ hI.out (Grow.alloc _ _))).mono ?_
      rintro e w' ⟨rfl, hI'⟩
      replace hI' := Lib.hid hI'
      go_wp2
      go_roundg 3
      case measure => omega
      case rel => exact ⟨by omega, rfl, hI'.out⟩
end Go.Proofs.Ytmfmnoajihiidaa
