/- Walk of the law RectTells of layer 3: it returns true and writes nothing that was there. -/
import Derived.Test.YtplnhmfkflnhpaaAM
import Derived.Test.YtplnhmfkflnhpaaLG
import Derived.Test.YtplnhmfkflnhpaaA2
import Derived.Test.YtplnhmfkflnhpaaM60
import Derived.Test.YtplnhmfkflnhpaaS
import Derived.Test.YtplnhmfkflnhpaaLC
import Derived.Test.YtplnhmfkflnhpaaK2
set_option linter.unusedVariables false
namespace Go.Proofs.Ytplnhmfkflnhpaa
open Go.RowKit
namespace rectTells
/-- What the operations of the last region yield. -/
def TT (a b : R) (L : List R) (i : Nat) (v : Value) (x : World) : Prop :=
  match i with
  | 0 => v = .agg #[.int .i64 a.x0, .int .i64 a.y0, .int .i64 a.x1, .int .i64 a.y1]
  | 1 => v = .agg #[.int .i64 b.x0, .int .i64 b.y0, .int .i64 b.x1, .int .i64 b.y1]
  | 2 => RdR x v L
  | 3 => v = .agg #[.int .i64 a.x0, .int .i64 a.y0, .int .i64 a.x1, .int .i64 a.y1]
  | 4 => v = .agg #[.int .i64 b.x0, .int .i64 b.y0, .int .i64 b.x1, .int .i64 b.y1]
  | 5 => RdR x v L
  | _ => v = .bool true
set_option maxRecDepth 100000 in
set_option maxHeartbeats 8000000 in
theorem exact_any (a b : R) (n0 n1 n2 : Int) (w : World) :
    Calls Try.prog 41 #[.agg #[.int .i64 a.x0, .int .i64 a.y0, .int .i64 a.x1, .int .i64 a.y1], .agg #[.int .i64 b.x0, .int .i64 b.y0, .int .i64 b.x1, .int .i64 b.y1], .agg #[.int .i64 n0, .int .i64 n1, .int .i64 n2]] w fun e w' => e = .returned (.bool true) ∧ Grow w w' := by
  have hq := eqR
  go_enter Try.func41, Try.ntmps41
  go_wp2_with fail
  refine wp_gen (fun W0 => ((W0.cell? ⟨w.heap.size, 0, none⟩ = some (.int .i64 a.x0) ∧ W0.cell? ⟨w.heap.size, 1, none⟩ = some (.int .i64 a.y0) ∧ W0.cell? ⟨w.heap.size, 2, none⟩ = some (.int .i64 a.x1) ∧ W0.cell? ⟨w.heap.size, 3, none⟩ = some (.int .i64 a.y1)) ∧ (W0.cell? ⟨w.heap.size + 1, 0, none⟩ = some (.int .i64 b.x0) ∧ W0.cell? ⟨w.heap.size + 1, 1, none⟩ = some (.int .i64 b.y0) ∧ W0.cell? ⟨w.heap.size + 1, 2, none⟩ = some (.int .i64 b.x1) ∧ W0.cell? ⟨w.heap.size + 1, 3, none⟩ = some (.int .i64 b.y1)) ∧ (W0.cell? ⟨w.heap.size + 1 + 1, 0, none⟩ = some (.int .i64 n0) ∧ W0.cell? ⟨w.heap.size + 1 + 1, 1, none⟩ = some (.int .i64 n1) ∧ W0.cell? ⟨w.heap.size + 1 + 1, 2, none⟩ = some (.int .i64 n2)) ∧ (W0.cell? ⟨w.heap.size + 1 + 1 + 1, 0, none⟩ = some (.int .i64 n0) ∧ W0.cell? ⟨w.heap.size + 1 + 1 + 1, 1, none⟩ = some (.int .i64 n1))) ∧ Grow w W0) ⟨by go_simp, by ((repeat refine Grow.a ?_ _); exact Grow.refl _)⟩ ?_
  rintro W0 ⟨⟨⟨a0, a1, a2, a3⟩, ⟨b0, b1, b2, b3⟩, ⟨n0', n1', n2'⟩, p0, p1⟩, hG0⟩
  have HG := Lib.hid hG0
  clear hG0
  refine q_region (C := fun x => Grow W0 x) (by kernel_rfl) (by kernel_rfl) (Grow.drew _) ?_
  repeat (first
    | go_big_quiet_skip
    | (go_big_quiet_want; refine q_val ?_; apply Exists.intro; refine ⟨fun x hx => ?_, ?_⟩; (focus (replace hx : Grow W0 x := hx; have xa0 := hx.cell a0; have xa1 := hx.cell a1; have xa2 := hx.cell a2; have xa3 := hx.cell a3; have xb0 := hx.cell b0; have xb1 := hx.cell b1; have xb2 := hx.cell b2; have xb3 := hx.cell b3; have xn0' := hx.cell n0'; have xn1' := hx.cell n1'; have xn2' := hx.cell n2'; have xp0 := hx.cell p0; have xp1 := hx.cell p1; go_simp <;> rfl)); simp only [Act.put, List.setIfInBounds_toArray, List.set_cons_zero, List.set_cons_succ]; go_big_quiet_on)
    | (go_big_quiet_want; refine q_call 22 ?_; apply Exists.intro; refine ⟨fun x hx => ?_, ?_⟩; (focus (go_simp <;> rfl)); apply Exists.intro; refine ⟨fun x hx => ?_, ?_⟩; (focus (exact ((empty_any _ _ _ _ _)).mono fun e w' h => ⟨h.1, Grow.trans hx (h.2 ▸ Grow.alloc _ _)⟩)); simp only [Act.put, List.setIfInBounds_toArray, List.set_cons_zero, List.set_cons_succ]; go_big_quiet_on)
    | (go_big_quiet_want; refine q_call 45 ?_; apply Exists.intro; refine ⟨fun x hx => ?_, ?_⟩; (focus (go_simp <;> rfl)); apply Exists.intro; refine ⟨fun x hx => ?_, ?_⟩; (focus (exact ((empty_ref _ _ _ _ _)).mono fun e w' h => ⟨h.1, Grow.trans hx (h.2 ▸ Grow.alloc _ _)⟩)); simp only [Act.put, List.setIfInBounds_toArray, List.set_cons_zero, List.set_cons_succ]; go_big_quiet_on)
    | (go_big_quiet_want; refine q_call 33 ?_; apply Exists.intro; refine ⟨fun x hx => ?_, ?_⟩; (focus (go_simp <;> rfl)); apply Exists.intro; refine ⟨fun x hx => ?_, ?_⟩; (focus (exact (has_any _ _ _ _ _ _ _).mono fun e w' h => ⟨h.1, Grow.trans hx h.2⟩)); simp only [Act.put, List.setIfInBounds_toArray, List.set_cons_zero, List.set_cons_succ]; go_big_quiet_on)
    | (go_big_quiet_want; refine q_call 51 ?_; apply Exists.intro; refine ⟨fun x hx => ?_, ?_⟩; (focus (go_simp <;> rfl)); apply Exists.intro; refine ⟨fun x hx => ?_, ?_⟩; (focus (exact (has_ref _ _ _ _ _ _ _).mono fun e w' h => ⟨h.1, Grow.trans hx h.2⟩)); simp only [Act.put, List.setIfInBounds_toArray, List.set_cons_zero, List.set_cons_succ]; go_big_quiet_on)
    | (go_big_quiet_want; refine q_call 35 ?_; apply Exists.intro; refine ⟨fun x hx => ?_, ?_⟩; (focus (go_simp <;> rfl)); apply Exists.intro; refine ⟨fun x hx => ?_, ?_⟩; (focus (exact (eqr_any _ _ _ _ _ _ _ _ _).mono fun e w' h => ⟨h.1, Grow.trans hx h.2⟩)); simp only [Act.put, List.setIfInBounds_toArray, List.set_cons_zero, List.set_cons_succ]; go_big_quiet_on)
    | (go_big_quiet_want; refine q_call 52 ?_; apply Exists.intro; refine ⟨fun x hx => ?_, ?_⟩; (focus (go_simp <;> rfl)); apply Exists.intro; refine ⟨fun x hx => ?_, ?_⟩; (focus (exact (eqr_ref _ _ _ _ _ _ _ _ _).mono fun e w' h => ⟨h.1, Grow.trans hx h.2⟩)); simp only [Act.put, List.setIfInBounds_toArray, List.set_cons_zero, List.set_cons_succ]; go_big_quiet_on)
    | (go_big_quiet_want; refine q_call 34 ?_; apply Exists.intro; refine ⟨fun x hx => ?_, ?_⟩; (focus (go_simp <;> rfl)); apply Exists.intro; refine ⟨fun x hx => ?_, ?_⟩; (focus (exact (ins_any _ _ _ _ _ _ _ _ _).mono fun e w' h => ⟨h.1, Grow.trans hx h.2⟩)); simp only [Act.put, List.setIfInBounds_toArray, List.set_cons_zero, List.set_cons_succ]; go_big_quiet_on)
    | (go_big_quiet_want; refine q_call 53 ?_; apply Exists.intro; refine ⟨fun x hx => ?_, ?_⟩; (focus (go_simp <;> rfl)); apply Exists.intro; refine ⟨fun x hx => ?_, ?_⟩; (focus (exact (ins_ref _ _ _ _ _ _ _ _ _).mono fun e w' h => ⟨h.1, Grow.trans hx h.2⟩)); simp only [Act.put, List.setIfInBounds_toArray, List.set_cons_zero, List.set_cons_succ]; go_big_quiet_on)
    | (go_big_quiet_want; refine q_call 36 ?_; apply Exists.intro; refine ⟨fun x hx => ?_, ?_⟩; (focus (go_simp <;> rfl)); apply Exists.intro; refine ⟨fun x hx => ?_, ?_⟩; (focus (exact (area_any _ _ _ _ _).mono fun e w' h => ⟨h.1, Grow.trans hx h.2⟩)); simp only [Act.put, List.setIfInBounds_toArray, List.set_cons_zero, List.set_cons_succ]; go_big_quiet_on)
    | (go_big_quiet_want; refine q_call 54 ?_; apply Exists.intro; refine ⟨fun x hx => ?_, ?_⟩; (focus (go_simp <;> rfl)); apply Exists.intro; refine ⟨fun x hx => ?_, ?_⟩; (focus (exact (area_ref _ _ _ _ _).mono fun e w' h => ⟨h.1, Grow.trans hx h.2⟩)); simp only [Act.put, List.setIfInBounds_toArray, List.set_cons_zero, List.set_cons_succ]; go_big_quiet_on)
    | (go_big_quiet_want; refine q_call 23 ?_; apply Exists.intro; refine ⟨fun x hx => ?_, ?_⟩; (focus (go_simp <;> rfl)); apply Exists.intro; refine ⟨fun x hx => ?_, ?_⟩; (focus (exact (valid_any _ _ _ _ _).mono fun e w' h => ⟨h.1, Grow.trans hx h.2⟩)); simp only [Act.put, List.setIfInBounds_toArray, List.set_cons_zero, List.set_cons_succ]; go_big_quiet_on)
    | (go_big_quiet_want; refine q_call 55 ?_; apply Exists.intro; refine ⟨fun x hx => ?_, ?_⟩; (focus (go_simp <;> rfl)); apply Exists.intro; refine ⟨fun x hx => ?_, ?_⟩; (focus (exact (valid_ref _ _ _ _ _).mono fun e w' h => ⟨h.1, Grow.trans hx h.2⟩)); simp only [Act.put, List.setIfInBounds_toArray, List.set_cons_zero, List.set_cons_succ]; go_big_quiet_on))
  refine wpQuiet_nil ?_
  intro W1 hW1
  replace hW1 : Grow W0 W1 := hW1
  replace a0 := hW1.cell a0
  replace a1 := hW1.cell a1
  replace a2 := hW1.cell a2
  replace a3 := hW1.cell a3
  replace b0 := hW1.cell b0
  replace b1 := hW1.cell b1
  replace b2 := hW1.cell b2
  replace b3 := hW1.cell b3
  replace n0' := hW1.cell n0'
  replace n1' := hW1.cell n1'
  replace n2' := hW1.cell n2'
  replace p0 := hW1.cell p0
  replace p1 := hW1.cell p1
  replace HG := Lib.hid (HG.out.trans hW1)
  clear hW1
  go_wp2
  refine q_region (C := fun x => Grow W1 x) (by kernel_rfl) (by kernel_rfl) (Grow.drew _) ?_
  repeat (first
    | go_big_quiet_skip
    | (go_big_quiet_want; refine q_val ?_; apply Exists.intro; refine ⟨fun x hx => ?_, ?_⟩; (focus (replace hx : Grow W1 x := hx; have xa0 := hx.cell a0; have xa1 := hx.cell a1; have xa2 := hx.cell a2; have xa3 := hx.cell a3; have xb0 := hx.cell b0; have xb1 := hx.cell b1; have xb2 := hx.cell b2; have xb3 := hx.cell b3; have xn0' := hx.cell n0'; have xn1' := hx.cell n1'; have xn2' := hx.cell n2'; have xp0 := hx.cell p0; have xp1 := hx.cell p1; go_simp <;> rfl)); simp only [Act.put, List.setIfInBounds_toArray, List.set_cons_zero, List.set_cons_succ]; go_big_quiet_on)
    | (go_big_quiet_want; refine q_call 18 ?_; apply Exists.intro; refine ⟨fun x hx => ?_, ?_⟩; (focus (go_simp <;> rfl)); apply Exists.intro; refine ⟨fun x hx => ?_, ?_⟩; (focus (exact (inter_any _ _ _ _ _ _ _ _ _).mono fun e w' h => ⟨h.1, Grow.trans hx h.2⟩)); simp only [Act.put, List.setIfInBounds_toArray, List.set_cons_zero, List.set_cons_succ]; go_big_quiet_on)
    | (go_big_quiet_want; refine q_call 56 ?_; apply Exists.intro; refine ⟨fun x hx => ?_, ?_⟩; (focus (go_simp <;> rfl)); apply Exists.intro; refine ⟨fun x hx => ?_, ?_⟩; (focus (exact (inter_ref _ _ _ _ _ _ _ _ _).mono fun e w' h => ⟨h.1, Grow.trans hx h.2⟩)); simp only [Act.put, List.setIfInBounds_toArray, List.set_cons_zero, List.set_cons_succ]; go_big_quiet_on)
    | (go_big_quiet_want; refine q_call 38 ?_; apply Exists.intro; refine ⟨fun x hx => ?_, ?_⟩; (focus (go_simp <;> rfl)); apply Exists.intro; refine ⟨fun x hx => ?_, ?_⟩; (focus (exact (uni_any _ _ _ _ _ _ _ _ _).mono fun e w' h => ⟨h.1, Grow.trans hx h.2⟩)); simp only [Act.put, List.setIfInBounds_toArray, List.set_cons_zero, List.set_cons_succ]; go_big_quiet_on)
    | (go_big_quiet_want; refine q_call 57 ?_; apply Exists.intro; refine ⟨fun x hx => ?_, ?_⟩; (focus (go_simp <;> rfl)); apply Exists.intro; refine ⟨fun x hx => ?_, ?_⟩; (focus (exact (uni_ref _ _ _ _ _ _ _ _ _).mono fun e w' h => ⟨h.1, Grow.trans hx h.2⟩)); simp only [Act.put, List.setIfInBounds_toArray, List.set_cons_zero, List.set_cons_succ]; go_big_quiet_on)
    | (go_big_quiet_want; refine q_call 39 ?_; apply Exists.intro; refine ⟨fun x hx => ?_, ?_⟩; (focus (go_simp <;> rfl)); apply Exists.intro; refine ⟨fun x hx => ?_, ?_⟩; (focus (exact (grow_any _ _ _ _ _ _).mono fun e w' h => ⟨h.1, Grow.trans hx h.2⟩)); simp only [Act.put, List.setIfInBounds_toArray, List.set_cons_zero, List.set_cons_succ]; go_big_quiet_on)
    | (go_big_quiet_want; refine q_call 58 ?_; apply Exists.intro; refine ⟨fun x hx => ?_, ?_⟩; (focus (go_simp <;> rfl)); apply Exists.intro; refine ⟨fun x hx => ?_, ?_⟩; (focus (exact (grow_ref _ _ _ _ _ _).mono fun e w' h => ⟨h.1, Grow.trans hx h.2⟩)); simp only [Act.put, List.setIfInBounds_toArray, List.set_cons_zero, List.set_cons_succ]; go_big_quiet_on)
    | (go_big_quiet_want; refine q_call 40 ?_; apply Exists.intro; refine ⟨fun x hx => ?_, ?_⟩; (focus (go_simp <;> rfl)); apply Exists.intro; refine ⟨fun x hx => ?_, ?_⟩; (focus (exact (move_any _ _ _ _ _ _ _).mono fun e w' h => ⟨h.1, Grow.trans hx h.2⟩)); simp only [Act.put, List.setIfInBounds_toArray, List.set_cons_zero, List.set_cons_succ]; go_big_quiet_on)
    | (go_big_quiet_want; refine q_call 59 ?_; apply Exists.intro; refine ⟨fun x hx => ?_, ?_⟩; (focus (go_simp <;> rfl)); apply Exists.intro; refine ⟨fun x hx => ?_, ?_⟩; (focus (exact (move_ref _ _ _ _ _ _ _).mono fun e w' h => ⟨h.1, Grow.trans hx h.2⟩)); simp only [Act.put, List.setIfInBounds_toArray, List.set_cons_zero, List.set_cons_succ]; go_big_quiet_on))
  refine wpQuiet_nil ?_
  intro W2 hW2
  replace hW2 : Grow W1 W2 := hW2
  replace a0 := hW2.cell a0
  replace a1 := hW2.cell a1
  replace a2 := hW2.cell a2
  replace a3 := hW2.cell a3
  replace b0 := hW2.cell b0
  replace b1 := hW2.cell b1
  replace b2 := hW2.cell b2
  replace b3 := hW2.cell b3
  replace n0' := hW2.cell n0'
  replace n1' := hW2.cell n1'
  replace n2' := hW2.cell n2'
  replace p0 := hW2.cell p0
  replace p1 := hW2.cell p1
  replace HG := Lib.hid (HG.out.trans hW2)
  clear hW2
  go_wp2
  refine wp_region_grow (by kernel_rfl) (by kernel_rfl) (by kernel_rfl) (TT a b (minusL a b)) ?_ ?_
  · intro i o ho u x hx hd
    have hi : i < 8 := (List.getElem?_eq_some_iff.1 ho).1
    replace hx : Grow W2 x := hx
    replace a0 := hx.cell a0
    replace a1 := hx.cell a1
    replace a2 := hx.cell a2
    replace a3 := hx.cell a3
    replace b0 := hx.cell b0
    replace b1 := hx.cell b1
    replace b2 := hx.cell b2
    replace b3 := hx.cell b3
    replace n0' := hx.cell n0'
    replace n1' := hx.cell n1'
    replace n2' := hx.cell n2'
    replace p0 := hx.cell p0
    replace p1 := hx.cell p1
    obtain rfl | rfl | rfl | rfl | rfl | rfl | rfl | rfl : i = 0 ∨ i = 1 ∨ i = 2 ∨ i = 3 ∨ i = 4 ∨ i = 5 ∨ i = 6 ∨ i = 7 := by omega
    · simp only [List.getElem?_cons_zero, Option.some.injEq] at ho; subst ho
      rw [if_pos (wn rfl)]
      generalize hA : fill _ u _ = A
      simp only [fill, Act.put, Nat.zero_add, Nat.reduceAdd, List.setIfInBounds_toArray, List.set_cons_zero, List.set_cons_succ] at hA
      have r1 : A.eval (.tmp 3) = .pointer (some ⟨w.heap.size, 0, none⟩) := by rw [← hA]; rfl
      exact gw_val (run_loadR a w.heap.size rfl r1 a0 a1 a2 a3) (Grow.refl _) (Al.of rfl)
    · simp only [List.getElem?_cons_succ, List.getElem?_cons_zero, Option.some.injEq] at ho; subst ho
      rw [if_pos (wn rfl)]
      generalize hA : fill _ u _ = A
      simp only [fill, Act.put, Nat.zero_add, Nat.reduceAdd, List.setIfInBounds_toArray, List.set_cons_zero, List.set_cons_succ] at hA
      have r1 : A.eval (.tmp 4) = .pointer (some ⟨w.heap.size + 1, 0, none⟩) := by rw [← hA]; rfl
      exact gw_val (run_loadR b (w.heap.size + 1) rfl r1 b0 b1 b2 b3) (Grow.refl _) (Al.of rfl)
    · simp only [List.getElem?_cons_succ, List.getElem?_cons_zero, Option.some.injEq] at ho; subst ho
      rw [if_pos (wn rfl)]
      have e0 : u 0 = .agg #[.int .i64 a.x0, .int .i64 a.y0, .int .i64 a.x1, .int .i64 a.y1] := (hd 0 (by kernel_rfl)).now
      have e1 : u 1 = .agg #[.int .i64 b.x0, .int .i64 b.y0, .int .i64 b.x1, .int .i64 b.y1] := (hd 1 (by kernel_rfl)).now
      generalize hA : fill _ u _ = A
      simp only [fill, Act.put, Nat.zero_add, Nat.reduceAdd, List.setIfInBounds_toArray, List.set_cons_zero, List.set_cons_succ] at hA
      have r0 : A.eval (.func 37) = .func (.func 37) #[] #[] := rfl
      have r1 : A.eval (.tmp 107) = .agg #[.int .i64 a.x0, .int .i64 a.y0, .int .i64 a.x1, .int .i64 a.y1] := by rw [← e0, ← hA]; rfl
      have r2 : A.eval (.tmp 108) = .agg #[.int .i64 b.x0, .int .i64 b.y0, .int .i64 b.x1, .int .i64 b.y1] := by rw [← e1, ← hA]; rfl
      refine gw_call 37 (run_call37 _ _ rfl r0 r1 r2) ?_
      refine (minus_any a b x).mono ?_
      rintro e x' ⟨v, rfl, h1, h2⟩
      exact ⟨v, rfl, h2, fun y g => (rdR_own h1).grow g⟩
    · simp only [List.getElem?_cons_succ, List.getElem?_cons_zero, Option.some.injEq] at ho; subst ho
      rw [if_pos (wn rfl)]
      generalize hA : fill _ u _ = A
      simp only [fill, Act.put, Nat.zero_add, Nat.reduceAdd, List.setIfInBounds_toArray, List.set_cons_zero, List.set_cons_succ] at hA
      have r1 : A.eval (.tmp 3) = .pointer (some ⟨w.heap.size, 0, none⟩) := by rw [← hA]; rfl
      exact gw_val (run_loadR a w.heap.size rfl r1 a0 a1 a2 a3) (Grow.refl _) (Al.of rfl)
    · simp only [List.getElem?_cons_succ, List.getElem?_cons_zero, Option.some.injEq] at ho; subst ho
      rw [if_pos (wn rfl)]
      generalize hA : fill _ u _ = A
      simp only [fill, Act.put, Nat.zero_add, Nat.reduceAdd, List.setIfInBounds_toArray, List.set_cons_zero, List.set_cons_succ] at hA
      have r1 : A.eval (.tmp 4) = .pointer (some ⟨w.heap.size + 1, 0, none⟩) := by rw [← hA]; rfl
      exact gw_val (run_loadR b (w.heap.size + 1) rfl r1 b0 b1 b2 b3) (Grow.refl _) (Al.of rfl)
    · simp only [List.getElem?_cons_succ, List.getElem?_cons_zero, Option.some.injEq] at ho; subst ho
      rw [if_pos (wn rfl)]
      have e0 : u 3 = .agg #[.int .i64 a.x0, .int .i64 a.y0, .int .i64 a.x1, .int .i64 a.y1] := (hd 3 (by kernel_rfl)).now
      have e1 : u 4 = .agg #[.int .i64 b.x0, .int .i64 b.y0, .int .i64 b.x1, .int .i64 b.y1] := (hd 4 (by kernel_rfl)).now
      generalize hA : fill _ u _ = A
      simp only [fill, Act.put, Nat.zero_add, Nat.reduceAdd, List.setIfInBounds_toArray, List.set_cons_zero, List.set_cons_succ] at hA
      have r0 : A.eval (.func 60) = .func (.func 60) #[] #[] := rfl
      have r1 : A.eval (.tmp 110) = .agg #[.int .i64 a.x0, .int .i64 a.y0, .int .i64 a.x1, .int .i64 a.y1] := by rw [← e0, ← hA]; rfl
      have r2 : A.eval (.tmp 111) = .agg #[.int .i64 b.x0, .int .i64 b.y0, .int .i64 b.x1, .int .i64 b.y1] := by rw [← e1, ← hA]; rfl
      refine gw_call 60 (run_call60 _ _ rfl r0 r1 r2) ?_
      refine (minus_ref a b x).mono ?_
      rintro e x' ⟨v, rfl, h1, h2⟩
      exact ⟨v, rfl, h2, fun y g => (rdR_own h1).grow g⟩
    · simp only [List.getElem?_cons_succ, List.getElem?_cons_zero, Option.some.injEq] at ho; subst ho
      rw [if_pos (wn rfl)]
      have e0 : RdR x (u 2) (minusL a b) := (hd 2 (by kernel_rfl)).now
      have e1 : RdR x (u 5) (minusL a b) := (hd 5 (by kernel_rfl)).now
      generalize hA : fill _ u _ = A
      simp only [fill, Act.put, Nat.zero_add, Nat.reduceAdd, List.setIfInBounds_toArray, List.set_cons_zero, List.set_cons_succ] at hA
      have r0 : A.eval (.func 42) = .func (.func 42) #[] #[] := rfl
      have r1 : A.eval (.tmp 109) = u 2 := by rw [← hA]; rfl
      have r2 : A.eval (.tmp 112) = u 5 := by rw [← hA]; rfl
      refine gw_call 42 (run_call42 (u 2) (u 5) rfl r0 r1 r2) ((same_yes _ _ _ x (Nat.le_trans (minus_len a b) (by omega)) e0 e1).mono ?_)
      rintro e x' ⟨rfl, m, rfl⟩
      exact ⟨_, rfl, (Grow.refl x).dN m, Al.of rfl⟩
    · simp only [List.getElem?_cons_succ, List.getElem?_cons_zero, Option.some.injEq] at ho; subst ho
      rw [if_pos (wn rfl)]
      have e0 : u 6 = .bool true := (hd 6 (by kernel_rfl)).now
      generalize hA : fill _ u _ = A
      simp only [fill, Act.put, Nat.zero_add, Nat.reduceAdd, List.setIfInBounds_toArray, List.set_cons_zero, List.set_cons_succ] at hA
      have r1 : A.eval (.tmp 113) = u 6 := by rw [← hA]; rfl
      exact gw_val (run_assign1 (u 6) rfl r1) (Grow.refl _) (Al.of e0)
  · intro u x hx hd
    have e7 : u 7 = .bool true := (hd 7 (by decide)).now
    have e6 : u 6 = .bool true := (hd 6 (by decide)).now
    simp only [fill, Act.put, Nat.zero_add, Nat.reduceAdd, List.setIfInBounds_toArray, List.set_cons_zero, List.set_cons_succ, e6, e7]
    clear hd e6 e7
    go_wp2
    go_ret
    exact ⟨rfl, HG.out.trans hx⟩
end rectTells
end Go.Proofs.Ytplnhmfkflnhpaa
