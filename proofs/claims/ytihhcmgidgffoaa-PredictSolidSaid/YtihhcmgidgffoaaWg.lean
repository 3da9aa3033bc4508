/- Walk of the law PredictSolid of layer 10: it returns true and writes nothing that was there. -/
import Derived.Test.YtihhcmgidgffoaaG
import Derived.Test.YtihhcmgidgffoaaFlatB
import Derived.Test.YtihhcmgidgffoaaRw
import Derived.Test.YtihhcmgidgffoaaJL
set_option linter.unusedVariables false
namespace Go.Proofs.Ytihhcmgidgffoaa
open Go.RowKit
namespace predictSolid
theorem run_move1 {o : Oper} {ρ : Operand → Value} {x : World} {y : Operand} (v : Value) (ho : o.op = .move y) (hy : ρ y = v) : (execOp ρ o).run Try.prog x = .ok (.value v) x := by
  unfold execOp; rw [ho]; simp only [hy]; go_simp
theorem run_assign1 {o : Oper} {ρ : Operand → Value} {x : World} {y : Operand} (v : Value) (ho : o.op = .assign y) (hy : ρ y = v) : (execOp ρ o).run Try.prog x = .ok (.value v) x := by
  unfold execOp; rw [ho]; simp only [hy]; go_simp
theorem run_bs1 {o : Oper} {ρ : Operand → Value} {x : World} {y : Operand} (n : Int) (ho : o.op = .buildSlice 23 1 #[(0, y)]) (hy : ρ y = .int .u8 n) : (execOp ρ o).run Try.prog x = .ok (.value (.slice (some ⟨x.heap.size, 0, none⟩) 1 1)) (x.alloc (.cells #[.int .u8 n] 5)) := by
  unfold execOp; rw [ho]; simp [hy]; go_simp
theorem run_conv1 {o : Oper} {ρ : Operand → Value} {x : World} {y : Operand} (c : UInt8) (b : Nat) (ho : o.op = .convert 23 9 y) (hy : ρ y = .slice (some ⟨b, 0, none⟩) 1 1) (hb : x.heap[b]? = some (.cells #[.int .u8 (c.toNat : Int)] 5 (0, 0))) : (execOp ρ o).run Try.prog x = .ok (.value (.string ⟨#[c]⟩)) x := by
  have h := conv_row (P := Try.prog) x 23 9 5 Try.underlying23 Try.underlying5 Try.underlying9 b 5 (0, 0) _ hb 0 1 1 [c] rfl (fun j hj => by
    obtain rfl : j = 0 := by simpa using hj
    rfl)
  unfold execOp; rw [ho]; simp only [hy]
  simp [h, Result.andThen]
theorem run_call14 {o : Oper} {a : Act} {x : World} {ts : Array TypeId} (ho : o.op = .call { callee := .value (.func 14), args := #[.const (.int .i64 63)], argTypes := ts }) (_ : True = True) : (execOp a.eval o).run Try.prog x = .ok (.enter 14 #[.int .i64 63]) x := by
  unfold execOp; rw [ho]; simp [resolve, Act.eval, Deferred.ofValue, invoke, go_sem]
theorem run_adds {o : Oper} {ρ : Operand → Value} {x : World} {y1 y2 : Operand} (s t : ByteArray) (ho : o.op = .binOp .add 9 y1 y2 9) (h1 : ρ y1 = .string s) (h2 : ρ y2 = .string t) (hl : s.size + t.size ≤ 1000) : (execOp ρ o).run Try.prog x = .ok (.value (.string (s ++ t))) x := by
  have hm : s.size + t.size ≤ 9223372036854775807 := by omega
  unfold execOp; rw [ho]; simp only [h1, h2]; go_simp
theorem run_fa3 {o : Oper} {ρ : Operand → Value} {x : World} {y : Operand} (g : Nat) (ho : o.op = .fieldAddr 27 y 3) (hy : ρ y = .pointer (some ⟨g, 0, none⟩)) : (execOp ρ o).run Try.prog x = .ok (.value (.pointer (some ⟨g, 3, none⟩))) x := by
  unfold execOp; rw [ho]; simp only [hy]; go_simp
theorem run_load5 {o : Oper} {ρ : Operand → Value} {x : World} {y : Operand} (a : Addr) (n : Int) (ho : o.op = .load 5 y) (hy : ρ y = .pointer (some a)) (hc : x.cell? a = some (.int .u8 n)) : (execOp ρ o).run Try.prog x = .ok (.value (.int .u8 n)) x := by
  unfold execOp; rw [ho]; simp only [hy]; go_simp
theorem z63 : (Zs 63).size = 63 := by rfl
theorem z1 (c : UInt8) : (⟨#[c]⟩ : ByteArray).size = 1 := by rfl
/-- What the operations of region 3 yield. -/
def TT (g : Nat) (yy uu vv aa : UInt8) (i : Nat) (v : Value) (x : World) : Prop :=
  match i with
  | 0 => v = (.int .u8 (yy.toNat : Int))
  | 1 => ∃ b, v = .slice (some ⟨b, 0, none⟩) 1 1 ∧ x.heap[b]? = some (.cells #[.int .u8 (yy.toNat : Int)] 5 (0, 0))
  | 2 => v = (.string (⟨#[yy]⟩ : ByteArray))
  | 3 => v = (.string (Zs 63))
  | 4 => v = (.string ((⟨#[yy]⟩ : ByteArray) ++ Zs 63))
  | 5 => v = (.int .u8 (uu.toNat : Int))
  | 6 => ∃ b, v = .slice (some ⟨b, 0, none⟩) 1 1 ∧ x.heap[b]? = some (.cells #[.int .u8 (uu.toNat : Int)] 5 (0, 0))
  | 7 => v = (.string (⟨#[uu]⟩ : ByteArray))
  | 8 => v = (.string (((⟨#[yy]⟩ : ByteArray) ++ Zs 63) ++ (⟨#[uu]⟩ : ByteArray)))
  | 9 => v = (.string (Zs 63))
  | 10 => v = (.string ((((⟨#[yy]⟩ : ByteArray) ++ Zs 63) ++ (⟨#[uu]⟩ : ByteArray)) ++ Zs 63))
  | 11 => v = (.int .u8 (vv.toNat : Int))
  | 12 => ∃ b, v = .slice (some ⟨b, 0, none⟩) 1 1 ∧ x.heap[b]? = some (.cells #[.int .u8 (vv.toNat : Int)] 5 (0, 0))
  | 13 => v = (.string (⟨#[vv]⟩ : ByteArray))
  | 14 => v = (.string (((((⟨#[yy]⟩ : ByteArray) ++ Zs 63) ++ (⟨#[uu]⟩ : ByteArray)) ++ Zs 63) ++ (⟨#[vv]⟩ : ByteArray)))
  | 15 => v = (.string (Zs 63))
  | 16 => v = (.string ((((((⟨#[yy]⟩ : ByteArray) ++ Zs 63) ++ (⟨#[uu]⟩ : ByteArray)) ++ Zs 63) ++ (⟨#[vv]⟩ : ByteArray)) ++ Zs 63))
  | 17 => v = (.pointer (some ⟨g, 3, none⟩))
  | 18 => v = (.int .u8 (aa.toNat : Int))
  | 19 => ∃ b, v = .slice (some ⟨b, 0, none⟩) 1 1 ∧ x.heap[b]? = some (.cells #[.int .u8 (aa.toNat : Int)] 5 (0, 0))
  | 20 => v = (.string (⟨#[aa]⟩ : ByteArray))
  | 21 => v = (.string (((((((⟨#[yy]⟩ : ByteArray) ++ Zs 63) ++ (⟨#[uu]⟩ : ByteArray)) ++ Zs 63) ++ (⟨#[vv]⟩ : ByteArray)) ++ Zs 63) ++ (⟨#[aa]⟩ : ByteArray)))
  | 22 => v = (.string (Zs 63))
  | 23 => v = (.string ((((((((⟨#[yy]⟩ : ByteArray) ++ Zs 63) ++ (⟨#[uu]⟩ : ByteArray)) ++ Zs 63) ++ (⟨#[vv]⟩ : ByteArray)) ++ Zs 63) ++ (⟨#[aa]⟩ : ByteArray)) ++ Zs 63))
  | 24 => v = (.string ((((((((⟨#[yy]⟩ : ByteArray) ++ Zs 63) ++ (⟨#[uu]⟩ : ByteArray)) ++ Zs 63) ++ (⟨#[vv]⟩ : ByteArray)) ++ Zs 63) ++ (⟨#[aa]⟩ : ByteArray)) ++ Zs 63))
  | _ => True
set_option maxRecDepth 100000 in
set_option maxHeartbeats 8000000 in
theorem walk (p : Nat → UInt8) (w : World) :
    Calls Try.prog 4 #[.agg (cf 4 p)] w fun e w' => e = .returned (.bool true) ∧ Below w.heap.size w w' := by
  rw [cf4]
  go_enter Try.func4, Try.ntmps4
  go_wp2_with fail
  refine (sanity_any _).mono ?_
  rintro e x1 ⟨rfl, b1⟩
  have hP : x1.heap[w.heap.size]? = some (.cells #[.int .u8 ((p 0).toNat : Int), .int .u8 ((p 1).toNat : Int), .int .u8 ((p 2).toNat : Int), .int .u8 ((p 3).toNat : Int)] 27 (0, 0)) := by
    rw [b1.block _ (by simp)]; exact heap_alloc_new _ _
  have hb : Grow w x1 := ((Below.refl _ _).alloc (Nat.le_refl _) (.cells #[.int .u8 ((p 0).toNat : Int), .int .u8 ((p 1).toNat : Int), .int .u8 ((p 2).toNat : Int), .int .u8 ((p 3).toNat : Int)] 27)).trans (b1.mono (by simp))
  clear b1
  have p0 : x1.cell? ⟨w.heap.size, 0, none⟩ = some (.int .u8 ((p 0).toNat : Int)) := by rw [cell_of_row x1 _ 0 _ _ _ hP]; rfl
  have p1 : x1.cell? ⟨w.heap.size, 1, none⟩ = some (.int .u8 ((p 1).toNat : Int)) := by rw [cell_of_row x1 _ 1 _ _ _ hP]; rfl
  have p2 : x1.cell? ⟨w.heap.size, 2, none⟩ = some (.int .u8 ((p 2).toNat : Int)) := by rw [cell_of_row x1 _ 2 _ _ _ hP]; rfl
  have p3 : x1.cell? ⟨w.heap.size, 3, none⟩ = some (.int .u8 ((p 3).toNat : Int)) := by rw [cell_of_row x1 _ 3 _ _ _ hP]; rfl
  have HF := Lib.hid (fun k h1 h5 => fw_solid k h1 h5 (p 0) (p 1) (p 2) (p 3))
  have HB := Lib.hid hb
  clear hb hP
  go_wp2_with fail
  refine (swap_any _ _ _ _).mono ?_
  rintro e x2 ⟨rfl, rfl⟩
  go_wp2_with fail
  generalize M.swY (p 0) (p 1) (p 2) = yy at *
  generalize M.swU (p 0) (p 2) = uu at *
  generalize M.swV (p 0) (p 1) (p 2) = vv at *
  generalize w.heap.size = g at p0 p1 p2 p3 ⊢
  refine wp_region_growL ?lit ?hlit (by kernel_rfl) (by kernel_rfl) (by kernel_rfl) (by kernel_rfl) (TT g yy uu vv (p 3)) ?_ ?_
  case hlit =>
    intro u
    simp only [fill, Act.put, Nat.zero_add, Nat.reduceAdd, List.setIfInBounds_toArray, List.set_cons_zero, List.set_cons_succ]
    rfl
  · intro i o ho u x hx hd
    have hi : i < 25 := (List.getElem?_eq_some_iff.1 ho).1
    replace hx : Grow x1 x := hx
    generalize p 3 = aa at *
    obtain rfl | rfl | rfl | rfl | rfl | rfl | rfl | rfl | rfl | rfl | rfl | rfl | rfl | rfl | rfl | rfl | rfl | rfl | rfl | rfl | rfl | rfl | rfl | rfl | rfl : i = 0 ∨ i = 1 ∨ i = 2 ∨ i = 3 ∨ i = 4 ∨ i = 5 ∨ i = 6 ∨ i = 7 ∨ i = 8 ∨ i = 9 ∨ i = 10 ∨ i = 11 ∨ i = 12 ∨ i = 13 ∨ i = 14 ∨ i = 15 ∨ i = 16 ∨ i = 17 ∨ i = 18 ∨ i = 19 ∨ i = 20 ∨ i = 21 ∨ i = 22 ∨ i = 23 ∨ i = 24 := by omega
    · simp only [List.getElem?_cons_zero, Option.some.injEq] at ho; subst ho
      exact gw_val (run_move1 (.int .u8 (yy.toNat : Int)) rfl rfl) (Grow.refl _) (Al.of rfl)
    · simp only [List.getElem?_cons_succ, List.getElem?_cons_zero, Option.some.injEq] at ho; subst ho
      have e1 : u 0 = (.int .u8 (yy.toNat : Int)) := hd 0 (by kernel_rfl)
      exact gw_val (run_bs1 (yy.toNat : Int) rfl e1) (Grow.alloc _ _) (fun y gy => ⟨_, rfl, gy.block (heap_alloc_new _ _)⟩)
    · simp only [List.getElem?_cons_succ, List.getElem?_cons_zero, Option.some.injEq] at ho; subst ho
      obtain ⟨bk, e1, e2⟩ := hd 1 (by kernel_rfl)
      exact gw_val (run_conv1 yy bk rfl e1 e2) (Grow.refl _) (Al.of rfl)
    · simp only [List.getElem?_cons_succ, List.getElem?_cons_zero, Option.some.injEq] at ho; subst ho
      refine gw_call 14 (run_call14 rfl rfl) ?_
      refine (zeros_of 63 (by omega) 63 rfl x).mono ?_
      rintro e x' ⟨rfl, h2⟩
      exact ⟨_, rfl, h2, Al.of rfl⟩
    · simp only [List.getElem?_cons_succ, List.getElem?_cons_zero, Option.some.injEq] at ho; subst ho
      have e1 : u 2 = (.string (⟨#[yy]⟩ : ByteArray)) := hd 2 (by kernel_rfl)
      have e2 : u 3 = (.string (Zs 63)) := hd 3 (by kernel_rfl)
      exact gw_val (run_adds _ _ rfl e1 e2 (by simp [z63, z1])) (Grow.refl _) (Al.of rfl)
    · simp only [List.getElem?_cons_succ, List.getElem?_cons_zero, Option.some.injEq] at ho; subst ho
      exact gw_val (run_move1 (.int .u8 (uu.toNat : Int)) rfl rfl) (Grow.refl _) (Al.of rfl)
    · simp only [List.getElem?_cons_succ, List.getElem?_cons_zero, Option.some.injEq] at ho; subst ho
      have e1 : u 5 = (.int .u8 (uu.toNat : Int)) := hd 5 (by kernel_rfl)
      exact gw_val (run_bs1 (uu.toNat : Int) rfl e1) (Grow.alloc _ _) (fun y gy => ⟨_, rfl, gy.block (heap_alloc_new _ _)⟩)
    · simp only [List.getElem?_cons_succ, List.getElem?_cons_zero, Option.some.injEq] at ho; subst ho
      obtain ⟨bk, e1, e2⟩ := hd 6 (by kernel_rfl)
      exact gw_val (run_conv1 uu bk rfl e1 e2) (Grow.refl _) (Al.of rfl)
    · simp only [List.getElem?_cons_succ, List.getElem?_cons_zero, Option.some.injEq] at ho; subst ho
      have e1 : u 4 = (.string ((⟨#[yy]⟩ : ByteArray) ++ Zs 63)) := hd 4 (by kernel_rfl)
      have e2 : u 7 = (.string (⟨#[uu]⟩ : ByteArray)) := hd 7 (by kernel_rfl)
      exact gw_val (run_adds _ _ rfl e1 e2 (by simp [z63, z1])) (Grow.refl _) (Al.of rfl)
    · simp only [List.getElem?_cons_succ, List.getElem?_cons_zero, Option.some.injEq] at ho; subst ho
      refine gw_call 14 (run_call14 rfl rfl) ?_
      refine (zeros_of 63 (by omega) 63 rfl x).mono ?_
      rintro e x' ⟨rfl, h2⟩
      exact ⟨_, rfl, h2, Al.of rfl⟩
    · simp only [List.getElem?_cons_succ, List.getElem?_cons_zero, Option.some.injEq] at ho; subst ho
      have e1 : u 8 = (.string (((⟨#[yy]⟩ : ByteArray) ++ Zs 63) ++ (⟨#[uu]⟩ : ByteArray))) := hd 8 (by kernel_rfl)
      have e2 : u 9 = (.string (Zs 63)) := hd 9 (by kernel_rfl)
      exact gw_val (run_adds _ _ rfl e1 e2 (by simp [z63, z1])) (Grow.refl _) (Al.of rfl)
    · simp only [List.getElem?_cons_succ, List.getElem?_cons_zero, Option.some.injEq] at ho; subst ho
      exact gw_val (run_move1 (.int .u8 (vv.toNat : Int)) rfl rfl) (Grow.refl _) (Al.of rfl)
    · simp only [List.getElem?_cons_succ, List.getElem?_cons_zero, Option.some.injEq] at ho; subst ho
      have e1 : u 11 = (.int .u8 (vv.toNat : Int)) := hd 11 (by kernel_rfl)
      exact gw_val (run_bs1 (vv.toNat : Int) rfl e1) (Grow.alloc _ _) (fun y gy => ⟨_, rfl, gy.block (heap_alloc_new _ _)⟩)
    · simp only [List.getElem?_cons_succ, List.getElem?_cons_zero, Option.some.injEq] at ho; subst ho
      obtain ⟨bk, e1, e2⟩ := hd 12 (by kernel_rfl)
      exact gw_val (run_conv1 vv bk rfl e1 e2) (Grow.refl _) (Al.of rfl)
    · simp only [List.getElem?_cons_succ, List.getElem?_cons_zero, Option.some.injEq] at ho; subst ho
      have e1 : u 10 = (.string ((((⟨#[yy]⟩ : ByteArray) ++ Zs 63) ++ (⟨#[uu]⟩ : ByteArray)) ++ Zs 63)) := hd 10 (by kernel_rfl)
      have e2 : u 13 = (.string (⟨#[vv]⟩ : ByteArray)) := hd 13 (by kernel_rfl)
      exact gw_val (run_adds _ _ rfl e1 e2 (by simp [z63, z1])) (Grow.refl _) (Al.of rfl)
    · simp only [List.getElem?_cons_succ, List.getElem?_cons_zero, Option.some.injEq] at ho; subst ho
      refine gw_call 14 (run_call14 rfl rfl) ?_
      refine (zeros_of 63 (by omega) 63 rfl x).mono ?_
      rintro e x' ⟨rfl, h2⟩
      exact ⟨_, rfl, h2, Al.of rfl⟩
    · simp only [List.getElem?_cons_succ, List.getElem?_cons_zero, Option.some.injEq] at ho; subst ho
      have e1 : u 14 = (.string (((((⟨#[yy]⟩ : ByteArray) ++ Zs 63) ++ (⟨#[uu]⟩ : ByteArray)) ++ Zs 63) ++ (⟨#[vv]⟩ : ByteArray))) := hd 14 (by kernel_rfl)
      have e2 : u 15 = (.string (Zs 63)) := hd 15 (by kernel_rfl)
      exact gw_val (run_adds _ _ rfl e1 e2 (by simp [z63, z1])) (Grow.refl _) (Al.of rfl)
    · simp only [List.getElem?_cons_succ, List.getElem?_cons_zero, Option.some.injEq] at ho; subst ho
      exact gw_val (run_fa3 g rfl rfl) (Grow.refl _) (Al.of rfl)
    · simp only [List.getElem?_cons_succ, List.getElem?_cons_zero, Option.some.injEq] at ho; subst ho
      have e1 : u 17 = (.pointer (some ⟨g, 3, none⟩)) := hd 17 (by kernel_rfl)
      exact gw_val (run_load5 _ _ rfl e1 (hx.cell p3)) (Grow.refl _) (Al.of rfl)
    · simp only [List.getElem?_cons_succ, List.getElem?_cons_zero, Option.some.injEq] at ho; subst ho
      have e1 : u 18 = (.int .u8 (aa.toNat : Int)) := hd 18 (by kernel_rfl)
      exact gw_val (run_bs1 (aa.toNat : Int) rfl e1) (Grow.alloc _ _) (fun y gy => ⟨_, rfl, gy.block (heap_alloc_new _ _)⟩)
    · simp only [List.getElem?_cons_succ, List.getElem?_cons_zero, Option.some.injEq] at ho; subst ho
      obtain ⟨bk, e1, e2⟩ := hd 19 (by kernel_rfl)
      exact gw_val (run_conv1 aa bk rfl e1 e2) (Grow.refl _) (Al.of rfl)
    · simp only [List.getElem?_cons_succ, List.getElem?_cons_zero, Option.some.injEq] at ho; subst ho
      have e1 : u 16 = (.string ((((((⟨#[yy]⟩ : ByteArray) ++ Zs 63) ++ (⟨#[uu]⟩ : ByteArray)) ++ Zs 63) ++ (⟨#[vv]⟩ : ByteArray)) ++ Zs 63)) := hd 16 (by kernel_rfl)
      have e2 : u 20 = (.string (⟨#[aa]⟩ : ByteArray)) := hd 20 (by kernel_rfl)
      exact gw_val (run_adds _ _ rfl e1 e2 (by simp [z63, z1])) (Grow.refl _) (Al.of rfl)
    · simp only [List.getElem?_cons_succ, List.getElem?_cons_zero, Option.some.injEq] at ho; subst ho
      refine gw_call 14 (run_call14 rfl rfl) ?_
      refine (zeros_of 63 (by omega) 63 rfl x).mono ?_
      rintro e x' ⟨rfl, h2⟩
      exact ⟨_, rfl, h2, Al.of rfl⟩
    · simp only [List.getElem?_cons_succ, List.getElem?_cons_zero, Option.some.injEq] at ho; subst ho
      have e1 : u 21 = (.string (((((((⟨#[yy]⟩ : ByteArray) ++ Zs 63) ++ (⟨#[uu]⟩ : ByteArray)) ++ Zs 63) ++ (⟨#[vv]⟩ : ByteArray)) ++ Zs 63) ++ (⟨#[aa]⟩ : ByteArray))) := hd 21 (by kernel_rfl)
      have e2 : u 22 = (.string (Zs 63)) := hd 22 (by kernel_rfl)
      exact gw_val (run_adds _ _ rfl e1 e2 (by simp [z63, z1])) (Grow.refl _) (Al.of rfl)
    · simp only [List.getElem?_cons_succ, List.getElem?_cons_zero, Option.some.injEq] at ho; subst ho
      have e1 : u 23 = (.string ((((((((⟨#[yy]⟩ : ByteArray) ++ Zs 63) ++ (⟨#[uu]⟩ : ByteArray)) ++ Zs 63) ++ (⟨#[vv]⟩ : ByteArray)) ++ Zs 63) ++ (⟨#[aa]⟩ : ByteArray)) ++ Zs 63)) := hd 23 (by kernel_rfl)
      exact gw_val (run_assign1 _ rfl e1) (Grow.refl _) (Al.of rfl)
  · intro u x hx hd
    replace hx : Grow x1 x := hx
    have e24 : u 24 = (.string ((((((((⟨#[yy]⟩ : ByteArray) ++ Zs 63) ++ (⟨#[uu]⟩ : ByteArray)) ++ Zs 63) ++ (⟨#[vv]⟩ : ByteArray)) ++ Zs 63) ++ (⟨#[p 3]⟩ : ByteArray)) ++ Zs 63)) := hd 24 (by decide)
    have HF2 : ∀ k, 1 ≤ k → k ≤ 5 → fw k (fl (p 0) (p 1) (p 2) (p 3)) = ((((((((⟨#[yy]⟩ : ByteArray) ++ Zs 63) ++ (⟨#[uu]⟩ : ByteArray)) ++ Zs 63) ++ (⟨#[vv]⟩ : ByteArray)) ++ Zs 63) ++ (⟨#[p 3]⟩ : ByteArray)) ++ Zs 63) := fun k h1 h5 => HF.out k h1 h5
    clear hd
    generalize ((((((((⟨#[yy]⟩ : ByteArray) ++ Zs 63) ++ (⟨#[uu]⟩ : ByteArray)) ++ Zs 63) ++ (⟨#[vv]⟩ : ByteArray)) ++ Zs 63) ++ (⟨#[p 3]⟩ : ByteArray)) ++ Zs 63) = F at e24 HF2
    have HF3 := Lib.hid HF2
    clear HF2
    simp only [e24]
    clear e24
    replace p0 := hx.cell p0
    replace p1 := hx.cell p1
    replace p2 := hx.cell p2
    replace p3 := hx.cell p3
    have HG := Lib.hid (HB.out.trans hx)
    clear hx
    go_wp2
    go_loopw [8] (fun i wr => ∃ k : Nat, 1 ≤ k ∧ k ≤ 6 ∧ i = .int .i64 k ∧ Grow x wr) (fun i _ => 6 - (intOf i).toNat)
    case atStart => exact ⟨1, by omega, by omega, rfl, Grow.refl _⟩
    case round =>
      obtain ⟨k, hk1, hk6, rfl, hgw⟩ := hrel
      replace p0 := hgw.cell p0
      replace p1 := hgw.cell p1
      replace p2 := hgw.cell p2
      replace p3 := hgw.cell p3
      by_cases hlt : k < 6
      · have e := HF3.out k hk1 (by omega)
        have hfw : ∀ w, Calls Try.prog 16 #[.agg (cf 256 (fl (p 0) (p 1) (p 2) (p 3))), .int .i64 k] w fun e w' => e = .returned (.tuple #[.string F, .int .i64 0]) ∧ Below w.heap.size w w' := fun w => by
          have h := forward_of (fl (p 0) (p 1) (p 2) (p 3)) k hlt k rfl w
          rwa [e] at h
        have HFW := Lib.hid hfw
        clear hfw e
        go_wp2_with fail
        refine (Predictors_any _).mono ?_
        rintro e w1 ⟨rfl, hg1⟩
        replace hg1 : Grow wr w1 := hg1
        replace p0 := hg1.cell p0
        replace p1 := hg1.cell p1
        replace p2 := hg1.cell p2
        replace p3 := hg1.cell p3
        go_wp2_with fail
        refine (fill_any _ _ _ _ _).mono ?_
        rintro e w2 ⟨rfl, hg2⟩
        replace hg2 : Grow w1 w2 := hg2
        go_wp2_with fail
        refine (HFW.out _).mono ?_
        rintro e w3 ⟨rfl, hg3⟩
        replace hg3 : Grow w2 w3 := hg3
        have hg := Lib.hid (((hgw.trans hg1).trans hg2).trans hg3)
        clear hg1 hg2 hg3 hgw
        go_wp2
        go_roundw
        case rel => exact ⟨k + 1, by omega, by omega, by go_num, hg.out⟩
        case measure => simp [intOf]; omega
      · obtain rfl : k = 6 := by omega
        have HG2 := Lib.hid (HG.out.trans hgw)
        clear hgw
        go_wp2_with (go_at_call 15; refine (Predictors_any _).mono ?_; rintro e w1 ⟨rfl, hg1⟩)
        go_ret
        exact ⟨rfl, HG2.out.trans hg1⟩
end predictSolid
end Go.Proofs.Ytihhcmgidgffoaa
