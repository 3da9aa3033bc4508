/- Walks of coder: the coder claims' texts, turned to this seat by genPort.py. -/
import Derived.Test.YtpdckpifhniioaaCo1

set_option linter.unusedVariables false
set_option linter.unusedSimpArgs false
namespace Go.Proofs.Ytpdckpifhniioaa.Cod
open Go.RowKit
open Go.Proofs.Ytpdckpifhniioaa
section
theorem own_grow {w x : World} {B : Nat} {v : Value} {n : Nat} {xs : List Value} (h : w.ownsRow B 5 1 v n xs) (hg : Grow w x) : x.ownsRow B 5 1 v n xs := by
  obtain ⟨h1, h2⟩ := h
  refine ⟨h1, h2.imp id ?_⟩
  rintro ⟨g, cap, cur, e1, e2, e3, e4⟩
  exact ⟨g, cap, cur, e1, e2, hg.block e3, e4⟩
section
variable {o : Oper} {ρ : Operand → Value} {x : World} {y : Operand}
theorem run_asg (v : Value) (ho : o.op = .assign y) (hy : ρ y = v) : (execOp ρ o).run Try.prog x = .ok (.value v) x := by
  unfold execOp; rw [ho]; simp only [hy]; go_simp
theorem run_faz (t : TypeId) (f k : Nat) (g i : Nat) (ho : o.op = .fieldAddr 148 y 0) (hy : ρ y = .pointer (some ⟨g, 0, none⟩)) (_ : True = True) : (execOp ρ o).run Try.prog x = .ok (.value (.pointer (some ⟨g, 0, none⟩))) x := by
  unfold execOp; rw [ho]; simp only [hy]; go_simp
theorem run_faL (g : Nat) (ho : o.op = .fieldAddr 146 y 1) (hy : ρ y = .pointer (some ⟨g, 0, none⟩)) : (execOp ρ o).run Try.prog x = .ok (.value (.pointer (some ⟨g, 256, none⟩))) x := by
  unfold execOp; rw [ho]; simp only [hy]; go_simp
theorem run_ld32 (a : Addr) (n : Int) (ho : o.op = .load 64 y) (hy : ρ y = .pointer (some a)) (hc : x.cell? a = some (.int .u32 n)) : (execOp ρ o).run Try.prog x = .ok (.value (.int .u32 n)) x := by
  unfold execOp; rw [ho]; simp only [hy]; go_simp
theorem run_shr24 (n : Int) (h0 : 0 ≤ n) {t : TypeId} (ho : o.op = .binOp .shr 64 y (.const (.int .u64 24)) t) (hy : ρ y = .int .u32 n) (hk : ∀ v, ρ (.const v) = v := by intro v; rfl) : (execOp ρ o).run Try.prog x = .ok (.value (.int .u32 (n / 16777216))) x := by
  unfold execOp; rw [ho]; simp only [hy, hk]; go_simp
theorem run_shr16 (n : Int) (h0 : 0 ≤ n) {t : TypeId} (ho : o.op = .binOp .shr 64 y (.const (.int .u64 16)) t) (hy : ρ y = .int .u32 n) (hk : ∀ v, ρ (.const v) = v := by intro v; rfl) : (execOp ρ o).run Try.prog x = .ok (.value (.int .u32 (n / 65536))) x := by
  unfold execOp; rw [ho]; simp only [hy, hk]; go_simp
theorem run_shr8 (n : Int) (h0 : 0 ≤ n) {t : TypeId} (ho : o.op = .binOp .shr 64 y (.const (.int .u64 8)) t) (hy : ρ y = .int .u32 n) (hk : ∀ v, ρ (.const v) = v := by intro v; rfl) : (execOp ρ o).run Try.prog x = .ok (.value (.int .u32 (n / 256))) x := by
  unfold execOp; rw [ho]; simp only [hy, hk]; go_simp
theorem u8_of_int (n : Int) (h0 : 0 ≤ n) : IntKind.u8.wrap n = ((UInt8.ofNat n.toNat).toNat : Int) := by
  rw [M.ofNat_val, IntKind.wrap_u8]; omega
theorem run_cv8 (n : Int) (h0 : 0 ≤ n) (h1 : n ≤ 4294967295) (ho : o.op = .convert 64 5 y) (hy : ρ y = .int .u32 n) : (execOp ρ o).run Try.prog x = .ok (.value (.int .u8 ((UInt8.ofNat n.toNat).toNat : Int))) x := by
  rw [← u8_of_int n h0]
  unfold execOp; rw [ho]; simp only [hy]; go_simp
theorem run_cvo (B : Nat) (so : Option Addr) (sc : Nat) (l : List UInt8) (ho : o.op = .convert 46 9 y) (hy : ρ y = .slice so l.length sc) (h : x.ownsRow B 5 1 (.slice so l.length sc) l.length (bvals l)) : (execOp ρ o).run Try.prog x = .ok (.value (.string ⟨l.toArray⟩)) x := by
  have hc := conv_own (P := Try.prog) x 46 9 5 Try.underlying46 Try.underlying5 Try.underlying9 B _ _ l h
  unfold execOp; rw [ho]; simp only [hy]
  simp [hc, Result.andThen]
theorem run_cv4 (l : List UInt8) (h4 : l.length = 4) (b : Nat) (ho : o.op = .convert 46 9 y) (hy : ρ y = .slice (some ⟨b, 0, none⟩) 4 4) (hb : x.heap[b]? = some (.cells (bvals l).toArray 5 (0, 0))) : (execOp ρ o).run Try.prog x = .ok (.value (.string ⟨l.toArray⟩)) x := by
  have h := conv_row (P := Try.prog) x 46 9 5 Try.underlying46 Try.underlying5 Try.underlying9 b 5 (0, 0) _ hb 0 4 4 l h4 (fun j hj => by
    simp [bvals, hj])
  unfold execOp; rw [ho]; simp only [hy]
  simp [h, Result.andThen]
theorem run_bs4 (a b c d : Int) {y1 y2 y3 y4 : Operand} (ho : o.op = .buildSlice 46 4 #[(0, y1), (1, y2), (2, y3), (3, y4)]) (h1 : ρ y1 = .int .u8 a) (h2 : ρ y2 = .int .u8 b) (h3 : ρ y3 = .int .u8 c) (h4 : ρ y4 = .int .u8 d) : (execOp ρ o).run Try.prog x = .ok (.value (.slice (some ⟨x.heap.size, 0, none⟩) 4 4)) (x.alloc (.cells #[.int .u8 a, .int .u8 b, .int .u8 c, .int .u8 d] 5)) := by
  unfold execOp; rw [ho]; simp [h1, h2, h3, h4]; go_simp
theorem run_adds {y1 y2 : Operand} (s t : ByteArray) (ho : o.op = .binOp .add 9 y1 y2 9) (h1 : ρ y1 = .string s) (h2 : ρ y2 = .string t) (hl : s.size + t.size ≤ 1000000000) : (execOp ρ o).run Try.prog x = .ok (.value (.string (s ++ t))) x := by
  have hm : s.size + t.size ≤ 9223372036854775807 := by omega
  unfold execOp; rw [ho]; simp only [h1, h2]; go_simp
end
/-- What the operations of region 3 yield. -/
def BT (g : Nat) (lo : Int) (l : List UInt8) (so : Option Addr) (sc : Nat) (i : Nat) (v : Value) (x : World) : Prop :=
  match i with
  | 0 => v = (.pointer (some ⟨g, 0, none⟩))
  | 1 => v = (.pointer (some ⟨g, 0, none⟩))
  | 2 => v = (.pointer (some ⟨g, 258, none⟩))
  | 3 => v = (.slice so l.length sc)
  | 4 => v = (.string ⟨l.toArray⟩)
  | 5 => v = (.pointer (some ⟨g, 0, none⟩))
  | 6 => v = (.pointer (some ⟨g, 0, none⟩))
  | 7 => v = (.pointer (some ⟨g, 0, none⟩))
  | 8 => v = (.pointer (some ⟨g, 256, none⟩))
  | 9 => v = (.int .u32 lo)
  | 10 => v = (.int .u32 (lo / 16777216))
  | 11 => v = (.int .u8 ((UInt8.ofNat (lo / 16777216).toNat).toNat : Int))
  | 12 => v = (.pointer (some ⟨g, 0, none⟩))
  | 13 => v = (.pointer (some ⟨g, 0, none⟩))
  | 14 => v = (.pointer (some ⟨g, 0, none⟩))
  | 15 => v = (.pointer (some ⟨g, 256, none⟩))
  | 16 => v = (.int .u32 lo)
  | 17 => v = (.int .u32 (lo / 65536))
  | 18 => v = (.int .u8 ((UInt8.ofNat (lo / 65536).toNat).toNat : Int))
  | 19 => v = (.pointer (some ⟨g, 0, none⟩))
  | 20 => v = (.pointer (some ⟨g, 0, none⟩))
  | 21 => v = (.pointer (some ⟨g, 0, none⟩))
  | 22 => v = (.pointer (some ⟨g, 256, none⟩))
  | 23 => v = (.int .u32 lo)
  | 24 => v = (.int .u32 (lo / 256))
  | 25 => v = (.int .u8 ((UInt8.ofNat (lo / 256).toNat).toNat : Int))
  | 26 => v = (.pointer (some ⟨g, 0, none⟩))
  | 27 => v = (.pointer (some ⟨g, 0, none⟩))
  | 28 => v = (.pointer (some ⟨g, 0, none⟩))
  | 29 => v = (.pointer (some ⟨g, 256, none⟩))
  | 30 => v = (.int .u32 lo)
  | 31 => v = (.int .u8 ((UInt8.ofNat lo.toNat).toNat : Int))
  | 32 => ∃ b, v = .slice (some ⟨b, 0, none⟩) 4 4 ∧ x.heap[b]? = some (.cells (bvals (M.be4 lo)).toArray 5 (0, 0))
  | 33 => v = (.string ⟨(M.be4 lo).toArray⟩)
  | 34 => v = (.string (⟨l.toArray⟩ ++ ⟨(M.be4 lo).toArray⟩))
  | 35 => v = (.string (⟨l.toArray⟩ ++ ⟨(M.be4 lo).toArray⟩))
  | _ => True
set_option maxRecDepth 100000 in
set_option maxHeartbeats 8000000 in
theorem bytes_w (B g : Nat) (s : M.St) (hs : M.Ok s) (X : Nat → Value) (l : List UInt8) (w : World)
    (hB : Blk w g 148 259 (cc s.p s.lo (4294967295 - s.hi) X)) (hown : w.ownsRow B 5 1 (X 258) l.length (bvals l)) (hl : l.length ≤ 100000000) :
    Calls Try.prog 78 #[.pointer (some ⟨g, 0, none⟩)] w fun e w' => e = .returned (.string ⟨(l ++ M.be4 s.lo).toArray⟩) ∧ Grow w w' := by
  have h0 := hs.lo
  have h1 : s.lo ≤ 4294967295 := by have := hs.le; have := hs.hi; omega
  have c6 : w.cell? ⟨g, 256, none⟩ = some (.int .u32 s.lo) := by rw [hB.cell 256 (by omega), cc_lo]
  obtain ⟨so, sc, hv⟩ := own_mem hown
  have c8 : w.cell? ⟨g, 258, none⟩ = some (.slice so l.length sc) := by rw [hB.cell 258 (by omega), cc_x 258 (by omega), hv]
  rw [hv] at hown
  clear hB hs
  generalize s.lo = lo at *
  have hsz : (⟨l.toArray⟩ : ByteArray).size + (⟨(M.be4 lo).toArray⟩ : ByteArray).size ≤ 1000000000 := by
    show l.toArray.size + 4 ≤ _
    simp; omega
  have hres : (⟨l.toArray⟩ : ByteArray) ++ ⟨(M.be4 lo).toArray⟩ = ⟨(l ++ M.be4 lo).toArray⟩ := by
    apply ByteArray.ext; simp [ByteArray.data_append]
  go_enter Try.func78, Try.ntmps78
  go_upto_region 3 with fail
  refine wp_region_growL ?lit ?hlit (by kernel_rfl) (by kernel_rfl) (by kernel_rfl) (by kernel_rfl) (BT g lo l so sc) ?_ ?_
  case hlit =>
    intro u
    simp only [fill, Act.put, Nat.zero_add, Nat.reduceAdd, List.setIfInBounds_toArray, List.set_cons_zero, List.set_cons_succ]
    rfl
  · intro i o ho u x hx hd
    have hi : i < 36 := (List.getElem?_eq_some_iff.1 ho).1
    replace hx : Grow w x := hx
    obtain rfl | rfl | rfl | rfl | rfl | rfl | rfl | rfl | rfl | rfl | rfl | rfl | rfl | rfl | rfl | rfl | rfl | rfl | rfl | rfl | rfl | rfl | rfl | rfl | rfl | rfl | rfl | rfl | rfl | rfl | rfl | rfl | rfl | rfl | rfl | rfl : i = 0 ∨ i = 1 ∨ i = 2 ∨ i = 3 ∨ i = 4 ∨ i = 5 ∨ i = 6 ∨ i = 7 ∨ i = 8 ∨ i = 9 ∨ i = 10 ∨ i = 11 ∨ i = 12 ∨ i = 13 ∨ i = 14 ∨ i = 15 ∨ i = 16 ∨ i = 17 ∨ i = 18 ∨ i = 19 ∨ i = 20 ∨ i = 21 ∨ i = 22 ∨ i = 23 ∨ i = 24 ∨ i = 25 ∨ i = 26 ∨ i = 27 ∨ i = 28 ∨ i = 29 ∨ i = 30 ∨ i = 31 ∨ i = 32 ∨ i = 33 ∨ i = 34 ∨ i = 35 := by omega
    · simp only [List.getElem?_cons_zero, Option.some.injEq] at ho; subst ho
      exact gw_val (run_mv _ rfl rfl) (Grow.refl _) (Al.of rfl)
    · simp only [List.getElem?_cons_succ, List.getElem?_cons_zero, Option.some.injEq] at ho; subst ho
      have e1 : u 0 = (.pointer (some ⟨g, 0, none⟩)) := hd 0 (by kernel_rfl)
      exact gw_val (run_nil _ rfl e1) (Grow.refl _) (Al.of rfl)
    · simp only [List.getElem?_cons_succ, List.getElem?_cons_zero, Option.some.injEq] at ho; subst ho
      have e1 : u 1 = (.pointer (some ⟨g, 0, none⟩)) := hd 1 (by kernel_rfl)
      exact gw_val (run_fa1 g rfl e1) (Grow.refl _) (Al.of rfl)
    · simp only [List.getElem?_cons_succ, List.getElem?_cons_zero, Option.some.injEq] at ho; subst ho
      have e1 : u 2 = (.pointer (some ⟨g, 258, none⟩)) := hd 2 (by kernel_rfl)
      exact gw_val (run_loads _ _ _ _ rfl e1 (hx.cell c8)) (Grow.refl _) (Al.of rfl)
    · simp only [List.getElem?_cons_succ, List.getElem?_cons_zero, Option.some.injEq] at ho; subst ho
      have e1 : u 3 = (.slice so l.length sc) := hd 3 (by kernel_rfl)
      exact gw_val (run_cvo B so sc l rfl e1 (own_grow hown hx)) (Grow.refl _) (Al.of rfl)
    · simp only [List.getElem?_cons_succ, List.getElem?_cons_zero, Option.some.injEq] at ho; subst ho
      exact gw_val (run_mv _ rfl rfl) (Grow.refl _) (Al.of rfl)
    · simp only [List.getElem?_cons_succ, List.getElem?_cons_zero, Option.some.injEq] at ho; subst ho
      have e1 : u 5 = (.pointer (some ⟨g, 0, none⟩)) := hd 5 (by kernel_rfl)
      exact gw_val (run_nil _ rfl e1) (Grow.refl _) (Al.of rfl)
    · simp only [List.getElem?_cons_succ, List.getElem?_cons_zero, Option.some.injEq] at ho; subst ho
      have e1 : u 6 = (.pointer (some ⟨g, 0, none⟩)) := hd 6 (by kernel_rfl)
      exact gw_val (run_faz 148 0 0 g 0 rfl e1 (by kernel_rfl)) (Grow.refl _) (Al.of rfl)
    · simp only [List.getElem?_cons_succ, List.getElem?_cons_zero, Option.some.injEq] at ho; subst ho
      have e1 : u 7 = (.pointer (some ⟨g, 0, none⟩)) := hd 7 (by kernel_rfl)
      exact gw_val (run_faL g rfl e1) (Grow.refl _) (Al.of rfl)
    · simp only [List.getElem?_cons_succ, List.getElem?_cons_zero, Option.some.injEq] at ho; subst ho
      have e1 : u 8 = (.pointer (some ⟨g, 256, none⟩)) := hd 8 (by kernel_rfl)
      exact gw_val (run_ld32 _ _ rfl e1 (hx.cell c6)) (Grow.refl _) (Al.of rfl)
    · simp only [List.getElem?_cons_succ, List.getElem?_cons_zero, Option.some.injEq] at ho; subst ho
      have e1 : u 9 = (.int .u32 lo) := hd 9 (by kernel_rfl)
      exact gw_val (run_shr24 lo h0 rfl e1) (Grow.refl _) (Al.of rfl)
    · simp only [List.getElem?_cons_succ, List.getElem?_cons_zero, Option.some.injEq] at ho; subst ho
      have e1 : u 10 = (.int .u32 (lo / 16777216)) := hd 10 (by kernel_rfl)
      exact gw_val (run_cv8 (lo / 16777216) (by omega) (by omega) rfl e1) (Grow.refl _) (Al.of rfl)
    · simp only [List.getElem?_cons_succ, List.getElem?_cons_zero, Option.some.injEq] at ho; subst ho
      exact gw_val (run_mv _ rfl rfl) (Grow.refl _) (Al.of rfl)
    · simp only [List.getElem?_cons_succ, List.getElem?_cons_zero, Option.some.injEq] at ho; subst ho
      have e1 : u 12 = (.pointer (some ⟨g, 0, none⟩)) := hd 12 (by kernel_rfl)
      exact gw_val (run_nil _ rfl e1) (Grow.refl _) (Al.of rfl)
    · simp only [List.getElem?_cons_succ, List.getElem?_cons_zero, Option.some.injEq] at ho; subst ho
      have e1 : u 13 = (.pointer (some ⟨g, 0, none⟩)) := hd 13 (by kernel_rfl)
      exact gw_val (run_faz 148 0 0 g 0 rfl e1 (by kernel_rfl)) (Grow.refl _) (Al.of rfl)
    · simp only [List.getElem?_cons_succ, List.getElem?_cons_zero, Option.some.injEq] at ho; subst ho
      have e1 : u 14 = (.pointer (some ⟨g, 0, none⟩)) := hd 14 (by kernel_rfl)
      exact gw_val (run_faL g rfl e1) (Grow.refl _) (Al.of rfl)
    · simp only [List.getElem?_cons_succ, List.getElem?_cons_zero, Option.some.injEq] at ho; subst ho
      have e1 : u 15 = (.pointer (some ⟨g, 256, none⟩)) := hd 15 (by kernel_rfl)
      exact gw_val (run_ld32 _ _ rfl e1 (hx.cell c6)) (Grow.refl _) (Al.of rfl)
    · simp only [List.getElem?_cons_succ, List.getElem?_cons_zero, Option.some.injEq] at ho; subst ho
      have e1 : u 16 = (.int .u32 lo) := hd 16 (by kernel_rfl)
      exact gw_val (run_shr16 lo h0 rfl e1) (Grow.refl _) (Al.of rfl)
    · simp only [List.getElem?_cons_succ, List.getElem?_cons_zero, Option.some.injEq] at ho; subst ho
      have e1 : u 17 = (.int .u32 (lo / 65536)) := hd 17 (by kernel_rfl)
      exact gw_val (run_cv8 (lo / 65536) (by omega) (by omega) rfl e1) (Grow.refl _) (Al.of rfl)
    · simp only [List.getElem?_cons_succ, List.getElem?_cons_zero, Option.some.injEq] at ho; subst ho
      exact gw_val (run_mv _ rfl rfl) (Grow.refl _) (Al.of rfl)
    · simp only [List.getElem?_cons_succ, List.getElem?_cons_zero, Option.some.injEq] at ho; subst ho
      have e1 : u 19 = (.pointer (some ⟨g, 0, none⟩)) := hd 19 (by kernel_rfl)
      exact gw_val (run_nil _ rfl e1) (Grow.refl _) (Al.of rfl)
    · simp only [List.getElem?_cons_succ, List.getElem?_cons_zero, Option.some.injEq] at ho; subst ho
      have e1 : u 20 = (.pointer (some ⟨g, 0, none⟩)) := hd 20 (by kernel_rfl)
      exact gw_val (run_faz 148 0 0 g 0 rfl e1 (by kernel_rfl)) (Grow.refl _) (Al.of rfl)
    · simp only [List.getElem?_cons_succ, List.getElem?_cons_zero, Option.some.injEq] at ho; subst ho
      have e1 : u 21 = (.pointer (some ⟨g, 0, none⟩)) := hd 21 (by kernel_rfl)
      exact gw_val (run_faL g rfl e1) (Grow.refl _) (Al.of rfl)
    · simp only [List.getElem?_cons_succ, List.getElem?_cons_zero, Option.some.injEq] at ho; subst ho
      have e1 : u 22 = (.pointer (some ⟨g, 256, none⟩)) := hd 22 (by kernel_rfl)
      exact gw_val (run_ld32 _ _ rfl e1 (hx.cell c6)) (Grow.refl _) (Al.of rfl)
    · simp only [List.getElem?_cons_succ, List.getElem?_cons_zero, Option.some.injEq] at ho; subst ho
      have e1 : u 23 = (.int .u32 lo) := hd 23 (by kernel_rfl)
      exact gw_val (run_shr8 lo h0 rfl e1) (Grow.refl _) (Al.of rfl)
    · simp only [List.getElem?_cons_succ, List.getElem?_cons_zero, Option.some.injEq] at ho; subst ho
      have e1 : u 24 = (.int .u32 (lo / 256)) := hd 24 (by kernel_rfl)
      exact gw_val (run_cv8 (lo / 256) (by omega) (by omega) rfl e1) (Grow.refl _) (Al.of rfl)
    · simp only [List.getElem?_cons_succ, List.getElem?_cons_zero, Option.some.injEq] at ho; subst ho
      exact gw_val (run_mv _ rfl rfl) (Grow.refl _) (Al.of rfl)
    · simp only [List.getElem?_cons_succ, List.getElem?_cons_zero, Option.some.injEq] at ho; subst ho
      have e1 : u 26 = (.pointer (some ⟨g, 0, none⟩)) := hd 26 (by kernel_rfl)
      exact gw_val (run_nil _ rfl e1) (Grow.refl _) (Al.of rfl)
    · simp only [List.getElem?_cons_succ, List.getElem?_cons_zero, Option.some.injEq] at ho; subst ho
      have e1 : u 27 = (.pointer (some ⟨g, 0, none⟩)) := hd 27 (by kernel_rfl)
      exact gw_val (run_faz 148 0 0 g 0 rfl e1 (by kernel_rfl)) (Grow.refl _) (Al.of rfl)
    · simp only [List.getElem?_cons_succ, List.getElem?_cons_zero, Option.some.injEq] at ho; subst ho
      have e1 : u 28 = (.pointer (some ⟨g, 0, none⟩)) := hd 28 (by kernel_rfl)
      exact gw_val (run_faL g rfl e1) (Grow.refl _) (Al.of rfl)
    · simp only [List.getElem?_cons_succ, List.getElem?_cons_zero, Option.some.injEq] at ho; subst ho
      have e1 : u 29 = (.pointer (some ⟨g, 256, none⟩)) := hd 29 (by kernel_rfl)
      exact gw_val (run_ld32 _ _ rfl e1 (hx.cell c6)) (Grow.refl _) (Al.of rfl)
    · simp only [List.getElem?_cons_succ, List.getElem?_cons_zero, Option.some.injEq] at ho; subst ho
      have e1 : u 30 = (.int .u32 lo) := hd 30 (by kernel_rfl)
      exact gw_val (run_cv8 lo (by omega) (by omega) rfl e1) (Grow.refl _) (Al.of rfl)
    · simp only [List.getElem?_cons_succ, List.getElem?_cons_zero, Option.some.injEq] at ho; subst ho
      have e1 : u 11 = (.int .u8 ((UInt8.ofNat (lo / 16777216).toNat).toNat : Int)) := hd 11 (by kernel_rfl)
      have e2 : u 18 = (.int .u8 ((UInt8.ofNat (lo / 65536).toNat).toNat : Int)) := hd 18 (by kernel_rfl)
      have e3 : u 25 = (.int .u8 ((UInt8.ofNat (lo / 256).toNat).toNat : Int)) := hd 25 (by kernel_rfl)
      have e4 : u 31 = (.int .u8 ((UInt8.ofNat lo.toNat).toNat : Int)) := hd 31 (by kernel_rfl)
      exact gw_val (run_bs4 _ _ _ _ rfl e1 e2 e3 e4) (Grow.alloc _ _) (fun y gy => ⟨_, rfl, gy.block (heap_alloc_new _ _)⟩)
    · simp only [List.getElem?_cons_succ, List.getElem?_cons_zero, Option.some.injEq] at ho; subst ho
      obtain ⟨bk, e1, e2⟩ := hd 32 (by kernel_rfl)
      exact gw_val (run_cv4 (M.be4 lo) rfl bk rfl e1 e2) (Grow.refl _) (Al.of rfl)
    · simp only [List.getElem?_cons_succ, List.getElem?_cons_zero, Option.some.injEq] at ho; subst ho
      have e1 : u 4 = (.string ⟨l.toArray⟩) := hd 4 (by kernel_rfl)
      have e2 : u 33 = (.string ⟨(M.be4 lo).toArray⟩) := hd 33 (by kernel_rfl)
      exact gw_val (run_adds _ _ rfl e1 e2 hsz) (Grow.refl _) (Al.of rfl)
    · simp only [List.getElem?_cons_succ, List.getElem?_cons_zero, Option.some.injEq] at ho; subst ho
      have e1 : u 34 = (.string (⟨l.toArray⟩ ++ ⟨(M.be4 lo).toArray⟩)) := hd 34 (by kernel_rfl)
      exact gw_val (run_asg _ rfl e1) (Grow.refl _) (Al.of rfl)
  · intro u x hx hd
    replace hx : Grow w x := hx
    have e2 : u 35 = (.string (⟨l.toArray⟩ ++ ⟨(M.be4 lo).toArray⟩)) := hd 35 (by decide)
    rw [hres] at e2
    clear hd
    simp only [e2]
    go_wp2
    go_ret
    exact ⟨rfl, hx⟩
end
section
theorem Try.zero148 (w : World) : (zeroValue 148).run Try.prog w = .ok (.agg (cv 259 (cc M.start.p M.start.lo (4294967295 - M.start.hi) (fun _ => .slice none 0 0)))) w := by kernel_rfl
set_option maxRecDepth 100000 in
set_option maxHeartbeats 1000000 in
theorem newWriter_any (w : World) : Calls Try.prog 74 #[] w fun e w' => e = .returned (.pointer (some ⟨w.heap.size, 0, none⟩)) ∧ w' = w.alloc (.cells (cv 259 (cc M.start.p M.start.lo (4294967295 - M.start.hi) (fun _ => .slice none 0 0))) 148) := by
  have hz := Try.zero148
  generalize cv 259 (cc M.start.p M.start.lo (4294967295 - M.start.hi) (fun _ => .slice none 0 0)) = Z at *
  go_enter Try.func74, Try.ntmps74
  go_wp2
  go_ret
  exact ⟨rfl, rfl⟩
end
end Go.Proofs.Ytpdckpifhniioaa.Cod
