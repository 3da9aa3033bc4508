/- Walk of the writer's function that appends a byte to the output. -/
import Derived.Test.YtdepfgeomceiiaaA
import Derived.Test.YtdepfgeomceiiaaJL
import Derived.Maps.AppendAt
set_option linter.unusedVariables false
namespace Go.Proofs.Ytdepfgeomceiiaa
open Go.RowKit
/-- Blocks that x had lie as they lay, but for g and the row. -/
structure Chg (g : Nat) (row : Option Nat) (x y : World) : Prop where
  os : y.os = x.os
  tape : y.tape = x.tape
  output : y.output = x.output
  size : x.heap.size ≤ y.heap.size
  block : ∀ k, k < x.heap.size → k ≠ g → some k ≠ row → y.heap[k]? = x.heap[k]?
theorem Chg.of_grow {g row x y} (h : Grow x y) : Chg g row x y := ⟨Below.os h, Below.tape h, Below.output h, Below.size h, fun k hk _ _ => Below.block h k hk⟩
theorem Chg.refl (g row x) : Chg g row x x := ⟨rfl, rfl, rfl, Nat.le_refl _, fun _ _ _ _ => rfl⟩
/-- The row is the old one or a new one. -/
def Nxt (row row' : Option Nat) (x : World) : Prop := row' = row ∨ ∃ k, row' = some k ∧ x.heap.size ≤ k
theorem Chg.trans {g row row' x y z} (h : Chg g row x y) (hr : Nxt row row' x) (k : Chg g row' y z) : Chg g row x z :=
  ⟨k.os.trans h.os, k.tape.trans h.tape, k.output.trans h.output, Nat.le_trans h.size k.size, fun j hj hg hrow => by
    rw [k.block j (Nat.lt_of_lt_of_le hj h.size) hg ?_, h.block j hj hg hrow]
    rcases hr with e | ⟨k', e, hk'⟩
    · rw [e]; exact hrow
    · rw [e]; intro e'; have := Option.some.inj e'; omega⟩
theorem Nxt.trans {row row' row'' x y} (h : Nxt row row' x) (hs : x.heap.size ≤ y.heap.size) (k : Nxt row' row'' y) : Nxt row row'' x := by
  rcases k with e | ⟨k, e, hk⟩
  · rw [e]; exact h
  · exact .inr ⟨k, e, Nat.le_trans hs hk⟩
theorem Chg.below {g row x y B} (h : Chg g row x y) (hg : B ≤ g) (hr : ∀ k, row = some k → B ≤ k) (hB : B ≤ x.heap.size) : Below B x y :=
  ⟨h.os, h.tape, h.output, h.size, fun k hk => h.block k (by omega) (by omega) (fun e => by have := hr k e.symm; omega)⟩
theorem Chg.blk {g row x y g' t n C} (h : Chg g row x y) (hb : Blk x g' t n C) (hg : g' ≠ g) (hr : some g' ≠ row) : Blk y g' t n C := by
  have := h.block g' hb.lt hg hr
  unfold Blk at hb ⊢; rw [this]; exact hb
theorem infoU8 : (Try.prog.info? 5).map (fun i => (i.zero, i.size, i.bytes)) = some (some (.int .u8 0), 1, 1) := by kernel_rfl
/-- A row of bytes lies in no block of another element type. -/
theorem row_ne {x : World} {B : Nat} {v : Value} {n : Nat} {xs : List Value} {g t : Nat} {c : Array Value} {fr : Nat × Nat} (h : x.ownsRow B 5 1 v n xs) (hg : x.heap[g]? = some (.cells c t fr)) (ht : t ≠ 5) : some g ≠ v.ownBlock := by
  rcases h.2 with ⟨rfl, _⟩ | ⟨k, cap, cur, rfl, _, hk, _⟩
  · simp [Value.ownBlock]
  · intro e
    have e : g = k := by simpa [Value.ownBlock] using e
    subst e
    rw [hg] at hk
    injection hk with hk
    injection hk with _ hk _
    exact ht hk
theorem own_mem {x : World} {B : Nat} {e : TypeId} {v : Value} {n : Nat} {xs : List Value} (h : x.ownsRow B e 1 v n xs) : ∃ o c, v = .slice o n c := by
  rcases h.2 with ⟨rfl, h0⟩ | ⟨g, cap, cur, rfl, _⟩
  · exact ⟨none, 0, by rw [h0]⟩
  · exact ⟨_, _, rfl⟩
section
variable {o : Oper} {ρ : Operand → Value} {x : World} {y : Operand}
theorem run_loadp (a : Addr) (q : Option Addr) (ho : o.op = .load 37 y) (hy : ρ y = .pointer (some a)) (hc : x.cell? a = some (.pointer q)) : (execOp ρ o).run Try.prog x = .ok (.value (.pointer q)) x := by
  unfold execOp; rw [ho]; simp only [hy]; go_simp
theorem run_nil (a : Addr) (ho : o.op = .nilCheck y) (hy : ρ y = .pointer (some a)) : (execOp ρ o).run Try.prog x = .ok (.value (.pointer (some a))) x := by
  unfold execOp; rw [ho]; simp only [hy]; go_simp
theorem run_fa1 (g : Nat) (ho : o.op = .fieldAddr 68 y 1) (hy : ρ y = .pointer (some ⟨g, 0, none⟩)) : (execOp ρ o).run Try.prog x = .ok (.value (.pointer (some ⟨g, 258, none⟩))) x := by
  unfold execOp; rw [ho]; simp only [hy]; go_simp
theorem run_loads (a : Addr) (s : Option Addr) (n c : Nat) (ho : o.op = .load 33 y) (hy : ρ y = .pointer (some a)) (hc : x.cell? a = some (.slice s n c)) : (execOp ρ o).run Try.prog x = .ok (.value (.slice s n c)) x := by
  unfold execOp; rw [ho]; simp only [hy]; go_simp
theorem run_mv (v : Value) (ho : o.op = .move y) (hy : ρ y = v) : (execOp ρ o).run Try.prog x = .ok (.value v) x := by
  unfold execOp; rw [ho]; simp only [hy]; go_simp
theorem run_bs1 (n : Int) (ho : o.op = .buildSlice 33 1 #[(0, y)]) (hy : ρ y = .int .u8 n) : (execOp ρ o).run Try.prog x = .ok (.value (.slice (some ⟨x.heap.size, 0, none⟩) 1 1)) (x.alloc (.cells #[.int .u8 n] 5)) := by
  unfold execOp; rw [ho]; simp [hy]; go_simp
theorem run_st (g i : Nat) (s : Option Addr) (n c : Nat) {z : Operand} (ho : o.op = .store 33 y z) (hy : ρ y = .pointer (some ⟨g, i, none⟩)) (hz : ρ z = .slice s n c) (u : Value) (hc : x.cell? ⟨g, i, none⟩ = some u) (hf : x.frozen? ⟨g, i, none⟩ = false) : (execOp ρ o).run Try.prog x = .ok .skip (x.setCell ⟨g, i, none⟩ (.slice s n c)) := by
  unfold execOp; rw [ho]; simp only [hy, hz]; go_simp
end
theorem run_app {o : Oper} {ρ : Operand → Value} {x x' : World} {y z : Operand} {v : Value} (s t : Value) (ho : o.op = .call { callee := .builtin .append, args := #[y, z], argTypes := #[33, 33] }) (hy : ρ y = s) (hz : ρ z = t) (h : (Builtin.append_ #[33, 33] o.type #[s, t]).run Try.prog x = .ok v x') : (execOp ρ o).run Try.prog x = .ok (.value v) x' := by
  unfold execOp; rw [ho]
  simp [resolve, invoke, builtin, hy, hz, h, Result.andThen]
/-- What the quiet operations yield. -/
def PT (g : Nat) (v : Value) (b : UInt8) (i : Nat) (u : Value) : Prop :=
  match i with
  | 0 | 1 | 2 | 8 => u = .pointer (some ⟨g, 0, none⟩)
  | 3 | 9 => u = .pointer (some ⟨g, 258, none⟩)
  | 4 => u = v
  | 5 => u = .int .u8 (b.toNat : Int)
  | _ => True
structure PI (w : World) (g bx B : Nat) (C : Nat → Value) (v : Value) (l : List UInt8) (b : UInt8) (D : Nat → Bool) (u : Nat → Value) (x : World) : Prop where
  val : ∀ i, D i = true → PT g v b i (u i)
  blk : D 10 = false → Blk x g 68 259 C
  box : x.heap[bx]? = some (.cells #[.pointer (some ⟨g, 0, none⟩)] 37 (0, 0))
  tmp : D 6 = true → D 7 = false → ∃ k, u 6 = .slice (some ⟨k, 0, none⟩) 1 1 ∧ x.heap[k]? = some (.cells #[.int .u8 (b.toNat : Int)] 5 (0, 0))
  old : D 7 = false → x.ownsRow B 5 1 v l.length (bvals l) ∧ Grow w x
  new : D 7 = true → x.ownsRow B 5 1 (u 7) (l.length + 1) (bvals (l ++ [b])) ∧ Nxt v.ownBlock (u 7).ownBlock w ∧ Chg g v.ownBlock w x
  fin : D 10 = true → Blk x g 68 259 (vput C 258 (u 7))
  last : D 10 = true → D 4 = true ∧ D 6 = true ∧ D 7 = true
  ord : D 7 = true → D 6 = true
theorem PI.quiet {w g bx B C v l b D u x} (h : PI w g bx B C v l b D u x) (i : Nat) (h6 : i ≠ 6) (h7 : i ≠ 7) (h10 : i ≠ 10) (z : Value) (hz : PT g v b i z) : PI w g bx B C v l b (fun j => if j = i then true else D j) (updv u i z) x := by
  have e6 : (if 6 = i then true else D 6) = D 6 := by rw [if_neg (Ne.symm h6)]
  have e7 : (if 7 = i then true else D 7) = D 7 := by rw [if_neg (Ne.symm h7)]
  have e10 : (if 10 = i then true else D 10) = D 10 := by rw [if_neg (Ne.symm h10)]
  have u6 : updv u i z 6 = u 6 := by simp [updv, Ne.symm h6]
  have u7 : updv u i z 7 = u 7 := by simp [updv, Ne.symm h7]
  refine ⟨fun j hj => ?_, fun hd => h.blk (e10 ▸ hd), h.box, fun a c => by rw [u6]; exact h.tmp (e6 ▸ a) (e7 ▸ c), fun c => h.old (e7 ▸ c), fun c => by rw [u7]; exact h.new (e7 ▸ c), fun c => by rw [u7]; exact h.fin (e10 ▸ c), fun c => ?_, fun c => ?_⟩
  · by_cases e : j = i
    · subst e; simp only [updv, if_pos]; exact hz
    · simp only [updv, if_neg e] at hj ⊢; exact h.val j hj
  · obtain ⟨a4, a6, a7⟩ := h.last (e10 ▸ c)
    show (if 4 = i then true else D 4) = true ∧ (if 6 = i then true else D 6) = true ∧ (if 7 = i then true else D 7) = true
    rw [a4, a6, a7]
    refine ⟨?_, ?_, ?_⟩ <;> split <;> rfl
  · show (if 6 = i then true else D 6) = true
    rw [e6]; exact h.ord (e7 ▸ c)
set_option maxRecDepth 100000 in
set_option maxHeartbeats 1000000 in
theorem push_w (B g bx : Nat) (C : Nat → Value) (v : Value) (l : List UInt8) (b : UInt8) (w : World) (hB : Blk w g 68 259 C) (hC : C 258 = v) (hown : w.ownsRow B 5 1 v l.length (bvals l)) (hbox : w.heap[bx]? = some (.cells #[.pointer (some ⟨g, 0, none⟩)] 37 (0, 0))) (hl : l.length ≤ 100000000) (hBw : B ≤ w.heap.size) :
    Calls Try.prog 37 #[.int .u8 (b.toNat : Int), .pointer (some ⟨bx, 0, none⟩)] w fun e w' => e = .returned (.tuple #[]) ∧ ∃ v', Blk w' g 68 259 (vput C 258 v') ∧ w'.ownsRow B 5 1 v' (l.length + 1) (bvals (l ++ [b])) ∧ Nxt v.ownBlock v'.ownBlock w ∧ Chg g v.ownBlock w w' := by
  obtain ⟨so, sc, rfl⟩ := own_mem hown
  obtain ⟨i0, hi, hz0, hz1, hz2⟩ := info_parts infoU8
  go_enter Try.func37, Try.ntmps37
  refine wp_region_invL ?lit ?hlit rfl (by kernel_rfl) (by kernel_rfl) (by kernel_rfl) (PI w g bx B C (.slice so l.length sc) l b) ?_ ?_ ?_
  case hlit =>
    intro u
    simp only [fill, Act.put, Nat.zero_add, Nat.reduceAdd, List.setIfInBounds_toArray, List.set_cons_zero, List.set_cons_succ]
    rfl
  · intro u
    exact ⟨fun i h => by simp at h, fun _ => hB, hbox, fun h _ => by simp at h, fun _ => ⟨hown, Grow.drew w⟩, fun h => by simp at h, fun h => by simp at h, fun h => by simp at h, fun h => by simp at h⟩
  · intro D u x i o ho hD hd hI
    have hi' : i < 11 := (List.getElem?_eq_some_iff.1 ho).1
    have cb : x.cell? ⟨bx, 0, none⟩ = some (.pointer (some ⟨g, 0, none⟩)) := by unfold World.cell?; rw [hI.box]; rfl
    obtain rfl | rfl | rfl | rfl | rfl | rfl | rfl | rfl | rfl | rfl | rfl : i = 0 ∨ i = 1 ∨ i = 2 ∨ i = 3 ∨ i = 4 ∨ i = 5 ∨ i = 6 ∨ i = 7 ∨ i = 8 ∨ i = 9 ∨ i = 10 := by omega
    · simp only [List.getElem?_cons_zero, Option.some.injEq] at ho; subst ho
      exact iv_val (run_loadp _ _ rfl rfl cb) (hI.quiet 0 (by omega) (by omega) (by omega) _ rfl)
    · simp only [List.getElem?_cons_succ, List.getElem?_cons_zero, Option.some.injEq] at ho; subst ho
      exact iv_val (run_loadp _ _ rfl rfl cb) (hI.quiet 1 (by omega) (by omega) (by omega) _ rfl)
    · simp only [List.getElem?_cons_succ, List.getElem?_cons_zero, Option.some.injEq] at ho; subst ho
      have e1 : u 1 = .pointer (some ⟨g, 0, none⟩) := hI.val 1 (hd 1 (by kernel_rfl))
      exact iv_val (run_nil _ rfl e1) (hI.quiet 2 (by omega) (by omega) (by omega) _ rfl)
    · simp only [List.getElem?_cons_succ, List.getElem?_cons_zero, Option.some.injEq] at ho; subst ho
      have e1 : u 2 = .pointer (some ⟨g, 0, none⟩) := hI.val 2 (hd 2 (by kernel_rfl))
      exact iv_val (run_fa1 g rfl e1) (hI.quiet 3 (by omega) (by omega) (by omega) _ rfl)
    · simp only [List.getElem?_cons_succ, List.getElem?_cons_zero, Option.some.injEq] at ho; subst ho
      have e1 : u 3 = .pointer (some ⟨g, 258, none⟩) := hI.val 3 (hd 3 (by kernel_rfl))
      have hn : D 10 = false := by
        cases h : D 10 with
        | false => rfl
        | true => have := (hI.last h).1; rw [hD] at this; cases this
      have hc := (hI.blk hn).cell 258 (by omega)
      rw [hC] at hc
      exact iv_val (run_loads _ _ _ _ rfl e1 hc) (hI.quiet 4 (by omega) (by omega) (by omega) _ rfl)
    · simp only [List.getElem?_cons_succ, List.getElem?_cons_zero, Option.some.injEq] at ho; subst ho
      exact iv_val (run_mv _ rfl rfl) (hI.quiet 5 (by omega) (by omega) (by omega) _ rfl)
    · simp only [List.getElem?_cons_succ, List.getElem?_cons_zero, Option.some.injEq] at ho; subst ho
      have e1 : u 5 = .int .u8 (b.toNat : Int) := hI.val 5 (hd 5 (by kernel_rfl))
      have hn : D 10 = false := by
        cases h : D 10 with
        | false => rfl
        | true => have := (hI.last h).2.1; rw [hD] at this; cases this
      have h7 : D 7 = false := by
        cases h : D 7 with
        | false => rfl
        | true => have := hI.ord h; rw [hD] at this; cases this
      obtain ⟨o1, o2⟩ := hI.old h7
      refine iv_val (run_bs1 _ rfl e1) ⟨fun j hj => ?_, fun _ => (hI.blk hn).grow (Grow.alloc _ _), (Grow.alloc _ _).block hI.box, fun _ _ => ⟨x.heap.size, by simp [updv], heap_alloc_new _ _⟩, fun _ => ⟨o1.alloc _, o2.a _⟩, fun c => ?_, fun c => ?_, fun c => ?_, fun _ => rfl⟩
      · by_cases e : j = 6
        · subst e; exact trivial
        · simp only [updv, if_neg e] at hj ⊢; exact hI.val j hj
      · simp [h7] at c
      · simp [hn] at c
      · simp [hn] at c
    · simp only [List.getElem?_cons_succ, List.getElem?_cons_zero, Option.some.injEq] at ho; subst ho
      have e4 : u 4 = .slice so l.length sc := hI.val 4 (hd 4 (by kernel_rfl))
      obtain ⟨k, e6, hk⟩ := hI.tmp (hd 6 (by kernel_rfl)) hD
      obtain ⟨o1, o2⟩ := hI.old hD
      have hn : D 10 = false := by
        cases h : D 10 with
        | false => rfl
        | true => have := (hI.last h).2.2; rw [hD] at this; cases this
      obtain ⟨v', x', hrun, r1, r2, r3, r4⟩ := run_append_own_at (P := Try.prog) x B 33 33 5 i0 (.int .u8 0) 1 1 Try.underlying33 hi hz0 hz1 hz2 rfl (by decide) (.slice so l.length sc) l.length (bvals l) o1 ⟨k, 0, none⟩ 1 1 [.int .u8 (b.toNat : Int)] rfl
        (by
          intro j y hj
          obtain rfl : j = 0 := by have := (List.getElem?_eq_some_iff.1 hj).1; simpa using this
          simp at hj; subst hj
          show x.cell? ⟨k, 0, none⟩ = _
          unfold World.cell?; rw [hk]; rfl)
        (by intro y hy; simp at hy; subst hy; rfl) (by simp [maxLen]; omega) (by omega) (Nat.le_trans hBw (Grow.size o2))
      have hbv : bvals l ++ [.int .u8 (b.toNat : Int)] = bvals (l ++ [b]) := by rw [bvals_append]; rfl
      rw [hbv] at r1
      have hblk := hI.blk hn
      refine iv_val (run_app _ _ rfl e4 e6 hrun) ⟨fun j hj => ?_, fun _ => ?_, ?_, fun _ c => ?_, fun c => ?_, fun _ => ⟨by simpa [updv] using r1, ?_, ?_⟩, fun c => ?_, fun c => ?_, fun _ => ?_⟩
      · by_cases e : j = 7
        · subst e; exact trivial
        · simp only [updv, if_neg e] at hj ⊢; exact hI.val j hj
      · have := r2.block g hblk.lt (row_ne o1 hblk (by decide))
        unfold Blk at hblk ⊢; rw [this]; exact hblk
      · rw [r2.block bx (Array.getElem?_eq_some_iff.1 hI.box).1 (row_ne o1 hI.box (by decide))]; exact hI.box
      · simp at c
      · simp at c
      · have e : updv u 7 v' 7 = v' := by simp [updv]
        rw [e]
        rcases r4 with r4 | r4
        · exact .inl r4
        · exact .inr ⟨_, r4, Grow.size o2⟩
      · exact (Chg.of_grow o2).trans (.inl rfl) ⟨r2.os, r2.tape, r2.output, r2.size, fun j hj _ hr => r2.block j hj hr⟩
      · simp [hn] at c
      · simp [hn] at c
      · exact hd 6 (by kernel_rfl)
    · simp only [List.getElem?_cons_succ, List.getElem?_cons_zero, Option.some.injEq] at ho; subst ho
      have e1 : u 0 = .pointer (some ⟨g, 0, none⟩) := hI.val 0 (hd 0 (by kernel_rfl))
      exact iv_val (run_nil _ rfl e1) (hI.quiet 8 (by omega) (by omega) (by omega) _ rfl)
    · simp only [List.getElem?_cons_succ, List.getElem?_cons_zero, Option.some.injEq] at ho; subst ho
      have e1 : u 8 = .pointer (some ⟨g, 0, none⟩) := hI.val 8 (hd 8 (by kernel_rfl))
      exact iv_val (run_fa1 g rfl e1) (hI.quiet 9 (by omega) (by omega) (by omega) _ rfl)
    · simp only [List.getElem?_cons_succ, List.getElem?_cons_zero, Option.some.injEq] at ho; subst ho
      have e9 : u 9 = .pointer (some ⟨g, 258, none⟩) := hI.val 9 (hd 9 (by kernel_rfl))
      have h7 := hd 7 (by kernel_rfl)
      obtain ⟨n1, n2, n3⟩ := hI.new h7
      obtain ⟨s7, c7, e7⟩ := own_mem n1
      have hblk := hI.blk hD
      have hgb : g ≠ bx := by
        intro e
        have := hI.box
        rw [← e, hblk] at this
        injection this with this
        injection this with _ this _
        exact absurd this (by decide)
      refine iv_skip (run_st g 258 s7 (l.length + 1) c7 rfl e9 e7 _ (hblk.cell 258 (by omega)) (hblk.free 258)) ⟨fun j hj => ?_, fun c => ?_, ?_, fun _ c => ?_, fun c => ?_, fun _ => ⟨?_, ?_, ?_⟩, fun _ => ?_, fun _ => ?_, fun _ => ?_⟩
      · by_cases e : j = 10
        · subst e; exact trivial
        · simp only [updv, if_neg e] at hj ⊢; exact hI.val j hj
      · simp at c
      · rw [heap_setCell_other _ _ _ _ (by simpa using Ne.symm hgb)]; exact hI.box
      · simp [h7] at c
      · simp [h7] at c
      · have e : updv u 10 undef 7 = u 7 := by simp [updv]
        rw [e]
        refine n1.kept (row := some g) ⟨rfl, rfl, rfl, by simp [World.setCell], fun j hj hr => heap_setCell_other _ _ _ _ (by intro e'; exact hr (by rw [e']))⟩ (.inr (row_ne n1 hblk (by decide)).symm)
      · have e : updv u 10 undef 7 = u 7 := by simp [updv]
        rw [e]; exact n2
      · exact ⟨n3.os, n3.tape, n3.output, by simp [World.setCell]; exact n3.size, fun j hj hg hr => by rw [heap_setCell_other _ _ _ _ (by simpa using hg)]; exact n3.block j hj hg hr⟩
      · have e : updv u 10 undef 7 = u 7 := by simp [updv]
        rw [e, e7]; exact hblk.set 258 _
      · show (if 4 = 10 then true else D 4) = true ∧ (if 6 = 10 then true else D 6) = true ∧ (if 7 = 10 then true else D 7) = true
        rw [if_neg (by omega), if_neg (by omega), if_neg (by omega)]
        exact ⟨hd 4 (by kernel_rfl), hd 6 (by kernel_rfl), hd 7 (by kernel_rfl)⟩
      · show (if 6 = 10 then true else D 6) = true
        rw [if_neg (by omega)]; exact hd 6 (by kernel_rfl)
  · intro D u x hD hI
    obtain ⟨n1, n2, n3⟩ := hI.new (hD 7 (by decide))
    have n4 := hI.fin (hD 10 (by decide))
    go_wp2
    exact bodyPost_end (results_none rfl _ _ _) rfl ⟨rfl, _, n4, n1, n2, n3⟩
end Go.Proofs.Ytdepfgeomceiiaa
