/- Walks of layer 3 (rect): Minus. -/
import Derived.Maps.AppendAt
import Derived.Test.YtplnhmfkflnhpaaA
import Derived.Test.YtplnhmfkflnhpaaP
set_option linter.unusedVariables false
namespace Go.Proofs.Ytplnhmfkflnhpaa
open Go.RowKit Go.Shelf
attribute [local go_sem] Oper.semAt_some

def rcl (r : R) : List Value := [.int .i64 r.x0, .int .i64 r.y0, .int .i64 r.x1, .int .i64 r.y1]
theorem rcl_length (r : R) : (rcl r).length = 4 := rfl
def rcs (l : List R) : List Value := l.flatMap rcl
theorem rcs_length (l : List R) : (rcs l).length = l.length * 4 := by induction l with
  | nil => rfl
  | cons a l ih => simp [rcs, rcl] at *; omega
theorem rcs_snoc (l : List R) (r : R) : rcs (l ++ [r]) = rcs l ++ rcl r := by simp [rcs]
/-- The parts that are not empty. -/
def full (l : List R) : List R := l.filter fun r => !emp r
theorem full_snoc (l : List R) (r : R) : full (l ++ [r]) = if emp r = true then full l else full l ++ [r] := by
  unfold full; rw [List.filter_append]; cases h : emp r <;> simp [h]
theorem full_le (l : List R) : (full l).length ≤ l.length := List.length_filter_le _ _
/-- Disjoint rectangles that cover a without b. -/
def minusL (a b : R) : List R := if emp a = true then [] else if emp (inter a b) = true then [a] else full (partsL a (inter a b))

theorem infoR : (Try.prog.info? 26).map (fun i => (i.zero, i.size, i.bytes)) = some (some (.agg #[.int .i64 0, .int .i64 0, .int .i64 0, .int .i64 0]), 4, 32) := by kernel_rfl

theorem rcl_new (w : World) (r : R) (t : TypeId) : ∀ j u, (rcl r)[j]? = some u → (w.alloc (.cells #[.int .i64 r.x0, .int .i64 r.y0, .int .i64 r.x1, .int .i64 r.y1] t)).cell? ((⟨w.heap.size, 0, none⟩ : Addr).add j) = some u := by
  intro j u hj
  have : (⟨w.heap.size, 0, none⟩ : Addr).add j = ⟨w.heap.size, j, none⟩ := by unfold Addr.add; split <;> simp_all
  rw [this]
  match j, hj with
  | 0, hj => simpa [rcl] using hj
  | 1, hj => simpa [rcl] using hj
  | 2, hj => simpa [rcl] using hj
  | 3, hj => simpa [rcl] using hj
  | j + 4, hj => simp [rcl] at hj
theorem rcl_one (r : R) : ∀ u ∈ rcl r, u.oneCell' = true := by
  intro u h
  simp [rcl] at h
  rcases h with rfl | rfl | rfl | rfl <;> rfl
theorem BoxR.new (w : World) (r : R) : BoxR (w.alloc (.cells #[.int .i64 r.x0, .int .i64 r.y0, .int .i64 r.x1, .int .i64 r.y1] 26)) w.heap.size r := World.alloc_heap_new w _
theorem BoxR.alloc {W : World} {b : Nat} {r : R} (h : BoxR W b r) (o : Obj) : BoxR (W.alloc o) b r := (Below.heap_alloc W o b h.lt).trans h
theorem BoxR.kept {W W' : World} {row : Option Nat} {B : Nat} {r : R} (h : BoxR W B r) (hg : W.grownBy W' row) (hne : some B ≠ row) : BoxR W' B r := (hg.block B h.lt hne).trans h
theorem boxR_own {β : Type} (B : Nat) (f : β → R) : Own (fun s W => BoxR W B (f s)) := fun s X Y row hs hg hrow =>
  hs.kept hg (fun e' => by obtain ⟨o, ho, hc⟩ := hrow B e'.symm; rw [show X.heap[B]? = _ from hs] at ho; cases ho; cases hc)

theorem rcl_new' (w : World) (r : R) (t : TypeId) (n : Nat) (hn : w.heap.size = n) : ∀ j u, (rcl r)[j]? = some u → (w.alloc (.cells #[.int .i64 r.x0, .int .i64 r.y0, .int .i64 r.x1, .int .i64 r.y1] t)).cell? ((⟨n, 0, none⟩ : Addr).add j) = some u := by
  subst hn; exact rcl_new w r t
theorem row_mono {W : World} {b b' : Nat} {e : TypeId} {size : Nat} {v : Value} {k : Nat} {xs : List Value} (h : W.ownsRow b e size v k xs) (hb : b' ≤ b) : W.ownsRow b' e size v k xs := by
  refine ⟨h.1, ?_⟩
  rcases h.2 with hn | ⟨g, cap, cur, hv, hg, rest⟩
  · exact .inl hn
  · exact .inr ⟨g, cap, cur, hv, by omega, rest⟩
theorem row_ne {W : World} {b B : Nat} {e : TypeId} {size : Nat} {v : Value} {k : Nat} {xs : List Value} (h : W.ownsRow b e size v k xs) (hb : B < b) : some B ≠ v.ownBlock := by
  rcases h.2 with ⟨rfl, _⟩ | ⟨g, cap, cur, rfl, hg, rest⟩
  · simp [Value.ownBlock]
  · simp [Value.ownBlock]; omega
set_option maxRecDepth 100000 in
set_option maxHeartbeats 4000000 in
theorem minus_any (a b : R) (w : World) : Calls Try.prog 37 #[.agg #[.int .i64 a.x0, .int .i64 a.y0, .int .i64 a.x1, .int .i64 a.y1], .agg #[.int .i64 b.x0, .int .i64 b.y0, .int .i64 b.x1, .int .i64 b.y1]] w fun e W' =>
    ∃ v, e = .returned v ∧ W'.ownsRow w.heap.size 26 4 v (minusL a b).length (rcs (minusL a b)) ∧ Below w.heap.size w W' := by
  obtain ⟨i0, hi, hz0, hz1, hz2⟩ := info_parts infoR
  refine (callsIn_wide (n := 6)).1 ?_
  refine callsIn_of_wp_marks Try.func37 rfl trivial ?_ rfl
  simp only [Try.ntmps37, List.size_toArray, List.length_cons, List.length_nil, Nat.reduceAdd, Nat.reduceSub, Array.replicate_succ, Array.replicate_zero, List.push_toArray, List.append_toArray, List.nil_append, List.cons_append]
  have hin := fun w => inter_any a.x0 a.y0 a.x1 a.y1 b.x0 b.y0 b.x1 b.y1 w
  generalize hI : inter ⟨a.x0, a.y0, a.x1, a.y1⟩ ⟨b.x0, b.y0, b.x1, b.y1⟩ = i at hin
  have hI' : inter a b = i := hI
  clear hI
  have hea : emp ⟨a.x0, a.y0, a.x1, a.y1⟩ = emp a := rfl
  have hei : emp ⟨i.x0, i.y0, i.x1, i.y1⟩ = emp i := rfl
  cases ha : emp a with
  | true =>
    rw [ha] at hea
    have hm : minusL a b = [] := by unfold minusL; rw [if_pos ha]
    rw [hm]
    gi_wp2_with first
      | (refine ⟨trivial, ?_⟩; gi_at_call 18; refine (callsIn_wide.2 (hin _)).mono ?_; rintro e w1 ⟨rfl, hB⟩; have hs1 := hB.size; rw [World.size_alloc, World.size_alloc] at hs1; have bA := ((((BoxR.new w a).alloc (.cells #[.int .i64 b.x0, .int .i64 b.y0, .int .i64 b.x1, .int .i64 b.y1] 26)).below (by simp; omega) hB).alloc (.cells #[.int .i64 i.x0, .int .i64 i.y0, .int .i64 i.x1, .int .i64 i.y1] 26)).alloc (.cells #[.slice none 0 0] 50); have a0 := bA.c0; have a1 := bA.c1; have a2 := bA.c2; have a3 := bA.c3; have cA := (bA.alloc (.cells #[.int .i64 a.x0, .int .i64 a.y0, .int .i64 a.x1, .int .i64 a.y1] 26)).alloc (.cells #[.int .i64 i.x0, .int .i64 i.y0, .int .i64 i.x1, .int .i64 i.y1] 26); have a0' := cA.c0; have a1' := cA.c1; have a2' := cA.c2; have a3' := cA.c3)
      | (refine ⟨trivial, ?_⟩; gi_at_call 22; refine (callsIn_wide.2 (empty_any _ _ _ _ _)).mono ?_; rintro e w2 ⟨rfl, rfl⟩)
    have hBw : Below w.heap.size w w1 := (ball2 w (.cells #[.int .i64 a.x0, .int .i64 a.y0, .int .i64 a.x1, .int .i64 a.y1] 26) (.cells #[.int .i64 b.x0, .int .i64 b.y0, .int .i64 b.x1, .int .i64 b.y1] 26)).trans (hB.mono (by simp; omega))
    exact ⟨_, results_tmp rfl _ _ _, _, rfl, World.ownsRow_nil _ _ _ _, ((hBw.alloc (by omega) _).alloc (by simp; omega) _).alloc (by simp; omega) _⟩
  | false =>
    rw [ha] at hea
    cases hb : emp i with
    | true =>
      rw [hb] at hei
      have hm : minusL a b = [a] := by unfold minusL; rw [if_neg (by simp [ha]), hI', if_pos hb]
      rw [hm]
      gi_wp2_with first
        | (refine ⟨trivial, ?_⟩; gi_at_call 18; refine (callsIn_wide.2 (hin _)).mono ?_; rintro e w1 ⟨rfl, hB⟩; have hs1 := hB.size; rw [World.size_alloc, World.size_alloc] at hs1; have bA := ((((BoxR.new w a).alloc (.cells #[.int .i64 b.x0, .int .i64 b.y0, .int .i64 b.x1, .int .i64 b.y1] 26)).below (by simp; omega) hB).alloc (.cells #[.int .i64 i.x0, .int .i64 i.y0, .int .i64 i.x1, .int .i64 i.y1] 26)).alloc (.cells #[.slice none 0 0] 50); have a0 := bA.c0; have a1 := bA.c1; have a2 := bA.c2; have a3 := bA.c3; have cA := (bA.alloc (.cells #[.int .i64 a.x0, .int .i64 a.y0, .int .i64 a.x1, .int .i64 a.y1] 26)).alloc (.cells #[.int .i64 i.x0, .int .i64 i.y0, .int .i64 i.x1, .int .i64 i.y1] 26); have a0' := cA.c0; have a1' := cA.c1; have a2' := cA.c2; have a3' := cA.c3)
        | (refine ⟨trivial, ?_⟩; gi_at_call 22; refine (callsIn_wide.2 (empty_any _ _ _ _ _)).mono ?_; rintro e w2 ⟨rfl, rfl⟩)
        | (gi_at_builtin; have bO := (((Boxed.new (w1.alloc (.cells #[.int .i64 i.x0, .int .i64 i.y0, .int .i64 i.x1, .int .i64 i.y1] 26)) 50 (.slice none 0 0)).alloc (.cells #[.int .i64 a.x0, .int .i64 a.y0, .int .i64 a.x1, .int .i64 a.y1] 26)).alloc (.cells #[.int .i64 i.x0, .int .i64 i.y0, .int .i64 i.x1, .int .i64 i.y1] 26)); simp only [World.size_alloc] at bO; refine wpListIn_append_own _ rfl _ _ 50 rfl w.heap.size 26 i0 _ 4 32 Try.underlying50 hi hz0 hz1 hz2 rfl (by decide) _ 0 [] rfl (World.ownsRow_nil _ _ _ _) ⟨w1.heap.size + 1 + 1 + 1 + 1, 0, none⟩ 1 1 (rcl a) rfl rfl (rcl_new' _ a _ _ (by simp)) (rcl_one a) (by simp [maxLen]) (by omega) (by simp; omega) ?_; intro v' w5 hown' hgrow _; obtain ⟨g', cap', rfl⟩ := ownsRow_succ hown'; obtain ⟨hv1, hv2, hr2, hk2, hb2⟩ := bO.appended (by decide) (World.ownsRow_nil _ _ _ _) (by simp; omega) (by omega) hown' hgrow; have hc1 := hv1.cell; have hf1 := hv1.frozen; have hv3 := hv2.cell)
      have hBw : Below w.heap.size w w1 := (ball2 w (.cells #[.int .i64 a.x0, .int .i64 a.y0, .int .i64 a.x1, .int .i64 a.y1] 26) (.cells #[.int .i64 b.x0, .int .i64 b.y0, .int .i64 b.x1, .int .i64 b.y1] 26)).trans (hB.mono (by simp; omega))
      exact ⟨_, results_tmp rfl _ _ _, .slice (some ⟨g', 0, none⟩) 1 cap', rfl, by simpa [rcs] using hr2, (((((hBw.alloc (by omega) _).alloc (by simp; omega) _).alloc (by simp; omega) _).alloc (by simp; omega) _)).trans hb2⟩
    | false =>
      rw [hb] at hei
      have hm : minusL a b = full (partsL a i) := by unfold minusL; rw [if_neg (by simp [ha]), hI', if_neg (by simp [hb])]
      rw [hm]
      gi_wp2_with first
        | (refine ⟨trivial, ?_⟩; gi_at_call 18; refine (callsIn_wide.2 (hin _)).mono ?_; rintro e w1 ⟨rfl, hB⟩; have hs1 := hB.size; rw [World.size_alloc, World.size_alloc] at hs1; have bA := ((((BoxR.new w a).alloc (.cells #[.int .i64 b.x0, .int .i64 b.y0, .int .i64 b.x1, .int .i64 b.y1] 26)).below (by simp; omega) hB).alloc (.cells #[.int .i64 i.x0, .int .i64 i.y0, .int .i64 i.x1, .int .i64 i.y1] 26)).alloc (.cells #[.slice none 0 0] 50); have a0 := bA.c0; have a1 := bA.c1; have a2 := bA.c2; have a3 := bA.c3; have cA := (bA.alloc (.cells #[.int .i64 a.x0, .int .i64 a.y0, .int .i64 a.x1, .int .i64 a.y1] 26)).alloc (.cells #[.int .i64 i.x0, .int .i64 i.y0, .int .i64 i.x1, .int .i64 i.y1] 26); have a0' := cA.c0; have a1' := cA.c1; have a2' := cA.c2; have a3' := cA.c3)
        | (refine ⟨trivial, ?_⟩; gi_at_call 22; refine (callsIn_wide.2 (empty_any _ _ _ _ _)).mono ?_; rintro e w2 ⟨rfl, rfl⟩)
        | (refine ⟨trivial, ?_⟩; gi_at_call 50; refine (parts_in Fence.wide _ trivial rfl a i _).mono ?_; rintro e w2 ⟨rfl, rfl⟩)
      have hBw : Below w.heap.size w w1 := (ball2 w (.cells #[.int .i64 a.x0, .int .i64 a.y0, .int .i64 a.x1, .int .i64 a.y1] 26) (.cells #[.int .i64 b.x0, .int .i64 b.y0, .int .i64 b.x1, .int .i64 b.y1] 26)).trans (hB.mono (by simp; omega))
      have bA := ((((((BoxR.new w a).alloc (.cells #[.int .i64 b.x0, .int .i64 b.y0, .int .i64 b.x1, .int .i64 b.y1] 26)).below (by simp; omega) hB).alloc (.cells #[.int .i64 i.x0, .int .i64 i.y0, .int .i64 i.x1, .int .i64 i.y1] 26)).alloc (.cells #[.slice none 0 0] 50)).alloc (.cells #[.int .i64 a.x0, .int .i64 a.y0, .int .i64 a.x1, .int .i64 a.y1] 26)).alloc (.cells #[.int .i64 i.x0, .int .i64 i.y0, .int .i64 i.x1, .int .i64 i.y1] 26)
      have b1 := (BoxR.new ((((w1.alloc (.cells #[.int .i64 i.x0, .int .i64 i.y0, .int .i64 i.x1, .int .i64 i.y1] 26)).alloc (.cells #[.slice none 0 0] 50)).alloc (.cells #[.int .i64 a.x0, .int .i64 a.y0, .int .i64 a.x1, .int .i64 a.y1] 26)).alloc (.cells #[.int .i64 i.x0, .int .i64 i.y0, .int .i64 i.x1, .int .i64 i.y1] 26)) a).alloc (.cells #[.int .i64 i.x0, .int .i64 i.y0, .int .i64 i.x1, .int .i64 i.y1] 26)
      have b2 := BoxR.new (((((w1.alloc (.cells #[.int .i64 i.x0, .int .i64 i.y0, .int .i64 i.x1, .int .i64 i.y1] 26)).alloc (.cells #[.slice none 0 0] 50)).alloc (.cells #[.int .i64 a.x0, .int .i64 a.y0, .int .i64 a.x1, .int .i64 a.y1] 26)).alloc (.cells #[.int .i64 i.x0, .int .i64 i.y0, .int .i64 i.x1, .int .i64 i.y1] 26)).alloc (.cells #[.int .i64 a.x0, .int .i64 a.y0, .int .i64 a.x1, .int .i64 a.y1] 26)) i
      have bO := ((((Boxed.new (w1.alloc (.cells #[.int .i64 i.x0, .int .i64 i.y0, .int .i64 i.x1, .int .i64 i.y1] 26)) 50 (.slice none 0 0)).alloc (.cells #[.int .i64 a.x0, .int .i64 a.y0, .int .i64 a.x1, .int .i64 a.y1] 26)).alloc (.cells #[.int .i64 i.x0, .int .i64 i.y0, .int .i64 i.x1, .int .i64 i.y1] 26)).alloc (.cells #[.int .i64 a.x0, .int .i64 a.y0, .int .i64 a.x1, .int .i64 a.y1] 26)).alloc (.cells #[.int .i64 i.x0, .int .i64 i.y0, .int .i64 i.x1, .int .i64 i.y1] 26)
      simp only [World.size_alloc] at b1 b2 bO
      have hB0 : Below w.heap.size w ((((((w1.alloc (.cells #[.int .i64 i.x0, .int .i64 i.y0, .int .i64 i.x1, .int .i64 i.y1] 26)).alloc (.cells #[.slice none 0 0] 50)).alloc (.cells #[.int .i64 a.x0, .int .i64 a.y0, .int .i64 a.x1, .int .i64 a.y1] 26)).alloc (.cells #[.int .i64 i.x0, .int .i64 i.y0, .int .i64 i.x1, .int .i64 i.y1] 26)).alloc (.cells #[.int .i64 a.x0, .int .i64 a.y0, .int .i64 a.x1, .int .i64 a.y1] 26)).alloc (.cells #[.int .i64 i.x0, .int .i64 i.y0, .int .i64 i.x1, .int .i64 i.y1] 26)) := (((((((hBw.alloc (by omega) _).alloc (by simp; omega) _).alloc (by simp; omega) _).alloc (by simp; omega) _).alloc (by simp; omega) _).alloc (by simp; omega) _))
      have hsz : ((((((w1.alloc (.cells #[.int .i64 i.x0, .int .i64 i.y0, .int .i64 i.x1, .int .i64 i.y1] 26)).alloc (.cells #[.slice none 0 0] 50)).alloc (.cells #[.int .i64 a.x0, .int .i64 a.y0, .int .i64 a.x1, .int .i64 a.y1] 26)).alloc (.cells #[.int .i64 i.x0, .int .i64 i.y0, .int .i64 i.x1, .int .i64 i.y1] 26)).alloc (.cells #[.int .i64 a.x0, .int .i64 a.y0, .int .i64 a.x1, .int .i64 a.y1] 26)).alloc (.cells #[.int .i64 i.x0, .int .i64 i.y0, .int .i64 i.x1, .int .i64 i.y1] 26)).heap.size = w1.heap.size + 6 := by simp
      obtain ⟨W0, hW0⟩ : ∃ W0, ((((((w1.alloc (.cells #[.int .i64 i.x0, .int .i64 i.y0, .int .i64 i.x1, .int .i64 i.y1] 26)).alloc (.cells #[.slice none 0 0] 50)).alloc (.cells #[.int .i64 a.x0, .int .i64 a.y0, .int .i64 a.x1, .int .i64 a.y1] 26)).alloc (.cells #[.int .i64 i.x0, .int .i64 i.y0, .int .i64 i.x1, .int .i64 i.y1] 26)).alloc (.cells #[.int .i64 a.x0, .int .i64 a.y0, .int .i64 a.x1, .int .i64 a.y1] 26)).alloc (.cells #[.int .i64 i.x0, .int .i64 i.y0, .int .i64 i.x1, .int .i64 i.y1] 26)) = W0 := ⟨_, rfl⟩
      rw [hW0] at b1 b2 bO hB0 hsz ⊢
      clear hW0
      have hwle := hBw.size
      refine wpIn_rangeFunc_ownH rfl (by omega) (gf := 62) (lb := #[.pointer (some ⟨w1.heap.size + 1 + 1 + 1 + 1, 0, none⟩), .pointer (some ⟨w1.heap.size + 1 + 1 + 1 + 1 + 1, 0, none⟩)]) rfl trivial (enters_of Try.func62 (by kernel_rfl) rfl)
        (parts_stops Fence.wide _ trivial rfl (by omega) (w1.heap.size + 1 + 1 + 1 + 1) (w1.heap.size + 1 + 1 + 1 + 1 + 1) a i W0 b1 b2) (fun h k => h.trans k) (fun W l o o' hl ho hc hw => ⟨World.putObj_heap_other (by omega), World.putObj_heap_other (by omega)⟩) (Below.refl _ _) (fun _ => rfl)
        (fun pre W => ((∃ v, Boxed W (w1.heap.size + 1) 50 v ∧ W.ownsRow W0.heap.size 26 4 v (full pre).length (rcs (full pre)) ∧ True) ∧ (BoxR W (w1.heap.size + 1 + 1 + 1 + 1) a ∧ BoxR W (w1.heap.size + 1 + 1 + 1 + 1 + 1) i)) ∧ Below w.heap.size w W)
        (fun _ _ _ => False)
        (OwnFrom.and (OwnFrom.and (Own.from (holdsRow_own W0.heap.size _ 50 26 4 (fun pre => (full pre).length) (fun pre => rcs (full pre)) (fun _ _ => True)) _) (OwnFrom.and (Own.from (boxR_own _ _) _) (Own.from (boxR_own _ _) _))) (ownFrom_below (Nat.le_refl _) (by omega)))
        (fun _ _ _ _ _ hs _ _ => hs)
        ⟨⟨⟨_, bO, World.ownsRow_nil _ _ _ _, trivial⟩, b1, b2⟩, hB0⟩
        (fun x a' W => ∃ Bx, BoxR W Bx x ∧ a' = { tmps := #[.agg #[.int .i64 a.x0, .int .i64 a.y0, .int .i64 a.x1, .int .i64 a.y1], .agg #[.int .i64 b.x0, .int .i64 b.y0, .int .i64 b.x1, .int .i64 b.y1], .pointer (some ⟨w.heap.size, 0, none⟩), .pointer (some ⟨w.heap.size + 1, 0, none⟩), .slice none 0 0, .pointer (some ⟨w1.heap.size, 0, none⟩), .pointer (some ⟨w1.heap.size + 1, 0, none⟩), .pointer (some ⟨Bx, 0, none⟩), .agg #[.int .i64 a.x0, .int .i64 a.y0, .int .i64 a.x1, .int .i64 a.y1], .agg #[.int .i64 b.x0, .int .i64 b.y0, .int .i64 b.x1, .int .i64 b.y1], .agg #[.int .i64 i.x0, .int .i64 i.y0, .int .i64 i.x1, .int .i64 i.y1], .agg #[.int .i64 a.x0, .int .i64 a.y0, .int .i64 a.x1, .int .i64 a.y1], .agg #[.int .i64 i.x0, .int .i64 i.y0, .int .i64 i.x1, .int .i64 i.y1], .func (.func 62) #[] #[.pointer (some ⟨w1.heap.size + 1 + 1 + 1 + 1, 0, none⟩), .pointer (some ⟨w1.heap.size + 1 + 1 + 1 + 1 + 1, 0, none⟩)], .agg #[.int .i64 x.x0, .int .i64 x.y0, .int .i64 x.x1, .int .i64 x.y1], undef, undef, undef, undef, undef, undef, undef, .bool false, .agg #[.int .i64 a.x0, .int .i64 a.y0, .int .i64 a.x1, .int .i64 a.y1], .bool false, .bool false, .agg #[.int .i64 i.x0, .int .i64 i.y0, .int .i64 i.x1, .int .i64 i.y1], .bool false, undef, undef, undef, undef, undef], defers := [] })
        (fun x a' _ X Y row hs hg hr => by obtain ⟨Bx, h1, h3⟩ := hs; exact ⟨Bx, boxR_own Bx (fun (_ : Unit) => x) () X Y row h1 hg (fun r e => (hr r e).2), h3⟩)
        ?assign ?body ?done ?stop
      case assign =>
        rintro l pre x W K ⟨⟨⟨v, hv, hrow, _⟩, c1, c2⟩, hB1⟩ hK
        gi_wp2
        exact hK _ _ ((KeepsOthers.alloc _ _).from _) ⟨(c1.alloc _).trans c1.symm, (c2.alloc _).trans c2.symm⟩ ⟨⟨⟨v, hv.alloc _, hrow.alloc _, trivial⟩, c1.alloc _, c2.alloc _⟩, hB1.alloc hB1.size _⟩ ⟨W.heap.size, BoxR.new W x, rfl⟩
      case body =>
        rintro l pre x a' W hl ⟨r, hr⟩ ⟨⟨⟨v, hv, hrow, _⟩, c1, c2⟩, hB1⟩ ⟨Bx, bX, rfl⟩ hlt
        have x0 := bX.c0
        have x1 := bX.c1
        have x2 := bX.c2
        have x3 := bX.c3
        have hWs := hB1.size
        have hWW : W0.heap.size ≤ W.heap.size := by have := (Array.getElem?_eq_some_iff.1 hr).1; omega
        have x0' := (bX.alloc (.cells #[.int .i64 x.x0, .int .i64 x.y0, .int .i64 x.x1, .int .i64 x.y1] 26)).c0
        have x1' := (bX.alloc (.cells #[.int .i64 x.x0, .int .i64 x.y0, .int .i64 x.x1, .int .i64 x.y1] 26)).c1
        have x2' := (bX.alloc (.cells #[.int .i64 x.x0, .int .i64 x.y0, .int .i64 x.x1, .int .i64 x.y1] 26)).c2
        have x3' := (bX.alloc (.cells #[.int .i64 x.x0, .int .i64 x.y0, .int .i64 x.x1, .int .i64 x.y1] 26)).c3
        have hc := (hv.alloc (.cells #[.int .i64 x.x0, .int .i64 x.y0, .int .i64 x.x1, .int .i64 x.y1] 26)).cell
        have hex : emp ⟨x.x0, x.y0, x.x1, x.y1⟩ = emp x := rfl
        have hfl := full_le pre
        cases hx : emp x with
        | true =>
          rw [hx] at hex
          gi_wp2_with (refine ⟨trivial, ?_⟩; gi_at_call 22; refine (CallsIn.inRound l (callsIn_wide.2 (empty_any _ _ _ _ _))).mono ?_; rintro e w2 ⟨rfl, rfl⟩)
          exact ⟨(KeepsOthers.alloc _ _).from _, ⟨(c1.alloc _).trans c1.symm, (c2.alloc _).trans c2.symm⟩, ⟨⟨v, hv.alloc _, by rw [full_snoc, if_pos hx]; exact hrow.alloc _, trivial⟩, c1.alloc _, c2.alloc _⟩, hB1.alloc hB1.size _⟩
        | false =>
          rw [hx] at hex
          gi_wp2_with first
            | (refine ⟨trivial, ?_⟩; gi_at_call 22; refine (CallsIn.inRound l (callsIn_wide.2 (empty_any _ _ _ _ _))).mono ?_; rintro e w2 ⟨rfl, rfl⟩)
            | (gi_at_builtin; refine wpListIn_append_own _ rfl _ _ 50 rfl W0.heap.size 26 i0 _ 4 32 Try.underlying50 hi hz0 hz1 hz2 rfl (by decide) _ _ _ rfl ((hrow.alloc (.cells #[.int .i64 x.x0, .int .i64 x.y0, .int .i64 x.x1, .int .i64 x.y1] 26)).alloc _) ⟨W.heap.size + 1, 0, none⟩ 1 1 (rcl x) rfl rfl (rcl_new' _ x _ _ (World.size_alloc _ _)) (rcl_one x) (by simp [maxLen]; omega) (by omega) (by simp; omega) ?_; intro v' w5 hown' hgrow _; obtain ⟨g', cap', rfl⟩ := ownsRow_succ hown'; obtain ⟨hv1, hv2, _, hk2, hb2⟩ := (hv.alloc (.cells #[.int .i64 x.x0, .int .i64 x.y0, .int .i64 x.x1, .int .i64 x.y1] 26)).appended (by decide) (row_mono (hrow.alloc (.cells #[.int .i64 x.x0, .int .i64 x.y0, .int .i64 x.x1, .int .i64 x.y1] 26)) (b' := w.heap.size) (by omega)) (by simp; omega) (by omega) (row_mono hown' (by omega)) hgrow; have d1 := (((c1.alloc (.cells #[.int .i64 x.x0, .int .i64 x.y0, .int .i64 x.x1, .int .i64 x.y1] 26)).alloc _).kept hgrow (row_ne hrow (by omega))).kept (grownBy_setCell' w5 (w1.heap.size + 1) (.slice (some ⟨g', 0, none⟩) ((full pre).length + 1) cap')) (by simp; omega); have d2 := (((c2.alloc (.cells #[.int .i64 x.x0, .int .i64 x.y0, .int .i64 x.x1, .int .i64 x.y1] 26)).alloc _).kept hgrow (row_ne hrow (by omega))).kept (grownBy_setCell' w5 (w1.heap.size + 1) (.slice (some ⟨g', 0, none⟩) ((full pre).length + 1) cap')) (by simp; omega); have hr2 := hown'.kept (grownBy_setCell' w5 (w1.heap.size + 1) (.slice (some ⟨g', 0, none⟩) ((full pre).length + 1) cap')) (.inr (hv1.not_row (by decide) hown').symm); have hc1 := hv1.cell; have hf1 := hv1.frozen)
          exact ⟨((KeepsOthers.alloc _ _).trans hk2).from _, ⟨d1.trans c1.symm, d2.trans c2.symm⟩, ⟨⟨_, hv2, by rw [full_snoc, if_neg (by simp [hx]), rcs_snoc]; simpa using hr2, trivial⟩, d1, d2⟩, (hB1.alloc hB1.size _).trans hb2⟩
      case done =>
        rintro D ys W hD rfl ⟨⟨⟨v, hv, hrow, _⟩, c1, c2⟩, hB1⟩ hK
        have hc := hv.cell
        gi_wp2
        refine ⟨by simp, .inl ⟨_, _, rfl, run_takeDeferred hK, ?_⟩⟩
        exact ⟨_, results_tmp rfl _ _ _, v, rfl, ownsRow_putObj (row_mono hrow (by omega)) _ hK rfl, hB1.trans (belowK_b (w := w) (Nat.le_refl _) W D _ _ (by omega) hK rfl rfl)⟩
      case stop =>
        rintro D c pre W _ _ h _
        exact h.elim
end Go.Proofs.Ytplnhmfkflnhpaa
