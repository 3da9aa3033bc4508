/- Walk of the reference's NewWriter. -/
import Derived.Test.YtdepfgeomceiiaaQB
set_option linter.unusedVariables false
namespace Go.Proofs.Ytdepfgeomceiiaa
open Go.RowKit
theorem Try.zero82 (w : World) : (zeroValue 82).run Try.prog w = .ok (.agg (cv 259 (cr (fun _ => 0) 0 0 (fun _ => .slice none 0 0)))) w := by kernel_rfl
theorem fold_size : ∀ (l : List (Value × Nat)) (Z : Array Value), (l.foldl (fun cs x => cs.setIfInBounds x.2 x.1) Z).size = Z.size
  | [], Z => rfl
  | x :: l, Z => by rw [List.foldl_cons, fold_size l]; simp
theorem fold_set : ∀ (l : List Value) (k : Nat) (Z : Array Value) (j : Nat), j < Z.size → ((l.zipIdx k).foldl (fun cs x => cs.setIfInBounds x.2 x.1) Z)[j]? = if k ≤ j ∧ j < k + l.length then l[j - k]? else Z[j]?
  | [], k, Z, j, hj => by
    rw [if_neg (by simp)]; rfl
  | v :: l, k, Z, j, hj => by
    rw [List.zipIdx_cons, List.foldl_cons, fold_set l (k + 1) _ j (by simpa using hj)]
    by_cases h1 : k + 1 ≤ j ∧ j < k + 1 + l.length
    · rw [if_pos h1, if_pos (by simp only [List.length_cons]; omega), show j - k = (j - (k + 1)) + 1 by omega, List.getElem?_cons_succ]
    · rw [if_neg h1]
      dsimp only
      rw [Array.getElem?_setIfInBounds]
      by_cases h2 : k = j
      · subst h2
        rw [if_pos rfl, if_pos hj, if_pos (by simp only [List.length_cons]; omega), Nat.sub_self]; rfl
      · rw [if_neg h2, if_neg (by simp only [List.length_cons]; omega)]
/-- A struct whose first field is a struct of m cells. -/
theorem fold_cv (n m : Nat) (hm : m ≤ n) (C D : Nat → Value) : Array.foldl (fun cs x => cs.setIfInBounds x.snd x.fst) (cv n D) (cv m C).zipIdx 0 m = cv n (fun i => if i < m then C i else D i) := by
  have hs : (cv m C).zipIdx.size = m := by simp [cv_size]
  have e : Array.foldl (fun cs x => cs.setIfInBounds x.snd x.fst) (cv n D) (cv m C).zipIdx 0 m = Array.foldl (fun cs x => cs.setIfInBounds x.snd x.fst) (cv n D) (cv m C).zipIdx := by rw [hs]
  rw [e, ← Array.foldl_toList, Array.toList_zipIdx]
  apply Array.ext_getElem?
  intro j
  by_cases hj : j < n
  · rw [fold_set _ _ _ _ (by rw [cv_size]; exact hj), cv_at n _ j hj, cv_at n _ j hj]
    have hl : (cv m C).toList.length = m := by simp [cv_size]
    rw [hl]
    by_cases h : j < m
    · rw [if_pos (by omega), if_pos h, Nat.sub_zero, Array.getElem?_toList, cv_at m C j h]
    · rw [if_neg (by omega), if_neg h]
  · rw [Array.getElem?_eq_none (by rw [fold_size, cv_size]; omega), cv_none _ _ _ (by omega)]
set_option maxRecDepth 100000 in
set_option maxHeartbeats 1000000 in
theorem rnewWriter (w : World) : Calls Try.prog 20 #[] w fun e w' => ∃ g, w.heap.size ≤ g ∧ e = .returned (.pointer (some ⟨g, 0, none⟩)) ∧ Blk w' g 82 259 (cr M.start.p M.start.lo M.start.hi (fun _ => .slice none 0 0)) ∧ Grow w w' := by
  have HB := Lib.hid (begin_any w)
  have hz := Try.zero82
  have hs1 : ¬ (cv 259 (cr (fun _ => 0) 0 0 (fun _ => .slice none 0 0))).size < 258 := by rw [cv_size]; omega
  have hs2 : (cv 258 (cr M.start.p M.start.lo M.start.hi (fun _ => undef))).size = 258 := cv_size _ _
  have hf := Lib.hid (fold_cv 259 258 (by omega) (cr M.start.p M.start.lo M.start.hi (fun _ => undef)) (cr (fun _ => 0) 0 0 (fun _ => .slice none 0 0)))
  generalize hA : cv 258 (cr M.start.p M.start.lo M.start.hi (fun _ => undef)) = A at *
  generalize hZ : cv 259 (cr (fun _ => 0) 0 0 (fun _ => .slice none 0 0)) = Z at *
  clear hA hZ
  go_enter Try.func20, Try.ntmps20
  go_wp2_with fail
  refine HB.out.mono ?_
  rintro e x ⟨rfl, hg⟩
  go_wp2
  go_ret
  refine ⟨x.heap.size, Below.size hg, rfl, ?_, hg.trans (Grow.alloc _ _)⟩
  rw [hf.out]
  refine Blk.congr (heap_alloc_new _ _) fun i hi => ?_
  by_cases h : i < 258
  · rw [if_pos h]
    unfold cr
    by_cases h1 : i < 256
    · rw [if_pos h1, if_pos h1]
    · by_cases h2 : i = 256
      · rw [if_neg h1, if_pos h2, if_neg h1, if_pos h2]
      · rw [if_neg h1, if_neg h2, if_pos (by omega), if_neg h1, if_neg h2, if_pos (by omega)]
  · rw [if_neg h, cr_x i (by omega), cr_x i (by omega)]
end Go.Proofs.Ytdepfgeomceiiaa
