/- Walks of layer 3 (rect): the tiles of a rectangle, an iterator. -/
import Derived.Test.YtplnhmfkflnhpaaU
import Derived.Test.YtplnhmfkflnhpaaJ2
set_option linter.unusedVariables false
namespace Go.Proofs.Ytplnhmfkflnhpaa
open Go.RowKit Go.Shelf
attribute [local go_sem] Oper.semAt_some
def tax (r : R) : Int := flr r.x0 8
def tay (r : R) : Int := flr r.y0 8
def tnx (r : R) : Nat := (flr (wrap64 (r.x1 - 1)) 8 - flr r.x0 8 + 1).toNat
def tny (r : R) : Nat := (flr (wrap64 (r.y1 - 1)) 8 - flr r.y0 8 + 1).toNat
/-- The tiles that intersect a rectangle, in order. -/
def tilesL (r : R) : List (Int × Int) := if emp r = true then [] else tls (tax r) (tay r) (tnx r) (tny r)
/-- The bounds under which the tiles of r are counted without overflow. -/
def Okr (r : R) : Prop := emp r = false → -1099511627776 ≤ flr r.x0 8 ∧ -1099511627776 ≤ flr r.y0 8 ∧ flr (wrap64 (r.x1 - 1)) 8 ≤ 1099511627776 ∧ flr (wrap64 (r.y1 - 1)) 8 ≤ 1099511627776 ∧ flr r.x0 8 ≤ flr (wrap64 (r.x1 - 1)) 8 ∧ flr r.y0 8 ≤ flr (wrap64 (r.y1 - 1)) 8
set_option maxRecDepth 100000 in
set_option maxHeartbeats 4000000 in
theorem tiles1_in (n : Nat) (hn : 1 ≤ n) (l b1 BO : Nat) (r : R) (hok : Okr r) (J Jx : List (Int × Int) → World → Prop)
    (hY : ∀ pre x W, J pre W → pre.length < (tilesL r).length → YieldAt Fence.wide (n - 1) Try.prog l #[.agg #[.int .i64 x.1, .int .i64 x.2]] W fun e W' =>
      (e = .returned (.bool true) ∧ J (pre ++ [x]) W' ∧ Gro BO W W') ∨ (e = .returned (.bool false) ∧ Jx (pre ++ [x]) W'))
    (W : World) (hA : BoxR W b1 r) (hBO : BO < W.heap.size) (hO : own BO W = none) (hJ : AbidesFrom W.heap.size J) (h0 : J [] W) :
    CallsIn Fence.wide n Try.prog 61 #[.func (.yield l) #[] #[], .pointer (some ⟨b1, 0, none⟩)] W fun e W' => (∃ v, e = .returned v) ∧
      ((∃ ys, ys = tilesL r ∧ J ys W') ∨ (∃ pre, pre <+: tilesL r ∧ Jx pre W')) := by
  have hea : emp ⟨r.x0, r.y0, r.x1, r.y1⟩ = emp r := rfl
  have a0 := hA.c0
  have a1 := hA.c1
  have a2 := hA.c2
  have a3 := hA.c3
  have hb1 := hA.lt
  refine callsIn_of_wp Try.func61 rfl trivial ?_ rfl
  simp only [Try.ntmps61, List.size_toArray, List.length_cons, List.length_nil, Nat.reduceAdd, Nat.reduceSub, Array.replicate_succ, Array.replicate_zero, List.push_toArray, List.append_toArray, List.nil_append, List.cons_append]
  cases he : emp r with
  | true =>
    clear hok
    rw [he] at hea
    have ht : tilesL r = [] := by unfold tilesL; rw [if_pos he]
    gi_wp2_with (refine ⟨trivial, ?_⟩; gi_at_call 22; refine (callsIn_wide.2 (empty_any _ _ _ _ _)).mono ?_; rintro e w2 ⟨rfl, rfl⟩)
    refine bodyPost_ret (results_none rfl _ _ _) rfl ?_
    exact ⟨⟨_, rfl⟩, .inl ⟨[], ht.symm, hJ _ _ _ none h0 (World.grownBy_alloc W _ none) (fun _ h => by cases h)⟩⟩
  | false =>
    obtain ⟨hax, hay, hbx, hby, hox, hoy⟩ := hok he
    clear hok
    rw [he] at hea
    have ht : tilesL r = tls (tax r) (tay r) (tnx r) (tny r) := by unfold tilesL; rw [if_neg (by simp [he])]
    gi_wp2_with (refine ⟨trivial, ?_⟩; gi_at_call 22; refine (callsIn_wide.2 (empty_any _ _ _ _ _)).mono ?_; rintro e w2 ⟨rfl, rfl⟩)
    have hA1 : BoxR (W.alloc (.cells #[.int .i64 r.x0, .int .i64 r.y0, .int .i64 r.x1, .int .i64 r.y1] 26)) b1 r := hA.alloc _
    obtain ⟨W0, hW0⟩ : ∃ W0, W.alloc (.cells #[.int .i64 r.x0, .int .i64 r.y0, .int .i64 r.x1, .int .i64 r.y1] 26) = W0 := ⟨_, rfl⟩
    have hB0 : Below W.heap.size W W0 := by rw [← hW0]; exact ball _ _
    rw [hW0] at hA1 ⊢
    refine wpIn_wide.2 ?_
    refine wp_region_invU (by kernel_rfl) (by kernel_rfl) (fun D a w => ∃ x, a = tact (.func (.yield l) #[] #[]) b1 (.agg #[.int .i64 r.x0, .int .i64 r.y0, .int .i64 r.x1, .int .i64 r.y1]) (.bool false) x ∧ TI W0 b1 r D x w) ?_ ?_ ?_
    · refine ⟨fun _ => undef, rfl, ⟨(Below.refl _ _).drew, ?_, ?_, ?_, ?_, ?_, ?_⟩⟩ <;> intros <;> contradiction
    · rintro D a w i o ho hDi hdeps ⟨x, rfl, hT⟩
      have hi : i < 18 := (List.getElem?_eq_some_iff.1 ho).1
      have hR : BoxR w b1 r := hA1.below hA1.lt hT.1
      have c0 := hR.c0
      have c1 := hR.c1
      have c2 := hR.c2
      have c3 := hR.c3
      obtain rfl | rfl | rfl | rfl | rfl | rfl | rfl | rfl | rfl | rfl | rfl | rfl | rfl | rfl | rfl | rfl | rfl | rfl : i = 0 ∨ i = 1 ∨ i = 2 ∨ i = 3 ∨ i = 4 ∨ i = 5 ∨ i = 6 ∨ i = 7 ∨ i = 8 ∨ i = 9 ∨ i = 10 ∨ i = 11 ∨ i = 12 ∨ i = 13 ∨ i = 14 ∨ i = 15 ∨ i = 16 ∨ i = 17 := by omega
      · simp only [List.getElem?_cons_zero, Option.some.injEq] at ho; subst ho
        refine op_val (v := tval b1 r 0) (w' := w) (by unfold tact; simp only [tval]; go_simp <;> first | rfl | (rw [IntKind.wrap_i64]; simp only [wrap64])) ?_
        exact ⟨upd x 0 (tval b1 r 0), tact_put _ _ _ _ _ 0 9 _ (by simp), hT.quiet 0 (by omega) (Below.refl _ _)⟩
      · simp only [List.getElem?_cons_succ, List.getElem?_cons_zero, Option.some.injEq] at ho; subst ho
        have d0 : x 0 = tval b1 r 0 := hT.2.1 0 (by omega) (hdeps ⟨0, .data⟩ (by simp) rfl)
        refine op_val (v := tval b1 r 1) (w' := w) (by unfold tact; simp only [d0]; simp only [tval]; go_simp <;> first | rfl | (rw [IntKind.wrap_i64]; simp only [wrap64])) ?_
        exact ⟨upd x 1 (tval b1 r 1), tact_put _ _ _ _ _ 1 10 _ (by simp), hT.quiet 1 (by omega) (Below.refl _ _)⟩
      · simp only [List.getElem?_cons_succ, List.getElem?_cons_zero, Option.some.injEq] at ho; subst ho
        refine op_val (v := tval b1 r 2) (w' := w) (by unfold tact; simp only [tval]; go_simp <;> first | rfl | (rw [IntKind.wrap_i64]; simp only [wrap64])) ?_
        exact ⟨upd x 2 (tval b1 r 2), tact_put _ _ _ _ _ 2 11 _ (by simp), hT.quiet 2 (by omega) (Below.refl _ _)⟩
      · simp only [List.getElem?_cons_succ, List.getElem?_cons_zero, Option.some.injEq] at ho; subst ho
        have d2 : x 2 = tval b1 r 2 := hT.2.1 2 (by omega) (hdeps ⟨2, .data⟩ (by simp) rfl)
        refine op_val (v := tval b1 r 3) (w' := w) (by unfold tact; simp only [d2]; simp only [tval]; go_simp <;> first | rfl | (rw [IntKind.wrap_i64]; simp only [wrap64])) ?_
        exact ⟨upd x 3 (tval b1 r 3), tact_put _ _ _ _ _ 3 12 _ (by simp), hT.quiet 3 (by omega) (Below.refl _ _)⟩
      · simp only [List.getElem?_cons_succ, List.getElem?_cons_zero, Option.some.injEq] at ho; subst ho
        have d1 : x 1 = tval b1 r 1 := hT.2.1 1 (by omega) (hdeps ⟨1, .data⟩ (by simp) rfl)
        have d3 : x 3 = tval b1 r 3 := hT.2.1 3 (by omega) (hdeps ⟨3, .data⟩ (by simp) rfl)
        refine op_val (v := tval b1 r 4) (w' := w) (by unfold tact; simp only [d1, d3]; simp only [tval]; go_simp <;> first | rfl | (rw [IntKind.wrap_i64]; simp only [wrap64])) ?_
        exact ⟨upd x 4 (tval b1 r 4), tact_put _ _ _ _ _ 4 13 _ (by simp), hT.quiet 4 (by omega) (Below.refl _ _)⟩
      · simp only [List.getElem?_cons_succ, List.getElem?_cons_zero, Option.some.injEq] at ho; subst ho
        have d4 : x 4 = tval b1 r 4 := hT.2.1 4 (by omega) (hdeps ⟨4, .data⟩ (by simp) rfl)
        refine op_call (f := 31) (args := #[tval b1 r 4]) (by unfold tact; simp only [d4]; go_simp <;> rfl) ((at_any _ _ _).mono ?_)
        rintro e w2 ⟨rfl, hB2⟩
        exact ⟨_, rfl, upd x 5 (tval b1 r 5), tact_put _ _ _ _ _ 5 14 _ (by simp), hT.quiet 5 (by omega) hB2⟩
      · simp only [List.getElem?_cons_succ, List.getElem?_cons_zero, Option.some.injEq] at ho; subst ho
        refine op_val (v := tval b1 r 6) (w' := w) (by unfold tact; simp only [tval]; go_simp <;> first | rfl | (rw [IntKind.wrap_i64]; simp only [wrap64])) ?_
        exact ⟨upd x 6 (tval b1 r 6), tact_put _ _ _ _ _ 6 15 _ (by simp), hT.quiet 6 (by omega) (Below.refl _ _)⟩
      · simp only [List.getElem?_cons_succ, List.getElem?_cons_zero, Option.some.injEq] at ho; subst ho
        have d6 : x 6 = tval b1 r 6 := hT.2.1 6 (by omega) (hdeps ⟨6, .data⟩ (by simp) rfl)
        refine op_val (v := tval b1 r 7) (w' := w) (by unfold tact; simp only [d6]; simp only [tval]; go_simp <;> first | rfl | (rw [IntKind.wrap_i64]; simp only [wrap64])) ?_
        exact ⟨upd x 7 (tval b1 r 7), tact_put _ _ _ _ _ 7 16 _ (by simp), hT.quiet 7 (by omega) (Below.refl _ _)⟩
      · simp only [List.getElem?_cons_succ, List.getElem?_cons_zero, Option.some.injEq] at ho; subst ho
        have d7 : x 7 = tval b1 r 7 := hT.2.1 7 (by omega) (hdeps ⟨7, .data⟩ (by simp) rfl)
        refine op_val (v := tval b1 r 8) (w' := w) (by unfold tact; simp only [d7]; simp only [tval]; go_simp <;> first | rfl | (rw [IntKind.wrap_i64]; simp only [wrap64])) ?_
        exact ⟨upd x 8 (tval b1 r 8), tact_put _ _ _ _ _ 8 17 _ (by simp), hT.quiet 8 (by omega) (Below.refl _ _)⟩
      · simp only [List.getElem?_cons_succ, List.getElem?_cons_zero, Option.some.injEq] at ho; subst ho
        refine op_val (v := tval b1 r 9) (w' := w) (by unfold tact; simp only [tval]; go_simp <;> first | rfl | (rw [IntKind.wrap_i64]; simp only [wrap64])) ?_
        exact ⟨upd x 9 (tval b1 r 9), tact_put _ _ _ _ _ 9 18 _ (by simp), hT.quiet 9 (by omega) (Below.refl _ _)⟩
      · simp only [List.getElem?_cons_succ, List.getElem?_cons_zero, Option.some.injEq] at ho; subst ho
        have d9 : x 9 = tval b1 r 9 := hT.2.1 9 (by omega) (hdeps ⟨9, .data⟩ (by simp) rfl)
        refine op_val (v := tval b1 r 10) (w' := w) (by unfold tact; simp only [d9]; simp only [tval]; go_simp <;> first | rfl | (rw [IntKind.wrap_i64]; simp only [wrap64])) ?_
        exact ⟨upd x 10 (tval b1 r 10), tact_put _ _ _ _ _ 10 19 _ (by simp), hT.quiet 10 (by omega) (Below.refl _ _)⟩
      · simp only [List.getElem?_cons_succ, List.getElem?_cons_zero, Option.some.injEq] at ho; subst ho
        have d10 : x 10 = tval b1 r 10 := hT.2.1 10 (by omega) (hdeps ⟨10, .data⟩ (by simp) rfl)
        refine op_val (v := tval b1 r 11) (w' := w) (by unfold tact; simp only [d10]; simp only [tval]; go_simp <;> first | rfl | (rw [IntKind.wrap_i64]; simp only [wrap64])) ?_
        exact ⟨upd x 11 (tval b1 r 11), tact_put _ _ _ _ _ 11 20 _ (by simp), hT.quiet 11 (by omega) (Below.refl _ _)⟩
      · simp only [List.getElem?_cons_succ, List.getElem?_cons_zero, Option.some.injEq] at ho; subst ho
        have d8 : x 8 = tval b1 r 8 := hT.2.1 8 (by omega) (hdeps ⟨8, .data⟩ (by simp) rfl)
        have d11 : x 11 = tval b1 r 11 := hT.2.1 11 (by omega) (hdeps ⟨11, .data⟩ (by simp) rfl)
        refine op_val (v := tval b1 r 12) (w' := w) (by unfold tact; simp only [d8, d11]; simp only [tval]; go_simp <;> first | rfl | (rw [IntKind.wrap_i64]; simp only [wrap64])) ?_
        exact ⟨upd x 12 (tval b1 r 12), tact_put _ _ _ _ _ 12 21 _ (by simp), hT.quiet 12 (by omega) (Below.refl _ _)⟩
      · simp only [List.getElem?_cons_succ, List.getElem?_cons_zero, Option.some.injEq] at ho; subst ho
        have d12 : x 12 = tval b1 r 12 := hT.2.1 12 (by omega) (hdeps ⟨12, .data⟩ (by simp) rfl)
        refine op_call (f := 31) (args := #[tval b1 r 12]) (by unfold tact; simp only [d12]; go_simp <;> rfl) ((at_any _ _ _).mono ?_)
        rintro e w2 ⟨rfl, hB2⟩
        exact ⟨_, rfl, upd x 13 (tval b1 r 13), tact_put _ _ _ _ _ 13 22 _ (by simp), hT.quiet 13 (by omega) hB2⟩
      · simp only [List.getElem?_cons_succ, List.getElem?_cons_zero, Option.some.injEq] at ho; subst ho
        refine op_val (v := .pointer (some ⟨w.heap.size, 0, none⟩)) (w' := w.alloc (.cells #[.int .i64 0, .int .i64 0] 31)) (by unfold tact; go_simp <;> rfl) ?_
        exact ⟨_, tact_put _ _ _ _ _ 14 3 _ (by simp), hT.alloc3 hDi⟩
      · simp only [List.getElem?_cons_succ, List.getElem?_cons_zero, Option.some.injEq] at ho; subst ho
        refine op_val (v := .pointer (some ⟨w.heap.size, 0, none⟩)) (w' := w.alloc (.cells #[.int .i64 0, .int .i64 0] 31)) (by unfold tact; go_simp <;> rfl) ?_
        exact ⟨_, tact_put _ _ _ _ _ 15 4 _ (by simp), hT.alloc4 hDi⟩
      · simp only [List.getElem?_cons_succ, List.getElem?_cons_zero, Option.some.injEq] at ho; subst ho
        have dD : D 14 = true := hdeps ⟨14, .data⟩ (by simp) rfl
        have dv : x 5 = tval b1 r 5 := hT.2.1 5 (by omega) (hdeps ⟨5, .data⟩ (by simp) rfl)
        obtain ⟨bb, q1, q2, q3, q4, q5⟩ := hT.2.2.1 dD
        refine wp_store_row 31 _ _ rfl bb #[.int .i64 (flr r.x0 8), .int .i64 (flr r.y0 8)] q1 dv 31 _ (q4 hDi) (show (Try.prog.info? 31).map (·.size) = some 2 by kernel_rfl) rfl (by simp [Value.oneCell']) ?_
        exact ⟨x, rfl, hT.store3 hDi dD bb q1⟩
      · simp only [List.getElem?_cons_succ, List.getElem?_cons_zero, Option.some.injEq] at ho; subst ho
        have dD : D 15 = true := hdeps ⟨15, .data⟩ (by simp) rfl
        have dv : x 13 = tval b1 r 13 := hT.2.1 13 (by omega) (hdeps ⟨13, .data⟩ (by simp) rfl)
        obtain ⟨bb, q1, q2, q3, q4, q5⟩ := hT.2.2.2.1 dD
        refine wp_store_row 31 _ _ rfl bb #[.int .i64 (flr (wrap64 (r.x1 - 1)) 8), .int .i64 (flr (wrap64 (r.y1 - 1)) 8)] q1 dv 31 _ (q4 hDi) (show (Try.prog.info? 31).map (·.size) = some 2 by kernel_rfl) rfl (by simp [Value.oneCell']) ?_
        exact ⟨x, rfl, hT.store4 hDi dD bb q1⟩
    · rintro D a w hD ⟨x, rfl, hT⟩
      have hall := all_done (by kernel_rfl) hD
      obtain ⟨hW, hv, h14, h15, hne, _, _⟩ := hT
      obtain ⟨b3, q3, k3, m3, _, B3⟩ := h14 (hall 14 (by simp))
      obtain ⟨b4, q4, k4, m4, _, B4⟩ := h15 (hall 15 (by simp))
      have B3 := B3 (hall 16 (by simp))
      have B4 := B4 (hall 17 (by simp))
      have d0 := hv 0 (by omega) (hall 0 (by simp))
      have d1 := hv 1 (by omega) (hall 1 (by simp))
      have d2 := hv 2 (by omega) (hall 2 (by simp))
      have d3 := hv 3 (by omega) (hall 3 (by simp))
      have d4 := hv 4 (by omega) (hall 4 (by simp))
      have d5 := hv 5 (by omega) (hall 5 (by simp))
      have d6 := hv 6 (by omega) (hall 6 (by simp))
      have d7 := hv 7 (by omega) (hall 7 (by simp))
      have d8 := hv 8 (by omega) (hall 8 (by simp))
      have d9 := hv 9 (by omega) (hall 9 (by simp))
      have d10 := hv 10 (by omega) (hall 10 (by simp))
      have d11 := hv 11 (by omega) (hall 11 (by simp))
      have d12 := hv 12 (by omega) (hall 12 (by simp))
      have d13 := hv 13 (by omega) (hall 13 (by simp))
      simp only [tval] at d0 d1 d2 d3 d4 d5 d6 d7 d8 d9 d10 d11 d12 d13
      unfold tact
      simp only [q3, q4, d0, d1, d2, d3, d4, d5, d6, d7, d8, d9, d10, d11, d12, d13]
      have e30 : w.cell? ⟨b3, 0, none⟩ = some (.int .i64 (flr r.x0 8)) := by simp [World.cell?, show w.heap[b3]? = _ from B3]
      have e31 : w.cell? ⟨b3, 1, none⟩ = some (.int .i64 (flr r.y0 8)) := by simp [World.cell?, show w.heap[b3]? = _ from B3]
      have e40 : w.cell? ⟨b4, 0, none⟩ = some (.int .i64 (flr (wrap64 (r.x1 - 1)) 8)) := by simp [World.cell?, show w.heap[b4]? = _ from B4]
      have e41 : w.cell? ⟨b4, 1, none⟩ = some (.int .i64 (flr (wrap64 (r.y1 - 1)) 8)) := by simp [World.cell?, show w.heap[b4]? = _ from B4]
      have hcx : flr (wrap64 (r.x1 - 1)) 8 - flr r.x0 8 + 1 = ((tnx r : Nat) : Int) := by unfold tnx; omega
      have hcy : flr (wrap64 (r.y1 - 1)) 8 - flr r.y0 8 + 1 = ((tny r : Nat) : Int) := by unfold tny; omega
      have hnx : ((tnx r : Nat) : Int) ≤ 2199023255553 := by unfold tnx; omega
      have hny : ((tny r : Nat) : Int) ≤ 2199023255553 := by unfold tny; omega
      have hWw : Below W.heap.size W w := bt hB0 hW
      have hOw : own BO w = none := by
        rw [← hO]; unfold own; rw [World.cell?_of_block (a := ⟨BO, 0, none⟩) (hWw.block BO hBO)]
      have hJw : J (tls (tax r) (tay r) (tnx r) 0) w := hJ _ _ _ none h0 ⟨hWw.os, hWw.tape, hWw.output, hWw.size, fun k hk _ => hWw.block k hk⟩ (fun _ h => by cases h)
      have hs0 := hB0.size
      gi_wp2
      gi_loopw [29] (fun p wr => ∃ j : Nat, p = .int .i64 (j : Int) ∧ j ≤ tny r ∧ J (tls (tax r) (tay r) (tnx r) j) wr ∧ Gro BO w wr) (fun p _ => tny r - (intOf p).toNat)
      case atStart => exact ⟨0, rfl, by omega, hJw, Gro.refl _ _⟩
      case round =>
        obtain ⟨j, rfl, hj, hJj, hGj⟩ := hrel
        have B3j := hGj.same b3 _ B3 rfl (by omega) (by rw [hOw]; simp)
        have B4j := hGj.same b4 _ B4 rfl (by omega) (by rw [hOw]; simp)
        have e30 : wr.cell? ⟨b3, 0, none⟩ = some (.int .i64 (flr r.x0 8)) := by simp [World.cell?, B3j]
        have e40 : wr.cell? ⟨b4, 0, none⟩ = some (.int .i64 (flr (wrap64 (r.x1 - 1)) 8)) := by simp [World.cell?, B4j]
        by_cases hlt : j < tny r
        · have hlt' : (j : Int) < ((tny r : Nat) : Int) := by omega
          gi_wp2
          gi_loopw [38] (fun p w2 => ∃ i : Nat, p = .int .i64 (i : Int) ∧ i ≤ tnx r ∧ J (tls (tax r) (tay r) (tnx r) j ++ row (tax r) (tay r + (j : Int)) i) w2 ∧ Gro BO w w2) (fun p _ => tnx r - (intOf p).toNat)
          case atStart => exact ⟨0, rfl, by omega, by simpa [row] using hJj, hGj⟩
          case round =>
            obtain ⟨i, rfl, hi, hJi, hGi⟩ := hrel
            have B3i := hGi.same b3 _ B3 rfl (by omega) (by rw [hOw]; simp)
            have e30 : wr.cell? ⟨b3, 0, none⟩ = some (.int .i64 (flr r.x0 8)) := by simp [World.cell?, B3i]
            have e31 : wr.cell? ⟨b3, 1, none⟩ = some (.int .i64 (flr r.y0 8)) := by simp [World.cell?, B3i]
            by_cases hli : i < tnx r
            · have hli' : (i : Int) < ((tnx r : Nat) : Int) := by omega
              obtain ⟨fn, tmps, assign, body, hy, hR⟩ := hY _ (tax r + (i : Int), tay r + (j : Int)) wr hJi (by
                rw [ht]
                have := (tls_at (tax r) (tay r) (nx := tnx r) (ny := tny r) (i := i + 1) (j := j) (by omega) hlt).length_le
                rw [row_succ] at this
                simp only [List.length_append, List.length_singleton] at this ⊢
                omega)
              simp only [tax, tay] at hy
              gi_wp2
              have hpre : tls (tax r) (tay r) (tnx r) j ++ row (tax r) (tay r + (j : Int)) i ++ [(tax r + (i : Int), tay r + (j : Int))] <+: tilesL r := by
                rw [ht, List.append_assoc, ← row_succ]
                exact tls_at (tax r) (tay r) (nx := tnx r) (ny := tny r) (i := i + 1) (j := j) (by omega) hlt
              refine hR.mono ?_
              rintro e W3 (⟨rfl, hJ3, hk3⟩ | ⟨rfl, hJx3⟩)
              · gi_wp2
                refine ⟨⟨i + 1, by simp, by omega, by rw [row_succ, ← List.append_assoc]; exact hJ3, hGi.trans hk3⟩, ?_⟩
                simp only [intOf]
                omega
              · gi_wp2
                refine bodyPost_ret (results_none rfl _ _ _) rfl ?_
                exact ⟨⟨_, rfl⟩, .inr ⟨_, hpre, hJx3⟩⟩
            · have hli' : ((tnx r : Nat) : Int) ≤ (i : Int) := by omega
              gi_wp2
              obtain rfl : i = tnx r := by omega
              refine ⟨⟨j + 1, by simp, by omega, by rw [tls_succ]; exact hJi, hGi⟩, ?_⟩
              simp only [intOf]
              omega
        · have hlt' : ((tny r : Nat) : Int) ≤ (j : Int) := by omega
          gi_wp2
          obtain rfl : j = tny r := by omega
          go_end0
          exact ⟨⟨_, rfl⟩, .inl ⟨_, rfl, by rw [ht]; exact hJj⟩⟩
end Go.Proofs.Ytplnhmfkflnhpaa
