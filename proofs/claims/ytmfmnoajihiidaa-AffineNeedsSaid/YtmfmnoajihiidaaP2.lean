/- The rule for Bounds' region of two appends. Printed by genP2.py. -/
import Derived.Test.YtmfmnoajihiidaaP
set_option linter.unusedVariables false
namespace Go.Proofs.Ytmfmnoajihiidaa
open Go.RowKit
def sp (j : Nat) : Bool := j == 15 || j == 16 || j == 34 || j == 32 || j == 33 || j == 35
theorem own_slice {x : World} {R n : Nat} {v : Value} {xs : List Value} (h : x.ownsRow R 3 1 v n xs) : ∃ p n m, v = .slice p n m := by
  rcases h.2 with ⟨rfl, _⟩ | ⟨g, cap, cur, rfl, _⟩
  · exact ⟨_, _, _, rfl⟩
  · exact ⟨_, _, _, rfl⟩
theorem wp_region_two {id : Nat} {l : List Oper} {a : Act} {w : World} {Q : Exit → Act → World → Prop} (lit : (Nat → Value) → Act) (hlit : ∀ u, fill l u a = lit u) (hm : Try.prog.follows .mixedOrders = true) (hL : lowers l.toArray = true) (hd : distinct l = true) (hg : (l.all fun o => o.guard.isNone) = true) (hlen : l.length = 36)
    (V : Nat → Value) (Pt : Nat → Prop) (R b1 : Nat) (v1 : Value) (l1 : List Value) (U1 : Value) (b2 : Nat) (v2 : Value) (l2 : List Value) (U2 : Value)
    (hU1 : U1.oneCell' = true) (hU2 : U2.oneCell' = true) (hl1 : l1.length ≤ 100) (hl2 : l2.length ≤ 100)
    (hinfo : (Try.prog.info? 3).map (fun i => (i.zero, i.size, i.bytes)) = some (some (.int .i64 0), 1, 8)) (ht : Try.prog.underlying 83 = some (.slice 3))
    (h0 : ∀ p q r s, Two w.drew Pt R b1 v1 l1 U1 false false false p q b2 v2 l2 U2 false false false r s w.drew)
    (hstep : ∀ i o, l[i]? = some o → sp i = false → ∀ u x, (∀ k, Pt k → x.heap[k]? = w.drew.heap[k]?) → (i = 0 → x.heap[b1]? = some (.cells #[v1] 83 (0, 0))) → (i = 17 → x.heap[b2]? = some (.cells #[v2] 83 (0, 0))) → (∀ j, waitsOn o j = true → sp j = false → u j = V j) → (execOp (lit u).eval o).run Try.prog x = .ok (.value (V i)) x)
    (h15 : ∀ o, l[15]? = some o → ∀ u x, (∀ j, waitsOn o j = true → sp j = false → u j = V j) → (execOp (lit u).eval o).run Try.prog x = .ok (.value (.slice (some ⟨x.heap.size, 0, none⟩) 1 1)) (x.alloc (.cells #[U1] 3 (0, 0))))
    (h16 : ∀ o, l[16]? = some o → waitsOn o 15 = true ∧ waitsOn o 0 = true ∧ ∃ ty, ∀ u x v' x', (∀ j, waitsOn o j = true → sp j = false → u j = V j) → (Builtin.append_ #[83, 83] ty #[v1, u 15]).run Try.prog x = .ok v' x' → (execOp (lit u).eval o).run Try.prog x = .ok (.value v') x')
    (h34 : ∀ o, l[34]? = some o → waitsOn o 16 = true ∧ ∀ u x c, (∃ p n m, u 16 = .slice p n m) → x.heap[b1]? = some (.cells #[c] 83 (0, 0)) → (execOp (lit u).eval o).run Try.prog x = .ok .skip (x.setCell ⟨b1, 0, none⟩ (u 16)))
    (h32 : ∀ o, l[32]? = some o → ∀ u x, (∀ j, waitsOn o j = true → sp j = false → u j = V j) → (execOp (lit u).eval o).run Try.prog x = .ok (.value (.slice (some ⟨x.heap.size, 0, none⟩) 1 1)) (x.alloc (.cells #[U2] 3 (0, 0))))
    (h33 : ∀ o, l[33]? = some o → waitsOn o 32 = true ∧ waitsOn o 17 = true ∧ ∃ ty, ∀ u x v' x', (∀ j, waitsOn o j = true → sp j = false → u j = V j) → (Builtin.append_ #[83, 83] ty #[v2, u 32]).run Try.prog x = .ok v' x' → (execOp (lit u).eval o).run Try.prog x = .ok (.value v') x')
    (h35 : ∀ o, l[35]? = some o → waitsOn o 33 = true ∧ ∀ u x c, (∃ p n m, u 33 = .slice p n m) → x.heap[b2]? = some (.cells #[c] 83 (0, 0)) → (execOp (lit u).eval o).run Try.prog x = .ok .skip (x.setCell ⟨b2, 0, none⟩ (u 33)))
    (hend : ∀ u x, Two w.drew Pt R b1 v1 l1 U1 (true) (true) (true) (u 15) (u 16) b2 v2 l2 U2 (true) (true) (true) (u 32) (u 33) x → Q .normal (lit u) x) : (Code.region id l.toArray true).wp Try.prog Q a w := by
  refine wp_region_invL lit hlit hm hL hd hg (fun D u x => (∀ j, D j = true → sp j = false → u j = V j) ∧ (D 16 = true → D 0 = true) ∧ (D 33 = true → D 17 = true) ∧ Two w.drew Pt R b1 v1 l1 U1 (D 15) (D 16) (D 34) (u 15) (u 16) b2 v2 l2 U2 (D 32) (D 33) (D 35) (u 32) (u 33) x) ?_ ?_ ?_
  · intro u
    exact ⟨fun j (h : false = true) => Bool.noConfusion h, fun (h : false = true) => Bool.noConfusion h, fun (h : false = true) => Bool.noConfusion h, h0 _ _ _ _⟩
  · rintro D u x i o ho hDi hdep ⟨hV, hA, hB, hT⟩
    have hv : ∀ j, waitsOn o j = true → sp j = false → u j = V j := fun j hj hs => hV j (hdep j hj) hs
    have hil : i < 36 := by rw [← hlen]; exact (List.getElem?_eq_some_iff.1 ho).1
    have hVs : ∀ v, (sp i = false → v = V i) → ∀ j, (if j = i then true else D j) = true → sp j = false → updv u i v j = V j := by
      intro v hv' j hj hs
      unfold updv
      by_cases e : j = i
      · rw [if_pos e, e]; exact hv' (e ▸ hs)
      · rw [if_neg e] at hj ⊢; exact hV j hj hs
    have keep : ∀ p q : Nat, (D p = true → D q = true) → i ≠ p → ((if p = i then true else D p) = true → (if q = i then true else D q) = true) := by
      intro p q h hp h1
      rw [if_neg (Ne.symm hp)] at h1
      by_cases e : q = i
      · rw [if_pos e]
      · rw [if_neg e]; exact h h1
    by_cases hs : sp i = true
    · have hi6 : i = 15 ∨ i = 16 ∨ i = 34 ∨ i = 32 ∨ i = 33 ∨ i = 35 := by
        unfold sp at hs
        simp only [Bool.or_eq_true, beq_iff_eq] at hs
        omega
      rcases hi6 with rfl | rfl | rfl | rfl | rfl | rfl
      · refine iv_val (h15 o ho u x hv) ⟨hVs _ (fun e => absurd e (by decide)), keep 16 0 hA (by decide), keep 33 17 hB (by decide), ?_⟩
        rw [hDi] at hT
        exact hT.build
      · obtain ⟨w1, w2, ty, hr⟩ := h16 o ho
        have hd1 := hdep _ w1
        have hd2 := hdep _ w2
        rw [hDi, hd1] at hT
        obtain ⟨v', x', hrun, hT'⟩ := hT.app hU1 hl1 hinfo ht ty
        refine iv_val (hr u x v' x' hv hrun) ⟨hVs _ (fun e => absurd e (by decide)), ?_, keep 33 17 hB (by decide), ?_⟩
        · intro _
          exact hd2
        · show Two w.drew Pt R b1 v1 l1 U1 (D 15) true (D 34) (u 15) v' b2 v2 l2 U2 (D 32) (D 33) (D 35) (u 32) (u 33) x'
          rw [hd1]
          exact hT'
      · obtain ⟨w1, hr⟩ := h34 o ho
        have hd1 := hdep _ w1
        rw [hDi, hd1] at hT
        refine iv_skip (hr u x _ (own_slice hT.c1.own) hT.c1.var) ⟨hVs _ (fun e => absurd e (by decide)), keep 16 0 hA (by decide), keep 33 17 hB (by decide), ?_⟩
        show Two w.drew Pt R b1 v1 l1 U1 (D 15) (D 16) true (u 15) (u 16) b2 v2 l2 U2 (D 32) (D 33) (D 35) (u 32) (u 33) _
        rw [hd1]
        exact hT.store
      · refine iv_val (h32 o ho u x hv) ⟨hVs _ (fun e => absurd e (by decide)), keep 16 0 hA (by decide), keep 33 17 hB (by decide), ?_⟩
        rw [hDi] at hT
        exact hT.swap.build.swap
      · obtain ⟨w1, w2, ty, hr⟩ := h33 o ho
        have hd1 := hdep _ w1
        have hd2 := hdep _ w2
        rw [hDi, hd1] at hT
        obtain ⟨v', x', hrun, hT'⟩ := hT.swap.app hU2 hl2 hinfo ht ty
        refine iv_val (hr u x v' x' hv hrun) ⟨hVs _ (fun e => absurd e (by decide)), keep 16 0 hA (by decide), ?_, ?_⟩
        · intro _
          exact hd2
        · show Two w.drew Pt R b1 v1 l1 U1 (D 15) (D 16) (D 34) (u 15) (u 16) b2 v2 l2 U2 (D 32) true (D 35) (u 32) v' x'
          rw [hd1]
          exact hT'.swap
      · obtain ⟨w1, hr⟩ := h35 o ho
        have hd1 := hdep _ w1
        rw [hDi, hd1] at hT
        refine iv_skip (hr u x _ (own_slice hT.c2.own) hT.c2.var) ⟨hVs _ (fun e => absurd e (by decide)), keep 16 0 hA (by decide), keep 33 17 hB (by decide), ?_⟩
        show Two w.drew Pt R b1 v1 l1 U1 (D 15) (D 16) (D 34) (u 15) (u 16) b2 v2 l2 U2 (D 32) (D 33) true (u 32) (u 33) _
        rw [hd1]
        exact hT.swap.store.swap
    · have hs' : sp i = false := by simpa using hs
      have ne : ∀ p, sp p = true → ¬ p = i := fun p hp e => by rw [e] at hp; rw [hp] at hs'; cases hs'
      refine iv_val (hstep i o ho hs' u x hT.frame.2.2.2.2 ?_ ?_ hv) ⟨hVs _ (fun _ => rfl), keep 16 0 hA (fun e => hs (e ▸ rfl)), keep 33 17 hB (fun e => hs (e ▸ rfl)), ?_⟩
      · rintro rfl
        have h34 : D 34 = false := by
          cases hc : D 34 with
          | false => rfl
          | true => exact absurd (hA (hT.c1.o2 hc)) (by rw [hDi]; simp)
        have := hT.c1.var
        rw [h34] at this
        exact this
      · rintro rfl
        have h35 : D 35 = false := by
          cases hc : D 35 with
          | false => rfl
          | true => exact absurd (hB (hT.c2.o2 hc)) (by rw [hDi]; simp)
        have := hT.c2.var
        rw [h35] at this
        exact this
      · show Two w.drew Pt R b1 v1 l1 U1 (if 15 = i then true else D 15) (if 16 = i then true else D 16) (if 34 = i then true else D 34) (updv u i (V i) 15) (updv u i (V i) 16) b2 v2 l2 U2 (if 32 = i then true else D 32) (if 33 = i then true else D 33) (if 35 = i then true else D 35) (updv u i (V i) 32) (updv u i (V i) 33) x
        unfold updv
        rw [if_neg (ne 15 rfl), if_neg (ne 16 rfl), if_neg (ne 34 rfl), if_neg (ne 32 rfl), if_neg (ne 33 rfl), if_neg (ne 35 rfl), if_neg (ne 15 rfl), if_neg (ne 16 rfl), if_neg (ne 32 rfl), if_neg (ne 33 rfl)]
        exact hT
  · rintro D u x hD ⟨hV, hA, hB, hT⟩
    rw [hD 15 (by omega), hD 16 (by omega), hD 34 (by omega), hD 32 (by omega), hD 33 (by omega), hD 35 (by omega)] at hT
    exact hend u x hT
end Go.Proofs.Ytmfmnoajihiidaa
