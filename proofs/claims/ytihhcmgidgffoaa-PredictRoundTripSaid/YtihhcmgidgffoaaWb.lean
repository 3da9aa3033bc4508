/- Walk of the law PredictCost of layer 10: it returns true and writes nothing that was there. The condition on a string is the row's own reach (at most 2^47 - 4096 bytes). -/
import Derived.Test.YtihhcmgidgffoaaG
set_option linter.unusedVariables false
namespace Go.Proofs.Ytihhcmgidgffoaa
open Go.RowKit
namespace predictCost
theorem own_empty {B : Nat} (w : World) (h : B ≤ w.heap.size) : (w.alloc (.cells #[] 5)).ownsRow B 5 1 (.slice (some ⟨w.heap.size, 0, none⟩) 0 0) 0 (bvals []) :=
  ⟨rfl, .inr ⟨w.heap.size, 0, #[], rfl, h, heap_alloc_new _ _, Nat.le_refl _, Nat.zero_le _, rfl, rfl⟩⟩
section
variable {P : Program}
/-- 'v = append(v, u)' of one value of one cell, v nil or of the call's own. -/
theorem wp_push1 {ops : Array Oper} {rest : List Oper} {o : Oper} {a : Act} {Q : Exit → Act → World → Prop} (w : World) (hgd : o.guard = none) (s x : Operand) (t e : TypeId)
    (ho : o.op = .call { callee := .builtin .append, args := #[s, x], argTypes := #[t, t] }) (ht : P.underlying t = some (.slice e))
    (z : Value) (bytes : Nat) (hinfo : (P.info? e).map (fun i => (i.zero, i.size, i.bytes)) = some (some z, 1, bytes)) (hz : z.cells.size = 1)
    (base : Nat) (v : Value) (n : Nat) (xs : List Value) (hs : a.eval s = v) (hown : w.ownsRow base e 1 v n xs)
    (u : Value) (fr : Nat × Nat) (hx : a.eval x = .slice (some ⟨w.heap.size, 0, none⟩) 1 1) (hu : u.oneCell' = true)
    (hlen : n + 1 ≤ 9223372036854775807) (hby : (n + 1) * bytes ≤ 140737488355328) (hbase : base ≤ w.heap.size)
    (h : ∀ v' w', w'.ownsRow base e 1 v' (n + 1) (xs ++ [u]) → Below base w w' → w.heap.size < w'.heap.size → wpList P ops Q rest (a.put o.dst v') w') :
    wpList P ops Q (o :: rest) a (w.alloc (.cells #[u] e fr)) := by
  obtain ⟨i0, hi, hz0, hz1, hz2⟩ := info_parts hinfo
  refine wpList_append_own _ hgd s x t ho base e i0 z 1 bytes ht hi hz0 hz1 hz2 hz (by decide) v n xs hs (hown.alloc _) ⟨w.heap.size, 0, none⟩ 1 1 [u] hx rfl ?_ ?_ ?_ hby ?_ ?_
  · intro j u' hj
    match j, hj with
    | 0, hj =>
      simp at hj
      subst hj
      have : (⟨w.heap.size, 0, none⟩ : Addr).add 0 = ⟨w.heap.size, 0, none⟩ := by unfold Addr.add; split <;> simp_all
      rw [this, World.cell?_alloc_mark]; rfl
  · intro u' h'
    simp at h'
    subst h'; exact hu
  · unfold maxLen; omega
  · rw [World.size_alloc]; omega
  · intro v' w' hown' hg hnil
    have hsz := hg.size
    rw [World.size_alloc] at hsz
    refine h v' w' hown' ?_ (by omega)
    refine ((Below.refl base w).alloc hbase _).grown hg (by rw [World.size_alloc]; omega) fun k hk => ?_
    exact (hown.lt k hk).1
end
theorem drop_step (t : ByteArray) (k : Nat) (h : k < t.size) : (t.data.toList.drop k).reverse = (t.data.toList.drop (k + 1)).reverse ++ [t[k]] := by
  rw [List.drop_eq_getElem_cons (by simpa using h), List.reverse_cons]; rfl
/-- Are all bytes from place k on zero? -/
def zb (t : ByteArray) (k : Nat) : Bool := (t.data.toList.drop k).all (· == 0)
theorem zb_step (t : ByteArray) (k : Nat) (h : k < t.size) : zb t k = (zb t (k + 1) && (t[k] == 0)) := by
  unfold zb
  rw [List.drop_eq_getElem_cons (by simpa using h), List.all_cons, Bool.and_comm]; rfl
theorem zb_end (t : ByteArray) : zb t t.size = true := by
  unfold zb
  rw [List.drop_of_length_le (by rw [Array.length_toList]; exact Nat.le_refl _)]; rfl
theorem zb_zero (t : ByteArray) : zb t 0 = decide (M.cost t.data.toList = 0) := by
  rw [Bool.eq_iff_iff, decide_eq_true_eq, M.cost_zero]
  unfold zb
  rw [List.drop_zero, List.all_eq_true]
  simp
theorem cost_cat (s t : ByteArray) : (((M.cost s.data.toList : Nat) : Int) + ((M.cost t.data.toList : Nat) : Int)) = ((M.cost (s ++ t).data.toList : Nat) : Int) := by
  have : (s ++ t).data.toList = s.data.toList ++ t.data.toList := by simp
  rw [this, M.cost_append]; omega

theorem own_keep {w w1 : World} {B e n : Nat} {v : Value} {xs : List Value} (h : w.ownsRow B e 1 v n xs) (hb : Below w.heap.size w w1) : w1.ownsRow B e 1 v n xs := by
  obtain ⟨h1, h2 | ⟨g, cap, cur, e1, e2, e3, e4, e5, e6, e7⟩⟩ := h
  · exact ⟨h1, .inl h2⟩
  · exact ⟨h1, .inr ⟨g, cap, cur, e1, e2, by rw [hb.block g (lt_of_heap e3)]; exact e3, e4, e5, e6, e7⟩⟩
theorem str_cost (l : List UInt8) : (M.cost (⟨l.reverse.toArray⟩ : ByteArray).data.toList) = M.cost l := M.cost_reverse l

theorem fin_zero (t : ByteArray) (c : Int) (h : c = ((M.cost t.data.toList : Nat) : Int)) : ((c == 0) == zb t 0) = true := by
  rw [h, zb_zero]
  generalize M.cost t.data.toList = n
  by_cases e : n = 0
  · subst e; rfl
  · have : ((n : Int) == 0) = false := by rw [beq_eq_false_iff_ne]; omega
    rw [this]; simp [e]

set_option maxRecDepth 100000 in
set_option maxHeartbeats 800000 in
theorem walk (a0 a1 : ByteArray) (w : World) (z0 : a0.size ≤ 140737488351232) (z1 : a1.size ≤ 140737488351232) :
    Calls Try.prog 3 #[.string a0, .string a1] w fun e w' => e = .returned (.bool true) ∧ Below w.heap.size w w' := by
  go_enter Try.func3, Try.ntmps3
  go_wp2_with fail
  refine (sanity_any _).mono ?_
  rintro e x1 ⟨rfl, b1⟩
  go_wp2_with fail
  have hs1 := b1.size
  go_loopw [6, 7, 8] (fun v z i wr => ∃ m : Nat, m ≤ a0.size ∧ i = .int .i64 ((m : Int) - 1) ∧ z = .bool (zb a0 m) ∧ wr.ownsRow w.heap.size 5 1 v (a0.size - m) (bvals (a0.data.toList.drop m).reverse) ∧ Below w.heap.size w wr) (fun _ _ i _ => (intOf i + 1).toNat)
  case atStart =>
    refine ⟨a0.size, Nat.le_refl _, by first | rfl | go_num, by rw [zb_end], ?_, b1.alloc b1.size _⟩
    rw [Nat.sub_self, List.drop_of_length_le (by rw [Array.length_toList]; exact Nat.le_refl _)]
    exact own_empty x1 b1.size
  case round =>
    obtain ⟨m, hm, rfl, rfl, hown, hb⟩ := hrel
    clear b1 hs1
    have hsz := hb.size
    by_cases h0 : m = 0
    · subst h0
      go_wp2_with fail
      rw [Nat.sub_zero, List.drop_zero] at hown
      obtain ⟨c0, h0⟩ : ∃ c : Int, c = ((M.cost a0.data.toList : Nat) : Int) := ⟨_, rfl⟩
      obtain ⟨c1, h1⟩ : ∃ c : Int, c = ((M.cost a1.data.toList : Nat) : Int) := ⟨_, rfl⟩
      have hw : wrap64 (c0 + c1) = c0 + c1 := by
        have := M.cost_le a0.data.toList
        have := M.cost_le a1.data.toList
        have e0 : a0.data.toList.length = a0.size := Array.length_toList
        have e1 : a1.data.toList.length = a1.size := Array.length_toList
        exact IntWalk.wrap64_in _ ⟨by omega, by omega⟩
      have H0 := Lib.hid h0
      have H1 := Lib.hid h1
      clear h0 h1
      refine (cost_any a0 _ (by omega) c0 H0.out).mono ?_
      rintro e x2 ⟨rfl, b2⟩
      replace hown := own_keep hown b2
      replace b2 := bt hb b2
      clear hb hsz
      go_wp2_with fail
      refine (cost_ref a0 _ (by omega) c0 H0.out).mono ?_
      rintro e x3 ⟨rfl, b3⟩
      replace hown := own_keep hown b3
      replace b2 := bt b2 b3
      clear b3
      go_wp2_with fail
      refine (cost_any (a0 ++ a1) _ (by rw [ByteArray.size_append]; omega) (c0 + c1) (by rw [H0.out, H1.out]; exact cost_cat a0 a1)).mono ?_
      rintro e x4 ⟨rfl, b4⟩
      replace hown := own_keep hown b4
      replace b2 := bt b2 b4
      clear b4
      go_wp2_with fail
      refine (cost_any a0 _ (by omega) c0 H0.out).mono ?_
      rintro e x5 ⟨rfl, b5⟩
      replace hown := own_keep hown b5
      replace b2 := bt b2 b5
      clear b5
      go_wp2_with fail
      refine (cost_any a1 _ (by omega) c1 H1.out).mono ?_
      rintro e x6 ⟨rfl, b6⟩
      replace hown := own_keep hown b6
      replace b2 := bt b2 b6
      clear b6
      have hc := conv_own (P := Try.prog) x6 23 9 5 Try.underlying23 Try.underlying5 Try.underlying9 _ _ _ _ hown
      generalize hr : (⟨a0.data.toList.reverse.toArray⟩ : ByteArray) = rv at hc
      have HR : rv.size = a0.size ∧ c0 = ((M.cost rv.data.toList : Nat) : Int) := by rw [← hr, str_cost, str_size, List.length_reverse, Array.length_toList]; exact ⟨rfl, H0.out⟩
      obtain ⟨hr1, hr2⟩ := HR
      have HR1 := Lib.hid hr1
      have HR2 := Lib.hid hr2
      clear hr hr1 hr2
      go_wp2_with fail
      refine (cost_any rv _ (by have := HR1.out; omega) c0 HR2.out).mono ?_
      rintro e x7 ⟨rfl, b7⟩
      replace b2 := bt b2 b7
      clear b7 hc hown
      go_wp2_with fail
      refine (cost_any a0 _ (by omega) c0 H0.out).mono ?_
      rintro e x8 ⟨rfl, b8⟩
      replace b2 := bt b2 b8
      clear b8
      go_wp2_with fail
      refine (cost_any a0 _ (by omega) c0 H0.out).mono ?_
      rintro e x9 ⟨rfl, b9⟩
      replace b2 := bt b2 b9
      clear b9
      go_wp2_with fail
      go_ret
      exact ⟨ret_bool (fin_zero a0 c0 H0.out), b2⟩
    · obtain ⟨k, rfl⟩ : ∃ k, m = k + 1 := ⟨m - 1, by omega⟩
      rw [show (((k + 1 : Nat) : Int) - 1) = (k : Int) by omega]
      have hzs := zb_step a0 k (by omega)
      have hds := drop_step a0 k (by omega)
      have HZ := Lib.hid hzs
      have HD := Lib.hid hds
      clear hzs hds h0
      generalize zb a0 (k + 1) = zz at *
      have hkl : k < a0.size := by omega
      have HO : ∀ v' (w' : World), w'.ownsRow w.heap.size 5 1 v' (a0.size - (k + 1) + 1) (bvals (a0.data.toList.drop (k + 1)).reverse ++ [.int .u8 ((a0[k]).toNat : Int)]) → w'.ownsRow w.heap.size 5 1 v' (a0.size - k) (bvals (a0.data.toList.drop k).reverse) := fun v' w' h => by
        rw [HD.out, bvals_append, show a0.size - k = a0.size - (k + 1) + 1 by omega]; exact h
      have HO2 := Lib.hid HO
      clear HO
      have hbz : ((a0[k]).toNat : Int) = 0 ↔ a0[k] = 0 := by rw [← UInt8.toNat_inj]; show _ ↔ (a0[k]).toNat = 0; omega
      have HB := Lib.hid hbz
      clear hbz
      cases zz
      all_goals
        go_wp2_with (at_builtin; refine wp_push1 _ rfl _ _ 23 5 rfl Try.underlying23 (.int .u8 0) 1 Try.info5 rfl w.heap.size _ _ _ rfl hown _ _ rfl rfl (by omega) (by omega) hsz ?_; intro v' w' hown' hb' hsz')
        go_roundw
        case rel =>
          refine ⟨k, by omega, by first | rfl | go_num, ?_, HO2.out _ _ hown', hb.trans hb'⟩
          rw [HZ.out]
          first
          | rfl
          | exact congrArg Value.bool (by rw [Bool.true_and, Bool.eq_iff_iff, beq_iff_eq, beq_iff_eq]; exact HB.out)
        case measure => simp [intOf] <;> omega
end predictCost
end Go.Proofs.Ytihhcmgidgffoaa
