/- A region that draws its order, whose calls only add to memory and that holds at most one store: every operation's value is known ahead. -/
import Derived.Test.YtmfmnoajihiidaaF
import Derived.Test.YtmfmnoajihiidaaJL
set_option linter.unusedVariables false
namespace Go.Proofs.Ytmfmnoajihiidaa
open Go.RowKit
section
variable {P : Program}
theorem wp_region_calls {id : Nat} {l : List Oper} {a : Act} {w : World} {Q : Exit → Act → World → Prop} (lit : (Nat → Value) → Act) (hlit : ∀ u, fill l u a = lit u) (hm : P.follows .mixedOrders = true) (hL : lowers l.toArray = true) (hd : distinct l = true) (hg : (l.all fun o => o.guard.isNone) = true)
    (ms : Nat) (V : Nat → Value) (S : Bool → World → Prop) (h0 : S false w.drew)
    (hstep : ∀ i o, l[i]? = some o → i ≠ ms → ∀ u x b, S b x → (∀ j, waitsOn o j = true → u j = V j) → (execOp (lit u).eval o).run P x = .ok (.value (V i)) x ∨ ∃ f args, (execOp (lit u).eval o).run P x = .ok (.enter f args) x ∧ Calls P f args x fun e x' => e = .returned (V i) ∧ S b x')
    (hstore : ∀ o, l[ms]? = some o → V ms = undef ∧ ∀ u x, S false x → (∀ j, waitsOn o j = true → u j = V j) → ∃ x', (execOp (lit u).eval o).run P x = .ok .skip x' ∧ S true x')
    (hend : ∀ x, S (decide (ms < l.length)) x → Q .normal (lit V) x) : (Code.region id l.toArray true).wp P Q a w := by
  refine wp_region_invL lit hlit hm hL hd hg (fun D u x => (∀ j, D j = true → u j = V j) ∧ (∀ j, D j = true → j < l.length) ∧ S (D ms) x) ?_ ?_ ?_
  · intro u
    exact ⟨fun j (h : false = true) => Bool.noConfusion h, fun j (h : false = true) => Bool.noConfusion h, h0⟩
  · rintro D u x i o ho hDi hdep ⟨h1, h2, h3⟩
    have hv : ∀ j, waitsOn o j = true → u j = V j := fun j hj => h1 j (hdep j hj)
    have hil : i < l.length := (List.getElem?_eq_some_iff.1 ho).1
    have hupd : ∀ v, v = V i → ∀ j, (if j = i then true else D j) = true → updv u i v j = V j := by
      intro v hv j hj
      unfold updv
      by_cases e : j = i
      · rw [if_pos e, hv, e]
      · rw [if_neg e] at hj ⊢; exact h1 j hj
    have hlt : ∀ j, (if j = i then true else D j) = true → j < l.length := by
      intro j hj
      by_cases e : j = i
      · omega
      · rw [if_neg e] at hj; exact h2 j hj
    by_cases him : i = ms
    · subst him
      obtain ⟨hV, hs⟩ := hstore o ho
      rw [hDi] at h3
      obtain ⟨x', e1, hS⟩ := hs u x h3 hv
      refine iv_skip e1 ⟨hupd _ hV.symm, hlt, ?_⟩
      show S (if i = i then true else D i) x'
      rw [if_pos rfl]; exact hS
    · rcases hstep i o ho him u x (D ms) h3 hv with e1 | ⟨f, args, e1, hc⟩
      · refine iv_val e1 ⟨hupd _ rfl, hlt, ?_⟩
        show S (if ms = i then true else D ms) x
        rw [if_neg (Ne.symm him)]; exact h3
      · unfold Oper.wp
        rw [e1]
        refine Calls.mono hc ?_
        rintro e x' ⟨rfl, hS⟩
        refine ⟨V i, rfl, hupd _ rfl, hlt, ?_⟩
        show S (if ms = i then true else D ms) x'
        rw [if_neg (Ne.symm him)]; exact hS
  · rintro D u x hD ⟨h1, h2, h3⟩
    have : lit u = lit V := by
      rw [← hlit u, ← hlit V]
      exact fill_congr l u V a fun i hi => h1 i (hD i hi)
    rw [this]
    refine hend x ?_
    have hms : D ms = decide (ms < l.length) := by
      by_cases h : ms < l.length
      · rw [hD ms h, decide_eq_true h]
      · rw [decide_eq_false h]
        cases hh : D ms with
        | false => rfl
        | true => exact absurd (h2 ms hh) h
    rw [← hms]; exact h3
end
section
variable {o : Oper} {ρ : Operand → Value} {x : World} {y z : Operand}
theorem run_mv (v : Value) (ho : o.op = .move y) (hy : ρ y = v) : (execOp ρ o).run Try.prog x = .ok (.value v) x := by
  unfold execOp; rw [ho]; simp only [hy]; go_simp
theorem run_asg (v : Value) (ho : o.op = .assign y) (hy : ρ y = v) : (execOp ρ o).run Try.prog x = .ok (.value v) x := by
  unfold execOp; rw [ho]; simp only [hy]; go_simp
theorem run_fa23 (g k : Nat) (ho : o.op = .fieldAddr 23 y k) (hk : k < 7) (hy : ρ y = .pointer (some ⟨g, 0, none⟩)) : (execOp ρ o).run Try.prog x = .ok (.value (.pointer (some ⟨g, k, none⟩))) x := by
  obtain rfl | rfl | rfl | rfl | rfl | rfl | rfl : k = 0 ∨ k = 1 ∨ k = 2 ∨ k = 3 ∨ k = 4 ∨ k = 5 ∨ k = 6 := by omega
  all_goals (unfold execOp; rw [ho]; simp only [hy]; go_simp; first | done | rfl)
theorem run_ld3 (p : Addr) (k : Int) (ho : o.op = .load 3 y) (hy : ρ y = .pointer (some p)) (hc : x.cell? p = some (.int .i64 k)) : (execOp ρ o).run Try.prog x = .ok (.value (.int .i64 k)) x := by
  unfold execOp; rw [ho]; simp only [hy]; go_simp
theorem run_ld23 (g : Nat) (a0 a1 a2 a3 a4 a5 a6 : Int) (ho : o.op = .load 23 y) (hy : ρ y = .pointer (some ⟨g, 0, none⟩)) (h : x.heap[g]? = some (.cells #[.int .i64 a0, .int .i64 a1, .int .i64 a2, .int .i64 a3, .int .i64 a4, .int .i64 a5, .int .i64 a6] 23 (0, 0))) : (execOp ρ o).run Try.prog x = .ok (.value (.agg #[.int .i64 a0, .int .i64 a1, .int .i64 a2, .int .i64 a3, .int .i64 a4, .int .i64 a5, .int .i64 a6])) x := by
  have c0 : x.cell? ⟨g, 0, none⟩ = some (.int .i64 a0) := by rw [cell_of_row x _ 0 _ _ _ h]; rfl
  have c1 : x.cell? ⟨g, 1, none⟩ = some (.int .i64 a1) := by rw [cell_of_row x _ 1 _ _ _ h]; rfl
  have c2 : x.cell? ⟨g, 2, none⟩ = some (.int .i64 a2) := by rw [cell_of_row x _ 2 _ _ _ h]; rfl
  have c3 : x.cell? ⟨g, 3, none⟩ = some (.int .i64 a3) := by rw [cell_of_row x _ 3 _ _ _ h]; rfl
  have c4 : x.cell? ⟨g, 4, none⟩ = some (.int .i64 a4) := by rw [cell_of_row x _ 4 _ _ _ h]; rfl
  have c5 : x.cell? ⟨g, 5, none⟩ = some (.int .i64 a5) := by rw [cell_of_row x _ 5 _ _ _ h]; rfl
  have c6 : x.cell? ⟨g, 6, none⟩ = some (.int .i64 a6) := by rw [cell_of_row x _ 6 _ _ _ h]; rfl
  clear h
  unfold execOp; rw [ho]; simp only [hy]; go_simp
theorem run_st23 (g : Nat) (a0 a1 a2 a3 a4 a5 a6 : Int) (z0 z1 z2 z3 z4 z5 z6 : Value) (ho : o.op = .store 23 y z) (hy : ρ y = .pointer (some ⟨g, 0, none⟩)) (hz : ρ z = .agg #[.int .i64 a0, .int .i64 a1, .int .i64 a2, .int .i64 a3, .int .i64 a4, .int .i64 a5, .int .i64 a6]) (h : x.heap[g]? = some (.cells #[z0, z1, z2, z3, z4, z5, z6] 23 (0, 0))) :
    (execOp ρ o).run Try.prog x = .ok .skip (((((((x.setCell ⟨g, 0, none⟩ (.int .i64 a0)).setCell ⟨g, 1, none⟩ (.int .i64 a1)).setCell ⟨g, 2, none⟩ (.int .i64 a2)).setCell ⟨g, 3, none⟩ (.int .i64 a3)).setCell ⟨g, 4, none⟩ (.int .i64 a4)).setCell ⟨g, 5, none⟩ (.int .i64 a5)).setCell ⟨g, 6, none⟩ (.int .i64 a6)) := by
  have c0 : x.cell? ⟨g, 0, none⟩ = some z0 := by rw [cell_of_row x _ 0 _ _ _ h]; rfl
  have c1 : x.cell? ⟨g, 1, none⟩ = some z1 := by rw [cell_of_row x _ 1 _ _ _ h]; rfl
  have c2 : x.cell? ⟨g, 2, none⟩ = some z2 := by rw [cell_of_row x _ 2 _ _ _ h]; rfl
  have c3 : x.cell? ⟨g, 3, none⟩ = some z3 := by rw [cell_of_row x _ 3 _ _ _ h]; rfl
  have c4 : x.cell? ⟨g, 4, none⟩ = some z4 := by rw [cell_of_row x _ 4 _ _ _ h]; rfl
  have c5 : x.cell? ⟨g, 5, none⟩ = some z5 := by rw [cell_of_row x _ 5 _ _ _ h]; rfl
  have c6 : x.cell? ⟨g, 6, none⟩ = some z6 := by rw [cell_of_row x _ 6 _ _ _ h]; rfl
  have f0 := frozen_of_row x g 0 _ _ h
  have f1 := frozen_of_row x g 1 _ _ h
  have f2 := frozen_of_row x g 2 _ _ h
  have f3 := frozen_of_row x g 3 _ _ h
  have f4 := frozen_of_row x g 4 _ _ h
  have f5 := frozen_of_row x g 5 _ _ h
  have f6 := frozen_of_row x g 6 _ _ h
  clear h
  unfold execOp; rw [ho]; simp only [hy, hz]; go_simp
theorem run_mul (a b : Int) {t} {c : Int} (ho : o.op = .binOp .mul 3 y z t) (hy : ρ y = .int .i64 a) (hz : ρ z = .int .i64 b) (hc : IntKind.i64.wrap (a * b) = c) : (execOp ρ o).run Try.prog x = .ok (.value (.int .i64 c)) x := by
  rw [← hc]
  unfold execOp; rw [ho]; simp only [hy, hz]; go_simp
theorem run_add (a b : Int) {t} {c : Int} (ho : o.op = .binOp .add 3 y z t) (hy : ρ y = .int .i64 a) (hz : ρ z = .int .i64 b) (hc : IntKind.i64.wrap (a + b) = c) : (execOp ρ o).run Try.prog x = .ok (.value (.int .i64 c)) x := by
  rw [← hc]
  unfold execOp; rw [ho]; simp only [hy, hz]; go_simp
theorem run_sub (a b : Int) {t} {c : Int} (ho : o.op = .binOp .sub 3 y z t) (hy : ρ y = .int .i64 a) (hz : ρ z = .int .i64 b) (hc : IntKind.i64.wrap (a - b) = c) : (execOp ρ o).run Try.prog x = .ok (.value (.int .i64 c)) x := by
  rw [← hc]
  unfold execOp; rw [ho]; simp only [hy, hz]; go_simp
theorem run_neg (a : Int) {c : Int} (ho : o.op = .unOp .neg 3 y) (hy : ρ y = .int .i64 a) (hc : IntKind.i64.wrap (-a) = c) : (execOp ρ o).run Try.prog x = .ok (.value (.int .i64 c)) x := by
  rw [← hc]
  unfold execOp; rw [ho]; simp only [hy]; go_simp
theorem run_ext0 (v1 v2 : Value) (ho : o.op = .extract y 0) (hy : ρ y = .tuple #[v1, v2]) : (execOp ρ o).run Try.prog x = .ok (.value v1) x := by
  unfold execOp; rw [ho]; simp only [hy]; go_simp
theorem run_ext1 (v1 v2 : Value) (ho : o.op = .extract y 1) (hy : ρ y = .tuple #[v1, v2]) : (execOp ρ o).run Try.prog x = .ok (.value v2) x := by
  unfold execOp; rw [ho]; simp only [hy]; go_simp
theorem run_bld23 {y0 y1 y2 y3 y4 y5 y6 : Operand} (a0 a1 a2 a3 a4 a5 a6 : Int) (ho : o.op = .build 23 #[(0, y0), (1, y1), (2, y2), (3, y3), (4, y4), (5, y5), (6, y6)]) (e0 : ρ y0 = .int .i64 a0) (e1 : ρ y1 = .int .i64 a1) (e2 : ρ y2 = .int .i64 a2) (e3 : ρ y3 = .int .i64 a3) (e4 : ρ y4 = .int .i64 a4) (e5 : ρ y5 = .int .i64 a5) (e6 : ρ y6 = .int .i64 a6) : (execOp ρ o).run Try.prog x = .ok (.value (.agg #[.int .i64 a0, .int .i64 a1, .int .i64 a2, .int .i64 a3, .int .i64 a4, .int .i64 a5, .int .i64 a6])) x := by
  unfold execOp; rw [ho]; go_simp
theorem run_c42 {y1 : Operand} {t} (v1 : Value) (h0 : ρ (.func 42) = .func (.func 42) #[] #[]) (ho : o.op = .call { callee := .value (.func 42), args := #[y1], argTypes := t }) (h1 : ρ y1 = v1) : (execOp ρ o).run Try.prog x = .ok (.enter 42 #[v1]) x := by
  unfold execOp; rw [ho]; go_simp
theorem run_c43 {y1 : Operand} {t} (v1 : Value) (h0 : ρ (.func 43) = .func (.func 43) #[] #[]) (ho : o.op = .call { callee := .value (.func 43), args := #[y1], argTypes := t }) (h1 : ρ y1 = v1) : (execOp ρ o).run Try.prog x = .ok (.enter 43 #[v1]) x := by
  unfold execOp; rw [ho]; go_simp
theorem run_c76 {y1 y2 : Operand} {t} (v1 v2 : Value) (h0 : ρ (.func 76) = .func (.func 76) #[] #[]) (ho : o.op = .call { callee := .value (.func 76), args := #[y1, y2], argTypes := t }) (h1 : ρ y1 = v1) (h2 : ρ y2 = v2) : (execOp ρ o).run Try.prog x = .ok (.enter 76 #[v1, v2]) x := by
  unfold execOp; rw [ho]; go_simp
end
end Go.Proofs.Ytmfmnoajihiidaa
