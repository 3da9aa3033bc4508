/- Walk of layer 10 (predict): concat. -/
import Derived.Test.YtihhcmgidgffoaaT
import Derived.Test.YtihhcmgidgffoaaC
set_option linter.unusedVariables false
namespace Go.Proofs.Ytihhcmgidgffoaa
open Go.RowKit

theorem range_cf {g : Nat} {t : TypeId} {N : Nat} {f : Nat → UInt8} {w : World} (h : Bk g t N f w) (o n : Nat) (hle : o + n ≤ N) : w.rangeAt g o (cf n fun i => f (o + i)).toList := by
  intro j v hj
  rw [Array.getElem?_toList] at hj
  have hjn : j < n := by
    rcases Nat.lt_or_ge j n with h' | h'
    · exact h'
    · rw [cf_none n _ j h'] at hj; simp at hj
  rw [cf_at n _ j hjn] at hj
  rw [h.cell (o + j) (by omega), ← hj]
section
variable {ops : Array Oper} {rest : List Oper} {op : Oper} {a : Act} {w : World} {Q : Exit → Act → World → Prop}
theorem wp_load_cf (hgd : op.guard = none) (ty : TypeId) (x : Operand) (ho : op.op = .load ty x) (b o n N : Nat) (t : TypeId) (f : Nat → UInt8) (hx : a.eval x = .pointer (some ⟨b, o, none⟩))
    (d : TypeDesc) (hB : Bk b t N f w) (hle : o + n ≤ N) (hu : Try.prog.underlying ty = some d) (hd : d.isRow = true) (hi : (Try.prog.info? ty).map (·.size) = some n)
    (h : wpList Try.prog ops Q rest (a.put op.dst (.agg (cf n fun i => f (o + i)))) w) : wpList Try.prog ops Q (op :: rest) a w :=
  wpList_load_mid hgd ty x ho b o hx (cf n fun i => f (o + i)).toList d (range_cf hB o n hle) hu hd (by rw [hi, Array.length_toList, cf_size]) (by rw [Array.toArray_toList]; exact h)
theorem wp_store_cf (W : World) (hgd : op.guard = none) (ty : TypeId) (x y : Operand) (ho : op.op = .store ty x y) (hd : op.dst = none) (g : Nat) (hg : g = W.heap.size) (n : Nat) (f f0 : Nat → UInt8) (hx : a.eval x = .pointer (some ⟨g, 0, none⟩)) (hy : a.eval y = .agg (cf n f))
    (hi : (Try.prog.info? ty).map (·.size) = some n) (t : TypeId)
    (h : wpList Try.prog ops Q rest (a.put op.dst undef) (W.alloc (.cells (cf n f) t))) : wpList Try.prog ops Q (op :: rest) a (W.alloc (.cells (cf n f0) t)) := by
  subst hg
  refine wpList_store_row hgd ty x y ho W.heap.size (cf n f) hx hy t (cf n f0) (heap_alloc_new _ _) (by rw [hi, cf_size]) (by rw [cf_size, cf_size]) (cf_one _ _) ?_
  rw [World.setRow_alloc_new]
  exact h
/-- 'append(v, x...)' of a window of a block of bytes, v nil or of the call's own. -/
theorem wp_append_cf (hgd : op.guard = none) (s x : Operand) (ho : op.op = .call { callee := .builtin .append, args := #[s, x], argTypes := #[23, 23] })
    (base : Nat) (v : Value) (n : Nat) (l : List UInt8) (hs : a.eval s = v) (hown : w.ownsRow base 5 1 v n (bvals l)) (g o m c N : Nat) (t : TypeId) (f : Nat → UInt8) (hB : Bk g t N f w)
    (hx : a.eval x = .slice (some ⟨g, o, none⟩) m c) (hle : o + m ≤ N) (hlen : n + m ≤ 140737488355328) (hbase : base ≤ w.heap.size)
    (h : ∀ v' w', w'.ownsRow base 5 1 v' (n + m) (bvals (l ++ M.tab m fun i => f (o + i))) → w.grownBy w' v.ownBlock → wpList Try.prog ops Q rest (a.put op.dst v') w') : wpList Try.prog ops Q (op :: rest) a w := by
  obtain ⟨i0, hi, hz0, hz1, hz2⟩ := info_parts Try.info5
  refine wpList_append_own _ hgd s x 23 ho base 5 i0 (.int .u8 0) 1 1 Try.underlying23 hi hz0 hz1 hz2 rfl (by decide) v n (bvals l) hs hown ⟨g, o, none⟩ m c (cf m fun i => f (o + i)).toList hx (by rw [Array.length_toList, cf_size]; omega)
    (fun j u hj => by rw [Addr.add_mid]; exact range_cf hB o m hle j u hj) (fun u hu => ?_) (by unfold maxLen; omega) (by omega) hbase fun v' w' h1 h2 _ => h v' w' (by rw [bvals_append, ← cf_tab]; exact h1) h2
  have := cf_one m fun i => f (o + i)
  rw [Array.all_eq_true] at this
  rw [Array.mem_toList_iff] at hu
  obtain ⟨i, hi, rfl⟩ := Array.mem_iff_getElem.1 hu
  exact this i hi
end

set_option maxRecDepth 100000 in
set_option maxHeartbeats 400000 in
theorem concat_any (g : Nat) (f : Nat → UInt8) (w : World) (h : Bk g 57 256 f w) :
    Calls Try.prog 24 #[.slice (some ⟨g, 0, none⟩) 4 4] w fun e w' => e = .returned (.string ⟨(M.tab 256 f).toArray⟩) ∧ Below w.heap.size w w' := by
  have hz := Try.zero56
  go_enter Try.func24, Try.ntmps24
  go_wp2_with fail
  clear hz
  go_loopw [3, 8] (fun v a wr => ∃ q : Nat, q ≤ 4 ∧ a = .int .i64 q ∧ wr.ownsRow w.heap.size 5 1 v (q * 64) (bvals (M.tab (q * 64) f)) ∧ Bk g 57 256 f wr ∧ Below w.heap.size w wr) (fun _ a _ => 4 - (intOf a).toNat)
  case atStart => exact ⟨0, by omega, rfl, World.ownsRow_nil _ _ _ _, h, Below.refl _ _⟩
  case round =>
    obtain ⟨q, hq, rfl, hown, hB, hb⟩ := hrel
    by_cases hq4 : q < 4
    · have hz := Try.zero56
      go_wp2_with (first
        | (refine wp_load_cf rfl 56 _ rfl g (q * 64) 64 256 57 f rfl _ hB (by omega) Try.underlying56 rfl Try.size56 ?_)
        | (refine wp_store_cf wr rfl 56 _ _ rfl rfl wr.heap.size rfl 64 _ (fun _ => 0) rfl rfl Try.size56 56 ?_)
        | (at_builtin; refine wp_append_cf rfl _ _ rfl w.heap.size _ (q * 64) _ rfl (hown.alloc _) wr.heap.size 0 64 64 64 56 (fun i => f (q * 64 + i)) (Bk.new wr 56 64 _) rfl (by omega) (by omega) (by rw [World.size_alloc]; have := hb.size; omega) ?_; intro v' w' hown' hgr))
      go_roundw
      case rel =>
        refine ⟨q + 1, by omega, by go_num, ?_, ?_, ?_⟩
        · rw [show (q + 1) * 64 = q * 64 + 64 by omega, M.tab_add]
          simpa using hown'
        · have hlt := h.lt
          have h1 : Bk g 57 256 f (wr.alloc (.cells (cf 64 fun i => f (q * 64 + i)) 56)) := hB.alloc _
          unfold Bk at h1 ⊢
          rw [hgr.block g (by rw [World.size_alloc]; have := hb.size; omega) (fun e => by have := (hown.lt g e.symm).1; omega)]
          exact h1
        · exact (hb.alloc hb.size _).grown hgr (by rw [World.size_alloc]; have := hb.size; omega) (fun k hk => (hown.lt k hk).1)
      case measure => simp [intOf]; omega
    · have hq4' : q = 4 := by omega
      subst hq4'
      have hc := conv_own (P := Try.prog) wr 23 9 5 Try.underlying23 Try.underlying5 Try.underlying9 _ _ _ _ hown
      go_wp2_with fail
      go_ret
      exact ⟨rfl, hb⟩
end Go.Proofs.Ytihhcmgidgffoaa
