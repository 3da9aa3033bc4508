/- Rows of structs: an append of one struct to a row of the call's own; what growth keeps. No function of the program is in sight. -/
import Derived.Test.YtmfmnoajihiidaaBase
import Derived.Test.YtmfmnoajihiidaaJG
set_option linter.unusedVariables false
namespace Go.Proofs.Ytmfmnoajihiidaa
open Go.RowKit
theorem Grow.cell {x y : World} (h : Grow x y) {a : Addr} {v : Value} (hc : x.cell? a = some v) : y.cell? a = some v := by
  have hb : a.block < x.heap.size := by
    by_cases hb : a.block < x.heap.size
    · exact hb
    · unfold World.cell? at hc; rw [Array.getElem?_eq_none (by omega)] at hc; simp at hc
  have : y.cell? a = x.cell? a := by unfold World.cell?; rw [Below.block h _ hb]
  rw [this, hc]
theorem Grow.frozen {x y : World} (h : Grow x y) {b o : Nat} (hb : b < x.heap.size) : y.frozen? ⟨b, o, none⟩ = x.frozen? ⟨b, o, none⟩ := by
  unfold World.frozen?; rw [Below.block h _ hb]
theorem Grow.size {x y : World} (h : Grow x y) : x.heap.size ≤ y.heap.size := Below.size h
theorem Grow.below {x y : World} {b : Nat} (h : Grow x y) (hb : b ≤ x.heap.size) : Below b x y := Below.mono h hb
theorem ltk1 {a b : Nat} (h : a < b) : a < b + 1 := by omega
theorem ltk2 {a b : Nat} (h : a < b) : a < b + 1 + 1 := by omega
theorem ltk3 {a b : Nat} (h : a < b) : a < b + 1 + 1 + 1 := by omega
theorem ltk4 {a b : Nat} (h : a < b) : a < b + 1 + 1 + 1 + 1 := by omega
theorem ltk5 {a b : Nat} (h : a < b) : a < b + 1 + 1 + 1 + 1 + 1 := by omega
theorem ltk6 {a b : Nat} (h : a < b) : a < b + 1 + 1 + 1 + 1 + 1 + 1 := by omega
theorem ltk7 {a b : Nat} (h : a < b) : a < b + 1 + 1 + 1 + 1 + 1 + 1 + 1 := by omega
theorem ltk8 {a b : Nat} (h : a < b) : a < b + 1 + 1 + 1 + 1 + 1 + 1 + 1 + 1 := by omega
attribute [go_sem] ltk1 ltk2 ltk3 ltk4 ltk5 ltk6 ltk7 ltk8
theorem Grow.a {x y : World} (h : Grow x y) (o : Obj) : Grow x (y.alloc o) := h.trans (Grow.alloc y o)
theorem Grow.s {x y : World} (h : Grow x y) {p : Addr} (hp : x.heap.size ≤ p.block) (v : Value) : Grow x (y.setCell p v) := Below.setCell h hp v
theorem Grow.d {x y : World} (h : Grow x y) : Grow x y.drew := Below.drew h
theorem Grow.dN {x y : World} (h : Grow x y) (n : Nat) : Grow x (y.drewN n) := Below.trans h ⟨rfl, rfl, rfl, Nat.le_refl _, fun _ _ => rfl⟩
theorem heap_new' (w : World) (o : Obj) (n : Nat) (h : n = w.heap.size) : (w.alloc o).heap[n]? = some o := by subst h; exact heap_alloc_new w o
section
variable {P : Program}
/-- The world under a name, with what is to be known of it. -/
theorem wp_gen {c : Code} {Q : Exit → Act → World → Prop} {a : Act} {w : World} (F : World → Prop) (hF : F w) (h : ∀ w', F w' → c.wp P Q a w') : c.wp P Q a w := h w hF
/-- 'v = append(v, u)' of one element of several cells, v nil or of the call's own. -/
theorem wp_pushS {ops : Array Oper} {rest : List Oper} {o : Oper} {a : Act} {Q : Exit → Act → World → Prop} (w : World) (hgd : o.guard = none) (s x : Operand) (t e : TypeId)
    (ho : o.op = .call { callee := .builtin .append, args := #[s, x], argTypes := #[t, t] }) (ht : P.underlying t = some (.slice e))
    (z : Value) (size bytes : Nat) (hinfo : (P.info? e).map (fun i => (i.zero, i.size, i.bytes)) = some (some z, size, bytes)) (hz : z.cells.size = size) (h0 : 0 < size)
    (base : Nat) (v : Value) (n : Nat) (xs : List Value) (hs : a.eval s = v) (hown : w.ownsRow base e size v n xs)
    (u : List Value) (hul : u.length = size) (fr : Nat × Nat) (hx : a.eval x = .slice (some ⟨w.heap.size, 0, none⟩) 1 1) (hu : ∀ y ∈ u, y.oneCell' = true)
    (hlen : n + 1 ≤ 1000000000) (hby : bytes ≤ 64) (hbase : base ≤ w.heap.size)
    (h : ∀ v' w', w'.ownsRow base e size v' (n + 1) (xs ++ u) → v' ≠ .slice none 0 0 → Below base w w' → w.heap.size < w'.heap.size → wpList P ops Q rest (a.put o.dst v') w') :
    wpList P ops Q (o :: rest) a (w.alloc (.cells u.toArray e fr)) := by
  obtain ⟨i0, hi, hz0, hz1, hz2⟩ := info_parts hinfo
  refine wpList_append_own _ hgd s x t ho base e i0 z size bytes ht hi hz0 hz1 hz2 hz h0 v n xs hs (hown.alloc _) ⟨w.heap.size, 0, none⟩ 1 1 u hx (by rw [hul]; omega) ?_ hu ?_ ?_ ?_ ?_
  · intro j y hj
    have hj' : j < u.length := (List.getElem?_eq_some_iff.1 hj).1
    have : (⟨w.heap.size, 0, none⟩ : Addr).add j = ⟨w.heap.size, j, none⟩ := by unfold Addr.add; split <;> simp_all
    rw [this]
    unfold World.cell?
    rw [heap_alloc_new]
    simpa using hj
  · unfold maxLen; omega
  · exact Nat.le_trans (Nat.mul_le_mul hlen hby) (by omega)
  · rw [World.size_alloc]; omega
  · intro v' w' hown' hg hnil
    have hsz := hg.size
    rw [World.size_alloc] at hsz
    refine h v' w' hown' (fun hv => by have := (hnil.1 hv).2; omega) ?_ (by omega)
    refine ((Below.refl base w).alloc hbase _).grown hg (by rw [World.size_alloc]; omega) fun k hk => ?_
    exact (hown.lt k hk).1
end
end Go.Proofs.Ytmfmnoajihiidaa
