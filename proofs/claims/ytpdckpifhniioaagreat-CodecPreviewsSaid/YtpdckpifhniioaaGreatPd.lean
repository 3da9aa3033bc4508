/- Part 4 of what CodecPreviews rests on. -/
import Derived.WalkKit
import Derived.WalkLawsBesides
import Derived.WalkSpells
import Derived.Lib.Hide
import Derived.Laws.IdiomStrings
import Derived.Deep.Quiet
import Derived.Deep.QuietTactic
import Derived.BigQuiet
import Derived.IntWalk
import Derived.Laws.Bits128
import Derived.Laws.BitsAllLaws
import Derived.Maps.AppendAt
import Derived.Deep.DeepCutAuto
import Derived.Deep.CutBlock
import Derived.Deep.LoopGhost
import Derived.Lib.Builder
import Derived.Lib.UnsafeStr
import Derived.Laws.Externs
import Derived.Test.YtpdckpifhniioaaGreatProg
import Derived.Deep.Light
import Derived.Deep.OwnRows
import Derived.Deep.MidRow
import Derived.Deep.WholeRow
import Derived.Deep.RegionHeld3
import Derived.Deep.DrawnRows
import Derived.Deep.Cut
import Derived.Test.YtpdckpifhniioaaGreatPa
import Derived.Test.YtpdckpifhniioaaGreatPc
section
set_option linter.unusedVariables false
set_option linter.unusedSimpArgs false
namespace Go.Proofs.YtpdckpifhniioaaGreat.Cod
open Go.RowKit
open Go.Proofs.YtpdckpifhniioaaGreat
section
theorem ret_int {k : IntKind} {a b : Int} (h : a = b) : Ending.returned (.int k a) = .returned (.int k b) := by rw [h]
theorem ret_str {a b : ByteArray} (h : a = b) : Ending.returned (.string a) = .returned (.string b) := by rw [h]
/-- The cells of a list of bytes. -/
def bcells (l : List UInt8) : Array Value := (l.map fun b => Value.int .u8 (b.toNat : Int)).toArray
theorem bcells_at (l : List UInt8) (i : Nat) (h : i < l.length) : (bcells l)[i]? = some (.int .u8 (l[i].toNat : Int)) := by
  simp [bcells, List.getElem?_eq_getElem h]
section
variable {P : Program}
/-- 'string(b)' of a window of a block of bytes. -/
theorem conv_row (w : World) (src dst e : TypeId) (hs : P.underlying src = some (.slice e)) (he : P.underlying e = some (.int .u8)) (hd : P.underlying dst = some .string)
    (g : Nat) (t : TypeId) (fr : Nat × Nat) (C : Array Value) (hg : w.heap[g]? = some (.cells C t fr)) (k n cap : Nat) (l : List UInt8) (hn : l.length = n)
    (hl : ∀ j (h : j < l.length), C[k + j]? = some (.int .u8 (l[j].toNat : Int))) :
    (convert src dst (.slice (some ⟨g, k, none⟩) n cap)).run P w = .ok (.string ⟨l.toArray⟩) w := by
  subst hn
  refine run_convert_bytes_back w src dst e _ cap l hs he hd fun j hj => ?_
  have : (⟨g, k, none⟩ : Addr).add j = ⟨g, k + j, none⟩ := by unfold Addr.add; split <;> simp_all
  rw [this]
  unfold World.cell?
  rw [hg]
  simpa using hl j hj
end
/-- The one-cell values of a list of bytes. -/
def bvals (l : List UInt8) : List Value := l.map fun b => Value.int .u8 (b.toNat : Int)
theorem bvals_length (l : List UInt8) : (bvals l).length = l.length := by simp [bvals]
theorem bvals_append (l m : List UInt8) : bvals (l ++ m) = bvals l ++ bvals m := by simp [bvals]
section
variable {P : Program}
/-- 'v = append(v, u)' of one value of one cell, v nil or of the call's own. -/
theorem wp_push {ops : Array Oper} {rest : List Oper} {o : Oper} {a : Act} {Q : Exit → Act → World → Prop} (w : World) (hgd : o.guard = none) (s x : Operand) (t e : TypeId)
    (ho : o.op = .call { callee := .builtin .append, args := #[s, x], argTypes := #[t, t] }) (ht : P.underlying t = some (.slice e))
    (z : Value) (bytes : Nat) (hinfo : (P.info? e).map (fun i => (i.zero, i.size, i.bytes)) = some (some z, 1, bytes)) (hz : z.cells.size = 1)
    (base : Nat) (v : Value) (n : Nat) (xs : List Value) (hs : a.eval s = v) (hown : w.ownsRow base e 1 v n xs)
    (u : Value) (fr : Nat × Nat) (hx : a.eval x = .slice (some ⟨w.heap.size, 0, none⟩) 1 1) (hu : u.oneCell' = true)
    (hlen : n + 1 ≤ 1000000000) (hby : bytes ≤ 64) (hbase : base ≤ w.heap.size)
    (h : ∀ v' w', w'.ownsRow base e 1 v' (n + 1) (xs ++ [u]) → v' ≠ .slice none 0 0 → Below base w w' → w.heap.size < w'.heap.size → wpList P ops Q rest (a.put o.dst v') w') :
    wpList P ops Q (o :: rest) a (w.alloc (.cells #[u] e fr)) := by
  obtain ⟨i0, hi, hz0, hz1, hz2⟩ := info_parts hinfo
  refine wpList_append_own _ hgd s x t ho base e i0 z 1 bytes ht hi hz0 hz1 hz2 hz (by decide) v n xs hs (hown.alloc _) ⟨w.heap.size, 0, none⟩ 1 1 [u] hx rfl ?_ ?_ ?_ ?_ ?_ ?_
  · intro j u' hj
    match j, hj with
    | 0, hj =>
      simp at hj
      subst hj
      have : (⟨w.heap.size, 0, none⟩ : Addr).add 0 = ⟨w.heap.size, 0, none⟩ := by unfold Addr.add; split <;> simp_all
      rw [this, World.cell?_alloc_mark]; rfl
  · intro u' h'
    simp at h'
    subst h'; exact hu
  · unfold maxLen; omega
  · exact Nat.le_trans (Nat.mul_le_mul hlen hby) (by omega)
  · rw [World.size_alloc]; omega
  · intro v' w' hown' hg hnil
    have hsz := hg.size
    rw [World.size_alloc] at hsz
    refine h v' w' hown' (fun hv => by have := (hnil.1 hv).2; omega) ?_ (by omega)
    refine ((Below.refl base w).alloc hbase _).grown hg (by rw [World.size_alloc]; omega) fun k hk => ?_
    exact (hown.lt k hk).1
/-- 'string(b)' of a slice of the call's own. -/
theorem conv_own (w : World) (src dst e : TypeId) (hs : P.underlying src = some (.slice e)) (he : P.underlying e = some (.int .u8)) (hd : P.underlying dst = some .string)
    (base : Nat) (v : Value) (n : Nat) (l : List UInt8) (hown : w.ownsRow base e 1 v n (bvals l)) : (convert src dst v).run P w = .ok (.string ⟨l.toArray⟩) w := by
  have hl : l.length = n := by have := hown.1; rw [bvals_length] at this; omega
  rcases hown.2 with ⟨rfl, h0⟩ | ⟨g, cap, cur, rfl, _, hg, hnc, _, hsz, htk⟩
  · subst h0
    have : l = [] := List.eq_nil_of_length_eq_zero hl
    subst this
    rw [run_convert_bytes_string w src dst e none 0 0 hs he hd]
    simp [Conv.bytesToString]
    rfl
  · refine conv_row w src dst e hs he hd g e _ cur hg 0 n cap l hl fun j hj => ?_
    have h1 : (cur.toList.take (n * 1))[j]? = (bvals l)[j]? := by rw [htk]
    rw [List.getElem?_take, if_pos (by omega)] at h1
    rw [Nat.zero_add, ← Array.getElem?_toList, h1]
    simp [bvals, List.getElem?_eq_getElem hj]
end
/-- n as 64 bits without a sign. -/
def u64 (n : Int) : Nat := (n % 18446744073709551616).toNat
theorem u64_eq (n : Int) : IntKind.u64.wrap n = ((u64 n : Nat) : Int) := by rw [IntKind.wrap_u64]; unfold u64; omega
theorem u64_lt (n : Int) : u64 n < 18446744073709551616 := by unfold u64; omega
theorem str_size (l : List UInt8) : (⟨l.toArray⟩ : ByteArray).size = l.length := by
  simp [ByteArray.size]
theorem str_append (l m : List UInt8) : (⟨l.toArray⟩ : ByteArray) ++ ⟨m.toArray⟩ = ⟨(l ++ m).toArray⟩ := by
  apply ByteArray.ext; simp
theorem str_mk (s : ByteArray) : (⟨s.data.toList.toArray⟩ : ByteArray) = s := by
  apply ByteArray.ext; simp
end
section
section
variable {P : Program} {ops : Array Oper} {C : World → Prop} {Q : Act → Prop} {rest : List Oper} {o : Oper} {a : Act}
theorem q_val {K : Act → Prop} (h : ∃ v, (∀ x, C x → (execOp a.eval o).run P x = .ok (.value v) x) ∧ K (a.put o.dst v)) : o.quiet P a C K := by
  obtain ⟨v, h, k⟩ := h
  exact ⟨v, fun x hx => by unfold Oper.quietAt; rw [h x hx]; exact ⟨rfl, rfl⟩, k⟩
theorem q_call {K : Act → Prop} (f : FuncId) (h : ∃ args, (∀ x, C x → (execOp a.eval o).run P x = .ok (.enter f args) x) ∧
    ∃ v, (∀ x, C x → Calls P f args x fun e x' => e = .returned v ∧ C x') ∧ K (a.put o.dst v)) : o.quiet P a C K := by
  obtain ⟨args, h, v, hc, k⟩ := h
  exact ⟨v, fun x hx => by unfold Oper.quietAt; rw [h x hx]; exact ⟨rfl, hc x hx⟩, k⟩
theorem q_region {id : Nat} {Q : Exit → Act → World → Prop} {a : Act} {w : World} {l : List Oper} (hm : P.follows .mixedOrders = true) (hB : Region.lexB .any l.toArray = true) (hC : C w.drew)
    (h : wpQuiet P l.toArray C (fun a' => ∀ w', C w' → Q .normal a' w') l a) : (Code.region id l.toArray true).wp P Q a w :=
  wp_region_quiet hm hB hC (by simpa using h)
end
end
section
section
variable {P : Program}
theorem wn {o : Oper} {y : Nat → Option Bool} (h : o.guard = none) : Region.wanted o y = true := by unfold Region.wanted; rw [h]
/-- No operation is guarded; 'lit u' is the frame with u i in the slot of operation i. -/
theorem wp_region_growL {id : Nat} {l : List Oper} {a : Act} {w : World} {Q : Exit → Act → World → Prop} (lit : (Nat → Value) → Act) (hlit : ∀ u, fill l u a = lit u) (hm : P.follows .mixedOrders = true) (hL : lowers l.toArray = true) (hd : distinct l = true) (hg : (l.all fun o => o.guard.isNone) = true) (T : Nat → Value → World → Prop)
    (hstep : ∀ i o, l[i]? = some o → ∀ u x, Grow w x → (∀ j, waitsOn o j = true → T j (u j) x) →
      o.wp P (lit u) x (fun a' x' => ∃ v, a' = (lit u).put o.dst v ∧ Grow x x' ∧ Al x' (T i v)) Q)
    (hend : ∀ u x, Grow w x → (∀ i, i < l.length → T i (u i) x) → Q .normal (lit u) x) : (Code.region id l.toArray true).wp P Q a w := by
  refine wp_region_grow hm hL hd T ?_ ?_
  · intro i o ho u x hx hT
    have hgo : o.guard = none := by
      have := (List.all_eq_true.1 hg) o (List.mem_of_getElem? ho)
      simpa using this
    rw [if_pos (wn hgo), hlit u]
    exact hstep i o ho u x hx fun j hj => (hT j hj).now
  · intro u x hx hT
    rw [hlit u]
    exact hend u x hx fun i hi => (hT i hi).now
/-- An invariant of what has come up (D), of the values (u) and of the world. -/
theorem wp_region_invL {id : Nat} {l : List Oper} {a : Act} {w : World} {Q : Exit → Act → World → Prop} (lit : (Nat → Value) → Act) (hlit : ∀ u, fill l u a = lit u) (hm : P.follows .mixedOrders = true) (hL : lowers l.toArray = true) (hd : distinct l = true) (hg : (l.all fun o => o.guard.isNone) = true) (Inv : (Nat → Bool) → (Nat → Value) → World → Prop)
    (h0 : ∀ u, Inv (fun _ => false) u w.drew)
    (hstep : ∀ D u x i o, l[i]? = some o → D i = false → (∀ j, waitsOn o j = true → D j = true) → Inv D u x →
      o.wp P (lit u) x (fun a' x' => ∃ v, a' = (lit u).put o.dst v ∧ Inv (fun j => if j = i then true else D j) (updv u i v) x') Q)
    (hend : ∀ D u x, (∀ i, i < l.length → D i = true) → Inv D u x → Q .normal (lit u) x) : (Code.region id l.toArray true).wp P Q a w := by
  refine wp_region_invU hm hg (fun D a' x => ∃ u, a' = lit u ∧ Inv D u x) ?_ ?_ ?_
  · obtain ⟨u, hu⟩ := fill_start l a
    exact ⟨u, by rw [← hlit u, hu], h0 u⟩
  · rintro D a' x i o ho hD hdep ⟨u, rfl, hI⟩
    have dep : ∀ j, waitsOn o j = true → D j = true := by
      intro j hj
      obtain ⟨k, hk, he⟩ := Array.any_eq_true.1 hj
      simp only [Bool.and_eq_true, beq_iff_eq] at he
      have := hdep _ (Array.getElem_mem hk) he.2
      rwa [he.1] at this
    refine Oper.wp_mono ?_ (hstep D u x i o ho hD dep hI)
    rintro a'' x' ⟨v, rfl, h⟩
    refine ⟨updv u i v, ?_, h⟩
    rw [← hlit u, ← hlit (updv u i v)]
    exact fill_upd l u a i o v hd ho
  · rintro D a' x hD ⟨u, rfl, hI⟩
    exact hend D u x (all_done hL hD) hI
variable {o : Oper} {a : Act} {x : World} {Q : Exit → Act → World → Prop} {K : Value → World → Prop}
theorem iv_val {v : Value} {x' : World} (h : (execOp a.eval o).run P x = .ok (.value v) x') (hK : K v x') : o.wp P a x (fun a' x' => ∃ v, a' = a.put o.dst v ∧ K v x') Q := by
  unfold Oper.wp; rw [h]; exact ⟨v, rfl, hK⟩
theorem iv_skip {x' : World} (h : (execOp a.eval o).run P x = .ok .skip x') (hK : K undef x') : o.wp P a x (fun a' x' => ∃ v, a' = a.put o.dst v ∧ K v x') Q := by
  unfold Oper.wp; rw [h]; exact ⟨undef, rfl, hK⟩
end
end
section
section
variable {P : Program} {C : World → Prop}
/-- o waits for operation j. -/
def dep (o : Oper) (j : Nat) : Bool := o.after.any fun e => Region.binds .any e && e.on == j
end
end
section
theorem _root_.Go.Proofs.YtpdckpifhniioaaGreat.Grow.cell {x y : World} (h : Grow x y) {a : Addr} {v : Value} (hc : x.cell? a = some v) : y.cell? a = some v := by
  have hb : a.block < x.heap.size := by
    by_cases hb : a.block < x.heap.size
    · exact hb
    · unfold World.cell? at hc; rw [Array.getElem?_eq_none (by omega)] at hc; simp at hc
  have : y.cell? a = x.cell? a := by unfold World.cell?; rw [Below.block h _ hb]
  rw [this, hc]
theorem _root_.Go.Proofs.YtpdckpifhniioaaGreat.Grow.frozen {x y : World} (h : Grow x y) {b o : Nat} (hb : b < x.heap.size) : y.frozen? ⟨b, o, none⟩ = x.frozen? ⟨b, o, none⟩ := by
  unfold World.frozen?; rw [Below.block h _ hb]
theorem _root_.Go.Proofs.YtpdckpifhniioaaGreat.Grow.size {x y : World} (h : Grow x y) : x.heap.size ≤ y.heap.size := Below.size h
theorem _root_.Go.Proofs.YtpdckpifhniioaaGreat.Grow.below {x y : World} {b : Nat} (h : Grow x y) (hb : b ≤ x.heap.size) : Below b x y := Below.mono h hb
theorem ltk1 {a b : Nat} (h : a < b) : a < b + 1 := by omega
theorem ltk2 {a b : Nat} (h : a < b) : a < b + 1 + 1 := by omega
theorem ltk3 {a b : Nat} (h : a < b) : a < b + 1 + 1 + 1 := by omega
theorem ltk4 {a b : Nat} (h : a < b) : a < b + 1 + 1 + 1 + 1 := by omega
theorem ltk5 {a b : Nat} (h : a < b) : a < b + 1 + 1 + 1 + 1 + 1 := by omega
theorem ltk6 {a b : Nat} (h : a < b) : a < b + 1 + 1 + 1 + 1 + 1 + 1 := by omega
theorem ltk7 {a b : Nat} (h : a < b) : a < b + 1 + 1 + 1 + 1 + 1 + 1 + 1 := by omega
theorem ltk8 {a b : Nat} (h : a < b) : a < b + 1 + 1 + 1 + 1 + 1 + 1 + 1 + 1 := by omega
attribute [go_sem] ltk1 ltk2 ltk3 ltk4 ltk5 ltk6 ltk7 ltk8
theorem _root_.Go.Proofs.YtpdckpifhniioaaGreat.Grow.a {x y : World} (h : Grow x y) (o : Obj) : Grow x (y.alloc o) := h.trans (Grow.alloc y o)
theorem _root_.Go.Proofs.YtpdckpifhniioaaGreat.Grow.s {x y : World} (h : Grow x y) {p : Addr} (hp : x.heap.size ≤ p.block) (v : Value) : Grow x (y.setCell p v) := Below.setCell h hp v
theorem _root_.Go.Proofs.YtpdckpifhniioaaGreat.Grow.d {x y : World} (h : Grow x y) : Grow x y.drew := Below.drew h
section
variable {P : Program}
end
end
section
/-- n cells. -/
def cv (n : Nat) (C : Nat → Value) : Array Value := ((List.range n).map C).toArray
theorem cv_size (n : Nat) (C : Nat → Value) : (cv n C).size = n := by simp [cv]
theorem cv_at (n : Nat) (C : Nat → Value) (i : Nat) (h : i < n) : (cv n C)[i]? = some (C i) := by simp [cv, h]
theorem cv_none (n : Nat) (C : Nat → Value) (i : Nat) (h : n ≤ i) : (cv n C)[i]? = none := by simp [cv, h]
theorem cv_congr (n : Nat) (C D : Nat → Value) (h : ∀ i, i < n → C i = D i) : cv n C = cv n D := by
  unfold cv
  congr 1
  exact List.map_congr_left fun i hi => h i (by simpa using hi)
def vput (C : Nat → Value) (i : Nat) (v : Value) : Nat → Value := fun k => if k = i then v else C k
theorem cv_set (n : Nat) (C : Nat → Value) (i : Nat) (v : Value) : (cv n C).setIfInBounds i v = cv n (vput C i v) := by
  apply Array.ext_getElem?
  intro j
  rw [Array.getElem?_setIfInBounds]
  by_cases hj : j < n
  · have h1 := cv_at n C j hj
    have h2 := cv_at n (vput C i v) j hj
    by_cases e : i = j
    · subst e
      rw [if_pos rfl, if_pos (by rw [cv_size]; exact hj), h2]
      simp [vput]
    · rw [if_neg e, h1, h2]
      simp [vput, Ne.symm e]
  · have h1 := cv_none n C j (by omega)
    have h2 := cv_none n (vput C i v) j (by omega)
    by_cases e : i = j
    · subst e
      rw [if_pos rfl, if_neg (by rw [cv_size]; exact hj), h2]
    · rw [if_neg e, h1, h2]
/-- Block g holds the n cells C. -/
def Blk (w : World) (g : Nat) (t : TypeId) (n : Nat) (C : Nat → Value) : Prop := w.heap[g]? = some (.cells (cv n C) t (0, 0))
theorem Blk.lt {w g t n C} (h : Blk w g t n C) : g < w.heap.size := (Array.getElem?_eq_some_iff.1 h).1
theorem Blk.cell {w g t n C} (h : Blk w g t n C) (i : Nat) (hi : i < n) : w.cell? ⟨g, i, none⟩ = some (C i) := by
  rw [cell_of_row w g i _ _ _ h]; exact cv_at n C i hi
theorem Blk.free {w g t n C} (h : Blk w g t n C) (i : Nat) : w.frozen? ⟨g, i, none⟩ = false := frozen_of_row w g i _ _ h
theorem Blk.set {w g t n C} (h : Blk w g t n C) (i : Nat) (v : Value) : Blk (w.setCell ⟨g, i, none⟩ v) g t n (vput C i v) := by
  unfold Blk; rw [heap_setCell_same _ _ _ _ _ _ h, cv_set]
theorem Blk.other {w g t n C} (h : Blk w g t n C) (a : Addr) (v : Value) (hne : g ≠ a.block) : Blk (w.setCell a v) g t n C := by
  unfold Blk; rw [heap_setCell_other _ _ _ _ hne]; exact h
theorem Blk.grow {w w' g t n C} (h : Blk w g t n C) (hg : Grow w w') : Blk w' g t n C := hg.block h
theorem Blk.congr {w g t n C D} (h : Blk w g t n C) (he : ∀ i, i < n → C i = D i) : Blk w g t n D := by
  unfold Blk at h ⊢; rw [h, cv_congr n C D he]
theorem Blk.eq {w g t n C D} (h : Blk w g t n C) (k : Blk w g t n D) (i : Nat) (hi : i < n) : C i = D i := by
  have h1 := h.cell i hi
  rw [k.cell i hi] at h1
  exact (Option.some.inj h1).symm
/-- The cells of the program's coder; behind them those of X. -/
def cc (p : Nat → Int) (lo en : Int) (X : Nat → Value) : Nat → Value := fun i => if i < 256 then .int .i16 (p i - 2048) else if i = 256 then .int .u32 lo else if i = 257 then .int .u32 en else X i
theorem cc_p {p lo en X} (i : Nat) (h : i < 256) : cc p lo en X i = .int .i16 (p i - 2048) := by simp [cc, h]
theorem cc_lo {p lo en X} : cc p lo en X 256 = .int .u32 lo := by simp [cc]
theorem cc_en {p lo en X} : cc p lo en X 257 = .int .u32 en := by simp [cc]
theorem cc_x {p lo en X} (i : Nat) (h : 258 ≤ i) : cc p lo en X i = X i := by unfold cc; rw [if_neg (by omega), if_neg (by omega), if_neg (by omega)]
theorem cc_put_p {p lo en X} (i : Nat) (h : i < 256) (v : Int) : vput (cc p lo en X) i (.int .i16 (v - 2048)) = cc (M.put p i v) lo en X := by
  funext k
  unfold vput cc M.put
  by_cases e : k = i
  · subst e; simp [h]
  · simp [e]
theorem cc_put_lo {p lo en X} (v : Int) : vput (cc p lo en X) 256 (.int .u32 v) = cc p v en X := by
  funext k
  unfold vput cc
  by_cases e : k = 256
  · subst e; simp
  · simp [e]
theorem cc_put_en {p lo en X} (v : Int) : vput (cc p lo en X) 257 (.int .u32 v) = cc p lo v X := by
  funext k
  unfold vput cc
  by_cases e : k = 257
  · subst e; simp
  · simp [e]
theorem cc_put_x {p lo en X} (i : Nat) (h : 258 ≤ i) (v : Value) : vput (cc p lo en X) i v = cc p lo en (vput X i v) := by
  funext k
  unfold vput cc
  by_cases e : k = i
  · subst e; simp [show ¬ k < 256 by omega, show k ≠ 256 by omega, show k ≠ 257 by omega]
  · simp [e]
theorem and_mask (n : Int) (k : Nat) (m : Int) (hk : k ≤ 8) (hm : (BitVec.ofInt 64 m).toNat = 2 ^ k - 1) : bits .and .i64 n m = n % (2 ^ k : Nat) := by
  have key : (BitVec.ofInt 64 n &&& BitVec.ofInt 64 m).toNat = (n % ((2 ^ 64 : Nat) : Int)).toNat % 2 ^ k := by
    rw [BitVec.toNat_and, BitVec.toNat_ofInt, hm, Nat.and_two_pow_sub_one_eq_mod]
  show IntKind.i64.wrap ((BitVec.ofInt 64 n &&& BitVec.ofInt 64 m).toNat : Nat) = n % (2 ^ k : Nat)
  rw [key, IntKind.wrap_i64]
  have h2 : 2 ^ k ≤ 2 ^ 8 := Nat.pow_le_pow_right (by omega) hk
  obtain rfl | rfl | rfl | rfl | rfl | rfl | rfl | rfl | rfl : k = 0 ∨ k = 1 ∨ k = 2 ∨ k = 3 ∨ k = 4 ∨ k = 5 ∨ k = 6 ∨ k = 7 ∨ k = 8 := by omega
  all_goals omega
theorem and_255 (n : Int) : bits .and .i64 n 255 = n % 256 := and_mask n 8 255 (by omega) (by decide)
theorem and_1 (n : Int) : bits .and .i64 n 1 = n % 2 := and_mask n 1 1 (by omega) (by decide)
theorem not_nat (c : Nat) (h : c < 4294967296) : 4294967295 ^^^ c = 4294967295 - c := by
  apply Nat.eq_of_testBit_eq
  intro i
  have h1 := Nat.testBit_two_pow_sub_succ (x := c) (n := 32) h i
  have h2 := Nat.testBit_two_pow_sub_one 32 i
  rw [show 4294967295 - c = 2 ^ 32 - (c + 1) by omega, h1, Nat.testBit_xor, show (4294967295 : Nat) = 2 ^ 32 - 1 from rfl, h2]
  by_cases hi : i < 32
  · simp [hi]
  · have : c.testBit i = false := Nat.testBit_lt_two_pow (Nat.lt_of_lt_of_le (show c < 2 ^ 32 from h) (Nat.pow_le_pow_right (by omega) (by omega : 32 ≤ i)))
    simp [hi, this]
theorem not_u32 (x : Int) (h0 : 0 ≤ x) (h1 : x ≤ 4294967295) : bits .xor .u32 IntKind.u32.max x = 4294967295 - x := by
  obtain ⟨c, rfl⟩ : ∃ c : Nat, x = c := ⟨x.toNat, by omega⟩
  have h := u32_xor_nat 4294967295 c (by omega) (by omega)
  rw [not_nat c (by omega)] at h
  have e : ((4294967295 - c : Nat) : Int) = 4294967295 - (c : Int) := by omega
  rw [← e]; exact h
theorem w32 (n : Int) (h0 : 0 ≤ n) (h1 : n ≤ 4294967295) : IntKind.u32.wrap n = n := by rw [IntKind.wrap_u32]; omega
set_option maxRecDepth 100000 in
theorem high_any (g : Nat) (hi : Int) (h0 : 0 ≤ hi) (h1 : hi ≤ 4294967295) (w : World) (hc : w.cell? ⟨g, 257, none⟩ = some (.int .u32 (4294967295 - hi))) :
    Calls Tryz.prog 203 #[.pointer (some ⟨g, 0, none⟩)] w fun e w' => e = .returned (.int .u32 hi) ∧ w = w' := by
  have hn := not_u32 (4294967295 - hi) (by omega) (by omega)
  rw [show 4294967295 - (4294967295 - hi) = hi by omega] at hn
  go_enter Tryz.func203, Tryz.ntmps203
  go_wp2
  go_ret
  exact ⟨rfl, rfl⟩
/-- The place of a context. -/
def cx (c : Int) : Nat := (c % 256).toNat
theorem cx_lt (c : Int) : cx c < 256 := by unfold cx; omega
theorem cx_val (c : Int) : ((cx c : Nat) : Int) = c % 256 := by unfold cx; omega
set_option maxRecDepth 100000 in
set_option maxHeartbeats 1000000 in
theorem mid_any (g : Nat) (s : M.St) (hs : M.Ok s) (c : Int) (w : World) (hp : w.cell? ⟨g, cx c, none⟩ = some (.int .i16 (s.p (cx c) - 2048))) (hl : w.cell? ⟨g, 256, none⟩ = some (.int .u32 s.lo)) (he : w.cell? ⟨g, 257, none⟩ = some (.int .u32 (4294967295 - s.hi))) :
    Calls Tryz.prog 202 #[.pointer (some ⟨g, 0, none⟩), .int .i64 c] w fun e w' => e = .returned (.int .u32 (M.md s (cx c))) ∧ ∃ n, w' = w.drewN n := by
  obtain ⟨p1, p2⟩ := hs.p (cx c)
  obtain ⟨m1, m2⟩ := M.md_bd hs (cx c)
  have l0 := hs.lo
  have le := hs.le
  have l1 := hs.hi
  have hm : M.md s (cx c) = s.lo + (s.hi - s.lo) / 4096 * s.p (cx c) := rfl
  rw [hm]
  clear hm
  have ha := and_255 c
  rw [← cx_val] at ha
  have hk := cx_lt c
  have HI := Lib.hid (high_any g s.hi (by omega) l1)
  clear hs
  go_enter Tryz.func202, Tryz.ntmps202
  go_wp2
  refine q_region (C := fun x => ∃ n, x = w.drewN n) (by kernel_rfl) (by kernel_rfl) ⟨1, rfl⟩ ?_
  repeat (first
    | go_big_quiet_skip
    | (go_big_quiet_want; refine q_val ?_; apply Exists.intro; refine ⟨fun x hx => ?_, ?_⟩; (focus (obtain ⟨n, rfl⟩ := hx; go_simp <;> rfl)); simp only [Act.put, List.setIfInBounds_toArray, List.set_cons_zero, List.set_cons_succ]; go_big_quiet_on)
    | (go_big_quiet_want; refine q_call 203 ?_; apply Exists.intro; refine ⟨fun x hx => ?_, ?_⟩; (focus (go_simp <;> rfl)); apply Exists.intro; refine ⟨fun x hx => ?_, ?_⟩; (focus (obtain ⟨n, rfl⟩ := hx; exact (HI.out (w.drewN n) he).mono fun e w' h => ⟨h.1, n, h.2.symm⟩)); simp only [Act.put, List.setIfInBounds_toArray, List.set_cons_zero, List.set_cons_succ]; go_big_quiet_on))
  refine wpQuiet_nil ?_
  rintro x ⟨n, rfl⟩
  go_wp2
  go_ret
  refine ⟨ret_int ?_, n, rfl⟩
  have e1 : (s.hi - s.lo).tdiv 4096 = (s.hi - s.lo) / 4096 := Int.tdiv_eq_ediv_of_nonneg (by omega)
  have e2 : 0 ≤ (s.hi - s.lo) / 4096 ∧ (s.hi - s.lo) / 4096 ≤ 4294967295 := by omega
  show IntKind.u32.wrap (s.lo + IntKind.u32.wrap (IntKind.u32.wrap ((IntKind.u32.wrap (s.hi - s.lo)).tdiv 4096) * s.p (cx c))) = _
  rw [w32 (s.hi - s.lo) (by omega) (by omega), e1, w32 ((s.hi - s.lo) / 4096) (by omega) (by omega), w32 ((s.hi - s.lo) / 4096 * s.p (cx c)) (by omega) (by omega), w32 _ (by omega) (by omega)]
end
section
/-- Blocks that x had lie as they lay, but for g and the row. -/
structure Chg (g : Nat) (row : Option Nat) (x y : World) : Prop where
  os : y.os = x.os
  tape : y.tape = x.tape
  output : y.output = x.output
  size : x.heap.size ≤ y.heap.size
  block : ∀ k, k < x.heap.size → k ≠ g → some k ≠ row → y.heap[k]? = x.heap[k]?
theorem Chg.of_grow {g row x y} (h : Grow x y) : Chg g row x y := ⟨Below.os h, Below.tape h, Below.output h, Below.size h, fun k hk _ _ => Below.block h k hk⟩
theorem Chg.refl (g row x) : Chg g row x x := ⟨rfl, rfl, rfl, Nat.le_refl _, fun _ _ _ _ => rfl⟩
/-- The row is the old one or a new one. -/
def Nxt (row row' : Option Nat) (x : World) : Prop := row' = row ∨ ∃ k, row' = some k ∧ x.heap.size ≤ k
theorem Chg.trans {g row row' x y z} (h : Chg g row x y) (hr : Nxt row row' x) (k : Chg g row' y z) : Chg g row x z :=
  ⟨k.os.trans h.os, k.tape.trans h.tape, k.output.trans h.output, Nat.le_trans h.size k.size, fun j hj hg hrow => by
    rw [k.block j (Nat.lt_of_lt_of_le hj h.size) hg ?_, h.block j hj hg hrow]
    rcases hr with e | ⟨k', e, hk'⟩
    · rw [e]; exact hrow
    · rw [e]; intro e'; have := Option.some.inj e'; omega⟩
theorem Nxt.trans {row row' row'' x y} (h : Nxt row row' x) (hs : x.heap.size ≤ y.heap.size) (k : Nxt row' row'' y) : Nxt row row'' x := by
  rcases k with e | ⟨k, e, hk⟩
  · rw [e]; exact h
  · exact .inr ⟨k, e, Nat.le_trans hs hk⟩
theorem Chg.below {g row x y B} (h : Chg g row x y) (hg : B ≤ g) (hr : ∀ k, row = some k → B ≤ k) (hB : B ≤ x.heap.size) : Below B x y :=
  ⟨h.os, h.tape, h.output, h.size, fun k hk => h.block k (by omega) (by omega) (fun e => by have := hr k e.symm; omega)⟩
theorem Chg.blk {g row x y g' t n C} (h : Chg g row x y) (hb : Blk x g' t n C) (hg : g' ≠ g) (hr : some g' ≠ row) : Blk y g' t n C := by
  have := h.block g' hb.lt hg hr
  unfold Blk at hb ⊢; rw [this]; exact hb
theorem infoU8 : (Tryz.prog.info? 5).map (fun i => (i.zero, i.size, i.bytes)) = some (some (.int .u8 0), 1, 1) := by kernel_rfl
/-- A row of bytes lies in no block of another element type. -/
theorem row_ne {x : World} {B : Nat} {v : Value} {n : Nat} {xs : List Value} {g t : Nat} {c : Array Value} {fr : Nat × Nat} (h : x.ownsRow B 5 1 v n xs) (hg : x.heap[g]? = some (.cells c t fr)) (ht : t ≠ 5) : some g ≠ v.ownBlock := by
  rcases h.2 with ⟨rfl, _⟩ | ⟨k, cap, cur, rfl, _, hk, _⟩
  · simp [Value.ownBlock]
  · intro e
    have e : g = k := by simpa [Value.ownBlock] using e
    subst e
    rw [hg] at hk
    injection hk with hk
    injection hk with _ hk _
    exact ht hk
theorem own_mem {x : World} {B : Nat} {e : TypeId} {v : Value} {n : Nat} {xs : List Value} (h : x.ownsRow B e 1 v n xs) : ∃ o c, v = .slice o n c := by
  rcases h.2 with ⟨rfl, h0⟩ | ⟨g, cap, cur, rfl, _⟩
  · exact ⟨none, 0, by rw [h0]⟩
  · exact ⟨_, _, rfl⟩
section
variable {o : Oper} {ρ : Operand → Value} {x : World} {y : Operand}
theorem run_loadp (a : Addr) (q : Option Addr) (ho : o.op = .load 202 y) (hy : ρ y = .pointer (some a)) (hc : x.cell? a = some (.pointer q)) : (execOp ρ o).run Tryz.prog x = .ok (.value (.pointer q)) x := by
  unfold execOp; rw [ho]; simp only [hy]; go_simp
theorem run_nil (a : Addr) (ho : o.op = .nilCheck y) (hy : ρ y = .pointer (some a)) : (execOp ρ o).run Tryz.prog x = .ok (.value (.pointer (some a))) x := by
  unfold execOp; rw [ho]; simp only [hy]; go_simp
theorem run_fa1 (g : Nat) (ho : o.op = .fieldAddr 232 y 1) (hy : ρ y = .pointer (some ⟨g, 0, none⟩)) : (execOp ρ o).run Tryz.prog x = .ok (.value (.pointer (some ⟨g, 258, none⟩))) x := by
  unfold execOp; rw [ho]; simp only [hy]; go_simp
theorem run_loads (a : Addr) (s : Option Addr) (n c : Nat) (ho : o.op = .load 57 y) (hy : ρ y = .pointer (some a)) (hc : x.cell? a = some (.slice s n c)) : (execOp ρ o).run Tryz.prog x = .ok (.value (.slice s n c)) x := by
  unfold execOp; rw [ho]; simp only [hy]; go_simp
theorem run_mv (v : Value) (ho : o.op = .move y) (hy : ρ y = v) : (execOp ρ o).run Tryz.prog x = .ok (.value v) x := by
  unfold execOp; rw [ho]; simp only [hy]; go_simp
theorem run_bs1 (n : Int) (ho : o.op = .buildSlice 57 1 #[(0, y)]) (hy : ρ y = .int .u8 n) : (execOp ρ o).run Tryz.prog x = .ok (.value (.slice (some ⟨x.heap.size, 0, none⟩) 1 1)) (x.alloc (.cells #[.int .u8 n] 5)) := by
  unfold execOp; rw [ho]; simp [hy]; go_simp
theorem run_st (g i : Nat) (s : Option Addr) (n c : Nat) {z : Operand} (ho : o.op = .store 57 y z) (hy : ρ y = .pointer (some ⟨g, i, none⟩)) (hz : ρ z = .slice s n c) (u : Value) (hc : x.cell? ⟨g, i, none⟩ = some u) (hf : x.frozen? ⟨g, i, none⟩ = false) : (execOp ρ o).run Tryz.prog x = .ok .skip (x.setCell ⟨g, i, none⟩ (.slice s n c)) := by
  unfold execOp; rw [ho]; simp only [hy, hz]; go_simp
end
theorem run_app {o : Oper} {ρ : Operand → Value} {x x' : World} {y z : Operand} {v : Value} (s t : Value) (ho : o.op = .call { callee := .builtin .append, args := #[y, z], argTypes := #[57, 57] }) (hy : ρ y = s) (hz : ρ z = t) (h : (Builtin.append_ #[57, 57] o.type #[s, t]).run Tryz.prog x = .ok v x') : (execOp ρ o).run Tryz.prog x = .ok (.value v) x' := by
  unfold execOp; rw [ho]
  simp [resolve, invoke, builtin, hy, hz, h, Result.andThen]
/-- What the quiet operations yield. -/
def PT (g : Nat) (v : Value) (b : UInt8) (i : Nat) (u : Value) : Prop :=
  match i with
  | 0 | 1 | 2 | 8 => u = .pointer (some ⟨g, 0, none⟩)
  | 3 | 9 => u = .pointer (some ⟨g, 258, none⟩)
  | 4 => u = v
  | 5 => u = .int .u8 (b.toNat : Int)
  | _ => True
structure PI (w : World) (g bx B : Nat) (C : Nat → Value) (v : Value) (l : List UInt8) (b : UInt8) (D : Nat → Bool) (u : Nat → Value) (x : World) : Prop where
  val : ∀ i, D i = true → PT g v b i (u i)
  blk : D 10 = false → Blk x g 232 259 C
  box : x.heap[bx]? = some (.cells #[.pointer (some ⟨g, 0, none⟩)] 202 (0, 0))
  tmp : D 6 = true → D 7 = false → ∃ k, u 6 = .slice (some ⟨k, 0, none⟩) 1 1 ∧ x.heap[k]? = some (.cells #[.int .u8 (b.toNat : Int)] 5 (0, 0))
  old : D 7 = false → x.ownsRow B 5 1 v l.length (bvals l) ∧ Grow w x
  new : D 7 = true → x.ownsRow B 5 1 (u 7) (l.length + 1) (bvals (l ++ [b])) ∧ Nxt v.ownBlock (u 7).ownBlock w ∧ Chg g v.ownBlock w x
  fin : D 10 = true → Blk x g 232 259 (vput C 258 (u 7))
  last : D 10 = true → D 4 = true ∧ D 6 = true ∧ D 7 = true
  ord : D 7 = true → D 6 = true
theorem PI.quiet {w g bx B C v l b D u x} (h : PI w g bx B C v l b D u x) (i : Nat) (h6 : i ≠ 6) (h7 : i ≠ 7) (h10 : i ≠ 10) (z : Value) (hz : PT g v b i z) : PI w g bx B C v l b (fun j => if j = i then true else D j) (updv u i z) x := by
  have e6 : (if 6 = i then true else D 6) = D 6 := by rw [if_neg (Ne.symm h6)]
  have e7 : (if 7 = i then true else D 7) = D 7 := by rw [if_neg (Ne.symm h7)]
  have e10 : (if 10 = i then true else D 10) = D 10 := by rw [if_neg (Ne.symm h10)]
  have u6 : updv u i z 6 = u 6 := by simp [updv, Ne.symm h6]
  have u7 : updv u i z 7 = u 7 := by simp [updv, Ne.symm h7]
  refine ⟨fun j hj => ?_, fun hd => h.blk (e10 ▸ hd), h.box, fun a c => by rw [u6]; exact h.tmp (e6 ▸ a) (e7 ▸ c), fun c => h.old (e7 ▸ c), fun c => by rw [u7]; exact h.new (e7 ▸ c), fun c => by rw [u7]; exact h.fin (e10 ▸ c), fun c => ?_, fun c => ?_⟩
  · by_cases e : j = i
    · subst e; simp only [updv, if_pos]; exact hz
    · simp only [updv, if_neg e] at hj ⊢; exact h.val j hj
  · obtain ⟨a4, a6, a7⟩ := h.last (e10 ▸ c)
    show (if 4 = i then true else D 4) = true ∧ (if 6 = i then true else D 6) = true ∧ (if 7 = i then true else D 7) = true
    rw [a4, a6, a7]
    refine ⟨?_, ?_, ?_⟩ <;> split <;> rfl
  · show (if 6 = i then true else D 6) = true
    rw [e6]; exact h.ord (e7 ▸ c)
set_option maxRecDepth 100000 in
set_option maxHeartbeats 1000000 in
theorem push_w (B g bx : Nat) (C : Nat → Value) (v : Value) (l : List UInt8) (b : UInt8) (w : World) (hB : Blk w g 232 259 C) (hC : C 258 = v) (hown : w.ownsRow B 5 1 v l.length (bvals l)) (hbox : w.heap[bx]? = some (.cells #[.pointer (some ⟨g, 0, none⟩)] 202 (0, 0))) (hl : l.length ≤ 100000000) (hBw : B ≤ w.heap.size) :
    Calls Tryz.prog 188 #[.int .u8 (b.toNat : Int), .pointer (some ⟨bx, 0, none⟩)] w fun e w' => e = .returned (.tuple #[]) ∧ ∃ v', Blk w' g 232 259 (vput C 258 v') ∧ w'.ownsRow B 5 1 v' (l.length + 1) (bvals (l ++ [b])) ∧ Nxt v.ownBlock v'.ownBlock w ∧ Chg g v.ownBlock w w' := by
  obtain ⟨so, sc, rfl⟩ := own_mem hown
  obtain ⟨i0, hi, hz0, hz1, hz2⟩ := info_parts infoU8
  go_enter Tryz.func188, Tryz.ntmps188
  refine wp_region_invL ?lit ?hlit rfl (by kernel_rfl) (by kernel_rfl) (by kernel_rfl) (PI w g bx B C (.slice so l.length sc) l b) ?_ ?_ ?_
  case hlit =>
    intro u
    simp only [fill, Act.put, Nat.zero_add, Nat.reduceAdd, List.setIfInBounds_toArray, List.set_cons_zero, List.set_cons_succ]
    rfl
  · intro u
    exact ⟨fun i h => by simp at h, fun _ => hB, hbox, fun h _ => by simp at h, fun _ => ⟨hown, Grow.drew w⟩, fun h => by simp at h, fun h => by simp at h, fun h => by simp at h, fun h => by simp at h⟩
  · intro D u x i o ho hD hd hI
    have hi' : i < 11 := (List.getElem?_eq_some_iff.1 ho).1
    have cb : x.cell? ⟨bx, 0, none⟩ = some (.pointer (some ⟨g, 0, none⟩)) := by unfold World.cell?; rw [hI.box]; rfl
    obtain rfl | rfl | rfl | rfl | rfl | rfl | rfl | rfl | rfl | rfl | rfl : i = 0 ∨ i = 1 ∨ i = 2 ∨ i = 3 ∨ i = 4 ∨ i = 5 ∨ i = 6 ∨ i = 7 ∨ i = 8 ∨ i = 9 ∨ i = 10 := by omega
    · simp only [List.getElem?_cons_zero, Option.some.injEq] at ho; subst ho
      exact iv_val (run_loadp _ _ rfl rfl cb) (hI.quiet 0 (by omega) (by omega) (by omega) _ rfl)
    · simp only [List.getElem?_cons_succ, List.getElem?_cons_zero, Option.some.injEq] at ho; subst ho
      exact iv_val (run_loadp _ _ rfl rfl cb) (hI.quiet 1 (by omega) (by omega) (by omega) _ rfl)
    · simp only [List.getElem?_cons_succ, List.getElem?_cons_zero, Option.some.injEq] at ho; subst ho
      have e1 : u 1 = .pointer (some ⟨g, 0, none⟩) := hI.val 1 (hd 1 (by kernel_rfl))
      exact iv_val (run_nil _ rfl e1) (hI.quiet 2 (by omega) (by omega) (by omega) _ rfl)
    · simp only [List.getElem?_cons_succ, List.getElem?_cons_zero, Option.some.injEq] at ho; subst ho
      have e1 : u 2 = .pointer (some ⟨g, 0, none⟩) := hI.val 2 (hd 2 (by kernel_rfl))
      exact iv_val (run_fa1 g rfl e1) (hI.quiet 3 (by omega) (by omega) (by omega) _ rfl)
    · simp only [List.getElem?_cons_succ, List.getElem?_cons_zero, Option.some.injEq] at ho; subst ho
      have e1 : u 3 = .pointer (some ⟨g, 258, none⟩) := hI.val 3 (hd 3 (by kernel_rfl))
      have hn : D 10 = false := by
        cases h : D 10 with
        | false => rfl
        | true => have := (hI.last h).1; rw [hD] at this; cases this
      have hc := (hI.blk hn).cell 258 (by omega)
      rw [hC] at hc
      exact iv_val (run_loads _ _ _ _ rfl e1 hc) (hI.quiet 4 (by omega) (by omega) (by omega) _ rfl)
    · simp only [List.getElem?_cons_succ, List.getElem?_cons_zero, Option.some.injEq] at ho; subst ho
      exact iv_val (run_mv _ rfl rfl) (hI.quiet 5 (by omega) (by omega) (by omega) _ rfl)
    · simp only [List.getElem?_cons_succ, List.getElem?_cons_zero, Option.some.injEq] at ho; subst ho
      have e1 : u 5 = .int .u8 (b.toNat : Int) := hI.val 5 (hd 5 (by kernel_rfl))
      have hn : D 10 = false := by
        cases h : D 10 with
        | false => rfl
        | true => have := (hI.last h).2.1; rw [hD] at this; cases this
      have h7 : D 7 = false := by
        cases h : D 7 with
        | false => rfl
        | true => have := hI.ord h; rw [hD] at this; cases this
      obtain ⟨o1, o2⟩ := hI.old h7
      refine iv_val (run_bs1 _ rfl e1) ⟨fun j hj => ?_, fun _ => (hI.blk hn).grow (Grow.alloc _ _), (Grow.alloc _ _).block hI.box, fun _ _ => ⟨x.heap.size, by simp [updv], heap_alloc_new _ _⟩, fun _ => ⟨o1.alloc _, o2.a _⟩, fun c => ?_, fun c => ?_, fun c => ?_, fun _ => rfl⟩
      · by_cases e : j = 6
        · subst e; exact trivial
        · simp only [updv, if_neg e] at hj ⊢; exact hI.val j hj
      · simp [h7] at c
      · simp [hn] at c
      · simp [hn] at c
    · simp only [List.getElem?_cons_succ, List.getElem?_cons_zero, Option.some.injEq] at ho; subst ho
      have e4 : u 4 = .slice so l.length sc := hI.val 4 (hd 4 (by kernel_rfl))
      obtain ⟨k, e6, hk⟩ := hI.tmp (hd 6 (by kernel_rfl)) hD
      obtain ⟨o1, o2⟩ := hI.old hD
      have hn : D 10 = false := by
        cases h : D 10 with
        | false => rfl
        | true => have := (hI.last h).2.2; rw [hD] at this; cases this
      obtain ⟨v', x', hrun, r1, r2, r3, r4⟩ := run_append_own_at (P := Tryz.prog) x B 57 57 5 i0 (.int .u8 0) 1 1 Tryz.underlying57 hi hz0 hz1 hz2 rfl (by decide) (.slice so l.length sc) l.length (bvals l) o1 ⟨k, 0, none⟩ 1 1 [.int .u8 (b.toNat : Int)] rfl
        (by
          intro j y hj
          obtain rfl : j = 0 := by have := (List.getElem?_eq_some_iff.1 hj).1; simpa using this
          simp at hj; subst hj
          show x.cell? ⟨k, 0, none⟩ = _
          unfold World.cell?; rw [hk]; rfl)
        (by intro y hy; simp at hy; subst hy; rfl) (by simp [maxLen]; omega) (by omega) (Nat.le_trans hBw (Grow.size o2))
      have hbv : bvals l ++ [.int .u8 (b.toNat : Int)] = bvals (l ++ [b]) := by rw [bvals_append]; rfl
      rw [hbv] at r1
      have hblk := hI.blk hn
      refine iv_val (run_app _ _ rfl e4 e6 hrun) ⟨fun j hj => ?_, fun _ => ?_, ?_, fun _ c => ?_, fun c => ?_, fun _ => ⟨by simpa [updv] using r1, ?_, ?_⟩, fun c => ?_, fun c => ?_, fun _ => ?_⟩
      · by_cases e : j = 7
        · subst e; exact trivial
        · simp only [updv, if_neg e] at hj ⊢; exact hI.val j hj
      · have := r2.block g hblk.lt (row_ne o1 hblk (by decide))
        unfold Blk at hblk ⊢; rw [this]; exact hblk
      · rw [r2.block bx (Array.getElem?_eq_some_iff.1 hI.box).1 (row_ne o1 hI.box (by decide))]; exact hI.box
      · simp at c
      · simp at c
      · have e : updv u 7 v' 7 = v' := by simp [updv]
        rw [e]
        rcases r4 with r4 | r4
        · exact .inl r4
        · exact .inr ⟨_, r4, Grow.size o2⟩
      · exact (Chg.of_grow o2).trans (.inl rfl) ⟨r2.os, r2.tape, r2.output, r2.size, fun j hj _ hr => r2.block j hj hr⟩
      · simp [hn] at c
      · simp [hn] at c
      · exact hd 6 (by kernel_rfl)
    · simp only [List.getElem?_cons_succ, List.getElem?_cons_zero, Option.some.injEq] at ho; subst ho
      have e1 : u 0 = .pointer (some ⟨g, 0, none⟩) := hI.val 0 (hd 0 (by kernel_rfl))
      exact iv_val (run_nil _ rfl e1) (hI.quiet 8 (by omega) (by omega) (by omega) _ rfl)
    · simp only [List.getElem?_cons_succ, List.getElem?_cons_zero, Option.some.injEq] at ho; subst ho
      have e1 : u 8 = .pointer (some ⟨g, 0, none⟩) := hI.val 8 (hd 8 (by kernel_rfl))
      exact iv_val (run_fa1 g rfl e1) (hI.quiet 9 (by omega) (by omega) (by omega) _ rfl)
    · simp only [List.getElem?_cons_succ, List.getElem?_cons_zero, Option.some.injEq] at ho; subst ho
      have e9 : u 9 = .pointer (some ⟨g, 258, none⟩) := hI.val 9 (hd 9 (by kernel_rfl))
      have h7 := hd 7 (by kernel_rfl)
      obtain ⟨n1, n2, n3⟩ := hI.new h7
      obtain ⟨s7, c7, e7⟩ := own_mem n1
      have hblk := hI.blk hD
      have hgb : g ≠ bx := by
        intro e
        have := hI.box
        rw [← e, hblk] at this
        injection this with this
        injection this with _ this _
        exact absurd this (by decide)
      refine iv_skip (run_st g 258 s7 (l.length + 1) c7 rfl e9 e7 _ (hblk.cell 258 (by omega)) (hblk.free 258)) ⟨fun j hj => ?_, fun c => ?_, ?_, fun _ c => ?_, fun c => ?_, fun _ => ⟨?_, ?_, ?_⟩, fun _ => ?_, fun _ => ?_, fun _ => ?_⟩
      · by_cases e : j = 10
        · subst e; exact trivial
        · simp only [updv, if_neg e] at hj ⊢; exact hI.val j hj
      · simp at c
      · rw [heap_setCell_other _ _ _ _ (by simpa using Ne.symm hgb)]; exact hI.box
      · simp [h7] at c
      · simp [h7] at c
      · have e : updv u 10 undef 7 = u 7 := by simp [updv]
        rw [e]
        refine n1.kept (row := some g) ⟨rfl, rfl, rfl, by simp [World.setCell], fun j hj hr => heap_setCell_other _ _ _ _ (by intro e'; exact hr (by rw [e']))⟩ (.inr (row_ne n1 hblk (by decide)).symm)
      · have e : updv u 10 undef 7 = u 7 := by simp [updv]
        rw [e]; exact n2
      · exact ⟨n3.os, n3.tape, n3.output, by simp [World.setCell]; exact n3.size, fun j hj hg hr => by rw [heap_setCell_other _ _ _ _ (by simpa using hg)]; exact n3.block j hj hg hr⟩
      · have e : updv u 10 undef 7 = u 7 := by simp [updv]
        rw [e, e7]; exact hblk.set 258 _
      · show (if 4 = 10 then true else D 4) = true ∧ (if 6 = 10 then true else D 6) = true ∧ (if 7 = 10 then true else D 7) = true
        rw [if_neg (by omega), if_neg (by omega), if_neg (by omega)]
        exact ⟨hd 4 (by kernel_rfl), hd 6 (by kernel_rfl), hd 7 (by kernel_rfl)⟩
      · show (if 6 = 10 then true else D 6) = true
        rw [if_neg (by omega)]; exact hd 6 (by kernel_rfl)
  · intro D u x hD hI
    obtain ⟨n1, n2, n3⟩ := hI.new (hD 7 (by decide))
    have n4 := hI.fin (hD 10 (by decide))
    go_wp2
    exact bodyPost_end (results_none rfl _ _ _) rfl ⟨rfl, _, n4, n1, n2, n3⟩
end
section
/-- What the callback of narrow does, beside the block's coder cells. -/
structure CbW (g bx L : Nat) (Q : List UInt8 → (Nat → Value) → World → Prop) : Prop where
  set : ∀ l X Y w i v, i < 258 → Blk w g 232 259 Y → Q l X w → Q l X (w.setCell ⟨g, i, none⟩ v)
  drewN : ∀ l X w n, Q l X w → Q l X (w.drewN n)
  call : ∀ l X w p lo en b, Blk w g 232 259 (cc p lo en X) → Q l X w → l.length ≤ L → Calls Tryz.prog 188 #[.int .u8 (b.toNat : Int), .pointer (some ⟨bx, 0, none⟩)] w fun e w' => e = .returned (.tuple #[]) ∧ ∃ X', Blk w' g 232 259 (cc p lo en X') ∧ Q (l ++ [b]) X' w'
theorem w16 (n : Int) (h0 : -32768 ≤ n) (h1 : n ≤ 32767) : IntKind.i16.wrap n = n := by
  show (if (true && decide (n % 65536 ≥ 32768)) = true then n % 65536 - 65536 else n % 65536) = n
  by_cases h : n % 65536 ≥ 32768
  · rw [if_pos (by simp [h])]; omega
  · rw [if_neg (by simp [h])]; omega
set_option maxRecDepth 100000 in
set_option maxHeartbeats 2000000 in
theorem narrow_w {g bx L : Nat} {Q : List UInt8 → (Nat → Value) → World → Prop} (HC : Hid (CbW g bx L Q)) (s : M.St) (hs : M.Ok s) (c bit : Int) (X : Nat → Value) (l : List UInt8) (w : World)
    (hB : Blk w g 232 259 (cc s.p s.lo (4294967295 - s.hi) X)) (hQ : Q l X w) (hl : l.length + 4 ≤ L) :
    Calls Tryz.prog 187 #[.pointer (some ⟨g, 0, none⟩), .int .i64 c, .int .i64 bit, .func (.func 188) #[] #[.pointer (some ⟨bx, 0, none⟩)]] w fun e w' => e = .returned (.tuple #[]) ∧
      ∃ X', Blk w' g 232 259 (cc (M.nxt s (cx c) (bit % 2)).p (M.nxt s (cx c) (bit % 2)).lo (4294967295 - (M.nxt s (cx c) (bit % 2)).hi) X') ∧ Q (l ++ M.outB s (cx c) (bit % 2)) X' w' := by
  have hk := cx_lt c
  have c0 := hB.cell (cx c) (by omega)
  rw [cc_p _ hk] at c0
  have HM := Lib.hid (mid_any g s hs c w c0 (by rw [hB.cell 256 (by omega), cc_lo]) (by rw [hB.cell 257 (by omega), cc_en]))
  obtain ⟨p1, p2⟩ := hs.p (cx c)
  have HI := Lib.hid (M.iv1 hs (cx c) (bit % 2))
  have HX := Lib.hid (show M.nxt s (cx c) (bit % 2) = ⟨M.put s.p (cx c) (M.np (s.p (cx c)) (bit % 2)), (M.shs 4 (M.lo1 s (cx c) (bit % 2)) (M.hi1 s (cx c) (bit % 2))).2.1, (M.shs 4 (M.lo1 s (cx c) (bit % 2)) (M.hi1 s (cx c) (bit % 2))).2.2⟩ from rfl)
  have HO := Lib.hid (show M.outB s (cx c) (bit % 2) = (M.shs 4 (M.lo1 s (cx c) (bit % 2)) (M.hi1 s (cx c) (bit % 2))).1 from rfl)
  have hmd := M.md_in hs (cx c)
  have hl0 := hs.lo
  have hh1 := hs.hi
  have ha := and_255 c
  rw [← cx_val] at ha
  have hb := and_1 bit
  go_enter Tryz.func187, Tryz.ntmps187
  go_wp2_with fail
  refine HM.out.mono ?_
  rintro e x ⟨rfl, nn, rfl⟩
  have HB := Lib.hid (show Blk (w.drewN nn) g 232 259 (cc s.p s.lo (4294967295 - s.hi) X) from hB)
  have HQ := Lib.hid (HC.out.drewN _ _ _ nn hQ)
  clear HM hB hQ hs
  replace c0 : (w.drewN nn).cell? ⟨g, cx c, none⟩ = some (.int .i16 (s.p (cx c) - 2048)) := c0
  generalize w.drewN nn = W at *
  go_upto_if 28 with fail
  have m0 : 0 ≤ M.md s (cx c) := by omega
  have hn := not_u32 (M.md s (cx c)) m0 (by omega)
  have m1 : IntKind.u32.wrap (M.md s (cx c) + 1) = M.md s (cx c) + 1 := w32 _ (by omega) (by omega)
  have c6 : W.cell? ⟨g, 256, none⟩ = some (.int .u32 s.lo) := by rw [HB.out.cell 256 (by omega), cc_lo]
  have c7 : W.cell? ⟨g, 257, none⟩ = some (.int .u32 (4294967295 - s.hi)) := by rw [HB.out.cell 257 (by omega), cc_en]
  have f6 := HB.out.free 256
  have f7 := HB.out.free 257
  go_cut [10] (fun s10 wx => s10 = .int .i64 (M.np (s.p (cx c)) (bit % 2)) ∧ Blk wx g 232 259 (cc s.p (M.lo1 s (cx c) (bit % 2)) (4294967295 - M.hi1 s (cx c) (bit % 2)) X) ∧ Q l X wx)
  case first =>
    by_cases hbit : bit % 2 = 1
    · rw [hbit]
      go_wp2
      go_meet
      refine ⟨?_, ?_, HC.out.set _ _ _ _ _ _ (by omega) HB.out HQ.out⟩
      · unfold M.np; rw [if_pos hbit]
      · have := HB.out.set 257 (.int .u32 (4294967295 - M.md s (cx c)))
        rw [cc_put_en] at this
        rw [show M.lo1 s (cx c) (bit % 2) = s.lo from if_pos hbit, show M.hi1 s (cx c) (bit % 2) = M.md s (cx c) from if_pos hbit]
        exact this
    · obtain hbit : bit % 2 = 0 := by omega
      rw [hbit]
      go_wp2
      go_meet
      refine ⟨?_, ?_, HC.out.set _ _ _ _ _ _ (by omega) HB.out HQ.out⟩
      · unfold M.np; rw [if_neg (by omega)]
      · have := HB.out.set 256 (.int .u32 (M.md s (cx c) + 1))
        rw [cc_put_lo] at this
        rw [show M.lo1 s (cx c) (bit % 2) = M.md s (cx c) + 1 from if_neg (by omega), show M.hi1 s (cx c) (bit % 2) = s.hi from if_neg (by omega)]
        exact this
  case rest =>
  clear HB HQ hn m0 m1 c6 c7 f6 f7 c0 hmd hl0 hh1 hb
  obtain ⟨rfl, hB, hQ⟩ := hcut
  obtain ⟨W1, hW1⟩ : ∃ W1 : World, W1 = wc := ⟨_, rfl⟩
  subst hW1
  have n0 := M.np_bd ⟨p1, p2⟩ (bit % 2)
  have c0 := hB.cell (cx c) (by omega)
  rw [cc_p _ hk] at c0
  have f0 := hB.free (cx c)
  have HB := Lib.hid (cc_put_p (cx c) hk _ ▸ hB.set (cx c) (.int .i16 (M.np (s.p (cx c)) (bit % 2) - 2048)))
  have HQ := Lib.hid (HC.out.set _ _ _ _ (cx c) (.int .i16 (M.np (s.p (cx c)) (bit % 2) - 2048)) (by omega) hB hQ)
  clear hB hQ
  have hw1 : IntKind.i16.wrap (M.np (s.p (cx c)) (bit % 2) - 2048) = M.np (s.p (cx c)) (bit % 2) - 2048 := w16 _ (by omega) (by omega)
  generalize M.np (s.p (cx c)) (bit % 2) = np at *
  generalize M.lo1 s (cx c) (bit % 2) = lo0 at *
  generalize M.hi1 s (cx c) (bit % 2) = hi0 at *
  clear p1 p2
  go_upto_block 1 with fail
  go_loopg [11] 4 (fun k s11 wr => ∃ (l' : List UInt8) (lo hi : Int) (X' : Nat → Value), Hid (M.Iv k lo hi ∧ l' ++ (M.shs k lo hi).1 = l ++ (M.shs 4 lo0 hi0).1 ∧ (M.shs k lo hi).2 = (M.shs 4 lo0 hi0).2 ∧ l'.length + k ≤ l.length + 4 ∧ Blk wr g 232 259 (cc (M.put s.p (cx c) np) lo (4294967295 - hi) X') ∧ Q l' X' wr))
  case atStart => exact ⟨l, lo0, hi0, X, Lib.hid ⟨HI.out, rfl, rfl, Nat.le_refl _, HB.out, HQ.out⟩⟩
  case round =>
    obtain ⟨l', lo, hi, X', HR⟩ := hrel
    clear HB HQ HI
    obtain ⟨i1, i2, i3, i4, i5, i6⟩ := id HR.out
    have j0 := i1.lo
    have j1 := i1.le
    have j2 := i1.hi
    have c6 : wr.cell? ⟨g, 256, none⟩ = some (.int .u32 lo) := by rw [i5.cell 256 (by omega), cc_lo]
    have c7 : wr.cell? ⟨g, 257, none⟩ = some (.int .u32 (4294967295 - hi)) := by rw [i5.cell 257 (by omega), cc_en]
    have HI := Lib.hid (high_any g hi (by omega) j2)
    have f6 := i5.free 256
    have f7 := i5.free 257
    clear i1 i2 i3 i4 i5 i6
    go_upto_region 9 with fail
    refine q_region (C := fun x => ∃ n, x = wr.drewN n) (by kernel_rfl) (by kernel_rfl) ⟨1, rfl⟩ ?_
    repeat (first
      | go_big_quiet_skip
      | (go_big_quiet_want; refine q_val ?_; apply Exists.intro; refine ⟨fun x hx => ?_, ?_⟩; (focus (obtain ⟨n, rfl⟩ := hx; go_simp <;> rfl)); simp only [Act.put, List.setIfInBounds_toArray, List.set_cons_zero, List.set_cons_succ]; go_big_quiet_on)
      | (go_big_quiet_want; refine q_call 203 ?_; apply Exists.intro; refine ⟨fun x hx => ?_, ?_⟩; (focus (go_simp <;> rfl)); apply Exists.intro; refine ⟨fun x hx => ?_, ?_⟩; (focus (obtain ⟨n, rfl⟩ := hx; exact (HI.out (wr.drewN n) c7).mono fun e w' h => ⟨h.1, n, h.2.symm⟩)); simp only [Act.put, List.setIfInBounds_toArray, List.set_cons_zero, List.set_cons_succ]; go_big_quiet_on))
    refine wpQuiet_nil ?_
    rintro x ⟨n, rfl⟩
    have hgn : ∃ W2 : World, W2 = wr.drewN n := ⟨_, rfl⟩
    have HR2 := Lib.hid (show M.Iv gk lo hi ∧ l' ++ (M.shs gk lo hi).1 = l ++ (M.shs 4 lo0 hi0).1 ∧ (M.shs gk lo hi).2 = (M.shs 4 lo0 hi0).2 ∧ l'.length + gk ≤ l.length + 4 ∧ Blk (wr.drewN n) g 232 259 (cc (M.put s.p (cx c) np) lo (4294967295 - hi) X') ∧ Q l' X' (wr.drewN n) from
      ⟨HR.out.1, HR.out.2.1, HR.out.2.2.1, HR.out.2.2.2.1, HR.out.2.2.2.2.1, HC.out.drewN _ _ _ n HR.out.2.2.2.2.2⟩)
    replace c6 : (wr.drewN n).cell? ⟨g, 256, none⟩ = some (.int .u32 lo) := c6
    replace c7 : (wr.drewN n).cell? ⟨g, 257, none⟩ = some (.int .u32 (4294967295 - hi)) := c7
    replace f6 : (wr.drewN n).frozen? ⟨g, 256, none⟩ = false := f6
    replace f7 : (wr.drewN n).frozen? ⟨g, 257, none⟩ = false := f7
    clear HR HI hgn
    generalize wr.drewN n = W2 at *
    cases e : (lo / 16777216 == hi / 16777216) with
    | true =>
      have e' : lo / 16777216 = hi / 16777216 := by simpa using e
      obtain ⟨i1, i2, i3, i4, i5, i6⟩ := HR2.out
      clear HR2
      cases gk with
      | zero => exact absurd e' i1.stop
      | succ k =>
        rw [M.shs_eq k lo hi e'] at i2 i3
        have in' := i1.next e'
        have hby := (M.byt_val j0 (by omega)).symm
        have hB3 := i5.set 256 (.int .u32 (lo * 256 % 4294967296))
        rw [cc_put_lo] at hB3
        have hB4 := hB3.set 257 (.int .u32 (4294967295 - (hi * 256 + 255) % 4294967296))
        rw [cc_put_en] at hB4
        have hQ4 := HC.out.set _ _ _ _ 257 (.int .u32 (4294967295 - (hi * 256 + 255) % 4294967296)) (by omega) hB3 (HC.out.set _ _ _ _ 256 (.int .u32 (lo * 256 % 4294967296)) (by omega) i5 i6)
        have HK := Lib.hid (HC.out.call l' X' _ _ _ _ (M.byt lo) hB4 hQ4 (by omega))
        have HP := Lib.hid (And.intro i2 (And.intro i3 (And.intro i4 in')))
        have HE := Lib.hid e'
        rw [← hby] at HK
        have hen : 4294967295 - (hi * 256 + 255) % 4294967296 = (4294967295 - hi) * 256 % 4294967296 := by omega
        rw [hen] at HK
        replace hen := Lib.hid hen
        clear i1 i2 i3 i4 i5 i6 in' hB3 hB4 hQ4 hby e'
        go_wp2_with fail
        refine HK.out.mono ?_
        rintro e y ⟨rfl, X2, hB5, hQ5⟩
        go_wp2
        go_roundg k
        case measure => omega
        case rel =>
          obtain ⟨i2, i3, i4, in'⟩ := HP.out
          exact ⟨l' ++ [M.byt lo], _, _, X2, Lib.hid ⟨in', by rw [← i2, List.append_assoc]; rfl, i3, by rw [List.length_append, List.length_singleton]; omega, hen.out ▸ hB5, hQ5⟩⟩
    | false =>
      obtain ⟨i1, i2, i3, i4, i5, i6⟩ := HR2.out
      clear HR2
      go_wp2
      have e' : lo / 16777216 ≠ hi / 16777216 := by simpa using e
      rw [M.shs_ne _ lo hi e'] at i2 i3
      refine bodyPost_end (results_none rfl _ _ _) rfl ⟨rfl, X', ?_, ?_⟩
      · rw [HX.out]
        show Blk _ _ _ _ (cc _ (M.shs 4 _ _).2.1 (_ - (M.shs 4 _ _).2.2) _)
        rw [← i3]; exact i5
      · rw [HO.out, ← i2]; simpa using i6
end
section
theorem own_set {x : World} {B g : Nat} {Y : Nat → Value} {v : Value} {n : Nat} {xs : List Value} (h : x.ownsRow B 5 1 v n xs) (hb : Blk x g 232 259 Y) (i : Nat) (u : Value) : (x.setCell ⟨g, i, none⟩ u).ownsRow B 5 1 v n xs :=
  h.kept (row := some g) ⟨rfl, rfl, rfl, by simp [World.setCell], fun j hj hr => heap_setCell_other _ _ _ _ (by intro e'; exact hr (by rw [e']))⟩ (.inr (row_ne h hb (by decide)).symm)
theorem Chg.set {g row x y} (h : Chg g row x y) (i : Nat) (u : Value) : Chg g row x (y.setCell ⟨g, i, none⟩ u) :=
  ⟨h.os, h.tape, h.output, by simp [World.setCell]; exact h.size, fun j hj hg hr => by rw [heap_setCell_other _ _ _ _ (by simpa using hg)]; exact h.block j hj hg hr⟩
theorem blk_ne {x : World} {g bx t t' n : Nat} {Y : Nat → Value} {c : Array Value} {fr} (h : Blk x g t n Y) (k : x.heap[bx]? = some (.cells c t' fr)) (ht : t ≠ t') : bx ≠ g := by
  intro e
  subst e
  unfold Blk at h
  rw [h] at k
  injection k with k
  injection k with _ k _
  exact ht k
structure WQ (B g bx : Nat) (ro : Option Nat) (w1 : World) (l : List UInt8) (X : Nat → Value) (x : World) : Prop where
  bd : B ≤ x.heap.size
  own : x.ownsRow B 5 1 (X 258) l.length (bvals l)
  nxt : Nxt ro (X 258).ownBlock w1
  chg : Chg g ro w1 x
  box : x.heap[bx]? = some (.cells #[.pointer (some ⟨g, 0, none⟩)] 202 (0, 0))
theorem wq_cb (B g bx : Nat) (ro : Option Nat) (w1 : World) : CbW g bx 100000000 (WQ B g bx ro w1) where
  set := fun l X Y w i v hi hb h => ⟨by simp [World.setCell]; exact h.bd, own_set h.own hb i v, h.nxt, h.chg.set i v, by
    rw [heap_setCell_other _ _ _ _ (by simpa using blk_ne hb h.box (by decide))]; exact h.box⟩
  drewN := fun l X w n h => ⟨h.bd, h.own, h.nxt, ⟨h.chg.os, h.chg.tape, h.chg.output, h.chg.size, h.chg.block⟩, h.box⟩
  call := fun l X w p lo en b hb h hl => by
    refine (push_w B g bx (cc p lo en X) (X 258) l b w hb (cc_x 258 (by omega)) h.own h.box hl h.bd).mono ?_
    rintro e w' ⟨rfl, v', h1, h2, h3, h4⟩
    rw [cc_put_x 258 (by omega)] at h1
    have e2 : vput X 258 v' 258 = v' := by simp [vput]
    refine ⟨rfl, vput X 258 v', h1, ⟨Nat.le_trans h.bd h4.size, by rw [e2, List.length_append]; exact h2, by rw [e2]; exact h.nxt.trans h.chg.size h3, h.chg.trans h.nxt h4, ?_⟩⟩
    rw [h4.block bx (Array.getElem?_eq_some_iff.1 h.box).1 (blk_ne hb h.box (by decide)) (row_ne h.own h.box (by decide))]
    exact h.box
set_option maxRecDepth 100000 in
set_option maxHeartbeats 1000000 in
theorem bit_w (B g : Nat) (s : M.St) (hs : M.Ok s) (c bit : Int) (X : Nat → Value) (l : List UInt8) (w : World)
    (hB : Blk w g 232 259 (cc s.p s.lo (4294967295 - s.hi) X)) (hown : w.ownsRow B 5 1 (X 258) l.length (bvals l)) (hBw : B ≤ w.heap.size) (hl : l.length + 4 ≤ 100000000) :
    Calls Tryz.prog 156 #[.pointer (some ⟨g, 0, none⟩), .int .i64 c, .int .i64 bit] w fun e w' => e = .returned (.tuple #[]) ∧
      ∃ X', Blk w' g 232 259 (cc (M.nxt s (cx c) (bit % 2)).p (M.nxt s (cx c) (bit % 2)).lo (4294967295 - (M.nxt s (cx c) (bit % 2)).hi) X') ∧
        w'.ownsRow B 5 1 (X' 258) (l ++ M.outB s (cx c) (bit % 2)).length (bvals (l ++ M.outB s (cx c) (bit % 2))) ∧ Nxt (X 258).ownBlock (X' 258).ownBlock w ∧ Chg g (X 258).ownBlock w w' := by
  have h1 := hB.grow (Grow.alloc w (.cells #[.pointer (some ⟨g, 0, none⟩)] 202))
  have h2 : WQ B g w.heap.size (X 258).ownBlock (w.alloc (.cells #[.pointer (some ⟨g, 0, none⟩)] 202)) l X (w.alloc (.cells #[.pointer (some ⟨g, 0, none⟩)] 202)) :=
    ⟨Nat.le_trans hBw (Grow.size (Grow.alloc _ _)), hown.alloc _, .inl rfl, Chg.refl _ _ _, heap_alloc_new _ _⟩
  have HN := Lib.hid (narrow_w (Lib.hid (wq_cb B g w.heap.size (X 258).ownBlock (w.alloc (.cells #[.pointer (some ⟨g, 0, none⟩)] 202)))) s hs c bit X l _ h1 h2 hl)
  clear h1 h2 hB hown
  go_enter Tryz.func156, Tryz.ntmps156
  go_wp2_with fail
  refine HN.out.mono ?_
  rintro e x ⟨rfl, X', hB, hQ⟩
  go_wp2
  refine bodyPost_end (results_none rfl _ _ _) rfl ⟨rfl, X', hB, hQ.own, ?_, ?_⟩
  · rcases hQ.nxt with h | ⟨k, h, hk⟩
    · exact .inl h
    · exact .inr ⟨k, h, Nat.le_trans (Grow.size (Grow.alloc _ _)) hk⟩
  · exact (Chg.of_grow (Grow.alloc _ _)).trans (.inl rfl) hQ.chg
end
end Go.Proofs.YtpdckpifhniioaaGreat.Cod
end
section
set_option linter.unusedVariables false
set_option linter.unusedSimpArgs false
namespace Go.Proofs.YtpdckpifhniioaaGreat.Cod
open Go.RowKit
open Go.Proofs.YtpdckpifhniioaaGreat
section
theorem own_grow {w x : World} {B : Nat} {v : Value} {n : Nat} {xs : List Value} (h : w.ownsRow B 5 1 v n xs) (hg : Grow w x) : x.ownsRow B 5 1 v n xs := by
  obtain ⟨h1, h2⟩ := h
  refine ⟨h1, h2.imp id ?_⟩
  rintro ⟨g, cap, cur, e1, e2, e3, e4⟩
  exact ⟨g, cap, cur, e1, e2, hg.block e3, e4⟩
section
variable {o : Oper} {ρ : Operand → Value} {x : World} {y : Operand}
theorem run_asg (v : Value) (ho : o.op = .assign y) (hy : ρ y = v) : (execOp ρ o).run Tryz.prog x = .ok (.value v) x := by
  unfold execOp; rw [ho]; simp only [hy]; go_simp
theorem run_faz (t : TypeId) (f k : Nat) (g i : Nat) (ho : o.op = .fieldAddr 232 y 0) (hy : ρ y = .pointer (some ⟨g, 0, none⟩)) (_ : True = True) : (execOp ρ o).run Tryz.prog x = .ok (.value (.pointer (some ⟨g, 0, none⟩))) x := by
  unfold execOp; rw [ho]; simp only [hy]; go_simp
theorem run_faL (g : Nat) (ho : o.op = .fieldAddr 230 y 1) (hy : ρ y = .pointer (some ⟨g, 0, none⟩)) : (execOp ρ o).run Tryz.prog x = .ok (.value (.pointer (some ⟨g, 256, none⟩))) x := by
  unfold execOp; rw [ho]; simp only [hy]; go_simp
theorem run_ld32 (a : Addr) (n : Int) (ho : o.op = .load 110 y) (hy : ρ y = .pointer (some a)) (hc : x.cell? a = some (.int .u32 n)) : (execOp ρ o).run Tryz.prog x = .ok (.value (.int .u32 n)) x := by
  unfold execOp; rw [ho]; simp only [hy]; go_simp
theorem run_shr24 (n : Int) (h0 : 0 ≤ n) {t : TypeId} (ho : o.op = .binOp .shr 110 y (.const (.int .u64 24)) t) (hy : ρ y = .int .u32 n) (hk : ∀ v, ρ (.const v) = v := by intro v; rfl) : (execOp ρ o).run Tryz.prog x = .ok (.value (.int .u32 (n / 16777216))) x := by
  unfold execOp; rw [ho]; simp only [hy, hk]; go_simp
theorem run_shr16 (n : Int) (h0 : 0 ≤ n) {t : TypeId} (ho : o.op = .binOp .shr 110 y (.const (.int .u64 16)) t) (hy : ρ y = .int .u32 n) (hk : ∀ v, ρ (.const v) = v := by intro v; rfl) : (execOp ρ o).run Tryz.prog x = .ok (.value (.int .u32 (n / 65536))) x := by
  unfold execOp; rw [ho]; simp only [hy, hk]; go_simp
theorem run_shr8 (n : Int) (h0 : 0 ≤ n) {t : TypeId} (ho : o.op = .binOp .shr 110 y (.const (.int .u64 8)) t) (hy : ρ y = .int .u32 n) (hk : ∀ v, ρ (.const v) = v := by intro v; rfl) : (execOp ρ o).run Tryz.prog x = .ok (.value (.int .u32 (n / 256))) x := by
  unfold execOp; rw [ho]; simp only [hy, hk]; go_simp
theorem u8_of_int (n : Int) (h0 : 0 ≤ n) : IntKind.u8.wrap n = ((UInt8.ofNat n.toNat).toNat : Int) := by
  rw [M.ofNat_val, IntKind.wrap_u8]; omega
theorem run_cv8 (n : Int) (h0 : 0 ≤ n) (h1 : n ≤ 4294967295) (ho : o.op = .convert 110 5 y) (hy : ρ y = .int .u32 n) : (execOp ρ o).run Tryz.prog x = .ok (.value (.int .u8 ((UInt8.ofNat n.toNat).toNat : Int))) x := by
  rw [← u8_of_int n h0]
  unfold execOp; rw [ho]; simp only [hy]; go_simp
theorem run_cvo (B : Nat) (so : Option Addr) (sc : Nat) (l : List UInt8) (ho : o.op = .convert 57 9 y) (hy : ρ y = .slice so l.length sc) (h : x.ownsRow B 5 1 (.slice so l.length sc) l.length (bvals l)) : (execOp ρ o).run Tryz.prog x = .ok (.value (.string ⟨l.toArray⟩)) x := by
  have hc := conv_own (P := Tryz.prog) x 57 9 5 Tryz.underlying57 Tryz.underlying5 Tryz.underlying9 B _ _ l h
  unfold execOp; rw [ho]; simp only [hy]
  simp [hc, Result.andThen]
theorem run_cv4 (l : List UInt8) (h4 : l.length = 4) (b : Nat) (ho : o.op = .convert 57 9 y) (hy : ρ y = .slice (some ⟨b, 0, none⟩) 4 4) (hb : x.heap[b]? = some (.cells (bvals l).toArray 5 (0, 0))) : (execOp ρ o).run Tryz.prog x = .ok (.value (.string ⟨l.toArray⟩)) x := by
  have h := conv_row (P := Tryz.prog) x 57 9 5 Tryz.underlying57 Tryz.underlying5 Tryz.underlying9 b 5 (0, 0) _ hb 0 4 4 l h4 (fun j hj => by
    simp [bvals, hj])
  unfold execOp; rw [ho]; simp only [hy]
  simp [h, Result.andThen]
theorem run_bs4 (a b c d : Int) {y1 y2 y3 y4 : Operand} (ho : o.op = .buildSlice 57 4 #[(0, y1), (1, y2), (2, y3), (3, y4)]) (h1 : ρ y1 = .int .u8 a) (h2 : ρ y2 = .int .u8 b) (h3 : ρ y3 = .int .u8 c) (h4 : ρ y4 = .int .u8 d) : (execOp ρ o).run Tryz.prog x = .ok (.value (.slice (some ⟨x.heap.size, 0, none⟩) 4 4)) (x.alloc (.cells #[.int .u8 a, .int .u8 b, .int .u8 c, .int .u8 d] 5)) := by
  unfold execOp; rw [ho]; simp [h1, h2, h3, h4]; go_simp
theorem run_adds {y1 y2 : Operand} (s t : ByteArray) (ho : o.op = .binOp .add 9 y1 y2 9) (h1 : ρ y1 = .string s) (h2 : ρ y2 = .string t) (hl : s.size + t.size ≤ 1000000000) : (execOp ρ o).run Tryz.prog x = .ok (.value (.string (s ++ t))) x := by
  have hm : s.size + t.size ≤ 9223372036854775807 := by omega
  unfold execOp; rw [ho]; simp only [h1, h2]; go_simp
end
/-- What the operations of region 3 yield. -/
def BT (g : Nat) (lo : Int) (l : List UInt8) (so : Option Addr) (sc : Nat) (i : Nat) (v : Value) (x : World) : Prop :=
  match i with
  | 0 => v = (.pointer (some ⟨g, 0, none⟩))
  | 1 => v = (.pointer (some ⟨g, 0, none⟩))
  | 2 => v = (.pointer (some ⟨g, 258, none⟩))
  | 3 => v = (.slice so l.length sc)
  | 4 => v = (.string ⟨l.toArray⟩)
  | 5 => v = (.pointer (some ⟨g, 0, none⟩))
  | 6 => v = (.pointer (some ⟨g, 0, none⟩))
  | 7 => v = (.pointer (some ⟨g, 0, none⟩))
  | 8 => v = (.pointer (some ⟨g, 256, none⟩))
  | 9 => v = (.int .u32 lo)
  | 10 => v = (.int .u32 (lo / 16777216))
  | 11 => v = (.int .u8 ((UInt8.ofNat (lo / 16777216).toNat).toNat : Int))
  | 12 => v = (.pointer (some ⟨g, 0, none⟩))
  | 13 => v = (.pointer (some ⟨g, 0, none⟩))
  | 14 => v = (.pointer (some ⟨g, 0, none⟩))
  | 15 => v = (.pointer (some ⟨g, 256, none⟩))
  | 16 => v = (.int .u32 lo)
  | 17 => v = (.int .u32 (lo / 65536))
  | 18 => v = (.int .u8 ((UInt8.ofNat (lo / 65536).toNat).toNat : Int))
  | 19 => v = (.pointer (some ⟨g, 0, none⟩))
  | 20 => v = (.pointer (some ⟨g, 0, none⟩))
  | 21 => v = (.pointer (some ⟨g, 0, none⟩))
  | 22 => v = (.pointer (some ⟨g, 256, none⟩))
  | 23 => v = (.int .u32 lo)
  | 24 => v = (.int .u32 (lo / 256))
  | 25 => v = (.int .u8 ((UInt8.ofNat (lo / 256).toNat).toNat : Int))
  | 26 => v = (.pointer (some ⟨g, 0, none⟩))
  | 27 => v = (.pointer (some ⟨g, 0, none⟩))
  | 28 => v = (.pointer (some ⟨g, 0, none⟩))
  | 29 => v = (.pointer (some ⟨g, 256, none⟩))
  | 30 => v = (.int .u32 lo)
  | 31 => v = (.int .u8 ((UInt8.ofNat lo.toNat).toNat : Int))
  | 32 => ∃ b, v = .slice (some ⟨b, 0, none⟩) 4 4 ∧ x.heap[b]? = some (.cells (bvals (M.be4 lo)).toArray 5 (0, 0))
  | 33 => v = (.string ⟨(M.be4 lo).toArray⟩)
  | 34 => v = (.string (⟨l.toArray⟩ ++ ⟨(M.be4 lo).toArray⟩))
  | 35 => v = (.string (⟨l.toArray⟩ ++ ⟨(M.be4 lo).toArray⟩))
  | _ => True
set_option maxRecDepth 100000 in
set_option maxHeartbeats 8000000 in
theorem bytes_w (B g : Nat) (s : M.St) (hs : M.Ok s) (X : Nat → Value) (l : List UInt8) (w : World)
    (hB : Blk w g 232 259 (cc s.p s.lo (4294967295 - s.hi) X)) (hown : w.ownsRow B 5 1 (X 258) l.length (bvals l)) (hl : l.length ≤ 100000000) :
    Calls Tryz.prog 157 #[.pointer (some ⟨g, 0, none⟩)] w fun e w' => e = .returned (.string ⟨(l ++ M.be4 s.lo).toArray⟩) ∧ Grow w w' := by
  have h0 := hs.lo
  have h1 : s.lo ≤ 4294967295 := by have := hs.le; have := hs.hi; omega
  have c6 : w.cell? ⟨g, 256, none⟩ = some (.int .u32 s.lo) := by rw [hB.cell 256 (by omega), cc_lo]
  obtain ⟨so, sc, hv⟩ := own_mem hown
  have c8 : w.cell? ⟨g, 258, none⟩ = some (.slice so l.length sc) := by rw [hB.cell 258 (by omega), cc_x 258 (by omega), hv]
  rw [hv] at hown
  clear hB hs
  generalize s.lo = lo at *
  have hsz : (⟨l.toArray⟩ : ByteArray).size + (⟨(M.be4 lo).toArray⟩ : ByteArray).size ≤ 1000000000 := by
    show l.toArray.size + 4 ≤ _
    simp; omega
  have hres : (⟨l.toArray⟩ : ByteArray) ++ ⟨(M.be4 lo).toArray⟩ = ⟨(l ++ M.be4 lo).toArray⟩ := by
    apply ByteArray.ext; simp [ByteArray.data_append]
  go_enter Tryz.func157, Tryz.ntmps157
  go_upto_region 3 with fail
  refine wp_region_growL ?lit ?hlit (by kernel_rfl) (by kernel_rfl) (by kernel_rfl) (by kernel_rfl) (BT g lo l so sc) ?_ ?_
  case hlit =>
    intro u
    simp only [fill, Act.put, Nat.zero_add, Nat.reduceAdd, List.setIfInBounds_toArray, List.set_cons_zero, List.set_cons_succ]
    rfl
  · intro i o ho u x hx hd
    have hi : i < 36 := (List.getElem?_eq_some_iff.1 ho).1
    replace hx : Grow w x := hx
    obtain rfl | rfl | rfl | rfl | rfl | rfl | rfl | rfl | rfl | rfl | rfl | rfl | rfl | rfl | rfl | rfl | rfl | rfl | rfl | rfl | rfl | rfl | rfl | rfl | rfl | rfl | rfl | rfl | rfl | rfl | rfl | rfl | rfl | rfl | rfl | rfl : i = 0 ∨ i = 1 ∨ i = 2 ∨ i = 3 ∨ i = 4 ∨ i = 5 ∨ i = 6 ∨ i = 7 ∨ i = 8 ∨ i = 9 ∨ i = 10 ∨ i = 11 ∨ i = 12 ∨ i = 13 ∨ i = 14 ∨ i = 15 ∨ i = 16 ∨ i = 17 ∨ i = 18 ∨ i = 19 ∨ i = 20 ∨ i = 21 ∨ i = 22 ∨ i = 23 ∨ i = 24 ∨ i = 25 ∨ i = 26 ∨ i = 27 ∨ i = 28 ∨ i = 29 ∨ i = 30 ∨ i = 31 ∨ i = 32 ∨ i = 33 ∨ i = 34 ∨ i = 35 := by omega
    · simp only [List.getElem?_cons_zero, Option.some.injEq] at ho; subst ho
      exact gw_val (run_mv _ rfl rfl) (Grow.refl _) (Al.of rfl)
    · simp only [List.getElem?_cons_succ, List.getElem?_cons_zero, Option.some.injEq] at ho; subst ho
      have e1 : u 0 = (.pointer (some ⟨g, 0, none⟩)) := hd 0 (by kernel_rfl)
      exact gw_val (run_nil _ rfl e1) (Grow.refl _) (Al.of rfl)
    · simp only [List.getElem?_cons_succ, List.getElem?_cons_zero, Option.some.injEq] at ho; subst ho
      have e1 : u 1 = (.pointer (some ⟨g, 0, none⟩)) := hd 1 (by kernel_rfl)
      exact gw_val (run_fa1 g rfl e1) (Grow.refl _) (Al.of rfl)
    · simp only [List.getElem?_cons_succ, List.getElem?_cons_zero, Option.some.injEq] at ho; subst ho
      have e1 : u 2 = (.pointer (some ⟨g, 258, none⟩)) := hd 2 (by kernel_rfl)
      exact gw_val (run_loads _ _ _ _ rfl e1 (hx.cell c8)) (Grow.refl _) (Al.of rfl)
    · simp only [List.getElem?_cons_succ, List.getElem?_cons_zero, Option.some.injEq] at ho; subst ho
      have e1 : u 3 = (.slice so l.length sc) := hd 3 (by kernel_rfl)
      exact gw_val (run_cvo B so sc l rfl e1 (own_grow hown hx)) (Grow.refl _) (Al.of rfl)
    · simp only [List.getElem?_cons_succ, List.getElem?_cons_zero, Option.some.injEq] at ho; subst ho
      exact gw_val (run_mv _ rfl rfl) (Grow.refl _) (Al.of rfl)
    · simp only [List.getElem?_cons_succ, List.getElem?_cons_zero, Option.some.injEq] at ho; subst ho
      have e1 : u 5 = (.pointer (some ⟨g, 0, none⟩)) := hd 5 (by kernel_rfl)
      exact gw_val (run_nil _ rfl e1) (Grow.refl _) (Al.of rfl)
    · simp only [List.getElem?_cons_succ, List.getElem?_cons_zero, Option.some.injEq] at ho; subst ho
      have e1 : u 6 = (.pointer (some ⟨g, 0, none⟩)) := hd 6 (by kernel_rfl)
      exact gw_val (run_faz 232 0 0 g 0 rfl e1 (by kernel_rfl)) (Grow.refl _) (Al.of rfl)
    · simp only [List.getElem?_cons_succ, List.getElem?_cons_zero, Option.some.injEq] at ho; subst ho
      have e1 : u 7 = (.pointer (some ⟨g, 0, none⟩)) := hd 7 (by kernel_rfl)
      exact gw_val (run_faL g rfl e1) (Grow.refl _) (Al.of rfl)
    · simp only [List.getElem?_cons_succ, List.getElem?_cons_zero, Option.some.injEq] at ho; subst ho
      have e1 : u 8 = (.pointer (some ⟨g, 256, none⟩)) := hd 8 (by kernel_rfl)
      exact gw_val (run_ld32 _ _ rfl e1 (hx.cell c6)) (Grow.refl _) (Al.of rfl)
    · simp only [List.getElem?_cons_succ, List.getElem?_cons_zero, Option.some.injEq] at ho; subst ho
      have e1 : u 9 = (.int .u32 lo) := hd 9 (by kernel_rfl)
      exact gw_val (run_shr24 lo h0 rfl e1) (Grow.refl _) (Al.of rfl)
    · simp only [List.getElem?_cons_succ, List.getElem?_cons_zero, Option.some.injEq] at ho; subst ho
      have e1 : u 10 = (.int .u32 (lo / 16777216)) := hd 10 (by kernel_rfl)
      exact gw_val (run_cv8 (lo / 16777216) (by omega) (by omega) rfl e1) (Grow.refl _) (Al.of rfl)
    · simp only [List.getElem?_cons_succ, List.getElem?_cons_zero, Option.some.injEq] at ho; subst ho
      exact gw_val (run_mv _ rfl rfl) (Grow.refl _) (Al.of rfl)
    · simp only [List.getElem?_cons_succ, List.getElem?_cons_zero, Option.some.injEq] at ho; subst ho
      have e1 : u 12 = (.pointer (some ⟨g, 0, none⟩)) := hd 12 (by kernel_rfl)
      exact gw_val (run_nil _ rfl e1) (Grow.refl _) (Al.of rfl)
    · simp only [List.getElem?_cons_succ, List.getElem?_cons_zero, Option.some.injEq] at ho; subst ho
      have e1 : u 13 = (.pointer (some ⟨g, 0, none⟩)) := hd 13 (by kernel_rfl)
      exact gw_val (run_faz 232 0 0 g 0 rfl e1 (by kernel_rfl)) (Grow.refl _) (Al.of rfl)
    · simp only [List.getElem?_cons_succ, List.getElem?_cons_zero, Option.some.injEq] at ho; subst ho
      have e1 : u 14 = (.pointer (some ⟨g, 0, none⟩)) := hd 14 (by kernel_rfl)
      exact gw_val (run_faL g rfl e1) (Grow.refl _) (Al.of rfl)
    · simp only [List.getElem?_cons_succ, List.getElem?_cons_zero, Option.some.injEq] at ho; subst ho
      have e1 : u 15 = (.pointer (some ⟨g, 256, none⟩)) := hd 15 (by kernel_rfl)
      exact gw_val (run_ld32 _ _ rfl e1 (hx.cell c6)) (Grow.refl _) (Al.of rfl)
    · simp only [List.getElem?_cons_succ, List.getElem?_cons_zero, Option.some.injEq] at ho; subst ho
      have e1 : u 16 = (.int .u32 lo) := hd 16 (by kernel_rfl)
      exact gw_val (run_shr16 lo h0 rfl e1) (Grow.refl _) (Al.of rfl)
    · simp only [List.getElem?_cons_succ, List.getElem?_cons_zero, Option.some.injEq] at ho; subst ho
      have e1 : u 17 = (.int .u32 (lo / 65536)) := hd 17 (by kernel_rfl)
      exact gw_val (run_cv8 (lo / 65536) (by omega) (by omega) rfl e1) (Grow.refl _) (Al.of rfl)
    · simp only [List.getElem?_cons_succ, List.getElem?_cons_zero, Option.some.injEq] at ho; subst ho
      exact gw_val (run_mv _ rfl rfl) (Grow.refl _) (Al.of rfl)
    · simp only [List.getElem?_cons_succ, List.getElem?_cons_zero, Option.some.injEq] at ho; subst ho
      have e1 : u 19 = (.pointer (some ⟨g, 0, none⟩)) := hd 19 (by kernel_rfl)
      exact gw_val (run_nil _ rfl e1) (Grow.refl _) (Al.of rfl)
    · simp only [List.getElem?_cons_succ, List.getElem?_cons_zero, Option.some.injEq] at ho; subst ho
      have e1 : u 20 = (.pointer (some ⟨g, 0, none⟩)) := hd 20 (by kernel_rfl)
      exact gw_val (run_faz 232 0 0 g 0 rfl e1 (by kernel_rfl)) (Grow.refl _) (Al.of rfl)
    · simp only [List.getElem?_cons_succ, List.getElem?_cons_zero, Option.some.injEq] at ho; subst ho
      have e1 : u 21 = (.pointer (some ⟨g, 0, none⟩)) := hd 21 (by kernel_rfl)
      exact gw_val (run_faL g rfl e1) (Grow.refl _) (Al.of rfl)
    · simp only [List.getElem?_cons_succ, List.getElem?_cons_zero, Option.some.injEq] at ho; subst ho
      have e1 : u 22 = (.pointer (some ⟨g, 256, none⟩)) := hd 22 (by kernel_rfl)
      exact gw_val (run_ld32 _ _ rfl e1 (hx.cell c6)) (Grow.refl _) (Al.of rfl)
    · simp only [List.getElem?_cons_succ, List.getElem?_cons_zero, Option.some.injEq] at ho; subst ho
      have e1 : u 23 = (.int .u32 lo) := hd 23 (by kernel_rfl)
      exact gw_val (run_shr8 lo h0 rfl e1) (Grow.refl _) (Al.of rfl)
    · simp only [List.getElem?_cons_succ, List.getElem?_cons_zero, Option.some.injEq] at ho; subst ho
      have e1 : u 24 = (.int .u32 (lo / 256)) := hd 24 (by kernel_rfl)
      exact gw_val (run_cv8 (lo / 256) (by omega) (by omega) rfl e1) (Grow.refl _) (Al.of rfl)
    · simp only [List.getElem?_cons_succ, List.getElem?_cons_zero, Option.some.injEq] at ho; subst ho
      exact gw_val (run_mv _ rfl rfl) (Grow.refl _) (Al.of rfl)
    · simp only [List.getElem?_cons_succ, List.getElem?_cons_zero, Option.some.injEq] at ho; subst ho
      have e1 : u 26 = (.pointer (some ⟨g, 0, none⟩)) := hd 26 (by kernel_rfl)
      exact gw_val (run_nil _ rfl e1) (Grow.refl _) (Al.of rfl)
    · simp only [List.getElem?_cons_succ, List.getElem?_cons_zero, Option.some.injEq] at ho; subst ho
      have e1 : u 27 = (.pointer (some ⟨g, 0, none⟩)) := hd 27 (by kernel_rfl)
      exact gw_val (run_faz 232 0 0 g 0 rfl e1 (by kernel_rfl)) (Grow.refl _) (Al.of rfl)
    · simp only [List.getElem?_cons_succ, List.getElem?_cons_zero, Option.some.injEq] at ho; subst ho
      have e1 : u 28 = (.pointer (some ⟨g, 0, none⟩)) := hd 28 (by kernel_rfl)
      exact gw_val (run_faL g rfl e1) (Grow.refl _) (Al.of rfl)
    · simp only [List.getElem?_cons_succ, List.getElem?_cons_zero, Option.some.injEq] at ho; subst ho
      have e1 : u 29 = (.pointer (some ⟨g, 256, none⟩)) := hd 29 (by kernel_rfl)
      exact gw_val (run_ld32 _ _ rfl e1 (hx.cell c6)) (Grow.refl _) (Al.of rfl)
    · simp only [List.getElem?_cons_succ, List.getElem?_cons_zero, Option.some.injEq] at ho; subst ho
      have e1 : u 30 = (.int .u32 lo) := hd 30 (by kernel_rfl)
      exact gw_val (run_cv8 lo (by omega) (by omega) rfl e1) (Grow.refl _) (Al.of rfl)
    · simp only [List.getElem?_cons_succ, List.getElem?_cons_zero, Option.some.injEq] at ho; subst ho
      have e1 : u 11 = (.int .u8 ((UInt8.ofNat (lo / 16777216).toNat).toNat : Int)) := hd 11 (by kernel_rfl)
      have e2 : u 18 = (.int .u8 ((UInt8.ofNat (lo / 65536).toNat).toNat : Int)) := hd 18 (by kernel_rfl)
      have e3 : u 25 = (.int .u8 ((UInt8.ofNat (lo / 256).toNat).toNat : Int)) := hd 25 (by kernel_rfl)
      have e4 : u 31 = (.int .u8 ((UInt8.ofNat lo.toNat).toNat : Int)) := hd 31 (by kernel_rfl)
      exact gw_val (run_bs4 _ _ _ _ rfl e1 e2 e3 e4) (Grow.alloc _ _) (fun y gy => ⟨_, rfl, gy.block (heap_alloc_new _ _)⟩)
    · simp only [List.getElem?_cons_succ, List.getElem?_cons_zero, Option.some.injEq] at ho; subst ho
      obtain ⟨bk, e1, e2⟩ := hd 32 (by kernel_rfl)
      exact gw_val (run_cv4 (M.be4 lo) rfl bk rfl e1 e2) (Grow.refl _) (Al.of rfl)
    · simp only [List.getElem?_cons_succ, List.getElem?_cons_zero, Option.some.injEq] at ho; subst ho
      have e1 : u 4 = (.string ⟨l.toArray⟩) := hd 4 (by kernel_rfl)
      have e2 : u 33 = (.string ⟨(M.be4 lo).toArray⟩) := hd 33 (by kernel_rfl)
      exact gw_val (run_adds _ _ rfl e1 e2 hsz) (Grow.refl _) (Al.of rfl)
    · simp only [List.getElem?_cons_succ, List.getElem?_cons_zero, Option.some.injEq] at ho; subst ho
      have e1 : u 34 = (.string (⟨l.toArray⟩ ++ ⟨(M.be4 lo).toArray⟩)) := hd 34 (by kernel_rfl)
      exact gw_val (run_asg _ rfl e1) (Grow.refl _) (Al.of rfl)
  · intro u x hx hd
    replace hx : Grow w x := hx
    have e2 : u 35 = (.string (⟨l.toArray⟩ ++ ⟨(M.be4 lo).toArray⟩)) := hd 35 (by decide)
    rw [hres] at e2
    clear hd
    simp only [e2]
    go_wp2
    go_ret
    exact ⟨rfl, hx⟩
end
section
theorem Tryz.zero232 (w : World) : (zeroValue 232).run Tryz.prog w = .ok (.agg (cv 259 (cc M.start.p M.start.lo (4294967295 - M.start.hi) (fun _ => .slice none 0 0)))) w := by kernel_rfl
set_option maxRecDepth 100000 in
set_option maxHeartbeats 1000000 in
theorem newWriter_any (w : World) : Calls Tryz.prog 153 #[] w fun e w' => e = .returned (.pointer (some ⟨w.heap.size, 0, none⟩)) ∧ w' = w.alloc (.cells (cv 259 (cc M.start.p M.start.lo (4294967295 - M.start.hi) (fun _ => .slice none 0 0))) 232) := by
  have hz := Tryz.zero232
  generalize cv 259 (cc M.start.p M.start.lo (4294967295 - M.start.hi) (fun _ => .slice none 0 0)) = Z at *
  go_enter Tryz.func153, Tryz.ntmps153
  go_wp2
  go_ret
  exact ⟨rfl, rfl⟩
end
end Go.Proofs.YtpdckpifhniioaaGreat.Cod
end
section
set_option linter.unusedVariables false
set_option linter.unusedSimpArgs false
namespace Go.Proofs.YtpdckpifhniioaaGreat.Cod
open Go.RowKit
open Go.Proofs.YtpdckpifhniioaaGreat
section
/-- The value behind n bytes. -/
def vv (F : List UInt8) : Nat → Int
  | 0 => 0
  | n + 1 => vv F n * 256 % 4294967296 + M.at' F n
/-- The reader's cells behind the coder's. -/
def RX (f : ByteArray) (n : Nat) : Nat → Value := fun i => if i = 258 then .string f else if i = 259 then .int .i64 (n : Int) else .int .u32 (vv f.data.toList n)
theorem or_byte (v b : Int) (h0 : 0 ≤ v) (h1 : v ≤ 4294967295) (b0 : 0 ≤ b) (b1 : b ≤ 255) : bits .or .u32 (v * 256 % 4294967296) b = v * 256 % 4294967296 + b := by
  obtain ⟨k, hk⟩ : ∃ k : Nat, v % 16777216 = k := ⟨(v % 16777216).toNat, by omega⟩
  obtain ⟨c, rfl⟩ : ∃ c : Nat, b = c := ⟨b.toNat, by omega⟩
  have e : v * 256 % 4294967296 = ((k * 256 : Nat) : Int) := by omega
  have hb : k * 256 < 4294967296 := by omega
  rw [e]
  have h := u32_or_nat (k * 256) c (by omega) (by omega)
  rw [h]
  have : k * 256 ||| c = k * 256 + c := by
    have := Nat.shiftLeft_add_eq_or_of_lt (show c < 2 ^ 8 by omega) k
    rw [Nat.shiftLeft_eq] at this
    exact this.symm
  rw [this]; omega
end
section
end
section
/-- What the callback of narrow does, beside the block's coder cells. -/
structure CbR (g L : Nat) (Q : List UInt8 → (Nat → Value) → World → Prop) : Prop where
  set : ∀ l X Y w i v, i < 258 → Blk w g 259 261 Y → Q l X w → Q l X (w.setCell ⟨g, i, none⟩ v)
  drewN : ∀ l X w n, Q l X w → Q l X (w.drewN n)
  call : ∀ l X w p lo en b, Blk w g 259 261 (cc p lo en X) → Q l X w → l.length ≤ L → Calls Tryz.prog 207 #[.pointer (some ⟨g, 0, none⟩), .int .u8 (b.toNat : Int)] w fun e w' => e = .returned (.tuple #[]) ∧ ∃ X', Blk w' g 259 261 (cc p lo en X') ∧ Q (l ++ [b]) X' w'
end
section
structure RQ (g : Nat) (f : ByteArray) (n : Nat) (w1 : World) (l : List UInt8) (X : Nat → Value) (x : World) : Prop where
  cells : ∀ i, 258 ≤ i → i < 261 → X i = RX f (n + l.length) i
  chg : Chg g none w1 x
end
section
end
section
end
section
/-- A writer in block g: its state, its bytes, the block of its bytes. -/
structure WS (B g : Nat) (ro : Option Nat) (s : M.St) (l : List UInt8) (w : World) : Prop where
  ok : M.Ok s
  bd : B ≤ w.heap.size
  ge : B ≤ g
  ex : ∃ X, Blk w g 232 259 (cc s.p s.lo (4294967295 - s.hi) X) ∧ w.ownsRow B 5 1 (X 258) l.length (bvals l) ∧ (X 258).ownBlock = ro
theorem WS.lt {B g ro s l w} (h : WS B g ro s l w) : g < w.heap.size := by
  obtain ⟨X, h1, _⟩ := h.ex
  exact h1.lt
theorem WS.ro_ge {B g ro s l w} (h : WS B g ro s l w) (k : Nat) (e : ro = some k) : B ≤ k ∧ k < w.heap.size := by
  obtain ⟨X, h1, h2, h3⟩ := h.ex
  have h4 := h2.lt k (by rw [h3, e])
  exact ⟨h4.1, h4.2⟩
/-- A block of another element type is no row of bytes and no writer. -/
theorem WS.ne {B g ro s l w} (h : WS B g ro s l w) {k t : Nat} {c fr} (hk : w.heap[k]? = some (.cells c t fr)) (h5 : t ≠ 5) (h68 : t ≠ 232) : k ≠ g ∧ some k ≠ ro := by
  obtain ⟨X, h1, h2, h3⟩ := h.ex
  refine ⟨blk_ne h1 hk (Ne.symm h68), ?_⟩
  rw [← h3]; exact row_ne h2 hk h5
theorem WS.keep {B g ro s l w w'} (h : WS B g ro s l w) {g' ro'} (hc : Chg g' ro' w w') (h1 : g ≠ g') (h2 : some g ≠ ro') (h3 : ∀ k, ro = some k → k ≠ g' ∧ some k ≠ ro') : WS B g ro s l w' := by
  obtain ⟨X, x1, x2, x3⟩ := h.ex
  refine ⟨h.ok, Nat.le_trans h.bd hc.size, h.ge, X, ?_, ?_, x3⟩
  · have := hc.block g x1.lt h1 h2
    unfold Blk at x1 ⊢; rw [this]; exact x1
  · obtain ⟨y1, y2⟩ := x2
    refine ⟨y1, y2.imp id ?_⟩
    rintro ⟨k, cap, cur, e1, e2, e3, e4⟩
    have hk := h3 k (by rw [← x3, e1]; rfl)
    refine ⟨k, cap, cur, e1, e2, ?_, e4⟩
    rw [hc.block k (Array.getElem?_eq_some_iff.1 e3).1 hk.1 hk.2]; exact e3
theorem WS.grow {B g ro s l w w'} (h : WS B g ro s l w) (hg : Grow w w') : WS B g ro s l w' := by
  obtain ⟨X, x1, x2, x3⟩ := h.ex
  exact ⟨h.ok, Nat.le_trans h.bd (Below.size hg), h.ge, X, x1.grow hg, own_grow x2 hg, x3⟩
theorem newWriter_ws (w : World) : Calls Tryz.prog 153 #[] w fun e w' => e = .returned (.pointer (some ⟨w.heap.size, 0, none⟩)) ∧ WS w.heap.size w.heap.size none M.start [] w' ∧ Grow w w' := by
  refine (newWriter_any w).mono ?_
  rintro e w' ⟨rfl, rfl⟩
  refine ⟨rfl, ⟨M.start_ok, Grow.size (Grow.alloc _ _), Nat.le_refl _, _, heap_alloc_new _ _, ?_, ?_⟩, Grow.alloc _ _⟩
  · exact ⟨rfl, .inl ⟨rfl, rfl⟩⟩
  · rfl
theorem WS.lower {B B' g ro s l w} (h : WS B g ro s l w) (hB : B' ≤ B) : WS B' g ro s l w := by
  obtain ⟨X, x1, x2, x3⟩ := h.ex
  refine ⟨h.ok, Nat.le_trans hB h.bd, Nat.le_trans hB h.ge, X, x1, ?_, x3⟩
  obtain ⟨y1, y2⟩ := x2
  refine ⟨y1, y2.imp id ?_⟩
  rintro ⟨k, cap, cur, e1, e2, e3⟩
  exact ⟨k, cap, cur, e1, Nat.le_trans hB e2, e3⟩
theorem bit_ws {B g ro s l w} (h : WS B g ro s l w) (c bit : Int) (hl : l.length + 4 ≤ 100000000) :
    Calls Tryz.prog 156 #[.pointer (some ⟨g, 0, none⟩), .int .i64 c, .int .i64 bit] w fun e w' => e = .returned (.tuple #[]) ∧ ∃ ro', WS B g ro' (M.nxt s (cx c) (bit % 2)) (l ++ M.outB s (cx c) (bit % 2)) w' ∧ Nxt ro ro' w ∧ Chg g ro w w' := by
  obtain ⟨X, x1, x2, x3⟩ := h.ex
  refine (bit_w B g s h.ok c bit X l w x1 x2 h.bd hl).mono ?_
  rintro e w' ⟨rfl, X', y1, y2, y3, y4⟩
  rw [x3] at y3 y4
  exact ⟨rfl, _, ⟨M.nxt_ok h.ok _ _, Nat.le_trans h.bd y4.size, h.ge, X', y1, y2, rfl⟩, y3, y4⟩
theorem bytes_ws {B g ro s l w} (h : WS B g ro s l w) (hl : l.length ≤ 100000000) :
    Calls Tryz.prog 157 #[.pointer (some ⟨g, 0, none⟩)] w fun e w' => e = .returned (.string ⟨(l ++ M.be4 s.lo).toArray⟩) ∧ Grow w w' := by
  obtain ⟨X, x1, x2, x3⟩ := h.ex
  exact bytes_w B g s h.ok X l w x1 x2 hl
theorem WS.below {B g ro s l w w'} (h : WS B g ro s l w) (k : Chg g ro w w') : Below B w w' := k.below h.ge (fun j e => (h.ro_ge j e).1) h.bd
/-- A reader in block g of the text f, m bytes removed. -/
structure RS (g : Nat) (f : ByteArray) (m : Nat) (s : M.St) (w : World) : Prop where
  ok : M.Ok s
  ex : ∃ n, n - 4 = m ∧ Blk w g 259 261 (cc s.p s.lo (4294967295 - s.hi) (RX f n))
theorem RS.lt {g f m s w} (h : RS g f m s w) : g < w.heap.size := by
  obtain ⟨n, _, h1⟩ := h.ex
  exact h1.lt
theorem RS.grow {g f m s w w'} (h : RS g f m s w) (hg : Grow w w') : RS g f m s w' := by
  obtain ⟨n, h0, h1⟩ := h.ex
  exact ⟨h.ok, n, h0, h1.grow hg⟩
theorem RS.keep {g f m s w w' g' ro'} (h : RS g f m s w) (hc : Chg g' ro' w w') (h1 : g ≠ g') (h2 : some g ≠ ro') : RS g f m s w' := by
  obtain ⟨n, h0, x1⟩ := h.ex
  refine ⟨h.ok, n, h0, ?_⟩
  have := hc.block g x1.lt h1 h2
  unfold Blk at x1 ⊢; rw [this]; exact x1
end
end Go.Proofs.YtpdckpifhniioaaGreat.Cod
end
section
set_option linter.unusedVariables false
set_option linter.unusedSimpArgs false
namespace Go.Proofs.YtpdckpifhniioaaGreat.Cod
open Go.RowKit
open Go.Proofs.YtpdckpifhniioaaGreat
section
theorem enters_fn {f : FuncId} {fn : Func} {c : Code} (hf : Tryz.prog.funcs[f]? = some fn) (hname : (fn.name == "runtime.NumGoroutine") = false) (hb : fn.body = some c) (args : Array Value) (w : World) : (callFunc f args).run Tryz.prog w = .ok (.enter f args) w := by
  have h1 : fn.name ≠ "runtime.NumGoroutine" := by simpa using hname
  simp [callFunc, hf, h1, hb, mark]
/-- What a callback of each does: round k, the context, the bit. -/
structure CbE (fn : Nat) (cap : Array Value) (cx bt : Nat → Int) (I : Nat → World → Prop) : Prop where
  enters : ∀ args w, (callFunc fn args).run Tryz.prog w = .ok (.enter fn args) w
  start : cx 0 = 1
  next : ∀ k, k < 8 → cx (k + 1) = 2 * cx k + bt k
  bit : ∀ k, k < 8 → bt k = 0 ∨ bt k = 1
  call : ∀ k w, k < 8 → I k w → Calls Tryz.prog fn (#[.int .i64 (7 - (k : Int)), .int .i64 (cx k)] ++ cap) w fun e w' => e = .returned (.int .i64 (bt k)) ∧ I (k + 1) w'
theorem CbE.bd {fn cap cx bt I} (h : CbE fn cap cx bt I) : ∀ k, k ≤ 8 → 1 ≤ cx k ∧ cx k < 2 ^ (k + 1)
  | 0, _ => by rw [h.start]; decide
  | k + 1, hk => by
    have ih := h.bd k (by omega)
    have hb := h.bit k (by omega)
    rw [h.next k (by omega)]
    have : (2 : Int) ^ (k + 1 + 1) = 2 * 2 ^ (k + 1) := by rw [Int.pow_succ, Int.mul_comm]
    omega
set_option maxRecDepth 100000 in
set_option maxHeartbeats 1000000 in
theorem each_any (fn : Nat) (cap : Array Value) (cx bt : Nat → Int) (I : Nat → World → Prop) (H : Hid (CbE fn cap cx bt I)) (w : World) (h : I 0 w) :
    Calls Tryz.prog 154 #[.func (.func fn) #[] cap] w fun e w' => e = .returned (.tuple #[]) ∧ I 8 w' := by
  go_enter Tryz.func154, Tryz.ntmps154
  go_upto_block 2 with fail
  go_loopg [2, 3] 8 (fun k s2 s3 wr => k ≤ 8 ∧ s2 = .int .i64 (cx (8 - k)) ∧ s3 = .int .i64 ((k : Int) - 1) ∧ I (8 - k) wr)
  case atStart => exact ⟨Nat.le_refl _, by rw [H.out.start], rfl, h⟩
  case round =>
    obtain ⟨hk, rfl, rfl, hI⟩ := hrel
    cases gk with
    | zero =>
      go_wp2
      refine bodyPost_end (results_none rfl _ _ _) rfl ⟨rfl, hI⟩
    | succ k =>
      have e8 : 8 - (k + 1) + 1 = 8 - k := by omega
      have e7 : 7 - k + 1 = 8 - k := by omega
      have e77 : 8 - (k + 1) = 7 - k := by omega
      rw [e77] at hI
      have hc := H.out.call (7 - k) wr (by omega) hI
      rw [show 7 - ((7 - k : Nat) : Int) = (k : Int) by omega, e7] at hc
      have hn := H.out.next (7 - k) (by omega)
      rw [e7] at hn
      have hb0 := H.out.bd (7 - k) (by omega)
      have hp0 : (2 : Int) ^ (7 - k + 1) ≤ 512 := by
        have : (2 : Nat) ^ (7 - k + 1) ≤ 2 ^ 9 := Nat.pow_le_pow_right (by omega) (by omega)
        exact_mod_cast this
      have hen := Lib.hid H.out.enters
      have hb := H.out.bd (8 - k) (by omega)
      have hb2 := H.out.bit (7 - k) (by omega)
      have hp : (2 : Int) ^ (8 - k + 1) ≤ 512 := by
        have : (2 : Nat) ^ (8 - k + 1) ≤ 2 ^ 9 := Nat.pow_le_pow_right (by omega) (by omega)
        exact_mod_cast this
      replace hc := Lib.hid hc
      replace hn := Lib.hid hn
      go_wp2_with fail
      rw [hen.out, Oper.upon_enter]
      refine hc.out.mono ?_
      rintro e w' ⟨rfl, hI'⟩
      replace hn := hn.out
      go_wp2
      go_roundg k
      case measure => omega
      case rel => exact ⟨by omega, by rw [hn], rfl, hI'⟩
end
section
/-- The bit of a byte, the most significant one first. -/
theorem cb31_bit (x : UInt8) (k : Nat) (hk : k < 8) : (x.toNat : Int) / 2 ^ (7 - k) % 2 = (M.bitAt x.toNat k).2 := by
  unfold M.bitAt
  dsimp only
  rw [Int.natCast_emod, Int.natCast_ediv, Int.natCast_pow]
  rfl
set_option maxRecDepth 100000 in
set_option maxHeartbeats 1000000 in
theorem cb31 {B g sb ib wb : Nat} {ro : Option Nat} {s : M.St} {l : List UInt8} {f : ByteArray} {i : Nat} (hi : i < f.size) (w : World) (h : WS B g ro s l w) (hl : l.length + 4 ≤ 100000000)
    (h1 : w.heap[sb]? = some (.cells #[.string f] 9 (0, 0))) (h2 : w.heap[ib]? = some (.cells #[.int .i64 (i : Int)] 3 (0, 0))) (h3 : w.heap[wb]? = some (.cells #[.pointer (some ⟨g, 0, none⟩)] 202 (0, 0)))
    (k : Nat) (hk : k < 8) (c : Int) :
    Calls Tryz.prog 155 #[.int .i64 (7 - (k : Int)), .int .i64 c, .pointer (some ⟨sb, 0, none⟩), .pointer (some ⟨ib, 0, none⟩), .pointer (some ⟨wb, 0, none⟩)] w fun e w' =>
      e = .returned (.int .i64 (M.bitAt (f[i]).toNat k).2) ∧ ∃ ro', WS B g ro' (M.nxt s (cx c) (M.bitAt (f[i]).toNat k).2) (l ++ M.outB s (cx c) (M.bitAt (f[i]).toNat k).2) w' ∧ Nxt ro ro' w ∧ Chg g ro w w' := by
  have d1 : w.cell? ⟨sb, 0, none⟩ = some (.string f) := by rw [cell_of_row w sb 0 _ _ _ h1]; rfl
  have d2 : w.cell? ⟨ib, 0, none⟩ = some (.int .i64 (i : Int)) := by rw [cell_of_row w ib 0 _ _ _ h2]; rfl
  have d3 : w.cell? ⟨wb, 0, none⟩ = some (.pointer (some ⟨g, 0, none⟩)) := by rw [cell_of_row w wb 0 _ _ _ h3]; rfl
  obtain ⟨bt, hbt⟩ : ∃ bt, bt = (M.bitAt (f[i]).toNat k).2 := ⟨_, rfl⟩
  have hb01 : bt = 0 ∨ bt = 1 := by rw [hbt]; exact M.bitAt_bit _ _
  have hb := cb31_bit f[i] k hk
  rw [← hbt] at hb ⊢
  have HW := Lib.hid (bit_ws h c bt hl)
  rw [show bt % 2 = bt by omega] at HW
  clear h h1 h2 h3 hbt
  replace hb01 := Lib.hid hb01
  go_enter Tryz.func155, Tryz.ntmps155
  go_wp2_with fail
  have heq : bits .and .i64 (wrap64 ((f[i].toNat : Int) / 2 ^ (7 - k))) 1 = bt := by
    have hx := (f[i]).toNat_lt
    have h1 : (1 : Int) ≤ 2 ^ (7 - k) := Int.pow_pos (by decide)
    have h2 : 0 ≤ (f[i].toNat : Int) / 2 ^ (7 - k) := Int.ediv_nonneg (by omega) (by omega)
    have h3 : (f[i].toNat : Int) / 2 ^ (7 - k) ≤ f[i].toNat := Int.ediv_le_self _ (by omega)
    rw [IntWalk.wrap64_in _ (by omega), and_1, hb]
  rw [heq]
  refine HW.out.mono ?_
  rintro e w' ⟨rfl, ro', hQ⟩
  replace hQ := Lib.hid hQ
  go_wp2
  go_ret
  exact ⟨rfl, ro', hQ.out⟩
/-- During Encode: the writer, the boxes of the text, of the index and of the writer. -/
structure EI (B g sb ib wb : Nat) (f : ByteArray) (i : Nat) (w0 : World) (s : M.St) (l : List UInt8) (w : World) : Prop where
  ws : ∃ ro, WS B g ro s l w
  sb : w.heap[sb]? = some (.cells #[.string f] 9 (0, 0))
  ib : w.heap[ib]? = some (.cells #[.int .i64 (i : Int)] 3 (0, 0))
  wb : w.heap[wb]? = some (.cells #[.pointer (some ⟨g, 0, none⟩)] 202 (0, 0))
  below : Below B w0 w
theorem EI.chg {B g sb ib wb f i w0 s l w ro w' s' l' ro'} (h : EI B g sb ib wb f i w0 s l w) (k : WS B g ro s l w) (k' : WS B g ro' s' l' w') (hc : Chg g ro w w') : EI B g sb ib wb f i w0 s' l' w' := by
  refine ⟨⟨_, k'⟩, ?_, ?_, ?_, h.below.trans (k.below hc)⟩
  · have := k.ne h.sb (by decide) (by decide)
    rw [hc.block _ (Array.getElem?_eq_some_iff.1 h.sb).1 this.1 this.2]; exact h.sb
  · have := k.ne h.ib (by decide) (by decide)
    rw [hc.block _ (Array.getElem?_eq_some_iff.1 h.ib).1 this.1 this.2]; exact h.ib
  · have := k.ne h.wb (by decide) (by decide)
    rw [hc.block _ (Array.getElem?_eq_some_iff.1 h.wb).1 this.1 this.2]; exact h.wb
theorem EI.grow {B g sb ib wb f i w0 s l w w'} (h : EI B g sb ib wb f i w0 s l w) (hg : Grow w w') : EI B g sb ib wb f i w0 s l w' := by
  obtain ⟨ro, k⟩ := h.ws
  exact ⟨⟨ro, k.grow hg⟩, hg.block h.sb, hg.block h.ib, hg.block h.wb, h.below.trans ⟨Below.os hg, Below.tape hg, Below.output hg, Below.size hg, fun j hj => Below.block hg j (by have := k.bd; omega)⟩⟩
/-- The first k bits of a byte. -/
def bts (x : UInt8) (k : Nat) : List (Nat × Int) := (List.range k).map (M.bitAt x.toNat)
theorem bts_succ (x : UInt8) (k : Nat) : bts x (k + 1) = bts x k ++ [M.bitAt x.toNat k] := by
  unfold bts; rw [List.range_succ, List.map_append]; rfl
theorem bts_8 (x : UInt8) : bts x 8 = M.byteBits x := rfl
theorem ctx_next (x k : Nat) (hk : k < 8) : (((256 + x) / 2 ^ (8 - (k + 1)) : Nat) : Int) = 2 * (((256 + x) / 2 ^ (8 - k) : Nat) : Int) + (M.bitAt x k).2 := by
  unfold M.bitAt
  dsimp only
  obtain rfl | rfl | rfl | rfl | rfl | rfl | rfl | rfl : k = 0 ∨ k = 1 ∨ k = 2 ∨ k = 3 ∨ k = 4 ∨ k = 5 ∨ k = 6 ∨ k = 7 := by omega
  all_goals simp only [Nat.reduceSub, Nat.reduceAdd, Nat.reducePow]
  all_goals omega
theorem ctx_cx (x k : Nat) (hx : x < 256) (hk : k < 8) : cx (((256 + x) / 2 ^ (8 - k) : Nat) : Int) = (M.bitAt x k).1 := by
  unfold cx M.bitAt
  dsimp only
  obtain rfl | rfl | rfl | rfl | rfl | rfl | rfl | rfl : k = 0 ∨ k = 1 ∨ k = 2 ∨ k = 3 ∨ k = 4 ∨ k = 5 ∨ k = 6 ∨ k = 7 := by omega
  all_goals simp only [Nat.reduceSub, Nat.reducePow]
  all_goals omega
theorem ei_cb {B g sb ib wb : Nat} {f : ByteArray} {i : Nat} (hi : i < f.size) {w0 : World} {s : M.St} {l : List UInt8} (hl : l.length + 36 ≤ 100000000) :
    CbE 155 #[.pointer (some ⟨sb, 0, none⟩), .pointer (some ⟨ib, 0, none⟩), .pointer (some ⟨wb, 0, none⟩)] (fun k => (((256 + f[i].toNat) / 2 ^ (8 - k) : Nat) : Int)) (fun k => (M.bitAt f[i].toNat k).2)
      (fun k w => k ≤ 8 ∧ EI B g sb ib wb f i w0 (M.runS s (bts f[i] k)) (l ++ M.runO s (bts f[i] k)) w) where
  enters := enters_fn Tryz.func155 (by kernel_rfl) rfl
  start := by have := (f[i]).toNat_lt; show (((256 + f[i].toNat) / 2 ^ 8 : Nat) : Int) = 1; omega
  next := fun k hk => ctx_next _ _ hk
  bit := fun k hk => M.bitAt_bit _ _
  call := fun k w hk h => by
    obtain ⟨ro, hw⟩ := h.2.ws
    have hlen := M.runO_len (bts f[i] k) s
    have hbl : (bts f[i] k).length = k := by simp [bts]
    refine (cb31 hi w hw (by rw [List.length_append]; omega) h.2.sb h.2.ib h.2.wb k hk _).mono ?_
    rintro e w' ⟨rfl, ro', k1, k2, k3⟩
    refine ⟨rfl, by omega, ?_⟩
    have := h.2.chg hw k1 k3
    rw [ctx_cx _ _ (f[i]).toNat_lt hk] at this
    rw [bts_succ, M.runS_append, M.runO_append]
    simpa [M.runS, M.runO] using this
/-- .. ahead of a byte. -/
structure EL (B g sb wb : Nat) (f : ByteArray) (w0 : World) (s : M.St) (l : List UInt8) (w : World) : Prop where
  ws : ∃ ro, WS B g ro s l w
  sb : w.heap[sb]? = some (.cells #[.string f] 9 (0, 0))
  wb : w.heap[wb]? = some (.cells #[.pointer (some ⟨g, 0, none⟩)] 202 (0, 0))
  below : Below B w0 w
theorem EL.wbsz {B g sb wb f w0 s l w} (h : EL B g sb wb f w0 s l w) : wb < w.heap.size := (Array.getElem?_eq_some_iff.1 h.wb).1
theorem EL.ei {B g sb wb f w0 s l w} (h : EL B g sb wb f w0 s l w) (i : Nat) : EI B g sb w.heap.size wb f i w0 s l (w.alloc (.cells #[.int .i64 (i : Int)] 3)) := by
  obtain ⟨ro, k⟩ := h.ws
  exact ⟨⟨ro, k.grow (Grow.alloc _ _)⟩, (Grow.alloc _ _).block h.sb, heap_alloc_new _ _, (Grow.alloc _ _).block h.wb, h.below.trans (Below.mono (show Below w.heap.size _ _ from Grow.alloc _ _) k.bd)⟩
theorem EI.el {B g sb ib wb f i w0 s l w} (h : EI B g sb ib wb f i w0 s l w) : EL B g sb wb f w0 s l w := ⟨h.ws, h.sb, h.wb, h.below⟩
theorem take_succ_enc (f : ByteArray) (i : Nat) (hi : i < f.size) : M.encBits (f.data.toList.take (i + 1)) = M.encBits (f.data.toList.take i) ++ M.byteBits f[i] := by
  have h : f.data.toList.take (i + 1) = f.data.toList.take i ++ [f[i]] := by
    rw [List.take_add_one]
    have : f.data.toList[i]? = some f[i] := by
      rw [Array.getElem?_toList, Array.getElem?_eq_getElem hi]; rfl
    rw [this]; rfl
  rw [h, M.encBits_append]
  exact congrArg _ (List.append_nil _)
set_option maxRecDepth 100000 in
set_option maxHeartbeats 1000000 in
theorem encode_any (f : ByteArray) (w : World) (hf : f.size ≤ 2500000) :
    Calls Tryz.prog 114 #[.string f] w fun e w' => e = .returned (.string ⟨(M.enc f.data.toList).toArray⟩) ∧ Grow w w' := by
  have HN := Lib.hid (newWriter_ws (w.alloc (.cells #[.string f] 9)))
  go_enter Tryz.func114, Tryz.ntmps114
  go_wp2_with fail
  refine HN.out.mono ?_
  rintro e x ⟨rfl, hw, hg⟩
  clear HN
  have hsz : (w.alloc (.cells #[.string f] 9)).heap.size = w.heap.size + 1 := by simp
  rw [hsz] at hw ⊢
  have hE : WS w.heap.size (w.heap.size + 1) none M.start [] x := hw.lower (by omega)
  have hs : x.heap[w.heap.size]? = some (.cells #[.string f] 9 (0, 0)) := hg.block (heap_alloc_new w _)
  have hb : Below w.heap.size w x := (Grow.alloc w _).trans hg
  have hx := hw.lt
  have c1 : x.cell? ⟨w.heap.size, 0, none⟩ = some (.string f) := by rw [cell_of_row x _ 0 _ _ _ hs]; rfl
  have hx0 : w.heap.size < x.heap.size := by omega
  replace hs := Lib.hid hs
  replace hE := Lib.hid hE
  replace hb := Lib.hid hb
  clear hw hg hsz
  have hwb : Hid ((x.alloc (.cells #[.pointer (some ⟨w.heap.size + 1, 0, none⟩)] 202)).heap[x.heap.size]? = some (.cells #[.pointer (some ⟨w.heap.size + 1, 0, none⟩)] 202 (0, 0))) := Lib.hid (heap_alloc_new _ _)
  go_upto_block 1 with fail
  obtain ⟨sb, hsb⟩ : ∃ sb, sb = w.heap.size := ⟨_, rfl⟩
  go_loopg [8] f.size (fun k s8 wr => ∃ i, i + k = f.size ∧ s8 = .int .i64 (i : Int) ∧ Hid (EL w.heap.size (w.heap.size + 1) w.heap.size x.heap.size f w (M.runS M.start (M.encBits (f.data.toList.take i))) (M.runO M.start (M.encBits (f.data.toList.take i))) wr))
  case atStart =>
    refine ⟨0, by omega, rfl, Lib.hid ⟨⟨none, hE.out.grow (Grow.alloc _ _)⟩, (Grow.alloc _ _).block hs.out, hwb.out, hb.out.trans (Below.mono (show Below x.heap.size _ _ from Grow.alloc _ _) (by omega))⟩⟩
  case round =>
    obtain ⟨i, hik, rfl, HR⟩ := hrel
    clear hE hb hs hwb c1
    have hws := HR.out.wbsz
    cases gk with
    | zero =>
      obtain rfl : i = f.size := by omega
      obtain ⟨ro, hW⟩ := HR.out.ws
      have d3 : wr.cell? ⟨x.heap.size, 0, none⟩ = some (.pointer (some ⟨w.heap.size + 1, 0, none⟩)) := by rw [cell_of_row wr _ 0 _ _ _ HR.out.wb]; rfl
      have htk : f.data.toList.take f.size = f.data.toList := List.take_of_length_le (by simp [← ByteArray.size_data])
      have hlen := M.runO_len (M.encBits f.data.toList) M.start
      rw [M.encBits_len] at hlen
      have hfl : f.data.toList.length = f.size := by simp [← ByteArray.size_data]
      have HY := Lib.hid (bytes_ws hW (by rw [htk]; omega))
      have HX := Lib.hid (And.intro htk HR.out.below)
      clear HR hW htk hlen hfl
      go_wp2_with fail
      refine HY.out.mono ?_
      rintro e y ⟨rfl, hgy⟩
      obtain ⟨htk, hbe⟩ := HX.out
      rw [htk]
      go_wp2
      go_ret
      exact ⟨rfl, hbe.trans (Below.mono hgy hbe.size)⟩
    | succ k =>
      have hlt : i < f.size := by omega
      have hlen := M.runO_len (M.encBits (f.data.toList.take i)) M.start
      rw [M.encBits_len] at hlen
      have htl : (f.data.toList.take i).length ≤ i := by rw [List.length_take]; omega
      have HE := Lib.hid (each_any 155 _ _ _ _ (Lib.hid (ei_cb (B := w.heap.size) (g := w.heap.size + 1) (sb := w.heap.size) (ib := wr.heap.size) (wb := x.heap.size) hlt (w0 := w) (s := M.runS M.start (M.encBits (f.data.toList.take i))) (l := M.runO M.start (M.encBits (f.data.toList.take i))) (by omega))) _ ⟨by omega, by simpa [bts, M.runS, M.runO] using HR.out.ei i⟩)
      clear hlen htl HR
      go_wp2_with fail
      refine HE.out.mono ?_
      rintro e y ⟨rfl, _, hI⟩
      replace hI := Lib.hid hI.el
      go_wp2
      go_roundg k
      case measure => omega
      case rel =>
        refine ⟨i + 1, by omega, by rw [Int.natCast_add]; rfl, ?_⟩
        have h2 := hI.out
        rw [bts_8, ← M.runS_append, ← M.runO_append, ← take_succ_enc f i hlt] at h2
        exact Lib.hid h2
end
end Go.Proofs.YtpdckpifhniioaaGreat.Cod
end
section
set_option linter.unusedVariables false
set_option linter.unusedSimpArgs false
namespace Go.Proofs.YtpdckpifhniioaaGreat.Cod
open Go.RowKit
open Go.Proofs.YtpdckpifhniioaaGreat
section
theorem sizeBld : (Tryz.prog.info? 101).map (·.size) = some 2 := by kernel_rfl
theorem liesBld : liesAt Tryz.prog Tryz.prog.depth 101 (2 / Tryz.prog.cellsOf 101) 0 101 1 = true := by kernel_rfl
set_option maxRecDepth 100000 in
set_option maxHeartbeats 1000000 in
theorem ck_used (b : Nat) (v : Value) (w : World) (h : w.heap[b]? = some (.cells #[.pointer (some ⟨b, 0, none⟩), v] 101 (0, 0))) :
    Calls Tryz.prog 110 #[.pointer (some ⟨b, 0, none⟩)] w fun e w' => e = .returned (.tuple #[]) ∧ w' = w := by
  obtain ⟨j, hj, _⟩ := Option.map_eq_some_iff.1 sizeBld
  have h0 : w.cell? ⟨b, 0, none⟩ = some (.pointer (some ⟨b, 0, none⟩)) := by rw [Lib.cell_of_heap h]; rfl
  go_enter Tryz.func110, Tryz.ntmps110
  go_wp2
  rw [Lib.run_neq_ptr_same w _ Tryz.underlying99 hj]
  go_wp2
  refine bodyPost_end (results_none rfl _ _ _) rfl ⟨rfl, rfl⟩
set_option maxRecDepth 100000 in
set_option maxHeartbeats 1000000 in
theorem ck_fresh (b : Nat) (v : Value) (w : World) (h : w.heap[b]? = some (.cells #[.pointer none, v] 101 (0, 0))) :
    Calls Tryz.prog 110 #[.pointer (some ⟨b, 0, none⟩)] w fun e w' => e = .returned (.tuple #[]) ∧ w' = w.setCell ⟨b, 0, none⟩ (.pointer (some ⟨b, 0, none⟩)) := by
  obtain ⟨j, hj, hjs⟩ := Option.map_eq_some_iff.1 sizeBld
  have h0 : w.cell? ⟨b, 0, none⟩ = some (.pointer none) := by rw [Lib.cell_of_heap h]; rfl
  have hfz : w.frozen? ⟨b, 0, none⟩ = false := Lib.frozen_of_heap h 0
  have hsh : w.shape? b = some (101, 2) := by simp [World.shape?, h]
  clear h
  go_enter Tryz.func110, Tryz.ntmps110
  go_wp2
  rw [Lib.run_to_unsafe w ⟨b, 0, none⟩ Tryz.underlying99 Tryz.underlying185 hj (by rw [hjs]; decide) hsh (Nat.zero_lt_succ 1)]
  simp only [Result.andThen]
  rw [Oper.upon_value]
  go_wp2
  rw [run_callFunc_extern Tryz.func145 (by kernel_rfl) (by kernel_rfl) (by kernel_rfl) (e := Extern.AbiNoEscape.same) (by kernel_rfl)]
  rw [Lib.run_noEscape]
  simp only [Result.andThen]
  rw [Oper.upon_value]
  go_wp2
  rw [Lib.run_from_unsafe w ⟨b, 0, none⟩ Tryz.underlying185 Tryz.underlying99 hj hsh liesBld]
  simp only [Result.andThen]
  rw [Oper.upon_value]
  go_wp2
  refine bodyPost_end (results_none rfl _ _ _) rfl ⟨rfl, rfl⟩
/-- The builder in block b holds the bytes l; its row lies behind it. -/
structure HB (b : Nat) (l : List UInt8) (w : World) : Prop where
  ex : ∃ p v, w.heap[b]? = some (.cells #[p, v] 101 (0, 0)) ∧ (p = .pointer none ∨ p = .pointer (some ⟨b, 0, none⟩)) ∧ w.ownsRow (b + 1) 5 1 v l.length (bvals l) ∧ (l = [] → v = .slice none 0 0)
theorem HB.below {b l w w'} (h : HB b l w) (k : Below w.heap.size w w') : HB b l w' := by
  obtain ⟨p, v, h1, h2, h3, h4⟩ := h.ex
  refine ⟨p, v, (show Grow w w' from k).block h1, h2, own_grow h3 k, h4⟩
/-- .. its row perhaps frozen. -/
structure HF (b : Nat) (l : List UInt8) (w : World) : Prop where
  ex : ∃ p v, w.heap[b]? = some (.cells #[p, v] 101 (0, 0)) ∧ ((l = [] ∧ v = .slice none 0 0) ∨ (l ≠ [] ∧ ∃ g cap cur fr, v = .slice (some ⟨g, 0, none⟩) l.length cap ∧ b + 1 ≤ g ∧ w.heap[g]? = some (.cells cur 5 fr) ∧ l.length ≤ cap ∧ cap ≤ maxLen ∧ cur.size = cap ∧ cur.toList.take l.length = bvals l))
theorem HF.grow {b l w w'} (h : HF b l w) (k : Grow w w') : HF b l w' := by
  obtain ⟨p, v, h1, h2⟩ := h.ex
  refine ⟨p, v, k.block h1, h2.imp id ?_⟩
  rintro ⟨h0, g, cap, cur, fr, r1, r2, r3, r4⟩
  exact ⟨h0, g, cap, cur, fr, r1, r2, k.block r3, r4⟩
theorem HB.hf {b l w} (h : HB b l w) : HF b l w := by
  obtain ⟨p, v, h1, h2, h3, h4⟩ := h.ex
  refine ⟨p, v, h1, ?_⟩
  by_cases h0 : l = []
  · exact .inl ⟨h0, h4 h0⟩
  · refine .inr ⟨h0, ?_⟩
    rcases h3.2 with ⟨_, hz⟩ | ⟨g, cap, cur, r1, r2, r3, r4, r5, r6, r7⟩
    · exact absurd (List.length_eq_zero_iff.1 hz) h0
    · exact ⟨g, cap, cur, (0, 0), r1, r2, r3, r4, r5, by omega, by simpa using r7⟩
theorem cellsU8 : Tryz.prog.cellsOf 5 = 1 := by kernel_rfl
theorem freeze_keeps {w : World} {g n : Nat} {cur : Array Value} {t fr} (hg : w.heap[g]? = some (.cells cur t fr)) : ∃ fr', (w.freeze ⟨g, 0, none⟩ n).heap[g]? = some (.cells cur t fr') := by
  unfold World.freeze
  split
  · exact ⟨fr, hg⟩
  · simp only [Array.getElem?_modify]
    simp [hg]
theorem freeze_other {w : World} {g n k : Nat} (h : k ≠ g) : (w.freeze ⟨g, 0, none⟩ n).heap[k]? = w.heap[k]? := by
  unfold World.freeze
  split
  · rfl
  · simp only [Array.getElem?_modify]
    simp [Ne.symm h]
set_option maxRecDepth 100000 in
set_option maxHeartbeats 1000000 in
theorem bstring (b : Nat) (l : List UInt8) (w : World) (h : HF b l w) :
    Calls Tryz.prog 54 #[.pointer (some ⟨b, 0, none⟩)] w fun e w' => e = .returned (.string ⟨l.toArray⟩) ∧ HF b l w' ∧ Below (b + 1) w w' := by
  obtain ⟨p, v, h1, h2 | ⟨h0, g, cap, cur, fr, rfl, r2, r3, r4, r5, r6, r7⟩⟩ := h.ex
  · obtain ⟨rfl, rfl⟩ := h2
    have hf : HF b [] w.drew := ⟨h.ex⟩
    have c1 : w.drew.cell? ⟨b, 1, none⟩ = some (.slice none 0 0) := by
      have : w.drew.heap[b]? = some (.cells #[p, .slice none 0 0] 101 (0, 0)) := h1
      rw [Lib.cell_of_heap this]; rfl
    have hSD : (Builtin.unsafeSliceData_ #[57] 171 #[.slice none 0 0]).run Tryz.prog w.drew = .ok (.pointer none) w.drew := rfl
    have hUS : (Builtin.unsafeString_ #[171, 3] 9 #[.pointer none, .int .i64 0]).run Tryz.prog w.drew = .ok (.string .empty) w.drew := Lib.run_unsafeString_none _ _ _ _ _
    clear h h1
    go_enter Tryz.func54, Tryz.ntmps54
    go_wp2
    go_region
    all_goals (go_wp2; go_ret; exact ⟨rfl, hf, Below.drew (Below.refl _ w)⟩)
  · have hl : 0 < l.length := by cases l with | nil => exact absurd rfl h0 | cons => simp
    have c1 : w.drew.cell? ⟨b, 1, none⟩ = some (.slice (some ⟨g, 0, none⟩) l.length cap) := by
      have : w.drew.heap[b]? = some (.cells #[p, .slice (some ⟨g, 0, none⟩) l.length cap] 101 (0, 0)) := h1
      rw [Lib.cell_of_heap this]; rfl
    have hSD : (Builtin.unsafeSliceData_ #[57] 171 #[.slice (some ⟨g, 0, none⟩) l.length cap]).run Tryz.prog w.drew = .ok (.pointer (some ⟨g, 0, none⟩)) w.drew :=
      Lib.run_unsafeSliceData_row _ _ _ _ _ _ (by omega)
    have hUS : (Builtin.unsafeString_ #[171, 3] 9 #[.pointer (some ⟨g, 0, none⟩), .int .i64 l.length]).run Tryz.prog w.drew = .ok (.string ⟨l.toArray⟩) (w.drew.freeze ⟨g, 0, none⟩ l.length) := by
      refine Lib.run_unsafeString_row w.drew 171 3 9 5 Tryz.underlying171 cellsU8 g cur.size (by have hg' : w.drew.heap[g]? = some (.cells cur 5 fr) := r3; simp [World.shape?, hg']) l h0 (by omega) (by unfold maxLen at r5; omega) ?_
      intro j x hx
      have hj : j < l.length := (List.getElem?_eq_some_iff.1 hx).1
      have hg' : w.drew.heap[g]? = some (.cells cur 5 fr) := r3
      have e : (⟨g, 0, none⟩ : Addr).add j = ⟨g, j, none⟩ := by unfold Addr.add; split <;> simp_all
      rw [e, Lib.cell_of_heap hg']
      have h3 : (cur.toList.take l.length)[j]? = some (.int .u8 x.toNat) := by rw [r7]; simp [bvals, hx]
      rw [List.getElem?_take, if_pos hj, Array.getElem?_toList] at h3
      exact h3
    have hf : HF b l (w.drew.freeze ⟨g, 0, none⟩ l.length) := by
      obtain ⟨fr', h5⟩ := freeze_keeps (w := w.drew) (n := l.length) r3
      refine ⟨p, _, ?_, .inr ⟨h0, g, cap, cur, fr', rfl, r2, h5, r4, r5, r6, r7⟩⟩
      rw [freeze_other (by omega)]; exact h1
    clear h h1 r3 r4 r5 r6 r7
    go_enter Tryz.func54, Tryz.ntmps54
    go_wp2
    go_region
    all_goals (go_wp2; go_ret; exact ⟨rfl, hf, Lib.below_freeze (Below.drew (Below.refl _ w)) (p := ⟨g, 0, none⟩) r2 _⟩)
end
section
/-- During the bits of a byte: the reader, its box, the byte's box; what else there was is as it was. -/
structure DI (g rb bb : Nat) (f : ByteArray) (a : Nat) (m : Nat) (s : M.St) (w1 w : World) : Prop where
  rs : RS g f m s w
  hrb : w.heap[rb]? = some (.cells #[.pointer (some ⟨g, 0, none⟩)] 246 (0, 0))
  hbb : w.heap[bb]? = some (.cells #[.int .u8 (a : Int)] 5 (0, 0))
  chg : Chg g none w1 w
  lt : w1.heap.size ≤ bb
end
section
theorem RS.below {g f m s w w' N} (h : RS g f m s w) (k : Below N w w') (hg : g < N) : RS g f m s w' := by
  obtain ⟨n, h0, x1⟩ := h.ex
  refine ⟨h.ok, n, h0, ?_⟩
  have := k.block g hg
  unfold Blk at x1 ⊢; rw [this]; exact x1
/-- Decode's result: the text, the error. -/
def dres (f : ByteArray) (n : Nat) : ByteArray × Int := if (⟨(M.enc (M.dec f.data.toList n)).toArray⟩ : ByteArray) = f then (⟨(M.dec f.data.toList n).toArray⟩, 0) else (⟨#[]⟩, 11)
/-- During Decode, ahead of a byte. -/
structure DL (w0 : World) (g rb ob : Nat) (f : ByteArray) (l : List UInt8) (m : Nat) (s : M.St) (w : World) : Prop where
  rs : RS g f m s w
  hrb : w.heap[rb]? = some (.cells #[.pointer (some ⟨g, 0, none⟩)] 246 (0, 0))
  hb : HB ob l w
  below : Below w0.heap.size w0 w
  g1 : w0.heap.size ≤ g
  g2 : g < ob
  r2 : rb < ob
theorem HB.lt {b l w} (h : HB b l w) : b < w.heap.size := by
  obtain ⟨p, v, h1, _⟩ := h.ex
  exact (Array.getElem?_eq_some_iff.1 h1).1
theorem HB.chg {b l w w' g} (h : HB b l w) (k : Chg g none w w') (hg : b ≠ g) (hr : ∀ c fr, w.heap[g]? ≠ some (.cells c 5 fr)) : HB b l w' := by
  obtain ⟨p, v, h1, h2, h3, h4⟩ := h.ex
  have hl : b < w.heap.size := (Array.getElem?_eq_some_iff.1 h1).1
  refine ⟨p, v, by rw [k.block b hl hg (by simp)]; exact h1, h2, ?_, h4⟩
  obtain ⟨y1, y2⟩ := h3
  refine ⟨y1, y2.imp id ?_⟩
  rintro ⟨j, cap, cur, e1, e2, e3, e4⟩
  refine ⟨j, cap, cur, e1, e2, ?_, e4⟩
  rw [k.block j (Array.getElem?_eq_some_iff.1 e3).1 (fun e => hr cur _ (e ▸ e3)) (by simp)]; exact e3
theorem DL.wb {w0 g rb ob f l m s w l' w'} (h : DL w0 g rb ob f l m s w) (k : HB ob l' w') (hb : Below ob w w') : DL w0 g rb ob f l' m s w' :=
  ⟨h.rs.below hb h.g2, by rw [hb.block rb h.r2]; exact h.hrb, k, h.below.trans (hb.mono (by have := h.g1; have := h.g2; omega)), h.g1, h.g2, h.r2⟩
end
end Go.Proofs.YtpdckpifhniioaaGreat.Cod
end
section
set_option linter.unusedVariables false
set_option linter.unusedSimpArgs false
namespace Go.Proofs.YtpdckpifhniioaaGreat.Prd
open Go.RowKit
open Go.Proofs.YtpdckpifhniioaaGreat
section
namespace M
def swM (r b : UInt8) : UInt8 := b + (r - b) / 2
def swU (r b : UInt8) : UInt8 := r - b
def swV (r g b : UInt8) : UInt8 := g - swM r b
def swY (r g b : UInt8) : UInt8 := swM r b + swV r g b / 2
def bkM (y v : UInt8) : UInt8 := y - v / 2
def bkB (y u v : UInt8) : UInt8 := bkM y v - u / 2
def bkR (y u v : UInt8) : UInt8 := bkB y u v + u
def bkG (y v : UInt8) : UInt8 := v + bkM y v
def dist (l u c x : Int) : Int := max (l + u - c - x) (x - l - u + c)
def paeth (l u c : Int) : Int :=
  if dist l u c u < dist l u c l then (if dist l u c c < dist l u c u then c else u)
  else (if dist l u c c < dist l u c l then c else l)
def median (l u c : Int) : Int := max (min l u) (min (max l u) (l + u - c))
def pred (k : Nat) (l u c : Int) : Int :=
  match k with
  | 1 => l
  | 2 => u
  | 3 => (l + u) / 2
  | 4 => paeth l u c
  | 5 => median l u c
  | _ => 0
def InB (x : Int) : Prop := 0 ≤ x ∧ x ≤ 255
theorem pred_in (k : Nat) (l u c : Int) (hl : InB l) (hu : InB u) (hc : InB c) : InB (pred k l u c) := by
  unfold pred
  split
  · exact hl
  · exact hu
  · unfold InB at *; omega
  · unfold paeth; split <;> split <;> assumption
  · unfold median InB at *; omega
  · exact ⟨by omega, by omega⟩
/-- The three neighbours at index i of a plane. -/
def nbL (p : Nat → UInt8) (i : Nat) : Int := if i = 0 then 0 else if i < 8 then (p (i - 1)).toNat else if i % 8 = 0 then (p (i - 8)).toNat else (p (i - 1)).toNat
def nbU (p : Nat → UInt8) (i : Nat) : Int := if i = 0 then 0 else if i < 8 then (p (i - 1)).toNat else (p (i - 8)).toNat
def nbC (p : Nat → UInt8) (i : Nat) : Int := if i = 0 then 0 else if i < 8 then (p (i - 1)).toNat else if i % 8 = 0 then (p (i - 8)).toNat else (p (i - 9)).toNat
theorem byte_in (x : UInt8) : InB (x.toNat : Int) := by have := x.toNat_lt; unfold InB; omega
theorem zero_in : InB 0 := by unfold InB; omega
theorem nbL_in (p : Nat → UInt8) (i : Nat) : InB (nbL p i) := by unfold nbL; split; · exact zero_in
                                                                 split; · exact byte_in _
                                                                 split <;> exact byte_in _
theorem nbU_in (p : Nat → UInt8) (i : Nat) : InB (nbU p i) := by unfold nbU; split; · exact zero_in
                                                                 split <;> exact byte_in _
theorem nbC_in (p : Nat → UInt8) (i : Nat) : InB (nbC p i) := by unfold nbC; split; · exact zero_in
                                                                 split; · exact byte_in _
                                                                 split <;> exact byte_in _
/-- The prediction at index i. -/
def gi (k : Nat) (p : Nat → UInt8) (i : Nat) : Int := pred k (nbL p i) (nbU p i) (nbC p i)
theorem gi_in (k : Nat) (p : Nat → UInt8) (i : Nat) : InB (gi k p i) := pred_in _ _ _ _ (nbL_in p i) (nbU_in p i) (nbC_in p i)
def gs (k : Nat) (p : Nat → UInt8) (i : Nat) : UInt8 := UInt8.ofNat (gi k p i).toNat
theorem gs_val (k : Nat) (p : Nat → UInt8) (i : Nat) : ((gs k p i).toNat : Int) = gi k p i := by
  have h := gi_in k p i
  unfold InB at h
  unfold gs
  simp
  omega
theorem gi_congr (k : Nat) (p q : Nat → UInt8) (i : Nat) (h : ∀ m, m < i → p m = q m) : gi k p i = gi k q i := by
  have hL : nbL p i = nbL q i := by
    unfold nbL
    split; · rfl
    split; · rw [h _ (by omega)]
    split <;> rw [h _ (by omega)]
  have hU : nbU p i = nbU q i := by
    unfold nbU
    split; · rfl
    split <;> rw [h _ (by omega)]
  have hC : nbC p i = nbC q i := by
    unfold nbC
    split; · rfl
    split; · rw [h _ (by omega)]
    split
    · rw [h _ (by omega)]
    · rw [h _ (by omega)]
  unfold gi
  rw [hL, hU, hC]
theorem gs_congr (k : Nat) (p q : Nat → UInt8) (i : Nat) (h : ∀ m, m < i → p m = q m) : gs k p i = gs k q i := by
  unfold gs; rw [gi_congr k p q i h]
/-- Plane q of four planes that lie one behind the other. -/
def pl (p : Nat → UInt8) (q : Nat) : Nat → UInt8 := fun i => p (64 * q + i)
/-- The residual at place j. -/
def res (k : Nat) (p : Nat → UInt8) (j : Nat) : UInt8 := p j - gs k (pl p (j / 64)) (j % 64)
def tab (n : Nat) (f : Nat → UInt8) : List UInt8 := (List.range n).map f
theorem tab_length (n : Nat) (f : Nat → UInt8) : (tab n f).length = n := by simp [tab]
theorem tab_congr (n : Nat) (f g : Nat → UInt8) (h : ∀ i, i < n → f i = g i) : tab n f = tab n g := by
  unfold tab; exact List.map_congr_left fun i hi => h i (by simpa using hi)
theorem tab_succ (n : Nat) (f : Nat → UInt8) : tab (n + 1) f = tab n f ++ [f n] := by simp [tab, List.range_succ]
theorem tab_add (n m : Nat) (f : Nat → UInt8) : tab (n + m) f = tab n f ++ tab m (fun i => f (n + i)) := by
  induction m with
  | zero => simp [tab]
  | succ m ih => rw [← Nat.add_assoc, tab_succ, ih, tab_succ, List.append_assoc]
theorem res_congr (k : Nat) (p q : Nat → UInt8) (j : Nat) (h : ∀ m, 64 * (j / 64) ≤ m → m ≤ j → p m = q m) : res k p j = res k q j := by
  unfold res
  rw [h j (by omega) (Nat.le_refl _), gs_congr k (pl p (j / 64)) (pl q (j / 64)) (j % 64) (fun m hm => h _ (by omega) (by omega))]
def put (p : Nat → UInt8) (j : Nat) (v : UInt8) : Nat → UInt8 := fun i => if i = j then v else p i
theorem put_same (p : Nat → UInt8) (j : Nat) (v : UInt8) : put p j v j = v := by simp [put]
theorem put_other (p : Nat → UInt8) (j : Nat) (v : UInt8) (i : Nat) (h : i ≠ j) : put p j v i = p i := by simp [put, h]
/-- What has been decoded of s in n steps. -/
def unp (k : Nat) (s : Nat → UInt8) : Nat → Nat → UInt8
  | 0 => fun _ => 0
  | n + 1 => put (unp k s n) n (s n + gs k (pl (unp k s n) (n / 64)) (n % 64))
def cb (b : UInt8) : Nat := min b.toNat (256 - b.toNat)
def cost (l : List UInt8) : Nat := (l.map cb).sum
theorem cost_append (l m : List UInt8) : cost (l ++ m) = cost l + cost m := by simp [cost]
theorem cost_cons (b : UInt8) (m : List UInt8) : cost (b :: m) = cb b + cost m := by simp [cost]
theorem cb_le (b : UInt8) : cb b ≤ 128 := by have := b.toNat_lt; unfold cb; omega
theorem cost_le (l : List UInt8) : cost l ≤ 128 * l.length := by
  induction l with
  | nil => simp [cost]
  | cons b l ih => rw [cost_cons, List.length_cons]; have := cb_le b; omega
end M
end
end Go.Proofs.YtpdckpifhniioaaGreat.Prd
end
section
set_option linter.unusedVariables false
set_option linter.unusedSimpArgs false
namespace Go.Proofs.YtpdckpifhniioaaGreat.Prd
open Go.RowKit
open Go.Proofs.YtpdckpifhniioaaGreat
section
theorem ret_int {k : IntKind} {a b : Int} (h : a = b) : Ending.returned (.int k a) = .returned (.int k b) := by rw [h]
theorem ret_str {a b : ByteArray} (h : a = b) : Ending.returned (.string a) = .returned (.string b) := by rw [h]
/-- The cells of a list of bytes. -/
def bcells (l : List UInt8) : Array Value := (l.map fun b => Value.int .u8 (b.toNat : Int)).toArray
theorem bcells_at (l : List UInt8) (i : Nat) (h : i < l.length) : (bcells l)[i]? = some (.int .u8 (l[i].toNat : Int)) := by
  simp [bcells, List.getElem?_eq_getElem h]
section
variable {P : Program}
/-- 'string(b)' of a window of a block of bytes. -/
theorem conv_row (w : World) (src dst e : TypeId) (hs : P.underlying src = some (.slice e)) (he : P.underlying e = some (.int .u8)) (hd : P.underlying dst = some .string)
    (g : Nat) (t : TypeId) (fr : Nat × Nat) (C : Array Value) (hg : w.heap[g]? = some (.cells C t fr)) (k n cap : Nat) (l : List UInt8) (hn : l.length = n)
    (hl : ∀ j (h : j < l.length), C[k + j]? = some (.int .u8 (l[j].toNat : Int))) :
    (convert src dst (.slice (some ⟨g, k, none⟩) n cap)).run P w = .ok (.string ⟨l.toArray⟩) w := by
  subst hn
  refine run_convert_bytes_back w src dst e _ cap l hs he hd fun j hj => ?_
  have : (⟨g, k, none⟩ : Addr).add j = ⟨g, k + j, none⟩ := by unfold Addr.add; split <;> simp_all
  rw [this]
  unfold World.cell?
  rw [hg]
  simpa using hl j hj
end
/-- The one-cell values of a list of bytes. -/
def bvals (l : List UInt8) : List Value := l.map fun b => Value.int .u8 (b.toNat : Int)
theorem bvals_length (l : List UInt8) : (bvals l).length = l.length := by simp [bvals]
theorem bvals_append (l m : List UInt8) : bvals (l ++ m) = bvals l ++ bvals m := by simp [bvals]
section
variable {P : Program}
/-- 'v = append(v, u)' of one value of one cell, v nil or of the call's own. -/
theorem wp_push {ops : Array Oper} {rest : List Oper} {o : Oper} {a : Act} {Q : Exit → Act → World → Prop} (w : World) (hgd : o.guard = none) (s x : Operand) (t e : TypeId)
    (ho : o.op = .call { callee := .builtin .append, args := #[s, x], argTypes := #[t, t] }) (ht : P.underlying t = some (.slice e))
    (z : Value) (bytes : Nat) (hinfo : (P.info? e).map (fun i => (i.zero, i.size, i.bytes)) = some (some z, 1, bytes)) (hz : z.cells.size = 1)
    (base : Nat) (v : Value) (n : Nat) (xs : List Value) (hs : a.eval s = v) (hown : w.ownsRow base e 1 v n xs)
    (u : Value) (fr : Nat × Nat) (hx : a.eval x = .slice (some ⟨w.heap.size, 0, none⟩) 1 1) (hu : u.oneCell' = true)
    (hlen : n + 1 ≤ 1000000000) (hby : bytes ≤ 64) (hbase : base ≤ w.heap.size)
    (h : ∀ v' w', w'.ownsRow base e 1 v' (n + 1) (xs ++ [u]) → v' ≠ .slice none 0 0 → Below base w w' → w.heap.size < w'.heap.size → wpList P ops Q rest (a.put o.dst v') w') :
    wpList P ops Q (o :: rest) a (w.alloc (.cells #[u] e fr)) := by
  obtain ⟨i0, hi, hz0, hz1, hz2⟩ := info_parts hinfo
  refine wpList_append_own _ hgd s x t ho base e i0 z 1 bytes ht hi hz0 hz1 hz2 hz (by decide) v n xs hs (hown.alloc _) ⟨w.heap.size, 0, none⟩ 1 1 [u] hx rfl ?_ ?_ ?_ ?_ ?_ ?_
  · intro j u' hj
    match j, hj with
    | 0, hj =>
      simp at hj
      subst hj
      have : (⟨w.heap.size, 0, none⟩ : Addr).add 0 = ⟨w.heap.size, 0, none⟩ := by unfold Addr.add; split <;> simp_all
      rw [this, World.cell?_alloc_mark]; rfl
  · intro u' h'
    simp at h'
    subst h'; exact hu
  · unfold maxLen; omega
  · exact Nat.le_trans (Nat.mul_le_mul hlen hby) (by omega)
  · rw [World.size_alloc]; omega
  · intro v' w' hown' hg hnil
    have hsz := hg.size
    rw [World.size_alloc] at hsz
    refine h v' w' hown' (fun hv => by have := (hnil.1 hv).2; omega) ?_ (by omega)
    refine ((Below.refl base w).alloc hbase _).grown hg (by rw [World.size_alloc]; omega) fun k hk => ?_
    exact (hown.lt k hk).1
/-- 'string(b)' of a slice of the call's own. -/
theorem conv_own (w : World) (src dst e : TypeId) (hs : P.underlying src = some (.slice e)) (he : P.underlying e = some (.int .u8)) (hd : P.underlying dst = some .string)
    (base : Nat) (v : Value) (n : Nat) (l : List UInt8) (hown : w.ownsRow base e 1 v n (bvals l)) : (convert src dst v).run P w = .ok (.string ⟨l.toArray⟩) w := by
  have hl : l.length = n := by have := hown.1; rw [bvals_length] at this; omega
  rcases hown.2 with ⟨rfl, h0⟩ | ⟨g, cap, cur, rfl, _, hg, hnc, _, hsz, htk⟩
  · subst h0
    have : l = [] := List.eq_nil_of_length_eq_zero hl
    subst this
    rw [run_convert_bytes_string w src dst e none 0 0 hs he hd]
    simp [Conv.bytesToString]
    rfl
  · refine conv_row w src dst e hs he hd g e _ cur hg 0 n cap l hl fun j hj => ?_
    have h1 : (cur.toList.take (n * 1))[j]? = (bvals l)[j]? := by rw [htk]
    rw [List.getElem?_take, if_pos (by omega)] at h1
    rw [Nat.zero_add, ← Array.getElem?_toList, h1]
    simp [bvals, List.getElem?_eq_getElem hj]
end
/-- n as 64 bits without a sign. -/
def u64 (n : Int) : Nat := (n % 18446744073709551616).toNat
theorem u64_eq (n : Int) : IntKind.u64.wrap n = ((u64 n : Nat) : Int) := by rw [IntKind.wrap_u64]; unfold u64; omega
theorem u64_lt (n : Int) : u64 n < 18446744073709551616 := by unfold u64; omega
theorem str_size (l : List UInt8) : (⟨l.toArray⟩ : ByteArray).size = l.length := by
  simp [ByteArray.size]
theorem str_append (l m : List UInt8) : (⟨l.toArray⟩ : ByteArray) ++ ⟨m.toArray⟩ = ⟨(l ++ m).toArray⟩ := by
  apply ByteArray.ext; simp
theorem str_mk (s : ByteArray) : (⟨s.data.toList.toArray⟩ : ByteArray) = s := by
  apply ByteArray.ext; simp
end
section
theorem bt {w w1 w2 : World} (h : Below w.heap.size w w1) (k : Below w1.heap.size w1 w2) : Below w.heap.size w w2 := h.trans (k.mono h.size)
theorem lt_of_heap {w : World} {b : Nat} {o : Obj} (h : w.heap[b]? = some o) : b < w.heap.size := by
  rcases Nat.lt_or_ge b w.heap.size with h' | h'
  · exact h'
  · rw [Array.getElem?_eq_none h'] at h; simp at h
/-- The cells of l lie in block g from its head on. -/
def Lie (g : Nat) (l : List UInt8) (w : World) : Prop := ∀ j (h : j < l.length), w.cell? ⟨g, j, none⟩ = some (.int .u8 (l[j].toNat : Int))
theorem bytes_lie (x : World) (s : ByteArray) (cap : Nat) (fr : Nat × Nat) : Lie x.heap.size s.data.toList (x.alloc (.cells (bytesRow s cap) 5 fr)) := by
  intro j hj
  rw [World.cell?_alloc_mark, bytesRow_at s cap j (by simpa using hj)]
  rfl
theorem bytesRow_size (s : ByteArray) (cap : Nat) (h : s.size ≤ cap) : (bytesRow s cap).size = cap := by
  unfold bytesRow
  rw [Array.size_append, Array.size_map, Array.size_replicate]
  show s.size + _ = _
  omega
theorem bytes_free (x : World) (s : ByteArray) (cap j : Nat) (h : s.size ≤ cap) (hj : j < cap) :
    (x.alloc (.cells (bytesRow s cap) 5 ((bytesRow s cap).size, (bytesRow s cap).size + 1))).frozen? ⟨x.heap.size, j, none⟩ = false := by
  rw [World.frozen?_alloc_mark, bytesRow_size s cap h]
  simp; omega
theorem bytes_some (x : World) (s : ByteArray) (cap j : Nat) (fr : Nat × Nat) (h : s.size ≤ cap) (hj : j < cap) :
    ((x.alloc (.cells (bytesRow s cap) 5 fr)).cell? ⟨x.heap.size, j, none⟩).isSome = true := by
  rw [World.cell?_alloc_mark, Array.getElem?_eq_getElem (by rw [bytesRow_size s cap h]; exact hj)]; rfl
theorem Lie.set {g : Nat} {l : List UInt8} {w : World} (h : Lie g l w) (i : Nat) (hi : i < l.length) (b : UInt8) : Lie g (l.set i b) (w.setCell ⟨g, i, none⟩ (.int .u8 (b.toNat : Int))) := by
  intro j hj
  have hj' : j < l.length := by simpa using hj
  by_cases e : i = j
  · subst e
    rw [World.cell?_setCell_same _ _ _ (h i hi)]
    simp
  · rw [World.cell?_setCell_other _ _ _ _ (by intro e2; injection e2 with _ e3 _; exact e e3), h j hj', List.getElem_set_ne e]
theorem Lie.conv {g : Nat} {l : List UInt8} {w : World} (h : Lie g l w) (cap : Nat) : (convert 57 9 (.slice (some ⟨g, 0, none⟩) l.length cap)).run Tryz.prog w = .ok (.string ⟨l.toArray⟩) w := by
  refine run_convert_bytes_back (P := Tryz.prog) w 57 9 5 _ cap l Tryz.underlying57 Tryz.underlying5 Tryz.underlying9 fun j hj => ?_
  have : (⟨g, 0, none⟩ : Addr).add j = ⟨g, j, none⟩ := by unfold Addr.add; split <;> simp_all
  rw [this]; exact h j hj
theorem Lie.alloc {g : Nat} {l : List UInt8} {w : World} (h : Lie g l w) (o : Obj) (hg : g < w.heap.size) : Lie g l (w.alloc o) := by
  intro j hj
  have hb := (Below.refl w.heap.size w).alloc (Nat.le_refl _) o
  rw [hb.cell (p := ⟨g, j, none⟩) hg]; exact h j hj
theorem Lie.vals {g : Nat} {l : List UInt8} {w : World} (h : Lie g l w) : ∀ j u, (bvals l)[j]? = some u → w.cell? ⟨g, 0 + j, none⟩ = some u := by
  intro j u hu
  have hj : j < l.length := by have := (List.getElem?_eq_some_iff.1 hu).1; simpa [bvals] using this
  rw [Nat.zero_add, h j hj]
  simp [bvals, List.getElem?_eq_getElem hj] at hu
  rw [hu]
/-- '[]byte(s)': what it leaves. -/
theorem conv_bytes (x : World) (s : ByteArray) : ∃ W cap, (convert 9 57 (.string s)).run Tryz.prog x = .ok (.slice (some ⟨x.heap.size, 0, none⟩) s.size cap) W ∧ s.size ≤ cap ∧ Lie x.heap.size s.data.toList W ∧
    (∀ j, j < cap → W.frozen? ⟨x.heap.size, j, none⟩ = false ∧ (W.cell? ⟨x.heap.size, j, none⟩).isSome = true) ∧ Below x.heap.size x W ∧ x.heap.size < W.heap.size := by
  have hg := grownCap_ge x s.size 0 5
  refine ⟨_, _, run_bytes_of_string (P := Tryz.prog) x 9 57 5 s Tryz.underlying9 Tryz.underlying57 Tryz.underlying5, hg, bytes_lie x.drew s _ _, fun j hj => ⟨bytes_free x.drew s _ j hg hj, bytes_some x.drew s _ j _ hg hj⟩, ?_, ?_⟩
  · exact ((Below.refl _ _).drew).alloc (Nat.le_refl _) _
  · rw [World.size_alloc]; exact Nat.lt_succ_self _
section
variable {P : Program} {ops : Array Oper} {C : World → Prop} {Q : Act → Prop} {rest : List Oper} {o : Oper} {a : Act}
theorem q_val {K : Act → Prop} (h : ∃ v, (∀ x, C x → (execOp a.eval o).run P x = .ok (.value v) x) ∧ K (a.put o.dst v)) : o.quiet P a C K := by
  obtain ⟨v, h, k⟩ := h
  exact ⟨v, fun x hx => by unfold Oper.quietAt; rw [h x hx]; exact ⟨rfl, rfl⟩, k⟩
theorem q_call {K : Act → Prop} (f : FuncId) (h : ∃ args, (∀ x, C x → (execOp a.eval o).run P x = .ok (.enter f args) x) ∧
    ∃ v, (∀ x, C x → Calls P f args x fun e x' => e = .returned v ∧ C x') ∧ K (a.put o.dst v)) : o.quiet P a C K := by
  obtain ⟨args, h, v, hc, k⟩ := h
  exact ⟨v, fun x hx => by unfold Oper.quietAt; rw [h x hx]; exact ⟨rfl, hc x hx⟩, k⟩
theorem q_region {id : Nat} {Q : Exit → Act → World → Prop} {a : Act} {w : World} {l : List Oper} (hm : P.follows .mixedOrders = true) (hB : Region.lexB .any l.toArray = true) (hC : C w.drew)
    (h : wpQuiet P l.toArray C (fun a' => ∀ w', C w' → Q .normal a' w') l a) : (Code.region id l.toArray true).wp P Q a w :=
  wp_region_quiet hm hB hC (by simpa using h)
end
end
section
theorem half_nat (a : UInt8) : (a / 2).toNat = a.toNat / 2 := by rw [UInt8.toNat_div]; rfl
theorem e_swU (r b : UInt8) : ((r.toNat : Int) - (b.toNat : Int)) % 256 = ((M.swU r b).toNat : Int) := by
  have := r.toNat_lt; have := b.toNat_lt
  unfold M.swU
  rw [UInt8.toNat_sub]; omega
theorem e_swM (r b : UInt8) : ((b.toNat : Int) + ((r.toNat : Int) - (b.toNat : Int)) % 256 / 2) % 256 = ((M.swM r b).toNat : Int) := by
  have := r.toNat_lt; have := b.toNat_lt
  unfold M.swM
  rw [UInt8.toNat_add, half_nat, UInt8.toNat_sub]; omega
theorem e_swV (r g b : UInt8) : ((g.toNat : Int) - ((b.toNat : Int) + ((r.toNat : Int) - (b.toNat : Int)) % 256 / 2) % 256) % 256 = ((M.swV r g b).toNat : Int) := by
  rw [e_swM]
  have := g.toNat_lt; have := (M.swM r b).toNat_lt
  unfold M.swV
  rw [UInt8.toNat_sub]; omega
theorem e_swY (r g b : UInt8) : (((b.toNat : Int) + ((r.toNat : Int) - (b.toNat : Int)) % 256 / 2) % 256 + ((g.toNat : Int) - ((b.toNat : Int) + ((r.toNat : Int) - (b.toNat : Int)) % 256 / 2)) % 256 / 2) % 256 = ((M.swY r g b).toNat : Int) := by
  have h : ((g.toNat : Int) - ((b.toNat : Int) + ((r.toNat : Int) - (b.toNat : Int)) % 256 / 2)) % 256 = ((M.swV r g b).toNat : Int) := by rw [← e_swV]; omega
  rw [h, e_swM]
  have := (M.swV r g b).toNat_lt; have := (M.swM r b).toNat_lt
  unfold M.swY
  rw [UInt8.toNat_add, half_nat]; omega
set_option maxHeartbeats 400000 in
theorem swap_any (r g b : UInt8) (w : World) :
    Calls Tryz.prog 149 #[.int .u8 r.toNat, .int .u8 g.toNat, .int .u8 b.toNat] w fun e w' =>
      e = .returned (.tuple #[.int .u8 (M.swY r g b).toNat, .int .u8 (M.swU r b).toNat, .int .u8 (M.swV r g b).toNat]) ∧ w = w' := by
  go_enter Tryz.func149, Tryz.ntmps149
  go_wp2
  go_ret3
  exact ⟨by rw [← e_swY, ← e_swU, ← e_swV]; rfl, rfl⟩
theorem fn1 (l u c : Int) (w : World) : Calls Tryz.prog 180 #[.int .i64 l, .int .i64 u, .int .i64 c] w fun e w' => e = .returned (.int .i64 0) ∧ w = w' := by
  go_enter Tryz.func180, Tryz.ntmps180
  go_wp2
  go_ret
  exact ⟨rfl, rfl⟩
theorem fn2 (l u c : Int) (w : World) : Calls Tryz.prog 181 #[.int .i64 l, .int .i64 u, .int .i64 c] w fun e w' => e = .returned (.int .i64 l) ∧ w = w' := by
  go_enter Tryz.func181, Tryz.ntmps181
  go_wp2
  go_ret
  exact ⟨rfl, rfl⟩
theorem fn3 (l u c : Int) (w : World) : Calls Tryz.prog 182 #[.int .i64 l, .int .i64 u, .int .i64 c] w fun e w' => e = .returned (.int .i64 u) ∧ w = w' := by
  go_enter Tryz.func182, Tryz.ntmps182
  go_wp2
  go_ret
  exact ⟨rfl, rfl⟩
theorem fn4 (l u c : Int) (w : World) (hl : 0 ≤ l ∧ l ≤ 255) (hu : 0 ≤ u ∧ u ≤ 255) : Calls Tryz.prog 183 #[.int .i64 l, .int .i64 u, .int .i64 c] w fun e w' => e = .returned (.int .i64 ((l + u) / 2)) ∧ w = w' := by
  obtain ⟨l0, l1⟩ := hl
  obtain ⟨u0, u1⟩ := hu
  go_enter Tryz.func183, Tryz.ntmps183
  go_wp2
  go_ret
  exact ⟨rfl, rfl⟩
theorem fn6 (l u c : Int) (w : World) (hl : 0 ≤ l ∧ l ≤ 255) (hu : 0 ≤ u ∧ u ≤ 255) (hc : 0 ≤ c ∧ c ≤ 255) : Calls Tryz.prog 185 #[.int .i64 l, .int .i64 u, .int .i64 c] w fun e w' => e = .returned (.int .i64 (M.median l u c)) ∧ w = w' := by
  obtain ⟨l0, l1⟩ := hl
  obtain ⟨u0, u1⟩ := hu
  obtain ⟨c0, c1⟩ := hc
  go_enter Tryz.func185, Tryz.ntmps185
  go_wp2
  all_goals
    go_ret
    exact ⟨ret_int (by unfold M.median; (repeat split at *) <;> omega), rfl⟩
end
section
set_option maxHeartbeats 400000 in
theorem fn5 (l u c : Int) (w : World) (hl : 0 ≤ l ∧ l ≤ 255) (hu : 0 ≤ u ∧ u ≤ 255) (hc : 0 ≤ c ∧ c ≤ 255) : Calls Tryz.prog 184 #[.int .i64 l, .int .i64 u, .int .i64 c] w fun e w' => e = .returned (.int .i64 (M.paeth l u c)) ∧ w = w' := by
  obtain ⟨l0, l1⟩ := hl
  obtain ⟨u0, u1⟩ := hu
  obtain ⟨c0, c1⟩ := hc
  go_enter Tryz.func184, Tryz.ntmps184
  have i0 : ∀ w, (Instr.index 54 (.agg #[.int .i64 l, .int .i64 u, .int .i64 c]) (.int .i64 0)).run Tryz.prog w = .ok (.int .i64 l) w := fun _ => by kernel_rfl
  have i1 : ∀ w, (Instr.index 54 (.agg #[.int .i64 l, .int .i64 u, .int .i64 c]) (.int .i64 1)).run Tryz.prog w = .ok (.int .i64 u) w := fun _ => by kernel_rfl
  have i2 : ∀ w, (Instr.index 54 (.agg #[.int .i64 l, .int .i64 u, .int .i64 c]) (.int .i64 2)).run Tryz.prog w = .ok (.int .i64 c) w := fun _ => by kernel_rfl
  go_wp2
  refine wp_loop_rounds 4 ?_
  iterate 4 (any_goals (rw [rounds_succ]; go_wp2_with fail))
  all_goals
    go_ret
    refine ⟨ret_int ?_, rfl⟩
    clear i0 i1 i2
    go_light
    unfold M.paeth M.dist
    (repeat split at *) <;> omega
end
section
/-- The cells of the table of predictors. -/
def prC : Array Value := #[.string ⟨#[110, 111, 110, 101]⟩, .func (.func 180) #[] #[], .string ⟨#[108, 101, 102, 116]⟩, .func (.func 181) #[] #[], .string ⟨#[117, 112]⟩, .func (.func 182) #[] #[],
  .string ⟨#[97, 118, 101, 114, 97, 103, 101]⟩, .func (.func 183) #[] #[], .string ⟨#[112, 97, 101, 116, 104]⟩, .func (.func 184) #[] #[], .string ⟨#[109, 101, 100, 105, 97, 110, 32, 101, 100, 103, 101]⟩, .func (.func 185) #[] #[]]
theorem prC_at (k : Nat) (h : k < 6) : prC[k * 2 + 1]? = some (.func (.func (180 + k)) #[] #[]) := by
  match k, h with
  | 0, _ => rfl
  | 1, _ => rfl
  | 2, _ => rfl
  | 3, _ => rfl
  | 4, _ => rfl
  | 5, _ => rfl
theorem enter_fn (k : Nat) (h : k < 6) (args : Array Value) (w : World) : (callFunc (180 + k) args).run Tryz.prog w = .ok (.enter (180 + k) args) w := by
  match k, h with
  | 0, _ => show (callFunc 180 args).run Tryz.prog w = .ok (.enter 180 args) w; simp [callFunc, go_sem, Tryz.func180]; rfl
  | 1, _ => show (callFunc 181 args).run Tryz.prog w = .ok (.enter 181 args) w; simp [callFunc, go_sem, Tryz.func181]; rfl
  | 2, _ => show (callFunc 182 args).run Tryz.prog w = .ok (.enter 182 args) w; simp [callFunc, go_sem, Tryz.func182]; rfl
  | 3, _ => show (callFunc 183 args).run Tryz.prog w = .ok (.enter 183 args) w; simp [callFunc, go_sem, Tryz.func183]; rfl
  | 4, _ => show (callFunc 184 args).run Tryz.prog w = .ok (.enter 184 args) w; simp [callFunc, go_sem, Tryz.func184]; rfl
  | 5, _ => show (callFunc 185 args).run Tryz.prog w = .ok (.enter 185 args) w; simp [callFunc, go_sem, Tryz.func185]; rfl
theorem fn_any (k : Nat) (h : k < 6) (l u c : Int) (w : World) (hl : 0 ≤ l ∧ l ≤ 255) (hu : 0 ≤ u ∧ u ≤ 255) (hc : 0 ≤ c ∧ c ≤ 255) :
    Calls Tryz.prog (180 + k) #[.int .i64 l, .int .i64 u, .int .i64 c] w fun e w' => e = .returned (.int .i64 (M.pred k l u c)) ∧ w = w' := by
  match k, h with
  | 0, _ => exact fn1 l u c w
  | 1, _ => exact fn2 l u c w
  | 2, _ => exact fn3 l u c w
  | 3, _ => exact fn4 l u c w hl hu
  | 4, _ => exact fn5 l u c w hl hu hc
  | 5, _ => exact fn6 l u c w hl hu hc
theorem predictors_any (w : World) : Calls Tryz.prog 150 #[] w fun e w' => e = .returned (.slice (some ⟨w.heap.size, 0, none⟩) 6 6) ∧ w.alloc (.cells prC 196) = w' := by
  go_enter Tryz.func150, Tryz.ntmps150
  go_wp2
  go_ret
  exact ⟨rfl, rfl⟩
theorem Predictors_any (w : World) : Calls Tryz.prog 147 #[] w fun e w' => e = .returned (.int .i64 6) ∧ Below w.heap.size w w' := by
  go_enter Tryz.func147, Tryz.ntmps147
  go_wp2_with fail
  refine (predictors_any _).mono ?_
  rintro e w' ⟨rfl, rfl⟩
  go_wp2_with fail
  go_ret
  exact ⟨rfl, (Below.refl _ _).alloc (Nat.le_refl _) _⟩
theorem at_any (b o g : Nat) (x : UInt8) (i : Nat) (hi : i < 64) (w : World) (hg : w.cell? ⟨g, 0, none⟩ = some (.pointer (some ⟨b, o, none⟩))) (hp : w.cell? ⟨b, o + i, none⟩ = some (.int .u8 x.toNat)) :
    Calls Tryz.prog 186 #[.int .i64 i, .pointer (some ⟨g, 0, none⟩)] w fun e w' => e = .returned (.int .i64 x.toNat) ∧ w = w' := by
  have hx := x.toNat_lt
  go_enter Tryz.func186, Tryz.ntmps186
  go_wp2_with fail
  go_ret
  exact ⟨rfl, rfl⟩
theorem at_new (b o : Nat) (p : Nat → UInt8) (m : Nat) (n : Int) (hn : n = (m : Int)) (hm : m < 64) (w : World) (hb : b < w.heap.size) (hp : w.cell? ⟨b, o + m, none⟩ = some (.int .u8 (p m).toNat)) :
    Calls Tryz.prog 186 #[.int .i64 n, .pointer (some ⟨w.heap.size, 0, none⟩)] (w.alloc (.cells #[.pointer (some ⟨b, o, none⟩)] 226)) fun e w' => e = .returned (.int .i64 (p m).toNat) ∧ w.alloc (.cells #[.pointer (some ⟨b, o, none⟩)] 226) = w' := by
  subst hn
  refine at_any b o w.heap.size (p m) m hm _ ?_ ?_
  · rw [World.cell?_alloc_mark]; rfl
  · rw [((Below.refl w.heap.size w).alloc (Nat.le_refl _) _).cell (p := ⟨b, o + m, none⟩) hb]; exact hp
theorem gi0 (k : Nat) (hk : k < 6) (p : Nat → UInt8) (w : World) : Calls Tryz.prog (180 + k) #[.int .i64 0, .int .i64 0, .int .i64 0] w fun e w' => e = .returned (.int .i64 (M.gi k p 0)) ∧ w = w' :=
  fn_any k hk 0 0 0 w M.zero_in M.zero_in M.zero_in
theorem gi1 (k : Nat) (hk : k < 6) (p : Nat → UInt8) (i : Nat) (h0 : ¬ i = 0) (h8 : i < 8) (w : World) : Calls Tryz.prog (180 + k) #[.int .i64 (p (i - 1)).toNat, .int .i64 (p (i - 1)).toNat, .int .i64 (p (i - 1)).toNat] w fun e w' => e = .returned (.int .i64 (M.gi k p i)) ∧ w = w' := by
  have h := fn_any k hk _ _ _ w (M.byte_in (p (i - 1))) (M.byte_in (p (i - 1))) (M.byte_in (p (i - 1)))
  have e : M.pred k (p (i - 1)).toNat (p (i - 1)).toNat (p (i - 1)).toNat = M.gi k p i := by unfold M.gi M.nbL M.nbU M.nbC; simp only [h0, h8, if_true, if_false]
  rwa [e] at h
theorem gi2 (k : Nat) (hk : k < 6) (p : Nat → UInt8) (i : Nat) (h8 : ¬ i < 8) (hm : i % 8 = 0) (w : World) : Calls Tryz.prog (180 + k) #[.int .i64 (p (i - 8)).toNat, .int .i64 (p (i - 8)).toNat, .int .i64 (p (i - 8)).toNat] w fun e w' => e = .returned (.int .i64 (M.gi k p i)) ∧ w = w' := by
  have h := fn_any k hk _ _ _ w (M.byte_in (p (i - 8))) (M.byte_in (p (i - 8))) (M.byte_in (p (i - 8)))
  have h0 : ¬ i = 0 := by omega
  have e : M.pred k (p (i - 8)).toNat (p (i - 8)).toNat (p (i - 8)).toNat = M.gi k p i := by unfold M.gi M.nbL M.nbU M.nbC; simp only [h0, h8, hm, if_true, if_false]
  rwa [e] at h
theorem gi3 (k : Nat) (hk : k < 6) (p : Nat → UInt8) (i : Nat) (h8 : ¬ i < 8) (hm : ¬ i % 8 = 0) (w : World) : Calls Tryz.prog (180 + k) #[.int .i64 (p (i - 1)).toNat, .int .i64 (p (i - 8)).toNat, .int .i64 (p (i - 9)).toNat] w fun e w' => e = .returned (.int .i64 (M.gi k p i)) ∧ w = w' := by
  have h := fn_any k hk _ _ _ w (M.byte_in (p (i - 1))) (M.byte_in (p (i - 8))) (M.byte_in (p (i - 9)))
  have h0 : ¬ i = 0 := by omega
  have e : M.pred k (p (i - 1)).toNat (p (i - 8)).toNat (p (i - 9)).toNat = M.gi k p i := by unfold M.gi M.nbL M.nbU M.nbC; simp only [h0, h8, hm, if_false]
  rwa [e] at h
set_option maxRecDepth 100000 in
set_option maxHeartbeats 800000 in
theorem guess_any (k : Nat) (hk : k < 6) (b o : Nat) (p : Nat → UInt8) (i : Nat) (hi : i < 64) (w : World) (hb : b < w.heap.size) (hp : ∀ m, m < i → w.cell? ⟨b, o + m, none⟩ = some (.int .u8 (p m).toNat)) :
    Calls Tryz.prog 151 #[.pointer (some ⟨b, o, none⟩), .int .i64 i, .func (.func (180 + k)) #[] #[]] w fun e w' => e = .returned (.int .u8 (M.gs k p i).toNat) ∧ Below w.heap.size w w' := by
  have hgv := M.gs_val k p i
  have hgi := M.gi_in k p i
  unfold M.InB at hgi
  obtain ⟨hg0, hg1⟩ := hgi
  have HG := Lib.hid hgv
  clear hgv
  have HP := Lib.hid hp
  clear hp
  have ef := enter_fn k hk
  by_cases h0 : i = 0
  · subst h0
    go_enter Tryz.func151, Tryz.ntmps151
    go_wp2_with fail
    refine (gi0 k hk p _).mono ?_
    rintro e w' ⟨rfl, rfl⟩
    go_wp2_with fail
    go_ret
    exact ⟨ret_int HG.out.symm, (Below.refl _ _).alloc (Nat.le_refl _) _⟩
  · by_cases h8 : i < 8
    · go_enter Tryz.func151, Tryz.ntmps151
      go_wp2_with fail
      refine (at_new b o p (i - 1) _ (by omega) (by omega) w hb (HP.out _ (by omega))).mono ?_
      rintro e w' ⟨rfl, rfl⟩
      go_wp2_with fail
      refine (at_new b o p (i - 1) _ (by omega) (by omega) w hb (HP.out _ (by omega))).mono ?_
      rintro e w' ⟨rfl, rfl⟩
      go_wp2_with fail
      refine (at_new b o p (i - 1) _ (by omega) (by omega) w hb (HP.out _ (by omega))).mono ?_
      rintro e w' ⟨rfl, rfl⟩
      go_wp2_with fail
      refine (gi1 k hk p i h0 h8 _).mono ?_
      rintro e w' ⟨rfl, rfl⟩
      go_wp2_with fail
      go_ret
      exact ⟨ret_int HG.out.symm, (Below.refl _ _).alloc (Nat.le_refl _) _⟩
    · by_cases hm : i % 8 = 0
      · have hm8 : (i : Int) % 8 = 0 := by omega
        go_enter Tryz.func151, Tryz.ntmps151
        go_wp2_with fail
        refine (at_new b o p (i - 8) _ (by omega) (by omega) w hb (HP.out _ (by omega))).mono ?_
        rintro e w' ⟨rfl, rfl⟩
        go_wp2_with fail
        refine (gi2 k hk p i h8 hm _).mono ?_
        rintro e w' ⟨rfl, rfl⟩
        go_wp2_with fail
        go_ret
        exact ⟨ret_int HG.out.symm, (Below.refl _ _).alloc (Nat.le_refl _) _⟩
      · have hm8 : ((i : Int) % 8 == 0) = false := by simp; omega
        go_enter Tryz.func151, Tryz.ntmps151
        go_wp2_with fail
        refine (at_new b o p (i - 1) _ (by omega) (by omega) w hb (HP.out _ (by omega))).mono ?_
        rintro e w' ⟨rfl, rfl⟩
        go_wp2_with fail
        refine (at_new b o p (i - 8) _ (by omega) (by omega) w hb (HP.out _ (by omega))).mono ?_
        rintro e w' ⟨rfl, rfl⟩
        go_wp2_with fail
        refine (at_new b o p (i - 9) _ (by omega) (by omega) w hb (HP.out _ (by omega))).mono ?_
        rintro e w' ⟨rfl, rfl⟩
        go_wp2_with fail
        refine (gi3 k hk p i h8 hm _).mono ?_
        rintro e w' ⟨rfl, rfl⟩
        go_wp2_with fail
        go_ret
        exact ⟨ret_int HG.out.symm, (Below.refl _ _).alloc (Nat.le_refl _) _⟩
end
section
theorem take_snoc (t : ByteArray) (j : Nat) (h : j < t.size) : t.data.toList.take (j + 1) = t.data.toList.take j ++ [t.data[j]] := by
  rw [List.take_add_one, List.getElem?_eq_getElem (by simpa using h)]; simp
theorem cost_snoc (t : ByteArray) (j : Nat) (h : j < t.size) : M.cost (t.data.toList.take (j + 1)) = M.cost (t.data.toList.take j) + M.cb t.data[j] := by
  rw [take_snoc t j h, M.cost_append]; simp [M.cost]
theorem cost_take_le (t : ByteArray) (j : Nat) : M.cost (t.data.toList.take j) ≤ 128 * j := by
  have := M.cost_le (t.data.toList.take j)
  have : (t.data.toList.take j).length ≤ j := List.length_take_le _ _
  omega
theorem cb_go (n : Nat) (b : UInt8) (h : n ≤ 1000000000000000000) : wrap64 ((n : Int) + (if wrap64 (256 - wrap64 (b.toNat : Int)) < wrap64 (b.toNat : Int) then wrap64 (256 - wrap64 (b.toNat : Int)) else wrap64 (b.toNat : Int))) = ((n + M.cb b : Nat) : Int) := by
  have := b.toNat_lt
  rw [IntWalk.wrap64_in (b.toNat : Int) ⟨by omega, by omega⟩, IntWalk.wrap64_in (256 - (b.toNat : Int)) ⟨by omega, by omega⟩]
  unfold M.cb
  split
  · rw [IntWalk.wrap64_in _ ⟨by omega, by omega⟩]; omega
  · rw [IntWalk.wrap64_in _ ⟨by omega, by omega⟩]; omega
set_option maxRecDepth 100000 in
set_option maxHeartbeats 400000 in
theorem cost_any (t : ByteArray) (w : World) (hs : t.size ≤ 1000000000000000) (c : Int) (hc : c = (M.cost t.data.toList : Nat)) :
    Calls Tryz.prog 148 #[.string t] w fun e w' => e = .returned (.int .i64 c) ∧ Below w.heap.size w w' := by
  have HC := Lib.hid hc
  clear hc
  obtain ⟨W1, cap, hcb, hcap, hlie, hfree, hbW, hgW⟩ := conv_bytes w t
  go_enter Tryz.func148, Tryz.ntmps148
  go_wp2_with fail
  clear hcb
  have hlen : t.data.toList.length = t.size := Array.length_toList
  clear hfree hgW
  go_loopw [3, 9] (fun a i wr => ∃ j : Nat, j ≤ t.size ∧ i = .int .i64 j ∧ a = .int .i64 ((M.cost (t.data.toList.take j) : Nat) : Int) ∧ Hid (wr = W1)) (fun a i _ => t.size - (intOf i).toNat)
  case atStart => exact ⟨0, Nat.zero_le _, rfl, by rw [List.take_zero]; rfl, rfl⟩
  case round =>
    obtain ⟨j, hj, rfl, rfl, HW⟩ := hrel
    have hle := cost_take_le t j
    by_cases hlt : j < t.size
    · have hi : j < t.data.toList.length := by omega
      have f1 := hlie j hi
      rw [← HW.out] at f1
      have hb := (t.data.toList[j]).toNat_lt
      have hsn := Lib.hid (cost_snoc t j hlt)
      go_wp2_with fail
      all_goals
        go_roundw
        case rel =>
          refine ⟨j + 1, by omega, by go_num, ?_, HW⟩
          rw [hsn.out]
          exact congrArg (Value.int .i64) (cb_go _ _ (by omega))
        case measure => simp [intOf]; omega
    · go_wp2_with fail
      go_ret
      have hje : j = t.size := by omega
      rw [List.take_of_length_le (by omega)]
      rw [HW.out, HC.out]
      exact ⟨rfl, hbW⟩
theorem Tryz.info5 : (Tryz.prog.info? 5).map (fun i => (i.zero, i.size, i.bytes)) = some (some (.int .u8 0), 1, 1) := by kernel_rfl
end
end Go.Proofs.YtpdckpifhniioaaGreat.Prd
end
section
set_option linter.unusedVariables false
set_option linter.unusedSimpArgs false
namespace Go.Proofs.YtpdckpifhniioaaGreat.Prd
open Go.RowKit
open Go.Proofs.YtpdckpifhniioaaGreat
section
/-- The cells of n bytes. -/
def cf (n : Nat) (f : Nat → UInt8) : Array Value := ((List.range n).map fun i => Value.int .u8 ((f i).toNat : Int)).toArray
theorem cf_size (n : Nat) (f : Nat → UInt8) : (cf n f).size = n := by simp [cf]
theorem cf_at (n : Nat) (f : Nat → UInt8) (i : Nat) (h : i < n) : (cf n f)[i]? = some (.int .u8 ((f i).toNat : Int)) := by simp [cf, h]
theorem cf_none (n : Nat) (f : Nat → UInt8) (i : Nat) (h : n ≤ i) : (cf n f)[i]? = none := by simp [cf, h]
theorem cf_congr (n : Nat) (f g : Nat → UInt8) (h : ∀ i, i < n → f i = g i) : cf n f = cf n g := by
  unfold cf
  congr 1
  exact List.map_congr_left fun i hi => by rw [h i (by simpa using hi)]
theorem cf_set (n : Nat) (f : Nat → UInt8) (i : Nat) (v : UInt8) : (cf n f).setIfInBounds i (.int .u8 (v.toNat : Int)) = cf n (M.put f i v) := by
  apply Array.ext_getElem?
  intro j
  rw [Array.getElem?_setIfInBounds]
  by_cases hj : j < n
  · rw [cf_at n (M.put f i v) j hj]
    by_cases e : i = j
    · subst e; rw [if_pos rfl, if_pos (by rw [cf_size]; exact hj), M.put_same]
    · rw [if_neg e, cf_at n f j hj, M.put_other _ _ _ _ (fun h => e h.symm)]
  · rw [cf_none n (M.put f i v) j (by omega)]
    by_cases e : i = j
    · subst e; rw [if_pos rfl, if_neg (by rw [cf_size]; exact hj)]
    · rw [if_neg e, cf_none n f j (by omega)]
theorem cf_one (n : Nat) (f : Nat → UInt8) : (cf n f).all (·.oneCell') = true := by
  rw [Array.all_eq_true]
  intro i hi
  have h := cf_at n f i (by rw [cf_size] at hi; exact hi)
  rw [Array.getElem?_eq_getElem hi] at h
  rw [Option.some.inj h]; rfl
theorem cf_extract (n : Nat) (f : Nat → UInt8) (o m : Nat) (h : o + m ≤ n) : (cf n f).extract o (o + m) = cf m (fun i => f (o + i)) := by
  apply Array.ext_getElem?
  intro j
  rw [Array.getElem?_extract]
  by_cases hj : j < m
  · rw [if_pos (by rw [cf_size]; omega), cf_at n f _ (by omega), cf_at m _ j hj]
  · rw [if_neg (by rw [cf_size]; omega), cf_none m _ j (by omega)]
theorem cf_tab (n : Nat) (f : Nat → UInt8) : (cf n f).toList = bvals (M.tab n f) := by simp [cf, bvals, M.tab]
theorem cf4 (f : Nat → UInt8) : cf 4 f = #[.int .u8 ((f 0).toNat : Int), .int .u8 ((f 1).toNat : Int), .int .u8 ((f 2).toNat : Int), .int .u8 ((f 3).toNat : Int)] := by rfl
/-- Block g holds the n bytes f. -/
def Bk (g : Nat) (t : TypeId) (n : Nat) (f : Nat → UInt8) (w : World) : Prop := w.heap[g]? = some (.cells (cf n f) t (0, 0))
theorem Bk.lt {g t n f w} (h : Bk g t n f w) : g < w.heap.size := by
  rcases Nat.lt_or_ge g w.heap.size with h' | h'
  · exact h'
  · unfold Bk at h; rw [Array.getElem?_eq_none h'] at h; simp at h
theorem Bk.cell {g t n f w} (h : Bk g t n f w) (i : Nat) (hi : i < n) : w.cell? ⟨g, i, none⟩ = some (.int .u8 ((f i).toNat : Int)) := by
  rw [cell_of_row w g i _ _ _ h]; exact cf_at n f i hi
theorem Bk.free {g t n f w} (h : Bk g t n f w) (i : Nat) : w.frozen? ⟨g, i, none⟩ = false := frozen_of_row w g i _ _ h
theorem Bk.set {g t n f w} (h : Bk g t n f w) (i : Nat) (v : UInt8) : Bk g t n (M.put f i v) (w.setCell ⟨g, i, none⟩ (.int .u8 (v.toNat : Int))) := by
  unfold Bk
  rw [heap_setCell_same _ _ _ _ _ _ h, cf_set]
theorem Bk.other {g t n f w} (h : Bk g t n f w) (a : Addr) (v : Value) (hne : g ≠ a.block) : Bk g t n f (w.setCell a v) := by
  unfold Bk
  rw [heap_setCell_other _ _ _ _ hne]; exact h
theorem Bk.keep {g t n f w w1} (h : Bk g t n f w) (hb : Below w.heap.size w w1) : Bk g t n f w1 := by
  have hl := h.lt
  unfold Bk at h ⊢
  rw [hb.block _ hl]; exact h
theorem Bk.drew {g t n f w} (h : Bk g t n f w) : Bk g t n f w.drew := h
theorem Bk.alloc {g t n f w} (h : Bk g t n f w) (o : Obj) : Bk g t n f (w.alloc o) := h.keep ((Below.refl _ _).alloc (Nat.le_refl _) o)
theorem Bk.new (w : World) (t : TypeId) (n : Nat) (f : Nat → UInt8) : Bk w.heap.size t n f (w.alloc (.cells (cf n f) t)) := heap_alloc_new _ _
theorem Bk.congr {g t n f f' w} (h : Bk g t n f w) (he : ∀ i, i < n → f i = f' i) : Bk g t n f' w := by
  unfold Bk at h ⊢
  rw [h, cf_congr n f f' he]
theorem Tryz.zero191 (w : World) : (zeroValue 191).run Tryz.prog w = .ok (.agg (cf 256 fun _ => 0)) w := by kernel_rfl
theorem Tryz.zero190 (w : World) : (zeroValue 190).run Tryz.prog w = .ok (.agg (cf 64 fun _ => 0)) w := by kernel_rfl
theorem Tryz.size191 : (Tryz.prog.info? 191).map (·.size) = some 256 := by kernel_rfl
theorem Tryz.size38 : (Tryz.prog.info? 38).map (·.size) = some 256 := by kernel_rfl
theorem Tryz.size190 : (Tryz.prog.info? 190).map (·.size) = some 64 := by kernel_rfl
theorem Tryz.size36 : (Tryz.prog.info? 36).map (·.size) = some 4 := by kernel_rfl
/-- Pixel i of a tile. -/
def px (t : Nat → UInt8) (i : Nat) : Array Value := #[.int .u8 ((t (4 * i)).toNat : Int), .int .u8 ((t (4 * i + 1)).toNat : Int), .int .u8 ((t (4 * i + 2)).toNat : Int), .int .u8 ((t (4 * i + 3)).toNat : Int)]
theorem run_index_pix (t : Nat → UInt8) (i : Nat) (h : i < 64) (w : World) : (Instr.index 38 (.agg (cf 256 t)) (.int .i64 i)).run Tryz.prog w = .ok (.agg (px t i)) w := by
  have hp : (cf 256 t).extract (i * 4) (i * 4 + 4) = px t i := by
    rw [cf_extract 256 t _ _ (by omega), cf4, Nat.mul_comm]; rfl
  have hu := Tryz.underlying38
  cases hq : Tryz.prog.info? 36 with
  | none => have := Tryz.size36; rw [hq] at this; simp at this
  | some inf =>
    have hs : inf.size = 4 := by have := Tryz.size36; rw [hq] at this; simpa using this
    simp [Instr.index, asIntOf, Sem.run_bind, run_underlying hu, h, part, sizeOf, typeInfo, hq, hs, hp]
end
section
theorem range_cf {g : Nat} {t : TypeId} {N : Nat} {f : Nat → UInt8} {w : World} (h : Bk g t N f w) (o n : Nat) (hle : o + n ≤ N) : w.rangeAt g o (cf n fun i => f (o + i)).toList := by
  intro j v hj
  rw [Array.getElem?_toList] at hj
  have hjn : j < n := by
    rcases Nat.lt_or_ge j n with h' | h'
    · exact h'
    · rw [cf_none n _ j h'] at hj; simp at hj
  rw [cf_at n _ j hjn] at hj
  rw [h.cell (o + j) (by omega), ← hj]
section
variable {ops : Array Oper} {rest : List Oper} {op : Oper} {a : Act} {w : World} {Q : Exit → Act → World → Prop}
theorem wp_load_cf (hgd : op.guard = none) (ty : TypeId) (x : Operand) (ho : op.op = .load ty x) (b o n N : Nat) (t : TypeId) (f : Nat → UInt8) (hx : a.eval x = .pointer (some ⟨b, o, none⟩))
    (d : TypeDesc) (hB : Bk b t N f w) (hle : o + n ≤ N) (hu : Tryz.prog.underlying ty = some d) (hd : d.isRow = true) (hi : (Tryz.prog.info? ty).map (·.size) = some n)
    (h : wpList Tryz.prog ops Q rest (a.put op.dst (.agg (cf n fun i => f (o + i)))) w) : wpList Tryz.prog ops Q (op :: rest) a w :=
  wpList_load_mid hgd ty x ho b o hx (cf n fun i => f (o + i)).toList d (range_cf hB o n hle) hu hd (by rw [hi, Array.length_toList, cf_size]) (by rw [Array.toArray_toList]; exact h)
theorem wp_store_cf (W : World) (hgd : op.guard = none) (ty : TypeId) (x y : Operand) (ho : op.op = .store ty x y) (hd : op.dst = none) (g : Nat) (hg : g = W.heap.size) (n : Nat) (f f0 : Nat → UInt8) (hx : a.eval x = .pointer (some ⟨g, 0, none⟩)) (hy : a.eval y = .agg (cf n f))
    (hi : (Tryz.prog.info? ty).map (·.size) = some n) (t : TypeId)
    (h : wpList Tryz.prog ops Q rest (a.put op.dst undef) (W.alloc (.cells (cf n f) t))) : wpList Tryz.prog ops Q (op :: rest) a (W.alloc (.cells (cf n f0) t)) := by
  subst hg
  refine wpList_store_row hgd ty x y ho W.heap.size (cf n f) hx hy t (cf n f0) (heap_alloc_new _ _) (by rw [hi, cf_size]) (by rw [cf_size, cf_size]) (cf_one _ _) ?_
  rw [World.setRow_alloc_new]
  exact h
/-- 'append(v, x...)' of a window of a block of bytes, v nil or of the call's own. -/
theorem wp_append_cf (hgd : op.guard = none) (s x : Operand) (ho : op.op = .call { callee := .builtin .append, args := #[s, x], argTypes := #[57, 57] })
    (base : Nat) (v : Value) (n : Nat) (l : List UInt8) (hs : a.eval s = v) (hown : w.ownsRow base 5 1 v n (bvals l)) (g o m c N : Nat) (t : TypeId) (f : Nat → UInt8) (hB : Bk g t N f w)
    (hx : a.eval x = .slice (some ⟨g, o, none⟩) m c) (hle : o + m ≤ N) (hlen : n + m ≤ 140737488355328) (hbase : base ≤ w.heap.size)
    (h : ∀ v' w', w'.ownsRow base 5 1 v' (n + m) (bvals (l ++ M.tab m fun i => f (o + i))) → w.grownBy w' v.ownBlock → wpList Tryz.prog ops Q rest (a.put op.dst v') w') : wpList Tryz.prog ops Q (op :: rest) a w := by
  obtain ⟨i0, hi, hz0, hz1, hz2⟩ := info_parts Tryz.info5
  refine wpList_append_own _ hgd s x 57 ho base 5 i0 (.int .u8 0) 1 1 Tryz.underlying57 hi hz0 hz1 hz2 rfl (by decide) v n (bvals l) hs hown ⟨g, o, none⟩ m c (cf m fun i => f (o + i)).toList hx (by rw [Array.length_toList, cf_size]; omega)
    (fun j u hj => by rw [Addr.add_mid]; exact range_cf hB o m hle j u hj) (fun u hu => ?_) (by unfold maxLen; omega) (by omega) hbase fun v' w' h1 h2 _ => h v' w' (by rw [bvals_append, ← cf_tab]; exact h1) h2
  have := cf_one m fun i => f (o + i)
  rw [Array.all_eq_true] at this
  rw [Array.mem_toList_iff] at hu
  obtain ⟨i, hi, rfl⟩ := Array.mem_iff_getElem.1 hu
  exact this i hi
end
set_option maxRecDepth 100000 in
set_option maxHeartbeats 400000 in
theorem concat_any (g : Nat) (f : Nat → UInt8) (w : World) (h : Bk g 191 256 f w) :
    Calls Tryz.prog 152 #[.slice (some ⟨g, 0, none⟩) 4 4] w fun e w' => e = .returned (.string ⟨(M.tab 256 f).toArray⟩) ∧ Below w.heap.size w w' := by
  have hz := Tryz.zero190
  go_enter Tryz.func152, Tryz.ntmps152
  go_wp2_with fail
  clear hz
  go_loopw [3, 8] (fun v a wr => ∃ q : Nat, q ≤ 4 ∧ a = .int .i64 q ∧ wr.ownsRow w.heap.size 5 1 v (q * 64) (bvals (M.tab (q * 64) f)) ∧ Bk g 191 256 f wr ∧ Below w.heap.size w wr) (fun _ a _ => 4 - (intOf a).toNat)
  case atStart => exact ⟨0, by omega, rfl, World.ownsRow_nil _ _ _ _, h, Below.refl _ _⟩
  case round =>
    obtain ⟨q, hq, rfl, hown, hB, hb⟩ := hrel
    by_cases hq4 : q < 4
    · have hz := Tryz.zero190
      go_wp2_with (first
        | (refine wp_load_cf rfl 190 _ rfl g (q * 64) 64 256 191 f rfl _ hB (by omega) Tryz.underlying190 rfl Tryz.size190 ?_)
        | (refine wp_store_cf wr rfl 190 _ _ rfl rfl wr.heap.size rfl 64 _ (fun _ => 0) rfl rfl Tryz.size190 190 ?_)
        | (at_builtin; refine wp_append_cf rfl _ _ rfl w.heap.size _ (q * 64) _ rfl (hown.alloc _) wr.heap.size 0 64 64 64 190 (fun i => f (q * 64 + i)) (Bk.new wr 190 64 _) rfl (by omega) (by omega) (by rw [World.size_alloc]; have := hb.size; omega) ?_; intro v' w' hown' hgr))
      go_roundw
      case rel =>
        refine ⟨q + 1, by omega, by go_num, ?_, ?_, ?_⟩
        · rw [show (q + 1) * 64 = q * 64 + 64 by omega, M.tab_add]
          simpa using hown'
        · have hlt := h.lt
          have h1 : Bk g 191 256 f (wr.alloc (.cells (cf 64 fun i => f (q * 64 + i)) 190)) := hB.alloc _
          unfold Bk at h1 ⊢
          rw [hgr.block g (by rw [World.size_alloc]; have := hb.size; omega) (fun e => by have := (hown.lt g e.symm).1; omega)]
          exact h1
        · exact (hb.alloc hb.size _).grown hgr (by rw [World.size_alloc]; have := hb.size; omega) (fun k hk => (hown.lt k hk).1)
      case measure => simp [intOf]; omega
    · have hq4' : q = 4 := by omega
      subst hq4'
      have hc := conv_own (P := Tryz.prog) wr 57 9 5 Tryz.underlying57 Tryz.underlying5 Tryz.underlying9 _ _ _ _ hown
      go_wp2_with fail
      go_ret
      exact ⟨rfl, hb⟩
end
section
/-- The four planes of a tile. -/
def plf (t : Nat → UInt8) (j : Nat) : UInt8 :=
  if j < 64 then M.swY (t (4 * j)) (t (4 * j + 1)) (t (4 * j + 2))
  else if j < 128 then M.swU (t (4 * (j - 64))) (t (4 * (j - 64) + 2))
  else if j < 192 then M.swV (t (4 * (j - 128))) (t (4 * (j - 128) + 1)) (t (4 * (j - 128) + 2))
  else t (4 * (j - 192) + 3)
/-- What the first loop of Forward has filled in n rounds. -/
def plN (t : Nat → UInt8) (n : Nat) (j : Nat) : UInt8 := if j % 64 < n then plf t j else 0
theorem plN_zero (t : Nat → UInt8) : plN t 0 = fun _ => 0 := by funext j; simp [plN]
theorem plN_put (t : Nat → UInt8) (n : Nat) (h : n < 64) (j : Nat) (hj : j < 256) :
    M.put (M.put (M.put (M.put (plN t n) n (M.swY (t (4 * n)) (t (4 * n + 1)) (t (4 * n + 2)))) (64 + n) (M.swU (t (4 * n)) (t (4 * n + 2)))) (128 + n) (M.swV (t (4 * n)) (t (4 * n + 1)) (t (4 * n + 2)))) (192 + n) (t (4 * n + 3)) j = plN t (n + 1) j := by
  unfold M.put plN
  by_cases h1 : j = 192 + n
  · subst h1
    rw [if_pos rfl, if_pos (by omega)]
    unfold plf
    rw [if_neg (by omega), if_neg (by omega), if_neg (by omega), show 192 + n - 192 = n by omega]
  rw [if_neg h1]
  by_cases h2 : j = 128 + n
  · subst h2
    rw [if_pos rfl, if_pos (by omega)]
    unfold plf
    rw [if_neg (by omega), if_neg (by omega), if_pos (by omega), show 128 + n - 128 = n by omega]
  rw [if_neg h2]
  by_cases h3 : j = 64 + n
  · subst h3
    rw [if_pos rfl, if_pos (by omega)]
    unfold plf
    rw [if_neg (by omega), if_pos (by omega), show 64 + n - 64 = n by omega]
  rw [if_neg h3]
  by_cases h4 : j = n
  · subst h4
    rw [if_pos rfl, if_pos (by omega)]
    unfold plf
    rw [if_pos (by omega)]
  rw [if_neg h4]
  by_cases h5 : j % 64 < n
  · rw [if_pos h5, if_pos (by omega)]
  · rw [if_neg h5, if_neg (by omega)]
theorem plN_full (t : Nat → UInt8) (j : Nat) : plN t 64 j = plf t j := by unfold plN; rw [if_pos (by omega)]
theorem fill_eq (wr : World) (f : Nat → UInt8) : ((wr.alloc (.cells prC 196)).alloc (.cells (cf 256 fun _ => 0) 191)).setRow (wr.heap.size + 1) (cf 256 f) = (wr.alloc (.cells prC 196)).alloc (.cells (cf 256 f) 191) := by
  have := World.setRow_alloc_new (wr.alloc (.cells prC 196)) (cf 256 fun _ => 0) (cf 256 f) 191
  rw [World.size_alloc] at this
  exact this
/-- The residuals, m of them done. -/
def outN (k : Nat) (p : Nat → UInt8) (m j : Nat) : UInt8 := if j < m then M.res k p j else p j
theorem outN_zero (k : Nat) (p : Nat → UInt8) (j : Nat) : outN k p 0 j = p j := by simp [outN]
theorem outN_at (k : Nat) (p : Nat → UInt8) (m : Nat) : outN k p m m = p m := by simp [outN]
theorem outN_full (k : Nat) (p : Nat → UInt8) (n j : Nat) (h : j < n) : outN k p n j = M.res k p j := by unfold outN; rw [if_pos h]
theorem outN_put (k : Nat) (p : Nat → UInt8) (q i j : Nat) (hi : i < 64) : M.put (outN k p (q * 64 + i)) (q * 64 + i) (p (q * 64 + i) - M.gs k (M.pl p q) i) j = outN k p (q * 64 + (i + 1)) j := by
  unfold M.put outN
  by_cases h : j = q * 64 + i
  · subst h
    rw [if_pos rfl, if_pos (by omega)]
    unfold M.res
    rw [show (q * 64 + i) / 64 = q by omega, show (q * 64 + i) % 64 = i by omega]
  · rw [if_neg h]
    by_cases h2 : j < q * 64 + i
    · rw [if_pos h2, if_pos (by omega)]
    · rw [if_neg h2, if_neg (by omega)]
theorem guess_bk (k : Nat) (hk : k < 6) (g : Nat) (p : Nat → UInt8) (q i : Nat) (hq : q < 4) (hi : i < 64) (w : World) (h : Bk g 191 256 p w) :
    Calls Tryz.prog 151 #[.pointer (some ⟨g, q * 64, none⟩), .int .i64 i, .func (.func (180 + k)) #[] #[]] w fun e w' => e = .returned (.int .u8 (M.gs k (M.pl p q) i).toNat) ∧ Below w.heap.size w w' :=
  guess_any k hk g (q * 64) (M.pl p q) i hi w h.lt (fun m hm => by
    have := h.cell (q * 64 + m) (by omega)
    rw [this]
    unfold M.pl
    rw [Nat.mul_comm])
theorem cell_keep {w w1 : World} {a : Addr} {v : Value} (h : w.cell? a = some v) (hb : Below w.heap.size w w1) : w1.cell? a = some v := by
  rw [hb.cell (block_lt_of_cell h)]; exact h
theorem e_sub8 (a b : UInt8) : ((a.toNat : Int) - (b.toNat : Int)) % 256 = ((a - b).toNat : Int) := by
  have := a.toNat_lt; have := b.toNat_lt
  rw [UInt8.toNat_sub]; omega
set_option maxRecDepth 100000 in
set_option maxHeartbeats 800000 in
theorem forward_any (t : Nat → UInt8) (k : Nat) (hk : k < 6) (w : World) :
    Calls Tryz.prog 113 #[.agg (cf 256 t), .int .i64 k] w fun e w' =>
      e = .returned (.tuple #[.string ⟨(M.tab 256 (M.res k (plf t))).toArray⟩, .int .i64 0]) ∧ Below w.heap.size w w' := by
  have hz := Tryz.zero191
  go_enter Tryz.func113, Tryz.ntmps113
  go_wp2_with fail
  refine (Predictors_any _).mono ?_
  rintro e w1 ⟨rfl, hb1⟩
  have ht : Bk w.heap.size 38 256 t w1 := (Bk.new w 38 256 t).keep hb1
  have hb := ((Below.refl w.heap.size w).alloc (Nat.le_refl _) (.cells (cf 256 t) 38)).trans (hb1.mono (by simp))
  have ht2 : Bk w.heap.size 38 256 t (w1.alloc (.cells (cf 256 fun _ => 0) 191)) := ht.alloc _
  clear hb1
  go_wp2_with (refine wpList_load_row rfl 38 _ rfl w.heap.size rfl 38 _ (0, 0) _ ht2 Tryz.underlying38 rfl (by rw [cf_size]; exact Tryz.size38) ?_)
  clear ht ht2 hz
  have hsz1 := hb.size
  go_loopw [21] (fun i wr => ∃ n : Nat, n ≤ 64 ∧ i = .int .i64 n ∧ Bk w1.heap.size 191 256 (plN t n) wr ∧ Below w.heap.size w wr) (fun i _ => 64 - (intOf i).toNat)
  case atStart => exact ⟨0, by omega, rfl, by rw [plN_zero]; exact Bk.new w1 191 256 _, hb.alloc hb.size _⟩
  case round =>
    obtain ⟨n, hn, rfl, hB, hbl⟩ := hrel
    have hlw := hB.lt
    by_cases hlt : n < 64
    · have c0 := hB.cell n (by omega)
      have c1 := hB.cell (64 + n) (by omega)
      have c2 := hB.cell (128 + n) (by omega)
      have c3 := hB.cell (192 + n) (by omega)
      have f0 := hB.free n
      have f1 := hB.free (64 + n)
      have f2 := hB.free (128 + n)
      have f3 := hB.free (192 + n)
      have HB := Lib.hid hB
      clear hB
      have hix : ∀ W, (Instr.index 38 (.agg (cf 256 t)) (.int .i64 n)).run Tryz.prog W = .ok (.agg #[.int .u8 ((t (4 * n)).toNat : Int), .int .u8 ((t (4 * n + 1)).toNat : Int), .int .u8 ((t (4 * n + 2)).toNat : Int), .int .u8 ((t (4 * n + 3)).toNat : Int)]) W := fun W => run_index_pix t n hlt W
      go_wp2_with (go_at_call 149; refine (swap_any _ _ _ _).mono ?_; rintro e w' ⟨rfl, rfl⟩)
      go_roundw
      case rel => exact ⟨n + 1, by omega, by go_num, (((((HB.out.set n _).set (64 + n) _).set (128 + n) _).set (192 + n) _).alloc _).congr (plN_put t n hlt), ((((hbl.setCell (p := ⟨w1.heap.size, n, none⟩) hsz1 _).setCell (p := ⟨w1.heap.size, 64 + n, none⟩) hsz1 _).setCell (p := ⟨w1.heap.size, 128 + n, none⟩) hsz1 _).setCell (p := ⟨w1.heap.size, 192 + n, none⟩) hsz1 _).alloc (by simp; omega) _⟩
      case measure => simp [intOf]; omega
    · have hn64 : n = 64 := by omega
      have hB2 := hB.congr (f' := plf t) (fun j _ => (by rw [hn64]; exact plN_full t j))
      clear hB hn64
      have hpc : (wr.alloc (.cells prC 196)).cell? ⟨wr.heap.size, k * 2 + 1, none⟩ = some (.func (.func (180 + k)) #[] #[]) := by rw [World.cell?_alloc_mark]; exact prC_at k hk
      have hz := Tryz.zero191
      have hB3 : Bk w1.heap.size 191 256 (plf t) (wr.alloc (.cells prC 196)) := hB2.alloc _
      have hN : Bk (wr.heap.size + 1) 191 256 (fun _ => 0) ((wr.alloc (.cells prC 196)).alloc (.cells (cf 256 fun _ => 0) 191)) := heap_alloc2_new _ _ _
      go_wp2_with (first
        | (go_at_call 150; refine (predictors_any _).mono ?_; rintro e w' ⟨rfl, rfl⟩)
        | (refine wpList_load_row rfl 191 _ rfl w1.heap.size rfl 191 _ (0, 0) _ hB3 Tryz.underlying191 rfl (by rw [cf_size]; exact Tryz.size191) ?_)
        | (refine wpList_store_row rfl 191 _ _ rfl (wr.heap.size + 1) (cf 256 (plf t)) rfl rfl 191 (cf 256 fun _ => 0) hN (by rw [cf_size]; exact Tryz.size191) (by rw [cf_size, cf_size]) (cf_one _ _) ?_))
      rw [fill_eq]
      have hP : Bk w1.heap.size 191 256 (plf t) ((wr.alloc (.cells prC 196)).alloc (.cells (cf 256 (plf t)) 191)) := hB3.alloc _
      have hO : Bk (wr.heap.size + 1) 191 256 (outN k (plf t) 0) ((wr.alloc (.cells prC 196)).alloc (.cells (cf 256 (plf t)) 191)) := Bk.congr (heap_alloc2_new _ _ _) (fun j _ => (outN_zero _ _ j).symm)
      have hL : Below w.heap.size w ((wr.alloc (.cells prC 196)).alloc (.cells (cf 256 (plf t)) 191)) := (hbl.alloc hbl.size _).alloc (by have := hbl.size; simp; omega) _
      clear hpc hB2 hB3 hN hz
      have hne : w1.heap.size ≠ wr.heap.size + 1 := by omega
      have hge : w.heap.size ≤ wr.heap.size + 1 := by omega
      generalize (wr.alloc (.cells prC 196)).alloc (.cells (cf 256 (plf t)) 191) = W0 at *
      generalize wr.heap.size + 1 = go at *
      generalize w1.heap.size = gp at *
      clear hbl hlw hsz1 hb hn hlt
      go_loopw [57] (fun a wo => ∃ q : Nat, q ≤ 4 ∧ a = .int .i64 q ∧ Bk gp 191 256 (plf t) wo ∧ Bk go 191 256 (outN k (plf t) (q * 64)) wo ∧ Below w.heap.size w wo) (fun a _ => 4 - (intOf a).toNat)
      case atStart => exact ⟨0, by omega, rfl, hP, hO, hL⟩
      case round =>
        obtain ⟨q, hq, rfl, hP1, hO1, hL1⟩ := hrel
        by_cases hq4 : q < 4
        · have hq0 : (0 : Int) ≤ (q : Int) := by omega
          have hq1 : (q : Int) < 4 := by omega
          go_wp2_with fail
          clear hP hO hL
          go_loopw [60] (fun a wi => ∃ i : Nat, i ≤ 64 ∧ a = .int .i64 i ∧ Bk gp 191 256 (plf t) wi ∧ Bk go 191 256 (outN k (plf t) (q * 64 + i)) wi ∧ Below w.heap.size w wi) (fun a _ => 64 - (intOf a).toNat)
          case atStart => exact ⟨0, by omega, rfl, hP1, hO1, hL1⟩
          case round =>
            obtain ⟨i, hi, rfl, hP2, hO2, hL2⟩ := hrel
            clear hP1 hO1 hL1
            by_cases hi4 : i < 64
            · have hc := hO2.cell (q * 64 + i) (by omega)
              rw [outN_at] at hc
              have hf := hO2.free (q * 64 + i)
              have hcd : wr.drew.cell? ⟨go, q * 64 + i, none⟩ = some (.int .u8 ((plf t (q * 64 + i)).toNat : Int)) := hc
              have hfd : wr.drew.frozen? ⟨go, q * 64 + i, none⟩ = false := hf
              have hi0 : (0 : Int) ≤ (i : Int) := by omega
              have hi1 : (i : Int) < 64 := by omega
              have HP := Lib.hid hP2
              have HO := Lib.hid hO2
              have HL := Lib.hid hL2
              clear hP2 hO2 hL2 hc hf
              go_wp2_with fail
              go_region_with (go_at_call 151; refine (guess_bk k hk gp (plf t) q i hq4 hi4 _ (Bk.drew HP.out)).mono ?_; rintro e w2 ⟨rfl, hb2⟩; have hc2 := cell_keep hcd hb2; have hf2 := (hb2.frozen (p := ⟨go, q * 64 + i, none⟩) (block_lt_of_cell hcd)).trans hfd)
              all_goals
                go_wp2_with fail
                go_roundw
                case rel =>
                  rw [e_sub8]
                  refine ⟨i + 1, by omega, ?_, ((Bk.drew HP.out).keep hb2).other _ _ hne, Bk.congr (((Bk.drew HO.out).keep hb2).set (q * 64 + i) _) (fun j _ => outN_put k (plf t) q i j hi4), (bt (Below.drew HL.out) hb2).setCell (p := ⟨go, q * 64 + i, none⟩) hge _⟩
                  go_num
                case measure => simp [intOf]; omega
            · have hi64 : i = 64 := by omega
              subst hi64
              go_wp2_with fail
              go_roundw
              case rel =>
                first
                | exact ⟨q + 1, by omega, by go_num, hP2, by rw [show (q + 1) * 64 = q * 64 + 64 by omega]; exact hO2, hL2⟩
                | ((repeat apply Exists.intro); refine ⟨⟨q + 1, by omega, ?_, hP2, by rw [show (q + 1) * 64 = q * 64 + 64 by omega]; exact hO2, hL2⟩, rfl⟩; go_num)
              case measure => simp [intOf]; omega
        · have hq4' : q = 4 := by omega
          subst hq4'
          have hB : Bk go 191 256 (M.res k (plf t)) wr := hO1.congr (fun j hj => outN_full _ _ _ _ hj)
          clear hO1 hP1 hP hO hL
          go_wp2_with (go_at_call 152; refine (concat_any go _ _ hB).mono ?_; rintro e w2 ⟨rfl, hb2⟩)
          go_ret2
          exact ⟨rfl, bt hL1 hb2⟩
end
end Go.Proofs.YtpdckpifhniioaaGreat.Prd
end
section
set_option linter.unusedVariables false
set_option linter.unusedSimpArgs false
namespace Go.Proofs.YtpdckpifhniioaaGreat.Prd
open Go.RowKit
open Go.Proofs.YtpdckpifhniioaaGreat
section
def fw (k : Nat) (t : Nat → UInt8) : ByteArray := ⟨(M.tab 256 (M.res k (plf t))).toArray⟩
theorem fw_size (k : Nat) (t : Nat → UInt8) : (fw k t).size = 256 := by unfold fw; rw [str_size, M.tab_length]
theorem forward_of (t : Nat → UInt8) (k : Nat) (hk : k < 6) (n : Int) (hn : n = k) (w : World) : Calls Tryz.prog 113 #[.agg (cf 256 t), .int .i64 n] w fun e w' => e = .returned (.tuple #[.string (fw k t), .int .i64 0]) ∧ Below w.heap.size w w' := by
  subst hn
  exact forward_any t k hk w
end
section
/-- 256 bytes as a string. -/
def St (f : Nat → UInt8) : ByteArray := ⟨(M.tab 256 f).toArray⟩
/-- The tile of four planes. -/
def til (p : Nat → UInt8) (j : Nat) : UInt8 :=
  if j % 4 = 0 then M.bkR (p (j / 4)) (p (64 + j / 4)) (p (128 + j / 4)) else if j % 4 = 1 then M.bkG (p (j / 4)) (p (128 + j / 4)) else if j % 4 = 2 then M.bkB (p (j / 4)) (p (64 + j / 4)) (p (128 + j / 4)) else p (192 + j / 4)
end
end Go.Proofs.YtpdckpifhniioaaGreat.Prd
end
section
set_option linter.unusedVariables false
set_option linter.unusedSimpArgs false
namespace Go.Proofs.YtpdckpifhniioaaGreat
open Go.RowKit
namespace Ab
theorem enters113 : Enters Tryz.prog 113 := fun args w => by go_simp
theorem enters114 : Enters Tryz.prog 114 := fun args w => by go_simp
theorem enters147 : Enters Tryz.prog 147 := fun args w => by go_simp
theorem enters148 : Enters Tryz.prog 148 := fun args w => by go_simp
theorem plLs_tv : ∀ l : List Nat, ∀ t : Nat → UInt8, plLs (l.map fun i => ub (t i)) = some (l.map fun i => bv8 (t i))
  | [], _ => rfl
  | i :: l, t => by
    simp only [List.map_cons, plLs, Leaf.pl]
    rw [show leafy (Value.int .u8 ((t i).toNat : Nat)) = true from rfl, plLs_tv l t]
theorem plLs_tl (t : Nat → UInt8) : plLs (tl t) = some (tv t) := plLs_tv _ t
theorem cpl_agg {xs : List Leaf} {ys : List Value} (h : plLs xs = some ys) : (Cp.agg xs).pl = some (.agg ys.toArray) := by simp only [Cp.pl, h]
theorem tv_cf (t : Nat → UInt8) : (tv t).toArray = Prd.cf 256 t := by unfold tv Prd.cf; rfl
theorem cpl_tl (t : Nat → UInt8) : (Cp.agg (tl t)).pl = some (.agg (Prd.cf 256 t)) := by rw [cpl_agg (plLs_tl t), tv_cf]
theorem pl_tl (t : Nat → UInt8) : (SV.c (.agg (tl t))).pl = some (.agg (Prd.cf 256 t)) := cpl_tl t
theorem pls_tl (t : Nat → UInt8) {l : List SV} {ys : List Value} (h : pls l = some ys) : pls (.c (.agg (tl t)) :: l) = some (.agg (Prd.cf 256 t) :: ys) := by
  unfold pls
  rw [pl_tl, h]
theorem C147 (n : Nat) : CallOK Tryz.prog 147 [] [] n (iv .i64 6) [] 0 :=
  call_plain enters147 (vals := []) (y := .int .i64 6) rfl rfl n fun x => (Prd.Predictors_any x).mono fun e x' h => ⟨h.1, h.2⟩
theorem C148 (s : ByteArray) (hs : s.size ≤ 1000000000000000) (n : Nat) : CallOK Tryz.prog 148 [.c (.l (.v (.string s)))] [] n (iv .i64 (Prd.M.cost s.data.toList : Nat)) [] 0 :=
  call_plain enters148 (vals := [.string s]) (y := .int .i64 (Prd.M.cost s.data.toList : Nat)) rfl rfl n fun x => (Prd.cost_any s x hs _ rfl).mono fun e x' h => ⟨h.1, h.2⟩
theorem C113 (t : Nat → UInt8) (k : Int) (h0 : 0 ≤ k) (hk : k < 6) (n : Nat) : CallOK Tryz.prog 113 [.c (.agg (tl t)), iv .i64 k] [] n (.tup [.l (.v (.string (Prd.fw k.toNat t))), .l (li 0)]) [] 0 :=
  call_plain enters113 (vals := [.agg (Prd.cf 256 t), .int .i64 k]) (y := .tuple #[.string (Prd.fw k.toNat t), .int .i64 0]) (pls_tl t rfl) rfl n fun x => (Prd.forward_of t k.toNat (by omega) k (by omega) x).mono fun e x' h => ⟨h.1, h.2⟩
theorem fw_congr (k : Nat) {t u : Nat → UInt8} (h : ∀ i, i < 256 → t i = u i) : Prd.fw k t = Prd.fw k u := by
  unfold Prd.fw
  congr 2
  refine Prd.M.tab_congr 256 _ _ fun i hi => Prd.M.res_congr k _ _ i fun m h1 h2 => ?_
  unfold Prd.plf
  split
  · rw [h (4 * m) (by omega), h (4 * m + 1) (by omega), h (4 * m + 2) (by omega)]
  · split
    · rw [h (4 * (m - 64)) (by omega), h (4 * (m - 64) + 2) (by omega)]
    · split
      · rw [h (4 * (m - 128)) (by omega), h (4 * (m - 128) + 1) (by omega), h (4 * (m - 128) + 2) (by omega)]
      · rw [h (4 * (m - 192) + 3) (by omega)]
theorem C113L (l : List Leaf) (t : Nat → UInt8) (h : l = tl t) (k : Int) (h0 : 0 ≤ k) (hk : k < 6) (n : Nat) : CallOK Tryz.prog 113 [.c (.agg l), iv .i64 k] [] n (.tup [.l (.v (.string (Prd.fw k.toNat (lsB l)))), .l (li 0)]) [] 0 := by
  subst h
  rw [fw_congr k.toNat (fun i hi => lsB_tl t hi)]
  exact C113 t k h0 hk n
theorem C114 (s : ByteArray) (hs : s.size ≤ 2500000) (n : Nat) : CallOK Tryz.prog 114 [.c (.l (.v (.string s)))] [] n (.c (.l (.v (.string ⟨(Cod.M.enc s.data.toList).toArray⟩)))) [] 0 :=
  call_plain enters114 (vals := [.string s]) (y := .string ⟨(Cod.M.enc s.data.toList).toArray⟩) rfl rfl n fun x => (Cod.encode_any s x hs).mono fun e x' h => ⟨h.1, h.2⟩
theorem fw_lsB (k : Nat) (t : Nat → UInt8) : Prd.fw k (lsB (tl t)) = Prd.fw k t := fw_congr k fun i hi => lsB_tl t hi
theorem fw_len (k : Nat) (t : Nat → UInt8) : (Prd.fw k t).size = 256 := Prd.fw_size k t
/-- What Best has found after k predictors: the predictor, its cost. -/
def bst (t : Nat → UInt8) : Nat → Nat × Nat
  | 0 => (0, 1073741824)
  | k + 1 => bif decide ((Prd.M.cost (Prd.fw k t).data.toList : Nat) < (bst t k).2) then (k, Prd.M.cost (Prd.fw k t).data.toList) else bst t k
/-- The predictor of least cost. -/
def bestT (t : Nat → UInt8) : Nat := (bst t 6).1
def costI (k : Nat) (t : Nat → UInt8) : Int := (Prd.M.cost (Prd.fw k t).data.toList : Nat)
def I112 (t : Nat → UInt8) (k : Nat) : St := ⟨[(10, iv .i64 (k : Nat)), (9, iv .i64 6), (3, iv .i64 ((bst t k).1 : Nat)), (4, iv .i64 ((bst t k).2 : Nat)), (1, .c (.l (.p 0 0)))], [(0, some ⟨tl t, .t 38⟩)], 1, 28, [0], (0)⟩
theorem bst_t {t : Nat → UInt8} {k : Nat} (h : decide (costI k t < ((bst t k).2 : Nat)) = true) : ((k : Nat) : Int) = ((bst t (k + 1)).1 : Nat) ∧ costI k t = ((bst t (k + 1)).2 : Nat) := by
  have h := of_decide_eq_true h
  unfold costI at h ⊢
  rw [bst]
  rw [decide_eq_true (by omega)]
  exact ⟨rfl, rfl⟩
theorem bst_f {t : Nat → UInt8} {k : Nat} (h : decide (costI k t < ((bst t k).2 : Nat)) = false) : ((bst t k).1 : Int) = ((bst t (k + 1)).1 : Nat) ∧ ((bst t k).2 : Int) = ((bst t (k + 1)).2 : Nat) := by
  have h := of_decide_eq_false h
  unfold costI at h
  rw [bst]
  rw [decide_eq_false (by omega)]
  exact ⟨rfl, rfl⟩
theorem bst_lt (t : Nat → UInt8) : ∀ k, 0 < k → (bst t k).1 < k
  | 0, h => by omega
  | k + 1, _ => by
    rw [bst]
    by_cases h : (Prd.M.cost (Prd.fw k t).data.toList : Nat) < (bst t k).2
    · rw [decide_eq_true h]; exact Nat.lt_succ_self k
    · rw [decide_eq_false h]
      rcases Nat.eq_zero_or_pos k with rfl | hk
      · exact Nat.zero_lt_one
      · exact Nat.lt_succ_of_lt (bst_lt t k hk)
theorem bestT_lt (t : Nat → UInt8) : bestT t < 6 := bst_lt t 6 (by decide)
theorem bst_congr {t u : Nat → UInt8} (h : ∀ i, i < 256 → t i = u i) : ∀ k, bst t k = bst u k
  | 0 => rfl
  | k + 1 => by rw [bst, bst, bst_congr h k, fw_congr k h]
theorem bestT_lsB (t : Nat → UInt8) : bestT (lsB (tl t)) = bestT t := by unfold bestT; rw [bst_congr (fun i hi => lsB_tl t hi)]
def cz_R112 (t : Nat → UInt8) (k : Nat) : Cz := {
  ct := (fun f => match f with
  | 113 => some fun _ _S ar => match ar with | [.c (.agg l), .c (.l (.v (.int _ k)))] => some { v := .tup [.l (.v (.string (Prd.fw k.toNat (lsB l)))), .l (li 0)], rd := [], wr := [], nw := 0 } | _ => none
  | 147 => some fun _ _S ar => match ar with | [] => some { v := iv .i64 6, rd := [], wr := [], nw := 0 } | _ => none
  | 148 => some fun _ _S ar => match ar with | [.c (.l (.v (.string s)))] => some { v := iv .i64 (Prd.M.cost s.data.toList : Nat), rd := [], wr := [], nw := 0 } | _ => none
  | _ => none)
  eq := (fun t => match t with
  | _ => none)
  raw := [], sym := [], nf := [(14, .c (.agg (tl t))), (16, .tup [.l (.v (.string (Prd.fw k t))), .l (li 0)]), (20, iv .i64 (costI k t))], ap := true, off := [], on := [], lp := fun _ => none, un := 0 }
set_option maxRecDepth 100000 in
theorem R112 (t : Nat → UInt8) (k : Nat)  (K : Exit → St → Prop) (h : HB (decide ((Nat.cast k : Int) < 6)) (Le (ag (List.take 256 (tl t))) (ag (tl t)) ∧ CallOKd Tryz.prog 113 [] [ag (tl t), iv IntKind.i64 (Nat.cast k : Int)] [] 1 (SV.tup [Cp.l (Leaf.v (Value.string (Prd.fw ((Nat.cast k : Int)).toNat (lsB (tl t))))), Cp.l (li 0)]) [] 0 ∧ Le (SV.tup [Cp.l (Leaf.v (Value.string (Prd.fw ((Nat.cast k : Int)).toNat (lsB (tl t))))), Cp.l (li 0)]) (SV.tup [Cp.l (Leaf.v (Value.string (Prd.fw k t))), Cp.l (li 0)]) ∧ CallOKd Tryz.prog 148 [] [SV.c (Cp.l (Leaf.v (Value.string (Prd.fw k t))))] [] 1 (iv IntKind.i64 (Nat.cast ((Prd.M.cost (Prd.fw k t).data.toList)) : Int)) [] 0 ∧ Le (iv IntKind.i64 (Nat.cast ((Prd.M.cost (Prd.fw k t).data.toList)) : Int)) (iv IntKind.i64 (costI k t)) ∧ HB (decide (costI k t < (Nat.cast ((bst t k).snd) : Int))) (IntKind.i64.wrap ((Nat.cast k : Int) + 1) = (Nat.cast k : Int) + 1 ∧ RoundTo Tryz.prog ((getLoop 3 (Tryz.f112.body.getD Code.skip)).getD Code.skip) 1 (wkK 1 K) (St.mk [(10, iv IntKind.i64 ((Nat.cast k : Int) + 1)), (26, iv IntKind.i64 ((Nat.cast k : Int) + 1)), (4, iv IntKind.i64 (costI k t)), (3, iv IntKind.i64 (Nat.cast k : Int)), (25, iv IntKind.i64 (costI k t)), (24, iv IntKind.i64 (Nat.cast k : Int)), (23, bv (decide (costI k t < (Nat.cast ((bst t k).snd) : Int)))), (22, iv IntKind.i64 (Nat.cast ((bst t k).snd) : Int)), (21, iv IntKind.i64 (costI k t)), (8, iv IntKind.i64 (costI k t)), (20, iv IntKind.i64 (costI k t)), (19, SV.c (Cp.l (Leaf.v (Value.string (Prd.fw k t))))), (7, iv IntKind.i64 0), (6, SV.c (Cp.l (Leaf.v (Value.string (Prd.fw k t))))), (18, iv IntKind.i64 0), (17, SV.c (Cp.l (Leaf.v (Value.string (Prd.fw k t))))), (13, SV.tup [Cp.l (Leaf.v (Value.string (Prd.fw k t))), Cp.l (li 0)]), (16, SV.tup [Cp.l (Leaf.v (Value.string (Prd.fw k t))), Cp.l (li 0)]), (15, iv IntKind.i64 (Nat.cast k : Int)), (14, ag (tl t)), (5, iv IntKind.i64 (Nat.cast k : Int)), (12, iv IntKind.i64 (Nat.cast k : Int)), (11, bv (decide ((Nat.cast k : Int) < 6))), (10, iv IntKind.i64 (Nat.cast k : Int)), (9, iv IntKind.i64 6), (3, iv IntKind.i64 (Nat.cast ((bst t k).fst) : Int)), (4, iv IntKind.i64 (Nat.cast ((bst t k).snd) : Int)), (1, SV.c (Cp.l (Leaf.p 0 0)))] [(0, some (Blk.mk (tl t) (BT.t 38)))] 1 28 [0] 0)) (IntKind.i64.wrap ((Nat.cast k : Int) + 1) = (Nat.cast k : Int) + 1 ∧ RoundTo Tryz.prog ((getLoop 3 (Tryz.f112.body.getD Code.skip)).getD Code.skip) 1 (wkK 1 K) (St.mk [(10, iv IntKind.i64 ((Nat.cast k : Int) + 1)), (26, iv IntKind.i64 ((Nat.cast k : Int) + 1)), (23, bv (decide (costI k t < (Nat.cast ((bst t k).snd) : Int)))), (22, iv IntKind.i64 (Nat.cast ((bst t k).snd) : Int)), (21, iv IntKind.i64 (costI k t)), (8, iv IntKind.i64 (costI k t)), (20, iv IntKind.i64 (costI k t)), (19, SV.c (Cp.l (Leaf.v (Value.string (Prd.fw k t))))), (7, iv IntKind.i64 0), (6, SV.c (Cp.l (Leaf.v (Value.string (Prd.fw k t))))), (18, iv IntKind.i64 0), (17, SV.c (Cp.l (Leaf.v (Value.string (Prd.fw k t))))), (13, SV.tup [Cp.l (Leaf.v (Value.string (Prd.fw k t))), Cp.l (li 0)]), (16, SV.tup [Cp.l (Leaf.v (Value.string (Prd.fw k t))), Cp.l (li 0)]), (15, iv IntKind.i64 (Nat.cast k : Int)), (14, ag (tl t)), (5, iv IntKind.i64 (Nat.cast k : Int)), (12, iv IntKind.i64 (Nat.cast k : Int)), (11, bv (decide ((Nat.cast k : Int) < 6))), (10, iv IntKind.i64 (Nat.cast k : Int)), (9, iv IntKind.i64 6), (3, iv IntKind.i64 (Nat.cast ((bst t k).fst) : Int)), (4, iv IntKind.i64 (Nat.cast ((bst t k).snd) : Int)), (1, SV.c (Cp.l (Leaf.p 0 0)))] [(0, some (Blk.mk (tl t) (BT.t 38)))] 1 28 [0] 0))) (wkK 1 K (Exit.exit 0) (St.mk [(11, bv (decide ((Nat.cast k : Int) < 6))), (10, iv IntKind.i64 (Nat.cast k : Int)), (9, iv IntKind.i64 6), (3, iv IntKind.i64 (Nat.cast ((bst t k).fst) : Int)), (4, iv IntKind.i64 (Nat.cast ((bst t k).snd) : Int)), (1, SV.c (Cp.l (Leaf.p 0 0)))] [(0, some (Blk.mk (tl t) (BT.t 38)))] 1 28 [0] 0))) : WPL Tryz.prog ((getLoop 3 (Tryz.f112.body.getD .skip)).getD .skip) (I112 t k) (wkK 1 K) :=
  wp_round (cx := cz_R112 t k) rfl (of_eq (by kernel_rfl) h)
set_option maxRecDepth 100000 in
set_option maxHeartbeats 4000000 in
theorem L112 (t : Nat → UInt8)  : ∀ (m k : Nat), 6 - k = m → k ≤ 6 → ∀ (K : Exit → St → Prop), K (.exit 0) (I112 t 6) → WPL Tryz.prog ((getLoop 3 (Tryz.f112.body.getD .skip)).getD .skip) (I112 t k) (wkK 1 K)
  | 0, k, hm, hk, K, hK => by
    have e : k = 6 := by omega
    subst e
    refine R112 t _ K (HB.mk (fun hne => absurd (of_decide_eq_true hne) (by omega)) (fun he => ?_))
    exact wkK.to (I112 t _) (Nat.le_refl _) (by kernel_rfl) (wkE_cons (LeN.sl (by kernel_rfl) rfl) (wkE_cons (LeN.sl (by kernel_rfl) rfl) (wkE_cons (LeN.sl (by kernel_rfl) rfl) (wkE_cons (LeN.sl (by kernel_rfl) rfl) (wkE_cons (LeN.sl (by kernel_rfl) rfl) trivial))))) (wkH_cons (BkN.blk (k := ⟨tl t, .t 38⟩) (by kernel_rfl) (rfl) (by kernel_rfl)) trivial) hK
  | m + 1, k, hm, hk, K, hK => by
    refine R112 t k K (HB.mk (fun hne => ?_) (fun he => absurd (show ((k : Nat) : Int) < (6 : Nat) by omega) (of_decide_eq_false he)))
    have hlt : k < 6 := by omega
    repeat' (first | exact trivial | with_reducible apply And.intro | (with_reducible apply HB.mk) | with_reducible intro _)
    all_goals first
      | (assumption)
      | (with_reducible exact Le.refl _)
      | ((with_reducible refine C113L _ _ rfl _ ?_ ?_ _) <;> omega)
      | ((with_reducible refine C148 _ ?_ _); rw [fw_len]; decide)
      | (exact Le.of (by rw [tl_take]))
      | (exact Le.of (by rw [show (((k : Nat) : Int)).toNat = k from rfl, fw_lsB]))
      | ((with_reducible refine C148 _ ?_ _); rw [fw_len]; decide)
      | (exact Le.of rfl)
      | (have hcnd : decide (costI k t < ((bst t k).2 : Nat)) = true := (by with_reducible assumption); refine RoundTo.to (I112 t (k + 1)) (Nat.le_refl _) (by kernel_rfl) (wkE_cons (LeN.sl (by kernel_rfl) rfl) (wkE_cons (LeN.sl (by kernel_rfl) rfl) (wkE_cons (LeN.sl_int (y := ((k : Nat) : Int)) (by kernel_rfl) ((bst_t hcnd).1)) (wkE_cons (LeN.sl_int (y := costI k t) (by kernel_rfl) ((bst_t hcnd).2)) (wkE_cons (LeN.sl (by kernel_rfl) rfl) trivial))))) (wkH_cons (BkN.blk (k := ⟨tl t, .t 38⟩) (by kernel_rfl) (rfl) (by kernel_rfl)) trivial) (L112 t  m (k + 1) (by omega) (by omega) K hK))
      | (have hcnd : decide (costI k t < ((bst t k).2 : Nat)) = false := (by with_reducible assumption); refine RoundTo.to (I112 t (k + 1)) (Nat.le_refl _) (by kernel_rfl) (wkE_cons (LeN.sl (by kernel_rfl) rfl) (wkE_cons (LeN.sl (by kernel_rfl) rfl) (wkE_cons (LeN.sl_int (y := (((bst t k).1 : Nat) : Int)) (by kernel_rfl) ((bst_f hcnd).1)) (wkE_cons (LeN.sl_int (y := (((bst t k).2 : Nat) : Int)) (by kernel_rfl) ((bst_f hcnd).2)) (wkE_cons (LeN.sl (by kernel_rfl) rfl) trivial))))) (wkH_cons (BkN.blk (k := ⟨tl t, .t 38⟩) (by kernel_rfl) (rfl) (by kernel_rfl)) trivial) (L112 t  m (k + 1) (by omega) (by omega) K hK))
      | (exact okw _ (by omega) (by omega))
      | (exact Le.of rfl)
      | (exact BkR.of rfl)
      | (unfold SlOK; omega)
      | (unfold SlOK; decide)
      | (unfold inByte; decide)
      | (simp only [*, Bool.and_self, Bool.not_false, Bool.not_true]; done)
      | (simp_all [wants]; done)
theorem enters112 : Enters Tryz.prog 112 := fun args w => by go_simp
def cz_C112 (t : Nat → UInt8) : Cz := {
  ct := (fun f => match f with
  | 113 => some fun _ _S ar => match ar with | [.c (.agg l), .c (.l (.v (.int _ k)))] => some { v := .tup [.l (.v (.string (Prd.fw k.toNat (lsB l)))), .l (li 0)], rd := [], wr := [], nw := 0 } | _ => none
  | 147 => some fun _ _S ar => match ar with | [] => some { v := iv .i64 6, rd := [], wr := [], nw := 0 } | _ => none
  | 148 => some fun _ _S ar => match ar with | [.c (.l (.v (.string s)))] => some { v := iv .i64 (Prd.M.cost s.data.toList : Nat), rd := [], wr := [], nw := 0 } | _ => none
  | _ => none)
  eq := (fun t => match t with
  | _ => none)
  raw := [], sym := [], nf := [], ap := true, off := [], on := [], lp := fun r => match r with | 3 => some (fun _ K => K (.exit 0) (I112 t 6)) | _ => none, un := 0 }
set_option maxRecDepth 100000 in
set_option maxHeartbeats 400000 in
theorem C112 (t : Nat → UInt8)  (n : Nat) : CallOK Tryz.prog 112 [.c (.agg (tl t))] [] n (iv .i64 (bestT t : Nat)) [] 0 := by
  refine CallOK.any ?_ (by kernel_rfl) (by kernel_rfl) n
  refine call_ok (cx := cz_C112 t) (nm := []) rfl Tryz.func112 (body := Tryz.f112.body.getD .skip) rfl enters112 (by kernel_rfl) ?_
  apply of_eq (q := CallOKd Tryz.prog 147 [] [] [] 1 (iv IntKind.i64 6) [] 0 ∧ (LoopOK Tryz.prog ((getLoop 3 (Tryz.f112.body.getD .skip)).getD .skip) (St.mk [(10, iv IntKind.i64 0), (9, iv IntKind.i64 6), (4, iv IntKind.i64 1073741824), (3, iv IntKind.i64 0), (2, iv IntKind.i64 0), (1, SV.c (Cp.l (Leaf.p 0 0))), (0, ag (tl t))] [(0, some (Blk.mk (tl t) (BT.t 38)))] 1 28 [0] 0) fun K => K (Exit.exit 0) (I112 t 6)) ∧ Le (iv IntKind.i64 (Nat.cast ((bst t 6).fst) : Int)) (iv IntKind.i64 (Nat.cast ((bestT t)) : Int)) ∧ True) (by kernel_rfl)
  repeat' (first | exact trivial | with_reducible apply And.intro | (with_reducible apply HB.mk) | with_reducible intro _)
  all_goals first
    | (assumption)
    | (with_reducible exact Le.refl _)
    | (with_reducible exact C147 _)
    | (exact LoopOK.mk (I112 t 0) rfl (by kernel_rfl) (wkE_cons (LeN.sl (by kernel_rfl) rfl) (wkE_cons (LeN.sl (by kernel_rfl) rfl) (wkE_cons (LeN.sl (by kernel_rfl) rfl) (wkE_cons (LeN.sl (by kernel_rfl) rfl) (wkE_cons (LeN.sl (by kernel_rfl) rfl) trivial))))) (wkH_cons (BkN.blk (k := ⟨tl t, .t 38⟩) (by kernel_rfl) (rfl) (by kernel_rfl)) trivial) (fun K hT => L112 t  _ 0 rfl (by first | decide | omega) K hT))
    | (exact Le.of rfl)
    | (exact okw _ (by omega) (by omega))
    | (exact Le.of rfl)
    | (exact BkR.of rfl)
    | (unfold SlOK; omega)
    | (unfold SlOK; decide)
    | (unfold inByte; decide)
    | (simp only [*, Bool.and_self, Bool.not_false, Bool.not_true]; done)
    | (simp_all [wants]; done)
theorem C112L (l : List Leaf) (t : Nat → UInt8) (h : l = tl t) (n : Nat) : CallOK Tryz.prog 112 [.c (.agg l)] [] n (iv .i64 (bestT (lsB l) : Nat)) [] 0 := by
  subst h
  rw [bestT_lsB]
  exact C112 t n
end Ab
end Go.Proofs.YtpdckpifhniioaaGreat
end
section
set_option linter.unusedVariables false
namespace Go.Proofs.YtpdckpifhniioaaGreat
open Go.RowKit
namespace Ab
def Plain (l : List Leaf) : Prop := ∀ x ∈ l, ∃ v, x = .v v
theorem Plain.nil : Plain [] := fun x h => by cases h
theorem Plain.cons {v : Value} {l : List Leaf} (h : Plain l) : Plain (.v v :: l) := fun x hx => by
  cases hx with
  | head => exact ⟨v, rfl⟩
  | tail _ hx => exact h x hx
theorem Plain.append {l m : List Leaf} (h : Plain l) (k : Plain m) : Plain (l ++ m) := fun x hx => by
  rcases List.mem_append.1 hx with hx | hx
  · exact h x hx
  · exact k x hx
theorem plain_tl (t : Nat → UInt8) : Plain (tl t) := tl_plain t
theorem plain_rws (l : List TA) : Plain (rws l) := rws_plain l
theorem plain_sbytes (s : ByteArray) : Plain (sbytes s) := fun x hx => by
  simp only [sbytes, List.mem_map] at hx
  obtain ⟨b, _, rfl⟩ := hx
  exact ⟨_, rfl⟩
section
variable {P : Program} {S : St} {l : List (Nat × Option Nat)} {n t id j : Nat}
theorem LeR.sl_int {k : IntKind} {x y : Int} (h : S.sl t = iv k y) (e : y = x) : LeR l n (S.sl t) (iv k x) := by
  rw [h, e]; exact LeR.of rfl
theorem LeR.sl_o {m m' : Nat} (h : S.sl t = .c (.l (.o j m))) (hr : ri l n j = some id) (e : m = m') : LeR l n (S.sl t) (.c (.l (.o id m'))) := by
  rw [h, e]; exact LeR.of (by simp [SV.rn, Cp.rn, Leaf.rn, hr])
theorem LeR.sl {v : SV} (h : S.sl t = v) (hl : v.rn (ri l n) = some v) : LeR l n (S.sl t) v := by rw [h]; exact LeR.of hl
theorem LeR.sl_plain {cs : List Leaf} (h : S.sl t = .c (.agg cs)) (hp : Plain cs) : LeR l n (S.sl t) (.c (.agg cs)) := by
  rw [h]; refine LeR.of ?_
  simp only [SV.rn, Cp.rn, rnLs_plain _ cs hp]
theorem LeN.sl_plain {cs : List Leaf} (h : S.sl t = .c (.agg cs)) (hp : Plain cs) : LeN n (S.sl t) (.c (.agg cs)) := by
  rw [h]; refine LeN.of rfl ?_
  simp only [ltN, SV.rn, Cp.rn, rnLs_plain _ cs hp, Option.isSome_some]
theorem LeN.sl_o {m m' : Nat} (h : S.sl t = .c (.l (.o id m))) (hi : Nat.blt id n = true) (e : m = m') : LeN n (S.sl t) (.c (.l (.o id m'))) := by
  rw [h, e]; refine LeN.of rfl ?_
  simp only [ltN, SV.rn, Cp.rn, Leaf.rn, rnId, hi, Option.isSome_some]
theorem BkM.plain {cs cs' : List Leaf} {b b' : BT} (h : S.blk j = some ⟨cs, b⟩) (e : cs = cs') (hp : Plain cs') (hb : b.rn (ri l n) = some b') : BkM l n (S.blk j) ⟨cs', b'⟩ := by
  subst e
  rw [h]; refine BkM.of ?_
  unfold Blk.rn
  simp only [rnLs_plain _ cs hp, hb]
theorem BkN.plain {cs cs' : List Leaf} {b : BT} (h : S.blk id = some ⟨cs, b⟩) (e : cs = cs') (hp : Plain cs') (hb : (b.rn (rnId n 0 [])).isSome = true) : BkN n (S.blk id) ⟨cs', b⟩ := by
  subst e
  rw [h]; refine BkN.of rfl ?_
  unfold blkLt
  simp only [rnLs_plain _ cs hp, hb, Option.isSome_some, Bool.and_self]
theorem BkM.blk {k k'' k' : Blk} (h : S.blk j = some k) (hr : k.rn (ri l n) = some k'') (e : k'' = k') : BkM l n (S.blk j) k' := by
  rw [h]; subst e; exact BkM.of hr
theorem BkR.plain {ρ : Nat → Option Nat} {cs cs' : List Leaf} {b b' : BT} (e : cs = cs') (hp : Plain cs') (hb : b.rn ρ = some b') : BkR ρ ⟨cs, b⟩ ⟨cs', b'⟩ := by
  subst e
  refine BkR.of ?_
  unfold Blk.rn
  simp only [rnLs_plain _ cs hp, hb]
theorem blkLt_plain {cs : List Leaf} {b : BT} (hp : Plain cs) (hb : (b.rn (rnId n 0 [])).isSome = true) : blkLt n ⟨cs, b⟩ = true := by
  unfold blkLt
  simp only [rnLs_plain _ cs hp, hb, Option.isSome_some, Bool.and_self]
end
/-- The end of a round, told by the number of names. -/
theorem RoundTo.toN {P : Program} {c : Code} {n : Nat} {K : Exit → St → Prop} (N : Nat) {E : List (Nat × SV)} {H : List (Nat × Option Blk)} {m q : Nat} {W : List Nat} (S : St) (hn : n ≤ S.n) (hb : wkB ⟨E, H, N, m, W, q⟩ S = true) (hE : wkE ⟨E, H, N, m, W, q⟩ S.n S.E) (hH : wkH ⟨E, H, N, m, W, q⟩ S.n S.H) (h : WPL P c S K) : RoundTo P c n K ⟨E, H, N, m, W, q⟩ := RoundTo.to S hn hb hE hH h
theorem RoundTo.reN {P : Program} {c : Code} {n : Nat} {K : Exit → St → Prop} (N : Nat) {E : List (Nat × SV)} {H : List (Nat × Option Blk)} {m q : Nat} {W : List Nat} (l : List (Nat × Option Nat)) (S : St) (hb : wkBR l ⟨E, H, N, m, W, q⟩ S = true) (hE : wkER l ⟨E, H, N, m, W, q⟩ S.n S.E) (hH : wkHR l ⟨E, H, N, m, W, q⟩ S.n S.H) (h : WPL P c S K) : RoundTo P c n K ⟨E, H, N, m, W, q⟩ := RoundTo.re l S hb hE hH h
/-- So many elements may be asked for. -/
theorem apB {P : Program} {e need bytes : Nat} (h : (P.info? e).map (·.bytes) = some bytes) (k : need * (bytes + 1) ≤ 140737488355328) : ApB P e need := fun i hi => by
  rw [hi] at h
  cases h
  exact k
def tb (t : Nat → UInt8) (m : Nat) : List Leaf := (List.range m).map fun i => ub (t i)
theorem tb_len (t : Nat → UInt8) (m : Nat) : (tb t m).length = m := by simp [tb]
theorem tb_all (t : Nat → UInt8) (m : Nat) : AllB (tb t m) := fun x hx => by
  simp only [tb, List.mem_map] at hx
  obtain ⟨i, _, rfl⟩ := hx
  exact ⟨_, rfl⟩
theorem tb_plain (t : Nat → UInt8) (m : Nat) : Plain (tb t m) := fun x hx => by
  obtain ⟨b, rfl⟩ := tb_all t m x hx
  exact ⟨_, rfl⟩
theorem tb_str (t : Nat → UInt8) (m : Nat) : strL (tb t m) = ⟨((List.range m).map t).toArray⟩ := by
  unfold strL tb
  congr 2
  rw [List.map_map]
  apply List.map_congr_left
  intro i _
  simp [lfB]
theorem tb_four (t : Nat → UInt8) (m : Nat) : tb t m ++ [ub (t m), ub (t (m + 1)), ub (t (m + 2)), ub (t (m + 3))] = tb t (m + 4) := by
  simp [tb, List.range_succ]
end Ab
end Go.Proofs.YtpdckpifhniioaaGreat
end
section
set_option linter.unusedVariables false
set_option linter.unusedSimpArgs false
namespace Go.Proofs.YtpdckpifhniioaaGreat
open Go.RowKit
namespace Ab
def bytesT (t : Nat → UInt8) : ByteArray := ⟨((List.range 256).map t).toArray⟩
def I115 (t : Nat → UInt8) (k : Nat) : St := ⟨[(8, iv .i64 (k : Nat)), (7, .c (.agg (tl t))), (3, .c (.l (.o 1 (4 * k))))], [(0, some ⟨tl t, .t 38⟩), (1, some ⟨tb t (4 * k), .r 5 1 1⟩)], 2, 25, [1, 0], (0)⟩
theorem tb_next (t : Nat → UInt8) (k : Nat) : tb t (4 * k) ++ [ub (t (4 * k)), ub (t (4 * k + 1)), ub (t (4 * k + 2)), ub (t (4 * k + 3))] = tb t (4 * (k + 1)) := tb_four t (4 * k)
theorem bytesT_len (t : Nat → UInt8) : (bytesT t).size = 256 := by unfold bytesT; simp [ByteArray.size]
def cz_R115 (t : Nat → UInt8) (k : Nat) : Cz := {
  ct := (fun f => match f with
  | _ => none)
  eq := (fun t => match t with
  | _ => none)
  raw := [], sym := [10, 21], nf := [(10, .c (.agg [ub (t (4 * k)), ub (t (4 * k + 1)), ub (t (4 * k + 2)), ub (t (4 * k + 3))]))], ap := true, off := [], on := [], lp := fun _ => none, un := 0 }
set_option maxRecDepth 100000 in
theorem R115 (t : Nat → UInt8) (k : Nat)  (K : Exit → St → Prop) (h : HB (decide ((Nat.cast k : Int) < 64)) (InR ((Nat.cast k : Int)) 64 ∧ Le (ag (List.take 4 (List.drop (((Nat.cast k : Int)).toNat * 4) (tl t)))) (ag [Leaf.v (Value.int IntKind.u8 (Nat.cast ((t (4 * k)).toNat) : Int)), Leaf.v (Value.int IntKind.u8 (Nat.cast ((t (4 * k + 1)).toNat) : Int)), Leaf.v (Value.int IntKind.u8 (Nat.cast ((t (4 * k + 2)).toNat) : Int)), Leaf.v (Value.int IntKind.u8 (Nat.cast ((t (4 * k + 3)).toNat) : Int))]) ∧ ((tb t (4 * k)).length = 4 * k * 1 ∧ 4 = 4 ∧ IntKind.i64.wrap ((Nat.cast k : Int) + 1) = (Nat.cast k : Int) + 1 ∧ RoundTo Tryz.prog ((getLoop 3 (Tryz.f115.body.getD .skip)).getD .skip) 2 (wkK 2 K) (St.mk [(8, iv IntKind.i64 ((Nat.cast k : Int) + 1)), (22, iv IntKind.i64 ((Nat.cast k : Int) + 1)), (3, SV.c (Cp.l (Leaf.o 1 (4 * k + 4)))), (21, SV.c (Cp.l (Leaf.o 1 (4 * k + 4)))), (20, SV.c (Cp.l (Leaf.o 3 4))), (19, iv IntKind.u8 (Nat.cast ((t (4 * k + 3)).toNat) : Int)), (18, SV.c (Cp.l (Leaf.p 2 3))), (17, iv IntKind.u8 (Nat.cast ((t (4 * k + 2)).toNat) : Int)), (16, SV.c (Cp.l (Leaf.p 2 2))), (15, iv IntKind.u8 (Nat.cast ((t (4 * k + 1)).toNat) : Int)), (14, SV.c (Cp.l (Leaf.p 2 1))), (13, iv IntKind.u8 (Nat.cast ((t (4 * k)).toNat) : Int)), (12, SV.c (Cp.l (Leaf.p 2 0))), (11, SV.c (Cp.l (Leaf.o 1 (4 * k)))), (5, SV.c (Cp.l (Leaf.p 2 0))), (10, ag [Leaf.v (Value.int IntKind.u8 (Nat.cast ((t (4 * k)).toNat) : Int)), Leaf.v (Value.int IntKind.u8 (Nat.cast ((t (4 * k + 1)).toNat) : Int)), Leaf.v (Value.int IntKind.u8 (Nat.cast ((t (4 * k + 2)).toNat) : Int)), Leaf.v (Value.int IntKind.u8 (Nat.cast ((t (4 * k + 3)).toNat) : Int))]), (9, bv (decide ((Nat.cast k : Int) < 64))), (8, iv IntKind.i64 (Nat.cast k : Int)), (7, ag (tl t)), (3, SV.c (Cp.l (Leaf.o 1 (4 * k))))] [(1, some (Blk.mk (tb t (4 * k) ++ [Leaf.v (Value.int IntKind.u8 (Nat.cast ((t (4 * k)).toNat) : Int)), Leaf.v (Value.int IntKind.u8 (Nat.cast ((t (4 * k + 1)).toNat) : Int)), Leaf.v (Value.int IntKind.u8 (Nat.cast ((t (4 * k + 2)).toNat) : Int)), Leaf.v (Value.int IntKind.u8 (Nat.cast ((t (4 * k + 3)).toNat) : Int))]) (BT.r 5 1 1))), (3, some (Blk.mk [Leaf.v (Value.int IntKind.u8 (Nat.cast ((t (4 * k)).toNat) : Int)), Leaf.v (Value.int IntKind.u8 (Nat.cast ((t (4 * k + 1)).toNat) : Int)), Leaf.v (Value.int IntKind.u8 (Nat.cast ((t (4 * k + 2)).toNat) : Int)), Leaf.v (Value.int IntKind.u8 (Nat.cast ((t (4 * k + 3)).toNat) : Int))] (BT.r 5 1 3))), (2, some (Blk.mk [Leaf.v (Value.int IntKind.u8 (Nat.cast ((t (4 * k)).toNat) : Int)), Leaf.v (Value.int IntKind.u8 (Nat.cast ((t (4 * k + 1)).toNat) : Int)), Leaf.v (Value.int IntKind.u8 (Nat.cast ((t (4 * k + 2)).toNat) : Int)), Leaf.v (Value.int IntKind.u8 (Nat.cast ((t (4 * k + 3)).toNat) : Int))] (BT.t 36))), (2, some (Blk.mk [Leaf.v (Value.int IntKind.u8 0), Leaf.v (Value.int IntKind.u8 0), Leaf.v (Value.int IntKind.u8 0), Leaf.v (Value.int IntKind.u8 0)] (BT.t 36))), (0, some (Blk.mk (tl t) (BT.t 38))), (1, some (Blk.mk (tb t (4 * k)) (BT.r 5 1 1)))] 4 25 [1, 3, 2, 2, 1, 0] 0)) ∧ [(1, 4 * k + 4, false)] = [(1, 4 * k + 4, false)] ∧ ApB Tryz.prog 5 (4 * k + 4) ∧ (tb t (4 * k)).length = 4 * k * 1 ∧ 4 = 4 ∧ IntKind.i64.wrap ((Nat.cast k : Int) + 1) = (Nat.cast k : Int) + 1 ∧ RoundTo Tryz.prog ((getLoop 3 (Tryz.f115.body.getD .skip)).getD .skip) 2 (wkK 2 K) (St.mk [(8, iv IntKind.i64 ((Nat.cast k : Int) + 1)), (22, iv IntKind.i64 ((Nat.cast k : Int) + 1)), (3, SV.c (Cp.l (Leaf.o 4 (4 * k + 4)))), (21, SV.c (Cp.l (Leaf.o 4 (4 * k + 4)))), (20, SV.c (Cp.l (Leaf.o 3 4))), (19, iv IntKind.u8 (Nat.cast ((t (4 * k + 3)).toNat) : Int)), (18, SV.c (Cp.l (Leaf.p 2 3))), (17, iv IntKind.u8 (Nat.cast ((t (4 * k + 2)).toNat) : Int)), (16, SV.c (Cp.l (Leaf.p 2 2))), (15, iv IntKind.u8 (Nat.cast ((t (4 * k + 1)).toNat) : Int)), (14, SV.c (Cp.l (Leaf.p 2 1))), (13, iv IntKind.u8 (Nat.cast ((t (4 * k)).toNat) : Int)), (12, SV.c (Cp.l (Leaf.p 2 0))), (11, SV.c (Cp.l (Leaf.o 1 (4 * k)))), (5, SV.c (Cp.l (Leaf.p 2 0))), (10, ag [Leaf.v (Value.int IntKind.u8 (Nat.cast ((t (4 * k)).toNat) : Int)), Leaf.v (Value.int IntKind.u8 (Nat.cast ((t (4 * k + 1)).toNat) : Int)), Leaf.v (Value.int IntKind.u8 (Nat.cast ((t (4 * k + 2)).toNat) : Int)), Leaf.v (Value.int IntKind.u8 (Nat.cast ((t (4 * k + 3)).toNat) : Int))]), (9, bv (decide ((Nat.cast k : Int) < 64))), (8, iv IntKind.i64 (Nat.cast k : Int)), (7, ag (tl t)), (3, SV.c (Cp.l (Leaf.o 1 (4 * k))))] [(4, some (Blk.mk (tb t (4 * k) ++ [Leaf.v (Value.int IntKind.u8 (Nat.cast ((t (4 * k)).toNat) : Int)), Leaf.v (Value.int IntKind.u8 (Nat.cast ((t (4 * k + 1)).toNat) : Int)), Leaf.v (Value.int IntKind.u8 (Nat.cast ((t (4 * k + 2)).toNat) : Int)), Leaf.v (Value.int IntKind.u8 (Nat.cast ((t (4 * k + 3)).toNat) : Int))]) (BT.r 5 1 4))), (3, some (Blk.mk [Leaf.v (Value.int IntKind.u8 (Nat.cast ((t (4 * k)).toNat) : Int)), Leaf.v (Value.int IntKind.u8 (Nat.cast ((t (4 * k + 1)).toNat) : Int)), Leaf.v (Value.int IntKind.u8 (Nat.cast ((t (4 * k + 2)).toNat) : Int)), Leaf.v (Value.int IntKind.u8 (Nat.cast ((t (4 * k + 3)).toNat) : Int))] (BT.r 5 1 3))), (2, some (Blk.mk [Leaf.v (Value.int IntKind.u8 (Nat.cast ((t (4 * k)).toNat) : Int)), Leaf.v (Value.int IntKind.u8 (Nat.cast ((t (4 * k + 1)).toNat) : Int)), Leaf.v (Value.int IntKind.u8 (Nat.cast ((t (4 * k + 2)).toNat) : Int)), Leaf.v (Value.int IntKind.u8 (Nat.cast ((t (4 * k + 3)).toNat) : Int))] (BT.t 36))), (2, some (Blk.mk [Leaf.v (Value.int IntKind.u8 0), Leaf.v (Value.int IntKind.u8 0), Leaf.v (Value.int IntKind.u8 0), Leaf.v (Value.int IntKind.u8 0)] (BT.t 36))), (0, some (Blk.mk (tl t) (BT.t 38))), (1, some (Blk.mk (tb t (4 * k)) (BT.r 5 1 1)))] 5 25 [4, 3, 2, 2, 1, 0] 0)) (wkK 2 K (Exit.exit 0) (St.mk [(9, bv (decide ((Nat.cast k : Int) < 64))), (8, iv IntKind.i64 (Nat.cast k : Int)), (7, ag (tl t)), (3, SV.c (Cp.l (Leaf.o 1 (4 * k))))] [(0, some (Blk.mk (tl t) (BT.t 38))), (1, some (Blk.mk (tb t (4 * k)) (BT.r 5 1 1)))] 2 25 [1, 0] 0))) : WPL Tryz.prog ((getLoop 3 (Tryz.f115.body.getD .skip)).getD .skip) (I115 t k) (wkK 2 K) :=
  wp_round (cx := cz_R115 t k) rfl (of_eq (by kernel_rfl) h)
set_option maxRecDepth 100000 in
set_option maxHeartbeats 4000000 in
theorem L115 (t : Nat → UInt8)  : ∀ (m k : Nat), 64 - k = m → k ≤ 64 → ∀ (K : Exit → St → Prop), K (.exit 0) (I115 t 64) → WPL Tryz.prog ((getLoop 3 (Tryz.f115.body.getD .skip)).getD .skip) (I115 t k) (wkK 2 K)
  | 0, k, hm, hk, K, hK => by
    have e : k = 64 := by omega
    subst e
    refine R115 t _ K (HB.mk (fun hne => absurd (of_decide_eq_true hne) (by omega)) (fun he => ?_))
    exact wkK.to (I115 t _) (Nat.le_refl _) (by kernel_rfl) (wkE_cons (LeN.sl (by kernel_rfl) rfl) (wkE_cons (LeN.sl_plain (by kernel_rfl) (plain_tl t)) (wkE_cons (LeN.sl (by kernel_rfl) rfl) trivial))) (wkH_cons (BkN.plain (cs := tl t) (b := .t 38) (by kernel_rfl) (rfl) (plain_tl t) (by kernel_rfl)) (wkH_cons (BkN.plain (cs := tb t (4 * 64)) (b := .r 5 1 1) (by kernel_rfl) (rfl) (tb_plain _ _) (by kernel_rfl)) trivial)) hK
  | m + 1, k, hm, hk, K, hK => by
    refine R115 t k K (HB.mk (fun hne => ?_) (fun he => absurd (show ((k : Nat) : Int) < (64 : Nat) by omega) (of_decide_eq_false he)))
    have hlt : k < 64 := by omega
    repeat' (first | exact trivial | with_reducible apply And.intro | (with_reducible apply HB.mk) | with_reducible intro _)
    all_goals first
      | (assumption)
      | (with_reducible exact Le.refl _)
      | (exact ⟨by omega, by omega⟩)
      | (rw [tb_len]; omega)
      | (exact Le.of (by rw [show (((k : Nat) : Int)).toNat = k from rfl, tl_pix _ hlt]; rfl))
      | (exact apB (bytes := 1) (by kernel_rfl) (by omega))
      | ((with_reducible refine RoundTo.toN 4 (I115 t (k + 1)) ?_ ?_ ?_ ?_ ?_); exact Nat.le_refl _; kernel_rfl; exact (wkE_cons (LeN.sl (by kernel_rfl) rfl) (wkE_cons (LeN.sl_plain (by kernel_rfl) (plain_tl t)) (wkE_cons (LeN.sl_o (m := 4 * k + 4) (by kernel_rfl) rfl (by omega)) trivial))); exact (wkH_cons (BkN.plain (cs := tl t) (b := .t 38) (by kernel_rfl) (rfl) (plain_tl t) (by kernel_rfl)) (wkH_cons (BkN.plain (cs := tb t (4 * k) ++ [ub (t (4 * k)), ub (t (4 * k + 1)), ub (t (4 * k + 2)), ub (t (4 * k + 3))]) (b := .r 5 1 1) (by kernel_rfl) (tb_next t k) (tb_plain _ _) (by kernel_rfl)) trivial)); exact (L115 t  m (k + 1) (by omega) (by omega) K hK))
      | ((with_reducible refine RoundTo.reN 5 [(1, some 4)] (I115 t (k + 1)) ?_ ?_ ?_ ?_); kernel_rfl; exact (wkER_cons (LeR.of (by kernel_rfl)) (wkER_cons (LeR.sl_plain (by kernel_rfl) (plain_tl t)) (wkER_cons (LeR.sl_o (j := 4) (m := 4 * k + 4) (by kernel_rfl) rfl (by omega)) trivial))); exact (wkHR_cons (j := 0) rfl (BkM.plain (cs := tl t) (b := .t 38) (by kernel_rfl) (rfl) (plain_tl t) (by kernel_rfl)) (wkHR_cons (j := 4) rfl (BkM.plain (cs := tb t (4 * k) ++ [ub (t (4 * k)), ub (t (4 * k + 1)), ub (t (4 * k + 2)), ub (t (4 * k + 3))]) (b := .r 5 1 4) (by kernel_rfl) (tb_next t k) (tb_plain _ _) (by kernel_rfl)) trivial)); exact (L115 t  m (k + 1) (by omega) (by omega) K hK))
      | (exact okw _ (by omega) (by omega))
      | (exact Le.of rfl)
      | (exact BkR.of rfl)
      | (unfold SlOK; omega)
      | (unfold SlOK; decide)
      | (unfold inByte; decide)
      | (simp only [*, Bool.and_self, Bool.not_false, Bool.not_true]; done)
      | (simp_all [wants]; done)
theorem enters115 : Enters Tryz.prog 115 := fun args w => by go_simp
def cz_C115 (t : Nat → UInt8) : Cz := {
  ct := (fun f => match f with
  | _ => none)
  eq := (fun t => match t with
  | _ => none)
  raw := [], sym := [24], nf := [(7, .c (.agg (tl t)))], ap := true, off := [], on := [], lp := fun r => match r with | 3 => some (fun _ K => K (.exit 0) (I115 t 64)) | _ => none, un := 0 }
set_option maxRecDepth 100000 in
set_option maxHeartbeats 400000 in
theorem C115 (t : Nat → UInt8)  (n : Nat) : CallOK Tryz.prog 115 [.c (.agg (tl t))] [] n (.c (.l (.v (.string (bytesT t))))) [] 0 := by
  refine CallOK.any ?_ (by kernel_rfl) (by kernel_rfl) n
  refine call_ok (cx := cz_C115 t) (nm := []) rfl Tryz.func115 (body := Tryz.f115.body.getD .skip) rfl enters115 (by kernel_rfl) ?_
  apply of_eq (q := Le (ag (List.take 256 (tl t))) (ag (tl t)) ∧ (LoopOK Tryz.prog ((getLoop 3 (Tryz.f115.body.getD .skip)).getD .skip) (St.mk [(8, iv IntKind.i64 0), (7, ag (tl t)), (3, SV.c (Cp.l (Leaf.o 1 0))), (6, SV.c (Cp.l (Leaf.o 1 0))), (2, SV.c (Cp.l (Leaf.v (Value.string (ByteArray.mk #[]))))), (1, SV.c (Cp.l (Leaf.p 0 0))), (0, ag (tl t))] [(1, some (Blk.mk [] (BT.r 5 1 1))), (0, some (Blk.mk (tl t) (BT.t 38)))] 2 25 [1, 0] 0) fun K => K (Exit.exit 0) (I115 t 64)) ∧ 256 = 256 ∧ AllB (tb t (4 * 64)) ∧ Le (SV.c (Cp.l (Leaf.v (Value.string (strL (tb t (4 * 64))))))) (SV.c (Cp.l (Leaf.v (Value.string (bytesT t))))) ∧ True) (by kernel_rfl)
  repeat' (first | exact trivial | with_reducible apply And.intro | (with_reducible apply HB.mk) | with_reducible intro _)
  all_goals first
    | (assumption)
    | (with_reducible exact Le.refl _)
    | (exact LoopOK.mk (I115 t 0) rfl (by kernel_rfl) (wkE_cons (LeN.sl (by kernel_rfl) rfl) (wkE_cons (LeN.sl_plain (by kernel_rfl) (plain_tl t)) (wkE_cons (LeN.sl (by kernel_rfl) rfl) trivial))) (wkH_cons (BkN.plain (cs := tl t) (b := .t 38) (by kernel_rfl) (rfl) (plain_tl t) (by kernel_rfl)) (wkH_cons (BkN.plain (cs := []) (b := .r 5 1 1) (by kernel_rfl) (rfl) (tb_plain _ _) (by kernel_rfl)) trivial)) (fun K hT => L115 t  _ 0 rfl (by first | decide | omega) K hT))
    | (exact Le.of (by rw [tl_take]))
    | (exact tb_len t 256)
    | (exact tb_all t 256)
    | (refine Le.of ?_; rw [tb_str]; rfl)
    | (exact okw _ (by omega) (by omega))
    | (exact Le.of rfl)
    | (exact BkR.of rfl)
    | (unfold SlOK; omega)
    | (unfold SlOK; decide)
    | (unfold inByte; decide)
    | (simp only [*, Bool.and_self, Bool.not_false, Bool.not_true]; done)
    | (simp_all [wants]; done)
end Ab
end Go.Proofs.YtpdckpifhniioaaGreat
end
section
set_option linter.unusedVariables false
set_option linter.unusedSimpArgs false
namespace Go.Proofs.YtpdckpifhniioaaGreat
open Go.RowKit
namespace Ab
def rnd (a b : Int) : Int := (2 * a + b).tdiv (2 * b)
def mch (s s3 : Int) : Int := bif rnd s3 64 == 0 then 0 else IntKind.u8.wrap (rnd s s3)
def mal (s3 : Int) : Int := bif rnd s3 64 == 0 then 0 else IntKind.u8.wrap (rnd s3 64)
theorem rnd_bd {a b : Int} (h0 : 0 ≤ a) (h1 : a ≤ 1000000000) (b0 : 0 < b) (b1 : b ≤ 1000000000) : 0 ≤ rnd a b ∧ rnd a b ≤ 2 * a + b := by
  unfold rnd
  rw [Int.tdiv_eq_ediv_of_nonneg (by omega)]
  exact ⟨Int.ediv_nonneg (by omega) (by omega), Int.ediv_le_self _ (by omega)⟩
theorem enters158 : Enters Tryz.prog 158 := fun args w => by go_simp
def cz_C158 : Cz := {
  ct := (fun f => match f with
  | _ => none)
  eq := (fun t => match t with
  | _ => none)
  raw := [], sym := [], nf := [], ap := true, off := [], on := [], lp := fun _ => none, un := 0 }
set_option maxRecDepth 100000 in
set_option maxHeartbeats 400000 in
theorem C158 (a b : Int) (h0 : 0 ≤ a) (h1 : a ≤ 1000000000) (b0 : 0 < b) (b1 : b ≤ 1000000000) (n : Nat) : CallOK Tryz.prog 158 [iv .i64 a, iv .i64 b] [] n (iv .i64 (rnd a b)) [] 0 := by
  refine CallOK.any ?_ (by kernel_rfl) (by kernel_rfl) n
  refine call_ok (cx := cz_C158) (nm := []) rfl Tryz.func158 (body := Tryz.f158.body.getD .skip) rfl enters158 (by kernel_rfl) ?_
  apply of_eq (q := IntKind.i64.wrap (2 * a) = 2 * a ∧ IntKind.i64.wrap (2 * a + b) = 2 * a + b ∧ IntKind.i64.wrap (2 * b) = 2 * b ∧ 2 * b ≠ 0 ∧ IntKind.i64.wrap ((2 * a + b).tdiv (2 * b)) = (2 * a + b).tdiv (2 * b) ∧ Le (iv IntKind.i64 ((2 * a + b).tdiv (2 * b))) (iv IntKind.i64 (rnd a b)) ∧ True) (by kernel_rfl)
  repeat' (first | exact trivial | with_reducible apply And.intro | (with_reducible apply HB.mk) | with_reducible intro _)
  all_goals first
    | (assumption)
    | (with_reducible exact Le.refl _)
    | (have := rnd_bd h0 h1 b0 b1; unfold rnd at this; exact okw _ (by omega) (by omega))
    | (omega)
    | (exact okw _ (by omega) (by omega))
    | (exact Le.of rfl)
    | (exact BkR.of rfl)
    | (unfold SlOK; omega)
    | (unfold SlOK; decide)
    | (unfold inByte; decide)
    | (simp only [*, Bool.and_self, Bool.not_false, Bool.not_true]; done)
    | (simp_all [wants]; done)
theorem mul_bd {e a : Int} (he : 0 ≤ e ∧ e < 256) (ha : 0 ≤ a ∧ a < 256) : 0 ≤ e * a ∧ e * a ≤ 65025 :=
  ⟨Int.mul_nonneg he.1 ha.1, by
    have := Int.mul_le_mul (show e ≤ 255 by omega) (show a ≤ 255 by omega) ha.1 (by omega : (0 : Int) ≤ 255)
    omega⟩
theorem u8w {a : Int} (h : 0 ≤ a ∧ a < 256) : IntKind.i64.wrap a = a := by rw [IntKind.wrap_i64]; omega
theorem enters117 : Enters Tryz.prog 117 := fun args w => by go_simp
def cz_C117 (a b d e : Int) : Cz := {
  ct := (fun f => match f with
  | _ => none)
  eq := (fun t => match t with
  | _ => none)
  raw := [], sym := [], nf := [(14, bv false), (16, iv .i64 1), (28, iv .i64 e), (29, iv .i64 e), (32, iv .i64 a), (35, iv .i64 b), (38, iv .i64 d)], ap := true, off := [], on := [], lp := fun _ => none, un := 5 }
set_option maxRecDepth 100000 in
set_option maxHeartbeats 400000 in
theorem C117 (s0 s1 s2 s3 c : Int) (a b d e : Int) (h0 : 0 ≤ s0 ∧ s0 ≤ 1000000000) (h1 : 0 ≤ s1 ∧ s1 ≤ 1000000000) (h2 : 0 ≤ s2 ∧ s2 ≤ 1000000000) (h3 : 0 ≤ s3 ∧ s3 ≤ 1000000000) (h4 : 0 ≤ c ∧ c ≤ 1000000000) (ha : 0 ≤ a ∧ a < 256) (hb : 0 ≤ b ∧ b < 256) (hd : 0 ≤ d ∧ d < 256) (he : 0 ≤ e ∧ e < 256) : CallOK Tryz.prog 117 [.c (.l (.p 0 0)), ag [u8 a, u8 b, u8 d, u8 e], iv .i64 1] [(0, ⟨[li s0, li s1, li s2, li s3, li c], .t 167⟩)] 1 (.tup []) [(0, ⟨[li (s0 + e * a), li (s1 + e * b), li (s2 + e * d), li (s3 + e * 1), li (c + 1)], .t 167⟩)] ([] : List Nat).length := by
  have pa := mul_bd he ha
  have pb := mul_bd he hb
  have pd := mul_bd he hd
  have wa := u8w ha
  have wb := u8w hb
  have wd := u8w hd
  have we := u8w he
  refine call_ok (cx := cz_C117 a b d e) (nm := []) rfl Tryz.func117 (body := Tryz.f117.body.getD .skip) rfl enters117 (by kernel_rfl) ?_
  apply of_eq (q := ((!false) = true → (!false) = true ∧ True) ∧ (false = false → (!false) = true) ∧ Le (bv (bif false then true else decide (1 < 1))) (bv false) ∧ Le (iv IntKind.i64 (imin 1 65536)) (iv IntKind.i64 1) ∧ IntKind.i64.wrap (c + 1) = c + 1 ∧ Le (iv IntKind.i64 (IntKind.i64.wrap e)) (iv IntKind.i64 e) ∧ IntKind.i64.wrap (1 * e) = 1 * e ∧ Le (iv IntKind.i64 (1 * e)) (iv IntKind.i64 e) ∧ Le (iv IntKind.i64 (IntKind.i64.wrap a)) (iv IntKind.i64 a) ∧ Le (iv IntKind.i64 (IntKind.i64.wrap b)) (iv IntKind.i64 b) ∧ Le (iv IntKind.i64 (IntKind.i64.wrap d)) (iv IntKind.i64 d) ∧ IntKind.i64.wrap (e * a) = e * a ∧ IntKind.i64.wrap (s0 + e * a) = s0 + e * a ∧ IntKind.i64.wrap (0 + 1) = 0 + 1 ∧ IntKind.i64.wrap (e * b) = e * b ∧ IntKind.i64.wrap (s1 + e * b) = s1 + e * b ∧ IntKind.i64.wrap (0 + 1 + 1) = 0 + 1 + 1 ∧ IntKind.i64.wrap (e * d) = e * d ∧ IntKind.i64.wrap (s2 + e * d) = s2 + e * d ∧ IntKind.i64.wrap (0 + 1 + 1 + 1) = 0 + 1 + 1 + 1 ∧ IntKind.i64.wrap (e * 1) = e * 1 ∧ IntKind.i64.wrap (s3 + e * 1) = s3 + e * 1 ∧ IntKind.i64.wrap (0 + 1 + 1 + 1 + 1) = 0 + 1 + 1 + 1 + 1 ∧ Le (SV.tup []) (SV.tup []) ∧ BkR (rnId 1 0 []) (Blk.mk [li (s0 + e * a), li (s1 + e * b), li (s2 + e * d), li (s3 + e * 1), li (c + 1)] (BT.t 167)) (Blk.mk [li (s0 + e * a), li (s1 + e * b), li (s2 + e * d), li (s3 + e * 1), li (c + 1)] (BT.t 167)) ∧ True) (by kernel_rfl)
  repeat' (first | exact trivial | with_reducible apply And.intro | (with_reducible apply HB.mk) | with_reducible intro _)
  all_goals first
    | (assumption)
    | (with_reducible exact Le.refl _)
    | (exact Le.of (by rw [‹IntKind.i64.wrap _ = _›]))
    | (exact Le.int wa)
    | (exact Le.int wb)
    | (exact Le.int wd)
    | (exact Le.int we)
    | (exact Le.int (Int.one_mul _))
    | (exact Le.int rfl)
    | (exact okw _ (by omega) (by omega))
    | (exact Le.of rfl)
    | (exact BkR.of rfl)
    | (unfold SlOK; omega)
    | (unfold SlOK; decide)
    | (unfold inByte; decide)
    | (simp only [*, Bool.and_self, Bool.not_false, Bool.not_true]; done)
    | (simp_all [wants]; done)
def up1 (id n : Nat) : Nat → Nat
  | 0 => id
  | k + 1 => n + k
/-- A contract at block 0 with one name known, at any block. -/
theorem CallOK.at1 {P : Program} {f : Nat} {args : List SV} {k : Blk} {v : SV} {wr : List (Nat × Blk)} {nw : Nat} (h : CallOK P f args [(0, k)] 1 v wr nw) (id n : Nat) (hi : id < n) :
    CallOK P f (args.map (SV.ren (up1 id n))) [(id, k.ren (up1 id n))] n (v.ren (up1 id n)) (wr.map fun p => (up1 id n p.1, p.2.ren (up1 id n))) nw :=
  CallOK.ren h (up1 id n) n (fun i hi' => by
    have : i = 0 := by omega
    subst this; exact hi) (fun i hi' => by
    cases i with
    | zero => omega
    | succ k => show n + k = n + (k + 1 - 1); omega) (fun i j h1 h2 _ => by omega)
theorem C117g (s0 s1 s2 s3 c : Int) (a b d e : Int) (h0 : 0 ≤ s0 ∧ s0 ≤ 1000000000) (h1 : 0 ≤ s1 ∧ s1 ≤ 1000000000) (h2 : 0 ≤ s2 ∧ s2 ≤ 1000000000) (h3 : 0 ≤ s3 ∧ s3 ≤ 1000000000) (h4 : 0 ≤ c ∧ c ≤ 1000000000) (ha : 0 ≤ a ∧ a < 256) (hb : 0 ≤ b ∧ b < 256) (hd : 0 ≤ d ∧ d < 256) (he : 0 ≤ e ∧ e < 256) (id n : Nat) (hi : id < n) : CallOK Tryz.prog 117 [.c (.l (.p id 0)), ag [u8 a, u8 b, u8 d, u8 e], iv .i64 1] [(id, ⟨[li s0, li s1, li s2, li s3, li c], .t 167⟩)] n (.tup []) [(id, ⟨[li (s0 + e * a), li (s1 + e * b), li (s2 + e * d), li (s3 + e * 1), li (c + 1)], .t 167⟩)] 0 :=
  CallOK.at1 (C117 s0 s1 s2 s3 c a b d e h0 h1 h2 h3 h4 ha hb hd he) id n hi
end Ab
end Go.Proofs.YtpdckpifhniioaaGreat
end
section
set_option linter.unusedVariables false
set_option linter.unusedSimpArgs false
namespace Go.Proofs.YtpdckpifhniioaaGreat
open Go.RowKit
namespace Ab
theorem enters159 : Enters Tryz.prog 159 := fun args w => by go_simp
def cz_C159_0 : Cz := {
  ct := (fun f => match f with
  | 158 => some fun _ _S ar => match ar with | [.c (.l (.v (.int _ a))), .c (.l (.v (.int _ b)))] => some { v := iv .i64 (rnd a b), rd := [], wr := [], nw := 0 } | _ => none
  | _ => none)
  eq := (fun t => match t with
  | _ => none)
  raw := [], sym := [], nf := [], ap := true, off := [], on := [], lp := fun _ => none, un := 0 }
set_option maxRecDepth 100000 in
set_option maxHeartbeats 400000 in
theorem C159_0 (s0 s1 s2 s3 : Int) (h0 : 0 ≤ s0 ∧ s0 ≤ 10000000) (h1 : 0 ≤ s1 ∧ s1 ≤ 10000000) (h2 : 0 ≤ s2 ∧ s2 ≤ 10000000) (h3 : 0 ≤ s3 ∧ s3 ≤ 10000000) (hp : 0 < s3) : CallOK Tryz.prog 159 [iv .i64 0, .c (.l (.p 1 0))] [(1, ⟨[.p 0 0], .t 206⟩), (0, ⟨[li s0, li s1, li s2, li s3, li 64], .t 167⟩)] 3 (iv .u8 (IntKind.u8.wrap (rnd s0 s3))) [] 0 := by
  refine call_ok (cx := cz_C159_0) (nm := []) rfl Tryz.func159 (body := Tryz.f159.body.getD .skip) rfl enters159 (by kernel_rfl) ?_
  apply of_eq (q := CallOKd Tryz.prog 158 [] [iv IntKind.i64 s0, iv IntKind.i64 s3] [] 3 (iv IntKind.i64 (rnd s0 s3)) [] 0 ∧ Le (iv IntKind.u8 (IntKind.u8.wrap (rnd s0 s3))) (iv IntKind.u8 (IntKind.u8.wrap (rnd s0 s3))) ∧ True) (by kernel_rfl)
  repeat' (first | exact trivial | with_reducible apply And.intro | (with_reducible apply HB.mk) | with_reducible intro _)
  all_goals first
    | (assumption)
    | (with_reducible exact Le.refl _)
    | ((with_reducible refine C158 _ _ ?_ ?_ ?_ ?_ _) <;> omega)
    | (exact okw _ (by omega) (by omega))
    | (exact Le.of rfl)
    | (exact BkR.of rfl)
    | (unfold SlOK; omega)
    | (unfold SlOK; decide)
    | (unfold inByte; decide)
    | (simp only [*, Bool.and_self, Bool.not_false, Bool.not_true]; done)
    | (simp_all [wants]; done)
def cz_C159_1 : Cz := {
  ct := (fun f => match f with
  | 158 => some fun _ _S ar => match ar with | [.c (.l (.v (.int _ a))), .c (.l (.v (.int _ b)))] => some { v := iv .i64 (rnd a b), rd := [], wr := [], nw := 0 } | _ => none
  | _ => none)
  eq := (fun t => match t with
  | _ => none)
  raw := [], sym := [], nf := [], ap := true, off := [], on := [], lp := fun _ => none, un := 0 }
set_option maxRecDepth 100000 in
set_option maxHeartbeats 400000 in
theorem C159_1 (s0 s1 s2 s3 : Int) (h0 : 0 ≤ s0 ∧ s0 ≤ 10000000) (h1 : 0 ≤ s1 ∧ s1 ≤ 10000000) (h2 : 0 ≤ s2 ∧ s2 ≤ 10000000) (h3 : 0 ≤ s3 ∧ s3 ≤ 10000000) (hp : 0 < s3) : CallOK Tryz.prog 159 [iv .i64 1, .c (.l (.p 1 0))] [(1, ⟨[.p 0 0], .t 206⟩), (0, ⟨[li s0, li s1, li s2, li s3, li 64], .t 167⟩)] 3 (iv .u8 (IntKind.u8.wrap (rnd s1 s3))) [] 0 := by
  refine call_ok (cx := cz_C159_1) (nm := []) rfl Tryz.func159 (body := Tryz.f159.body.getD .skip) rfl enters159 (by kernel_rfl) ?_
  apply of_eq (q := CallOKd Tryz.prog 158 [] [iv IntKind.i64 s1, iv IntKind.i64 s3] [] 3 (iv IntKind.i64 (rnd s1 s3)) [] 0 ∧ Le (iv IntKind.u8 (IntKind.u8.wrap (rnd s1 s3))) (iv IntKind.u8 (IntKind.u8.wrap (rnd s1 s3))) ∧ True) (by kernel_rfl)
  repeat' (first | exact trivial | with_reducible apply And.intro | (with_reducible apply HB.mk) | with_reducible intro _)
  all_goals first
    | (assumption)
    | (with_reducible exact Le.refl _)
    | ((with_reducible refine C158 _ _ ?_ ?_ ?_ ?_ _) <;> omega)
    | (exact okw _ (by omega) (by omega))
    | (exact Le.of rfl)
    | (exact BkR.of rfl)
    | (unfold SlOK; omega)
    | (unfold SlOK; decide)
    | (unfold inByte; decide)
    | (simp only [*, Bool.and_self, Bool.not_false, Bool.not_true]; done)
    | (simp_all [wants]; done)
def cz_C159_2 : Cz := {
  ct := (fun f => match f with
  | 158 => some fun _ _S ar => match ar with | [.c (.l (.v (.int _ a))), .c (.l (.v (.int _ b)))] => some { v := iv .i64 (rnd a b), rd := [], wr := [], nw := 0 } | _ => none
  | _ => none)
  eq := (fun t => match t with
  | _ => none)
  raw := [], sym := [], nf := [], ap := true, off := [], on := [], lp := fun _ => none, un := 0 }
set_option maxRecDepth 100000 in
set_option maxHeartbeats 400000 in
theorem C159_2 (s0 s1 s2 s3 : Int) (h0 : 0 ≤ s0 ∧ s0 ≤ 10000000) (h1 : 0 ≤ s1 ∧ s1 ≤ 10000000) (h2 : 0 ≤ s2 ∧ s2 ≤ 10000000) (h3 : 0 ≤ s3 ∧ s3 ≤ 10000000) (hp : 0 < s3) : CallOK Tryz.prog 159 [iv .i64 2, .c (.l (.p 1 0))] [(1, ⟨[.p 0 0], .t 206⟩), (0, ⟨[li s0, li s1, li s2, li s3, li 64], .t 167⟩)] 3 (iv .u8 (IntKind.u8.wrap (rnd s2 s3))) [] 0 := by
  refine call_ok (cx := cz_C159_2) (nm := []) rfl Tryz.func159 (body := Tryz.f159.body.getD .skip) rfl enters159 (by kernel_rfl) ?_
  apply of_eq (q := CallOKd Tryz.prog 158 [] [iv IntKind.i64 s2, iv IntKind.i64 s3] [] 3 (iv IntKind.i64 (rnd s2 s3)) [] 0 ∧ Le (iv IntKind.u8 (IntKind.u8.wrap (rnd s2 s3))) (iv IntKind.u8 (IntKind.u8.wrap (rnd s2 s3))) ∧ True) (by kernel_rfl)
  repeat' (first | exact trivial | with_reducible apply And.intro | (with_reducible apply HB.mk) | with_reducible intro _)
  all_goals first
    | (assumption)
    | (with_reducible exact Le.refl _)
    | ((with_reducible refine C158 _ _ ?_ ?_ ?_ ?_ _) <;> omega)
    | (exact okw _ (by omega) (by omega))
    | (exact Le.of rfl)
    | (exact BkR.of rfl)
    | (unfold SlOK; omega)
    | (unfold SlOK; decide)
    | (unfold inByte; decide)
    | (simp only [*, Bool.and_self, Bool.not_false, Bool.not_true]; done)
    | (simp_all [wants]; done)
def V159 (S : St) (i : Int) : SV := match S.blk 0 with | some ⟨[.v (.int _ s0), .v (.int _ s1), .v (.int _ s2), .v (.int _ s3), _], _⟩ => iv .u8 (IntKind.u8.wrap (rnd (match i with | 0 => s0 | 1 => s1 | _ => s2) s3)) | _ => .u
theorem rnd_pos {s : Int} (h0 : 0 ≤ s) (h : (rnd s 64 == 0) = false) : 0 < s := by
  rcases Int.lt_or_eq_of_le h0 with h1 | h1
  · exact h1
  · subst h1; exact absurd h (by decide)
theorem enters118 : Enters Tryz.prog 118 := fun args w => by go_simp
def cz_C118 : Cz := {
  ct := (fun f => match f with
  | 158 => some fun _ _S ar => match ar with | [.c (.l (.v (.int _ a))), .c (.l (.v (.int _ b)))] => some { v := iv .i64 (rnd a b), rd := [], wr := [], nw := 0 } | _ => none
  | 159 => some fun _ _S ar => match ar with | [.c (.l (.v (.int _ i))), .c (.l (.p 1 0))] => some { v := V159 _S i, rd := [1, 0], wr := [], nw := 0 } | _ => none
  | _ => none)
  eq := (fun t => match t with
  | _ => none)
  raw := [], sym := [], nf := [(13, bv false)], ap := true, off := [], on := [], lp := fun _ => none, un := 0 }
set_option maxRecDepth 100000 in
set_option maxHeartbeats 400000 in
theorem C118 (s0 s1 s2 s3 : Int) (h0 : 0 ≤ s0 ∧ s0 ≤ 10000000) (h1 : 0 ≤ s1 ∧ s1 ≤ 10000000) (h2 : 0 ≤ s2 ∧ s2 ≤ 10000000) (h3 : 0 ≤ s3 ∧ s3 ≤ 10000000) : CallOK Tryz.prog 118 [.c (.l (.p 0 0))] [(0, ⟨[li s0, li s1, li s2, li s3, li 64], .t 167⟩)] 1 (ag [u8 (mch s0 s3), u8 (mch s1 s3), u8 (mch s2 s3), u8 (mal s3)]) [] 0 := by
  have hpos := rnd_pos (s := s3) h3.1
  refine call_ok (cx := cz_C118) (nm := []) rfl Tryz.func118 (body := Tryz.f118.body.getD .skip) rfl enters118 (by kernel_rfl) ?_
  apply of_eq (q := ((!false) = true → (!false) = true ∧ True) ∧ ((!false) = true → (!false) = true ∧ True) ∧ ((!false) = true → (!false) = true ∧ True) ∧ ((!false) = true → (!false) = true ∧ True) ∧ (false = false → (!false) = true) ∧ Le (bv (bif false then true else 64 == 0)) (bv false) ∧ CallOKd Tryz.prog 158 [] [iv IntKind.i64 s3, iv IntKind.i64 64] [] 3 (iv IntKind.i64 (rnd s3 64)) [] 0 ∧ HB (rnd s3 64 == 0) (Le (ag [Leaf.v (Value.int IntKind.u8 0), Leaf.v (Value.int IntKind.u8 0), Leaf.v (Value.int IntKind.u8 0), Leaf.v (Value.int IntKind.u8 0)]) (ag [Leaf.v (Value.int IntKind.u8 (mch s0 s3)), Leaf.v (Value.int IntKind.u8 (mch s1 s3)), Leaf.v (Value.int IntKind.u8 (mch s2 s3)), Leaf.v (Value.int IntKind.u8 (mal s3))]) ∧ True) (CallOKd Tryz.prog 159 [] [iv IntKind.i64 0, SV.c (Cp.l (Leaf.p 1 0))] [(1, Blk.mk [Leaf.p 0 0] (BT.t 206)), (0, Blk.mk [li s0, li s1, li s2, li s3, li 64] (BT.t 167))] 3 (iv IntKind.u8 (IntKind.u8.wrap (rnd s0 s3))) [] 0 ∧ CallOKd Tryz.prog 159 [] [iv IntKind.i64 1, SV.c (Cp.l (Leaf.p 1 0))] [(1, Blk.mk [Leaf.p 0 0] (BT.t 206)), (0, Blk.mk [li s0, li s1, li s2, li s3, li 64] (BT.t 167))] 3 (iv IntKind.u8 (IntKind.u8.wrap (rnd s1 s3))) [] 0 ∧ CallOKd Tryz.prog 159 [] [iv IntKind.i64 2, SV.c (Cp.l (Leaf.p 1 0))] [(1, Blk.mk [Leaf.p 0 0] (BT.t 206)), (0, Blk.mk [li s0, li s1, li s2, li s3, li 64] (BT.t 167))] 3 (iv IntKind.u8 (IntKind.u8.wrap (rnd s2 s3))) [] 0 ∧ Le (ag [Leaf.v (Value.int IntKind.u8 (IntKind.u8.wrap (rnd s0 s3))), Leaf.v (Value.int IntKind.u8 (IntKind.u8.wrap (rnd s1 s3))), Leaf.v (Value.int IntKind.u8 (IntKind.u8.wrap (rnd s2 s3))), Leaf.v (Value.int IntKind.u8 (IntKind.u8.wrap (rnd s3 64)))]) (ag [Leaf.v (Value.int IntKind.u8 (mch s0 s3)), Leaf.v (Value.int IntKind.u8 (mch s1 s3)), Leaf.v (Value.int IntKind.u8 (mch s2 s3)), Leaf.v (Value.int IntKind.u8 (mal s3))]) ∧ True)) (by kernel_rfl)
  repeat' (first | exact trivial | with_reducible apply And.intro | (with_reducible apply HB.mk) | with_reducible intro _)
  all_goals first
    | (assumption)
    | (with_reducible exact Le.refl _)
    | ((with_reducible refine C158 _ _ ?_ ?_ ?_ ?_ _) <;> omega)
    | (((with_reducible refine C159_0 _ _ _ _ ?_ ?_ ?_ ?_ ?_) <;> omega))
    | (((with_reducible refine C159_0 _ _ _ _ ?_ ?_ ?_ ?_ ?_) <;> first | omega | exact hpos ‹_›))
    | (((with_reducible refine C159_1 _ _ _ _ ?_ ?_ ?_ ?_ ?_) <;> first | omega | exact hpos ‹_›))
    | (((with_reducible refine C159_2 _ _ _ _ ?_ ?_ ?_ ?_ ?_) <;> first | omega | exact hpos ‹_›))
    | (refine Le.of ?_; unfold mch mal; rw [‹(rnd s3 64 == 0) = true›]; rfl)
    | (refine Le.of ?_; unfold mch mal; rw [‹(rnd s3 64 == 0) = false›]; rfl)
    | (exact okw _ (by omega) (by omega))
    | (exact Le.of rfl)
    | (exact BkR.of rfl)
    | (unfold SlOK; omega)
    | (unfold SlOK; decide)
    | (unfold inByte; decide)
    | (simp only [*, Bool.and_self, Bool.not_false, Bool.not_true]; done)
    | (simp_all [wants]; done)
theorem C118g (s0 s1 s2 s3 : Int) (h0 : 0 ≤ s0 ∧ s0 ≤ 10000000) (h1 : 0 ≤ s1 ∧ s1 ≤ 10000000) (h2 : 0 ≤ s2 ∧ s2 ≤ 10000000) (h3 : 0 ≤ s3 ∧ s3 ≤ 10000000) (id n : Nat) (hi : id < n) : CallOK Tryz.prog 118 [.c (.l (.p id 0))] [(id, ⟨[li s0, li s1, li s2, li s3, li 64], .t 167⟩)] n (ag [u8 (mch s0 s3), u8 (mch s1 s3), u8 (mch s2 s3), u8 (mal s3)]) [] 0 :=
  CallOK.at1 (C118 s0 s1 s2 s3 h0 h1 h2 h3) id n hi
def ch (t : Nat → UInt8) (c k : Nat) : Int := match c with | 0 => ((t (4 * k)).toNat : Nat) | 1 => ((t (4 * k + 1)).toNat : Nat) | 2 => ((t (4 * k + 2)).toNat : Nat) | _ => 1
def mS (t : Nat → UInt8) (c : Nat) : Nat → Int
  | 0 => 0
  | k + 1 => mS t c k + ((t (4 * k + 3)).toNat : Nat) * ch t c k
def meanL (t : Nat → UInt8) : List Leaf := [u8 (mch (mS t 0 64) (mS t 3 64)), u8 (mch (mS t 1 64) (mS t 3 64)), u8 (mch (mS t 2 64) (mS t 3 64)), u8 (mal (mS t 3 64))]
def MBk (t : Nat → UInt8) (k : Nat) : Blk := ⟨[li (mS t 0 k), li (mS t 1 k), li (mS t 2 k), li (mS t 3 k), li (k : Nat)], .t 167⟩
def I52 (t : Nat → UInt8) (k : Nat) : St := ⟨[(7, iv .i64 (k : Nat)), (6, .c (.agg (tl t))), (3, .c (.l (.p 2 0))), (2, .c (.l (.p 1 0))), (1, .c (.l (.p 0 0)))], [(0, some ⟨tl t, .t 38⟩), (1, some ⟨[u8 0, u8 0, u8 0, u8 0], .t 36⟩), (2, some (MBk t k))], 3, 14, [2, 1, 0], (0)⟩
def W117 (S : St) (i : Nat) (a b d e : Int) : Blk := match S.blk i with | some ⟨[.v (.int _ s0), .v (.int _ s1), .v (.int _ s2), .v (.int _ s3), .v (.int _ c)], _⟩ => ⟨[li (s0 + e * a), li (s1 + e * b), li (s2 + e * d), li (s3 + e * 1), li (c + 1)], .t 167⟩ | _ => ⟨[], .t 0⟩
def V118 (S : St) (i : Nat) : SV := match S.blk i with | some ⟨[.v (.int _ s0), .v (.int _ s1), .v (.int _ s2), .v (.int _ s3), _], _⟩ => ag [u8 (mch s0 s3), u8 (mch s1 s3), u8 (mch s2 s3), u8 (mal s3)] | _ => .u
theorem ch_bd (t : Nat → UInt8) (c k : Nat) : 0 ≤ ch t c k ∧ ch t c k < 256 := by
  unfold ch
  split
  · exact okb _
  · exact okb _
  · exact okb _
  · omega
theorem mS_bd (t : Nat → UInt8) (c : Nat) : ∀ k, 0 ≤ mS t c k ∧ mS t c k ≤ 65025 * (k : Nat)
  | 0 => ⟨Int.le_refl _, Int.le_refl _⟩
  | k + 1 => by
    have h1 := mS_bd t c k
    have h2 := mul_bd (okb (t (4 * k + 3))) (ch_bd t c k)
    rw [mS]
    omega
theorem mS_b (t : Nat → UInt8) (c : Nat) {k : Nat} (h : k ≤ 64) : 0 ≤ mS t c k ∧ mS t c k ≤ 10000000 := by
  have := mS_bd t c k
  omega
theorem mS_b' (t : Nat → UInt8) (c : Nat) {k : Nat} (h : k ≤ 64) : 0 ≤ mS t c k ∧ mS t c k ≤ 1000000000 := by
  have := mS_bd t c k
  omega
def cz_R52 (t : Nat → UInt8) (k : Nat) : Cz := {
  ct := (fun f => match f with
  | 117 => some fun _ _S ar => match ar with | [.c (.l (.p i _)), .c (.agg [.v (.int _ a), .v (.int _ b), .v (.int _ d), .v (.int _ e)]), .c (.l (.v (.int _ 1)))] => some { v := .tup [], rd := [i], wr := [(i, W117 _S i a b d e)], nw := 0 } | _ => none
  | 118 => some fun _ _S ar => match ar with | [.c (.l (.p i _))] => some { v := V118 _S i, rd := [i], wr := [], nw := 0 } | _ => none
  | _ => none)
  eq := (fun t => match t with
  | _ => none)
  raw := [], sym := [9], nf := [(9, .c (.agg [ub (t (4 * k)), ub (t (4 * k + 1)), ub (t (4 * k + 2)), ub (t (4 * k + 3))])), (10, .c (.agg [ub (t (4 * k)), ub (t (4 * k + 1)), ub (t (4 * k + 2)), ub (t (4 * k + 3))]))], ap := true, off := [], on := [], lp := fun _ => none, un := 0 }
set_option maxRecDepth 100000 in
theorem R52 (t : Nat → UInt8) (k : Nat)  (K : Exit → St → Prop) (h : HB (decide ((Nat.cast k : Int) < 64)) (InR ((Nat.cast k : Int)) 64 ∧ Le (ag (List.take 4 (List.drop (((Nat.cast k : Int)).toNat * 4) (tl t)))) (ag [Leaf.v (Value.int IntKind.u8 (Nat.cast ((t (4 * k)).toNat) : Int)), Leaf.v (Value.int IntKind.u8 (Nat.cast ((t (4 * k + 1)).toNat) : Int)), Leaf.v (Value.int IntKind.u8 (Nat.cast ((t (4 * k + 2)).toNat) : Int)), Leaf.v (Value.int IntKind.u8 (Nat.cast ((t (4 * k + 3)).toNat) : Int))]) ∧ Le (ag [Leaf.v (Value.int IntKind.u8 (Nat.cast ((t (4 * k)).toNat) : Int)), Leaf.v (Value.int IntKind.u8 (Nat.cast ((t (4 * k + 1)).toNat) : Int)), Leaf.v (Value.int IntKind.u8 (Nat.cast ((t (4 * k + 2)).toNat) : Int)), Leaf.v (Value.int IntKind.u8 (Nat.cast ((t (4 * k + 3)).toNat) : Int))]) (ag [Leaf.v (Value.int IntKind.u8 (Nat.cast ((t (4 * k)).toNat) : Int)), Leaf.v (Value.int IntKind.u8 (Nat.cast ((t (4 * k + 1)).toNat) : Int)), Leaf.v (Value.int IntKind.u8 (Nat.cast ((t (4 * k + 2)).toNat) : Int)), Leaf.v (Value.int IntKind.u8 (Nat.cast ((t (4 * k + 3)).toNat) : Int))]) ∧ CallOKd Tryz.prog 117 [] [SV.c (Cp.l (Leaf.p 2 0)), ag [Leaf.v (Value.int IntKind.u8 (Nat.cast ((t (4 * k)).toNat) : Int)), Leaf.v (Value.int IntKind.u8 (Nat.cast ((t (4 * k + 1)).toNat) : Int)), Leaf.v (Value.int IntKind.u8 (Nat.cast ((t (4 * k + 2)).toNat) : Int)), Leaf.v (Value.int IntKind.u8 (Nat.cast ((t (4 * k + 3)).toNat) : Int))], iv IntKind.i64 1] [(2, Blk.mk [li (mS t 0 k), li (mS t 1 k), li (mS t 2 k), li (mS t 3 k), li (Nat.cast k : Int)] (BT.t 167))] 4 (SV.tup []) [(2, Blk.mk [li (mS t 0 k + (Nat.cast ((t (4 * k + 3)).toNat) : Int) * (Nat.cast ((t (4 * k)).toNat) : Int)), li (mS t 1 k + (Nat.cast ((t (4 * k + 3)).toNat) : Int) * (Nat.cast ((t (4 * k + 1)).toNat) : Int)), li (mS t 2 k + (Nat.cast ((t (4 * k + 3)).toNat) : Int) * (Nat.cast ((t (4 * k + 2)).toNat) : Int)), li (mS t 3 k + (Nat.cast ((t (4 * k + 3)).toNat) : Int) * 1), li ((Nat.cast k : Int) + 1)] (BT.t 167))] 0 ∧ IntKind.i64.wrap ((Nat.cast k : Int) + 1) = (Nat.cast k : Int) + 1 ∧ RoundTo Tryz.prog ((getLoop 3 (Tryz.f52.body.getD .skip)).getD .skip) 3 (wkK 3 K) (St.mk [(7, iv IntKind.i64 ((Nat.cast k : Int) + 1)), (12, iv IntKind.i64 ((Nat.cast k : Int) + 1)), (11, SV.tup []), (10, ag [Leaf.v (Value.int IntKind.u8 (Nat.cast ((t (4 * k)).toNat) : Int)), Leaf.v (Value.int IntKind.u8 (Nat.cast ((t (4 * k + 1)).toNat) : Int)), Leaf.v (Value.int IntKind.u8 (Nat.cast ((t (4 * k + 2)).toNat) : Int)), Leaf.v (Value.int IntKind.u8 (Nat.cast ((t (4 * k + 3)).toNat) : Int))]), (5, SV.c (Cp.l (Leaf.p 3 0))), (9, ag [Leaf.v (Value.int IntKind.u8 (Nat.cast ((t (4 * k)).toNat) : Int)), Leaf.v (Value.int IntKind.u8 (Nat.cast ((t (4 * k + 1)).toNat) : Int)), Leaf.v (Value.int IntKind.u8 (Nat.cast ((t (4 * k + 2)).toNat) : Int)), Leaf.v (Value.int IntKind.u8 (Nat.cast ((t (4 * k + 3)).toNat) : Int))]), (8, bv (decide ((Nat.cast k : Int) < 64))), (7, iv IntKind.i64 (Nat.cast k : Int)), (6, ag (tl t)), (3, SV.c (Cp.l (Leaf.p 2 0))), (2, SV.c (Cp.l (Leaf.p 1 0))), (1, SV.c (Cp.l (Leaf.p 0 0)))] [(2, some (Blk.mk [li (mS t 0 k + (Nat.cast ((t (4 * k + 3)).toNat) : Int) * (Nat.cast ((t (4 * k)).toNat) : Int)), li (mS t 1 k + (Nat.cast ((t (4 * k + 3)).toNat) : Int) * (Nat.cast ((t (4 * k + 1)).toNat) : Int)), li (mS t 2 k + (Nat.cast ((t (4 * k + 3)).toNat) : Int) * (Nat.cast ((t (4 * k + 2)).toNat) : Int)), li (mS t 3 k + (Nat.cast ((t (4 * k + 3)).toNat) : Int) * 1), li ((Nat.cast k : Int) + 1)] (BT.t 167))), (3, some (Blk.mk [Leaf.v (Value.int IntKind.u8 (Nat.cast ((t (4 * k)).toNat) : Int)), Leaf.v (Value.int IntKind.u8 (Nat.cast ((t (4 * k + 1)).toNat) : Int)), Leaf.v (Value.int IntKind.u8 (Nat.cast ((t (4 * k + 2)).toNat) : Int)), Leaf.v (Value.int IntKind.u8 (Nat.cast ((t (4 * k + 3)).toNat) : Int))] (BT.t 36))), (3, some (Blk.mk [Leaf.v (Value.int IntKind.u8 0), Leaf.v (Value.int IntKind.u8 0), Leaf.v (Value.int IntKind.u8 0), Leaf.v (Value.int IntKind.u8 0)] (BT.t 36))), (0, some (Blk.mk (tl t) (BT.t 38))), (1, some (Blk.mk [Leaf.v (Value.int IntKind.u8 0), Leaf.v (Value.int IntKind.u8 0), Leaf.v (Value.int IntKind.u8 0), Leaf.v (Value.int IntKind.u8 0)] (BT.t 36))), (2, some (Blk.mk [li (mS t 0 k), li (mS t 1 k), li (mS t 2 k), li (mS t 3 k), li (Nat.cast k : Int)] (BT.t 167)))] 4 14 [2, 3, 3, 2, 1, 0] 0)) (wkK 3 K (Exit.exit 0) (St.mk [(8, bv (decide ((Nat.cast k : Int) < 64))), (7, iv IntKind.i64 (Nat.cast k : Int)), (6, ag (tl t)), (3, SV.c (Cp.l (Leaf.p 2 0))), (2, SV.c (Cp.l (Leaf.p 1 0))), (1, SV.c (Cp.l (Leaf.p 0 0)))] [(0, some (Blk.mk (tl t) (BT.t 38))), (1, some (Blk.mk [Leaf.v (Value.int IntKind.u8 0), Leaf.v (Value.int IntKind.u8 0), Leaf.v (Value.int IntKind.u8 0), Leaf.v (Value.int IntKind.u8 0)] (BT.t 36))), (2, some (Blk.mk [li (mS t 0 k), li (mS t 1 k), li (mS t 2 k), li (mS t 3 k), li (Nat.cast k : Int)] (BT.t 167)))] 3 14 [2, 1, 0] 0))) : WPL Tryz.prog ((getLoop 3 (Tryz.f52.body.getD .skip)).getD .skip) (I52 t k) (wkK 3 K) :=
  wp_round (cx := cz_R52 t k) rfl (of_eq (by kernel_rfl) h)
set_option maxRecDepth 100000 in
set_option maxHeartbeats 4000000 in
theorem L52 (t : Nat → UInt8)  : ∀ (m k : Nat), 64 - k = m → k ≤ 64 → ∀ (K : Exit → St → Prop), K (.exit 0) (I52 t 64) → WPL Tryz.prog ((getLoop 3 (Tryz.f52.body.getD .skip)).getD .skip) (I52 t k) (wkK 3 K)
  | 0, k, hm, hk, K, hK => by
    have e : k = 64 := by omega
    subst e
    refine R52 t _ K (HB.mk (fun hne => absurd (of_decide_eq_true hne) (by omega)) (fun he => ?_))
    exact wkK.to (I52 t _) (Nat.le_refl _) (by kernel_rfl) (wkE_cons (LeN.sl (by kernel_rfl) rfl) (wkE_cons (LeN.sl_plain (by kernel_rfl) (plain_tl t)) (wkE_cons (LeN.sl (by kernel_rfl) rfl) (wkE_cons (LeN.sl (by kernel_rfl) rfl) (wkE_cons (LeN.sl (by kernel_rfl) rfl) trivial))))) (wkH_cons (BkN.plain (cs := tl t) (b := .t 38) (by kernel_rfl) (rfl) (plain_tl t) (by kernel_rfl)) (wkH_cons (BkN.blk (k := ⟨[u8 0, u8 0, u8 0, u8 0], .t 36⟩) (by kernel_rfl) (rfl) (by kernel_rfl)) (wkH_cons (BkN.blk (k := MBk t 64) (by kernel_rfl) (rfl) (by kernel_rfl)) trivial))) hK
  | m + 1, k, hm, hk, K, hK => by
    refine R52 t k K (HB.mk (fun hne => ?_) (fun he => absurd (show ((k : Nat) : Int) < (64 : Nat) by omega) (of_decide_eq_false he)))
    have hlt : k < 64 := by omega
    repeat' (first | exact trivial | with_reducible apply And.intro | (with_reducible apply HB.mk) | with_reducible intro _)
    all_goals first
      | (assumption)
      | (with_reducible exact Le.refl _)
      | (((with_reducible refine C117g _ _ _ _ _ _ _ _ _ ?_ ?_ ?_ ?_ ?_ ?_ ?_ ?_ ?_ _ _ ?_) <;> first | exact okb _ | exact mS_b' t _ (Nat.le_of_lt hlt) | omega))
      | (exact ⟨by omega, by omega⟩)
      | (exact Le.of (by rw [show (((k : Nat) : Int)).toNat = k from rfl, tl_pix _ hlt]; rfl))
      | ((with_reducible refine RoundTo.toN 4 (I52 t (k + 1)) ?_ ?_ ?_ ?_ ?_); exact Nat.le_refl _; kernel_rfl; exact (wkE_cons (LeN.sl (by kernel_rfl) rfl) (wkE_cons (LeN.sl_plain (by kernel_rfl) (plain_tl t)) (wkE_cons (LeN.sl (by kernel_rfl) rfl) (wkE_cons (LeN.sl (by kernel_rfl) rfl) (wkE_cons (LeN.sl (by kernel_rfl) rfl) trivial))))); exact (wkH_cons (BkN.plain (cs := tl t) (b := .t 38) (by kernel_rfl) (rfl) (plain_tl t) (by kernel_rfl)) (wkH_cons (BkN.blk (k := ⟨[u8 0, u8 0, u8 0, u8 0], .t 36⟩) (by kernel_rfl) (rfl) (by kernel_rfl)) (wkH_cons (BkN.blk (k := ⟨[li (mS t 0 k + ((t (4 * k + 3)).toNat : Nat) * ((t (4 * k)).toNat : Nat)), li (mS t 1 k + ((t (4 * k + 3)).toNat : Nat) * ((t (4 * k + 1)).toNat : Nat)), li (mS t 2 k + ((t (4 * k + 3)).toNat : Nat) * ((t (4 * k + 2)).toNat : Nat)), li (mS t 3 k + ((t (4 * k + 3)).toNat : Nat) * 1), li (((k : Nat) : Int) + 1)], .t 167⟩) (by kernel_rfl) (rfl) (by kernel_rfl)) trivial))); exact (L52 t  m (k + 1) (by omega) (by omega) K hK))
      | (exact okw _ (by omega) (by omega))
      | (exact Le.of rfl)
      | (exact BkR.of rfl)
      | (unfold SlOK; omega)
      | (unfold SlOK; decide)
      | (unfold inByte; decide)
      | (simp only [*, Bool.and_self, Bool.not_false, Bool.not_true]; done)
      | (simp_all [wants]; done)
theorem enters52 : Enters Tryz.prog 52 := fun args w => by go_simp
def cz_C52 (t : Nat → UInt8) : Cz := {
  ct := (fun f => match f with
  | 117 => some fun _ _S ar => match ar with | [.c (.l (.p i _)), .c (.agg [.v (.int _ a), .v (.int _ b), .v (.int _ d), .v (.int _ e)]), .c (.l (.v (.int _ 1)))] => some { v := .tup [], rd := [i], wr := [(i, W117 _S i a b d e)], nw := 0 } | _ => none
  | 118 => some fun _ _S ar => match ar with | [.c (.l (.p i _))] => some { v := V118 _S i, rd := [i], wr := [], nw := 0 } | _ => none
  | _ => none)
  eq := (fun t => match t with
  | _ => none)
  raw := [], sym := [], nf := [(6, .c (.agg (tl t)))], ap := true, off := [], on := [], lp := fun r => match r with | 3 => some (fun _ K => K (.exit 0) (I52 t 64)) | _ => none, un := 0 }
set_option maxRecDepth 100000 in
set_option maxHeartbeats 400000 in
theorem C52 (t : Nat → UInt8)  (n : Nat) : CallOK Tryz.prog 52 [.c (.agg (tl t))] [] n (ag (meanL t)) [] 0 := by
  refine CallOK.any ?_ (by kernel_rfl) (by kernel_rfl) n
  refine call_ok (cx := cz_C52 t) (nm := []) rfl Tryz.func52 (body := Tryz.f52.body.getD .skip) rfl enters52 (by kernel_rfl) ?_
  apply of_eq (q := Le (ag (List.take 256 (tl t))) (ag (tl t)) ∧ (LoopOK Tryz.prog ((getLoop 3 (Tryz.f52.body.getD .skip)).getD .skip) (St.mk [(7, iv IntKind.i64 0), (6, ag (tl t)), (3, SV.c (Cp.l (Leaf.p 2 0))), (2, SV.c (Cp.l (Leaf.p 1 0))), (1, SV.c (Cp.l (Leaf.p 0 0))), (0, ag (tl t))] [(2, some (Blk.mk [li 0, li 0, li 0, li 0, li 0] (BT.t 167))), (1, some (Blk.mk [Leaf.v (Value.int IntKind.u8 0), Leaf.v (Value.int IntKind.u8 0), Leaf.v (Value.int IntKind.u8 0), Leaf.v (Value.int IntKind.u8 0)] (BT.t 36))), (0, some (Blk.mk (tl t) (BT.t 38)))] 3 14 [2, 1, 0] 0) fun K => K (Exit.exit 0) (I52 t 64)) ∧ CallOKd Tryz.prog 118 [] [SV.c (Cp.l (Leaf.p 2 0))] [(2, Blk.mk [li (mS t 0 64), li (mS t 1 64), li (mS t 2 64), li (mS t 3 64), li (Nat.cast 64 : Int)] (BT.t 167))] 3 (ag [Leaf.v (Value.int IntKind.u8 (mch (mS t 0 64) (mS t 3 64))), Leaf.v (Value.int IntKind.u8 (mch (mS t 1 64) (mS t 3 64))), Leaf.v (Value.int IntKind.u8 (mch (mS t 2 64) (mS t 3 64))), Leaf.v (Value.int IntKind.u8 (mal (mS t 3 64)))]) [] 0 ∧ Le (ag [Leaf.v (Value.int IntKind.u8 (mch (mS t 0 64) (mS t 3 64))), Leaf.v (Value.int IntKind.u8 (mch (mS t 1 64) (mS t 3 64))), Leaf.v (Value.int IntKind.u8 (mch (mS t 2 64) (mS t 3 64))), Leaf.v (Value.int IntKind.u8 (mal (mS t 3 64)))]) (ag [Leaf.v (Value.int IntKind.u8 (mch (mS t 0 64) (mS t 3 64))), Leaf.v (Value.int IntKind.u8 (mch (mS t 1 64) (mS t 3 64))), Leaf.v (Value.int IntKind.u8 (mch (mS t 2 64) (mS t 3 64))), Leaf.v (Value.int IntKind.u8 (mal (mS t 3 64)))]) ∧ True) (by kernel_rfl)
  repeat' (first | exact trivial | with_reducible apply And.intro | (with_reducible apply HB.mk) | with_reducible intro _)
  all_goals first
    | (assumption)
    | (with_reducible exact Le.refl _)
    | (((with_reducible refine C118g _ _ _ _ ?_ ?_ ?_ ?_ _ _ ?_) <;> first | exact mS_b t _ (Nat.le_refl _) | decide))
    | (exact LoopOK.mk (I52 t 0) rfl (by kernel_rfl) (wkE_cons (LeN.sl (by kernel_rfl) rfl) (wkE_cons (LeN.sl_plain (by kernel_rfl) (plain_tl t)) (wkE_cons (LeN.sl (by kernel_rfl) rfl) (wkE_cons (LeN.sl (by kernel_rfl) rfl) (wkE_cons (LeN.sl (by kernel_rfl) rfl) trivial))))) (wkH_cons (BkN.plain (cs := tl t) (b := .t 38) (by kernel_rfl) (rfl) (plain_tl t) (by kernel_rfl)) (wkH_cons (BkN.blk (k := ⟨[u8 0, u8 0, u8 0, u8 0], .t 36⟩) (by kernel_rfl) (rfl) (by kernel_rfl)) (wkH_cons (BkN.blk (k := MBk t 0) (by kernel_rfl) (rfl) (by kernel_rfl)) trivial))) (fun K hT => L52 t  _ 0 rfl (by first | decide | omega) K hT))
    | (exact Le.of (by rw [tl_take]))
    | (refine C118g _ _ _ _ ?_ ?_ ?_ ?_ _ _ ?_ <;> first | exact mS_b t _ (Nat.le_refl _) | decide)
    | (exact okw _ (by omega) (by omega))
    | (exact Le.of rfl)
    | (exact BkR.of rfl)
    | (unfold SlOK; omega)
    | (unfold SlOK; decide)
    | (unfold inByte; decide)
    | (simp only [*, Bool.and_self, Bool.not_false, Bool.not_true]; done)
    | (simp_all [wants]; done)
end Ab
end Go.Proofs.YtpdckpifhniioaaGreat
end
section
set_option linter.unusedVariables false
set_option linter.unusedSimpArgs false
namespace Go.Proofs.YtpdckpifhniioaaGreat
open Go.RowKit
namespace Ab
theorem u8_rng (x : Int) : 0 ≤ IntKind.u8.wrap x ∧ IntKind.u8.wrap x < 256 := by rw [IntKind.wrap_u8]; omega
theorem mch_bd (s s3 : Int) : 0 ≤ mch s s3 ∧ mch s s3 < 256 := by
  unfold mch
  cases rnd s3 64 == 0
  · exact u8_rng _
  · exact ⟨Int.le_refl _, by show (0 : Int) < 256; decide⟩
theorem mal_bd (s3 : Int) : 0 ≤ mal s3 ∧ mal s3 < 256 := by
  unfold mal
  cases rnd s3 64 == 0
  · exact u8_rng _
  · exact ⟨Int.le_refl _, by show (0 : Int) < 256; decide⟩
theorem u8_ofI {x : Int} (h : 0 ≤ x ∧ x < 256) : u8 x = ub (ofI x) := by
  unfold ofI
  have : ((UInt8.ofNat x.toNat).toNat : Int) = x := by
    rw [UInt8.toNat_ofNat']
    omega
  rw [show ub (UInt8.ofNat x.toNat) = u8 ((UInt8.ofNat x.toNat).toNat : Nat) from rfl, this]
def meanB (t : Nat → UInt8) (c : Nat) : UInt8 := ofI (match c with | 0 => mch (mS t 0 64) (mS t 3 64) | 1 => mch (mS t 1 64) (mS t 3 64) | 2 => mch (mS t 2 64) (mS t 3 64) | _ => mal (mS t 3 64))
def codT (t : Nat → UInt8) : ByteArray := ⟨#[2, UInt8.ofNat (bestT t)]⟩ ++ ⟨(Cod.M.enc (Prd.fw (bestT t) t).data.toList).toArray⟩
/-- The blob of a tile. -/
def blobT (t : Nat → UInt8) : ByteArray := bif solT t then ⟨#[0, t 0, t 1, t 2, t 3]⟩ else bif decide (((codT t).size : Int) < 257) then codT t else ⟨#[1]⟩ ++ bytesT t
theorem meanL_ub (t : Nat → UInt8) : meanL t = [ub (meanB t 0), ub (meanB t 1), ub (meanB t 2), ub (meanB t 3)] := by
  unfold meanL
  rw [u8_ofI (mch_bd _ _), u8_ofI (mch_bd _ _), u8_ofI (mch_bd _ _), u8_ofI (mal_bd _)]
  rfl
theorem mS_congr {t u : Nat → UInt8} (h : ∀ i, i < 256 → t i = u i) (c : Nat) : ∀ k, k ≤ 64 → mS t c k = mS u c k
  | 0, _ => rfl
  | k + 1, hk => by
    rw [mS, mS, mS_congr h c k (by omega), h (4 * k + 3) (by omega)]
    congr 2
    unfold ch
    split
    · rw [h _ (by omega)]
    · rw [h _ (by omega)]
    · rw [h _ (by omega)]
    · rfl
theorem meanL_lsB (t : Nat → UInt8) : meanL (lsB (tl t)) = meanL t := by
  have := fun c => mS_congr (t := lsB (tl t)) (u := t) (fun i hi => lsB_tl t hi) c 64 (Nat.le_refl _)
  unfold meanL
  rw [this, this, this, this]
theorem C52L (l : List Leaf) (t : Nat → UInt8) (h : l = tl t) (n : Nat) : CallOK Tryz.prog 52 [.c (.agg l)] [] n (ag (meanL (lsB l))) [] 0 := by
  subst h; rw [meanL_lsB]; exact C52 t n
theorem bytesT_lsB (t : Nat → UInt8) : bytesT (lsB (tl t)) = bytesT t := by
  unfold bytesT
  congr 2
  apply List.map_congr_left
  intro i hi
  exact lsB_tl t (by simpa using hi)
theorem C115L (l : List Leaf) (t : Nat → UInt8) (h : l = tl t) (n : Nat) : CallOK Tryz.prog 115 [.c (.agg l)] [] n (.c (.l (.v (.string (bytesT (lsB l)))))) [] 0 := by
  subst h; rw [bytesT_lsB]; exact C115 t n
theorem sol_lsB (t : Nat → UInt8) : solT (lsB (tl t)) = solT t := by
  unfold solT
  rw [lsB_tl t (by decide), lsB_tl t (by decide), lsB_tl t (by decide), lsB_tl t (by decide)]
  exact sameT_congr (fun i hi => lsB_tl t hi) (fun i hi => rfl)
theorem C111L (l : List Leaf) (t : Nat → UInt8) (h : l = tl t) (n : Nat) : CallOK Tryz.prog 111 [.c (.agg l)] [] n (.tup [.agg [ub (solP (lsB l) 0), ub (solP (lsB l) 1), ub (solP (lsB l) 2), ub (solP (lsB l) 3)], .l (.v (.bool (solT (lsB l))))]) [] 0 := by
  subst h
  have e : ∀ i, i < 256 → solP (lsB (tl t)) i = solP t i := fun i hi => by unfold solP; rw [sol_lsB, lsB_tl t hi]
  rw [sol_lsB, e 0 (by decide), e 1 (by decide), e 2 (by decide), e 3 (by decide)]
  exact C111 t n
theorem solP_lsB (t : Nat → UInt8) {i : Nat} (hi : i < 256) : solP (lsB (tl t)) i = solP t i := by unfold solP; rw [sol_lsB, lsB_tl t hi]
theorem strOf_bytes (l : List UInt8) : strOf (l.map fun b => ((b.toNat : Nat) : Int)) = ⟨l.toArray⟩ := by
  unfold strOf
  rw [List.map_map]
  congr 2
  rw [show ((fun b : Int => UInt8.ofNat b.toNat) ∘ fun b : UInt8 => ((b.toNat : Nat) : Int)) = id from funext fun b => by simp]
  exact List.map_id l
theorem inb (b : UInt8) : inByte ((b.toNat : Nat) : Int) := okb b
theorem enters51 : Enters Tryz.prog 51 := fun args w => by go_simp
def cz_C51 : Cz := {
  ct := (fun f => match f with
  | _ => none)
  eq := (fun t => match t with
  | _ => none)
  raw := [], sym := [], nf := [], ap := true, off := [], on := [], lp := fun _ => none, un := 0 }
set_option maxRecDepth 100000 in
set_option maxHeartbeats 400000 in
theorem C51 (a b c e : UInt8)  (n : Nat) : CallOK Tryz.prog 51 [ag [ub a, ub b, ub c, ub e]] [] n (.c (.l (.v (.string ⟨#[a, b, c, e]⟩)))) [] 0 := by
  refine CallOK.any ?_ (by kernel_rfl) (by kernel_rfl) n
  refine call_ok (cx := cz_C51) (nm := []) rfl Tryz.func51 (body := Tryz.f51.body.getD .skip) rfl enters51 (by kernel_rfl) ?_
  apply of_eq (q := inByte (Nat.cast a.toNat : Int) ∧ inByte (Nat.cast b.toNat : Int) ∧ inByte (Nat.cast c.toNat : Int) ∧ inByte (Nat.cast e.toNat : Int) ∧ Le (SV.c (Cp.l (Leaf.v (Value.string (strOf [(Nat.cast a.toNat : Int), (Nat.cast b.toNat : Int), (Nat.cast c.toNat : Int), (Nat.cast e.toNat : Int)]))))) (SV.c (Cp.l (Leaf.v (Value.string (ByteArray.mk #[a, b, c, e]))))) ∧ True) (by kernel_rfl)
  repeat' (first | exact trivial | with_reducible apply And.intro | (with_reducible apply HB.mk) | with_reducible intro _)
  all_goals first
    | (assumption)
    | (with_reducible exact Le.refl _)
    | (exact inb _)
    | (exact Le.of (congrArg (fun s => SV.c (.l (.v (.string s)))) (strOf_bytes [a, b, c, e])))
    | (exact okw _ (by omega) (by omega))
    | (exact Le.of rfl)
    | (exact BkR.of rfl)
    | (unfold SlOK; omega)
    | (unfold SlOK; decide)
    | (unfold inByte; decide)
    | (simp only [*, Bool.and_self, Bool.not_false, Bool.not_true]; done)
    | (simp_all [wants]; done)
theorem C51I (a b c e : UInt8) (n : Nat) : CallOK Tryz.prog 51 [ag [ub a, ub b, ub c, ub e]] [] n (.c (.l (.v (.string ⟨#[ofI ((a.toNat : Nat) : Int), ofI ((b.toNat : Nat) : Int), ofI ((c.toNat : Nat) : Int), ofI ((e.toNat : Nat) : Int)]⟩)))) [] 0 := by
  rw [ofI_nat, ofI_nat, ofI_nat, ofI_nat]; exact C51 a b c e n
theorem enc_sz (k : Nat) (t : Nat → UInt8) : (⟨(Cod.M.enc (Prd.fw k t).data.toList).toArray⟩ : ByteArray).size ≤ 8196 := by
  have h := Cod.M.enc_bd (Prd.fw k t).data.toList
  have e : (Prd.fw k t).data.toList.length = 256 := by
    rw [Array.length_toList]; exact fw_len k t
  rw [e] at h
  simpa [ByteArray.size] using h
theorem codT_sz (t : Nat → UInt8) : (codT t).size ≤ 8198 := by
  unfold codT
  rw [ByteArray.size_append]
  have := enc_sz (bestT t) t
  have e : (⟨#[2, UInt8.ofNat (bestT t)]⟩ : ByteArray).size = 2 := rfl
  omega
theorem blobT_1 {t : Nat → UInt8} (h : solT t = true) : (⟨#[0]⟩ : ByteArray) ++ ⟨#[t 0, t 1, t 2, t 3]⟩ = blobT t := by
  unfold blobT; rw [h]; rfl
theorem blobT_2 {t : Nat → UInt8} (h : solT t = false) (k : decide (((codT t).size : Int) < 257) = true) : codT t = blobT t := by
  unfold blobT; rw [h, k]; rfl
theorem blobT_3 {t : Nat → UInt8} (h : solT t = false) (k : decide (((codT t).size : Int) < 257) = false) : (⟨#[1]⟩ : ByteArray) ++ bytesT t = blobT t := by
  unfold blobT; rw [h, k]; rfl
theorem solP_t' {t : Nat → UInt8} (h : solT t = true) : [ub (solP t 0), ub (solP t 1), ub (solP t 2), ub (solP t 3)] = [ub (t 0), ub (t 1), ub (t 2), ub (t 3)] := by
  unfold solP; rw [if_pos h, if_pos h, if_pos h, if_pos h]
theorem best8 (t : Nat → UInt8) : IntKind.u8.wrap ((bestT t : Nat) : Int) = ((UInt8.ofNat (bestT t)).toNat : Nat) := by
  have := bestT_lt t
  rw [IntKind.wrap_u8, UInt8.toNat_ofNat']
  omega
attribute [local irreducible] solT codT bestT blobT bytesT tl sameT Prd.fw Cod.M.enc
theorem enters49 : Enters Tryz.prog 49 := fun args w => by go_simp
def cz_C49 (t : Nat → UInt8) : Cz := {
  ct := (fun f => match f with
  | 51 => some fun _ _S ar => match ar with | [.c (.agg [.v (.int _ a), .v (.int _ b), .v (.int _ c), .v (.int _ e)])] => some { v := .c (.l (.v (.string ⟨#[ofI a, ofI b, ofI c, ofI e]⟩))), rd := [], wr := [], nw := 0 } | _ => none
  | 111 => some fun _ _S ar => match ar with | [.c (.agg l)] => some { v := .tup [.agg [ub (solP (lsB l) 0), ub (solP (lsB l) 1), ub (solP (lsB l) 2), ub (solP (lsB l) 3)], .l (.v (.bool (solT (lsB l))))], rd := [], wr := [], nw := 0 } | _ => none
  | 112 => some fun _ _S ar => match ar with | [.c (.agg l)] => some { v := iv .i64 (bestT (lsB l) : Nat), rd := [], wr := [], nw := 0 } | _ => none
  | 113 => some fun _ _S ar => match ar with | [.c (.agg l), .c (.l (.v (.int _ k)))] => some { v := .tup [.l (.v (.string (Prd.fw k.toNat (lsB l)))), .l (li 0)], rd := [], wr := [], nw := 0 } | _ => none
  | 114 => some fun _ _S ar => match ar with | [.c (.l (.v (.string s)))] => some { v := .c (.l (.v (.string ⟨(Cod.M.enc s.data.toList).toArray⟩))), rd := [], wr := [], nw := 0 } | _ => none
  | 115 => some fun _ _S ar => match ar with | [.c (.agg l)] => some { v := .c (.l (.v (.string (bytesT (lsB l))))), rd := [], wr := [], nw := 0 } | _ => none
  | _ => none)
  eq := (fun t => match t with
  | _ => none)
  raw := [], sym := [], nf := [(10, .c (.agg (tl t))), (11, .tup [.agg [ub (solP t 0), ub (solP t 1), ub (solP t 2), ub (solP t 3)], .l (.v (.bool (solT t)))]), (16, .c (.l (.v (.string ⟨#[0]⟩)))), (17, .c (.agg [ub (t 0), ub (t 1), ub (t 2), ub (t 3)])), (18, .c (.l (.v (.string ⟨#[t 0, t 1, t 2, t 3]⟩)))), (20, .c (.agg (tl t))), (21, iv .i64 (bestT t : Nat)), (23, .c (.agg (tl t))), (25, .tup [.l (.v (.string (Prd.fw (bestT t) t))), .l (li 0)]), (29, iv .u8 ((UInt8.ofNat (bestT t)).toNat : Nat)), (31, .c (.l (.v (.string ⟨#[2, UInt8.ofNat (bestT t)]⟩)))), (34, .c (.l (.v (.string (codT t))))), (40, .c (.l (.v (.string ⟨#[1]⟩)))), (41, .c (.agg (tl t))), (42, .c (.l (.v (.string (bytesT t)))))], ap := true, off := [], on := [], lp := fun _ => none, un := 0 }
set_option maxRecDepth 100000 in
set_option maxHeartbeats 400000 in
theorem C49 (t : Nat → UInt8)  (n : Nat) : CallOK Tryz.prog 49 [.c (.agg (tl t))] [] n (.c (.l (.v (.string (blobT t))))) [] 0 := by
  refine CallOK.any ?_ (by kernel_rfl) (by kernel_rfl) n
  have hb6 := bestT_lt t
  have hcs := codT_sz t
  have hes := enc_sz (bestT t) t
  have hbs := bytesT_len t
  refine call_ok (cx := cz_C49 t) (nm := []) rfl Tryz.func49 (body := Tryz.f49.body.getD .skip) rfl enters49 (by kernel_rfl) ?_
  apply of_eq (q := Le (ag (List.take 256 (tl t))) (ag (tl t)) ∧ CallOKd Tryz.prog 111 [] [ag (tl t)] [] 1 (SV.tup [Cp.agg [Leaf.v (Value.int IntKind.u8 (Nat.cast ((solP (lsB (tl t)) 0).toNat) : Int)), Leaf.v (Value.int IntKind.u8 (Nat.cast ((solP (lsB (tl t)) 1).toNat) : Int)), Leaf.v (Value.int IntKind.u8 (Nat.cast ((solP (lsB (tl t)) 2).toNat) : Int)), Leaf.v (Value.int IntKind.u8 (Nat.cast ((solP (lsB (tl t)) 3).toNat) : Int))], Cp.l (lb (solT (lsB (tl t))))]) [] 0 ∧ Le (SV.tup [Cp.agg [Leaf.v (Value.int IntKind.u8 (Nat.cast ((solP (lsB (tl t)) 0).toNat) : Int)), Leaf.v (Value.int IntKind.u8 (Nat.cast ((solP (lsB (tl t)) 1).toNat) : Int)), Leaf.v (Value.int IntKind.u8 (Nat.cast ((solP (lsB (tl t)) 2).toNat) : Int)), Leaf.v (Value.int IntKind.u8 (Nat.cast ((solP (lsB (tl t)) 3).toNat) : Int))], Cp.l (lb (solT (lsB (tl t))))]) (SV.tup [Cp.agg [Leaf.v (Value.int IntKind.u8 (Nat.cast ((solP t 0).toNat) : Int)), Leaf.v (Value.int IntKind.u8 (Nat.cast ((solP t 1).toNat) : Int)), Leaf.v (Value.int IntKind.u8 (Nat.cast ((solP t 2).toNat) : Int)), Leaf.v (Value.int IntKind.u8 (Nat.cast ((solP t 3).toNat) : Int))], Cp.l (lb (solT t))]) ∧ HB (solT t) (inByte 0 ∧ Le (SV.c (Cp.l (Leaf.v (Value.string (strOf [0]))))) (SV.c (Cp.l (Leaf.v (Value.string (ByteArray.mk #[0]))))) ∧ Le (ag [Leaf.v (Value.int IntKind.u8 (Nat.cast ((solP t 0).toNat) : Int)), Leaf.v (Value.int IntKind.u8 (Nat.cast ((solP t 1).toNat) : Int)), Leaf.v (Value.int IntKind.u8 (Nat.cast ((solP t 2).toNat) : Int)), Leaf.v (Value.int IntKind.u8 (Nat.cast ((solP t 3).toNat) : Int))]) (ag [Leaf.v (Value.int IntKind.u8 (Nat.cast ((t 0).toNat) : Int)), Leaf.v (Value.int IntKind.u8 (Nat.cast ((t 1).toNat) : Int)), Leaf.v (Value.int IntKind.u8 (Nat.cast ((t 2).toNat) : Int)), Leaf.v (Value.int IntKind.u8 (Nat.cast ((t 3).toNat) : Int))]) ∧ CallOKd Tryz.prog 51 [] [ag [Leaf.v (Value.int IntKind.u8 (Nat.cast ((t 0).toNat) : Int)), Leaf.v (Value.int IntKind.u8 (Nat.cast ((t 1).toNat) : Int)), Leaf.v (Value.int IntKind.u8 (Nat.cast ((t 2).toNat) : Int)), Leaf.v (Value.int IntKind.u8 (Nat.cast ((t 3).toNat) : Int))]] [] 3 (SV.c (Cp.l (Leaf.v (Value.string (ByteArray.mk #[ofI (Nat.cast ((t 0).toNat) : Int), ofI (Nat.cast ((t 1).toNat) : Int), ofI (Nat.cast ((t 2).toNat) : Int), ofI (Nat.cast ((t 3).toNat) : Int)]))))) [] 0 ∧ Le (SV.c (Cp.l (Leaf.v (Value.string (ByteArray.mk #[ofI (Nat.cast ((t 0).toNat) : Int), ofI (Nat.cast ((t 1).toNat) : Int), ofI (Nat.cast ((t 2).toNat) : Int), ofI (Nat.cast ((t 3).toNat) : Int)]))))) (SV.c (Cp.l (Leaf.v (Value.string (ByteArray.mk #[t 0, t 1, t 2, t 3]))))) ∧ (Nat.cast (((ByteArray.mk #[0]).size + (ByteArray.mk #[t 0, t 1, t 2, t 3]).size)) : Int) ≤ IntKind.i64.max ∧ Le (SV.c (Cp.l (Leaf.v (Value.string (ByteArray.mk #[0] ++ ByteArray.mk #[t 0, t 1, t 2, t 3]))))) (SV.c (Cp.l (Leaf.v (Value.string (blobT t))))) ∧ True) (Le (ag (List.take 256 (tl t))) (ag (tl t)) ∧ CallOKd Tryz.prog 112 [] [ag (tl t)] [] 2 (iv IntKind.i64 (Nat.cast ((bestT (lsB (tl t)))) : Int)) [] 0 ∧ Le (iv IntKind.i64 (Nat.cast ((bestT (lsB (tl t)))) : Int)) (iv IntKind.i64 (Nat.cast ((bestT t)) : Int)) ∧ Le (ag (List.take 256 (tl t))) (ag (tl t)) ∧ CallOKd Tryz.prog 113 [] [ag (tl t), iv IntKind.i64 (Nat.cast ((bestT t)) : Int)] [] 2 (SV.tup [Cp.l (Leaf.v (Value.string (Prd.fw ((Nat.cast ((bestT t)) : Int)).toNat (lsB (tl t))))), Cp.l (li 0)]) [] 0 ∧ Le (SV.tup [Cp.l (Leaf.v (Value.string (Prd.fw ((Nat.cast ((bestT t)) : Int)).toNat (lsB (tl t))))), Cp.l (li 0)]) (SV.tup [Cp.l (Leaf.v (Value.string (Prd.fw (bestT t) t))), Cp.l (li 0)]) ∧ Le (iv IntKind.u8 (IntKind.u8.wrap (Nat.cast ((bestT t)) : Int))) (iv IntKind.u8 (Nat.cast ((UInt8.ofNat (bestT t)).toNat) : Int)) ∧ inByte 2 ∧ inByte (Nat.cast ((UInt8.ofNat (bestT t)).toNat) : Int) ∧ Le (SV.c (Cp.l (Leaf.v (Value.string (strOf [2, (Nat.cast ((UInt8.ofNat (bestT t)).toNat) : Int)]))))) (SV.c (Cp.l (Leaf.v (Value.string (ByteArray.mk #[2, UInt8.ofNat (bestT t)]))))) ∧ CallOKd Tryz.prog 114 [] [SV.c (Cp.l (Leaf.v (Value.string (Prd.fw (bestT t) t))))] [] 3 (SV.c (Cp.l (Leaf.v (Value.string (ByteArray.mk (Cod.M.enc (Prd.fw (bestT t) t).data.toList).toArray))))) [] 0 ∧ (Nat.cast (((ByteArray.mk #[2, UInt8.ofNat (bestT t)]).size + (ByteArray.mk (Cod.M.enc (Prd.fw (bestT t) t).data.toList).toArray).size)) : Int) ≤ IntKind.i64.max ∧ Le (SV.c (Cp.l (Leaf.v (Value.string (ByteArray.mk #[2, UInt8.ofNat (bestT t)] ++ ByteArray.mk (Cod.M.enc (Prd.fw (bestT t) t).data.toList).toArray))))) (SV.c (Cp.l (Leaf.v (Value.string (codT t))))) ∧ HB (decide ((Nat.cast ((codT t).size) : Int) < 257)) (Le (SV.c (Cp.l (Leaf.v (Value.string (codT t))))) (SV.c (Cp.l (Leaf.v (Value.string (blobT t))))) ∧ True) (inByte 1 ∧ Le (SV.c (Cp.l (Leaf.v (Value.string (strOf [1]))))) (SV.c (Cp.l (Leaf.v (Value.string (ByteArray.mk #[1]))))) ∧ Le (ag (List.take 256 (tl t))) (ag (tl t)) ∧ CallOKd Tryz.prog 115 [] [ag (tl t)] [] 4 (SV.c (Cp.l (Leaf.v (Value.string (bytesT (lsB (tl t))))))) [] 0 ∧ Le (SV.c (Cp.l (Leaf.v (Value.string (bytesT (lsB (tl t))))))) (SV.c (Cp.l (Leaf.v (Value.string (bytesT t))))) ∧ (Nat.cast (((ByteArray.mk #[1]).size + (bytesT t).size)) : Int) ≤ IntKind.i64.max ∧ Le (SV.c (Cp.l (Leaf.v (Value.string (ByteArray.mk #[1] ++ bytesT t))))) (SV.c (Cp.l (Leaf.v (Value.string (blobT t))))) ∧ True))) (by kernel_rfl)
  repeat' (first | exact trivial | with_reducible apply And.intro | (with_reducible apply HB.mk) | with_reducible intro _)
  all_goals first
    | (assumption)
    | (with_reducible exact Le.refl _)
    | ((with_reducible exact C51I _ _ _ _ _))
    | ((with_reducible exact C111L _ _ rfl _))
    | ((with_reducible refine C112L _ _ rfl _))
    | ((with_reducible refine C113L _ _ rfl _ ?_ ?_ _) <;> omega)
    | ((with_reducible refine C114 _ ?_ _); rw [fw_len]; decide)
    | ((with_reducible exact C115L _ _ rfl _))
    | (exact Le.of (by rw [tl_take]))
    | (exact Le.of (by rw [sol_lsB, solP_lsB t (by decide), solP_lsB t (by decide), solP_lsB t (by decide), solP_lsB t (by decide)]))
    | (exact inb _)
    | (exact Le.of (by rw [solP_t' (by with_reducible assumption : solT t = true)]))
    | (exact Le.of (congrArg (fun l => SV.c (.agg l)) (solP_t' (by with_reducible assumption : solT t = true))))
    | (exact Le.of (by rw [ofI_nat, ofI_nat, ofI_nat, ofI_nat]))
    | (exact Le.of (by rw [blobT_1 (by with_reducible assumption : solT t = true)]))
    | (exact Le.of (by rw [bestT_lsB]))
    | (exact Le.of (by unfold codT; rfl))
    | (exact Le.of (by rw [show ((bestT t : Nat) : Int).toNat = bestT t from rfl, fw_lsB]))
    | (exact Le.of (by rw [best8]))
    | (exact Le.of (congrArg (fun s => SV.c (.l (.v (.string s)))) (strOf_bytes [2, UInt8.ofNat (bestT t)])))
    | (exact Le.of (congrArg (fun s => SV.c (.l (.v (.string s)))) (strOf_bytes [1])))
    | (exact Le.of (congrArg (fun s => SV.c (.l (.v (.string s)))) (strOf_bytes [0])))
    | (exact Le.of (by rw [blobT_2 (by with_reducible assumption : solT t = false) (by with_reducible assumption : decide (((codT t).size : Int) < 257) = true)]))
    | (exact Le.of (by rw [blobT_3 (by with_reducible assumption : solT t = false) (by with_reducible assumption : decide (((codT t).size : Int) < 257) = false)]))
    | (exact Le.of (by rw [bytesT_lsB]))
    | ((rw [IntKind.max_i64]; have e0 : (⟨#[0]⟩ : ByteArray).size = 1 := rfl; have e4 : (⟨#[t 0, t 1, t 2, t 3]⟩ : ByteArray).size = 4 := rfl; have e2 : (⟨#[2, UInt8.ofNat (bestT t)]⟩ : ByteArray).size = 2 := rfl; have e1 : (⟨#[1]⟩ : ByteArray).size = 1 := rfl; omega))
    | (exact okw _ (by omega) (by omega))
    | (exact Le.of rfl)
    | (exact BkR.of rfl)
    | (unfold SlOK; omega)
    | (unfold SlOK; decide)
    | (unfold inByte; decide)
    | (simp only [*, Bool.and_self, Bool.not_false, Bool.not_true]; done)
    | (simp_all [wants]; done)
end Ab
end Go.Proofs.YtpdckpifhniioaaGreat
end
