/- Walks of predict: the predict claims' texts, turned to this seat by genPort.py. -/
import Derived.Test.YtpdckpifhniioaaProg
import Derived.Test.YtpdckpifhniioaaPrM
import Derived.WalkKit
import Derived.WalkLawsBesides
import Derived.WalkSpells
import Derived.Lib.Hide
import Derived.Laws.IdiomStrings
import Derived.BigQuiet
import Derived.Deep.Light
import Derived.Deep.QuietTactic
import Derived.Deep.OwnRows
set_option linter.unusedVariables false
set_option linter.unusedSimpArgs false
namespace Go.Proofs.Ytpdckpifhniioaa.Prd
open Go.RowKit
open Go.Proofs.Ytpdckpifhniioaa
section

theorem ret_int {k : IntKind} {a b : Int} (h : a = b) : Ending.returned (.int k a) = .returned (.int k b) := by rw [h]
theorem ret_bool {a b : Bool} (h : a = b) : Ending.returned (.bool a) = .returned (.bool b) := by rw [h]
theorem ret_str {a b : ByteArray} (h : a = b) : Ending.returned (.string a) = .returned (.string b) := by rw [h]

/-- The cells of a list of bytes. -/
def bcells (l : List UInt8) : Array Value := (l.map fun b => Value.int .u8 (b.toNat : Int)).toArray
theorem bcells_size (l : List UInt8) : (bcells l).size = l.length := by simp [bcells]
theorem bcells_at (l : List UInt8) (i : Nat) (h : i < l.length) : (bcells l)[i]? = some (.int .u8 (l[i].toNat : Int)) := by
  simp [bcells, List.getElem?_eq_getElem h]

section
variable {P : Program}
/-- 'string(b)' of a window of a block of bytes. -/
theorem conv_row (w : World) (src dst e : TypeId) (hs : P.underlying src = some (.slice e)) (he : P.underlying e = some (.int .u8)) (hd : P.underlying dst = some .string)
    (g : Nat) (t : TypeId) (fr : Nat × Nat) (C : Array Value) (hg : w.heap[g]? = some (.cells C t fr)) (k n cap : Nat) (l : List UInt8) (hn : l.length = n)
    (hl : ∀ j (h : j < l.length), C[k + j]? = some (.int .u8 (l[j].toNat : Int))) :
    (convert src dst (.slice (some ⟨g, k, none⟩) n cap)).run P w = .ok (.string ⟨l.toArray⟩) w := by
  subst hn
  refine run_convert_bytes_back w src dst e _ cap l hs he hd fun j hj => ?_
  have : (⟨g, k, none⟩ : Addr).add j = ⟨g, k + j, none⟩ := by unfold Addr.add; split <;> simp_all
  rw [this]
  unfold World.cell?
  rw [hg]
  simpa using hl j hj

/-- 'string(b)' of the nil slice, or of one without elements. -/
theorem conv_none (w : World) (src dst e : TypeId) (hs : P.underlying src = some (.slice e)) (he : P.underlying e = some (.int .u8)) (hd : P.underlying dst = some .string) (a : Addr) (cap : Nat) :
    (convert src dst (.slice (some a) 0 cap)).run P w = .ok (.string ⟨#[]⟩) w := by
  have := run_convert_bytes_back w src dst e a cap [] hs he hd (fun j hj => by simp at hj)
  simpa using this
end

/-- The one-cell values of a list of bytes. -/
def bvals (l : List UInt8) : List Value := l.map fun b => Value.int .u8 (b.toNat : Int)
theorem bvals_length (l : List UInt8) : (bvals l).length = l.length := by simp [bvals]
theorem bvals_append (l m : List UInt8) : bvals (l ++ m) = bvals l ++ bvals m := by simp [bvals]

section
variable {P : Program}
/-- 'v = append(v, u)' of one value of one cell, v nil or of the call's own. -/
theorem wp_push {ops : Array Oper} {rest : List Oper} {o : Oper} {a : Act} {Q : Exit → Act → World → Prop} (w : World) (hgd : o.guard = none) (s x : Operand) (t e : TypeId)
    (ho : o.op = .call { callee := .builtin .append, args := #[s, x], argTypes := #[t, t] }) (ht : P.underlying t = some (.slice e))
    (z : Value) (bytes : Nat) (hinfo : (P.info? e).map (fun i => (i.zero, i.size, i.bytes)) = some (some z, 1, bytes)) (hz : z.cells.size = 1)
    (base : Nat) (v : Value) (n : Nat) (xs : List Value) (hs : a.eval s = v) (hown : w.ownsRow base e 1 v n xs)
    (u : Value) (fr : Nat × Nat) (hx : a.eval x = .slice (some ⟨w.heap.size, 0, none⟩) 1 1) (hu : u.oneCell' = true)
    (hlen : n + 1 ≤ 1000000000) (hby : bytes ≤ 64) (hbase : base ≤ w.heap.size)
    (h : ∀ v' w', w'.ownsRow base e 1 v' (n + 1) (xs ++ [u]) → v' ≠ .slice none 0 0 → Below base w w' → w.heap.size < w'.heap.size → wpList P ops Q rest (a.put o.dst v') w') :
    wpList P ops Q (o :: rest) a (w.alloc (.cells #[u] e fr)) := by
  obtain ⟨i0, hi, hz0, hz1, hz2⟩ := info_parts hinfo
  refine wpList_append_own _ hgd s x t ho base e i0 z 1 bytes ht hi hz0 hz1 hz2 hz (by decide) v n xs hs (hown.alloc _) ⟨w.heap.size, 0, none⟩ 1 1 [u] hx rfl ?_ ?_ ?_ ?_ ?_ ?_
  · intro j u' hj
    match j, hj with
    | 0, hj =>
      simp at hj
      subst hj
      have : (⟨w.heap.size, 0, none⟩ : Addr).add 0 = ⟨w.heap.size, 0, none⟩ := by unfold Addr.add; split <;> simp_all
      rw [this, World.cell?_alloc_mark]; rfl
  · intro u' h'
    simp at h'
    subst h'; exact hu
  · unfold maxLen; omega
  · exact Nat.le_trans (Nat.mul_le_mul hlen hby) (by omega)
  · rw [World.size_alloc]; omega
  · intro v' w' hown' hg hnil
    have hsz := hg.size
    rw [World.size_alloc] at hsz
    refine h v' w' hown' (fun hv => by have := (hnil.1 hv).2; omega) ?_ (by omega)
    refine ((Below.refl base w).alloc hbase _).grown hg (by rw [World.size_alloc]; omega) fun k hk => ?_
    exact (hown.lt k hk).1

/-- 'string(b)' of a slice of the call's own. -/
theorem conv_own (w : World) (src dst e : TypeId) (hs : P.underlying src = some (.slice e)) (he : P.underlying e = some (.int .u8)) (hd : P.underlying dst = some .string)
    (base : Nat) (v : Value) (n : Nat) (l : List UInt8) (hown : w.ownsRow base e 1 v n (bvals l)) : (convert src dst v).run P w = .ok (.string ⟨l.toArray⟩) w := by
  have hl : l.length = n := by have := hown.1; rw [bvals_length] at this; omega
  rcases hown.2 with ⟨rfl, h0⟩ | ⟨g, cap, cur, rfl, _, hg, hnc, _, hsz, htk⟩
  · subst h0
    have : l = [] := List.eq_nil_of_length_eq_zero hl
    subst this
    rw [run_convert_bytes_string w src dst e none 0 0 hs he hd]
    simp [Conv.bytesToString]
    rfl
  · refine conv_row w src dst e hs he hd g e _ cur hg 0 n cap l hl fun j hj => ?_
    have h1 : (cur.toList.take (n * 1))[j]? = (bvals l)[j]? := by rw [htk]
    rw [List.getElem?_take, if_pos (by omega)] at h1
    rw [Nat.zero_add, ← Array.getElem?_toList, h1]
    simp [bvals, List.getElem?_eq_getElem hj]
end

theorem bcell {W w1 : World} (hb : Below W.heap.size W w1) : (∀ b o, b < W.heap.size → w1.cell? ⟨b, o, none⟩ = W.cell? ⟨b, o, none⟩) ∧ (∀ b o, b < W.heap.size → w1.frozen? ⟨b, o, none⟩ = W.frozen? ⟨b, o, none⟩) :=
  ⟨fun b o h => hb.cell (p := ⟨b, o, none⟩) h, fun b o h => hb.frozen (p := ⟨b, o, none⟩) h⟩

/-- n as 64 bits without a sign. -/
def u64 (n : Int) : Nat := (n % 18446744073709551616).toNat
theorem u64_eq (n : Int) : IntKind.u64.wrap n = ((u64 n : Nat) : Int) := by rw [IntKind.wrap_u64]; unfold u64; omega
theorem u64_lt (n : Int) : u64 n < 18446744073709551616 := by unfold u64; omega

theorem str_toList (l : List UInt8) : (⟨l.toArray⟩ : ByteArray).toList = l := by
  rw [ByteArray.toList_eq]
theorem str_size (l : List UInt8) : (⟨l.toArray⟩ : ByteArray).size = l.length := by
  simp [ByteArray.size]
theorem str_append (l m : List UInt8) : (⟨l.toArray⟩ : ByteArray) ++ ⟨m.toArray⟩ = ⟨(l ++ m).toArray⟩ := by
  apply ByteArray.ext; simp
theorem str_mk (s : ByteArray) : (⟨s.data.toList.toArray⟩ : ByteArray) = s := by
  apply ByteArray.ext; simp
end
section

theorem bt {w w1 w2 : World} (h : Below w.heap.size w w1) (k : Below w1.heap.size w1 w2) : Below w.heap.size w w2 := h.trans (k.mono h.size)

theorem lt_of_heap {w : World} {b : Nat} {o : Obj} (h : w.heap[b]? = some o) : b < w.heap.size := by
  rcases Nat.lt_or_ge b w.heap.size with h' | h'
  · exact h'
  · rw [Array.getElem?_eq_none h'] at h; simp at h
/-- The cells of l lie in block g from its head on. -/
def Lie (g : Nat) (l : List UInt8) (w : World) : Prop := ∀ j (h : j < l.length), w.cell? ⟨g, j, none⟩ = some (.int .u8 (l[j].toNat : Int))

theorem bytes_lie (x : World) (s : ByteArray) (cap : Nat) (fr : Nat × Nat) : Lie x.heap.size s.data.toList (x.alloc (.cells (bytesRow s cap) 5 fr)) := by
  intro j hj
  rw [World.cell?_alloc_mark, bytesRow_at s cap j (by simpa using hj)]
  rfl
theorem bytesRow_size (s : ByteArray) (cap : Nat) (h : s.size ≤ cap) : (bytesRow s cap).size = cap := by
  unfold bytesRow
  rw [Array.size_append, Array.size_map, Array.size_replicate]
  show s.size + _ = _
  omega
theorem bytes_free (x : World) (s : ByteArray) (cap j : Nat) (h : s.size ≤ cap) (hj : j < cap) :
    (x.alloc (.cells (bytesRow s cap) 5 ((bytesRow s cap).size, (bytesRow s cap).size + 1))).frozen? ⟨x.heap.size, j, none⟩ = false := by
  rw [World.frozen?_alloc_mark, bytesRow_size s cap h]
  simp; omega
theorem bytes_some (x : World) (s : ByteArray) (cap j : Nat) (fr : Nat × Nat) (h : s.size ≤ cap) (hj : j < cap) :
    ((x.alloc (.cells (bytesRow s cap) 5 fr)).cell? ⟨x.heap.size, j, none⟩).isSome = true := by
  rw [World.cell?_alloc_mark, Array.getElem?_eq_getElem (by rw [bytesRow_size s cap h]; exact hj)]; rfl

theorem Lie.set {g : Nat} {l : List UInt8} {w : World} (h : Lie g l w) (i : Nat) (hi : i < l.length) (b : UInt8) : Lie g (l.set i b) (w.setCell ⟨g, i, none⟩ (.int .u8 (b.toNat : Int))) := by
  intro j hj
  have hj' : j < l.length := by simpa using hj
  by_cases e : i = j
  · subst e
    rw [World.cell?_setCell_same _ _ _ (h i hi)]
    simp
  · rw [World.cell?_setCell_other _ _ _ _ (by intro e2; injection e2 with _ e3 _; exact e e3), h j hj', List.getElem_set_ne e]
theorem Lie.conv {g : Nat} {l : List UInt8} {w : World} (h : Lie g l w) (cap : Nat) : (convert 46 9 (.slice (some ⟨g, 0, none⟩) l.length cap)).run Try.prog w = .ok (.string ⟨l.toArray⟩) w := by
  refine run_convert_bytes_back (P := Try.prog) w 46 9 5 _ cap l Try.underlying46 Try.underlying5 Try.underlying9 fun j hj => ?_
  have : (⟨g, 0, none⟩ : Addr).add j = ⟨g, j, none⟩ := by unfold Addr.add; split <;> simp_all
  rw [this]; exact h j hj
theorem Lie.snoc {g : Nat} {l : List UInt8} {w : World} (h : Lie g l w) (b : UInt8) (hs : (w.cell? ⟨g, l.length, none⟩).isSome = true) : Lie g (l ++ [b]) (w.setCell ⟨g, l.length, none⟩ (.int .u8 (b.toNat : Int))) := by
  intro j hj
  by_cases e : j = l.length
  · subst e
    obtain ⟨u, hu⟩ := Option.isSome_iff_exists.1 hs
    rw [World.cell?_setCell_same _ _ _ hu]
    simp
  · have hj' : j < l.length := by simp at hj; omega
    rw [World.cell?_setCell_other _ _ _ _ (by intro e2; exact e (by simpa using e2.symm)), h j hj', List.getElem_append_left hj']
theorem Lie.alloc {g : Nat} {l : List UInt8} {w : World} (h : Lie g l w) (o : Obj) (hg : g < w.heap.size) : Lie g l (w.alloc o) := by
  intro j hj
  have hb := (Below.refl w.heap.size w).alloc (Nat.le_refl _) o
  rw [hb.cell (p := ⟨g, j, none⟩) hg]; exact h j hj
theorem Lie.vals {g : Nat} {l : List UInt8} {w : World} (h : Lie g l w) : ∀ j u, (bvals l)[j]? = some u → w.cell? ⟨g, 0 + j, none⟩ = some u := by
  intro j u hu
  have hj : j < l.length := by have := (List.getElem?_eq_some_iff.1 hu).1; simpa [bvals] using this
  rw [Nat.zero_add, h j hj]
  simp [bvals, List.getElem?_eq_getElem hj] at hu
  rw [hu]
/-- '[]byte(s)': what it leaves. -/
theorem conv_bytes (x : World) (s : ByteArray) : ∃ W cap, (convert 9 46 (.string s)).run Try.prog x = .ok (.slice (some ⟨x.heap.size, 0, none⟩) s.size cap) W ∧ s.size ≤ cap ∧ Lie x.heap.size s.data.toList W ∧
    (∀ j, j < cap → W.frozen? ⟨x.heap.size, j, none⟩ = false ∧ (W.cell? ⟨x.heap.size, j, none⟩).isSome = true) ∧ Below x.heap.size x W ∧ x.heap.size < W.heap.size := by
  have hg := grownCap_ge x s.size 0 5
  refine ⟨_, _, run_bytes_of_string (P := Try.prog) x 9 46 5 s Try.underlying9 Try.underlying46 Try.underlying5, hg, bytes_lie x.drew s _ _, fun j hj => ⟨bytes_free x.drew s _ j hg hj, bytes_some x.drew s _ j _ hg hj⟩, ?_, ?_⟩
  · exact ((Below.refl _ _).drew).alloc (Nat.le_refl _) _
  · rw [World.size_alloc]; exact Nat.lt_succ_self _
theorem grownCap_ge' (w : World) (n old : Nat) (e : TypeId) : n ≤ grownCap w n old e := grownCap_ge w n old e
section
variable {P : Program} {ops : Array Oper} {C : World → Prop} {Q : Act → Prop} {rest : List Oper} {o : Oper} {a : Act}
theorem q_val {K : Act → Prop} (h : ∃ v, (∀ x, C x → (execOp a.eval o).run P x = .ok (.value v) x) ∧ K (a.put o.dst v)) : o.quiet P a C K := by
  obtain ⟨v, h, k⟩ := h
  exact ⟨v, fun x hx => by unfold Oper.quietAt; rw [h x hx]; exact ⟨rfl, rfl⟩, k⟩
theorem q_call {K : Act → Prop} (f : FuncId) (h : ∃ args, (∀ x, C x → (execOp a.eval o).run P x = .ok (.enter f args) x) ∧
    ∃ v, (∀ x, C x → Calls P f args x fun e x' => e = .returned v ∧ C x') ∧ K (a.put o.dst v)) : o.quiet P a C K := by
  obtain ⟨args, h, v, hc, k⟩ := h
  exact ⟨v, fun x hx => by unfold Oper.quietAt; rw [h x hx]; exact ⟨rfl, hc x hx⟩, k⟩
theorem q_region {id : Nat} {Q : Exit → Act → World → Prop} {a : Act} {w : World} {l : List Oper} (hm : P.follows .mixedOrders = true) (hB : Region.lexB .any l.toArray = true) (hC : C w.drew)
    (h : wpQuiet P l.toArray C (fun a' => ∀ w', C w' → Q .normal a' w') l a) : (Code.region id l.toArray true).wp P Q a w :=
  wp_region_quiet hm hB hC (by simpa using h)
end
end
section

theorem half_nat (a : UInt8) : (a / 2).toNat = a.toNat / 2 := by rw [UInt8.toNat_div]; rfl
theorem e_swU (r b : UInt8) : ((r.toNat : Int) - (b.toNat : Int)) % 256 = ((M.swU r b).toNat : Int) := by
  have := r.toNat_lt; have := b.toNat_lt
  unfold M.swU
  rw [UInt8.toNat_sub]; omega
theorem e_swM (r b : UInt8) : ((b.toNat : Int) + ((r.toNat : Int) - (b.toNat : Int)) % 256 / 2) % 256 = ((M.swM r b).toNat : Int) := by
  have := r.toNat_lt; have := b.toNat_lt
  unfold M.swM
  rw [UInt8.toNat_add, half_nat, UInt8.toNat_sub]; omega
theorem e_swV (r g b : UInt8) : ((g.toNat : Int) - ((b.toNat : Int) + ((r.toNat : Int) - (b.toNat : Int)) % 256 / 2) % 256) % 256 = ((M.swV r g b).toNat : Int) := by
  rw [e_swM]
  have := g.toNat_lt; have := (M.swM r b).toNat_lt
  unfold M.swV
  rw [UInt8.toNat_sub]; omega
theorem e_swY (r g b : UInt8) : (((b.toNat : Int) + ((r.toNat : Int) - (b.toNat : Int)) % 256 / 2) % 256 + ((g.toNat : Int) - ((b.toNat : Int) + ((r.toNat : Int) - (b.toNat : Int)) % 256 / 2)) % 256 / 2) % 256 = ((M.swY r g b).toNat : Int) := by
  have h : ((g.toNat : Int) - ((b.toNat : Int) + ((r.toNat : Int) - (b.toNat : Int)) % 256 / 2)) % 256 = ((M.swV r g b).toNat : Int) := by rw [← e_swV]; omega
  rw [h, e_swM]
  have := (M.swV r g b).toNat_lt; have := (M.swM r b).toNat_lt
  unfold M.swY
  rw [UInt8.toNat_add, half_nat]; omega

set_option maxHeartbeats 400000 in
theorem swap_any (r g b : UInt8) (w : World) :
    Calls Try.prog 70 #[.int .u8 r.toNat, .int .u8 g.toNat, .int .u8 b.toNat] w fun e w' =>
      e = .returned (.tuple #[.int .u8 (M.swY r g b).toNat, .int .u8 (M.swU r b).toNat, .int .u8 (M.swV r g b).toNat]) ∧ w = w' := by
  go_enter Try.func70, Try.ntmps70
  go_wp2
  go_ret3
  exact ⟨by rw [← e_swY, ← e_swU, ← e_swV]; rfl, rfl⟩

theorem e_bkM (y v : UInt8) : ((y.toNat : Int) - (v.toNat : Int) / 2) % 256 = ((M.bkM y v).toNat : Int) := by
  have := y.toNat_lt; have := v.toNat_lt
  unfold M.bkM
  rw [UInt8.toNat_sub, half_nat]; omega
theorem e_bkB (y u v : UInt8) : (((y.toNat : Int) - (v.toNat : Int) / 2) % 256 - (u.toNat : Int) / 2) % 256 = ((M.bkB y u v).toNat : Int) := by
  rw [e_bkM]
  have := (M.bkM y v).toNat_lt; have := u.toNat_lt
  unfold M.bkB
  rw [UInt8.toNat_sub, half_nat]; omega
theorem e_bkR (y u v : UInt8) : ((((y.toNat : Int) - (v.toNat : Int) / 2 - (u.toNat : Int) / 2) % 256 + (u.toNat : Int)) % 256) = ((M.bkR y u v).toNat : Int) := by
  have h : ((y.toNat : Int) - (v.toNat : Int) / 2 - (u.toNat : Int) / 2) % 256 = ((M.bkB y u v).toNat : Int) := by rw [← e_bkB]; omega
  rw [h]
  have := (M.bkB y u v).toNat_lt; have := u.toNat_lt
  unfold M.bkR
  rw [UInt8.toNat_add]; omega
theorem e_bkG (y v : UInt8) : ((v.toNat : Int) + ((y.toNat : Int) - (v.toNat : Int) / 2) % 256) % 256 = ((M.bkG y v).toNat : Int) := by
  rw [e_bkM]
  have := (M.bkM y v).toNat_lt; have := v.toNat_lt
  unfold M.bkG
  rw [UInt8.toNat_add]; omega
theorem e_swY2 (r g b : UInt8) : ((b.toNat : Int) + ((r.toNat : Int) - (b.toNat : Int)) % 256 / 2 + ((g.toNat : Int) - ((b.toNat : Int) + ((r.toNat : Int) - (b.toNat : Int)) % 256 / 2)) % 256 / 2) % 256 = ((M.swY r g b).toNat : Int) := by
  rw [← e_swY]; omega

theorem fn1 (l u c : Int) (w : World) : Calls Try.prog 86 #[.int .i64 l, .int .i64 u, .int .i64 c] w fun e w' => e = .returned (.int .i64 0) ∧ w = w' := by
  go_enter Try.func86, Try.ntmps86
  go_wp2
  go_ret
  exact ⟨rfl, rfl⟩
theorem fn2 (l u c : Int) (w : World) : Calls Try.prog 87 #[.int .i64 l, .int .i64 u, .int .i64 c] w fun e w' => e = .returned (.int .i64 l) ∧ w = w' := by
  go_enter Try.func87, Try.ntmps87
  go_wp2
  go_ret
  exact ⟨rfl, rfl⟩
theorem fn3 (l u c : Int) (w : World) : Calls Try.prog 88 #[.int .i64 l, .int .i64 u, .int .i64 c] w fun e w' => e = .returned (.int .i64 u) ∧ w = w' := by
  go_enter Try.func88, Try.ntmps88
  go_wp2
  go_ret
  exact ⟨rfl, rfl⟩
theorem fn4 (l u c : Int) (w : World) (hl : 0 ≤ l ∧ l ≤ 255) (hu : 0 ≤ u ∧ u ≤ 255) : Calls Try.prog 89 #[.int .i64 l, .int .i64 u, .int .i64 c] w fun e w' => e = .returned (.int .i64 ((l + u) / 2)) ∧ w = w' := by
  obtain ⟨l0, l1⟩ := hl
  obtain ⟨u0, u1⟩ := hu
  go_enter Try.func89, Try.ntmps89
  go_wp2
  go_ret
  exact ⟨rfl, rfl⟩
theorem fn6 (l u c : Int) (w : World) (hl : 0 ≤ l ∧ l ≤ 255) (hu : 0 ≤ u ∧ u ≤ 255) (hc : 0 ≤ c ∧ c ≤ 255) : Calls Try.prog 91 #[.int .i64 l, .int .i64 u, .int .i64 c] w fun e w' => e = .returned (.int .i64 (M.median l u c)) ∧ w = w' := by
  obtain ⟨l0, l1⟩ := hl
  obtain ⟨u0, u1⟩ := hu
  obtain ⟨c0, c1⟩ := hc
  go_enter Try.func91, Try.ntmps91
  go_wp2
  all_goals
    go_ret
    exact ⟨ret_int (by unfold M.median; (repeat split at *) <;> omega), rfl⟩
end
section
theorem dist_lt (l u c x : Int) (hl : 0 ≤ l ∧ l ≤ 255) (hu : 0 ≤ u ∧ u ≤ 255) (hc : 0 ≤ c ∧ c ≤ 255) (hx : 0 ≤ x ∧ x ≤ 255) : M.dist l u c x < 1073741824 := by unfold M.dist; omega
set_option maxHeartbeats 400000 in
theorem fn5 (l u c : Int) (w : World) (hl : 0 ≤ l ∧ l ≤ 255) (hu : 0 ≤ u ∧ u ≤ 255) (hc : 0 ≤ c ∧ c ≤ 255) : Calls Try.prog 90 #[.int .i64 l, .int .i64 u, .int .i64 c] w fun e w' => e = .returned (.int .i64 (M.paeth l u c)) ∧ w = w' := by
  obtain ⟨l0, l1⟩ := hl
  obtain ⟨u0, u1⟩ := hu
  obtain ⟨c0, c1⟩ := hc
  go_enter Try.func90, Try.ntmps90
  have i0 : ∀ w, (Instr.index 151 (.agg #[.int .i64 l, .int .i64 u, .int .i64 c]) (.int .i64 0)).run Try.prog w = .ok (.int .i64 l) w := fun _ => by kernel_rfl
  have i1 : ∀ w, (Instr.index 151 (.agg #[.int .i64 l, .int .i64 u, .int .i64 c]) (.int .i64 1)).run Try.prog w = .ok (.int .i64 u) w := fun _ => by kernel_rfl
  have i2 : ∀ w, (Instr.index 151 (.agg #[.int .i64 l, .int .i64 u, .int .i64 c]) (.int .i64 2)).run Try.prog w = .ok (.int .i64 c) w := fun _ => by kernel_rfl
  go_wp2
  refine wp_loop_rounds 4 ?_
  iterate 4 (any_goals (rw [rounds_succ]; go_wp2_with fail))
  all_goals
    go_ret
    refine ⟨ret_int ?_, rfl⟩
    clear i0 i1 i2
    go_light
    unfold M.paeth M.dist
    (repeat split at *) <;> omega
end
section

/-- The cells of the table of predictors. -/
def prC : Array Value := #[.string ⟨#[110, 111, 110, 101]⟩, .func (.func 86) #[] #[], .string ⟨#[108, 101, 102, 116]⟩, .func (.func 87) #[] #[], .string ⟨#[117, 112]⟩, .func (.func 88) #[] #[],
  .string ⟨#[97, 118, 101, 114, 97, 103, 101]⟩, .func (.func 89) #[] #[], .string ⟨#[112, 97, 101, 116, 104]⟩, .func (.func 90) #[] #[], .string ⟨#[109, 101, 100, 105, 97, 110, 32, 101, 100, 103, 101]⟩, .func (.func 91) #[] #[]]
theorem prC_at (k : Nat) (h : k < 6) : prC[k * 2 + 1]? = some (.func (.func (86 + k)) #[] #[]) := by
  match k, h with
  | 0, _ => rfl
  | 1, _ => rfl
  | 2, _ => rfl
  | 3, _ => rfl
  | 4, _ => rfl
  | 5, _ => rfl
theorem enter_fn (k : Nat) (h : k < 6) (args : Array Value) (w : World) : (callFunc (86 + k) args).run Try.prog w = .ok (.enter (86 + k) args) w := by
  match k, h with
  | 0, _ => show (callFunc 86 args).run Try.prog w = .ok (.enter 86 args) w; simp [callFunc, go_sem, Try.func86]; rfl
  | 1, _ => show (callFunc 87 args).run Try.prog w = .ok (.enter 87 args) w; simp [callFunc, go_sem, Try.func87]; rfl
  | 2, _ => show (callFunc 88 args).run Try.prog w = .ok (.enter 88 args) w; simp [callFunc, go_sem, Try.func88]; rfl
  | 3, _ => show (callFunc 89 args).run Try.prog w = .ok (.enter 89 args) w; simp [callFunc, go_sem, Try.func89]; rfl
  | 4, _ => show (callFunc 90 args).run Try.prog w = .ok (.enter 90 args) w; simp [callFunc, go_sem, Try.func90]; rfl
  | 5, _ => show (callFunc 91 args).run Try.prog w = .ok (.enter 91 args) w; simp [callFunc, go_sem, Try.func91]; rfl

theorem fn_any (k : Nat) (h : k < 6) (l u c : Int) (w : World) (hl : 0 ≤ l ∧ l ≤ 255) (hu : 0 ≤ u ∧ u ≤ 255) (hc : 0 ≤ c ∧ c ≤ 255) :
    Calls Try.prog (86 + k) #[.int .i64 l, .int .i64 u, .int .i64 c] w fun e w' => e = .returned (.int .i64 (M.pred k l u c)) ∧ w = w' := by
  match k, h with
  | 0, _ => exact fn1 l u c w
  | 1, _ => exact fn2 l u c w
  | 2, _ => exact fn3 l u c w
  | 3, _ => exact fn4 l u c w hl hu
  | 4, _ => exact fn5 l u c w hl hu hc
  | 5, _ => exact fn6 l u c w hl hu hc

theorem predictors_any (w : World) : Calls Try.prog 71 #[] w fun e w' => e = .returned (.slice (some ⟨w.heap.size, 0, none⟩) 6 6) ∧ w.alloc (.cells prC 128) = w' := by
  go_enter Try.func71, Try.ntmps71
  go_wp2
  go_ret
  exact ⟨rfl, rfl⟩
theorem Predictors_any (w : World) : Calls Try.prog 68 #[] w fun e w' => e = .returned (.int .i64 6) ∧ Below w.heap.size w w' := by
  go_enter Try.func68, Try.ntmps68
  go_wp2_with fail
  refine (predictors_any _).mono ?_
  rintro e w' ⟨rfl, rfl⟩
  go_wp2_with fail
  go_ret
  exact ⟨rfl, (Below.refl _ _).alloc (Nat.le_refl _) _⟩

theorem at_any (b o g : Nat) (x : UInt8) (i : Nat) (hi : i < 64) (w : World) (hg : w.cell? ⟨g, 0, none⟩ = some (.pointer (some ⟨b, o, none⟩))) (hp : w.cell? ⟨b, o + i, none⟩ = some (.int .u8 x.toNat)) :
    Calls Try.prog 92 #[.int .i64 i, .pointer (some ⟨g, 0, none⟩)] w fun e w' => e = .returned (.int .i64 x.toNat) ∧ w = w' := by
  have hx := x.toNat_lt
  go_enter Try.func92, Try.ntmps92
  go_wp2_with fail
  go_ret
  exact ⟨rfl, rfl⟩

theorem at_new (b o : Nat) (p : Nat → UInt8) (m : Nat) (n : Int) (hn : n = (m : Int)) (hm : m < 64) (w : World) (hb : b < w.heap.size) (hp : w.cell? ⟨b, o + m, none⟩ = some (.int .u8 (p m).toNat)) :
    Calls Try.prog 92 #[.int .i64 n, .pointer (some ⟨w.heap.size, 0, none⟩)] (w.alloc (.cells #[.pointer (some ⟨b, o, none⟩)] 142)) fun e w' => e = .returned (.int .i64 (p m).toNat) ∧ w.alloc (.cells #[.pointer (some ⟨b, o, none⟩)] 142) = w' := by
  subst hn
  refine at_any b o w.heap.size (p m) m hm _ ?_ ?_
  · rw [World.cell?_alloc_mark]; rfl
  · rw [((Below.refl w.heap.size w).alloc (Nat.le_refl _) _).cell (p := ⟨b, o + m, none⟩) hb]; exact hp
theorem gi0 (k : Nat) (hk : k < 6) (p : Nat → UInt8) (w : World) : Calls Try.prog (86 + k) #[.int .i64 0, .int .i64 0, .int .i64 0] w fun e w' => e = .returned (.int .i64 (M.gi k p 0)) ∧ w = w' :=
  fn_any k hk 0 0 0 w M.zero_in M.zero_in M.zero_in
theorem gi1 (k : Nat) (hk : k < 6) (p : Nat → UInt8) (i : Nat) (h0 : ¬ i = 0) (h8 : i < 8) (w : World) : Calls Try.prog (86 + k) #[.int .i64 (p (i - 1)).toNat, .int .i64 (p (i - 1)).toNat, .int .i64 (p (i - 1)).toNat] w fun e w' => e = .returned (.int .i64 (M.gi k p i)) ∧ w = w' := by
  have h := fn_any k hk _ _ _ w (M.byte_in (p (i - 1))) (M.byte_in (p (i - 1))) (M.byte_in (p (i - 1)))
  have e : M.pred k (p (i - 1)).toNat (p (i - 1)).toNat (p (i - 1)).toNat = M.gi k p i := by unfold M.gi M.nbL M.nbU M.nbC; simp only [h0, h8, if_true, if_false]
  rwa [e] at h
theorem gi2 (k : Nat) (hk : k < 6) (p : Nat → UInt8) (i : Nat) (h8 : ¬ i < 8) (hm : i % 8 = 0) (w : World) : Calls Try.prog (86 + k) #[.int .i64 (p (i - 8)).toNat, .int .i64 (p (i - 8)).toNat, .int .i64 (p (i - 8)).toNat] w fun e w' => e = .returned (.int .i64 (M.gi k p i)) ∧ w = w' := by
  have h := fn_any k hk _ _ _ w (M.byte_in (p (i - 8))) (M.byte_in (p (i - 8))) (M.byte_in (p (i - 8)))
  have h0 : ¬ i = 0 := by omega
  have e : M.pred k (p (i - 8)).toNat (p (i - 8)).toNat (p (i - 8)).toNat = M.gi k p i := by unfold M.gi M.nbL M.nbU M.nbC; simp only [h0, h8, hm, if_true, if_false]
  rwa [e] at h
theorem gi3 (k : Nat) (hk : k < 6) (p : Nat → UInt8) (i : Nat) (h8 : ¬ i < 8) (hm : ¬ i % 8 = 0) (w : World) : Calls Try.prog (86 + k) #[.int .i64 (p (i - 1)).toNat, .int .i64 (p (i - 8)).toNat, .int .i64 (p (i - 9)).toNat] w fun e w' => e = .returned (.int .i64 (M.gi k p i)) ∧ w = w' := by
  have h := fn_any k hk _ _ _ w (M.byte_in (p (i - 1))) (M.byte_in (p (i - 8))) (M.byte_in (p (i - 9)))
  have h0 : ¬ i = 0 := by omega
  have e : M.pred k (p (i - 1)).toNat (p (i - 8)).toNat (p (i - 9)).toNat = M.gi k p i := by unfold M.gi M.nbL M.nbU M.nbC; simp only [h0, h8, hm, if_false]
  rwa [e] at h

set_option maxRecDepth 100000 in
set_option maxHeartbeats 800000 in
theorem guess_any (k : Nat) (hk : k < 6) (b o : Nat) (p : Nat → UInt8) (i : Nat) (hi : i < 64) (w : World) (hb : b < w.heap.size) (hp : ∀ m, m < i → w.cell? ⟨b, o + m, none⟩ = some (.int .u8 (p m).toNat)) :
    Calls Try.prog 72 #[.pointer (some ⟨b, o, none⟩), .int .i64 i, .func (.func (86 + k)) #[] #[]] w fun e w' => e = .returned (.int .u8 (M.gs k p i).toNat) ∧ Below w.heap.size w w' := by
  have hgv := M.gs_val k p i
  have hgi := M.gi_in k p i
  unfold M.InB at hgi
  obtain ⟨hg0, hg1⟩ := hgi
  have HG := Lib.hid hgv
  clear hgv
  have HP := Lib.hid hp
  clear hp
  have ef := enter_fn k hk
  by_cases h0 : i = 0
  · subst h0
    go_enter Try.func72, Try.ntmps72
    go_wp2_with fail
    refine (gi0 k hk p _).mono ?_
    rintro e w' ⟨rfl, rfl⟩
    go_wp2_with fail
    go_ret
    exact ⟨ret_int HG.out.symm, (Below.refl _ _).alloc (Nat.le_refl _) _⟩
  · by_cases h8 : i < 8
    · go_enter Try.func72, Try.ntmps72
      go_wp2_with fail
      refine (at_new b o p (i - 1) _ (by omega) (by omega) w hb (HP.out _ (by omega))).mono ?_
      rintro e w' ⟨rfl, rfl⟩
      go_wp2_with fail
      refine (at_new b o p (i - 1) _ (by omega) (by omega) w hb (HP.out _ (by omega))).mono ?_
      rintro e w' ⟨rfl, rfl⟩
      go_wp2_with fail
      refine (at_new b o p (i - 1) _ (by omega) (by omega) w hb (HP.out _ (by omega))).mono ?_
      rintro e w' ⟨rfl, rfl⟩
      go_wp2_with fail
      refine (gi1 k hk p i h0 h8 _).mono ?_
      rintro e w' ⟨rfl, rfl⟩
      go_wp2_with fail
      go_ret
      exact ⟨ret_int HG.out.symm, (Below.refl _ _).alloc (Nat.le_refl _) _⟩
    · by_cases hm : i % 8 = 0
      · have hm8 : (i : Int) % 8 = 0 := by omega
        go_enter Try.func72, Try.ntmps72
        go_wp2_with fail
        refine (at_new b o p (i - 8) _ (by omega) (by omega) w hb (HP.out _ (by omega))).mono ?_
        rintro e w' ⟨rfl, rfl⟩
        go_wp2_with fail
        refine (gi2 k hk p i h8 hm _).mono ?_
        rintro e w' ⟨rfl, rfl⟩
        go_wp2_with fail
        go_ret
        exact ⟨ret_int HG.out.symm, (Below.refl _ _).alloc (Nat.le_refl _) _⟩
      · have hm8 : ((i : Int) % 8 == 0) = false := by simp; omega
        go_enter Try.func72, Try.ntmps72
        go_wp2_with fail
        refine (at_new b o p (i - 1) _ (by omega) (by omega) w hb (HP.out _ (by omega))).mono ?_
        rintro e w' ⟨rfl, rfl⟩
        go_wp2_with fail
        refine (at_new b o p (i - 8) _ (by omega) (by omega) w hb (HP.out _ (by omega))).mono ?_
        rintro e w' ⟨rfl, rfl⟩
        go_wp2_with fail
        refine (at_new b o p (i - 9) _ (by omega) (by omega) w hb (HP.out _ (by omega))).mono ?_
        rintro e w' ⟨rfl, rfl⟩
        go_wp2_with fail
        refine (gi3 k hk p i h8 hm _).mono ?_
        rintro e w' ⟨rfl, rfl⟩
        go_wp2_with fail
        go_ret
        exact ⟨ret_int HG.out.symm, (Below.refl _ _).alloc (Nat.le_refl _) _⟩
end
section

theorem take_snoc (t : ByteArray) (j : Nat) (h : j < t.size) : t.data.toList.take (j + 1) = t.data.toList.take j ++ [t.data[j]] := by
  rw [List.take_add_one, List.getElem?_eq_getElem (by simpa using h)]; simp
theorem cost_snoc (t : ByteArray) (j : Nat) (h : j < t.size) : M.cost (t.data.toList.take (j + 1)) = M.cost (t.data.toList.take j) + M.cb t.data[j] := by
  rw [take_snoc t j h, M.cost_append]; simp [M.cost]
theorem cost_take_le (t : ByteArray) (j : Nat) : M.cost (t.data.toList.take j) ≤ 128 * j := by
  have := M.cost_le (t.data.toList.take j)
  have : (t.data.toList.take j).length ≤ j := List.length_take_le _ _
  omega

theorem cb_go (n : Nat) (b : UInt8) (h : n ≤ 1000000000000000000) : wrap64 ((n : Int) + (if wrap64 (256 - wrap64 (b.toNat : Int)) < wrap64 (b.toNat : Int) then wrap64 (256 - wrap64 (b.toNat : Int)) else wrap64 (b.toNat : Int))) = ((n + M.cb b : Nat) : Int) := by
  have := b.toNat_lt
  rw [IntWalk.wrap64_in (b.toNat : Int) ⟨by omega, by omega⟩, IntWalk.wrap64_in (256 - (b.toNat : Int)) ⟨by omega, by omega⟩]
  unfold M.cb
  split
  · rw [IntWalk.wrap64_in _ ⟨by omega, by omega⟩]; omega
  · rw [IntWalk.wrap64_in _ ⟨by omega, by omega⟩]; omega
set_option maxRecDepth 100000 in
set_option maxHeartbeats 400000 in
theorem cost_any (t : ByteArray) (w : World) (hs : t.size ≤ 1000000000000000) (c : Int) (hc : c = (M.cost t.data.toList : Nat)) :
    Calls Try.prog 69 #[.string t] w fun e w' => e = .returned (.int .i64 c) ∧ Below w.heap.size w w' := by
  have HC := Lib.hid hc
  clear hc
  obtain ⟨W1, cap, hcb, hcap, hlie, hfree, hbW, hgW⟩ := conv_bytes w t
  go_enter Try.func69, Try.ntmps69
  go_wp2_with fail
  clear hcb
  have hlen : t.data.toList.length = t.size := Array.length_toList
  clear hfree hgW
  go_loopw [3, 9] (fun a i wr => ∃ j : Nat, j ≤ t.size ∧ i = .int .i64 j ∧ a = .int .i64 ((M.cost (t.data.toList.take j) : Nat) : Int) ∧ Hid (wr = W1)) (fun a i _ => t.size - (intOf i).toNat)
  case atStart => exact ⟨0, Nat.zero_le _, rfl, by rw [List.take_zero]; rfl, rfl⟩
  case round =>
    obtain ⟨j, hj, rfl, rfl, HW⟩ := hrel
    have hle := cost_take_le t j
    by_cases hlt : j < t.size
    · have hi : j < t.data.toList.length := by omega
      have f1 := hlie j hi
      rw [← HW.out] at f1
      have hb := (t.data.toList[j]).toNat_lt
      have hsn := Lib.hid (cost_snoc t j hlt)
      go_wp2_with fail
      all_goals
        go_roundw
        case rel =>
          refine ⟨j + 1, by omega, by go_num, ?_, HW⟩
          rw [hsn.out]
          exact congrArg (Value.int .i64) (cb_go _ _ (by omega))
        case measure => simp [intOf]; omega
    · go_wp2_with fail
      go_ret
      have hje : j = t.size := by omega
      rw [List.take_of_length_le (by omega)]
      rw [HW.out, HC.out]
      exact ⟨rfl, hbW⟩


theorem zeros_cells (n : Nat) : ∀ j (h : j < (List.replicate n (0 : UInt8)).length), (madeCells #[Value.int .u8 0] n)[0 + j]? = some (.int .u8 (((List.replicate n (0 : UInt8))[j]).toNat : Int)) := by
  intro j h
  simp at h
  simp [madeCells, h]
  rw [Nat.mod_one]; rfl
theorem Try.info5 : (Try.prog.info? 5).map (fun i => (i.zero, i.size, i.bytes)) = some (some (.int .u8 0), 1, 1) := by kernel_rfl

end
end Go.Proofs.Ytpdckpifhniioaa.Prd
