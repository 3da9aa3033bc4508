/- General lemmas on worlds, bytes in blocks and conversions between byte slices and strings; no function of the program is in sight. -/
import Derived.Test.YtmfmnoajihiidaaProg
import Derived.WalkKit
import Derived.WalkLawsBesides
import Derived.WalkSpells
import Derived.Lib.Hide
import Derived.Laws.IdiomStrings
namespace Go.Proofs.Ytmfmnoajihiidaa
open Go.RowKit

theorem ret_int {k : IntKind} {a b : Int} (h : a = b) : Ending.returned (.int k a) = .returned (.int k b) := by rw [h]
theorem ret_bool {a b : Bool} (h : a = b) : Ending.returned (.bool a) = .returned (.bool b) := by rw [h]
theorem ret_str {a b : ByteArray} (h : a = b) : Ending.returned (.string a) = .returned (.string b) := by rw [h]

/-- The cells of a list of bytes. -/
def bcells (l : List UInt8) : Array Value := (l.map fun b => Value.int .u8 (b.toNat : Int)).toArray
theorem bcells_size (l : List UInt8) : (bcells l).size = l.length := by simp [bcells]
theorem bcells_at (l : List UInt8) (i : Nat) (h : i < l.length) : (bcells l)[i]? = some (.int .u8 (l[i].toNat : Int)) := by
  simp [bcells, List.getElem?_eq_getElem h]

section
variable {P : Program}
/-- 'string(b)' of a window of a block of bytes. -/
theorem conv_row (w : World) (src dst e : TypeId) (hs : P.underlying src = some (.slice e)) (he : P.underlying e = some (.int .u8)) (hd : P.underlying dst = some .string)
    (g : Nat) (t : TypeId) (fr : Nat × Nat) (C : Array Value) (hg : w.heap[g]? = some (.cells C t fr)) (k n cap : Nat) (l : List UInt8) (hn : l.length = n)
    (hl : ∀ j (h : j < l.length), C[k + j]? = some (.int .u8 (l[j].toNat : Int))) :
    (convert src dst (.slice (some ⟨g, k, none⟩) n cap)).run P w = .ok (.string ⟨l.toArray⟩) w := by
  subst hn
  refine run_convert_bytes_back w src dst e _ cap l hs he hd fun j hj => ?_
  have : (⟨g, k, none⟩ : Addr).add j = ⟨g, k + j, none⟩ := by unfold Addr.add; split <;> simp_all
  rw [this]
  unfold World.cell?
  rw [hg]
  simpa using hl j hj

/-- 'string(b)' of the nil slice, or of one without elements. -/
theorem conv_none (w : World) (src dst e : TypeId) (hs : P.underlying src = some (.slice e)) (he : P.underlying e = some (.int .u8)) (hd : P.underlying dst = some .string) (a : Addr) (cap : Nat) :
    (convert src dst (.slice (some a) 0 cap)).run P w = .ok (.string ⟨#[]⟩) w := by
  have := run_convert_bytes_back w src dst e a cap [] hs he hd (fun j hj => by simp at hj)
  simpa using this
end

/-- The one-cell values of a list of bytes. -/
def bvals (l : List UInt8) : List Value := l.map fun b => Value.int .u8 (b.toNat : Int)
theorem bvals_length (l : List UInt8) : (bvals l).length = l.length := by simp [bvals]
theorem bvals_append (l m : List UInt8) : bvals (l ++ m) = bvals l ++ bvals m := by simp [bvals]

section
variable {P : Program}
/-- 'v = append(v, u)' of one value of one cell, v nil or of the call's own. -/
theorem wp_push {ops : Array Oper} {rest : List Oper} {o : Oper} {a : Act} {Q : Exit → Act → World → Prop} (w : World) (hgd : o.guard = none) (s x : Operand) (t e : TypeId)
    (ho : o.op = .call { callee := .builtin .append, args := #[s, x], argTypes := #[t, t] }) (ht : P.underlying t = some (.slice e))
    (z : Value) (bytes : Nat) (hinfo : (P.info? e).map (fun i => (i.zero, i.size, i.bytes)) = some (some z, 1, bytes)) (hz : z.cells.size = 1)
    (base : Nat) (v : Value) (n : Nat) (xs : List Value) (hs : a.eval s = v) (hown : w.ownsRow base e 1 v n xs)
    (u : Value) (fr : Nat × Nat) (hx : a.eval x = .slice (some ⟨w.heap.size, 0, none⟩) 1 1) (hu : u.oneCell' = true)
    (hlen : n + 1 ≤ 1000000000) (hby : bytes ≤ 64) (hbase : base ≤ w.heap.size)
    (h : ∀ v' w', w'.ownsRow base e 1 v' (n + 1) (xs ++ [u]) → v' ≠ .slice none 0 0 → Below base w w' → w.heap.size < w'.heap.size → wpList P ops Q rest (a.put o.dst v') w') :
    wpList P ops Q (o :: rest) a (w.alloc (.cells #[u] e fr)) := by
  obtain ⟨i0, hi, hz0, hz1, hz2⟩ := info_parts hinfo
  refine wpList_append_own _ hgd s x t ho base e i0 z 1 bytes ht hi hz0 hz1 hz2 hz (by decide) v n xs hs (hown.alloc _) ⟨w.heap.size, 0, none⟩ 1 1 [u] hx rfl ?_ ?_ ?_ ?_ ?_ ?_
  · intro j u' hj
    match j, hj with
    | 0, hj =>
      simp at hj
      subst hj
      have : (⟨w.heap.size, 0, none⟩ : Addr).add 0 = ⟨w.heap.size, 0, none⟩ := by unfold Addr.add; split <;> simp_all
      rw [this, World.cell?_alloc_mark]; rfl
  · intro u' h'
    simp at h'
    subst h'; exact hu
  · unfold maxLen; omega
  · exact Nat.le_trans (Nat.mul_le_mul hlen hby) (by omega)
  · rw [World.size_alloc]; omega
  · intro v' w' hown' hg hnil
    have hsz := hg.size
    rw [World.size_alloc] at hsz
    refine h v' w' hown' (fun hv => by have := (hnil.1 hv).2; omega) ?_ (by omega)
    refine ((Below.refl base w).alloc hbase _).grown hg (by rw [World.size_alloc]; omega) fun k hk => ?_
    exact (hown.lt k hk).1

/-- 'string(b)' of a slice of the call's own. -/
theorem conv_own (w : World) (src dst e : TypeId) (hs : P.underlying src = some (.slice e)) (he : P.underlying e = some (.int .u8)) (hd : P.underlying dst = some .string)
    (base : Nat) (v : Value) (n : Nat) (l : List UInt8) (hown : w.ownsRow base e 1 v n (bvals l)) : (convert src dst v).run P w = .ok (.string ⟨l.toArray⟩) w := by
  have hl : l.length = n := by have := hown.1; rw [bvals_length] at this; omega
  rcases hown.2 with ⟨rfl, h0⟩ | ⟨g, cap, cur, rfl, _, hg, hnc, _, hsz, htk⟩
  · subst h0
    have : l = [] := List.eq_nil_of_length_eq_zero hl
    subst this
    rw [run_convert_bytes_string w src dst e none 0 0 hs he hd]
    simp [Conv.bytesToString]
    rfl
  · refine conv_row w src dst e hs he hd g e _ cur hg 0 n cap l hl fun j hj => ?_
    have h1 : (cur.toList.take (n * 1))[j]? = (bvals l)[j]? := by rw [htk]
    rw [List.getElem?_take, if_pos (by omega)] at h1
    rw [Nat.zero_add, ← Array.getElem?_toList, h1]
    simp [bvals, List.getElem?_eq_getElem hj]
end

theorem bcell {W w1 : World} (hb : Below W.heap.size W w1) : (∀ b o, b < W.heap.size → w1.cell? ⟨b, o, none⟩ = W.cell? ⟨b, o, none⟩) ∧ (∀ b o, b < W.heap.size → w1.frozen? ⟨b, o, none⟩ = W.frozen? ⟨b, o, none⟩) :=
  ⟨fun b o h => hb.cell (p := ⟨b, o, none⟩) h, fun b o h => hb.frozen (p := ⟨b, o, none⟩) h⟩

/-- n as 64 bits without a sign. -/
def u64 (n : Int) : Nat := (n % 18446744073709551616).toNat
theorem u64_eq (n : Int) : IntKind.u64.wrap n = ((u64 n : Nat) : Int) := by rw [IntKind.wrap_u64]; unfold u64; omega
theorem u64_lt (n : Int) : u64 n < 18446744073709551616 := by unfold u64; omega

theorem str_toList (l : List UInt8) : (⟨l.toArray⟩ : ByteArray).toList = l := by
  rw [ByteArray.toList_eq]
theorem str_size (l : List UInt8) : (⟨l.toArray⟩ : ByteArray).size = l.length := by
  simp [ByteArray.size]
theorem str_append (l m : List UInt8) : (⟨l.toArray⟩ : ByteArray) ++ ⟨m.toArray⟩ = ⟨(l ++ m).toArray⟩ := by
  apply ByteArray.ext; simp
theorem str_mk (s : ByteArray) : (⟨s.data.toList.toArray⟩ : ByteArray) = s := by
  apply ByteArray.ext; simp
end Go.Proofs.Ytmfmnoajihiidaa
