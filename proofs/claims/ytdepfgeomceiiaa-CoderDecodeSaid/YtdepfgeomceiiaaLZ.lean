/- Bytes that the run-time made of a string; numbers of the law CoderDecode. -/
import Derived.Test.YtdepfgeomceiiaaQJ
import Derived.Test.YtdepfgeomceiiaaLA
set_option linter.unusedVariables false
namespace Go.Proofs.Ytdepfgeomceiiaa
open Go.RowKit
/-- The cells of l lie in block g from its head on. -/
def Lie (g : Nat) (l : List UInt8) (w : World) : Prop := ∀ j (h : j < l.length), w.cell? ⟨g, j, none⟩ = some (.int .u8 (l[j].toNat : Int))
theorem bytes_lie (x : World) (s : ByteArray) (cap : Nat) (fr : Nat × Nat) : Lie x.heap.size s.data.toList (x.alloc (.cells (bytesRow s cap) 5 fr)) := by
  intro j hj
  rw [World.cell?_alloc_mark, bytesRow_at s cap j (by simpa using hj)]
  rfl
theorem bytesRow_size (s : ByteArray) (cap : Nat) (h : s.size ≤ cap) : (bytesRow s cap).size = cap := by
  unfold bytesRow
  rw [Array.size_append, Array.size_map, Array.size_replicate]
  show s.size + _ = _
  omega
theorem bytes_free (x : World) (s : ByteArray) (cap j : Nat) (h : s.size ≤ cap) (hj : j < cap) :
    (x.alloc (.cells (bytesRow s cap) 5 ((bytesRow s cap).size, (bytesRow s cap).size + 1))).frozen? ⟨x.heap.size, j, none⟩ = false := by
  rw [World.frozen?_alloc_mark, bytesRow_size s cap h]
  simp; omega
theorem Lie.set {g : Nat} {l : List UInt8} {w : World} (h : Lie g l w) (i : Nat) (hi : i < l.length) (b : UInt8) : Lie g (l.set i b) (w.setCell ⟨g, i, none⟩ (.int .u8 (b.toNat : Int))) := by
  intro j hj
  have hj' : j < l.length := by simpa using hj
  by_cases e : i = j
  · subst e
    rw [World.cell?_setCell_same _ _ _ (h i hi)]
    simp
  · rw [World.cell?_setCell_other _ _ _ _ (by intro e2; injection e2 with _ e3 _; exact e e3), h j hj', List.getElem_set_ne e]
theorem Lie.conv {g : Nat} {l : List UInt8} {w : World} (h : Lie g l w) (cap n : Nat) (hn : n ≤ l.length) : (convert 33 9 (.slice (some ⟨g, 0, none⟩) n cap)).run Try.prog w = .ok (.string ⟨(l.take n).toArray⟩) w := by
  have hl : (l.take n).length = n := by rw [List.length_take]; omega
  have := run_convert_bytes_back (P := Try.prog) w 33 9 5 ⟨g, 0, none⟩ cap (l.take n) Try.underlying33 Try.underlying5 Try.underlying9 (fun j hj => by
    have e : (⟨g, 0, none⟩ : Addr).add j = ⟨g, j, none⟩ := by unfold Addr.add; split <;> simp_all
    rw [e, h j (by omega), List.getElem_take])
  rw [hl] at this
  exact this
theorem Lie.grow {g : Nat} {l : List UInt8} {w w' : World} (h : Lie g l w) (hg : g < w.heap.size) (k : Grow w w') : Lie g l w' := fun j hj => k.cell (h j hj)
/-- '[]byte(s)': what it leaves. -/
theorem conv_bytes (x : World) (s : ByteArray) : ∃ W cap, (convert 9 33 (.string s)).run Try.prog x = .ok (.slice (some ⟨x.heap.size, 0, none⟩) s.size cap) W ∧ s.size ≤ cap ∧ Lie x.heap.size s.data.toList W ∧
    (∀ j, j < cap → W.frozen? ⟨x.heap.size, j, none⟩ = false) ∧ Grow x W ∧ x.heap.size < W.heap.size := by
  have hg := grownCap_ge x s.size 0 5
  refine ⟨_, _, run_bytes_of_string (P := Try.prog) x 9 33 5 s Try.underlying9 Try.underlying33 Try.underlying5, hg, bytes_lie x.drew s _ _, fun j hj => bytes_free x.drew s _ j hg hj, ?_, ?_⟩
  · exact ((Below.refl _ _).drew).alloc (Nat.le_refl _) _
  · rw [World.size_alloc]; exact Nat.lt_succ_self _
theorem and_64k (n : Int) : bits .and .i64 n 65535 = n % 65536 := by
  have key : (BitVec.ofInt 64 n &&& BitVec.ofInt 64 65535).toNat = (n % ((2 ^ 64 : Nat) : Int)).toNat % 2 ^ 16 := by
    rw [BitVec.toNat_and, BitVec.toNat_ofInt, show (BitVec.ofInt 64 65535).toNat = 2 ^ 16 - 1 from by decide, Nat.and_two_pow_sub_one_eq_mod]
  show IntKind.i64.wrap ((BitVec.ofInt 64 n &&& BitVec.ofInt 64 65535).toNat : Nat) = n % 65536
  rw [key, IntKind.wrap_i64]
  omega
/-- A number within the bounds, as the law reckons it. -/
theorem idx (n : Int) (m : Nat) (hm : 0 < m) : ∃ k : Nat, (n % 65536).tmod (m : Int) = (k : Int) ∧ k < m := by
  have h0 : 0 ≤ n % 65536 := Int.emod_nonneg _ (by decide)
  rw [Int.tmod_eq_emod_of_nonneg h0]
  have h1 := Int.emod_nonneg (n % 65536) (b := (m : Int)) (by omega)
  have h2 := Int.emod_lt_of_pos (n % 65536) (b := (m : Int)) (by omega)
  exact ⟨((n % 65536) % (m : Int)).toNat, by omega, by omega⟩
theorem run_rem {o : Oper} {ρ : Operand → Value} {x : World} {y z : Operand} (a : Int) (b k : Nat) (hb : 0 < b) (hb2 : b ≤ 1000000000) (hk : a.tmod (b : Int) = (k : Int)) {t} (ho : o.op = .binOp .rem 3 y z t) (hy : ρ y = .int .i64 a) (hz : ρ z = .int .i64 (b : Int)) : (execOp ρ o).run Try.prog x = .ok (.value (.int .i64 (k : Int))) x := by
  have h1 : ¬ (b : Int) = 0 := by omega
  have h2 : ¬ b = 0 := by omega
  unfold execOp; rw [ho]; simp only [hy, hz]; go_simp
theorem xor_u8 (a : UInt8) (x : Int) : ∃ z : UInt8, bits .xor .u8 (a.toNat : Int) (IntKind.u8.wrap x) = (z.toNat : Int) := by
  obtain ⟨b, hb⟩ : ∃ b : UInt8, IntKind.u8.wrap x = (b.toNat : Int) := ⟨UInt8.ofNat (IntKind.u8.wrap x).toNat, by rw [M.ofNat_val, IntKind.wrap_u8]; omega⟩
  rw [hb]
  exact ⟨a ^^^ b, by rw [u8_xor_nat a.toNat b.toNat a.toNat_lt b.toNat_lt, UInt8.toNat_xor]⟩
end Go.Proofs.Ytdepfgeomceiiaa
