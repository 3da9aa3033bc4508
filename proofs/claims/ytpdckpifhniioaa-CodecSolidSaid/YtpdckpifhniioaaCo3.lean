/- Walks of coder: the coder claims' texts, turned to this seat by genPort.py. -/
import Derived.Test.YtpdckpifhniioaaCo2
import Derived.Deep.DeepCutAuto
import Derived.Deep.CutBlock
import Derived.Deep.LoopGhost
set_option linter.unusedVariables false
set_option linter.unusedSimpArgs false
namespace Go.Proofs.Ytpdckpifhniioaa.Cod
open Go.RowKit
open Go.Proofs.Ytpdckpifhniioaa
section
/-- The value behind n bytes. -/
def vv (F : List UInt8) : Nat → Int
  | 0 => 0
  | n + 1 => vv F n * 256 % 4294967296 + M.at' F n
theorem vv_bd (F : List UInt8) : ∀ n, 0 ≤ vv F n ∧ vv F n ≤ 4294967295
  | 0 => by simp [vv]
  | n + 1 => by
    have := M.at_bd F n
    show 0 ≤ vv F n * 256 % 4294967296 + M.at' F n ∧ vv F n * 256 % 4294967296 + M.at' F n ≤ 4294967295
    omega
theorem vv_val (F : List UInt8) : ∀ n, vv F (n + 4) = M.val F n
  | 0 => by
    have := M.at_bd F 0
    have := M.at_bd F 1
    have := M.at_bd F 2
    have := M.at_bd F 3
    show (((0 * 256 % 4294967296 + M.at' F 0) * 256 % 4294967296 + M.at' F 1) * 256 % 4294967296 + M.at' F 2) * 256 % 4294967296 + M.at' F 3 = M.at' F 0 * 16777216 + M.at' F 1 * 65536 + M.at' F 2 * 256 + M.at' F 3
    omega
  | n + 1 => by
    rw [M.val_next, ← vv_val F n]; rfl
/-- The reader's cells behind the coder's. -/
def RX (f : ByteArray) (n : Nat) : Nat → Value := fun i => if i = 258 then .string f else if i = 259 then .int .i64 (n : Int) else .int .u32 (vv f.data.toList n)
theorem or_byte (v b : Int) (h0 : 0 ≤ v) (h1 : v ≤ 4294967295) (b0 : 0 ≤ b) (b1 : b ≤ 255) : bits .or .u32 (v * 256 % 4294967296) b = v * 256 % 4294967296 + b := by
  obtain ⟨k, hk⟩ : ∃ k : Nat, v % 16777216 = k := ⟨(v % 16777216).toNat, by omega⟩
  obtain ⟨c, rfl⟩ : ∃ c : Nat, b = c := ⟨b.toNat, by omega⟩
  have e : v * 256 % 4294967296 = ((k * 256 : Nat) : Int) := by omega
  have hb : k * 256 < 4294967296 := by omega
  rw [e]
  have h := u32_or_nat (k * 256) c (by omega) (by omega)
  rw [h]
  have : k * 256 ||| c = k * 256 + c := by
    have := Nat.shiftLeft_add_eq_or_of_lt (show c < 2 ^ 8 by omega) k
    rw [Nat.shiftLeft_eq] at this
    exact this.symm
  rw [this]; omega
end
section
end
section
end
section
theorem drewN_add (x : World) (n k : Nat) : (x.drewN n).drewN k = x.drewN (n + k) := by
  simp [World.drewN, Nat.add_assoc]
structure RQ (g : Nat) (f : ByteArray) (n : Nat) (w1 : World) (l : List UInt8) (X : Nat → Value) (x : World) : Prop where
  cells : ∀ i, 258 ≤ i → i < 261 → X i = RX f (n + l.length) i
  chg : Chg g none w1 x
theorem cc_congr {p lo en X Y} (h : ∀ i, 258 ≤ i → i < 261 → X i = Y i) (i : Nat) (hi : i < 261) : cc p lo en X i = cc p lo en Y i := by
  by_cases h1 : i < 256
  · rw [cc_p i h1, cc_p i h1]
  · by_cases h2 : i = 256
    · subst h2; rw [cc_lo, cc_lo]
    · by_cases h3 : i = 257
      · subst h3; rw [cc_en, cc_en]
      · rw [cc_x i (by omega), cc_x i (by omega)]; exact h i (by omega) hi
end
section
end
section

end
section
/-- A writer in block g: its state, its bytes, the block of its bytes. -/
structure WS (B g : Nat) (ro : Option Nat) (s : M.St) (l : List UInt8) (w : World) : Prop where
  ok : M.Ok s
  bd : B ≤ w.heap.size
  ge : B ≤ g
  ex : ∃ X, Blk w g 148 259 (cc s.p s.lo (4294967295 - s.hi) X) ∧ w.ownsRow B 5 1 (X 258) l.length (bvals l) ∧ (X 258).ownBlock = ro
theorem WS.lt {B g ro s l w} (h : WS B g ro s l w) : g < w.heap.size := by
  obtain ⟨X, h1, _⟩ := h.ex
  exact h1.lt
theorem WS.ro_ge {B g ro s l w} (h : WS B g ro s l w) (k : Nat) (e : ro = some k) : B ≤ k ∧ k < w.heap.size := by
  obtain ⟨X, h1, h2, h3⟩ := h.ex
  have h4 := h2.lt k (by rw [h3, e])
  exact ⟨h4.1, h4.2⟩
/-- A block of another element type is no row of bytes and no writer. -/
theorem WS.ne {B g ro s l w} (h : WS B g ro s l w) {k t : Nat} {c fr} (hk : w.heap[k]? = some (.cells c t fr)) (h5 : t ≠ 5) (h68 : t ≠ 148) : k ≠ g ∧ some k ≠ ro := by
  obtain ⟨X, h1, h2, h3⟩ := h.ex
  refine ⟨blk_ne h1 hk (Ne.symm h68), ?_⟩
  rw [← h3]; exact row_ne h2 hk h5
theorem WS.keep {B g ro s l w w'} (h : WS B g ro s l w) {g' ro'} (hc : Chg g' ro' w w') (h1 : g ≠ g') (h2 : some g ≠ ro') (h3 : ∀ k, ro = some k → k ≠ g' ∧ some k ≠ ro') : WS B g ro s l w' := by
  obtain ⟨X, x1, x2, x3⟩ := h.ex
  refine ⟨h.ok, Nat.le_trans h.bd hc.size, h.ge, X, ?_, ?_, x3⟩
  · have := hc.block g x1.lt h1 h2
    unfold Blk at x1 ⊢; rw [this]; exact x1
  · obtain ⟨y1, y2⟩ := x2
    refine ⟨y1, y2.imp id ?_⟩
    rintro ⟨k, cap, cur, e1, e2, e3, e4⟩
    have hk := h3 k (by rw [← x3, e1]; rfl)
    refine ⟨k, cap, cur, e1, e2, ?_, e4⟩
    rw [hc.block k (Array.getElem?_eq_some_iff.1 e3).1 hk.1 hk.2]; exact e3
theorem WS.grow {B g ro s l w w'} (h : WS B g ro s l w) (hg : Grow w w') : WS B g ro s l w' := by
  obtain ⟨X, x1, x2, x3⟩ := h.ex
  exact ⟨h.ok, Nat.le_trans h.bd (Below.size hg), h.ge, X, x1.grow hg, own_grow x2 hg, x3⟩
theorem newWriter_ws (w : World) : Calls Try.prog 74 #[] w fun e w' => e = .returned (.pointer (some ⟨w.heap.size, 0, none⟩)) ∧ WS w.heap.size w.heap.size none M.start [] w' ∧ Grow w w' := by
  refine (newWriter_any w).mono ?_
  rintro e w' ⟨rfl, rfl⟩
  refine ⟨rfl, ⟨M.start_ok, Grow.size (Grow.alloc _ _), Nat.le_refl _, _, heap_alloc_new _ _, ?_, ?_⟩, Grow.alloc _ _⟩
  · exact ⟨rfl, .inl ⟨rfl, rfl⟩⟩
  · rfl
theorem WS.lower {B B' g ro s l w} (h : WS B g ro s l w) (hB : B' ≤ B) : WS B' g ro s l w := by
  obtain ⟨X, x1, x2, x3⟩ := h.ex
  refine ⟨h.ok, Nat.le_trans hB h.bd, Nat.le_trans hB h.ge, X, x1, ?_, x3⟩
  obtain ⟨y1, y2⟩ := x2
  refine ⟨y1, y2.imp id ?_⟩
  rintro ⟨k, cap, cur, e1, e2, e3⟩
  exact ⟨k, cap, cur, e1, Nat.le_trans hB e2, e3⟩
theorem bit_ws {B g ro s l w} (h : WS B g ro s l w) (c bit : Int) (hl : l.length + 4 ≤ 100000000) :
    Calls Try.prog 77 #[.pointer (some ⟨g, 0, none⟩), .int .i64 c, .int .i64 bit] w fun e w' => e = .returned (.tuple #[]) ∧ ∃ ro', WS B g ro' (M.nxt s (cx c) (bit % 2)) (l ++ M.outB s (cx c) (bit % 2)) w' ∧ Nxt ro ro' w ∧ Chg g ro w w' := by
  obtain ⟨X, x1, x2, x3⟩ := h.ex
  refine (bit_w B g s h.ok c bit X l w x1 x2 h.bd hl).mono ?_
  rintro e w' ⟨rfl, X', y1, y2, y3, y4⟩
  rw [x3] at y3 y4
  exact ⟨rfl, _, ⟨M.nxt_ok h.ok _ _, Nat.le_trans h.bd y4.size, h.ge, X', y1, y2, rfl⟩, y3, y4⟩
theorem bytes_ws {B g ro s l w} (h : WS B g ro s l w) (hl : l.length ≤ 100000000) :
    Calls Try.prog 78 #[.pointer (some ⟨g, 0, none⟩)] w fun e w' => e = .returned (.string ⟨(l ++ M.be4 s.lo).toArray⟩) ∧ Grow w w' := by
  obtain ⟨X, x1, x2, x3⟩ := h.ex
  exact bytes_w B g s h.ok X l w x1 x2 hl
theorem WS.below {B g ro s l w w'} (h : WS B g ro s l w) (k : Chg g ro w w') : Below B w w' := k.below h.ge (fun j e => (h.ro_ge j e).1) h.bd
/-- A reader in block g of the text f, m bytes removed. -/
structure RS (g : Nat) (f : ByteArray) (m : Nat) (s : M.St) (w : World) : Prop where
  ok : M.Ok s
  ex : ∃ n, n - 4 = m ∧ Blk w g 259 261 (cc s.p s.lo (4294967295 - s.hi) (RX f n))
theorem RS.lt {g f m s w} (h : RS g f m s w) : g < w.heap.size := by
  obtain ⟨n, _, h1⟩ := h.ex
  exact h1.lt
theorem RS.grow {g f m s w w'} (h : RS g f m s w) (hg : Grow w w') : RS g f m s w' := by
  obtain ⟨n, h0, h1⟩ := h.ex
  exact ⟨h.ok, n, h0, h1.grow hg⟩
theorem RS.keep {g f m s w w' g' ro'} (h : RS g f m s w) (hc : Chg g' ro' w w') (h1 : g ≠ g') (h2 : some g ≠ ro') : RS g f m s w' := by
  obtain ⟨n, h0, x1⟩ := h.ex
  refine ⟨h.ok, n, h0, ?_⟩
  have := hc.block g x1.lt h1 h2
  unfold Blk at x1 ⊢; rw [this]; exact x1
/-- The reader's next bit. -/
def nb (f : ByteArray) (m : Nat) (s : M.St) (c : Int) : Int := M.rb s (cx c) (M.val f.data.toList m)
theorem nb_bit (f m s c) : nb f m s c = 0 ∨ nb f m s c = 1 := by unfold nb M.rb; split <;> simp
end
end Go.Proofs.Ytpdckpifhniioaa.Cod
