/- Part 2 of what CodecPreviews rests on. -/
import Derived.WalkKit
import Derived.Orders
import Derived.Below
import Derived.Deep.MidRow
import Derived.Laws.Rows
import Derived.Laws.IdiomStrings
import Derived.Laws.Slices
import Derived.Laws.DeepStrings4
import Derived.Laws.AppendOwn
import Derived.Deep.AppendSrc
import Derived.Test.YtpdckpifhniioaaGreatPa
section
set_option linter.unusedVariables false
set_option linter.unusedSimpArgs false
namespace Go.Proofs.YtpdckpifhniioaaGreat
open Go.RowKit
namespace Ab
/-- A cell's value: known; the address of a block; a function that captures addresses; a slice; a slice that may grow (nil, or a block's from its start, with all of the block's room); unknown. -/
inductive Leaf where
  | v (x : Value)
  | p (id off : Nat)
  | f (fn : Nat) (caps : List (Nat × Nat))
  | s (id off len : Nat)
  | o (id len : Nat)
  | u
inductive Cp where
  | l (x : Leaf)
  | agg (xs : List Leaf)
/-- A slot's value. 'g b x': x where b holds, else nothing. -/
inductive SV where
  | u
  | c (x : Cp)
  | tup (xs : List Cp)
  | g (b : Bool) (x : Cp)
/-- What the names stand for: a block; its room, in elements. -/
structure Bt where
  b : Nat → Option Nat
  c : Nat → Option Nat
instance : CoeFun Bt fun _ => Nat → Option Nat := ⟨Bt.b⟩
def All2 {α β : Type} (R : α → β → Prop) : List α → List β → Prop
  | [], [] => True
  | a :: as, b :: bs => R a b ∧ All2 R as bs
  | _, _ => False
section
variable {α β γ : Type} {R S : α → β → Prop}
theorem All2.length : ∀ {l : List α} {m : List β}, All2 R l m → l.length = m.length
  | [], [], _ => rfl
  | _ :: _, _ :: _, h => by simp [All2.length h.2]
theorem All2.mono (hh : ∀ a b, R a b → S a b) : ∀ {l : List α} {m : List β}, All2 R l m → All2 S l m
  | [], [], _ => trivial
  | _ :: _, _ :: _, h => ⟨hh _ _ h.1, All2.mono hh h.2⟩
theorem All2.get : ∀ {l : List α} {m : List β} {i : Nat} {a : α}, All2 R l m → l[i]? = some a → ∃ b, m[i]? = some b ∧ R a b
  | [], [], i, a, _, h => by simp at h
  | a :: as, b :: bs, 0, a', h, e => by simp at e; subst e; exact ⟨b, by simp, h.1⟩
  | a :: as, b :: bs, i + 1, a', h, e => by simpa using All2.get h.2 (by simpa using e)
theorem All2.append : ∀ {l l' : List α} {m m' : List β}, All2 R l m → All2 R l' m' → All2 R (l ++ l') (m ++ m')
  | [], _, [], _, _, h => h
  | _ :: _, _, _ :: _, _, h, h' => ⟨h.1, All2.append h.2 h'⟩
theorem All2.take : ∀ {l : List α} {m : List β} (n : Nat), All2 R l m → All2 R (l.take n) (m.take n)
  | _, _, 0, _ => by simp [All2]
  | [], [], n + 1, _ => by simp [All2]
  | _ :: _, _ :: _, n + 1, h => ⟨h.1, All2.take n h.2⟩
theorem All2.drop : ∀ {l : List α} {m : List β} (n : Nat), All2 R l m → All2 R (l.drop n) (m.drop n)
  | _, _, 0, h => h
  | [], [], n + 1, _ => by simp [All2]
  | _ :: _, _ :: _, n + 1, h => All2.drop n h.2
theorem All2.set : ∀ {l : List α} {m : List β} (n : Nat) {a : α} {b : β}, All2 R l m → R a b → All2 R (l.set n a) (m.set n b)
  | [], [], _, _, _, _, _ => by simp [All2]
  | _ :: _, _ :: _, 0, _, _, h, k => ⟨k, h.2⟩
  | _ :: _, _ :: _, n + 1, _, _, h, k => ⟨h.1, All2.set n h.2 k⟩
theorem All2.mem : ∀ {l : List α} {m : List β} {b : β}, All2 R l m → b ∈ m → ∃ a, a ∈ l ∧ R a b
  | [], [], _, _, h => by cases h
  | a :: as, b :: bs, c, h, hm => by
    cases hm with
    | head => exact ⟨a, by simp, h.1⟩
    | tail _ hm => obtain ⟨x, hx, hr⟩ := All2.mem h.2 hm; exact ⟨x, by simp [hx], hr⟩
end
def leafy (x : Value) : Bool := x.oneCell'
def Leaf.den (β : Bt) : Leaf → Value → Prop
  | .v x, y => y = x ∧ leafy x = true
  | .p id off, y => ∃ b, β id = some b ∧ y = .pointer (some ⟨b, off, none⟩)
  | .f fn caps, y => ∃ cs : List Value, All2 (fun (c : Nat × Nat) z => ∃ b, β c.1 = some b ∧ z = .pointer (some ⟨b, c.2, none⟩)) caps cs ∧ y = .func (.func fn) #[] cs.toArray
  | .s id off len, y => ∃ b cap, β id = some b ∧ len ≤ cap ∧ y = .slice (some ⟨b, off, none⟩) len cap
  | .o id len, y => (len = 0 ∧ β.c id = some 0 ∧ y = .slice none 0 0) ∨ ∃ b cap, β id = some b ∧ β.c id = some cap ∧ len ≤ cap ∧ y = .slice (some ⟨b, 0, none⟩) len cap
  | .u, y => leafy y = true
def Cp.den (β : Bt) : Cp → Value → Prop
  | .l x, y => x.den β y
  | .agg xs, y => ∃ ys : List Value, y = .agg ys.toArray ∧ All2 (Leaf.den β) xs ys
def SV.den (β : Bt) : SV → Value → Prop
  | .u, _ => True
  | .c x, y => x.den β y
  | .tup xs, y => ∃ ys : List Value, y = .tuple ys.toArray ∧ All2 (Cp.den β) xs ys
  | .g b x, y => (b = true → x.den β y) ∧ (b = false → y = undef)
theorem Leaf.leafy_of {β : Bt} : ∀ {x : Leaf} {y : Value}, x.den β y → leafy y = true
  | .v x, y, h => by obtain ⟨rfl, h⟩ := h; exact h
  | .p _ _, y, h => by obtain ⟨b, _, rfl⟩ := h; rfl
  | .f _ _, y, h => by obtain ⟨cs, _, rfl⟩ := h; rfl
  | .s _ _ _, y, h => by obtain ⟨b, cap, _, _, rfl⟩ := h; rfl
  | .o _ _, y, h => by rcases h with ⟨_, _, rfl⟩ | ⟨b, cap, _, _, _, rfl⟩ <;> rfl
  | .u, y, h => h
structure Ext (β β' : Bt) : Prop where
  b : ∀ id b, β id = some b → β' id = some b
  c : ∀ id v, β.c id = some v → β'.c id = some v
theorem Ext.refl (β : Bt) : Ext β β := ⟨fun _ _ h => h, fun _ _ h => h⟩
theorem Ext.trans {a b c : Bt} (h : Ext a b) (k : Ext b c) : Ext a c := ⟨fun i x e => k.b i x (h.b i x e), fun i x e => k.c i x (h.c i x e)⟩
theorem Leaf.ext {β β' : Bt} (h : Ext β β') : ∀ {x : Leaf} {y : Value}, x.den β y → x.den β' y
  | .v x, y, k => k
  | .p _ _, y, ⟨b, k, e⟩ => ⟨b, h.b _ _ k, e⟩
  | .f _ _, y, ⟨cs, k, e⟩ => ⟨cs, k.mono fun _ _ ⟨b, q, r⟩ => ⟨b, h.b _ _ q, r⟩, e⟩
  | .s _ _ _, y, ⟨b, cap, k, e⟩ => ⟨b, cap, h.b _ _ k, e⟩
  | .o _ _, y, k => k.elim (fun ⟨e, q, r⟩ => .inl ⟨e, h.c _ _ q, r⟩) fun ⟨b, cap, k, q, e⟩ => .inr ⟨b, cap, h.b _ _ k, h.c _ _ q, e⟩
  | .u, y, k => k
theorem Cp.ext {β β' : Bt} (h : Ext β β') : ∀ {x : Cp} {y : Value}, x.den β y → x.den β' y
  | .l x, y, k => Leaf.ext h (x := x) k
  | .agg xs, y, ⟨ys, e, k⟩ => ⟨ys, e, k.mono fun _ _ q => Leaf.ext h q⟩
theorem SV.ext {β β' : Bt} (h : Ext β β') : ∀ {x : SV} {y : Value}, x.den β y → x.den β' y
  | .u, y, k => trivial
  | .c x, y, k => Cp.ext h (x := x) k
  | .tup xs, y, ⟨ys, e, k⟩ => ⟨ys, e, k.mono fun _ _ q => Cp.ext h q⟩
  | .g b x, y, ⟨k1, k2⟩ => ⟨fun e => Cp.ext h (x := x) (k1 e), k2⟩
def Cp.cells : Cp → List Leaf
  | .l x => [x]
  | .agg xs => xs
theorem Cp.den_cells {β : Bt} : ∀ {x : Cp} {y : Value}, x.den β y → All2 (Leaf.den β) x.cells y.cells.toList
  | .l x, y, h => by
    have hl := Leaf.leafy_of (x := x) h
    have : y.cells.toList = [y] := by cases y <;> first | rfl | (simp [leafy, Value.oneCell'] at hl)
    rw [this]; exact ⟨h, trivial⟩
  | .agg xs, y, ⟨ys, e, k⟩ => by subst e; simpa [Value.cells, Cp.cells] using k
theorem leafy_all {β : Bt} {xs : List Leaf} {ys : List Value} (h : All2 (Leaf.den β) xs ys) : ∀ v ∈ ys, v.oneCell' = true := by
  intro v hv
  obtain ⟨a, _, ha⟩ := h.mem hv
  exact Leaf.leafy_of ha
/-- A block's type: t; with room for its growing slice (the type, an element's cells, its own name); a block of which nothing is known any more. -/
inductive BT where
  | t (n : Nat)
  | r (n sz id : Nat)
  | y (n : Nat)
  | e (n : Nat)
  | x
  | q
instance (n : Nat) : OfNat BT n := ⟨.t n⟩
instance : Coe Nat BT := ⟨.t⟩
def BT.ty : BT → Nat
  | .t n => n
  | .r n _ _ => n
  | .y n => n
  | .e n => n
  | .x => 0
  | .q => 0
/-- Not a block of which only cells are known. -/
def BT.nq : BT → Bool
  | .q => false
  | _ => true
theorem BT.nq_spec : ∀ {t : BT}, t.nq = true → t ≠ .q
  | .t _, _ => fun h => by cases h
  | .r _ _ _, _ => fun h => by cases h
  | .y _, _ => fun h => by cases h
  | .e _, _ => fun h => by cases h
  | .x, _ => fun h => by cases h
  | .q, h => by cases h
/-- Which places bear the mark of a string's bytes: one behind the last cell. -/
def BT.fr (m : Nat) : BT → Nat × Nat
  | .y _ => (m, m + 1)
  | _ => (0, 0)
def BT.room (β : Bt) (l m : Nat) : BT → Prop
  | .t _ => True
  | .r _ sz id => ∃ v, β.c id = some v ∧ v * sz ≤ m
  | .y _ => True
  | .e _ => l = m
  | .x => True
  | .q => False
theorem BT.room_ext {β β' : Bt} {l m : Nat} (h : Ext β β') : ∀ {t : BT}, t.room β l m → t.room β' l m
  | .t _, _ => trivial
  | .r _ _ _, ⟨v, k, q'⟩ => ⟨v, h.c _ _ k, q'⟩
  | .y _, _ => trivial
  | .e _, h => h
  | .x, _ => trivial
  | .q, h => h
/-- A block: its first cells, its type. -/
structure Blk where
  cs : List Leaf
  ty : BT
/-- Of some cells is known what they hold. -/
def QC (β : Bt) (x : World) (b : Nat) (cs : List Leaf) : Prop := ∀ i l, cs[i]? = some l → l = .u ∨ ∃ y, x.cell? ⟨b, i, none⟩ = some y ∧ l.den β y
def BlkAt (β : Bt) (x : World) (b : Nat) (k : Blk) : Prop :=
  ((k.ty = .x ∧ k.cs = []) ∨ (k.ty = .q ∧ QC β x b k.cs)) ∨ ∃ ys zs : List Value, x.heap[b]? = some (.cells (ys ++ zs).toArray k.ty.ty (k.ty.fr (ys ++ zs).length)) ∧ All2 (Leaf.den β) k.cs ys ∧ k.ty.room β ys.length (ys ++ zs).length
theorem BlkAt.ext {β β' : Bt} {x x' : World} {b : Nat} {k : Blk} (h : BlkAt β x b k) (e : Ext β β') (hx : x'.heap[b]? = x.heap[b]?) : BlkAt β' x' b k := by
  rcases h with (h | ⟨h, hq⟩) | ⟨ys, zs, h1, h2, h3⟩
  · exact .inl (.inl h)
  · refine .inl (.inr ⟨h, fun i l hl => (hq i l hl).imp id fun ⟨y, h1, h2⟩ => ⟨y, ?_, Leaf.ext e h2⟩⟩)
    simp only [World.cell?, hx] at h1 ⊢
    exact h1
  · exact .inr ⟨ys, zs, hx.trans h1, h2.mono fun _ _ q => Leaf.ext e q, BT.room_ext e h3⟩
/-- A known cell, of any block. -/
theorem BlkAt.cellU {β : Bt} {x : World} {b : Nat} {k : Blk} (h : BlkAt β x b k) {i : Nat} {l : Leaf} (hi : k.cs[i]? = some l) (hu : l ≠ .u) : ∃ y, x.cell? ⟨b, i, none⟩ = some y ∧ l.den β y := by
  rcases h with (⟨_, h⟩ | ⟨_, hq⟩) | ⟨ys, zs, h1, h2, h3⟩
  · rw [h] at hi; simp at hi
  · exact (hq i l hi).resolve_left hu
  obtain ⟨y, hy, hd⟩ := h2.get hi
  refine ⟨y, ?_, hd⟩
  rw [cell_of_row x b i _ _ _ h1]
  have hlt : i < ys.length := (List.getElem?_eq_some_iff.1 hy).1
  simp [List.getElem?_append_left hlt, hy]
theorem BlkAt.cell {β : Bt} {x : World} {b : Nat} {k : Blk} (h : BlkAt β x b k) (hnq : k.ty ≠ .q) {i : Nat} {l : Leaf} (hi : k.cs[i]? = some l) : ∃ y, x.cell? ⟨b, i, none⟩ = some y ∧ l.den β y := by
  rcases h with (⟨_, h⟩ | ⟨h, _⟩) | ⟨ys, zs, h1, h2, h3⟩
  rotate_left
  · exact absurd h hnq
  rotate_left
  · rw [h] at hi; simp at hi
  obtain ⟨y, hy, hd⟩ := h2.get hi
  refine ⟨y, ?_, hd⟩
  rw [cell_of_row x b i _ _ _ h1]
  have hlt : i < ys.length := (List.getElem?_eq_some_iff.1 hy).1
  simp [List.getElem?_append_left hlt, hy]
theorem BlkAt.range {β : Bt} {x : World} {b : Nat} {k : Blk} (h : BlkAt β x b k) (hnq : k.ty ≠ .q) {i n : Nat} (hi : i + n ≤ k.cs.length) :
    ∃ ys, x.rangeAt b i ys ∧ ys.length = n ∧ All2 (Leaf.den β) ((k.cs.drop i).take n) ys := by
  rcases h with (⟨_, h⟩ | ⟨h, _⟩) | ⟨ys, zs, h1, h2, h3⟩
  rotate_left
  · exact absurd h hnq
  rotate_left
  · rw [h] at hi ⊢
    have e1 : n = 0 := by simp at hi; omega
    subst e1
    exact ⟨[], fun j v hv => by simp at hv, rfl, by simp [All2]⟩
  have hl := h2.length
  refine ⟨(ys.drop i).take n, ?_, by simp; omega, (h2.drop i).take n⟩
  intro j v hv
  rw [cell_of_row x b (i + j) _ _ _ h1]
  have hj : j < n := by
    have := (List.getElem?_eq_some_iff.1 hv).1
    simp at this; omega
  have h3 : ys[i + j]? = some v := by
    rw [List.getElem?_take, if_pos hj, List.getElem?_drop] at hv
    exact hv
  have hlt : i + j < ys.length := (List.getElem?_eq_some_iff.1 h3).1
  simp [List.getElem?_append_left hlt, h3]
theorem BlkAt.there {β : Bt} {x : World} {b : Nat} {k : Blk} (h : BlkAt β x b k) (hnq : k.ty ≠ .q) {i n : Nat} (hi : i + n ≤ k.cs.length) : x.there b i n := by
  rcases h with (⟨_, h⟩ | ⟨h, _⟩) | ⟨ys, zs, h1, h2, h3⟩
  rotate_left
  · exact absurd h hnq
  rotate_left
  · rw [h] at hi; simp at hi; intro j hj; omega
  have hl := h2.length
  intro j hj
  constructor
  · rw [cell_of_row x b (i + j) _ _ _ h1]
    have hlt : i + j < ys.length := by omega
    simp [List.getElem?_append_left hlt, hlt]
  · simp only [World.frozen?, h1]
    have hlt : i + j < ys.length := by omega
    cases k.ty with
    | y n =>
      simp only [BT.fr, List.length_append]
      have : ¬ (ys.length + zs.length ≤ i + j) := by omega
      simp [this]
    | t n => simp [BT.fr]
    | r n sz id => simp [BT.fr]
    | e n => simp [BT.fr]
    | x => simp [BT.fr]
    | q => simp [BT.fr]
/-- The cells of a list from i on are replaced. -/
def splice {α : Type} (l : List α) (i : Nat) (m : List α) : List α := match m with
  | [] => l
  | a :: m => splice (l.set i a) (i + 1) m
theorem All2.splice {α β : Type} {R : α → β → Prop} : ∀ {m : List α} {m' : List β} {l : List α} {l' : List β} (i : Nat), All2 R l l' → All2 R m m' → All2 R (Ab.splice l i m) (Ab.splice l' i m')
  | [], [], _, _, _, h, _ => h
  | _ :: _, _ :: _, _, _, i, h, k => All2.splice (i + 1) (h.set i k.1) k.2
theorem splice_length {α : Type} : ∀ (m l : List α) (i : Nat), (Ab.splice l i m).length = l.length
  | [], _, _ => rfl
  | a :: m, l, i => by rw [Ab.splice, splice_length m]; simp
theorem splice_append {α : Type} : ∀ (m l z : List α) (i : Nat), i + m.length ≤ l.length → Ab.splice (l ++ z) i m = Ab.splice l i m ++ z
  | [], _, _, _, _ => rfl
  | a :: m, l, z, i, h => by
    simp only [List.length_cons] at h
    rw [Ab.splice, Ab.splice, List.set_append_left _ _ (by omega), splice_append m _ z (i + 1) (by simp; omega)]
theorem setCells_block (b : Nat) (t : TypeId) {fr : Nat × Nat} : ∀ (vs ys : List Value) (o : Nat) (x : World), x.heap[b]? = some (.cells ys.toArray t fr) → (x.setCells b o vs).heap[b]? = some (.cells (Ab.splice ys o vs).toArray t fr)
  | [], ys, o, x, h => h
  | v :: vs, ys, o, x, h => by
    refine setCells_block b t vs (ys.set o v) (o + 1) _ ?_
    simp [World.setCell, Array.getElem?_modify, h]
theorem setCells_size (b : Nat) : ∀ (vs : List Value) (o : Nat) (x : World), (x.setCells b o vs).heap.size = x.heap.size
  | [], _, _ => rfl
  | v :: vs, o, x => by rw [World.setCells, setCells_size b vs]; simp [World.setCell]
theorem setCells_other (b : Nat) {k : Nat} (hk : k ≠ b) : ∀ (vs : List Value) (o : Nat) (x : World), (x.setCells b o vs).heap[k]? = x.heap[k]?
  | [], _, _ => rfl
  | v :: vs, o, x => by rw [World.setCells, setCells_other b hk vs]; exact heap_setCell_other _ _ _ _ hk
theorem setCells_io (b : Nat) : ∀ (vs : List Value) (o : Nat) (x : World), (x.setCells b o vs).os = x.os ∧ (x.setCells b o vs).tape = x.tape ∧ (x.setCells b o vs).output = x.output
  | [], _, _ => ⟨rfl, rfl, rfl⟩
  | v :: vs, o, x => by rw [World.setCells]; obtain ⟨h1, h2, h3⟩ := setCells_io b vs (o + 1) (x.setCell ⟨b, o, none⟩ v); exact ⟨h1, h2, h3⟩
theorem BlkAt.store {β : Bt} {x : World} {b : Nat} {k : Blk} (h : BlkAt β x b k) (hnq : k.ty ≠ .q) {i : Nat} {m : List Leaf} {ms : List Value} (hi : i + m.length ≤ k.cs.length) (hm : All2 (Leaf.den β) m ms) :
    BlkAt β (x.setCells b i ms) b ⟨Ab.splice k.cs i m, k.ty⟩ := by
  rcases h with (⟨h, h'⟩ | ⟨h, _⟩) | ⟨ys, zs, h1, h2, h3⟩
  rotate_left
  · exact absurd h hnq
  rotate_left
  · rw [h'] at hi
    have e1 : m = [] := List.eq_nil_of_length_eq_zero (by simp only [List.length_nil] at hi; omega)
    subst e1
    exact .inl (.inl ⟨h, h'⟩)
  have hl := h2.length
  have hml := hm.length
  refine .inr ⟨Ab.splice ys i ms, zs, ?_, h2.splice i hm, ?_⟩
  · rw [setCells_block b k.ty.ty ms _ i x h1, splice_append ms ys zs i (by omega), List.length_append, List.length_append, splice_length]
  · rw [List.length_append, splice_length, ← List.length_append]; exact h3
def lk {α : Type} : List (Nat × α) → Nat → Option α
  | [], _ => none
  | (k, v) :: l, i => match Nat.beq k i with | true => some v | false => lk l i
theorem lk_cons_eq {α : Type} (k : Nat) (v : α) (l : List (Nat × α)) : lk ((k, v) :: l) k = some v := by
  unfold lk; rw [show Nat.beq k k = true from Nat.beq_refl k]
theorem lk_cons_ne {α : Type} {k i : Nat} (v : α) (l : List (Nat × α)) (h : k ≠ i) : lk ((k, v) :: l) i = lk l i := by
  have : Nat.beq k i = false := by
    cases hb : Nat.beq k i with
    | false => rfl
    | true => exact absurd (Nat.eq_of_beq_eq_true hb) h
  show (match Nat.beq k i with | true => some v | false => lk l i) = _
  rw [this]
theorem lk_append {α : Type} : ∀ (l m : List (Nat × α)) (i : Nat), lk (l ++ m) i = match lk l i with | some v => some v | none => lk m i
  | [], m, i => rfl
  | (k, v) :: l, m, i => by
    by_cases h : k = i
    · subst h; rw [List.cons_append, lk_cons_eq, lk_cons_eq]
    · rw [List.cons_append, lk_cons_ne _ _ h, lk_cons_ne _ _ h]; exact lk_append l m i
theorem lk_mem {α : Type} : ∀ {l : List (Nat × α)} {i : Nat} {v : α}, lk l i = some v → (i, v) ∈ l
  | [], i, v, h => by cases h
  | (k, w) :: l, i, v, h => by
    by_cases e : k = i
    · subst e; rw [lk_cons_eq] at h; cases h; simp
    · rw [lk_cons_ne _ _ e] at h; exact List.mem_cons_of_mem _ (lk_mem h)
theorem lk_none {α : Type} : ∀ {l : List (Nat × α)} {i : Nat}, i ∉ l.map (·.1) → lk l i = none
  | [], i, h => rfl
  | (k, w) :: l, i, h => by
    simp only [List.map_cons, List.mem_cons, not_or] at h
    rw [lk_cons_ne _ _ (Ne.symm h.1)]; exact lk_none h.2
/-- The state of a frame: its slots, the blocks it knows, the next name of a block, the number of slots, the blocks that have been written, the first name of its own (a block of its own may change its name). -/
structure St where
  E : List (Nat × SV)
  H : List (Nat × Option Blk)
  n : Nat
  m : Nat
  W : List Nat
  q : Nat
def St.sl (S : St) (t : Nat) : SV := match lk S.E t with | some v => v | none => .u
def St.blk (S : St) (id : Nat) : Option Blk := match lk S.H id with | some b => b | none => none
/-- A block whose cells are known one behind the other. -/
def St.blkW (S : St) (id : Nat) : Option Blk := match S.blk id with
  | some k => match k.ty.nq with | true => some k | false => none
  | none => none
theorem blkW_spec {S : St} {id : Nat} {k : Blk} (h : S.blkW id = some k) : S.blk id = some k ∧ k.ty ≠ .q := by
  unfold St.blkW at h
  split at h
  · rename_i k' hk
    split at h
    · rename_i hn; cases h; exact ⟨hk, BT.nq_spec hn⟩
    · cases h
  · cases h
structure Rep (β : Bt) (S : St) (a : Act) (x : World) : Prop where
  sl : ∀ t, (S.sl t).den β (a.eval (.tmp t))
  size : a.tmps.size = S.m
  defs : a.defers = []
  blk : ∀ id b k, β id = some b → S.blk id = some k → BlkAt β x b k
  inj : ∀ i j b, β i = some b → β j = some b → i = j
  lt : ∀ i b, β i = some b → b < x.heap.size ∧ i < S.n
  ltc : ∀ i v, β.c i = some v → i < S.n
  q : S.q ≤ S.n
/-- From (β, x) to (β', x'): names below n stay; of old memory only the blocks of W, and blocks with names from n on, have been written. -/
structure Nx (n : Nat) (W : List Nat) (β : Bt) (x : World) (β' : Bt) (x' : World) : Prop where
  old : ∀ id, id < n → β' id = β id
  oldc : ∀ id, id < n → β'.c id = β.c id
  new : ∀ id b, β' id = some b → (id < n ∧ β id = some b) ∨ (n ≤ id ∧ (x.heap.size ≤ b ∨ ∃ j, n ≤ j ∧ β j = some b))
  os : x'.os = x.os
  tape : x'.tape = x.tape
  output : x'.output = x.output
  size : x.heap.size ≤ x'.heap.size
  keep : ∀ k, k < x.heap.size → (∀ id, β id = some k → id < n ∧ id ∉ W) → x'.heap[k]? = x.heap[k]?
theorem Nx.refl {n : Nat} {W : List Nat} {β : Bt} {x : World} : Nx n W β x β x :=
  ⟨fun _ _ => rfl, fun _ _ => rfl, fun id b e => (Nat.lt_or_ge id n).elim (fun h => .inl ⟨h, e⟩) fun h => .inr ⟨h, .inr ⟨id, h, e⟩⟩, rfl, rfl, rfl, Nat.le_refl _, fun _ _ _ => rfl⟩
theorem Nx.trans {n : Nat} {W W' : List Nat} {β β' β'' : Bt} {x x' x'' : World} (h : Nx n W β x β' x') (k : Nx n W' β' x' β'' x'') (hW : ∀ i ∈ W, i < n → i ∈ W') : Nx n W' β x β'' x'' := by
  refine ⟨fun id hi => (k.old id hi).trans (h.old id hi), fun id hi => (k.oldc id hi).trans (h.oldc id hi), fun id b e => ?_, k.os.trans h.os, k.tape.trans h.tape, k.output.trans h.output, Nat.le_trans h.size k.size, fun q hq hne => ?_⟩
  · rcases k.new id b e with ⟨h1, h2⟩ | ⟨h1, h2 | ⟨j, h2, h3⟩⟩
    · exact .inl ⟨h1, by rw [← h.old id h1]; exact h2⟩
    · exact .inr ⟨h1, .inl (Nat.le_trans h.size h2)⟩
    · rcases h.new j b h3 with ⟨h4, _⟩ | ⟨_, h4⟩
      · omega
      · exact .inr ⟨h1, h4⟩
  · rw [k.keep q (Nat.lt_of_lt_of_le hq h.size) ?_, h.keep q hq fun id hb => ⟨(hne id hb).1, fun hw => (hne id hb).2 (hW id hw (hne id hb).1)⟩]
    intro id hb
    rcases h.new id q hb with ⟨h1, h2⟩ | ⟨h1, h2 | ⟨j, h2, h3⟩⟩
    · exact hne id h2
    · omega
    · have := (hne j h3).1; omega
end Ab
end Go.Proofs.YtpdckpifhniioaaGreat
namespace Go.Proofs.YtpdckpifhniioaaGreat
open Go.RowKit
namespace Ab
def All : List Prop → Prop
  | [] => True
  | p :: ps => p ∧ All ps
theorem All.append : ∀ {l m : List Prop}, All (l ++ m) ↔ All l ∧ All m
  | [], m => by simp [All]
  | p :: l, m => by simp only [List.cons_append, All, All.append (l := l) (m := m), and_assoc]
/-- What an operation does: its value; the blocks that it reads; the blocks that it writes or makes (n names are new); what must hold. -/
structure Eff where
  v : SV
  rd : List Nat := []
  wr : List (Nat × Blk) := []
  nw : Nat := 0
  dc : List (Nat × Nat × Bool) := []
  obs : List Prop := []
/-- What is taken for granted of the blocks' rooms: is it enough for so many elements? -/
def DcOK (β : Bt) (dc : List (Nat × Nat × Bool)) : Prop := ∀ p ∈ dc, ∀ v, β.c p.1 = some v → decide (p.2.1 ≤ v) = p.2.2
/-- After an operation. -/
structure Done (n nw : Nat) (β : Bt) (x : World) (wr : List (Nat × Blk)) (v : SV) (y : Value) (β' : Bt) (x' : World) : Prop where
  den : v.den β' y
  ext : Ext β β'
  new : ∀ id b, β' id = some b → β id = some b ∨ (n ≤ id ∧ id < n + nw ∧ x.heap.size ≤ b)
  newc : ∀ id v, β'.c id = some v → β.c id = some v ∨ (n ≤ id ∧ id < n + nw)
  inj : ∀ i j b, β' i = some b → β' j = some b → i = j
  lt : ∀ i b, β' i = some b → b < x'.heap.size
  os : x'.os = x.os
  tape : x'.tape = x.tape
  output : x'.output = x.output
  size : x.heap.size ≤ x'.heap.size
  keep : ∀ k, k < x.heap.size → (∀ id, β id = some k → lk wr id = none) → x'.heap[k]? = x.heap[k]?
  blk : ∀ id b k, β' id = some b → lk wr id = some k → BlkAt β' x' b k
def Enters (P : Program) (f : Nat) : Prop := ∀ (args : Array Value) (w : World), (callFunc f args).run P w = .ok (.enter f args) w
/-- A call of f. H: the blocks that it reads; dc: what it takes for granted of their rooms. -/
def CallOKd (P : Program) (f : Nat) (dc : List (Nat × Nat × Bool)) (args : List SV) (H : List (Nat × Blk)) (n : Nat) (v : SV) (wr : List (Nat × Blk)) (nw : Nat) : Prop :=
  Enters P f ∧ ∀ (β : Bt) (x : World) (vals : List Value), All2 (SV.den β) args vals → (∀ i j b, β i = some b → β j = some b → i = j) → (∀ i b, β i = some b → b < x.heap.size) →
    (∀ id, n ≤ id → id < n + nw → β id = none ∧ β.c id = none) → (∀ id b k, β id = some b → lk H id = some k → BlkAt β x b k) → DcOK β dc →
    Calls P f vals.toArray x fun e x' => ∃ y β', e = .returned y ∧ Done n nw β x wr v y β' x'
abbrev CallOK (P : Program) (f : Nat) (args : List SV) (H : List (Nat × Blk)) (n : Nat) (v : SV) (wr : List (Nat × Blk)) (nw : Nat) : Prop := CallOKd P f [] args H n v wr nw
/-- Two values of a struct type compared. -/
def EqOK (P : Program) (t : Nat) (xs ys : List Leaf) (b : Bool) : Prop :=
  ∀ (β : Bt) (u v : List Value) (x y : Operand) (w : World), All2 (Leaf.den β) xs u → All2 (Leaf.den β) ys v →
    (do eqGuard .eql t x y (.agg u.toArray) (.agg v.toArray); binOp .eql t (.agg u.toArray) (.agg v.toArray) : Sem Value).run P w = .ok (.bool b) w ∧
    (do eqGuard .neq t x y (.agg u.toArray) (.agg v.toArray); binOp .neq t (.agg u.toArray) (.agg v.toArray) : Sem Value).run P w = .ok (.bool (!b)) w
structure Cr where
  v : SV
  rd : List Nat := []
  wr : List (Nat × Blk) := []
  nw : Nat := 0
  dc : List (Nat × Nat × Bool) := []
/-- ap: is there room, where a slice grows? -/
structure Cx where
  ct : Nat → Option (Bool → St → List SV → Option Cr)
  eq : Nat → Option (List Leaf → List Leaf → Bool)
  raw : List Nat
  sym : List Nat
  nf : List (Nat × SV)
  ap : Bool
  ex : List Nat := []
  wh : List Nat := []
def memb (i : Nat) : List Nat → Bool
  | [] => false
  | k :: l => match Nat.beq k i with | true => true | false => memb i l
def evo (S : St) : Operand → SV
  | .tmp t => S.sl t
  | .const v => match leafy v with | true => .c (.l (.v v)) | false => .u
  | .func f => .c (.l (.f f []))
  | .global _ => .u
abbrev iv (k : IntKind) (n : Int) : SV := .c (.l (.v (.int k n)))
abbrev bv (b : Bool) : SV := .c (.l (.v (.bool b)))
/-- Arithmetic of integers; 'raw': the wrapped result. -/
def arith (raw : Bool) (k : IntKind) (n : Int) : SV × List Prop := match raw, k with
  | false, .i64 => (iv .i64 n, [IntKind.i64.wrap n = n])
  | _, k => (iv k (k.wrap n), [])
def bitsV (op : BinOp) (k : IntKind) (x y : Int) : Int := match op with
  | .and => k.wrap (BitVec.ofInt k.bits x &&& BitVec.ofInt k.bits y).toNat
  | .or => k.wrap (BitVec.ofInt k.bits x ||| BitVec.ofInt k.bits y).toNat
  | .xor => k.wrap (BitVec.ofInt k.bits x ^^^ BitVec.ofInt k.bits y).toNat
  | _ => k.wrap (BitVec.ofInt k.bits x &&& ~~~BitVec.ofInt k.bits y).toNat
def intOp (raw : Bool) (op : BinOp) (k : IntKind) (a b : Int) : Option (SV × List Prop) := match op with
  | .add => some (arith raw k (a + b))
  | .sub => some (arith raw k (a - b))
  | .mul => some (arith raw k (a * b))
  | .quo => some ((arith raw k (a.tdiv b)).1, (b ≠ 0) :: (arith raw k (a.tdiv b)).2)
  | .rem => some (iv k (a.tmod b), [b ≠ 0])
  | .and => some (iv k (bitsV .and k a b), [])
  | .or => some (iv k (bitsV .or k a b), [])
  | .xor => some (iv k (bitsV .xor k a b), [])
  | .andNot => some (iv k (bitsV .andNot k a b), [])
  | .eql => some (bv (a == b), [])
  | .neq => some (bv (a != b), [])
  | .lss => some (bv (decide (a < b)), [])
  | .leq => some (bv (decide (a ≤ b)), [])
  | .gtr => some (bv (decide (a > b)), [])
  | .geq => some (bv (decide (a ≥ b)), [])
  | _ => none
def shiftOp (raw : Bool) (op : BinOp) (k : IntKind) (a b : Int) : Option (SV × List Prop) := match op with
  | .shl => some ((arith raw k (a * 2 ^ (min b.toNat k.bits))).1, (0 ≤ b) :: (arith raw k (a * 2 ^ (min b.toNat k.bits))).2)
  | .shr => some (iv k (a.fdiv (2 ^ (min b.toNat k.bits))), [0 ≤ b])
  | _ => none
def isShift : BinOp → Bool
  | .shl | .shr => true
  | _ => false
def stBin (P : Program) (cx : Cx) (d : Nat) (op : BinOp) (t : Nat) (x y : SV) : Option Eff := match x, y with
  | .c (.l (.v (.int k a))), .c (.l (.v (.int k' b))) => match isShift op with
    | true => match shiftOp (memb d cx.raw) op k a b with | some (v, o) => some { v := v, obs := o } | none => none
    | false => match decide (k = k') with
      | true => match intOp (memb d cx.raw) op k a b with | some (v, o) => some { v := v, obs := o } | none => none
      | false => none
  | .c (.l (.v (.string a))), .c (.l (.v (.string b))) => match op with
    | .add => some { v := .c (.l (.v (.string (a ++ b)))), obs := [((a.size + b.size : Nat) : Int) ≤ IntKind.i64.max] }
    | .eql => some { v := bv (a.toList == b.toList) }
    | .neq => some { v := bv (!(a.toList == b.toList)) }
    | _ => none
  | .c (.l (.v (.bool a))), .c (.l (.v (.bool b))) => match P.underlying t with
    | some .bool => match op with
      | .eql => some { v := bv (a == b) }
      | .neq => some { v := bv (!(a == b)) }
      | _ => none
    | _ => none
  | .c (.l (.p _ _)), .c (.l (.v (.pointer none))) => match P.underlying t with
    | some (.pointer _) => match op with
      | .eql => some { v := bv false }
      | .neq => some { v := bv true }
      | _ => none
    | _ => none
  | .c (.l (.v (.pointer none))), .c (.l (.v (.pointer none))) => match P.underlying t with
    | some (.pointer _) => match op with
      | .eql => some { v := bv true }
      | .neq => some { v := bv false }
      | _ => none
    | _ => none
  | .c (.agg xs), .c (.agg ys) => match cx.eq t with
    | some q => match op with
      | .eql => some { v := bv (q xs ys), obs := [EqOK P t xs ys (q xs ys)] }
      | .neq => some { v := bv (!(q xs ys)), obs := [EqOK P t xs ys (q xs ys)] }
      | _ => none
    | none => none
  | _, _ => none
def szB (P : Program) (t : Nat) : Option Nat := match P.info? t with | some i => some i.size | none => none
def aggB (P : Program) (t : Nat) : Option Bool := match P.underlying t with | some d => some d.isRow | none => none
def zc (P : Program) (t : Nat) : Option (List Leaf) := match P.info? t with
  | some i => match i.zero with
    | some z => match z.cells.toList.all leafy with
      | true => some (z.cells.toList.map .v)
      | false => none
    | none => none
  | none => none
/-- A bound: decided, or asked for. -/
def bound (sym : Bool) (b : Bool) (p : Prop) : Option (List Prop) := match sym with
  | true => some [p]
  | false => match b with | true => some [] | false => none
def stLoad (P : Program) (cx : Cx) (d : Nat) (S : St) (t : Nat) (x : SV) : Option Eff := match x with
  | .c (.l (.p id off)) => match S.blkW id with
    | some k => match aggB P t, szB P t with
      | some false, _ => match bound (memb d cx.sym) (Nat.blt off k.cs.length) (off < k.cs.length) with
        | some o => some { v := .c (.l (k.cs.getD off .u)), rd := [id], obs := o }
        | none => none
      | some true, some n => match bound (memb d cx.sym) (Nat.ble (off + n) k.cs.length) (off + n ≤ k.cs.length) with
        | some o => some { v := .c (.agg ((k.cs.drop off).take n)), rd := [id], obs := o }
        | none => none
      | _, _ => none
    | none => match S.blk id, aggB P t, memb d cx.sym with
      | some k, some false, true => some { v := .c (.l (k.cs.getD off .u)), rd := [id], obs := [off < k.cs.length, k.cs.getD off .u ≠ .u] }
      | _, _, _ => none
  | _ => none
/-- A store; of the types of wh, into the whole block. -/
def whC (cs : List Leaf) (off : Nat) (m : List Leaf) : Bool → List Leaf
  | true => m
  | false => splice cs off m
def whO (off l n : Nat) : Bool → List Prop
  | true => [off = 0, l = n]
  | false => []
theorem splice_full' : ∀ (m z : List Leaf) (p : List Leaf), z.length = m.length → splice (p ++ z) p.length m = p ++ m
  | [], z, p, h => by
    have : z = [] := List.eq_nil_of_length_eq_zero h
    subst this; rfl
  | a :: m, b :: z, p, h => by
    have := splice_full' m z (p ++ [a]) (by simpa using h)
    rw [splice, List.set_append_right _ _ (Nat.le_refl _), Nat.sub_self, List.set_cons_zero]
    simpa using this
  | a :: m, [], p, h => by simp at h
theorem whC_eq {cs m : List Leaf} {off n : Nat} {w : Bool} (h : All (whO off cs.length n w)) (hn : m.length = n) : whC cs off m w = splice cs off m := by
  cases w with
  | false => rfl
  | true =>
    obtain ⟨h1, h2, _⟩ := h
    subst h1
    exact (splice_full' m cs [] (by omega)).symm
def stStore (P : Program) (cx : Cx) (d : Nat) (S : St) (t : Nat) (x y : SV) : Option Eff := match x, y with
  | .c (.l (.p id off)), .c cp => match S.blkW id, szB P t with
    | some k, some n => match Nat.beq cp.cells.length n with
      | true => match bound (memb d cx.sym) (Nat.ble (off + n) k.cs.length) (off + n ≤ k.cs.length) with
        | some o => some { v := .u, rd := [id], wr := [(id, ⟨whC k.cs off cp.cells (memb t cx.wh), k.ty⟩)], obs := o ++ whO off k.cs.length n (memb t cx.wh) }
        | none => none
      | false => none
    | _, _ => none
  | _, _ => none
def stField (P : Program) (t : Nat) (xs : List Leaf) (off : Nat) : Option SV := match aggB P t, szB P t with
  | some true, some n => some (.c (.agg ((xs.drop off).take n)))
  | some false, _ => match Nat.blt off xs.length with | true => some (.c (.l (xs.getD off .u))) | false => none
  | _, _ => none
def InR (i : Int) (n : Nat) : Prop := 0 ≤ i ∧ i < n
def inR (i : Int) (n : Nat) : Bool := match i with | .ofNat k => Nat.blt k n | .negSucc _ => false
def stIndex (P : Program) (cx : Cx) (d : Nat) (t : Nat) (x y : SV) : Option Eff := match x, y with
  | .c (.agg xs), .c (.l (.v (.int k i))) => match P.underlying t with
    | some (.array len elem) => match szB P elem, aggB P elem with
      | some n, some true => match bound (memb d cx.sym) (inR i len) (InR i len) with
        | some o => some { v := .c (.agg ((xs.drop (i.toNat * n)).take n)), obs := o }
        | none => none
      | some n, some false => match bound (memb d cx.sym) (inR i len && Nat.blt (i.toNat * n) xs.length) (InR i len ∧ i.toNat * n < xs.length) with
        | some o => some { v := .c (.l (xs.getD (i.toNat * n) .u)), obs := o }
        | none => none
      | _, _ => none
    | _ => none
  | .c (.l (.v (.string s))), .c (.l (.v (.int k i))) => match P.underlying t with
    | some .string => match bound (memb d cx.sym) (inR i s.size) (InR i s.size) with
      | some o => some { v := iv .u8 (s.get! i.toNat).toNat, obs := o }
      | none => none
    | _ => none
  | _, _ => none
def stIndexAddr (P : Program) (cx : Cx) (d : Nat) (t : Nat) (x y : SV) : Option Eff := match x, y with
  | .c (.l (.p id off)), .c (.l (.v (.int k i))) => match P.underlying t with
    | some (.array len elem) => match szB P elem with
      | some n => match bound (memb d cx.sym) (inR i len) (InR i len) with
        | some o => some { v := .c (.l (.p id (off + i.toNat * n))), obs := o }
        | none => none
      | none => none
    | _ => none
  | .c (.l (.s id off len)), .c (.l (.v (.int k i))) => match P.underlying t with
    | some (.slice elem) => match szB P elem with
      | some n => match bound (memb d cx.sym) (inR i len) (InR i len) with
        | some o => some { v := .c (.l (.p id (off + i.toNat * n))), obs := o }
        | none => none
      | none => none
    | _ => none
  | .c (.l (.o id len)), .c (.l (.v (.int k i))) => match P.underlying t with
    | some (.slice elem) => match szB P elem with
      | some n => match bound (memb d cx.sym) (inR i len) (InR i len) with
        | some o => some { v := .c (.l (.p id (i.toNat * n))), obs := o }
        | none => none
      | none => none
    | _ => none
  | _, _ => none
def partP : SV → Option (Leaf × Option Bool)
  | .c (.l x) => some (x, none)
  | .g d (.l x) => some (x, some d)
  | _ => none
def gObs (q : Prop) : Option Bool → List Prop
  | none => []
  | some d => [q → d = true]
def stPick (c a b : SV) : Option Eff := match c, partP a, partP b with
  | .c (.l (.v (.bool q))), some (.v (.bool xa), da), some (.v (.bool xb), db) =>
    some { v := bv (cond q xa xb), obs := gObs (q = true) da ++ gObs (q = false) db }
  | _, _, _ => none
def fillL (place : Nat → Option (Nat × Nat)) (cells : List Leaf) : List (Nat × SV) → Option (List Leaf)
  | [] => some cells
  | (i, v) :: rest => match place i, v with
    | some (off, size), .c cp => match Nat.beq cp.cells.length size, Nat.ble (off + cp.cells.length) cells.length with
      | true, true => fillL place (splice cells off cp.cells) rest
      | _, _ => none
    | _, _ => none
def places (P : Program) : List Field → Option (List (Nat × Nat))
  | [] => some []
  | f :: fs => match szB P f.type, places P fs with
    | some n, some l => some ((f.offset, n) :: l)
    | _, _ => none
def stBuild (P : Program) (S : St) (t : Nat) (parts : List (Nat × Operand)) : Option Eff := match P.underlying t, zc P t with
  | some (.struct fs), some z => match places P fs.toList with
    | some pl => match fillL (fun i => pl[i]?) z (parts.map fun p => (p.1, evo S p.2)) with
      | some xs => some { v := .c (.agg xs) }
      | none => none
    | none => none
  | some (.array _ e), some z => match szB P e with
    | some n => match fillL (fun i => some (i * n, n)) z (parts.map fun p => (p.1, evo S p.2)) with
      | some xs => some { v := .c (.agg xs) }
      | none => none
    | none => none
  | _, _ => none
def ptrs : List SV → Option (List (Nat × Nat))
  | [] => some []
  | .c (.l (.p id off)) :: l => match ptrs l with | some r => some ((id, off) :: r) | none => none
  | _ => none
def mmf (f : Int → Int → Int) (k : IntKind) : Int → List SV → Option SV
  | a, [] => some (iv k a)
  | a, .c (.l (.v (.int _ b))) :: l => mmf f k (f a b) l
  | _, _ => none
def mm (f : Int → Int → Int) : List SV → Option SV
  | .c (.l (.v (.int k a))) :: l => mmf f k a l
  | _ => none
def imin (x y : Int) : Int := if y < x then y else x
def imax (x y : Int) : Int := if y > x then y else x
def stBuiltin (P : Program) (b : Builtin) (tys : List Nat) (args : List SV) : Option Eff := match b with
  | .min => match mm imin args with | some v => some { v := v } | none => none
  | .max => match mm imax args with | some v => some { v := v } | none => none
  | .len => match tys, args with
    | t :: _, [.c (.l (.v (.string s)))] => match P.underlying t with | some .string => some { v := iv .i64 s.size } | _ => none
    | t :: _, [.c (.l (.s _ _ n))] => match P.underlying t with | some (.slice _) => some { v := iv .i64 n } | _ => none
    | t :: _, [.c (.l (.v (.slice _ n _)))] => match P.underlying t with | some (.slice _) => some { v := iv .i64 n } | _ => none
    | t :: _, [.c (.l (.o _ n))] => match P.underlying t with | some (.slice _) => some { v := iv .i64 n } | _ => none
    | _, _ => none
  | _ => none
def sbytes (s : ByteArray) : List Leaf := s.data.toList.map fun b => .v (.int .u8 (b.toNat : Int))
structure Sr where
  m : Nat
  cs : List Leaf
  rd : List Nat
  obs : List Prop
def lfB : Leaf → UInt8
  | .v (.int _ n) => UInt8.ofNat n.toNat
  | _ => 0
/-- The string of unknown bytes' cells. -/
def strL (l : List Leaf) : ByteArray := ⟨(l.map lfB).toArray⟩
def AllB (l : List Leaf) : Prop := ∀ x ∈ l, ∃ b : UInt8, x = .v (.int .u8 (b.toNat : Int))
/-- A new block's type; of the types of ex, all cells are known. -/
def btA (t : Nat) : Bool → BT
  | true => .e t
  | false => .t t
/-- What is appended. -/
def srcL (P : Program) (sym : Bool) (S : St) (t sz : Nat) : SV → Option Sr
  | .c (.l (.s id off m)) => match P.underlying t, S.blkW id with
    | some (.slice _), some k => match bound sym (Nat.ble (off + m * sz) k.cs.length) (off + m * sz ≤ k.cs.length) with
      | some o => some ⟨m, (k.cs.drop off).take (m * sz), [id], o⟩
      | none => none
    | _, _ => none
  | .c (.l (.o id m)) => match P.underlying t, S.blkW id with
    | some (.slice _), some k => match bound sym (Nat.beq (m * sz) k.cs.length) (m * sz = k.cs.length) with
      | some o => some ⟨m, k.cs, [id], o⟩
      | none => none
    | _, _ => none
  | .c (.l (.v (.string s))) => match P.underlying t, sz with
    | some .string, 1 => some ⟨s.size, sbytes s, [], []⟩
    | _, _ => none
  | _ => none
/-- So many elements may be asked for. -/
def ApB (P : Program) (e need : Nat) : Prop := ∀ i, P.info? e = some i → need * (i.bytes + 1) ≤ 140737488355328
def isR (e sz id : Nat) : BT → Bool
  | .r a b c => Nat.beq a e && (Nat.beq b sz && Nat.beq c id)
  | _ => false
/-- A slice grows; in a block with no room for it: in a new one. -/
def stAppend (P : Program) (cx : Cx) (d : Nat) (S : St) (tys : List Nat) (args : List SV) : Option Eff := match tys, args with
  | [t, t2], [.c (.l (.o id len)), x] => match P.underlying t with
    | some (.slice e) => match szB P e, zc P e, S.blk id with
      | some sz, some z, some k => match srcL P (memb d cx.sym) S t2 sz x, bound (memb d cx.sym) (Nat.beq k.cs.length (len * sz)) (k.cs.length = len * sz), isR e sz id k.ty && Nat.beq z.length sz with
        | some r, some o, true => match cx.ap with
          | true => some { v := .c (.l (.o id (len + r.m))), rd := id :: r.rd, wr := [(id, ⟨k.cs ++ r.cs, .r e sz id⟩)], dc := [(id, len + r.m, true)], obs := o ++ r.obs }
          | false => some { v := .c (.l (.o S.n (len + r.m))), rd := id :: r.rd, wr := [(S.n, ⟨k.cs ++ r.cs, .r e sz S.n⟩)], nw := 1, dc := [(id, len + r.m, false)], obs := ApB P e (len + r.m) :: (o ++ r.obs) }
        | _, _, _ => none
      | _, _, _ => none
    | _ => none
  | [t, t2], [.c (.l (.v (.slice none 0 0))), x] => match P.underlying t with
    | some (.slice e) => match szB P e, zc P e with
      | some sz, some z => match srcL P (memb d cx.sym) S t2 sz x, Nat.beq z.length sz with
        | some r, true => some { v := .c (.l (.o S.n r.m)), rd := r.rd, wr := [(S.n, ⟨r.cs, .r e sz S.n⟩)], nw := 1, obs := (0 < r.m) :: ApB P e r.m :: r.obs }
        | _, _ => none
      | _, _ => none
    | _ => none
  | _, _ => none
def rdH (S : St) : List Nat → List (Nat × Blk)
  | [] => []
  | i :: l => match S.blk i with | some k => (i, k) :: rdH S l | none => rdH S l
def stCall (P : Program) (cx : Cx) (d : Nat) (S : St) (c : Call) : Option Eff := match c.callee with
  | .value f => match evo S f with
    | .c (.l (.f fn caps)) => match cx.ct fn with
      | some k => match k cx.ap S ((c.args.toList.map (evo S)) ++ caps.map fun p => .c (.l (.p p.1 p.2))) with
        | some r => some { v := r.v, rd := r.rd, wr := r.wr, nw := r.nw, dc := r.dc, obs := [CallOKd P fn r.dc ((c.args.toList.map (evo S)) ++ caps.map fun p => .c (.l (.p p.1 p.2))) (rdH S r.rd) S.n r.v r.wr r.nw] }
        | none => none
      | none => none
    | _ => none
  | .builtin .append => stAppend P cx d S c.argTypes.toList (c.args.toList.map (evo S))
  | .builtin b => stBuiltin P b c.argTypes.toList (c.args.toList.map (evo S))
  | _ => none
def optI (S : St) : Option Operand → Int → Option Int
  | none, d => some d
  | some p, _ => match evo S p with | .c (.l (.v (.int _ i))) => some i | _ => none
def SlOK (i j n : Int) : Prop := 0 ≤ i ∧ i ≤ j ∧ j ≤ n
/-- A slice's part; it lies within the slice's length and its address is known. -/
def SlS (i j n : Int) : Prop := 0 ≤ i ∧ i ≤ j ∧ j ≤ n ∧ (i < n ∨ i = 0)
def stSlice (P : Program) (S : St) (t : Nat) (x : SV) (lo hi mx : Option Operand) : Option Eff := match x, mx with
  | .c (.l (.v (.string s))), none => match P.underlying t with
    | some .string => match optI S lo 0, optI S hi s.size with
      | some i, some j => some { v := .c (.l (.v (.string (s.extract i.toNat j.toNat)))), obs := [SlOK i j s.size] }
      | _, _ => none
    | _ => none
  | .c (.l (.s id off len)), none => match P.underlying t with
    | some (.slice e) => match szB P e, optI S lo 0, optI S hi len with
      | some sz, some i, some j => some { v := .c (.l (.s id (off + i.toNat * sz) (j - i).toNat)), obs := [SlS i j len] }
      | _, _, _ => none
    | _ => none
  | _, _ => none
def stMake (P : Program) (S : St) (t : Nat) (x y : SV) : Option Eff := match P.underlying t, x, y with
  | some (.slice e), .c (.l (.v (.int _ 0))), .c (.l (.v (.int _ (.ofNat c)))) => match P.info? e with
    | some i => match i.zero, i.size with
      | some _, 1 => match Nat.ble (i.bytes * c) 281474976710656, Nat.ble c 16777216 with
        | true, true => some { v := .c (.l (.o S.n 0)), wr := [(S.n, ⟨[], .r e 1 S.n⟩)], nw := 1 }
        | _, _ => none
      | _, _ => none
    | none => none
  | _, _, _ => none
def stBs (P : Program) (S : St) (t len : Nat) (ps : List (Nat × Operand)) : Option Eff := match P.underlying t with
  | some (.slice e) => match szB P e, zc P e with
    | some 1, some [z] => match Nat.ble len 1000, fillL (fun i => some (i * 1, 1)) (List.replicate len z) (ps.map fun p => (p.1, evo S p.2)) with
      | true, some xs => match Nat.beq xs.length len with
        | true => some { v := .c (.l (.o S.n len)), wr := [(S.n, ⟨xs, .r e 1 S.n⟩)], nw := 1 }
        | false => none
      | _, _ => none
    | some (n + 2), some z => match len, Nat.ble n 1000 && Nat.beq z.length (n + 2), fillL (fun i => some (i * (n + 2), n + 2)) z (ps.map fun p => (p.1, evo S p.2)) with
      | 0, _, _ => match ps with
        | [] => some { v := .c (.l (.o S.n 0)), wr := [(S.n, ⟨[], .r e (n + 2) S.n⟩)], nw := 1 }
        | _ => none
      | 1, true, some xs => match Nat.beq xs.length (n + 2) with
        | true => some { v := .c (.l (.o S.n 1)), wr := [(S.n, ⟨xs, .r e (n + 2) S.n⟩)], nw := 1 }
        | false => none
      | _, _, _ => none
    | _, _ => none
  | _ => none
def byteOf : Leaf → Option Int
  | .v (.int .u8 b) => some b
  | _ => none
def bytesOf : List Leaf → Option (List Int)
  | [] => some []
  | x :: l => match byteOf x, bytesOf l with | some b, some r => some (b :: r) | _, _ => none
def strOf (bs : List Int) : ByteArray := ⟨(bs.map fun b => UInt8.ofNat b.toNat).toArray⟩
def inByte (b : Int) : Prop := 0 ≤ b ∧ b < 256
def stConv (P : Program) (sym : Bool) (S : St) (s t : Nat) (x : SV) : Option Eff := match P.underlying s, P.underlying t, x with
  | some (.slice e), some .string, .c (.l (.s id off len)) => match P.underlying e, S.blkW id with
    | some (.int .u8), some k => match sym with
     | true => some { v := .c (.l (.v (.string (strL ((k.cs.drop off).take len))))), rd := [id], obs := [off + len ≤ k.cs.length, AllB ((k.cs.drop off).take len)] }
     | false => match bytesOf ((k.cs.drop off).take len) with
      | some bs => match Nat.beq bs.length len with
        | true => some { v := .c (.l (.v (.string (strOf bs)))), rd := [id], obs := bs.map inByte }
        | false => none
      | none => none
    | _, _ => none
  | some (.slice e), some .string, .c (.l (.o id len)) => match P.underlying e, S.blkW id with
    | some (.int .u8), some k => match sym with
     | true => some { v := .c (.l (.v (.string (strL k.cs)))), rd := [id], obs := [k.cs.length = len, AllB k.cs] }
     | false => match bytesOf k.cs with
      | some bs => match Nat.beq bs.length len with
        | true => some { v := .c (.l (.v (.string (strOf bs)))), rd := [id], obs := bs.map inByte }
        | false => none
      | none => none
    | _, _ => none
  | some (.int _), some (.int k), .c (.l (.v (.int _ n))) => some { v := iv k (k.wrap n) }
  | some .string, some .string, .c (.l (.v (.string s))) => some { v := .c (.l (.v (.string s))) }
  | some .string, some (.slice e), .c (.l (.v (.string s))) => match P.underlying e with
    | some (.int .u8) => some { v := .c (.l (.s S.n 0 s.size)), wr := [(S.n, ⟨sbytes s, .y e⟩)], nw := 1 }
    | _ => none
  | _, _, _ => none
def step (P : Program) (cx : Cx) (S : St) (o : Oper) : Option Eff := match o.op with
  | .move x | .assign x => some { v := evo S x }
  | .pick c a b => stPick (evo S c) (evo S a) (evo S b)
  | .alloc t => match zc P t with
    | some z => some { v := .c (.l (.p S.n 0)), wr := [(S.n, ⟨z, btA t (memb t cx.ex)⟩)], nw := 1 }
    | none => none
  | .box t x => match evo S x with
    | .c cp => some { v := .c (.l (.p S.n 0)), wr := [(S.n, ⟨cp.cells, .t t⟩)], nw := 1 }
    | _ => none
  | .build t parts => stBuild P S t parts.toList
  | .load t x => stLoad P cx (o.dst.getD 0) S t (evo S x)
  | .store t x y => stStore P cx (o.dst.getD 0) S t (evo S x) (evo S y)
  | .binOp op t x y _ => stBin P cx (o.dst.getD 0) op t (evo S x) (evo S y)
  | .unOp op t x => match op, evo S x with
    | .not, .c (.l (.v (.bool b))) => some { v := bv (!b) }
    | .neg, .c (.l (.v (.int k n))) => some { v := (arith (memb (o.dst.getD 0) cx.raw) k (0 - n)).1, obs := (arith (memb (o.dst.getD 0) cx.raw) k (0 - n)).2 }
    | _, _ => none
  | .convert s t x => stConv P (memb (o.dst.getD 0) cx.sym) S s t (evo S x)
  | .makeSlice t x y => stMake P S t (evo S x) (evo S y)
  | .nilCheck x => match evo S x with
    | .c (.l (.p id off)) => some { v := .c (.l (.p id off)) }
    | _ => none
  | .slice t x lo hi mx => stSlice P S t (evo S x) lo hi mx
  | .buildSlice t len ps => stBs P S t len ps.toList
  | .makeFunc fn first caps => match fn, first.toList, ptrs (caps.toList.map (evo S)) with
    | .func f, [], some l => some { v := .c (.l (.f f l)) }
    | _, _, _ => none
  | .fieldAddr t x i => match P.underlying t, evo S x with
    | some (.struct fs), .c (.l (.p id off)) => match fs.toList[i]? with
      | some f => match szB P f.type with
        | some (n + 1) => some { v := .c (.l (.p id (off + f.offset))) }
        | _ => none
      | none => none
    | _, _ => none
  | .field t x i => match P.underlying t, evo S x with
    | some (.struct fs), .c (.agg xs) => match fs.toList[i]? with
      | some f => match stField P f.type xs f.offset with | some v => some { v := v } | none => none
      | none => none
    | _, _ => none
  | .indexAddr t x i => stIndexAddr P cx (o.dst.getD 0) t (evo S x) (evo S i)
  | .index t x i => stIndex P cx (o.dst.getD 0) t (evo S x) (evo S i)
  | .extract x i => match evo S x with
    | .tup xs => match xs[i]? with | some c => some { v := .c c } | none => none
    | _ => none
  | .call c => stCall P cx (o.dst.getD 0) S c
  | _ => none
end Ab
end Go.Proofs.YtpdckpifhniioaaGreat
namespace Go.Proofs.YtpdckpifhniioaaGreat
open Go.RowKit
namespace Ab
section
variable {P : Program} {cx : Cx} {S : St} {β : Bt} {a : Act} {x : World} {o : Oper} {e : Eff} {Q : Exit → Act → World → Prop}
def Goal (P : Program) (o : Oper) (a : Act) (x : World) (n : Nat) (e : Eff) (β : Bt) (Q : Exit → Act → World → Prop) : Prop :=
  o.wp P a x (fun a' x' => ∃ y β', a' = a.put o.dst y ∧ Done n e.nw β x e.wr e.v y β' x') Q
/-- What is known of (β, x) alone. -/
structure Wf (β : Bt) (x : World) : Prop where
  inj : ∀ i j b, β i = some b → β j = some b → i = j
  lt : ∀ i b, β i = some b → b < x.heap.size
theorem done_id {n nw : Nat} {v : SV} {y : Value} (hw : Wf β x) (hd : v.den β y) : Done n nw β x [] v y β x :=
  ⟨hd, Ext.refl β, fun id b h => .inl h, fun id v h => .inl h, hw.inj, hw.lt, rfl, rfl, rfl, Nat.le_refl _, fun _ _ _ => rfl, fun _ _ _ _ h => by cases h⟩
/-- The name n, new. -/
def Bt.set (β : Bt) (n b : Nat) (c : Option Nat) : Bt := ⟨fun i => if i = n then some b else β i, fun i => if i = n then c else β.c i⟩
theorem Bt.set_b (β : Bt) (n b : Nat) (c : Option Nat) : (β.set n b c) n = some b := if_pos rfl
theorem Bt.set_c (β : Bt) (n b : Nat) (c : Option Nat) : (β.set n b c).c n = c := if_pos rfl
theorem Bt.set_ne (β : Bt) {n b i : Nat} {c : Option Nat} (h : i ≠ n) : (β.set n b c) i = β i := if_neg h
theorem Bt.set_cne (β : Bt) {n b i : Nat} {c : Option Nat} (h : i ≠ n) : (β.set n b c).c i = β.c i := if_neg h
theorem Bt.set_ext {β : Bt} {n b : Nat} {c : Option Nat} (hn : β n = none ∧ β.c n = none) : Ext β (β.set n b c) :=
  ⟨fun i v h => by rw [Bt.set_ne β (fun e => by subst e; rw [hn.1] at h; cases h)]; exact h, fun i v h => by rw [Bt.set_cne β (fun e => by subst e; rw [hn.2] at h; cases h)]; exact h⟩
theorem done_new {n : Nat} {k : Blk} {v : SV} {y : Value} {c : Option Nat} {x' : World} (hw : Wf β x) (hn : β n = none ∧ β.c n = none) (h1 : x'.os = x.os) (h2 : x'.tape = x.tape) (h3 : x'.output = x.output) (hs : x.heap.size < x'.heap.size)
    (hk : ∀ q, q < x.heap.size → x'.heap[q]? = x.heap[q]?) (hd : v.den (β.set n x.heap.size c) y) (hb : BlkAt (β.set n x.heap.size c) x' x.heap.size k) : Done n 1 β x [(n, k)] v y (β.set n x.heap.size c) x' := by
  refine ⟨hd, Bt.set_ext hn, ?_, ?_, ?_, ?_, h1, h2, h3, Nat.le_of_lt hs, fun q hq _ => hk q hq, ?_⟩
  · intro id b h
    by_cases e : id = n
    · subst e
      rw [Bt.set_b] at h; cases h
      exact .inr ⟨Nat.le_refl _, by omega, Nat.le_refl _⟩
    · rw [Bt.set_ne β e] at h; exact .inl h
  · intro id v h
    by_cases e : id = n
    · exact .inr ⟨by omega, by omega⟩
    · rw [Bt.set_cne β e] at h; exact .inl h
  · intro i j b hi hj
    by_cases ei : i = n
    · subst ei
      rw [Bt.set_b] at hi; cases hi
      by_cases ej : j = i
      · exact ej.symm
      · rw [Bt.set_ne β ej] at hj; have := hw.lt j _ hj; omega
    · rw [Bt.set_ne β ei] at hi
      by_cases ej : j = n
      · subst ej; rw [Bt.set_b] at hj; cases hj; have := hw.lt i _ hi; omega
      · rw [Bt.set_ne β ej] at hj; exact hw.inj i j b hi hj
  · intro i b hi
    by_cases ei : i = n
    · subst ei; rw [Bt.set_b] at hi; cases hi; exact hs
    · rw [Bt.set_ne β ei] at hi; have := hw.lt i b hi; omega
  · intro id b k' hb' hk'
    have e : id = n := by
      have := lk_mem hk'
      simp only [List.mem_singleton, Prod.mk.injEq] at this; exact this.1
    subst e
    rw [lk_cons_eq] at hk'; cases hk'
    rw [Bt.set_b] at hb'; cases hb'
    exact hb
theorem goal_val {n : Nat} {y : Value} (hw : Wf β x) (hr : (execOp a.eval o).run P x = .ok (.value y) x) (hd : e.v.den β y) (he : e.wr = []) : Goal P o a x n e β Q := by
  unfold Goal Oper.wp
  rw [hr, Oper.upon_value, he]
  exact ⟨y, β, rfl, done_id hw hd⟩
theorem run_v {s : Sem Value} {y : Value} {x' : World} (h : s.run P x = .ok y x') : (do pure (Next.value (← s)) : Sem Next).run P x = .ok (.value y) x' := by
  simp [Sem.run_bind, h]
theorem goal_v {n : Nat} {y : Value} {s : Sem Value} (hw : Wf β x) (hx : execOp a.eval o = (do pure (Next.value (← s)))) (hr : s.run P x = .ok y x) (hd : e.v.den β y) (he : e.wr = []) : Goal P o a x n e β Q :=
  goal_val hw (by rw [hx]; exact run_v hr) hd he
/-- A new block. -/
theorem goal_new {n : Nat} {cs : List Leaf} {ys : List Value} {t : Nat} {s : Sem Value} (hw : Wf β x) (hn : β n = none ∧ β.c n = none) (hx : execOp a.eval o = (do pure (Next.value (← s))))
    (hr : s.run P x = .ok (.pointer (some ⟨x.heap.size, 0, none⟩)) (x.alloc (.cells ys.toArray t))) (hc : All2 (Leaf.den β) cs ys) (he : e = { v := .c (.l (.p n 0)), wr := [(n, ⟨cs, .t t⟩)], nw := 1 }) : Goal P o a x n e β Q := by
  subst he
  unfold Goal Oper.wp
  rw [hx, run_v hr, Oper.upon_value]
  exact ⟨_, β.set n x.heap.size none, rfl, done_new hw hn rfl rfl rfl (by simp) (fun q hq => Below.heap_alloc x _ q hq) ⟨x.heap.size, Bt.set_b _ _ _ _, rfl⟩ (.inr ⟨ys, [], by simpa [BT.ty, BT.fr] using heap_alloc_new x (.cells ys.toArray t), hc.mono fun _ _ q => Leaf.ext (Bt.set_ext hn) q, trivial⟩)⟩
theorem run_sz {t n : Nat} (h : szB P t = some n) (w : World) : (sizeOf t).run P w = .ok n w := by
  unfold szB at h
  split at h
  · rename_i i hi; cases h; simp [sizeOf, typeInfo, hi]
  · cases h
theorem info_sz {t n : Nat} (h : szB P t = some n) : (P.info? t).map (·.size) = some n := by
  unfold szB at h
  split at h
  · rename_i i hi; cases h; simp [hi]
  · cases h
theorem agg_desc {t : Nat} {b : Bool} (h : aggB P t = some b) : ∃ d, P.underlying t = some d ∧ d.isRow = b := by
  unfold aggB at h
  split at h
  · rename_i d hd; cases h; exact ⟨d, hd, rfl⟩
  · cases h
theorem run_agg {t : Nat} {b : Bool} (h : aggB P t = some b) (w : World) : (isAgg t).run P w = .ok b w := by
  obtain ⟨d, hd, hr⟩ := agg_desc h
  unfold isAgg
  rw [Sem.run_bind, run_underlying hd w]
  cases d <;> simp_all [TypeDesc.isRow]
theorem bound_holds {sym b : Bool} {p : Prop} {os : List Prop} (h : bound sym b p = some os) (ho : All os) (hb : b = true → p) : p := by
  unfold bound at h
  cases sym with
  | true => simp only [Option.some.injEq] at h; subst h; exact ho.1
  | false =>
    cases b with
    | true => exact hb rfl
    | false => cases h
theorem iv_den {k : IntKind} {n : Int} {y : Value} : (iv k n).den β y ↔ y = .int k n := ⟨fun h => h.1, fun h => ⟨h, rfl⟩⟩
theorem bv_den {b : Bool} {y : Value} : (bv b).den β y ↔ y = .bool b := ⟨fun h => h.1, fun h => ⟨h, rfl⟩⟩
theorem zc_spec {t : Nat} {z : List Leaf} (h : zc P t = some z) : ∃ v, (∀ w, (zeroValue t).run P w = .ok v w) ∧ z = v.cells.toList.map .v ∧ (∀ y ∈ v.cells.toList, leafy y = true) := by
  unfold zc at h
  split at h
  · rename_i i hi
    split at h
    · rename_i v hv
      split at h
      · rename_i hl
        cases h
        exact ⟨v, fun w => by simp [zeroValue, typeInfo, hi, hv], rfl, fun y hy => (List.all_eq_true.1 hl) y hy⟩
      · cases h
    · cases h
  · cases h
theorem den_vs {β : Bt} : ∀ {l : List Value}, (∀ y ∈ l, leafy y = true) → All2 (Leaf.den β) (l.map .v) l
  | [], _ => trivial
  | y :: l, h => ⟨⟨rfl, h y (by simp)⟩, den_vs fun z hz => h z (by simp [hz])⟩
theorem goal_newE {n : Nat} {cs : List Leaf} {ys : List Value} {t : Nat} {s : Sem Value} (hw : Wf β x) (hn : β n = none ∧ β.c n = none) (hx : execOp a.eval o = (do pure (Next.value (← s))))
    (hr : s.run P x = .ok (.pointer (some ⟨x.heap.size, 0, none⟩)) (x.alloc (.cells ys.toArray t))) (hc : All2 (Leaf.den β) cs ys) (q : Bool) (he : e = { v := .c (.l (.p n 0)), wr := [(n, ⟨cs, btA t q⟩)], nw := 1 }) : Goal P o a x n e β Q := by
  cases q with
  | false => exact goal_new hw hn hx hr hc he
  | true =>
    subst he
    unfold Goal Oper.wp
    rw [hx, run_v hr, Oper.upon_value]
    exact ⟨_, β.set n x.heap.size none, rfl, done_new hw hn rfl rfl rfl (by simp) (fun q hq => Below.heap_alloc x _ q hq) ⟨x.heap.size, Bt.set_b _ _ _ _, rfl⟩ (.inr ⟨ys, [], by simpa [BT.ty, BT.fr, btA] using heap_alloc_new x (.cells ys.toArray t), hc.mono fun _ _ q => Leaf.ext (Bt.set_ext hn) q, by simp [btA, BT.room]⟩)⟩
theorem ok_alloc {n : Nat} {t : Nat} {z : List Leaf} {q : Bool} (hw : Wf β x) (hn : β n = none ∧ β.c n = none) (ho : o.op = .alloc t) (hz : zc P t = some z) (he : e = { v := .c (.l (.p n 0)), wr := [(n, ⟨z, btA t q⟩)], nw := 1 }) : Goal P o a x n e β Q := by
  obtain ⟨v, hv, hzv, hl⟩ := zc_spec hz
  refine goal_newE (ys := v.cells.toList) (t := t) (cs := z) hw hn (s := Instr.alloc t true (.tuple #[])) (by unfold execOp; rw [ho]) ?_ (hzv ▸ den_vs hl) q he
  simp [Instr.alloc, hv, newVar, newRow, newObj, Sem.run]
  try rfl
theorem ok_box {n : Nat} {t : Nat} {y : Operand} {cp : Cp} (hw : Wf β x) (hn : β n = none ∧ β.c n = none) (ho : o.op = .box t y) (hy : cp.den β (a.eval y)) (he : e = { v := .c (.l (.p n 0)), wr := [(n, ⟨cp.cells, .t t⟩)], nw := 1 }) : Goal P o a x n e β Q := by
  refine goal_new (ys := (a.eval y).cells.toList) (t := t) (cs := cp.cells) hw hn (s := Instr.box t (a.eval y)) (by unfold execOp; rw [ho]) ?_ (Cp.den_cells hy) he
  simp [Instr.box, newVar, newRow, newObj, Sem.run]
  try rfl
theorem getD_get {l : List Leaf} {i : Nat} (h : i < l.length) : l[i]? = some (l.getD i .u) := by
  simp [List.getD, h]
theorem ok_load {n : Nat} {t : Nat} {y : Operand} (hw : Wf β x) (ho : o.op = .load t y) (hy : (evo S y).den β (a.eval y)) (h : stLoad P cx (o.dst.getD 0) S t (evo S y) = some e) (hob : All e.obs)
    (hrd : ∀ id ∈ e.rd, ∀ b k, β id = some b → S.blk id = some k → BlkAt β x b k) : Goal P o a x n e β Q := by
  unfold stLoad at h
  split at h
  · rename_i id off hv
    rw [hv] at hy
    obtain ⟨b, hb, hy⟩ := hy
    split at h
    · rename_i k hk
      obtain ⟨hk, hnq⟩ := blkW_spec hk
      split at h
      · rename_i hag
        split at h
        · rename_i os hos
          cases h
          have hlt := bound_holds hos hob (fun q => Nat.le_of_ble_eq_true q)
          have hB := hrd id (by simp) b k hb hk
          obtain ⟨y', hc, hd⟩ := hB.cell hnq (getD_get hlt)
          refine goal_v hw (s := Instr.loadAt t (a.eval y)) (by unfold execOp; rw [ho]) ?_ hd rfl
          rw [hy]
          simp [Instr.loadAt, Instr.sureAddr, loadVar, run_agg hag, load, Sem.run, hc]
        · cases h
      · rename_i m hag hsz
        split at h
        · rename_i os hos
          cases h
          have hlt := bound_holds hos hob (fun q => Nat.le_of_ble_eq_true q)
          have hB := hrd id (by simp) b k hb hk
          obtain ⟨ys, hr, hl, hd⟩ := hB.range hnq hlt
          obtain ⟨d, hd1, hd2⟩ := agg_desc hag
          refine goal_v hw (s := Instr.loadAt t (a.eval y)) (y := .agg ys.toArray) (by unfold execOp; rw [ho]) ?_ ⟨ys, rfl, hd⟩ rfl
          rw [hy]
          exact run_loadAt_mid x b off t ys d hr hd1 hd2 (by rw [info_sz hsz, hl])
        · cases h
      · cases h
    · split at h
      · rename_i k hk hag _
        cases h
        obtain ⟨hlt, hu, _⟩ := hob
        obtain ⟨y', hc, hd⟩ := (hrd id (by simp) b k hb hk).cellU (getD_get hlt) hu
        refine goal_v hw (s := Instr.loadAt t (a.eval y)) (by unfold execOp; rw [ho]) ?_ hd rfl
        rw [hy]
        simp [Instr.loadAt, Instr.sureAddr, loadVar, run_agg hag, load, Sem.run, hc]
      · cases h
  · cases h
theorem ok_store {n : Nat} {t : Nat} {y z : Operand} (hw : Wf β x) (ho : o.op = .store t y z) (hy : (evo S y).den β (a.eval y)) (hz : (evo S z).den β (a.eval z)) (h : stStore P cx (o.dst.getD 0) S t (evo S y) (evo S z) = some e) (hob : All e.obs)
    (hrd : ∀ id ∈ e.rd, ∀ b k, β id = some b → S.blk id = some k → BlkAt β x b k) : Goal P o a x n e β Q := by
  unfold stStore at h
  split at h
  · rename_i id off cp hv1 hv2
    rw [hv1] at hy
    rw [hv2] at hz
    obtain ⟨b, hb, hy⟩ := hy
    split at h
    · rename_i k m hk hsz
      obtain ⟨hk, hnq⟩ := blkW_spec hk
      split at h
      · rename_i hm
        split at h
        · rename_i os hos
          cases h
          have hm := Nat.eq_of_beq_eq_true hm
          obtain ⟨hob, hwh⟩ := All.append.1 hob
          have hlt := bound_holds hos hob (fun q => Nat.le_of_ble_eq_true q)
          have hB := hrd id (by simp) b k hb hk
          have hcs := Cp.den_cells hz
          have hwc := whC_eq hwh hm
          have hcl := hcs.length
          have hrun : (Instr.storeAt t (a.eval y) (a.eval z)).run P x = .ok () (x.setCells b off (a.eval z).cells.toList) := by
            rw [hy]
            have hth := hB.there hnq (i := off) (n := m) hlt
            have h1 := run_storeCells_cells (P := P) b off (a.eval z).cells.toList 0 x (fun j hj => by simpa using (hth j (by omega)).1) (fun j hj => by simpa using (hth j (by omega)).2) (leafy_all hcs)
            have h2 : (a.eval z).cells.size = m := by have : (a.eval z).cells.toList.length = m := by omega
                                                      simpa using this
            simp only [Nat.add_zero] at h1
            simp [Instr.storeAt, Instr.sureAddr, storeVar, run_sz hsz, h2, h1]
          unfold Goal Oper.wp
          have hx : execOp a.eval o = (do Instr.storeAt t (a.eval y) (a.eval z); pure Next.skip) := by unfold execOp; rw [ho]
          rw [hx]
          have : (do Instr.storeAt t (a.eval y) (a.eval z); pure Next.skip : Sem Next).run P x = .ok .skip (x.setCells b off (a.eval z).cells.toList) := by simp [Sem.run_bind, hrun]
          rw [this, Oper.upon_skip]
          obtain ⟨i1, i2, i3⟩ := setCells_io b (a.eval z).cells.toList off x
          refine ⟨_, β, rfl, trivial, Ext.refl β, fun _ _ h => .inl h, fun _ _ h => .inl h, hw.inj, fun i c hc => by rw [setCells_size]; exact hw.lt i c hc, i1, i2, i3, by rw [setCells_size]; exact Nat.le_refl _, ?_, ?_⟩
          · intro q hq hne
            refine setCells_other b ?_ _ _ _
            intro e
            subst e
            have := hne id hb
            rw [lk_cons_eq] at this
            cases this
          · intro id' b' k' hb' hk'
            have e : id' = id := by
              have := lk_mem hk'
              simp only [List.mem_singleton, Prod.mk.injEq] at this; exact this.1
            subst e
            rw [lk_cons_eq] at hk'
            cases hk'
            rw [hb] at hb'
            cases hb'
            have := hB.store hnq (i := off) (m := cp.cells) (by omega) hcs
            rw [← hwc] at this
            exact this
        · cases h
      · cases h
    · cases h
  · cases h
theorem arith_den {raw : Bool} {k : IntKind} {n : Int} (h : All (arith raw k n).2) : (arith raw k n).1.den β (.int k (k.wrap n)) := by
  unfold arith at h ⊢
  split
  · simp only at h
    exact iv_den.2 (by rw [h.1])
  · exact iv_den.2 rfl
theorem ok_int {raw : Bool} {op : BinOp} {t : Nat} {k : IntKind} {m n : Int} {v : SV} {os : List Prop} (hs : isShift op = false) (h : intOp raw op k m n = some (v, os)) (ho : All os) (w : World) :
    ∃ y, (binOp op t (.int k m) (.int k n)).run P w = .ok y w ∧ v.den β y := by
  have hk : ∀ s1 s2 : Sem Value, (if k ≠ k then s1 else s2) = s2 := fun _ _ => if_neg (fun h => h rfl)
  cases op <;> simp only [isShift, Bool.true_eq_false] at hs <;> simp only [intOp, Option.some.injEq, Prod.mk.injEq, reduceCtorEq] at h
  case add =>
    obtain ⟨rfl, rfl⟩ : v = _ ∧ os = _ := ⟨(congrArg Prod.fst h).symm, (congrArg Prod.snd h).symm⟩
    exact ⟨_, by show ((if k ≠ k then _ else _) : Sem Value).run P w = _; rw [hk]; rfl, arith_den ho⟩
  case sub =>
    obtain ⟨rfl, rfl⟩ : v = _ ∧ os = _ := ⟨(congrArg Prod.fst h).symm, (congrArg Prod.snd h).symm⟩
    exact ⟨_, by show ((if k ≠ k then _ else _) : Sem Value).run P w = _; rw [hk]; rfl, arith_den ho⟩
  case mul =>
    obtain ⟨rfl, rfl⟩ : v = _ ∧ os = _ := ⟨(congrArg Prod.fst h).symm, (congrArg Prod.snd h).symm⟩
    exact ⟨_, by show ((if k ≠ k then _ else _) : Sem Value).run P w = _; rw [hk]; rfl, arith_den ho⟩
  case quo =>
    obtain ⟨rfl, rfl⟩ := h
    exact ⟨_, by show ((if k ≠ k then _ else _) : Sem Value).run P w = _; rw [hk]; show (Op.intDiv _ _ _ _).run P w = _; unfold Op.intDiv; rw [if_neg ho.1]; rfl, arith_den ho.2⟩
  case rem =>
    obtain ⟨rfl, rfl⟩ := h
    exact ⟨_, by show ((if k ≠ k then _ else _) : Sem Value).run P w = _; rw [hk]; show (Op.intDiv _ _ _ _).run P w = _; unfold Op.intDiv; rw [if_neg ho.1]; rfl, iv_den.2 rfl⟩
  case and =>
    obtain ⟨rfl, rfl⟩ := h
    exact ⟨_, by show ((if k ≠ k then _ else _) : Sem Value).run P w = _; rw [hk]; rfl, iv_den.2 rfl⟩
  case or =>
    obtain ⟨rfl, rfl⟩ := h
    exact ⟨_, by show ((if k ≠ k then _ else _) : Sem Value).run P w = _; rw [hk]; rfl, iv_den.2 rfl⟩
  case xor =>
    obtain ⟨rfl, rfl⟩ := h
    exact ⟨_, by show ((if k ≠ k then _ else _) : Sem Value).run P w = _; rw [hk]; rfl, iv_den.2 rfl⟩
  case andNot =>
    obtain ⟨rfl, rfl⟩ := h
    exact ⟨_, by show ((if k ≠ k then _ else _) : Sem Value).run P w = _; rw [hk]; rfl, iv_den.2 rfl⟩
  case eql =>
    obtain ⟨rfl, rfl⟩ := h
    exact ⟨_, by show ((if k ≠ k then _ else _) : Sem Value).run P w = _; rw [hk]; rfl, bv_den.2 rfl⟩
  case neq =>
    obtain ⟨rfl, rfl⟩ := h
    exact ⟨_, by show ((if k ≠ k then _ else _) : Sem Value).run P w = _; rw [hk]; rfl, bv_den.2 rfl⟩
  case lss =>
    obtain ⟨rfl, rfl⟩ := h
    exact ⟨_, by show ((if k ≠ k then _ else _) : Sem Value).run P w = _; rw [hk]; rfl, bv_den.2 rfl⟩
  case leq =>
    obtain ⟨rfl, rfl⟩ := h
    exact ⟨_, by show ((if k ≠ k then _ else _) : Sem Value).run P w = _; rw [hk]; rfl, bv_den.2 rfl⟩
  case gtr =>
    obtain ⟨rfl, rfl⟩ := h
    exact ⟨_, by show ((if k ≠ k then _ else _) : Sem Value).run P w = _; rw [hk]; rfl, bv_den.2 rfl⟩
  case geq =>
    obtain ⟨rfl, rfl⟩ := h
    exact ⟨_, by show ((if k ≠ k then _ else _) : Sem Value).run P w = _; rw [hk]; rfl, bv_den.2 rfl⟩
theorem ok_shift {raw : Bool} {op : BinOp} {t : Nat} {k k' : IntKind} {m n : Int} {v : SV} {os : List Prop} (hs : isShift op = true) (h : shiftOp raw op k m n = some (v, os)) (ho : All os) (w : World) :
    ∃ y, (binOp op t (.int k m) (.int k' n)).run P w = .ok y w ∧ v.den β y := by
  cases op <;> simp only [isShift, Bool.false_eq_true] at hs <;> simp only [shiftOp, Option.some.injEq, Prod.mk.injEq, reduceCtorEq] at h
  case shl =>
    obtain ⟨rfl, rfl⟩ := h
    have h0 : ¬ n < 0 := by have := ho.1; omega
    exact ⟨_, by simp [binOp, Op.shift, h0], arith_den ho.2⟩
  case shr =>
    obtain ⟨rfl, rfl⟩ := h
    have h0 : ¬ n < 0 := by have := ho.1; omega
    exact ⟨_, by simp [binOp, Op.shift, h0], iv_den.2 rfl⟩
theorem eqg {op : BinOp} {t : Nat} {p q : Operand} {y z : Value} (hy : y.oneCell' = true) (h1 : ∀ t v, y ≠ .iface t v) (h2 : y ≠ .nilIface) (w : World) {s : Sem Value} : (do eqGuard op t p q y z; s : Sem Value).run P w = s.run P w := by
  have : (eqGuard op t p q y z).run P w = .ok () w := by
    unfold eqGuard
    cases op <;> simp <;> cases y <;> simp_all [Value.oneCell']
  simp [Sem.run_bind, this]
theorem ok_bin {n : Nat} {op : BinOp} {t t' : Nat} {y z : Operand} (hw : Wf β x) (ho : o.op = .binOp op t y z t') (hy : (evo S y).den β (a.eval y)) (hz : (evo S z).den β (a.eval z)) (h : stBin P cx (o.dst.getD 0) op t (evo S y) (evo S z) = some e) (hob : All e.obs) : Goal P o a x n e β Q := by
  have hx : execOp a.eval o = (do pure (Next.value (← (do eqGuard op t y z (a.eval y) (a.eval z); binOp op t (a.eval y) (a.eval z))))) := by unfold execOp; rw [ho]
  unfold stBin at h
  split at h
  · rename_i k m k' n hv1 hv2
    rw [hv1] at hy
    rw [hv2] at hz
    obtain ⟨hy, _⟩ := hy
    obtain ⟨hz, _⟩ := hz
    rw [hy, hz] at hx
    split at h
    · rename_i hs
      split at h
      · rename_i v os hos
        cases h
        obtain ⟨r, hr, hd⟩ := ok_shift (P := P) (β := β) (t := t) (k' := k') hs hos hob x
        exact goal_v hw hx (by rw [eqg rfl (by simp) (by simp)]; exact hr) hd rfl
      · cases h
    · rename_i hs
      split at h
      · rename_i hk
        have hk := of_decide_eq_true hk
        subst hk
        split at h
        · rename_i v os hos
          cases h
          obtain ⟨r, hr, hd⟩ := ok_int (P := P) (β := β) (t := t) hs hos hob x
          exact goal_v hw hx (by rw [eqg rfl (by simp) (by simp)]; exact hr) hd rfl
        · cases h
      · cases h
  · rename_i s1 s2 hv1 hv2
    rw [hv1] at hy
    rw [hv2] at hz
    obtain ⟨hy, _⟩ := hy
    obtain ⟨hz, _⟩ := hz
    rw [hy, hz] at hx
    split at h
    · cases h
      have h0 : ¬ ((s1.size + s2.size : Nat) : Int) > IntKind.i64.max := by have := hob.1; omega
      exact goal_v hw hx (y := .string (s1 ++ s2)) (by rw [eqg rfl (by simp) (by simp)]; simp only [binOp, Op.stringOp, if_neg h0]; rfl) ⟨rfl, rfl⟩ rfl
    · cases h
      exact goal_v hw hx (by rw [eqg rfl (by simp) (by simp)]; simp only [binOp, Op.stringOp]; rfl) (bv_den.2 rfl) rfl
    · cases h
      exact goal_v hw hx (by rw [eqg rfl (by simp) (by simp)]; simp only [binOp, Op.stringOp]; rfl) (bv_den.2 rfl) rfl
    · cases h
  · rename_i b1 b2 hv1 hv2
    rw [hv1] at hy
    rw [hv2] at hz
    obtain ⟨hy, _⟩ := hy
    obtain ⟨hz, _⟩ := hz
    rw [hy, hz] at hx
    split at h
    · rename_i hu
      have heq : (Op.equal t (.bool b1) (.bool b2)).run P x = .ok (b1 == b2) x := by
        show (Op.equalIn (9999 + 1) t (.bool b1) (.bool b2)).run P x = _
        unfold Op.equalIn
        simp [Sem.run_bind, run_underlying hu]
      split at h
      · cases h
        exact goal_v hw hx (by rw [eqg rfl (by simp) (by simp)]; simp [binOp, heq]) (bv_den.2 rfl) rfl
      · cases h
        exact goal_v hw hx (by rw [eqg rfl (by simp) (by simp)]; simp [binOp, heq]) (bv_den.2 rfl) rfl
      · cases h
    · cases h
  · rename_i i1 o1 hv1 hv2
    rw [hv1] at hy
    rw [hv2] at hz
    obtain ⟨bb, hbb, hy⟩ := hy
    obtain ⟨hz, _⟩ := hz
    rw [hy, hz] at hx
    split at h
    · rename_i te hu
      have heq : (Op.equal t (.pointer (some ⟨bb, o1, none⟩)) (.pointer none)).run P x = .ok false x := by
        show (Op.equalIn (9999 + 1) t _ _).run P x = _
        unfold Op.equalIn
        simp [Sem.run_bind, run_underlying hu]
      split at h
      · cases h
        exact goal_v hw hx (by rw [eqg rfl (by simp) (by simp)]; simp [binOp, heq]) (bv_den.2 rfl) rfl
      · cases h
        exact goal_v hw hx (by rw [eqg rfl (by simp) (by simp)]; simp [binOp, heq]) (bv_den.2 rfl) rfl
      · cases h
    · cases h
  · rename_i hv1 hv2
    rw [hv1] at hy
    rw [hv2] at hz
    obtain ⟨hy, _⟩ := hy
    obtain ⟨hz, _⟩ := hz
    rw [hy, hz] at hx
    split at h
    · rename_i te hu
      have heq : (Op.equal t (.pointer none) (.pointer none)).run P x = .ok true x := by
        show (Op.equalIn (9999 + 1) t _ _).run P x = _
        unfold Op.equalIn
        simp [Sem.run_bind, run_underlying hu]
      split at h
      · cases h
        exact goal_v hw hx (by rw [eqg rfl (by simp) (by simp)]; simp [binOp, heq]) (bv_den.2 rfl) rfl
      · cases h
        exact goal_v hw hx (by rw [eqg rfl (by simp) (by simp)]; simp [binOp, heq]) (bv_den.2 rfl) rfl
      · cases h
    · cases h
  · rename_i xs ys hv1 hv2
    rw [hv1] at hy
    rw [hv2] at hz
    obtain ⟨us, hy, hu⟩ := hy
    obtain ⟨vs, hz, hv⟩ := hz
    rw [hy, hz] at hx
    split at h
    · rename_i q hq
      split at h
      · cases h
        exact goal_v hw hx (hob.1 β us vs y z x hu hv).1 (bv_den.2 rfl) rfl
      · cases h
        exact goal_v hw hx (hob.1 β us vs y z x hu hv).2 (bv_den.2 rfl) rfl
      · cases h
    · cases h
  · cases h
end
end Ab
end Go.Proofs.YtpdckpifhniioaaGreat
namespace Go.Proofs.YtpdckpifhniioaaGreat
open Go.RowKit
namespace Ab
section
variable {P : Program} {cx : Cx} {S : St} {β : Bt} {a : Act} {x : World} {o : Oper} {e : Eff} {Q : Exit → Act → World → Prop}
theorem foldl_splice : ∀ (cs : List Value) (j : Nat) (acc : Array Value) (off : Nat), ((cs.zipIdx j).foldl (fun (cs : Array Value) (p : Value × Nat) => cs.setIfInBounds (off + p.2) p.1) acc).toList = splice acc.toList (off + j) cs
  | [], j, acc, off => rfl
  | c :: cs, j, acc, off => by
    rw [List.zipIdx_cons, List.foldl_cons, foldl_splice cs (j + 1)]
    simp only [Array.toList_setIfInBounds]
    rfl
theorem fill_sound (place : Nat → Option (Nat × Nat)) : ∀ (ps : List (Nat × SV)) (qs : List (Nat × Value)) (cs : List Leaf) (ys : Array Value) (xs : List Leaf), All2 (fun (p : Nat × SV) q => p.1 = q.1 ∧ p.2.den β q.2) ps qs → All2 (Leaf.den β) cs ys.toList → fillL place cs ps = some xs →
    ∃ zs, Instr.fill place ys qs = some zs ∧ All2 (Leaf.den β) xs zs.toList
  | [], [], cs, ys, xs, _, hc, h => by
    simp only [fillL, Option.some.injEq] at h; subst h
    exact ⟨ys, rfl, hc⟩
  | (i, v) :: ps, (j, y) :: qs, cs, ys, xs, hp, hc, h => by
    obtain ⟨⟨hij, hv⟩, hp⟩ := hp
    simp only at hij; subst hij
    unfold fillL at h
    split at h
    · rename_i _ off size cp hpl
      have hcs : All2 (Leaf.den β) cp.cells y.cells.toList := Cp.den_cells (x := cp) hv
      have hcl := hcs.length
      have hyl := hc.length
      split at h
      · rename_i h1 h2
        have h1 := Nat.eq_of_beq_eq_true h1
        have h2 := Nat.le_of_ble_eq_true h2
        have e1 : y.cells.size = size := by have : y.cells.toList.length = size := by omega
                                            simpa using this
        have hcl' : cp.cells.length = y.cells.size := by simpa using hcl
        have e2 : ¬ off + y.cells.size > ys.size := by have : ys.toList.length = cs.length := hyl.symm
                                                       simp at this; omega
        have hf : (y.cells.zipIdx.foldl (fun cs (p : Value × Nat) => cs.setIfInBounds (off + p.2) p.1) ys).toList = splice ys.toList off y.cells.toList := by
          rw [← Array.foldl_toList, Array.toList_zipIdx]
          exact foldl_splice _ 0 ys off
        obtain ⟨zs, hz1, hz2⟩ := fill_sound place ps qs _ (y.cells.zipIdx.foldl (fun cs (p : Value × Nat) => cs.setIfInBounds (off + p.2) p.1) ys) xs hp (by rw [hf]; exact hc.splice off hcs) h
        refine ⟨zs, ?_, hz2⟩
        unfold Instr.fill
        rw [hpl]
        simp only [e1, ne_eq, not_true_eq_false, decide_false, Bool.false_or]
        rw [if_neg (by simpa [e1] using e2)]
        exact hz1
      · cases h
    · cases h
theorem places_spec : ∀ (fs : List Field) {pl : List (Nat × Nat)}, places P fs = some pl → fs.mapM (fun f => (P.info? f.type).map fun i => (f.offset, i.size)) = some pl
  | [], pl, h => by simp only [places, Option.some.injEq] at h; subst h; rfl
  | f :: fs, pl, h => by
    unfold places at h
    split at h
    · rename_i n l hn hl
      cases h
      have := info_sz hn
      cases hi : P.info? f.type with
      | none => rw [hi] at this; cases this
      | some i =>
        rw [hi] at this
        simp only [Option.map_some, Option.some.injEq] at this
        simp [List.mapM_cons, hi, places_spec fs hl, this]
    · cases h
theorem parts_den {β : Bt} : ∀ {ps : List (Nat × Operand)}, (∀ p ∈ ps, (evo S p.2).den β (a.eval p.2)) → All2 (fun (p : Nat × SV) q => p.1 = q.1 ∧ p.2.den β q.2) (ps.map fun p => (p.1, evo S p.2)) (ps.map fun (i, y) => (i, a.eval y))
  | [], _ => trivial
  | p :: ps, h => ⟨⟨rfl, h p (by simp)⟩, parts_den fun q hq => h q (by simp [hq])⟩
theorem ok_build {n : Nat} {t : Nat} {parts : Array (Nat × Operand)} (hw : Wf β x) (ho : o.op = .build t parts) (hp : ∀ p ∈ parts.toList, (evo S p.2).den β (a.eval p.2)) (h : stBuild P S t parts.toList = some e) : Goal P o a x n e β Q := by
  have hx : execOp a.eval o = (do pure (Next.value (← Instr.build t (parts.map fun (i, y) => (i, a.eval y))))) := by unfold execOp; rw [ho]
  have hpd := parts_den (S := S) (a := a) hp
  have hpl : (parts.map fun (i, y) => (i, a.eval y)).toList = parts.toList.map fun (i, y) => (i, a.eval y) := by simp
  have fin : ∀ (xs : List Leaf) (zs : Array Value), P.built t (parts.toList.map fun (i, y) => (i, a.eval y)) = some zs → All2 (Leaf.den β) xs zs.toList → e = { v := .c (.agg xs) } → Goal P o a x n e β Q := by
    rintro xs zs hb hd rfl
    exact goal_v hw hx (run_build x t _ zs (by rw [hpl]; exact hb)) ⟨zs.toList, by simp, hd⟩ rfl
  unfold stBuild at h
  split at h
  · rename_i fs z hu hz
    obtain ⟨v, hv, hzv, hl⟩ := zc_spec hz
    split at h
    · rename_i pl hpl'
      split at h
      · rename_i xs hxs
        cases h
        obtain ⟨zs, h1, h2⟩ := fill_sound (β := β) (fun i => pl[i]?) _ _ z v.cells xs hpd (hzv ▸ den_vs hl) hxs
        refine fin xs zs ?_ h2 rfl
        unfold Program.built
        cases hi : P.info? t with
        | none => unfold zc at hz; rw [hi] at hz; cases hz
        | some it =>
          have hzz : it.zero = some v := by
            unfold zc at hz; rw [hi] at hz
            cases hq : it.zero with
            | none => simp only [hq] at hz; cases hz
            | some v' =>
              have := hv x
              simp [zeroValue, typeInfo, hi, hq] at this
              rw [this]
          simp only [hu, hzz, places_spec fs.toList hpl']
          simpa using h1
      · cases h
    · cases h
  · rename_i ln el z hu hz
    obtain ⟨v, hv, hzv, hl⟩ := zc_spec hz
    split at h
    · rename_i m hm
      split at h
      · rename_i xs hxs
        cases h
        obtain ⟨zs, h1, h2⟩ := fill_sound (β := β) (fun i => some (i * m, m)) _ _ z v.cells xs hpd (hzv ▸ den_vs hl) hxs
        refine fin xs zs ?_ h2 rfl
        unfold Program.built
        cases hi : P.info? t with
        | none => unfold zc at hz; rw [hi] at hz; cases hz
        | some it =>
          have hzz : it.zero = some v := by
            unfold zc at hz; rw [hi] at hz
            cases hq : it.zero with
            | none => simp only [hq] at hz; cases hz
            | some v' =>
              have := hv x
              simp [zeroValue, typeInfo, hi, hq] at this
              rw [this]
          have := info_sz hm
          cases hie : P.info? el with
          | none => rw [hie] at this; cases this
          | some ie =>
            rw [hie] at this
            simp only [Option.map_some, Option.some.injEq] at this
            simp only [hu, hzz, hie, this]
            exact h1
      · cases h
    · cases h
  · cases h
theorem extract_toList (ys : List Value) (i n : Nat) : (ys.toArray.extract i (i + n)) = ((ys.drop i).take n).toArray := by
  apply Array.ext'
  simp [List.extract_eq_take_drop, Nat.add_sub_cancel_left]
theorem part_sound {t : Nat} {xs : List Leaf} {ys : List Value} {off : Nat} {v : SV} (h : stField P t xs off = some v) (hd : All2 (Leaf.den β) xs ys) (w : World) : ∃ y, (part t ys.toArray off).run P w = .ok y w ∧ v.den β y := by
  unfold stField at h
  split at h
  · rename_i n hag hsz
    cases h
    refine ⟨.agg ((ys.drop off).take n).toArray, ?_, _, rfl, (hd.drop off).take n⟩
    simp [part, run_agg hag, run_sz hsz, extract_toList]
  · rename_i hag
    split at h
    · rename_i hlt
      cases h
      have hlt : off < xs.length := Nat.le_of_ble_eq_true hlt
      obtain ⟨y, hy, hyd⟩ := hd.get (getD_get hlt)
      refine ⟨y, ?_, hyd⟩
      simp [part, run_agg hag, hy]
    · cases h
  · cases h
theorem inR_spec {i : Int} {n : Nat} (h : inR i n = true) : InR i n := by
  unfold inR at h
  split at h
  · rename_i k
    have : k < n := Nat.le_of_ble_eq_true h
    exact ⟨by simp, by simpa using this⟩
  · cases h
theorem ok_index {n : Nat} {t : Nat} {y z : Operand} (hw : Wf β x) (ho : o.op = .index t y z) (hy : (evo S y).den β (a.eval y)) (hz : (evo S z).den β (a.eval z)) (h : stIndex P cx (o.dst.getD 0) t (evo S y) (evo S z) = some e) (hob : All e.obs) : Goal P o a x n e β Q := by
  have hx : execOp a.eval o = (do pure (Next.value (← Instr.index t (a.eval y) (a.eval z)))) := by unfold execOp; rw [ho]
  unfold stIndex at h
  split at h
  · rename_i xs k i hv1 hv2
    rw [hv1] at hy
    rw [hv2] at hz
    obtain ⟨ys, hy, hd⟩ := hy
    obtain ⟨hz, _⟩ := hz
    rw [hy, hz] at hx
    split at h
    · rename_i ln el hu
      split at h
      · rename_i m hsz hag
        split at h
        · rename_i os hos
          cases h
          have hr := bound_holds hos hob inR_spec
          refine goal_v hw hx (y := .agg ((ys.drop (i.toNat * m)).take m).toArray) ?_ ⟨_, rfl, (hd.drop _).take _⟩ rfl
          have hr' : 0 ≤ i ∧ i < ln := hr
          simp [Instr.index, asIntOf, run_underlying hu, hr', run_sz hsz, part, run_agg hag, extract_toList]
        · cases h
      · rename_i m hsz hag
        split at h
        · rename_i os hos
          cases h
          have hr := bound_holds hos hob (fun q => by
            simp only [Bool.and_eq_true] at q
            exact ⟨inR_spec q.1, Nat.le_of_ble_eq_true q.2⟩)
          have hr' : 0 ≤ i ∧ i < ln := hr.1
          obtain ⟨y', hy', hyd⟩ := hd.get (getD_get hr.2)
          refine goal_v hw hx (y := y') ?_ hyd rfl
          simp [Instr.index, asIntOf, run_underlying hu, hr', run_sz hsz, part, run_agg hag, hy']
        · cases h
      · cases h
    · cases h
  · rename_i s k i hv1 hv2
    rw [hv1] at hy
    rw [hv2] at hz
    obtain ⟨hy, _⟩ := hy
    obtain ⟨hz, _⟩ := hz
    rw [hy, hz] at hx
    split at h
    · rename_i hu
      split at h
      · rename_i os hos
        cases h
        have hr := bound_holds hos hob inR_spec
        have hr' : 0 ≤ i ∧ i < s.size := hr
        have hlt : i.toNat < s.size := by omega
        have hg : s[i.toNat]? = some (s.get! i.toNat) := by
          rw [getElem?_pos s i.toNat hlt]
          congr 1
          show s.data[i.toNat] = s.data[i.toNat]!
          rw [getElem!_pos s.data i.toNat hlt]
        refine goal_v hw hx (y := .int .u8 (s.get! i.toNat).toNat) ?_ (iv_den.2 rfl) rfl
        simp only [Instr.index, asIntOf, Sem.run_bind, Sem.run_pure, Result.andThen_ok, run_underlying hu, if_pos hr'.1, hg]
      · cases h
    · cases h
  · cases h
theorem ok_indexAddr {n : Nat} {t : Nat} {y z : Operand} (hw : Wf β x) (ho : o.op = .indexAddr t y z) (hy : (evo S y).den β (a.eval y)) (hz : (evo S z).den β (a.eval z)) (h : stIndexAddr P cx (o.dst.getD 0) t (evo S y) (evo S z) = some e) (hob : All e.obs) : Goal P o a x n e β Q := by
  have hx : execOp a.eval o = (do pure (Next.value (← Instr.indexAt t (a.eval y) (a.eval z)))) := by unfold execOp; rw [ho]
  unfold stIndexAddr at h
  split at h
  · rename_i id off k i hv1 hv2
    rw [hv1] at hy
    rw [hv2] at hz
    obtain ⟨b, hb, hy⟩ := hy
    obtain ⟨hz, _⟩ := hz
    rw [hy, hz] at hx
    split at h
    · rename_i ln el hu
      split at h
      · rename_i m hsz
        split at h
        · rename_i os hos
          cases h
          have hr := bound_holds hos hob inR_spec
          have hr' : 0 ≤ i ∧ i < ln := hr
          refine goal_v hw hx (y := .pointer (some ⟨b, off + i.toNat * m, none⟩)) ?_ ⟨b, hb, rfl⟩ rfl
          simp [Instr.indexAt, asIntOf, run_underlying hu, Instr.sureAddr, hr', run_sz hsz, Addr.add_mid]
        · cases h
      · cases h
    · cases h
  · rename_i id off len k i hv1 hv2
    rw [hv1] at hy
    rw [hv2] at hz
    obtain ⟨b, cap, hb, hcap, hy⟩ := hy
    obtain ⟨hz, _⟩ := hz
    rw [hy, hz] at hx
    split at h
    · rename_i el hu
      split at h
      · rename_i m hsz
        split at h
        · rename_i os hos
          cases h
          have hr := bound_holds hos hob inR_spec
          have hr' : 0 ≤ i ∧ i < len := hr
          refine goal_v hw hx (y := .pointer (some ⟨b, off + i.toNat * m, none⟩)) ?_ ⟨b, hb, rfl⟩ rfl
          simp [Instr.indexAt, asIntOf, run_underlying hu, Instr.sureAddr, hr', run_sz hsz, Addr.add_mid]
        · cases h
      · cases h
    · cases h
  · rename_i id len k i hv1 hv2
    rw [hv1] at hy
    rw [hv2] at hz
    obtain ⟨hz, _⟩ := hz
    split at h
    · rename_i el hu
      split at h
      · rename_i m hsz
        split at h
        · rename_i os hos
          cases h
          have hr := bound_holds hos hob inR_spec
          have hr' : 0 ≤ i ∧ i < len := hr
          rcases hy with ⟨hl, _, _⟩ | ⟨b, cap, hb, _, hcap, hy⟩
          · omega
          rw [hy, hz] at hx
          refine goal_v hw hx (y := .pointer (some ⟨b, 0 + i.toNat * m, none⟩)) ?_ ⟨b, hb, by rw [Nat.zero_add]⟩ rfl
          simp [Instr.indexAt, asIntOf, run_underlying hu, Instr.sureAddr, hr', run_sz hsz, Addr.add_mid]
        · cases h
      · cases h
    · cases h
  · cases h
theorem ok_fieldAddr {n : Nat} {t i : Nat} {y : Operand} {fs : Array Field} {f : Field} {id off m : Nat} (hw : Wf β x) (ho : o.op = .fieldAddr t y i) (hu : P.underlying t = some (.struct fs)) (hf : fs.toList[i]? = some f) (hs : szB P f.type = some (m + 1))
    (hy : (Leaf.p id off).den β (a.eval y)) (he : e = { v := .c (.l (.p id (off + f.offset))) }) : Goal P o a x n e β Q := by
  obtain ⟨b, hb, hy⟩ := hy
  have hx : execOp a.eval o = (do pure (Next.value (← Instr.fieldAt t (a.eval y) i))) := by unfold execOp; rw [ho]
  rw [hy] at hx
  subst he
  refine goal_v hw hx (y := .pointer (some ⟨b, off + f.offset, none⟩)) ?_ ⟨b, hb, rfl⟩ rfl
  have hf' : fs[i]? = some f := by simpa using hf
  simp [Instr.fieldAt, run_underlying hu, hf', Instr.sureAddr, fieldPlace, run_sz hs, Addr.add_mid]
theorem ok_field {n : Nat} {t i : Nat} {y : Operand} {fs : Array Field} {f : Field} {xs : List Leaf} {v : SV} (hw : Wf β x) (ho : o.op = .field t y i) (hu : P.underlying t = some (.struct fs)) (hf : fs.toList[i]? = some f) (hv : stField P f.type xs f.offset = some v)
    (hy : (Cp.agg xs).den β (a.eval y)) (he : e = { v := v }) : Goal P o a x n e β Q := by
  obtain ⟨ys, hy, hd⟩ := hy
  have hx : execOp a.eval o = (do pure (Next.value (← Instr.field t (a.eval y) i))) := by unfold execOp; rw [ho]
  rw [hy] at hx
  subst he
  obtain ⟨r, hr, hrd⟩ := part_sound (P := P) hv hd x
  have hf' : fs[i]? = some f := by simpa using hf
  refine goal_v hw hx (y := r) ?_ hrd rfl
  simp [Instr.field, run_underlying hu, hf', asAgg, hr]
theorem ok_pick {n : Nat} {c p q : Operand} (hw : Wf β x) (ho : o.op = .pick c p q) (hc : (evo S c).den β (a.eval c)) (hp : (evo S p).den β (a.eval p)) (hq : (evo S q).den β (a.eval q)) (h : stPick (evo S c) (evo S p) (evo S q) = some e) (hob : All e.obs) : Goal P o a x n e β Q := by
  have hx : execOp a.eval o = (do pure (Next.value (← (do pure (if ← asBool (a.eval c) then a.eval p else a.eval q))))) := by
    unfold execOp; rw [ho]; simp
  have part : ∀ (s : SV) (y : Value) (b : Bool) (d : Option Bool), partP s = some (.v (.bool b), d) → s.den β y → (∀ d', d = some d' → d' = true) → y = .bool b := by
    intro s y b d hs hd hh
    unfold partP at hs
    split at hs
    · cases hs; exact hd.1
    · cases hs; exact (hd.1 (hh _ rfl)).1
    · cases hs
  unfold stPick at h
  split at h
  · rename_i r xa da xb db hv1 hv2 hv3
    cases h
    rw [hv1] at hc
    obtain ⟨hc, _⟩ := hc
    have ho' := All.append.1 hob
    cases r with
    | true =>
      have e1 := part _ _ _ _ hv2 hp (fun d' hd' => by subst hd'; exact ho'.1.1 rfl)
      refine goal_v hw hx (y := .bool xa) ?_ (bv_den.2 rfl) rfl
      simp [hc, asBool, e1]
    | false =>
      have e1 := part _ _ _ _ hv3 hq (fun d' hd' => by subst hd'; exact ho'.2.1 rfl)
      refine goal_v hw hx (y := .bool xb) ?_ (bv_den.2 rfl) rfl
      simp [hc, asBool, e1]
  · cases h
theorem mmf_cons {f : Int → Int → Int} {k : IntKind} {m : Int} {s : SV} {l : List SV} {v : SV} (h : mmf f k m (s :: l) = some v) : ∃ k' b, s = iv k' b ∧ mmf f k (f m b) l = some v := by
  unfold mmf at h
  split at h
  · rename_i heq; cases heq
  · rename_i heq; cases heq; exact ⟨_, _, rfl, h⟩
  · cases h
theorem mmf_sound {f : Int → Int → Int} {m2 : Value → Value → Sem Value} (hm : ∀ k x k' y (w : World), (m2 (.int k x) (.int k' y)).run P w = .ok (.int k (f x y)) w) (k : IntKind) : ∀ (l : List SV) (ys : List Value) (m : Int) (v : SV) (w : World), All2 (SV.den β) l ys → mmf f k m l = some v →
    ∃ y, (ys.foldlM m2 (.int k m)).run P w = .ok y w ∧ v.den β y
  | [], [], m, v, w, _, h => by simp only [mmf, Option.some.injEq] at h; subst h; exact ⟨.int k m, rfl, iv_den.2 rfl⟩
  | s :: l, y :: ys, m, v, w, hd, h => by
    obtain ⟨k', b, rfl, h⟩ := mmf_cons h
    obtain ⟨⟨hy, _⟩, hd⟩ := hd
    obtain ⟨r, hr, hrd⟩ := mmf_sound hm k _ ys (f m b) v w hd h
    refine ⟨r, ?_, hrd⟩
    rw [hy, List.foldlM_cons, Sem.run_bind, hm]
    exact hr
theorem ops_den {β : Bt} : ∀ {ps : List Operand}, (∀ p ∈ ps, (evo S p).den β (a.eval p)) → All2 (SV.den β) (ps.map (evo S)) (ps.map a.eval)
  | [], _ => trivial
  | p :: ps, h => ⟨h p (by simp), ops_den fun q hq => h q (by simp [hq])⟩
theorem ok_builtin {n : Nat} {c : Call} {b : Builtin} (hw : Wf β x) (ho : o.op = .call c) (hb : c.callee = .builtin b) (hp : ∀ p ∈ c.args.toList, (evo S p).den β (a.eval p)) (h : stBuiltin P b c.argTypes.toList (c.args.toList.map (evo S)) = some e) : Goal P o a x n e β Q := by
  have hx : execOp a.eval o = builtin b c.argTypes o.type (c.args.map fun | .const _ => true | _ => false) (c.args.map a.eval) := by
    unfold execOp; rw [ho]; simp only [resolve, hb]; rfl
  have hd := ops_den (S := S) (a := a) hp
  have hl : (c.args.map a.eval).toList = c.args.toList.map a.eval := by simp
  unfold stBuiltin at h
  split at h
  · split at h
    · rename_i v hv
      cases h
      unfold mm at hv
      split at hv
      · rename_i k m l heq
        rw [heq] at hd
        obtain ⟨y, hy⟩ : ∃ y, c.args.toList.map a.eval = y := ⟨_, rfl⟩
        rw [hy] at hd
        cases y with
        | nil => exact hd.elim
        | cons y ys =>
          obtain ⟨⟨h1, _⟩, hd⟩ := hd
          subst h1
          obtain ⟨r, hr, hrd⟩ := mmf_sound (P := P) (f := imin) (m2 := Builtin.min2) (fun k x k' y w => by simp [Builtin.min2, imin]) k l ys m v x hd hv
          refine goal_v hw (s := Builtin.min_ c.argTypes o.type (c.args.map a.eval)) (by rw [hx]; rfl) (y := r) ?_ hrd rfl
          unfold Builtin.min_
          rw [hl, hy]
          exact hr
      · cases hv
    · cases h
  · split at h
    · rename_i v hv
      cases h
      unfold mm at hv
      split at hv
      · rename_i k m l heq
        rw [heq] at hd
        obtain ⟨y, hy⟩ : ∃ y, c.args.toList.map a.eval = y := ⟨_, rfl⟩
        rw [hy] at hd
        cases y with
        | nil => exact hd.elim
        | cons y ys =>
          obtain ⟨⟨h1, _⟩, hd⟩ := hd
          subst h1
          obtain ⟨r, hr, hrd⟩ := mmf_sound (P := P) (f := imax) (m2 := Builtin.max2) (fun k x k' y w => by simp [Builtin.max2, imax]) k l ys m v x hd hv
          refine goal_v hw (s := Builtin.max_ c.argTypes o.type (c.args.map a.eval)) (by rw [hx]; rfl) (y := r) ?_ hrd rfl
          unfold Builtin.max_
          rw [hl, hy]
          exact hr
      · cases hv
    · cases h
  · have key : ∀ (t : Nat) (tys : List Nat) (y : Value), c.argTypes.toList = t :: tys → c.args.toList.map a.eval = [y] → c.argTypes[0]? = some t ∧ (c.args.map a.eval)[0]? = some y := by
      intro t tys y h1 h2
      constructor
      · rw [← Array.getElem?_toList, h1]; rfl
      · rw [← Array.getElem?_toList, hl, h2]; rfl
    split at h
    · rename_i t tys s heq1 heq2
      rw [heq2] at hd
      split at h
      · rename_i hu
        cases h
        obtain ⟨y, hy⟩ : ∃ y, c.args.toList.map a.eval = y := ⟨_, rfl⟩
        rw [hy] at hd
        match y, hd with
        | [y], hd =>
          obtain ⟨⟨h1, _⟩, _⟩ := hd
          subst h1
          obtain ⟨k1, k2⟩ := key t tys _ heq1 hy
          refine goal_v hw (s := Builtin.len_ c.argTypes o.type (c.args.map a.eval)) (by rw [hx]; rfl) (y := .int .i64 s.size) ?_ (iv_den.2 rfl) rfl
          simp [Builtin.len_, k1, k2, run_underlying hu, goInt]
      · cases h
    · rename_i t tys id off m heq1 heq2
      rw [heq2] at hd
      split at h
      · rename_i el hu
        cases h
        obtain ⟨y, hy⟩ : ∃ y, c.args.toList.map a.eval = y := ⟨_, rfl⟩
        rw [hy] at hd
        match y, hd with
        | [y], hd =>
          obtain ⟨⟨b, cap, _, _, h1⟩, _⟩ := hd
          subst h1
          obtain ⟨k1, k2⟩ := key t tys _ heq1 hy
          refine goal_v hw (s := Builtin.len_ c.argTypes o.type (c.args.map a.eval)) (by rw [hx]; rfl) (y := .int .i64 m) ?_ (iv_den.2 rfl) rfl
          simp [Builtin.len_, k1, k2, run_underlying hu, goInt]
      · cases h
    · rename_i t tys so m cp heq1 heq2
      rw [heq2] at hd
      split at h
      · rename_i el hu
        cases h
        obtain ⟨y, hy⟩ : ∃ y, c.args.toList.map a.eval = y := ⟨_, rfl⟩
        rw [hy] at hd
        match y, hd with
        | [y], hd =>
          obtain ⟨⟨h1, _⟩, _⟩ := hd
          subst h1
          obtain ⟨k1, k2⟩ := key _ tys _ heq1 hy
          refine goal_v hw (s := Builtin.len_ c.argTypes o.type (c.args.map a.eval)) (by rw [hx]; rfl) (y := .int .i64 m) ?_ (iv_den.2 rfl) rfl
          simp [Builtin.len_, k1, k2, run_underlying hu, goInt]
      · cases h
    · rename_i t tys id m heq1 heq2
      rw [heq2] at hd
      split at h
      · rename_i el hu
        cases h
        obtain ⟨y, hy⟩ : ∃ y, c.args.toList.map a.eval = y := ⟨_, rfl⟩
        rw [hy] at hd
        match y, hd with
        | [y], hd =>
          obtain ⟨h1, _⟩ := hd
          have h1 : ∃ ao cap, y = .slice ao m cap := by
            rcases h1 with ⟨e, _, h1⟩ | ⟨b, cap, _, _, _, h1⟩
            · subst e; exact ⟨_, _, h1⟩
            · exact ⟨_, _, h1⟩
          obtain ⟨ao, cap, h1⟩ := h1
          subst h1
          obtain ⟨k1, k2⟩ := key t tys _ heq1 hy
          refine goal_v hw (s := Builtin.len_ c.argTypes o.type (c.args.map a.eval)) (by rw [hx]; rfl) (y := .int .i64 m) ?_ (iv_den.2 rfl) rfl
          simp [Builtin.len_, k1, k2, run_underlying hu, goInt]
      · cases h
    · cases h
  · cases h
theorem all2_bytes {β : Bt} : ∀ l : List UInt8, All2 (Leaf.den β) (l.map fun b => Leaf.v (.int .u8 (b.toNat : Int))) (l.map fun b => Value.int .u8 (b.toNat : Int))
  | [] => trivial
  | _ :: l => ⟨⟨rfl, rfl⟩, all2_bytes l⟩
theorem isR_spec {e sz id : Nat} {t : BT} (h : isR e sz id t = true) : t = .r e sz id := by
  cases t with
  | t n => cases h
  | y n => cases h
  | e n => cases h
  | x => cases h
  | q => cases h
  | r a b c =>
    simp only [isR, Bool.and_eq_true] at h
    rw [Nat.eq_of_beq_eq_true h.1, Nat.eq_of_beq_eq_true h.2.1, Nat.eq_of_beq_eq_true h.2.2]
theorem src_sound {sym : Bool} {t sz : Nat} {v : SV} {y : Value} {r : Sr} (h : srcL P sym S t sz v = some r) (hy : v.den β y) (hob : All r.obs) (hrd : ∀ id ∈ r.rd, ∀ b k, β id = some b → S.blk id = some k → BlkAt β x b k) :
    ∃ news, Src P sz t y r.m news x ∧ All2 (Leaf.den β) r.cs news := by
  unfold srcL at h
  split at h
  · rename_i id off m
    obtain ⟨b, cap, hb, hcap, rfl⟩ := hy
    split at h
    · rename_i el k hu hk
      obtain ⟨hk, hnq⟩ := blkW_spec hk
      split at h
      · rename_i os hos
        cases h
        have hlt := bound_holds hos hob (fun q => Nat.le_of_ble_eq_true q)
        obtain ⟨ys, hr, hl, hd⟩ := (hrd id (by simp) b k hb hk).range hnq hlt
        exact ⟨ys, Src.ofSlice x hu ⟨b, off, none⟩ m cap ys hl (fun j u hj => by rw [Addr.add_lit]; exact hr j u hj) (leafy_all hd), hd⟩
      · cases h
    · cases h
  · rename_i id m
    split at h
    · rename_i el k hu hk
      obtain ⟨hk, hnq⟩ := blkW_spec hk
      split at h
      · rename_i os hos
        cases h
        have hlt := bound_holds hos hob (fun q => Nat.eq_of_beq_eq_true q)
        rcases hy with ⟨hm, _, rfl⟩ | ⟨b, cap, hb, _, hcap, rfl⟩
        · subst hm
          rw [Nat.zero_mul] at hlt
          have hc : k.cs = [] := List.eq_nil_of_length_eq_zero hlt.symm
          exact ⟨[], Src.ofNil x hu 0, by show All2 _ k.cs []; rw [hc]; trivial⟩
        · obtain ⟨ys, hr, hl, hd⟩ := (hrd id (by simp) b k hb hk).range hnq (i := 0) (n := m * sz) (by omega)
          refine ⟨ys, Src.ofSlice x hu ⟨b, 0, none⟩ m cap ys hl (fun j u hj => by rw [Addr.add_lit]; exact hr j u hj) (leafy_all hd), ?_⟩
          rw [hlt, List.drop_zero, List.take_length] at hd
          exact hd
      · cases h
    · cases h
  · rename_i s
    obtain ⟨rfl, _⟩ := hy
    split at h
    · rename_i hu
      cases h
      refine ⟨byteCells s, Src.ofString x hu s, ?_⟩
      unfold sbytes byteCells
      exact all2_bytes _
    · cases h
  · cases h
theorem splice_at {α : Type} : ∀ (m l z : List α), m.length ≤ z.length → Ab.splice (l ++ z) l.length m = l ++ m ++ z.drop m.length
  | [], l, z, _ => by simp [Ab.splice]
  | a :: m, l, [], h => by simp at h
  | a :: m, l, b :: z, h => by
    have := splice_at m (l ++ [a]) z (by simpa using h)
    simp only [List.length_append, List.length_cons, List.length_nil, Nat.zero_add] at this
    rw [Ab.splice, List.set_append_right _ _ (Nat.le_refl _), Nat.sub_self, List.set_cons_zero, show l ++ a :: z = l ++ [a] ++ z by simp, this]
    simp
theorem app_grow {t t2 el sz m len cap : Nat} {i : TypeInfo} {zv ya yb : Value} {base : Option Addr} {olds news : List Value} {oc nc : List Leaf} (hw : Wf β x) (hx : execOp a.eval o = (do pure (Next.value (← Builtin.append_ #[t, t2] o.type #[ya, yb]))))
    (hu : P.underlying t = some (.slice el)) (hi : P.info? el = some i) (hisz : i.size = sz) (hzv : i.zero = some zv) (hzl : zv.cells.size = sz) (hya : ya = .slice base len cap) (hS : Src P sz t2 yb m news x)
    (hold : (Builtin.firstCells sz len (.slice base len cap)).run P x.drew = .ok olds.toArray x.drew) (hol : olds.length = len * sz) (ho : All2 (Leaf.den β) oc olds) (hn : All2 (Leaf.den β) nc news) (hg : cap < len + m) (hb : ApB P el (len + m))
    (hnew : β S.n = none ∧ β.c S.n = none) (he : e.v = .c (.l (.o S.n (len + m))) ∧ e.wr = [(S.n, ⟨oc ++ nc, .r el sz S.n⟩)] ∧ e.nw = 1) : Goal P o a x S.n e β Q := by
  subst hisz hya
  have hb := hb i hi
  have hb1 : (len + m) * i.bytes ≤ 140737488355328 := Nat.le_trans (Nat.mul_le_mul_left _ (by omega)) hb
  have hb2 : len + m ≤ 140737488355328 := Nat.le_trans (Nat.le_mul_of_pos_right _ (by omega)) hb
  have hrun := run_append_grow_src (P := P) x t t2 o.type el i zv hu hi hzv base len cap olds hold yb m news hS hg (by omega) (growslice_fits hg hb1)
  have hge := grownCap_ge x (len + m) cap el
  have hnl := hS.newsLen
  unfold Goal Oper.wp
  rw [hx, run_v hrun, Oper.upon_value, he.1, he.2.1, he.2.2]
  refine ⟨_, β.set S.n x.heap.size (some (grownCap x (len + m) cap el)), rfl, done_new hw hnew rfl rfl rfl (by simp) (fun q hq => Below.heap_alloc x.drew _ q hq) (.inr ⟨x.heap.size, _, Bt.set_b _ _ _ _, Bt.set_c _ _ _ _, hge, rfl⟩) (.inr ⟨olds ++ news, (Builtin.zeroCells zv.cells (grownCap x (len + m) cap el - (len + m))).toList, ?_, ?_, ?_⟩)⟩
  · have := heap_alloc_new x.drew (.cells ((olds ++ news).toArray ++ Builtin.zeroCells zv.cells (grownCap x (len + m) cap el - (len + m))) el)
    refine this.trans ?_
    congr 2
    apply Array.ext'
    simp [BT.ty]
  · exact (ho.append hn).mono fun _ _ q => Leaf.ext (Bt.set_ext hnew) q
  · refine ⟨_, Bt.set_c _ _ _ _, ?_⟩
    have hz : (Builtin.zeroCells zv.cells (grownCap x (len + m) cap el - (len + m))).size = (grownCap x (len + m) cap el - (len + m)) * zv.cells.size := by simp [Builtin.zeroCells]
    simp only [List.length_append, Array.length_toList, hz, hzl, hol, hnl]
    rw [← Nat.add_mul, ← Nat.add_mul]
    exact Nat.mul_le_mul_right _ (by omega)
theorem ok_append {d : Nat} {c : Call} (hw : Wf β x) (ho : o.op = .call c) (hb : c.callee = .builtin .append) (hp : ∀ p ∈ c.args.toList, (evo S p).den β (a.eval p)) (h : stAppend P cx d S c.argTypes.toList (c.args.toList.map (evo S)) = some e) (hob : All e.obs)
    (hrd : ∀ id ∈ e.rd, ∀ b k, β id = some b → S.blk id = some k → BlkAt β x b k) (hnew : ∀ id, S.n ≤ id → id < S.n + e.nw → β id = none ∧ β.c id = none) (hdc : DcOK β e.dc) : Goal P o a x S.n e β Q := by
  have hx : execOp a.eval o = (do pure (Next.value (← Builtin.append_ c.argTypes o.type (c.args.map a.eval)))) := by
    unfold execOp; rw [ho]; simp only [resolve, hb]; rfl
  have hd := ops_den (S := S) (a := a) hp
  have two : ∀ (ys : List Value), c.args.toList.map a.eval = ys → c.args.map a.eval = ys.toArray := fun ys hy => by apply Array.ext'; simp [hy]
  have twt : ∀ (ys : List Nat), c.argTypes.toList = ys → c.argTypes = ys.toArray := fun ys hy => by apply Array.ext'; simp [hy]
  have info : ∀ {el sz : Nat} {z : List Leaf}, szB P el = some sz → zc P el = some z → ∃ i v, P.info? el = some i ∧ i.size = sz ∧ i.zero = some v ∧ v.cells.size = z.length := by
    intro el sz z h1 h2
    have := info_sz h1
    cases hi : P.info? el with
    | none => rw [hi] at this; cases this
    | some i =>
      rw [hi] at this
      simp only [Option.map_some, Option.some.injEq] at this
      unfold zc at h2
      rw [hi] at h2
      simp only at h2
      split at h2
      · rename_i v hv
        split at h2
        · cases h2; exact ⟨i, v, rfl, this, hv, by simp⟩
        · cases h2
      · cases h2
  unfold stAppend at h
  split at h
  · rename_i t t2 id len xx ht ha
    rw [ha] at hd
    obtain ⟨ys, hys⟩ : ∃ y, c.args.toList.map a.eval = y := ⟨_, rfl⟩
    rw [hys] at hd
    match ys, hd with
    | [ya, yb], hd =>
      obtain ⟨hya, hyb, _⟩ := hd
      rw [two _ hys, twt _ ht] at hx
      split at h
      · rename_i el hu
        split at h
        · rename_i sz z k hsz hz hk
          obtain ⟨i, zv, hi, hisz, hzv, hzl⟩ := info hsz hz
          split at h
          · rename_i r os hr hos hty
            simp only [Bool.and_eq_true] at hty
            obtain ⟨hty, hzz⟩ := hty
            have hzl := hzl.trans (Nat.eq_of_beq_eq_true hzz)
            split at h
            · cases h
              obtain ⟨ho1, ho2⟩ := All.append.1 hob
              have hlen := bound_holds hos ho1 (fun q => Nat.eq_of_beq_eq_true q)
              obtain ⟨news, hS, hN⟩ := src_sound (x := x) hr hyb ho2 (fun id hid => hrd id (by simp [hid]))
              have hty := isR_spec hty
              have hnl := hS.newsLen
              have hNl := hN.length
              rcases hya with ⟨hl0, hc0, hy⟩ | ⟨b, cap, hbb, hcc, hcap, hy⟩
              · subst hl0 hy
                have hm : 0 + r.m ≤ 0 := of_decide_eq_true (hdc (id, 0 + r.m, true) (by simp) 0 hc0)
                have hm0 : r.m = 0 := by omega
                have hkc : k.cs = [] := List.eq_nil_of_length_eq_zero (by rw [hlen, Nat.zero_mul])
                have hn0 : news = [] := List.eq_nil_of_length_eq_zero (by rw [hnl, hm0, Nat.zero_mul])
                have hrc : r.cs = [] := List.eq_nil_of_length_eq_zero (by rw [hNl, hn0]; rfl)
                have hrun : (Builtin.append_ #[t, t2] o.type #[.slice none 0 0, yb]).run P x = .ok (.slice none 0 0) x := by
                  have e1 := hS.len x
                  have e2 := hS.cells
                  rw [hm0] at e1 e2
                  rcases hS.kind with ⟨e', hk'⟩ | hk' <;> simp [Builtin.append_, run_underlying hu, run_underlying hk', sizeOf, typeInfo, hi, e1, hisz, e2]
                unfold Goal Oper.wp
                rw [hx, run_v hrun, Oper.upon_value]
                refine ⟨_, β, rfl, ⟨.inl ⟨by omega, hc0, rfl⟩, Ext.refl β, fun _ _ h => .inl h, fun _ _ h => .inl h, hw.inj, hw.lt, rfl, rfl, rfl, Nat.le_refl _, fun _ _ _ => rfl, fun id' b' k' hb' hk' => ?_⟩⟩
                have e : id' = id := by
                  have := lk_mem hk'
                  simp only [List.mem_singleton, Prod.mk.injEq] at this; exact this.1
                subst e
                rw [lk_cons_eq] at hk'; cases hk'
                have := hrd id' (by simp) b' k hb' hk
                rw [hkc, hrc]
                obtain ⟨kc, kt⟩ := k
                simp only at hkc hty
                rw [hkc, hty] at this
                exact this
              · have hm : len + r.m ≤ cap := of_decide_eq_true (hdc (id, len + r.m, true) (by simp) cap hcc)
                rcases hrd id (by simp) b k hbb hk with (⟨hq, _⟩ | ⟨hq, _⟩) | ⟨ys, zs, h1, h2, h3⟩
                · rw [hty] at hq; cases hq
                · rw [hty] at hq; cases hq
                rw [hty] at h1 h3
                obtain ⟨v, hv, hroom⟩ := h3
                rw [hcc] at hv; cases hv
                have hyl := h2.length
                have hzl : news.length ≤ zs.length := by
                  have := Nat.mul_le_mul_right sz hm
                  rw [Nat.add_mul] at this
                  rw [List.length_append] at hroom
                  omega
                subst hy
                have hrun := run_append_room_src (P := P) x t t2 o.type el i hu hi b 0 len cap yb r.m news (by rw [hisz]; exact hS) hm (fun j hj => by
                  rw [cell_of_row x b _ _ _ _ h1, hisz]
                  simp only [List.getElem?_toArray]
                  rw [List.getElem?_eq_getElem (by rw [List.length_append]; omega)]; rfl) (fun j hj => frozen_of_row x b _ _ _ h1)
                rw [hisz, Nat.zero_add] at hrun
                have hsp : Ab.splice (ys ++ zs) (len * sz) news = (ys ++ news) ++ zs.drop news.length := by
                  rw [show len * sz = ys.length by omega]; exact splice_at news ys zs hzl
                unfold Goal Oper.wp
                rw [hx, run_v hrun, Oper.upon_value]
                obtain ⟨i1, i2, i3⟩ := setCells_io b news (len * sz) x
                refine ⟨_, β, rfl, ⟨.inr ⟨b, cap, hbb, hcc, hm, rfl⟩, Ext.refl β, fun _ _ h => .inl h, fun _ _ h => .inl h, hw.inj, fun i c hc => by rw [setCells_size]; exact hw.lt i c hc, i1, i2, i3, by rw [setCells_size]; exact Nat.le_refl _, ?_, fun id' b' k' hb' hk' => ?_⟩⟩
                · intro q hq hne
                  refine setCells_other b ?_ _ _ _
                  intro e
                  subst e
                  have := hne id hbb
                  rw [lk_cons_eq] at this
                  cases this
                · have e : id' = id := by
                    have := lk_mem hk'
                    simp only [List.mem_singleton, Prod.mk.injEq] at this; exact this.1
                  subst e
                  rw [lk_cons_eq] at hk'; cases hk'
                  rw [hbb] at hb'; cases hb'
                  refine .inr ⟨ys ++ news, zs.drop news.length, ?_, h2.append hN, ⟨cap, hcc, ?_⟩⟩
                  · rw [setCells_block b _ news _ _ x h1, hsp]
                    rfl
                  · rw [List.length_append, List.length_append, List.length_drop]
                    rw [List.length_append] at hroom
                    omega
            · cases h
              obtain ⟨hap, hob⟩ := hob
              obtain ⟨ho1, ho2⟩ := All.append.1 hob
              have hlen := bound_holds hos ho1 (fun q => Nat.eq_of_beq_eq_true q)
              obtain ⟨news, hS, hN⟩ := src_sound (x := x) hr hyb ho2 (fun id hid => hrd id (by simp [hid]))
              have hty := isR_spec hty
              rcases hya with ⟨hl0, hc0, hy⟩ | ⟨b, cap, hbb, hcc, hcap, hy⟩
              · have hm : ¬ len + r.m ≤ 0 := of_decide_eq_false (hdc (id, len + r.m, false) (by simp) 0 hc0)
                have hkc : k.cs = [] := List.eq_nil_of_length_eq_zero (by rw [hlen, hl0, Nat.zero_mul])
                subst hl0
                exact app_grow (S := S) (e := _) hw hx hu hi hisz hzv hzl hy hS (olds := []) (oc := k.cs) (by simp [Builtin.firstCells]) (by simp) (by rw [hkc]; trivial) hN (by omega) hap (hnew S.n (Nat.le_refl _) (by simp)) ⟨rfl, rfl, rfl⟩
              · have hm : ¬ len + r.m ≤ cap := of_decide_eq_false (hdc (id, len + r.m, false) (by simp) cap hcc)
                obtain ⟨ys, hra, hyl, hyd⟩ := (hrd id (by simp) b k hbb hk).range (by rw [hty]; exact fun h => by cases h) (i := 0) (n := len * sz) (by omega)
                rw [← hlen, List.drop_zero, List.take_length] at hyd
                exact app_grow (S := S) (e := _) hw hx hu hi hisz hzv hzl hy hS (olds := ys) (oc := k.cs) (run_firstCells_some (P := P) x.drew sz len ⟨b, 0, none⟩ len cap ys hyl (fun j u hj => by rw [Addr.add_lit]; exact hra j u hj)) hyl hyd hN (by omega) hap (hnew S.n (Nat.le_refl _) (by simp)) ⟨rfl, rfl, rfl⟩
          · cases h
        · cases h
      · cases h
  · rename_i t t2 xx ht ha
    rw [ha] at hd
    obtain ⟨ys, hys⟩ : ∃ y, c.args.toList.map a.eval = y := ⟨_, rfl⟩
    rw [hys] at hd
    match ys, hd with
    | [ya, yb], hd =>
      obtain ⟨⟨hya, _⟩, hyb, _⟩ := hd
      rw [two _ hys, twt _ ht] at hx
      split at h
      · rename_i el hu
        split at h
        · rename_i sz z hsz hz
          obtain ⟨i, zv, hi, hisz, hzv, hzl⟩ := info hsz hz
          split at h
          · rename_i r hr hzz
            cases h
            obtain ⟨hm, hap, hob⟩ := hob
            obtain ⟨news, hS, hN⟩ := src_sound (x := x) hr hyb hob hrd
            have hzl := hzl.trans (Nat.eq_of_beq_eq_true hzz)
            exact app_grow (S := S) (e := _) (len := 0) hw hx hu hi hisz hzv hzl hya hS (olds := []) (oc := []) (by simp [Builtin.firstCells]) (by simp) trivial hN (by omega) (by rw [Nat.zero_add]; exact hap) (hnew S.n (Nat.le_refl _) (by simp)) ⟨by rw [Nat.zero_add], rfl, rfl⟩
          · cases h
        · cases h
      · cases h
  · cases h
theorem ptrs_den {β : Bt} : ∀ {l : List SV} {ys : List Value} {r : List (Nat × Nat)}, ptrs l = some r → All2 (SV.den β) l ys → All2 (fun (c : Nat × Nat) z => ∃ b, β c.1 = some b ∧ z = .pointer (some ⟨b, c.2, none⟩)) r ys
  | [], [], r, h, _ => by simp only [ptrs, Option.some.injEq] at h; subst h; trivial
  | s :: l, y :: ys, r, h, hd => by
    unfold ptrs at h
    split at h
    · rename_i heq; cases heq
    · rename_i id off l' heq
      cases heq
      split at h
      · rename_i r' hr'
        cases h
        exact ⟨hd.1, ptrs_den hr' hd.2⟩
      · cases h
    · cases h
theorem ptrs_den' {β : Bt} : ∀ {caps : List (Nat × Nat)} {ys : List Value}, All2 (fun (c : Nat × Nat) z => ∃ b, β c.1 = some b ∧ z = .pointer (some ⟨b, c.2, none⟩)) caps ys → All2 (SV.den β) (caps.map fun p => .c (.l (.p p.1 p.2))) ys
  | [], [], _ => trivial
  | c :: cs, y :: ys, h => ⟨h.1, ptrs_den' h.2⟩
theorem lk_rdH : ∀ {l : List Nat} {id : Nat} {k : Blk}, lk (rdH S l) id = some k → id ∈ l ∧ S.blk id = some k
  | [], id, k, h => by cases h
  | i :: l, id, k, h => by
    unfold rdH at h
    split at h
    · rename_i k' hk'
      by_cases e : i = id
      · subst e; rw [lk_cons_eq] at h; cases h; exact ⟨by simp, hk'⟩
      · rw [lk_cons_ne _ _ e] at h
        obtain ⟨h1, h2⟩ := lk_rdH h
        exact ⟨by simp [h1], h2⟩
    · obtain ⟨h1, h2⟩ := lk_rdH h
      exact ⟨by simp [h1], h2⟩
theorem ok_call {d : Nat} {c : Call} (hw : Wf β x) (ho : o.op = .call c) (hp : ∀ p ∈ c.operands.toList, (evo S p).den β (a.eval p)) (h : stCall P cx d S c = some e) (hob : All e.obs)
    (hrd : ∀ id ∈ e.rd, ∀ b k, β id = some b → S.blk id = some k → BlkAt β x b k) (hnew : ∀ id, S.n ≤ id → id < S.n + e.nw → β id = none ∧ β.c id = none) (hdc : DcOK β e.dc) : Goal P o a x S.n e β Q := by
  unfold stCall at h
  have hpa : ∀ p ∈ c.args.toList, (evo S p).den β (a.eval p) := fun p hp' => hp p (by simp only [Call.operands]; simp; right; simpa using hp')
  split at h
  · rename_i f hcl
    have hf : (evo S f).den β (a.eval f) := hp f (by simp only [Call.operands, hcl]; simp)
    split at h
    · rename_i fn caps hv
      rw [hv] at hf
      obtain ⟨cs, hcs, hfv⟩ := hf
      split at h
      · rename_i k hk
        split at h
        · rename_i r hr
          cases h
          obtain ⟨hent, hcall⟩ := hob.1
          have hargs : All2 (SV.den β) ((c.args.toList.map (evo S)) ++ caps.map fun p => .c (.l (.p p.1 p.2))) ((c.args.toList.map a.eval) ++ cs) := (ops_den hpa).append (ptrs_den' hcs)
          have hc := hcall β x _ hargs hw.inj hw.lt hnew (fun id b k hb hk => by
            obtain ⟨h1, h2⟩ := lk_rdH hk
            exact hrd id h1 b k hb h2) hdc
          have hrun : (execOp a.eval o).run P x = .ok (.enter fn ((c.args.toList.map a.eval) ++ cs).toArray) x := by
            unfold execOp; rw [ho]
            simp only [resolve, hcl, Deferred.ofValue, hfv, Sem.run_bind, Sem.run_pure, Result.andThen_ok, invoke]
            rw [hent]
            congr 2
            apply Array.ext'
            simp
          unfold Goal Oper.wp
          rw [hrun, Oper.upon_enter]
          refine hc.mono ?_
          rintro e' x' ⟨y, β', rfl, hD⟩
          exact ⟨y, β', rfl, hD⟩
        · cases h
      · cases h
    · cases h
  · rename_i hcl
    exact ok_append hw ho hcl hpa h hob hrd hnew hdc
  · rename_i b _ hcl
    exact ok_builtin hw ho hcl hpa h
  · cases h
theorem optI_spec {S : St} {β : Bt} {a : Act} {p : Option Operand} {d i : Int} (h : optI S p d = some i) (hp : ∀ q, p = some q → (evo S q).den β (a.eval q)) : (p = none ∧ i = d) ∨ ∃ q k, p = some q ∧ a.eval q = .int k i := by
  cases p with
  | none => simp only [optI, Option.some.injEq] at h; exact .inl ⟨rfl, h.symm⟩
  | some q =>
    simp only [optI] at h
    split at h
    · rename_i k m hv
      cases h
      have := hp q rfl
      rw [hv] at this
      exact .inr ⟨q, k, rfl, this.1⟩
    · cases h
theorem run_cut (t : Nat) (s : ByteArray) (lo hi : Option Operand) (i j : Int) (w : World) (ht : P.underlying t = some .string)
    (hlo : (lo = none ∧ i = 0) ∨ ∃ q k, lo = some q ∧ a.eval q = .int k i) (hhi : (hi = none ∧ j = s.size) ∨ ∃ q k, hi = some q ∧ a.eval q = .int k j)
    (h : 0 ≤ i ∧ i ≤ j ∧ j ≤ s.size) : (Instr.sliceAt t (.string s) (lo.map a.eval) (hi.map a.eval) none).run P w = .ok (.string (s.extract i.toNat j.toNat)) w := by
  obtain ⟨h0, h1, h2⟩ := h
  rw [run_sliceAt_string _ _ _ _ _ _ ht]
  rcases hlo with ⟨rfl, rfl⟩ | ⟨q, k, rfl, hq⟩ <;> rcases hhi with ⟨rfl, rfl⟩ | ⟨q', k', rfl, hq'⟩
  · simp [Instr.slice, Instr.sliceBounds, run_underlying ht]
  · simp only [Option.map_none, Option.map_some, hq']
    have e : 0 ≤ j ∧ j ≤ (s.size : Int) := ⟨h1, h2⟩
    simp [Instr.slice, Instr.sliceBounds, Instr.sliceBound, asIntOf, run_underlying ht, e]
  · simp only [Option.map_none, Option.map_some, hq]
    have e : 0 ≤ i ∧ i ≤ (s.size : Int) := ⟨h0, h1⟩
    simp [Instr.slice, Instr.sliceBounds, Instr.sliceBound, asIntOf, run_underlying ht, e]
  · simp only [Option.map_some, hq, hq']
    rw [run_slice_string_if _ _ _ _ _ _ _ ht, if_pos ⟨by omega, h2⟩, if_pos ⟨h0, h1⟩]
theorem run_cutS {e sz b off len cap : Nat} (t : Nat) (lo hi : Option Operand) (i j : Int) (w : World) (ht : P.underlying t = some (.slice e)) (hs : szB P e = some sz) (hc : len ≤ cap)
    (hlo : (lo = none ∧ i = 0) ∨ ∃ q k, lo = some q ∧ a.eval q = .int k i) (hhi : (hi = none ∧ j = len) ∨ ∃ q k, hi = some q ∧ a.eval q = .int k j)
    (h : 0 ≤ i ∧ i ≤ j ∧ j ≤ (len : Nat)) : (Instr.sliceAt t (.slice (some ⟨b, off, none⟩) len cap) (lo.map a.eval) (hi.map a.eval) none).run P w = .ok (sliced (some ⟨b, off, none⟩) i.toNat j.toNat cap sz) w := by
  obtain ⟨h0, h1, h2⟩ := h
  have el : P.elem t = e := by simp [Program.elem, ht]
  have ht' : P.underlying t = some (.slice (P.elem t)) := by rw [el]; exact ht
  have hz : (sizeOf (P.elem t)).run P w = .ok sz w := by rw [el]; exact run_sz hs w
  rw [run_sliceAt_slice _ _ _ _ _ _ ht']
  rcases hlo with ⟨rfl, rfl⟩ | ⟨q, k, rfl, hq⟩ <;> rcases hhi with ⟨rfl, rfl⟩ | ⟨q', k', rfl, hq'⟩
  · simp only [Option.map_none]
    rw [run_slice_all _ _ _ _ _ ht', hz]
    simp
  · simp only [Option.map_none, Option.map_some, hq']
    rw [run_slice_h _ _ _ _ _ ht' _ _ h1 (by omega), hz]
    simp
  · simp only [Option.map_none, Option.map_some, hq]
    rw [run_slice_l _ _ _ _ _ ht' _ _ h0 (by omega), hz]
    simp
  · simp only [Option.map_some, hq, hq']
    rw [run_slice_lh _ _ _ _ _ ht' _ _ _ _ h0 h1 (by omega), hz]
    simp
theorem ok_slice {n : Nat} {t : Nat} {y : Operand} {lo hi mx : Option Operand} (hw : Wf β x) (ho : o.op = .slice t y lo hi mx) (hy : (evo S y).den β (a.eval y)) (hlo : ∀ q, lo = some q → (evo S q).den β (a.eval q)) (hhi : ∀ q, hi = some q → (evo S q).den β (a.eval q))
    (h : stSlice P S t (evo S y) lo hi mx = some e) (hob : All e.obs) : Goal P o a x n e β Q := by
  have hx : execOp a.eval o = (do pure (Next.value (← Instr.sliceAt t (a.eval y) (lo.map a.eval) (hi.map a.eval) (mx.map a.eval)))) := by unfold execOp; rw [ho]
  unfold stSlice at h
  split at h
  · rename_i s hv
    rw [hv] at hy
    obtain ⟨hy, _⟩ := hy
    rw [hy] at hx
    split at h
    · rename_i ht
      split at h
      · rename_i i j hi' hj'
        cases h
        exact goal_v hw hx (run_cut t s lo hi i j x ht (optI_spec hi' hlo) (optI_spec hj' hhi) hob.1) ⟨rfl, rfl⟩ rfl
      · cases h
    · cases h
  · rename_i id off len hv
    rw [hv] at hy
    obtain ⟨b, cap, hb, hcap, hy⟩ := hy
    rw [hy] at hx
    split at h
    · rename_i el ht
      split at h
      · rename_i sz i j hs hi' hj'
        cases h
        obtain ⟨⟨h0, h1, h2, h3⟩, _⟩ := hob
        refine goal_v hw hx (run_cutS t lo hi i j x ht hs hcap (optI_spec hi' hlo) (optI_spec hj' hhi) ⟨h0, h1, h2⟩) ?_ rfl
        refine ⟨b, cap - i.toNat, hb, by omega, ?_⟩
        unfold sliced
        have e1 : (j - i).toNat = j.toNat - i.toNat := by omega
        rw [e1]
        split
        · have : i = 0 := by omega
          subst this
          simp
        · have ea : (⟨b, off, none⟩ : Addr).add (i.toNat * sz) = ⟨b, off + i.toNat * sz, none⟩ := by unfold Addr.add; split <;> simp_all
          rw [Option.map_some, ea]
      · cases h
    · cases h
  · cases h
/-- make: a new row, of which no cell is in use. -/
theorem ok_make {t : Nat} {y z : Operand} (hw : Wf β x) (hn : β S.n = none ∧ β.c S.n = none) (ho : o.op = .makeSlice t y z) (hy : (evo S y).den β (a.eval y)) (hz : (evo S z).den β (a.eval z)) (h : stMake P S t (evo S y) (evo S z) = some e) : Goal P o a x S.n e β Q := by
  have hx : execOp a.eval o = (do pure (Next.value (← Instr.makeSlice t (a.eval y) (a.eval z)))) := by unfold execOp; rw [ho]
  unfold stMake at h
  split at h
  · rename_i el kl kc c hu hvy hvz
    rw [hvy] at hy
    rw [hvz] at hz
    obtain ⟨hy, _⟩ := hy
    obtain ⟨hz, _⟩ := hz
    rw [hy, hz] at hx
    split at h
    · rename_i i hi
      split at h
      · rename_i zv hzv hsz
        split at h
        · rename_i hb hc
          have hb := Nat.le_of_ble_eq_true hb
          have hc := Nat.le_of_ble_eq_true hc
          cases h
          have hb' : (i.bytes : Int) * (c : Int) ≤ 281474976710656 := by
            have h : ((i.bytes * c : Nat) : Int) ≤ 281474976710656 := by omega
            rwa [Int.natCast_mul] at h
          replace hx : execOp a.eval o = (do pure (Next.value (← Instr.makeSlice t (.int kl 0) (.int kc (c : Int))))) := hx
          have hr := run_make (P := P) x t el i zv hu hi hzv kl kc 0 (c : Int) (Int.le_refl _) (by omega) hb' (by omega)
          simp only [Int.toNat_zero, Int.toNat_natCast] at hr
          unfold Goal Oper.wp
          rw [hx, run_v hr, Oper.upon_value]
          refine ⟨_, β.set S.n x.heap.size (some c), rfl, done_new hw hn rfl rfl rfl (by simp) (fun q hq => Below.heap_alloc x _ q hq) (.inr ⟨x.heap.size, c, Bt.set_b _ _ _ _, Bt.set_c _ _ _ _, Nat.zero_le _, rfl⟩) (.inr ⟨[], (madeCells zv.cells (c * i.size)).toList, by simpa [BT.ty, BT.fr] using heap_alloc_new x (.cells (madeCells zv.cells (c * i.size)) el), trivial, c, Bt.set_c _ _ _ _, by simp [size_madeCells, hsz]⟩)⟩
        · cases h
      · cases h
    · cases h
  · cases h
/-- A new row and a slice of it. -/
theorem goal_row {n : Nat} {cs : List Leaf} {ys : List Value} {t len sz : Nat} {s : Sem Value} (hw : Wf β x) (hn : β n = none ∧ β.c n = none) (hx : execOp a.eval o = (do pure (Next.value (← s))))
    (hr : s.run P x = .ok (.slice (some ⟨x.heap.size, 0, none⟩) len len) (x.alloc (.cells ys.toArray t))) (hc : All2 (Leaf.den β) cs ys) (hcl : cs.length = len * sz) (he : e = { v := .c (.l (.o n len)), wr := [(n, ⟨cs, .r t sz n⟩)], nw := 1 }) : Goal P o a x n e β Q := by
  subst he
  unfold Goal Oper.wp
  rw [hx, run_v hr, Oper.upon_value]
  exact ⟨_, β.set n x.heap.size (some len), rfl, done_new hw hn rfl rfl rfl (by simp) (fun q hq => Below.heap_alloc x _ q hq) (.inr ⟨x.heap.size, len, Bt.set_b _ _ _ _, Bt.set_c _ _ _ _, Nat.le_refl _, rfl⟩) (.inr ⟨ys, [], by simpa [BT.ty, BT.fr] using heap_alloc_new x (.cells ys.toArray t), hc.mono fun _ _ q => Leaf.ext (Bt.set_ext hn) q, len, Bt.set_c _ _ _ _, by rw [List.append_nil, ← hc.length, hcl]; exact Nat.le_refl _⟩)⟩
theorem all2_replicate {α γ : Type} {R : α → γ → Prop} {p : α} {q : γ} (h : R p q) : ∀ n : Nat, All2 R (List.replicate n p) (List.replicate n q)
  | 0 => trivial
  | n + 1 => ⟨h, all2_replicate h n⟩
theorem ok_bs {t len : Nat} {parts : Array (Nat × Operand)} (hw : Wf β x) (hn : β S.n = none ∧ β.c S.n = none) (ho : o.op = .buildSlice t len parts) (hp : ∀ p ∈ parts.toList, (evo S p.2).den β (a.eval p.2)) (h : stBs P S t len parts.toList = some e) : Goal P o a x S.n e β Q := by
  have hx : execOp a.eval o = (do pure (Next.value (← Instr.buildSlice t len (parts.map fun (i, y) => (i, a.eval y))))) := by unfold execOp; rw [ho]
  have hpd := parts_den (S := S) (a := a) hp
  have hpl : (parts.map fun (i, y) => (i, a.eval y)).toList = parts.toList.map fun (i, y) => (i, a.eval y) := by simp
  unfold stBs at h
  split at h
  · rename_i el hu
    split at h
    · rename_i z hs hz
      split at h
      · rename_i xs hl hf
        split at h
        rotate_left
        · cases h
        rename_i hxl
        have hxl := Nat.eq_of_beq_eq_true hxl
        cases h
        have hl := Nat.le_of_ble_eq_true hl
        obtain ⟨v, hv, hzv, hlf⟩ := zc_spec hz
        have hone : v.cells.toList.length = 1 := by
          have : ([z] : List Leaf).length = (v.cells.toList.map Leaf.v).length := by rw [hzv]
          simpa using this.symm
        obtain ⟨c, hc⟩ : ∃ c, v.cells.toList = [c] := List.length_eq_one_iff.1 hone
        have hzc : z = .v c := by rw [hc] at hzv; simpa using hzv
        have hcl : Leaf.den β z c := by rw [hzc]; exact ⟨rfl, hlf c (by rw [hc]; simp)⟩
        have hca : v.cells = #[c] := by apply Array.ext'; rw [hc]
        obtain ⟨zs, h1, h2⟩ := fill_sound (β := β) (fun i => some (i * 1, 1)) _ _ _ (Array.replicate len c) xs hpd (by simpa using all2_replicate hcl len) hf
        refine goal_row (t := el) (ys := zs.toList) (len := len) (sz := 1) hw hn hx ?_ h2 (by omega) rfl
        have hlim : ¬ len * 1 > 2 ^ 24 := by omega
        have hrep : ((Array.range (len * 1)).map fun i => (#[c] : Array Value)[i % 1]!) = Array.replicate len c := by
          apply Array.ext (by simp)
          intro i h1 h2
          simp [Nat.mod_one]
        unfold Instr.buildSlice
        simp only [Sem.run_bind, run_underlying hu, Result.andThen_ok, run_sz hs]
        rw [if_neg hlim]
        by_cases h0 : len = 0
        · subst h0
          simp only [Nat.zero_mul, if_true, Sem.run_pure, Result.andThen_ok]
          have e0 : ((Array.range 0).map fun i => (#[] : Array Value)[i % (#[] : Array Value).size]!) = Array.replicate 0 c := by apply Array.ext'; simp
          simp only [e0, hpl, h1, newRow, newObj, Sem.run_bind, Sem.run_pure, Result.andThen_ok]
          rfl
        · simp only [Nat.mul_one, h0, if_false, Sem.run_bind, hv, Sem.run_pure, Result.andThen_ok, hca]
          rw [Nat.mul_one] at hrep
          simp only [show (#[c] : Array Value).size = 1 from rfl, hrep, hpl]
          simp only [Nat.mul_one] at h1
          simp only [h1]
          simp only [newRow, newObj, Sem.run_bind, Sem.run_pure, Result.andThen_ok]
          rfl
      · cases h
    · rename_i m z hs hz
      split at h
      · split at h
        · rename_i hps
          cases h
          refine goal_row (t := el) (cs := []) (ys := []) (len := 0) (sz := m + 2) hw hn hx ?_ trivial (by simp) rfl
          have hpe : (parts.map fun (i, y) => (i, a.eval y)).toList = [] := by rw [hpl, hps]; rfl
          unfold Instr.buildSlice
          simp only [Sem.run_bind, run_underlying hu, Result.andThen_ok, run_sz hs]
          rw [if_neg (by omega)]
          have e0 : ((Array.range 0).map fun i => (#[] : Array Value)[i % (#[] : Array Value).size]!) = #[] := by apply Array.ext'; simp
          simp only [Nat.zero_mul, if_true, Sem.run_pure, Result.andThen_ok, e0]
          simp only [hpe, Instr.fill]
          have e1 : (Array.range 0) = #[] := rfl
          simp only [e1, Array.map_empty]
          simp only [newRow, newObj, Sem.run_bind, Sem.run_pure, Result.andThen_ok]
          rfl
        · cases h
      · rename_i xs hl hf
        split at h
        rotate_left
        · cases h
        rename_i hxl
        have hxl := Nat.eq_of_beq_eq_true hxl
        cases h
        simp only [Bool.and_eq_true] at hl
        obtain ⟨hl, hzz⟩ := hl
        have hl := Nat.le_of_ble_eq_true hl
        obtain ⟨v, hv, hzv, hlf⟩ := zc_spec hz
        obtain ⟨zs, h1, h2⟩ := fill_sound (β := β) (fun i => some (i * (m + 2), m + 2)) _ _ _ v.cells xs hpd (hzv ▸ den_vs hlf) hf
        refine goal_row (t := el) (ys := zs.toList) (len := 1) (sz := m + 2) hw hn hx ?_ h2 (by omega) rfl
        have hlim : ¬ 1 * (m + 2) > 2 ^ 24 := by omega
        have hvs : v.cells.size = m + 2 := by
          have := Nat.eq_of_beq_eq_true hzz
          rw [hzv] at this
          simpa using this
        have hrep : ((Array.range (1 * (m + 2))).map fun i => v.cells[i % v.cells.size]!) = v.cells := by
          apply Array.ext
          · simp [hvs]
          · intro i h1 h2
            have h3 : i % v.cells.size = i := Nat.mod_eq_of_lt h2
            simp [h3, h2]
        unfold Instr.buildSlice
        simp only [Sem.run_bind, run_underlying hu, Result.andThen_ok, run_sz hs]
        rw [if_neg hlim]
        simp only [show ¬ (1 * (m + 2) = 0) by omega, if_false, Sem.run_bind, hv, Sem.run_pure, Result.andThen_ok, hrep, hpl, h1]
        simp only [newRow, newObj, Sem.run_bind, Sem.run_pure, Result.andThen_ok]
        rfl
      · cases h
    · cases h
  · cases h
theorem bytesOf_length : ∀ {l : List Leaf} {bs : List Int}, bytesOf l = some bs → bs.length = l.length
  | [], bs, h => by simp only [bytesOf, Option.some.injEq] at h; subst h; rfl
  | y :: l, bs, h => by
    simp only [bytesOf] at h
    split at h
    · rename_i b r hb hr
      cases h
      simp [bytesOf_length hr]
    · cases h
theorem bytes_spec {β : Bt} : ∀ {l : List Leaf} {bs : List Int} {ys : List Value}, bytesOf l = some bs → All2 (Leaf.den β) l ys → ys = bs.map (Value.int .u8)
  | [], bs, ys, h, hd => by
    simp only [bytesOf, Option.some.injEq] at h; subst h
    cases ys with
    | nil => rfl
    | cons => exact hd.elim
  | y :: l, bs, ys, h, hd => by
    simp only [bytesOf] at h
    split at h
    · rename_i b r hb hr
      cases h
      have hy : y = .v (.int .u8 b) := by
        unfold byteOf at hb
        split at hb
        · cases hb; rfl
        · cases hb
      subst hy
      cases ys with
      | nil => exact hd.elim
      | cons q ys =>
        obtain ⟨⟨h1, _⟩, h2⟩ := hd
        rw [h1, bytes_spec hr h2]; rfl
    · cases h
theorem all_bytes : ∀ {bs : List Int}, All (bs.map inByte) → ∀ b ∈ bs, 0 ≤ b ∧ b < 256
  | [], _, b, h => by cases h
  | c :: bs, h, b, hb => by
    cases hb with
    | head => exact h.1
    | tail _ hb => exact all_bytes h.2 b hb
theorem run_conv_at {s t el b off len cap : Nat} {k : Blk} {bs : List Int} (hs : P.underlying s = some (.slice el)) (he : P.underlying el = some (.int .u8)) (ht : P.underlying t = some .string) (hB : BlkAt β x b k) (hnq : k.ty ≠ .q) (hbs : bytesOf ((k.cs.drop off).take len) = some bs) (hl : bs.length = len) (hbb : ∀ b ∈ bs, 0 ≤ b ∧ b < 256) :
    (convert s t (.slice (some ⟨b, off, none⟩) len cap)).run P x = .ok (.string (strOf bs)) x := by
  have := run_convert_bytes_back (P := P) x s t el ⟨b, off, none⟩ cap (bs.map fun b => UInt8.ofNat b.toNat) hs he ht (fun j hj => ?_)
  · rw [List.length_map, hl] at this; exact this
  · simp only [List.length_map] at hj
    have hbl := bytesOf_length hbs
    simp only [List.length_take, List.length_drop] at hbl
    obtain ⟨ys, hra, hyl, hyd⟩ := hB.range hnq (i := off) (n := len) (by omega)
    have hw' := bytes_spec hbs hyd
    have ea : (⟨b, off, none⟩ : Addr).add j = ⟨b, off + j, none⟩ := by unfold Addr.add; split <;> simp_all
    rw [ea, hra j (Value.int .u8 bs[j]) (by rw [hw']; simp [hj])]
    have h3 := hbb bs[j] (List.getElem_mem hj)
    simp only [List.getElem_map]
    congr 2
    simp only [UInt8.toNat_ofNat']
    omega
theorem allB_spec {β : Bt} : ∀ {l : List Leaf} {ys : List Value}, AllB l → All2 (Leaf.den β) l ys → ys = (l.map lfB).map fun b => Value.int .u8 (b.toNat : Int)
  | [], [], _, _ => rfl
  | y :: l, q :: ys, h, hd => by
    obtain ⟨b, hb⟩ := h y (by simp)
    obtain ⟨h1, h2⟩ := hd
    subst hb
    rw [allB_spec (fun z hz => h z (by simp [hz])) h2, h1.1]
    simp [lfB]
  | [], _ :: _, _, hd => hd.elim
  | _ :: _, [], _, hd => hd.elim
theorem run_conv_sym {s t el b off len cap : Nat} {k : Blk} (hs : P.underlying s = some (.slice el)) (he : P.underlying el = some (.int .u8)) (ht : P.underlying t = some .string) (hB : BlkAt β x b k) (hnq : k.ty ≠ .q) (hl : off + len ≤ k.cs.length) (hb : AllB ((k.cs.drop off).take len)) :
    (convert s t (.slice (some ⟨b, off, none⟩) len cap)).run P x = .ok (.string (strL ((k.cs.drop off).take len))) x := by
  have hlen : ((k.cs.drop off).take len).length = len := by simp; omega
  obtain ⟨ys, hra, hyl, hyd⟩ := hB.range hnq (i := off) (n := len) hl
  have hw' := allB_spec hb hyd
  have := run_convert_bytes_back (P := P) x s t el ⟨b, off, none⟩ cap (((k.cs.drop off).take len).map lfB) hs he ht (fun j hj => ?_)
  · rw [List.length_map, hlen] at this; exact this
  · simp only [List.length_map] at hj
    have ea : (⟨b, off, none⟩ : Addr).add j = ⟨b, off + j, none⟩ := by unfold Addr.add; split <;> simp_all
    rw [ea, hra j _ (by rw [hw', List.getElem?_map, List.getElem?_eq_getElem (by simpa using hj)]; rfl)]
theorem sbytes_den {β : Bt} (s : ByteArray) : All2 (Leaf.den β) (sbytes s) (s.data.toList.map fun b => Value.int .u8 (b.toNat : Int)) := all2_bytes _
theorem ok_conv {sym : Bool} {s t : Nat} {y : Operand} (hw : Wf β x) (ho : o.op = .convert s t y) (hy : (evo S y).den β (a.eval y)) (h : stConv P sym S s t (evo S y) = some e) (hob : All e.obs)
    (hrd : ∀ id ∈ e.rd, ∀ b k, β id = some b → S.blk id = some k → BlkAt β x b k) (hnew : ∀ id, S.n ≤ id → id < S.n + e.nw → β id = none ∧ β.c id = none) : Goal P o a x S.n e β Q := by
  have hx : execOp a.eval o = (do pure (Next.value (← convert s t (a.eval y)))) := by unfold execOp; rw [ho]
  unfold stConv at h
  split at h
  · rename_i el id off len hs ht hv
    rw [hv] at hy
    obtain ⟨b, cap, hb, hcap, hy⟩ := hy
    rw [hy] at hx
    split at h
    · rename_i k he hk
      obtain ⟨hk, hnq⟩ := blkW_spec hk
      split at h
      · cases h
        refine goal_v hw hx (y := .string (strL ((k.cs.drop off).take len))) ?_ ⟨rfl, rfl⟩ rfl
        exact run_conv_sym hs he ht (hrd id (by simp) b k hb hk) hnq hob.1 hob.2.1
      split at h
      · rename_i bs hbs
        split at h
        · rename_i hl
          have hl := Nat.eq_of_beq_eq_true hl
          cases h
          refine goal_v hw hx (y := .string (strOf bs)) ?_ ⟨rfl, rfl⟩ rfl
          exact run_conv_at hs he ht (hrd id (by simp) b k hb hk) hnq hbs hl (all_bytes hob)
        · cases h
      · cases h
    · cases h
  · rename_i el id len hs ht hv
    rw [hv] at hy
    split at h
    · rename_i k he hk
      obtain ⟨hk, hnq⟩ := blkW_spec hk
      split at h
      · cases h
        obtain ⟨hlen, hAB, _⟩ := hob
        rcases hy with ⟨h0, _, hy⟩ | ⟨b, cap, hb, _, hcap, hy⟩
        · rw [hy] at hx
          refine goal_v hw hx (y := .string (strL k.cs)) ?_ ⟨rfl, rfl⟩ rfl
          have hb0 : k.cs = [] := List.eq_nil_of_length_eq_zero (by omega)
          rw [hb0]
          simp [convert, run_underlying hs, run_underlying ht, Conv.bytesToString, run_underlying he, strL]
          rfl
        · rw [hy] at hx
          refine goal_v hw hx (y := .string (strL k.cs)) ?_ ⟨rfl, rfl⟩ rfl
          have e1 : (k.cs.drop 0).take len = k.cs := by rw [List.drop_zero, List.take_of_length_le (by omega)]
          have := run_conv_sym (cap := cap) hs he ht (hrd id (by simp) b k hb hk) hnq (by omega : 0 + len ≤ k.cs.length) (by rw [e1]; exact hAB)
          rw [e1] at this
          exact this
      split at h
      · rename_i bs hbs
        split at h
        · rename_i hl
          have hl := Nat.eq_of_beq_eq_true hl
          cases h
          rcases hy with ⟨h0, _, hy⟩ | ⟨b, cap, hb, _, hcap, hy⟩
          · rw [hy] at hx
            refine goal_v hw hx (y := .string (strOf bs)) ?_ ⟨rfl, rfl⟩ rfl
            have hb0 : bs = [] := List.eq_nil_of_length_eq_zero (by omega)
            subst hb0
            simp [convert, run_underlying hs, run_underlying ht, Conv.bytesToString, run_underlying he, strOf]
            rfl
          · rw [hy] at hx
            refine goal_v hw hx (y := .string (strOf bs)) ?_ ⟨rfl, rfl⟩ rfl
            have hkl := bytesOf_length hbs
            exact run_conv_at hs he ht (hrd id (by simp) b k hb hk) hnq (by rw [List.drop_zero, List.take_of_length_le (by omega)]; exact hbs) hl (all_bytes hob)
        · cases h
      · cases h
    · cases h
  · rename_i k1 k2 k3 m hs ht hv
    rw [hv] at hy
    obtain ⟨hy, _⟩ := hy
    rw [hy] at hx
    cases h
    refine goal_v hw hx (y := .int k2 (k2.wrap m)) ?_ (iv_den.2 rfl) rfl
    simp [convert, run_underlying hs, run_underlying ht, Conv.intToInt]
  · rename_i str hs ht hv
    rw [hv] at hy
    obtain ⟨hy, _⟩ := hy
    rw [hy] at hx
    cases h
    refine goal_v hw hx (y := .string str) ?_ ⟨rfl, rfl⟩ rfl
    simp [convert, run_underlying hs, run_underlying ht]
  · rename_i el str hs ht hv
    rw [hv] at hy
    obtain ⟨hy, _⟩ := hy
    rw [hy] at hx
    split at h
    · rename_i he
      cases h
      have hrun := run_bytes_of_string (P := P) x s t el str hs ht he
      have hge := grownCap_ge x str.size 0 el
      have hn := hnew S.n (Nat.le_refl _) (by simp)
      unfold Goal Oper.wp
      rw [hx, run_v hrun, Oper.upon_value]
      refine ⟨_, β.set S.n x.heap.size none, rfl, done_new hw hn rfl rfl rfl (by simp) (fun q hq => Below.heap_alloc x.drew _ q hq) ⟨x.heap.size, _, Bt.set_b _ _ _ _, hge, rfl⟩ (.inr ⟨str.data.toList.map fun b => Value.int .u8 (b.toNat : Int), (Array.replicate (grownCap x str.size 0 el - str.size) (Value.int .u8 0)).toList, ?_, (sbytes_den str).mono fun _ _ q => Leaf.ext (Bt.set_ext hn) q, trivial⟩)⟩
      have e1 : ((str.data.toList.map fun b => Value.int .u8 (b.toNat : Int)) ++ (Array.replicate (grownCap x str.size 0 el - str.size) (Value.int .u8 0)).toList).toArray = bytesRow str (grownCap x str.size 0 el) := by
        apply Array.ext'; simp [bytesRow]
      have e2 : ((str.data.toList.map fun b => Value.int .u8 (b.toNat : Int)) ++ (Array.replicate (grownCap x str.size 0 el - str.size) (Value.int .u8 0)).toList).length = (bytesRow str (grownCap x str.size 0 el)).size := by
        rw [← e1]; simp
      have := heap_alloc_new x.drew (.cells (bytesRow str (grownCap x str.size 0 el)) el ((bytesRow str (grownCap x str.size 0 el)).size, (bytesRow str (grownCap x str.size 0 el)).size + 1))
      rw [e2, e1]
      exact this
    · cases h
  · cases h
/-- **STEP IS SOUND.** -/
theorem step_sound (h : step P cx S o = some e) (hob : All e.obs) (hw : Wf β x) (hsl : ∀ p ∈ o.op.operands.toList, (evo S p).den β (a.eval p))
    (hrd : ∀ id ∈ e.rd, ∀ b k, β id = some b → S.blk id = some k → BlkAt β x b k) (hnew : ∀ id, S.n ≤ id → id < S.n + e.nw → β id = none ∧ β.c id = none) (hdc : DcOK β e.dc) : Goal P o a x S.n e β Q := by
  unfold step at h
  split at h
  · rename_i y ho; rw [ho] at hsl; cases h; exact goal_val hw (y := a.eval y) (by unfold execOp; rw [ho]; rfl) (hsl y (by simp [Op.operands])) rfl
  · rename_i y ho; rw [ho] at hsl; cases h; exact goal_val hw (y := a.eval y) (by unfold execOp; rw [ho]; rfl) (hsl y (by simp [Op.operands])) rfl
  · rename_i c p q ho; rw [ho] at hsl; exact ok_pick hw ho (hsl c (by simp [Op.operands])) (hsl p (by simp [Op.operands])) (hsl q (by simp [Op.operands])) h hob
  · rename_i t ho
    split at h
    · rename_i z hz; cases h; exact ok_alloc hw (hnew S.n (Nat.le_refl _) (by simp)) ho hz rfl
    · cases h
  · rename_i t y ho; rw [ho] at hsl
    split at h
    · rename_i cp hcp
      cases h
      have := hsl y (by simp [Op.operands])
      rw [hcp] at this
      exact ok_box hw (hnew S.n (Nat.le_refl _) (by simp)) ho this rfl
    · cases h
  · rename_i t parts ho; rw [ho] at hsl
    exact ok_build hw ho (fun p hp => hsl p.2 (by simp only [Op.operands]; simp; exact ⟨p.1, by simpa using hp⟩)) h
  · rename_i t y ho; rw [ho] at hsl; exact ok_load hw ho (hsl y (by simp [Op.operands])) h hob hrd
  · rename_i t y z ho; rw [ho] at hsl; exact ok_store hw ho (hsl y (by simp [Op.operands])) (hsl z (by simp [Op.operands])) h hob hrd
  · rename_i op t y z t' ho; rw [ho] at hsl; exact ok_bin hw ho (hsl y (by simp [Op.operands])) (hsl z (by simp [Op.operands])) h hob
  · rename_i op t y ho; rw [ho] at hsl
    have hy := hsl y (by simp [Op.operands])
    have hx : execOp a.eval o = (do pure (Next.value (← Op.unary op (a.eval y)))) := by unfold execOp; rw [ho]
    split at h
    · rename_i b hv
      rw [hv] at hy
      obtain ⟨hy, _⟩ := hy
      rw [hy] at hx
      cases h
      exact goal_v hw hx (y := .bool (!b)) (by simp [Op.unary]) (bv_den.2 rfl) rfl
    · rename_i k m hv
      rw [hv] at hy
      obtain ⟨hy, _⟩ := hy
      rw [hy] at hx
      cases h
      exact goal_v hw hx (y := .int k (k.wrap (0 - m))) (by simp [Op.unary, Op.intArith]) (arith_den hob) rfl
    · cases h
  · rename_i s t y ho; rw [ho] at hsl; exact ok_conv hw ho (hsl y (by simp [Op.operands])) h hob hrd hnew
  · rename_i t y z ho; rw [ho] at hsl
    exact ok_make hw (hnew S.n (Nat.le_refl _) (by unfold stMake at h; revert h; (repeat' split) <;> intro h <;> first | (cases h; simp) | cases h)) ho (hsl y (by simp [Op.operands])) (hsl z (by simp [Op.operands])) h
  · rename_i y ho; rw [ho] at hsl
    have hy := hsl y (by simp [Op.operands])
    split at h
    · rename_i id off hv
      rw [hv] at hy
      obtain ⟨b, hb, hy⟩ := hy
      cases h
      exact goal_val hw (y := a.eval y) (by unfold execOp; rw [ho]; simp only [hy]; rfl) ⟨b, hb, hy⟩ rfl
    · cases h
  · rename_i t y lo hi mx ho; rw [ho] at hsl
    exact ok_slice hw ho (hsl y (by simp [Op.operands])) (fun q hq => hsl q (by subst hq; simp [Op.operands])) (fun q hq => hsl q (by subst hq; simp [Op.operands])) h hob
  · rename_i t len ps ho; rw [ho] at hsl
    exact ok_bs hw (hnew S.n (Nat.le_refl _) (by unfold stBs at h; revert h; (repeat' split) <;> intro h <;> first | (cases h; simp) | cases h)) ho (fun p hp => hsl p.2 (by simp only [Op.operands]; simp; exact ⟨p.1, by simpa using hp⟩)) h
  · rename_i fn first caps ho; rw [ho] at hsl
    split at h
    · rename_i f l hfi hl
      cases h
      have hd := ops_den (S := S) (a := a) (β := β) (ps := caps.toList) (fun p hp => hsl p (by simp only [Op.operands]; simp; right; simpa using hp))
      have hfi' : first = #[] := by apply Array.ext'; rw [hfi]
      subst hfi'
      refine goal_val hw (y := .func (.func f) #[] (caps.map a.eval)) (by unfold execOp; rw [ho]; simp [Instr.makeFunc]) ⟨_, ptrs_den hl hd, ?_⟩ rfl
      congr 1
      apply Array.ext'
      simp
    · cases h
  · rename_i t y i ho; rw [ho] at hsl
    have hy := hsl y (by simp [Op.operands])
    split at h
    · rename_i fs id off hu hv
      rw [hv] at hy
      split at h
      · rename_i f hf
        split at h
        · rename_i m hs; cases h; exact ok_fieldAddr hw ho hu hf hs hy rfl
        · cases h
      · cases h
    · cases h
  · rename_i t y i ho; rw [ho] at hsl
    have hy := hsl y (by simp [Op.operands])
    split at h
    · rename_i fs xs hu hv
      rw [hv] at hy
      split at h
      · rename_i f hf
        split at h
        · rename_i v hs; cases h; exact ok_field hw ho hu hf hs hy rfl
        · cases h
      · cases h
    · cases h
  · rename_i t y z ho; rw [ho] at hsl; exact ok_indexAddr hw ho (hsl y (by simp [Op.operands])) (hsl z (by simp [Op.operands])) h hob
  · rename_i t y z ho; rw [ho] at hsl; exact ok_index hw ho (hsl y (by simp [Op.operands])) (hsl z (by simp [Op.operands])) h hob
  · rename_i y i ho; rw [ho] at hsl
    have hy := hsl y (by simp [Op.operands])
    split at h
    · rename_i xs hv
      rw [hv] at hy
      obtain ⟨ys, hy, hd⟩ := hy
      split at h
      · rename_i c hc
        cases h
        obtain ⟨r, hr, hrd'⟩ := hd.get hc
        refine goal_v hw (s := Instr.extract (a.eval y) i) (by unfold execOp; rw [ho]) (y := r) ?_ hrd' rfl
        rw [hy]
        simp [Instr.extract, hr]
      · cases h
    · cases h
  · rename_i c ho; rw [ho] at hsl; exact ok_call hw ho hsl h hob hrd hnew hdc
  · cases h
end
end Ab
end Go.Proofs.YtpdckpifhniioaaGreat
namespace Go.Proofs.YtpdckpifhniioaaGreat
open Go.RowKit
namespace Ab
def Le (s s' : SV) : Prop := ∀ (β : Bt) (y : Value), s.den β y → s'.den β y
def tmpsOf : List Operand → List Nat
  | [] => []
  | .tmp t :: l => t :: tmpsOf l
  | _ :: l => tmpsOf l
def gSlot (ops : List Oper) : Option (Nat × Bool) → List Nat
  | none => []
  | some (j, _) => match ops[j]? with
    | some p => match p.dst with | some t => [t] | none => []
    | none => []
def readsG (ops : List Oper) (o : Oper) : List Nat := gSlot ops o.guard ++ tmpsOf o.op.operands.toList
def wants (want b : Bool) : Bool := match want with | true => b | false => !b
theorem wants_eq (want b : Bool) : wants want b = (b == want) := by cases want <;> cases b <;> rfl
def impl (c : Bool) : List Prop → List Prop
  | [] => []
  | p :: l => [c = true → All (p :: l)]
theorem impl_all {c : Bool} {l : List Prop} (h : All (impl c l)) (hc : c = true) : All l := by
  cases l with
  | nil => trivial
  | cons p l => exact h.1 hc
/-- Under which condition an operation comes about. -/
def gd (S : St) (ops : List Oper) : Option (Nat × Bool) → Option (Option Bool)
  | none => some none
  | some (j, want) => match ops[j]? with
    | some p => match p.dst with
      | some t => match S.sl t with
        | .c (.l (.v (.bool b))) => some (some (wants want b))
        | .g c0 (.l (.v (.bool b))) => some (some (c0 && wants want b))
        | _ => none
      | none => none
    | none => none
def stripE (S : St) : List Nat → List (Nat × SV)
  | [] => []
  | t :: ts => match S.sl t with | .g _ x => (t, .c x) :: stripE S ts | _ => stripE S ts
def stripO (S : St) : List Nat → List Prop
  | [] => []
  | t :: ts => match S.sl t with | .g d _ => (d = true) :: stripO S ts | _ => stripO S ts
def stripS (S : St) (ts : List Nat) : St := { S with E := stripE S ts ++ S.E }
def stripT (o : Oper) : List Nat := match o.op with
  | .pick q _ _ => tmpsOf [q]
  | op => tmpsOf op.operands.toList
/-- More of what is known: slots of operations that do not come about, that do. -/
structure Cy extends Cx where
  off : List Nat
  on : List Nat
def Cy.at (cx : Cy) (b : Bool) : Cy := { cx with ap := b }
def nfE (cx : Cy) (d : Option Nat) (e : Eff) : Eff := match d with
  | none => e
  | some d => match lk cx.nf d with
    | some v => { e with v := v, obs := e.obs ++ [Le e.v v] }
    | none => e
def stepG (P : Program) (cx : Cy) (S : St) (ops : List Oper) (o : Oper) : Option Eff := match gd S ops o.guard with
  | none => none
  | some none => match step P cx.toCx S o with | some e => some (nfE cx o.dst e) | none => none
  | some (some c) => match memb (o.dst.getD 0) cx.off with
    | true => some { v := .u, obs := [c = false] }
    | false => match step P cx.toCx (stripS S (stripT o)) o with
      | none => none
      | some e => match memb (o.dst.getD 0) cx.on with
        | true => some (nfE cx o.dst { e with obs := (c = true) :: (stripO S (stripT o) ++ e.obs) })
        | false => match (nfE cx o.dst e).v, e.wr, e.nw, e.dc with
          | .c y, [], 0, [] => some { v := .g c y, rd := e.rd, obs := impl c (stripO S (stripT o) ++ (nfE cx o.dst e).obs) }
          | _, _, _, _ => none
section
variable {P : Program} {cx : Cy} {S : St} {β : Bt} {a : Act} {x : World} {o : Oper} {e : Eff} {Q : Exit → Act → World → Prop} {ops : List Oper}
theorem mem_tmpsOf : ∀ {l : List Operand} {t : Nat}, t ∈ tmpsOf l ↔ Operand.tmp t ∈ l
  | [], t => by simp [tmpsOf]
  | p :: l, t => by
    cases p <;> simp [tmpsOf, mem_tmpsOf (l := l)]
theorem evo_den {l : List Operand} (h : ∀ t ∈ tmpsOf l, (S.sl t).den β (a.eval (.tmp t))) : ∀ p ∈ l, (evo S p).den β (a.eval p) := by
  intro p hp
  cases p with
  | tmp t => exact h t (mem_tmpsOf.2 hp)
  | const v =>
    show (match leafy v with | true => SV.c (.l (.v v)) | false => .u).den β v
    cases hl : leafy v with
    | true => exact ⟨rfl, hl⟩
    | false => trivial
  | func f => exact ⟨[], trivial, rfl⟩
  | global g => trivial
theorem strip_lk : ∀ {ts : List Nat} {t : Nat}, All (stripO S ts) → (S.sl t).den β (a.eval (.tmp t)) → ((stripS S ts).sl t).den β (a.eval (.tmp t))
  | [], t, _, h => h
  | s :: ts, t, ho, h => by
    unfold stripO at ho
    unfold stripS stripE
    cases hs : S.sl s with
    | g d y =>
      rw [hs] at ho
      simp only at ho ⊢
      by_cases e : s = t
      · subst e
        rw [hs] at h
        show SV.den β (match lk ((s, SV.c y) :: stripE S ts ++ S.E) s with | some v => v | none => .u) _
        rw [List.cons_append, lk_cons_eq]
        exact h.1 ho.1
      · have := strip_lk (ts := ts) ho.2 h
        show SV.den β (match lk ((s, SV.c y) :: stripE S ts ++ S.E) t with | some v => v | none => .u) _
        rw [List.cons_append, lk_cons_ne _ _ e]
        exact this
    | u => rw [hs] at ho; exact strip_lk (ts := ts) ho h
    | c y => rw [hs] at ho; exact strip_lk (ts := ts) ho h
    | tup y => rw [hs] at ho; exact strip_lk (ts := ts) ho h
theorem wanted_of {j t : Nat} {want : Bool} {p : Oper} (hg : o.guard = some (j, want)) (hj : ops[j]? = some p) (ht : p.dst = some t) :
    (∀ b, a.eval (.tmp t) = .bool b → Region.wanted o (yielded ops.toArray a.tmps) = (b == want)) ∧ (a.eval (.tmp t) = undef → Region.wanted o (yielded ops.toArray a.tmps) = false) := by
  have hy : yielded ops.toArray a.tmps j = match a.tmps[t]? with | some (.bool b) => some b | _ => none := by
    unfold yielded; simp [hj, ht]
    rfl
  have he : a.eval (.tmp t) = (a.tmps[t]?).getD undef := by simp [Act.eval]
  constructor
  · intro b hb
    rw [he] at hb
    cases hq : a.tmps[t]? with
    | none => rw [hq] at hb; cases hb
    | some v =>
      rw [hq] at hb
      simp only [Option.getD_some] at hb
      subst hb
      unfold Region.wanted
      rw [hg]; simp only [hy, hq]
      cases b <;> cases want <;> rfl
  · intro hb
    rw [he] at hb
    unfold Region.wanted
    rw [hg]; simp only [hy]
    cases hq : a.tmps[t]? with
    | none => rfl
    | some v =>
      rw [hq] at hb
      simp only [Option.getD_some] at hb
      subst hb
      rfl
theorem gd_spec {c : Bool} (h : gd S ops o.guard = some (some c)) (hs : ∀ t ∈ gSlot ops o.guard, (S.sl t).den β (a.eval (.tmp t))) : Region.wanted o (yielded ops.toArray a.tmps) = c := by
  cases hg : o.guard with
  | none => rw [hg] at h; simp [gd] at h
  | some jw =>
    obtain ⟨j, want⟩ := jw
    rw [hg] at h hs
    simp only [gd] at h
    cases hj : ops[j]? with
    | none => rw [hj] at h; cases h
    | some p =>
      simp only [hj] at h
      cases ht : p.dst with
      | none => rw [ht] at h; cases h
      | some t =>
        simp only [ht] at h
        have hst := hs t (by simp [gSlot, hj, ht])
        obtain ⟨w1, w2⟩ := wanted_of (a := a) hg hj ht
        split at h
        · rename_i b hv
          cases h
          rw [hv] at hst
          rw [wants_eq]; exact w1 b hst.1
        · rename_i c0 b hv
          cases h
          rw [hv] at hst
          cases c0 with
          | true => rw [wants_eq, w1 b (hst.1 rfl).1]; rfl
          | false => rw [w2 (hst.2 rfl)]; rfl
        · cases h
theorem nfE_wr (d : Option Nat) (e : Eff) : (nfE cx d e).wr = e.wr ∧ (nfE cx d e).nw = e.nw ∧ (nfE cx d e).rd = e.rd ∧ (nfE cx d e).dc = e.dc := by
  unfold nfE
  cases d with
  | none => exact ⟨rfl, rfl, rfl, rfl⟩
  | some d => simp only; split <;> exact ⟨rfl, rfl, rfl, rfl⟩
theorem nfE_obs {d : Option Nat} {e : Eff} (h : All (nfE cx d e).obs) : All e.obs ∧ Le e.v (nfE cx d e).v := by
  unfold nfE at h ⊢
  cases d with
  | none => exact ⟨h, fun _ _ k => k⟩
  | some d =>
    cases hl : lk cx.nf d with
    | none => simp only [hl] at h ⊢; exact ⟨h, fun _ _ k => k⟩
    | some v =>
      simp only [hl] at h ⊢
      obtain ⟨h1, h2⟩ := All.append.1 h
      exact ⟨h1, h2.1⟩
theorem Goal.mono {n : Nat} {e e' : Eff} (h : Goal P o a x n e β Q) (hv : ∀ β' y, e.v.den β' y → e'.v.den β' y) (hwr : e'.wr = e.wr) (hnw : e'.nw = e.nw) : Goal P o a x n e' β Q := by
  unfold Goal at h ⊢
  refine Oper.wp_mono ?_ h
  rintro a' x' ⟨y, β', rfl, hD⟩
  refine ⟨y, β', rfl, ?_⟩
  rw [hwr, hnw]
  exact ⟨hv _ _ hD.den, hD.ext, hD.new, hD.newc, hD.inj, hD.lt, hD.os, hD.tape, hD.output, hD.size, hD.keep, hD.blk⟩
/-- **A GUARDED OPERATION.** -/
theorem stepG_sound (h : stepG P cx S ops o = some e) (hob : All e.obs) (hw : Wf β x) (hsl : ∀ t ∈ readsG ops o, (S.sl t).den β (a.eval (.tmp t)))
    (hrd : ∀ id ∈ e.rd, ∀ b k, β id = some b → S.blk id = some k → BlkAt β x b k) (hnew : ∀ id, S.n ≤ id → id < S.n + e.nw → β id = none ∧ β.c id = none) (hdc : DcOK β e.dc) :
    if Region.wanted o (yielded ops.toArray a.tmps) then Goal P o a x S.n e β Q else Done S.n e.nw β x e.wr e.v undef β x := by
  have hsg : ∀ t ∈ gSlot ops o.guard, (S.sl t).den β (a.eval (.tmp t)) := fun t ht => hsl t (by simp [readsG, ht])
  have hso : ∀ t ∈ tmpsOf o.op.operands.toList, (S.sl t).den β (a.eval (.tmp t)) := fun t ht => hsl t (by simp [readsG, ht])
  unfold stepG at h
  split at h
  · cases h
  · rename_i hg
    have hgn : o.guard = none := by
      cases hq : o.guard with
      | none => rfl
      | some jw =>
        rw [hq] at hg
        obtain ⟨j, w⟩ := jw
        simp only [gd] at hg
        (repeat' split at hg) <;> cases hg
    have hwt : Region.wanted o (yielded ops.toArray a.tmps) = true := by unfold Region.wanted; rw [hgn]
    rw [if_pos hwt]
    split at h
    · rename_i e0 he0
      cases h
      obtain ⟨h1, h2, h3, h4⟩ := nfE_wr (cx := cx) o.dst e0
      obtain ⟨k1, k2⟩ := nfE_obs hob
      rw [h3] at hrd
      rw [h2] at hnew
      rw [h4] at hdc
      exact (step_sound (Q := Q) he0 k1 hw (evo_den hso) hrd hnew hdc).mono (fun β' y hy => k2 β' y hy) h1 h2
    · cases h
  · rename_i c hg
    have hwc := gd_spec (a := a) (β := β) hg hsg
    split at h
    · cases h
      have : c = false := hob.1
      rw [hwc, this, if_neg (by simp)]
      exact done_id hw trivial
    · split at h
      · cases h
      · rename_i e0 he0
        split at h
        · cases h
          obtain ⟨h1, h2, h3, h4⟩ := nfE_wr (cx := cx) o.dst { e0 with obs := (c = true) :: (stripO S (stripT o) ++ e0.obs) }
          obtain ⟨k1, k2⟩ := nfE_obs hob
          rw [h3] at hrd
          rw [h2] at hnew
          rw [h4] at hdc
          obtain ⟨kc, ks⟩ := k1
          obtain ⟨ks, ko⟩ := All.append.1 ks
          subst kc
          rw [hwc, if_pos rfl]
          have hso' : ∀ t ∈ tmpsOf o.op.operands.toList, ((stripS S (stripT o)).sl t).den β (a.eval (.tmp t)) := fun t ht => strip_lk ks (hso t ht)
          exact (step_sound (Q := Q) he0 ko hw (evo_den hso') hrd hnew hdc).mono (fun β' y hy => k2 β' y hy) h1 h2
        · split at h
          · rename_i y hv hwr hnw hdc0
            cases h
            rw [hwc]
            cases c with
            | true =>
              rw [if_pos rfl]
              obtain ⟨ks, ko0⟩ := All.append.1 (impl_all hob rfl)
              obtain ⟨ko, kle⟩ := nfE_obs ko0
              have hso' : ∀ t ∈ tmpsOf o.op.operands.toList, ((stripS S (stripT o)).sl t).den β (a.eval (.tmp t)) := fun t ht => strip_lk ks (hso t ht)
              refine (step_sound (Q := Q) he0 ko hw (evo_den hso') hrd (fun id h1 h2 => ?_) (by rw [hdc0]; exact hdc)).mono (fun β' z hz => ?_) hwr.symm hnw.symm
              · rw [hnw] at h2; omega
              · have hz := kle β' z hz
                rw [hv] at hz; exact ⟨fun _ => hz, fun h => by cases h⟩
            | false =>
              rw [if_neg (by simp)]
              exact done_id hw ⟨fun h => (by cases h), fun _ => rfl⟩
          · cases h
def St.upd (S : St) (d : Option Nat) (e : Eff) : St :=
  { E := (match d with | some d => (d, e.v) :: S.E | none => S.E), H := (e.wr.map fun p => (p.1, some p.2)) ++ S.H, n := S.n + e.nw, m := S.m, W := e.wr.map (·.1) ++ S.W, q := S.q }
theorem lk_map {α γ : Type} (f : α → γ) : ∀ (l : List (Nat × α)) (i : Nat), lk (l.map fun p => (p.1, f p.2)) i = (lk l i).map f
  | [], i => rfl
  | (k, v) :: l, i => by
    by_cases h : k = i
    · subst h; rw [List.map_cons, lk_cons_eq, lk_cons_eq]; rfl
    · rw [List.map_cons, lk_cons_ne _ _ h, lk_cons_ne _ _ h]; exact lk_map f l i
theorem upd_blk (d : Option Nat) (e : Eff) (id : Nat) : (S.upd d e).blk id = match lk e.wr id with | some k => some k | none => S.blk id := by
  unfold St.blk St.upd
  simp only
  rw [lk_append, lk_map]
  cases lk e.wr id <;> rfl
theorem eval_put_self {d : Nat} {y : Value} (h : d < a.tmps.size) : (a.put (some d) y).eval (.tmp d) = y := by
  simp [Act.eval, Act.put, h]
theorem eval_put_ne {d : Option Nat} {t : Nat} {y : Value} (h : d ≠ some t) : (a.put d y).eval (.tmp t) = a.eval (.tmp t) := by
  cases d with
  | none => rfl
  | some d =>
    have : d ≠ t := fun e => h (by rw [e])
    simp [Act.eval, Act.put, Array.getElem?_setIfInBounds_ne this]
theorem put_size (d : Option Nat) (y : Value) : (a.put d y).tmps.size = a.tmps.size := by
  cases d <;> simp [Act.put]
theorem put_defers' (d : Option Nat) (y : Value) : (a.put d y).defers = a.defers := by
  cases d <;> rfl
/-- New names are all given a block. -/
def newsOK (n nw : Nat) (wr : List (Nat × Blk)) : Bool := (List.range nw).all fun k => (lk wr (n + k)).isSome
theorem newsOK_spec {n nw : Nat} {wr : List (Nat × Blk)} (h : newsOK n nw wr = true) {id : Nat} (h1 : n ≤ id) (h2 : id < n + nw) : ∃ k, lk wr id = some k := by
  have := (List.all_eq_true.1 h) (id - n) (by simp; omega)
  rw [show n + (id - n) = id by omega] at this
  exact Option.isSome_iff_exists.1 this
def dstOK (m : Nat) : Option Nat → Bool
  | some d => Nat.blt d m
  | none => true
theorem upd_rep {y : Value} {β' : Bt} {x' : World} {d : Option Nat} (hR : Rep β S a x) (hD : Done S.n e.nw β x e.wr e.v y β' x') (hd : dstOK S.m d = true) (hn : newsOK S.n e.nw e.wr = true) :
    Rep β' (S.upd d e) (a.put d y) x' ∧ Nx S.q (S.upd d e).W β x β' x' := by
  constructor
  · refine ⟨fun t => ?_, by rw [put_size]; exact hR.size, by rw [put_defers']; exact hR.defs, fun id b k hb hk => ?_, hD.inj, fun i b hb => ⟨hD.lt i b hb, ?_⟩, fun i v hv => ?_, Nat.le_trans hR.q (Nat.le_add_right _ _)⟩
    · by_cases hdt : d = some t
      · subst hdt
        have hlt : t < a.tmps.size := by rw [hR.size]; exact Nat.le_of_ble_eq_true hd
        rw [eval_put_self hlt]
        show SV.den β' (match lk ((t, e.v) :: S.E) t with | some v => v | none => .u) y
        rw [lk_cons_eq]
        exact hD.den
      · rw [eval_put_ne hdt]
        have : (S.upd d e).sl t = S.sl t := by
          unfold St.sl St.upd
          cases d with
          | none => rfl
          | some d => simp only; rw [lk_cons_ne _ _ (fun q => hdt (by rw [q]))]
        rw [this]
        exact SV.ext hD.ext (hR.sl t)
    · rw [upd_blk] at hk
      cases hl : lk e.wr id with
      | some k' => rw [hl] at hk; cases hk; exact hD.blk id b k hb hl
      | none =>
        rw [hl] at hk
        rcases hD.new id b hb with h1 | ⟨h1, h2, h3⟩
        · refine (hR.blk id b k h1 hk).ext hD.ext (hD.keep b (hR.lt id b h1).1 fun id' h' => ?_)
          rw [hR.inj id' id b h' h1]; exact hl
        · obtain ⟨q, hq⟩ := newsOK_spec hn h1 h2
          rw [hl] at hq; cases hq
    · rcases hD.new i b hb with h1 | ⟨h1, h2, h3⟩
      · have := (hR.lt i b h1).2; show i < S.n + e.nw; omega
      · show i < S.n + e.nw; omega
    · rcases hD.newc i v hv with h1 | ⟨h1, h2⟩
      · have := hR.ltc i v h1; show i < S.n + e.nw; omega
      · show i < S.n + e.nw; omega
  · have hq := hR.q
    refine ⟨fun id hi => ?_, fun id hi => ?_, fun id b hb => ?_, hD.os, hD.tape, hD.output, hD.size, fun k hk hne => hD.keep k hk fun id hid => ?_⟩
    · cases h : β id with
      | some b => exact hD.ext.b id b h
      | none =>
        cases h' : β' id with
        | none => rfl
        | some b =>
          rcases hD.new id b h' with h1 | ⟨h1, _, _⟩
          · rw [h] at h1; cases h1
          · omega
    · cases h : β.c id with
      | some b => exact hD.ext.c id b h
      | none =>
        cases h' : β'.c id with
        | none => rfl
        | some b =>
          rcases hD.newc id b h' with h1 | ⟨h1, _⟩
          · rw [h] at h1; cases h1
          · omega
    · rcases hD.new id b hb with h1 | ⟨h1, h2, h3⟩
      · by_cases hid : id < S.q
        · exact .inl ⟨hid, h1⟩
        · exact .inr ⟨by omega, .inr ⟨id, by omega, h1⟩⟩
      · exact .inr ⟨by omega, .inl h3⟩
    · refine lk_none fun hm => (hne id hid).2 ?_
      show id ∈ e.wr.map (·.1) ++ S.W
      simp only [List.mem_append]; exact .inl hm
end
end Ab
end Go.Proofs.YtpdckpifhniioaaGreat
namespace Go.Proofs.YtpdckpifhniioaaGreat
open Go.RowKit
namespace Ab
/-- What has been done by one operation of a region. -/
structure Tr where
  dst : Option Nat
  e : Eff
  n : Nat
  rs : List Nat
/-- The operations in the text's order; bs: is there room, where a slice grows. -/
def trace (P : Program) (cx : Cy) (ops : List Oper) (n0 : Nat) : List Oper → List Bool → St → Option (List Tr × St)
  | [], _, S => some ([], S)
  | o :: r, bs, S => match stepG P (cx.at true) S ops o with
    | none => none
    | some e => match e.dc with
      | [] => match dstOK S.m o.dst, newsOK S.n e.nw e.wr with
        | true, true => match trace P cx ops n0 r bs (S.upd o.dst e) with
          | some (l, S') => some (⟨o.dst, e, S.n, readsG ops o⟩ :: l, S')
          | none => none
        | _, _ => none
      | [(id, m, true)] => match Nat.blt id n0, bs with
        | true, true :: bs => match dstOK S.m o.dst, newsOK S.n e.nw e.wr with
          | true, true => match trace P cx ops n0 r bs (S.upd o.dst e) with
            | some (l, S') => some (⟨o.dst, e, S.n, readsG ops o⟩ :: l, S')
            | none => none
          | _, _ => none
        | true, false :: bs => match stepG P (cx.at false) S ops o with
          | none => none
          | some e => match dstOK S.m o.dst, newsOK S.n e.nw e.wr with
            | true, true => match trace P cx ops n0 r bs (S.upd o.dst e) with
              | some (l, S') => some (⟨o.dst, { e with obs := (e.dc = [(id, m, false)]) :: e.obs }, S.n, readsG ops o⟩ :: l, S')
              | none => none
            | _, _ => none
        | _, _ => none
      | _ => none
/-- What an operation does in fact. -/
def StepS (P : Program) (ops : List Oper) (S : St) (o : Oper) (e : Eff) : Prop := ∀ (β : Bt) (a : Act) (x : World) (Q : Exit → Act → World → Prop), All e.obs → Wf β x → (∀ t ∈ readsG ops o, (S.sl t).den β (a.eval (.tmp t))) →
  (∀ id ∈ e.rd, ∀ b k, β id = some b → S.blk id = some k → BlkAt β x b k) → (∀ id, S.n ≤ id → id < S.n + e.nw → β id = none ∧ β.c id = none) → DcOK β e.dc →
  if Region.wanted o (yielded ops.toArray a.tmps) then Goal P o a x S.n e β Q else Done S.n e.nw β x e.wr e.v undef β x
inductive TraceR (P : Program) (ops : List Oper) (c0 : Nat → Option Nat) (n0 : Nat) : List Oper → St → List Tr → St → Prop
  | nil (S : St) : TraceR P ops c0 n0 [] S [] S
  | cons {o : Oper} {r : List Oper} {S S' : St} {e : Eff} {l : List Tr} (he : StepS P ops S o e) (hd : dstOK S.m o.dst = true) (hn : newsOK S.n e.nw e.wr = true)
      (hc : All e.obs → ∀ p ∈ e.dc, p.1 < n0 ∧ ∀ v, c0 p.1 = some v → decide (p.2.1 ≤ v) = p.2.2) (hr : TraceR P ops c0 n0 r (S.upd o.dst e) l S') : TraceR P ops c0 n0 (o :: r) S (⟨o.dst, e, S.n, readsG ops o⟩ :: l) S'
theorem stepS {P : Program} {cx : Cy} {ops : List Oper} {S : St} {o : Oper} {e : Eff} (h : stepG P cx S ops o = some e) : StepS P ops S o e :=
  fun β a x Q ho hw hsl hrd hnew hdc => stepG_sound h ho hw hsl hrd hnew hdc
/-- One of the ways is the run's. -/
theorem trace_pick {P : Program} {cx : Cy} {ops : List Oper} {n0 : Nat} (c0 : Nat → Option Nat) : ∀ (r : List Oper) (k : Nat) (S : St) (Φ : Option (List Tr × St) → Prop), ¬ Φ none → (∀ bs : List Bool, bs.length = k → Φ (trace P cx ops n0 r bs S)) →
    ∃ l S', TraceR P ops c0 n0 r S l S' ∧ Φ (some (l, S'))
  | [], k, S, Φ, h0, h => ⟨[], S, .nil S, h (List.replicate k true) (by simp)⟩
  | o :: r, k, S, Φ, h0, h => by
    have hne : trace P cx ops n0 (o :: r) (List.replicate k true) S ≠ none := fun e => h0 (e ▸ h _ (by simp))
    cases he : stepG P (cx.at true) S ops o with
    | none => exact absurd (by simp only [trace, he]) hne
    | some e =>
      cases hdc : e.dc with
      | nil =>
        cases hd : dstOK S.m o.dst with
        | false => exact absurd (by simp only [trace, he, hdc, hd]) hne
        | true =>
          cases hn : newsOK S.n e.nw e.wr with
          | false => exact absurd (by simp only [trace, he, hdc, hd, hn]) hne
          | true =>
            obtain ⟨l, S', h1, h2⟩ := trace_pick c0 r k (S.upd o.dst e) (fun q => Φ (match q with | some (l, S') => some (⟨o.dst, e, S.n, readsG ops o⟩ :: l, S') | none => none)) h0 (fun bs hb => by
              have := h bs hb
              simp only [trace, he, hdc, hd, hn] at this
              exact this)
            exact ⟨_, S', .cons (stepS he) hd hn (fun _ p hp => by rw [hdc] at hp; cases hp) h1, h2⟩
      | cons p ps =>
        obtain ⟨id, m, bq⟩ := p
        cases ps with
        | cons _ _ => exact absurd (by simp only [trace, he, hdc]) hne
        | nil =>
          cases bq with
          | false => exact absurd (by simp only [trace, he, hdc]) hne
          | true =>
            cases hlt : Nat.blt id n0 with
            | false => exact absurd (by simp only [trace, he, hdc, hlt]) hne
            | true =>
              have hid : id < n0 := Nat.le_of_ble_eq_true hlt
              cases k with
              | zero => exact absurd (by simp only [trace, he, hdc, hlt, List.replicate]) hne
              | succ k =>
                cases hb : (match c0 id with | some v => decide (m ≤ v) | none => true) with
                | true =>
                  cases hd : dstOK S.m o.dst with
                  | false => exact absurd (by simp only [trace, he, hdc, hlt, hd, List.replicate]) hne
                  | true =>
                    cases hn : newsOK S.n e.nw e.wr with
                    | false => exact absurd (by simp only [trace, he, hdc, hlt, hd, hn, List.replicate]) hne
                    | true =>
                      obtain ⟨l, S', h1, h2⟩ := trace_pick c0 r k (S.upd o.dst e) (fun q => Φ (match q with | some (l, S') => some (⟨o.dst, e, S.n, readsG ops o⟩ :: l, S') | none => none)) h0 (fun bs hb => by
                        have := h (true :: bs) (by simp [hb])
                        simp only [trace, he, hdc, hlt, hd, hn] at this
                        exact this)
                      refine ⟨_, S', .cons (stepS he) hd hn (fun _ p hp => ?_) h1, h2⟩
                      rw [hdc] at hp
                      simp only [List.mem_singleton] at hp
                      subst hp
                      exact ⟨hid, fun v hv => by rw [hv] at hb; exact hb⟩
                | false =>
                  have hne' : trace P cx ops n0 (o :: r) (false :: List.replicate k true) S ≠ none := fun e => h0 (e ▸ h _ (by simp))
                  cases he' : stepG P (cx.at false) S ops o with
                  | none => exact absurd (by simp only [trace, he, hdc, hlt, he']) hne'
                  | some e' =>
                    cases hd : dstOK S.m o.dst with
                    | false => exact absurd (by simp only [trace, he, hdc, hlt, he', hd]) hne'
                    | true =>
                      cases hn : newsOK S.n e'.nw e'.wr with
                      | false => exact absurd (by simp only [trace, he, hdc, hlt, he', hd, hn]) hne'
                      | true =>
                        obtain ⟨l, S', h1, h2⟩ := trace_pick c0 r k (S.upd o.dst e') (fun q => Φ (match q with | some (l, S') => some (⟨o.dst, { e' with obs := (e'.dc = [(id, m, false)]) :: e'.obs }, S.n, readsG ops o⟩ :: l, S') | none => none)) h0 (fun bs hb => by
                          have := h (false :: bs) (by simp [hb])
                          simp only [trace, he, hdc, hlt, he', hd, hn] at this
                          exact this)
                        refine ⟨_, S', .cons (e := { e' with obs := (e'.dc = [(id, m, false)]) :: e'.obs }) (fun β a x Q ho hw hsl hrd hnew hdc => stepS he' β a x Q ho.2 hw hsl hrd hnew hdc) hd hn (fun ho p hp => ?_) h1, h2⟩
                        have hp : p ∈ e'.dc := hp
                        rw [ho.1] at hp
                        simp only [List.mem_singleton] at hp
                        subst hp
                        exact ⟨hid, fun v hv => by rw [hv] at hb; exact hb⟩
def AllT : List Tr → Prop
  | [] => True
  | t :: l => All t.e.obs ∧ AllT l
theorem AllT.get : ∀ {l : List Tr} {i : Nat} {t : Tr}, AllT l → l[i]? = some t → All t.e.obs
  | [], i, t, _, h => by simp at h
  | s :: l, 0, t, h, e => by simp at e; subst e; exact h.1
  | s :: l, i + 1, t, h, e => AllT.get h.2 (by simpa using e)
section
variable {P : Program} {cx : Cy} {ops : List Oper} {Q : Exit → Act → World → Prop}
theorem trace_mono {c0 : Nat → Option Nat} {n0 : Nat} : ∀ {r : List Oper} {S S' : St} {l : List Tr}, TraceR P ops c0 n0 r S l S' → S.n ≤ S'.n ∧ S.m = S'.m ∧ (∀ i ∈ S.W, i ∈ S'.W) ∧ S.q = S'.q
  | _, _, _, _, .nil S => ⟨Nat.le_refl _, rfl, fun _ h => h, rfl⟩
  | _, _, _, _, .cons (S := S) (e := e) he hd hn hc hr => by
    obtain ⟨h1, h2, h3, h4⟩ := trace_mono hr
    refine ⟨Nat.le_trans (Nat.le_add_right _ _) h1, h2, fun i hi => h3 i ?_, h4⟩
    show i ∈ e.wr.map (·.1) ++ S.W
    simp only [List.mem_append]; exact .inr hi
theorem dc_ok {c0 : Nat → Option Nat} {n0 : Nat} {β : Bt} {dc : List (Nat × Nat × Bool)} (h : ∀ p ∈ dc, p.1 < n0 ∧ ∀ v, c0 p.1 = some v → decide (p.2.1 ≤ v) = p.2.2) (hc : ∀ id v, id < n0 → β.c id = some v → c0 id = some v) : DcOK β dc :=
  fun p hp v hv => (h p hp).2 v (hc _ _ (h p hp).1 hv)
theorem seq_ops {c0 : Nat → Option Nat} {n0 : Nat} : ∀ (r : List Oper) (i : Nat) (S S' : St) (l : List Tr) (a : Act) (x : World) (β : Bt), (∀ j, ops[i + j]? = r[j]?) → TraceR P ops c0 n0 r S l S' → n0 ≤ S.n → (∀ id v, id < n0 → β.c id = some v → c0 id = some v) → AllT l → Rep β S a x →
    (∀ β' a' x', Nx S.q S'.W β x β' x' → Rep β' S' a' x' → Q .normal a' x') → wpOps P ops.toArray Q (List.range' i r.length) a x
  | [], i, S, S', l, a, x, β, hi, h, hn0, hc0, ho, hR, hk => by
    cases h
    exact hk β a x Nx.refl hR
  | o :: r, i, S, S', l, a, x, β, hi, h, hn0, hc0, ho, hR, hk => by
    cases h with
    | cons he hd hn hc hr =>
      rename_i e l'
      obtain ⟨m1, m2, m3, m4⟩ := trace_mono hr
      have hoi : ops.toArray[i]? = some o := by have := hi 0; simpa using this
      rw [List.length_cons, List.range'_succ]
      have hnext : ∀ y β' x', Done S.n e.nw β x e.wr e.v y β' x' → wpOps P ops.toArray Q (List.range' (i + 1) r.length) (a.put o.dst y) x' := by
        intro y β' x' hD
        obtain ⟨hR', hN⟩ := upd_rep hR hD hd hn
        refine seq_ops r (i + 1) _ S' l' _ x' β' (fun j => by have := hi (j + 1); rw [show i + 1 + j = i + (j + 1) by omega]; simpa using this) hr (Nat.le_trans hn0 (Nat.le_add_right _ _)) (fun id v hid hv => ?_) ho.2 hR' fun β'' a'' x'' hN' hR'' => ?_
        · rcases hD.newc id v hv with h1 | ⟨h1, _⟩
          · exact hc0 id v hid h1
          · omega
        · exact hk β'' a'' x'' (hN.trans hN' fun i hi _ => m3 i hi) hR''
      have hs := he β a x Q ho.1 ⟨hR.inj, fun i b h => (hR.lt i b h).1⟩ (fun t _ => hR.sl t) (fun id _ b k hb hk => hR.blk id b k hb hk) (fun id h1 _ => by
        constructor
        · cases hq : β id with
          | none => rfl
          | some b => have := (hR.lt id b hq).2; omega
        · cases hq : β.c id with
          | none => rfl
          | some b => have := hR.ltc id b hq; omega) (dc_ok (hc ho.1) hc0)
      unfold wpOps
      rw [hoi]
      simp only
      split
      · rename_i hw
        rw [if_pos hw] at hs
        refine .inl (Oper.wp_mono ?_ hs)
        rintro a' x' ⟨y, β', rfl, hD⟩
        exact hnext y β' x' hD
      · rename_i hw
        rw [if_neg hw] at hs
        exact hnext undef β x hs
def entE (t : Tr) : List (Nat × SV) := match t.dst with | some d => [(d, t.e.v)] | none => []
def entH (t : Tr) : List (Nat × Option Blk) := t.e.wr.map fun p => (p.1, some p.2)
def acc {α : Type} (f : Tr → List (Nat × α)) : List Tr → (Nat → Bool) → Nat → List (Nat × α) → List (Nat × α)
  | [], _, _, E => E
  | t :: l, D, i, E => acc f l D (i + 1) (match D i with | true => f t ++ E | false => E)
theorem acc_congr {α : Type} (f : Tr → List (Nat × α)) (k : Nat) : ∀ (l : List Tr) (D D' : Nat → Bool) (i : Nat) (E E' : List (Nat × α)), (∀ j t, l[j]? = some t → (lk (f t) k).isSome = true → D (i + j) = D' (i + j)) → lk E k = lk E' k → lk (acc f l D i E) k = lk (acc f l D' i E') k
  | [], _, _, _, _, _, _, h => h
  | t :: l, D, D', i, E, E', hh, h => by
    refine acc_congr f k l D D' (i + 1) _ _ (fun j t' hj hs => ?_) ?_
    · have := hh (j + 1) t' (by simpa using hj) hs
      rw [show i + 1 + j = i + (j + 1) by omega]; exact this
    · have h0 := hh 0 t (by simp)
      cases hq : lk (f t) k with
      | some v =>
        have := h0 (by rw [hq]; rfl)
        simp only [Nat.add_zero] at this
        rw [this]
        cases D' i
        · exact h
        · simp only [lk_append, hq]
      | none =>
        have e : ∀ (b : Bool) (F : List (Nat × α)), lk (match b with | true => f t ++ F | false => F) k = lk F k := by
          intro b F; cases b
          · rfl
          · simp only [lk_append, hq]
        rw [e, e]; exact h
theorem acc_none {α : Type} (f : Tr → List (Nat × α)) : ∀ (l : List Tr) (D : Nat → Bool) (i : Nat) (E : List (Nat × α)), (∀ j, i ≤ j → D j = false) → acc f l D i E = E
  | [], _, _, _, _ => rfl
  | t :: l, D, i, E, h => by
    unfold acc
    rw [h i (Nat.le_refl _)]
    exact acc_none f l D (i + 1) E fun j hj => h j (by omega)
theorem acc_all {α : Type} (f : Tr → List (Nat × α)) : ∀ (l : List Tr) (D D' : Nat → Bool) (i : Nat) (E : List (Nat × α)), (∀ j, j < l.length → D (i + j) = D' (i + j)) → acc f l D i E = acc f l D' i E
  | [], _, _, _, _, _ => rfl
  | t :: l, D, D', i, E, h => by
    unfold acc
    have := h 0 (by simp)
    simp only [Nat.add_zero] at this
    rw [this]
    exact acc_all f l D D' (i + 1) _ fun j hj => by rw [show i + 1 + j = i + (j + 1) by omega]; exact h (j + 1) (by simp; omega)
def upto (k : Nat) : Nat → Bool := fun j => decide (j < k)
/-- The states within a region. -/
theorem trace_at {c0 : Nat → Option Nat} {n0 : Nat} : ∀ {r : List Oper} {S S' : St} {l : List Tr}, TraceR P ops c0 n0 r S l S' →
    l.length = r.length ∧ S'.E = acc entE l (fun _ => true) 0 S.E ∧ S'.H = acc entH l (fun _ => true) 0 S.H ∧
    ∀ i t, l[i]? = some t → ∃ (o : Oper) (Si : St), r[i]? = some o ∧ StepS P ops Si o t.e ∧ t.dst = o.dst ∧ t.rs = readsG ops o ∧ dstOK S.m o.dst = true ∧ newsOK Si.n t.e.nw t.e.wr = true ∧ Si.n = t.n ∧ Si.m = S.m ∧
      Si.E = acc entE l (upto i) 0 S.E ∧ Si.H = acc entH l (upto i) 0 S.H ∧ S.n ≤ t.n ∧ t.n + t.e.nw ≤ S'.n ∧ (∀ p ∈ t.e.wr, p.1 ∈ S'.W) ∧ (∀ j t', l[j]? = some t' → i < j → t.n + t.e.nw ≤ t'.n) ∧
      (All t.e.obs → ∀ p ∈ t.e.dc, p.1 < n0 ∧ ∀ v, c0 p.1 = some v → decide (p.2.1 ≤ v) = p.2.2)
  | _, _, _, _, .nil S => ⟨rfl, rfl, rfl, fun i t h => by simp at h⟩
  | _, _, S', _, .cons (o := o) (r := r) (S := S) (e := e) (l := l') he hd hn hdc hr => by
    obtain ⟨h1, h2, h3, h4⟩ := trace_at hr
    obtain ⟨m1, m2, m3, _⟩ := trace_mono hr
    have eE : ∀ (D : Nat → Bool), D 0 = true → acc entE (⟨o.dst, e, S.n, readsG ops o⟩ :: l') D 0 S.E = acc entE l' (fun j => D (j + 1)) 0 (S.upd o.dst e).E := by
      intro D hD0
      have sh : ∀ (l : List Tr) (i : Nat) (E : List (Nat × SV)), acc entE l D (i + 1) E = acc entE l (fun j => D (j + 1)) i E := by
        intro l
        induction l with
        | nil => intro i E; rfl
        | cons t l ih => intro i E; unfold acc; exact ih (i + 1) _
      show acc entE l' D (0 + 1) _ = _
      rw [sh, hD0]
      have : entE ⟨o.dst, e, S.n, readsG ops o⟩ ++ S.E = (S.upd o.dst e).E := by
        unfold entE St.upd; cases o.dst <;> rfl
      simp only [this]
    have eH : ∀ (D : Nat → Bool), D 0 = true → acc entH (⟨o.dst, e, S.n, readsG ops o⟩ :: l') D 0 S.H = acc entH l' (fun j => D (j + 1)) 0 (S.upd o.dst e).H := by
      intro D hD0
      have sh : ∀ (l : List Tr) (i : Nat) (E : List (Nat × Option Blk)), acc entH l D (i + 1) E = acc entH l (fun j => D (j + 1)) i E := by
        intro l
        induction l with
        | nil => intro i E; rfl
        | cons t l ih => intro i E; unfold acc; exact ih (i + 1) _
      show acc entH l' D (0 + 1) _ = _
      rw [sh, hD0]
      rfl
    refine ⟨by simp [h1], by rw [eE _ rfl]; exact h2, by rw [eH _ rfl]; exact h3, fun i t hi => ?_⟩
    cases i with
    | zero =>
      simp only [List.getElem?_cons_zero, Option.some.injEq] at hi
      subst hi
      refine ⟨o, S, by simp, he, rfl, rfl, hd, hn, rfl, rfl, ?_, ?_, Nat.le_refl _, m1, fun p hp => m3 _ (by show p.1 ∈ e.wr.map (·.1) ++ S.W; simp only [List.mem_append]; exact .inl (List.mem_map_of_mem hp)), ?_, hdc⟩
      · rw [acc_none]; intro j _; simp [upto]
      · rw [acc_none]; intro j _; simp [upto]
      · intro j t' hj hlt
        cases j with
        | zero => omega
        | succ j =>
          obtain ⟨_, _, _, _, _, _, _, _, _, _, _, _, h5, _⟩ := h4 j t' (by simpa using hj)
          exact h5
    | succ i =>
      obtain ⟨o', Si, k1, k2, k3, k4, k5, k6, k7, k8, k9, k10, k11, k12, k13, k14, k15⟩ := h4 i t (by simpa using hi)
      have hup : (fun j => upto (i + 1) (j + 1)) = upto i := by funext j; simp [upto]
      refine ⟨o', Si, by simpa using k1, k2, k3, k4, k5, k6, k7, k8, ?_, ?_, Nat.le_trans (Nat.le_add_right _ _) k11, k12, k13, ?_, k15⟩
      · rw [eE _ (by simp [upto]), hup]; exact k9
      · rw [eH _ (by simp [upto]), hup]; exact k10
      · intro j t' hj hlt
        cases j with
        | zero => omega
        | succ j => exact k14 j t' (by simpa using hj) (by omega)
def mask : List Nat → Nat
  | [] => 0
  | t :: l => 2 ^ t ||| mask l
theorem mask_mem : ∀ {l : List Nat} {t : Nat}, t ∈ l → (mask l).testBit t = true
  | s :: l, t, h => by
    unfold mask
    rw [Nat.testBit_or]
    cases h with
    | head => simp [Nat.testBit_two_pow_self]
    | tail _ h => rw [mask_mem h]; simp
structure Mk where
  rS : Nat
  wS : Nat
  rH : Nat
  wH : Nat
def Tr.mk' (t : Tr) : Mk := ⟨mask t.rs, (match t.dst with | some d => 2 ^ d | none => 0), mask t.e.rd, mask (t.e.wr.map (·.1))⟩
def cf (p q : Mk) : Bool := Nat.beq ((p.wS &&& (q.rS ||| q.wS)) ||| ((p.rS &&& q.wS) ||| ((p.wH &&& (q.rH ||| q.wH)) ||| (p.rH &&& q.wH)))) 0
def okAgainst (q : Mk) (clo : Nat) : List (Nat × Mk) → Bool
  | [] => true
  | (i, p) :: l => match cf p q with
    | true => okAgainst q clo l
    | false => match clo.testBit i with | true => okAgainst q clo l | false => false
def chk : Nat → List Mk → List Nat → List (Nat × Mk) → Bool
  | _, [], _, _ => true
  | j, q :: r, c :: cs, acc => match okAgainst q c acc with | true => chk (j + 1) r cs ((j, q) :: acc) | false => false
  | _, _ :: _, [], _ => false
theorem okAgainst_spec {q : Mk} {c : Nat} : ∀ {l : List (Nat × Mk)}, okAgainst q c l = true → ∀ p ∈ l, cf p.2 q = true ∨ c.testBit p.1 = true
  | (i, p) :: l, h, r, hr => by
    unfold okAgainst at h
    cases hr with
    | head =>
      cases hc : cf p q with
      | true => exact .inl (by first | exact hc | rfl)
      | false =>
        rw [hc] at h
        cases hb : c.testBit i with
        | true => exact .inr (by first | exact hb | rfl)
        | false => simp only [hb] at h; cases h
    | tail _ hr =>
      refine okAgainst_spec ?_ r hr
      cases hc : cf p q with
      | true => rw [hc] at h; exact h
      | false =>
        rw [hc] at h
        cases hb : c.testBit i with
        | true => simp only [hb] at h; exact h
        | false => simp only [hb] at h; cases h
theorem chk_spec : ∀ {l : List Mk} {j : Nat} {cs : List Nat} {acc : List (Nat × Mk)}, chk j l cs acc = true →
    (∀ i q, l[i]? = some q → ∀ p ∈ acc, cf p.2 q = true ∨ (cs.getD i 0).testBit p.1 = true) ∧
    (∀ i k p q, l[i]? = some p → l[k]? = some q → i < k → cf p q = true ∨ (cs.getD k 0).testBit (j + i) = true)
  | [], j, cs, acc, h => ⟨fun i q h => by simp at h, fun i k p q h => by simp at h⟩
  | q :: r, j, [], acc, h => by cases h
  | q :: r, j, c :: cs, acc, h => by
    unfold chk at h
    cases ha : okAgainst q c acc with
    | false => rw [ha] at h; cases h
    | true =>
      rw [ha] at h
      obtain ⟨h1, h2⟩ := chk_spec h
      refine ⟨fun i q' hi p hp => ?_, fun i k p q' hi hk hik => ?_⟩
      · cases i with
        | zero => simp at hi; subst hi; exact okAgainst_spec ha p hp
        | succ i => exact h1 i q' (by simpa using hi) p (List.mem_cons_of_mem _ hp)
      · cases k with
        | zero => omega
        | succ k =>
          cases i with
          | zero =>
            simp at hi; subst hi
            have := h1 k q' (by simpa using hk) (j, q) (by simp)
            simpa using this
          | succ i =>
            have := h2 i k p q' (by simpa using hi) (by simpa using hk) (by omega)
            rw [show j + (i + 1) = j + 1 + i by omega]
            simpa using this
def clo1 (a : List Nat) : List Edge → Nat
  | [] => 0
  | e :: l => match Region.binds .any e with
    | true => 2 ^ e.on ||| (a.getD e.on 0 ||| clo1 a l)
    | false => clo1 a l
def clos : List Oper → List Nat → List Nat
  | [], a => a
  | o :: r, a => clos r (a ++ [clo1 a o.after.toList])
theorem clo1_spec {a : List Nat} : ∀ {l : List Edge} {b : Nat}, (clo1 a l).testBit b = true → ∃ e ∈ l, Region.binds .any e = true ∧ (b = e.on ∨ (a.getD e.on 0).testBit b = true)
  | [], b, h => by simp [clo1] at h
  | e :: l, b, h => by
    unfold clo1 at h
    cases hb : Region.binds .any e with
    | false =>
      rw [hb] at h
      obtain ⟨e', h1, h2⟩ := clo1_spec h
      exact ⟨e', by simp [h1], h2⟩
    | true =>
      rw [hb] at h
      simp only [Nat.testBit_or, Bool.or_eq_true] at h
      rcases h with h | h | h
      · rw [Nat.testBit_two_pow] at h
        exact ⟨e, by simp, hb, .inl (by have := of_decide_eq_true h; omega)⟩
      · exact ⟨e, by simp, hb, .inr h⟩
      · obtain ⟨e', h1, h2⟩ := clo1_spec h
        exact ⟨e', by simp [h1], h2⟩
theorem clos_pre : ∀ (l : List Oper) (a : List Nat) (i : Nat), i < a.length → (clos l a).getD i 0 = a.getD i 0
  | [], a, i, h => rfl
  | o :: l, a, i, h => by
    unfold clos
    rw [clos_pre l _ i (by simp; omega)]
    simp [List.getD, List.getElem?_append_left h]
theorem clos_at : ∀ (l : List Oper) (a : List Nat) (i : Nat) (o : Oper), l[i]? = some o → ∃ a', (∀ j, a'.getD j 0 = 0 ∨ a'.getD j 0 = (clos l a).getD j 0) ∧ (clos l a).getD (a.length + i) 0 = clo1 a' o.after.toList
  | [], a, i, o, h => by simp at h
  | p :: l, a, 0, o, h => by
    simp at h; subst h
    refine ⟨a, fun j => ?_, ?_⟩
    · by_cases hj : j < a.length
      · exact .inr (by unfold clos; rw [clos_pre l _ j (by simp; omega)]; simp [List.getD, List.getElem?_append_left hj])
      · exact .inl (by simp [List.getD, List.getElem?_eq_none (Nat.le_of_not_lt hj)])
    · unfold clos
      rw [clos_pre l _ _ (by simp)]
      simp [List.getD]
  | p :: l, a, i + 1, o, h => by
    obtain ⟨a', h1, h2⟩ := clos_at l (a ++ [clo1 a p.after.toList]) i o (by simpa using h)
    refine ⟨a', h1, ?_⟩
    unfold clos
    rw [← h2]
    simp only [List.length_append, List.length_singleton]
    congr 1
    omega
/-- A set that holds with each operation all that it waits for. -/
def Closed (cs : List Nat) (D : Nat → Bool) : Prop := ∀ j, D j = true → ∀ b, (cs.getD j 0).testBit b = true → D b = true
theorem closed_step {o : Oper} {i : Nat} {D : Nat → Bool} (hc : Closed (clos ops []) D) (ho : ops[i]? = some o) (hd : ∀ e ∈ o.after, Region.binds .any e = true → D e.on = true) : ∀ b, ((clos ops []).getD i 0).testBit b = true → D b = true := by
  intro b hb
  obtain ⟨a', h1, h2⟩ := clos_at ops [] i o ho
  rw [show i = ([] : List Nat).length + i by simp, h2] at hb
  obtain ⟨e, he, hbi, hor⟩ := clo1_spec hb
  have hD := hd e (by simpa using he) hbi
  rcases hor with rfl | h
  · exact hD
  · rcases h1 e.on with hz | hz
    · rw [hz] at h; simp at h
    · rw [hz] at h; exact hc _ hD b h
theorem bits {p q : Mk} (h : cf p q = true) (t : Nat) : ¬ (p.wS.testBit t = true ∧ (q.rS.testBit t = true ∨ q.wS.testBit t = true)) ∧ ¬ (p.rS.testBit t = true ∧ q.wS.testBit t = true) ∧ ¬ (p.wH.testBit t = true ∧ (q.rH.testBit t = true ∨ q.wH.testBit t = true)) ∧ ¬ (p.rH.testBit t = true ∧ q.wH.testBit t = true) := by
  have h0 := Nat.eq_of_beq_eq_true h
  have h1 := congrArg (fun z => z.testBit t) h0
  simp only [Nat.testBit_or, Nat.testBit_and, Nat.zero_testBit, Bool.or_eq_false_iff, Bool.and_eq_false_iff] at h1
  obtain ⟨a, b, c, d⟩ := h1
  refine ⟨fun ⟨x, y⟩ => ?_, fun ⟨x, y⟩ => ?_, fun ⟨x, y⟩ => ?_, fun ⟨x, y⟩ => ?_⟩
  · simp_all
  · simp_all
  · simp_all
  · simp_all
end
end Ab
end Go.Proofs.YtpdckpifhniioaaGreat
namespace Go.Proofs.YtpdckpifhniioaaGreat
open Go.RowKit
namespace Ab
section
variable {P : Program} {cx : Cy} {ops : List Oper} {Q : Exit → Act → World → Prop}
theorem acc_succ {α : Type} (f : Tr → List (Nat × α)) : ∀ (l : List Tr) (i s : Nat) (t : Tr) (E : List (Nat × α)), l[i]? = some t → acc f l (upto (s + i + 1)) s E = f t ++ acc f l (upto (s + i)) s E
  | [], i, s, t, E, h => by simp at h
  | u :: l, 0, s, t, E, h => by
    simp at h; subst h
    unfold acc
    have h1 : upto (s + 0 + 1) s = true := by simp [upto]
    have h2 : upto (s + 0) s = false := by simp [upto]
    rw [h1, h2, acc_none _ _ _ _ _ (fun j hj => by simp [upto]; omega), acc_none _ _ _ _ _ (fun j hj => by simp [upto]; omega)]
  | u :: l, i + 1, s, t, E, h => by
    unfold acc
    have h1 : upto (s + (i + 1) + 1) s = true := by simp [upto]; omega
    have h2 : upto (s + (i + 1)) s = true := by simp [upto]
    rw [h1, h2]
    have := acc_succ f l i (s + 1) t (f u ++ E) (by simpa using h)
    rw [show s + 1 + i + 1 = s + (i + 1) + 1 by omega, show s + 1 + i = s + (i + 1) by omega] at this
    exact this
theorem entE_bit {t : Tr} {k : Nat} (h : (lk (entE t) k).isSome = true) : t.mk'.wS.testBit k = true := by
  unfold entE at h
  unfold Tr.mk'
  cases hd : t.dst with
  | none => rw [hd] at h; cases h
  | some d =>
    rw [hd] at h
    obtain ⟨v, hv⟩ := Option.isSome_iff_exists.1 h
    have := lk_mem hv
    simp only [List.mem_singleton, Prod.mk.injEq] at this
    simp [this.1, Nat.testBit_two_pow_self]
theorem entH_bit {t : Tr} {k : Nat} (h : (lk (entH t) k).isSome = true) : t.mk'.wH.testBit k = true := by
  obtain ⟨v, hv⟩ := Option.isSome_iff_exists.1 h
  have := lk_mem hv
  unfold entH at this
  obtain ⟨p, hp, e⟩ := List.mem_map.1 this
  cases e
  exact mask_mem (List.mem_map_of_mem hp)
/-- Each edge that binds goes to an earlier operation. -/
def lowE (i : Nat) : List Edge → Bool
  | [] => true
  | e :: l => match Region.binds .any e with
    | true => match Nat.blt e.on i with | true => lowE i l | false => false
    | false => lowE i l
def lowL : Nat → List Oper → Bool
  | _, [] => true
  | i, o :: l => match lowE i o.after.toList with | true => lowL (i + 1) l | false => false
theorem lowE_spec {i : Nat} : ∀ {l : List Edge}, lowE i l = true → ∀ e ∈ l, Region.binds .any e = true → e.on < i
  | e :: l, h, e', he, hb => by
    unfold lowE at h
    cases he with
    | head =>
      rw [hb] at h
      cases hq : Nat.blt e.on i with
      | true => exact Nat.le_of_ble_eq_true hq
      | false => simp only [hq] at h; cases h
    | tail _ he =>
      refine lowE_spec ?_ e' he hb
      cases hq : Region.binds .any e with
      | false => rw [hq] at h; exact h
      | true =>
        rw [hq] at h
        cases hq' : Nat.blt e.on i with
        | true => simp only [hq'] at h; exact h
        | false => simp only [hq'] at h; cases h
theorem lowL_cons {s : Nat} {o : Oper} {l : List Oper} (h : lowL s (o :: l) = true) : lowE s o.after.toList = true ∧ lowL (s + 1) l = true := by
  rw [lowL] at h
  cases hq : lowE s o.after.toList with
  | false => rw [hq] at h; cases h
  | true => rw [hq] at h; exact ⟨rfl, h⟩
theorem lowL_spec (l : List Oper) : ∀ (s i : Nat) (o : Oper), lowL s l = true → l[i]? = some o → ∀ e ∈ o.after.toList, Region.binds .any e = true → e.on < s + i := by
  induction l with
  | nil => intro s i o _ hi; simp at hi
  | cons p l ih =>
    intro s i o h hi e he hb
    obtain ⟨h1, h2⟩ := lowL_cons h
    cases i with
    | zero => simp at hi; subst hi; exact lowE_spec h1 e he hb
    | succ i =>
      have := ih (s + 1) i o h2 (by simpa using hi) e he hb
      omega
theorem all_doneB {l : List Oper} (hL : lowL 0 l = true) {D : Nat → Bool}
    (hD : ∀ i, i < l.length → (∃ o, l[i]? = some o ∧ ∃ e ∈ o.after, Region.binds .any e = true ∧ D e.on = false) ∨ D i = true) : ∀ i, i < l.length → D i = true := by
  intro i
  induction i using Nat.strongRecOn with
  | _ i ih =>
    intro hi
    rcases hD i hi with ⟨o, ho, e, he, hb, hf⟩ | h
    · have hlt := lowL_spec l 0 i o hL ho e (by simpa using he) hb
      rw [ih _ (by omega) (by omega)] at hf
      cases hf
    · exact h
/-- **A REGION THAT DRAWS ITS ORDER.** -/
theorem draw_ops {id : Nat} {S S' : St} {l : List Tr} {β : Bt} {a : Act} {x : World} (hm : P.follows .mixedOrders = true) (h : TraceR P ops β.c S.n ops S l S') (hck : chk 0 (l.map Tr.mk') (clos ops []) [] = true) (hL : lowL 0 ops = true) (ho : AllT l) (hR : Rep β S a x)
    (hk : ∀ β' a' x', Nx S.q S'.W β x β' x' → Rep β' S' a' x' → Q .normal a' x') : (Code.region id ops.toArray true).wp P Q a x := by
  obtain ⟨hlen, hE, hH, hat⟩ := trace_at h
  obtain ⟨mn, mm, mW, mq⟩ := trace_mono h
  obtain ⟨_, hpair⟩ := chk_spec hck
  have stD : ∃ st : (Nat → Bool) → St, ∀ D, st D = ⟨acc entE l D 0 S.E, acc entH l D 0 S.H, S'.n, S.m, S'.W, S'.q⟩ := ⟨_, fun D => rfl⟩
  obtain ⟨st, hst⟩ := stD
  have slD : ∀ D k, (st D).sl k = match lk (acc entE l D 0 S.E) k with | some v => v | none => .u := fun D k => by rw [hst]; rfl
  have blD : ∀ D k, (st D).blk k = match lk (acc entH l D 0 S.H) k with | some v => v | none => none := fun D k => by rw [hst]; rfl
  -- what interferes is in order
  have ord : ∀ (D : Nat → Bool) (i j : Nat) (ti tj : Tr) (o : Oper), l[i]? = some ti → l[j]? = some tj → ops[i]? = some o → i ≠ j → D i = false → (∀ e ∈ o.after, Region.binds .any e = true → D e.on = true) → Closed (clos ops []) D →
      (∀ k, ((tj.mk'.wS.testBit k = true ∧ (ti.mk'.rS.testBit k = true ∨ ti.mk'.wS.testBit k = true)) ∨ (tj.mk'.wH.testBit k = true ∧ (ti.mk'.rH.testBit k = true ∨ ti.mk'.wH.testBit k = true))) → D j = decide (j < i)) := by
    intro D i j ti tj o hi hj hoi hne hDi hdep hcl k hcon
    by_cases hji : j < i
    · rw [decide_eq_true hji]
      rcases hpair j i tj.mk' ti.mk' (by simp [hj]) (by simp [hi]) hji with hc | hc
      · obtain ⟨b1, b2, b3, b4⟩ := bits hc k
        rcases hcon with hcon | hcon
        · exact absurd hcon b1
        · exact absurd hcon b3
      · rw [show 0 + j = j by omega] at hc
        exact closed_step hcl hoi hdep j hc
    · rw [decide_eq_false hji]
      rcases hpair i j ti.mk' tj.mk' (by simp [hi]) (by simp [hj]) (by omega) with hc | hc
      · obtain ⟨b1, b2, b3, b4⟩ := bits hc k
        rcases hcon with ⟨w, r | r⟩ | ⟨w, r | r⟩
        · exact absurd ⟨r, w⟩ b2
        · exact absurd ⟨r, .inr w⟩ b1
        · exact absurd ⟨r, w⟩ b4
        · exact absurd ⟨r, .inr w⟩ b3
      · rw [show 0 + i = i by omega] at hc
        cases hq : D j with
        | false => rfl
        | true => rw [hcl j hq i hc] at hDi; cases hDi
  refine wp_region_inv hm (fun D a' x' => ∃ β', Rep β' (st D) a' x' ∧ Nx S.q S'.W β x β' x' ∧ (∀ i t, l[i]? = some t → D i = false → ∀ id, t.n ≤ id → id < t.n + t.e.nw → β' id = none ∧ β'.c id = none) ∧ (∀ id v, id < S.n → β'.c id = some v → β.c id = some v) ∧ Closed (clos ops []) D) ?_ ?_ ?_
  · -- the start
    refine ⟨β, ⟨fun t => ?_, by rw [hst]; exact hR.size, hR.defs, fun id b k hb hk' => ?_, hR.inj, fun i b hb => ⟨(hR.lt i b hb).1, by rw [hst]; exact Nat.lt_of_lt_of_le (hR.lt i b hb).2 mn⟩, fun i v hv => by rw [hst]; exact Nat.lt_of_lt_of_le (hR.ltc i v hv) mn, by rw [hst]; exact mq ▸ Nat.le_trans hR.q mn⟩, ⟨fun _ _ => rfl, fun _ _ => rfl, fun id b e => (Nat.lt_or_ge id S.q).elim (fun h => .inl ⟨h, e⟩) fun h => .inr ⟨h, .inr ⟨id, h, e⟩⟩, rfl, rfl, rfl, Nat.le_refl _, fun _ _ _ => rfl⟩, ?_, fun _ _ _ h => h, ?_⟩
    · rw [slD, acc_none _ _ _ _ _ (fun _ _ => rfl)]; exact hR.sl t
    · rw [blD, acc_none _ _ _ _ _ (fun _ _ => rfl)] at hk'; exact (hR.blk id b k hb hk').ext (Ext.refl β) rfl
    · intro i t ht _ id h1 h2
      obtain ⟨_, _, _, _, _, _, _, _, _, _, _, _, h11, _⟩ := hat i t ht
      constructor
      · cases hq : β id with
        | none => rfl
        | some b => have := (hR.lt id b hq).2; omega
      · cases hq : β.c id with
        | none => rfl
        | some b => have := hR.ltc id b hq; omega
    · intro j hj; cases hj
  · -- a step
    rintro D a' x' i o hoi hDi hdep ⟨β', hR', hN', hnone, hc0, hcl⟩
    have hoi' : ops[i]? = some o := by simpa using hoi
    have hil : i < l.length := by rw [hlen]; exact (List.getElem?_eq_some_iff.1 hoi').1
    obtain ⟨t, ht⟩ : ∃ t, l[i]? = some t := ⟨l[i], List.getElem?_eq_getElem hil⟩
    obtain ⟨o', Si, k1, k2, k3, k4, k5, k6, k7, k8, k9, k10, k11, k12, k13, k14, k15⟩ := hat i t ht
    rw [hoi'] at k1; cases k1
    have hord := fun j tj (hj : l[j]? = some tj) (hne : i ≠ j) => ord D i j t tj o ht hj hoi' hne hDi hdep hcl
    have hsl : ∀ k ∈ readsG ops o, (Si.sl k).den β' (a'.eval (.tmp k)) := by
      intro k hkr
      have : Si.sl k = (st D).sl k := by
        have hcg := acc_congr entE k l D (upto i) 0 S.E S.E (fun j tj hj hs => by
          rw [show 0 + j = j by omega]
          by_cases hij : i = j
          · subst hij; rw [hDi]; simp [upto]
          · exact hord j tj hj hij k (.inl ⟨entE_bit hs, .inl (mask_mem (by rw [k4]; exact hkr))⟩)) rfl
        rw [slD, hcg]
        unfold St.sl
        rw [k9]
        try rfl
      rw [this]; exact hR'.sl k
    have hrd : ∀ id ∈ t.e.rd, ∀ b k, β' id = some b → Si.blk id = some k → BlkAt β' x' b k := by
      intro id hid b k hb hbk
      have : Si.blk id = (st D).blk id := by
        have hcg := acc_congr entH id l D (upto i) 0 S.H S.H (fun j tj hj hs => by
          rw [show 0 + j = j by omega]
          by_cases hij : i = j
          · subst hij; rw [hDi]; simp [upto]
          · exact hord j tj hj hij id (.inr ⟨entH_bit hs, .inl (mask_mem hid)⟩)) rfl
        rw [blD, hcg]
        unfold St.blk
        rw [k10]
        try rfl
      rw [this] at hbk
      exact hR'.blk id b k hb hbk
    have hs := k2 β' a' x' Q (ho.get ht) ⟨hR'.inj, fun i b h => (hR'.lt i b h).1⟩ hsl hrd (fun id h1 h2 => hnone i t ht hDi id (by omega) (by omega)) (dc_ok (k15 (ho.get ht)) hc0)
    have fin : ∀ y β'' x'', Done Si.n t.e.nw β' x' t.e.wr t.e.v y β'' x'' → ∃ β₂, Rep β₂ (st fun j => if j = i then true else D j) (a'.put o.dst y) x'' ∧ Nx S.q S'.W β x β₂ x'' ∧ (∀ i_1 t, l[i_1]? = some t → (if i_1 = i then true else D i_1) = false → ∀ id, t.n ≤ id → id < t.n + t.e.nw → β₂ id = none ∧ β₂.c id = none) ∧ (∀ id v, id < S.n → β₂.c id = some v → β.c id = some v) ∧ Closed (clos ops []) (fun j => if j = i then true else D j) := by
      intro y β'' x'' hD
      have hstm : ∀ D, (st D).m = S.m := fun D => by rw [hst]
      have hstn : ∀ D, (st D).n = S'.n := fun D => by rw [hst]
      have hq := hR.q
      refine ⟨β'', ⟨fun k => ?_, ?_, by rw [put_defers']; exact hR'.defs, fun id b k hb hbk => ?_, hD.inj, fun id b hb => ⟨hD.lt id b hb, ?_⟩, fun id v hv => ?_, by rw [hst]; exact mq ▸ Nat.le_trans hR.q mn⟩, ?_, ?_, ?_, ?_⟩
      · by_cases hdk : o.dst = some k
        · have hlt : k < a'.tmps.size := by
            rw [hR'.size, hstm]
            rw [hdk] at k5
            exact Nat.le_of_ble_eq_true k5
          have he : (st fun j => if j = i then true else D j).sl k = t.e.v := by
            rw [slD, acc_congr entE k l _ (upto (0 + i + 1)) 0 S.E S.E (fun j tj hj hs => ?_) rfl, acc_succ entE l i 0 t S.E ht, lk_append]
            · have : lk (entE t) k = some t.e.v := by unfold entE; rw [k3, hdk]; exact lk_cons_eq _ _ _
              rw [this]
            · rw [show 0 + j = j by omega]
              by_cases hij : j = i
              · subst hij; simp [upto]
              · rw [if_neg hij]
                have := hord j tj hj (Ne.symm hij) k (.inl ⟨entE_bit hs, .inr ?_⟩)
                · rw [this]; simp only [upto]; congr 1; apply propext; omega
                · exact entE_bit (by unfold entE; rw [k3, hdk]; rw [lk_cons_eq]; rfl)
          rw [he, hdk, eval_put_self hlt]
          exact hD.den
        · rw [eval_put_ne hdk]
          have he : (st fun j => if j = i then true else D j).sl k = (st D).sl k := by
            rw [slD, slD, acc_congr entE k l _ D 0 S.E S.E (fun j tj hj hs => ?_) rfl]
            rw [show 0 + j = j by omega]
            by_cases hij : j = i
            · subst hij
              rw [ht] at hj; cases hj
              exfalso
              unfold entE at hs
              rw [k3] at hs
              cases hd : o.dst with
              | none => rw [hd] at hs; cases hs
              | some d =>
                rw [hd] at hs
                rw [lk_cons_ne _ _ (fun q => hdk (by rw [hd, q]))] at hs
                cases hs
            · rw [if_neg hij]
          rw [he]
          exact SV.ext hD.ext (hR'.sl k)
      · rw [put_size, hstm]; rw [hR'.size, hstm]
      · cases hl : lk t.e.wr id with
        | some kk =>
          have he : (st fun j => if j = i then true else D j).blk id = some kk := by
            have hen : lk (entH t) id = some (some kk) := by unfold entH; rw [lk_map, hl]; rfl
            rw [blD, acc_congr entH id l _ (upto (0 + i + 1)) 0 S.H S.H (fun j tj hj hs => ?_) rfl, acc_succ entH l i 0 t S.H ht, lk_append, hen]
            rw [show 0 + j = j by omega]
            by_cases hij : j = i
            · subst hij; simp [upto]
            · rw [if_neg hij]
              have := hord j tj hj (Ne.symm hij) id (.inr ⟨entH_bit hs, .inr (entH_bit (by rw [hen]; rfl))⟩)
              rw [this]; simp only [upto]; congr 1; apply propext; omega
          rw [he] at hbk; cases hbk
          exact hD.blk id b _ hb hl
        | none =>
          have he : (st fun j => if j = i then true else D j).blk id = (st D).blk id := by
            rw [blD, blD, acc_congr entH id l _ D 0 S.H S.H (fun j tj hj hs => ?_) rfl]
            rw [show 0 + j = j by omega]
            by_cases hij : j = i
            · subst hij
              rw [ht] at hj; cases hj
              exfalso
              unfold entH at hs
              rw [lk_map, hl] at hs
              cases hs
            · rw [if_neg hij]
          rw [he] at hbk
          rcases hD.new id b hb with h1 | ⟨h1, h2, h3⟩
          · refine (hR'.blk id b k h1 hbk).ext hD.ext (hD.keep b (hR'.lt id b h1).1 fun id' h' => ?_)
            rw [hR'.inj id' id b h' h1]; exact hl
          · obtain ⟨q, hq⟩ := newsOK_spec k6 h1 h2
            rw [hl] at hq; cases hq
      · rw [hstn]
        rcases hD.new id b hb with h1 | ⟨h1, h2, h3⟩
        · have := (hR'.lt id b h1).2; rw [hstn] at this; exact this
        · omega
      · rw [hstn]
        rcases hD.newc id v hv with h1 | ⟨h1, h2⟩
        · have := hR'.ltc id v h1; rw [hstn] at this; exact this
        · omega
      · -- the frame
        refine ⟨fun id hi => ?_, fun id hi => ?_, fun id b hb => ?_, hD.os.trans hN'.os, hD.tape.trans hN'.tape, hD.output.trans hN'.output, Nat.le_trans hN'.size hD.size, fun k hk' hne => ?_⟩
        · rw [← hN'.old id hi]
          cases hq : β' id with
          | some b => exact hD.ext.b id b hq
          | none =>
            cases hq' : β'' id with
            | none => rfl
            | some b =>
              rcases hD.new id b hq' with h1 | ⟨h1, _, _⟩
              · rw [hq] at h1; cases h1
              · omega
        · rw [← hN'.oldc id hi]
          cases hq : β'.c id with
          | some b => exact hD.ext.c id b hq
          | none =>
            cases hq' : β''.c id with
            | none => rfl
            | some b =>
              rcases hD.newc id b hq' with h1 | ⟨h1, _⟩
              · rw [hq] at h1; cases h1
              · omega
        · rcases hD.new id b hb with h1 | ⟨h1, h2, h3⟩
          · exact hN'.new id b h1
          · exact .inr ⟨by omega, .inl (Nat.le_trans hN'.size h3)⟩
        · rw [hD.keep k (Nat.lt_of_lt_of_le hk' hN'.size) (fun id hid => lk_none fun hm' => ?_), hN'.keep k hk' hne]
          rcases hN'.new id k hid with ⟨h1, h2⟩ | ⟨h1, h2 | ⟨j, h2, h3⟩⟩
          · obtain ⟨p, hp, e⟩ := List.mem_map.1 hm'
            refine (hne id h2).2 ?_
            rw [← e]; exact k13 p hp
          · omega
          · have := (hne j h3).1; omega
      · intro j tj hj hDj id h1 h2
        by_cases hij : j = i
        · rw [if_pos hij] at hDj; cases hDj
        · rw [if_neg hij] at hDj
          have hcl : ∀ n1, Si.n ≤ n1 → n1 < Si.n + t.e.nw → tj.n ≤ n1 → n1 < tj.n + tj.e.nw → False := by
            intro n1 h3 h4 h5 h6
            by_cases hlt : i < j
            · have := k14 j tj hj hlt; omega
            · obtain ⟨_, _, _, _, _, _, _, _, _, _, _, _, _, _, _, h14, _⟩ := hat j tj hj
              have := h14 i t ht (by omega); omega
          constructor
          · cases hq : β'' id with
            | none => rfl
            | some b =>
              rcases hD.new id b hq with h3 | ⟨h3, h4, _⟩
              · rw [(hnone j tj hj hDj id h1 h2).1] at h3; cases h3
              · exact (hcl id h3 h4 h1 h2).elim
          · cases hq : β''.c id with
            | none => rfl
            | some b =>
              rcases hD.newc id b hq with h3 | ⟨h3, h4⟩
              · rw [(hnone j tj hj hDj id h1 h2).2] at h3; cases h3
              · exact (hcl id h3 h4 h1 h2).elim
      · intro id v hid hv
        rcases hD.newc id v hv with h1 | ⟨h1, _⟩
        · exact hc0 id v hid h1
        · omega
      · intro j hj b hb
        by_cases hij : j = i
        · subst hij
          have := closed_step hcl hoi' hdep b hb
          show (if b = j then true else D b) = true
          by_cases hbi : b = j
          · rw [if_pos hbi]
          · rw [if_neg hbi]; exact this
        · have hj : (if j = i then true else D j) = true := hj
          rw [if_neg hij] at hj
          have := hcl j hj b hb
          show (if b = i then true else D b) = true
          by_cases hbi : b = i
          · rw [if_pos hbi]
          · rw [if_neg hbi]; exact this
    split
    · rename_i hw
      rw [if_pos hw] at hs
      refine Oper.wp_mono ?_ hs
      rintro a'' x'' ⟨y, β'', rfl, hD⟩
      exact fin y β'' x'' hD
    · rename_i hw
      rw [if_neg hw] at hs
      exact fin undef β' x' hs
  · -- the end
    rintro D a' x' hD ⟨β', hR', hN', _, _, _⟩
    have hall := all_doneB hL (D := D) (fun i hi => by simpa using hD i (by simpa using hi))
    refine hk β' a' x' hN' ?_
    have e1 : acc entE l D 0 S.E = S'.E := by
      rw [hE]; exact acc_all entE l D _ 0 S.E fun j hj => by rw [show 0 + j = j by omega]; exact hall j (by omega)
    have e2 : acc entH l D 0 S.H = S'.H := by
      rw [hH]; exact acc_all entH l D _ 0 S.H fun j hj => by rw [show 0 + j = j by omega]; exact hall j (by omega)
    have : st D = S' := by
      rw [hst, e1, e2, mm]
    rw [← this]; exact hR'
end
end Ab
end Go.Proofs.YtpdckpifhniioaaGreat
namespace Go.Proofs.YtpdckpifhniioaaGreat
open Go.RowKit
namespace Ab
def andL : List Prop → Prop → Prop
  | [], K => K
  | p :: l, K => p ∧ andL l K
def obsT : List Tr → Prop → Prop
  | [], K => K
  | t :: l, K => andL t.e.obs (obsT l K)
theorem andL_iff : ∀ {l : List Prop} {K : Prop}, andL l K ↔ All l ∧ K
  | [], K => by simp [andL, All]
  | p :: l, K => by simp [andL, All, andL_iff (l := l), and_assoc]
theorem obsT_iff : ∀ {l : List Tr} {K : Prop}, obsT l K ↔ AllT l ∧ K
  | [], K => by simp [obsT, AllT]
  | t :: l, K => by simp [obsT, AllT, andL_iff, obsT_iff (l := l), and_assoc]
/-- Both ways of a test. -/
def HB (b : Bool) (A B : Prop) : Prop := match b with | true => A | false => B
theorem HB.mk {b : Bool} {A B : Prop} (h : b = true → A) (k : b = false → B) : HB b A B := by
  cases b
  · exact k rfl
  · exact h rfl
structure Cz extends Cy where
  lp : Nat → Option (St → (Exit → St → Prop) → Prop)
  un : Nat
def Post (S : St) (β : Bt) (x : World) (K : Exit → St → Prop) : Exit → Act → World → Prop := fun e a' x' =>
  ∃ S' β', K e S' ∧ S'.q = S.q ∧ (∀ i ∈ S.W, i < S.q → i ∈ S'.W) ∧ Nx S.q S'.W β x β' x' ∧ Rep β' S' a' x'
def WP (P : Program) (c : Code) (S : St) (K : Exit → St → Prop) : Prop := ∀ β a x, Rep β S a x → c.wp P (Post S β x K) a x
def LoopOK (P : Program) (body : Code) (S : St) (T : (Exit → St → Prop) → Prop) : Prop := ∀ K, T K → WP P (.loop body) S K
/-- Where a run stands still: the region, the operation. -/
inductive Bad : Nat → Nat → Prop
def badAt (P : Program) (cx : Cy) (ops : List Oper) : List Oper → St → Nat → Nat
  | [], _, i => i
  | o :: r, S, i => match stepG P (cx.at true) S ops o with
    | some e => match dstOK S.m o.dst, newsOK S.n e.nw e.wr with
      | true, true => badAt P cx ops r (S.upd o.dst e) (i + 1)
      | _, _ => i
    | none => i
def okAt (q : Mk) (c : Nat) : List (Nat × Mk) → Option Nat
  | [] => none
  | (i, p) :: l => match cf p q || c.testBit i with | true => okAt q c l | false => some i
def chkAt : Nat → List Mk → List Nat → List (Nat × Mk) → Nat
  | j, q :: r, c :: cs, acc => match okAt q c acc with | none => chkAt (j + 1) r cs ((j, q) :: acc) | some i => 1000 + 100 * j + i
  | _, _, _, _ => 1000
def chkB (ops : List Oper) (l : List Tr) : Bool := chk 0 (l.map Tr.mk') (clos ops []) [] && lowL 0 ops
def reg1 (id : Nat) (P : Program) (cx : Cy) (ops : List Oper) (draw : Bool) (S : St) (K : St → Prop) (q : Option (List Tr × St)) : Prop := match q with
  | some (l, S') => match draw with
    | false => obsT l (K S')
    | true => match chkB ops l with
      | true => obsT l (K S')
      | false => Bad id (chkAt 0 (l.map Tr.mk') (clos ops []) [])
  | none => Bad id (badAt P cx ops ops S 0)
def nAlt : List Tr → Nat
  | [] => 0
  | t :: l => match t.e.dc with | [] => nAlt l | _ => nAlt l + 1
def regs (f : List Bool → Prop) : Nat → List Bool → Prop
  | 0, bs => f bs
  | k + 1, bs => regs f k (true :: bs) ∧ regs f k (false :: bs)
def regA (id : Nat) (P : Program) (cx : Cy) (ops : List Oper) (draw : Bool) (S : St) (K : St → Prop) : Prop := match trace P cx ops S.n ops [true, true, true, true] S with
  | some (l, _) => regs (fun bs => reg1 id P cx ops draw S K (trace P cx ops S.n ops bs S)) (nAlt l) []
  | none => Bad id (badAt P cx ops ops S 0)
theorem regs_all {f : List Bool → Prop} : ∀ (k : Nat) (bs : List Bool), regs f k bs → ∀ cs : List Bool, cs.length = k → f (cs.reverse ++ bs)
  | 0, bs, h, cs, hc => by
    have : cs = [] := List.eq_nil_of_length_eq_zero hc
    subst this; exact h
  | k + 1, bs, h, cs, hc => by
    obtain ⟨c, cs', rfl⟩ : ∃ c cs', cs = c :: cs' := by
      cases cs with
      | nil => cases hc
      | cons c cs => exact ⟨c, cs, rfl⟩
    have hc' : cs'.reverse.length = k := by simpa using hc
    have key : regs f k (c :: bs) → f ((c :: cs').reverse ++ bs) := fun q => by
      have := regs_all k (c :: bs) q cs' (by simpa using hc)
      simpa using this
    cases c with
    | true => exact key h.1
    | false => exact key h.2
def rid : Code → Nat
  | .region id _ _ => id
  | .seq a _ => rid a
  | .block _ a => rid a
  | .loop a => rid a
  | _ => 0
def unroll (f : St → (Exit → St → Prop) → Prop) (K : Exit → St → Prop) : Nat → St → Prop
  | 0, _ => False
  | n + 1, S => f S fun e S' => match e with | .normal => unroll f K n S' | e => K e S'
def ev (P : Program) (cx : Cz) : Code → St → (Exit → St → Prop) → Prop
  | .skip, S, K => K .normal S
  | .region id ops draw, S, K => regA id P cx.toCy ops.toList draw S (K .normal)
  | .seq c d, S, K => ev P cx c S fun e S' => match e with | .normal => ev P cx d S' K | e => K e S'
  | .cond t c d, S, K => match evo S t with
    | .c (.l (.v (.bool b))) => HB b (ev P cx c S K) (ev P cx d S K)
    | _ => Bad 999 0
  | .block id c, S, K => ev P cx c S fun e S' => match e with
    | .exit i => match Nat.beq i id with | true => K .normal S' | false => K (.exit i) S'
    | e => K e S'
  | .exit id, S, K => K (.exit id) S
  | .ret, S, K => K .ret S
  | .loop c, S, K => match cx.lp (rid c) with
    | some T => LoopOK P c S (T S) ∧ T S K
    | none => unroll (ev P cx c) K cx.un S
  | _, _, _ => False
section
variable {P : Program} {cx : Cz}
theorem Post.mono {S : St} {β : Bt} {x : World} {K K' : Exit → St → Prop} (h : ∀ e S', K e S' → K' e S') : ∀ e a w, Post S β x K e a w → Post S β x K' e a w :=
  fun e a w ⟨S', β', k, r⟩ => ⟨S', β', h e S' k, r⟩
theorem Post.chain {S S₁ : St} {β β₁ : Bt} {x x₁ : World} {K : Exit → St → Prop} (hq : S₁.q = S.q) (hW : ∀ i ∈ S.W, i < S.q → i ∈ S₁.W) (hN : Nx S.q S₁.W β x β₁ x₁) : ∀ e a w, Post S₁ β₁ x₁ K e a w → Post S β x K e a w :=
  fun e a w ⟨S', β', k, h1, h2, h3, h4⟩ => ⟨S', β', k, h1.trans hq, fun i hi hl => h2 i (hW i hi hl) (by rw [hq]; exact hl), hN.trans (by rw [← hq]; exact h3) (by rw [← hq]; exact h2), h4⟩
theorem Post.here {S : St} {β : Bt} {x : World} {a : Act} {K : Exit → St → Prop} {e : Exit} (hR : Rep β S a x) (h : K e S) : Post S β x K e a x :=
  ⟨S, β, h, rfl, fun _ h _ => h, Nx.refl, hR⟩
theorem den_eval {β : Bt} {S : St} {a : Act} {x : World} (hR : Rep β S a x) (t : Operand) : (evo S t).den β (a.eval t) :=
  evo_den (l := [t]) (fun k _ => hR.sl k) t (by simp)
theorem WP.mono {c : Code} {S : St} {K K' : Exit → St → Prop} (h : WP P c S K) (hk : ∀ e S', K e S' → K' e S') : WP P c S K' :=
  fun β a x hR => wp_mono (h β a x hR) (Post.mono hk)
theorem reg_sound (hm : P.follows .mixedOrders = true) {id : Nat} {ops : Array Oper} {draw : Bool} {S : St} {K : Exit → St → Prop} {cy : Cy} (h : regA id P cy ops.toList draw S (K .normal)) : WP P (.region id ops draw) S K := by
  intro β a x hR
  unfold regA at h
  split at h
  · rename_i l₀ S₀ ht₀
    have hall := regs_all _ _ h
    obtain ⟨l, S', ht, hf⟩ := trace_pick β.c ops.toList (nAlt l₀) S (reg1 id P cy ops.toList draw S (K .normal)) (fun q => nomatch q) (fun bs hb => by
      have := hall bs.reverse (by simpa using hb)
      simpa using this)
    obtain ⟨_, _, h3, h4⟩ := trace_mono ht
    have fin : K .normal S' → ∀ β' a' x', Nx S.q S'.W β x β' x' → Rep β' S' a' x' → Post S β x K .normal a' x' :=
      fun hk β' a' x' hN hR' => ⟨S', β', hk, h4.symm, fun i hi _ => h3 i hi, hN, hR'⟩
    unfold reg1 at hf
    simp only at hf
    split at hf
    · obtain ⟨ho, hk⟩ := obsT_iff.1 hf
      refine wp_region ?_
      have := seq_ops (P := P) (Q := Post S β x K) ops.toList 0 S S' l a x β (fun j => by simp) ht (Nat.le_refl _) (fun _ _ _ h => h) ho hR (fin hk)
      rw [List.range_eq_range']
      simpa using this
    · split at hf
      · rename_i hck
        simp only [chkB, Bool.and_eq_true] at hck
        obtain ⟨ho, hk⟩ := obsT_iff.1 hf
        have := draw_ops (Q := Post S β x K) (id := id) hm ht hck.1 hck.2 ho hR (fin hk)
        simpa using this
      · exact nomatch hf
  · exact nomatch h
theorem seq_sound {c d : Code} {S : St} {K : Exit → St → Prop} (h : WP P c S fun e S' => match e with | .normal => WP P d S' K | e => K e S') : WP P (.seq c d) S K := by
  intro β a x hR
  refine wp_seq (wp_mono (h β a x hR) ?_)
  rintro e a' x' ⟨S', β', k, h1, h2, h3, h4⟩
  cases e with
  | normal => exact wp_mono (k β' a' x' h4) (Post.chain h1 h2 h3)
  | exit i => exact ⟨S', β', k, h1, h2, h3, h4⟩
  | goto i => exact ⟨S', β', k, h1, h2, h3, h4⟩
  | ret => exact ⟨S', β', k, h1, h2, h3, h4⟩
  | panic i => exact ⟨S', β', k, h1, h2, h3, h4⟩
  | outgrown => exact ⟨S', β', k, h1, h2, h3, h4⟩
def LoopAt (P : Program) (c : Code) (Q : Exit → Act → World → Prop) (a : Act) (w : World) : Prop :=
  ∀ (b : Frame) (k : List Item) (cs : List Frame), ∃ e a' w', Q e a' w' ∧ Arrives P (lone (b.at a (.code c :: .inLoop c :: k)) cs w) b k cs e a' w'
theorem wp_of_loopAt {c : Code} {Q : Exit → Act → World → Prop} {a : Act} {w : World} (h : LoopAt P c Q a w) : (Code.loop c).wp P Q a w :=
  fun b k cs => let ⟨e, a', w', q, r⟩ := h b k cs; ⟨e, a', w', q, .of_steps (.one step_loop) r⟩
theorem loopAt_unroll {c : Code} {Q : Exit → Act → World → Prop} {a : Act} {w : World} (h : c.wp P (Exit.then (fun a' w' => LoopAt P c Q a' w') Q) a w) : LoopAt P c Q a w := by
  intro b k cs
  obtain ⟨e, a₁, w₁, hq, harr⟩ := h b (.inLoop c :: k) cs
  cases e with
  | normal =>
    obtain ⟨e₂, a₂, w₂, hq₂, harr₂⟩ := hq b k cs
    exact ⟨e₂, a₂, w₂, hq₂, .of_steps (Steps.trans harr (.one step_inLoop)) harr₂⟩
  | exit id => exact ⟨_, a₁, w₁, hq, .pass (x := .inLoop c) rfl (fun _ _ => .inl (by simp)) harr⟩
  | goto l => exact ⟨_, a₁, w₁, hq, .pass (x := .inLoop c) rfl (fun _ _ => .inl (by simp)) harr⟩
  | ret => exact ⟨_, a₁, w₁, hq, .pass (x := .inLoop c) rfl (fun _ _ => .inl (by simp)) harr⟩
  | panic ch => exact ⟨_, a₁, w₁, hq, .pass (x := .inLoop c) rfl (fun _ _ => .inl (by simp)) harr⟩
  | outgrown => exact ⟨_, a₁, w₁, hq, .pass (x := .inLoop c) rfl (fun _ _ => .inl (by simp)) harr⟩
theorem loopAt_mono {c : Code} {Q Q' : Exit → Act → World → Prop} {a : Act} {w : World} (h : LoopAt P c Q a w) (hq : ∀ e a w, Q e a w → Q' e a w) : LoopAt P c Q' a w :=
  fun b k cs => let ⟨e, a', w', q, r⟩ := h b k cs; ⟨e, a', w', hq _ _ _ q, r⟩
/-- At the head of a loop. -/
def WPL (P : Program) (c : Code) (S : St) (K : Exit → St → Prop) : Prop := ∀ β a x, Rep β S a x → LoopAt P c (Post S β x K) a x
theorem WPL.wp {c : Code} {S : St} {K : Exit → St → Prop} (h : WPL P c S K) : WP P (.loop c) S K := fun β a x hR => wp_of_loopAt (h β a x hR)
theorem WPL.step {c : Code} {S : St} {K : Exit → St → Prop} (h : WP P c S fun e S' => match e with | .normal => WPL P c S' K | e => K e S') : WPL P c S K := by
  intro β a x hR
  refine loopAt_unroll (wp_mono (h β a x hR) ?_)
  rintro e a' x' ⟨S', β', k, h1, h2, h3, h4⟩
  cases e with
  | normal => exact loopAt_mono (k β' a' x' h4) (Post.chain h1 h2 h3)
  | exit i => exact ⟨S', β', k, h1, h2, h3, h4⟩
  | goto i => exact ⟨S', β', k, h1, h2, h3, h4⟩
  | ret => exact ⟨S', β', k, h1, h2, h3, h4⟩
  | panic i => exact ⟨S', β', k, h1, h2, h3, h4⟩
  | outgrown => exact ⟨S', β', k, h1, h2, h3, h4⟩
/-- Names from n on are forgotten. -/
def cut (β : Bt) (n : Nat) : Bt := ⟨fun i => if i < n then β i else none, fun i => if i < n then β.c i else none⟩
theorem cut_some {β : Bt} {n id b : Nat} (h : cut β n id = some b) : id < n ∧ β id = some b := by
  have h : (if id < n then β id else none) = some b := h
  split at h
  · exact ⟨‹_›, h⟩
  · cases h
theorem cut_somec {β : Bt} {n id b : Nat} (h : (cut β n).c id = some b) : id < n ∧ β.c id = some b := by
  have h : (if id < n then β.c id else none) = some b := h
  split at h
  · exact ⟨‹_›, h⟩
  · cases h
theorem cut_lt {β : Bt} {n id : Nat} (h : id < n) : cut β n id = β id := if_pos h
theorem cut_ltc {β : Bt} {n id : Nat} (h : id < n) : (cut β n).c id = β.c id := if_pos h
/-- s, its names below n, is at least as much as s'. -/
def LeN (n : Nat) (s s' : SV) : Prop := ∀ (β : Bt) (y : Value), s.den β y → s'.den (cut β n) y
def BkN (n : Nat) : Option Blk → Blk → Prop
  | some k, k' => ∀ (β : Bt) (x : World) (b : Nat), BlkAt β x b k → BlkAt (cut β n) x b k'
  | none, _ => False
/-- S is known where S' is, under other names. -/
structure Wk (S' S : St) : Prop where
  q : S.q = S'.q
  W : ∀ i ∈ S'.W, i < S'.q → i ∈ S.W
  rep : ∀ β a x, Rep β S' a x → ∃ β₁, Rep β₁ S a x ∧ (∀ id, id < S'.q → β₁ id = β id ∧ β₁.c id = β.c id) ∧ (∀ id b, S'.q ≤ id → β₁ id = some b → ∃ j, S'.q ≤ j ∧ β j = some b)
theorem Nx.wk {n : Nat} {W W' : List Nat} {β β' β₁ : Bt} {x x' : World} (h : Nx n W β x β' x') (hW : ∀ i ∈ W, i < n → i ∈ W') (h1 : ∀ id, id < n → β₁ id = β' id ∧ β₁.c id = β'.c id) (h2 : ∀ id b, n ≤ id → β₁ id = some b → ∃ j, n ≤ j ∧ β' j = some b) : Nx n W' β x β₁ x' := by
  refine ⟨fun id hi => (h1 id hi).1.trans (h.old id hi), fun id hi => (h1 id hi).2.trans (h.oldc id hi), fun id b hb => ?_, h.os, h.tape, h.output, h.size, fun k hk hne => h.keep k hk fun id h1 => ⟨(hne id h1).1, fun h3 => (hne id h1).2 (hW id h3 (hne id h1).1)⟩⟩
  rcases Nat.lt_or_ge id n with hid | hid
  · rw [(h1 id hid).1] at hb; exact h.new id b hb
  · obtain ⟨j, hj, hb⟩ := h2 id b hid hb
    rcases h.new j b hb with ⟨h4, _⟩ | ⟨_, h4⟩
    · omega
    · exact .inr ⟨hid, h4⟩
/-- One round, and what is known behind it weakened. -/
theorem WPL.round {c : Code} {S : St} {K : Exit → St → Prop} (h : WP P c S fun e S' => match e with | .normal => ∃ S₁, Wk S' S₁ ∧ WPL P c S₁ K | e => K e S') : WPL P c S K := by
  intro β a x hR
  refine loopAt_unroll (wp_mono (h β a x hR) ?_)
  rintro e a' x' ⟨S', β', k, h1, h2, h3, h4⟩
  cases e with
  | normal =>
    obtain ⟨S₁, q2, q3⟩ := k
    obtain ⟨β₁, r1, r2, r3⟩ := q2.rep β' a' x' h4
    rw [h1] at r2 r3
    have hW := q2.W
    rw [h1] at hW
    exact loopAt_mono (q3 β₁ a' x' r1) (Post.chain (q2.q.trans h1) (fun i hi hl => hW i (h2 i hi hl) hl) (h3.wk hW r2 r3))
  | exit i => exact ⟨S', β', k, h1, h2, h3, h4⟩
  | goto i => exact ⟨S', β', k, h1, h2, h3, h4⟩
  | ret => exact ⟨S', β', k, h1, h2, h3, h4⟩
  | panic i => exact ⟨S', β', k, h1, h2, h3, h4⟩
  | outgrown => exact ⟨S', β', k, h1, h2, h3, h4⟩
/-- What is known ahead of a loop weakened. -/
theorem WPL.weak {c : Code} {S S₁ : St} {K : Exit → St → Prop} (hw : Wk S S₁) (h : WPL P c S₁ K) : WPL P c S K := by
  intro β a x hR
  obtain ⟨β₁, r1, r2, r3⟩ := hw.rep β a x hR
  exact loopAt_mono (h β₁ a x r1) (Post.chain hw.q hw.W ((Nx.refl (n := S.q) (W := S.W)).wk hw.W r2 r3))
/-- **CODE.** -/
theorem ev_sound (hm : P.follows .mixedOrders = true) : ∀ (c : Code) (S : St) (K : Exit → St → Prop), ev P cx c S K → WP P c S K
  | .skip, S, K, h => fun β a x hR => wp_skip (Post.here hR h)
  | .region id ops draw, S, K, h => reg_sound hm h
  | .seq c d, S, K, h => seq_sound ((ev_sound hm c S _ h).mono fun e S' hk => by
      cases e with
      | normal => exact ev_sound hm d S' K hk
      | exit i => exact hk
      | goto i => exact hk
      | ret => exact hk
      | panic i => exact hk
      | outgrown => exact hk)
  | .cond t c d, S, K, h => by
    intro β a x hR
    unfold ev at h
    split at h
    · rename_i b hv
      have ht := den_eval hR t
      rw [hv] at ht
      refine wp_cond ht.1 ?_
      cases b with
      | true => exact ev_sound hm c S K h β a x hR
      | false => exact ev_sound hm d S K h β a x hR
    · exact nomatch h
  | .block id c, S, K, h => by
    intro β a x hR
    refine wp_block (wp_mono (ev_sound hm c S _ h β a x hR) ?_)
    rintro e a' x' ⟨S', β', k, h1, h2, h3, h4⟩
    cases e with
    | exit i =>
      show if i = id then Post S β x K .normal a' x' else Post S β x K (.exit i) a' x'
      simp only at k
      split at k
      · rename_i hb
        rw [if_pos (Nat.eq_of_beq_eq_true hb)]
        exact ⟨S', β', k, h1, h2, h3, h4⟩
      · rename_i hb
        rw [if_neg (fun e => by subst e; rw [Nat.beq_refl] at hb; cases hb)]
        exact ⟨S', β', k, h1, h2, h3, h4⟩
    | normal => exact ⟨S', β', k, h1, h2, h3, h4⟩
    | goto i => exact ⟨S', β', k, h1, h2, h3, h4⟩
    | ret => exact ⟨S', β', k, h1, h2, h3, h4⟩
    | panic i => exact ⟨S', β', k, h1, h2, h3, h4⟩
    | outgrown => exact ⟨S', β', k, h1, h2, h3, h4⟩
  | .exit id, S, K, h => fun β a x hR => wp_exit (Post.here hR h)
  | .ret, S, K, h => fun β a x hR => wp_ret (Post.here hR h)
  | .loop c, S, K, h => by
    unfold ev at h
    split at h
    · exact h.1 K h.2
    · have key : ∀ (n : Nat) (S : St), unroll (ev P cx c) K n S → WPL P c S K := by
        intro n
        induction n with
        | zero => intro S h; exact h.elim
        | succ n ih =>
          intro S h
          refine WPL.step ((ev_sound hm c S _ h).mono fun e S' hk => ?_)
          cases e with
          | normal => exact ih S' hk
          | exit i => exact hk
          | goto i => exact hk
          | ret => exact hk
          | panic i => exact hk
          | outgrown => exact hk
      exact (key _ S h).wp
  | .rangeFunc _ _ _ _, S, K, h => h.elim
  | .scope _, S, K, h => h.elim
  | .label _, S, K, h => h.elim
  | .goto _, S, K, h => h.elim
  | .refuse _, S, K, h => h.elim
end
end Ab
end Go.Proofs.YtpdckpifhniioaaGreat
namespace Go.Proofs.YtpdckpifhniioaaGreat
open Go.RowKit
namespace Ab
def cx0 : Cx := ⟨fun _ => none, fun _ => none, [], [], [], true, [], []⟩
def resOne (P : Program) (S : St) : ResultVar → Option Cp
  | .tmp t => match S.sl t with | .c x => some x | _ => none
  | .cell t ty => match stLoad P cx0 0 S ty (S.sl t) with
    | some e => match e.v with | .c x => some x | _ => none
    | none => none
def resAll (P : Program) (S : St) : List ResultVar → Option (List Cp)
  | [] => some []
  | r :: l => match resOne P S r, resAll P S l with
    | some x, some xs => some (x :: xs)
    | _, _ => none
def resV (P : Program) (S : St) (l : List ResultVar) : Option SV := match resAll P S l with
  | some [x] => some (.c x)
  | some xs => some (.tup xs)
  | none => none
def rnId (n : Nat) : Nat → List Nat → Nat → Option Nat
  | k, [], id => match Nat.blt id n with | true => some id | false => none
  | k, j :: l, id => match Nat.beq j id with | true => some (n + k) | false => rnId n (k + 1) l id
def rnCaps (ρ : Nat → Option Nat) : List (Nat × Nat) → Option (List (Nat × Nat))
  | [] => some []
  | (i, o) :: l => match ρ i, rnCaps ρ l with
    | some j, some r => some ((j, o) :: r)
    | _, _ => none
def Leaf.rn (ρ : Nat → Option Nat) : Leaf → Option Leaf
  | .v x => some (.v x)
  | .p id off => match ρ id with | some j => some (.p j off) | none => none
  | .f fn caps => match rnCaps ρ caps with | some r => some (.f fn r) | none => none
  | .s id off len => match ρ id with | some j => some (.s j off len) | none => none
  | .o id len => match ρ id with | some j => some (.o j len) | none => none
  | .u => some .u
def rnLs (ρ : Nat → Option Nat) : List Leaf → Option (List Leaf)
  | [] => some []
  | x :: l => match x.rn ρ, rnLs ρ l with
    | some y, some r => some (y :: r)
    | _, _ => none
def Cp.rn (ρ : Nat → Option Nat) : Cp → Option Cp
  | .l x => match x.rn ρ with | some y => some (.l y) | none => none
  | .agg xs => match rnLs ρ xs with | some ys => some (.agg ys) | none => none
def rnCs (ρ : Nat → Option Nat) : List Cp → Option (List Cp)
  | [] => some []
  | x :: l => match x.rn ρ, rnCs ρ l with
    | some y, some r => some (y :: r)
    | _, _ => none
def SV.rn (ρ : Nat → Option Nat) : SV → Option SV
  | .u => some .u
  | .c x => match x.rn ρ with | some y => some (.c y) | none => none
  | .tup xs => match rnCs ρ xs with | some ys => some (.tup ys) | none => none
  | .g b x => match x.rn ρ with | some y => some (.g b y) | none => none
def BT.rn (ρ : Nat → Option Nat) : BT → Option BT
  | .t a => some (.t a)
  | .r a sz id => match ρ id with | some j => some (.r a sz j) | none => none
  | .y a => some (.y a)
  | .e a => some (.e a)
  | .x => some .x
  | .q => some .q
def Blk.rn (ρ : Nat → Option Nat) (k : Blk) : Option Blk := match rnLs ρ k.cs, k.ty.rn ρ with
  | some cs, some t => some ⟨cs, t⟩
  | _, _ => none
structure RnTo (ρ : Nat → Option Nat) (β β' : Bt) : Prop where
  b : ∀ i j b, ρ i = some j → β i = some b → β' j = some b
  c : ∀ i j v, ρ i = some j → β.c i = some v → β'.c j = some v
section
variable {ρ : Nat → Option Nat} {β β' : Bt} (hβ : RnTo ρ β β')
include hβ
theorem caps_rn : ∀ {l r : List (Nat × Nat)} {ys : List Value}, rnCaps ρ l = some r → All2 (fun (c : Nat × Nat) z => ∃ b, β c.1 = some b ∧ z = .pointer (some ⟨b, c.2, none⟩)) l ys → All2 (fun (c : Nat × Nat) z => ∃ b, β' c.1 = some b ∧ z = .pointer (some ⟨b, c.2, none⟩)) r ys
  | [], r, [], h, _ => by simp only [rnCaps, Option.some.injEq] at h; subst h; trivial
  | (i, o) :: l, r, y :: ys, h, hd => by
    unfold rnCaps at h
    split at h
    · rename_i j r' h1 h2
      cases h
      obtain ⟨⟨b, hb, e⟩, hd⟩ := hd
      exact ⟨⟨b, hβ.b i j b h1 hb, e⟩, caps_rn h2 hd⟩
    · cases h
theorem leaf_rn {x x' : Leaf} {y : Value} (h : x.rn ρ = some x') (hd : x.den β y) : x'.den β' y := by
  cases x with
  | v z => simp only [Leaf.rn, Option.some.injEq] at h; subst h; exact hd
  | p id off =>
    simp only [Leaf.rn] at h
    split at h
    · rename_i j hj; cases h; obtain ⟨b, hb, e⟩ := hd; exact ⟨b, hβ.b id j b hj hb, e⟩
    · cases h
  | f fn caps =>
    simp only [Leaf.rn] at h
    split at h
    · rename_i r hr; cases h; obtain ⟨cs, hc, e⟩ := hd; exact ⟨cs, caps_rn hβ hr hc, e⟩
    · cases h
  | s id off len =>
    simp only [Leaf.rn] at h
    split at h
    · rename_i j hj; cases h; obtain ⟨b, cap, hb, hc, e⟩ := hd; exact ⟨b, cap, hβ.b id j b hj hb, hc, e⟩
    · cases h
  | o id len =>
    simp only [Leaf.rn] at h
    split at h
    · rename_i j hj; cases h
      rcases hd with ⟨h0, hc, e⟩ | ⟨b, cap, hb, hc, hle, e⟩
      · exact .inl ⟨h0, hβ.c id j _ hj hc, e⟩
      · exact .inr ⟨b, cap, hβ.b id j b hj hb, hβ.c id j _ hj hc, hle, e⟩
    · cases h
  | u => simp only [Leaf.rn, Option.some.injEq] at h; subst h; exact hd
theorem leaves_rn : ∀ {l r : List Leaf} {ys : List Value}, rnLs ρ l = some r → All2 (Leaf.den β) l ys → All2 (Leaf.den β') r ys
  | [], r, [], h, _ => by simp only [rnLs, Option.some.injEq] at h; subst h; trivial
  | x :: l, r, y :: ys, h, hd => by
    unfold rnLs at h
    split at h
    · rename_i x' r' h1 h2; cases h; exact ⟨leaf_rn hβ h1 hd.1, leaves_rn h2 hd.2⟩
    · cases h
theorem cp_rn {x x' : Cp} {y : Value} (h : x.rn ρ = some x') (hd : x.den β y) : x'.den β' y := by
  cases x with
  | l z =>
    simp only [Cp.rn] at h
    split at h
    · rename_i z' hz; cases h; exact leaf_rn hβ hz hd
    · cases h
  | agg xs =>
    simp only [Cp.rn] at h
    split at h
    · rename_i z' hz; cases h; obtain ⟨ys, e, hd⟩ := hd; exact ⟨ys, e, leaves_rn hβ hz hd⟩
    · cases h
theorem cps_rn : ∀ {l r : List Cp} {ys : List Value}, rnCs ρ l = some r → All2 (Cp.den β) l ys → All2 (Cp.den β') r ys
  | [], r, [], h, _ => by simp only [rnCs, Option.some.injEq] at h; subst h; trivial
  | x :: l, r, y :: ys, h, hd => by
    unfold rnCs at h
    split at h
    · rename_i x' r' h1 h2; cases h; exact ⟨cp_rn hβ h1 hd.1, cps_rn h2 hd.2⟩
    · cases h
theorem sv_rn {x x' : SV} {y : Value} (h : x.rn ρ = some x') (hd : x.den β y) : x'.den β' y := by
  cases x with
  | u => simp only [SV.rn, Option.some.injEq] at h; subst h; trivial
  | c z =>
    simp only [SV.rn] at h
    split at h
    · rename_i z' hz; cases h; exact cp_rn hβ (x := z) (x' := z') hz hd
    · cases h
  | tup xs =>
    simp only [SV.rn] at h
    split at h
    · rename_i z' hz; cases h; obtain ⟨ys, e, hd⟩ := hd; exact ⟨ys, e, cps_rn hβ hz hd⟩
    · cases h
  | g b z =>
    simp only [SV.rn] at h
    split at h
    · rename_i z' hz; cases h; exact ⟨fun q => cp_rn hβ hz (hd.1 q), hd.2⟩
    · cases h
theorem BT.rn_ty {t t' : BT} (h : t.rn ρ = some t') : t'.ty = t.ty ∧ ((t = .x → t' = .x) ∧ (t = .q → t' = .q)) ∧ (∀ l m, t.room β l m → t'.room β' l m) ∧ ∀ m, t'.fr m = t.fr m := by
  cases t with
  | e a => simp only [BT.rn, Option.some.injEq] at h; subst h; exact ⟨rfl, ⟨fun h => h, fun h => h⟩, fun _ _ h => h, fun _ => rfl⟩
  | t a => simp only [BT.rn, Option.some.injEq] at h; subst h; exact ⟨rfl, ⟨fun h => h, fun h => h⟩, fun _ _ _ => trivial, fun _ => rfl⟩
  | y a => simp only [BT.rn, Option.some.injEq] at h; subst h; exact ⟨rfl, ⟨fun h => h, fun h => h⟩, fun _ _ _ => trivial, fun _ => rfl⟩
  | q => simp only [BT.rn, Option.some.injEq] at h; subst h; exact ⟨rfl, ⟨fun h => h, fun h => h⟩, fun _ _ h => h, fun _ => rfl⟩
  | x => simp only [BT.rn, Option.some.injEq] at h; subst h; exact ⟨rfl, ⟨fun h => h, fun h => h⟩, fun _ _ _ => trivial, fun _ => rfl⟩
  | r a sz id =>
    simp only [BT.rn] at h
    split at h
    · rename_i j hj
      cases h
      exact ⟨rfl, ⟨fun h => (by cases h), fun h => (by cases h)⟩, fun _ m ⟨v, hv, hl⟩ => ⟨v, hβ.c id j v hj hv, hl⟩, fun _ => rfl⟩
    · cases h
omit hβ in
theorem rnLs_get : ∀ {l r : List Leaf} {i : Nat} {y : Leaf}, rnLs ρ l = some r → r[i]? = some y → ∃ z, l[i]? = some z ∧ z.rn ρ = some y
  | [], r, i, y, h, hi => by simp only [rnLs, Option.some.injEq] at h; subst h; simp at hi
  | x :: l, r, i, y, h, hi => by
    unfold rnLs at h
    split at h
    · rename_i x' r' h1 h2
      cases h
      cases i with
      | zero => simp only [List.getElem?_cons_zero, Option.some.injEq] at hi; subst hi; exact ⟨x, rfl, h1⟩
      | succ i => exact rnLs_get (i := i) h2 (by simpa using hi)
    · cases h
theorem blk_rn {x : World} {b : Nat} {k k' : Blk} (h : k.rn ρ = some k') (hd : BlkAt β x b k) : BlkAt β' x b k' := by
  unfold Blk.rn at h
  split at h
  · rename_i cs t hc ht
    cases h
    obtain ⟨q1, q2, q3, q4⟩ := BT.rn_ty hβ ht
    rcases hd with (⟨h1, h2⟩ | ⟨h1, h2⟩) | ⟨ys, zs, h1, h2, h3⟩
    · rw [h2] at hc
      simp only [rnLs, Option.some.injEq] at hc
      exact .inl (.inl ⟨q2.1 h1, hc.symm⟩)
    · refine .inl (.inr ⟨q2.2 h1, fun i l hl => ?_⟩)
      obtain ⟨z, hz, hr⟩ := rnLs_get hc hl
      rcases h2 i z hz with h | ⟨y, hy, hd⟩
      · subst h
        simp only [Leaf.rn, Option.some.injEq] at hr
        exact .inl hr.symm
      · exact .inr ⟨y, hy, leaf_rn hβ hr hd⟩
    · exact .inr ⟨ys, zs, by rw [h1]; simp only [q1, q4], leaves_rn hβ hc h2, q3 _ _ h3⟩
  · cases h
end
/-- All names are below n. -/
def ltN (n : Nat) (s : SV) : Bool := (s.rn (rnId n 0 [])).isSome
theorem rnId_nil {n i j : Nat} (h : rnId n 0 [] i = some j) : j = i ∧ i < n := by
  unfold rnId at h
  split at h
  · rename_i hb; cases h; exact ⟨rfl, Nat.le_of_ble_eq_true hb⟩
  · cases h
theorem caps_nil {n : Nat} : ∀ {l r : List (Nat × Nat)}, rnCaps (rnId n 0 []) l = some r → r = l
  | [], r, h => by simp only [rnCaps, Option.some.injEq] at h; exact h.symm
  | (i, o) :: l, r, h => by
    unfold rnCaps at h
    split at h
    · rename_i j r' h1 h2; cases h; rw [(rnId_nil h1).1, caps_nil h2]
    · cases h
theorem leaf_nil {n : Nat} {x x' : Leaf} (h : x.rn (rnId n 0 []) = some x') : x' = x := by
  cases x with
  | v z => simp only [Leaf.rn, Option.some.injEq] at h; exact h.symm
  | p id off =>
    simp only [Leaf.rn] at h
    split at h
    · rename_i j hj; cases h; rw [(rnId_nil hj).1]
    · cases h
  | f fn caps =>
    simp only [Leaf.rn] at h
    split at h
    · rename_i r hr; cases h; rw [caps_nil hr]
    · cases h
  | s id off len =>
    simp only [Leaf.rn] at h
    split at h
    · rename_i j hj; cases h; rw [(rnId_nil hj).1]
    · cases h
  | o id len =>
    simp only [Leaf.rn] at h
    split at h
    · rename_i j hj; cases h; rw [(rnId_nil hj).1]
    · cases h
  | u => simp only [Leaf.rn, Option.some.injEq] at h; exact h.symm
theorem leaves_nil {n : Nat} : ∀ {l r : List Leaf}, rnLs (rnId n 0 []) l = some r → r = l
  | [], r, h => by simp only [rnLs, Option.some.injEq] at h; exact h.symm
  | x :: l, r, h => by
    unfold rnLs at h
    split at h
    · rename_i x' r' h1 h2; cases h; rw [leaf_nil h1, leaves_nil h2]
    · cases h
theorem cp_nil {n : Nat} {x x' : Cp} (h : x.rn (rnId n 0 []) = some x') : x' = x := by
  cases x with
  | l z =>
    simp only [Cp.rn] at h
    split at h
    · rename_i z' hz; cases h; rw [leaf_nil hz]
    · cases h
  | agg xs =>
    simp only [Cp.rn] at h
    split at h
    · rename_i z' hz; cases h; rw [leaves_nil hz]
    · cases h
theorem cps_nil {n : Nat} : ∀ {l r : List Cp}, rnCs (rnId n 0 []) l = some r → r = l
  | [], r, h => by simp only [rnCs, Option.some.injEq] at h; exact h.symm
  | x :: l, r, h => by
    unfold rnCs at h
    split at h
    · rename_i x' r' h1 h2; cases h; rw [cp_nil h1, cps_nil h2]
    · cases h
theorem sv_nil {n : Nat} {x x' : SV} (h : x.rn (rnId n 0 []) = some x') : x' = x := by
  cases x with
  | u => simp only [SV.rn, Option.some.injEq] at h; exact h.symm
  | c z =>
    simp only [SV.rn] at h
    split at h
    · rename_i z' hz; cases h; rw [cp_nil hz]
    · cases h
  | tup xs =>
    simp only [SV.rn] at h
    split at h
    · rename_i z' hz; cases h; rw [cps_nil hz]
    · cases h
  | g b z =>
    simp only [SV.rn] at h
    split at h
    · rename_i z' hz; cases h; rw [cp_nil hz]
    · cases h
/-- Names below n keep what they stand for. -/
structure LtTo (n : Nat) (β β' : Bt) : Prop where
  b : ∀ i b, i < n → β i = some b → β' i = some b
  c : ∀ i v, i < n → β.c i = some v → β'.c i = some v
theorem LtTo.rn {n : Nat} {β β' : Bt} (h : LtTo n β β') : RnTo (rnId n 0 []) β β' :=
  ⟨fun i j b hi hb => by obtain ⟨e, hl⟩ := rnId_nil hi; rw [e]; exact h.b i b hl hb, fun i j b hi hb => by obtain ⟨e, hl⟩ := rnId_nil hi; rw [e]; exact h.c i b hl hb⟩
theorem cut_to {n : Nat} {β : Bt} : LtTo n β (cut β n) := ⟨fun i b hi hb => (cut_lt hi).trans hb, fun i b hi hb => (cut_ltc hi).trans hb⟩
theorem ltN_den {n : Nat} {s : SV} {β β' : Bt} {y : Value} (h : ltN n s = true) (hd : s.den β y) (hβ : LtTo n β β') : s.den β' y := by
  obtain ⟨s', hs⟩ := Option.isSome_iff_exists.1 h
  have := sv_rn hβ.rn hs hd
  rw [sv_nil hs] at this
  exact this
theorem ltN_all {n : Nat} {β β' : Bt} (hβ : LtTo n β β') : ∀ {l : List SV} {ys : List Value}, (l.all (ltN n)) = true → All2 (SV.den β) l ys → All2 (SV.den β') l ys
  | [], [], _, _ => trivial
  | s :: l, y :: ys, h, hd => by
    simp only [List.all_cons, Bool.and_eq_true] at h
    exact ⟨ltN_den h.1 hd.1 hβ, ltN_all hβ h.2 hd.2⟩
def blkLt (n : Nat) (k : Blk) : Bool := (rnLs (rnId n 0 []) k.cs).isSome && (k.ty.rn (rnId n 0 [])).isSome
theorem bt_nil {n : Nat} {t t' : BT} (h : t.rn (rnId n 0 []) = some t') : t' = t := by
  cases t with
  | t a => simp only [BT.rn, Option.some.injEq] at h; exact h.symm
  | y a => simp only [BT.rn, Option.some.injEq] at h; exact h.symm
  | e a => simp only [BT.rn, Option.some.injEq] at h; exact h.symm
  | x => simp only [BT.rn, Option.some.injEq] at h; exact h.symm
  | q => simp only [BT.rn, Option.some.injEq] at h; exact h.symm
  | r a sz id =>
    simp only [BT.rn] at h
    split at h
    · rename_i j hj; cases h; rw [(rnId_nil hj).1]
    · cases h
theorem blkLt_den {n : Nat} {k : Blk} {β β' : Bt} {x : World} {b : Nat} (h : blkLt n k = true) (hd : BlkAt β x b k) (hβ : LtTo n β β') : BlkAt β' x b k := by
  simp only [blkLt, Bool.and_eq_true] at h
  obtain ⟨cs, hc⟩ := Option.isSome_iff_exists.1 h.1
  obtain ⟨t, ht⟩ := Option.isSome_iff_exists.1 h.2
  refine blk_rn hβ.rn (k := k) ?_ hd
  unfold Blk.rn
  rw [hc, ht, leaves_nil hc, bt_nil ht]
def numb : Nat → List SV → List (Nat × SV)
  | _, [] => []
  | i, s :: l => (i, s) :: numb (i + 1) l
def st0 (args : List SV) (H : List (Nat × Blk)) (n m : Nat) : St := ⟨numb 0 args, H.map fun p => (p.1, some p.2), n, m, [], n⟩
theorem lk_numb : ∀ {l : List SV} {i t : Nat} {v : SV}, lk (numb i l) t = some v → i ≤ t ∧ l[t - i]? = some v
  | [], i, t, v, h => by cases h
  | s :: l, i, t, v, h => by
    unfold numb at h
    by_cases e : i = t
    · subst e; rw [lk_cons_eq] at h; cases h; simp
    · rw [lk_cons_ne _ _ e] at h
      obtain ⟨h1, h2⟩ := lk_numb h
      refine ⟨by omega, ?_⟩
      rw [show t - i = (t - (i + 1)) + 1 by omega]
      simpa using h2
theorem load_run {P : Program} {cx : Cx} {d : Nat} {S : St} {β : Bt} {x : World} {t : Nat} {sv : SV} {y : Value} {e : Eff} (hy : sv.den β y) (h : stLoad P cx d S t sv = some e) (hob : All e.obs)
    (hrd : ∀ id b k, β id = some b → S.blk id = some k → BlkAt β x b k) : ∃ z, (Instr.loadAt t y).run P x = .ok z x ∧ e.v.den β z := by
  unfold stLoad at h
  split at h
  · rename_i id off
    obtain ⟨b, hb, hy⟩ := hy
    split at h
    · rename_i k hk
      obtain ⟨hk, hnq⟩ := blkW_spec hk
      have hB := hrd id b k hb hk
      split at h
      · rename_i hag
        split at h
        · rename_i os hos
          cases h
          have hlt := bound_holds hos hob (fun q => Nat.le_of_ble_eq_true q)
          obtain ⟨y', hc, hd⟩ := hB.cell hnq (getD_get hlt)
          refine ⟨y', ?_, hd⟩
          rw [hy]
          simp [Instr.loadAt, Instr.sureAddr, loadVar, run_agg hag, load, Sem.run, hc]
        · cases h
      · rename_i m hag hsz
        split at h
        · rename_i os hos
          cases h
          have hlt := bound_holds hos hob (fun q => Nat.le_of_ble_eq_true q)
          obtain ⟨ys, hr, hl, hd⟩ := hB.range hnq hlt
          obtain ⟨d, hd1, hd2⟩ := agg_desc hag
          refine ⟨.agg ys.toArray, ?_, ys, rfl, hd⟩
          rw [hy]
          exact run_loadAt_mid x b off t ys d hr hd1 hd2 (by rw [info_sz hsz, hl])
        · cases h
      · cases h
    · split at h
      · rename_i k hk hag _
        cases h
        obtain ⟨hlt, hu, _⟩ := hob
        obtain ⟨y', hc, hd⟩ := (hrd id b k hb hk).cellU (getD_get hlt) hu
        refine ⟨y', ?_, hd⟩
        rw [hy]
        simp [Instr.loadAt, Instr.sureAddr, loadVar, run_agg hag, load, Sem.run, hc]
      · cases h
  · cases h
theorem bound_nil {b : Bool} {p : Prop} {os : List Prop} (h : bound false b p = some os) : All os := by
  unfold bound at h
  cases b with
  | true => simp only [Option.some.injEq] at h; subst h; trivial
  | false => cases h
theorem load_obs {P : Program} {S : St} {t d : Nat} {sv : SV} {e : Eff} (h : stLoad P cx0 d S t sv = some e) : All e.obs := by
  have hm : memb d cx0.sym = false := rfl
  unfold stLoad at h
  rw [hm] at h
  (repeat' split at h) <;> first | (cases h; done) | skip
  all_goals (rename_i os hos; cases h; first | (exact bound_nil hos) | (cases hos))
theorem load_ptr {P : Program} {cx : Cx} {d : Nat} {S : St} {t : Nat} {sv : SV} {e : Eff} (h : stLoad P cx d S t sv = some e) : ∃ id off, sv = .c (.l (.p id off)) := by
  unfold stLoad at h
  split at h
  · exact ⟨_, _, rfl⟩
  · cases h
theorem resOne_sound {P : Program} {S : St} {β : Bt} {a : Act} {x : World} (hR : Rep β S a x) {r : ResultVar} {c : Cp} (h : resOne P S r = some c) :
    ∃ y, (match r with | .tmp t => pure (a.tmps.getD t undef) | .cell p t => do loadVar t (← asAddr (a.tmps.getD p undef)) : Sem Value).run P x = .ok y x ∧ c.den β y := by
  cases r with
  | tmp t =>
    simp only [resOne] at h
    split at h
    · rename_i z hz
      cases h
      have := hR.sl t
      rw [hz] at this
      exact ⟨_, rfl, this⟩
    · cases h
  | cell t ty =>
    simp only [resOne] at h
    split at h
    · rename_i e he
      split at h
      · rename_i z hz
        cases h
        obtain ⟨y, hy, hd⟩ := load_run (hR.sl t) he (load_obs he) hR.blk
        obtain ⟨id, off, hs⟩ := load_ptr he
        have hst := hR.sl t
        rw [hs] at hst
        obtain ⟨b, hb, hp⟩ := hst
        have hp' : a.tmps.getD t undef = .pointer (some ⟨b, off, none⟩) := hp
        rw [hz] at hd
        refine ⟨y, ?_, hd⟩
        rw [hp] at hy
        simp only [hp']
        exact hy
      · cases h
    · cases h
theorem resAll_sound {P : Program} {S : St} {β : Bt} {a : Act} {x : World} (hR : Rep β S a x) : ∀ {l : List ResultVar} {xs : List Cp}, resAll P S l = some xs →
    ∃ ys, (l.mapM fun | .tmp t => pure (a.tmps.getD t undef) | .cell p t => do loadVar t (← asAddr (a.tmps.getD p undef)) : Sem (List Value)).run P x = .ok ys x ∧ All2 (Cp.den β) xs ys
  | [], xs, h => by simp only [resAll, Option.some.injEq] at h; subst h; exact ⟨[], by simp, trivial⟩
  | r :: l, xs, h => by
    unfold resAll at h
    split at h
    · rename_i z zs h1 h2
      cases h
      obtain ⟨y, hy, hd⟩ := resOne_sound hR h1
      obtain ⟨ys, hys, hds⟩ := resAll_sound hR h2
      refine ⟨y :: ys, ?_, hd, hds⟩
      rw [List.mapM_cons, Sem.run_bind]
      cases r <;> (simp only at hy ⊢; rw [hy]; simp only [Result.andThen_ok, Sem.run_bind]; rw [hys]; rfl)
    · cases h
theorem resV_sound {P : Program} {fn : Func} {S : St} {β : Bt} {a : Act} {x : World} (hR : Rep β S a x) {v : SV} (h : resV P S fn.results.toList = some v) : ∃ y, (results fn a.tmps).run P x = .ok y x ∧ v.den β y := by
  unfold resV at h
  have run : ∀ ys, (fn.results.toList.mapM fun | .tmp t => pure (a.tmps.getD t undef) | .cell p t => do loadVar t (← asAddr (a.tmps.getD p undef)) : Sem (List Value)).run P x = .ok ys x →
      (results fn a.tmps).run P x = .ok (if h : ys.toArray.size = 1 then ys.toArray[0] else .tuple ys.toArray) x := by
    intro ys hys
    have key : ∀ (s : Sem (List Value)), s.run P x = .ok ys x → (Functor.map List.toArray s).run P x = .ok ys.toArray x := by
      intro s hs; rw [← bind_pure_comp, Sem.run_bind, hs]; rfl
    unfold results
    rw [Array.mapM_eq_mapM_toList, Sem.run_bind]
    exact (congrArg (fun r => Result.andThen r _) (key _ hys)).trans rfl
  split at h
  · rename_i z hz
    cases h
    obtain ⟨ys, hys, hd⟩ := resAll_sound hR hz
    match ys, hd with
    | [y], hd => exact ⟨y, run [y] hys, hd.1⟩
  · rename_i xs hne hz
    cases h
    obtain ⟨ys, hys, hd⟩ := resAll_sound hR hz
    refine ⟨.tuple ys.toArray, ?_, ys, rfl, hd⟩
    rw [run ys hys]
    have hl := hd.length
    have : ¬ ys.toArray.size = 1 := by
      intro e
      have e' : ys.length = 1 := by simpa using e
      rw [e'] at hl
      match xs, hl, hz with
      | [x], _, hz => exact hne x rfl
    rw [dif_neg this]
  · cases h
end Ab
end Go.Proofs.YtpdckpifhniioaaGreat
namespace Go.Proofs.YtpdckpifhniioaaGreat
open Go.RowKit
namespace Ab
def BkLe (k k' : Blk) : Prop := ∀ (β : Bt) (x : World) (b : Nat), BlkAt β x b k → BlkAt β x b k'
/-- Under other names, k' is at least k. -/
def BkR (ρ : Nat → Option Nat) (k' k : Blk) : Prop := ∀ (β β' : Bt) (x : World) (b : Nat), RnTo ρ β β' → BlkAt β x b k' → BlkAt β' x b k
theorem BkR.of {ρ : Nat → Option Nat} {k' k : Blk} (h : k'.rn ρ = some k) : BkR ρ k' k := fun β β' x b hr hd => blk_rn hr h hd
def srcId (n : Nat) (nm : List Nat) (id : Nat) : Nat := match Nat.blt id n with | true => id | false => nm.getD (id - n) 0
def wrs (S : St) (n : Nat) (nm : List Nat) : List (Nat × Blk) → Prop
  | [] => True
  | (id, k) :: l => match S.blk (srcId n nm id) with
    | some k' => BkR (rnId n 0 nm) k' k ∧ wrs S n nm l
    | none => False
def wck (W : List Nat) (n : Nat) (wr : List (Nat × Blk)) : Bool := W.all fun id => Nat.ble n id || (lk wr id).isSome
/-- The end of a body: the result v, the blocks of wr; nm: the body's names of the new blocks. -/
def fin (P : Program) (rs : List ResultVar) (n : Nat) (v : SV) (wr : List (Nat × Blk)) (nm : List Nat) (S : St) : Prop := match resV P S rs with
  | some v' => match v'.rn (rnId n 0 nm) with
    | some v'' => Le v'' v ∧ match wck S.W n wr with | true => wrs S n nm wr | false => False
    | none => False
  | none => False
def finK (P : Program) (rs : List ResultVar) (n : Nat) (v : SV) (wr : List (Nat × Blk)) (nm : List Nat) : Exit → St → Prop
  | .normal, S => fin P rs n v wr nm S
  | .ret, S => fin P rs n v wr nm S
  | _, _ => False
def nodup : List Nat → Bool
  | [] => true
  | j :: l => !memb j l && nodup l
def inck (args : List SV) (H : List (Nat × Blk)) (n m : Nat) (wr : List (Nat × Blk)) (nm : List Nat) : Bool :=
  Nat.ble args.length m && (args.all (ltN n) && (H.all (fun p => blkLt n p.2) && (wr.all (fun p => Nat.blt p.1 (n + nm.length)) && (nm.all (fun j => Nat.ble n j) && nodup nm))))
theorem memb_mem : ∀ {l : List Nat} {i : Nat}, memb i l = true ↔ i ∈ l
  | [], i => by simp [memb]
  | k :: l, i => by
    unfold memb
    by_cases h : k = i
    · subst h; simp [Nat.beq_refl]
    · have : Nat.beq k i = false := by
        cases hb : Nat.beq k i with
        | false => rfl
        | true => exact absurd (Nat.eq_of_beq_eq_true hb) h
      simp [this, memb_mem (l := l), Ne.symm h]
theorem rnId_spec {n : Nat} : ∀ {nm : List Nat} {k i j : Nat}, rnId n k nm i = some j → (j = i ∧ i < n) ∨ (∃ q, nm[q]? = some i ∧ j = n + (k + q))
  | [], k, i, j, h => .inl (by
      unfold rnId at h
      split at h
      · rename_i hb; cases h; exact ⟨rfl, Nat.le_of_ble_eq_true hb⟩
      · cases h)
  | m :: l, k, i, j, h => by
    unfold rnId at h
    split at h
    · rename_i hb; cases h; exact .inr ⟨0, by simp [Nat.eq_of_beq_eq_true hb], by omega⟩
    · rcases rnId_spec h with h' | ⟨q, h1, h2⟩
      · exact .inl h'
      · exact .inr ⟨q + 1, by simpa using h1, by omega⟩
theorem nodup_inj : ∀ {l : List Nat} {i j : Nat} {v : Nat}, nodup l = true → l[i]? = some v → l[j]? = some v → i = j
  | [], i, j, v, _, h, _ => by simp at h
  | a :: l, i, j, v, hn, hi, hj => by
    simp only [nodup, Bool.and_eq_true, Bool.not_eq_true'] at hn
    have hnot : a ∉ l := fun hm => by have := memb_mem.2 hm; rw [this] at hn; exact absurd hn.1 (by simp)
    cases i with
    | zero =>
      cases j with
      | zero => rfl
      | succ j =>
        simp at hi hj; subst hi
        exact absurd (List.mem_of_getElem? hj) hnot
    | succ i =>
      cases j with
      | zero =>
        simp at hi hj; subst hj
        exact absurd (List.mem_of_getElem? hi) hnot
      | succ j => rw [nodup_inj (i := i) (j := j) hn.2 (by simpa using hi) (by simpa using hj)]
theorem wrs_spec {S : St} {n : Nat} {nm : List Nat} : ∀ {wr : List (Nat × Blk)}, wrs S n nm wr → ∀ {id k}, lk wr id = some k → ∃ k', S.blk (srcId n nm id) = some k' ∧ BkR (rnId n 0 nm) k' k
  | [], _, id, k, h => by cases h
  | (i, q) :: l, hw, id, k, h => by
    unfold wrs at hw
    split at hw
    · rename_i k' hk'
      by_cases e : i = id
      · subst e; rw [lk_cons_eq] at h; cases h; exact ⟨k', hk', hw.1⟩
      · rw [lk_cons_ne _ _ e] at h; exact wrs_spec hw.2 h
    · exact hw.elim
/-- **THE CONTRACT OF A FUNCTION.** -/
theorem call_ok {P : Program} {cx : Cz} (hm : P.follows .mixedOrders = true) {f : Nat} {fn : Func} {body : Code} (hf : P.funcs[f]? = some fn) (hb : fn.body = some body) (hent : Enters P f)
    {args : List SV} {H : List (Nat × Blk)} {n : Nat} {v : SV} {wr : List (Nat × Blk)} {nm : List Nat} (hck : inck args H n fn.ntmps wr nm = true) (h : ev P cx body (st0 args H n fn.ntmps) (finK P fn.results.toList n v wr nm)) : CallOK P f args H n v wr nm.length := by
  refine ⟨hent, fun β x vals hd hinj hlt hnone hH _ => ?_⟩
  simp only [inck, Bool.and_eq_true] at hck
  obtain ⟨c1, c2, c3, c4, c5, c6⟩ := hck
  have c1 := Nat.le_of_ble_eq_true c1
  have hd' := ltN_all (cut_to (n := n)) c2 hd
  have hdl := hd.length
  have hR : Rep (cut β n) (st0 args H n fn.ntmps) { tmps := vals.toArray ++ Array.replicate (fn.ntmps - vals.toArray.size) undef, defers := [] } x := by
    refine ⟨fun t => ?_, by simp [st0]; omega, rfl, fun id b k hb hk => ?_, fun i j b hi hj => hinj i j b (cut_some hi).2 (cut_some hj).2, fun i b hb => ⟨hlt i b (cut_some hb).2, (cut_some hb).1⟩, fun i v hv => (cut_somec hv).1, Nat.le_refl _⟩
    · show SV.den _ (match lk (numb 0 args) t with | some v => v | none => .u) _
      cases hq : lk (numb 0 args) t with
      | none => trivial
      | some s =>
        obtain ⟨_, hs⟩ := lk_numb hq
        obtain ⟨y, hy, hyd⟩ := hd'.get hs
        have hlt' : t < vals.length := (List.getElem?_eq_some_iff.1 hy).1
        have : Act.eval { tmps := vals.toArray ++ Array.replicate (fn.ntmps - vals.toArray.size) undef, defers := [] } (.tmp t) = y := by
          show (vals.toArray ++ Array.replicate (fn.ntmps - vals.toArray.size) undef).getD t undef = y
          rw [Array.getD_eq_getD_getElem?, Array.getElem?_append_left (by simpa using hlt')]
          have hy' : vals[t]? = some y := by simpa using hy
          simp [hy']
        rw [this]; exact hyd
    · have hk' : lk H id = some k := by
        have : (st0 args H n fn.ntmps).blk id = match lk (H.map fun p => (p.1, some p.2)) id with | some b => b | none => none := rfl
        rw [this, lk_map] at hk
        cases hq : lk H id with
        | none => rw [hq] at hk; cases hk
        | some k' => rw [hq] at hk; exact hk
      exact blkLt_den ((List.all_eq_true.1 c3) _ (lk_mem hk')) (hH id b k (cut_some hb).2 hk') cut_to
  have fin' : ∀ S' β' a' x', fin P fn.results.toList n v wr nm S' → Nx n S'.W (cut β n) x β' x' → Rep β' S' a' x' →
      a'.defers = [] ∧ ∃ y, (results fn a'.tmps).run P x' = .ok y x' ∧ ∃ y' β'', Ending.returned y = .returned y' ∧ Done n nm.length β x wr v y' β'' x' := by
    intro S' β' a' x' hfin hN hR'
    unfold fin at hfin
    split at hfin
    · rename_i v' hv'
      split at hfin
      · rename_i v'' hv''
        obtain ⟨hle, hwr⟩ := hfin
        split at hwr
        · rename_i hwck
          obtain ⟨y, hy, hyd⟩ := resV_sound hR' hv'
          obtain ⟨β₂, hβ₂⟩ : ∃ g : Bt, g = ⟨fun id => if id < n then β id else if id < n + nm.length then (match nm[id - n]? with | some j => β' j | none => none) else β id,
            fun id => if id < n then β.c id else if id < n + nm.length then (match nm[id - n]? with | some j => β'.c j | none => none) else β.c id⟩ := ⟨_, rfl⟩
          refine ⟨hR'.defs, y, hy, y, β₂, rfl, ?_⟩
          have b1 : ∀ id, id < n → β₂ id = β id := fun id hi => by rw [hβ₂]; exact if_pos hi
          have d1 : ∀ id, id < n → β₂.c id = β.c id := fun id hi => by rw [hβ₂]; exact if_pos hi
          have b2 : ∀ q j, nm[q]? = some j → β₂ (n + q) = β' j := fun q j hq => by
            have hql : q < nm.length := (List.getElem?_eq_some_iff.1 hq).1
            rw [hβ₂]
            show (if n + q < n then _ else _) = _
            rw [if_neg (by omega), if_pos (by omega), show n + q - n = q by omega, hq]
          have d2 : ∀ q j, nm[q]? = some j → β₂.c (n + q) = β'.c j := fun q j hq => by
            have hql : q < nm.length := (List.getElem?_eq_some_iff.1 hq).1
            rw [hβ₂]
            show (if n + q < n then _ else _) = _
            rw [if_neg (by omega), if_pos (by omega), show n + q - n = q by omega, hq]
          have b3 : ∀ id, n + nm.length ≤ id → β₂ id = β id := fun id hi => by
            rw [hβ₂]; show (if id < n then _ else _) = _; rw [if_neg (by omega), if_neg (by omega)]
          have d3 : ∀ id, n + nm.length ≤ id → β₂.c id = β.c id := fun id hi => by
            rw [hβ₂]; show (if id < n then _ else _) = _; rw [if_neg (by omega), if_neg (by omega)]
          have b4 : ∀ id, id < n → β' id = β id := fun id hi => (hN.old id hi).trans (cut_lt hi)
          have d4 : ∀ id, id < n → β'.c id = β.c id := fun id hi => (hN.oldc id hi).trans (cut_ltc hi)
          have hnmge : ∀ q j, nm[q]? = some j → n ≤ j := fun q j hq => Nat.le_of_ble_eq_true ((List.all_eq_true.1 c5) j (List.mem_of_getElem? hq))
          have hnew : ∀ q j b, nm[q]? = some j → β' j = some b → x.heap.size ≤ b := fun q j b hq hb => by
            rcases hN.new j b hb with ⟨h1, _⟩ | ⟨_, h2 | ⟨i, h2, h3⟩⟩
            · have := hnmge q j hq; omega
            · exact h2
            · have := (cut_some h3).1; omega
          -- where a name of β₂ comes from
          have src : ∀ id b, β₂ id = some b → (β id = some b ∧ (id < n ∨ n + nm.length ≤ id)) ∨ (∃ q j, nm[q]? = some j ∧ id = n + q ∧ β' j = some b) := fun id b hb => by
            by_cases h1 : id < n
            · rw [b1 id h1] at hb; exact .inl ⟨hb, .inl h1⟩
            · by_cases h2 : id < n + nm.length
              · have hq : nm[id - n]? = some nm[id - n] := List.getElem?_eq_getElem (by omega)
                have := b2 (id - n) _ hq
                rw [show n + (id - n) = id by omega] at this
                rw [this] at hb
                exact .inr ⟨id - n, _, hq, by omega, hb⟩
              · rw [b3 id (by omega)] at hb; exact .inl ⟨hb, .inr (by omega)⟩
          have hrn : RnTo (rnId n 0 nm) β' β₂ := ⟨fun i j b hi hb => by
            rcases rnId_spec hi with ⟨e, hl⟩ | ⟨q, hq, e⟩
            · rw [e, b1 i hl, ← b4 i hl]; exact hb
            · rw [e, show n + (0 + q) = n + q by omega, b2 q i hq]; exact hb, fun i j b hi hb => by
            rcases rnId_spec hi with ⟨e, hl⟩ | ⟨q, hq, e⟩
            · rw [e, d1 i hl, ← d4 i hl]; exact hb
            · rw [e, show n + (0 + q) = n + q by omega, d2 q i hq]; exact hb⟩
          refine ⟨hle β₂ y (sv_rn hrn hv'' hyd), ⟨fun id b hb => ?_, fun id b hb => ?_⟩, fun id b hb => ?_, fun id v hv => ?_, fun i j b hi hj => ?_, fun i b hb => ?_, hN.os, hN.tape, hN.output, hN.size, fun k hk hne => ?_, fun id b k hb hk => ?_⟩
          · by_cases h1 : id < n
            · rw [b1 id h1]; exact hb
            · by_cases h2 : id < n + nm.length
              · rw [(hnone id (by omega) h2).1] at hb; cases hb
              · rw [b3 id (by omega)]; exact hb
          · by_cases h1 : id < n
            · rw [d1 id h1]; exact hb
            · by_cases h2 : id < n + nm.length
              · rw [(hnone id (by omega) h2).2] at hb; cases hb
              · rw [d3 id (by omega)]; exact hb
          · rcases src id b hb with ⟨h1, _⟩ | ⟨q, j, hq, e, hb'⟩
            · exact .inl h1
            · have hql : q < nm.length := (List.getElem?_eq_some_iff.1 hq).1
              exact .inr ⟨by omega, by omega, hnew q j b hq hb'⟩
          · by_cases h1 : id < n
            · rw [d1 id h1] at hv; exact .inl hv
            · by_cases h2 : id < n + nm.length
              · exact .inr ⟨by omega, h2⟩
              · rw [d3 id (by omega)] at hv; exact .inl hv
          · rcases src i b hi with ⟨h1, _⟩ | ⟨q, j1, hq, e, hb'⟩
            · rcases src j b hj with ⟨k1, _⟩ | ⟨q', j2, hq', e', hb''⟩
              · exact hinj i j b h1 k1
              · have := hnew q' j2 b hq' hb''; have := hlt i b h1; omega
            · rcases src j b hj with ⟨k1, _⟩ | ⟨q', j2, hq', e', hb''⟩
              · have := hnew q j1 b hq hb'; have := hlt j b k1; omega
              · have hjj := hR'.inj j1 j2 b hb' hb''
                subst hjj
                have := nodup_inj c6 hq hq'
                omega
          · rcases src i b hb with ⟨h1, _⟩ | ⟨q, j, hq, e, hb'⟩
            · exact Nat.lt_of_lt_of_le (hlt i b h1) hN.size
            · exact (hR'.lt j b hb').1
          · refine hN.keep k hk fun id hid => ⟨(cut_some hid).1, fun hw => ?_⟩
            have := (List.all_eq_true.1 hwck) id hw
            simp only [Bool.or_eq_true] at this
            rcases this with h1 | h1
            · have := Nat.le_of_ble_eq_true h1; have := (cut_some hid).1; omega
            · rw [hne id (cut_some hid).2] at h1; cases h1
          · obtain ⟨k', h1, h2⟩ := wrs_spec hwr hk
            have hidlt : id < n + nm.length := Nat.le_of_ble_eq_true ((List.all_eq_true.1 c4) _ (lk_mem hk))
            have hb' : β' (srcId n nm id) = some b := by
              unfold srcId
              rcases src id b hb with ⟨q1, q2⟩ | ⟨q, j, hq, e, hb'⟩
              · rcases q2 with q2 | q2
                · have : Nat.blt id n = true := Nat.ble_eq_true_of_le q2
                  rw [this]; simp only; rw [b4 id q2]; exact q1
                · omega
              · have : Nat.blt id n = false := by
                  cases hbb : Nat.blt id n with
                  | false => rfl
                  | true => have := Nat.le_of_ble_eq_true hbb; omega
                rw [this]; simp only
                rw [e, show n + q - n = q by omega, List.getD, hq]
                exact hb'
            exact h2 β' β₂ x' b hrn (hR'.blk _ b k' hb' h1)
        · exact hwr.elim
      · exact hfin.elim
    · exact hfin.elim
  refine calls_of_wp hf hb (wp_mono (ev_sound hm body _ _ h (cut β n) _ x hR) ?_)
  rintro e a' x' ⟨S', β', hk, h1, _, h3, h4⟩
  cases e with
  | normal => exact fin' S' β' a' x' hk h3 h4
  | ret => exact fin' S' β' a' x' hk h3 h4
  | exit i => exact hk.elim
  | goto i => exact hk.elim
  | panic i => exact hk.elim
  | outgrown => exact hk.elim
/-- A contract in plain values gives one in abstract values. -/
theorem call_quiet {P : Program} {f : Nat} (hent : Enters P f) {args : List SV} {vals : List Value} (hu : ∀ (β : Bt) (ys : List Value), All2 (SV.den β) args ys → ys = vals) {v : SV} {y : Value} (hv : ∀ β, v.den β y) (n : Nat)
    (h : ∀ x, Calls P f vals.toArray x fun e x' => e = .returned y ∧ Grow x x') : CallOK P f args [] n v [] 0 := by
  refine ⟨hent, fun β x ys hd hinj hlt hnone hH _ => ?_⟩
  rw [hu β ys hd]
  refine (h x).mono ?_
  rintro e x' ⟨rfl, hg⟩
  exact ⟨y, β, rfl, hv β, Ext.refl β, fun id b hb => .inl hb, fun id v hv => .inl hv, hinj, fun i b hb => Nat.lt_of_lt_of_le (hlt i b hb) hg.size, hg.os, hg.tape, hg.output, hg.size, fun k hk _ => Below.block hg k hk, fun id b k _ hk => by cases hk⟩
/-- A contract without blocks holds whatever the names. -/
theorem CallOK.any {P : Program} {f : Nat} {args : List SV} {v : SV} (h : CallOK P f args [] 0 v [] 0) (ha : (args.all (ltN 0)) = true) (hv : ltN 0 v = true) (n : Nat) : CallOK P f args [] n v [] 0 := by
  refine ⟨h.1, fun β x ys hd hinj hlt hnone hH _ => ?_⟩
  refine (h.2 ⟨fun _ => none, fun _ => none⟩ x ys (ltN_all ⟨fun i b hi _ => by omega, fun i b hi _ => by omega⟩ ha hd) (fun _ _ _ h => by cases h) (fun _ _ h => by cases h) (fun _ _ _ => ⟨rfl, rfl⟩) (fun _ _ _ h => by cases h) (fun _ h => by cases h)).mono ?_
  rintro e x' ⟨z, β', rfl, hD⟩
  exact ⟨z, β, rfl, ltN_den hv hD.den ⟨fun i b hi _ => by omega, fun i b hi _ => by omega⟩, Ext.refl β, fun id b hb => .inl hb, fun id v hv => .inl hv, hinj, fun i b hb => Nat.lt_of_lt_of_le (hlt i b hb) hD.size, hD.os, hD.tape, hD.output, hD.size,
    fun k hk _ => hD.keep k hk fun id h => (by cases h), fun id b k _ hk => by cases hk⟩
theorem ApB.of {P : Program} {e need : Nat} (b : Nat) (h : (P.info? e).map (·.bytes) = some b) (hb : need * (b + 1) ≤ 140737488355328) : ApB P e need := fun i hi => by
  rw [hi] at h
  simp only [Option.map_some, Option.some.injEq] at h
  rw [h]; exact hb
theorem of_eq {p q : Prop} (h : p = q) (k : q) : p := h ▸ k
abbrev li (n : Int) : Leaf := .v (.int .i64 n)
abbrev lb (b : Bool) : Leaf := .v (.bool b)
abbrev ag (xs : List Leaf) : SV := .c (.agg xs)
theorem Le.refl (s : SV) : Le s s := fun _ _ h => h
theorem Le.int {k : IntKind} {a b : Int} (h : a = b) : Le (iv k a) (iv k b) := by subst h; exact Le.refl _
theorem Le.bool {a b : Bool} (h : a = b) : Le (bv a) (bv b) := by subst h; exact Le.refl _
theorem Le.of {s s' : SV} (h : s = s') : Le s s' := by subst h; exact Le.refl _
theorem Le.u (s : SV) : Le s .u := fun _ _ _ => trivial
theorem LeN.of {n : Nat} {s s' : SV} (h : s = s') (hl : ltN n s' = true) : LeN n s s' := by
  subst h; exact fun β y hd => ltN_den hl hd cut_to
theorem LeN.u {n : Nat} (s : SV) : LeN n s .u := fun _ _ _ => trivial
theorem BkLe.refl (k : Blk) : BkLe k k := fun _ _ _ h => h
theorem BkLe.of {k k' : Blk} (h : k = k') : BkLe k k' := by subst h; exact BkLe.refl _
theorem BkN.of {n : Nat} {k k' : Blk} (h : k = k') (hl : blkLt n k' = true) : BkN n (some k) k' := by
  subst h; exact fun β x b hd => blkLt_den hl hd cut_to
/-- What is known of the slots and blocks of S from what was known behind a round. -/
def wkE (S' : St) (n : Nat) : List (Nat × SV) → Prop
  | [] => True
  | (t, v) :: l => LeN n (S'.sl t) v ∧ wkE S' n l
def wkH (S' : St) (n : Nat) : List (Nat × Option Blk) → Prop
  | [] => True
  | (id, some k) :: l => BkN n (S'.blk id) k ∧ wkH S' n l
  | (_, none) :: l => wkH S' n l
def wkB (S' S : St) : Bool := Nat.ble S.n S'.n && (Nat.beq S.m S'.m && (S'.W.all (fun i => memb i S.W || Nat.ble S'.q i) && (Nat.beq S.q S'.q && Nat.ble S.q S.n)))
theorem wkE_spec {S' : St} {n : Nat} : ∀ {l : List (Nat × SV)} {t : Nat} {v : SV}, wkE S' n l → lk l t = some v → LeN n (S'.sl t) v
  | [], t, v, _, h => by cases h
  | (i, w) :: l, t, v, hw, h => by
    by_cases e : i = t
    · subst e; rw [lk_cons_eq] at h; cases h; exact hw.1
    · rw [lk_cons_ne _ _ e] at h; exact wkE_spec hw.2 h
theorem wkH_spec {S' : St} {n : Nat} : ∀ {l : List (Nat × Option Blk)} {id : Nat} {k : Blk}, wkH S' n l → lk l id = some (some k) → BkN n (S'.blk id) k
  | [], id, k, _, h => by cases h
  | (i, some w) :: l, id, k, hw, h => by
    by_cases e : i = id
    · subst e; rw [lk_cons_eq] at h; cases h; exact hw.1
    · rw [lk_cons_ne _ _ e] at h; exact wkH_spec hw.2 h
  | (i, none) :: l, id, k, hw, h => by
    by_cases e : i = id
    · subst e; rw [lk_cons_eq] at h; cases h
    · rw [lk_cons_ne _ _ e] at h; exact wkH_spec (l := l) hw h
theorem wk_mem {W W' : List Nat} {q : Nat} (h : (W'.all fun i => memb i W || Nat.ble q i) = true) : ∀ i ∈ W', i < q → i ∈ W := fun i hi hl => by
  have := (List.all_eq_true.1 h) i hi
  simp only [Bool.or_eq_true] at this
  rcases this with h1 | h1
  · exact memb_mem.1 h1
  · have := Nat.le_of_ble_eq_true h1; omega
theorem Wk.of {S' S : St} (hb : wkB S' S = true) (hE : wkE S' S.n S.E) (hH : wkH S' S.n S.H) : Wk S' S := by
  simp only [wkB, Bool.and_eq_true] at hb
  obtain ⟨h1, h2, h3, h4, h5⟩ := hb
  have h4 := Nat.eq_of_beq_eq_true h4
  have h5 := Nat.le_of_ble_eq_true h5
  refine ⟨h4, wk_mem h3, fun β a x hR => ⟨cut β S.n, ⟨fun t => ?_, hR.size.trans (Nat.eq_of_beq_eq_true h2).symm, hR.defs, fun id b k hb hk => ?_, fun i j b hi hj => hR.inj i j b (cut_some hi).2 (cut_some hj).2, fun i b hb => ⟨(hR.lt i b (cut_some hb).2).1, (cut_some hb).1⟩, fun i v hv => (cut_somec hv).1, h5⟩,
    fun id hid => ⟨cut_lt (by omega), cut_ltc (by omega)⟩, fun id b hid hb => ⟨id, hid, (cut_some hb).2⟩⟩⟩
  · have : LeN S.n (S'.sl t) (S.sl t) := by
      unfold St.sl
      cases hq : lk S.E t with
      | none => exact LeN.u _
      | some v => exact wkE_spec hE hq
    exact this β _ (hR.sl t)
  · have : BkN S.n (S'.blk id) k := by
      unfold St.blk at hk
      cases hq : lk S.H id with
      | none => rw [hq] at hk; cases hk
      | some o => rw [hq] at hk; simp only at hk; subst hk; exact wkH_spec hH hq
    cases hq : S'.blk id with
    | none => rw [hq] at this; exact this.elim
    | some k' => rw [hq] at this; exact this β x b (hR.blk id b k' (cut_some hb).2 hq)
/-- What the name i stands for, by l: another name; none: a slice that is nil. -/
def sg (l : List (Nat × Option Nat)) (i : Nat) : Option Nat := match lk l i with | some o => o | none => some i
def lkv : List (Nat × Option Nat) → Nat → Option Nat
  | [], _ => none
  | (k, some v) :: l, j => match Nat.beq v j with | true => some k | false => lkv l j
  | (_, none) :: l, j => lkv l j
def chi (l : List (Nat × Option Nat)) (n k j : Nat) : Option Nat := match Nat.blt k n, sg l k with
  | true, some j' => match Nat.beq j' j with | true => some k | false => none
  | _, _ => none
/-- The name for j. -/
def ri (l : List (Nat × Option Nat)) (n j : Nat) : Option Nat := match lkv l j with | some k => chi l n k j | none => chi l n j j
def ren (l : List (Nat × Option Nat)) (β : Bt) (n : Nat) : Bt :=
  ⟨fun i => if i < n then (match sg l i with | some j => β j | none => none) else none, fun i => if i < n then (match sg l i with | some j => β.c j | none => some 0) else none⟩
theorem chi_spec {l : List (Nat × Option Nat)} {n k j i : Nat} (h : chi l n k j = some i) : i < n ∧ sg l i = some j := by
  unfold chi at h
  split at h
  · rename_i j' h1 h2
    split at h
    · rename_i h3
      cases h
      exact ⟨Nat.le_of_ble_eq_true h1, by rw [h2, Nat.eq_of_beq_eq_true h3]⟩
    · cases h
  · cases h
theorem ri_spec {l : List (Nat × Option Nat)} {n j i : Nat} (h : ri l n j = some i) : i < n ∧ sg l i = some j := by
  unfold ri at h
  split at h <;> exact chi_spec h
theorem ren_b {l : List (Nat × Option Nat)} {β : Bt} {n i j : Nat} (h : i < n) (hs : sg l i = some j) : (ren l β n) i = β j := by
  show (if i < n then _ else _) = _
  rw [if_pos h, hs]
theorem ren_c {l : List (Nat × Option Nat)} {β : Bt} {n i j : Nat} (h : i < n) (hs : sg l i = some j) : (ren l β n).c i = β.c j := by
  show (if i < n then _ else _) = _
  rw [if_pos h, hs]
theorem ren_nil {l : List (Nat × Option Nat)} {β : Bt} {n i : Nat} (h : i < n) (hs : sg l i = none) : (ren l β n).c i = some 0 := by
  show (if i < n then _ else _) = _
  rw [if_pos h, hs]
theorem ren_to {l : List (Nat × Option Nat)} {β : Bt} {n : Nat} : RnTo (ri l n) β (ren l β n) :=
  ⟨fun i j b h hb => by obtain ⟨h1, h2⟩ := ri_spec h; rw [ren_b h1 h2]; exact hb, fun i j b h hb => by obtain ⟨h1, h2⟩ := ri_spec h; rw [ren_c h1 h2]; exact hb⟩
theorem ren_some {l : List (Nat × Option Nat)} {β : Bt} {n i b : Nat} (h : (ren l β n) i = some b) : ∃ j, i < n ∧ sg l i = some j ∧ β j = some b := by
  have h : (if i < n then (match sg l i with | some j => β j | none => none) else none) = some b := h
  split at h
  · rename_i hi
    cases hs : sg l i with
    | none => rw [hs] at h; cases h
    | some j => rw [hs] at h; exact ⟨j, hi, rfl, h⟩
  · cases h
def renOK (l : List (Nat × Option Nat)) (q n : Nat) : Bool := (List.range n).all fun i => match sg l i with
  | some j => (match ri l n j with | some k => Nat.beq k i | none => false) && (match Nat.blt i q with | true => Nat.beq j i | false => Nat.ble q j)
  | none => Nat.ble q i
theorem renOK_some {l : List (Nat × Option Nat)} {q n i j : Nat} (h : renOK l q n = true) (hi : i < n) (hs : sg l i = some j) : ri l n j = some i ∧ (i < q → j = i) ∧ (q ≤ i → q ≤ j) := by
  have := (List.all_eq_true.1 h) i (by simpa using hi)
  rw [hs] at this
  simp only [Bool.and_eq_true] at this
  obtain ⟨h1, h2⟩ := this
  refine ⟨?_, fun hq => ?_, fun hq => ?_⟩
  · cases hr : ri l n j with
    | none => rw [hr] at h1; cases h1
    | some k => rw [hr] at h1; rw [Nat.eq_of_beq_eq_true h1]
  · have : Nat.blt i q = true := Nat.ble_eq_true_of_le hq
    rw [this] at h2; exact Nat.eq_of_beq_eq_true h2
  · have : Nat.blt i q = false := by
      cases hb : Nat.blt i q with
      | false => rfl
      | true => have := Nat.le_of_ble_eq_true hb; omega
    rw [this] at h2; exact Nat.le_of_ble_eq_true h2
theorem renOK_none {l : List (Nat × Option Nat)} {q n i : Nat} (h : renOK l q n = true) (hi : i < n) (hs : sg l i = none) : q ≤ i := by
  have := (List.all_eq_true.1 h) i (by simpa using hi)
  rw [hs] at this
  exact Nat.le_of_ble_eq_true this
/-- s, under other names, is at least as much as s'. -/
def LeR (l : List (Nat × Option Nat)) (n : Nat) (s s' : SV) : Prop := ∀ (β : Bt) (y : Value), s.den β y → s'.den (ren l β n) y
def BkM (l : List (Nat × Option Nat)) (n : Nat) : Option Blk → Blk → Prop
  | some k, k' => ∀ (β : Bt) (x : World) (b : Nat), BlkAt β x b k → BlkAt (ren l β n) x b k'
  | none, _ => False
theorem LeR.u {l : List (Nat × Option Nat)} {n : Nat} (s : SV) : LeR l n s .u := fun _ _ _ => trivial
theorem LeR.of {l : List (Nat × Option Nat)} {n : Nat} {s s' : SV} (h : s.rn (ri l n) = some s') : LeR l n s s' := fun β y hd => sv_rn ren_to h hd
theorem BkM.of {l : List (Nat × Option Nat)} {n : Nat} {k k' : Blk} (h : k.rn (ri l n) = some k') : BkM l n (some k) k' := fun β x b hd => blk_rn ren_to h hd
/-- Leaf by leaf; a slice that is nil may grow from now on. -/
def LfR (l : List (Nat × Option Nat)) (n : Nat) (x x' : Leaf) : Prop := ∀ (β : Bt) (y : Value), x.den β y → x'.den (ren l β n) y
def LsR (l : List (Nat × Option Nat)) (n : Nat) (xs xs' : List Leaf) : Prop := ∀ (β : Bt) (ys : List Value), All2 (Leaf.den β) xs ys → All2 (Leaf.den (ren l β n)) xs' ys
theorem LfR.of {l : List (Nat × Option Nat)} {n : Nat} {x x' : Leaf} (h : x.rn (ri l n) = some x') : LfR l n x x' := fun β y hd => leaf_rn ren_to h hd
theorem LfR.nil {l : List (Nat × Option Nat)} {n i : Nat} (hi : i < n) (h : sg l i = none) : LfR l n (.v (.slice none 0 0)) (.o i 0) := fun β y hd => .inl ⟨rfl, ren_nil hi h, hd.1⟩
theorem LsR.nil {l : List (Nat × Option Nat)} {n : Nat} : LsR l n [] [] := fun β ys hd => by
  cases ys with
  | nil => trivial
  | cons y ys => exact hd.elim
theorem LsR.cons {l : List (Nat × Option Nat)} {n : Nat} {x x' : Leaf} {xs xs' : List Leaf} (h : LfR l n x x') (k : LsR l n xs xs') : LsR l n (x :: xs) (x' :: xs') := fun β ys hd => by
  cases ys with
  | nil => exact hd
  | cons y ys => exact ⟨h β y hd.1, k β ys hd.2⟩
theorem LsR.of {l : List (Nat × Option Nat)} {n : Nat} {xs xs' : List Leaf} (h : rnLs (ri l n) xs = some xs') : LsR l n xs xs' := fun β ys hd => leaves_rn ren_to h hd
theorem LeR.l {l : List (Nat × Option Nat)} {n : Nat} {x x' : Leaf} (h : LfR l n x x') : LeR l n (.c (.l x)) (.c (.l x')) := fun β y hd => h β y hd
theorem LeR.agg {l : List (Nat × Option Nat)} {n : Nat} {xs xs' : List Leaf} (h : LsR l n xs xs') : LeR l n (.c (.agg xs)) (.c (.agg xs')) := fun β y ⟨ys, e, hd⟩ => ⟨ys, e, h β ys hd⟩
theorem BkM.ls {l : List (Nat × Option Nat)} {n t : Nat} {xs xs' : List Leaf} (h : LsR l n xs xs') : BkM l n (some ⟨xs, .t t⟩) ⟨xs', .t t⟩ := fun β x b hd => by
  rcases hd with (⟨h1, _⟩ | ⟨h1, _⟩) | ⟨ys, zs, h1, h2, _⟩
  · cases h1
  · cases h1
  · exact .inr ⟨ys, zs, h1, h β ys h2, trivial⟩
theorem BkM.r {l : List (Nat × Option Nat)} {n t sz i j : Nat} {xs xs' : List Leaf} (h : LsR l n xs xs') (hr : ri l n j = some i) : BkM l n (some ⟨xs, .r t sz j⟩) ⟨xs', .r t sz i⟩ := fun β x b hd => by
  rcases hd with (⟨h1, _⟩ | ⟨h1, _⟩) | ⟨ys, zs, h1, h2, v, hv, hl⟩
  · cases h1
  · cases h1
  · exact .inr ⟨ys, zs, h1, h β ys h2, v, ren_to.c j i v hr hv, hl⟩
def wkER (l : List (Nat × Option Nat)) (S' : St) (n : Nat) : List (Nat × SV) → Prop
  | [] => True
  | (t, v) :: r => LeR l n (S'.sl t) v ∧ wkER l S' n r
def wkHR (l : List (Nat × Option Nat)) (S' : St) (n : Nat) : List (Nat × Option Blk) → Prop
  | [] => True
  | (id, some k) :: r => (match sg l id with | some j => BkM l n (S'.blk j) k | none => True) ∧ wkHR l S' n r
  | (_, none) :: r => wkHR l S' n r
def wkBR (l : List (Nat × Option Nat)) (S' S : St) : Bool := Nat.beq S.m S'.m && (S'.W.all (fun i => memb i S.W || Nat.ble S'.q i) && (Nat.beq S.q S'.q && (Nat.ble S.q S.n && renOK l S.q S.n)))
theorem wkER_spec {l : List (Nat × Option Nat)} {S' : St} {n : Nat} : ∀ {r : List (Nat × SV)} {t : Nat} {v : SV}, wkER l S' n r → lk r t = some v → LeR l n (S'.sl t) v
  | [], t, v, _, h => by cases h
  | (i, w) :: r, t, v, hw, h => by
    by_cases e : i = t
    · subst e; rw [lk_cons_eq] at h; cases h; exact hw.1
    · rw [lk_cons_ne _ _ e] at h; exact wkER_spec hw.2 h
theorem wkHR_spec {l : List (Nat × Option Nat)} {S' : St} {n : Nat} : ∀ {r : List (Nat × Option Blk)} {id : Nat} {k : Blk}, wkHR l S' n r → lk r id = some (some k) → ∀ j, sg l id = some j → BkM l n (S'.blk j) k
  | [], id, k, _, h => by cases h
  | (i, some w) :: r, id, k, hw, h => by
    by_cases e : i = id
    · subst e; rw [lk_cons_eq] at h; cases h
      intro j hj
      have := hw.1
      rw [hj] at this
      exact this
    · rw [lk_cons_ne _ _ e] at h; exact wkHR_spec hw.2 h
  | (i, none) :: r, id, k, hw, h => by
    by_cases e : i = id
    · subst e; rw [lk_cons_eq] at h; cases h
    · rw [lk_cons_ne _ _ e] at h; exact wkHR_spec (r := r) hw h
theorem Wk.ofR (l : List (Nat × Option Nat)) {S' S : St} (hb : wkBR l S' S = true) (hE : wkER l S' S.n S.E) (hH : wkHR l S' S.n S.H) : Wk S' S := by
  simp only [wkBR, Bool.and_eq_true] at hb
  obtain ⟨h2, h3, h4, h5, h6⟩ := hb
  have h4 := Nat.eq_of_beq_eq_true h4
  have h5 := Nat.le_of_ble_eq_true h5
  refine ⟨h4, wk_mem h3, fun β a x hR => ⟨ren l β S.n, ⟨fun t => ?_, hR.size.trans (Nat.eq_of_beq_eq_true h2).symm, hR.defs, fun id b k hb hk => ?_, fun i j b hi hj => ?_, fun i b hb => ?_, fun i v hv => ?_, h5⟩, fun id hid => ?_, fun id b hid hb => ?_⟩⟩
  · have : LeR l S.n (S'.sl t) (S.sl t) := by
      unfold St.sl
      cases hq : lk S.E t with
      | none => exact LeR.u _
      | some v => exact wkER_spec hE hq
    exact this β _ (hR.sl t)
  · obtain ⟨j, h7, h8, h9⟩ := ren_some hb
    have : BkM l S.n (S'.blk j) k := by
      unfold St.blk at hk
      cases hq : lk S.H id with
      | none => rw [hq] at hk; cases hk
      | some o => rw [hq] at hk; simp only at hk; subst hk; exact wkHR_spec hH hq j h8
    cases hq : S'.blk j with
    | none => rw [hq] at this; exact this.elim
    | some k' => rw [hq] at this; exact this β x b (hR.blk j b k' h9 hq)
  · obtain ⟨i', h7, h8, h9⟩ := ren_some hi
    obtain ⟨j', k7, k8, k9⟩ := ren_some hj
    have e := hR.inj i' j' b h9 k9
    subst e
    have e1 := (renOK_some h6 h7 h8).1
    rw [(renOK_some h6 k7 k8).1] at e1
    cases e1; rfl
  · obtain ⟨i', h7, h8, h9⟩ := ren_some hb
    exact ⟨(hR.lt i' b h9).1, h7⟩
  · have hv : (if i < S.n then (match sg l i with | some j => β.c j | none => some 0) else none) = some v := hv
    split at hv
    · assumption
    · cases hv
  · have hlt : id < S.n := by omega
    cases hs : sg l id with
    | none => have := renOK_none h6 hlt hs; omega
    | some j =>
      have := (renOK_some h6 hlt hs).2.1 (by omega)
      subst this
      exact ⟨ren_b hlt hs, ren_c hlt hs⟩
  · obtain ⟨i', h7, h8, h9⟩ := ren_some hb
    exact ⟨i', by have := (renOK_some h6 h7 h8).2.2 (by omega); omega, h9⟩
end Ab
end Go.Proofs.YtpdckpifhniioaaGreat
namespace Go.Proofs.YtpdckpifhniioaaGreat
open Go.RowKit
namespace Ab
/-- The body of the loop whose first region is r. -/
def getLoop (r : Nat) : Code → Option Code
  | .loop c => match Nat.beq (rid c) r with | true => some c | false => getLoop r c
  | .seq a b => match getLoop r a with | some c => some c | none => getLoop r b
  | .cond _ a b => match getLoop r a with | some c => some c | none => getLoop r b
  | .block _ a => getLoop r a
  | _ => none
/-- K holds of some weaker state. -/
structure wkK (n : Nat) (K : Exit → St → Prop) (e : Exit) (S' : St) : Prop where
  h : ∃ S, Wk S' S ∧ K e S
structure RoundTo (P : Program) (c : Code) (n : Nat) (K : Exit → St → Prop) (S' : St) : Prop where
  h : ∃ S, Wk S' S ∧ WPL P c S K
def rK (P : Program) (c : Code) (n : Nat) (K : Exit → St → Prop) : Exit → St → Prop := fun e S' => match e with | .normal => RoundTo P c n K S' | e => K e S'
section
variable {P : Program}
theorem WPL.round' {c : Code} {S : St} {K : Exit → St → Prop} (h : WP P c S (rK P c S.n K)) : WPL P c S K :=
  WPL.round (h.mono fun e S' hk => by cases e <;> first | exact hk.h | exact hk)
theorem wp_round {cx : Cz} (hm : P.follows .mixedOrders = true) {c : Code} {S : St} {K : Exit → St → Prop} (h : ev P cx c S (rK P c S.n K)) : WPL P c S K := WPL.round' (ev_sound hm c S _ h)
theorem RoundTo.to {c : Code} {n : Nat} {K : Exit → St → Prop} {S' : St} (S : St) (hn : n ≤ S.n) (hb : wkB S' S = true) (hE : wkE S' S.n S.E) (hH : wkH S' S.n S.H) (h : WPL P c S K) : RoundTo P c n K S' := ⟨⟨S, Wk.of hb hE hH, h⟩⟩
theorem wkK.to {n : Nat} {K : Exit → St → Prop} {e : Exit} {S' : St} (S : St) (hn : n ≤ S.n) (hb : wkB S' S = true) (hE : wkE S' S.n S.E) (hH : wkH S' S.n S.H) (h : K e S) : wkK n K e S' := ⟨⟨S, Wk.of hb hE hH, h⟩⟩
theorem RoundTo.re {c : Code} {n : Nat} {K : Exit → St → Prop} {S' : St} (l : List (Nat × Option Nat)) (S : St) (hb : wkBR l S' S = true) (hE : wkER l S' S.n S.E) (hH : wkHR l S' S.n S.H) (h : WPL P c S K) : RoundTo P c n K S' := ⟨⟨S, Wk.ofR l hb hE hH, h⟩⟩
theorem wkK.re {n : Nat} {K : Exit → St → Prop} {e : Exit} {S' : St} (l : List (Nat × Option Nat)) (S : St) (hb : wkBR l S' S = true) (hE : wkER l S' S.n S.E) (hH : wkHR l S' S.n S.H) (h : K e S) : wkK n K e S' := ⟨⟨S, Wk.ofR l hb hE hH, h⟩⟩
theorem wkER_cons {l : List (Nat × Option Nat)} {S' : St} {n t : Nat} {v : SV} {r : List (Nat × SV)} (h : LeR l n (S'.sl t) v) (k : wkER l S' n r) : wkER l S' n ((t, v) :: r) := ⟨h, k⟩
theorem wkHR_cons {l : List (Nat × Option Nat)} {S' : St} {n id j : Nat} {b : Blk} {r : List (Nat × Option Blk)} (hs : sg l id = some j) (h : BkM l n (S'.blk j) b) (k : wkHR l S' n r) : wkHR l S' n ((id, some b) :: r) := ⟨by rw [hs]; exact h, k⟩
theorem wkHR_nil {l : List (Nat × Option Nat)} {S' : St} {n id : Nat} {b : Blk} {r : List (Nat × Option Blk)} (hs : sg l id = none) (k : wkHR l S' n r) : wkHR l S' n ((id, some b) :: r) := ⟨by rw [hs]; trivial, k⟩
theorem Post.weak {S : St} {β : Bt} {x : World} {K : Exit → St → Prop} : ∀ e a w, Post S β x (wkK S.n K) e a w → Post S β x K e a w := by
  rintro e a w ⟨S', β', ⟨⟨S'', hw, hk⟩⟩, h1, h2, h3, h4⟩
  obtain ⟨β₁, r1, r2, r3⟩ := hw.rep β' a w h4
  have hW := hw.W
  rw [h1] at r2 r3 hW
  exact ⟨S'', β₁, hk, hw.q.trans h1, fun i hi hl => hW i (h2 i hi hl) hl, h3.wk hW r2 r3, r1⟩
theorem WP.conseq {c : Code} {S : St} {K : Exit → St → Prop} (h : WP P c S (wkK S.n K)) : WP P c S K := fun β a x hR => wp_mono (h β a x hR) Post.weak
theorem WPL.conseq {c : Code} {S : St} {K : Exit → St → Prop} (h : WPL P c S (wkK S.n K)) : WPL P c S K := fun β a x hR => loopAt_mono (h β a x hR) Post.weak
/-- From a state that is known in more detail. -/
theorem WPL.start {c : Code} {S : St} {K : Exit → St → Prop} (S₁ : St) (hn : S₁.n = S.n) (hb : wkB S S₁ = true) (hE : wkE S S₁.n S₁.E) (hH : wkH S S₁.n S₁.H) (h : WPL P c S₁ (wkK S₁.n K)) : WPL P c S K :=
  WPL.weak (Wk.of hb hE hH) h.conseq
theorem LoopOK.re {c : Code} {S : St} {T : (Exit → St → Prop) → Prop} (l : List (Nat × Option Nat)) (S₁ : St) (hb : wkBR l S S₁ = true) (hE : wkER l S S₁.n S₁.E) (hH : wkHR l S S₁.n S₁.H) (h : ∀ K, T K → WPL P c S₁ (wkK S₁.n K)) : LoopOK P c S T :=
  fun K hT => (WPL.weak (Wk.ofR l hb hE hH) (h K hT).conseq).wp
theorem LoopOK.mk {c : Code} {S : St} {T : (Exit → St → Prop) → Prop} (S₁ : St) (hn : S₁.n = S.n) (hb : wkB S S₁ = true) (hE : wkE S S₁.n S₁.E) (hH : wkH S S₁.n S₁.H) (h : ∀ K, T K → WPL P c S₁ (wkK S₁.n K)) : LoopOK P c S T :=
  fun K hT => (WPL.start S₁ hn hb hE hH (h K hT)).wp
theorem wkE_cons {S' : St} {n t : Nat} {v : SV} {l : List (Nat × SV)} (h : LeN n (S'.sl t) v) (k : wkE S' n l) : wkE S' n ((t, v) :: l) := ⟨h, k⟩
theorem wkH_cons {S' : St} {n id : Nat} {b : Blk} {l : List (Nat × Option Blk)} (h : BkN n (S'.blk id) b) (k : wkH S' n l) : wkH S' n ((id, some b) :: l) := ⟨h, k⟩
theorem LeN.sl_int {S : St} {n t : Nat} {k : IntKind} {x y : Int} (h : S.sl t = iv k y) (e : y = x) : LeN n (S.sl t) (iv k x) := by
  rw [h, e]; exact LeN.of rfl rfl
theorem LeN.sl {S : St} {n t : Nat} {v : SV} (h : S.sl t = v) (hl : ltN n v = true) : LeN n (S.sl t) v := LeN.of h hl
theorem BkN.blk {S : St} {n id : Nat} {k k' : Blk} (h : S.blk id = some k) (e : k = k') (hl : blkLt n k' = true) : BkN n (S.blk id) k' := by
  rw [h]; exact BkN.of e hl
end
def Leaf.pl : Leaf → Option Value
  | .v x => match leafy x with | true => some x | false => none
  | _ => none
def plLs : List Leaf → Option (List Value)
  | [] => some []
  | x :: l => match x.pl, plLs l with | some y, some r => some (y :: r) | _, _ => none
def Cp.pl : Cp → Option Value
  | .l x => x.pl
  | .agg xs => match plLs xs with | some ys => some (.agg ys.toArray) | none => none
def plCs : List Cp → Option (List Value)
  | [] => some []
  | x :: l => match x.pl, plCs l with | some y, some r => some (y :: r) | _, _ => none
def SV.pl : SV → Option Value
  | .c x => x.pl
  | .tup xs => match plCs xs with | some ys => some (.tuple ys.toArray) | none => none
  | _ => none
def pls : List SV → Option (List Value)
  | [] => some []
  | x :: l => match x.pl, pls l with | some y, some r => some (y :: r) | _, _ => none
theorem Leaf.pl_iff {x : Leaf} {y : Value} (h : x.pl = some y) (β : Bt) (z : Value) : x.den β z ↔ z = y := by
  cases x with
  | v a =>
    simp only [Leaf.pl] at h
    split at h
    · rename_i hl; cases h; exact ⟨fun k => k.1, fun k => ⟨k, hl⟩⟩
    · cases h
  | p _ _ => cases h
  | f _ _ => cases h
  | s _ _ _ => cases h
  | o _ _ => cases h
  | u => cases h
theorem plLs_iff : ∀ {l : List Leaf} {ys : List Value}, plLs l = some ys → ∀ (β : Bt) (zs : List Value), All2 (Leaf.den β) l zs ↔ zs = ys
  | [], ys, h, β, zs => by
    simp only [plLs, Option.some.injEq] at h; subst h
    cases zs <;> simp [All2]
  | x :: l, ys, h, β, zs => by
    unfold plLs at h
    split at h
    · rename_i y r h1 h2
      cases h
      cases zs with
      | nil => simp [All2]
      | cons z zs => simp only [All2, Leaf.pl_iff h1 β z, plLs_iff h2 β zs, List.cons.injEq]
    · cases h
theorem Cp.pl_iff {x : Cp} {y : Value} (h : x.pl = some y) (β : Bt) (z : Value) : x.den β z ↔ z = y := by
  cases x with
  | l a => exact Leaf.pl_iff (x := a) h β z
  | agg xs =>
    simp only [Cp.pl] at h
    split at h
    · rename_i ys hy
      cases h
      constructor
      · rintro ⟨zs, rfl, hd⟩; rw [(plLs_iff hy β zs).1 hd]
      · rintro rfl; exact ⟨ys, rfl, (plLs_iff hy β ys).2 rfl⟩
    · cases h
theorem plCs_iff : ∀ {l : List Cp} {ys : List Value}, plCs l = some ys → ∀ (β : Bt) (zs : List Value), All2 (Cp.den β) l zs ↔ zs = ys
  | [], ys, h, β, zs => by
    simp only [plCs, Option.some.injEq] at h; subst h
    cases zs <;> simp [All2]
  | x :: l, ys, h, β, zs => by
    unfold plCs at h
    split at h
    · rename_i y r h1 h2
      cases h
      cases zs with
      | nil => simp [All2]
      | cons z zs => simp only [All2, Cp.pl_iff h1 β z, plCs_iff h2 β zs, List.cons.injEq]
    · cases h
theorem SV.pl_iff {x : SV} {y : Value} (h : x.pl = some y) (β : Bt) (z : Value) : x.den β z ↔ z = y := by
  cases x with
  | u => cases h
  | c a => exact Cp.pl_iff (x := a) h β z
  | tup xs =>
    simp only [SV.pl] at h
    split at h
    · rename_i ys hy
      cases h
      constructor
      · rintro ⟨zs, rfl, hd⟩; rw [(plCs_iff hy β zs).1 hd]
      · rintro rfl; exact ⟨ys, rfl, (plCs_iff hy β ys).2 rfl⟩
    · cases h
  | g _ _ => cases h
theorem pls_iff : ∀ {l : List SV} {ys : List Value}, pls l = some ys → ∀ (β : Bt) (zs : List Value), All2 (SV.den β) l zs ↔ zs = ys
  | [], ys, h, β, zs => by
    simp only [pls, Option.some.injEq] at h; subst h
    cases zs <;> simp [All2]
  | x :: l, ys, h, β, zs => by
    unfold pls at h
    split at h
    · rename_i y r h1 h2
      cases h
      cases zs with
      | nil => simp [All2]
      | cons z zs => simp only [All2, SV.pl_iff h1 β z, pls_iff h2 β zs, List.cons.injEq]
    · cases h
theorem call_plain {P : Program} {f : Nat} (hent : Enters P f) {args : List SV} {vals : List Value} {v : SV} {y : Value} (ha : pls args = some vals) (hv : v.pl = some y) (n : Nat)
    (h : ∀ x, Calls P f vals.toArray x fun e x' => e = .returned y ∧ Grow x x') : CallOK P f args [] n v [] 0 :=
  call_quiet hent (fun β ys hd => (pls_iff ha β ys).1 hd) (fun β => (SV.pl_iff hv β y).2 rfl) n h
end Ab
end Go.Proofs.YtpdckpifhniioaaGreat
end
