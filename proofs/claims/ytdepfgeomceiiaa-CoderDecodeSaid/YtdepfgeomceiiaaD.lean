/- Walk of the writer's Bit. -/
import Derived.Test.YtdepfgeomceiiaaC
set_option linter.unusedVariables false
namespace Go.Proofs.Ytdepfgeomceiiaa
open Go.RowKit
theorem own_set {x : World} {B g : Nat} {Y : Nat → Value} {v : Value} {n : Nat} {xs : List Value} (h : x.ownsRow B 5 1 v n xs) (hb : Blk x g 68 259 Y) (i : Nat) (u : Value) : (x.setCell ⟨g, i, none⟩ u).ownsRow B 5 1 v n xs :=
  h.kept (row := some g) ⟨rfl, rfl, rfl, by simp [World.setCell], fun j hj hr => heap_setCell_other _ _ _ _ (by intro e'; exact hr (by rw [e']))⟩ (.inr (row_ne h hb (by decide)).symm)
theorem Chg.set {g row x y} (h : Chg g row x y) (i : Nat) (u : Value) : Chg g row x (y.setCell ⟨g, i, none⟩ u) :=
  ⟨h.os, h.tape, h.output, by simp [World.setCell]; exact h.size, fun j hj hg hr => by rw [heap_setCell_other _ _ _ _ (by simpa using hg)]; exact h.block j hj hg hr⟩
theorem blk_ne {x : World} {g bx t t' n : Nat} {Y : Nat → Value} {c : Array Value} {fr} (h : Blk x g t n Y) (k : x.heap[bx]? = some (.cells c t' fr)) (ht : t ≠ t') : bx ≠ g := by
  intro e
  subst e
  unfold Blk at h
  rw [h] at k
  injection k with k
  injection k with _ k _
  exact ht k
structure WQ (B g bx : Nat) (ro : Option Nat) (w1 : World) (l : List UInt8) (X : Nat → Value) (x : World) : Prop where
  bd : B ≤ x.heap.size
  own : x.ownsRow B 5 1 (X 258) l.length (bvals l)
  nxt : Nxt ro (X 258).ownBlock w1
  chg : Chg g ro w1 x
  box : x.heap[bx]? = some (.cells #[.pointer (some ⟨g, 0, none⟩)] 37 (0, 0))
theorem wq_cb (B g bx : Nat) (ro : Option Nat) (w1 : World) : CbW g bx 100000000 (WQ B g bx ro w1) where
  set := fun l X Y w i v hi hb h => ⟨by simp [World.setCell]; exact h.bd, own_set h.own hb i v, h.nxt, h.chg.set i v, by
    rw [heap_setCell_other _ _ _ _ (by simpa using blk_ne hb h.box (by decide))]; exact h.box⟩
  drewN := fun l X w n h => ⟨h.bd, h.own, h.nxt, ⟨h.chg.os, h.chg.tape, h.chg.output, h.chg.size, h.chg.block⟩, h.box⟩
  call := fun l X w p lo en b hb h hl => by
    refine (push_w B g bx (cc p lo en X) (X 258) l b w hb (cc_x 258 (by omega)) h.own h.box hl h.bd).mono ?_
    rintro e w' ⟨rfl, v', h1, h2, h3, h4⟩
    rw [cc_put_x 258 (by omega)] at h1
    have e2 : vput X 258 v' 258 = v' := by simp [vput]
    refine ⟨rfl, vput X 258 v', h1, ⟨Nat.le_trans h.bd h4.size, by rw [e2, List.length_append]; exact h2, by rw [e2]; exact h.nxt.trans h.chg.size h3, h.chg.trans h.nxt h4, ?_⟩⟩
    rw [h4.block bx (Array.getElem?_eq_some_iff.1 h.box).1 (blk_ne hb h.box (by decide)) (row_ne h.own h.box (by decide))]
    exact h.box
set_option maxRecDepth 100000 in
set_option maxHeartbeats 1000000 in
theorem bit_w (B g : Nat) (s : M.St) (hs : M.Ok s) (c bit : Int) (X : Nat → Value) (l : List UInt8) (w : World)
    (hB : Blk w g 68 259 (cc s.p s.lo (4294967295 - s.hi) X)) (hown : w.ownsRow B 5 1 (X 258) l.length (bvals l)) (hBw : B ≤ w.heap.size) (hl : l.length + 4 ≤ 100000000) :
    Calls Try.prog 21 #[.pointer (some ⟨g, 0, none⟩), .int .i64 c, .int .i64 bit] w fun e w' => e = .returned (.tuple #[]) ∧
      ∃ X', Blk w' g 68 259 (cc (M.nxt s (cx c) (bit % 2)).p (M.nxt s (cx c) (bit % 2)).lo (4294967295 - (M.nxt s (cx c) (bit % 2)).hi) X') ∧
        w'.ownsRow B 5 1 (X' 258) (l ++ M.outB s (cx c) (bit % 2)).length (bvals (l ++ M.outB s (cx c) (bit % 2))) ∧ Nxt (X 258).ownBlock (X' 258).ownBlock w ∧ Chg g (X 258).ownBlock w w' := by
  have h1 := hB.grow (Grow.alloc w (.cells #[.pointer (some ⟨g, 0, none⟩)] 37))
  have h2 : WQ B g w.heap.size (X 258).ownBlock (w.alloc (.cells #[.pointer (some ⟨g, 0, none⟩)] 37)) l X (w.alloc (.cells #[.pointer (some ⟨g, 0, none⟩)] 37)) :=
    ⟨Nat.le_trans hBw (Grow.size (Grow.alloc _ _)), hown.alloc _, .inl rfl, Chg.refl _ _ _, heap_alloc_new _ _⟩
  have HN := Lib.hid (narrow_w (Lib.hid (wq_cb B g w.heap.size (X 258).ownBlock (w.alloc (.cells #[.pointer (some ⟨g, 0, none⟩)] 37)))) s hs c bit X l _ h1 h2 hl)
  clear h1 h2 hB hown
  go_enter Try.func21, Try.ntmps21
  go_wp2_with fail
  refine HN.out.mono ?_
  rintro e x ⟨rfl, X', hB, hQ⟩
  go_wp2
  refine bodyPost_end (results_none rfl _ _ _) rfl ⟨rfl, X', hB, hQ.own, ?_, ?_⟩
  · rcases hQ.nxt with h | ⟨k, h, hk⟩
    · exact .inl h
    · exact .inr ⟨k, h, Nat.le_trans (Grow.size (Grow.alloc _ _)) hk⟩
  · exact (Chg.of_grow (Grow.alloc _ _)).trans (.inl rfl) hQ.chg
end Go.Proofs.Ytdepfgeomceiiaa
