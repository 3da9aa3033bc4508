/- Two rows of integers, each appended to once in a region that draws its order: the states between. No function of the program is in sight. -/
import Derived.Test.YtmfmnoajihiidaaO
import Derived.Maps.AppendAt
set_option linter.unusedVariables false
namespace Go.Proofs.Ytmfmnoajihiidaa
open Go.RowKit
def cur (d : Bool) (u v : Value) : Value := cond d u v
structure Ch (R b : Nat) (v : Value) (l : List Value) (U : Value) (d1 d2 d3 : Bool) (u1 u2 : Value) (x : World) : Prop where
  var : x.heap[b]? = some (.cells #[cur d3 u2 v] 83 (0, 0))
  own : x.ownsRow R 3 1 (cur d2 u2 v) (l.length + cond d2 1 0) (l ++ cond d2 [U] [])
  lit : d1 = true → d2 = false → ∃ g, u1 = .slice (some ⟨g, 0, none⟩) 1 1 ∧ x.heap[g]? = some (.cells #[U] 3 (0, 0)) ∧ R ≤ g ∧ v.ownBlock ≠ some g
  o1 : d2 = true → d1 = true
  o2 : d3 = true → d2 = true
theorem Ch.kept {R b v l U d1 d2 d3 u1 u2 x x' row} (h : Ch R b v l U d1 d2 d3 u1 u2 x) (hg : x.grownBy x' row) (hb : row ≠ some b) (ho : ∀ k, (cur d2 u2 v).ownBlock = some k → row ≠ some k) (hl : d1 = true → d2 = false → ∀ k, u1.ownBlock = some k → row ≠ some k) : Ch R b v l U d1 d2 d3 u1 u2 x' := by
  refine ⟨?_, ?_, ?_, h.o1, h.o2⟩
  · rw [hg.block b (Array.getElem?_eq_some_iff.1 h.var).1 (Ne.symm hb)]; exact h.var
  · refine h.own.kept hg ?_
    cases hc : (cur d2 u2 v).ownBlock with
    | none => exact .inl rfl
    | some k => exact .inr (Ne.symm (ho k hc))
  · intro e1 e2
    obtain ⟨g, h1, h2, h3, h4⟩ := h.lit e1 e2
    refine ⟨g, h1, ?_, h3, h4⟩
    rw [hg.block g (Array.getElem?_eq_some_iff.1 h2).1 (Ne.symm (hl e1 e2 g (by rw [h1]; rfl)))]; exact h2
structure Two (w0 : World) (Pt : Nat → Prop) (R b1 : Nat) (v1 : Value) (l1 : List Value) (U1 : Value) (d1 d2 d3 : Bool) (u1 u2 : Value) (b2 : Nat) (v2 : Value) (l2 : List Value) (U2 : Value) (e1 e2 e3 : Bool) (z1 z2 : Value) (x : World) : Prop where
  fr : w0.grownBy x none ∨ (x.os = w0.os ∧ x.tape = w0.tape ∧ x.output = w0.output ∧ w0.heap.size ≤ x.heap.size ∧ ∀ k, Pt k → x.heap[k]? = w0.heap[k]?)
  c1 : Ch R b1 v1 l1 U1 d1 d2 d3 u1 u2 x
  c2 : Ch R b2 v2 l2 U2 e1 e2 e3 z1 z2 x
  dj : ∀ k, (cur d2 u2 v1).ownBlock = some k → (cur e2 z2 v2).ownBlock ≠ some k
  x1 : d1 = true → d2 = false → ∀ g, u1.ownBlock = some g → (cur e2 z2 v2).ownBlock ≠ some g
  x2 : e1 = true → e2 = false → ∀ g, z1.ownBlock = some g → (cur d2 u2 v1).ownBlock ≠ some g
  pt : ∀ k, Pt k → k < w0.heap.size ∧ k ≠ b1 ∧ k ≠ b2 ∧ (cur d2 u2 v1).ownBlock ≠ some k ∧ (cur e2 z2 v2).ownBlock ≠ some k
  ne : b1 ≠ b2
  lt : b1 < R ∧ b2 < R ∧ R ≤ w0.heap.size
section
variable {w0 : World} {Pt : Nat → Prop} {R b1 : Nat} {v1 : Value} {l1 : List Value} {U1 : Value} {d1 d2 d3 : Bool} {u1 u2 : Value} {b2 : Nat} {v2 : Value} {l2 : List Value} {U2 : Value} {e1 e2 e3 : Bool} {z1 z2 : Value} {x : World}
theorem Two.swap (h : Two w0 Pt R b1 v1 l1 U1 d1 d2 d3 u1 u2 b2 v2 l2 U2 e1 e2 e3 z1 z2 x) : Two w0 Pt R b2 v2 l2 U2 e1 e2 e3 z1 z2 b1 v1 l1 U1 d1 d2 d3 u1 u2 x :=
  ⟨h.fr, h.c2, h.c1, fun k hk hk' => h.dj k hk' hk, h.x2, h.x1, fun k hk => ⟨(h.pt k hk).1, (h.pt k hk).2.2.1, (h.pt k hk).2.1, (h.pt k hk).2.2.2.2, (h.pt k hk).2.2.2.1⟩, h.ne.symm, h.lt.2.1, h.lt.1, h.lt.2.2⟩
theorem Two.frame (h : Two w0 Pt R b1 v1 l1 U1 d1 d2 d3 u1 u2 b2 v2 l2 U2 e1 e2 e3 z1 z2 x) : x.os = w0.os ∧ x.tape = w0.tape ∧ x.output = w0.output ∧ w0.heap.size ≤ x.heap.size ∧ ∀ k, Pt k → x.heap[k]? = w0.heap[k]? := by
  rcases h.fr with hg | hg
  · exact ⟨hg.os, hg.tape, hg.output, hg.size, fun k hk => hg.block k (h.pt k hk).1 (by simp)⟩
  · exact hg
theorem Two.fr_step (h : Two w0 Pt R b1 v1 l1 U1 d1 d2 d3 u1 u2 b2 v2 l2 U2 e1 e2 e3 z1 z2 x) {x' : World} {row : Option Nat} (hg : x.grownBy x' row) (hr : ∀ k, Pt k → row ≠ some k) :
    w0.grownBy x' none ∨ (x'.os = w0.os ∧ x'.tape = w0.tape ∧ x'.output = w0.output ∧ w0.heap.size ≤ x'.heap.size ∧ ∀ k, Pt k → x'.heap[k]? = w0.heap[k]?) := by
  obtain ⟨f1, f2, f3, f4, f5⟩ := h.frame
  refine .inr ⟨hg.os.trans f1, hg.tape.trans f2, hg.output.trans f3, Nat.le_trans f4 hg.size, fun k hk => ?_⟩
  rw [hg.block k (Nat.lt_of_lt_of_le (h.pt k hk).1 f4) (Ne.symm (hr k hk))]
  exact f5 k hk
theorem Ch.own_lt (h : Ch R b1 v1 l1 U1 d1 d2 d3 u1 u2 x) : ∀ k, (cur d2 u2 v1).ownBlock = some k → R ≤ k ∧ k < x.heap.size := h.own.lt
/-- The literal row of the first chain. -/
theorem Two.build (h : Two w0 Pt R b1 v1 l1 U1 false d2 d3 u1 u2 b2 v2 l2 U2 e1 e2 e3 z1 z2 x) : Two w0 Pt R b1 v1 l1 U1 true d2 d3 (.slice (some ⟨x.heap.size, 0, none⟩) 1 1) u2 b2 v2 l2 U2 e1 e2 e3 z1 z2 (x.alloc (.cells #[U1] 3 (0, 0))) := by
  have hg := World.grownBy_alloc x (.cells #[U1] 3 (0, 0)) none
  have hd2 : d2 = false := by
    cases hd : d2 with
    | false => rfl
    | true => exact absurd (h.c1.o1 hd) (by simp)
  have k1 := h.c1.kept hg (by simp) (by simp) (by simp)
  have k2 := h.c2.kept hg (by simp) (by simp) (by simp)
  have fresh1 : ∀ k, (cur d2 u2 v1).ownBlock = some k → k ≠ x.heap.size := fun k hk => by have := (h.c1.own_lt k hk).2; omega
  have fresh2 : ∀ k, (cur e2 z2 v2).ownBlock = some k → k ≠ x.heap.size := fun k hk => by have := (h.c2.own_lt k hk).2; omega
  refine ⟨h.fr_step hg (by simp), ⟨k1.var, k1.own, ?_, fun _ => rfl, k1.o2⟩, k2, h.dj, ?_, h.x2, h.pt, h.ne, h.lt⟩
  · intro _ _
    refine ⟨x.heap.size, rfl, heap_alloc_new _ _, Nat.le_trans h.lt.2.2 h.frame.2.2.2.1, fun hk => ?_⟩
    rw [hd2] at fresh1
    exact fresh1 _ hk rfl
  · intro _ _ g hgk hk
    injection hgk with hgk
    exact fresh2 g hk hgk.symm
/-- The first chain's append. -/
theorem Two.app (h : Two w0 Pt R b1 v1 l1 U1 true false d3 u1 u2 b2 v2 l2 U2 e1 e2 e3 z1 z2 x) (hU : U1.oneCell' = true) (hl : l1.length ≤ 100)
    (hinfo : (Try.prog.info? 3).map (fun i => (i.zero, i.size, i.bytes)) = some (some (.int .i64 0), 1, 8)) (ht : Try.prog.underlying 83 = some (.slice 3)) (ty : TypeId) :
    ∃ v' x', (Builtin.append_ #[83, 83] ty #[v1, u1]).run Try.prog x = .ok v' x' ∧ Two w0 Pt R b1 v1 l1 U1 true true d3 u1 v' b2 v2 l2 U2 e1 e2 e3 z1 z2 x' := by
  have hd3 : d3 = false := by
    cases hd : d3 with
    | false => rfl
    | true => exact absurd (h.c1.o2 hd) (by simp)
  subst hd3
  obtain ⟨g, rfl, hgl, hRg, hvg⟩ := h.c1.lit rfl rfl
  obtain ⟨i0, hi, hz0, hz1, hz2⟩ := info_parts hinfo
  have hown : x.ownsRow R 3 1 v1 l1.length l1 := by have := h.c1.own; simpa [cur] using this
  have hcell : ∀ j u, ([U1] : List Value)[j]? = some u → x.cell? ((⟨g, 0, none⟩ : Addr).add j) = some u := by
    intro j u hj
    match j, hj with
    | 0, hj =>
      simp at hj
      subst hj
      have : (⟨g, 0, none⟩ : Addr).add 0 = ⟨g, 0, none⟩ := by unfold Addr.add; split <;> simp_all
      rw [this, cell_of_row x g 0 _ _ _ hgl]; rfl
  obtain ⟨v', x', hrun, hown', hg, -, hnx⟩ := run_append_own_at x R 83 ty 3 i0 (.int .i64 0) 1 8 ht hi hz0 hz1 hz2 rfl (by decide) v1 l1.length l1 hown ⟨g, 0, none⟩ 1 1 [U1] rfl hcell (by intro u hu; simp at hu; subst hu; exact hU) (by unfold maxLen; omega) (by omega) (Nat.le_trans h.lt.2.2 h.frame.2.2.2.1)
  refine ⟨v', x', hrun, ?_⟩
  have hlt1 : ∀ k, v1.ownBlock = some k → R ≤ k ∧ k < x.heap.size := hown.lt
  have hlt2 := h.c2.own_lt
  have rowR : ∀ k, k < R → v1.ownBlock ≠ some k := fun k hk he => by have := (hlt1 k he).1; omega
  have new : ∀ k, k < x.heap.size → v1.ownBlock ≠ some k → v'.ownBlock ≠ some k := by
    intro k hk hne he
    rcases hnx with e | e
    · exact hne (e ▸ he)
    · rw [e] at he; injection he with he; omega
  have hc2 : Ch R b2 v2 l2 U2 e1 e2 e3 z1 z2 x' := by
    refine h.c2.kept hg (rowR b2 h.lt.2.1) (fun k hk he => h.dj k he hk) (fun q1 q2 k hk he => ?_)
    exact h.x2 q1 q2 k hk he
  refine ⟨h.fr_step hg (fun k hk => (h.pt k hk).2.2.2.1), ⟨?_, ?_, fun _ q => absurd q (by simp), fun _ => rfl, fun q => absurd q (by simp)⟩, hc2, ?_, fun _ q => absurd q (by simp), ?_, ?_, h.ne, h.lt⟩
  · rw [hg.block b1 (Array.getElem?_eq_some_iff.1 h.c1.var).1 (Ne.symm (rowR b1 h.lt.1))]
    exact h.c1.var
  · exact hown'
  · intro k hk he
    exact new k (hlt2 k he).2 (fun q => h.dj k q he) hk
  · intro q1 q2 k hk
    obtain ⟨k', rfl, hk1, _⟩ := h.c2.lit q1 q2
    injection hk with hk
    subst hk
    exact new _ (Array.getElem?_eq_some_iff.1 hk1).1 (h.x2 q1 q2 _ rfl)
  · intro k hk
    obtain ⟨p1, p2, p3, p4, p5⟩ := h.pt k hk
    exact ⟨p1, p2, p3, new k (Nat.lt_of_lt_of_le p1 h.frame.2.2.2.1) p4, p5⟩
theorem grownBy_setCell (x : World) (b i : Nat) (v : Value) : x.grownBy (x.setCell ⟨b, i, none⟩ v) (some b) := by
  have hB : Below b x (x.setCell ⟨b, i, none⟩ v) := (Below.refl b x).setCell (p := ⟨b, i, none⟩) (Nat.le_refl _) v
  refine ⟨hB.os, hB.tape, hB.output, hB.size, fun k hk hne => ?_⟩
  exact heap_setCell_other _ _ _ _ (fun e => hne (by rw [e]))
/-- The first chain's store. -/
theorem Two.store (h : Two w0 Pt R b1 v1 l1 U1 d1 true false u1 u2 b2 v2 l2 U2 e1 e2 e3 z1 z2 x) : Two w0 Pt R b1 v1 l1 U1 d1 true true u1 u2 b2 v2 l2 U2 e1 e2 e3 z1 z2 (x.setCell ⟨b1, 0, none⟩ u2) := by
  have hg := grownBy_setCell x b1 0 u2
  have hc2 : Ch R b2 v2 l2 U2 e1 e2 e3 z1 z2 (x.setCell ⟨b1, 0, none⟩ u2) := by
    refine h.c2.kept hg (fun e => h.ne (by injection e)) (fun k hk e => ?_) (fun q1 q2 k hk e => ?_)
    · injection e with e
      have := (h.c2.own_lt k hk).1
      have := h.lt.1
      omega
    · injection e with e
      obtain ⟨g, rfl, _, hR, _⟩ := h.c2.lit q1 q2
      injection hk with hk
      have := h.lt.1
      have hk : g = k := hk
      omega
  have hown := h.c1.own.kept hg (by
    cases hc : (cur true u2 v1).ownBlock with
    | none => exact .inl rfl
    | some k =>
      refine .inr (fun e => ?_)
      injection e with e
      have := (h.c1.own_lt k hc).1
      have := h.lt.1
      omega)
  refine ⟨h.fr_step hg (fun k hk e => (h.pt k hk).2.1 (by injection e with e; exact e.symm)), ⟨?_, hown, fun _ q => absurd q (by simp), h.c1.o1, fun _ => rfl⟩, hc2, h.dj, fun _ q => absurd q (by simp), h.x2, h.pt, h.ne, h.lt⟩
  rw [heap_setCell_same _ _ _ _ _ _ h.c1.var]; rfl
end
end Go.Proofs.Ytmfmnoajihiidaa
