/- The reference's writer: its state; walk of its Bit. -/
import Derived.Test.YtdepfgeomceiiaaQC
import Derived.Laws.OwnMore
set_option linter.unusedVariables false
namespace Go.Proofs.Ytdepfgeomceiiaa
open Go.RowKit
/-- 'v = append(v, t...)' of a row of bytes of the call's own and a slice of bytes. -/
theorem wp_appS {ops : Array Oper} {rest : List Oper} {o : Oper} {a : Act} {Q : Exit → Act → World → Prop} (w : World) (hgd : o.guard = none) (s x : Operand)
    (ho : o.op = .call { callee := .builtin .append, args := #[s, x], argTypes := #[33, 33] }) (hty : o.type = 33)
    (base : Nat) (v : Value) (n : Nat) (xs : List Value) (hs : a.eval s = v) (hown : w.ownsRow base 5 1 v n xs)
    (ad : Addr) (m c : Nat) (news : List Value) (hx : a.eval x = .slice (some ad) m c) (hl : news.length = m) (hnews : ∀ j u, news[j]? = some u → w.cell? (ad.add j) = some u) (h1 : ∀ u ∈ news, u.oneCell' = true)
    (h63 : n + m ≤ 1000000000) (hbase : base ≤ w.heap.size)
    (h : ∀ v' w', w'.ownsRow base 5 1 v' (n + m) (xs ++ news) → w.grownBy w' v.ownBlock → Nxt v.ownBlock v'.ownBlock w → v' ≠ .slice none 0 0 ∨ n + m = 0 → wpList Try.prog ops Q rest (a.put o.dst v') w') : wpList Try.prog ops Q (o :: rest) a w := by
  obtain ⟨i0, hi, hz0, hz1, hz2⟩ := info_parts infoU8
  obtain ⟨v', w', hr, h2, h3, h4, h5⟩ := run_append_own_at (P := Try.prog) w base 33 33 5 i0 (.int .u8 0) 1 1 Try.underlying33 hi hz0 hz1 hz2 rfl (by decide) v n xs hown ad m c news (by omega) hnews h1 (by unfold maxLen; omega) (by omega) hbase
  refine wpList_plain hgd fun K hK => ?_
  unfold Oper.wp
  rw [run_app (x' := w') (v := v') v (.slice (some ad) m c) ho hs hx (by rw [hty]; exact hr)]
  refine hK _ _ (h v' w' h2 h3 ?_ ?_)
  · rcases h5 with h5 | h5
    · exact .inl h5
    · exact .inr ⟨_, h5, Nat.le_refl _⟩
  · by_cases e : v' = .slice none 0 0
    · right
      rw [e] at h2
      rcases h2.2 with ⟨_, h0⟩ | ⟨k, cap, cur, hv, _⟩
      · exact h0
      · cases hv
    · exact .inl e
/-- .. and a row of bytes that perhaps is nil. -/
theorem wp_appR {ops : Array Oper} {rest : List Oper} {o : Oper} {a : Act} {Q : Exit → Act → World → Prop} (w : World) (hgd : o.guard = none) (s x : Operand)
    (ho : o.op = .call { callee := .builtin .append, args := #[s, x], argTypes := #[33, 33] }) (hty : o.type = 33)
    (base : Nat) (v : Value) (n : Nat) (xs : List Value) (hs : a.eval s = v) (hown : w.ownsRow base 5 1 v n xs)
    (B2 : Nat) (t : Value) (m : Nat) (news : List Value) (hx : a.eval x = t) (ho2 : w.ownsRow B2 5 1 t m news) (h1 : ∀ u ∈ news, u.oneCell' = true)
    (h63 : n + m ≤ 1000000000) (hbase : base ≤ w.heap.size)
    (h : ∀ v' w', w'.ownsRow base 5 1 v' (n + m) (xs ++ news) → w.grownBy w' v.ownBlock → Nxt v.ownBlock v'.ownBlock w → wpList Try.prog ops Q rest (a.put o.dst v') w') : wpList Try.prog ops Q (o :: rest) a w := by
  rcases ho2.2 with ⟨rfl, rfl⟩ | ⟨k, cap, cur, rfl, _⟩
  · have hn : news = [] := List.length_eq_zero_iff.1 (by simpa using ho2.1)
    subst hn
    obtain ⟨i0, hi, hz0, hz1, hz2⟩ := info_parts infoU8
    refine wpList_plain hgd fun K hK => ?_
    unfold Oper.wp
    rw [run_app (x' := w) (v := v) v (.slice none 0 0) ho hs hx (by rw [hty]; exact run_append_owned_none (P := Try.prog) (w := w) base 33 33 5 i0 1 Try.underlying33 hi v n xs hown)]
    exact hK _ _ (h v w (by simpa using hown) ⟨rfl, rfl, rfl, Nat.le_refl _, fun _ _ _ => rfl⟩ (.inl rfl))
  · refine wp_appS w hgd s x ho hty base v n xs hs hown ⟨k, 0, none⟩ m cap news hx (by simpa using ho2.1) (ho2.cells (g := k) rfl) h1 h63 hbase fun v' w' r1 r2 r3 _ => h v' w' r1 r2 r3
/-- The reference's writer in block g. -/
structure RW (B g : Nat) (ro : Option Nat) (s : M.St) (l : List UInt8) (w : World) : Prop where
  ok : M.Ok s
  bd : B ≤ w.heap.size
  ge : B ≤ g
  ex : ∃ X, Blk w g 82 259 (cr s.p s.lo s.hi X) ∧ w.ownsRow B 5 1 (X 258) l.length (bvals l) ∧ (X 258).ownBlock = ro
theorem RW.lt {B g ro s l w} (h : RW B g ro s l w) : g < w.heap.size := by
  obtain ⟨X, h1, _⟩ := h.ex
  exact h1.lt
theorem RW.ro_ge {B g ro s l w} (h : RW B g ro s l w) (k : Nat) (e : ro = some k) : B ≤ k ∧ k < w.heap.size := by
  obtain ⟨X, h1, h2, h3⟩ := h.ex
  have h4 := h2.lt k (by rw [h3, e])
  exact ⟨h4.1, h4.2⟩
theorem RW.ne {B g ro s l w} (h : RW B g ro s l w) {k t : Nat} {c fr} (hk : w.heap[k]? = some (.cells c t fr)) (h5 : t ≠ 5) (h68 : t ≠ 82) : k ≠ g ∧ some k ≠ ro := by
  obtain ⟨X, h1, h2, h3⟩ := h.ex
  refine ⟨blk_ne h1 hk (Ne.symm h68), ?_⟩
  rw [← h3]; exact row_ne h2 hk h5
theorem RW.keep {B g ro s l w w'} (h : RW B g ro s l w) {g' ro'} (hc : Chg g' ro' w w') (h1 : g ≠ g') (h2 : some g ≠ ro') (h3 : ∀ k, ro = some k → k ≠ g' ∧ some k ≠ ro') : RW B g ro s l w' := by
  obtain ⟨X, x1, x2, x3⟩ := h.ex
  refine ⟨h.ok, Nat.le_trans h.bd hc.size, h.ge, X, ?_, ?_, x3⟩
  · have := hc.block g x1.lt h1 h2
    unfold Blk at x1 ⊢; rw [this]; exact x1
  · obtain ⟨y1, y2⟩ := x2
    refine ⟨y1, y2.imp id ?_⟩
    rintro ⟨k, cap, cur, e1, e2, e3, e4⟩
    have hk := h3 k (by rw [← x3, e1]; rfl)
    refine ⟨k, cap, cur, e1, e2, ?_, e4⟩
    rw [hc.block k (Array.getElem?_eq_some_iff.1 e3).1 hk.1 hk.2]; exact e3
theorem RW.grow {B g ro s l w w'} (h : RW B g ro s l w) (hg : Grow w w') : RW B g ro s l w' := by
  obtain ⟨X, x1, x2, x3⟩ := h.ex
  exact ⟨h.ok, Nat.le_trans h.bd (Below.size hg), h.ge, X, x1.grow hg, own_grow x2 hg, x3⟩
theorem RW.below {B g ro s l w w'} (h : RW B g ro s l w) (k : Chg g ro w w') : Below B w w' := k.below h.ge (fun j e => (h.ro_ge j e).1) h.bd
theorem rnewWriter_rw (w : World) : Calls Try.prog 20 #[] w fun e w' => ∃ g, e = .returned (.pointer (some ⟨g, 0, none⟩)) ∧ RW w.heap.size g none M.start [] w' ∧ Grow w w' := by
  refine (rnewWriter w).mono ?_
  rintro e w' ⟨g, hg, rfl, h1, h2⟩
  refine ⟨g, rfl, ⟨M.start_ok, Below.size h2, hg, _, h1, ⟨rfl, .inl ⟨rfl, rfl⟩⟩, rfl⟩, h2⟩
theorem Chg.trans' {g ro x y z} (h : Chg g none x y) (k : Chg g ro y z) (v : Value) : Chg g ro x (z.setCell ⟨g, 258, none⟩ v) := by
  have h2 : Chg g ro x z := ⟨k.os.trans h.os, k.tape.trans h.tape, k.output.trans h.output, Nat.le_trans h.size k.size, fun j hj hg hr => (k.block j (Nat.lt_of_lt_of_le hj h.size) hg hr).trans (h.block j hj hg (by simp))⟩
  exact h2.set 258 v
set_option maxRecDepth 100000 in
set_option maxHeartbeats 1000000 in
theorem rbit_rw {B g ro s l w} (h : RW B g ro s l w) (c bit : Int) (hl : l.length + 4 ≤ 100000000) :
    Calls Try.prog 22 #[.pointer (some ⟨g, 0, none⟩), .int .i64 c, .int .i64 bit] w fun e w' => e = .returned (.tuple #[]) ∧ ∃ ro', RW B g ro' (M.nxt s (cx c) (bit % 2)) (l ++ M.outB s (cx c) (bit % 2)) w' ∧ Nxt ro ro' w ∧ Chg g ro w w' := by
  obtain ⟨X, x1, x2, x3⟩ := h.ex
  have HN := Lib.hid (rnarrow 82 259 (by decide) (by omega) g s h.ok c bit X w x1)
  have hlen := M.outB_len s (cx c) (bit % 2)
  have hok := Lib.hid (M.nxt_ok h.ok (cx c) (bit % 2))
  generalize M.outB s (cx c) (bit % 2) = ob at *
  generalize M.nxt s (cx c) (bit % 2) = sn at *
  have hx := x1.lt
  have n1 := row_ne x2 x1 (by decide)
  have hB := h.bd
  have hge := Lib.hid h.ge
  replace x1 := Lib.hid x1
  replace x2 := Lib.hid x2
  clear h
  go_enter Try.func22, Try.ntmps22
  go_wp2_with fail
  refine HN.out.mono ?_
  rintro e x ⟨v, rfl, b1, o1, c1, nn⟩
  have o2 : x.ownsRow B 5 1 (X 258) l.length (bvals l) := x2.out.kept (row := some g) ⟨c1.os, c1.tape, c1.output, c1.size, fun j hj hr => c1.block j hj (fun e => hr (by rw [e])) (by simp)⟩ (.inr n1.symm)
  have d8 : x.cell? ⟨g, 258, none⟩ = some (X 258) := by rw [b1.cell 258 (by omega), cr_x 258 (by omega)]
  obtain ⟨so, sc, hv⟩ := own_mem o2
  obtain ⟨k, cap, cur, hvk⟩ : ∃ k cap, ∃ _ : Nat, v = .slice (some ⟨k, 0, none⟩) ob.length cap := by
    rcases o1.2 with ⟨e1, _⟩ | ⟨k, cap, cur, e1, _⟩
    · exact absurd e1 nn
    · exact ⟨k, cap, 0, e1⟩
  subst hvk
  have hcells := o1.cells (g := k) rfl
  have hsz := c1.size
  rw [hv] at d8
  have hlb : (bvals ob).length = ob.length := bvals_length ob
  have hone : ∀ u ∈ bvals ob, u.oneCell' = true := by
    intro u hu
    unfold bvals at hu
    obtain ⟨b, _, rfl⟩ := List.mem_map.1 hu
    rfl
  replace b1 := Lib.hid b1
  replace c1 := Lib.hid c1
  rw [hv] at o2
  have hv' := Lib.hid hv
  clear HN o1 nn hv
  go_wp2_with (at_builtin; refine wp_appS _ rfl _ _ rfl rfl B _ _ _ rfl o2 ⟨k, 0, none⟩ _ _ (bvals ob) rfl hlb hcells hone (by omega) (by omega) ?_)
  intro v' W hown hgr hn _
  have hrow : (Value.slice so l.length sc).ownBlock = ro := by rw [← hv'.out]; exact x3
  rw [hrow] at hgr hn
  have n2 : some g ≠ ro := by rw [← x3]; exact n1
  have hW : Blk W g 82 259 (cr sn.p sn.lo sn.hi X) := by
    have := hgr.block g b1.out.lt n2
    have h5 := b1.out
    unfold Blk at h5 ⊢; rw [this]; exact h5
  have e8 : W.cell? ⟨g, 258, none⟩ = some (.slice so l.length sc) := by rw [hW.cell 258 (by omega), cr_x 258 (by omega), hv'.out]
  have f8 := hW.free 258
  obtain ⟨so', sc', hv2⟩ := own_mem hown
  have HF : Hid (RW B g v'.ownBlock sn (l ++ ob) (W.setCell ⟨g, 258, none⟩ v') ∧ Nxt ro v'.ownBlock w ∧ Chg g ro w (W.setCell ⟨g, 258, none⟩ v')) := by
    have hset := hW.set 258 v'
    rw [cr_put_x 258 (by omega)] at hset
    refine Lib.hid ⟨⟨hok.out, ?_, hge.out, _, hset, ?_, by simp [vput]⟩, ?_, ?_⟩
    · have := hgr.size
      simp [World.setCell]; omega
    · have e2 : vput X 258 v' 258 = v' := by simp [vput]
      rw [e2, List.length_append, bvals_append]
      exact own_set' hown (by decide) hW 258 v'
    · exact Nxt.trans (.inl rfl) hsz hn
    · exact c1.out.trans' ⟨hgr.os, hgr.tape, hgr.output, hgr.size, fun j hj hg hr => hgr.block j hj hr⟩ v'
  subst hv2
  clear hown hgr hn hW hcells hone hlb o2
  go_wp2
  refine bodyPost_end (results_none rfl _ _ _) rfl ⟨rfl, _, HF.out⟩
end Go.Proofs.Ytdepfgeomceiiaa
