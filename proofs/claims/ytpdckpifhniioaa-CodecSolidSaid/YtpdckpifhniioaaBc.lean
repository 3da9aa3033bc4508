/- strings.Builder on abstract values: copyCheck, String. -/
import Derived.Test.YtpdckpifhniioaaC11
import Derived.Test.YtpdckpifhniioaaXd
import Derived.Test.YtpdckpifhniioaaBl
set_option linter.unusedVariables false
namespace Go.Proofs.Ytpdckpifhniioaa
open Go.RowKit
namespace Ab
theorem enters110 : Enters Try.prog 40 := fun args w => by go_simp
theorem enters54 : Enters Try.prog 21 := fun args w => by go_simp
theorem blkE2 {β : Bt} {x : World} {b t : Nat} {l0 l1 : Leaf} (h : BlkAt β x b ⟨[l0, l1], .e t⟩) : ∃ y0 y1, x.heap[b]? = some (.cells #[y0, y1] t (0, 0)) ∧ l0.den β y0 ∧ l1.den β y1 := by
  rcases h with (⟨h, _⟩ | ⟨h, _⟩) | ⟨ys, zs, h1, h2, h3⟩
  · cases h
  · cases h
  have hz : zs = [] := by
    have : ys.length = (ys ++ zs).length := h3
    rw [List.length_append] at this
    exact List.eq_nil_of_length_eq_zero (by omega)
  subst hz
  match ys, h2 with
  | [y0, y1], ⟨d0, d1, _⟩ => exact ⟨y0, y1, by simpa [BT.ty, BT.fr] using h1, d0, d1⟩
  | [], h2 => exact h2.elim
  | [_], h2 => exact h2.2.elim
  | _ :: _ :: _ :: _, h2 => exact h2.2.2.elim
theorem mkE2 {β : Bt} {x : World} {b t : Nat} {l0 l1 : Leaf} {y0 y1 : Value} (h : x.heap[b]? = some (.cells #[y0, y1] t (0, 0))) (d0 : l0.den β y0) (d1 : l1.den β y1) : BlkAt β x b ⟨[l0, l1], .e t⟩ :=
  .inr ⟨[y0, y1], [], by simpa [BT.ty, BT.fr] using h, ⟨d0, d1, trivial⟩, rfl⟩
/-- A call that writes some named blocks and makes none. -/
theorem done_wr {n : Nat} {β : Bt} {x x' : World} {wr : List (Nat × Blk)} {v : SV} {y : Value} (hinj : ∀ i j b, β i = some b → β j = some b → i = j) (hlt : ∀ i b, β i = some b → b < x.heap.size) (hd : v.den β y)
    (h1 : x'.os = x.os) (h2 : x'.tape = x.tape) (h3 : x'.output = x.output) (hs : x.heap.size ≤ x'.heap.size) (hk : ∀ k, k < x.heap.size → (∀ id, β id = some k → lk wr id = none) → x'.heap[k]? = x.heap[k]?)
    (hb : ∀ id b k, β id = some b → lk wr id = some k → BlkAt β x' b k) : Done n 0 β x wr v y β x' :=
  ⟨hd, Ext.refl β, fun _ _ h => .inl h, fun _ _ h => .inl h, hinj, fun i b h => Nat.lt_of_lt_of_le (hlt i b h) hs, h1, h2, h3, hs, hk, hb⟩
theorem lk_one {k : Nat} {v : Blk} {i : Nat} {w : Blk} (h : lk [(k, v)] i = some w) : i = k ∧ w = v := by
  have := lk_mem h
  simp only [List.mem_singleton, Prod.mk.injEq] at this
  exact this
theorem C110f (id n : Nat) (lx : Leaf) : CallOK Try.prog 40 [.c (.l (.p id 0))] [(id, ⟨[.v (.pointer none), lx], .e 54⟩)] n (.tup []) [(id, ⟨[.p id 0, lx], .e 54⟩)] 0 := by
  refine ⟨enters110, fun β x vals hv hinj hlt hnew hH _ => ?_⟩
  match vals, hv with
  | [y], ⟨⟨b, hb, hy⟩, _⟩ =>
    subst hy
    obtain ⟨y0, y1, h1, d0, d1⟩ := blkE2 (hH id b _ hb (lk_cons_eq _ _ _))
    obtain ⟨d0, _⟩ := d0
    subst d0
    refine (Oct.ck_fresh b y1 x h1).mono ?_
    rintro e x' ⟨rfl, rfl⟩
    have hh : (x.setCell ⟨b, 0, none⟩ (.pointer (some ⟨b, 0, none⟩))).heap[b]? = some (.cells #[.pointer (some ⟨b, 0, none⟩), y1] 54 (0, 0)) := by
      rw [heap_setCell_same _ _ _ _ _ _ h1]; simp
    refine ⟨_, β, rfl, done_wr hinj hlt ⟨[], rfl, trivial⟩ rfl rfl rfl (by simp [World.setCell]) (fun k hk hne => heap_setCell_other _ _ _ _ (fun e => ?_)) (fun i c k hi hk => ?_)⟩
    · have e : k = b := e
      subst e
      have := hne id hb
      rw [lk_cons_eq] at this; cases this
    · obtain ⟨rfl, rfl⟩ := lk_one hk
      rw [hb] at hi; cases hi
      exact mkE2 hh ⟨b, hb, rfl⟩ d1
theorem C110u (id n : Nat) (lx : Leaf) : CallOK Try.prog 40 [.c (.l (.p id 0))] [(id, ⟨[.p id 0, lx], .e 54⟩)] n (.tup []) [(id, ⟨[.p id 0, lx], .e 54⟩)] 0 := by
  refine ⟨enters110, fun β x vals hv hinj hlt hnew hH _ => ?_⟩
  match vals, hv with
  | [y], ⟨⟨b, hb, hy⟩, _⟩ =>
    subst hy
    obtain ⟨y0, y1, h1, d0, d1⟩ := blkE2 (hH id b _ hb (lk_cons_eq _ _ _))
    obtain ⟨b', hb', d0⟩ := d0
    rw [hb] at hb'; cases hb'
    subst d0
    refine (Oct.ck_used b y1 x h1).mono ?_
    rintro e x' ⟨rfl, rfl⟩
    refine ⟨_, β, rfl, done_wr hinj hlt ⟨[], rfl, trivial⟩ rfl rfl rfl (Nat.le_refl _) (fun k hk hne => rfl) (fun i c k hi hk => ?_)⟩
    obtain ⟨rfl, rfl⟩ := lk_one hk
    rw [hb] at hi; cases hi
    exact mkE2 h1 ⟨b, hb, rfl⟩ d1
set_option maxRecDepth 100000 in
set_option maxHeartbeats 1000000 in
theorem bstr2 (b g cap : Nat) (p : Value) (l : List UInt8) (cur : Array Value) (fr : Nat × Nat) (w : World) (h1 : w.heap[b]? = some (.cells #[p, .slice (some ⟨g, 0, none⟩) l.length cap] 54 (0, 0))) (r3 : w.heap[g]? = some (.cells cur 5 fr))
    (h0 : l ≠ []) (hle : l.length ≤ cur.size) (hM : l.length ≤ 1000000000) (hcap : l.length ≤ cap) (r7 : cur.toList.take l.length = Oct.bvals l) :
    Calls Try.prog 21 #[.pointer (some ⟨b, 0, none⟩)] w fun e w' => e = .returned (.string ⟨l.toArray⟩) ∧ w' = w.drew.freeze ⟨g, 0, none⟩ l.length := by
  have hl : 0 < l.length := by cases l with | nil => exact absurd rfl h0 | cons => simp
  have c1 : w.drew.cell? ⟨b, 1, none⟩ = some (.slice (some ⟨g, 0, none⟩) l.length cap) := by
    have : w.drew.heap[b]? = some (.cells #[p, .slice (some ⟨g, 0, none⟩) l.length cap] 54 (0, 0)) := h1
    rw [Lib.cell_of_heap this]; rfl
  have hSD : (Builtin.unsafeSliceData_ #[46] 105 #[.slice (some ⟨g, 0, none⟩) l.length cap]).run Try.prog w.drew = .ok (.pointer (some ⟨g, 0, none⟩)) w.drew :=
    Lib.run_unsafeSliceData_row _ _ _ _ _ _ (by omega)
  have hUS : (Builtin.unsafeString_ #[105, 3] 9 #[.pointer (some ⟨g, 0, none⟩), .int .i64 l.length]).run Try.prog w.drew = .ok (.string ⟨l.toArray⟩) (w.drew.freeze ⟨g, 0, none⟩ l.length) := by
    refine Lib.run_unsafeString_row w.drew 105 3 9 5 Try.underlying105 Oct.cellsU8 g cur.size (by have hg' : w.drew.heap[g]? = some (.cells cur 5 fr) := r3; simp [World.shape?, hg']) l h0 hle (by omega) ?_
    intro j x hx
    have hj : j < l.length := (List.getElem?_eq_some_iff.1 hx).1
    have hg' : w.drew.heap[g]? = some (.cells cur 5 fr) := r3
    have e : (⟨g, 0, none⟩ : Addr).add j = ⟨g, j, none⟩ := by unfold Addr.add; split <;> simp_all
    rw [e, Lib.cell_of_heap hg']
    have h3 : (cur.toList.take l.length)[j]? = some (.int .u8 x.toNat) := by rw [r7]; simp [Oct.bvals, hx]
    rw [List.getElem?_take, if_pos hj, Array.getElem?_toList] at h3
    exact h3
  clear h1 r3 r7
  go_enter Try.func21, Try.ntmps21
  go_wp2
  go_region
  all_goals (go_wp2; go_ret; exact ⟨rfl, rfl⟩)
/-- String of a builder with something in it. -/
theorem C54 (id bf n m : Nat) (l0 : Leaf) (cs : List Leaf) (hm : 0 < m) (hc : cs.length = m) (ha : AllB cs) (hM : m ≤ 1000000000) (hne : id ≠ bf) :
    CallOK Try.prog 21 [.c (.l (.p id 0))] [(id, ⟨[l0, .o bf m], .e 54⟩), (bf, ⟨cs, .r 5 1 bf⟩)] n (.c (.l (.v (.string (strL cs))))) [(bf, ⟨[], .x⟩)] 0 := by
  refine ⟨enters54, fun β x vals hv hinj hlt hnew hH _ => ?_⟩
  match vals, hv with
  | [y], ⟨⟨b, hb, hy⟩, _⟩ =>
    subst hy
    obtain ⟨y0, y1, h1, d0, d1⟩ := blkE2 (hH id b _ hb (lk_cons_eq _ _ _))
    rcases d1 with ⟨h0, _⟩ | ⟨g, cap, hg, hcc, hcap, hy1⟩
    · omega
    subst hy1
    rcases hH bf g _ hg (by rw [lk_cons_ne _ _ hne, lk_cons_eq]) with (⟨hx, _⟩ | ⟨hx, _⟩) | ⟨ys, zs, r3, hd, v, hv, hroom⟩
    · cases hx
    · cases hx
    have hys := allB_spec ha hd
    have hyl : ys.length = m := by rw [← hd.length, hc]
    have hl : (cs.map lfB).length = m := by rw [List.length_map, hc]
    have key := bstr2 b g cap y0 (cs.map lfB) (ys ++ zs).toArray (0, 0) x (by rw [hl]; exact h1) (by simpa [BT.ty, BT.fr] using r3) (by intro e; rw [e] at hl; simp at hl; omega) (by simp; omega) (by omega) (by omega) (by
      rw [hl]
      show (ys ++ zs).take m = _
      rw [List.take_append_of_le_length (by omega), List.take_of_length_le (by omega), hys]
      rfl)
    refine key.mono ?_
    rintro e x' ⟨rfl, rfl⟩
    have hbg : b ≠ g := fun e => hne (hinj _ _ _ hb (e ▸ hg))
    have hsz : (x.drew.freeze ⟨g, 0, none⟩ (cs.map lfB).length).heap.size = x.heap.size := by
      unfold World.freeze
      split
      · rfl
      · simp
    have hio : ∀ w : World, ∀ k, (w.freeze ⟨g, 0, none⟩ k).os = w.os ∧ (w.freeze ⟨g, 0, none⟩ k).tape = w.tape ∧ (w.freeze ⟨g, 0, none⟩ k).output = w.output := by
      intro w k; unfold World.freeze; split <;> exact ⟨rfl, rfl, rfl⟩
    obtain ⟨i1, i2, i3⟩ := hio x.drew (cs.map lfB).length
    refine ⟨_, β, rfl, done_wr hinj hlt ⟨rfl, rfl⟩ i1 i2 i3 (by rw [hsz]; exact Nat.le_refl _) (fun k hk hn => ?_) (fun i c k hi hk => ?_)⟩
    · rw [Oct.freeze_other (fun e => ?_)]
      · rfl
      · subst e
        have := hn bf hg
        rw [lk_cons_eq] at this; cases this
    · obtain ⟨rfl, rfl⟩ := lk_one hk
      exact .inl (.inl ⟨rfl, rfl⟩)
end Ab
end Go.Proofs.Ytpdckpifhniioaa
