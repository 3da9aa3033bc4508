/- Walk of the law OctetDecodes of layer 1: it returns true and writes nothing that was there. -/
import Derived.Test.YtcanmfkocbnbfaaG
import Derived.Test.YtcanmfkocbnbfaaH
import Derived.Test.YtcanmfkocbnbfaaJ
import Derived.Test.YtcanmfkocbnbfaaK
import Derived.Deep.DeepCutAuto
import Derived.Deep.CutBlock
set_option linter.unusedVariables false
namespace Go.Proofs.Ytcanmfkocbnbfaa
open Go.RowKit
namespace octetDecodes
def HasP (o : Option Addr) (n : Nat) (K : Nat → UInt8) (N : Nat → Int) (W : World) : Prop :=
  ∀ i, i < n → ∃ a, o = some a ∧ a.block < W.heap.size ∧ W.cell? (a.add (i * 2)) = some (.int .u8 ((K i).toNat : Int)) ∧ W.cell? (a.add (i * 2 + 1)) = some (.int .i64 (N i))
theorem add_block (a : Addr) (k : Nat) : (a.add k).block = a.block := by unfold Addr.add; split <;> rfl
theorem HasP.keep {o n K N w x} (h : HasP o n K N w) (hb : Below w.heap.size w x) : HasP o n K N x := by
  intro i hi
  obtain ⟨a, e, hl, h1, h2⟩ := h i hi
  exact ⟨a, e, Nat.lt_of_lt_of_le hl hb.size, by rw [hb.cell (p := a.add (i * 2)) (by rw [add_block]; exact hl)]; exact h1, by rw [hb.cell (p := a.add (i * 2 + 1)) (by rw [add_block]; exact hl)]; exact h2⟩
theorem add_one (a : Addr) (j : Nat) : (⟨(a.add j).block, (a.add j).off + 1, none⟩ : Addr) = a.add (j + 1) := by
  unfold Addr.add
  rw [if_neg (show ¬ j + 1 = 0 by omega)]
  split
  · simp_all
  · simp; omega
/-- The three readers of the law: the reader, the reference's, the zero value. -/
structure Tr (w : World) (b1 b2 b3 : Nat) (s : ByteArray) (p1 : Nat) (f1 : Bool) (p2 : Nat) (f2 : Bool) (x : World) : Prop where
  r1 : Rd 48 b1 s p1 f1 x
  r2 : Rd 46 b2 s p2 f2 x
  r3 : Rd 48 b3 ⟨#[]⟩ 0 false x
  ne : w.heap.size ≤ b1 ∧ b1 < b2 ∧ b2 < b3
  bl : Below w.heap.size w x
  le1 : p1 ≤ s.size
  le2 : p2 ≤ s.size
/-- A call that turns block b alone leaves the other readers. -/
theorem Rd.other {T b s p f w x c} (h : Rd T b s p f w) (hg : w.grownBy x (some c)) (hne : b ≠ c) : Rd T b s p f x := by
  have hl := lt_of_heap h
  unfold Rd at h ⊢
  rw [hg.block b hl (by simp; exact hne)]; exact h
theorem Tr.step1 {w b1 b2 b3 s p f p2 f2 q g x y} (h : Tr w b1 b2 b3 s p f p2 f2 x) (hg : x.grownBy y (some b1)) (hr : Rd 48 b1 s q g y) (hq : q ≤ s.size) : Tr w b1 b2 b3 s q g p2 f2 y :=
  ⟨hr, Rd.other h.r2 hg (by have := h.ne; omega), Rd.other h.r3 hg (by have := h.ne; omega), h.ne, h.bl.grown hg h.bl.size (fun k hk => by simp at hk; have := h.ne; omega), hq, h.le2⟩
theorem Tr.step2 {w b1 b2 b3 s p f p2 f2 q g x y} (h : Tr w b1 b2 b3 s p f p2 f2 x) (hg : x.grownBy y (some b2)) (hr : Rd 46 b2 s q g y) (hq : q ≤ s.size) : Tr w b1 b2 b3 s p f q g y :=
  ⟨Rd.other h.r1 hg (by have := h.ne; omega), hr, Rd.other h.r3 hg (by have := h.ne; omega), h.ne, h.bl.grown hg h.bl.size (fun k hk => by simp at hk; have := h.ne; omega), h.le1, hq⟩
theorem Tr.keep {w b1 b2 b3 s p f p2 f2 x y} (h : Tr w b1 b2 b3 s p f p2 f2 x) (hb : Below x.heap.size x y) : Tr w b1 b2 b3 s p f p2 f2 y :=
  ⟨h.r1.keep hb, h.r2.keep hb, h.r3.keep hb, h.ne, bt h.bl hb, h.le1, h.le2⟩
theorem Tr.drewN {w b1 b2 b3 s p f p2 f2 x} (h : Tr w b1 b2 b3 s p f p2 f2 x) (n : Nat) : Tr w b1 b2 b3 s p f p2 f2 (x.drewN n) :=
  ⟨h.r1, h.r2, h.r3, h.ne, ⟨h.bl.os, h.bl.tape, h.bl.output, h.bl.size, h.bl.block⟩, h.le1, h.le2⟩
theorem textRes_le (s : ByteArray) (p : Nat) (f : Bool) (hp : p ≤ s.size) : (textRes s p f).2.1 ≤ s.size := by
  unfold textRes
  dsimp only
  split
  · exact hp
  · exact takeRes_le _ _ _ _ (varRes_le s p f hp)
theorem bl_drewN {B w x} (h : Below B w x) (n : Nat) : Below B w (x.drewN n) := ⟨h.os, h.tape, h.output, h.size, h.block⟩
theorem z_left (b : Nat) (f : Bool) (w : World) (h : Rd 48 b ⟨#[]⟩ 0 f w) : Calls Try.prog 33 #[.pointer (some ⟨b, 0, none⟩)] w fun e w' => e = .returned (.int .i64 0) ∧ ∃ n, w' = w.drewN n :=
  left_any b ⟨#[]⟩ 0 f w h (by show 0 ≤ _; omega) (Nat.zero_le _)
theorem z_take0 (b : Nat) (w : World) (h : Rd 48 b ⟨#[]⟩ 0 false w) : Calls Try.prog 31 #[.pointer (some ⟨b, 0, none⟩), .int .i64 0] w fun e w' => e = .returned (.string ⟨#[]⟩) ∧ w.grownBy w' (some b) ∧ Rd 48 b ⟨#[]⟩ 0 false w' :=
  take_yes b ⟨#[]⟩ 0 w 0 h (by show 0 ≤ _; omega) (Nat.le_refl _)
theorem z_take1 (b : Nat) (w : World) (h : Rd 48 b ⟨#[]⟩ 0 false w) : Calls Try.prog 31 #[.pointer (some ⟨b, 0, none⟩), .int .i64 1] w fun e w' => e = .returned (.string ⟨#[]⟩) ∧ w.grownBy w' (some b) ∧ Rd 48 b ⟨#[]⟩ 0 true w' :=
  take_no b ⟨#[]⟩ 0 false w 1 h (by show 0 ≤ _; omega) (Nat.le_refl _) (.inr (.inr (by show (0 : Int) - 0 < 1; omega)))
section
variable {w : World} {b1 b2 b3 : Nat} {s : ByteArray} {p p2 : Nat} {f f2 : Bool} {x : World}
theorem t_take1 (h : Tr w b1 b2 b3 s p f p2 f2 x) (hs : s.size ≤ 1000000000000000000) (n : Int) : Calls Try.prog 31 #[.pointer (some ⟨b1, 0, none⟩), .int .i64 n] x fun e y => e = .returned (.string (takeRes s p f n).1) ∧ Tr w b1 b2 b3 s (takeRes s p f n).2.1 (takeRes s p f n).2.2 p2 f2 y :=
  (take_any b1 s p f x n h.r1 hs h.le1).mono fun e y ⟨h1, h2, h3⟩ => ⟨h1, h.step1 h2 h3 (takeRes_le s p f n h.le1)⟩
theorem t_take2 (h : Tr w b1 b2 b3 s p f p2 f2 x) (hs : s.size ≤ 1000000000000000000) (n : Int) : Calls Try.prog 32 #[.pointer (some ⟨b2, 0, none⟩), .int .i64 n] x fun e y => e = .returned (.string (takeRes s p2 f2 n).1) ∧ Tr w b1 b2 b3 s p f (takeRes s p2 f2 n).2.1 (takeRes s p2 f2 n).2.2 y :=
  (rtake_any b2 s p2 f2 x n h.r2 hs h.le2).mono fun e y ⟨h1, h2, h3⟩ => ⟨h1, h.step2 h2 h3 (takeRes_le s p2 f2 n h.le2)⟩
theorem t_num1 (h : Tr w b1 b2 b3 s p f p2 f2 x) (hs : s.size ≤ 1000000000000000000) (n : Int) : Calls Try.prog 27 #[.pointer (some ⟨b1, 0, none⟩), .int .i64 n] x fun e y => e = .returned (.int .i64 (wrap64 (bev (takeRes s p f (sz n)).1.data.toList))) ∧ Tr w b1 b2 b3 s (takeRes s p f (sz n)).2.1 (takeRes s p f (sz n)).2.2 p2 f2 y :=
  (num_any b1 s p f x n h.r1 hs h.le1).mono fun e y ⟨h1, h2, h3⟩ => ⟨h1, h.step1 h2 h3 (takeRes_le s p f _ h.le1)⟩
theorem t_num2 (h : Tr w b1 b2 b3 s p f p2 f2 x) (hs : s.size ≤ 1000000000000000000) (n : Int) : Calls Try.prog 28 #[.pointer (some ⟨b2, 0, none⟩), .int .i64 n] x fun e y => e = .returned (.int .i64 (wrap64 (bev (takeRes s p2 f2 (sz n)).1.data.toList))) ∧ Tr w b1 b2 b3 s p f (takeRes s p2 f2 (sz n)).2.1 (takeRes s p2 f2 (sz n)).2.2 y :=
  (rnum_any b2 s p2 f2 x n h.r2 hs h.le2).mono fun e y ⟨h1, h2, h3⟩ => ⟨h1, h.step2 h2 h3 (takeRes_le s p2 f2 _ h.le2)⟩
theorem t_var1 (h : Tr w b1 b2 b3 s p f p2 f2 x) (hs : s.size ≤ 1000000000000000000) : Calls Try.prog 23 #[.pointer (some ⟨b1, 0, none⟩)] x fun e y => e = .returned (.int .i64 (varRes s p f).1) ∧ Tr w b1 b2 b3 s (varRes s p f).2.1 (varRes s p f).2.2 p2 f2 y :=
  (rvar_any b1 s p f x h.r1 hs h.le1).mono fun e y ⟨h1, h2, h3⟩ => ⟨h1, h.step1 h2 h3 (varRes_le s p f h.le1)⟩
theorem t_var2 (h : Tr w b1 b2 b3 s p f p2 f2 x) (hs : s.size ≤ 1000000000000000000) : Calls Try.prog 29 #[.pointer (some ⟨b2, 0, none⟩)] x fun e y => e = .returned (.int .i64 (varRes s p2 f2).1) ∧ Tr w b1 b2 b3 s p f (varRes s p2 f2).2.1 (varRes s p2 f2).2.2 y :=
  (refvar_any b2 s p2 f2 x h.r2 hs h.le2).mono fun e y ⟨h1, h2, h3⟩ => ⟨h1, h.step2 h2 h3 (varRes_le s p2 f2 h.le2)⟩
theorem t_text1 (h : Tr w b1 b2 b3 s p f p2 f2 x) (hs : s.size ≤ 1000000000000000000) : Calls Try.prog 26 #[.pointer (some ⟨b1, 0, none⟩)] x fun e y => e = .returned (.string (textRes s p f).1) ∧ Tr w b1 b2 b3 s (textRes s p f).2.1 (textRes s p f).2.2 p2 f2 y :=
  (rtext_any b1 s p f x h.r1 hs h.le1).mono fun e y ⟨h1, h2, h3⟩ => ⟨h1, h.step1 h2 h3 (textRes_le s p f h.le1)⟩
theorem t_text2 (h : Tr w b1 b2 b3 s p f p2 f2 x) (hs : s.size ≤ 1000000000000000000) : Calls Try.prog 30 #[.pointer (some ⟨b2, 0, none⟩)] x fun e y => e = .returned (.string (textRes s p2 f2).1) ∧ Tr w b1 b2 b3 s p f (textRes s p2 f2).2.1 (textRes s p2 f2).2.2 y :=
  (reftext_any b2 s p2 f2 x h.r2 hs h.le2).mono fun e y ⟨h1, h2, h3⟩ => ⟨h1, h.step2 h2 h3 (textRes_le s p2 f2 h.le2)⟩
end
set_option maxRecDepth 100000 in
set_option maxHeartbeats 8000000 in
theorem walk' (s : ByteArray) (o : Option Addr) (n cap : Nat) (K : Nat → UInt8) (N : Nat → Int) (w : World) (ws : s.size ≤ 140737488351232) (hb : n * 16 ≤ 140737488351232) (hcap : n ≤ cap) (hwf : ∀ i, i < n → (Lit.int .i64 (N i)).wf = true)
    (hc : HasP o n K N w) (m : Nat) (g1 : m ≤ n) (g2 : m ≤ 60) (g3 : n ≤ m ∨ 60 ≤ m) :
    Calls Try.prog 10 #[.string s, .slice o n cap] w fun e w' => e = .returned (.bool true) ∧ Below w.heap.size w w' := by
  clear hwf
  have HC := Lib.hid hc
  clear hc
  go_enter Try.func10, Try.ntmps10
  go_wp2_with fail
  refine (sanity_any _).mono ?_
  rintro e x1 ⟨rfl, b1⟩
  go_wp2_with fail
  refine (read_any _ _).mono ?_
  rintro e x2 ⟨rfl, hx2⟩
  have hS : St w x1.heap.size s 0 false x2 := by subst hx2; exact St.read b1 _
  have hlt1 : x1.heap.size < x2.heap.size := lt_of_heap hS.rd
  clear hx2 b1
  go_wp2_with fail
  have hT : Tr w x1.heap.size x2.heap.size (x2.heap.size + 1) s 0 false 0 false ((x2.alloc (.cells #[.string s, .int .i64 0, .bool false] 46)).alloc (.cells #[.string ⟨#[]⟩, .int .i64 0, .bool false] 48)) :=
    ⟨((hS.alloc _).alloc _).rd, heap_alloc2_old _ _ _, heap_alloc2_new _ _ _, ⟨hS.2.1, hlt1, by omega⟩, ((hS.alloc _).alloc _).bl, Nat.zero_le _, Nat.zero_le _⟩
  generalize x2.heap.size + 1 = b3 at *
  generalize x2.heap.size = b2 at *
  generalize x1.heap.size = b1 at *
  go_loopw [10] (fun i wr => ∃ (k p : Nat) (f : Bool), k ≤ m ∧ i = .int .i64 k ∧ Tr w b1 b2 b3 s p f p f wr) (fun i _ => m - (intOf i).toNat)
  case atStart => exact ⟨0, 0, false, Nat.zero_le _, rfl, hT⟩
  case round =>
    clear hT hS
    obtain ⟨k, p, f, hk, rfl, hT⟩ := hrel
    by_cases hlt : k < m
    · obtain ⟨a, rfl, hal, hc1, hc2⟩ := HC.out.keep hT.bl k (by omega)
      rw [← add_one] at hc2
      have t1 : (k : Int) < (n : Int) := by omega
      have t2 : (k : Int) < 60 := by omega
      have hKb := (K k).toNat_lt
      go_upto_if 42 with fail
      go_cut [11] (fun s11 wx => Tr w b1 b2 b3 s p f p f wx ∧ wx.cell? (a.add (k * 2)) = some (.int .u8 ((K k).toNat : Int)) ∧ ∃ v, s11 = .int .i64 v)
      case first =>
        have HT := Lib.hid hT
        clear hT
        by_cases hK : (128 : Int) ≤ ((K k).toNat : Int)
        · go_wp2
          go_meet
          exact ⟨HT.out, hc1, _, rfl⟩
        · go_wp2
          go_meet
          exact ⟨HT.out, hc1, _, rfl⟩
      case rest =>
      clear hT hc1 hc2
      obtain ⟨hT, hc1, v, rfl⟩ := hcut
      go_upto_block 2 with fail
      clear hc1
      go_cut [12, 50] (fun s12 _ wx => s12 = .bool true ∧ ∃ q g, Tr w b1 b2 b3 s q g q g wx)
      case first =>
        have hss : s.size ≤ 1000000000000000000 := by omega
        obtain h4 | h4 | h4 | h4 : ((K k).toNat : Int) % 4 = 0 ∨ ((K k).toNat : Int) % 4 = 1 ∨ ((K k).toNat : Int) % 4 = 2 ∨ ((K k).toNat : Int) % 4 = 3 := by omega
        · go_wp2_with first
            | (go_at_call 27; (with_reducible refine Calls.mono (num_nil _ _) ?_); rintro e y ⟨rfl, hb⟩; replace hT := hT.keep hb)
            | (go_at_call 27; (with_reducible refine Calls.mono (t_num1 hT hss _) ?_); rintro e y ⟨rfl, hT⟩)
            | (go_at_call 28; (with_reducible refine Calls.mono (t_num2 hT hss _) ?_); rintro e y ⟨rfl, hT⟩)
          go_wp2
          go_meet
          exact ⟨rfl, _, _, hT⟩
        · go_wp2_with first
            | (go_at_call 23; (with_reducible refine Calls.mono (rvar_nil _) ?_); rintro e y ⟨rfl, hb⟩; subst hb)
            | (go_at_call 23; (with_reducible refine Calls.mono (t_var1 hT hss) ?_); rintro e y ⟨rfl, hT⟩)
            | (go_at_call 29; (with_reducible refine Calls.mono (t_var2 hT hss) ?_); rintro e y ⟨rfl, hT⟩)
          go_wp2
          go_meet
          exact ⟨rfl, _, _, hT⟩
        · go_wp2_with first
            | (go_at_call 26; (with_reducible refine Calls.mono (rtext_nil _) ?_); rintro e y ⟨rfl, hb⟩; subst hb)
            | (go_at_call 26; (with_reducible refine Calls.mono (t_text1 hT hss) ?_); rintro e y ⟨rfl, hT⟩)
            | (go_at_call 30; (with_reducible refine Calls.mono (t_text2 hT hss) ?_); rintro e y ⟨rfl, hT⟩)
          go_wp2
          go_meet
          exact ⟨rfl, _, _, hT⟩
        · go_wp2_with first
            | (go_at_call 31; (with_reducible refine Calls.mono (take_nil _ _) ?_); rintro e y ⟨rfl, hb⟩; subst hb)
            | (go_at_call 31; (with_reducible refine Calls.mono (t_take1 hT hss _) ?_); rintro e y ⟨rfl, hT⟩)
            | (go_at_call 32; (with_reducible refine Calls.mono (t_take2 hT hss _) ?_); rintro e y ⟨rfl, hT⟩)
          go_wp2
          go_meet
          exact ⟨rfl, _, _, hT⟩
      case rest =>
      clear hT
      obtain ⟨rfl, q, g, hT⟩ := hcut
      go_upto_region 21 with fail
      have hq := hT.le1
      have hq1 : (0 : Int) ≤ (s.size : Int) - q := by omega
      have hq2 : (s.size : Int) - q ≤ 140737488351232 := by omega
      have hw : IntKind.i64.wrap ((s.size : Int) - q) = (s.size : Int) - q := by rw [IntKind.wrap_i64]; omega
      refine q_region (C := fun x => Tr w b1 b2 b3 s q g q g x) (by kernel_rfl) (by kernel_rfl) (hT.drewN 1) ?_
      repeat (first
        | go_big_quiet_skip
        | (go_big_quiet_want; refine q_val ?_; apply Exists.intro; refine ⟨fun x hx => ?_, ?_⟩; (focus (have c21 := hx.r2.c1; have c22 := hx.r2.c2; go_simp <;> rfl)); simp only [Act.put, List.setIfInBounds_toArray, List.set_cons_zero, List.set_cons_succ]; go_big_quiet_on)
        | (go_big_quiet_want; refine q_call 24 ?_; apply Exists.intro; refine ⟨fun x hx => ?_, ?_⟩; (focus (go_simp <;> rfl)); apply Exists.intro; refine ⟨fun x hx => ?_, ?_⟩; (focus (exact (failed_any _ _ _ _ _ hx.r1).mono fun e y ⟨he, hy⟩ => ⟨he, hy ▸ hx⟩)); simp only [Act.put, List.setIfInBounds_toArray, List.set_cons_zero, List.set_cons_succ]; go_big_quiet_on)
        | (go_big_quiet_want; refine q_call 25 ?_; apply Exists.intro; refine ⟨fun x hx => ?_, ?_⟩; (focus (go_simp <;> rfl)); apply Exists.intro; refine ⟨fun x hx => ?_, ?_⟩; (focus (exact (at_any _ _ _ _ _ hx.r1).mono fun e y ⟨he, hy⟩ => ⟨he, hy ▸ hx⟩)); simp only [Act.put, List.setIfInBounds_toArray, List.set_cons_zero, List.set_cons_succ]; go_big_quiet_on)
        | (go_big_quiet_want; refine q_call 33 ?_; apply Exists.intro; refine ⟨fun x hx => ?_, ?_⟩; (focus (go_simp <;> rfl)); apply Exists.intro; refine ⟨fun x hx => ?_, ?_⟩; (focus (exact (left_any _ _ _ _ _ hx.r1 (by omega) hx.le1).mono fun e y ⟨he, n, hy⟩ => ⟨he, hy ▸ hx.drewN n⟩)); simp only [Act.put, List.setIfInBounds_toArray, List.set_cons_zero, List.set_cons_succ]; go_big_quiet_on))
      refine wpQuiet_nil ?_
      intro x hx
      clear hT
      go_wp2
      go_roundw
      case rel => exact ⟨k + 1, q, g, by omega, by go_num, hx⟩
      case measure => simp [intOf]; omega
    · obtain rfl : k = m := by omega
      clear hlt hk
      have hR := hT.r3
      have hB := hT.bl
      have hb3 : w.heap.size ≤ b3 := by have := hT.ne; omega
      clear hT
      have hgb : ∀ {x y : World}, Below w.heap.size w x → x.grownBy y (some b3) → Below w.heap.size w y := fun h hg => h.grown hg h.size (fun j hj => by simp at hj; omega)
      by_cases hnm : (k : Int) < (n : Int)
      · have h60 : ¬ (k : Int) < 60 := by omega
        go_wp2_with first
          | (go_at_call 33; (with_reducible refine Calls.mono (left_nil _) ?_); rintro e y ⟨rfl, hb⟩; subst hb)
          | (go_at_call 33; (with_reducible refine Calls.mono (z_left _ _ _ hR) ?_); rintro e y ⟨rfl, nn, rfl⟩; replace hR := hR.drewN nn; replace hB := bl_drewN hB nn)
          | (go_at_call 25; (with_reducible refine Calls.mono (at_nil _) ?_); rintro e y ⟨rfl, hb⟩; subst hb)
          | (go_at_call 25; (with_reducible refine Calls.mono (at_any _ _ _ _ _ hR) ?_); rintro e y ⟨rfl, hb⟩; subst hb)
          | (go_at_call 24; (with_reducible refine Calls.mono (failed_nil _) ?_); rintro e y ⟨rfl, hb⟩; subst hb)
          | (go_at_call 24; (with_reducible refine Calls.mono (failed_any _ _ _ _ _ hR) ?_); rintro e y ⟨rfl, hb⟩; subst hb)
          | (go_at_call 31; (with_reducible refine Calls.mono (z_take0 _ _ hR) ?_); rintro e y ⟨rfl, hg, hR⟩; replace hB := hgb hB hg)
          | (go_at_call 31; (with_reducible refine Calls.mono (z_take1 _ _ hR) ?_); rintro e y ⟨rfl, hg, hR⟩; replace hB := hgb hB hg)
        go_ret
        exact ⟨rfl, hB⟩
      · go_wp2_with first
          | (go_at_call 33; (with_reducible refine Calls.mono (left_nil _) ?_); rintro e y ⟨rfl, hb⟩; subst hb)
          | (go_at_call 33; (with_reducible refine Calls.mono (z_left _ _ _ hR) ?_); rintro e y ⟨rfl, nn, rfl⟩; replace hR := hR.drewN nn; replace hB := bl_drewN hB nn)
          | (go_at_call 25; (with_reducible refine Calls.mono (at_nil _) ?_); rintro e y ⟨rfl, hb⟩; subst hb)
          | (go_at_call 25; (with_reducible refine Calls.mono (at_any _ _ _ _ _ hR) ?_); rintro e y ⟨rfl, hb⟩; subst hb)
          | (go_at_call 24; (with_reducible refine Calls.mono (failed_nil _) ?_); rintro e y ⟨rfl, hb⟩; subst hb)
          | (go_at_call 24; (with_reducible refine Calls.mono (failed_any _ _ _ _ _ hR) ?_); rintro e y ⟨rfl, hb⟩; subst hb)
          | (go_at_call 31; (with_reducible refine Calls.mono (z_take0 _ _ hR) ?_); rintro e y ⟨rfl, hg, hR⟩; replace hB := hgb hB hg)
          | (go_at_call 31; (with_reducible refine Calls.mono (z_take1 _ _ hR) ?_); rintro e y ⟨rfl, hg, hR⟩; replace hB := hgb hB hg)
        go_ret
        exact ⟨rfl, hB⟩
theorem walk (s : ByteArray) (o : Option Addr) (n cap : Nat) (K : Nat → UInt8) (N : Nat → Int) (w : World) (ws : s.size ≤ 140737488351232) (hb : n * 16 ≤ 140737488351232) (hcap : n ≤ cap) (hwf : ∀ i, i < n → (Lit.int .i64 (N i)).wf = true)
    (hc : HasP o n K N w) :
    Calls Try.prog 10 #[.string s, .slice o n cap] w fun e w' => e = .returned (.bool true) ∧ Below w.heap.size w w' := by
  by_cases h : n ≤ 60
  · exact walk' s o n cap K N w ws hb hcap hwf hc n (Nat.le_refl _) h (.inl (Nat.le_refl _))
  · exact walk' s o n cap K N w ws hb hcap hwf hc 60 (by omega) (Nat.le_refl _) (.inr (Nat.le_refl _))
end octetDecodes
end Go.Proofs.Ytcanmfkocbnbfaa
