/- Walk of the reader's Bit. -/
import Derived.Test.YtdepfgeomceiiaaL
set_option linter.unusedVariables false
namespace Go.Proofs.Ytdepfgeomceiiaa
open Go.RowKit
theorem drewN_add (x : World) (n k : Nat) : (x.drewN n).drewN k = x.drewN (n + k) := by
  simp [World.drewN, Nat.add_assoc]
structure RQ (g : Nat) (f : ByteArray) (n : Nat) (w1 : World) (l : List UInt8) (X : Nat → Value) (x : World) : Prop where
  cells : ∀ i, 258 ≤ i → i < 261 → X i = RX f (n + l.length) i
  chg : Chg g none w1 x
theorem cc_congr {p lo en X Y} (h : ∀ i, 258 ≤ i → i < 261 → X i = Y i) (i : Nat) (hi : i < 261) : cc p lo en X i = cc p lo en Y i := by
  by_cases h1 : i < 256
  · rw [cc_p i h1, cc_p i h1]
  · by_cases h2 : i = 256
    · subst h2; rw [cc_lo, cc_lo]
    · by_cases h3 : i = 257
      · subst h3; rw [cc_en, cc_en]
      · rw [cc_x i (by omega), cc_x i (by omega)]; exact h i (by omega) hi
theorem rq_cb (g : Nat) (f : ByteArray) (n : Nat) (w1 : World) (hn : n ≤ 1000000000) (hf : f.size ≤ 1000000000000000) : CbR g 1000000 (RQ g f n w1) where
  set := fun l X Y w i v hi hb h => ⟨h.cells, h.chg.set i v⟩
  drewN := fun l X w k h => ⟨h.cells, ⟨h.chg.os, h.chg.tape, h.chg.output, h.chg.size, h.chg.block⟩⟩
  call := fun l X w p lo en b hb h hl => by
    refine (rnext g f (n + l.length) p lo en (b.toNat : Int) w (hb.congr (cc_congr h.cells)) (by omega) hf).mono ?_
    rintro e w' ⟨rfl, h1, h2⟩
    exact ⟨rfl, _, h1, fun i _ _ => by rw [List.length_append]; rfl, h.chg.trans (.inl rfl) h2⟩
set_option maxRecDepth 100000 in
set_option maxHeartbeats 1000000 in
theorem bit_r (g : Nat) (f : ByteArray) (n : Nat) (s : M.St) (hs : M.Ok s) (c : Int) (w : World) (hB : Blk w g 70 261 (cc s.p s.lo (4294967295 - s.hi) (RX f n))) (hn : n ≤ 100000000) (hf : f.size ≤ 1000000000000000) :
    Calls Try.prog 28 #[.pointer (some ⟨g, 0, none⟩), .int .i64 c] w fun e w' => e = .returned (.int .i64 (M.rb s (cx c) (M.val f.data.toList (n - 4)))) ∧
      Blk w' g 70 261 (cc (M.nxt s (cx c) (M.rb s (cx c) (M.val f.data.toList (n - 4)))).p (M.nxt s (cx c) (M.rb s (cx c) (M.val f.data.toList (n - 4)))).lo (4294967295 - (M.nxt s (cx c) (M.rb s (cx c) (M.val f.data.toList (n - 4)))).hi) (RX f (n + (4 - n) + (M.outB s (cx c) (M.rb s (cx c) (M.val f.data.toList (n - 4)))).length))) ∧ Chg g none w w' := by
  have HF := Lib.hid (fill_any g f n s.p s.lo (4294967295 - s.hi) w hB (by omega) hf)
  have hk := cx_lt c
  clear hB
  obtain ⟨N, hN⟩ : ∃ N, N = n + (4 - n) := ⟨_, rfl⟩
  have hN4 : N = (n - 4) + 4 := by omega
  have hv : vv f.data.toList N = M.val f.data.toList (n - 4) := by rw [hN4]; exact vv_val _ _
  rw [← hN] at HF ⊢
  have hNb : N ≤ 1000000000 := by omega
  clear hN hN4 hn
  generalize M.val f.data.toList (n - 4) = V at *
  obtain ⟨b, hb⟩ : ∃ b, b = M.rb s (cx c) V := ⟨_, rfl⟩
  have hb2 : b % 2 = b := by rw [hb]; unfold M.rb; split <;> rfl
  go_enter Try.func28, Try.ntmps28
  go_wp2_with fail
  refine HF.out.mono ?_
  rintro e x ⟨rfl, h1, h2⟩
  clear HF
  have c10 : x.cell? ⟨g, 260, none⟩ = some (.int .u32 V) := by rw [h1.cell 260 (by omega), ← hv]; rfl
  have hp := h1.cell (cx c) (by omega)
  rw [cc_p _ hk] at hp
  have hl : x.cell? ⟨g, 256, none⟩ = some (.int .u32 s.lo) := by rw [h1.cell 256 (by omega), cc_lo]
  have he : x.cell? ⟨g, 257, none⟩ = some (.int .u32 (4294967295 - s.hi)) := by rw [h1.cell 257 (by omega), cc_en]
  have HM := Lib.hid (fun n => mid_any g s hs c (x.drewN n) hp hl he)
  have H1 := Lib.hid h1
  have H2 := Lib.hid h2
  have HN := Lib.hid (fun k b => narrow_r (Lib.hid (rq_cb g f N x (by omega) hf)) s hs c b (RX f N) [] (x.drewN k) h1 ⟨fun i _ _ => rfl, ⟨rfl, rfl, rfl, Nat.le_refl _, fun _ _ _ _ => rfl⟩⟩ (by decide))
  replace hb := Lib.hid hb
  replace hb2 := Lib.hid hb2
  clear h1 h2 hp hl he hv
  go_upto_region 5 with fail
  refine q_region (C := fun y => ∃ n, y = x.drewN n) (by kernel_rfl) (by kernel_rfl) ⟨1, rfl⟩ ?_
  repeat (first
    | go_big_quiet_skip
    | (go_big_quiet_want; refine q_val ?_; apply Exists.intro; refine ⟨fun x hx => ?_, ?_⟩; (focus (obtain ⟨n, rfl⟩ := hx; go_simp <;> rfl)); simp only [Act.put, List.setIfInBounds_toArray, List.set_cons_zero, List.set_cons_succ]; go_big_quiet_on)
    | (go_big_quiet_want; refine q_call 41 ?_; apply Exists.intro; refine ⟨fun x hx => ?_, ?_⟩; (focus (go_simp <;> rfl)); apply Exists.intro; refine ⟨fun x hx => ?_, ?_⟩; (focus (obtain ⟨n, rfl⟩ := hx; exact (HM.out n).mono fun e w' h => ⟨h.1, by obtain ⟨k, e⟩ := h.2; exact ⟨n + k, by rw [e]; exact drewN_add x n k⟩⟩)); simp only [Act.put, List.setIfInBounds_toArray, List.set_cons_zero, List.set_cons_succ]; go_big_quiet_on))
  refine wpQuiet_nil ?_
  rintro y ⟨k, rfl⟩
  go_upto_if 19 with fail
  go_cut [5] (fun s5 wx => s5 = .int .i64 b ∧ wx = x.drewN k)
  case first =>
    by_cases hV : V ≤ M.md s (cx c)
    · go_wp2
      go_meet
      exact ⟨by rw [hb.out]; unfold M.rb; rw [if_pos hV], rfl⟩
    · go_wp2
      go_meet
      exact ⟨by rw [hb.out]; unfold M.rb; rw [if_neg (by omega)], rfl⟩
  case rest =>
  obtain ⟨rfl, rfl⟩ := hcut
  have HN2 := Lib.hid (HN.out k b)
  rw [hb2.out] at HN2
  clear HN HM
  go_wp2_with fail
  refine HN2.out.mono ?_
  rintro e z ⟨rfl, X', h3, h4⟩
  go_wp2
  go_ret
  refine ⟨by have e := hb.out; subst e; rfl, ?_, ?_⟩
  · rw [← hb.out]
    exact h3.congr (cc_congr fun i h1 h2 => by have := h4.cells i h1 h2; simpa using this)
  · exact H2.out.trans (.inl rfl) h4.chg
end Go.Proofs.Ytdepfgeomceiiaa
