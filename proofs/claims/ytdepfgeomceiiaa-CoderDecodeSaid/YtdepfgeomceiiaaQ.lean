/- Walk of the reference's narrow. -/
import Derived.Test.YtdepfgeomceiiaaP
import Derived.Deep.DeepCutAuto
import Derived.Deep.CutBlock
import Derived.Deep.LoopGhost
set_option linter.unusedVariables false
namespace Go.Proofs.Ytdepfgeomceiiaa
open Go.RowKit
theorem own_set' {x : World} {B g : Nat} {T N : Nat} {Y : Nat → Value} {v : Value} {n : Nat} {xs : List Value} (h : x.ownsRow B 5 1 v n xs) (hT : T ≠ 5) (hb : Blk x g T N Y) (i : Nat) (u : Value) : (x.setCell ⟨g, i, none⟩ u).ownsRow B 5 1 v n xs :=
  h.kept (row := some g) ⟨rfl, rfl, rfl, by simp [World.setCell], fun j hj hr => heap_setCell_other _ _ _ _ (by intro e'; exact hr (by rw [e']))⟩ (.inr (row_ne h hb hT).symm)
set_option maxRecDepth 100000 in
set_option maxHeartbeats 2000000 in
theorem rnarrow (T N : Nat) (hT : T ≠ 5) (hN : 258 ≤ N) (g : Nat) (s : M.St) (hs : M.Ok s) (c bit : Int) (X : Nat → Value) (w : World) (hB : Blk w g T N (cr s.p s.lo s.hi X)) :
    Calls Try.prog 38 #[.pointer (some ⟨g, 0, none⟩), .int .i64 c, .int .i64 bit] w fun e w' => ∃ v, e = .returned v ∧
      Blk w' g T N (cr (M.nxt s (cx c) (bit % 2)).p (M.nxt s (cx c) (bit % 2)).lo (M.nxt s (cx c) (bit % 2)).hi X) ∧ w'.ownsRow w.heap.size 5 1 v (M.outB s (cx c) (bit % 2)).length (bvals (M.outB s (cx c) (bit % 2))) ∧ Chg g none w w' ∧ v ≠ .slice none 0 0 := by
  have hk := cx_lt c
  have hgw := hB.lt
  have c0 := hB.cell (cx c) (by omega)
  rw [cr_p _ hk] at c0
  have HM := Lib.hid (rmid_any g s hs c w c0 (by rw [hB.cell 256 (by omega), cr_lo]) (by rw [hB.cell 257 (by omega), cr_en]))
  obtain ⟨p1, p2⟩ := hs.p (cx c)
  have HI := Lib.hid (M.iv1 hs (cx c) (bit % 2))
  have HX := Lib.hid (show M.nxt s (cx c) (bit % 2) = ⟨M.put s.p (cx c) (M.np (s.p (cx c)) (bit % 2)), (M.shs 4 (M.lo1 s (cx c) (bit % 2)) (M.hi1 s (cx c) (bit % 2))).2.1, (M.shs 4 (M.lo1 s (cx c) (bit % 2)) (M.hi1 s (cx c) (bit % 2))).2.2⟩ from rfl)
  have HO := Lib.hid (show M.outB s (cx c) (bit % 2) = (M.shs 4 (M.lo1 s (cx c) (bit % 2)) (M.hi1 s (cx c) (bit % 2))).1 from rfl)
  have hmd := M.md_in hs (cx c)
  have hl0 := hs.lo
  have hh1 := hs.hi
  have ha := and_255 c
  rw [← cx_val] at ha
  have hb := and_1 bit
  go_enter Try.func38, Try.ntmps38
  go_wp2_with fail
  refine HM.out.mono ?_
  rintro e x ⟨rfl, nn, rfl⟩
  have HB := Lib.hid (show Blk (w.drewN nn) g T N (cr s.p s.lo s.hi X) from hB)
  have HC := Lib.hid (show Chg g none w (w.drewN nn) from ⟨rfl, rfl, rfl, Nat.le_refl _, fun _ _ _ _ => rfl⟩)
  clear HM hB hs
  replace c0 : (w.drewN nn).cell? ⟨g, cx c, none⟩ = some (.int .i64 (s.p (cx c))) := c0
  generalize w.drewN nn = W at *
  go_upto_if 22 with fail
  have m0 : 0 ≤ M.md s (cx c) := by omega
  have m1 : IntKind.u32.wrap (M.md s (cx c) + 1) = M.md s (cx c) + 1 := w32 _ (by omega) (by omega)
  have c6 : W.cell? ⟨g, 256, none⟩ = some (.int .u32 s.lo) := by rw [HB.out.cell 256 (by omega), cr_lo]
  have c7 : W.cell? ⟨g, 257, none⟩ = some (.int .u32 s.hi) := by rw [HB.out.cell 257 (by omega), cr_en]
  have f6 := HB.out.free 256
  have f7 := HB.out.free 257
  go_cut [8] (fun s10 wx => s10 = .int .i64 (M.np (s.p (cx c)) (bit % 2)) ∧ Blk wx g T N (cr s.p (M.lo1 s (cx c) (bit % 2)) (M.hi1 s (cx c) (bit % 2)) X) ∧ Chg g none w wx)
  case first =>
    by_cases hbit : bit % 2 = 1
    · rw [hbit]
      go_wp2
      go_meet
      refine ⟨?_, ?_, HC.out.set _ _⟩
      · unfold M.np; rw [if_pos hbit]
      · have := HB.out.set 257 (.int .u32 (M.md s (cx c)))
        rw [cr_put_en] at this
        rw [show M.lo1 s (cx c) (bit % 2) = s.lo from if_pos hbit, show M.hi1 s (cx c) (bit % 2) = M.md s (cx c) from if_pos hbit]
        exact this
    · obtain hbit : bit % 2 = 0 := by omega
      rw [hbit]
      go_wp2
      go_meet
      refine ⟨?_, ?_, HC.out.set _ _⟩
      · unfold M.np; rw [if_neg (by omega)]
      · have := HB.out.set 256 (.int .u32 (M.md s (cx c) + 1))
        rw [cr_put_lo] at this
        rw [show M.lo1 s (cx c) (bit % 2) = M.md s (cx c) + 1 from if_neg (by omega), show M.hi1 s (cx c) (bit % 2) = s.hi from if_neg (by omega)]
        exact this
  case rest =>
  clear HB HC m0 m1 c6 c7 f6 f7 c0 hmd hl0 hh1 hb
  obtain ⟨rfl, hB, hC⟩ := hcut
  obtain ⟨W1, hW1⟩ : ∃ W1 : World, W1 = wc := ⟨_, rfl⟩
  subst hW1
  have n0 := M.np_bd ⟨p1, p2⟩ (bit % 2)
  have c0 := hB.cell (cx c) (by omega)
  rw [cr_p _ hk] at c0
  have f0 := hB.free (cx c)
  have HB := Lib.hid (cr_put_p (cx c) hk _ ▸ hB.set (cx c) (.int .i64 (M.np (s.p (cx c)) (bit % 2))))
  have HC := Lib.hid (hC.set (cx c) (.int .i64 (M.np (s.p (cx c)) (bit % 2))))
  clear hB hC
  generalize M.np (s.p (cx c)) (bit % 2) = np at *
  generalize M.lo1 s (cx c) (bit % 2) = lo0 at *
  generalize M.hi1 s (cx c) (bit % 2) = hi0 at *
  clear p1 p2
  go_upto_block 1 with fail
  have hsz : w.heap.size ≤ W1.heap.size := by have := HC.out.size; simpa [World.setCell] using this
  go_loopg [9] 4 (fun k s9 wr => ∃ (l' : List UInt8) (lo hi : Int), Hid (M.Iv k lo hi ∧ l' ++ (M.shs k lo hi).1 = (M.shs 4 lo0 hi0).1 ∧ (M.shs k lo hi).2 = (M.shs 4 lo0 hi0).2 ∧ l'.length + k ≤ 4 ∧ Blk wr g T N (cr (M.put s.p (cx c) np) lo hi X) ∧ wr.ownsRow w.heap.size 5 1 s9 l'.length (bvals l') ∧ Chg g none w wr) ∧ s9 ≠ .slice none 0 0)
  case atStart =>
    refine ⟨[], lo0, hi0, Lib.hid ⟨HI.out, rfl, rfl, Nat.le_refl _, HB.out.grow (Grow.alloc _ _), ?_, HC.out.trans (.inl rfl) (Chg.of_grow (Grow.alloc _ _))⟩, fun e => by cases e⟩
    exact ⟨rfl, Or.inr ⟨W1.heap.size, 0, #[], rfl, hsz, by have := heap_alloc_new (W1.setCell ⟨g, cx c, none⟩ (.int .i64 np)) (.cells #[] 5); simpa [World.setCell] using this, Nat.le_refl _, by unfold maxLen; omega, rfl, rfl⟩⟩
  case round =>
    obtain ⟨l', lo, hi, HR, hn9⟩ := hrel
    replace hn9 := Lib.hid hn9
    clear HB HC HI
    obtain ⟨i1, i2, i3, i4, i5, i6, i7⟩ := id HR.out
    have j0 := i1.lo
    have j1 := i1.le
    have j2 := i1.hi
    have c6 : wr.cell? ⟨g, 256, none⟩ = some (.int .u32 lo) := by rw [i5.cell 256 (by omega), cr_lo]
    have c7 : wr.cell? ⟨g, 257, none⟩ = some (.int .u32 hi) := by rw [i5.cell 257 (by omega), cr_en]
    have f6 := i5.free 256
    have f7 := i5.free 257
    clear i1 i2 i3 i4 i5 i6 i7
    go_upto_region 10 with fail
    refine q_region (C := fun x => ∃ n, x = wr.drewN n) (by kernel_rfl) (by kernel_rfl) ⟨1, rfl⟩ ?_
    repeat (first
      | go_big_quiet_skip
      | (go_big_quiet_want; refine q_val ?_; apply Exists.intro; refine ⟨fun x hx => ?_, ?_⟩; (focus (obtain ⟨n, rfl⟩ := hx; go_simp <;> rfl)); simp only [Act.put, List.setIfInBounds_toArray, List.set_cons_zero, List.set_cons_succ]; go_big_quiet_on))
    refine wpQuiet_nil ?_
    rintro x ⟨n, rfl⟩
    go_upto_if 59 with fail
    have HR2 := Lib.hid (show M.Iv gk lo hi ∧ l' ++ (M.shs gk lo hi).1 = (M.shs 4 lo0 hi0).1 ∧ (M.shs gk lo hi).2 = (M.shs 4 lo0 hi0).2 ∧ l'.length + gk ≤ 4 ∧ Blk (wr.drewN n) g T N (cr (M.put s.p (cx c) np) lo hi X) ∧ (wr.drewN n).ownsRow w.heap.size 5 1 u9 l'.length (bvals l') ∧ Chg g none w (wr.drewN n) from
      ⟨HR.out.1, HR.out.2.1, HR.out.2.2.1, HR.out.2.2.2.1, HR.out.2.2.2.2.1, HR.out.2.2.2.2.2.1, ⟨HR.out.2.2.2.2.2.2.os, HR.out.2.2.2.2.2.2.tape, HR.out.2.2.2.2.2.2.output, HR.out.2.2.2.2.2.2.size, HR.out.2.2.2.2.2.2.block⟩⟩)
    replace c6 : (wr.drewN n).cell? ⟨g, 256, none⟩ = some (.int .u32 lo) := c6
    clear HR c7 f6 f7
    generalize wr.drewN n = W2 at *
    cases e : (lo / 16777216 == hi / 16777216) with
    | true =>
      have e' : lo / 16777216 = hi / 16777216 := by simpa using e
      obtain ⟨i1, i2, i3, i4, i5, i6, i7⟩ := HR2.out
      clear HR2
      cases gk with
      | zero => exact absurd e' i1.stop
      | succ k =>
        rw [M.shs_eq k lo hi e'] at i2 i3
        have in' := i1.next e'
        have hby := (M.byt_val j0 (by omega)).symm
        have HP := Lib.hid (And.intro i2 (And.intro i3 (And.intro i4 in')))
        have H5 := Lib.hid i5
        have H7 := Lib.hid i7
        have hw2 := i7.size
        have hl4 : l'.length ≤ 4 := by omega
        clear i1 i2 i3 i4 i5 i7 in' e'
        replace hby := Lib.hid hby
        go_wp2_with (at_builtin; refine wp_push _ rfl _ _ 33 5 rfl Try.underlying33 (.int .u8 0) 1 infoU8 rfl w.heap.size _ _ _ rfl i6 _ _ rfl rfl (by omega) (by omega) hw2 ?_)
        intro v3 W3 hown hnil hb3 hz3
        have hB3 : Blk W3 g T N (cr (M.put s.p (cx c) np) lo hi X) := by
          have := hb3.block g hgw
          have h5 := H5.out
          unfold Blk at h5 ⊢; rw [this]; exact h5
        have hC3 : Chg g none w W3 := ⟨hb3.os.trans H7.out.os, hb3.tape.trans H7.out.tape, hb3.output.trans H7.out.output, Nat.le_trans H7.out.size hb3.size, fun j hj hg hr => (hb3.block j hj).trans (H7.out.block j hj hg hr)⟩
        have d6 : W3.cell? ⟨g, 256, none⟩ = some (.int .u32 lo) := by rw [hB3.cell 256 (by omega), cr_lo]
        have d7 : W3.cell? ⟨g, 257, none⟩ = some (.int .u32 hi) := by rw [hB3.cell 257 (by omega), cr_en]
        have f6 := hB3.free 256
        have f7 := hB3.free 257
        have HB3 := Lib.hid hB3
        have HC3 := Lib.hid hC3
        have HN3 := Lib.hid hown
        clear hB3 hC3 hown H5 H7 i6 hb3 c6
        go_wp2
        go_roundg k
        case measure => omega
        case rel =>
          obtain ⟨i2, i3, i4, in'⟩ := HP.out
          have hsp : (hi * 256 + 255) % 4294967296 = hi * 256 % 4294967296 + 255 := by omega
          rw [hsp] at in' i3
          have hB4 := HB3.out.set 256 (.int .u32 (lo * 256 % 4294967296))
          rw [cr_put_lo] at hB4
          have hB5 := hB4.set 257 (.int .u32 (hi * 256 % 4294967296 + 255))
          rw [cr_put_en] at hB5
          have hO5 := own_set' (own_set' HN3.out hT HB3.out 256 (.int .u32 (lo * 256 % 4294967296))) hT hB4 257 (.int .u32 (hi * 256 % 4294967296 + 255))
          rw [hsp] at i2
          refine ⟨l' ++ [M.byt lo], _, _, Lib.hid ⟨in', by rw [← i2, List.append_assoc]; rfl, i3, by rw [List.length_append, List.length_singleton]; omega, hB5, ?_, ((HC3.out.set _ _).set _ _)⟩, hnil⟩
          rw [bvals_append, List.length_append]
          rw [show bvals [M.byt lo] = [.int .u8 (lo / 16777216)] by rw [hby.out]; rfl]
          exact hO5
    | false =>
      obtain ⟨i1, i2, i3, i4, i5, i6, i7⟩ := HR2.out
      clear HR2
      have e' : lo / 16777216 ≠ hi / 16777216 := by simpa using e
      rw [M.shs_ne _ lo hi e'] at i2 i3
      go_wp2
      go_ret
      refine ⟨_, rfl, ?_, ?_, i7, hn9.out⟩
      · rw [HX.out]
        show Blk _ _ _ _ (cr _ (M.shs 4 _ _).2.1 (M.shs 4 _ _).2.2 _)
        rw [← i3]; exact i5
      · rw [HO.out, ← i2]; simpa using i6
end Go.Proofs.Ytdepfgeomceiiaa
