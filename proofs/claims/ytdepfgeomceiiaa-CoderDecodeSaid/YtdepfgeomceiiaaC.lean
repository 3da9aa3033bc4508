/- Walk of narrow, the writer's: the callback by a contract of its own. -/
import Derived.Test.YtdepfgeomceiiaaB
import Derived.Deep.DeepCutAuto
import Derived.Deep.CutBlock
import Derived.Deep.LoopGhost
set_option linter.unusedVariables false
namespace Go.Proofs.Ytdepfgeomceiiaa
open Go.RowKit
/-- What the callback of narrow does, beside the block's coder cells. -/
structure CbW (g bx L : Nat) (Q : List UInt8 → (Nat → Value) → World → Prop) : Prop where
  set : ∀ l X Y w i v, i < 258 → Blk w g 68 259 Y → Q l X w → Q l X (w.setCell ⟨g, i, none⟩ v)
  drewN : ∀ l X w n, Q l X w → Q l X (w.drewN n)
  call : ∀ l X w p lo en b, Blk w g 68 259 (cc p lo en X) → Q l X w → l.length ≤ L → Calls Try.prog 37 #[.int .u8 (b.toNat : Int), .pointer (some ⟨bx, 0, none⟩)] w fun e w' => e = .returned (.tuple #[]) ∧ ∃ X', Blk w' g 68 259 (cc p lo en X') ∧ Q (l ++ [b]) X' w'
theorem w16 (n : Int) (h0 : -32768 ≤ n) (h1 : n ≤ 32767) : IntKind.i16.wrap n = n := by
  show (if (true && decide (n % 65536 ≥ 32768)) = true then n % 65536 - 65536 else n % 65536) = n
  by_cases h : n % 65536 ≥ 32768
  · rw [if_pos (by simp [h])]; omega
  · rw [if_neg (by simp [h])]; omega
set_option maxRecDepth 100000 in
set_option maxHeartbeats 2000000 in
theorem narrow_w {g bx L : Nat} {Q : List UInt8 → (Nat → Value) → World → Prop} (HC : Hid (CbW g bx L Q)) (s : M.St) (hs : M.Ok s) (c bit : Int) (X : Nat → Value) (l : List UInt8) (w : World)
    (hB : Blk w g 68 259 (cc s.p s.lo (4294967295 - s.hi) X)) (hQ : Q l X w) (hl : l.length + 4 ≤ L) :
    Calls Try.prog 36 #[.pointer (some ⟨g, 0, none⟩), .int .i64 c, .int .i64 bit, .func (.func 37) #[] #[.pointer (some ⟨bx, 0, none⟩)]] w fun e w' => e = .returned (.tuple #[]) ∧
      ∃ X', Blk w' g 68 259 (cc (M.nxt s (cx c) (bit % 2)).p (M.nxt s (cx c) (bit % 2)).lo (4294967295 - (M.nxt s (cx c) (bit % 2)).hi) X') ∧ Q (l ++ M.outB s (cx c) (bit % 2)) X' w' := by
  have hk := cx_lt c
  have c0 := hB.cell (cx c) (by omega)
  rw [cc_p _ hk] at c0
  have HM := Lib.hid (mid_any g s hs c w c0 (by rw [hB.cell 256 (by omega), cc_lo]) (by rw [hB.cell 257 (by omega), cc_en]))
  obtain ⟨p1, p2⟩ := hs.p (cx c)
  have HI := Lib.hid (M.iv1 hs (cx c) (bit % 2))
  have HX := Lib.hid (show M.nxt s (cx c) (bit % 2) = ⟨M.put s.p (cx c) (M.np (s.p (cx c)) (bit % 2)), (M.shs 4 (M.lo1 s (cx c) (bit % 2)) (M.hi1 s (cx c) (bit % 2))).2.1, (M.shs 4 (M.lo1 s (cx c) (bit % 2)) (M.hi1 s (cx c) (bit % 2))).2.2⟩ from rfl)
  have HO := Lib.hid (show M.outB s (cx c) (bit % 2) = (M.shs 4 (M.lo1 s (cx c) (bit % 2)) (M.hi1 s (cx c) (bit % 2))).1 from rfl)
  have hmd := M.md_in hs (cx c)
  have hl0 := hs.lo
  have hh1 := hs.hi
  have ha := and_255 c
  rw [← cx_val] at ha
  have hb := and_1 bit
  go_enter Try.func36, Try.ntmps36
  go_wp2_with fail
  refine HM.out.mono ?_
  rintro e x ⟨rfl, nn, rfl⟩
  have HB := Lib.hid (show Blk (w.drewN nn) g 68 259 (cc s.p s.lo (4294967295 - s.hi) X) from hB)
  have HQ := Lib.hid (HC.out.drewN _ _ _ nn hQ)
  clear HM hB hQ hs
  replace c0 : (w.drewN nn).cell? ⟨g, cx c, none⟩ = some (.int .i16 (s.p (cx c) - 2048)) := c0
  generalize w.drewN nn = W at *
  go_upto_if 28 with fail
  have m0 : 0 ≤ M.md s (cx c) := by omega
  have hn := not_u32 (M.md s (cx c)) m0 (by omega)
  have m1 : IntKind.u32.wrap (M.md s (cx c) + 1) = M.md s (cx c) + 1 := w32 _ (by omega) (by omega)
  have c6 : W.cell? ⟨g, 256, none⟩ = some (.int .u32 s.lo) := by rw [HB.out.cell 256 (by omega), cc_lo]
  have c7 : W.cell? ⟨g, 257, none⟩ = some (.int .u32 (4294967295 - s.hi)) := by rw [HB.out.cell 257 (by omega), cc_en]
  have f6 := HB.out.free 256
  have f7 := HB.out.free 257
  go_cut [10] (fun s10 wx => s10 = .int .i64 (M.np (s.p (cx c)) (bit % 2)) ∧ Blk wx g 68 259 (cc s.p (M.lo1 s (cx c) (bit % 2)) (4294967295 - M.hi1 s (cx c) (bit % 2)) X) ∧ Q l X wx)
  case first =>
    by_cases hbit : bit % 2 = 1
    · rw [hbit]
      go_wp2
      go_meet
      refine ⟨?_, ?_, HC.out.set _ _ _ _ _ _ (by omega) HB.out HQ.out⟩
      · unfold M.np; rw [if_pos hbit]
      · have := HB.out.set 257 (.int .u32 (4294967295 - M.md s (cx c)))
        rw [cc_put_en] at this
        rw [show M.lo1 s (cx c) (bit % 2) = s.lo from if_pos hbit, show M.hi1 s (cx c) (bit % 2) = M.md s (cx c) from if_pos hbit]
        exact this
    · obtain hbit : bit % 2 = 0 := by omega
      rw [hbit]
      go_wp2
      go_meet
      refine ⟨?_, ?_, HC.out.set _ _ _ _ _ _ (by omega) HB.out HQ.out⟩
      · unfold M.np; rw [if_neg (by omega)]
      · have := HB.out.set 256 (.int .u32 (M.md s (cx c) + 1))
        rw [cc_put_lo] at this
        rw [show M.lo1 s (cx c) (bit % 2) = M.md s (cx c) + 1 from if_neg (by omega), show M.hi1 s (cx c) (bit % 2) = s.hi from if_neg (by omega)]
        exact this
  case rest =>
  clear HB HQ hn m0 m1 c6 c7 f6 f7 c0 hmd hl0 hh1 hb
  obtain ⟨rfl, hB, hQ⟩ := hcut
  obtain ⟨W1, hW1⟩ : ∃ W1 : World, W1 = wc := ⟨_, rfl⟩
  subst hW1
  have n0 := M.np_bd ⟨p1, p2⟩ (bit % 2)
  have c0 := hB.cell (cx c) (by omega)
  rw [cc_p _ hk] at c0
  have f0 := hB.free (cx c)
  have HB := Lib.hid (cc_put_p (cx c) hk _ ▸ hB.set (cx c) (.int .i16 (M.np (s.p (cx c)) (bit % 2) - 2048)))
  have HQ := Lib.hid (HC.out.set _ _ _ _ (cx c) (.int .i16 (M.np (s.p (cx c)) (bit % 2) - 2048)) (by omega) hB hQ)
  clear hB hQ
  have hw1 : IntKind.i16.wrap (M.np (s.p (cx c)) (bit % 2) - 2048) = M.np (s.p (cx c)) (bit % 2) - 2048 := w16 _ (by omega) (by omega)
  generalize M.np (s.p (cx c)) (bit % 2) = np at *
  generalize M.lo1 s (cx c) (bit % 2) = lo0 at *
  generalize M.hi1 s (cx c) (bit % 2) = hi0 at *
  clear p1 p2
  go_upto_block 1 with fail

  go_loopg [11] 4 (fun k s11 wr => ∃ (l' : List UInt8) (lo hi : Int) (X' : Nat → Value), Hid (M.Iv k lo hi ∧ l' ++ (M.shs k lo hi).1 = l ++ (M.shs 4 lo0 hi0).1 ∧ (M.shs k lo hi).2 = (M.shs 4 lo0 hi0).2 ∧ l'.length + k ≤ l.length + 4 ∧ Blk wr g 68 259 (cc (M.put s.p (cx c) np) lo (4294967295 - hi) X') ∧ Q l' X' wr))
  case atStart => exact ⟨l, lo0, hi0, X, Lib.hid ⟨HI.out, rfl, rfl, Nat.le_refl _, HB.out, HQ.out⟩⟩
  case round =>
    obtain ⟨l', lo, hi, X', HR⟩ := hrel
    clear HB HQ HI
    obtain ⟨i1, i2, i3, i4, i5, i6⟩ := id HR.out
    have j0 := i1.lo
    have j1 := i1.le
    have j2 := i1.hi
    have c6 : wr.cell? ⟨g, 256, none⟩ = some (.int .u32 lo) := by rw [i5.cell 256 (by omega), cc_lo]
    have c7 : wr.cell? ⟨g, 257, none⟩ = some (.int .u32 (4294967295 - hi)) := by rw [i5.cell 257 (by omega), cc_en]
    have HI := Lib.hid (high_any g hi (by omega) j2)
    have f6 := i5.free 256
    have f7 := i5.free 257
    clear i1 i2 i3 i4 i5 i6
    go_upto_region 9 with fail
    refine q_region (C := fun x => ∃ n, x = wr.drewN n) (by kernel_rfl) (by kernel_rfl) ⟨1, rfl⟩ ?_
    repeat (first
      | go_big_quiet_skip
      | (go_big_quiet_want; refine q_val ?_; apply Exists.intro; refine ⟨fun x hx => ?_, ?_⟩; (focus (obtain ⟨n, rfl⟩ := hx; go_simp <;> rfl)); simp only [Act.put, List.setIfInBounds_toArray, List.set_cons_zero, List.set_cons_succ]; go_big_quiet_on)
      | (go_big_quiet_want; refine q_call 45 ?_; apply Exists.intro; refine ⟨fun x hx => ?_, ?_⟩; (focus (go_simp <;> rfl)); apply Exists.intro; refine ⟨fun x hx => ?_, ?_⟩; (focus (obtain ⟨n, rfl⟩ := hx; exact (HI.out (wr.drewN n) c7).mono fun e w' h => ⟨h.1, n, h.2.symm⟩)); simp only [Act.put, List.setIfInBounds_toArray, List.set_cons_zero, List.set_cons_succ]; go_big_quiet_on))
    refine wpQuiet_nil ?_
    rintro x ⟨n, rfl⟩
    have hgn : ∃ W2 : World, W2 = wr.drewN n := ⟨_, rfl⟩
    have HR2 := Lib.hid (show M.Iv gk lo hi ∧ l' ++ (M.shs gk lo hi).1 = l ++ (M.shs 4 lo0 hi0).1 ∧ (M.shs gk lo hi).2 = (M.shs 4 lo0 hi0).2 ∧ l'.length + gk ≤ l.length + 4 ∧ Blk (wr.drewN n) g 68 259 (cc (M.put s.p (cx c) np) lo (4294967295 - hi) X') ∧ Q l' X' (wr.drewN n) from
      ⟨HR.out.1, HR.out.2.1, HR.out.2.2.1, HR.out.2.2.2.1, HR.out.2.2.2.2.1, HC.out.drewN _ _ _ n HR.out.2.2.2.2.2⟩)
    replace c6 : (wr.drewN n).cell? ⟨g, 256, none⟩ = some (.int .u32 lo) := c6
    replace c7 : (wr.drewN n).cell? ⟨g, 257, none⟩ = some (.int .u32 (4294967295 - hi)) := c7
    replace f6 : (wr.drewN n).frozen? ⟨g, 256, none⟩ = false := f6
    replace f7 : (wr.drewN n).frozen? ⟨g, 257, none⟩ = false := f7
    clear HR HI hgn
    generalize wr.drewN n = W2 at *
    cases e : (lo / 16777216 == hi / 16777216) with
    | true =>
      have e' : lo / 16777216 = hi / 16777216 := by simpa using e
      obtain ⟨i1, i2, i3, i4, i5, i6⟩ := HR2.out
      clear HR2
      cases gk with
      | zero => exact absurd e' i1.stop
      | succ k =>
        rw [M.shs_eq k lo hi e'] at i2 i3
        have in' := i1.next e'
        have hby := (M.byt_val j0 (by omega)).symm
        have hB3 := i5.set 256 (.int .u32 (lo * 256 % 4294967296))
        rw [cc_put_lo] at hB3
        have hB4 := hB3.set 257 (.int .u32 (4294967295 - (hi * 256 + 255) % 4294967296))
        rw [cc_put_en] at hB4
        have hQ4 := HC.out.set _ _ _ _ 257 (.int .u32 (4294967295 - (hi * 256 + 255) % 4294967296)) (by omega) hB3 (HC.out.set _ _ _ _ 256 (.int .u32 (lo * 256 % 4294967296)) (by omega) i5 i6)
        have HK := Lib.hid (HC.out.call l' X' _ _ _ _ (M.byt lo) hB4 hQ4 (by omega))
        have HP := Lib.hid (And.intro i2 (And.intro i3 (And.intro i4 in')))
        have HE := Lib.hid e'
        rw [← hby] at HK
        have hen : 4294967295 - (hi * 256 + 255) % 4294967296 = (4294967295 - hi) * 256 % 4294967296 := by omega
        rw [hen] at HK
        replace hen := Lib.hid hen
        clear i1 i2 i3 i4 i5 i6 in' hB3 hB4 hQ4 hby e'
        go_wp2_with fail
        refine HK.out.mono ?_
        rintro e y ⟨rfl, X2, hB5, hQ5⟩
        go_wp2
        go_roundg k
        case measure => omega
        case rel =>
          obtain ⟨i2, i3, i4, in'⟩ := HP.out
          exact ⟨l' ++ [M.byt lo], _, _, X2, Lib.hid ⟨in', by rw [← i2, List.append_assoc]; rfl, i3, by rw [List.length_append, List.length_singleton]; omega, hen.out ▸ hB5, hQ5⟩⟩
    | false =>
      obtain ⟨i1, i2, i3, i4, i5, i6⟩ := HR2.out
      clear HR2
      go_wp2
      have e' : lo / 16777216 ≠ hi / 16777216 := by simpa using e
      rw [M.shs_ne _ lo hi e'] at i2 i3
      refine bodyPost_end (results_none rfl _ _ _) rfl ⟨rfl, X', ?_, ?_⟩
      · rw [HX.out]
        show Blk _ _ _ _ (cc _ (M.shs 4 _ _).2.1 (_ - (M.shs 4 _ _).2.2) _)
        rw [← i3]; exact i5
      · rw [HO.out, ← i2]; simpa using i6
end Go.Proofs.Ytdepfgeomceiiaa
