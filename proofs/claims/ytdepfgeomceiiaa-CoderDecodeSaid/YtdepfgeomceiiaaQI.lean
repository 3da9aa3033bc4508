/- The reference's reader: its state; walk of its Bit. -/
import Derived.Test.YtdepfgeomceiiaaQH
set_option linter.unusedVariables false
namespace Go.Proofs.Ytdepfgeomceiiaa
open Go.RowKit
/-- The reference's reader in block g, m bytes removed. -/
structure RR (g : Nat) (f : ByteArray) (m : Nat) (s : M.St) (w : World) : Prop where
  ok : M.Ok s
  blk : Blk w g 58 261 (cr s.p s.lo s.hi (RX f (m + 4)))
theorem RR.grow {g f m s w w'} (h : RR g f m s w) (hg : Grow w w') : RR g f m s w' := ⟨h.ok, h.blk.grow hg⟩
theorem RR.keep {g f m s w w' g' ro'} (h : RR g f m s w) (hc : Chg g' ro' w w') (h1 : g ≠ g') (h2 : some g ≠ ro') : RR g f m s w' := by
  refine ⟨h.ok, ?_⟩
  have x1 := h.blk
  have := hc.block g x1.lt h1 h2
  unfold Blk at x1 ⊢; rw [this]; exact x1
theorem rnewReader_rr (f : ByteArray) (w : World) (hf : f.size ≤ 1000000000000000) : Calls Try.prog 26 #[.string f] w fun e w' => ∃ g, w.heap.size ≤ g ∧ e = .returned (.pointer (some ⟨g, 0, none⟩)) ∧ RR g f 0 M.start w' ∧ Grow w w' := by
  refine (rnewReader f w hf).mono ?_
  rintro e w' ⟨g, h1, h2, h3, h4⟩
  exact ⟨g, h1, h2, ⟨M.start_ok, h3⟩, h4⟩
set_option maxRecDepth 100000 in
set_option maxHeartbeats 2000000 in
theorem rbit_rr {g f m s w} (h : RR g f m s w) (c : Int) (hm : m ≤ 90000000) (hf : f.size ≤ 1000000000000000) :
    Calls Try.prog 29 #[.pointer (some ⟨g, 0, none⟩), .int .i64 c] w fun e w' => e = .returned (.int .i64 (nb f m s c)) ∧ RR g f (m + (M.outB s (cx c) (nb f m s c)).length) (M.nxt s (cx c) (nb f m s c)) w' ∧ Chg g none w w' := by
  have hk := cx_lt c
  have x1 := h.blk
  have hs := h.ok
  have c10 : w.cell? ⟨g, 260, none⟩ = some (.int .u32 (M.val f.data.toList m)) := by
    rw [x1.cell 260 (by omega), cr_x 260 (by omega)]
    show some (Value.int .u32 (vv f.data.toList (m + 4))) = _
    rw [vv_val]
  have c0 := x1.cell (cx c) (by omega)
  rw [cr_p _ hk] at c0
  have HM := Lib.hid (fun k => rmid_any g s hs c (w.drewN k) c0 (by show w.cell? _ = _; rw [x1.cell 256 (by omega), cr_lo]) (by show w.cell? _ = _; rw [x1.cell 257 (by omega), cr_en]))
  have hb : nb f m s c = M.rb s (cx c) (M.val f.data.toList m) := rfl
  have hb01 := nb_bit f m s c
  have HN := Lib.hid (fun k => rnarrow 58 261 (by decide) (by omega) g s hs c (nb f m s c) (RX f (m + 4)) (w.drewN k) x1)
  rw [show nb f m s c % 2 = nb f m s c by omega] at HN
  have hol := M.outB_len s (cx c) (nb f m s c)
  have hok := Lib.hid (M.nxt_ok hs (cx c) (nb f m s c))
  generalize nb f m s c = b at *
  obtain ⟨vb0, vb1⟩ := M.val_bd f.data.toList m
  generalize M.val f.data.toList m = V at *
  replace hb := Lib.hid hb
  replace hb01 := Lib.hid hb01
  generalize M.outB s (cx c) b = ob at *
  generalize M.nxt s (cx c) b = sn at *
  have hgw := x1.lt
  clear h x1 c0
  go_enter Try.func29, Try.ntmps29
  go_upto_region 2 with fail
  refine q_region (C := fun y => ∃ n, y = w.drewN n) (by kernel_rfl) (by kernel_rfl) ⟨1, rfl⟩ ?_
  repeat (first
    | go_big_quiet_skip
    | (go_big_quiet_want; refine q_val ?_; apply Exists.intro; refine ⟨fun x hx => ?_, ?_⟩; (focus (obtain ⟨n, rfl⟩ := hx; go_simp <;> rfl)); simp only [Act.put, List.setIfInBounds_toArray, List.set_cons_zero, List.set_cons_succ]; go_big_quiet_on)
    | (go_big_quiet_want; refine q_call 43 ?_; apply Exists.intro; refine ⟨fun x hx => ?_, ?_⟩; (focus (go_simp <;> rfl)); apply Exists.intro; refine ⟨fun x hx => ?_, ?_⟩; (focus (obtain ⟨n, rfl⟩ := hx; exact (HM.out n).mono fun e w' h => ⟨h.1, by obtain ⟨k, e⟩ := h.2; exact ⟨n + k, by rw [e]; exact drewN_add w n k⟩⟩)); simp only [Act.put, List.setIfInBounds_toArray, List.set_cons_zero, List.set_cons_succ]; go_big_quiet_on))
  refine wpQuiet_nil ?_
  rintro y ⟨k, rfl⟩
  go_upto_if 17 with fail
  go_cut [5] (fun s5 wx => s5 = .int .i64 b ∧ wx = w.drewN k)
  case first =>
    by_cases hV : V ≤ M.md s (cx c)
    · go_wp2
      go_meet
      exact ⟨by rw [hb.out]; unfold M.rb; rw [if_pos hV], rfl⟩
    · go_wp2
      go_meet
      exact ⟨by rw [hb.out]; unfold M.rb; rw [if_neg (by omega)], rfl⟩
  case rest =>
  obtain ⟨rfl, rfl⟩ := hcut
  have HN2 := Lib.hid (HN.out k)
  clear HN HM
  go_wp2_with fail
  refine HN2.out.mono ?_
  rintro e z ⟨v, rfl, h3, h4, h5, h6⟩
  obtain ⟨so, sc, hv⟩ := own_mem h4
  subst hv
  have hC : Hid (Chg g none w z) := Lib.hid ⟨h5.os, h5.tape, h5.output, h5.size, h5.block⟩
  replace h3 := Lib.hid h3
  clear HN2 h4 h5 h6
  go_upto_block 1 with fail
  go_loopg [7] ob.length (fun k s7 wr => ∃ i, i + k = ob.length ∧ s7 = .int .i64 (i : Int) ∧ Hid (Chg g none w wr ∧ Blk wr g 58 261 (cr sn.p sn.lo sn.hi (RX f (m + 4 + i)))))
  case atStart => exact ⟨0, by omega, rfl, Lib.hid ⟨hC.out, h3.out⟩⟩
  case round =>
    obtain ⟨i, hik, rfl, HR⟩ := hrel
    clear hC h3
    cases gk with
    | zero =>
      obtain rfl : i = ob.length := by omega
      have hlt : ¬ (ob.length : Int) < ob.length := by omega
      go_wp2
      go_ret
      exact ⟨rfl, ⟨hok.out, by rw [show m + ob.length + 4 = m + 4 + ob.length by omega]; exact HR.out.2⟩, HR.out.1⟩
    | succ k =>
      have hlt : (i : Int) < ob.length := by omega
      have HX := Lib.hid (rnext39 g f (m + 4 + i) _ _ _ wr HR.out.2 (by omega) hf)
      go_wp2_with fail
      refine HX.out.mono ?_
      rintro e y ⟨rfl, h1, h2⟩
      have hN : Hid (Chg g none w y ∧ Blk y g 58 261 (cr sn.p sn.lo sn.hi (RX f (m + 4 + (i + 1))))) := Lib.hid ⟨HR.out.1.trans (.inl rfl) h2, h1⟩
      clear h1 h2 HX HR
      go_wp2
      go_roundg k
      case measure => omega
      case rel => exact ⟨i + 1, by omega, by rw [Int.natCast_add]; rfl, hN⟩
end Go.Proofs.Ytdepfgeomceiiaa
