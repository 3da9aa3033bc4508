/- Walks of layer 1: the reference reader's Var and Text. -/
import Derived.Test.YtcanmfkocbnbfaaJ
import Derived.Test.YtcanmfkocbnbfaaC
import Derived.BigQuiet
import Derived.Lib.Strings
set_option linter.unusedVariables false
namespace Go.Proofs.Ytcanmfkocbnbfaa
open Go.RowKit

theorem ref_sum (i acc u k : Nat) (B : UInt8) (hu : u = acc % 18446744073709551616) (hk : k = 128 ^ i % 18446744073709551616) :
    ∃ u2 : Nat, IntKind.u64.wrap ((u : Int) + IntKind.u64.wrap ((B.toNat : Int) % 128 * (k : Int))) = (u2 : Int) ∧ u2 = (acc + B.toNat % 128 * 128 ^ i) % 18446744073709551616 := by
  refine ⟨(acc + B.toNat % 128 * 128 ^ i) % 18446744073709551616, ?_, rfl⟩
  rw [IntKind.wrap_u64, IntKind.wrap_u64, hu, hk]
  generalize 128 ^ i = x
  have h2 : B.toNat % 128 * (x % 18446744073709551616) % 18446744073709551616 = B.toNat % 128 * x % 18446744073709551616 := Nat.mul_mod_mod _ _ _
  have h3 : ((B.toNat : Int) % 128 * ((x % 18446744073709551616 : Nat) : Int)) = ((B.toNat % 128 * (x % 18446744073709551616) : Nat) : Int) := by
    rw [Int.natCast_mul, Int.natCast_emod]; rfl
  rw [h3]
  generalize B.toNat % 128 * (x % 18446744073709551616) = q1 at *
  generalize B.toNat % 128 * x = q2 at *
  omega
theorem u64_back (u2 : Nat) (h : u2 < 18446744073709551616) : u64 (wrap64 (u2 : Int)) = u2 := by
  unfold u64 wrap64; omega
theorem ref_pow (i k : Nat) (hk : k = 128 ^ i % 18446744073709551616) : ∃ k2 : Nat, IntKind.u64.wrap ((k : Int) * 128) = (k2 : Int) ∧ k2 = 128 ^ (i + 1) % 18446744073709551616 := by
  refine ⟨128 ^ (i + 1) % 18446744073709551616, ?_, rfl⟩
  rw [IntKind.wrap_u64, hk, Nat.pow_succ]
  generalize 128 ^ i = x
  omega
theorem ref_end (D : List UInt8) (i acc : Nat) (b : UInt8) (rest : List UInt8) (hd : M.dec 0 0 D = M.dec i acc (b :: rest)) (hi : i < 10) (hb : b.toNat < 128) (hl : D.drop i = b :: rest) (u2 : Nat)
    (hu : u2 = (acc + b.toNat % 128 * 128 ^ i) % 18446744073709551616) :
    (M.leb u2 = D.take (i + 1) → M.dec 0 0 D = some (u2, i + 1)) ∧ (M.leb u2 ≠ D.take (i + 1) → M.dec 0 0 D = none) := by
  have hlen : i + 1 ≤ D.length := by
    have := congrArg List.length hl
    simp at this; omega
  have hu2 : u2 < 18446744073709551616 := by rw [hu]; exact Nat.mod_lt _ (by omega)
  constructor
  · intro h
    refine (M.dec_iff _ _ _).2 ⟨hu2, ?_, D.drop (i + 1), ?_⟩
    · rw [h, List.length_take]; omega
    · rw [h, List.take_append_drop]
  · intro h
    cases hx : M.dec 0 0 D with
    | none => rfl
    | some x =>
      exfalso
      obtain ⟨v, n⟩ := x
      rw [hd] at hx
      unfold M.dec at hx
      rw [if_neg (by omega), if_neg (by omega)] at hx
      split at hx
      · simp at hx
      · simp only [Option.some.injEq, Prod.mk.injEq] at hx
        obtain ⟨hv, hn⟩ := hx
        have hx2 : M.dec 0 0 D = some (v, i + 1) := by
          rw [hd]; unfold M.dec; rw [if_neg (by omega), if_neg (by omega), if_neg (by assumption), hv]
        obtain ⟨h1, h2, r, h3⟩ := (M.dec_iff _ _ _).1 hx2
        have hvu : v = u2 := by
          rw [hu, Nat.mod_eq_of_lt hb, hv, Nat.mod_eq_of_lt h1]
        subst hvu
        exact h (by rw [h3, h2, List.take_left])

set_option maxRecDepth 100000 in
set_option maxHeartbeats 4000000 in
theorem refvar_ok (b : Nat) (s : ByteArray) (p : Nat) (w : World) (h : Rd 46 b s p false w) (hs : s.size ≤ 1000000000000000000) (hp : p ≤ s.size) :
    Calls Try.prog 29 #[.pointer (some ⟨b, 0, none⟩)] w fun e w' => e = .returned (.int .i64 (varRes s p false).1) ∧ w.grownBy w' (some b) ∧ Rd 46 b s (varRes s p false).2.1 (varRes s p false).2.2 w' := by
  go_enter Try.func29, Try.ntmps29
  go_wp2_with fail
  go_loopw [3, 4, 5] (fun u m i wr => ∃ k acc y z : Nat, k ≤ 10 ∧ i = .int .i64 k ∧ u = .int .u64 y ∧ m = .int .u64 z ∧ Hid (y = acc % 18446744073709551616) ∧ Hid (z = 128 ^ k % 18446744073709551616) ∧
      Hid (M.dec 0 0 (s.data.toList.drop p) = M.dec k acc ((s.data.toList.drop p).drop k)) ∧ Rd 46 b s p false wr ∧ w.grownBy wr (some b)) (fun _ _ i _ => 10 - (intOf i).toNat)
  case atStart => exact ⟨0, 0, 0, 1, by omega, rfl, rfl, rfl, rfl, rfl, rfl, h, grown_refl _ _⟩
  case round =>
    clear h
    obtain ⟨k, acc, y, z, hk, rfl, rfl, rfl, HY, HZ, HD, hrd, hg⟩ := hrel
    have h0 := hrd.c0
    have h1 := hrd.c1
    have h2 := hrd.c2
    have e1 : IntKind.i64.wrap ((p : Int) + k) = (p : Int) + k := IntWalk.i64_in _ (by omega)
    by_cases hlt : p + k < s.size
    · have hd1 : decide ((p : Int) + k < (s.size : Int)) = true := decide_eq_true (by omega)
      by_cases hk10 : k < 10
      · have hd2 : decide ((k : Int) < 10) = true := decide_eq_true (by omega)
        obtain ⟨B, hB⟩ : ∃ B : UInt8, s[p + k]'hlt = B := ⟨_, rfl⟩
        have HL : Hid ((s.data.toList.drop p).drop k = B :: (s.data.toList.drop p).drop (k + 1)) := by rw [← hB]; exact drop_at s p k hlt
        have e2 : (0 : Int) ≤ (p : Int) + k := by omega
        have e3 : ((p : Int) + k).toNat = p + k := by omega
        have e4 : (p : Int) + k < s.size := by omega
        obtain ⟨u2, hU, hu2⟩ := ref_sum k acc y z B HY.out HZ.out
        obtain ⟨k2, hK, hk2⟩ := ref_pow k z HZ.out
        have HU2 := Lib.hid hu2
        have HK2 := Lib.hid hk2
        clear hu2 hk2
        have hBl : (B.toNat : Int) < 256 := by have := B.toNat_lt; omega
        go_wp2_with fail
        go_quiet (fail)
        have hrd' : Rd 46 b s p false (wr.drewN nq) := hrd
        have hg' : w.grownBy (wr.drewN nq) (some b) := grown_drewN hg
        clear hrd hg h0 h1 h2
        generalize wr.drewN nq = wt at *
        have h0 := hrd'.c0
        have h1 := hrd'.c1
        go_wp2_with fail
        go_quiet (fail)
        have hrd : Rd 46 b s p false (wt.drewN nq) := hrd'
        have hg : w.grownBy (wt.drewN nq) (some b) := grown_drewN hg'
        clear hrd' hg' h0 h1 hB e2 e3 e4 hd1 hd2
        generalize wt.drewN nq = wt2 at *
        by_cases hb8 : 128 ≤ B.toNat
        · go_wp2_with fail
          go_roundw
          case rel =>
            refine ⟨k + 1, acc + B.toNat % 128 * 128 ^ k, u2, k2, by omega, by go_num, rfl, rfl, HU2.out, HK2.out, ?_, hrd, hg⟩
            show _ = _
            rw [HD.out, HL.out, M.dec_more k acc B _ hk10 hb8]
          case measure => simp [intOf]; omega
        · have hend := ref_end (s.data.toList.drop p) k acc B _ (by rw [HD.out, HL.out]) hk10 (by omega) HL.out u2 HU2.out
          have hu64 := u64_back u2 (by rw [HU2.out]; exact Nat.mod_lt _ (by omega))
          have hext : s.extract p (p + k + 1) = ⟨((s.data.toList.drop p).take (k + 1)).toArray⟩ := by
            rw [Lib.extract_eq]
            congr 3
            omega
          have HEX := Lib.hid hext
          have HEND := Lib.hid hend
          have HU64 := Lib.hid hu64
          clear hext hend hu64
          go_wp2_with fail
          refine (var_ref _ _).mono ?_
          rintro e x5 ⟨rfl, hb5⟩
          rw [HU64.out]
          have hrd5 := hrd.keep hb5
          have hg5 := grown_trans hg (grown_below (b := b) hb5)
          clear hrd hg hb5 HU64
          have h0 := hrd5.c0
          have h1 := hrd5.c1
          have e5 : IntKind.i64.wrap ((p : Int) + k + 1) = (p : Int) + k + 1 := IntWalk.i64_in _ (by omega)
          have e6 : (0 : Int) ≤ (p : Int) + k + 1 := by omega
          have e7 : (p : Int) ≤ (p : Int) + k + 1 := by omega
          have e8 : (p : Int) + k + 1 ≤ s.size := by omega
          have e9 : ((p : Int) + k + 1).toNat = p + k + 1 := by omega
          go_wp2_with fail
          go_quiet (fail)
          have hrd6 : Rd 46 b s p false (x5.drewN nq) := hrd5
          have hg6 : w.grownBy (x5.drewN nq) (some b) := grown_drewN hg5
          clear hrd5 hg5 h0 h1 e6 e7 e8 e9
          generalize x5.drewN nq = x6 at *
          have h1 := hrd6.c1
          have h2 := hrd6.c2
          have f1 := hrd6.fz 1
          have f2 := hrd6.fz 2
          go_wp2_with fail
          · have hq : (M.leb u2 == (s.extract p (p + k + 1)).toList) = true := by assumption
            rw [HEX.out, str_toList, beq_iff_eq] at hq
            have HF : Hid (varRes s p false = (wrap64 (u2 : Int), p + (k + 1), false)) := by
              show _ = _
              unfold varRes; rw [if_neg (by simp), HEND.out.1 hq]
            clear hq HEX HEND
            go_ret
            rw [HF.out]
            exact ⟨rfl, grown_set hg6 _ _, hrd6.put1 (p + (k + 1))⟩
          · have hq : (M.leb u2 == (s.extract p (p + k + 1)).toList) = false := by assumption
            rw [HEX.out, str_toList] at hq
            have HF : Hid (varRes s p false = (0, p, true)) := by
              show _ = _
              unfold varRes; rw [if_neg (by simp), HEND.out.2 (by simpa using hq)]
            clear hq HEX HEND
            go_ret
            rw [HF.out]
            exact ⟨rfl, grown_set hg6 _ _, hrd6.put2 _⟩
      · have hd2 : decide ((k : Int) < 10) = false := decide_eq_false (by omega)
        go_wp2_with fail
        go_quiet (fail)
        have hrd' : Rd 46 b s p false (wr.drewN nq) := hrd
        have hg' : w.grownBy (wr.drewN nq) (some b) := grown_drewN hg
        clear hrd hg h0 h1 h2
        generalize wr.drewN nq = wt at *
        have h2 := hrd'.c2
        have f2 := hrd'.fz 2
        have HF : Hid (varRes s p false = (0, p, true)) := by
          show _ = _
          unfold varRes; rw [if_neg (by simp), HD.out, M.dec_ten _ _ _ (by omega)]
        go_wp2_with fail
        go_ret
        rw [HF.out]
        exact ⟨rfl, grown_set hg' _ _, hrd'.put2 _⟩
    · have hd1 : decide ((p : Int) + k < (s.size : Int)) = false := decide_eq_false (by omega)
      go_wp2_with fail
      go_quiet (fail)
      have hrd' : Rd 46 b s p false (wr.drewN nq) := hrd
      have hg' : w.grownBy (wr.drewN nq) (some b) := grown_drewN hg
      clear hrd hg h0 h1 h2
      generalize wr.drewN nq = wt at *
      have h2 := hrd'.c2
      have f2 := hrd'.fz 2
      have HF : Hid (varRes s p false = (0, p, true)) := by
        show _ = _
        unfold varRes
        have e1 : s.data.toList.length = s.size := Array.length_toList
        rw [if_neg (by simp), HD.out, List.drop_drop, List.drop_of_length_le (by omega)]
        rfl
      go_wp2_with fail
      go_ret
      rw [HF.out]
      exact ⟨rfl, grown_set hg' _ _, hrd'.put2 _⟩

set_option maxRecDepth 100000 in
set_option maxHeartbeats 400000 in
theorem refvar_failed (b : Nat) (s : ByteArray) (p : Nat) (w : World) (h : Rd 46 b s p true w) :
    Calls Try.prog 29 #[.pointer (some ⟨b, 0, none⟩)] w fun e w' => e = .returned (.int .i64 0) ∧ w.grownBy w' (some b) ∧ Rd 46 b s p true w' := by
  have h2 := h.c2
  go_enter Try.func29, Try.ntmps29
  go_wp2_with fail
  refine wp_loop_rounds 1 ?_
  rw [rounds_succ]
  go_wp2_with fail
  go_quiet (fail)
  have hrd' : Rd 46 b s p true (w.drewN nq) := h
  have hg' : w.grownBy (w.drewN nq) (some b) := grown_drewN (grown_refl _ _)
  clear h2
  generalize w.drewN nq = wt at *
  have h2 := hrd'.c2
  have f2 := hrd'.fz 2
  go_wp2_with fail
  go_ret
  exact ⟨rfl, grown_set hg' _ _, hrd'.put2 _⟩
theorem refvar_any (b : Nat) (s : ByteArray) (p : Nat) (f : Bool) (w : World) (h : Rd 46 b s p f w) (hs : s.size ≤ 1000000000000000000) (hp : p ≤ s.size) :
    Calls Try.prog 29 #[.pointer (some ⟨b, 0, none⟩)] w fun e w' => e = .returned (.int .i64 (varRes s p f).1) ∧ w.grownBy w' (some b) ∧ Rd 46 b s (varRes s p f).2.1 (varRes s p f).2.2 w' := by
  cases f with
  | true => exact refvar_failed b s p w h
  | false => exact refvar_ok b s p w h hs hp
set_option maxRecDepth 100000 in
set_option maxHeartbeats 400000 in
theorem reftext_any (b : Nat) (s : ByteArray) (p : Nat) (f : Bool) (w : World) (h : Rd 46 b s p f w) (hs : s.size ≤ 1000000000000000000) (hp : p ≤ s.size) :
    Calls Try.prog 30 #[.pointer (some ⟨b, 0, none⟩)] w fun e w' => e = .returned (.string (textRes s p f).1) ∧ w.grownBy w' (some b) ∧ Rd 46 b s (textRes s p f).2.1 (textRes s p f).2.2 w' := by
  have hle := varRes_le s p f hp
  have h1 := h.c1
  go_enter Try.func30, Try.ntmps30
  go_wp2_with fail
  refine (refvar_any b s p f _ h hs hp).mono ?_
  rintro e x1 ⟨rfl, g1, r1⟩
  clear h1
  go_wp2_with fail
  refine (rtake_any b s _ _ _ _ r1 hs hle).mono ?_
  rintro e x2 ⟨rfl, g2, r2⟩
  have e2 := r2.c2
  have e1 := r2.fz 1
  have e3 := r2.c1
  have HT : Hid (textRes s p f = if (takeRes s (varRes s p f).2.1 (varRes s p f).2.2 (varRes s p f).1).2.2 = true then (⟨#[]⟩, p, true) else ((takeRes s (varRes s p f).2.1 (varRes s p f).2.2 (varRes s p f).1).1, (takeRes s (varRes s p f).2.1 (varRes s p f).2.2 (varRes s p f).1).2.1, false)) := rfl
  generalize takeRes s (varRes s p f).2.1 (varRes s p f).2.2 (varRes s p f).1 = t at *
  obtain ⟨t1, t2, t3⟩ := t
  simp only at *
  cases t3 with
  | true =>
    go_wp2_with fail
    go_ret
    rw [HT.out]
    exact ⟨rfl, grown_set (grown_trans g1 g2) _ _, r2.put1 _⟩
  | false =>
    go_wp2_with fail
    go_ret
    rw [HT.out]
    exact ⟨rfl, grown_trans g1 g2, r2⟩
end Go.Proofs.Ytcanmfkocbnbfaa
