/- Walks of layer 1: the reader's Var. -/
import Derived.Test.YtcanmfkocbnbfaaE
import Derived.Test.YtcanmfkocbnbfaaMathB
namespace Go.Proofs.Ytcanmfkocbnbfaa
open Go.RowKit

/-- What a reader's Var gives: the number, the place, whether it has failed. -/
def varRes (s : ByteArray) (p : Nat) (f : Bool) : Int × Nat × Bool :=
  if f = true then (0, p, true) else
    match M.dec 0 0 (s.data.toList.drop p) with
    | none => (0, p, true)
    | some (u, n) => (wrap64 (u : Int), p + n, false)

theorem drop_at (s : ByteArray) (p k : Nat) (h : p + k < s.size) : (s.data.toList.drop p).drop k = (s[p + k]'h) :: (s.data.toList.drop p).drop (k + 1) := by
  rw [List.drop_drop, List.drop_drop, List.drop_eq_getElem_cons (by simpa using h)]
  rfl

theorem and127_nat : ∀ x : Fin 256, (x.val &&& 127) = x.val % 128 := by decide +kernel
theorem two_pow7 (k : Nat) : (2 : Nat) ^ (7 * k) = 128 ^ k := by rw [Nat.pow_mul]

/-- One round of the scan's gathering, as the program reckons it. -/
theorem or_acc (k acc y : Nat) (B : UInt8) (hk : k ≤ 9) (ha : acc < 128 ^ k) (hy : y = acc) :
    ∃ y2 : Nat, bits .or .u64 (y : Int) (IntKind.u64.wrap (IntKind.u64.wrap (bits .and .u8 (B.toNat : Int) 127) * 2 ^ (7 * k))) = ((y2 : Nat) : Int) ∧
      (acc + B.toNat % 128 * 128 ^ k < 18446744073709551616 → y2 = acc + B.toNat % 128 * 128 ^ k) := by
  subst hy
  have hB := B.toNat_lt
  have h1 : bits .and .u8 (B.toNat : Int) 127 = ((B.toNat % 128 : Nat) : Int) := by
    have h := u8_and_nat B.toNat 127 hB (by omega)
    rw [show ((127 : Nat) : Int) = 127 from rfl] at h
    rw [h]
    have := and127_nat ⟨B.toNat, hB⟩
    simp only at this
    rw [this]
  have h2 : IntKind.u64.wrap ((B.toNat % 128 : Nat) : Int) = ((B.toNat % 128 : Nat) : Int) := by rw [IntKind.wrap_u64]; omega
  have h3 : IntKind.u64.wrap (((B.toNat % 128 : Nat) : Int) * 2 ^ (7 * k)) = ((B.toNat % 128 * 128 ^ k % 18446744073709551616 : Nat) : Int) := by
    rw [IntKind.wrap_u64, ← two_pow7]
    simp
  have hp := M.pow_le9 k hk
  have h4 := u64_or_nat y (B.toNat % 128 * 128 ^ k % 18446744073709551616) (by omega) (by omega)
  refine ⟨y ||| (B.toNat % 128 * 128 ^ k % 18446744073709551616), by rw [h1, h2, h3, h4], fun hlt => ?_⟩
  rw [Nat.mod_eq_of_lt (by omega)]
  have h5 := Nat.shiftLeft_add_eq_or_of_lt (show y < 2 ^ (7 * k) by rw [two_pow7]; exact ha) (B.toNat % 128)
  rw [Nat.shiftLeft_eq, two_pow7] at h5
  rw [Nat.or_comm, ← h5, Nat.add_comm]

theorem acc_lt (k acc B : Nat) (ha : acc < 128 ^ k) : acc + B % 128 * 128 ^ k < 128 ^ (k + 1) := by
  have h1 : B % 128 * 128 ^ k ≤ 127 * 128 ^ k := Nat.mul_le_mul_right _ (by omega)
  rw [Nat.pow_succ]; omega
theorem acc_small (k x : Nat) (hk : k ≤ 9) (hx : x < 128 ^ k) : x < 18446744073709551616 := by
  have := M.pow_le9 k hk
  omega
theorem good_small (k acc B : Nat) (hk : k ≤ 9) (ha : acc < 128 ^ k) (hB : B < 128) (hz : ¬ (k = 9 ∧ 1 < B)) : acc + B % 128 * 128 ^ k < 18446744073709551616 := by
  by_cases h9 : k = 9
  · subst h9; rw [M.pow9] at *; omega
  · have := acc_lt k acc B ha
    exact acc_small (k + 1) _ (by omega) this

theorem rvar_failed (b : Nat) (s : ByteArray) (p : Nat) (w : World) (h : Rd 48 b s p true w) :
    Calls Try.prog 23 #[.pointer (some ⟨b, 0, none⟩)] w fun e w' => e = .returned (.int .i64 0) ∧ w.grownBy w' (some b) ∧ Rd 48 b s p true w' := by
  have h2 := h.c2
  go_enter Try.func23, Try.ntmps23
  go_wp2_with fail
  go_ret
  exact ⟨rfl, grown_refl _ _, h⟩

theorem rvar_nil (w : World) :
    Calls Try.prog 23 #[.pointer none] w fun e w' => e = .returned (.int .i64 0) ∧ w = w' := by
  go_enter Try.func23, Try.ntmps23
  go_wp2_with fail
  go_ret
  exact ⟨rfl, rfl⟩

set_option maxRecDepth 100000 in
set_option maxHeartbeats 800000 in
theorem rvar_ok (b : Nat) (s : ByteArray) (p : Nat) (w : World) (h : Rd 48 b s p false w) (hs : s.size ≤ 1000000000000000000) (hp : p ≤ s.size) :
    Calls Try.prog 23 #[.pointer (some ⟨b, 0, none⟩)] w fun e w' => e = .returned (.int .i64 (varRes s p false).1) ∧ w.grownBy w' (some b) ∧ Rd 48 b s (varRes s p false).2.1 (varRes s p false).2.2 w' := by
  have h2 := h.c2
  go_enter Try.func23, Try.ntmps23
  go_wp2_with fail
  refine (left_any b s p false _ h hs hp).mono ?_
  rintro e w1 ⟨rfl, nq, hw⟩
  subst hw
  obtain ⟨m, hm⟩ : ∃ m : Nat, m = min 10 (s.size - p) := ⟨_, rfl⟩
  have H0 : Rd 48 b s p false (w.drewN nq) := h
  have HG : w.grownBy (w.drewN nq) (some b) := grown_drewN (grown_refl _ _)
  generalize w.drewN nq = wq at *
  clear h2
  go_wp2_with fail
  all_goals
    go_loopw [3, 17] (fun u i wr => ∃ k acc y : Nat, k ≤ 10 ∧ k ≤ s.size - p ∧ i = .int .i64 k ∧ u = .int .u64 y ∧ Hid (acc < 128 ^ k) ∧ Hid (k ≤ 9 → y = acc) ∧
        Hid (M.dec 0 0 (s.data.toList.drop p) = M.dec k acc ((s.data.toList.drop p).drop k)) ∧ Rd 48 b s p false wr ∧ w.grownBy wr (some b))
      (fun _ i _ => 10 - (intOf i).toNat)
    case atStart => exact ⟨0, 0, 0, by omega, by omega, rfl, rfl, (show 0 < 128 ^ 0 by decide), fun _ => rfl, rfl, H0, HG⟩
    case round =>
      clear H0 HG
      obtain ⟨k, acc, y, hk, hkl, rfl, rfl, hacc, hy, HD, hrd, hg⟩ := hrel
      have h0 := hrd.c0
      have h1 := hrd.c1
      by_cases hlt : k < s.size - p ∧ k < 10
      · have hlt1 : p + k < s.size := by omega
        have hlt2 : (p : Int) + k < s.size := by omega
        have hlt3 : k < 10 := by omega
        clear hlt
        go_wp2_with fail
        have e1 : IntKind.i64.wrap ((p : Int) + k) = (p : Int) + k := IntWalk.i64_in _ (by omega)
        have e2 : (0 : Int) ≤ (p : Int) + k := by omega
        have e3 : ((p : Int) + k).toNat = p + k := by omega
        obtain ⟨B, hB⟩ : ∃ B : UInt8, s[p + k]'hlt1 = B := ⟨_, rfl⟩
        have HL : Hid ((s.data.toList.drop p).drop k = B :: (s.data.toList.drop p).drop (k + 1)) := by rw [← hB]; exact drop_at s p k hlt1
        go_quiet (fail)
        clear e1 e2 e3 hB
        have hBl : (B.toNat : Int) < 256 := by have := B.toNat_lt; omega
        have hrd' : Rd 48 b s p false (wr.drewN nq) := hrd
        have hg' : w.grownBy (wr.drewN nq) (some b) := grown_drewN hg
        clear hrd hg h0 h1
        generalize wr.drewN nq = wt at *
        by_cases hb8 : 128 ≤ B.toNat
        · obtain ⟨y2, hU, hy2⟩ := or_acc k acc y B (by omega) hacc.out (hy.out (by omega))
          have HY := Lib.hid hy2
          clear hy2
          go_wp2_with fail
          go_roundw
          case rel =>
            refine ⟨k + 1, acc + B.toNat % 128 * 128 ^ k, y2, by omega, by omega, by go_num, rfl, acc_lt k acc B.toNat hacc.out, ?_, ?_, hrd', hg'⟩
            · intro hk9
              exact HY.out (acc_small (k + 1) _ hk9 (acc_lt k acc B.toNat hacc.out))
            · show _ = _
              rw [HD.out, HL.out, M.dec_more k acc B _ hlt3 hb8]
          case measure => simp [intOf]; omega
        · by_cases hz1 : 0 < k ∧ B.toNat = 0
          · obtain ⟨hz1, hz2⟩ := hz1
            have HF : Hid (varRes s p false = (0, p, true)) := by
              have : M.dec 0 0 (s.data.toList.drop p) = none := by rw [HD.out, HL.out, M.dec_bad k acc B _ hlt3 (by omega) (.inl ⟨hz1, hz2⟩)]
              show _ = _
              unfold varRes; rw [this]; rfl
            have hc2 := hrd'.c2
            have hf2 := hrd'.fz 2
            go_wp2_with fail
            all_goals
              go_ret
              rw [HF.out]
              exact ⟨rfl, grown_set hg' _ _, hrd'.put2 _⟩
          · by_cases hz2 : k = 9 ∧ 1 < B.toNat
            · obtain ⟨hz3, hz4⟩ := hz2
              have HF : Hid (varRes s p false = (0, p, true)) := by
                have : M.dec 0 0 (s.data.toList.drop p) = none := by rw [HD.out, HL.out, M.dec_bad k acc B _ hlt3 (by omega) (.inr ⟨hz3, hz4⟩)]
                show _ = _
                unfold varRes; rw [this]; rfl
              have hc2 := hrd'.c2
              have hf2 := hrd'.fz 2
              have hz5 : 9 ≤ k := by omega
              have hz6 : ((B.toNat : Int) == 0) = false := by rw [beq_eq_false_iff_ne]; omega
              have hz7 : ((k : Int) == 9) = true := by rw [beq_iff_eq]; omega
              have hz8 : (1 : Int) < B.toNat := by omega
              clear hz3 hz1
              go_wp2_with fail
              all_goals
                go_ret
                rw [HF.out]
                exact ⟨rfl, grown_set hg' _ _, hrd'.put2 _⟩
            · obtain ⟨y2, hU, hy2⟩ := or_acc k acc y B (by omega) hacc.out (hy.out (by omega))
              have HY := Lib.hid hy2
              clear hy2
              have hc1 := hrd'.c1
              have hf1 := hrd'.fz 1
              have hv : y2 = acc + B.toNat * 128 ^ k := by
                have := HY.out (good_small k acc B.toNat (by omega) hacc.out (by omega) (by omega))
                rwa [Nat.mod_eq_of_lt (by omega)] at this
              have HF : Hid (varRes s p false = (wrap64 (y2 : Int), p + (k + 1), false)) := by
                have : M.dec 0 0 (s.data.toList.drop p) = some (y2, k + 1) := by
                  rw [HD.out, HL.out, M.dec_good k acc B _ hlt3 (by omega) (by omega), hv]
                show _ = _
                unfold varRes; rw [this]; rfl
              clear hv
              have hq := hrd'.put1 (p + (k + 1))
              have hq2 := Lib.hid hq
              clear hq
              have hcase : k = 0 ∨ (0 < k ∧ 0 < B.toNat ∧ k ≠ 9) ∨ (0 < k ∧ 0 < B.toNat ∧ k = 9 ∧ B.toNat ≤ 1) := by omega
              rcases hcase with hk0 | ⟨hk0, hB0, hk9⟩ | ⟨hk0, hB0, hk9, hB1⟩
              · have hz5 : ¬ (0 : Int) < k := by omega
                have hz7 : ((k : Int) == 9) = false := by rw [beq_eq_false_iff_ne]; omega
                have hk1 : k ≤ 0 := by omega
                clear hz1 hz2 hk0
                go_wp2_with fail
                all_goals
                  go_ret
                  rw [HF.out]
                  exact ⟨rfl, grown_set hg' _ _, hq2.out⟩
              · have hz6 : ((B.toNat : Int) == 0) = false := by rw [beq_eq_false_iff_ne]; omega
                have hz7 : ((k : Int) == 9) = false := by rw [beq_eq_false_iff_ne]; omega
                clear hz1 hz2 hk9
                go_wp2_with fail
                all_goals
                  go_ret
                  rw [HF.out]
                  exact ⟨rfl, grown_set hg' _ _, hq2.out⟩
              · have hz6 : ((B.toNat : Int) == 0) = false := by rw [beq_eq_false_iff_ne]; omega
                have hz7 : ((k : Int) == 9) = true := by rw [beq_iff_eq]; omega
                have hz8 : ¬ (1 : Int) < B.toNat := by omega
                have hz9 : 9 ≤ k := by omega
                clear hz1 hz2 hk9 hB1
                go_wp2_with fail
                all_goals
                  go_ret
                  rw [HF.out]
                  exact ⟨rfl, grown_set hg' _ _, hq2.out⟩
      · have HF : Hid (varRes s p false = (0, p, true)) := by
          have : M.dec 0 0 (s.data.toList.drop p) = none := by
            rw [HD.out]
            by_cases hk10 : 10 ≤ k
            · exact M.dec_ten _ _ _ hk10
            · rw [List.drop_drop, List.drop_of_length_le (by simp; omega)]; rfl
          show _ = _
          unfold varRes; rw [this]; rfl
        have hc2 := hrd.c2
        have hf2 := hrd.fz 2
        by_cases hz : (s.size : Int) - p ≤ k
        · by_cases hz10 : 10 ≤ (k : Int)
          · clear hlt
            go_wp2_with fail
            all_goals
              go_ret
              rw [HF.out]
              exact ⟨rfl, grown_set hg _ _, hrd.put2 _⟩
          · clear hlt
            first
              | (exfalso; omega)
              | (go_wp2_with fail
                 all_goals
                   go_ret
                   rw [HF.out]
                   exact ⟨rfl, grown_set hg _ _, hrd.put2 _⟩)
        · have hz10 : 10 ≤ (k : Int) := by omega
          clear hlt
          first
            | (exfalso; omega)
            | (go_wp2_with fail
               all_goals
                 go_ret
                 rw [HF.out]
                 exact ⟨rfl, grown_set hg _ _, hrd.put2 _⟩)

theorem rvar_any (b : Nat) (s : ByteArray) (p : Nat) (f : Bool) (w : World) (h : Rd 48 b s p f w) (hs : s.size ≤ 1000000000000000000) (hp : p ≤ s.size) :
    Calls Try.prog 23 #[.pointer (some ⟨b, 0, none⟩)] w fun e w' => e = .returned (.int .i64 (varRes s p f).1) ∧ w.grownBy w' (some b) ∧ Rd 48 b s (varRes s p f).2.1 (varRes s p f).2.2 w' := by
  cases f with
  | true => exact rvar_failed b s p w h
  | false => exact rvar_ok b s p w h hs hp

theorem varRes_le (s : ByteArray) (p : Nat) (f : Bool) (hp : p ≤ s.size) : (varRes s p f).2.1 ≤ s.size := by
  unfold varRes
  split
  · exact hp
  · split
    · exact hp
    · rename_i u n h
      have := M.dec_len _ _ _ h
      have h2 := this.2.1
      simp at h2
      show p + n ≤ s.size
      omega
end Go.Proofs.Ytcanmfkocbnbfaa
