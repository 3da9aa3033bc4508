/- Walks of the laws of layer 1 whose inputs are numbers and strings: each returns true and writes nothing that was there. The condition on a string is the row's own reach (at most 2^47 - 4096 bytes). -/
import Derived.Test.YtcanmfkocbnbfaaG
import Derived.Test.YtcanmfkocbnbfaaH
import Derived.OpenShut
import Derived.Lib.Strings
set_option linter.unusedVariables false
namespace Go.Proofs.Ytcanmfkocbnbfaa
open Go.RowKit
namespace octetEncodes
set_option maxRecDepth 100000 in
set_option maxHeartbeats 800000 in
theorem walk (a0 a1 : Int) (a2 : ByteArray) (w : World) (w0 : (Lit.int .i64 a0).wf = true) (w1 : (Lit.int .i64 a1).wf = true) (w2 : a2.size ≤ 140737488351232) :
    Calls Try.prog 3 #[.int .i64 a0, .int .i64 a1, .string a2] w fun e w' => e = .returned (.bool true) ∧ Below w.heap.size w w' := by
  clear w0 w1
  go_enter Try.func3, Try.ntmps3
  go_wp2_with fail
  refine (sanity_any _).mono ?_
  rintro e x1 ⟨rfl, b1⟩
  go_wp2_with fail
  refine (put_any _ _ _).mono ?_
  rintro e x2 ⟨rfl, b2⟩
  replace b1 := bt b1 b2
  clear b2
  go_wp2_with fail
  refine (put_ref _ _ _).mono ?_
  rintro e x3 ⟨rfl, b3⟩
  replace b1 := bt b1 b3
  clear b3
  go_wp2_with fail
  refine (put_any _ _ _).mono ?_
  rintro e x4 ⟨rfl, b4⟩
  replace b1 := bt b1 b4
  clear b4
  go_wp2_with fail
  refine (put_ref _ _ _).mono ?_
  rintro e x5 ⟨rfl, b5⟩
  replace b1 := bt b1 b5
  clear b5
  go_wp2_with fail
  refine (var_any _ _).mono ?_
  rintro e x6 ⟨rfl, b6⟩
  replace b1 := bt b1 b6
  clear b6
  go_wp2_with fail
  refine (var_ref _ _).mono ?_
  rintro e x7 ⟨rfl, b7⟩
  replace b1 := bt b1 b7
  clear b7
  go_wp2_with fail
  refine (text_any _ _ (by omega)).mono ?_
  rintro e x8 ⟨rfl, b8⟩
  replace b1 := bt b1 b8
  clear b8
  go_wp2_with fail
  refine (text_ref _ _ (by omega)).mono ?_
  rintro e x9 ⟨rfl, b9⟩
  replace b1 := bt b1 b9
  clear b9
  go_wp2_with fail
  refine (sum_any _ _ (by omega)).mono ?_
  rintro e x10 ⟨rfl, b10⟩
  replace b1 := bt b1 b10
  clear b10
  go_wp2_with fail
  refine (sum_ref _ _ (by omega)).mono ?_
  rintro e x11 ⟨rfl, rfl⟩
  go_wp2_with fail
  go_ret
  exact ⟨rfl, b1⟩
end octetEncodes
namespace octetOrder
theorem beq_cast (X Y : Nat) : ((X == Y) == ((X : Int) == (Y : Int))) = true := by
  have e : (X == Y) = ((X : Int) == (Y : Int)) := by rw [Bool.eq_iff_iff, beq_iff_eq, beq_iff_eq]; omega
  rw [e]; simp
theorem mask62 (a : Int) : ∃ X : Nat, bits .and .i64 a 4611686018427387903 = (X : Int) ∧ X < 4611686018427387904 := by
  have h1 : (BitVec.ofInt 64 a &&& BitVec.ofInt 64 4611686018427387903).toNat < 2 ^ 62 := by
    rw [BitVec.toNat_and]
    exact Nat.and_lt_two_pow _ (by decide)
  refine ⟨(BitVec.ofInt 64 a &&& BitVec.ofInt 64 4611686018427387903).toNat, ?_, h1⟩
  show IntKind.i64.wrap ((BitVec.ofInt 64 a &&& BitVec.ofInt 64 4611686018427387903).toNat : Int) = _
  rw [IntKind.wrap_i64]
  omega

theorem be_mod (k x : Nat) : M.be k x = M.be k (x % 256 ^ k) := by
  induction k generalizing x with
  | zero => rfl
  | succ k ih =>
    rw [M.be_snoc, M.be_snoc, ih (x / 256), ih (x % 256 ^ (k + 1) / 256)]
    congr 1
    · congr 1
      rw [Nat.pow_succ, Nat.mul_comm, Nat.mod_mul_right_div_self]
      rw [Nat.mod_mod]
    · congr 1
      rw [← M.ofNat_mod x, ← M.ofNat_mod (x % 256 ^ (k + 1)), Nat.pow_succ, Nat.mod_mul_left_mod]

theorem less_be (k : Nat) : ∀ x y, x < 256 ^ k → y < 256 ^ k → Op.bytesLess (M.be k x) (M.be k y) = decide (x < y) ∧ (M.be k x = M.be k y ↔ x = y) := by
  induction k with
  | zero =>
    intro x y hx hy
    have : x = 0 := by simpa using hx
    have : y = 0 := by simpa using hy
    subst x; subst y
    exact ⟨rfl, by simp⟩
  | succ k ih =>
    intro x y hx hy
    have hp : 0 < 256 ^ k := Nat.pow_pos (by omega)
    have e1 : M.be (k + 1) x = UInt8.ofNat (x / 256 ^ k) :: M.be k (x % 256 ^ k) := by rw [M.be, be_mod k x]
    have e2 : M.be (k + 1) y = UInt8.ofNat (y / 256 ^ k) :: M.be k (y % 256 ^ k) := by rw [M.be, be_mod k y]
    have hx' : x / 256 ^ k < 256 := by rw [Nat.div_lt_iff_lt_mul hp]; rw [Nat.pow_succ, Nat.mul_comm] at hx; exact hx
    have hy' : y / 256 ^ k < 256 := by rw [Nat.div_lt_iff_lt_mul hp]; rw [Nat.pow_succ, Nat.mul_comm] at hy; exact hy
    obtain ⟨i1, i2⟩ := ih (x % 256 ^ k) (y % 256 ^ k) (Nat.mod_lt _ hp) (Nat.mod_lt _ hp)
    have dx := Nat.div_add_mod x (256 ^ k)
    have dy := Nat.div_add_mod y (256 ^ k)
    have mx := Nat.mod_lt x hp
    have my := Nat.mod_lt y hp
    generalize x / 256 ^ k = a at *
    generalize y / 256 ^ k = b at *
    generalize x % 256 ^ k = c at *
    generalize y % 256 ^ k = d at *
    generalize 256 ^ k = m at *
    have ab : a < b → x < y := by
      intro h
      have : m * (a + 1) ≤ m * b := Nat.mul_le_mul_left _ h
      rw [Nat.mul_add] at this; omega
    have ba : b < a → y < x := by
      intro h
      have : m * (b + 1) ≤ m * a := Nat.mul_le_mul_left _ h
      rw [Nat.mul_add] at this; omega
    rw [e1, e2]
    constructor
    · rw [Op.bytesLess, i1, Bool.eq_iff_iff]
      simp only [Bool.or_eq_true, Bool.and_eq_true, decide_eq_true_eq, beq_iff_eq, UInt8.lt_iff_toNat_lt]
      have ea : (UInt8.ofNat a).toNat = a := by simp; omega
      have eb : (UInt8.ofNat b).toNat = b := by simp; omega
      have eab : UInt8.ofNat a = UInt8.ofNat b ↔ a = b := by rw [← UInt8.toNat_inj, ea, eb]
      rw [ea, eb, eab]
      constructor
      · rintro (h | ⟨h, h2⟩)
        · exact ab h
        · subst h; omega
      · intro h
        rcases Nat.lt_trichotomy a b with h1 | h1 | h1
        · exact .inl h1
        · subst h1; exact .inr ⟨rfl, by omega⟩
        · have := ba h1; omega
    · have ea : (UInt8.ofNat a).toNat = a := by simp; omega
      have eb : (UInt8.ofNat b).toNat = b := by simp; omega
      have eab : UInt8.ofNat a = UInt8.ofNat b ↔ a = b := by rw [← UInt8.toNat_inj, ea, eb]
      rw [List.cons.injEq, eab, i2]
      constructor
      · rintro ⟨h1, h2⟩; subst h1; omega
      · intro h
        rcases Nat.lt_trichotomy a b with h1 | h1 | h1
        · have := ab h1; omega
        · subst h1; exact ⟨rfl, by omega⟩
        · have := ba h1; omega

set_option maxRecDepth 100000 in
set_option maxHeartbeats 800000 in
theorem walk (a0 a1 : Int) (w : World) (w0 : (Lit.int .i64 a0).wf = true) (w1 : (Lit.int .i64 a1).wf = true)  :
    Calls Try.prog 4 #[.int .i64 a0, .int .i64 a1] w fun e w' => e = .returned (.bool true) ∧ Below w.heap.size w w' := by
  clear w0 w1
  obtain ⟨X, hX, lX⟩ := mask62 a0
  obtain ⟨Y, hY, lY⟩ := mask62 a1
  have e8 : (256 : Nat) ^ 8 = 18446744073709551616 := by decide
  obtain ⟨h1, h2⟩ := less_be 8 X Y (by omega) (by omega)
  have s8 : sz 8 = 8 := rfl
  have uX : u64 (X : Int) = X := by unfold u64; omega
  have uY : u64 (Y : Int) = Y := by unfold u64; omega
  clear lX lY e8
  have hq : (M.be 8 X == M.be 8 Y) = (X == Y) := by rw [Bool.eq_iff_iff]; simp [h2]
  clear h2
  go_enter Try.func4, Try.ntmps4
  go_wp2_with fail
  refine (sanity_any _).mono ?_
  rintro e x1 ⟨rfl, b1⟩
  go_wp2_with fail
  refine (put_any _ _ _).mono ?_
  rintro e x2 ⟨rfl, b2⟩
  rw [s8, uX]
  go_wp2_with fail
  refine (put_any _ _ _).mono ?_
  rintro e x3 ⟨rfl, b3⟩
  rw [s8, uY]
  replace b1 := bt (bt b1 b2) b3
  clear b2 b3
  go_wp2_with fail
  refine (put_any _ _ _).mono ?_
  rintro e x4 ⟨rfl, b2⟩
  rw [s8, uX]
  go_wp2_with fail
  refine (put_any _ _ _).mono ?_
  rintro e x5 ⟨rfl, b3⟩
  rw [s8, uY]
  replace b1 := bt (bt b1 b2) b3
  clear b2 b3
  go_wp2_with fail
  go_ret
  exact ⟨ret_bool (beq_cast X Y), b1⟩
end octetOrder
namespace octetVarLength
set_option maxRecDepth 100000 in
set_option maxHeartbeats 800000 in
theorem walk (a0 : Int) (w : World) (w0 : (Lit.int .i64 a0).wf = true) :
    Calls Try.prog 5 #[.int .i64 a0] w fun e w' => e = .returned (.bool true) ∧ Below w.heap.size w w' := by
  have hu := u64_eq a0
  have hul := u64_lt a0
  have HU := Lib.hid hul
  have hlo : -9223372036854775808 ≤ a0 := (bounds_i64 w0).1
  have HN : Hid (0 ≤ a0 ∨ (M.leb (u64 a0)).length = 10) := by
    by_cases h : 0 ≤ a0
    · exact .inl h
    · exact .inr (M.leb_ten _ hul (by unfold u64; omega))
  clear w0 hul hlo
  go_enter Try.func5, Try.ntmps5
  go_wp2_with fail
  refine (sanity_any _).mono ?_
  rintro e x1 ⟨rfl, b1⟩
  go_wp2_with fail
  refine (var_any _ _).mono ?_
  rintro e x2 ⟨rfl, b2⟩
  replace b1 := bt b1 b2
  clear b2
  have HL : Hid (∀ k (h : k < (⟨(M.leb (u64 a0)).toArray⟩ : ByteArray).size), (128 ≤ ((⟨(M.leb (u64 a0)).toArray⟩ : ByteArray)[k]).toNat) ↔ k + 1 < (⟨(M.leb (u64 a0)).toArray⟩ : ByteArray).size) := fun k h => by
    have := M.leb_byte (u64 a0) k (by simpa [str_size] using h)
    rw [str_size]
    exact this
  have HS : Hid ((⟨(M.leb (u64 a0)).toArray⟩ : ByteArray).size = 1 + M.cnt (u64 a0 / 128)) := by rw [str_size]; exact M.leb_length _
  have hS10 : (⟨(M.leb (u64 a0)).toArray⟩ : ByteArray).size ≤ 10 := by rw [str_size]; exact M.leb_le _ HU.out
  have HN2 : Hid (0 ≤ a0 ∨ (⟨(M.leb (u64 a0)).toArray⟩ : ByteArray).size = 10) := by rw [str_size]; exact HN.out
  generalize (⟨(M.leb (u64 a0)).toArray⟩ : ByteArray) = S at *
  have hu2 : IntKind.u64.wrap ((u64 a0 : Int) / 128) = ((u64 a0 / 128 : Nat) : Int) := by have := HU.out; rw [IntKind.wrap_u64]; omega
  go_wp2_with fail
  clear hu hu2
  go_loop [5, 6] (fun c u => ∃ k r : Nat, c = .int .i64 k ∧ u = .int .u64 r ∧ k + M.cnt r ≤ 10 ∧ Hid (S.size = k + M.cnt r) ∧ Hid (r < 18446744073709551616)) (fun _ u => (intOf u).toNat)
  case atStart => exact ⟨1, u64 a0 / 128, rfl, by go_num, by have := HS.out; omega, HS.out, (show u64 a0 / 128 < _ by have := HU.out; omega)⟩
  case round =>
    obtain ⟨k, r, rfl, rfl, hk, HK, HR⟩ := hrel
    have hr2 : IntKind.u64.wrap ((r : Int) / 128) = ((r / 128 : Nat) : Int) := by have := HR.out; rw [IntKind.wrap_u64]; omega
    by_cases hr : 0 < r
    · have hc := M.cnt_pos r hr
      have HC := Lib.hid hc
      clear hc
      go_wp2_with fail
      go_round
      case rel => exact ⟨k + 1, r / 128, by go_num, by go_num, by have := HC.out; omega, (show S.size = _ by have := HC.out; have := HK.out; omega), (show r / 128 < _ by have := HR.out; omega)⟩
      case measure => simp [intOf]; omega
    · have hr0 : r = 0 := by omega
      have hk2 : S.size = k := by have := HK.out; rw [hr0, M.cnt_zero] at this; omega
      have HK2 := Lib.hid hk2
      clear hk2 hr0
      go_wp2_with fail
      go_loop [7] (fun i => ∃ j : Nat, j ≤ S.size ∧ i = .int .i64 j) (fun i => S.size - (intOf i).toNat)
      case atStart => exact ⟨0, by omega, rfl⟩
      case round =>
        obtain ⟨j, hj, rfl⟩ := hrel
        by_cases hlt : j < S.size
        · have hb := HL.out j hlt
          by_cases hl : j + 1 < S.size
          · have hb1 : decide (128 ≤ ((S[j]).toNat : Int)) = true := by rw [decide_eq_true_eq]; omega
            have hb2 : decide ((j : Int) < (S.size : Int) - 1) = true := by rw [decide_eq_true_eq]; omega
            clear hb hl
            go_wp2_with fail
            go_round
            case rel => exact ⟨j + 1, by omega, by go_num⟩
            case measure => simp [intOf]; omega
          · have hb1 : decide (128 ≤ ((S[j]).toNat : Int)) = false := by rw [decide_eq_false_iff_not]; omega
            have hb2 : decide ((j : Int) < (S.size : Int) - 1) = false := by rw [decide_eq_false_iff_not]; omega
            clear hb hl
            go_wp2_with fail
            go_round
            case rel => exact ⟨j + 1, by omega, by go_num⟩
            case measure => simp [intOf]; omega
        · have hw : ((S.size : Int) == k) = true := by rw [beq_iff_eq]; have := HK2.out; omega
          rcases HN2.out with h0 | h10
          · go_wp2_with fail
            go_ret
            exact ⟨rfl, b1⟩
          · have hw2 : ((S.size : Int) == 10) = true := by rw [beq_iff_eq]; omega
            clear h10
            go_wp2_with fail
            all_goals
              go_ret
              exact ⟨rfl, b1⟩
end octetVarLength
namespace octetVarUnique
theorem or_high (b : UInt8) : ∃ b2 : UInt8, bits .or .u8 (b.toNat : Int) 128 = (b2.toNat : Int) ∧ 128 ≤ b2.toNat := by
  have h := u8_or_nat b.toNat 128 b.toNat_lt (by omega)
  rw [show ((128 : Nat) : Int) = 128 from rfl] at h
  have h2 := or128_nat ⟨b.toNat, b.toNat_lt⟩
  simp only at h2
  refine ⟨UInt8.ofNat (b.toNat % 128 + 128), ?_, ?_⟩
  · rw [h, h2]; simp; omega
  · simp; omega
theorem isSome_setCell (w : World) (a x : Addr) (v : Value) (h : (w.cell? x).isSome = true) : ((w.setCell a v).cell? x).isSome = true := by
  obtain ⟨u, hu⟩ := Option.isSome_iff_exists.1 h
  by_cases e : a = x
  · subst e; rw [World.cell?_setCell_same _ _ _ hu]; rfl
  · rw [World.cell?_setCell_other _ _ _ _ e, hu]; rfl
theorem leb_init (u : Nat) : ∃ L0 last, M.leb u = L0 ++ [last] ∧ ∀ b ∈ L0, 128 ≤ b.toNat := by
  refine ⟨(M.leb u).dropLast, (M.leb u).getLast (M.leb_ne u), (List.dropLast_concat_getLast _).symm, fun b hb => ?_⟩
  obtain ⟨i, hi, rfl⟩ := List.getElem_of_mem hb
  have hi2 : i < (M.leb u).length - 1 := by simpa using hi
  rw [List.getElem_dropLast]
  exact (M.leb_byte u i (by omega)).2 (by omega)
set_option maxRecDepth 100000 in
set_option maxHeartbeats 400000 in
theorem walk (a0 : ByteArray) (a1 : Int) (w : World) (w0 : a0.size ≤ 140737488351232) (w1 : (Lit.int .i64 a1).wf = true) :
    Calls Try.prog 6 #[.string a0, .int .i64 a1] w fun e w' => e = .returned (.bool true) ∧ Below w.heap.size w w' := by
  clear w1
  go_enter Try.func6, Try.ntmps6
  go_wp2_with fail
  refine (sanity_any _).mono ?_
  rintro e x1 ⟨rfl, b1⟩
  go_wp2_with fail
  refine (read_any _ _).mono ?_
  rintro e x2 ⟨rfl, hx2⟩
  have hS : St w x1.heap.size a0 0 false x2 := by subst hx2; exact St.read b1 _
  clear hx2
  go_wp2_with fail
  refine (rvar_any _ _ _ _ _ hS.rd (by omega) (by omega)).mono ?_
  rintro e x3 ⟨rfl, hg, hR3⟩
  replace hS := hS.step hg hR3
  clear hg hR3 b1
  cases hd : M.dec 0 0 (a0.data.toList.drop 0)
  case' none =>
    have hv : varRes a0 0 false = (0, 0, true) := by unfold varRes; rw [hd]; rfl
    rw [hv] at hS ⊢
    clear hv hd
    go_wp2_with fail
    refine q_region (C := St w x1.heap.size a0 0 true) (by kernel_rfl) (by kernel_rfl) hS.drew ?_
    repeat (first
      | go_big_quiet_skip
      | (go_big_quiet_want; refine q_val ?_; apply Exists.intro; refine ⟨fun x hx => ?_, ?_⟩; (focus (go_simp <;> rfl)); simp only [Act.put, List.setIfInBounds_toArray, List.set_cons_zero, List.set_cons_succ]; go_big_quiet_on)
      | (go_big_quiet_want; refine q_call 24 ?_; apply Exists.intro; refine ⟨fun x hx => ?_, ?_⟩; (focus (go_simp <;> rfl)); apply Exists.intro; refine ⟨fun x hx => ?_, ?_⟩; (focus (exact (failed_any _ _ _ _ _ hx.rd).mono fun e y ⟨he, hy⟩ => ⟨he, hy ▸ hx⟩)); simp only [Act.put, List.setIfInBounds_toArray, List.set_cons_zero, List.set_cons_succ]; go_big_quiet_on)
      | (go_big_quiet_want; refine q_call 25 ?_; apply Exists.intro; refine ⟨fun x hx => ?_, ?_⟩; (focus (go_simp <;> rfl)); apply Exists.intro; refine ⟨fun x hx => ?_, ?_⟩; (focus (exact (at_any _ _ _ _ _ hx.rd).mono fun e y ⟨he, hy⟩ => ⟨he, hy ▸ hx⟩)); simp only [Act.put, List.setIfInBounds_toArray, List.set_cons_zero, List.set_cons_succ]; go_big_quiet_on))
    refine wpQuiet_nil ?_
    intro x4 hS4
    replace hS4 := hS4.bl
    clear hS
  case' some r =>
    obtain ⟨v, n⟩ := r
    obtain ⟨hv1, hv2, rest, hv3⟩ := (M.dec_iff _ _ _).1 hd
    have hv : varRes a0 0 false = (wrap64 (v : Int), 0 + n, false) := by unfold varRes; rw [hd]; rfl
    rw [hv, Nat.zero_add] at hS
    rw [hv]
    have hn : n ≤ a0.size := by have := (M.dec_len _ _ _ hd).2.1; simpa using this
    have hu : u64 (wrap64 (v : Int)) = v := by unfold u64 wrap64; omega
    have hx : a0.extract 0 n = ⟨(M.leb v).toArray⟩ := by
      rw [Lib.extract_eq]
      simp only [List.drop_zero, Nat.sub_zero] at hv3 ⊢
      rw [hv3, hv2, List.take_left']
      rfl
    have hn' : ¬ a0.size < n := Nat.not_lt.2 hn
    clear hv hd hv1 hv2 hv3
    go_wp2_with fail
    refine q_region (C := St w x1.heap.size a0 n false) (by kernel_rfl) (by kernel_rfl) hS.drew ?_
    repeat (first
      | go_big_quiet_skip
      | (go_big_quiet_want; refine q_val ?_; apply Exists.intro; refine ⟨fun x hx => ?_, ?_⟩; (focus (go_simp <;> rfl)); simp only [Act.put, List.setIfInBounds_toArray, List.set_cons_zero, List.set_cons_succ]; go_big_quiet_on)
      | (go_big_quiet_want; refine q_call 24 ?_; apply Exists.intro; refine ⟨fun x hx => ?_, ?_⟩; (focus (go_simp <;> rfl)); apply Exists.intro; refine ⟨fun x hx => ?_, ?_⟩; (focus (exact (failed_any _ _ _ _ _ hx.rd).mono fun e y ⟨he, hy⟩ => ⟨he, hy ▸ hx⟩)); simp only [Act.put, List.setIfInBounds_toArray, List.set_cons_zero, List.set_cons_succ]; go_big_quiet_on)
      | (go_big_quiet_want; refine q_call 25 ?_; apply Exists.intro; refine ⟨fun x hx => ?_, ?_⟩; (focus (go_simp <;> rfl)); apply Exists.intro; refine ⟨fun x hx => ?_, ?_⟩; (focus (exact (at_any _ _ _ _ _ hx.rd).mono fun e y ⟨he, hy⟩ => ⟨he, hy ▸ hx⟩)); simp only [Act.put, List.setIfInBounds_toArray, List.set_cons_zero, List.set_cons_succ]; go_big_quiet_on)
      | (go_big_quiet_want; refine q_call 16 ?_; apply Exists.intro; refine ⟨fun x hx => ?_, ?_⟩; (focus (go_simp <;> rfl)); apply Exists.intro; refine ⟨fun x hx => ?_, ?_⟩; (focus (exact (var_any _ _).mono fun e y ⟨he, hb⟩ => ⟨he, hx.keep hb⟩)); simp only [Act.put, List.setIfInBounds_toArray, List.set_cons_zero, List.set_cons_succ]; go_big_quiet_on))
    refine wpQuiet_nil ?_
    intro x4 hS4
    replace hS4 := hS4.bl
    clear hS
  all_goals
    go_wp2_with fail
    refine (var_any _ _).mono ?_
    rintro e x5 ⟨rfl, b5⟩
    replace hS4 := bt hS4 b5
    clear b5
    have HLU := leb_init (u64 a1)
    have hl10 := M.leb_le _ (u64_lt a1)
    generalize M.leb (u64 a1) = L at *
    obtain ⟨L0, last, hL, hall⟩ := HLU
    obtain ⟨W1, cap, hcb, hcap, hlie, hfree, hbW, hgW⟩ := conv_bytes x5 ⟨L.toArray⟩
    have hbw := bt hS4 hbW
    have hb5 := hS4
    clear hS4 hbW
    subst hL
    have hsz : (⟨(L0 ++ [last]).toArray⟩ : ByteArray).size = L0.length + 1 := by rw [str_size]; simp
    rw [hsz] at hcap hcb
    have hlie1 : Lie x5.heap.size (L0 ++ [last]) W1 := hlie
    clear hlie
    obtain ⟨b2, hor, hb2⟩ : ∃ b2 : UInt8, bits .or .u8 (last.toNat : Int) 128 = (b2.toNat : Int) ∧ 128 ≤ b2.toNat := or_high last
    have hlie2 := hlie1.set L0.length (by simp) b2
    have hset : (L0 ++ [last]).set L0.length b2 = L0 ++ [b2] := by simp
    rw [hset] at hlie2
    have hlc := hlie1 L0.length (by simp)
    rw [List.getElem_concat_length rfl] at hlc
    have hff := (hfree L0.length (by omega)).1
    have hlong : M.dec 0 0 (L0 ++ [b2] ++ [0]) = none := M.dec_long (L0 ++ [b2]) 0 0 (by intro b hb; rcases List.mem_append.1 hb with h | h; exact hall b h; simp at h; subst h; exact hb2) (by simp)
    have hfree2 : ∀ j, j < cap → (W1.setCell ⟨x5.heap.size, L0.length, none⟩ (.int .u8 (b2.toNat : Int))).frozen? ⟨x5.heap.size, j, none⟩ = false ∧ ((W1.setCell ⟨x5.heap.size, L0.length, none⟩ (.int .u8 (b2.toNat : Int))).cell? ⟨x5.heap.size, j, none⟩).isSome = true := fun j hj =>
      ⟨by rw [World.frozen?_setCell]; exact (hfree j hj).1, isSome_setCell _ _ _ _ (hfree j hj).2⟩
    have hlb : (L0 ++ [b2]).length = L0.length + 1 := by simp
    have HK := Lib.hid (⟨hlie2, hlong, hfree2, hlb⟩ : _ ∧ _ ∧ _ ∧ _)
    clear hlie1 hlie2 hfree hfree2 hlong hall hset hb2 hlb
    have hL9 : L0.length ≤ 9 := by simp at hl10; omega
    clear hl10
    generalize L0.length = K at *
    have hgW2 : x5.heap.size < (W1.setCell ⟨x5.heap.size, K, none⟩ (.int .u8 (b2.toNat : Int))).heap.size := by simpa [World.setCell] using hgW
    have hbx : w.heap.size ≤ x5.heap.size := hb5.size
    have hszW : Hid (W1.heap.size = (W1.setCell ⟨x5.heap.size, K, none⟩ (.int .u8 (b2.toNat : Int))).heap.size) := by show _ = _; simp [World.setCell]
    clear hb5
    go_wp2_with (at_builtin; refine wp_push_lie _ rfl _ _ rfl w.heap.size x5.heap.size (K + 1) cap (L0 ++ [b2]) 0 rfl HK.out.2.2.2 HK.out.1 HK.out.2.2.1 _ rfl _ _ hszW.out rfl (by omega) hbx hgW2 ?_)
    intro v' W2 hconv hb2
    replace hb2 := (hbw.setCell (p := ⟨x5.heap.size, K, none⟩) hbx (.int .u8 (b2.toNat : Int))).trans hb2
    have hz := HK.out.2.1
    have HZ := Lib.hid hz
    clear hz HK hlc hff hgW hgW2 hor hcb hbw hcap
    go_wp2_with fail
    refine (read_any _ _).mono ?_
    rintro e x6 ⟨rfl, hx6⟩
    have hS6 : St w W2.heap.size ⟨(L0 ++ [b2, 0]).toArray⟩ 0 false x6 := by subst hx6; exact St.read hb2 _
    clear hx6
    have hvr : varRes ⟨(L0 ++ [b2, 0]).toArray⟩ 0 false = (0, 0, true) := by
      have := HZ.out
      unfold varRes
      rw [List.drop_zero, show (⟨(L0 ++ [b2, 0]).toArray⟩ : ByteArray).data.toList = L0 ++ [b2] ++ [0] by simp, this]
      rfl
    have HV := Lib.hid hvr
    clear hvr HZ hconv
    have hss : (⟨(L0 ++ [b2, 0]).toArray⟩ : ByteArray).size ≤ 1000000000000000000 := by
      rw [str_size]
      rw [str_size] at hsz
      simp at hsz ⊢
      omega
    generalize (⟨(L0 ++ [b2, 0]).toArray⟩ : ByteArray) = Z at *
    go_wp2_with fail
    refine (rvar_any _ _ _ _ _ hS6.rd hss (Nat.zero_le _)).mono ?_
    rw [HV.out]
    rintro e x7 ⟨rfl, hg7, hR7⟩
    replace hS6 := hS6.step hg7 hR7
    clear hg7 hR7
    go_wp2_with fail
    refine (failed_any _ _ _ _ _ hS6.rd).mono ?_
    rintro e x8 ⟨rfl, rfl⟩
    go_wp2_with fail
    go_ret
    exact ⟨rfl, hS6.bl⟩
end octetVarUnique
end Go.Proofs.Ytcanmfkocbnbfaa
