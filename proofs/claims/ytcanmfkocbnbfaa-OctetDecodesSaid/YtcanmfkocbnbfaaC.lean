/- Walks of layer 1: the reference's Var and Put, and Text. -/
import Derived.Test.YtcanmfkocbnbfaaB
namespace Go.Proofs.Ytcanmfkocbnbfaa
open Go.RowKit

theorem byte_large (r : Nat) : ((r : Int) % 128 + 128) = ((UInt8.ofNat (r % 128 + 128)).toNat : Int) := by simp; omega

set_option maxRecDepth 100000 in
set_option maxHeartbeats 400000 in
theorem var_ref (n : Int) (w : World) :
    Calls Try.prog 17 #[.int .i64 n] w fun e w' => e = .returned (.string ⟨(M.leb (u64 n)).toArray⟩) ∧ Below w.heap.size w w' := by
  have hu := u64_eq n
  have hul := u64_lt n
  have hll := M.leb_le _ hul
  go_enter Try.func17, Try.ntmps17
  go_wp2_with fail
  go_loopw [3, 4] (fun v u wr => ∃ (l : List UInt8) (r : Nat), u = .int .u64 (r : Int) ∧ Hid (r < 18446744073709551616) ∧ Hid (M.leb (u64 n) = l ++ M.leb r) ∧ wr.ownsRow w.heap.size 5 1 v l.length (bvals l) ∧ Below w.heap.size w wr)
    (fun _ u _ => (intOf u).toNat)
  case atStart => exact ⟨[], u64 n, rfl, hul, rfl, World.ownsRow_lit w #[] 0 (Nat.le_refl _) (Nat.zero_le _) rfl, (Below.refl _ _).alloc (Nat.le_refl _) _⟩
  case round =>
    obtain ⟨l, r, rfl, hr, HL, hown, hb⟩ := hrel
    clear hu hul
    have hlen : l.length + (M.leb r).length ≤ 10 := by rw [← List.length_append, ← HL.out]; exact hll
    have hpos := M.leb_pos r
    have hsz := hb.size
    clear hll
    have hr2 : IntKind.u64.wrap ((r : Int) / 128) = ((r / 128 : Nat) : Int) := by have := hr.out; rw [IntKind.wrap_u64]; omega
    go_wp2_with (at_builtin; refine wp_push _ rfl _ _ 35 5 rfl Try.underlying35 (.int .u8 0) 1 Try.info5 rfl w.heap.size _ _ _ rfl hown _ _ rfl rfl (by omega) (by omega) hsz ?_)
    · intro v' w' hown' hne hb' hsz'
      have hge : 128 ≤ (r : Int) := by assumption
      have hown2 := vown hown' (byte_large r) rfl
      clear hown' hown
      go_wp2_with fail
      go_roundw
      case rel => exact ⟨_, r / 128, by go_num, (show r / 128 < 18446744073709551616 by have := hr.out; omega), (show M.leb (u64 n) = _ by rw [HL.out, M.leb_large r (by omega), List.append_assoc]; rfl), hown2, hb.trans hb'⟩
      case measure => simp [intOf]; omega
    · intro v' w' hown' hne hb' hsz'
      have hge : (r : Int) < 128 := by assumption
      have hown2 := vown hown' (byte_small r (by omega)) rfl
      have hc := conv_own (P := Try.prog) w' 35 9 5 Try.underlying35 Try.underlying5 Try.underlying9 _ _ _ _ hown2
      have hfin : M.leb (u64 n) = l ++ [UInt8.ofNat r] := by rw [HL.out, M.leb_small r (by omega)]
      have HF := Lib.hid hfin
      clear hown' hown hfin
      go_wp2_with fail
      go_ret
      exact ⟨by rw [HF.out]; rfl, hb.trans hb'⟩

/-- What Text gives. -/
def txt (s : ByteArray) : List UInt8 := M.leb s.size ++ s.data.toList
theorem txt_eq (s : ByteArray) : (⟨(M.leb s.size).toArray⟩ : ByteArray) ++ s = ⟨(txt s).toArray⟩ := by
  unfold txt; rw [← str_append, str_mk]

theorem u64_nat (n : Nat) (h : n ≤ 9223372036854775807) : u64 (n : Int) = n := by unfold u64; omega

set_option maxRecDepth 100000 in
set_option maxHeartbeats 400000 in
theorem text_any (s : ByteArray) (w : World) (hs : s.size ≤ 1000000000000000000) :
    Calls Try.prog 18 #[.string s] w fun e w' => e = .returned (.string ⟨(txt s).toArray⟩) ∧ Below w.heap.size w w' := by
  have hl := M.leb_le (u64 s.size) (u64_lt _)
  have HF : Hid ((⟨(M.leb (u64 s.size)).toArray⟩ : ByteArray) ++ s = ⟨(txt s).toArray⟩) := by rw [u64_nat _ (by omega)]; exact txt_eq s
  go_enter Try.func18, Try.ntmps18
  go_wp2_with fail
  refine (var_any _ _).mono ?_
  rintro e w' ⟨rfl, hb⟩
  go_wp2_with fail
  go_ret
  exact ⟨ret_str HF.out, hb⟩

set_option maxRecDepth 100000 in
set_option maxHeartbeats 400000 in
theorem text_ref (s : ByteArray) (w : World) (hs : s.size ≤ 1000000000000000000) :
    Calls Try.prog 19 #[.string s] w fun e w' => e = .returned (.string ⟨(txt s).toArray⟩) ∧ Below w.heap.size w w' := by
  have hl := M.leb_le (u64 s.size) (u64_lt _)
  have HF : Hid ((⟨(M.leb (u64 s.size)).toArray⟩ : ByteArray) ++ s = ⟨(txt s).toArray⟩) := by rw [u64_nat _ (by omega)]; exact txt_eq s
  go_enter Try.func19, Try.ntmps19
  go_wp2_with fail
  refine (var_ref _ _).mono ?_
  rintro e w' ⟨rfl, hb⟩
  go_wp2_with fail
  go_ret
  exact ⟨ret_str HF.out, hb⟩


/-- u / 256^k. -/
def dn (u k : Nat) : Nat := u / 256 ^ k
theorem dn_zero (u : Nat) : dn u 0 = u := by simp [dn]
theorem dn_succ (u k : Nat) : dn u (k + 1) = dn u k / 256 := by unfold dn; rw [Nat.pow_succ, Nat.div_div_eq_div_mul]
theorem dn_le (u k : Nat) : dn u k ≤ u := Nat.div_le_self _ _
theorem one_byte (r : Nat) : ∀ j (h : j < [UInt8.ofNat r].length), (#[Value.int .u8 ((r : Int) % 256)] : Array Value)[0 + j]? = some (.int .u8 (([UInt8.ofNat r][j]).toNat : Int)) := by
  intro j hj
  have : j = 0 := by simpa using hj
  subst this
  simp
theorem be_dn (u k : Nat) : M.be (k + 1) u = UInt8.ofNat (dn u k) :: M.be k u := rfl

set_option maxRecDepth 100000 in
set_option maxHeartbeats 400000 in
theorem put_ref (n m : Int) (w : World) :
    Calls Try.prog 15 #[.int .i64 n, .int .i64 m] w fun e w' => e = .returned (.string ⟨(M.be (sz m) (u64 n)).toArray⟩) ∧ Below w.heap.size w w' := by
  have hs8 := sz_le m
  have hu := u64_eq n
  have hul := u64_lt n
  go_enter Try.func15, Try.ntmps15
  go_wp2_with fail
  clear hu
  go_loopw [5, 6, 7] (fun s u i wr => ∃ k r : Nat, k ≤ sz m ∧ i = .int .i64 k ∧ u = .int .u64 r ∧ Hid (r = dn (u64 n) k) ∧ s = .string ⟨(M.be k (u64 n)).toArray⟩ ∧ Below w.heap.size w wr)
    (fun _ _ i _ => 9 - (intOf i).toNat)
  case atStart => exact ⟨0, u64 n, Nat.zero_le _, rfl, rfl, (dn_zero _).symm, rfl, Below.refl _ _⟩
  case round =>
    obtain ⟨k, r, hk, rfl, rfl, HR, rfl, hb⟩ := hrel
    have hr : IntKind.u64.wrap ((r : Int) / 256) = ((r / 256 : Nat) : Int) := by have h1 := HR.out; have := dn_le (u64 n) k; rw [IntKind.wrap_u64]; omega
    have hbl : (M.be k (u64 n)).length ≤ 8 := by rw [M.be_length]; omega
    clear hul
    go_wp2_with fail
    refine (size_ref _ _).mono ?_
    rintro e w' ⟨rfl, rfl⟩
    by_cases hlt : k < sz m
    · go_wp2_with fail
      rw [conv_row (P := Try.prog) _ 35 9 5 Try.underlying35 Try.underlying5 Try.underlying9 wr.heap.size 5 (0,0) #[.int .u8 ((r : Int) % 256)] (heap_alloc_new _ _) 0 1 1 [UInt8.ofNat r] rfl (one_byte r)]
      have HA : Hid ((⟨[UInt8.ofNat r].toArray⟩ : ByteArray) ++ ⟨(M.be k (u64 n)).toArray⟩ = ⟨(M.be (k + 1) (u64 n)).toArray⟩) := by
        rw [str_append, be_dn, HR.out]; rfl
      go_wp2_with fail
      go_roundw
      case rel => exact ⟨k + 1, r / 256, by omega, by go_num, by go_num, (show r / 256 = _ by rw [dn_succ, ← HR.out]), by rw [← HA.out], hb.alloc hb.size _⟩
      case measure => simp [intOf]; omega
    · go_wp2_with fail
      have hkk : k = sz m := by omega
      go_ret
      exact ⟨by rw [← hkk]; rfl, hb⟩
end Go.Proofs.Ytcanmfkocbnbfaa
