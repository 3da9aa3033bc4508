/- Walks of the reader: the octet claims' texts, turned to this seat by genOct.py. -/
import Derived.Test.YtpdckpifhniioaaOc1
import Derived.Deep.QuietTactic
import Derived.BigQuiet
import Derived.Lib.QuoteBits
set_option linter.unusedVariables false
set_option linter.unusedSimpArgs false
namespace Go.Proofs.Ytpdckpifhniioaa.Oct
open Go.RowKit
open Go.Proofs.Ytpdckpifhniioaa

/-- Block b is a reader of s at place p; f: has a call failed? -/
def Rd (T : TypeId) (b : Nat) (s : ByteArray) (p : Nat) (f : Bool) (w : World) : Prop := ∃ zs : List Value, w.heap[b]? = some (.cells (([.string s, .int .i64 (p : Int), .bool f] : List Value) ++ zs).toArray T (0, 0))
theorem Rd.c0 {T b s p f w} (h : Rd T b s p f w) : w.cell? ⟨b, 0, none⟩ = some (.string s) := by obtain ⟨zs, h⟩ := h; rw [cell_of_row w b 0 _ _ _ h]; simp
theorem Rd.c1 {T b s p f w} (h : Rd T b s p f w) : w.cell? ⟨b, 1, none⟩ = some (.int .i64 (p : Int)) := by obtain ⟨zs, h⟩ := h; rw [cell_of_row w b 1 _ _ _ h]; simp
theorem Rd.c2 {T b s p f w} (h : Rd T b s p f w) : w.cell? ⟨b, 2, none⟩ = some (.bool f) := by obtain ⟨zs, h⟩ := h; rw [cell_of_row w b 2 _ _ _ h]; simp
theorem Rd.fz {T b s p f w} (h : Rd T b s p f w) (j : Nat) : w.frozen? ⟨b, j, none⟩ = false := by obtain ⟨zs, h⟩ := h; exact frozen_of_row w b j _ _ h
theorem Rd.put1 {T b s p f w} (h : Rd T b s p f w) (q : Nat) : Rd T b s q f (w.setCell ⟨b, 1, none⟩ (.int .i64 (q : Int))) := by
  obtain ⟨zs, h⟩ := h; refine ⟨zs, ?_⟩; rw [heap_setCell_same _ _ _ _ _ _ h]; simp
theorem Rd.put2 {T b s p f w} (h : Rd T b s p f w) (g : Bool) : Rd T b s p g (w.setCell ⟨b, 2, none⟩ (.bool g)) := by
  obtain ⟨zs, h⟩ := h; refine ⟨zs, ?_⟩; rw [heap_setCell_same _ _ _ _ _ _ h]; simp

theorem grown_refl (b : Nat) (w : World) : w.grownBy w (some b) := ⟨rfl, rfl, rfl, Nat.le_refl _, fun _ _ _ => rfl⟩
theorem grown_trans {b : Nat} {w w1 w2 : World} (h : w.grownBy w1 (some b)) (k : w1.grownBy w2 (some b)) : w.grownBy w2 (some b) :=
  ⟨k.os.trans h.os, k.tape.trans h.tape, k.output.trans h.output, Nat.le_trans h.size k.size, fun i hi hn => (k.block i (Nat.lt_of_lt_of_le hi h.size) hn).trans (h.block i hi hn)⟩
theorem grown_set {b : Nat} {w w1 : World} (h : w.grownBy w1 (some b)) (j : Nat) (v : Value) : w.grownBy (w1.setCell ⟨b, j, none⟩ v) (some b) :=
  ⟨h.os, h.tape, h.output, by simpa [World.setCell] using h.size, fun i hi hn => by rw [heap_setCell_other _ _ _ _ (by intro e; exact hn (by rw [e]))]; exact h.block i hi hn⟩
theorem grown_drew {b : Nat} {w w1 : World} (h : w.grownBy w1 (some b)) : w.grownBy w1.drew (some b) := ⟨h.os, h.tape, h.output, h.size, h.block⟩
theorem grown_drewN {b n : Nat} {w w1 : World} (h : w.grownBy w1 (some b)) : w.grownBy (w1.drewN n) (some b) := ⟨h.os, h.tape, h.output, h.size, h.block⟩
theorem grown_below {b : Nat} {w w1 : World} (h : Below w.heap.size w w1) : w.grownBy w1 (some b) := ⟨h.os, h.tape, h.output, h.size, fun i hi _ => h.block i hi⟩

theorem read_any (s : ByteArray) (w : World) :
    Calls Try.prog 27 #[.string s] w fun e w' => e = .returned (.pointer (some ⟨w.heap.size, 0, none⟩)) ∧ w.alloc (.cells #[.string s, .int .i64 0, .bool false] 112) = w' := by
  go_enter Try.func27, Try.ntmps27
  go_wp2_with fail
  go_ret
  exact ⟨rfl, rfl⟩

theorem failed_any (b : Nat) (s : ByteArray) (p : Nat) (f : Bool) (w : World) (h : Rd 112 b s p f w) :
    Calls Try.prog 30 #[.pointer (some ⟨b, 0, none⟩)] w fun e w' => e = .returned (.bool f) ∧ w = w' := by
  have h2 := h.c2
  go_enter Try.func30, Try.ntmps30
  go_wp2_with fail
  go_ret
  exact ⟨rfl, rfl⟩

theorem failed_nil (w : World) :
    Calls Try.prog 30 #[.pointer none] w fun e w' => e = .returned (.bool true) ∧ w = w' := by
  go_enter Try.func30, Try.ntmps30
  go_wp2_with fail
  go_ret
  exact ⟨rfl, rfl⟩

theorem left_any (b : Nat) (s : ByteArray) (p : Nat) (f : Bool) (w : World) (h : Rd 112 b s p f w) (hs : s.size ≤ 1000000000000000000) (hp : p ≤ s.size) :
    Calls Try.prog 32 #[.pointer (some ⟨b, 0, none⟩)] w fun e w' => e = .returned (.int .i64 ((s.size : Int) - p)) ∧ ∃ n, w' = w.drewN n := by
  have h0 := h.c0
  have h1 := h.c1
  go_enter Try.func32, Try.ntmps32
  go_wp2_with fail
  go_quiet (fail)
  go_wp2_with fail
  go_ret
  exact ⟨rfl, _, rfl⟩

theorem left_nil (w : World) :
    Calls Try.prog 32 #[.pointer none] w fun e w' => e = .returned (.int .i64 0) ∧ w = w' := by
  go_enter Try.func32, Try.ntmps32
  go_wp2_with fail
  go_ret
  exact ⟨rfl, rfl⟩

theorem Rd.drewN {T b s p f w} (h : Rd T b s p f w) (n : Nat) : Rd T b s p f (w.drewN n) := h

theorem take_no (b : Nat) (s : ByteArray) (p : Nat) (f : Bool) (w : World) (n : Int) (h : Rd 112 b s p f w) (hs : s.size ≤ 1000000000000000000) (hp : p ≤ s.size)
    (hn : f = true ∨ n < 0 ∨ (s.size : Int) - p < n) :
    Calls Try.prog 33 #[.pointer (some ⟨b, 0, none⟩), .int .i64 n] w fun e w' => e = .returned (.string ⟨#[]⟩) ∧ w.grownBy w' (some b) ∧ Rd 112 b s p true w' := by
  have h2 := h.c2
  have hf := h.fz 2
  cases f with
  | true =>
    clear hn
    go_enter Try.func33, Try.ntmps33
    go_wp2_with fail
    go_ret
    exact ⟨rfl, grown_set (grown_refl _ _) _ _, h.put2 _⟩
  | false =>
    by_cases h0 : n < 0
    · clear hn
      go_enter Try.func33, Try.ntmps33
      go_wp2_with fail
      go_ret
      exact ⟨rfl, grown_set (grown_refl _ _) _ _, h.put2 _⟩
    · have h3 : (s.size : Int) - p < n := by rcases hn with h | h | h <;> first | omega | simp at h
      clear hn
      go_enter Try.func33, Try.ntmps33
      go_wp2_with fail
      refine (left_any b s p false _ h hs hp).mono ?_
      rintro e w1 ⟨rfl, nq, hw⟩
      subst hw
      have h2' : (w.drewN nq).cell? ⟨b, 2, none⟩ = some (.bool false) := h2
      have hf' : (w.drewN nq).frozen? ⟨b, 2, none⟩ = false := hf
      go_wp2_with fail
      go_ret
      exact ⟨rfl, grown_set (grown_drewN (grown_refl _ _)) _ _, (h.drewN nq).put2 _⟩

theorem take_nil (w : World) (n : Int) :
    Calls Try.prog 33 #[.pointer none, .int .i64 n] w fun e w' => e = .returned (.string ⟨#[]⟩) ∧ w = w' := by
  go_enter Try.func33, Try.ntmps33
  go_wp2_with fail
  go_ret
  exact ⟨rfl, rfl⟩

set_option maxHeartbeats 400000 in
theorem take_yes (b : Nat) (s : ByteArray) (p : Nat) (w : World) (n : Nat) (h : Rd 112 b s p false w) (hs : s.size ≤ 1000000000000000000) (hp : p + n ≤ s.size) :
    Calls Try.prog 33 #[.pointer (some ⟨b, 0, none⟩), .int .i64 n] w fun e w' => e = .returned (.string (s.extract p (p + n))) ∧ w.grownBy w' (some b) ∧ Rd 112 b s (p + n) false w' := by
  have h2 := h.c2
  have h3 : ¬ ((s.size : Int) - p < (n : Int)) := by omega
  go_enter Try.func33, Try.ntmps33
  go_wp2_with fail
  refine (left_any b s p false _ h hs (by omega)).mono ?_
  rintro e w1 ⟨rfl, nq, hw⟩
  subst hw
  have h0' : (w.drewN nq).cell? ⟨b, 0, none⟩ = some (.string s) := h.c0
  have h1' : (w.drewN nq).cell? ⟨b, 1, none⟩ = some (.int .i64 (p : Int)) := h.c1
  have hf' : (w.drewN nq).frozen? ⟨b, 1, none⟩ = false := h.fz 1
  go_wp2_with fail
  go_quiet (fail)
  go_wp2_with fail
  go_ret
  exact ⟨rfl, grown_drewN (grown_set (grown_drewN (grown_refl _ _)) _ _), (Rd.put1 (Rd.drewN h _) (p + n)).drewN _⟩

/-- What Take gives: the bytes, the place, whether it has failed. -/
def takeRes (s : ByteArray) (p : Nat) (f : Bool) (n : Int) : ByteArray × Nat × Bool :=
  if f = true ∨ n < 0 ∨ (s.size : Int) - p < n then (⟨#[]⟩, p, true) else (s.extract p (p + n.toNat), p + n.toNat, false)

theorem takeRes_le (s : ByteArray) (p : Nat) (f : Bool) (n : Int) (hp : p ≤ s.size) : (takeRes s p f n).2.1 ≤ s.size := by
  unfold takeRes
  split
  · exact hp
  · show p + n.toNat ≤ s.size
    omega
theorem takeRes_size (s : ByteArray) (p : Nat) (f : Bool) (n : Int) : (takeRes s p f n).1.size ≤ s.size := by
  unfold takeRes
  split
  · exact Nat.zero_le _
  · simp; omega

theorem take_any (b : Nat) (s : ByteArray) (p : Nat) (f : Bool) (w : World) (n : Int) (h : Rd 112 b s p f w) (hs : s.size ≤ 1000000000000000000) (hp : p ≤ s.size) :
    Calls Try.prog 33 #[.pointer (some ⟨b, 0, none⟩), .int .i64 n] w fun e w' => e = .returned (.string (takeRes s p f n).1) ∧ w.grownBy w' (some b) ∧ Rd 112 b s (takeRes s p f n).2.1 (takeRes s p f n).2.2 w' := by
  by_cases hn : f = true ∨ n < 0 ∨ (s.size : Int) - p < n
  · have e : takeRes s p f n = (⟨#[]⟩, p, true) := by unfold takeRes; rw [if_pos hn]
    rw [e]
    exact take_no b s p f w n h hs hp hn
  · have e : takeRes s p f n = (s.extract p (p + n.toNat), p + n.toNat, false) := by unfold takeRes; rw [if_neg hn]
    rw [e]
    have hf : f = false := by cases f <;> simp_all
    subst hf
    obtain ⟨m, rfl⟩ := Int.eq_ofNat_of_zero_le (show 0 ≤ n by omega)
    rw [Int.toNat_natCast]
    exact take_yes b s p w m h hs (by omega)
namespace M

/-- The scan: index, what was gathered, what is left; the value and the number of bytes. -/
def dec : Nat → Nat → List UInt8 → Option (Nat × Nat)
  | _, _, [] => none
  | i, u, b :: l =>
    if 10 ≤ i then none
    else if 128 ≤ b.toNat then dec (i + 1) (u + b.toNat % 128 * 128 ^ i) l
    else if (0 < i ∧ b.toNat = 0) ∨ (i = 9 ∧ 1 < b.toNat) then none
    else some (u + b.toNat * 128 ^ i, i + 1)

theorem dec_ten (i u : Nat) (l : List UInt8) (h : 10 ≤ i) : dec i u l = none := by
  cases l with
  | nil => rfl
  | cons b l => rw [dec, if_pos h]
theorem dec_more (i u : Nat) (b : UInt8) (l : List UInt8) (h : i < 10) (hb : 128 ≤ b.toNat) : dec i u (b :: l) = dec (i + 1) (u + b.toNat % 128 * 128 ^ i) l := by
  rw [dec, if_neg (by omega), if_pos hb]
theorem dec_bad (i u : Nat) (b : UInt8) (l : List UInt8) (h : i < 10) (hb : b.toNat < 128) (hz : (0 < i ∧ b.toNat = 0) ∨ (i = 9 ∧ 1 < b.toNat)) : dec i u (b :: l) = none := by
  rw [dec, if_neg (by omega), if_neg (by omega), if_pos hz]
theorem dec_good (i u : Nat) (b : UInt8) (l : List UInt8) (h : i < 10) (hb : b.toNat < 128) (hz : ¬ ((0 < i ∧ b.toNat = 0) ∨ (i = 9 ∧ 1 < b.toNat))) : dec i u (b :: l) = some (u + b.toNat * 128 ^ i, i + 1) := by
  rw [dec, if_neg (by omega), if_neg (by omega), if_neg hz]

theorem pow9 : (128 : Nat) ^ 9 = 9223372036854775808 := by decide
theorem pow10 : (128 : Nat) ^ 10 = 1180591620717411303424 := by decide
theorem pow_le9 (i : Nat) (h : i ≤ 9) : (128 : Nat) ^ i ≤ 9223372036854775808 := by
  rw [← pow9]; exact Nat.pow_le_pow_right (by omega) h
theorem pow_pos' (i : Nat) : 0 < (128 : Nat) ^ i := Nat.pow_pos (by omega)

/-- An encoding is decoded, whatever follows. -/
theorem dec_leb (r : Nat) : ∀ (i u : Nat) (rest : List UInt8), i + (leb r).length ≤ 10 → (i = 0 ∨ r ≠ 0) → r * 128 ^ i < 18446744073709551616 →
    dec i u (leb r ++ rest) = some (u + r * 128 ^ i, i + (leb r).length) := by
  induction r using Nat.strongRecOn with
  | _ r ih =>
    intro i u rest hl h0 hb
    have hp := leb_pos r
    by_cases h : r < 128
    · rw [leb_small r h, List.cons_append, List.nil_append]
      have hr : (UInt8.ofNat r).toNat = r := by simp; omega
      rw [dec_good i u _ rest (by omega) (by omega)]
      · rw [hr]; rfl
      · rw [hr]
        rintro (⟨h1, h2⟩ | ⟨h1, h2⟩)
        · omega
        · subst h1; rw [pow9] at hb; omega
    · have hll : (leb r).length = (leb (r / 128)).length + 1 := by rw [leb_large r h]; rfl
      have hr : (UInt8.ofNat (r % 128 + 128)).toNat = r % 128 + 128 := by simp; omega
      rw [hll]
      rw [leb_large r h, List.cons_append, dec_more i u _ _ (by omega) (by omega), hr]
      have e : (r / 128) * 128 ^ (i + 1) = (r / 128 * 128) * 128 ^ i := by rw [Nat.pow_succ]; rw [Nat.mul_assoc, Nat.mul_comm (128 ^ i) 128]
      have e2 : (r % 128 + 128) % 128 = r % 128 := by omega
      rw [e2, ih (r / 128) (by omega) (i + 1) _ rest (by omega) (by omega) (by rw [e]; exact Nat.lt_of_le_of_lt (Nat.mul_le_mul_right _ (by omega)) hb), e]
      have e3 : u + r % 128 * 128 ^ i + r / 128 * 128 * 128 ^ i = u + r * 128 ^ i := by
        rw [Nat.add_assoc, ← Nat.add_mul]; congr 2; omega
      rw [e3]
      congr 2; omega

/-- What is decoded is an encoding. -/
theorem dec_inv : ∀ (l : List UInt8) (i u v n : Nat), dec i u l = some (v, n) →
    ∃ r rest, l = leb r ++ rest ∧ v = u + r * 128 ^ i ∧ n = i + (leb r).length ∧ (i = 0 ∨ r ≠ 0) ∧ i + (leb r).length ≤ 10 ∧ r * 128 ^ i < 18446744073709551616
  | [], i, u, v, n, h => by simp [dec] at h
  | b :: l, i, u, v, n, h => by
    by_cases hi : 10 ≤ i
    · rw [dec_ten _ _ _ hi] at h; simp at h
    · by_cases hb : 128 ≤ b.toNat
      · rw [dec_more i u b l (by omega) hb] at h
        obtain ⟨r, rest, h1, h2, h3, h4, h5, h6⟩ := dec_inv l (i + 1) _ v n h
        have hr : r ≠ 0 := by omega
        have hbl := b.toNat_lt
        have e1 : (b.toNat % 128 + 128 * r) % 128 = b.toNat % 128 := by omega
        have e2 : (b.toNat % 128 + 128 * r) / 128 = r := by omega
        have hL : leb (b.toNat % 128 + 128 * r) = b :: leb r := by
          rw [leb_large _ (by omega), e1, e2]
          congr 1
          apply UInt8.toNat_inj.1
          simp; omega
        have e3 : (b.toNat % 128 + 128 * r) * 128 ^ i = b.toNat % 128 * 128 ^ i + r * 128 ^ (i + 1) := by
          rw [Nat.add_mul, Nat.pow_succ]; congr 1; rw [Nat.mul_comm 128 r, Nat.mul_assoc, Nat.mul_comm 128]
        refine ⟨b.toNat % 128 + 128 * r, rest, by rw [hL, h1]; rfl, by rw [h2, e3]; omega, by rw [h3, hL, List.length_cons]; omega, by omega, by rw [hL, List.length_cons]; omega, ?_⟩
        have hlast : r * 128 ^ (i + 1) < 18446744073709551616 := h6
        rw [e3]
        have hp := pow_le9 i (by omega)
        have h9 : i + 1 ≤ 9 := by have := leb_pos r; omega
        have hd : ∃ m, 18446744073709551616 = m * 128 ^ (i + 1) := by
          have : i + 1 = 1 ∨ i + 1 = 2 ∨ i + 1 = 3 ∨ i + 1 = 4 ∨ i + 1 = 5 ∨ i + 1 = 6 ∨ i + 1 = 7 ∨ i + 1 = 8 ∨ i + 1 = 9 := by omega
          rcases this with e | e | e | e | e | e | e | e | e <;> rw [e]
          · exact ⟨144115188075855872, by decide⟩
          · exact ⟨1125899906842624, by decide⟩
          · exact ⟨8796093022208, by decide⟩
          · exact ⟨68719476736, by decide⟩
          · exact ⟨536870912, by decide⟩
          · exact ⟨4194304, by decide⟩
          · exact ⟨32768, by decide⟩
          · exact ⟨256, by decide⟩
          · exact ⟨2, by decide⟩
        obtain ⟨m, hm⟩ := hd
        have hrm : r < m := by
          rw [hm] at hlast
          exact Nat.lt_of_mul_lt_mul_right hlast
        have h7 : (r + 1) * 128 ^ (i + 1) ≤ 18446744073709551616 := by rw [hm]; exact Nat.mul_le_mul_right _ hrm
        have h8 : b.toNat % 128 * 128 ^ i < 128 ^ (i + 1) := by
          rw [Nat.pow_succ, Nat.mul_comm (128 ^ i) 128]
          exact Nat.mul_lt_mul_of_pos_right (by omega) (pow_pos' i)
        rw [Nat.add_mul, Nat.one_mul] at h7
        omega
      · by_cases hz : (0 < i ∧ b.toNat = 0) ∨ (i = 9 ∧ 1 < b.toNat)
        · rw [dec_bad i u b l (by omega) (by omega) hz] at h; simp at h
        · rw [dec_good i u b l (by omega) (by omega) hz] at h
          simp only [Option.some.injEq, Prod.mk.injEq] at h
          have hL : leb b.toNat = [b] := by
            rw [leb_small _ (by omega)]
            congr 1
            apply UInt8.toNat_inj.1
            simp
          refine ⟨b.toNat, l, by rw [hL]; rfl, h.1.symm, by rw [hL]; exact h.2.symm, by omega, by rw [hL]; simp; omega, ?_⟩
          by_cases h9 : i = 9
          · subst h9; rw [pow9]; omega
          · have : (128 : Nat) ^ i ≤ 128 ^ 8 := Nat.pow_le_pow_right (by omega) (by omega)
            have e8 : (128 : Nat) ^ 8 = 72057594037927936 := by decide
            rw [e8] at this
            have := Nat.mul_le_mul (show b.toNat ≤ 127 by omega) this
            omega

/-- Decoding from the start: exactly the encodings of 64-bit numbers. -/
theorem dec_iff (l : List UInt8) (v n : Nat) : dec 0 0 l = some (v, n) ↔ v < 18446744073709551616 ∧ n = (leb v).length ∧ ∃ rest, l = leb v ++ rest := by
  constructor
  · intro h
    obtain ⟨r, rest, h1, h2, h3, _, _, h6⟩ := dec_inv l 0 0 v n h
    have : v = r := by simpa using h2
    subst this
    exact ⟨by simpa using h6, by simpa using h3, rest, h1⟩
  · rintro ⟨h1, h2, rest, h3⟩
    have := dec_leb v 0 0 rest (by have := leb_le v h1; omega) (.inl rfl) (by simpa using h1)
    rw [h3, this, h2]; simp

theorem dec_len (l : List UInt8) (v n : Nat) (h : dec 0 0 l = some (v, n)) : 1 ≤ n ∧ n ≤ l.length ∧ n ≤ 10 := by
  obtain ⟨h1, h2, rest, h3⟩ := (dec_iff l v n).1 h
  have := leb_pos v
  have := leb_le v h1
  rw [h3, List.length_append]; omega

/-- Bytes that all go on, then a zero: nothing is decoded. -/
theorem dec_long : ∀ (l : List UInt8) (i u : Nat), (∀ b ∈ l, 128 ≤ b.toNat) → 0 < i + l.length → dec i u (l ++ [0]) = none
  | [], i, u, _, hi => by
    by_cases h : 10 ≤ i
    · exact dec_ten _ _ _ h
    · exact dec_bad i u 0 [] (by omega) (by decide) (.inl ⟨by simpa using hi, rfl⟩)
  | b :: l, i, u, hb, hi => by
    by_cases h : 10 ≤ i
    · exact dec_ten _ _ _ h
    · rw [List.cons_append, dec_more i u b _ (by omega) (hb b (by simp))]
      exact dec_long l (i + 1) _ (fun x hx => hb x (by simp [hx])) (by omega)

end M

/-- What a reader's Var gives: the number, the place, whether it has failed. -/
def varRes (s : ByteArray) (p : Nat) (f : Bool) : Int × Nat × Bool :=
  if f = true then (0, p, true) else
    match M.dec 0 0 (s.data.toList.drop p) with
    | none => (0, p, true)
    | some (u, n) => (wrap64 (u : Int), p + n, false)

theorem drop_at (s : ByteArray) (p k : Nat) (h : p + k < s.size) : (s.data.toList.drop p).drop k = (s[p + k]'h) :: (s.data.toList.drop p).drop (k + 1) := by
  rw [List.drop_drop, List.drop_drop, List.drop_eq_getElem_cons (by simpa using h)]
  rfl

theorem and127_nat : ∀ x : Fin 256, (x.val &&& 127) = x.val % 128 := by decide +kernel
theorem two_pow7 (k : Nat) : (2 : Nat) ^ (7 * k) = 128 ^ k := by rw [Nat.pow_mul]

/-- One round of the scan's gathering, as the program reckons it. -/
theorem or_acc (k acc y : Nat) (B : UInt8) (hk : k ≤ 9) (ha : acc < 128 ^ k) (hy : y = acc) :
    ∃ y2 : Nat, bits .or .u64 (y : Int) (IntKind.u64.wrap (IntKind.u64.wrap (bits .and .u8 (B.toNat : Int) 127) * 2 ^ (7 * k))) = ((y2 : Nat) : Int) ∧
      (acc + B.toNat % 128 * 128 ^ k < 18446744073709551616 → y2 = acc + B.toNat % 128 * 128 ^ k) := by
  subst hy
  have hB := B.toNat_lt
  have h1 : bits .and .u8 (B.toNat : Int) 127 = ((B.toNat % 128 : Nat) : Int) := by
    have h := u8_and_nat B.toNat 127 hB (by omega)
    rw [show ((127 : Nat) : Int) = 127 from rfl] at h
    rw [h]
    have := and127_nat ⟨B.toNat, hB⟩
    simp only at this
    rw [this]
  have h2 : IntKind.u64.wrap ((B.toNat % 128 : Nat) : Int) = ((B.toNat % 128 : Nat) : Int) := by rw [IntKind.wrap_u64]; omega
  have h3 : IntKind.u64.wrap (((B.toNat % 128 : Nat) : Int) * 2 ^ (7 * k)) = ((B.toNat % 128 * 128 ^ k % 18446744073709551616 : Nat) : Int) := by
    rw [IntKind.wrap_u64, ← two_pow7]
    simp
  have hp := M.pow_le9 k hk
  have h4 := u64_or_nat y (B.toNat % 128 * 128 ^ k % 18446744073709551616) (by omega) (by omega)
  refine ⟨y ||| (B.toNat % 128 * 128 ^ k % 18446744073709551616), by rw [h1, h2, h3, h4], fun hlt => ?_⟩
  rw [Nat.mod_eq_of_lt (by omega)]
  have h5 := Nat.shiftLeft_add_eq_or_of_lt (show y < 2 ^ (7 * k) by rw [two_pow7]; exact ha) (B.toNat % 128)
  rw [Nat.shiftLeft_eq, two_pow7] at h5
  rw [Nat.or_comm, ← h5, Nat.add_comm]

theorem acc_lt (k acc B : Nat) (ha : acc < 128 ^ k) : acc + B % 128 * 128 ^ k < 128 ^ (k + 1) := by
  have h1 : B % 128 * 128 ^ k ≤ 127 * 128 ^ k := Nat.mul_le_mul_right _ (by omega)
  rw [Nat.pow_succ]; omega
theorem acc_small (k x : Nat) (hk : k ≤ 9) (hx : x < 128 ^ k) : x < 18446744073709551616 := by
  have := M.pow_le9 k hk
  omega
theorem good_small (k acc B : Nat) (hk : k ≤ 9) (ha : acc < 128 ^ k) (hB : B < 128) (hz : ¬ (k = 9 ∧ 1 < B)) : acc + B % 128 * 128 ^ k < 18446744073709551616 := by
  by_cases h9 : k = 9
  · subst h9; rw [M.pow9] at *; omega
  · have := acc_lt k acc B ha
    exact acc_small (k + 1) _ (by omega) this

theorem rvar_failed (b : Nat) (s : ByteArray) (p : Nat) (w : World) (h : Rd 112 b s p true w) :
    Calls Try.prog 58 #[.pointer (some ⟨b, 0, none⟩)] w fun e w' => e = .returned (.int .i64 0) ∧ w.grownBy w' (some b) ∧ Rd 112 b s p true w' := by
  have h2 := h.c2
  go_enter Try.func58, Try.ntmps58
  go_wp2_with fail
  go_ret
  exact ⟨rfl, grown_refl _ _, h⟩

theorem rvar_nil (w : World) :
    Calls Try.prog 58 #[.pointer none] w fun e w' => e = .returned (.int .i64 0) ∧ w = w' := by
  go_enter Try.func58, Try.ntmps58
  go_wp2_with fail
  go_ret
  exact ⟨rfl, rfl⟩

set_option maxRecDepth 100000 in
set_option maxHeartbeats 800000 in
theorem rvar_ok (b : Nat) (s : ByteArray) (p : Nat) (w : World) (h : Rd 112 b s p false w) (hs : s.size ≤ 1000000000000000000) (hp : p ≤ s.size) :
    Calls Try.prog 58 #[.pointer (some ⟨b, 0, none⟩)] w fun e w' => e = .returned (.int .i64 (varRes s p false).1) ∧ w.grownBy w' (some b) ∧ Rd 112 b s (varRes s p false).2.1 (varRes s p false).2.2 w' := by
  have h2 := h.c2
  go_enter Try.func58, Try.ntmps58
  go_wp2_with fail
  refine (left_any b s p false _ h hs hp).mono ?_
  rintro e w1 ⟨rfl, nq, hw⟩
  subst hw
  obtain ⟨m, hm⟩ : ∃ m : Nat, m = min 10 (s.size - p) := ⟨_, rfl⟩
  have H0 : Rd 112 b s p false (w.drewN nq) := h
  have HG : w.grownBy (w.drewN nq) (some b) := grown_drewN (grown_refl _ _)
  generalize w.drewN nq = wq at *
  clear h2
  go_wp2_with fail
  all_goals
    go_loopw [3, 17] (fun u i wr => ∃ k acc y : Nat, k ≤ 10 ∧ k ≤ s.size - p ∧ i = .int .i64 k ∧ u = .int .u64 y ∧ Hid (acc < 128 ^ k) ∧ Hid (k ≤ 9 → y = acc) ∧
        Hid (M.dec 0 0 (s.data.toList.drop p) = M.dec k acc ((s.data.toList.drop p).drop k)) ∧ Rd 112 b s p false wr ∧ w.grownBy wr (some b))
      (fun _ i _ => 10 - (intOf i).toNat)
    case atStart => exact ⟨0, 0, 0, by omega, by omega, rfl, rfl, (show 0 < 128 ^ 0 by decide), fun _ => rfl, rfl, H0, HG⟩
    case round =>
      clear H0 HG
      obtain ⟨k, acc, y, hk, hkl, rfl, rfl, hacc, hy, HD, hrd, hg⟩ := hrel
      have h0 := hrd.c0
      have h1 := hrd.c1
      by_cases hlt : k < s.size - p ∧ k < 10
      · have hlt1 : p + k < s.size := by omega
        have hlt2 : (p : Int) + k < s.size := by omega
        have hlt3 : k < 10 := by omega
        clear hlt
        go_wp2_with fail
        have e1 : IntKind.i64.wrap ((p : Int) + k) = (p : Int) + k := IntWalk.i64_in _ (by omega)
        have e2 : (0 : Int) ≤ (p : Int) + k := by omega
        have e3 : ((p : Int) + k).toNat = p + k := by omega
        obtain ⟨B, hB⟩ : ∃ B : UInt8, s[p + k]'hlt1 = B := ⟨_, rfl⟩
        have HL : Hid ((s.data.toList.drop p).drop k = B :: (s.data.toList.drop p).drop (k + 1)) := by rw [← hB]; exact drop_at s p k hlt1
        go_quiet (fail)
        clear e1 e2 e3 hB
        have hBl : (B.toNat : Int) < 256 := by have := B.toNat_lt; omega
        have hrd' : Rd 112 b s p false (wr.drewN nq) := hrd
        have hg' : w.grownBy (wr.drewN nq) (some b) := grown_drewN hg
        clear hrd hg h0 h1
        generalize wr.drewN nq = wt at *
        by_cases hb8 : 128 ≤ B.toNat
        · obtain ⟨y2, hU, hy2⟩ := or_acc k acc y B (by omega) hacc.out (hy.out (by omega))
          have HY := Lib.hid hy2
          clear hy2
          go_wp2_with fail
          go_roundw
          case rel =>
            refine ⟨k + 1, acc + B.toNat % 128 * 128 ^ k, y2, by omega, by omega, by go_num, rfl, acc_lt k acc B.toNat hacc.out, ?_, ?_, hrd', hg'⟩
            · intro hk9
              exact HY.out (acc_small (k + 1) _ hk9 (acc_lt k acc B.toNat hacc.out))
            · show _ = _
              rw [HD.out, HL.out, M.dec_more k acc B _ hlt3 hb8]
          case measure => simp [intOf]; omega
        · by_cases hz1 : 0 < k ∧ B.toNat = 0
          · obtain ⟨hz1, hz2⟩ := hz1
            have HF : Hid (varRes s p false = (0, p, true)) := by
              have : M.dec 0 0 (s.data.toList.drop p) = none := by rw [HD.out, HL.out, M.dec_bad k acc B _ hlt3 (by omega) (.inl ⟨hz1, hz2⟩)]
              show _ = _
              unfold varRes; rw [this]; rfl
            have hc2 := hrd'.c2
            have hf2 := hrd'.fz 2
            go_wp2_with fail
            all_goals
              go_ret
              rw [HF.out]
              exact ⟨rfl, grown_set hg' _ _, hrd'.put2 _⟩
          · by_cases hz2 : k = 9 ∧ 1 < B.toNat
            · obtain ⟨hz3, hz4⟩ := hz2
              have HF : Hid (varRes s p false = (0, p, true)) := by
                have : M.dec 0 0 (s.data.toList.drop p) = none := by rw [HD.out, HL.out, M.dec_bad k acc B _ hlt3 (by omega) (.inr ⟨hz3, hz4⟩)]
                show _ = _
                unfold varRes; rw [this]; rfl
              have hc2 := hrd'.c2
              have hf2 := hrd'.fz 2
              have hz5 : 9 ≤ k := by omega
              have hz6 : ((B.toNat : Int) == 0) = false := by rw [beq_eq_false_iff_ne]; omega
              have hz7 : ((k : Int) == 9) = true := by rw [beq_iff_eq]; omega
              have hz8 : (1 : Int) < B.toNat := by omega
              clear hz3 hz1
              go_wp2_with fail
              all_goals
                go_ret
                rw [HF.out]
                exact ⟨rfl, grown_set hg' _ _, hrd'.put2 _⟩
            · obtain ⟨y2, hU, hy2⟩ := or_acc k acc y B (by omega) hacc.out (hy.out (by omega))
              have HY := Lib.hid hy2
              clear hy2
              have hc1 := hrd'.c1
              have hf1 := hrd'.fz 1
              have hv : y2 = acc + B.toNat * 128 ^ k := by
                have := HY.out (good_small k acc B.toNat (by omega) hacc.out (by omega) (by omega))
                rwa [Nat.mod_eq_of_lt (by omega)] at this
              have HF : Hid (varRes s p false = (wrap64 (y2 : Int), p + (k + 1), false)) := by
                have : M.dec 0 0 (s.data.toList.drop p) = some (y2, k + 1) := by
                  rw [HD.out, HL.out, M.dec_good k acc B _ hlt3 (by omega) (by omega), hv]
                show _ = _
                unfold varRes; rw [this]; rfl
              clear hv
              have hq := hrd'.put1 (p + (k + 1))
              have hq2 := Lib.hid hq
              clear hq
              have hcase : k = 0 ∨ (0 < k ∧ 0 < B.toNat ∧ k ≠ 9) ∨ (0 < k ∧ 0 < B.toNat ∧ k = 9 ∧ B.toNat ≤ 1) := by omega
              rcases hcase with hk0 | ⟨hk0, hB0, hk9⟩ | ⟨hk0, hB0, hk9, hB1⟩
              · have hz5 : ¬ (0 : Int) < k := by omega
                have hz7 : ((k : Int) == 9) = false := by rw [beq_eq_false_iff_ne]; omega
                have hk1 : k ≤ 0 := by omega
                clear hz1 hz2 hk0
                go_wp2_with fail
                all_goals
                  go_ret
                  rw [HF.out]
                  exact ⟨rfl, grown_set hg' _ _, hq2.out⟩
              · have hz6 : ((B.toNat : Int) == 0) = false := by rw [beq_eq_false_iff_ne]; omega
                have hz7 : ((k : Int) == 9) = false := by rw [beq_eq_false_iff_ne]; omega
                clear hz1 hz2 hk9
                go_wp2_with fail
                all_goals
                  go_ret
                  rw [HF.out]
                  exact ⟨rfl, grown_set hg' _ _, hq2.out⟩
              · have hz6 : ((B.toNat : Int) == 0) = false := by rw [beq_eq_false_iff_ne]; omega
                have hz7 : ((k : Int) == 9) = true := by rw [beq_iff_eq]; omega
                have hz8 : ¬ (1 : Int) < B.toNat := by omega
                have hz9 : 9 ≤ k := by omega
                clear hz1 hz2 hk9 hB1
                go_wp2_with fail
                all_goals
                  go_ret
                  rw [HF.out]
                  exact ⟨rfl, grown_set hg' _ _, hq2.out⟩
      · have HF : Hid (varRes s p false = (0, p, true)) := by
          have : M.dec 0 0 (s.data.toList.drop p) = none := by
            rw [HD.out]
            by_cases hk10 : 10 ≤ k
            · exact M.dec_ten _ _ _ hk10
            · rw [List.drop_drop, List.drop_of_length_le (by simp; omega)]; rfl
          show _ = _
          unfold varRes; rw [this]; rfl
        have hc2 := hrd.c2
        have hf2 := hrd.fz 2
        by_cases hz : (s.size : Int) - p ≤ k
        · by_cases hz10 : 10 ≤ (k : Int)
          · clear hlt
            go_wp2_with fail
            all_goals
              go_ret
              rw [HF.out]
              exact ⟨rfl, grown_set hg _ _, hrd.put2 _⟩
          · clear hlt
            first
              | (exfalso; omega)
              | (go_wp2_with fail
                 all_goals
                   go_ret
                   rw [HF.out]
                   exact ⟨rfl, grown_set hg _ _, hrd.put2 _⟩)
        · have hz10 : 10 ≤ (k : Int) := by omega
          clear hlt
          first
            | (exfalso; omega)
            | (go_wp2_with fail
               all_goals
                 go_ret
                 rw [HF.out]
                 exact ⟨rfl, grown_set hg _ _, hrd.put2 _⟩)

theorem rvar_any (b : Nat) (s : ByteArray) (p : Nat) (f : Bool) (w : World) (h : Rd 112 b s p f w) (hs : s.size ≤ 1000000000000000000) (hp : p ≤ s.size) :
    Calls Try.prog 58 #[.pointer (some ⟨b, 0, none⟩)] w fun e w' => e = .returned (.int .i64 (varRes s p f).1) ∧ w.grownBy w' (some b) ∧ Rd 112 b s (varRes s p f).2.1 (varRes s p f).2.2 w' := by
  cases f with
  | true => exact rvar_failed b s p w h
  | false => exact rvar_ok b s p w h hs hp

theorem varRes_le (s : ByteArray) (p : Nat) (f : Bool) (hp : p ≤ s.size) : (varRes s p f).2.1 ≤ s.size := by
  unfold varRes
  split
  · exact hp
  · split
    · exact hp
    · rename_i u n h
      have := M.dec_len _ _ _ h
      have h2 := this.2.1
      simp at h2
      show p + n ≤ s.size
      omega

theorem bt {w w1 w2 : World} (h : Below w.heap.size w w1) (k : Below w1.heap.size w1 w2) : Below w.heap.size w w2 := h.trans (k.mono h.size)

/-- A reader at block b, made since w; below w's blocks nothing has turned. -/
def St (w : World) (b : Nat) (s : ByteArray) (p : Nat) (f : Bool) (x : World) : Prop := Rd 112 b s p f x ∧ w.heap.size ≤ b ∧ Below w.heap.size w x
theorem St.rd {w b s p f x} (h : St w b s p f x) : Rd 112 b s p f x := h.1
theorem St.bl {w b s p f x} (h : St w b s p f x) : Below w.heap.size w x := h.2.2
theorem lt_of_heap {w : World} {b : Nat} {o : Obj} (h : w.heap[b]? = some o) : b < w.heap.size := by
  rcases Nat.lt_or_ge b w.heap.size with h' | h'
  · exact h'
  · rw [Array.getElem?_eq_none h'] at h; simp at h
theorem Rd.keep {T b s p f} {w w1 : World} (h : Rd T b s p f w) (hb : Below w.heap.size w w1) : Rd T b s p f w1 := by
  obtain ⟨zs, h⟩ := h
  have hl := lt_of_heap h
  exact ⟨zs, by rw [hb.block _ hl]; exact h⟩
theorem St.keep {w b s p f x y} (h : St w b s p f x) (hb : Below x.heap.size x y) : St w b s p f y := ⟨h.1.keep hb, h.2.1, bt h.2.2 hb⟩
theorem St.alloc {w b s p f x} (h : St w b s p f x) (o : Obj) : St w b s p f (x.alloc o) := h.keep ((Below.refl _ _).alloc (Nat.le_refl _) o)
theorem St.drew {w b s p f x} (h : St w b s p f x) : St w b s p f x.drew := h.keep ((Below.refl _ _).drew)
theorem St.step {w b s p f q g x y} (h : St w b s p f x) (hg : x.grownBy y (some b)) (hr : Rd 112 b s q g y) : St w b s q g y :=
  ⟨hr, h.2.1, h.2.2.grown hg h.2.2.size (fun k hk => by simp at hk; have := h.2.1; omega)⟩
theorem St.read {w x : World} (hb : Below w.heap.size w x) (s : ByteArray) : St w x.heap.size s 0 false (x.alloc (.cells #[.string s, .int .i64 0, .bool false] 112)) :=
  ⟨⟨[], heap_alloc_new _ _⟩, hb.size, hb.alloc hb.size _⟩

/-- The cells of l lie in block g from its head on. -/
def Lie (g : Nat) (l : List UInt8) (w : World) : Prop := ∀ j (h : j < l.length), w.cell? ⟨g, j, none⟩ = some (.int .u8 (l[j].toNat : Int))

theorem bytes_lie (x : World) (s : ByteArray) (cap : Nat) (fr : Nat × Nat) : Lie x.heap.size s.data.toList (x.alloc (.cells (bytesRow s cap) 5 fr)) := by
  intro j hj
  rw [World.cell?_alloc_mark, bytesRow_at s cap j (by simpa using hj)]
  rfl
theorem bytesRow_size (s : ByteArray) (cap : Nat) (h : s.size ≤ cap) : (bytesRow s cap).size = cap := by
  unfold bytesRow
  rw [Array.size_append, Array.size_map, Array.size_replicate]
  show s.size + _ = _
  omega
theorem bytes_free (x : World) (s : ByteArray) (cap j : Nat) (h : s.size ≤ cap) (hj : j < cap) :
    (x.alloc (.cells (bytesRow s cap) 5 ((bytesRow s cap).size, (bytesRow s cap).size + 1))).frozen? ⟨x.heap.size, j, none⟩ = false := by
  rw [World.frozen?_alloc_mark, bytesRow_size s cap h]
  simp; omega
theorem bytes_some (x : World) (s : ByteArray) (cap j : Nat) (fr : Nat × Nat) (h : s.size ≤ cap) (hj : j < cap) :
    ((x.alloc (.cells (bytesRow s cap) 5 fr)).cell? ⟨x.heap.size, j, none⟩).isSome = true := by
  rw [World.cell?_alloc_mark, Array.getElem?_eq_getElem (by rw [bytesRow_size s cap h]; exact hj)]; rfl

theorem Lie.set {g : Nat} {l : List UInt8} {w : World} (h : Lie g l w) (i : Nat) (hi : i < l.length) (b : UInt8) : Lie g (l.set i b) (w.setCell ⟨g, i, none⟩ (.int .u8 (b.toNat : Int))) := by
  intro j hj
  have hj' : j < l.length := by simpa using hj
  by_cases e : i = j
  · subst e
    rw [World.cell?_setCell_same _ _ _ (h i hi)]
    simp
  · rw [World.cell?_setCell_other _ _ _ _ (by intro e2; injection e2 with _ e3 _; exact e e3), h j hj', List.getElem_set_ne e]
theorem Lie.conv {g : Nat} {l : List UInt8} {w : World} (h : Lie g l w) (cap : Nat) : (convert 46 9 (.slice (some ⟨g, 0, none⟩) l.length cap)).run Try.prog w = .ok (.string ⟨l.toArray⟩) w := by
  refine run_convert_bytes_back (P := Try.prog) w 46 9 5 _ cap l Try.underlying46 Try.underlying5 Try.underlying9 fun j hj => ?_
  have : (⟨g, 0, none⟩ : Addr).add j = ⟨g, j, none⟩ := by unfold Addr.add; split <;> simp_all
  rw [this]; exact h j hj
theorem Lie.snoc {g : Nat} {l : List UInt8} {w : World} (h : Lie g l w) (b : UInt8) (hs : (w.cell? ⟨g, l.length, none⟩).isSome = true) : Lie g (l ++ [b]) (w.setCell ⟨g, l.length, none⟩ (.int .u8 (b.toNat : Int))) := by
  intro j hj
  by_cases e : j = l.length
  · subst e
    obtain ⟨u, hu⟩ := Option.isSome_iff_exists.1 hs
    rw [World.cell?_setCell_same _ _ _ hu]
    simp
  · have hj' : j < l.length := by simp at hj; omega
    rw [World.cell?_setCell_other _ _ _ _ (by intro e2; exact e (by simpa using e2.symm)), h j hj', List.getElem_append_left hj']
theorem Lie.alloc {g : Nat} {l : List UInt8} {w : World} (h : Lie g l w) (o : Obj) (hg : g < w.heap.size) : Lie g l (w.alloc o) := by
  intro j hj
  have hb := (Below.refl w.heap.size w).alloc (Nat.le_refl _) o
  rw [hb.cell (p := ⟨g, j, none⟩) hg]; exact h j hj
theorem Lie.vals {g : Nat} {l : List UInt8} {w : World} (h : Lie g l w) : ∀ j u, (bvals l)[j]? = some u → w.cell? ⟨g, 0 + j, none⟩ = some u := by
  intro j u hu
  have hj : j < l.length := by have := (List.getElem?_eq_some_iff.1 hu).1; simpa [bvals] using this
  rw [Nat.zero_add, h j hj]
  simp [bvals, List.getElem?_eq_getElem hj] at hu
  rw [hu]
/-- '[]byte(s)': what it leaves. -/
theorem conv_bytes (x : World) (s : ByteArray) : ∃ W cap, (convert 9 46 (.string s)).run Try.prog x = .ok (.slice (some ⟨x.heap.size, 0, none⟩) s.size cap) W ∧ s.size ≤ cap ∧ Lie x.heap.size s.data.toList W ∧
    (∀ j, j < cap → W.frozen? ⟨x.heap.size, j, none⟩ = false ∧ (W.cell? ⟨x.heap.size, j, none⟩).isSome = true) ∧ Below x.heap.size x W ∧ x.heap.size < W.heap.size := by
  have hg := grownCap_ge x s.size 0 5
  refine ⟨_, _, run_bytes_of_string (P := Try.prog) x 9 46 5 s Try.underlying9 Try.underlying46 Try.underlying5, hg, bytes_lie x.drew s _ _, fun j hj => ⟨bytes_free x.drew s _ j hg hj, bytes_some x.drew s _ j _ hg hj⟩, ?_, ?_⟩
  · exact ((Below.refl _ _).drew).alloc (Nat.le_refl _) _
  · rw [World.size_alloc]; exact Nat.lt_succ_self _
/-- 'append(v, b)' of one byte, v a byte slice of the call's own that the run-time made (its spare cells free). -/
theorem wp_push_lie {ops : Array Oper} {rest : List Oper} {o : Oper} {a : Act} {Q : Exit → Act → World → Prop} (w : World) (hgd : o.guard = none) (s x : Operand)
    (ho : o.op = .call { callee := .builtin .append, args := #[s, x], argTypes := #[46, 46] })
    (B g n cap : Nat) (l : List UInt8) (b : UInt8) (hs : a.eval s = .slice (some ⟨g, 0, none⟩) n cap) (hn : l.length = n) (hl : Lie g l w) (hfree : ∀ j, j < cap → w.frozen? ⟨g, j, none⟩ = false ∧ (w.cell? ⟨g, j, none⟩).isSome = true)
    (u : Int) (hu : u = (b.toNat : Int)) (fr : Nat × Nat) (gx : Nat) (hgx : gx = w.heap.size) (hx : a.eval x = .slice (some ⟨gx, 0, none⟩) 1 1) (hlen : n + 1 ≤ 140737488355328) (hB : B ≤ g) (hg : g < w.heap.size)
    (h : ∀ v' w', (convert 46 9 v').run Try.prog w' = .ok (.string ⟨(l ++ [b]).toArray⟩) w' → Below B w w' → wpList Try.prog ops Q rest (a.put o.dst v') w') :
    wpList Try.prog ops Q (o :: rest) a (w.alloc (.cells #[.int .u8 u] 5 fr)) := by
  subst hu hn hgx
  obtain ⟨i0, hi, hz0, hz1, hz2⟩ := info_parts Try.info5
  have hal : Below w.heap.size w (w.alloc (.cells #[.int .u8 (b.toNat : Int)] 5 fr)) := (Below.refl _ _).alloc (Nat.le_refl _) _
  have hla : Lie g l (w.alloc (.cells #[.int .u8 (b.toNat : Int)] 5 fr)) := hl.alloc _ hg
  refine wpList_append_arg _ hgd s x 46 ho 5 i0 (.int .u8 0) 1 1 Try.underlying46 hi hz0 hz1 hz2 rfl (by decide) g 0 l.length cap (bvals l) hs (by rw [bvals_length]; omega) hla.vals ⟨w.heap.size, 0, none⟩ 1 1 [.int .u8 (b.toNat : Int)] hx rfl ?_ ?_ ?_ (by unfold maxLen; omega) (by omega) ?_ ?_
  · intro j u' hj
    match j, hj with
    | 0, hj =>
      simp at hj
      subst hj
      have : (⟨w.heap.size, 0, none⟩ : Addr).add 0 = ⟨w.heap.size, 0, none⟩ := by unfold Addr.add; split <;> simp_all
      rw [this, World.cell?_alloc_mark]; rfl
  · intro u' h'
    simp at h'
    subst h'; rfl
  · intro hroom j hj
    have hj0 : j = 0 := by simpa using hj
    subst hj0
    have e : 0 + l.length * 1 + 0 = l.length := by omega
    rw [e, hal.cell (p := ⟨g, l.length, none⟩) hg, hal.frozen (p := ⟨g, l.length, none⟩) hg]
    have := hfree l.length (by omega)
    exact ⟨this.2, this.1⟩
  · intro hroom
    have e : 0 + l.length * 1 = l.length := by omega
    rw [e]
    have hsm : ((w.alloc (.cells #[.int .u8 (b.toNat : Int)] 5 fr)).cell? ⟨g, l.length, none⟩).isSome = true := by
      rw [hal.cell (p := ⟨g, l.length, none⟩) hg]; exact (hfree l.length (by omega)).2
    have hl2 := (hla.snoc b hsm).conv cap
    rw [List.length_append] at hl2
    exact h _ _ hl2 (((hal.mono (by omega)).trans ((Below.refl _ _).setCell (p := ⟨g, l.length, none⟩) hB _)))
  · intro _ v' w' hown hgr
    have hown2 := vown hown rfl rfl
    exact h _ _ (conv_own (P := Try.prog) w' 46 9 5 Try.underlying46 Try.underlying5 Try.underlying9 _ _ _ _ hown2)
      ((hal.mono (by omega)).grown hgr (by rw [World.size_alloc]; omega) (fun k hk => by simp at hk))
theorem grownCap_ge' (w : World) (n old : Nat) (e : TypeId) : n ≤ grownCap w n old e := grownCap_ge w n old e
section
variable {P : Program} {ops : Array Oper} {C : World → Prop} {Q : Act → Prop} {rest : List Oper} {o : Oper} {a : Act}
theorem q_val {K : Act → Prop} (h : ∃ v, (∀ x, C x → (execOp a.eval o).run P x = .ok (.value v) x) ∧ K (a.put o.dst v)) : o.quiet P a C K := by
  obtain ⟨v, h, k⟩ := h
  exact ⟨v, fun x hx => by unfold Oper.quietAt; rw [h x hx]; exact ⟨rfl, rfl⟩, k⟩
theorem q_call {K : Act → Prop} (f : FuncId) (h : ∃ args, (∀ x, C x → (execOp a.eval o).run P x = .ok (.enter f args) x) ∧
    ∃ v, (∀ x, C x → Calls P f args x fun e x' => e = .returned v ∧ C x') ∧ K (a.put o.dst v)) : o.quiet P a C K := by
  obtain ⟨args, h, v, hc, k⟩ := h
  exact ⟨v, fun x hx => by unfold Oper.quietAt; rw [h x hx]; exact ⟨rfl, hc x hx⟩, k⟩
theorem q_region {id : Nat} {Q : Exit → Act → World → Prop} {a : Act} {w : World} {l : List Oper} (hm : P.follows .mixedOrders = true) (hB : Region.lexB .any l.toArray = true) (hC : C w.drew)
    (h : wpQuiet P l.toArray C (fun a' => ∀ w', C w' → Q .normal a' w') l a) : (Code.region id l.toArray true).wp P Q a w :=
  wp_region_quiet hm hB hC (by simpa using h)
end

/-- What a reader's Text gives. -/
def textRes (s : ByteArray) (p : Nat) (f : Bool) : ByteArray × Nat × Bool :=
  let v := varRes s p f
  let t := takeRes s v.2.1 v.2.2 v.1
  if t.2.2 = true then (⟨#[]⟩, p, true) else (t.1, t.2.1, false)

theorem takeRes_fail (s : ByteArray) (p : Nat) (f : Bool) (n : Int) (h : (takeRes s p f n).2.2 = true) : (takeRes s p f n).1 = ⟨#[]⟩ := by
  unfold takeRes at *
  split
  · rfl
  · rename_i hh; rw [if_neg hh] at h; simp at h

set_option maxRecDepth 100000 in
set_option maxHeartbeats 400000 in
theorem rtext_any (b : Nat) (s : ByteArray) (p : Nat) (f : Bool) (w : World) (h : Rd 112 b s p f w) (hs : s.size ≤ 1000000000000000000) (hp : p ≤ s.size) :
    Calls Try.prog 28 #[.pointer (some ⟨b, 0, none⟩)] w fun e w' => e = .returned (.string (textRes s p f).1) ∧ w.grownBy w' (some b) ∧ Rd 112 b s (textRes s p f).2.1 (textRes s p f).2.2 w' := by
  have hle := varRes_le s p f hp
  have h1 := h.c1
  have hmf : ∀ (fn : Fn) (first cap : Array Value) (w : World), (Instr.makeFunc fn first cap).run Try.prog w = .ok (.func fn first cap) w := fun _ _ _ _ => rfl
  go_enter Try.func28, Try.ntmps28
  go_wp2_with fail
  refine (rvar_any b s p f _ h hs hp).mono ?_
  rintro e x1 ⟨rfl, g1, r1⟩
  clear h1
  go_wp2_with fail
  refine (take_any b s _ _ _ _ r1 hs hle).mono ?_
  rintro e x2 ⟨rfl, g2, r2⟩
  have e2 := r2.c2
  have e1 := r2.fz 1
  have e3 := r2.c1
  have hF := takeRes_fail s (varRes s p f).2.1 (varRes s p f).2.2 (varRes s p f).1
  have HT : Hid (textRes s p f = if (takeRes s (varRes s p f).2.1 (varRes s p f).2.2 (varRes s p f).1).2.2 = true then (⟨#[]⟩, p, true) else ((takeRes s (varRes s p f).2.1 (varRes s p f).2.2 (varRes s p f).1).1, (takeRes s (varRes s p f).2.1 (varRes s p f).2.2 (varRes s p f).1).2.1, false)) := rfl
  generalize takeRes s (varRes s p f).2.1 (varRes s p f).2.2 (varRes s p f).1 = t at *
  obtain ⟨t1, t2, t3⟩ := t
  simp only at *
  cases t3 with
  | true =>
    rw [hF rfl] at *
    clear hF
    go_wp2_with fail
    go_ret
    rw [HT.out]
    exact ⟨rfl, grown_set (grown_trans g1 g2) _ _, r2.put1 _⟩
  | false =>
    clear hF
    go_wp2_with fail
    go_ret
    rw [HT.out]
    exact ⟨rfl, grown_trans g1 g2, r2⟩

theorem rtext_nil (w : World) :
    Calls Try.prog 28 #[.pointer none] w fun e w' => e = .returned (.string ⟨#[]⟩) ∧ w = w' := by
  go_enter Try.func28, Try.ntmps28
  go_wp2_with fail
  go_ret
  exact ⟨rfl, rfl⟩

def bev (l : List UInt8) : Nat := l.foldl (fun a b => a * 256 + b.toNat) 0
theorem bev_snoc (l : List UInt8) (b : UInt8) : bev (l ++ [b]) = bev l * 256 + b.toNat := by simp [bev]
theorem bev_lt (l : List UInt8) : bev l < 256 ^ l.length := by
  suffices ∀ (l : List UInt8) (a : Nat), l.foldl (fun a b => a * 256 + b.toNat) a < (a + 1) * 256 ^ l.length by
    have := this l 0
    simpa [bev] using this
  intro l
  induction l with
  | nil => intro a; simp
  | cons b l ih =>
    intro a
    have h := ih (a * 256 + b.toNat)
    have hb := b.toNat_lt
    rw [List.foldl_cons, List.length_cons, Nat.pow_succ]
    refine Nat.lt_of_lt_of_le h ?_
    rw [Nat.mul_comm (256 ^ l.length) 256, ← Nat.mul_assoc]
    exact Nat.mul_le_mul_right _ (by omega)
theorem take_lt (l : List UInt8) (j : Nat) (hj : j ≤ 7) : bev (l.take j) < 72057594037927936 := by
  have h := bev_lt (l.take j)
  have h2 : 256 ^ (l.take j).length ≤ 256 ^ 7 := Nat.pow_le_pow_right (by omega) (by rw [List.length_take]; omega)
  omega

theorem take_size (s : ByteArray) (p : Nat) (f : Bool) (n : Int) : (takeRes s p f (sz n)).1.size ≤ 8 := by
  unfold takeRes
  split
  · exact Nat.zero_le _
  · have := sz_le n
    simp; omega
theorem wrap64_small (u : Nat) (h : u < 9223372036854775808) : wrap64 (u : Int) = (u : Int) := IntWalk.wrap64_in _ ⟨by omega, by omega⟩
theorem take_snoc' (t : ByteArray) (j : Nat) (h : j < t.size) : t.data.toList.take (j + 1) = t.data.toList.take j ++ [t.data[j]] := by
  rw [List.take_add_one, List.getElem?_eq_getElem (by simpa using h)]; simp
theorem or_byte (u c : Nat) (hu : u < 72057594037927936) (hc : c < 256) : bits .or .i64 (wrap64 ((u : Int) * 256)) (c : Int) = wrap64 ((u * 256 + c : Nat) : Int) := by
  have hX : (BitVec.ofInt 64 (wrap64 ((u : Int) * 256))).toNat = u * 256 := by
    rw [BitVec.toNat_ofInt]
    unfold wrap64
    omega
  have hc2 : (BitVec.ofInt 64 (c : Int)).toNat = c := by
    rw [BitVec.toNat_ofInt]
    omega
  have h3 : u * 256 ||| c = u * 256 + c := by
    have h5 := Nat.shiftLeft_add_eq_or_of_lt (show c < 2 ^ 8 by omega) u
    rw [Nat.shiftLeft_eq] at h5
    exact h5.symm
  show IntKind.i64.wrap ((BitVec.ofInt 64 (wrap64 ((u : Int) * 256)) ||| BitVec.ofInt 64 (c : Int)).toNat : Int) = _
  rw [BitVec.toNat_or, hX, hc2, h3]
  exact IntWalk.i64_left _
theorem or_byte' (u c : Nat) (hu : u < 72057594037927936) (hc : c < 256) : bits .or .i64 (wrap64 (wrap64 (u : Int) * 256)) (wrap64 (c : Int)) = wrap64 ((u * 256 + c : Nat) : Int) := by
  rw [wrap64_small u (by omega), wrap64_small c (by omega)]
  exact or_byte u c hu hc
set_option maxRecDepth 100000 in
set_option maxHeartbeats 400000 in
theorem num_any (b : Nat) (s : ByteArray) (p : Nat) (f : Bool) (w : World) (n : Int) (h : Rd 112 b s p f w) (hs : s.size ≤ 1000000000000000000) (hp : p ≤ s.size) :
    Calls Try.prog 29 #[.pointer (some ⟨b, 0, none⟩), .int .i64 n] w fun e w' => e = .returned (.int .i64 (wrap64 (bev (takeRes s p f (sz n)).1.data.toList))) ∧ w.grownBy w' (some b) ∧ Rd 112 b s (takeRes s p f (sz n)).2.1 (takeRes s p f (sz n)).2.2 w' := by
  go_enter Try.func29, Try.ntmps29
  go_wp2_with fail
  refine (size_any n _).mono ?_
  rintro e x1 ⟨rfl, rfl⟩
  go_wp2_with fail
  refine (take_any b s p f _ (sz n) h hs hp).mono ?_
  rintro e x2 ⟨rfl, g2, r2⟩
  have hsz := take_size s p f n
  generalize ht : (takeRes s p f (sz n)).1 = t at *
  have HT := Lib.hid ht
  clear ht
  obtain ⟨W1, cap, hcb, hcap, hlie, hfree, hbW, hgW⟩ := conv_bytes x2 t
  go_wp2_with fail
  clear hcb
  have hlen : t.data.toList.length = t.size := Array.length_toList
  have HB : W1.grownBy W1 (some b) := grown_refl _ _
  have G : w.grownBy W1 (some b) := grown_trans g2 (grown_below hbW)
  have R : Rd 112 b s (takeRes s p f (sz n)).2.1 (takeRes s p f (sz n)).2.2 W1 := r2.keep hbW
  clear hfree hbW hgW g2 r2 h
  go_loopw [5, 14] (fun a i wr => ∃ j : Nat, j ≤ t.size ∧ i = .int .i64 j ∧ a = .int .i64 (wrap64 (bev (t.data.toList.take j))) ∧ Hid (wr = W1)) (fun a i _ => t.size - (intOf i).toNat)
  case atStart => exact ⟨0, Nat.zero_le _, rfl, by rw [List.take_zero]; unfold bev wrap64; rfl, rfl⟩
  case round =>
    obtain ⟨j, hj, rfl, rfl, HW⟩ := hrel
    by_cases hlt : j < t.size
    · have hi : j < t.data.toList.length := by omega
      have f1 := hlie j hi
      rw [← HW.out] at f1
      go_wp2_with fail
      go_roundw
      case rel =>
        refine ⟨j + 1, by omega, by go_num, ?_, HW⟩
        rw [take_snoc' t j hlt, bev_snoc]
        congr 1
        exact or_byte' _ _ (take_lt _ _ (by omega)) (UInt8.toNat_lt _)
      case measure => simp [intOf]; omega
    · go_wp2_with fail
      go_ret
      have hje : j = t.size := by omega
      rw [List.take_of_length_le (by omega)]
      rw [HW.out, HT.out]
      exact ⟨rfl, G, R⟩
end Go.Proofs.Ytpdckpifhniioaa.Oct
