/- Walks of layer 1: the reader's small methods. -/
import Derived.Test.YtcanmfkocbnbfaaD
import Derived.Deep.QuietTactic
import Derived.BigQuiet
namespace Go.Proofs.Ytcanmfkocbnbfaa
open Go.RowKit

/-- Block b is a reader of s at place p; f: has a call failed? -/
def Rd (T : TypeId) (b : Nat) (s : ByteArray) (p : Nat) (f : Bool) (w : World) : Prop := w.heap[b]? = some (.cells #[.string s, .int .i64 (p : Int), .bool f] T (0, 0))
theorem Rd.c0 {T b s p f w} (h : Rd T b s p f w) : w.cell? ⟨b, 0, none⟩ = some (.string s) := by rw [cell_of_row w b 0 _ _ _ h]; rfl
theorem Rd.c1 {T b s p f w} (h : Rd T b s p f w) : w.cell? ⟨b, 1, none⟩ = some (.int .i64 (p : Int)) := by rw [cell_of_row w b 1 _ _ _ h]; rfl
theorem Rd.c2 {T b s p f w} (h : Rd T b s p f w) : w.cell? ⟨b, 2, none⟩ = some (.bool f) := by rw [cell_of_row w b 2 _ _ _ h]; rfl
theorem Rd.fz {T b s p f w} (h : Rd T b s p f w) (j : Nat) : w.frozen? ⟨b, j, none⟩ = false := frozen_of_row w b j _ _ h
theorem Rd.put1 {T b s p f w} (h : Rd T b s p f w) (q : Nat) : Rd T b s q f (w.setCell ⟨b, 1, none⟩ (.int .i64 (q : Int))) := by
  unfold Rd; rw [heap_setCell_same _ _ _ _ _ _ h]; rfl
theorem Rd.put2 {T b s p f w} (h : Rd T b s p f w) (g : Bool) : Rd T b s p g (w.setCell ⟨b, 2, none⟩ (.bool g)) := by
  unfold Rd; rw [heap_setCell_same _ _ _ _ _ _ h]; rfl

theorem grown_refl (b : Nat) (w : World) : w.grownBy w (some b) := ⟨rfl, rfl, rfl, Nat.le_refl _, fun _ _ _ => rfl⟩
theorem grown_trans {b : Nat} {w w1 w2 : World} (h : w.grownBy w1 (some b)) (k : w1.grownBy w2 (some b)) : w.grownBy w2 (some b) :=
  ⟨k.os.trans h.os, k.tape.trans h.tape, k.output.trans h.output, Nat.le_trans h.size k.size, fun i hi hn => (k.block i (Nat.lt_of_lt_of_le hi h.size) hn).trans (h.block i hi hn)⟩
theorem grown_set {b : Nat} {w w1 : World} (h : w.grownBy w1 (some b)) (j : Nat) (v : Value) : w.grownBy (w1.setCell ⟨b, j, none⟩ v) (some b) :=
  ⟨h.os, h.tape, h.output, by simpa [World.setCell] using h.size, fun i hi hn => by rw [heap_setCell_other _ _ _ _ (by intro e; exact hn (by rw [e]))]; exact h.block i hi hn⟩
theorem grown_drew {b : Nat} {w w1 : World} (h : w.grownBy w1 (some b)) : w.grownBy w1.drew (some b) := ⟨h.os, h.tape, h.output, h.size, h.block⟩
theorem grown_drewN {b n : Nat} {w w1 : World} (h : w.grownBy w1 (some b)) : w.grownBy (w1.drewN n) (some b) := ⟨h.os, h.tape, h.output, h.size, h.block⟩
theorem grown_below {b : Nat} {w w1 : World} (h : Below w.heap.size w w1) : w.grownBy w1 (some b) := ⟨h.os, h.tape, h.output, h.size, fun i hi _ => h.block i hi⟩

theorem read_any (s : ByteArray) (w : World) :
    Calls Try.prog 22 #[.string s] w fun e w' => e = .returned (.pointer (some ⟨w.heap.size, 0, none⟩)) ∧ w.alloc (.cells #[.string s, .int .i64 0, .bool false] 48) = w' := by
  go_enter Try.func22, Try.ntmps22
  go_wp2_with fail
  go_ret
  exact ⟨rfl, rfl⟩

theorem failed_any (b : Nat) (s : ByteArray) (p : Nat) (f : Bool) (w : World) (h : Rd 48 b s p f w) :
    Calls Try.prog 24 #[.pointer (some ⟨b, 0, none⟩)] w fun e w' => e = .returned (.bool f) ∧ w = w' := by
  have h2 := h.c2
  go_enter Try.func24, Try.ntmps24
  go_wp2_with fail
  go_ret
  exact ⟨rfl, rfl⟩

theorem failed_nil (w : World) :
    Calls Try.prog 24 #[.pointer none] w fun e w' => e = .returned (.bool true) ∧ w = w' := by
  go_enter Try.func24, Try.ntmps24
  go_wp2_with fail
  go_ret
  exact ⟨rfl, rfl⟩

theorem at_any (b : Nat) (s : ByteArray) (p : Nat) (f : Bool) (w : World) (h : Rd 48 b s p f w) :
    Calls Try.prog 25 #[.pointer (some ⟨b, 0, none⟩)] w fun e w' => e = .returned (.int .i64 p) ∧ w = w' := by
  have h2 := h.c1
  go_enter Try.func25, Try.ntmps25
  go_wp2_with fail
  go_ret
  exact ⟨rfl, rfl⟩

theorem at_nil (w : World) :
    Calls Try.prog 25 #[.pointer none] w fun e w' => e = .returned (.int .i64 0) ∧ w = w' := by
  go_enter Try.func25, Try.ntmps25
  go_wp2_with fail
  go_ret
  exact ⟨rfl, rfl⟩

theorem left_any (b : Nat) (s : ByteArray) (p : Nat) (f : Bool) (w : World) (h : Rd 48 b s p f w) (hs : s.size ≤ 1000000000000000000) (hp : p ≤ s.size) :
    Calls Try.prog 33 #[.pointer (some ⟨b, 0, none⟩)] w fun e w' => e = .returned (.int .i64 ((s.size : Int) - p)) ∧ ∃ n, w' = w.drewN n := by
  have h0 := h.c0
  have h1 := h.c1
  go_enter Try.func33, Try.ntmps33
  go_wp2_with fail
  go_quiet (fail)
  go_wp2_with fail
  go_ret
  exact ⟨rfl, _, rfl⟩

theorem left_nil (w : World) :
    Calls Try.prog 33 #[.pointer none] w fun e w' => e = .returned (.int .i64 0) ∧ w = w' := by
  go_enter Try.func33, Try.ntmps33
  go_wp2_with fail
  go_ret
  exact ⟨rfl, rfl⟩

theorem Rd.drewN {T b s p f w} (h : Rd T b s p f w) (n : Nat) : Rd T b s p f (w.drewN n) := h

theorem take_no (b : Nat) (s : ByteArray) (p : Nat) (f : Bool) (w : World) (n : Int) (h : Rd 48 b s p f w) (hs : s.size ≤ 1000000000000000000) (hp : p ≤ s.size)
    (hn : f = true ∨ n < 0 ∨ (s.size : Int) - p < n) :
    Calls Try.prog 31 #[.pointer (some ⟨b, 0, none⟩), .int .i64 n] w fun e w' => e = .returned (.string ⟨#[]⟩) ∧ w.grownBy w' (some b) ∧ Rd 48 b s p true w' := by
  have h2 := h.c2
  have hf := h.fz 2
  cases f with
  | true =>
    clear hn
    go_enter Try.func31, Try.ntmps31
    go_wp2_with fail
    go_ret
    exact ⟨rfl, grown_set (grown_refl _ _) _ _, h.put2 _⟩
  | false =>
    by_cases h0 : n < 0
    · clear hn
      go_enter Try.func31, Try.ntmps31
      go_wp2_with fail
      go_ret
      exact ⟨rfl, grown_set (grown_refl _ _) _ _, h.put2 _⟩
    · have h3 : (s.size : Int) - p < n := by rcases hn with h | h | h <;> first | omega | simp at h
      clear hn
      go_enter Try.func31, Try.ntmps31
      go_wp2_with fail
      refine (left_any b s p false _ h hs hp).mono ?_
      rintro e w1 ⟨rfl, nq, hw⟩
      subst hw
      have h2' : (w.drewN nq).cell? ⟨b, 2, none⟩ = some (.bool false) := h2
      have hf' : (w.drewN nq).frozen? ⟨b, 2, none⟩ = false := hf
      go_wp2_with fail
      go_ret
      exact ⟨rfl, grown_set (grown_drewN (grown_refl _ _)) _ _, (h.drewN nq).put2 _⟩

theorem take_nil (w : World) (n : Int) :
    Calls Try.prog 31 #[.pointer none, .int .i64 n] w fun e w' => e = .returned (.string ⟨#[]⟩) ∧ w = w' := by
  go_enter Try.func31, Try.ntmps31
  go_wp2_with fail
  go_ret
  exact ⟨rfl, rfl⟩

set_option maxHeartbeats 400000 in
theorem take_yes (b : Nat) (s : ByteArray) (p : Nat) (w : World) (n : Nat) (h : Rd 48 b s p false w) (hs : s.size ≤ 1000000000000000000) (hp : p + n ≤ s.size) :
    Calls Try.prog 31 #[.pointer (some ⟨b, 0, none⟩), .int .i64 n] w fun e w' => e = .returned (.string (s.extract p (p + n))) ∧ w.grownBy w' (some b) ∧ Rd 48 b s (p + n) false w' := by
  have h2 := h.c2
  have h3 : ¬ ((s.size : Int) - p < (n : Int)) := by omega
  go_enter Try.func31, Try.ntmps31
  go_wp2_with fail
  refine (left_any b s p false _ h hs (by omega)).mono ?_
  rintro e w1 ⟨rfl, nq, hw⟩
  subst hw
  have h0' : (w.drewN nq).cell? ⟨b, 0, none⟩ = some (.string s) := h.c0
  have h1' : (w.drewN nq).cell? ⟨b, 1, none⟩ = some (.int .i64 (p : Int)) := h.c1
  have hf' : (w.drewN nq).frozen? ⟨b, 1, none⟩ = false := h.fz 1
  go_wp2_with fail
  go_quiet (fail)
  go_wp2_with fail
  go_ret
  exact ⟨rfl, grown_drewN (grown_set (grown_drewN (grown_refl _ _)) _ _), (Rd.put1 (Rd.drewN h _) (p + n)).drewN _⟩

/-- What Take gives: the bytes, the place, whether it has failed. -/
def takeRes (s : ByteArray) (p : Nat) (f : Bool) (n : Int) : ByteArray × Nat × Bool :=
  if f = true ∨ n < 0 ∨ (s.size : Int) - p < n then (⟨#[]⟩, p, true) else (s.extract p (p + n.toNat), p + n.toNat, false)

theorem takeRes_le (s : ByteArray) (p : Nat) (f : Bool) (n : Int) (hp : p ≤ s.size) : (takeRes s p f n).2.1 ≤ s.size := by
  unfold takeRes
  split
  · exact hp
  · show p + n.toNat ≤ s.size
    omega
theorem takeRes_size (s : ByteArray) (p : Nat) (f : Bool) (n : Int) : (takeRes s p f n).1.size ≤ s.size := by
  unfold takeRes
  split
  · exact Nat.zero_le _
  · simp; omega

theorem take_any (b : Nat) (s : ByteArray) (p : Nat) (f : Bool) (w : World) (n : Int) (h : Rd 48 b s p f w) (hs : s.size ≤ 1000000000000000000) (hp : p ≤ s.size) :
    Calls Try.prog 31 #[.pointer (some ⟨b, 0, none⟩), .int .i64 n] w fun e w' => e = .returned (.string (takeRes s p f n).1) ∧ w.grownBy w' (some b) ∧ Rd 48 b s (takeRes s p f n).2.1 (takeRes s p f n).2.2 w' := by
  by_cases hn : f = true ∨ n < 0 ∨ (s.size : Int) - p < n
  · have e : takeRes s p f n = (⟨#[]⟩, p, true) := by unfold takeRes; rw [if_pos hn]
    rw [e]
    exact take_no b s p f w n h hs hp hn
  · have e : takeRes s p f n = (s.extract p (p + n.toNat), p + n.toNat, false) := by unfold takeRes; rw [if_neg hn]
    rw [e]
    have hf : f = false := by cases f <;> simp_all
    subst hf
    obtain ⟨m, rfl⟩ := Int.eq_ofNat_of_zero_le (show 0 ≤ n by omega)
    rw [Int.toNat_natCast]
    exact take_yes b s p w m h hs (by omega)
end Go.Proofs.Ytcanmfkocbnbfaa
