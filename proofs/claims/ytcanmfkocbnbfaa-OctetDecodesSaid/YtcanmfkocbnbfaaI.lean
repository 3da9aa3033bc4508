/- Walks of layer 1: the reader's Text and Num. -/
import Derived.Test.YtcanmfkocbnbfaaH
import Derived.Lib.QuoteBits
set_option linter.unusedVariables false
namespace Go.Proofs.Ytcanmfkocbnbfaa
open Go.RowKit

/-- What a reader's Text gives. -/
def textRes (s : ByteArray) (p : Nat) (f : Bool) : ByteArray × Nat × Bool :=
  let v := varRes s p f
  let t := takeRes s v.2.1 v.2.2 v.1
  if t.2.2 = true then (⟨#[]⟩, p, true) else (t.1, t.2.1, false)

theorem takeRes_fail (s : ByteArray) (p : Nat) (f : Bool) (n : Int) (h : (takeRes s p f n).2.2 = true) : (takeRes s p f n).1 = ⟨#[]⟩ := by
  unfold takeRes at *
  split
  · rfl
  · rename_i hh; rw [if_neg hh] at h; simp at h

set_option maxRecDepth 100000 in
set_option maxHeartbeats 400000 in
theorem rtext_any (b : Nat) (s : ByteArray) (p : Nat) (f : Bool) (w : World) (h : Rd 48 b s p f w) (hs : s.size ≤ 1000000000000000000) (hp : p ≤ s.size) :
    Calls Try.prog 26 #[.pointer (some ⟨b, 0, none⟩)] w fun e w' => e = .returned (.string (textRes s p f).1) ∧ w.grownBy w' (some b) ∧ Rd 48 b s (textRes s p f).2.1 (textRes s p f).2.2 w' := by
  have hle := varRes_le s p f hp
  have h1 := h.c1
  have hmf : ∀ (fn : Fn) (first cap : Array Value) (w : World), (Instr.makeFunc fn first cap).run Try.prog w = .ok (.func fn first cap) w := fun _ _ _ _ => rfl
  go_enter Try.func26, Try.ntmps26
  go_wp2_with fail
  refine (rvar_any b s p f _ h hs hp).mono ?_
  rintro e x1 ⟨rfl, g1, r1⟩
  clear h1
  go_wp2_with fail
  refine (take_any b s _ _ _ _ r1 hs hle).mono ?_
  rintro e x2 ⟨rfl, g2, r2⟩
  have e2 := r2.c2
  have e1 := r2.fz 1
  have e3 := r2.c1
  have hF := takeRes_fail s (varRes s p f).2.1 (varRes s p f).2.2 (varRes s p f).1
  have HT : Hid (textRes s p f = if (takeRes s (varRes s p f).2.1 (varRes s p f).2.2 (varRes s p f).1).2.2 = true then (⟨#[]⟩, p, true) else ((takeRes s (varRes s p f).2.1 (varRes s p f).2.2 (varRes s p f).1).1, (takeRes s (varRes s p f).2.1 (varRes s p f).2.2 (varRes s p f).1).2.1, false)) := rfl
  generalize takeRes s (varRes s p f).2.1 (varRes s p f).2.2 (varRes s p f).1 = t at *
  obtain ⟨t1, t2, t3⟩ := t
  simp only at *
  cases t3 with
  | true =>
    rw [hF rfl] at *
    clear hF
    go_wp2_with fail
    go_ret
    rw [HT.out]
    exact ⟨rfl, grown_set (grown_trans g1 g2) _ _, r2.put1 _⟩
  | false =>
    clear hF
    go_wp2_with fail
    go_ret
    rw [HT.out]
    exact ⟨rfl, grown_trans g1 g2, r2⟩

theorem rtext_nil (w : World) :
    Calls Try.prog 26 #[.pointer none] w fun e w' => e = .returned (.string ⟨#[]⟩) ∧ w = w' := by
  go_enter Try.func26, Try.ntmps26
  go_wp2_with fail
  go_ret
  exact ⟨rfl, rfl⟩

def bev (l : List UInt8) : Nat := l.foldl (fun a b => a * 256 + b.toNat) 0
theorem bev_snoc (l : List UInt8) (b : UInt8) : bev (l ++ [b]) = bev l * 256 + b.toNat := by simp [bev]
theorem bev_lt (l : List UInt8) : bev l < 256 ^ l.length := by
  suffices ∀ (l : List UInt8) (a : Nat), l.foldl (fun a b => a * 256 + b.toNat) a < (a + 1) * 256 ^ l.length by
    have := this l 0
    simpa [bev] using this
  intro l
  induction l with
  | nil => intro a; simp
  | cons b l ih =>
    intro a
    have h := ih (a * 256 + b.toNat)
    have hb := b.toNat_lt
    rw [List.foldl_cons, List.length_cons, Nat.pow_succ]
    refine Nat.lt_of_lt_of_le h ?_
    rw [Nat.mul_comm (256 ^ l.length) 256, ← Nat.mul_assoc]
    exact Nat.mul_le_mul_right _ (by omega)
theorem take_lt (l : List UInt8) (j : Nat) (hj : j ≤ 7) : bev (l.take j) < 72057594037927936 := by
  have h := bev_lt (l.take j)
  have h2 : 256 ^ (l.take j).length ≤ 256 ^ 7 := Nat.pow_le_pow_right (by omega) (by rw [List.length_take]; omega)
  omega

theorem take_size (s : ByteArray) (p : Nat) (f : Bool) (n : Int) : (takeRes s p f (sz n)).1.size ≤ 8 := by
  unfold takeRes
  split
  · exact Nat.zero_le _
  · have := sz_le n
    simp; omega
theorem wrap64_small (u : Nat) (h : u < 9223372036854775808) : wrap64 (u : Int) = (u : Int) := IntWalk.wrap64_in _ ⟨by omega, by omega⟩
theorem take_snoc' (t : ByteArray) (j : Nat) (h : j < t.size) : t.data.toList.take (j + 1) = t.data.toList.take j ++ [t.data[j]] := by
  rw [List.take_add_one, List.getElem?_eq_getElem (by simpa using h)]; simp
theorem or_byte (u c : Nat) (hu : u < 72057594037927936) (hc : c < 256) : bits .or .i64 (wrap64 ((u : Int) * 256)) (c : Int) = wrap64 ((u * 256 + c : Nat) : Int) := by
  have hX : (BitVec.ofInt 64 (wrap64 ((u : Int) * 256))).toNat = u * 256 := by
    rw [BitVec.toNat_ofInt]
    unfold wrap64
    omega
  have hc2 : (BitVec.ofInt 64 (c : Int)).toNat = c := by
    rw [BitVec.toNat_ofInt]
    omega
  have h3 : u * 256 ||| c = u * 256 + c := by
    have h5 := Nat.shiftLeft_add_eq_or_of_lt (show c < 2 ^ 8 by omega) u
    rw [Nat.shiftLeft_eq] at h5
    exact h5.symm
  show IntKind.i64.wrap ((BitVec.ofInt 64 (wrap64 ((u : Int) * 256)) ||| BitVec.ofInt 64 (c : Int)).toNat : Int) = _
  rw [BitVec.toNat_or, hX, hc2, h3]
  exact IntWalk.i64_left _
theorem or_byte' (u c : Nat) (hu : u < 72057594037927936) (hc : c < 256) : bits .or .i64 (wrap64 (wrap64 (u : Int) * 256)) (wrap64 (c : Int)) = wrap64 ((u * 256 + c : Nat) : Int) := by
  rw [wrap64_small u (by omega), wrap64_small c (by omega)]
  exact or_byte u c hu hc
set_option maxRecDepth 100000 in
set_option maxHeartbeats 400000 in
theorem num_any (b : Nat) (s : ByteArray) (p : Nat) (f : Bool) (w : World) (n : Int) (h : Rd 48 b s p f w) (hs : s.size ≤ 1000000000000000000) (hp : p ≤ s.size) :
    Calls Try.prog 27 #[.pointer (some ⟨b, 0, none⟩), .int .i64 n] w fun e w' => e = .returned (.int .i64 (wrap64 (bev (takeRes s p f (sz n)).1.data.toList))) ∧ w.grownBy w' (some b) ∧ Rd 48 b s (takeRes s p f (sz n)).2.1 (takeRes s p f (sz n)).2.2 w' := by
  go_enter Try.func27, Try.ntmps27
  go_wp2_with fail
  refine (size_any n _).mono ?_
  rintro e x1 ⟨rfl, rfl⟩
  go_wp2_with fail
  refine (take_any b s p f _ (sz n) h hs hp).mono ?_
  rintro e x2 ⟨rfl, g2, r2⟩
  have hsz := take_size s p f n
  generalize ht : (takeRes s p f (sz n)).1 = t at *
  have HT := Lib.hid ht
  clear ht
  obtain ⟨W1, cap, hcb, hcap, hlie, hfree, hbW, hgW⟩ := conv_bytes x2 t
  go_wp2_with fail
  clear hcb
  have hlen : t.data.toList.length = t.size := Array.length_toList
  have HB : W1.grownBy W1 (some b) := grown_refl _ _
  have G : w.grownBy W1 (some b) := grown_trans g2 (grown_below hbW)
  have R : Rd 48 b s (takeRes s p f (sz n)).2.1 (takeRes s p f (sz n)).2.2 W1 := r2.keep hbW
  clear hfree hbW hgW g2 r2 h
  go_loopw [5, 14] (fun a i wr => ∃ j : Nat, j ≤ t.size ∧ i = .int .i64 j ∧ a = .int .i64 (wrap64 (bev (t.data.toList.take j))) ∧ Hid (wr = W1)) (fun a i _ => t.size - (intOf i).toNat)
  case atStart => exact ⟨0, Nat.zero_le _, rfl, by rw [List.take_zero]; unfold bev wrap64; rfl, rfl⟩
  case round =>
    obtain ⟨j, hj, rfl, rfl, HW⟩ := hrel
    by_cases hlt : j < t.size
    · have hi : j < t.data.toList.length := by omega
      have f1 := hlie j hi
      rw [← HW.out] at f1
      go_wp2_with fail
      go_roundw
      case rel =>
        refine ⟨j + 1, by omega, by go_num, ?_, HW⟩
        rw [take_snoc' t j hlt, bev_snoc]
        congr 1
        exact or_byte' _ _ (take_lt _ _ (by omega)) (UInt8.toNat_lt _)
      case measure => simp [intOf]; omega
    · go_wp2_with fail
      go_ret
      have hje : j = t.size := by omega
      rw [List.take_of_length_le (by omega)]
      rw [HW.out, HT.out]
      exact ⟨rfl, G, R⟩
end Go.Proofs.Ytcanmfkocbnbfaa
