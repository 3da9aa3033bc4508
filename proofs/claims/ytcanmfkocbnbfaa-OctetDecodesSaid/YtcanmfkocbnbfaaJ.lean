/- Walks of layer 1: the reference reader's Take and Num; Num of a nil reader. -/
import Derived.Test.YtcanmfkocbnbfaaI
import Derived.BigQuiet
set_option linter.unusedVariables false
namespace Go.Proofs.Ytcanmfkocbnbfaa
open Go.RowKit

set_option maxRecDepth 100000 in
set_option maxHeartbeats 400000 in
theorem rtake_true (b : Nat) (s : ByteArray) (p : Nat) (w : World) (n : Int) (h : Rd 46 b s p true w) :
    Calls Try.prog 32 #[.pointer (some ⟨b, 0, none⟩), .int .i64 n] w fun e w' => e = .returned (.string ⟨#[]⟩) ∧ w.grownBy w' (some b) ∧ Rd 46 b s p true w' := by
  have h2 := h.c2
  have hf := h.fz 2
  go_enter Try.func32, Try.ntmps32
  go_wp2_with fail
  go_quiet (fail)
  have hf' : (w.drewN nq).frozen? ⟨b, 2, none⟩ = false := hf
  have h2' : (w.drewN nq).cell? ⟨b, 2, none⟩ = some (.bool true) := h2
  go_wp2_with fail
  go_ret
  exact ⟨rfl, grown_set (grown_drewN (grown_refl _ _)) _ _, (h.drewN nq).put2 _⟩

set_option maxRecDepth 100000 in
set_option maxHeartbeats 400000 in
theorem rtake_neg (b : Nat) (s : ByteArray) (p : Nat) (w : World) (n : Int) (h : Rd 46 b s p false w) (hn : n < 0) :
    Calls Try.prog 32 #[.pointer (some ⟨b, 0, none⟩), .int .i64 n] w fun e w' => e = .returned (.string ⟨#[]⟩) ∧ w.grownBy w' (some b) ∧ Rd 46 b s p true w' := by
  have h2 := h.c2
  have hf := h.fz 2
  have hd : decide (n < 0) = true := decide_eq_true hn
  go_enter Try.func32, Try.ntmps32
  go_wp2_with fail
  go_quiet (fail)
  have hf' : (w.drewN nq).frozen? ⟨b, 2, none⟩ = false := hf
  have h2' : (w.drewN nq).cell? ⟨b, 2, none⟩ = some (.bool false) := h2
  go_wp2_with fail
  go_ret
  exact ⟨rfl, grown_set (grown_drewN (grown_refl _ _)) _ _, (h.drewN nq).put2 _⟩

set_option maxRecDepth 100000 in
set_option maxHeartbeats 400000 in
theorem rtake_over (b : Nat) (s : ByteArray) (p : Nat) (w : World) (n : Int) (h : Rd 46 b s p false w) (hs : s.size ≤ 1000000000000000000) (hp : p ≤ s.size) (hn : ¬ n < 0) (ho : (s.size : Int) - p < n) :
    Calls Try.prog 32 #[.pointer (some ⟨b, 0, none⟩), .int .i64 n] w fun e w' => e = .returned (.string ⟨#[]⟩) ∧ w.grownBy w' (some b) ∧ Rd 46 b s p true w' := by
  have h0 := h.c0
  have h1 := h.c1
  have h2 := h.c2
  have hf := h.fz 2
  have hd : decide (n < 0) = false := decide_eq_false hn
  have e1 : IntKind.i64.wrap ((s.size : Int) - p) = (s.size : Int) - p := IntWalk.i64_in _ (by omega)
  go_enter Try.func32, Try.ntmps32
  go_wp2_with fail
  go_quiet (fail)
  have hf' : (w.drewN nq).frozen? ⟨b, 2, none⟩ = false := hf
  have h2' : (w.drewN nq).cell? ⟨b, 2, none⟩ = some (.bool false) := h2
  clear e1
  go_wp2_with fail
  go_ret
  exact ⟨rfl, grown_set (grown_drewN (grown_refl _ _)) _ _, (h.drewN nq).put2 _⟩

set_option maxRecDepth 100000 in
set_option maxHeartbeats 400000 in
theorem rtake_yes (b : Nat) (s : ByteArray) (p : Nat) (w : World) (n : Nat) (h : Rd 46 b s p false w) (hs : s.size ≤ 1000000000000000000) (hp : p + n ≤ s.size) :
    Calls Try.prog 32 #[.pointer (some ⟨b, 0, none⟩), .int .i64 n] w fun e w' => e = .returned (.string (s.extract p (p + n))) ∧ w.grownBy w' (some b) ∧ Rd 46 b s (p + n) false w' := by
  have h0 := h.c0
  have h1 := h.c1
  have h2 := h.c2
  have hf := h.fz 1
  have hd : decide ((n : Int) < 0) = false := decide_eq_false (by omega)
  have e1 : IntKind.i64.wrap ((s.size : Int) - p) = (s.size : Int) - p := IntWalk.i64_in _ (by omega)
  have hd2 : decide ((s.size : Int) - p < (n : Int)) = false := decide_eq_false (by omega)
  go_enter Try.func32, Try.ntmps32
  go_wp2_with fail
  go_quiet (fail)
  have h0' : (w.drewN nq).cell? ⟨b, 0, none⟩ = some (.string s) := h0
  have h1' : (w.drewN nq).cell? ⟨b, 1, none⟩ = some (.int .i64 (p : Int)) := h1
  have hf' : (w.drewN nq).frozen? ⟨b, 1, none⟩ = false := hf
  clear e1 hd hd2 h0 h1 h2 hf
  go_wp2_with fail
  go_quiet (fail)
  go_wp2_with fail
  go_ret
  exact ⟨rfl, grown_drewN (grown_set (grown_drewN (grown_refl _ _)) _ _), (Rd.put1 (Rd.drewN h _) (p + n)).drewN _⟩

theorem rtake_any (b : Nat) (s : ByteArray) (p : Nat) (f : Bool) (w : World) (n : Int) (h : Rd 46 b s p f w) (hs : s.size ≤ 1000000000000000000) (hp : p ≤ s.size) :
    Calls Try.prog 32 #[.pointer (some ⟨b, 0, none⟩), .int .i64 n] w fun e w' => e = .returned (.string (takeRes s p f n).1) ∧ w.grownBy w' (some b) ∧ Rd 46 b s (takeRes s p f n).2.1 (takeRes s p f n).2.2 w' := by
  by_cases hn : f = true ∨ n < 0 ∨ (s.size : Int) - p < n
  · have e : takeRes s p f n = (⟨#[]⟩, p, true) := by unfold takeRes; rw [if_pos hn]
    rw [e]
    cases f with
    | true => exact rtake_true b s p w n h
    | false =>
      by_cases h0 : n < 0
      · exact rtake_neg b s p w n h h0
      · exact rtake_over b s p w n h hs hp h0 (by rcases hn with h | h | h <;> first | omega | simp at h)
  · have e : takeRes s p f n = (s.extract p (p + n.toNat), p + n.toNat, false) := by unfold takeRes; rw [if_neg hn]
    rw [e]
    have hf : f = false := by cases f <;> simp_all
    subst hf
    obtain ⟨m, rfl⟩ := Int.eq_ofNat_of_zero_le (show 0 ≤ n by omega)
    rw [Int.toNat_natCast]
    exact rtake_yes b s p w m h hs (by omega)

theorem u64_step (u c : Nat) (hu : u < 72057594037927936) (hc : c < 256) : IntKind.u64.wrap (IntKind.u64.wrap ((u : Int) * 256) + (c : Int)) = ((u * 256 + c : Nat) : Int) := by
  rw [IntKind.wrap_u64, IntKind.wrap_u64]; omega
set_option maxRecDepth 100000 in
set_option maxHeartbeats 400000 in
theorem rnum_any (b : Nat) (s : ByteArray) (p : Nat) (f : Bool) (w : World) (n : Int) (h : Rd 46 b s p f w) (hs : s.size ≤ 1000000000000000000) (hp : p ≤ s.size) :
    Calls Try.prog 28 #[.pointer (some ⟨b, 0, none⟩), .int .i64 n] w fun e w' => e = .returned (.int .i64 (wrap64 (bev (takeRes s p f (sz n)).1.data.toList))) ∧ w.grownBy w' (some b) ∧ Rd 46 b s (takeRes s p f (sz n)).2.1 (takeRes s p f (sz n)).2.2 w' := by
  go_enter Try.func28, Try.ntmps28
  go_wp2_with fail
  refine (size_ref n _).mono ?_
  rintro e x1 ⟨rfl, rfl⟩
  go_wp2_with fail
  refine (rtake_any b s p f _ (sz n) h hs hp).mono ?_
  rintro e x2 ⟨rfl, g2, r2⟩
  have hsz := take_size s p f n
  generalize ht : (takeRes s p f (sz n)).1 = t at *
  have HT := Lib.hid ht
  clear ht h
  have hlen : t.data.toList.length = t.size := Array.length_toList
  go_wp2_with fail
  go_loop [6, 7] (fun a i => ∃ j : Nat, j ≤ t.size ∧ i = .int .i64 j ∧ a = .int .u64 (bev (t.data.toList.take j) : Nat)) (fun a i => t.size - (intOf i).toNat)
  case atStart => exact ⟨0, Nat.zero_le _, rfl, by rw [List.take_zero]; rfl⟩
  case round =>
    obtain ⟨j, hj, rfl, rfl⟩ := hrel
    by_cases hlt : j < t.size
    · have hu := take_lt t.data.toList j (by omega)
      have hc := UInt8.toNat_lt t[j]
      have HE : Hid (bev (t.data.toList.take (j + 1)) = bev (t.data.toList.take j) * 256 + t[j].toNat) := by
        show _ = _
        rw [take_snoc' t j hlt, bev_snoc]; rfl
      generalize bev (t.data.toList.take j) = u at *
      go_wp2_with fail
      go_round
      case rel =>
        refine ⟨j + 1, by omega, by go_num, ?_⟩
        rw [HE.out]
        congr 1
      case measure => simp [intOf]; omega
    · have hje : j = t.size := by omega
      have hfin : t.data.toList.take j = t.data.toList := List.take_of_length_le (by omega)
      rw [hfin]
      clear hfin
      go_wp2_with fail
      go_ret
      exact ⟨ret_int (by rw [HT.out]), g2, r2⟩

set_option maxRecDepth 100000 in
set_option maxHeartbeats 400000 in
theorem num_nil (n : Int) (w : World) :
    Calls Try.prog 27 #[.pointer none, .int .i64 n] w fun e w' => e = .returned (.int .i64 0) ∧ Below w.heap.size w w' := by
  go_enter Try.func27, Try.ntmps27
  go_wp2_with fail
  refine (size_any n _).mono ?_
  rintro e x1 ⟨rfl, rfl⟩
  go_wp2_with fail
  refine (take_nil _ _).mono ?_
  rintro e x2 ⟨rfl, rfl⟩
  obtain ⟨W1, cap, hcb, hcap, hlie, hfree, hbW, hgW⟩ := conv_bytes w ⟨#[]⟩
  clear hcap hlie hfree hgW
  go_wp2_with fail
  clear hcb
  refine wp_loop_rounds 1 ?_
  rw [rounds_succ]
  go_wp2_with fail
  go_ret
  exact ⟨rfl, hbW⟩
end Go.Proofs.Ytcanmfkocbnbfaa
