/- OctetFails: the walk. The condition on the string is the row's own reach. -/
import Derived.Test.YtcanmfkocbnbfaaG
import Derived.Test.YtcanmfkocbnbfaaI
import Derived.OpenShut
import Derived.Lib.Strings
set_option linter.unusedVariables false
namespace Go.Proofs.Ytcanmfkocbnbfaa
open Go.RowKit
theorem takeRes_true (s : ByteArray) (p : Nat) (n : Int) : takeRes s p true n = (⟨#[]⟩, p, true) := by unfold takeRes; rw [if_pos (Or.inl rfl)]
theorem varRes_true (s : ByteArray) (p : Nat) : varRes s p true = (0, p, true) := by unfold varRes; rw [if_pos rfl]
theorem textRes_true (s : ByteArray) (p : Nat) : textRes s p true = (⟨#[]⟩, p, true) := by unfold textRes; simp [varRes_true, takeRes_true]
theorem num_failed (b : Nat) (s : ByteArray) (p : Nat) (w : World) (n : Int) (h : Rd 48 b s p true w) (hs : s.size ≤ 1000000000000000000) (hp : p ≤ s.size) :
    Calls Try.prog 27 #[.pointer (some ⟨b, 0, none⟩), .int .i64 n] w fun e w' => e = .returned (.int .i64 0) ∧ w.grownBy w' (some b) ∧ Rd 48 b s p true w' := by
  have := num_any b s p true w n h hs hp
  rw [takeRes_true] at this
  have e0 : wrap64 ((bev ((⟨#[]⟩ : ByteArray)).data.toList : Nat) : Int) = 0 := by unfold bev wrap64; rfl
  simp only [e0] at this
  exact this
theorem rtext_failed (b : Nat) (s : ByteArray) (p : Nat) (w : World) (h : Rd 48 b s p true w) (hs : s.size ≤ 1000000000000000000) (hp : p ≤ s.size) :
    Calls Try.prog 26 #[.pointer (some ⟨b, 0, none⟩)] w fun e w' => e = .returned (.string ⟨#[]⟩) ∧ w.grownBy w' (some b) ∧ Rd 48 b s p true w' := by
  have := rtext_any b s p true w h hs hp
  rw [textRes_true] at this
  exact this
theorem take_failed (b : Nat) (s : ByteArray) (p : Nat) (w : World) (n : Int) (h : Rd 48 b s p true w) (hs : s.size ≤ 1000000000000000000) (hp : p ≤ s.size) :
    Calls Try.prog 31 #[.pointer (some ⟨b, 0, none⟩), .int .i64 n] w fun e w' => e = .returned (.string ⟨#[]⟩) ∧ w.grownBy w' (some b) ∧ Rd 48 b s p true w' :=
  take_no b s p true w n h hs hp (Or.inl rfl)
theorem St.drewN {w b s p f x} (h : St w b s p f x) (n : Nat) : St w b s p f (x.drewN n) :=
  ⟨h.1.drewN n, h.2.1, h.2.2.os, h.2.2.tape, h.2.2.output, h.2.2.size, h.2.2.block⟩
namespace octetFails
theorem mask16 (a : Int) : ∃ X : Nat, bits .and .i64 a 65535 = (X : Int) ∧ X < 65536 := by
  have h1 : (BitVec.ofInt 64 a &&& BitVec.ofInt 64 65535).toNat < 2 ^ 16 := by
    rw [BitVec.toNat_and]
    exact Nat.and_lt_two_pow _ (by decide)
  refine ⟨(BitVec.ofInt 64 a &&& BitVec.ofInt 64 65535).toNat, ?_, h1⟩
  show IntKind.i64.wrap ((BitVec.ofInt 64 a &&& BitVec.ofInt 64 65535).toNat : Int) = _
  rw [IntKind.wrap_i64]
  omega
theorem place (a : Int) (n : Nat) (hn : n ≤ 140737488351232) :
    ∃ k : Nat, (wrap64 (wrap64 (a.tmod ((n : Int) + 1) + (n : Int)) + 1)).tmod ((n : Int) + 1) = (k : Int) ∧ k ≤ n := by
  have h1 := Int.tmod_lt_of_pos a (b := (n : Int) + 1) (by omega)
  have h2 := Int.lt_tmod_of_pos a (b := (n : Int) + 1) (by omega)
  generalize a.tmod ((n : Int) + 1) = t at *
  rw [IntWalk.wrap64_in (t + n) ⟨by omega, by omega⟩, IntWalk.wrap64_in _ ⟨by omega, by omega⟩, Int.tmod_eq_emod_of_nonneg (by omega)]
  have h3 := Int.emod_nonneg (t + n + 1) (b := (n : Int) + 1) (by omega)
  have h4 := Int.emod_lt_of_pos (t + n + 1) (b := (n : Int) + 1) (by omega)
  exact ⟨((t + n + 1) % ((n : Int) + 1)).toNat, by omega, by omega⟩
set_option maxRecDepth 100000 in
set_option maxHeartbeats 400000 in
theorem walk (a0 : ByteArray) (a1 a2 : Int) (w : World) (w0 : a0.size ≤ 140737488351232) (w1 : (Lit.int .i64 a1).wf = true) (w2 : (Lit.int .i64 a2).wf = true) :
    Calls Try.prog 12 #[.string a0, .int .i64 a1, .int .i64 a2] w fun e w' => e = .returned (.bool true) ∧ Below w.heap.size w w' := by
  clear w1 w2
  obtain ⟨k, hk, hkn⟩ := place a1 a0.size w0
  obtain ⟨m, hm, hmn⟩ := mask16 a2
  go_enter Try.func12, Try.ntmps12
  go_wp2_with fail
  refine (sanity_any _).mono ?_
  rintro e x1 ⟨rfl, b1⟩
  go_wp2_with fail
  refine (read_any _ _).mono ?_
  rintro e x2 ⟨rfl, hx2⟩
  have hS : St w x1.heap.size a0 0 false x2 := by subst hx2; exact St.read b1 _
  clear hx2 b1
  go_wp2_with fail
  clear hk
  have ht := take_yes _ _ _ _ k hS.rd (by omega) (by omega)
  rw [Nat.zero_add] at ht
  refine ht.mono ?_
  clear ht
  rintro e x3 ⟨rfl, hg, hR⟩
  replace hS := hS.step hg hR
  clear hg hR
  have hkn' : ¬ a0.size < k := Nat.not_lt.2 hkn
  go_wp2_with fail
  refine (failed_any _ _ _ _ _ hS.rd).mono ?_
  rintro e x4 ⟨rfl, rfl⟩
  go_wp2_with fail
  refine (at_any _ _ _ _ _ hS.rd).mono ?_
  rintro e x4 ⟨rfl, rfl⟩
  go_wp2_with fail
  refine (take_no _ _ _ _ _ _ hS.rd (by omega) (by omega) (Or.inr (Or.inr (by omega)))).mono ?_
  rintro e x5 ⟨rfl, hg, hR⟩
  replace hS := hS.step hg hR
  clear hg hR
  go_wp2_with fail
  refine (take_failed _ _ _ _ _ hS.rd (by omega) (by omega)).mono ?_
  rintro e x6 ⟨rfl, hg, hR⟩
  replace hS := hS.step hg hR
  clear hg hR
  go_wp2_with fail
  refine (num_failed _ _ _ _ _ hS.rd (by omega) (by omega)).mono ?_
  rintro e x7 ⟨rfl, hg, hR⟩
  replace hS := hS.step hg hR
  clear hg hR
  go_wp2_with fail
  refine (rtext_failed _ _ _ _ hS.rd (by omega) (by omega)).mono ?_
  rintro e x8 ⟨rfl, hg, hR⟩
  replace hS := hS.step hg hR
  clear hg hR
  go_wp2_with fail
  refine (rvar_failed _ _ _ _ hS.rd).mono ?_
  rintro e x9 ⟨rfl, hg, hR⟩
  replace hS := hS.step hg hR
  clear hg hR
  go_wp2_with fail
  refine (read_any _ _).mono ?_
  rintro e x10 ⟨rfl, hx2⟩
  have hlt : x1.heap.size < x9.heap.size := lt_of_heap hS.rd
  have hQ : St w x9.heap.size a0 0 false x10 := by subst hx2; exact St.read hS.bl _
  replace hS : St w x1.heap.size a0 k true x10 := by subst hx2; exact hS.alloc _
  clear hx2
  go_wp2_with fail
  refine (take_no _ _ _ _ _ _ hQ.rd (by omega) (by omega) (Or.inr (Or.inl (by omega)))).mono ?_
  rintro e x11 ⟨rfl, hg, hR⟩
  have hB := hg.block x1.heap.size (by have := lt_of_heap hQ.rd; omega) (by simp; omega)
  replace hQ := hQ.step hg hR
  replace hS : St w x1.heap.size a0 k true x11 := ⟨by have := hS.rd; unfold Rd at *; rw [hB]; exact this, hS.2.1, hQ.bl⟩
  clear hg hR hB hm
  go_wp2_with fail
  refine (failed_any _ _ _ _ _ hS.rd).mono ?_
  rintro e x12 ⟨rfl, rfl⟩
  go_wp2_with fail
  refine (failed_any _ _ _ _ _ hQ.rd).mono ?_
  rintro e x12 ⟨rfl, rfl⟩
  go_wp2_with fail
  refine (at_any _ _ _ _ _ hS.rd).mono ?_
  rintro e x12 ⟨rfl, rfl⟩
  go_wp2_with fail
  refine (left_any _ _ _ _ _ hS.rd (by omega) (by omega)).mono ?_
  rintro e x13 ⟨rfl, nq, hw⟩
  replace hS : St w x1.heap.size a0 k true x13 := by subst hw; exact hS.drewN _
  replace hQ : St w x9.heap.size a0 0 true x13 := by subst hw; exact hQ.drewN _
  clear hw
  go_wp2_with fail
  refine (at_any _ _ _ _ _ hQ.rd).mono ?_
  rintro e x14 ⟨rfl, rfl⟩
  have hS4 := hQ
  replace hS4 := hS4.bl
  clear hS hQ
  go_wp2_with fail
  go_ret
  exact ⟨rfl, hS4⟩
end octetFails
end Go.Proofs.Ytcanmfkocbnbfaa
