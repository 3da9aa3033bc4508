/- OctetRoundTrip: the plain mathematics and small lemmas. -/
import Derived.Test.YtcanmfkocbnbfaaWe
import Derived.Deep.RegionHeld3
set_option linter.unusedVariables false
namespace Go.Proofs.Ytcanmfkocbnbfaa
open Go.RowKit
namespace octetRoundTrip
def one (z : Int) (k : Nat) : List UInt8 := M.be (k % 9) (u64 z) ++ M.leb (u64 z)
def enc1 (zs : List Int) : Nat → List UInt8
  | 0 => []
  | k + 1 => enc1 zs k ++ one (zs.getD k 0) k
def cutS (t : ByteArray) : ByteArray := if 300 < t.size then t.extract 0 300 else t
theorem cutS_size (t : ByteArray) : (cutS t).size ≤ 300 := by
  unfold cutS
  split
  · rw [ByteArray.size_extract]; omega
  · omega
def enc2 (ss : List ByteArray) : Nat → List UInt8
  | 0 => []
  | k + 1 => enc2 ss k ++ txt (cutS (ss.getD k ByteArray.empty))
theorem one_len (z : Int) (k : Nat) : (one z k).length ≤ 18 := by
  unfold one
  rw [List.length_append, M.be_length]
  have := M.leb_le _ (u64_lt z)
  omega
theorem enc1_len (zs : List Int) : ∀ k, (enc1 zs k).length ≤ 18 * k
  | 0 => by simp [enc1]
  | k + 1 => by
    have := enc1_len zs k
    have := one_len (zs.getD k 0) k
    rw [enc1, List.length_append]; omega
theorem enc2_len (ss : List ByteArray) : ∀ k, (enc2 ss k).length ≤ 310 * k
  | 0 => by simp [enc2]
  | k + 1 => by
    have := enc2_len ss k
    have := octetTruncated.txt_len (cutS (ss.getD k ByteArray.empty)) (cutS_size _)
    rw [enc2, List.length_append]; omega
theorem enc1_split (zs : List Int) (k : Nat) : ∀ m, k < m → ∃ rest, enc1 zs m = enc1 zs k ++ (one (zs.getD k 0) k ++ rest)
  | 0, h => by omega
  | m + 1, h => by
    by_cases e : k = m
    · subst e; exact ⟨[], by simp [enc1]⟩
    · obtain ⟨rest, hr⟩ := enc1_split zs k m (by omega)
      exact ⟨rest ++ one (zs.getD m 0) m, by rw [enc1, hr]; simp⟩
theorem enc2_split (ss : List ByteArray) (k : Nat) : ∀ m, k < m → ∃ rest, enc2 ss m = enc2 ss k ++ (txt (cutS (ss.getD k ByteArray.empty)) ++ rest)
  | 0, h => by omega
  | m + 1, h => by
    by_cases e : k = m
    · subst e; exact ⟨[], by simp [enc2]⟩
    · obtain ⟨rest, hr⟩ := enc2_split ss k m (by omega)
      exact ⟨rest ++ txt (cutS (ss.getD m ByteArray.empty)), by rw [enc2, hr]; simp⟩
theorem bev_be : ∀ (k u : Nat), bev (M.be k u) = u % 256 ^ k
  | 0, u => by simp [M.be, bev, Nat.mod_one]
  | k + 1, u => by
    rw [M.be_snoc, bev_snoc, bev_be k, Nat.pow_succ, Nat.mul_comm (256 ^ k), Nat.mod_mul]
    simp
    omega
theorem pow7 (r : Nat) (h : r ≤ 7) : 256 ^ r ≤ 72057594037927936 := Nat.le_trans (Nat.pow_le_pow_right (by omega) h) (by decide)
def want (z : Int) (r : Nat) : Int := if r < 8 then ((u64 z % 256 ^ r : Nat) : Int) else z
theorem num_want (z : Int) (h : (Lit.int .i64 z).wf = true) (r : Nat) (hr : r ≤ 8) : wrap64 ((bev (M.be r (u64 z)) : Nat) : Int) = want z r := by
  rw [bev_be]
  unfold want
  split
  · have := pow7 r (by omega)
    have h2 := Nat.mod_lt (u64 z) (show 0 < 256 ^ r from Nat.pow_pos (by omega))
    exact wrap64_small _ (by omega)
  · have : r = 8 := by omega
    subst this
    rw [Nat.mod_eq_of_lt (u64_lt z)]
    exact octetTruncated.wrap_u64 z h
theorem mask (z : Int) (r : Nat) (hr : r < 8) (m : Int) (hm : m = ((256 ^ r - 1 : Nat) : Int)) : bits .and .i64 z m = want z r := by
  have hp := pow7 r (by omega)
  have h0 : (BitVec.ofInt 64 z).toNat = u64 z := by
    rw [BitVec.toNat_ofInt]; unfold u64; rfl
  have h1 : (BitVec.ofInt 64 m).toNat = 256 ^ r - 1 := by
    rw [hm, BitVec.toNat_ofInt]
    omega
  have h2 : 256 ^ r - 1 = 2 ^ (8 * r) - 1 := by rw [Nat.pow_mul]
  show IntKind.i64.wrap ((BitVec.ofInt 64 z &&& BitVec.ofInt 64 m).toNat : Int) = _
  rw [BitVec.toNat_and, h0, h1, h2, Nat.and_two_pow_sub_one_eq_mod, Nat.pow_mul, IntWalk.i64_left]
  unfold want
  rw [if_pos hr]
  have h3 := Nat.mod_lt (u64 z) (show 0 < 256 ^ r from Nat.pow_pos (by omega))
  exact wrap64_small _ (by show u64 z % 256 ^ r < _; omega)
theorem sz_nat (r : Nat) (h : r ≤ 8) : sz (r : Int) = r := by unfold sz; omega

/-- Num at a place where the bytes of Put stand. -/
theorem take_at (S : ByteArray) (A B C : List UInt8) (hS : S.data.toList = A ++ (B ++ C)) : takeRes S A.length false (B.length : Int) = (⟨B.toArray⟩, A.length + B.length, false) := by
  have hl : S.size = A.length + (B.length + C.length) := by
    have e1 : S.data.toList.length = S.size := Array.length_toList
    rw [← e1, hS]; simp
  unfold takeRes
  rw [if_neg (by simp; omega)]
  have : S.extract A.length (A.length + B.length) = ⟨B.toArray⟩ := by
    apply ByteArray.ext
    apply Array.toList_inj.1
    rw [ByteArray.data_extract]
    have h3 : (S.data.extract A.length (A.length + B.length)).toList = List.take B.length (List.drop A.length S.data.toList) := by simp
    rw [h3, hS, List.drop_left, List.take_left]
  simp [this]
theorem var_at (S : ByteArray) (A C : List UInt8) (u : Nat) (hu : u < 18446744073709551616) (hS : S.data.toList = A ++ (M.leb u ++ C)) : varRes S A.length false = (wrap64 (u : Int), A.length + (M.leb u).length, false) := by
  unfold varRes
  rw [if_neg (by simp), hS, List.drop_left, (M.dec_iff _ _ _).2 ⟨hu, rfl, _, rfl⟩]
theorem text_at (S : ByteArray) (A C : List UInt8) (c : ByteArray) (hc : c.size ≤ 300) (hS : S.data.toList = A ++ (txt c ++ C)) : textRes S A.length false = (c, A.length + (txt c).length, false) := by
  have hS2 : S.data.toList = A ++ (M.leb c.size ++ (c.data.toList ++ C)) := by rw [hS]; unfold txt; rw [List.append_assoc]
  have hv := var_at S A (c.data.toList ++ C) c.size (by omega) hS2
  have e1 : c.data.toList.length = c.size := Array.length_toList
  have ht := take_at S (A ++ M.leb c.size) c.data.toList C (by rw [hS2]; simp)
  rw [List.length_append, e1] at ht
  rw [wrap64_small _ (by omega)] at hv
  unfold textRes
  simp only [hv, ht]
  rw [if_neg (by simp), str_mk]
  unfold txt
  rw [List.length_append, e1, Nat.add_assoc]
/-- One round of the law's reading. -/
theorem round1 (zs : List Int) (hwf : ∀ z ∈ zs, (Lit.int .i64 z).wf = true) (k m : Nat) (hk : k < m) (hm : m ≤ zs.length) (S : ByteArray) (Y : List UInt8) (hS : S.data.toList = enc1 zs m ++ Y) :
    takeRes S (enc1 zs k).length false ((sz ((k % 9 : Nat) : Int) : Nat) : Int) = (⟨(M.be (k % 9) (u64 (zs[k]'(by omega)))).toArray⟩, (enc1 zs k).length + k % 9, false) ∧
    varRes S ((enc1 zs k).length + k % 9) false = (zs[k]'(by omega), (enc1 zs (k + 1)).length, false) := by
  have hz : zs.getD k 0 = zs[k]'(by omega) := by rw [List.getD_eq_getElem?_getD, List.getElem?_eq_getElem (by omega)]; rfl
  obtain ⟨rest, hr⟩ := enc1_split zs k m hk
  rw [hz] at hr
  have h1 : S.data.toList = enc1 zs k ++ (M.be (k % 9) (u64 (zs[k]'(by omega))) ++ (M.leb (u64 (zs[k]'(by omega))) ++ (rest ++ Y))) := by rw [hS, hr]; unfold one; simp
  have h2 := take_at S _ _ _ h1
  rw [M.be_length] at h2
  have h3 := var_at S (enc1 zs k ++ M.be (k % 9) (u64 (zs[k]'(by omega)))) (rest ++ Y) (u64 (zs[k]'(by omega))) (u64_lt _) (by rw [h1]; simp)
  rw [List.length_append, M.be_length, octetTruncated.wrap_u64 _ (hwf _ (List.getElem_mem _))] at h3
  rw [sz_nat _ (by omega)]
  refine ⟨h2, ?_⟩
  rw [h3, enc1, List.length_append, hz]
  unfold one
  rw [List.length_append, M.be_length, Nat.add_assoc]
theorem round2 (ss : List ByteArray) (k m : Nat) (hk : k < m) (hm : m ≤ ss.length) (S : ByteArray) (X : List UInt8) (hS : S.data.toList = X ++ enc2 ss m) :
    textRes S (X.length + (enc2 ss k).length) false = (cutS (ss[k]'(by omega)), X.length + (enc2 ss (k + 1)).length, false) := by
  have hz : ss.getD k ByteArray.empty = ss[k]'(by omega) := by rw [List.getD_eq_getElem?_getD, List.getElem?_eq_getElem (by omega)]; rfl
  obtain ⟨rest, hr⟩ := enc2_split ss k m hk
  have := text_at S (X ++ enc2 ss k) rest (cutS (ss.getD k ByteArray.empty)) (cutS_size _) (by rw [hS, hr]; simp)
  rw [List.length_append] at this
  rw [this, enc2, List.length_append, hz, Nat.add_assoc]
/-- The cells of a slice of strings that came in. -/
def HasS (o : Option Addr) (ss : List ByteArray) (w : World) : Prop := ∀ i (h : i < ss.length), ∃ a, o = some a ∧ a.block < w.heap.size ∧ w.cell? (a.add i) = some (.string ss[i])
theorem HasS.keep {o ss w x} (h : HasS o ss w) (hb : Below w.heap.size w x) : HasS o ss x := by
  intro i hi
  obtain ⟨a, e, hl, hc⟩ := h i hi
  exact ⟨a, e, Nat.lt_of_lt_of_le hl hb.size, by rw [hb.cell (p := a.add i) (by rw [add_block]; exact hl)]; exact hc⟩
theorem HasS.at {a ss w} (h : HasS (some a) ss w) (i : Nat) (hi : i < ss.length) : w.cell? (a.add i) = some (.string ss[i]) := by
  obtain ⟨a', e, _, hc⟩ := h i hi
  rw [Option.some.inj e]; exact hc
theorem Has_at {a zs w} (h : Has (some a) zs w) (i : Nat) (hi : i < zs.length) : w.cell? (a.add i) = some (.int .i64 zs[i]) := by
  obtain ⟨a', e, _, hc⟩ := h i hi
  rw [Option.some.inj e]; exact hc
theorem Has_some {o zs w} (h : Has o zs w) (i : Nat) (hi : i < zs.length) : ∃ a, o = some a := by
  obtain ⟨a', e, _⟩ := h i hi
  exact ⟨a', e⟩
theorem HasS_some {o ss w} (h : HasS o ss w) (i : Nat) (hi : i < ss.length) : ∃ a, o = some a := by
  obtain ⟨a', e, _⟩ := h i hi
  exact ⟨a', e⟩
theorem rem9 (k : Nat) : ∃ r : Nat, (k : Int).tmod 9 = (r : Int) ∧ r ≤ 8 ∧ Hid (r = k % 9) := ⟨k % 9, by rw [Int.tmod_eq_emod_of_nonneg (by omega)]; omega, by omega, rfl⟩
theorem enc1_succ (zs : List Int) (k r : Nat) (h : k < zs.length) (hr : r = k % 9) : enc1 zs (k + 1) = enc1 zs k ++ M.be r (u64 zs[k]) ++ M.leb (u64 zs[k]) := by
  have hz : zs.getD k 0 = zs[k] := by rw [List.getD_eq_getElem?_getD, List.getElem?_eq_getElem h]; rfl
  rw [enc1, hz, hr]; unfold one; simp
theorem mask_at (z : Int) (r : Nat) (hr : r < 8) : ∃ M : Nat, IntKind.i64.wrap ((2 : Int) ^ (8 * r)) = (M : Int) ∧ IntKind.i64.wrap ((M : Int) - 1) = (M : Int) - 1 ∧ bits .and .i64 z ((M : Int) - 1) = want z r := by
  have hp := pow7 r (by omega)
  have h1 : 1 ≤ 256 ^ r := Nat.pow_pos (by omega)
  have h2 : (2 : Int) ^ (8 * r) = ((256 ^ r : Nat) : Int) := by rw [show 256 ^ r = 2 ^ (8 * r) by rw [Nat.pow_mul]]; simp
  refine ⟨256 ^ r, by rw [h2]; exact IntWalk.i64_in _ (by omega), IntWalk.i64_in _ (by omega), mask z r hr _ (by omega)⟩
theorem num_at (b : Nat) (S : ByteArray) (p r : Nat) (z : Int) (hz : (Lit.int .i64 z).wf = true) (hr : r ≤ 8) (hs : S.size ≤ 1000000000000000000) (hp : p ≤ S.size)
    (ht : takeRes S p false ((sz (r : Int) : Nat) : Int) = (⟨(M.be r (u64 z)).toArray⟩, p + r, false)) (x : World) (h : Rd 48 b S p false x) :
    Calls Try.prog 27 #[.pointer (some ⟨b, 0, none⟩), .int .i64 (r : Int)] x fun e y => e = .returned (.int .i64 (want z r)) ∧ x.grownBy y (some b) ∧ Rd 48 b S (p + r) false y := by
  have h1 := num_any b S p false x (r : Int) h hs hp
  rw [ht] at h1
  have h2 := num_want z hz r hr
  simp only [h2] at h1
  exact h1
theorem put9 (n : Int) (r : Nat) (w : World) (hr : r ≤ 8) : Calls Try.prog 14 #[.int .i64 n, .int .i64 (r : Int)] w fun e w' => e = .returned (.string ⟨(M.be r (u64 n)).toArray⟩) ∧ Below w.heap.size w w' := by
  have h := put_any n (r : Int) w
  rw [sz_nat r hr] at h
  exact h
theorem enc2_succ (ss : List ByteArray) (k : Nat) (h : k < ss.length) : enc2 ss (k + 1) = enc2 ss k ++ txt (cutS ss[k]) := by
  have hz : ss.getD k ByteArray.empty = ss[k] := by rw [List.getD_eq_getElem?_getD, List.getElem?_eq_getElem h]; rfl
  rw [enc2, hz]
end octetRoundTrip
end Go.Proofs.Ytcanmfkocbnbfaa
