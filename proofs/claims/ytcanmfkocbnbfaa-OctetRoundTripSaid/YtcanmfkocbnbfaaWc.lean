/- OctetLinear: the walk. The conditions on the strings are the row's own reach. -/
import Derived.Test.YtcanmfkocbnbfaaG
import Derived.Test.YtcanmfkocbnbfaaH
import Derived.Deep.OwnRows
import Derived.OpenShut
import Derived.Lib.Strings
set_option linter.unusedVariables false
namespace Go.Proofs.Ytcanmfkocbnbfaa
open Go.RowKit
namespace octetLinear

theorem xor_byte (a b : UInt8) : ∃ z : UInt8, bits .xor .u8 (a.toNat : Int) (b.toNat : Int) = (z.toNat : Int) ∧ z = a ^^^ b :=
  ⟨a ^^^ b, by rw [u8_xor_nat a.toNat b.toNat a.toNat_lt b.toNat_lt, UInt8.toNat_xor], rfl⟩
theorem byte_at (a : ByteArray) (k : Nat) (h : k < a.size) : a.data.toList[k]? = some (a[k]) := by
  rw [List.getElem?_eq_getElem (by simpa using h)]; simp [ByteArray.getElem_eq_getElem_data]
theorem sum_lt (l : List UInt8) : M.sum l < 4294967296 := by unfold M.sum; omega
theorem xor_lt {a b : Nat} (h : a < 4294967296) (k : b < 4294967296) : a ^^^ b < 4294967296 := M.xor_lt32 h k
theorem extract_list (a : ByteArray) (n : Nat) : (a.extract 0 n).data.toList = a.data.toList.take n := by
  simp [ByteArray.data_extract]
structure Ho (w : World) (g : Nat) (l : List UInt8) (x : World) : Prop where
  lie : Lie g l x
  free : ∀ j, j < l.length → x.frozen? ⟨g, j, none⟩ = false
  old : w.heap.size ≤ g ∧ g < x.heap.size
  bl : Below w.heap.size w x
theorem Ho.keep {w g l x x'} (h : Ho w g l x) (hb : Below x.heap.size x x') : Ho w g l x' :=
  ⟨fun j hj => by rw [hb.cell (p := ⟨g, j, none⟩) h.old.2]; exact h.lie j hj, fun j hj => by rw [hb.frozen (p := ⟨g, j, none⟩) h.old.2]; exact h.free j hj,
   ⟨h.old.1, Nat.lt_of_lt_of_le h.old.2 hb.size⟩, bt h.bl hb⟩
theorem Ho.set {w g l x} (h : Ho w g l x) (i : Nat) (hi : i < l.length) (b : UInt8) : Ho w g (l.set i b) (x.setCell ⟨g, i, none⟩ (.int .u8 b.toNat)) :=
  ⟨h.lie.set i hi b, fun j hj => by rw [World.frozen?_setCell]; exact h.free j (by simpa using hj),
   ⟨h.old.1, by simpa [World.setCell] using h.old.2⟩, h.bl.setCell (p := ⟨g, i, none⟩) h.old.1 _⟩
theorem Ho.drew {w g l x} (h : Ho w g l x) : Ho w g l x.drew := h.keep ((Below.refl _ _).drew)
def mix (a b c : List UInt8) (n i : Nat) : List UInt8 := (List.range n).map fun j => if j < i then (a[j]?.getD 0) ^^^ (b[j]?.getD 0) ^^^ (c[j]?.getD 0) else 0
theorem mix_len (a b c : List UInt8) (n i : Nat) : (mix a b c n i).length = n := by simp [mix]
theorem mix_set (a b c : List UInt8) (n i : Nat) (x y z : UInt8) (ha : a[i]? = some x) (hb : b[i]? = some y) (hc : c[i]? = some z) : (mix a b c n i).set i (x ^^^ y ^^^ z) = mix a b c n (i + 1) := by
  apply List.ext_getElem (by simp [mix_len])
  intro j h1 h2
  rw [mix_len] at h2
  by_cases e : i = j
  · subst e
    simp [mix, ha, hb, hc]
  · rw [List.getElem_set_ne e]
    simp only [mix, List.getElem_map, List.getElem_range]
    by_cases h : j < i
    · rw [if_pos h, if_pos (by omega)]
    · rw [if_neg h, if_neg (by omega)]
theorem mix_full (a b c : List UInt8) (n : Nat) (ha : n ≤ a.length) (hb : n ≤ b.length) (hc : n ≤ c.length) :
    mix a b c n n = List.zipWith (· ^^^ ·) (List.zipWith (· ^^^ ·) (a.take n) (b.take n)) (c.take n) := by
  apply List.ext_getElem (by simp [mix_len]; omega)
  intro j h1 h2
  rw [mix_len] at h1
  simp [mix, h1, List.getElem?_eq_getElem (show j < a.length by omega), List.getElem?_eq_getElem (show j < b.length by omega), List.getElem?_eq_getElem (show j < c.length by omega)]
theorem law (a b c : List UInt8) (n : Nat) (ha : n ≤ a.length) (hb : n ≤ b.length) (hc : n ≤ c.length) :
    M.sum (mix a b c n n) = M.sum (a.take n) ^^^ M.sum (b.take n) ^^^ M.sum (c.take n) := by
  rw [mix_full a b c n ha hb hc]
  have h := M.crcL_lin3 (a.take n) (b.take n) (c.take n) 4294967295 4294967295 4294967295 (by simp; omega) (by simp; omega)
  rw [Nat.xor_self, Nat.zero_xor] at h
  have h1 := M.crcL_lt (a.take n) 4294967295 (by omega)
  have h2 := M.crcL_lt (b.take n) 4294967295 (by omega)
  have h3 := M.crcL_lt (c.take n) 4294967295 (by omega)
  have h4 := M.crcL_lt (List.zipWith (· ^^^ ·) (List.zipWith (· ^^^ ·) (a.take n) (b.take n)) (c.take n)) 4294967295 (by omega)
  unfold M.sum
  rw [← not_nat _ h1, ← not_nat _ h2, ← not_nat _ h3, ← not_nat _ h4, h]
  generalize M.crcL 4294967295 (a.take n) = x
  generalize M.crcL 4294967295 (b.take n) = y
  generalize M.crcL 4294967295 (c.take n) = z
  apply Nat.eq_of_testBit_eq
  intro i
  simp only [Nat.testBit_xor]
  generalize Nat.testBit 4294967295 i = f
  generalize Nat.testBit x i = p
  generalize Nat.testBit y i = q
  generalize Nat.testBit z i = r
  cases f <;> cases p <;> cases q <;> cases r <;> rfl
theorem Ho.make {w x1 : World} (b1 : Below w.heap.size w x1) (a b c : List UInt8) (n : Nat) : Ho w x1.heap.size (mix a b c n 0) (x1.alloc (.cells (madeCells #[.int .u8 0] n) 5)) := by
  have hsz : ∀ j, j < n → (madeCells #[Value.int .u8 0] n)[j]? = some (.int .u8 0) := by
    intro j hj
    unfold madeCells
    have : j % 1 = 0 := by omega
    simp [hj, this]
  refine ⟨?_, ?_, ⟨b1.size, ?_⟩, b1.alloc b1.size _⟩
  · intro j hj
    rw [mix_len] at hj
    rw [World.cell?_alloc_mark, hsz j hj]
    simp [mix]
  · intro j hj
    rw [World.frozen?_alloc_mark]
    simp
  · rw [World.size_alloc]; omega
set_option maxRecDepth 100000 in
set_option maxHeartbeats 400000 in
theorem walk (a b c : ByteArray) (w : World) (w0 : a.size ≤ 140737488351232) (w1 : b.size ≤ 140737488351232) (w2 : c.size ≤ 140737488351232) :
    Calls Try.prog 8 #[.string a, .string b, .string c] w fun e w' => e = .returned (.bool true) ∧ Below w.heap.size w w' := by
  go_enter Try.func8, Try.ntmps8
  go_wp2_with fail
  refine (sanity_any _).mono ?_
  rintro e x1 ⟨rfl, b1⟩
  go_wp2_with fail
  case' inl =>
    obtain ⟨n, hn⟩ : ∃ n, n = c.size := ⟨_, rfl⟩
    have hA : n ≤ a.size := by split at h <;> omega
    have hB : n ≤ b.size := by split at h <;> omega
    have hC : n ≤ c.size := by omega
    rw [← hn]
    clear h hn
  case' inr.inl =>
    rename_i h2
    obtain ⟨n, hn⟩ : ∃ n, n = b.size := ⟨_, rfl⟩
    have hA : n ≤ a.size := by omega
    have hB : n ≤ b.size := by omega
    have hC : n ≤ c.size := by rw [if_pos h] at h2; omega
    rw [← hn]
    clear h2 h hn
  case' inr.inr =>
    rename_i h2
    obtain ⟨n, hn⟩ : ∃ n, n = a.size := ⟨_, rfl⟩
    have hA : n ≤ a.size := by omega
    have hB : n ≤ b.size := by omega
    have hC : n ≤ c.size := by rw [if_neg h] at h2; omega
    rw [← hn]
    clear h2 h hn
  all_goals
    have hmk := run_make_row' (P := Try.prog) 35 5 (.int .u8 0) 1 Try.underlying35 (by kernel_rfl) rfl .i64 .i64 n (by omega) (by omega)
    rw [hmk]
    clear hmk
    go_wp2_with fail
    go_loopw [10] (fun i wr => ∃ k : Nat, k ≤ n ∧ i = .int .i64 k ∧ Ho w x1.heap.size (mix a.data.toList b.data.toList c.data.toList n k) wr) (fun i _ => n - (intOf i).toNat)
    case atStart =>
      refine ⟨0, Nat.zero_le _, rfl, ?_⟩
      exact Ho.make b1 _ _ _ _
    case round =>
      obtain ⟨k, hk, rfl, hHo⟩ := hrel
      by_cases hlt : k < n
      · have hi : k < (mix a.data.toList b.data.toList c.data.toList n k).length := by rw [mix_len]; exact hlt
        have f1 := hHo.lie k hi
        have f2 := hHo.free k hi
        obtain ⟨z0, hz0, ez0⟩ := xor_byte (a[k]) (b[k])
        obtain ⟨z1, hz1, ez1⟩ := xor_byte z0 (c[k])
        have EZ : Hid ((mix a.data.toList b.data.toList c.data.toList n k).set k z1 = mix a.data.toList b.data.toList c.data.toList n (k + 1)) := by
          show _ = _
          rw [ez1, ez0]
          exact mix_set _ _ _ n k _ _ _ (byte_at a k (by omega)) (byte_at b k (by omega)) (byte_at c k (by omega))
        clear ez0 ez1
        have e4 : k < a.size := by omega
        have e5 : k < b.size := by omega
        have e6 : k < c.size := by omega
        go_wp2_with fail
        go_region
        clear f1 f2 hz0 hz1
        have hH1 := (hHo.set k hi z1).drew
        rw [EZ.out] at hH1
        go_wp2_with fail
        go_roundw
        case rel => exact ⟨k + 1, by omega, by go_num, hH1⟩
        case measure => simp [intOf]; omega
      · have hkk : k = n := by omega
        subst hkk
        have hLN := mix_len a.data.toList b.data.toList c.data.toList k k
        have hlaw := law a.data.toList b.data.toList c.data.toList k (by simpa using hA) (by simpa using hB) (by simpa using hC)
        have HL := Lib.hid hLN
        have HLAW := Lib.hid hlaw
        clear hLN hlaw
        go_wp2_with fail
        refine q_region (C := Ho w x1.heap.size (mix a.data.toList b.data.toList c.data.toList k k)) (by kernel_rfl) (by kernel_rfl) hHo.drew ?_
        have hs0 : (⟨(mix a.data.toList b.data.toList c.data.toList k k).toArray⟩ : ByteArray).size ≤ 1000000000000000000 := by rw [str_size, HL.out]; omega
        have hs1 : (a.extract 0 k).size ≤ 1000000000000000000 := by rw [ByteArray.size_extract]; omega
        have hs2 : (b.extract 0 k).size ≤ 1000000000000000000 := by rw [ByteArray.size_extract]; omega
        have hs3 : (c.extract 0 k).size ≤ 1000000000000000000 := by rw [ByteArray.size_extract]; omega
        repeat (first
          | go_big_quiet_skip
          | (go_big_quiet_want; refine q_val ?_; apply Exists.intro; refine ⟨fun x hx => ?_, ?_⟩; (focus (have hcv := hx.lie.conv k; rw [HL.out] at hcv; go_simp <;> rfl)); simp only [Act.put, List.setIfInBounds_toArray, List.set_cons_zero, List.set_cons_succ]; go_big_quiet_on)
          | (go_big_quiet_want; refine q_call 20 ?_; apply Exists.intro; refine ⟨fun x hx => ?_, ?_⟩; (focus (go_simp <;> rfl)); apply Exists.intro; refine ⟨fun x hx => ?_, ?_⟩; (focus (exact (sum_any _ _ (by assumption)).mono fun e y ⟨he, hb⟩ => ⟨he, hx.keep hb⟩)); simp only [Act.put, List.setIfInBounds_toArray, List.set_cons_zero, List.set_cons_succ]; go_big_quiet_on))
        refine wpQuiet_nil ?_
        intro x4 hS4
        replace hS4 := hS4.bl
        clear hHo
        go_wp2_with fail
        go_ret
        refine ⟨ret_bool ?_, hS4⟩
        rw [HLAW.out, u32_xor_nat _ _ (sum_lt _) (sum_lt _), u32_xor_nat _ _ (xor_lt (sum_lt _) (sum_lt _)) (sum_lt _)]
        simp
end octetLinear
end Go.Proofs.Ytcanmfkocbnbfaa
