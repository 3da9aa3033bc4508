/- Walk of Decode's callback. -/
import Derived.Test.YtdepfgeomceiiaaU
import Derived.Test.YtdepfgeomceiiaaS
import Derived.Test.YtdepfgeomceiiaaM3
import Derived.Test.YtdepfgeomceiiaaJ3
set_option linter.unusedVariables false
namespace Go.Proofs.Ytdepfgeomceiiaa
open Go.RowKit
/-- During the bits of a byte: the reader, its box, the byte's box; what else there was is as it was. -/
structure DI (g rb bb : Nat) (f : ByteArray) (a : Nat) (m : Nat) (s : M.St) (w1 w : World) : Prop where
  rs : RS g f m s w
  hrb : w.heap[rb]? = some (.cells #[.pointer (some ⟨g, 0, none⟩)] 47 (0, 0))
  hbb : w.heap[bb]? = some (.cells #[.int .u8 (a : Int)] 5 (0, 0))
  chg : Chg g none w1 w
  lt : w1.heap.size ≤ bb
theorem shl_wrap (b k : Nat) (hb : b ≤ 1) (hk : k < 8) : b * 2 ^ (7 - k) < 256 := by
  have e4 : b * 2 ^ (7 - k) ≤ 1 * 2 ^ (7 - k) := Nat.mul_le_mul_right _ hb
  have : 2 ^ (7 - k) ≤ 2 ^ 7 := Nat.pow_le_pow_right (by decide) (by omega)
  omega
set_option maxRecDepth 100000 in
set_option maxHeartbeats 1000000 in
theorem cb32 {g rb bb : Nat} {f : ByteArray} {c m : Nat} {s : M.St} {w1 : World} (w : World) (k : Nat) (hk : k < 8) (h1 : 2 ^ k ≤ c) (h2 : c < 2 ^ (k + 1)) (h : DI g rb bb f (M.acc c k) m s w1 w) (hm : m ≤ 90000000) (hf : f.size ≤ 1000000000000000) :
    Calls Try.prog 32 #[.int .i64 (7 - (k : Int)), .int .i64 (c : Int), .pointer (some ⟨rb, 0, none⟩), .pointer (some ⟨bb, 0, none⟩)] w fun e w' =>
      e = .returned (.int .i64 (M.rb s c (M.val f.data.toList m))) ∧ DI g rb bb f (M.acc (2 * c + (M.rb s c (M.val f.data.toList m)).toNat) (k + 1)) (m + (M.outB s c (M.rb s c (M.val f.data.toList m))).length) (M.nxt s c (M.rb s c (M.val f.data.toList m))) w1 w' := by
  have hc256 : c < 256 := Nat.lt_of_lt_of_le h2 (show 2 ^ (k + 1) ≤ 2 ^ 8 from Nat.pow_le_pow_right (by decide) (by omega))
  have hcx : cx (c : Int) = c := by unfold cx; omega
  have hr := bit_rs h.rs (c : Int) hm hf
  unfold nb at hr
  rw [hcx] at hr
  have d1 : w.cell? ⟨rb, 0, none⟩ = some (.pointer (some ⟨g, 0, none⟩)) := by rw [cell_of_row w rb 0 _ _ _ h.hrb]; rfl
  obtain ⟨b, hb⟩ : ∃ b : Nat, M.rb s c (M.val f.data.toList m) = b := by
    rcases M.rb_01 s c (M.val f.data.toList m) with e | e
    · exact ⟨0, e⟩
    · exact ⟨1, e⟩
  have hb1 : b ≤ 1 := by rcases M.rb_01 s c (M.val f.data.toList m) with e | e <;> omega
  rw [hb] at hr ⊢
  have hbt : (b : Int).toNat = b := rfl
  rw [hbt]
  obtain ⟨a1, a2, a3, a4⟩ := M.acc_step c k b hk h1 h2 hb1
  rw [a1]
  clear a1
  have HR := Lib.hid hr
  have HD := Lib.hid h
  clear hr h
  have hor := u8_or_nat (M.acc c k) (b * 2 ^ (7 - k)) a3 a4
  rw [a2] at hor
  generalize M.acc c k = a at *
  go_enter Try.func32, Try.ntmps32
  go_wp2_with fail
  refine HR.out.mono ?_
  rintro e x ⟨rfl, hrs, hchg⟩
  have hne : rb ≠ g := by
    obtain ⟨_, _, hx⟩ := HD.out.rs.ex
    exact blk_ne hx HD.out.hrb (by decide)
  have hne2 : bb ≠ g := by
    obtain ⟨_, _, hx⟩ := HD.out.rs.ex
    exact blk_ne hx HD.out.hbb (by decide)
  have x1 : x.heap[rb]? = some (.cells #[.pointer (some ⟨g, 0, none⟩)] 47 (0, 0)) := by rw [hchg.block _ (Array.getElem?_eq_some_iff.1 HD.out.hrb).1 hne (by simp)]; exact HD.out.hrb
  have x2 : x.heap[bb]? = some (.cells #[.int .u8 (a : Int)] 5 (0, 0)) := by rw [hchg.block _ (Array.getElem?_eq_some_iff.1 HD.out.hbb).1 hne2 (by simp)]; exact HD.out.hbb
  have d2 : x.cell? ⟨bb, 0, none⟩ = some (.int .u8 (a : Int)) := by rw [cell_of_row x bb 0 _ _ _ x2]; rfl
  have f2 : x.frozen? ⟨bb, 0, none⟩ = false := frozen_of_row x bb 0 _ _ x2
  have HX := Lib.hid (And.intro hrs (And.intro x1 (And.intro x2 (HD.out.chg.trans (.inl rfl) hchg))))
  have hlt := HD.out.lt
  clear hrs x1 x2 hchg HR d1
  go_upto_region 2 with fail
  refine wp_region_lastB2 (C := fun y => ∃ n, y = x.drewN n) rfl (by kernel_rfl) (by kernel_rfl) (by kernel_rfl) (by kernel_rfl) rfl rfl ⟨1, rfl⟩ ?_
  simp only [lastOp, List.dropLast, List.cons_append, List.nil_append]
  repeat (first
    | go_big_quiet_skip
    | (go_big_quiet_want; refine q_val ?_; apply Exists.intro; refine ⟨fun x hx => ?_, ?_⟩; (focus (obtain ⟨n, rfl⟩ := hx; go_simp <;> rfl)); simp only [Act.put, List.setIfInBounds_toArray, List.set_cons_zero, List.set_cons_succ]; go_big_quiet_on))
  refine wpQuiet_nil ?_
  rintro y ⟨n, rfl⟩
  have hw0 : IntKind.u8.wrap (b : Int) = b := by rw [IntKind.wrap_u8]; omega
  have hw1 : IntKind.u8.wrap ((b : Int) * 2 ^ (7 - k)) = ((b * 2 ^ (7 - k) : Nat) : Int) := by
    have e : ((b : Int) * 2 ^ (7 - k)) = ((b * 2 ^ (7 - k) : Nat) : Int) := by rw [Int.natCast_mul, Int.natCast_pow]; rfl
    rw [e, IntKind.wrap_u8]
    generalize b * 2 ^ (7 - k) = z at *
    omega
  rw [hw0, hw1, hor]
  clear hw0 hw1 hor a2 a3 a4
  generalize hz : b * 2 ^ (7 - k) = z at *
  replace hz := Lib.hid hz
  replace HX := Lib.hid (show RS g f _ _ (x.drewN n) ∧ (x.drewN n).heap[rb]? = some (.cells #[.pointer (some ⟨g, 0, none⟩)] 47 (0, 0)) ∧ (x.drewN n).heap[bb]? = some (.cells #[.int .u8 (a : Int)] 5 (0, 0)) ∧ Chg g none w1 (x.drewN n) from
    ⟨⟨HX.out.1.ok, HX.out.1.ex⟩, HX.out.2.1, HX.out.2.2.1, ⟨HX.out.2.2.2.os, HX.out.2.2.2.tape, HX.out.2.2.2.output, HX.out.2.2.2.size, HX.out.2.2.2.block⟩⟩)
  replace d2 : (x.drewN n).cell? ⟨bb, 0, none⟩ = some (.int .u8 (a : Int)) := d2
  replace f2 : (x.drewN n).frozen? ⟨bb, 0, none⟩ = false := f2
  generalize x.drewN n = y at *
  obtain ⟨y1, y2, y3, y4⟩ := HX.out
  have hrb : rb ≠ bb := by
    intro e
    rw [e, y3] at y2
    injection y2 with y2
    injection y2 with _ y2 _
    exact absurd y2 (by decide)
  have HF : Hid (DI g rb bb f (a + z) (m + (M.outB s c (b : Int)).length) (M.nxt s c (b : Int)) w1 (y.setCell ⟨bb, 0, none⟩ (.int .u8 ((a : Int) + (z : Int))))) := by
    refine Lib.hid ⟨⟨y1.ok, ?_⟩, ?_, ?_, ⟨y4.os, y4.tape, y4.output, by simp [World.setCell]; exact y4.size, fun j hj hg hr => by rw [heap_setCell_other _ _ _ _ (by show j ≠ bb; omega)]; exact y4.block j hj hg hr⟩, hlt⟩
    · obtain ⟨n', e', hx⟩ := y1.ex
      exact ⟨n', e', hx.other _ _ (Ne.symm hne2)⟩
    · rw [heap_setCell_other _ _ _ _ (by simpa using hrb)]; exact y2
    · simp [World.setCell, Array.getElem?_modify, y3]
  clear HX HD y1 y2 y3 y4
  go_wp2
  go_ret
  exact ⟨rfl, by rw [hz.out]; exact HF.out⟩
end Go.Proofs.Ytdepfgeomceiiaa
