/- Walk of the law PredictPlanes of layer 10: it returns true and writes nothing that was there. -/
import Derived.Test.YtihhcmgidgffoaaG
import Derived.Test.YtihhcmgidgffoaaFlatB
import Derived.Lib.Strings
set_option linter.unusedVariables false
namespace Go.Proofs.Ytihhcmgidgffoaa
open Go.RowKit
namespace predictPlanes
/-- The colours of t with the alpha values of u. -/
def mix (t u : Nat → UInt8) (j : Nat) : UInt8 := if j % 4 = 3 then u j else t j
def mixN (t u : Nat → UInt8) (n j : Nat) : UInt8 := if j % 4 = 3 ∧ j < 4 * n then u j else t j
theorem mixN_zero (t u : Nat → UInt8) (j : Nat) : mixN t u 0 j = t j := by unfold mixN; rw [if_neg (by omega)]
theorem mixN_full (t u : Nat → UInt8) (j : Nat) (h : j < 256) : mixN t u 64 j = mix t u j := by
  unfold mixN mix
  by_cases h3 : j % 4 = 3
  · rw [if_pos ⟨h3, by omega⟩, if_pos h3]
  · rw [if_neg (fun h => h3 h.1), if_neg h3]
theorem mixN_put (t u : Nat → UInt8) (n j : Nat) : M.put (mixN t u n) (n * 4 + 3) (u (n * 4 + 3)) j = mixN t u (n + 1) j := by
  unfold M.put mixN
  by_cases h : j = n * 4 + 3
  · subst h; rw [if_pos rfl, if_pos ⟨by omega, by omega⟩]
  · rw [if_neg h]
    by_cases h3 : j % 4 = 3 ∧ j < 4 * n
    · rw [if_pos h3, if_pos ⟨h3.1, by omega⟩]
    · rw [if_neg h3, if_neg (by omega)]
theorem plf_mix1 (t u : Nat → UInt8) (j : Nat) (h : j < 192) : plf (mix t u) j = plf t j := by
  have e0 : ∀ i, mix t u (4 * i) = t (4 * i) := fun i => by unfold mix; rw [if_neg (by omega)]
  have e1 : ∀ i, mix t u (4 * i + 1) = t (4 * i + 1) := fun i => by unfold mix; rw [if_neg (by omega)]
  have e2 : ∀ i, mix t u (4 * i + 2) = t (4 * i + 2) := fun i => by unfold mix; rw [if_neg (by omega)]
  unfold plf
  simp only [e0, e1, e2]
  split
  · rfl
  · split
    · rfl
    · rfl
theorem plf_mix2 (t u : Nat → UInt8) (j : Nat) (h : 192 ≤ j) : plf (mix t u) j = plf u j := by
  unfold plf
  rw [if_neg (by omega), if_neg (by omega), if_neg (by omega), if_neg (by omega), if_neg (by omega), if_neg (by omega)]
  unfold mix
  rw [if_pos (by omega)]
theorem ext_of (s : ByteArray) (a b : Nat) : (s.extract a b).data.toList = (s.data.toList.drop a).take (b - a) := by
  simp [ByteArray.data_extract, Array.toList_extract, List.extract]
theorem tab_drop (n m : Nat) (f : Nat → UInt8) : (M.tab (n + m) f).drop n = M.tab m (fun i => f (n + i)) := by
  rw [M.tab_add, List.drop_append, M.tab_length, Nat.sub_self, List.drop_zero, List.drop_of_length_le (by rw [M.tab_length]; exact Nat.le_refl _), List.nil_append]
theorem tab_take (n m : Nat) (f : Nat → UInt8) : (M.tab (n + m) f).take n = M.tab n f := by
  rw [M.tab_add, List.take_append, M.tab_length, Nat.sub_self, List.take_zero, List.append_nil, List.take_of_length_le (by rw [M.tab_length]; exact Nat.le_refl _)]
theorem head_eq (k : Nat) (t u : Nat → UInt8) : (fw k t).extract 0 192 = (fw k (mix t u)).extract 0 192 := by
  apply ByteArray.ext
  apply Array.toList_inj.1
  rw [ext_of, ext_of]
  unfold fw
  simp only [List.drop_zero, Nat.sub_zero]
  rw [show (256 : Nat) = 192 + 64 from rfl, tab_take, tab_take]
  exact M.tab_congr _ _ _ fun i hi => M.res_congr _ _ _ _ fun m _ hm => (plf_mix1 t u m (by omega)).symm
theorem tail_eq (k : Nat) (t u : Nat → UInt8) : (fw k (mix t u)).extract 192 256 = (fw k u).extract 192 256 := by
  apply ByteArray.ext
  apply Array.toList_inj.1
  rw [ext_of, ext_of]
  unfold fw
  rw [show (256 : Nat) = 192 + 64 from rfl, tab_drop, tab_drop]
  rw [M.tab_congr 64 (fun i => M.res k (plf (mix t u)) (192 + i)) (fun i => M.res k (plf u) (192 + i)) fun i hi => M.res_congr _ _ _ _ fun m hm _ => plf_mix2 t u m (by omega)]

set_option maxRecDepth 100000 in
set_option maxHeartbeats 800000 in
theorem walk (t u : Nat → UInt8) (w : World) :
    Calls Try.prog 6 #[.agg (cf 256 t), .agg (cf 256 u)] w fun e w' => e = .returned (.bool true) ∧ Below w.heap.size w w' := by
  have hz := Try.zero36
  go_enter Try.func6, Try.ntmps6
  go_wp2_with fail
  refine (sanity_any _).mono ?_
  rintro e x1 ⟨rfl, b1⟩
  have hT : Bk w.heap.size 36 256 t x1 := Bk.keep ((Bk.new w 36 256 t).alloc (.cells (cf 256 u) 36)) b1
  have hU : Bk (w.heap.size + 1) 36 256 u x1 := Bk.keep (heap_alloc2_new w (.cells (cf 256 t) 36) (.cells (cf 256 u) 36)) b1
  have hb : Below w.heap.size w x1 := (((Below.refl _ _).alloc (Nat.le_refl _) (.cells (cf 256 t) 36)).alloc (by simp) (.cells (cf 256 u) 36)).trans (b1.mono (by simp; omega))
  clear b1
  have lT := hT.lt
  have lU := hU.lt
  go_wp2_with (first
    | (refine wpList_load_row rfl 36 _ rfl w.heap.size rfl 36 _ (0, 0) _ hT Try.underlying36 rfl (by rw [cf_size]; exact Try.size36) ?_)
    | (refine wp_store_cf x1 rfl 36 _ _ rfl rfl x1.heap.size rfl 256 t (fun _ => 0) rfl rfl Try.size36 36 ?_))
  have hT1 : Bk w.heap.size 36 256 t (x1.alloc (.cells (cf 256 t) 36)) := hT.alloc _
  have hU1 : Bk (w.heap.size + 1) 36 256 u (x1.alloc (.cells (cf 256 t) 36)) := hU.alloc _
  have hA1 : Bk x1.heap.size 36 256 (mixN t u 0) (x1.alloc (.cells (cf 256 t) 36)) := (Bk.new x1 36 256 t).congr fun j _ => (mixN_zero t u j).symm
  have hb1 : Below w.heap.size w (x1.alloc (.cells (cf 256 t) 36)) := hb.alloc hb.size _
  have n1 : w.heap.size ≠ x1.heap.size := by omega
  have n2 : w.heap.size + 1 ≠ x1.heap.size := by omega
  have l1 : w.heap.size ≤ x1.heap.size := hb.size
  clear hT hU hb hz lT lU
  generalize x1.alloc (.cells (cf 256 t) 36) = W0 at *
  generalize x1.heap.size = ga at *
  generalize hgu : w.heap.size + 1 = gu at *
  clear hgu
  go_loopw [7] (fun i wr => ∃ n : Nat, n ≤ 64 ∧ i = .int .i64 n ∧ Bk ga 36 256 (mixN t u n) wr ∧ Bk gu 36 256 u wr ∧ Bk w.heap.size 36 256 t wr ∧ Below w.heap.size w wr) (fun i _ => 64 - (intOf i).toNat)
  case atStart => exact ⟨0, by omega, rfl, hA1, hU1, hT1, hb1⟩
  case round =>
    clear hA1 hU1 hT1 hb1
    obtain ⟨n, hn, rfl, hA, hU, hT, hb⟩ := hrel
    by_cases hlt : n < 64
    · have c3 := hA.cell (n * 4 + 3) (by omega)
      have f3 := hA.free (n * 4 + 3)
      have u3 := hU.cell (n * 4 + 3) (by omega)
      have HA := Lib.hid hA
      have HU := Lib.hid hU
      have HT := Lib.hid hT
      clear hA hU hT
      go_wp2_with fail
      go_roundw
      case rel => exact ⟨n + 1, by omega, by go_num, (HA.out.set (n * 4 + 3) _).congr (fun j _ => mixN_put t u n j), Bk.other HU.out _ _ n2, Bk.other HT.out _ _ n1, hb.setCell (p := ⟨ga, n * 4 + 3, none⟩) l1 _⟩
      case measure => simp [intOf]; omega
    · have hn64 : n = 64 := by omega
      have hM : Bk ga 36 256 (mix t u) wr := hA.congr (fun j hj => (by rw [hn64]; exact mixN_full t u j hj))
      clear hA hn64
      go_wp2_with fail
      clear hlt hn
      go_loopw [8] (fun i wi => ∃ k : Nat, k ≤ 6 ∧ i = .int .i64 k ∧ Bk ga 36 256 (mix t u) wi ∧ Bk gu 36 256 u wi ∧ Bk w.heap.size 36 256 t wi ∧ Below w.heap.size w wi) (fun i _ => 6 - (intOf i).toNat)
      case atStart => exact ⟨0, by omega, rfl, hM, hU, hT, hb⟩
      case round =>
        clear hM hU hT hb
        obtain ⟨k, hk, rfl, hM, hU, hT, hb⟩ := hrel
        go_wp2_with fail
        refine (Predictors_any _).mono ?_
        rintro e y1 ⟨rfl, b1⟩
        replace hM := hM.keep b1
        replace hU := hU.keep b1
        replace hT := hT.keep b1
        replace hb := bt hb b1
        clear b1
        by_cases hk6 : k < 6
        · go_wp2_with (refine wpList_load_row rfl 36 _ rfl w.heap.size rfl 36 _ (0, 0) _ hT Try.underlying36 rfl (by rw [cf_size]; exact Try.size36) ?_)
          refine (forward_of _ k hk6 _ rfl _).mono ?_
          rintro e y2 ⟨rfl, b2⟩
          replace hM := hM.keep b2
          replace hU := hU.keep b2
          replace hT := hT.keep b2
          replace hb := bt hb b2
          clear b2
          go_wp2_with (refine wpList_load_row rfl 36 _ rfl ga rfl 36 _ (0, 0) _ hM Try.underlying36 rfl (by rw [cf_size]; exact Try.size36) ?_)
          refine (forward_of _ k hk6 _ rfl _).mono ?_
          rintro e y3 ⟨rfl, b3⟩
          replace hM := hM.keep b3
          replace hU := hU.keep b3
          replace hT := hT.keep b3
          replace hb := bt hb b3
          clear b3
          go_wp2_with (refine wpList_load_row rfl 36 _ rfl gu rfl 36 _ (0, 0) _ hU Try.underlying36 rfl (by rw [cf_size]; exact Try.size36) ?_)
          refine (forward_of _ k hk6 _ rfl _).mono ?_
          rintro e y4 ⟨rfl, b4⟩
          replace hM := hM.keep b4
          replace hU := hU.keep b4
          replace hT := hT.keep b4
          replace hb := bt hb b4
          clear b4
          have s1 := fw_size k t
          have s2 := fw_size k (mix t u)
          have s3 := fw_size k u
          have q1 := head_eq k t u
          have q2 := tail_eq k t u
          have HM := Lib.hid hM
          have HU := Lib.hid hU
          have HT := Lib.hid hT
          clear hM hU hT
          generalize fw k t = r1 at *
          generalize fw k (mix t u) = r2 at *
          generalize fw k u = r3 at *
          go_wp2_with fail
          go_quiet (fail)
          go_wp2_with fail
          go_roundw
          case rel => exact ⟨k + 1, by omega, by go_num, HM.out, HU.out, HT.out, below_drewN hb _⟩
          case measure => simp [intOf]; omega
        · go_wp2_with fail
          go_ret
          exact ⟨rfl, hb⟩
end predictPlanes
end Go.Proofs.Ytihhcmgidgffoaa
