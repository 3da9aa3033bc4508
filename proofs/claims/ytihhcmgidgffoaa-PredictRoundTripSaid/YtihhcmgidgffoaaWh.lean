/- Walk of the law PredictRoundTrip of layer 10: it returns true and writes nothing that was there. -/
import Derived.Test.YtihhcmgidgffoaaI
import Derived.Test.YtihhcmgidgffoaaQ
import Derived.Test.YtihhcmgidgffoaaWb
import Derived.Test.YtihhcmgidgffoaaFlatB
set_option linter.unusedVariables false
namespace Go.Proofs.Ytihhcmgidgffoaa
open Go.RowKit
namespace predictRoundTrip
open predictCost (own_empty own_keep wp_push1)
theorem inv_fw (t : Nat → UInt8) (k : Nat) (hk : k < 6) (w : World) : Calls Try.prog 21 #[.string (fw k t), .int .i64 k] w fun e w' => e = .returned (.tuple #[.agg (cf 256 t), .int .i64 0]) ∧ Below w.heap.size w w' := by
  have h := inverse_any (M.res k (plf t)) k hk w
  rw [cf_congr 256 _ t (fun j hj => back_fwd k t j hj)] at h
  exact h
theorem fw_inv (f : Nat → UInt8) (k : Nat) (hk : k < 6) (w : World) : Calls Try.prog 16 #[.agg (cf 256 (til (M.unp k f 256))), .int .i64 k] w fun e w' => e = .returned (.tuple #[.string (St f), .int .i64 0]) ∧ Below w.heap.size w w' := by
  have h := forward_of (til (M.unp k f 256)) k hk k rfl w
  rw [fwd_back] at h
  exact h
theorem tab_step (n : Nat) (f : Nat → UInt8) : bvals (M.tab (n + 1) f) = bvals (M.tab n f) ++ [.int .u8 ((f n).toNat : Int)] := by
  rw [M.tab_succ, bvals_append]; rfl

set_option maxRecDepth 100000 in
set_option maxHeartbeats 1600000 in
theorem walk (t b : Nat → UInt8) (w : World) :
    Calls Try.prog 9 #[.agg (cf 256 t), .agg (cf 256 b)] w fun e w' => e = .returned (.bool true) ∧ Below w.heap.size w w' := by
  go_enter Try.func9, Try.ntmps9
  go_wp2_with fail
  refine (sanity_any _).mono ?_
  rintro e x1 ⟨rfl, b1⟩
  have hT : Bk w.heap.size 36 256 t x1 := Bk.keep ((Bk.new w 36 256 t).alloc (.cells (cf 256 b) 48)) b1
  have hU : Bk (w.heap.size + 1) 48 256 b x1 := Bk.keep (heap_alloc2_new w (.cells (cf 256 t) 36) (.cells (cf 256 b) 48)) b1
  have hb : Below w.heap.size w x1 := (((Below.refl _ _).alloc (Nat.le_refl _) (.cells (cf 256 t) 36)).alloc (by simp) (.cells (cf 256 b) 48)).trans (b1.mono (by simp; omega))
  clear b1
  have lU := hU.lt
  go_wp2_with fail
  have hO := own_empty x1 (B := x1.heap.size) (Nat.le_refl _)
  go_loopw [6, 7] (fun v i wr => ∃ n : Nat, n ≤ 256 ∧ i = .int .i64 n ∧ wr.ownsRow x1.heap.size 5 1 v n (bvals (M.tab n b)) ∧ Bk (w.heap.size + 1) 48 256 b wr ∧ Bk w.heap.size 36 256 t wr ∧ Below w.heap.size w wr ∧ x1.heap.size ≤ wr.heap.size) (fun _ i _ => 256 - (intOf i).toNat)
  case atStart => exact ⟨0, by omega, rfl, hO, hU.alloc _, hT.alloc _, hb.alloc hb.size _, by rw [World.size_alloc]; omega⟩
  case round =>
    obtain ⟨n, hn, rfl, hown, hU1, hT1, hb1, hsz⟩ := hrel
    clear hO hU hT
    by_cases hlt : n < 256
    · have u3 := hU1.cell n hlt
      have HU := Lib.hid hU1
      have HT := Lib.hid hT1
      clear hU1 hT1
      go_wp2_with (at_builtin; refine wp_push1 _ rfl _ _ 23 5 rfl Try.underlying23 (.int .u8 0) 1 Try.info5 rfl x1.heap.size _ _ _ rfl hown _ _ rfl rfl (by omega) (by omega) hsz ?_; intro v' w' hown' hb' hsz')
      go_roundw
      case rel =>
        refine ⟨n + 1, by omega, by go_num, by rw [tab_step]; exact hown', ?_, ?_, hb1.trans (hb'.mono hb.size), by omega⟩
        · have h := HU.out
          unfold Bk at h ⊢
          rw [hb'.block _ lU]; exact h
        · have h := HT.out
          unfold Bk at h ⊢
          rw [hb'.block _ (by omega)]; exact h
      case measure => simp [intOf] <;> omega
    · have h256 : n = 256 := by omega
      rw [h256] at hown
      clear h256
      go_wp2_with fail
      clear hlt hn
      go_loopw [8] (fun i wi => ∃ k : Nat, k ≤ 6 ∧ i = .int .i64 k ∧ wi.ownsRow x1.heap.size 5 1 u6 256 (bvals (M.tab 256 b)) ∧ Bk w.heap.size 36 256 t wi ∧ Below w.heap.size w wi) (fun i _ => 6 - (intOf i).toNat)
      case atStart => exact ⟨0, by omega, rfl, hown, hT1, hb1⟩
      case round =>
        clear hown hT1 hb1 hU1 hsz
        obtain ⟨k, hk, rfl, hown, hT, hb2⟩ := hrel
        go_wp2_with fail
        refine (Predictors_any _).mono ?_
        rintro e y1 ⟨rfl, c1⟩
        replace hown := own_keep hown c1
        replace hT := hT.keep c1
        replace hb2 := bt hb2 c1
        clear c1
        by_cases hk6 : k < 6
        · go_wp2_with (refine wpList_load_row rfl 36 _ rfl w.heap.size rfl 36 _ (0, 0) _ hT Try.underlying36 rfl (by rw [cf_size]; exact Try.size36) ?_)
          refine (forward_of _ k hk6 _ rfl _).mono ?_
          rintro e y2 ⟨rfl, c2⟩
          replace hown := own_keep hown c2
          replace hT := hT.keep c2
          replace hb2 := bt hb2 c2
          clear c2
          go_wp2_with fail
          refine (inv_fw t k hk6 _).mono ?_
          rintro e y3 ⟨rfl, c3⟩
          replace hown := own_keep hown c3
          replace hT := hT.keep c3
          replace hb2 := bt hb2 c3
          clear c3
          have hz := Try.zero36
          go_upto_region 12 with (refine wp_store_cf y3 rfl 36 _ _ rfl rfl y3.heap.size rfl 256 t (fun _ => 0) rfl rfl Try.size36 36 ?_)
          have hR : Bk y3.heap.size 36 256 t (y3.alloc (.cells (cf 256 t) 36)) := Bk.new _ _ _ _
          replace hown := hown.alloc (.cells (cf 256 t) 36)
          replace hT := hT.alloc (.cells (cf 256 t) 36)
          replace hb2 := hb2.alloc hb2.size (.cells (cf 256 t) 36)
          clear hz
          generalize y3.alloc (.cells (cf 256 t) 36) = y4 at *
          generalize y3.heap.size = gu at *
          have hc := conv_own (P := Try.prog) y4 23 9 5 Try.underlying23 Try.underlying5 Try.underlying9 _ _ _ _ hown
          have hc' : (convert 23 9 u6).run Try.prog y4 = .ok (.string (St b)) y4 := hc
          clear hc
          go_wp2_with fail
          clear hc'
          refine (inverse_any b k hk6 _).mono ?_
          rintro e y5 ⟨rfl, c5⟩
          replace hown := own_keep hown c5
          replace hT := hT.keep c5
          replace hR := hR.keep c5
          replace hb2 := bt hb2 c5
          clear c5
          have HF := Lib.hid (fw_inv b k hk6)
          generalize til (M.unp k b 256) = V at *
          have hz := Try.zero36
          go_upto_region 13 with (refine wp_store_cf y5 rfl 36 _ _ rfl rfl y5.heap.size rfl 256 V (fun _ => 0) rfl rfl Try.size36 36 ?_)
          have hV : Bk y5.heap.size 36 256 V (y5.alloc (.cells (cf 256 V) 36)) := Bk.new _ _ _ _
          replace hown := hown.alloc (.cells (cf 256 V) 36)
          replace hT := hT.alloc (.cells (cf 256 V) 36)
          replace hR := hR.alloc (.cells (cf 256 V) 36)
          replace hb2 := hb2.alloc hb2.size (.cells (cf 256 V) 36)
          clear hz
          generalize y5.alloc (.cells (cf 256 V) 36) = y6 at *
          generalize y5.heap.size = gv at *
          go_wp2_with (refine wpList_load_row rfl 36 _ rfl gv rfl 36 _ (0, 0) _ hV Try.underlying36 rfl (by rw [cf_size]; exact Try.size36) ?_)
          refine (HF.out _).mono ?_
          rintro e y7 ⟨rfl, c7⟩
          replace hown := own_keep hown c7
          replace hT := hT.keep c7
          replace hR := hR.keep c7
          replace hb2 := bt hb2 c7
          clear c7 hV
          have hc := conv_own (P := Try.prog) y7 23 9 5 Try.underlying23 Try.underlying5 Try.underlying9 _ _ _ _ hown
          have hc' : (convert 23 9 u6).run Try.prog y7 = .ok (.string (St b)) y7 := hc
          clear hc
          have hne := neq_tile t
          go_wp2_with fail
          refine wp_load_row 36 _ rfl gu rfl 36 _ (0, 0) _ hR Try.underlying36 rfl (by rw [cf_size]; exact Try.size36) ?_
          go_wp2_with fail
          refine wp_load_row 36 _ rfl w.heap.size rfl 36 _ (0, 0) _ hT Try.underlying36 rfl (by rw [cf_size]; exact Try.size36) ?_
          go_wp2_with fail
          go_roundw
          case rel => exact ⟨k + 1, by omega, by go_num, hown, hT, hb2⟩
          case measure => simp [intOf]; omega
        · go_wp2_with fail
          go_ret
          exact ⟨rfl, hb2⟩
end predictRoundTrip
end Go.Proofs.Ytihhcmgidgffoaa
