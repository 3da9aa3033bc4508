/- Walk of layer 10 (predict): Inverse. -/
import Derived.Test.YtihhcmgidgffoaaG
import Derived.Deep.Cut
import Derived.Deep.RegionHeld3
import Derived.Deep.DrawnRows
set_option linter.unusedVariables false
namespace Go.Proofs.Ytihhcmgidgffoaa
open Go.RowKit

/-- 256 bytes as a string. -/
def St (f : Nat → UInt8) : ByteArray := ⟨(M.tab 256 f).toArray⟩
theorem St_size (f : Nat → UInt8) : (St f).size = 256 := by unfold St; rw [str_size, M.tab_length]
theorem St_index (f : Nat → UInt8) (j : Nat) (z : Int) (hz : z = j) (h : j < 256) (W : World) : (Instr.index 9 (.string (St f)) (.int .i64 z)).run Try.prog W = .ok (.int .u8 (f j).toNat) W := by
  subst hz
  have hi : j < (St f).size := by rw [St_size]; omega
  have hg : (St f)[j]? = some (f j) := by
    rw [getElem?_pos (St f) j hi]
    show some ((M.tab 256 f).toArray[j]'(by simp [M.tab_length, h])) = _
    rw [List.getElem_toArray, M.tab_get]
  simp [Instr.index, asIntOf, Sem.run_bind, run_underlying Try.underlying9, hg]
/-- The tile of four planes. -/
def til (p : Nat → UInt8) (j : Nat) : UInt8 :=
  if j % 4 = 0 then M.bkR (p (j / 4)) (p (64 + j / 4)) (p (128 + j / 4)) else if j % 4 = 1 then M.bkG (p (j / 4)) (p (128 + j / 4)) else if j % 4 = 2 then M.bkB (p (j / 4)) (p (64 + j / 4)) (p (128 + j / 4)) else p (192 + j / 4)
def tilN (p : Nat → UInt8) (n j : Nat) : UInt8 := if j < n * 4 then til p j else 0
theorem tilN_zero (p : Nat → UInt8) : tilN p 0 = fun _ => 0 := by funext j; simp [tilN]
theorem tilN_full (p : Nat → UInt8) (j : Nat) (h : j < 256) : tilN p 64 j = til p j := by unfold tilN; rw [if_pos (by omega)]
theorem tilN_put (p : Nat → UInt8) (n j : Nat) : M.put (M.put (M.put (M.put (tilN p n) (n * 4) (M.bkR (p n) (p (64 + n)) (p (128 + n)))) (n * 4 + 1) (M.bkG (p n) (p (128 + n)))) (n * 4 + 2) (M.bkB (p n) (p (64 + n)) (p (128 + n)))) (n * 4 + 3) (p (192 + n)) j = tilN p (n + 1) j := by
  unfold M.put tilN
  by_cases h3 : j = n * 4 + 3
  · subst h3; rw [if_pos rfl, if_pos (by omega)]; unfold til; rw [if_neg (by omega), if_neg (by omega), if_neg (by omega), show (n * 4 + 3) / 4 = n by omega]
  rw [if_neg h3]
  by_cases h2 : j = n * 4 + 2
  · subst h2; rw [if_pos rfl, if_pos (by omega)]; unfold til; rw [if_neg (by omega), if_neg (by omega), if_pos (by omega), show (n * 4 + 2) / 4 = n by omega]
  rw [if_neg h2]
  by_cases h1 : j = n * 4 + 1
  · subst h1; rw [if_pos rfl, if_pos (by omega)]; unfold til; rw [if_neg (by omega), if_pos (by omega), show (n * 4 + 1) / 4 = n by omega]
  rw [if_neg h1]
  by_cases h0 : j = n * 4
  · subst h0; rw [if_pos rfl, if_pos (by omega)]; unfold til; rw [if_pos (by omega), show (n * 4) / 4 = n by omega]
  rw [if_neg h0]
  by_cases h : j < n * 4
  · rw [if_pos h, if_pos (by omega)]
  · rw [if_neg h, if_neg (by omega)]
theorem til_plf (t : Nat → UInt8) (j : Nat) (h : j < 256) : til (plf t) j = t j := by
  have e0 : plf t (j / 4) = M.swY (t (4 * (j / 4))) (t (4 * (j / 4) + 1)) (t (4 * (j / 4) + 2)) := by unfold plf; rw [if_pos (by omega)]
  have e1 : plf t (64 + j / 4) = M.swU (t (4 * (j / 4))) (t (4 * (j / 4) + 2)) := by unfold plf; rw [if_neg (by omega), if_pos (by omega), show 64 + j / 4 - 64 = j / 4 by omega]
  have e2 : plf t (128 + j / 4) = M.swV (t (4 * (j / 4))) (t (4 * (j / 4) + 1)) (t (4 * (j / 4) + 2)) := by unfold plf; rw [if_neg (by omega), if_neg (by omega), if_pos (by omega), show 128 + j / 4 - 128 = j / 4 by omega]
  have e3 : plf t (192 + j / 4) = t (4 * (j / 4) + 3) := by unfold plf; rw [if_neg (by omega), if_neg (by omega), if_neg (by omega), show 192 + j / 4 - 192 = j / 4 by omega]
  unfold til
  rw [e0, e1, e2, e3, M.bk_r, M.bk_g, M.bk_b]
  split
  · congr 1; omega
  split
  · congr 1; omega
  split
  · congr 1; omega
  · congr 1; omega
theorem plf_til (p : Nat → UInt8) (j : Nat) (h : j < 256) : plf (til p) j = p j := by
  have t0 : ∀ n, til p (4 * n) = M.bkR (p n) (p (64 + n)) (p (128 + n)) := fun n => by unfold til; rw [if_pos (by omega), show 4 * n / 4 = n by omega]
  have t1 : ∀ n, til p (4 * n + 1) = M.bkG (p n) (p (128 + n)) := fun n => by unfold til; rw [if_neg (by omega), if_pos (by omega), show (4 * n + 1) / 4 = n by omega]
  have t2 : ∀ n, til p (4 * n + 2) = M.bkB (p n) (p (64 + n)) (p (128 + n)) := fun n => by unfold til; rw [if_neg (by omega), if_neg (by omega), if_pos (by omega), show (4 * n + 2) / 4 = n by omega]
  have t3 : ∀ n, til p (4 * n + 3) = p (192 + n) := fun n => by unfold til; rw [if_neg (by omega), if_neg (by omega), if_neg (by omega), show (4 * n + 3) / 4 = n by omega]
  unfold plf
  simp only [t0, t1, t2, t3]
  by_cases h1 : j < 64
  · rw [if_pos h1]; exact M.sw_y _ _ _
  rw [if_neg h1]
  by_cases h2 : j < 128
  · rw [if_pos h2, M.sw_u]; exact congrArg p (by omega)
  rw [if_neg h2]
  by_cases h3 : j < 192
  · rw [if_pos h3, M.sw_v]; exact congrArg p (by omega)
  · rw [if_neg h3]; exact congrArg p (by omega)
theorem til_congr (p q : Nat → UInt8) (h : ∀ i, i < 256 → p i = q i) (j : Nat) (hj : j < 256) : til p j = til q j := by
  unfold til
  rw [h (j / 4) (by omega), h (64 + j / 4) (by omega), h (128 + j / 4) (by omega), h (192 + j / 4) (by omega)]
theorem back_of (U t : Nat → UInt8) (h : ∀ i, i < 256 → U i = plf t i) (j : Nat) (hj : j < 256) : til U j = t j := by
  rw [til_congr U (plf t) h j hj, til_plf t j hj]
/-- Inverse behind Forward. -/
theorem back_fwd (k : Nat) (t : Nat → UInt8) (j : Nat) (h : j < 256) : til (M.unp k (M.res k (plf t)) 256) j = t j :=
  back_of _ t (fun i hi => M.unp_res k (plf t) 256 i hi) j h
theorem fwd_of (k : Nat) (U f : Nat → UInt8) (h : ∀ i, i < 256 → M.res k U i = f i) : fw k (til U) = St f := by
  unfold fw St
  rw [M.tab_congr 256 (M.res k (plf (til U))) f fun i hi => (by rw [M.res_congr k (plf (til U)) U i (fun m _ hm => plf_til U m (by omega)), h i hi])]
/-- Forward behind Inverse. -/
theorem fwd_back (k : Nat) (f : Nat → UInt8) : fw k (til (M.unp k f 256)) = St f :=
  fwd_of k _ f (fun i hi => M.res_unp k f 256 i hi)
theorem fw_St (k : Nat) (t : Nat → UInt8) : fw k t = St (M.res k (plf t)) := rfl

theorem unp_put (k : Nat) (f : Nat → UInt8) (q i : Nat) (hi : i < 64) : M.put (M.unp k f (q * 64 + i)) (q * 64 + i) (f (q * 64 + i) + M.gs k (M.pl (M.unp k f (q * 64 + i)) q) i) = M.unp k f (q * 64 + (i + 1)) := by
  show _ = M.unp k f ((q * 64 + i) + 1)
  show _ = M.put _ _ _
  rw [show (q * 64 + i) / 64 = q by omega, show (q * 64 + i) % 64 = i by omega]
theorem sc_keep {x : World} {g b i j : Nat} {v u : Value} (hne : g ≠ b) (h : x.drew.cell? ⟨g, i, none⟩ = some u) : (x.setCell ⟨b, j, none⟩ v).drew.cell? ⟨g, i, none⟩ = some u := by
  show (x.setCell ⟨b, j, none⟩ v).cell? ⟨g, i, none⟩ = some u
  rw [World.cell?_setCell_other _ _ _ _ (by intro e; injection e with e1 _ _; exact hne e1.symm)]
  exact h
theorem results_row_tmp {fn : Func} {p u : Tmp} {ty : TypeId} (h : fn.results = #[.cell p ty, .tmp u]) (tmps : Array Value) (w : World) (g : Nat) (cs : Array Value)
    (hp : tmps.getD p undef = .pointer (some ⟨g, 0, none⟩)) (hl : (loadVar ty ⟨g, 0, none⟩).run Try.prog w = .ok (.agg cs) w) :
    (results fn tmps).run Try.prog w = .ok (.tuple #[.agg cs, tmps.getD u undef]) w := by
  have hp' : tmps[p]?.getD undef = .pointer (some ⟨g, 0, none⟩) := by simpa using hp
  simp [results, h, hp', asAddr, hl]
theorem e_add8 (a b : UInt8) : ((a.toNat : Int) + (b.toNat : Int)) % 256 = ((a + b).toNat : Int) := by
  have := a.toNat_lt; have := b.toNat_lt
  rw [UInt8.toNat_add]; omega
set_option maxRecDepth 100000 in
set_option maxHeartbeats 1600000 in
theorem inverse_any (f : Nat → UInt8) (k : Nat) (hk : k < 6) (w : World) :
    Calls Try.prog 21 #[.string (St f), .int .i64 k] w fun e w' =>
      e = .returned (.tuple #[.agg (cf 256 (til (M.unp k f 256))), .int .i64 0]) ∧ Below w.heap.size w w' := by
  have hz := Try.zero36
  have hz7 := Try.zero57
  have hs := St_size f
  go_enter Try.func21, Try.ntmps21
  go_wp2_with fail
  refine (Predictors_any _).mono ?_
  rintro e w1 ⟨rfl, hb1⟩
  have hT : Bk w.heap.size 36 256 (fun _ => 0) w1 := (Bk.new w 36 256 _).keep hb1
  have hb := ((Below.refl w.heap.size w).alloc (Nat.le_refl _) (.cells (cf 256 fun _ => 0) 36)).trans (hb1.mono (by simp))
  clear hb1
  have hpc : (w1.alloc (.cells prC 60)).cell? ⟨w1.heap.size, k * 2 + 1, none⟩ = some (.func (.func (25 + k)) #[] #[]) := by rw [World.cell?_alloc_mark]; exact prC_at k hk
  go_wp2_with (go_at_call 22; refine (predictors_any _).mono ?_; rintro e w' ⟨rfl, rfl⟩)
  have hP : Bk (w1.heap.size + 1) 57 256 (M.unp k f (0 * 64)) ((w1.alloc (.cells prC 60)).alloc (.cells (cf 256 fun _ => 0) 57)) := heap_alloc2_new _ _ _
  have hT1 : Bk w.heap.size 36 256 (fun _ => 0) ((w1.alloc (.cells prC 60)).alloc (.cells (cf 256 fun _ => 0) 57)) := (hT.alloc _).alloc _
  have hb1 : Below w.heap.size w ((w1.alloc (.cells prC 60)).alloc (.cells (cf 256 fun _ => 0) 57)) := (hb.alloc hb.size _).alloc (by have := hb.size; simp; omega) _
  have n1 : w.heap.size ≠ w1.heap.size + 1 := by have := hT.lt; omega
  have l1 : w.heap.size ≤ w1.heap.size + 1 := by have := hb.size; omega
  clear hT hb hz hz7 hpc hs
  generalize (w1.alloc (.cells prC 60)).alloc (.cells (cf 256 fun _ => 0) 57) = W0 at *
  generalize w1.heap.size + 1 = gp at *
  go_loopw [29] (fun a wo => ∃ q : Nat, q ≤ 4 ∧ a = .int .i64 q ∧ Bk gp 57 256 (M.unp k f (q * 64)) wo ∧ Bk w.heap.size 36 256 (fun _ => 0) wo ∧ Below w.heap.size w wo) (fun a _ => 4 - (intOf a).toNat)
  case atStart => exact ⟨0, by omega, rfl, hP, hT1, hb1⟩
  case round =>
    clear hP hT1 hb1
    obtain ⟨q, hq, rfl, hP1, hT1, hL1⟩ := hrel
    by_cases hq4 : q < 4
    · have hq0 : (0 : Int) ≤ (q : Int) := by omega
      have hq1 : (q : Int) < 4 := by omega
      go_wp2_with fail
      go_loopw [32] (fun a wi => ∃ i : Nat, i ≤ 64 ∧ a = .int .i64 i ∧ Bk gp 57 256 (M.unp k f (q * 64 + i)) wi ∧ Bk w.heap.size 36 256 (fun _ => 0) wi ∧ Below w.heap.size w wi) (fun a _ => 64 - (intOf a).toNat)
      case atStart => exact ⟨0, by omega, rfl, hP1, hT1, hL1⟩
      case round =>
        obtain ⟨i, hi, rfl, hP2, hT2, hL2⟩ := hrel
        clear hP1 hT1 hL1
        by_cases hi4 : i < 64
        · have hc := hP2.cell (q * 64 + i) (by omega)
          have hf := hP2.free (q * 64 + i)
          have hcd : wr.drew.cell? ⟨gp, q * 64 + i, none⟩ = some (.int .u8 (((M.unp k f (q * 64 + i)) (q * 64 + i)).toNat : Int)) := hc
          have hfd : wr.drew.frozen? ⟨gp, q * 64 + i, none⟩ = false := hf
          have hI := fun W => St_index f (q * 64 + i) ((q : Int) * 64 + (i : Int)) (by omega) (by omega) W
          have hi0 : (0 : Int) ≤ (i : Int) := by omega
          have hi1 : (i : Int) < 64 := by omega
          have hw1 : IntKind.i64.wrap ((q : Int) * 64) = (q : Int) * 64 := IntWalk.i64_in _ (by omega)
          have hw2 : IntKind.i64.wrap ((q : Int) * 64 + (i : Int)) = (q : Int) * 64 + (i : Int) := IntWalk.i64_in _ (by omega)
          have HP := Lib.hid hP2
          have HT := Lib.hid hT2
          have HL := Lib.hid hL2
          clear hP2 hT2 hL2 hc hf
          generalize hu : M.unp k f (q * 64 + i) = u at *
          have HU := Lib.hid hu
          clear hu
          go_wp2_with fail
          go_region_with (go_at_call 23; refine (guess_bk k hk gp u q i hq4 hi4 _ (Bk.drew HP.out)).mono ?_; rintro e w2 ⟨rfl, hb2⟩; have hc2 := cell_keep hcd hb2; have hf2 := (hb2.frozen (p := ⟨gp, q * 64 + i, none⟩) (block_lt_of_cell hcd)).trans hfd)
          all_goals
            go_wp2_with fail
            clear hw1 hw2
            go_roundw
            case rel =>
              rw [e_add8]
              refine ⟨i + 1, by omega, by go_num, ?_, ((Bk.drew HT.out).keep hb2).other _ _ n1, (bt (Below.drew HL.out) hb2).setCell (p := ⟨gp, q * 64 + i, none⟩) l1 _⟩
              rw [← unp_put k f q i hi4, HU.out]
              exact ((Bk.drew HP.out).keep hb2).set (q * 64 + i) _
            case measure => simp [intOf]; omega
        · have hi64 : i = 64 := by omega
          subst hi64
          go_wp2_with fail
          go_roundw
          case rel => exact ⟨q + 1, by omega, by go_num, by rw [show (q + 1) * 64 = q * 64 + 64 by omega]; exact hP2, hT2, hL2⟩
          case measure => simp [intOf]; omega
    · have hq4' : q = 4 := by omega
      have eq256 : q * 64 = 256 := by omega
      have hP : Bk gp 57 256 (M.unp k f 256) wr := by rw [eq256] at hP1; exact hP1
      clear hP1 eq256 hq4'
      generalize hu : M.unp k f 256 = u at *
      have HU := Lib.hid hu
      clear hu
      go_wp2_with fail
      go_loopw [53] (fun a wi => ∃ n : Nat, n ≤ 64 ∧ a = .int .i64 n ∧ Bk gp 57 256 u wi ∧ Bk w.heap.size 36 256 (tilN u n) wi ∧ Below w.heap.size w wi) (fun a _ => 64 - (intOf a).toNat)
      case atStart => exact ⟨0, by omega, rfl, hP, by rw [tilN_zero]; exact hT1, hL1⟩
      case round =>
        clear hP hT1 hL1
        obtain ⟨n, hn, rfl, hP, hT, hL⟩ := hrel
        by_cases hlt : n < 64
        · have d0 : wr.cell? ⟨gp, n, none⟩ = some (.int .u8 ((u n).toNat : Int)) := hP.cell n (by omega)
          have d1 : wr.cell? ⟨gp, 64 + n, none⟩ = some (.int .u8 ((u (64 + n)).toNat : Int)) := hP.cell (64 + n) (by omega)
          have d2 : wr.cell? ⟨gp, 128 + n, none⟩ = some (.int .u8 ((u (128 + n)).toNat : Int)) := hP.cell (128 + n) (by omega)
          have d3 : wr.cell? ⟨gp, 192 + n, none⟩ = some (.int .u8 ((u (192 + n)).toNat : Int)) := hP.cell (192 + n) (by omega)
          have c0 : wr.cell? ⟨w.heap.size, n * 4, none⟩ = some (.int .u8 ((tilN u n (n * 4)).toNat : Int)) := hT.cell (n * 4) (by omega)
          have c1 : wr.cell? ⟨w.heap.size, n * 4 + 1, none⟩ = some (.int .u8 ((tilN u n (n * 4 + 1)).toNat : Int)) := hT.cell (n * 4 + 1) (by omega)
          have c2 : wr.cell? ⟨w.heap.size, n * 4 + 2, none⟩ = some (.int .u8 ((tilN u n (n * 4 + 2)).toNat : Int)) := hT.cell (n * 4 + 2) (by omega)
          have c3 : wr.cell? ⟨w.heap.size, n * 4 + 3, none⟩ = some (.int .u8 ((tilN u n (n * 4 + 3)).toNat : Int)) := hT.cell (n * 4 + 3) (by omega)
          have f0 : wr.frozen? ⟨w.heap.size, n * 4, none⟩ = false := hT.free (n * 4)
          have f1 : wr.frozen? ⟨w.heap.size, n * 4 + 1, none⟩ = false := hT.free (n * 4 + 1)
          have f2 : wr.frozen? ⟨w.heap.size, n * 4 + 2, none⟩ = false := hT.free (n * 4 + 2)
          have f3 : wr.frozen? ⟨w.heap.size, n * 4 + 3, none⟩ = false := hT.free (n * 4 + 3)
          have n1' : gp ≠ w.heap.size := fun e => n1 e.symm
          have hn0 : (0 : Int) ≤ (n : Int) := by omega
          have hn1 : (n : Int) < 64 := by omega
          have HP := Lib.hid hP
          have HT := Lib.hid hT
          have HL := Lib.hid hL
          clear hP hT hL
          go_wp2_with fail
          go_region_held3 (fun x => x.cell? ⟨gp, n, none⟩ = some (.int .u8 ((u n).toNat : Int)) ∧ x.cell? ⟨gp, 64 + n, none⟩ = some (.int .u8 ((u (64 + n)).toNat : Int)) ∧ x.cell? ⟨gp, 128 + n, none⟩ = some (.int .u8 ((u (128 + n)).toNat : Int)))
            (refine ⟨?_, ?_, ?_⟩ <;> (repeat (first | exact d0 | exact d1 | exact d2 | refine sc_keep n1' ?_)))
            (first | (go_at_call 20; refine (back_any _ _ _ _).mono ?_; rintro e w2 ⟨rfl, rfl⟩))
          all_goals
            go_wp2_with fail
            go_roundw
            case rel =>
              refine ⟨n + 1, by omega, by go_num, Bk.drew ((((Bk.other HP.out _ _ n1').other _ _ n1').other _ _ n1').other _ _ n1'),
                Bk.drew (((((Bk.set HT.out (n * 4) _).set (n * 4 + 1) _).set (n * 4 + 2) _).set (n * 4 + 3) _).congr (fun j _ => tilN_put u n j)), ?_⟩
              exact ((((Below.setCell HL.out (p := ⟨w.heap.size, n * 4, none⟩) (Nat.le_refl _) _).setCell (p := ⟨w.heap.size, n * 4 + 1, none⟩) (Nat.le_refl _) _).setCell (p := ⟨w.heap.size, n * 4 + 2, none⟩) (Nat.le_refl _) _).setCell (p := ⟨w.heap.size, n * 4 + 3, none⟩) (Nat.le_refl _) _).drew
            case measure => simp [intOf]; omega
        · have hn64 : n = 64 := by omega
          have hT2 : Bk w.heap.size 36 256 (til u) wr := hT.congr (fun j hj => (by rw [hn64]; exact tilN_full u j hj))
          clear hT hn64
          have hself : wr.setRow w.heap.size (cf 256 (til u)) = wr := setRow_self _ _ _ _ _ hT2
          go_wp2_with (first
            | (refine wpList_load_row rfl 36 _ rfl w.heap.size rfl 36 _ (0, 0) _ hT2 Try.underlying36 rfl (by rw [cf_size]; exact Try.size36) ?_)
            | (refine wpList_store_row rfl 36 _ _ rfl w.heap.size (cf 256 (til u)) rfl rfl 36 (cf 256 (til u)) hT2 (by rw [cf_size]; exact Try.size36) rfl (cf_one _ _) ?_))
          exact bodyPost_ret (v := .tuple #[.agg (cf 256 (til u)), .int .i64 0]) (results_row_tmp (fn := Try.f21) (p := 4) (u := 5) (ty := 36) rfl _ _ w.heap.size _ rfl (run_loadVar_row wr w.heap.size 36 36 _ (0, 0) _ hT2 Try.underlying36 rfl (by rw [cf_size]; exact Try.size36))) rfl ⟨by rw [HU.out], hL⟩
end Go.Proofs.Ytihhcmgidgffoaa
