/- Walk of layer 10 (predict): Forward. -/
import Derived.Test.YtihhcmgidgffoaaE
import Derived.Deep.RegionHeld3
import Derived.Deep.DrawnRows
set_option linter.unusedVariables false
namespace Go.Proofs.Ytihhcmgidgffoaa
open Go.RowKit

/-- The four planes of a tile. -/
def plf (t : Nat → UInt8) (j : Nat) : UInt8 :=
  if j < 64 then M.swY (t (4 * j)) (t (4 * j + 1)) (t (4 * j + 2))
  else if j < 128 then M.swU (t (4 * (j - 64))) (t (4 * (j - 64) + 2))
  else if j < 192 then M.swV (t (4 * (j - 128))) (t (4 * (j - 128) + 1)) (t (4 * (j - 128) + 2))
  else t (4 * (j - 192) + 3)
/-- What the first loop of Forward has filled in n rounds. -/
def plN (t : Nat → UInt8) (n : Nat) (j : Nat) : UInt8 := if j % 64 < n then plf t j else 0
theorem plN_zero (t : Nat → UInt8) : plN t 0 = fun _ => 0 := by funext j; simp [plN]
theorem plN_put (t : Nat → UInt8) (n : Nat) (h : n < 64) (j : Nat) (hj : j < 256) :
    M.put (M.put (M.put (M.put (plN t n) n (M.swY (t (4 * n)) (t (4 * n + 1)) (t (4 * n + 2)))) (64 + n) (M.swU (t (4 * n)) (t (4 * n + 2)))) (128 + n) (M.swV (t (4 * n)) (t (4 * n + 1)) (t (4 * n + 2)))) (192 + n) (t (4 * n + 3)) j = plN t (n + 1) j := by
  unfold M.put plN
  by_cases h1 : j = 192 + n
  · subst h1
    rw [if_pos rfl, if_pos (by omega)]
    unfold plf
    rw [if_neg (by omega), if_neg (by omega), if_neg (by omega), show 192 + n - 192 = n by omega]
  rw [if_neg h1]
  by_cases h2 : j = 128 + n
  · subst h2
    rw [if_pos rfl, if_pos (by omega)]
    unfold plf
    rw [if_neg (by omega), if_neg (by omega), if_pos (by omega), show 128 + n - 128 = n by omega]
  rw [if_neg h2]
  by_cases h3 : j = 64 + n
  · subst h3
    rw [if_pos rfl, if_pos (by omega)]
    unfold plf
    rw [if_neg (by omega), if_pos (by omega), show 64 + n - 64 = n by omega]
  rw [if_neg h3]
  by_cases h4 : j = n
  · subst h4
    rw [if_pos rfl, if_pos (by omega)]
    unfold plf
    rw [if_pos (by omega)]
  rw [if_neg h4]
  by_cases h5 : j % 64 < n
  · rw [if_pos h5, if_pos (by omega)]
  · rw [if_neg h5, if_neg (by omega)]
theorem plN_full (t : Nat → UInt8) (j : Nat) : plN t 64 j = plf t j := by unfold plN; rw [if_pos (by omega)]

theorem fill_eq (wr : World) (f : Nat → UInt8) : ((wr.alloc (.cells prC 60)).alloc (.cells (cf 256 fun _ => 0) 57)).setRow (wr.heap.size + 1) (cf 256 f) = (wr.alloc (.cells prC 60)).alloc (.cells (cf 256 f) 57) := by
  have := World.setRow_alloc_new (wr.alloc (.cells prC 60)) (cf 256 fun _ => 0) (cf 256 f) 57
  rw [World.size_alloc] at this
  exact this
/-- The residuals, m of them done. -/
def outN (k : Nat) (p : Nat → UInt8) (m j : Nat) : UInt8 := if j < m then M.res k p j else p j
theorem outN_zero (k : Nat) (p : Nat → UInt8) (j : Nat) : outN k p 0 j = p j := by simp [outN]
theorem outN_at (k : Nat) (p : Nat → UInt8) (m : Nat) : outN k p m m = p m := by simp [outN]
theorem outN_full (k : Nat) (p : Nat → UInt8) (n j : Nat) (h : j < n) : outN k p n j = M.res k p j := by unfold outN; rw [if_pos h]
theorem outN_put (k : Nat) (p : Nat → UInt8) (q i j : Nat) (hi : i < 64) : M.put (outN k p (q * 64 + i)) (q * 64 + i) (p (q * 64 + i) - M.gs k (M.pl p q) i) j = outN k p (q * 64 + (i + 1)) j := by
  unfold M.put outN
  by_cases h : j = q * 64 + i
  · subst h
    rw [if_pos rfl, if_pos (by omega)]
    unfold M.res
    rw [show (q * 64 + i) / 64 = q by omega, show (q * 64 + i) % 64 = i by omega]
  · rw [if_neg h]
    by_cases h2 : j < q * 64 + i
    · rw [if_pos h2, if_pos (by omega)]
    · rw [if_neg h2, if_neg (by omega)]
theorem guess_bk (k : Nat) (hk : k < 6) (g : Nat) (p : Nat → UInt8) (q i : Nat) (hq : q < 4) (hi : i < 64) (w : World) (h : Bk g 57 256 p w) :
    Calls Try.prog 23 #[.pointer (some ⟨g, q * 64, none⟩), .int .i64 i, .func (.func (25 + k)) #[] #[]] w fun e w' => e = .returned (.int .u8 (M.gs k (M.pl p q) i).toNat) ∧ Below w.heap.size w w' :=
  guess_any k hk g (q * 64) (M.pl p q) i hi w h.lt (fun m hm => by
    have := h.cell (q * 64 + m) (by omega)
    rw [this]
    unfold M.pl
    rw [Nat.mul_comm])
theorem cell_keep {w w1 : World} {a : Addr} {v : Value} (h : w.cell? a = some v) (hb : Below w.heap.size w w1) : w1.cell? a = some v := by
  rw [hb.cell (block_lt_of_cell h)]; exact h

theorem e_sub8 (a b : UInt8) : ((a.toNat : Int) - (b.toNat : Int)) % 256 = ((a - b).toNat : Int) := by
  have := a.toNat_lt; have := b.toNat_lt
  rw [UInt8.toNat_sub]; omega

set_option maxRecDepth 100000 in
set_option maxHeartbeats 800000 in
theorem forward_any (t : Nat → UInt8) (k : Nat) (hk : k < 6) (w : World) :
    Calls Try.prog 16 #[.agg (cf 256 t), .int .i64 k] w fun e w' =>
      e = .returned (.tuple #[.string ⟨(M.tab 256 (M.res k (plf t))).toArray⟩, .int .i64 0]) ∧ Below w.heap.size w w' := by
  have hz := Try.zero57
  go_enter Try.func16, Try.ntmps16
  go_wp2_with fail
  refine (Predictors_any _).mono ?_
  rintro e w1 ⟨rfl, hb1⟩
  have ht : Bk w.heap.size 36 256 t w1 := (Bk.new w 36 256 t).keep hb1
  have hb := ((Below.refl w.heap.size w).alloc (Nat.le_refl _) (.cells (cf 256 t) 36)).trans (hb1.mono (by simp))
  have ht2 : Bk w.heap.size 36 256 t (w1.alloc (.cells (cf 256 fun _ => 0) 57)) := ht.alloc _
  clear hb1
  go_wp2_with (refine wpList_load_row rfl 36 _ rfl w.heap.size rfl 36 _ (0, 0) _ ht2 Try.underlying36 rfl (by rw [cf_size]; exact Try.size36) ?_)
  clear ht ht2 hz
  have hsz1 := hb.size
  go_loopw [21] (fun i wr => ∃ n : Nat, n ≤ 64 ∧ i = .int .i64 n ∧ Bk w1.heap.size 57 256 (plN t n) wr ∧ Below w.heap.size w wr) (fun i _ => 64 - (intOf i).toNat)
  case atStart => exact ⟨0, by omega, rfl, by rw [plN_zero]; exact Bk.new w1 57 256 _, hb.alloc hb.size _⟩
  case round =>
    obtain ⟨n, hn, rfl, hB, hbl⟩ := hrel
    have hlw := hB.lt
    by_cases hlt : n < 64
    · have c0 := hB.cell n (by omega)
      have c1 := hB.cell (64 + n) (by omega)
      have c2 := hB.cell (128 + n) (by omega)
      have c3 := hB.cell (192 + n) (by omega)
      have f0 := hB.free n
      have f1 := hB.free (64 + n)
      have f2 := hB.free (128 + n)
      have f3 := hB.free (192 + n)
      have HB := Lib.hid hB
      clear hB
      have hix : ∀ W, (Instr.index 36 (.agg (cf 256 t)) (.int .i64 n)).run Try.prog W = .ok (.agg #[.int .u8 ((t (4 * n)).toNat : Int), .int .u8 ((t (4 * n + 1)).toNat : Int), .int .u8 ((t (4 * n + 2)).toNat : Int), .int .u8 ((t (4 * n + 3)).toNat : Int)]) W := fun W => run_index_pix t n hlt W
      go_wp2_with (go_at_call 13; refine (swap_any _ _ _ _).mono ?_; rintro e w' ⟨rfl, rfl⟩)
      go_roundw
      case rel => exact ⟨n + 1, by omega, by go_num, (((((HB.out.set n _).set (64 + n) _).set (128 + n) _).set (192 + n) _).alloc _).congr (plN_put t n hlt), ((((hbl.setCell (p := ⟨w1.heap.size, n, none⟩) hsz1 _).setCell (p := ⟨w1.heap.size, 64 + n, none⟩) hsz1 _).setCell (p := ⟨w1.heap.size, 128 + n, none⟩) hsz1 _).setCell (p := ⟨w1.heap.size, 192 + n, none⟩) hsz1 _).alloc (by simp; omega) _⟩
      case measure => simp [intOf]; omega

    · have hn64 : n = 64 := by omega
      have hB2 := hB.congr (f' := plf t) (fun j _ => (by rw [hn64]; exact plN_full t j))
      clear hB hn64
      have hpc : (wr.alloc (.cells prC 60)).cell? ⟨wr.heap.size, k * 2 + 1, none⟩ = some (.func (.func (25 + k)) #[] #[]) := by rw [World.cell?_alloc_mark]; exact prC_at k hk
      have hz := Try.zero57
      have hB3 : Bk w1.heap.size 57 256 (plf t) (wr.alloc (.cells prC 60)) := hB2.alloc _
      have hN : Bk (wr.heap.size + 1) 57 256 (fun _ => 0) ((wr.alloc (.cells prC 60)).alloc (.cells (cf 256 fun _ => 0) 57)) := heap_alloc2_new _ _ _
      go_wp2_with (first
        | (go_at_call 22; refine (predictors_any _).mono ?_; rintro e w' ⟨rfl, rfl⟩)
        | (refine wpList_load_row rfl 57 _ rfl w1.heap.size rfl 57 _ (0, 0) _ hB3 Try.underlying57 rfl (by rw [cf_size]; exact Try.size57) ?_)
        | (refine wpList_store_row rfl 57 _ _ rfl (wr.heap.size + 1) (cf 256 (plf t)) rfl rfl 57 (cf 256 fun _ => 0) hN (by rw [cf_size]; exact Try.size57) (by rw [cf_size, cf_size]) (cf_one _ _) ?_))
      rw [fill_eq]
      have hP : Bk w1.heap.size 57 256 (plf t) ((wr.alloc (.cells prC 60)).alloc (.cells (cf 256 (plf t)) 57)) := hB3.alloc _
      have hO : Bk (wr.heap.size + 1) 57 256 (outN k (plf t) 0) ((wr.alloc (.cells prC 60)).alloc (.cells (cf 256 (plf t)) 57)) := Bk.congr (heap_alloc2_new _ _ _) (fun j _ => (outN_zero _ _ j).symm)
      have hL : Below w.heap.size w ((wr.alloc (.cells prC 60)).alloc (.cells (cf 256 (plf t)) 57)) := (hbl.alloc hbl.size _).alloc (by have := hbl.size; simp; omega) _
      clear hpc hB2 hB3 hN hz
      have hne : w1.heap.size ≠ wr.heap.size + 1 := by omega
      have hge : w.heap.size ≤ wr.heap.size + 1 := by omega
      generalize (wr.alloc (.cells prC 60)).alloc (.cells (cf 256 (plf t)) 57) = W0 at *
      generalize wr.heap.size + 1 = go at *
      generalize w1.heap.size = gp at *
      clear hbl hlw hsz1 hb hn hlt
      go_loopw [57] (fun a wo => ∃ q : Nat, q ≤ 4 ∧ a = .int .i64 q ∧ Bk gp 57 256 (plf t) wo ∧ Bk go 57 256 (outN k (plf t) (q * 64)) wo ∧ Below w.heap.size w wo) (fun a _ => 4 - (intOf a).toNat)
      case atStart => exact ⟨0, by omega, rfl, hP, hO, hL⟩
      case round =>
        obtain ⟨q, hq, rfl, hP1, hO1, hL1⟩ := hrel
        by_cases hq4 : q < 4
        · have hq0 : (0 : Int) ≤ (q : Int) := by omega
          have hq1 : (q : Int) < 4 := by omega
          go_wp2_with fail
          clear hP hO hL
          go_loopw [60] (fun a wi => ∃ i : Nat, i ≤ 64 ∧ a = .int .i64 i ∧ Bk gp 57 256 (plf t) wi ∧ Bk go 57 256 (outN k (plf t) (q * 64 + i)) wi ∧ Below w.heap.size w wi) (fun a _ => 64 - (intOf a).toNat)
          case atStart => exact ⟨0, by omega, rfl, hP1, hO1, hL1⟩
          case round =>
            obtain ⟨i, hi, rfl, hP2, hO2, hL2⟩ := hrel
            clear hP1 hO1 hL1
            by_cases hi4 : i < 64
            · have hc := hO2.cell (q * 64 + i) (by omega)
              rw [outN_at] at hc
              have hf := hO2.free (q * 64 + i)
              have hcd : wr.drew.cell? ⟨go, q * 64 + i, none⟩ = some (.int .u8 ((plf t (q * 64 + i)).toNat : Int)) := hc
              have hfd : wr.drew.frozen? ⟨go, q * 64 + i, none⟩ = false := hf
              have hi0 : (0 : Int) ≤ (i : Int) := by omega
              have hi1 : (i : Int) < 64 := by omega
              have HP := Lib.hid hP2
              have HO := Lib.hid hO2
              have HL := Lib.hid hL2
              clear hP2 hO2 hL2 hc hf
              go_wp2_with fail
              go_region_with (go_at_call 23; refine (guess_bk k hk gp (plf t) q i hq4 hi4 _ (Bk.drew HP.out)).mono ?_; rintro e w2 ⟨rfl, hb2⟩; have hc2 := cell_keep hcd hb2; have hf2 := (hb2.frozen (p := ⟨go, q * 64 + i, none⟩) (block_lt_of_cell hcd)).trans hfd)
              all_goals
                go_wp2_with fail
                go_roundw
                case rel =>
                  rw [e_sub8]
                  refine ⟨i + 1, by omega, ?_, ((Bk.drew HP.out).keep hb2).other _ _ hne, Bk.congr (((Bk.drew HO.out).keep hb2).set (q * 64 + i) _) (fun j _ => outN_put k (plf t) q i j hi4), (bt (Below.drew HL.out) hb2).setCell (p := ⟨go, q * 64 + i, none⟩) hge _⟩
                  go_num
                case measure => simp [intOf]; omega
            · have hi64 : i = 64 := by omega
              subst hi64
              go_wp2_with fail
              go_roundw
              case rel =>
                first
                | exact ⟨q + 1, by omega, by go_num, hP2, by rw [show (q + 1) * 64 = q * 64 + 64 by omega]; exact hO2, hL2⟩
                | ((repeat apply Exists.intro); refine ⟨⟨q + 1, by omega, ?_, hP2, by rw [show (q + 1) * 64 = q * 64 + 64 by omega]; exact hO2, hL2⟩, rfl⟩; go_num)
              case measure => simp [intOf]; omega
        · have hq4' : q = 4 := by omega
          subst hq4'
          have hB : Bk go 57 256 (M.res k (plf t)) wr := hO1.congr (fun j hj => outN_full _ _ _ _ hj)
          clear hO1 hP1 hP hO hL
          go_wp2_with (go_at_call 24; refine (concat_any go _ _ hB).mono ?_; rintro e w2 ⟨rfl, hb2⟩)
          go_ret2
          exact ⟨rfl, bt hL1 hb2⟩
end Go.Proofs.Ytihhcmgidgffoaa
