/- Walk of the law PredictCausal of layer 10: it returns true and writes nothing that was there. -/
import Derived.Test.YtihhcmgidgffoaaWe
import Derived.Deep.RegionHeld3
import Derived.Deep.DrawnRows
import Derived.Deep.Cut
set_option linter.unusedVariables false
namespace Go.Proofs.Ytihhcmgidgffoaa
open Go.RowKit
namespace predictCausal
/-- The tile t with pixel n replaced by p. -/
def rep (t p : Nat → UInt8) (n j : Nat) : UInt8 := if j / 4 = n then p (j % 4) else t j
theorem rep_put (t p : Nat → UInt8) (n j : Nat) : M.put (M.put (M.put (M.put t (n * 4) (p 0)) (n * 4 + 1) (p 1)) (n * 4 + 2) (p 2)) (n * 4 + 3) (p 3) j = rep t p n j := by
  unfold M.put rep
  by_cases h3 : j = n * 4 + 3
  · subst h3; rw [if_pos rfl, if_pos (by omega), show (n * 4 + 3) % 4 = 3 by omega]
  rw [if_neg h3]
  by_cases h2 : j = n * 4 + 2
  · subst h2; rw [if_pos rfl, if_pos (by omega), show (n * 4 + 2) % 4 = 2 by omega]
  rw [if_neg h2]
  by_cases h1 : j = n * 4 + 1
  · subst h1; rw [if_pos rfl, if_pos (by omega), show (n * 4 + 1) % 4 = 1 by omega]
  rw [if_neg h1]
  by_cases h0 : j = n * 4
  · subst h0; rw [if_pos rfl, if_pos (by omega), show (n * 4) % 4 = 0 by omega]
  rw [if_neg h0, if_neg (by omega)]
theorem plf_rep (t p : Nat → UInt8) (n q i : Nat) (hq : q < 4) (hi : i < 64) (hne : i ≠ n) : plf (rep t p n) (64 * q + i) = plf t (64 * q + i) := by
  rw [plf_pv _ q i hq hi, plf_pv _ q i hq hi]
  unfold rep
  rw [if_neg (by omega), if_neg (by omega), if_neg (by omega), if_neg (by omega)]
theorem plf_at (t p : Nat → UInt8) (n q : Nat) (hq : q < 4) (hn : n < 64) : plf (rep t p n) (64 * q + n) = pv q (p 0) (p 1) (p 2) (p 3) := by
  rw [plf_pv _ q n hq hn]
  unfold rep
  rw [if_pos (by omega), if_pos (by omega), if_pos (by omega), if_pos (by omega), show 4 * n % 4 = 0 by omega, show (4 * n + 1) % 4 = 1 by omega, show (4 * n + 2) % 4 = 2 by omega, show (4 * n + 3) % 4 = 3 by omega]
theorem res_lt (k : Nat) (t p : Nat → UInt8) (n q i : Nat) (hq : q < 4) (hn : n < 64) (hi : i < n) : M.res k (plf t) (64 * q + i) = M.res k (plf (rep t p n)) (64 * q + i) := by
  refine M.res_congr _ _ _ _ fun m h1 h2 => ?_
  have := plf_rep t p n q (m - 64 * q) hq (by omega) (by omega)
  rw [show 64 * q + (m - 64 * q) = m by omega] at this
  exact this.symm
theorem sub_inj (x y z : UInt8) : (x - z == y - z) = (x == y) := by
  rw [Bool.eq_iff_iff, beq_iff_eq, beq_iff_eq]
  constructor
  · intro h
    have := congrArg (· + z) h
    simpa [UInt8.sub_add_cancel] using this
  · intro h; rw [h]
theorem res_eq (k : Nat) (t p : Nat → UInt8) (n q : Nat) (hq : q < 4) (hn : n < 64) : (M.res k (plf t) (64 * q + n) == M.res k (plf (rep t p n)) (64 * q + n)) = (pv q (t (4 * n)) (t (4 * n + 1)) (t (4 * n + 2)) (t (4 * n + 3)) == pv q (p 0) (p 1) (p 2) (p 3)) := by
  unfold M.res
  rw [show (64 * q + n) / 64 = q by omega, show (64 * q + n) % 64 = n by omega]
  rw [M.gs_congr k (M.pl (plf t) q) (M.pl (plf (rep t p n)) q) n (fun m hm => (plf_rep t p n q m hq (by omega) (by omega)).symm), sub_inj, plf_at t p n q hq hn, plf_pv t q n hq hn]
theorem ext_of (s : ByteArray) (a b : Nat) : (s.extract a b).data.toList = (s.data.toList.drop a).take (b - a) := by
  simp [ByteArray.data_extract, Array.toList_extract, List.extract]
theorem ext_eq (k : Nat) (t p : Nat → UInt8) (n q : Nat) (hq : q < 4) (hn : n < 64) : (fw k t).extract (64 * q) (64 * q + n) = (fw k (rep t p n)).extract (64 * q) (64 * q + n) := by
  apply ByteArray.ext
  apply Array.toList_inj.1
  rw [ext_of, ext_of]
  unfold fw
  apply List.ext_getElem?
  intro i
  rw [List.getElem?_take, List.getElem?_take]
  split
  · rw [List.getElem?_drop, List.getElem?_drop]
    show (M.tab 256 _)[64 * q + i]? = (M.tab 256 _)[64 * q + i]?
    rw [M.tab_get? _ _ _ (by omega), M.tab_get? _ _ _ (by omega), res_lt k t p n q i hq hn (by omega)]
  · rfl
/-- Block g holds the pixel p. -/
def Px (g : Nat) (p : Nat → UInt8) (w : World) : Prop := w.heap[g]? = some (.cells #[.int .u8 ((p 0).toNat : Int), .int .u8 ((p 1).toNat : Int), .int .u8 ((p 2).toNat : Int), .int .u8 ((p 3).toNat : Int)] 27 (0, 0))
theorem Px.keep {g p w w1} (h : Px g p w) (hb : Below w.heap.size w w1) : Px g p w1 := by
  have hl := lt_of_heap h
  unfold Px at h ⊢
  rw [hb.block _ hl]; exact h
theorem Px.c0 {g p w} (h : Px g p w) : w.cell? ⟨g, 0, none⟩ = some (.int .u8 ((p 0).toNat : Int)) := by rw [cell_of_row w _ 0 _ _ _ h]; rfl
theorem Px.c1 {g p w} (h : Px g p w) : w.cell? ⟨g, 1, none⟩ = some (.int .u8 ((p 1).toNat : Int)) := by rw [cell_of_row w _ 1 _ _ _ h]; rfl
theorem Px.c2 {g p w} (h : Px g p w) : w.cell? ⟨g, 2, none⟩ = some (.int .u8 ((p 2).toNat : Int)) := by rw [cell_of_row w _ 2 _ _ _ h]; rfl
theorem Px.c3 {g p w} (h : Px g p w) : w.cell? ⟨g, 3, none⟩ = some (.int .u8 ((p 3).toNat : Int)) := by rw [cell_of_row w _ 3 _ _ _ h]; rfl
/-- What the last region reads. -/
def Sees (b n g : Nat) (t p : Nat → UInt8) (x : World) : Prop :=
  x.cell? ⟨b, n * 4, none⟩ = some (.int .u8 ((t (4 * n)).toNat : Int)) ∧ x.cell? ⟨b, n * 4 + 1, none⟩ = some (.int .u8 ((t (4 * n + 1)).toNat : Int)) ∧ x.cell? ⟨b, n * 4 + 2, none⟩ = some (.int .u8 ((t (4 * n + 2)).toNat : Int)) ∧ x.cell? ⟨b, n * 4 + 3, none⟩ = some (.int .u8 ((t (4 * n + 3)).toNat : Int)) ∧ x.cell? ⟨g, 0, none⟩ = some (.int .u8 ((p 0).toNat : Int)) ∧ x.cell? ⟨g, 1, none⟩ = some (.int .u8 ((p 1).toNat : Int)) ∧ x.cell? ⟨g, 2, none⟩ = some (.int .u8 ((p 2).toNat : Int)) ∧ x.cell? ⟨g, 3, none⟩ = some (.int .u8 ((p 3).toNat : Int))
theorem sees_of {b n g : Nat} {t p : Nat → UInt8} {x : World} (hn : n < 64) (hT : Bk b 36 256 t x) (hP : Px g p x) : Sees b n g t p x := by
  have h0 := hT.cell (4 * n) (by omega)
  have h1 := hT.cell (4 * n + 1) (by omega)
  have h2 := hT.cell (4 * n + 2) (by omega)
  have h3 := hT.cell (4 * n + 3) (by omega)
  rw [Nat.mul_comm 4 n] at h0 h1 h2 h3
  unfold Sees
  rw [Nat.mul_comm 4 n]
  exact ⟨h0, h1, h2, h3, hP.c0, hP.c1, hP.c2, hP.c3⟩
theorem index_fw (k : Nat) (t : Nat → UInt8) (j : Nat) (z : Int) (hz : z = j) (h : j < 256) (W : World) : (Instr.index 9 (.string (fw k t)) (.int .i64 z)).run Try.prog W = .ok (.int .u8 (M.res k (plf t) j).toNat) W := by
  subst hz
  have hi : j < (fw k t).size := by rw [fw_size]; omega
  have hg : (fw k t)[j]? = some (M.res k (plf t) j) := by rw [getElem?_pos (fw k t) j hi, fw_get]
  simp [Instr.index, asIntOf, Sem.run_bind, run_underlying Try.underlying9, hg]
theorem slice_fw (k : Nat) (t : Nat → UInt8) (a b : Nat) (x y : Int) (hx : x = a) (hy : y = b) (hab : a ≤ b) (h : b ≤ 256) (W : World) : (Instr.slice 9 (.string (fw k t)) (some (.int .i64 x)) (some (.int .i64 y)) none).run Try.prog W = .ok (.string ((fw k t).extract a b)) W := by
  subst hx hy
  have hs := fw_size k t
  rw [run_slice_string (P := Try.prog) W 9 (fw k t) .i64 .i64 a b Try.underlying9 (by omega) (by omega) (by omega)]
  simp

set_option maxRecDepth 100000 in
set_option maxHeartbeats 1600000 in
theorem walk (t : Nat → UInt8) (a1 : Int) (p : Nat → UInt8) (w : World) (w1 : (Lit.int .u8 a1).wf = true) :
    Calls Try.prog 5 #[.agg (cf 256 t), .int .u8 a1, .agg (cf 4 p)] w fun e w' => e = .returned (.bool true) ∧ Below w.heap.size w w' := by
  obtain ⟨at8, rfl⟩ := u8_of w1
  clear w1
  rw [cf4]
  have hz := Try.zero36
  go_enter Try.func5, Try.ntmps5
  go_wp2_with fail
  refine (sanity_any _).mono ?_
  rintro e x1 ⟨rfl, b1⟩
  have hP : x1.heap[w.heap.size + 1]? = some (.cells #[.int .u8 ((p 0).toNat : Int), .int .u8 ((p 1).toNat : Int), .int .u8 ((p 2).toNat : Int), .int .u8 ((p 3).toNat : Int)] 27 (0, 0)) := by
    rw [b1.block _ (by simp)]; exact heap_alloc2_new _ _ _
  have hT : Bk w.heap.size 36 256 t x1 := Bk.keep ((Bk.new w 36 256 t).alloc (.cells #[.int .u8 ((p 0).toNat : Int), .int .u8 ((p 1).toNat : Int), .int .u8 ((p 2).toNat : Int), .int .u8 ((p 3).toNat : Int)] 27)) b1
  have hb : Below w.heap.size w x1 := (((Below.refl _ _).alloc (Nat.le_refl _) (.cells (cf 256 t) 36)).alloc (by simp) (.cells #[.int .u8 ((p 0).toNat : Int), .int .u8 ((p 1).toNat : Int), .int .u8 ((p 2).toNat : Int), .int .u8 ((p 3).toNat : Int)] 27)).trans (b1.mono (by simp; omega))
  clear b1
  obtain ⟨n, hn⟩ : ∃ n : Nat, (at8.toNat : Int) % 64 = (n : Int) := ⟨at8.toNat % 64, by omega⟩
  have hn64 : n < 64 := by omega
  have hn64' : (n : Int) < 64 := by omega
  have HP := Lib.hid hP
  go_upto_region 4 with (first
    | (refine wpList_load_row rfl 36 _ rfl w.heap.size rfl 36 _ (0, 0) _ hT Try.underlying36 rfl (by rw [cf_size]; exact Try.size36) ?_)
    | (refine wp_store_cf x1 rfl 36 _ _ rfl rfl x1.heap.size rfl 256 t (fun _ => 0) rfl rfl Try.size36 36 ?_))
  have n1 : w.heap.size ≠ x1.heap.size := by have := hT.lt; omega
  have n2 : w.heap.size + 1 ≠ x1.heap.size := by have := lt_of_heap hP; omega
  have l1 : w.heap.size ≤ x1.heap.size := hb.size
  have hP1 : (x1.alloc (.cells (cf 256 t) 36)).heap[w.heap.size + 1]? = some (.cells #[.int .u8 ((p 0).toNat : Int), .int .u8 ((p 1).toNat : Int), .int .u8 ((p 2).toNat : Int), .int .u8 ((p 3).toNat : Int)] 27 (0, 0)) := by
    rw [Below.heap_alloc _ _ _ (lt_of_heap hP)]; exact hP
  have hT1 : Bk w.heap.size 36 256 t (x1.alloc (.cells (cf 256 t) 36)) := hT.alloc _
  have hA1 : Bk x1.heap.size 36 256 t (x1.alloc (.cells (cf 256 t) 36)) := Bk.new x1 36 256 t
  have hb1 : Below w.heap.size w (x1.alloc (.cells (cf 256 t) 36)) := hb.alloc hb.size _
  clear hT hP hb hz HP
  generalize x1.alloc (.cells (cf 256 t) 36) = W0 at *
  generalize x1.heap.size = ga at *
  generalize hgu : w.heap.size + 1 = gp at *
  clear hgu
  have p0 : W0.cell? ⟨gp, 0, none⟩ = some (.int .u8 ((p 0).toNat : Int)) := by rw [cell_of_row W0 _ 0 _ _ _ hP1]; rfl
  have p1 : W0.cell? ⟨gp, 1, none⟩ = some (.int .u8 ((p 1).toNat : Int)) := by rw [cell_of_row W0 _ 1 _ _ _ hP1]; rfl
  have p2 : W0.cell? ⟨gp, 2, none⟩ = some (.int .u8 ((p 2).toNat : Int)) := by rw [cell_of_row W0 _ 2 _ _ _ hP1]; rfl
  have p3 : W0.cell? ⟨gp, 3, none⟩ = some (.int .u8 ((p 3).toNat : Int)) := by rw [cell_of_row W0 _ 3 _ _ _ hP1]; rfl
  have c0 := hA1.cell (n * 4) (by omega)
  have c1 := hA1.cell (n * 4 + 1) (by omega)
  have c2 := hA1.cell (n * 4 + 2) (by omega)
  have c3 := hA1.cell (n * 4 + 3) (by omega)
  have f0 := hA1.free (n * 4)
  have f1 := hA1.free (n * 4 + 1)
  have f2 := hA1.free (n * 4 + 2)
  have f3 := hA1.free (n * 4 + 3)
  have hA2 := (Bk.set (Bk.set (Bk.set (Bk.set hA1 (n * 4) (p 0)) (n * 4 + 1) (p 1)) (n * 4 + 2) (p 2)) (n * 4 + 3) (p 3)).congr (fun j _ => rep_put t p n j)
  have hT2 : Bk w.heap.size 36 256 t ((((W0.setCell ⟨ga, n * 4, none⟩ (.int .u8 ((p 0).toNat : Int))).setCell ⟨ga, n * 4 + 1, none⟩ (.int .u8 ((p 1).toNat : Int))).setCell ⟨ga, n * 4 + 2, none⟩ (.int .u8 ((p 2).toNat : Int))).setCell ⟨ga, n * 4 + 3, none⟩ (.int .u8 ((p 3).toNat : Int))) :=
    (((hT1.other _ _ n1).other _ _ n1).other _ _ n1).other _ _ n1
  have hP2 : ((((W0.setCell ⟨ga, n * 4, none⟩ (.int .u8 ((p 0).toNat : Int))).setCell ⟨ga, n * 4 + 1, none⟩ (.int .u8 ((p 1).toNat : Int))).setCell ⟨ga, n * 4 + 2, none⟩ (.int .u8 ((p 2).toNat : Int))).setCell ⟨ga, n * 4 + 3, none⟩ (.int .u8 ((p 3).toNat : Int))).heap[gp]? = some (.cells #[.int .u8 ((p 0).toNat : Int), .int .u8 ((p 1).toNat : Int), .int .u8 ((p 2).toNat : Int), .int .u8 ((p 3).toNat : Int)] 27 (0, 0)) := by
    rw [heap_setCell_other _ _ _ _ n2, heap_setCell_other _ _ _ _ n2, heap_setCell_other _ _ _ _ n2, heap_setCell_other _ _ _ _ n2]; exact hP1
  have hb2 : Below w.heap.size w ((((W0.setCell ⟨ga, n * 4, none⟩ (.int .u8 ((p 0).toNat : Int))).setCell ⟨ga, n * 4 + 1, none⟩ (.int .u8 ((p 1).toNat : Int))).setCell ⟨ga, n * 4 + 2, none⟩ (.int .u8 ((p 2).toNat : Int))).setCell ⟨ga, n * 4 + 3, none⟩ (.int .u8 ((p 3).toNat : Int))) :=
    (((hb1.setCell (p := ⟨ga, n * 4, none⟩) l1 _).setCell (p := ⟨ga, n * 4 + 1, none⟩) l1 _).setCell (p := ⟨ga, n * 4 + 2, none⟩) l1 _).setCell (p := ⟨ga, n * 4 + 3, none⟩) l1 _
  have HA2 := Lib.hid hA2
  have HT2 := Lib.hid hT2
  have HP2 := Lib.hid hP2
  clear hA1 hT1 hP1 hb1 hA2 hT2 hP2
  go_upto_region 5 with (fail)
  have hA3 := HA2.out
  have hT3 := HT2.out
  have hP3 := HP2.out
  clear HA2 HT2 HP2 c0 c1 c2 c3 f0 f1 f2 f3 p0 p1 p2 p3
  generalize (((W0.setCell ⟨ga, n * 4, none⟩ (.int .u8 ((p 0).toNat : Int))).setCell ⟨ga, n * 4 + 1, none⟩ (.int .u8 ((p 1).toNat : Int))).setCell ⟨ga, n * 4 + 2, none⟩ (.int .u8 ((p 2).toNat : Int))).setCell ⟨ga, n * 4 + 3, none⟩ (.int .u8 ((p 3).toNat : Int)) = W1 at *
  go_wp2_with fail
  go_loopw [10] (fun i wr => ∃ k : Nat, k ≤ 6 ∧ i = .int .i64 k ∧ Bk ga 36 256 (rep t p n) wr ∧ Bk w.heap.size 36 256 t wr ∧ Px gp p wr ∧ Below w.heap.size w wr) (fun i _ => 6 - (intOf i).toNat)
  case atStart => exact ⟨0, by omega, rfl, hA3, hT3, hP3, hb2⟩
  case round =>
    clear hA3 hT3 hP3 hb2
    obtain ⟨k, hk, rfl, hA, hT, hP, hb⟩ := hrel
    go_wp2_with fail
    refine (Predictors_any _).mono ?_
    rintro e y1 ⟨rfl, b1⟩
    replace hA := hA.keep b1
    replace hT := hT.keep b1
    replace hP := hP.keep b1
    replace hb := bt hb b1
    clear b1
    by_cases hk6 : k < 6
    · go_wp2_with (refine wpList_load_row rfl 36 _ rfl w.heap.size rfl 36 _ (0, 0) _ hT Try.underlying36 rfl (by rw [cf_size]; exact Try.size36) ?_)
      refine (forward_of _ k hk6 _ rfl _).mono ?_
      rintro e y2 ⟨rfl, b2⟩
      replace hA := hA.keep b2
      replace hT := hT.keep b2
      replace hP := hP.keep b2
      replace hb := bt hb b2
      clear b2
      go_wp2_with (refine wpList_load_row rfl 36 _ rfl ga rfl 36 _ (0, 0) _ hA Try.underlying36 rfl (by rw [cf_size]; exact Try.size36) ?_)
      refine (forward_of _ k hk6 _ rfl _).mono ?_
      rintro e y3 ⟨rfl, b3⟩
      replace hA := hA.keep b3
      replace hT := hT.keep b3
      replace hP := hP.keep b3
      replace hb := bt hb b3
      clear b3
      have s1 := fw_size k t
      have s2 := fw_size k (rep t p n)
      go_wp2_with fail
      clear s1 s2
      have k64 : (k : Int) < 6 := by omega
      go_loopw [15] (fun i wi => ∃ q : Nat, q ≤ 4 ∧ i = .int .i64 q ∧ Bk ga 36 256 (rep t p n) wi ∧ Bk w.heap.size 36 256 t wi ∧ Px gp p wi ∧ Below w.heap.size w wi) (fun i _ => 4 - (intOf i).toNat)
      case atStart => exact ⟨0, by omega, rfl, hA, hT, hP, hb⟩
      case round =>
        clear hA hT hP hb
        obtain ⟨q, hq, rfl, hA, hT, hP, hb⟩ := hrel
        by_cases hq4 : q < 4
        · have S0 : Sees w.heap.size n gp t p wr.drew := sees_of hn64 hT hP
          have hI1 := fun W => index_fw k t (64 * q + n) (64 * (q : Int) + n) (by omega) (by omega) W
          have hI2 := fun W => index_fw k (rep t p n) (64 * q + n) (64 * (q : Int) + n) (by omega) (by omega) W
          have hS1 := fun W => slice_fw k t (64 * q) (64 * q + n) (64 * (q : Int)) (64 * (q : Int) + n) (by omega) (by omega) (by omega) (by omega) W
          have hS2 := fun W => slice_fw k (rep t p n) (64 * q) (64 * q + n) (64 * (q : Int)) (64 * (q : Int) + n) (by omega) (by omega) (by omega) (by omega) W
          rw [← ext_eq k t p n q hq4 hn64] at hS2
          have hE := res_eq k t p n q hq4 hn64
          have hC := fun W => same_any (t (4 * n)) (t (4 * n + 1)) (t (4 * n + 2)) (t (4 * n + 3)) (p 0) (p 1) (p 2) (p 3) q hq4 W
          rw [← hE, ← beq8] at hC
          clear hE
          generalize (fw k t).extract (64 * q) (64 * q + n) = ex at *
          generalize M.res k (plf t) (64 * q + n) = r1 at *
          generalize M.res k (plf (rep t p n)) (64 * q + n) = r2 at *
          have HC := Lib.hid hC
          have HA := Lib.hid hA
          have HT := Lib.hid hT
          have HP := Lib.hid hP
          have hTd : Bk w.heap.size 36 256 t wr.drew := hT
          have hPd : Px gp p wr.drew := hP
          have HTd := Lib.hid hTd
          have HPd := Lib.hid hPd
          clear hC hA hT hP hTd hPd
          generalize fw k t = o1 at *
          generalize fw k (rep t p n) = o2 at *
          have hw1 : IntKind.i64.wrap (64 * (q : Int)) = 64 * (q : Int) := IntWalk.i64_in _ (by omega)
          have hw2 : IntKind.i64.wrap (64 * (q : Int) + (n : Int)) = 64 * (q : Int) + (n : Int) := IntWalk.i64_in _ (by omega)
          go_wp2_with fail
          go_region_held3 (fun x => x.cell? ⟨w.heap.size, n * 4, none⟩ = some (.int .u8 ((t (4 * n)).toNat : Int)) ∧ x.cell? ⟨w.heap.size, n * 4 + 1, none⟩ = some (.int .u8 ((t (4 * n + 1)).toNat : Int)) ∧ x.cell? ⟨w.heap.size, n * 4 + 2, none⟩ = some (.int .u8 ((t (4 * n + 2)).toNat : Int)) ∧ x.cell? ⟨w.heap.size, n * 4 + 3, none⟩ = some (.int .u8 ((t (4 * n + 3)).toNat : Int)) ∧ x.cell? ⟨gp, 0, none⟩ = some (.int .u8 ((p 0).toNat : Int)) ∧ x.cell? ⟨gp, 1, none⟩ = some (.int .u8 ((p 1).toNat : Int)) ∧ x.cell? ⟨gp, 2, none⟩ = some (.int .u8 ((p 2).toNat : Int)) ∧ x.cell? ⟨gp, 3, none⟩ = some (.int .u8 ((p 3).toNat : Int))) (first | exact S0 | exact S1)
            (first | (go_at_call 18; refine (HC.out _).mono ?_; rintro e w2 ⟨rfl, hb2⟩; have S1 : Sees w.heap.size n gp t p w2 := sees_of hn64 (HTd.out.keep hb2) (HPd.out.keep hb2)))
          all_goals
            go_wp2_with fail
            clear hw1 hw2
            go_roundw
            case rel => exact ⟨q + 1, by omega, by go_num, (Bk.drew HA.out).keep hb2, HTd.out.keep hb2, HPd.out.keep hb2, bt (Below.drew hb) hb2⟩
            case measure => simp [intOf]; omega
        · go_wp2_with fail
          go_roundw
          case rel => exact ⟨k + 1, by omega, by go_num, hA, hT, hP, hb⟩
          case measure => simp [intOf]; omega
    · go_wp2_with fail
      go_ret
      exact ⟨rfl, hb⟩
end predictCausal
end Go.Proofs.Ytihhcmgidgffoaa
