/- CoderDecode: the walk. -/
import Derived.Test.YtdepfgeomceiiaaLZ
set_option linter.unusedVariables false
namespace Go.Proofs.Ytdepfgeomceiiaa
open Go.RowKit
namespace coderDecode
set_option maxRecDepth 100000 in
set_option maxHeartbeats 4000000 in
theorem walk (f : ByteArray) (n x0 x1 x2 : Int) (w : World) (hf : f.size ≤ 140737488351232) (wn : (Lit.int .i64 n).wf = true) (w0 : (Lit.int .i64 x0).wf = true) (w1 : (Lit.int .i64 x1).wf = true) (w2 : (Lit.int .i64 x2).wf = true) :
    Calls Try.prog 4 #[.string f, .int .i64 n, .agg #[.int .i64 x0, .int .i64 x1, .int .i64 x2]] w fun e w' => e = .returned (.bool true) ∧ Below w.heap.size w w' := by
  have bn : -9223372036854775808 ≤ n ∧ n ≤ 9223372036854775807 := bounds_i64 wn
  clear wn w0 w1 w2
  have an := and_64k n
  have a0 := and_64k x0
  have a2 := and_64k x2
  obtain ⟨K, hK, hK2⟩ := idx n 301 (by omega)
  rw [show ((301 : Nat) : Int) = 301 from rfl] at hK
  have HS := Lib.hid (sanity_any (w.alloc (.cells #[.int .i64 x0, .int .i64 x1, .int .i64 x2] 26)))
  go_enter Try.func4, Try.ntmps4
  go_wp2_with fail
  refine HS.out.mono ?_
  rintro e x ⟨rfl, g1⟩
  have hb := heap_alloc_new w (.cells #[.int .i64 x0, .int .i64 x1, .int .i64 x2] 26)
  have hb2 := g1.block hb
  have c0 : x.cell? ⟨w.heap.size, 0, none⟩ = some (.int .i64 x0) := by rw [cell_of_row x _ 0 _ _ _ hb2]; rfl
  have c1 : x.cell? ⟨w.heap.size, 1, none⟩ = some (.int .i64 x1) := by rw [cell_of_row x _ 1 _ _ _ hb2]; rfl
  have c2 : x.cell? ⟨w.heap.size, 2, none⟩ = some (.int .i64 x2) := by rw [cell_of_row x _ 2 _ _ _ hb2]; rfl
  have hbx : w.heap.size < x.heap.size := (Array.getElem?_eq_some_iff.1 hb2).1
  have hbe := Lib.hid (below_grow (show Below w.heap.size w _ from Grow.alloc w (.cells #[.int .i64 x0, .int .i64 x1, .int .i64 x2] 26)) (by simp) g1)
  clear HS hb hb2 g1
  have H1 := Lib.hid (some_any f 200 x (by omega) (by omega))
  rw [show ((200 : Nat) : Int) = 200 from rfl] at H1
  go_wp2_with fail
  refine H1.out.mono ?_
  rintro e y ⟨rfl, g⟩
  have hs : (f.extract 0 (min f.size 200)).size ≤ 200 := by rw [ext_size]; omega
  generalize f.extract 0 (min f.size 200) = F at *
  replace c0 := g.cell c0
  replace c1 := g.cell c1
  replace c2 := g.cell c2
  have hby : w.heap.size < y.heap.size := Nat.lt_of_lt_of_le hbx (Below.size g)
  replace hbe := Lib.hid (below_grow hbe.out hbe.out.size g)
  clear g H1 hbx hf
  have H2 := Lib.hid (decode_any F K (by omega) (by omega) y)
  have H3 := Lib.hid (fun y => rdecode_any F K (by omega) (by omega) y)
  unfold gres at H3
  generalize dres F K = D1 at *
  obtain ⟨D1s, D1e⟩ := D1
  dsimp only at H2 H3
  go_wp2_with fail
  refine H2.out.mono ?_
  rintro e z ⟨rfl, g⟩
  replace c0 := g.cell c0
  replace c1 := g.cell c1
  replace c2 := g.cell c2
  have hbz : w.heap.size < z.heap.size := Nat.lt_of_lt_of_le hby (Below.size g)
  replace hbe := Lib.hid (below_grow hbe.out hbe.out.size g)
  clear g H2 hby
  go_wp2_with fail
  refine (H3.out z).mono ?_
  rintro e u ⟨rfl, g⟩
  replace c0 := g.cell c0
  replace c1 := g.cell c1
  replace c2 := g.cell c2
  have hbu : w.heap.size < u.heap.size := Nat.lt_of_lt_of_le hbz (Below.size g)
  replace hbe := Lib.hid (below_grow hbe.out hbe.out.size g)
  clear g H3 hbz an hK hK2
  go_upto_region 7 with fail
  refine wp_gen (fun W0 => (W0.cell? ⟨w.heap.size, 0, none⟩ = some (.int .i64 x0) ∧ W0.cell? ⟨w.heap.size, 1, none⟩ = some (.int .i64 x1) ∧ W0.cell? ⟨w.heap.size, 2, none⟩ = some (.int .i64 x2)) ∧ (W0.cell? ⟨u.heap.size, 0, none⟩ = some (.string D1s) ∧ W0.cell? ⟨u.heap.size, 1, none⟩ = some (.int .i64 D1e)) ∧ Below w.heap.size w W0 ∧ u.heap.size < W0.heap.size) ⟨by go_simp, by go_simp, ?_, ?_⟩ ?_
  case refine_1 => exact below_grow hbe.out hbe.out.size (Grow.alloc _ _)
  case refine_2 => simp
  clear c0 c1 c2 hbe
  rintro W0 ⟨⟨c0, c1, c2⟩, ⟨d0, d1⟩, hbe, hW0⟩
  replace hbe := Lib.hid hbe
  go_cut [45] (fun s45 wx => s45 = .bool (decide (n ≥ 0 ∧ n ≤ 65536)) ∧ wx = W0)
  case first =>
    by_cases h1 : n ≥ 0
    · by_cases h2 : n ≤ 65536
      · have hd : decide (n ≥ 0 ∧ n ≤ 65536) = true := decide_eq_true ⟨h1, h2⟩
        go_wp2
        go_meet
        exact ⟨by rw [hd], rfl⟩
      · have hd : decide (n ≥ 0 ∧ n ≤ 65536) = false := decide_eq_false (by omega)
        go_wp2
        go_meet
        exact ⟨by rw [hd], rfl⟩
    · have hd : decide (n ≥ 0 ∧ n ≤ 65536) = false := decide_eq_false (by omega)
      go_wp2
      go_meet
      exact ⟨by rw [hd], rfl⟩
  case rest =>
  obtain ⟨rfl, hwc⟩ := hcut
  rw [hwc]
  clear hwc
  go_upto_if 45 with fail
  go_cut [12] (fun s12 wx => (∃ big : Int, s12 = .int .i64 big ∧ (big < 0 ∨ 65536 < big)) ∧ wx = W0)
  case first =>
    by_cases h1 : n ≥ 0 ∧ n ≤ 65536
    · have hd : decide (n ≥ 0 ∧ n ≤ 65536) = true := decide_eq_true h1
      rw [hd]
      have h2 : n ≤ 65536 := h1.2
      have h3 : 0 ≤ n := h1.1
      clear h1
      go_wp2
      go_meet
      exact ⟨⟨n + 65537, rfl, by omega⟩, rfl⟩
    · have hd : decide (n ≥ 0 ∧ n ≤ 65536) = false := decide_eq_false h1
      rw [hd]
      go_wp2
      go_meet
      exact ⟨⟨n, rfl, by omega⟩, rfl⟩
  case rest =>
  obtain ⟨⟨big, rfl, hbig⟩, hwc⟩ := hcut
  rw [hwc]
  clear hwc
  have H4 := Lib.hid (decode_bad F big hbig W0)
  clear hbig bn
  have hb0 := hbe.out.size
  have hw0u : w.heap.size < W0.heap.size := by omega
  go_wp2_with fail
  refine H4.out.mono ?_
  rintro e x ⟨rfl, g⟩
  replace c0 := g.cell c0
  replace c1 := g.cell c1
  replace c2 := g.cell c2
  replace d0 := g.cell d0
  replace d1 := g.cell d1
  have hx1 : u.heap.size < x.heap.size := Nat.lt_of_lt_of_le hW0 (Below.size g)
  replace hbe := Lib.hid (below_grow hbe.out hbe.out.size g)
  clear g H4 hW0 hb0 hw0u
  have H5 := Lib.hid (fun x => some_any F 100 x (by omega) (by omega))
  rw [show ((100 : Nat) : Int) = 100 from rfl] at H5
  have hs100 : (F.extract 0 (min F.size 100)).size ≤ 100 := by rw [ext_size]; omega
  generalize F.extract 0 (min F.size 100) = G at *
  go_wp2_with fail
  refine (H5.out x).mono ?_
  rintro e y ⟨rfl, g⟩
  replace c0 := g.cell c0
  replace c1 := g.cell c1
  replace c2 := g.cell c2
  replace d0 := g.cell d0
  replace d1 := g.cell d1
  have hy1 : u.heap.size < y.heap.size := Nat.lt_of_lt_of_le hx1 (Below.size g)
  replace hbe := Lib.hid (below_grow hbe.out hbe.out.size g)
  clear g hx1
  have H6 := Lib.hid (rencode_any G y (by omega))
  have hl1 := M.enc_bd G.data.toList
  have hl2 := M.enc_len G.data.toList
  rw [toList_len] at hl1
  have hsz : (⟨(M.enc G.data.toList).toArray⟩ : ByteArray).size = (M.enc G.data.toList).length := by show (M.enc G.data.toList).toArray.size = _; simp
  rw [← hsz] at hl1 hl2
  clear hsz
  generalize (⟨(M.enc G.data.toList).toArray⟩ : ByteArray) = t at *
  go_wp2_with fail
  refine H6.out.mono ?_
  rintro e z ⟨rfl, g⟩
  replace c0 := g.cell c0
  replace c1 := g.cell c1
  replace c2 := g.cell c2
  replace d0 := g.cell d0
  replace d1 := g.cell d1
  have hz1 : u.heap.size < z.heap.size := Nat.lt_of_lt_of_le hy1 (Below.size g)
  replace hbe := Lib.hid (below_grow hbe.out hbe.out.size g)
  clear g hy1 H6
  obtain ⟨V, cap, hcb, hcap, hlie, hfree, gV, hgV⟩ := conv_bytes z t
  replace c0 := gV.cell c0
  replace c1 := gV.cell c1
  replace c2 := gV.cell c2
  replace d0 := gV.cell d0
  replace d1 := gV.cell d1
  have hbz := hbe.out.size
  replace hbe := Lib.hid (below_grow hbe.out hbe.out.size gV)
  have hzw : w.heap.size ≤ z.heap.size := hbz
  clear gV
  replace hlie := Lib.hid hlie
  replace hfree := Lib.hid hfree
  go_upto_region 11 with fail
  obtain ⟨k0, hk0, hk1⟩ := idx x0 t.size (by omega)
  have htl : t.data.toList.length = t.size := toList_len t
  have f1 := hlie.out k0 (by omega)
  have f2 := hfree.out k0 (by omega)
  obtain ⟨zb, hzb⟩ := xor_u8 (t.data.toList[k0]'(by omega)) x1
  generalize t.data.toList[k0]'(by omega) = tb at *
  have hts : ¬ (t.size : Int) = 0 := by omega
  have hk2 : (k0 : Int) < t.size := by omega
  refine wp_region_lastB2 (C := fun x => ∃ n, x = V.drewN n) rfl (by kernel_rfl) (by kernel_rfl) (by kernel_rfl) (by kernel_rfl) rfl rfl ⟨1, rfl⟩ ?_
  simp only [lastOp, List.dropLast, List.cons_append, List.nil_append]
  repeat (first
    | go_big_quiet_skip
    | (go_big_quiet_want; refine q_val ?_; apply Exists.intro; refine ⟨fun x hx => ?_, ?_⟩; (focus (obtain ⟨n, rfl⟩ := hx; first | exact run_rem _ t.size k0 (by omega) (by omega) hk0 rfl rfl rfl | (go_simp <;> rfl))); simp only [Act.put, List.setIfInBounds_toArray, List.set_cons_zero, List.set_cons_succ]; go_big_quiet_on))
  refine wpQuiet_nil ?_
  rintro y9 ⟨nn, rfl⟩
  replace c0 : (V.drewN nn).cell? ⟨w.heap.size, 0, none⟩ = some (.int .i64 x0) := c0
  replace c1 : (V.drewN nn).cell? ⟨w.heap.size, 1, none⟩ = some (.int .i64 x1) := c1
  replace c2 : (V.drewN nn).cell? ⟨w.heap.size, 2, none⟩ = some (.int .i64 x2) := c2
  replace d0 : (V.drewN nn).cell? ⟨u.heap.size, 0, none⟩ = some (.string D1s) := d0
  replace d1 : (V.drewN nn).cell? ⟨u.heap.size, 1, none⟩ = some (.int .i64 D1e) := d1
  replace f1 : (V.drewN nn).cell? ⟨z.heap.size, k0, none⟩ = some (.int .u8 (tb.toNat : Int)) := f1
  replace f2 : (V.drewN nn).frozen? ⟨z.heap.size, k0, none⟩ = false := f2
  replace hlie := Lib.hid (show Lie z.heap.size t.data.toList (V.drewN nn) from hlie.out)
  replace hbe := Lib.hid (show Below w.heap.size w (V.drewN nn) from ⟨hbe.out.os, hbe.out.tape, hbe.out.output, hbe.out.size, hbe.out.block⟩)
  replace hgV : z.heap.size < (V.drewN nn).heap.size := hgV
  clear hfree hcb hts hk0 a0
  generalize V.drewN nn = V1 at *
  have hbz' := hbe.out.size
  go_upto_region 12 with fail
  refine wp_gen (fun W1 => W1.cell? ⟨w.heap.size, 2, none⟩ = some (.int .i64 x2) ∧ (W1.cell? ⟨u.heap.size, 0, none⟩ = some (.string D1s) ∧ W1.cell? ⟨u.heap.size, 1, none⟩ = some (.int .i64 D1e)) ∧ Lie z.heap.size (t.data.toList.set k0 zb) W1 ∧ Below w.heap.size w W1 ∧ z.heap.size < W1.heap.size) ⟨?_, ⟨?_, ?_⟩, hlie.out.set k0 (by omega) zb, ?_, ?_⟩ ?_
  · rw [World.cell?_setCell_other _ _ _ _ (by intro e2; injection e2 with e2 _ _; omega)]; exact c2
  · rw [World.cell?_setCell_other _ _ _ _ (by intro e2; injection e2 with e2 _ _; omega)]; exact d0
  · rw [World.cell?_setCell_other _ _ _ _ (by intro e2; injection e2 with e2 _ _; omega)]; exact d1
  · exact hbe.out.setCell (p := ⟨z.heap.size, k0, none⟩) hzw _
  · simp [World.setCell]; exact hgV
  clear c0 c1 c2 d0 d1 f1 f2 hlie hbe hgV hzb hk2 hbz'
  rintro W1 ⟨c2, ⟨d0, d1⟩, hlie, hbe, hgW⟩
  have hTl : (t.data.toList.set k0 zb).length = t.size := by rw [List.length_set]; exact htl
  obtain ⟨k5, hk5, hk6⟩ := idx x2 (t.size + 1) (by omega)
  rw [Int.natCast_add, show ((1 : Nat) : Int) = 1 from rfl] at hk5
  generalize t.data.toList.set k0 zb = T at *
  have hcv1 := hlie.conv cap k5 (by omega)
  have hcvF : Hid (∀ A, Lie z.heap.size T A → (convert 33 9 (.slice (some ⟨z.heap.size, 0, none⟩) t.size cap)).run Try.prog A = .ok (.string ⟨T.toArray⟩) A) := Lib.hid fun A hA => by
    have := hA.conv cap t.size (by omega)
    rw [List.take_of_length_le (by omega)] at this
    exact this
  have hk7 : (k5 : Int) ≤ t.size := by omega
  have hk8 : k5 ≤ cap := by omega
  have hk9 : (k5 : Int) ≤ cap := by omega
  have hts1 : ¬ ((t.size : Int) + 1 = 0) := by omega
  have hts2 : (t.size : Int) ≤ 100000 := by omega
  replace hlie := Lib.hid hlie
  replace hbe := Lib.hid hbe
  generalize hU : (⟨(T.take k5).toArray⟩ : ByteArray) = U at *
  generalize hTT : (⟨T.toArray⟩ : ByteArray) = T2 at *
  have hUs : U.size ≤ 100000 := by rw [← hU]; show (T.take k5).toArray.size ≤ _; simp; omega
  have hTs : T2.size ≤ 100000 := by rw [← hTT]; show T.toArray.size ≤ _; simp; omega
  clear hU hTT
  have hs100' : (G.size : Int) ≤ 100 := by omega
  go_wp2_with fail
  refine (H5.out W1).mono ?_
  rintro e A ⟨rfl, g⟩
  replace d0 := g.cell d0
  replace d1 := g.cell d1
  have hgA : z.heap.size < A.heap.size := Nat.lt_of_lt_of_le hgW (Below.size g)
  replace hlie := Lib.hid (hlie.out.grow hgW g)
  replace hbe := Lib.hid (below_grow hbe.out hbe.out.size g)
  clear g hgW hcv1 hk5 c2 H5
  have hcA := hcvF.out A hlie.out
  have H7 := Lib.hid (decode_any T2 G.size (by omega) (by omega) A)
  have H8 := Lib.hid (fun y => rdecode_any T2 G.size (by omega) (by omega) y)
  have H9 := Lib.hid (fun y => decode_any U G.size (by omega) (by omega) y)
  have H10 := Lib.hid (fun y => rdecode_any U G.size (by omega) (by omega) y)
  unfold gres at H8 H10
  generalize dres T2 G.size = D2 at *
  generalize dres U G.size = D3 at *
  obtain ⟨D2s, D2e⟩ := D2
  obtain ⟨D3s, D3e⟩ := D3
  dsimp only at H7 H8 H9 H10
  go_wp2_with fail
  refine H7.out.mono ?_
  rintro e B ⟨rfl, g⟩
  replace d0 := g.cell d0
  replace d1 := g.cell d1
  replace hlie := Lib.hid (hlie.out.grow hgA g)
  have hgB : z.heap.size < B.heap.size := Nat.lt_of_lt_of_le hgA (Below.size g)
  replace hbe := Lib.hid (below_grow hbe.out hbe.out.size g)
  clear g hcA hgA H7
  have hcB := hcvF.out B hlie.out
  go_wp2_with fail
  refine (H8.out B).mono ?_
  rintro e C ⟨rfl, g⟩
  replace d0 := g.cell d0
  replace d1 := g.cell d1
  have hgC : z.heap.size < C.heap.size := Nat.lt_of_lt_of_le hgB (Below.size g)
  replace hbe := Lib.hid (below_grow hbe.out hbe.out.size g)
  clear g hcB hgB H8 hlie hcvF
  have huC : u.heap.size < C.heap.size := by omega
  go_wp2_with fail
  refine (H9.out _).mono ?_
  rintro e D ⟨rfl, g⟩
  have hgr := (Grow.alloc C (.cells #[.string D2s, .int .i64 D2e] 31)).trans g
  have hq := g.block (heap_alloc_new C (.cells #[.string D2s, .int .i64 D2e] 31))
  have e0 : D.cell? ⟨C.heap.size, 0, none⟩ = some (.string D2s) := by rw [cell_of_row D _ 0 _ _ _ hq]; rfl
  have e1 : D.cell? ⟨C.heap.size, 1, none⟩ = some (.int .i64 D2e) := by rw [cell_of_row D _ 1 _ _ _ hq]; rfl
  have hCD : C.heap.size < D.heap.size := (Array.getElem?_eq_some_iff.1 hq).1
  replace d0 := hgr.cell d0
  replace d1 := hgr.cell d1
  replace hbe := Lib.hid (below_grow hbe.out hbe.out.size hgr)
  clear g hgr hq H9
  go_wp2_with fail
  refine (H10.out D).mono ?_
  rintro e E ⟨rfl, g⟩
  replace d0 := g.cell d0
  replace d1 := g.cell d1
  replace e0 := g.cell e0
  replace e1 := g.cell e1
  have hCE : C.heap.size < E.heap.size := Nat.lt_of_lt_of_le hCD (Below.size g)
  have huE : u.heap.size < E.heap.size := by omega
  replace hbe := Lib.hid (below_grow hbe.out hbe.out.size g)
  have hbe2 := Lib.hid (below_grow hbe.out hbe.out.size (Grow.alloc E (.cells #[.string D3s, .int .i64 D3e] 31)))
  clear g H10
  go_wp2
  go_ret
  exact ⟨rfl, hbe2.out⟩
end coderDecode
end Go.Proofs.Ytdepfgeomceiiaa
