/- Walk of the reference's Decode. -/
import Derived.Test.YtdepfgeomceiiaaQI
import Derived.Test.YtdepfgeomceiiaaQF
import Derived.Test.YtdepfgeomceiiaaY
set_option linter.unusedVariables false
namespace Go.Proofs.Ytdepfgeomceiiaa
open Go.RowKit
/-- During the reference's Decode. -/
structure DR (W : World) (g rc : Nat) (f : ByteArray) (l : List UInt8) (m : Nat) (s : M.St) (v : Value) (w : World) : Prop where
  rr : RR g f m s w
  own : w.ownsRow W.heap.size 5 1 v l.length (bvals l)
  rc : w.heap[rc]? = some (.cells #[.string ⟨#[]⟩, .int .i64 0] 31 (0, 0))
  below : Below W.heap.size W w
  ge : W.heap.size ≤ g
theorem DR.bit {W g rc f l m s v w} (h : DR W g rc f l m s v w) (c : Nat) (hc : c < 256) (hm : m ≤ 90000000) (hf : f.size ≤ 1000000000000000) :
    Calls Try.prog 29 #[.pointer (some ⟨g, 0, none⟩), .int .i64 (c : Int)] w fun e w' => e = .returned (.int .i64 (M.rb s c (M.val f.data.toList m))) ∧ DR W g rc f l (m + (M.outB s c (M.rb s c (M.val f.data.toList m))).length) (M.nxt s c (M.rb s c (M.val f.data.toList m))) v w' := by
  have hcx : cx (c : Int) = c := by unfold cx; omega
  have hr := rbit_rr h.rr (c : Int) hm hf
  unfold nb at hr
  rw [hcx] at hr
  refine hr.mono ?_
  rintro e x ⟨rfl, k1, k2⟩
  have n1 := row_ne h.own h.rr.blk (by decide)
  refine ⟨rfl, k1, h.own.kept (row := some g) ⟨k2.os, k2.tape, k2.output, k2.size, fun j hj hr => k2.block j hj (fun e => hr (by rw [e])) (by simp)⟩ (.inr n1.symm), ?_, h.below.trans (k2.below h.ge (by simp) h.below.size), h.ge⟩
  have n2 : rc ≠ g := blk_ne h.rr.blk h.rc (by decide)
  rw [k2.block rc (Array.getElem?_eq_some_iff.1 h.rc).1 n2 (by simp)]; exact h.rc
theorem DR.push {W g rc f l m s v w} (h : DR W g rc f l m s v w) {v' : Value} {w2 : World} {b : UInt8} {o : Obj} (hown : w2.ownsRow W.heap.size 5 1 v' (l.length + 1) (bvals l ++ [.int .u8 (b.toNat : Int)])) (hgr : (w.alloc o).grownBy w2 v.ownBlock) : DR W g rc f (l ++ [b]) m s v' w2 := by
  have n1 := row_ne h.own h.rr.blk (by decide)
  have n2 := row_ne h.own h.rc (by decide)
  have x1 := h.rr.blk.grow (Grow.alloc w o)
  have x2 := (Grow.alloc w o).block h.rc
  refine ⟨⟨h.rr.ok, ?_⟩, by rw [List.length_append, bvals_append]; exact hown, ?_, ?_, h.ge⟩
  · have := hgr.block g x1.lt n1
    unfold Blk at x1 ⊢; rw [this]; exact x1
  · rw [hgr.block rc (Array.getElem?_eq_some_iff.1 x2).1 n2]; exact x2
  · exact (h.below.alloc h.below.size o).grown hgr (by have := h.below.size; simp; omega) (fun k hk => (h.own.lt k hk).1)
theorem cells2 {y : World} {g : Nat} {a b : Value} (h : y.heap[g]? = some (.cells #[a, b] 31 (0, 0))) (u v : Value) : ((y.setCell ⟨g, 0, none⟩ u).setCell ⟨g, 1, none⟩ v).heap[g]? = some (.cells #[u, v] 31 (0, 0)) := by
  rw [heap_setCell_same _ _ _ _ _ _ (heap_setCell_same _ _ _ _ _ _ h)]
  rfl
theorem results_cell31 {fn : Func} {t : Tmp} (h : fn.results = #[.cell t 31]) (tmps : Array Value) (g : Nat) (a b : Value) (w : World) (ht : tmps[t]?.getD undef = .pointer (some ⟨g, 0, none⟩)) (hl : w.heap[g]? = some (.cells #[a, b] 31 (0, 0))) :
    (results fn tmps).run Try.prog w = .ok (.agg #[a, b]) w := by
  have c0 : w.cell? ⟨g, 0, none⟩ = some a := by rw [cell_of_row w _ 0 _ _ _ hl]; rfl
  have c1 : w.cell? ⟨g, 1, none⟩ = some b := by rw [cell_of_row w _ 1 _ _ _ hl]; rfl
  simp [results, h, ht, asAddr, loadVar, loadCells, loadCellsFrom, Addr.add, c0, c1]
/-- The reference's result. -/
def gres (f : ByteArray) (n : Nat) : Value := .agg #[.string (dres f n).1, .int .i64 (dres f n).2]
set_option maxRecDepth 100000 in
set_option maxHeartbeats 2000000 in
theorem rdecode_any (f : ByteArray) (n : Nat) (hn : n ≤ 65536) (hf : f.size ≤ 1000000000000000) (W : World) :
    Calls Try.prog 18 #[.string f, .int .i64 (n : Int)] W fun e w' => e = .returned (gres f n) ∧ Grow W w' := by
  have HN := Lib.hid (rnewReader_rr f (W.alloc (.cells #[.string ⟨#[]⟩, .int .i64 0] 31)) hf)
  have n1 : ¬ (n : Int) < 0 := by omega
  have n2 : ¬ (n : Int) > 65536 := by omega
  go_enter Try.func18, Try.ntmps18
  go_wp2_with fail
  refine HN.out.mono ?_
  rintro e x ⟨g, hg, rfl, hr, hgr⟩
  have hsz : (W.alloc (.cells #[.string ⟨#[]⟩, .int .i64 0] 31)).heap.size = W.heap.size + 1 := by simp
  rw [hsz] at hg
  have hD : Hid (DR W g W.heap.size f (M.rdN f.data.toList 0 M.start 0).1 (M.rdN f.data.toList 0 M.start 0).2.2 (M.rdN f.data.toList 0 M.start 0).2.1 (.slice (some ⟨x.heap.size, 0, none⟩) 0 0) (x.alloc (.cells #[] 5))) := by
    have b1 : Below W.heap.size W x := below_grow (show Below W.heap.size W _ from Grow.alloc W (.cells #[.string ⟨#[]⟩, .int .i64 0] 31)) (by simp) hgr
    refine Lib.hid ⟨hr.grow (Grow.alloc _ _), ?_, (Grow.alloc _ _).block (hgr.block (heap_alloc_new _ _)), below_grow b1 b1.size (Grow.alloc _ _), by omega⟩
    have := World.ownsRow_lit (e := 5) (size := 1) (base := W.heap.size) x #[] 0 b1.size (by unfold maxLen; omega) rfl
    rw [M.rdN_zero]
    simpa [bvals] using this
  clear HN hr hgr hsz
  go_upto_block 1 with fail
  go_loopg [6, 7] n (fun k s6 s7 wr => ∃ i, i + k = n ∧ s7 = .int .i64 (i : Int) ∧ Hid (DR W g W.heap.size f (M.rdN f.data.toList i M.start 0).1 (M.rdN f.data.toList i M.start 0).2.2 (M.rdN f.data.toList i M.start 0).2.1 s6 wr))
  case atStart => exact ⟨0, by omega, rfl, hD⟩
  case round =>
    obtain ⟨i, hik, rfl, HR⟩ := hrel
    clear hD
    obtain ⟨q1, q2⟩ := M.rdN_bd f.data.toList i
    have hll := M.rdN_len f.data.toList i M.start 0
    cases gk with
    | zero =>
      obtain rfl : i = n := by omega
      have hlt : ¬ (i : Int) < i := by omega
      have hown := HR.out.own
      have hcv := conv_own (P := Try.prog) wr 33 9 5 Try.underlying33 Try.underlying5 Try.underlying9 _ _ _ _ hown
      obtain ⟨so, sc, hv⟩ := own_mem hown
      subst hv
      have hls : (⟨(M.rdN f.data.toList i M.start 0).1.toArray⟩ : ByteArray).size ≤ 2500000 := by show (M.rdN f.data.toList i M.start 0).1.toArray.size ≤ _; simp; omega
      replace hll := Lib.hid hll
      have HE := Lib.hid (rencode_any ⟨(M.rdN f.data.toList i M.start 0).1.toArray⟩ wr hls)
      have hds : dres f i = if (⟨(M.enc (M.rdN f.data.toList i M.start 0).1).toArray⟩ : ByteArray) = f then (⟨(M.rdN f.data.toList i M.start 0).1.toArray⟩, 0) else (⟨#[]⟩, 11) := rfl
      replace hds := Lib.hid hds
      have hrc := HR.out.rc
      have hbe := Lib.hid HR.out.below
      clear HR q1 q2 hls
      generalize (M.rdN f.data.toList i M.start 0).1 = l at *
      go_wp2_with fail
      refine HE.out.mono ?_
      rintro e y ⟨rfl, hgy⟩
      have hcv2 := conv_own (P := Try.prog) y 33 9 5 Try.underlying33 Try.underlying5 Try.underlying9 _ _ _ _ (own_grow hown hgy)
      have hrc2 := hgy.block hrc
      have c0 : y.cell? ⟨W.heap.size, 0, none⟩ = some (.string ⟨#[]⟩) := by rw [cell_of_row y _ 0 _ _ _ hrc2]; rfl
      have c1 : y.cell? ⟨W.heap.size, 1, none⟩ = some (.int .i64 0) := by rw [cell_of_row y _ 1 _ _ _ hrc2]; rfl
      have f0 := frozen_of_row y W.heap.size 0 _ _ hrc2
      have f1 := frozen_of_row y W.heap.size 1 _ _ hrc2
      have hbe2 := Lib.hid (below_grow hbe.out hbe.out.size hgy)
      have hyw : W.heap.size < y.heap.size := (Array.getElem?_eq_some_iff.1 hrc2).1
      clear HE hcv hown hrc hgy hbe
      replace hrc2 := Lib.hid hrc2
      generalize hQ : (⟨(M.enc l).toArray⟩ : ByteArray) = q at *
      clear hQ
      by_cases hq : q = f
      · go_wp2
        refine bodyPost_ret (results_cell31 rfl _ W.heap.size _ _ _ rfl (cells2 hrc2.out _ _)) rfl ⟨?_, ?_⟩
        · unfold gres
          rw [hds.out, if_pos hq]
        · exact Below.setCell (B := W.heap.size) (Below.setCell (B := W.heap.size) hbe2.out (p := ⟨W.heap.size, 0, none⟩) (Nat.le_refl _) _) (p := ⟨W.heap.size, 1, none⟩) (Nat.le_refl _) _
      · have hql : (q.toList == f.toList) = false := by rw [beq_bytes]; exact decide_eq_false hq
        go_wp2
        refine bodyPost_ret (results_cell31 rfl _ W.heap.size _ _ _ rfl (cells2 hrc2.out _ _)) rfl ⟨?_, ?_⟩
        · unfold gres
          rw [hds.out, if_neg hq]
        · exact Below.setCell (B := W.heap.size) (Below.setCell (B := W.heap.size) hbe2.out (p := ⟨W.heap.size, 0, none⟩) (Nat.le_refl _) _) (p := ⟨W.heap.size, 1, none⟩) (Nat.le_refl _) _
    | succ k =>
      have hlt : (i : Int) < n := by omega
      have hm : (M.rdN f.data.toList i M.start 0).2.2 ≤ 80000000 := by omega
      have HS := Lib.hid (M.rdN_succ f.data.toList i M.start 0)
      generalize M.rdN f.data.toList i M.start 0 = T at *
      have hlu : T.1.length + 1 ≤ 1000000000 := by omega
      replace hll := Lib.hid hll
      go_upto_block 2 with fail
      refine wp_block ?_
      go_loopg [8, 9] 8 (fun k s8 s9 wi => ∃ j, j + k = 8 ∧ s8 = .int .i64 ((M.rdc f.data.toList j 1 T.2.1 T.2.2).1 : Int) ∧ s9 = .int .i64 (j : Int) ∧ Hid (DR W g W.heap.size f T.1 (M.rdc f.data.toList j 1 T.2.1 T.2.2).2.2 (M.rdc f.data.toList j 1 T.2.1 T.2.2).2.1 u6 wi))
      case atStart => exact ⟨0, rfl, rfl, rfl, HR⟩
      case round =>
        obtain ⟨j, hjk, rfl, rfl, HI⟩ := hrel
        clear HR
        obtain ⟨b1, b2, b3, b4⟩ := M.rdc_bd f.data.toList T.2.1 T.2.2 q1 j
        cases gk with
        | zero =>
          obtain rfl : j = 8 := by omega
          have hneg : ¬ ((8 : Nat) : Int) < 8 := by omega
          have hu : IntKind.u8.wrap ((M.rdc f.data.toList 8 1 T.2.1 T.2.2).1 : Int) = ((UInt8.ofNat (M.rdc f.data.toList 8 1 T.2.1 T.2.2).1).toNat : Int) := by
            rw [M.ofNat_val, IntKind.wrap_u8]
          have hown := HI.out.own
          have hsz := HI.out.below.size
          obtain ⟨so, sc, hv⟩ := own_mem hown
          subst hv
          have ho2 := hown.alloc
          clear b1 b2 b3 b4
          generalize M.rdc f.data.toList 8 1 T.2.1 T.2.2 = R at *
          go_wp2_with (at_builtin; refine wp_appR _ rfl _ _ rfl rfl W.heap.size _ T.1.length (bvals T.1) rfl (ho2 _) wr.heap.size _ 1 _ rfl (World.ownsRow_lit (e := 5) (size := 1) (base := wr.heap.size) wr _ 1 (Nat.le_refl _) (by unfold maxLen; omega) rfl) ?_ hlu ?_ ?_)
          · rfl
          · omega
          · intro v2 W2 ho3 hgr3 _
            rw [show ((R.1 : Int) % 256) = ((UInt8.ofNat R.1).toNat : Int) from (M.ofNat_val _).symm] at ho3
            have hP := Lib.hid (HI.out.push ho3 hgr3)
            clear ho3 hgr3 ho2 hown HI hu
            go_wp2
            go_roundg k
            case measure => omega
            case rel =>
              refine ⟨i + 1, by omega, by rw [Int.natCast_add]; rfl, ?_⟩
              rw [HS.out]
              exact hP
        | succ kk =>
          have hpos : (j : Int) < 8 := by omega
          have hp : 2 ^ (j + 1) ≤ 2 ^ 8 := Nat.pow_le_pow_right (by decide) (by omega)
          have hc256 : (M.rdc f.data.toList j 1 T.2.1 T.2.2).1 < 256 := by omega
          have HB := Lib.hid (HI.out.bit _ hc256 (by omega) hf)
          have hst := Lib.hid (M.rdc_succ f.data.toList j 1 T.2.1 T.2.2)
          have hb01 := M.rb_01 (M.rdc f.data.toList j 1 T.2.1 T.2.2).2.1 (M.rdc f.data.toList j 1 T.2.1 T.2.2).1 (M.val f.data.toList (M.rdc f.data.toList j 1 T.2.1 T.2.2).2.2)
          clear b1 b2 b3 b4 hp
          generalize M.rdc f.data.toList j 1 T.2.1 T.2.2 = R at *
          generalize hbt : M.rb R.2.1 R.1 (M.val f.data.toList R.2.2) = bt at *
          go_wp2_with fail
          refine HB.out.mono ?_
          rintro e y ⟨rfl, hy⟩
          replace hy := Lib.hid hy
          clear HB HI
          go_wp2
          go_roundg kk
          case measure => omega
          case rel =>
            refine ⟨j + 1, by omega, ?_, by rw [Int.natCast_add]; rfl, ?_⟩
            · rw [hst.out]
              show _ = Value.int .i64 ((2 * R.1 + (M.rb R.2.1 R.1 (M.val f.data.toList R.2.2)).toNat : Nat) : Int)
              rw [hbt]
              congr 1
              omega
            · rw [hst.out]
              unfold M.stp
              rw [hbt]
              exact hy
end Go.Proofs.Ytdepfgeomceiiaa
