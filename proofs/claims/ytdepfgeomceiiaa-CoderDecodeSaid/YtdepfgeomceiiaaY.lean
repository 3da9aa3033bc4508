/- Walk of Decode. -/
import Derived.Test.YtdepfgeomceiiaaW
set_option linter.unusedVariables false
namespace Go.Proofs.Ytdepfgeomceiiaa
open Go.RowKit
theorem RS.below {g f m s w w' N} (h : RS g f m s w) (k : Below N w w') (hg : g < N) : RS g f m s w' := by
  obtain ⟨n, h0, x1⟩ := h.ex
  refine ⟨h.ok, n, h0, ?_⟩
  have := k.block g hg
  unfold Blk at x1 ⊢; rw [this]; exact x1
theorem di_cb {g rb bb : Nat} {f : ByteArray} {m : Nat} {s : M.St} {w1 : World} (hs : M.Ok s) (hm : m ≤ 80000000) (hf : f.size ≤ 1000000000000000) :
    CbE 32 #[.pointer (some ⟨rb, 0, none⟩), .pointer (some ⟨bb, 0, none⟩)] (fun k => ((M.rdc f.data.toList k 1 s m).1 : Int)) (fun k => M.rb (M.rdc f.data.toList k 1 s m).2.1 (M.rdc f.data.toList k 1 s m).1 (M.val f.data.toList (M.rdc f.data.toList k 1 s m).2.2))
      (fun k w => k ≤ 8 ∧ DI g rb bb f (M.acc (M.rdc f.data.toList k 1 s m).1 k) (M.rdc f.data.toList k 1 s m).2.2 (M.rdc f.data.toList k 1 s m).2.1 w1 w) where
  enters := enters_fn Try.func32 (by kernel_rfl) rfl
  start := rfl
  next := fun k hk => by
    rw [M.rdc_succ]
    show ((2 * (M.rdc f.data.toList k 1 s m).1 + (M.rb _ _ _).toNat : Nat) : Int) = _
    have := M.rb_01 (M.rdc f.data.toList k 1 s m).2.1 (M.rdc f.data.toList k 1 s m).1 (M.val f.data.toList (M.rdc f.data.toList k 1 s m).2.2)
    omega
  bit := fun k hk => M.rb_01 _ _ _
  call := fun k w hk h => by
    obtain ⟨b1, b2, b3, b4⟩ := M.rdc_bd f.data.toList s m hs k
    refine (cb32 w k hk b1 b2 h.2 (by omega) hf).mono ?_
    rintro e w' ⟨rfl, hd⟩
    refine ⟨rfl, by omega, ?_⟩
    rw [M.rdc_succ]
    exact hd
/-- Decode's result: the text, the error. -/
def dres (f : ByteArray) (n : Nat) : ByteArray × Int := if (⟨(M.enc (M.dec f.data.toList n)).toArray⟩ : ByteArray) = f then (⟨(M.dec f.data.toList n).toArray⟩, 0) else (⟨#[]⟩, 11)
/-- During Decode, ahead of a byte. -/
structure DL (w0 : World) (g rb ob : Nat) (f : ByteArray) (l : List UInt8) (m : Nat) (s : M.St) (w : World) : Prop where
  rs : RS g f m s w
  hrb : w.heap[rb]? = some (.cells #[.pointer (some ⟨g, 0, none⟩)] 47 (0, 0))
  hb : HB ob l w
  below : Below w0.heap.size w0 w
  g1 : w0.heap.size ≤ g
  g2 : g < ob
  r2 : rb < ob
theorem HB.lt {b l w} (h : HB b l w) : b < w.heap.size := by
  obtain ⟨p, v, h1, _⟩ := h.ex
  exact (Array.getElem?_eq_some_iff.1 h1).1
theorem HB.chg {b l w w' g} (h : HB b l w) (k : Chg g none w w') (hg : b ≠ g) (hr : ∀ c fr, w.heap[g]? ≠ some (.cells c 5 fr)) : HB b l w' := by
  obtain ⟨p, v, h1, h2, h3, h4⟩ := h.ex
  have hl : b < w.heap.size := (Array.getElem?_eq_some_iff.1 h1).1
  refine ⟨p, v, by rw [k.block b hl hg (by simp)]; exact h1, h2, ?_, h4⟩
  obtain ⟨y1, y2⟩ := h3
  refine ⟨y1, y2.imp id ?_⟩
  rintro ⟨j, cap, cur, e1, e2, e3, e4⟩
  refine ⟨j, cap, cur, e1, e2, ?_, e4⟩
  rw [k.block j (Array.getElem?_eq_some_iff.1 e3).1 (fun e => hr cur _ (e ▸ e3)) (by simp)]; exact e3
theorem DL.di {w0 g rb ob f l m s w} (h : DL w0 g rb ob f l m s w) : DI g rb w.heap.size f (M.acc 1 0) m s w (w.alloc (.cells #[.int .u8 0] 5)) :=
  ⟨h.rs.grow (Grow.alloc _ _), (Grow.alloc _ _).block h.hrb, heap_alloc_new _ _, Chg.of_grow (Grow.alloc _ _), Nat.le_refl _⟩
theorem DL.dl {w0 g rb ob f l m s w bb a m' s' w'} (h : DL w0 g rb ob f l m s w) (k : DI g rb bb f a m' s' w w') : DL w0 g rb ob f l m' s' w' := by
  refine ⟨k.rs, k.hrb, ?_, h.below.trans (k.chg.below h.g1 (by simp) h.below.size), h.g1, h.g2, h.r2⟩
  refine h.hb.chg k.chg (by have := h.g2; omega) ?_
  intro c fr e
  obtain ⟨_, _, hx⟩ := h.rs.ex
  unfold Blk at hx
  rw [hx] at e
  injection e with e
  injection e with _ e _
  exact absurd e (by decide)
theorem DL.wb {w0 g rb ob f l m s w l' w'} (h : DL w0 g rb ob f l m s w) (k : HB ob l' w') (hb : Below ob w w') : DL w0 g rb ob f l' m s w' :=
  ⟨h.rs.below hb h.g2, by rw [hb.block rb h.r2]; exact h.hrb, k, h.below.trans (hb.mono (by have := h.g1; have := h.g2; omega)), h.g1, h.g2, h.r2⟩
theorem Try.zero76 (w : World) : (zeroValue 76).run Try.prog w = .ok (.agg #[.pointer none, .slice none 0 0]) w := by kernel_rfl
theorem beq_bytes (a b : ByteArray) : (a.toList == b.toList) = decide (a = b) := by
  by_cases h : a = b
  · subst h; simp
  · simp only [h, decide_false]
    have : a.toList ≠ b.toList := by
      intro e
      rw [ByteArray.toList_eq, ByteArray.toList_eq] at e
      exact h (ByteArray.ext (Array.toList_inj.mp e))
    simpa using this
set_option maxRecDepth 100000 in
set_option maxHeartbeats 2000000 in
theorem decode_any (f : ByteArray) (n : Nat) (hn : n ≤ 65536) (hf : f.size ≤ 1000000000000000) (w : World) :
    Calls Try.prog 17 #[.string f, .int .i64 (n : Int)] w fun e w' => e = .returned (.tuple #[.string (dres f n).1, .int .i64 (dres f n).2]) ∧ Grow w w' := by
  have HN := Lib.hid (newReader_rs f w)
  have n1 : ¬ (n : Int) < 0 := by omega
  have n2 : ¬ (n : Int) > 65536 := by omega
  go_enter Try.func17, Try.ntmps17
  go_wp2_with fail
  refine HN.out.mono ?_
  rintro e x ⟨rfl, hr, hg⟩
  have hx := hr.lt
  replace hr := Lib.hid hr
  replace hg := Lib.hid hg
  clear HN
  go_upto_block 1 with fail
  obtain ⟨gr, hgr⟩ : ∃ gr, gr = w.heap.size := ⟨_, rfl⟩
  obtain ⟨rb, hrb⟩ : ∃ rb, rb = x.heap.size := ⟨_, rfl⟩
  have hD : Hid (DL w gr rb (rb + 1) f (M.rdN f.data.toList 0 M.start 0).1 (M.rdN f.data.toList 0 M.start 0).2.2 (M.rdN f.data.toList 0 M.start 0).2.1 ((x.alloc (.cells #[.pointer (some ⟨gr, 0, none⟩)] 47)).alloc (.cells #[.pointer none, .slice none 0 0] 76))) := by
    have z1 : (x.alloc (.cells #[.pointer (some ⟨gr, 0, none⟩)] 47)).heap[rb]? = some (.cells #[.pointer (some ⟨gr, 0, none⟩)] 47 (0, 0)) := by rw [hrb]; exact heap_alloc_new _ _
    have z2 : ((x.alloc (.cells #[.pointer (some ⟨gr, 0, none⟩)] 47)).alloc (.cells #[.pointer none, .slice none 0 0] 76)).heap[rb + 1]? = some (.cells #[.pointer none, .slice none 0 0] 76 (0, 0)) := by
      have := heap_alloc_new (x.alloc (.cells #[.pointer (some ⟨gr, 0, none⟩)] 47)) (.cells #[.pointer none, .slice none 0 0] 76)
      rw [hrb]; simpa using this
    refine Lib.hid ⟨?_, (Grow.alloc _ _).block z1, ⟨_, _, z2, .inl rfl, ⟨rfl, .inl ⟨rfl, rfl⟩⟩, fun _ => rfl⟩, ?_, by omega, by omega, by omega⟩
    · rw [hgr]; exact (hr.out.grow (Grow.alloc _ _)).grow (Grow.alloc _ _)
    · refine hg.out.trans (Below.mono (show Below x.heap.size _ _ from ?_) (by omega))
      exact (Grow.alloc x _).trans (Below.mono (Grow.alloc _ _) (by simp))
  rw [← hrb, ← hgr]
  replace hgr := Lib.hid hgr
  replace hrb := Lib.hid hrb
  generalize hW : (x.alloc (.cells #[.pointer (some ⟨gr, 0, none⟩)] 47)).alloc (.cells #[.pointer none, .slice none 0 0] 76) = W at hD ⊢
  clear hr hg hx hW
  go_loopg [18] n (fun k s18 wr => ∃ i, i + k = n ∧ s18 = .int .i64 (i : Int) ∧ Hid (DL w gr rb (rb + 1) f (M.rdN f.data.toList i M.start 0).1 (M.rdN f.data.toList i M.start 0).2.2 (M.rdN f.data.toList i M.start 0).2.1 wr))
  case atStart => exact ⟨0, by omega, rfl, hD⟩
  case round =>
    obtain ⟨i, hik, rfl, HR⟩ := hrel
    clear hD
    have hws := HR.out.hb.lt
    obtain ⟨q1, q2⟩ := M.rdN_bd f.data.toList i
    cases gk with
    | zero =>
      obtain rfl : i = n := by omega
      have hlt : ¬ (i : Int) < i := by omega
      have hll := M.rdN_len f.data.toList i M.start 0
      have hL : (M.rdN f.data.toList i M.start 0).1 = M.dec f.data.toList i := rfl
      rw [hL] at hll HR
      have HB := Lib.hid (bstring (rb + 1) (M.dec f.data.toList i) wr HR.out.hb.hf)
      have hbe := Lib.hid HR.out.below
      have hg1 := HR.out.g1
      have hg2 := HR.out.g2
      clear HR q1 q2 hL
      have hds : dres f i = if (⟨(M.enc (M.dec f.data.toList i)).toArray⟩ : ByteArray) = f then (⟨(M.dec f.data.toList i).toArray⟩, 0) else (⟨#[]⟩, 11) := rfl
      replace hds := Lib.hid hds
      generalize M.dec f.data.toList i = l at *
      have hls : (⟨l.toArray⟩ : ByteArray).size ≤ 2500000 := by show l.toArray.size ≤ _; simp; omega
      go_wp2_with fail
      refine HB.out.mono ?_
      rintro e y ⟨rfl, hF, hy⟩
      have HE := Lib.hid (encode_any ⟨l.toArray⟩ y hls)
      replace hF := Lib.hid hF
      replace hy := Lib.hid hy
      clear HB
      go_wp2_with fail
      refine HE.out.mono ?_
      rintro e z ⟨rfl, hz⟩
      have HB3 := Lib.hid (bstring (rb + 1) l z (hF.out.grow hz))
      have hbz := Lib.hid (hbe.out.trans ((hy.out.mono (by omega)).trans (Below.mono (show Below y.heap.size y z from hz) (Nat.le_trans hbe.out.size hy.out.size))))
      clear HE hF hy hz hbe
      generalize hQ : (⟨(M.enc l).toArray⟩ : ByteArray) = q at *
      clear hQ
      by_cases hq : q = f
      · go_wp2_with fail
        refine HB3.out.mono ?_
        rintro e u ⟨rfl, _, hu⟩
        replace hu := Lib.hid hu
        go_wp2
        go_ret2
        exact ⟨by rw [hds.out, if_pos hq]; rfl, hbz.out.trans (hu.out.mono (by omega))⟩
      · have hql : (q.toList == f.toList) = false := by rw [beq_bytes]; exact decide_eq_false hq
        go_wp2
        go_ret2
        exact ⟨by rw [hds.out, if_neg hq]; rfl, hbz.out⟩
    | succ k =>
      have hlt : i < n := by omega
      have hm : (M.rdN f.data.toList i M.start 0).2.2 ≤ 80000000 := by omega
      have HE := Lib.hid (each_any 32 _ _ _ _ (Lib.hid (di_cb (g := gr) (rb := rb) (bb := wr.heap.size) (f := f) (w1 := wr) q1 hm hf)) _ ⟨by omega, HR.out.di⟩)
      obtain ⟨b1, b2, b3, b4⟩ := M.rdc_bd f.data.toList _ (M.rdN f.data.toList i M.start 0).2.2 q1 8
      have ha := M.acc_end _ b1 b2
      have HS := Lib.hid (M.rdN_succ f.data.toList i M.start 0)
      have hll := Lib.hid (M.rdN_len f.data.toList i M.start 0)
      generalize M.rdN f.data.toList i M.start 0 = T at *
      clear b1 b2 b3 b4 q1 q2 hm
      go_wp2_with fail
      refine HE.out.mono ?_
      rintro e y ⟨rfl, _, hI⟩
      have hD2 := Lib.hid (HR.out.dl hI)
      have d2 : y.cell? ⟨wr.heap.size, 0, none⟩ = some (.int .u8 (((UInt8.ofNat (M.rdc f.data.toList 8 1 T.2.1 T.2.2).1).toNat : Nat) : Int)) := by rw [← ha, cell_of_row y _ 0 _ _ _ hI.hbb]; rfl
      have HB2 := Lib.hid (wbyte (rb + 1) _ (UInt8.ofNat (M.rdc f.data.toList 8 1 T.2.1 T.2.2).1) y hD2.out.hb (by rw [hll.out]; omega))
      clear hI HE HR ha
      go_wp2_with fail
      refine HB2.out.mono ?_
      rintro e z ⟨rfl, h1, h2⟩
      have hD3 := Lib.hid (hD2.out.wb h1 h2)
      clear h1 h2 hD2 HB2 d2
      go_wp2
      go_roundg k
      case measure => omega
      case rel =>
        refine ⟨i + 1, by omega, by rw [Int.natCast_add]; rfl, ?_⟩
        rw [HS.out]
        exact hD3
end Go.Proofs.Ytdepfgeomceiiaa
