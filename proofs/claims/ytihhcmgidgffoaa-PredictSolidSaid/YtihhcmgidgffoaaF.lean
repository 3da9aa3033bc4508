/- Walks of layer 10 (predict): a solid tile; the laws' common part (the chapter's examples) returns true. -/
import Derived.Test.YtihhcmgidgffoaaE
import Derived.Laws.CopyOwn
set_option linter.unusedVariables false
namespace Go.Proofs.Ytihhcmgidgffoaa
open Go.RowKit

/-- The bytes of a solid tile. -/
def fl (r g b a : UInt8) (j : Nat) : UInt8 := if j % 4 = 0 then r else if j % 4 = 1 then g else if j % 4 = 2 then b else a
def flN (r g b a : UInt8) (n j : Nat) : UInt8 := if j < n * 4 then fl r g b a j else 0
theorem flN_zero (r g b a : UInt8) : flN r g b a 0 = fun _ => 0 := by funext j; simp [flN]
theorem flN_full (r g b a : UInt8) (j : Nat) (h : j < 256) : flN r g b a 64 j = fl r g b a j := by unfold flN; rw [if_pos (by omega)]
theorem flN_put (r g b a : UInt8) (n j : Nat) : M.put (M.put (M.put (M.put (flN r g b a n) (n * 4) r) (n * 4 + 1) g) (n * 4 + 2) b) (n * 4 + 3) a j = flN r g b a (n + 1) j := by
  unfold M.put flN
  by_cases h3 : j = n * 4 + 3
  · subst h3; rw [if_pos rfl, if_pos (by omega)]; unfold fl; rw [if_neg (by omega), if_neg (by omega), if_neg (by omega)]
  rw [if_neg h3]
  by_cases h2 : j = n * 4 + 2
  · subst h2; rw [if_pos rfl, if_pos (by omega)]; unfold fl; rw [if_neg (by omega), if_neg (by omega), if_pos (by omega)]
  rw [if_neg h2]
  by_cases h1 : j = n * 4 + 1
  · subst h1; rw [if_pos rfl, if_pos (by omega)]; unfold fl; rw [if_neg (by omega), if_pos (by omega)]
  rw [if_neg h1]
  by_cases h0 : j = n * 4
  · subst h0; rw [if_pos rfl, if_pos (by omega)]; unfold fl; rw [if_pos (by omega)]
  rw [if_neg h0]
  by_cases h : j < n * 4
  · rw [if_pos h, if_pos (by omega)]
  · rw [if_neg h, if_neg (by omega)]

set_option maxRecDepth 100000 in
set_option maxHeartbeats 400000 in
theorem fill_any (r g b a : UInt8) (w : World) :
    Calls Try.prog 17 #[.agg #[.int .u8 r.toNat, .int .u8 g.toNat, .int .u8 b.toNat, .int .u8 a.toNat]] w fun e w' => e = .returned (.agg (cf 256 (fl r g b a))) ∧ Below w.heap.size w w' := by
  have hz := Try.zero36
  go_enter Try.func17, Try.ntmps17
  go_wp2_with (refine wp_store_cf ((w.alloc (.cells #[.int .u8 r.toNat, .int .u8 g.toNat, .int .u8 b.toNat, .int .u8 a.toNat] 27)).alloc (.cells (cf 256 fun _ => 0) 36)) rfl 36 _ _ rfl rfl (w.heap.size + 1 + 1) (by simp) 256 (fun _ => 0) (fun _ => 0) rfl rfl Try.size36 36 ?_)
  have h0 : ((((w.alloc (.cells #[.int .u8 r.toNat, .int .u8 g.toNat, .int .u8 b.toNat, .int .u8 a.toNat] 27)).alloc (.cells (cf 256 fun _ => 0) 36)).alloc (.cells (cf 256 fun _ => 0) 36))).heap[w.heap.size]? = some (.cells #[.int .u8 r.toNat, .int .u8 g.toNat, .int .u8 b.toNat, .int .u8 a.toNat] 27 (0, 0)) := by
    rw [Below.heap_alloc _ _ _ (by simp; omega)]; exact heap_alloc2_old _ _ _
  have h1 : Bk (w.heap.size + 1) 36 256 (fun _ => 0) ((((w.alloc (.cells #[.int .u8 r.toNat, .int .u8 g.toNat, .int .u8 b.toNat, .int .u8 a.toNat] 27)).alloc (.cells (cf 256 fun _ => 0) 36)).alloc (.cells (cf 256 fun _ => 0) 36))) :=
    Bk.alloc (heap_alloc2_new _ _ _) _
  have h2 : Bk (w.heap.size + 2) 36 256 (fun _ => 0) ((((w.alloc (.cells #[.int .u8 r.toNat, .int .u8 g.toNat, .int .u8 b.toNat, .int .u8 a.toNat] 27)).alloc (.cells (cf 256 fun _ => 0) 36)).alloc (.cells (cf 256 fun _ => 0) 36))) := by
    have := Bk.new ((w.alloc (.cells #[.int .u8 r.toNat, .int .u8 g.toNat, .int .u8 b.toNat, .int .u8 a.toNat] 27)).alloc (.cells (cf 256 fun _ => 0) 36)) 36 256 (fun _ => 0)
    rw [World.size_alloc, World.size_alloc] at this
    exact this
  have hb : Below w.heap.size w ((((w.alloc (.cells #[.int .u8 r.toNat, .int .u8 g.toNat, .int .u8 b.toNat, .int .u8 a.toNat] 27)).alloc (.cells (cf 256 fun _ => 0) 36)).alloc (.cells (cf 256 fun _ => 0) 36))) :=
    (((Below.refl _ _).alloc (Nat.le_refl _) _).alloc (by simp) _).alloc (by simp; omega) _
  generalize ((((w.alloc (.cells #[.int .u8 r.toNat, .int .u8 g.toNat, .int .u8 b.toNat, .int .u8 a.toNat] 27)).alloc (.cells (cf 256 fun _ => 0) 36)).alloc (.cells (cf 256 fun _ => 0) 36))) = W0 at *
  clear hz
  have e2 : w.heap.size + 1 + 1 = w.heap.size + 2 := rfl
  rw [e2]
  have n12 : w.heap.size + 1 ≠ w.heap.size + 2 := by omega
  have n02 : w.heap.size ≠ w.heap.size + 2 := by omega
  have l1 : w.heap.size ≤ w.heap.size + 1 := by omega
  have l2 : w.heap.size ≤ w.heap.size + 2 := by omega
  clear e2
  generalize hg1 : w.heap.size + 1 = g1 at *
  generalize hg2 : w.heap.size + 2 = g2 at *
  clear hg1 hg2
  go_loopw [4] (fun i wr => ∃ n : Nat, n ≤ 64 ∧ i = .int .i64 n ∧ Bk g2 36 256 (flN r g b a n) wr ∧ Bk g1 36 256 (fun _ => 0) wr ∧ wr.heap[w.heap.size]? = some (.cells #[.int .u8 r.toNat, .int .u8 g.toNat, .int .u8 b.toNat, .int .u8 a.toNat] 27 (0, 0)) ∧ Below w.heap.size w wr) (fun i _ => 64 - (intOf i).toNat)
  case atStart => exact ⟨0, by omega, rfl, by rw [flN_zero]; exact h2, h1, h0, hb⟩
  case round =>
    obtain ⟨n, hn, rfl, hB, hB1, hP, hbl⟩ := hrel
    by_cases hlt : n < 64
    · have c0 := hB.cell (n * 4) (by omega)
      have c1 := hB.cell (n * 4 + 1) (by omega)
      have c2 := hB.cell (n * 4 + 2) (by omega)
      have c3 := hB.cell (n * 4 + 3) (by omega)
      have f0 := hB.free (n * 4)
      have f1 := hB.free (n * 4 + 1)
      have f2 := hB.free (n * 4 + 2)
      have f3 := hB.free (n * 4 + 3)
      have p0 : wr.cell? ⟨w.heap.size, 0, none⟩ = some (.int .u8 r.toNat) := by rw [cell_of_row wr _ 0 _ _ _ hP]; rfl
      have p1 : wr.cell? ⟨w.heap.size, 1, none⟩ = some (.int .u8 g.toNat) := by rw [cell_of_row wr _ 1 _ _ _ hP]; rfl
      have p2 : wr.cell? ⟨w.heap.size, 2, none⟩ = some (.int .u8 b.toNat) := by rw [cell_of_row wr _ 2 _ _ _ hP]; rfl
      have p3 : wr.cell? ⟨w.heap.size, 3, none⟩ = some (.int .u8 a.toNat) := by rw [cell_of_row wr _ 3 _ _ _ hP]; rfl
      have HB := Lib.hid hB
      have HB1 := Lib.hid hB1
      have HP := Lib.hid hP
      clear hB hB1 hP h0 h1 h2
      go_wp2_with fail
      go_roundw
      case rel =>
        refine ⟨n + 1, by omega, by go_num, ?_, ?_, ?_, ?_⟩
        · exact ((((HB.out.set (n * 4) _).set (n * 4 + 1) _).set (n * 4 + 2) _).set (n * 4 + 3) _).congr (fun j _ => flN_put r g b a n j)
        · exact (((Bk.other HB1.out _ _ n12).other _ _ n12).other _ _ n12).other _ _ n12
        · rw [heap_setCell_other _ _ _ _ n02, heap_setCell_other _ _ _ _ n02, heap_setCell_other _ _ _ _ n02, heap_setCell_other _ _ _ _ n02]; exact HP.out
        · exact (((hbl.setCell (p := ⟨g2, n * 4, none⟩) l2 _).setCell (p := ⟨g2, n * 4 + 1, none⟩) l2 _).setCell (p := ⟨g2, n * 4 + 2, none⟩) l2 _).setCell (p := ⟨g2, n * 4 + 3, none⟩) l2 _
      case measure => simp [intOf]; omega
    · have hn64 : n = 64 := by omega
      have hB2 : Bk g2 36 256 (fl r g b a) wr := hB.congr (fun j hj => (by rw [hn64]; exact flN_full r g b a j hj))
      clear hB
      go_wp2_with (first
        | (refine wp_load_cf rfl 36 _ rfl g2 0 256 256 36 (fl r g b a) rfl _ hB2 (by omega) Try.underlying36 rfl Try.size36 ?_)
        | (refine wpList_store_row rfl 36 _ _ rfl g1 (cf 256 fun i => fl r g b a (0 + i)) rfl rfl 36 (cf 256 fun _ => 0) hB1 (by rw [cf_size]; exact Try.size36) (by rw [cf_size, cf_size]) (cf_one _ _) ?_))
      have hrow : (wr.setRow g1 (cf 256 fun i => fl r g b a (0 + i))).heap[g1]? = some (.cells (cf 256 fun i => fl r g b a (0 + i)) 36 (0, 0)) := setRow_heap _ _ _ _ _ _ hB1
      exact bodyPost_ret (v := .agg (cf 256 fun i => fl r g b a (0 + i))) (results_cell_row rfl _ _ g1 36 _ (0, 0) _ rfl hrow Try.underlying36 rfl (by rw [cf_size]; exact Try.size36)) rfl ⟨by rw [cf_congr 256 (fun i => fl r g b a (0 + i)) (fl r g b a) (fun i _ => by rw [Nat.zero_add])], below_setRow hbl l1 _⟩
end Go.Proofs.Ytihhcmgidgffoaa
