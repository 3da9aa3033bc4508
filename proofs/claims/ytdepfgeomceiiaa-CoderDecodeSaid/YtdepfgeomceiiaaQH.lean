/- Walk of the reference's NewReader. -/
import Derived.Test.YtdepfgeomceiiaaQG
set_option linter.unusedVariables false
namespace Go.Proofs.Ytdepfgeomceiiaa
open Go.RowKit
theorem Try.zero58 (w : World) : (zeroValue 58).run Try.prog w = .ok (.agg (cv 261 (cr (fun _ => 0) 0 0 (RX ⟨#[]⟩ 0)))) w := by kernel_rfl
set_option maxRecDepth 100000 in
set_option maxHeartbeats 1000000 in
theorem rnewReader (f : ByteArray) (w : World) (hf : f.size ≤ 1000000000000000) : Calls Try.prog 26 #[.string f] w fun e w' => ∃ g, w.heap.size ≤ g ∧ e = .returned (.pointer (some ⟨g, 0, none⟩)) ∧ Blk w' g 58 261 (cr M.start.p M.start.lo M.start.hi (RX f 4)) ∧ Grow w w' := by
  have HB := Lib.hid (begin_any w)
  have hz := Try.zero58
  have hs1 : ¬ (cv 261 (cr (fun _ => 0) 0 0 (RX ⟨#[]⟩ 0))).size < 258 := by rw [cv_size]; omega
  have hs2 : (cv 258 (cr M.start.p M.start.lo M.start.hi (fun _ => undef))).size = 258 := cv_size _ _
  have hf0 := fold_cv 261 258 (by omega) (cr M.start.p M.start.lo M.start.hi (fun _ => undef)) (cr (fun _ => 0) 0 0 (RX ⟨#[]⟩ 0))
  have hset := cv_set 261 (fun i => if i < 258 then cr M.start.p M.start.lo M.start.hi (fun _ => undef) i else cr (fun _ => 0) 0 0 (RX ⟨#[]⟩ 0) i) 258 (.string f)
  rw [← hf0] at hset
  have hs3 : ¬ (Array.foldl (fun cs x => cs.setIfInBounds x.snd x.fst) (cv 261 (cr (fun _ => 0) 0 0 (RX ⟨#[]⟩ 0))) (cv 258 (cr M.start.p M.start.lo M.start.hi (fun _ => undef))).zipIdx 0 258).size < 259 := by rw [hf0, cv_size]; omega
  generalize hA : cv 258 (cr M.start.p M.start.lo M.start.hi (fun _ => undef)) = A at *
  generalize hZ : cv 261 (cr (fun _ => 0) 0 0 (RX ⟨#[]⟩ 0)) = Z at *
  clear hA hZ hf0
  replace hset := Lib.hid hset
  go_enter Try.func26, Try.ntmps26
  go_wp2_with fail
  refine HB.out.mono ?_
  rintro e x ⟨rfl, hg⟩
  replace hg := Lib.hid hg
  clear HB
  go_upto_block 1 with fail
  have hW : Hid (Grow w (x.alloc (.cells ((Array.foldl (fun cs x => cs.setIfInBounds x.snd x.fst) Z A.zipIdx 0 258).setIfInBounds 258 (.string f)) 58)) ∧ Blk (x.alloc (.cells ((Array.foldl (fun cs x => cs.setIfInBounds x.snd x.fst) Z A.zipIdx 0 258).setIfInBounds 258 (.string f)) 58)) x.heap.size 58 261 (cr M.start.p M.start.lo M.start.hi (RX f 0))) := by
    rw [hset.out]
    refine Lib.hid ⟨hg.out.trans (Grow.alloc _ _), Blk.congr (heap_alloc_new _ _) fun i hi => ?_⟩
    unfold vput
    by_cases h0 : i = 258
    · rw [if_pos h0, cr_x i (by omega), h0]; rfl
    · rw [if_neg h0]
      dsimp only
      by_cases h : i < 258
      · rw [if_pos h]
        unfold cr
        by_cases h1 : i < 256
        · rw [if_pos h1, if_pos h1]
        · by_cases h2 : i = 256
          · rw [if_neg h1, if_pos h2, if_neg h1, if_pos h2]
          · rw [if_neg h1, if_neg h2, if_pos (by omega), if_neg h1, if_neg h2, if_pos (by omega)]
      · rw [if_neg h, cr_x i (by omega), cr_x i (by omega)]
        unfold RX
        rw [if_neg h0, if_neg h0]
        rfl
  have hxw := Below.size hg.out
  generalize x.alloc (.cells ((Array.foldl (fun cs x => cs.setIfInBounds x.snd x.fst) Z A.zipIdx 0 258).setIfInBounds 258 (.string f)) 58) = W0 at *
  clear hset hg hs1 hs2 hs3
  go_loopg [4] 4 (fun k s4 wr => ∃ i, i + k = 4 ∧ s4 = .int .i64 (i : Int) ∧ Hid (Grow w wr ∧ Blk wr x.heap.size 58 261 (cr M.start.p M.start.lo M.start.hi (RX f i))))
  case atStart => exact ⟨0, rfl, rfl, hW⟩
  case round =>
    obtain ⟨i, hik, rfl, HR⟩ := hrel
    clear hW
    cases gk with
    | zero =>
      obtain rfl : i = 4 := by omega
      go_wp2
      go_ret
      exact ⟨x.heap.size, hxw, rfl, HR.out.2, HR.out.1⟩
    | succ k =>
      have hlt : (i : Int) < 4 := by omega
      have HX := Lib.hid (rnext39 x.heap.size f i _ _ _ wr HR.out.2 (by omega) hf)
      go_wp2_with fail
      refine HX.out.mono ?_
      rintro e y ⟨rfl, h1, h2⟩
      have hN : Hid (Grow w y ∧ Blk y x.heap.size 58 261 (cr M.start.p M.start.lo M.start.hi (RX f (i + 1)))) := Lib.hid ⟨Below.trans (B := w.heap.size) HR.out.1 (h2.below hxw (by simp) (Below.size HR.out.1)), h1⟩
      clear h1 h2 HX HR
      go_wp2
      go_roundg k
      case measure => omega
      case rel => exact ⟨i + 1, by omega, by rw [Int.natCast_add]; rfl, hN⟩
end Go.Proofs.Ytdepfgeomceiiaa
