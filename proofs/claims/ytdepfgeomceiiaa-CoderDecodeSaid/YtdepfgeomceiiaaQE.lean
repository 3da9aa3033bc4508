/- Walk of the reference's Bytes. -/
import Derived.Test.YtdepfgeomceiiaaQD
set_option linter.unusedVariables false
namespace Go.Proofs.Ytdepfgeomceiiaa
open Go.RowKit
theorem bvals_one (l : List UInt8) : ∀ u ∈ bvals l, u.oneCell' = true := by
  intro u hu
  unfold bvals at hu
  obtain ⟨b, _, rfl⟩ := List.mem_map.1 hu
  rfl
set_option maxRecDepth 100000 in
set_option maxHeartbeats 1000000 in
theorem rbytes_rw {B g ro s l w} (h : RW B g ro s l w) (hl : l.length ≤ 100000000) :
    Calls Try.prog 24 #[.pointer (some ⟨g, 0, none⟩)] w fun e w' => e = .returned (.string ⟨(l ++ M.be4 s.lo).toArray⟩) ∧ Grow w w' := by
  obtain ⟨X, x1, x2, x3⟩ := h.ex
  have h0 := h.ok.lo
  have h1 : s.lo ≤ 4294967295 := by have := h.ok.le; have := h.ok.hi; omega
  have c6 : w.cell? ⟨g, 256, none⟩ = some (.int .u32 s.lo) := by rw [x1.cell 256 (by omega), cr_lo]
  obtain ⟨so, sc, hv⟩ := own_mem x2
  have c8 : w.cell? ⟨g, 258, none⟩ = some (.slice so l.length sc) := by rw [x1.cell 258 (by omega), cr_x 258 (by omega), hv]
  have hgw := x1.lt
  rw [hv] at x2
  have x4 := own_grow x2 (Grow.alloc w (.cells #[] 5))
  have o0 : (w.alloc (.cells #[] 5)).ownsRow w.heap.size 5 1 (.slice (some ⟨w.heap.size, 0, none⟩) 0 0) 0 [] := by
    have := World.ownsRow_lit (e := 5) (size := 1) (base := w.heap.size) w #[] 0 (Nat.le_refl _) (by unfold maxLen; omega) rfl
    simpa using this
  replace x4 := Lib.hid x4
  have hbv := bvals_length l
  clear x1 x2 h
  generalize s.lo = lo at *
  go_enter Try.func24, Try.ntmps24
  go_wp2_with (at_builtin; refine wp_appR _ rfl _ _ rfl rfl w.heap.size _ 0 [] rfl o0 B _ l.length (bvals l) rfl x4.out (bvals_one l) (by omega) (by simp) ?_)
  intro v1 W1 ho hgr _
  have hG1 : Below w.heap.size w W1 := ((Below.refl w.heap.size w).alloc (Nat.le_refl _) _).grown hgr (by simp) (fun k hk => by have := (o0.lt k hk).1; exact this)
  have hsz := hG1.size
  have hln : l.length + 4 ≤ 1000000000 := by omega
  replace hG1 := Lib.hid hG1
  have ho2 := ho.alloc
  replace ho := Lib.hid ho
  clear o0 x4 hgr
  obtain ⟨so1, sc1, hv1⟩ := own_mem ho.out
  subst hv1
  go_wp2_with (at_builtin; refine wp_appR _ rfl _ _ rfl rfl w.heap.size _ l.length (bvals l) rfl (ho2 _) W1.heap.size _ 4 _ rfl (World.ownsRow_lit (e := 5) (size := 1) (base := W1.heap.size) W1 _ 4 (Nat.le_refl _) (by unfold maxLen; omega) rfl) ?_ hln ?_ ?_)
  · exact ⟨rfl, rfl, rfl, rfl⟩
  · simp; omega
  · intro v2 W2 ho3 hgr3 _
    have hG2 : Below w.heap.size w W2 := (hG1.out.alloc hsz _).grown hgr3 (by simp; omega) (fun k hk => (ho.out.lt k hk).1)
    replace hG2 := Lib.hid hG2
    have hbe : bvals l ++ [.int .u8 (lo / 16777216), .int .u8 (lo / 65536 % 256), .int .u8 (lo / 256 % 256), .int .u8 (lo % 256)] = bvals (l ++ M.be4 lo) := by
      rw [bvals_append]
      congr 1
      show _ = [Value.int .u8 ((UInt8.ofNat (lo / 16777216).toNat).toNat : Int), .int .u8 ((UInt8.ofNat (lo / 65536).toNat).toNat : Int), .int .u8 ((UInt8.ofNat (lo / 256).toNat).toNat : Int), .int .u8 ((UInt8.ofNat lo.toNat).toNat : Int)]
      rw [M.ofNat_val, M.ofNat_val, M.ofNat_val, M.ofNat_val, show ((lo / 16777216).toNat : Int) % 256 = lo / 16777216 by omega, show ((lo / 65536).toNat : Int) % 256 = lo / 65536 % 256 by omega, show ((lo / 256).toNat : Int) % 256 = lo / 256 % 256 by omega, show (lo.toNat : Int) % 256 = lo % 256 by omega]
    rw [hbe] at ho3
    have hcv := conv_own (P := Try.prog) W2 33 9 5 Try.underlying33 Try.underlying5 Try.underlying9 w.heap.size _ _ _ ho3
    obtain ⟨so2, sc2, hv2⟩ := own_mem ho3
    subst hv2
    clear ho3 hgr3 ho2 ho hbe
    go_wp2
    go_ret
    exact ⟨rfl, hG2.out⟩
end Go.Proofs.Ytdepfgeomceiiaa
