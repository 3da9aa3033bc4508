/- Walk of the reference's Encode. -/
import Derived.Test.YtdepfgeomceiiaaLY
import Derived.Test.YtdepfgeomceiiaaU
set_option linter.unusedVariables false
namespace Go.Proofs.Ytdepfgeomceiiaa
open Go.RowKit
/-- The reference's writer since W. -/
structure ER (W : World) (g : Nat) (s : M.St) (l : List UInt8) (w : World) : Prop where
  rw : ∃ ro, RW W.heap.size g ro s l w
  below : Below W.heap.size W w
theorem ER.bit {W g s l w} (h : ER W g s l w) (c b : Int) (hl : l.length + 4 ≤ 100000000) :
    Calls Try.prog 22 #[.pointer (some ⟨g, 0, none⟩), .int .i64 c, .int .i64 b] w fun e w' => e = .returned (.tuple #[]) ∧ ER W g (M.nxt s (cx c) (b % 2)) (l ++ M.outB s (cx c) (b % 2)) w' := by
  obtain ⟨ro, k⟩ := h.rw
  refine (rbit_rw k c b hl).mono ?_
  rintro e w' ⟨rfl, ro', k1, k2, k3⟩
  exact ⟨rfl, ⟨ro', k1⟩, h.below.trans (k.below k3)⟩
set_option maxRecDepth 100000 in
set_option maxHeartbeats 2000000 in
theorem rencode_any (f : ByteArray) (W : World) (hf : f.size ≤ 2500000) :
    Calls Try.prog 16 #[.string f] W fun e w' => e = .returned (.string ⟨(M.enc f.data.toList).toArray⟩) ∧ Grow W w' := by
  have HN := Lib.hid (rnewWriter_rw W)
  go_enter Try.func16, Try.ntmps16
  go_wp2_with fail
  refine HN.out.mono ?_
  rintro e x ⟨g, rfl, hw, hg⟩
  have hE : Hid (ER W g (M.runS M.start (M.encBits (f.data.toList.take 0))) (M.runO M.start (M.encBits (f.data.toList.take 0))) x) := Lib.hid ⟨⟨_, hw⟩, hg⟩
  clear HN hw hg
  go_upto_block 1 with fail
  go_loopg [4] f.size (fun k s4 wr => ∃ i, i + k = f.size ∧ s4 = .int .i64 (i : Int) ∧ Hid (ER W g (M.runS M.start (M.encBits (f.data.toList.take i))) (M.runO M.start (M.encBits (f.data.toList.take i))) wr))
  case atStart => exact ⟨0, by omega, rfl, hE⟩
  case round =>
    obtain ⟨i, hik, rfl, HR⟩ := hrel
    clear hE
    have hlen := M.runO_len (M.encBits (f.data.toList.take i)) M.start
    rw [M.encBits_len] at hlen
    have htl : (f.data.toList.take i).length ≤ i := by rw [List.length_take]; omega
    cases gk with
    | zero =>
      obtain rfl : i = f.size := by omega
      have htk : f.data.toList.take f.size = f.data.toList := List.take_of_length_le (by simp [← ByteArray.size_data])
      obtain ⟨ro, k⟩ := HR.out.rw
      have HB := Lib.hid (rbytes_rw k (by omega))
      have hbe := Lib.hid HR.out.below
      rw [htk] at HB
      clear htk hlen htl HR k
      go_wp2_with fail
      refine HB.out.mono ?_
      rintro e y ⟨rfl, g2⟩
      go_wp2
      go_ret
      exact ⟨rfl, below_grow hbe.out hbe.out.size g2⟩
    | succ k =>
      have hlt : i < f.size := by omega
      have hlt2 : (i : Int) < f.size := by omega
      have hts := take_succ_enc f i hlt
      generalize hSo : M.runS M.start (M.encBits (f.data.toList.take i)) = S at *
      generalize hLo : M.runO M.start (M.encBits (f.data.toList.take i)) = L at *
      go_upto_block 2 with fail
      have hx := f[i].toNat_lt
      have hb31 := cb31_bit f[i]
      have hcn := ctx_next f[i].toNat
      have hcx := fun k => ctx_cx f[i].toNat k hx
      have hbt := M.bitAt_bit f[i].toNat
      replace hts := Lib.hid hts
      replace hb31 := Lib.hid hb31
      replace hcn := Lib.hid hcn
      replace hcx := Lib.hid hcx
      replace hbt := Lib.hid hbt
      replace hLo := Lib.hid hLo
      replace hSo := Lib.hid hSo
      refine wp_block ?_
      go_loopg [5, 6] 8 (fun k s5 s6 wi => ∃ j, j + k = 8 ∧ s5 = .int .i64 (((256 + f[i].toNat) / 2 ^ (8 - j) : Nat) : Int) ∧ s6 = .int .i64 (7 - (j : Int)) ∧ Hid (ER W g (M.runS S (bts f[i] j)) (L ++ M.runO S (bts f[i] j)) wi))
      case atStart =>
        refine ⟨0, rfl, ?_, rfl, by simpa [bts, M.runS, M.runO] using HR⟩
        rw [show (256 + f[i].toNat) / 2 ^ (8 - 0) = 1 by omega]; rfl
      case round =>
        obtain ⟨j, hjk, rfl, rfl, HI⟩ := hrel
        clear HR
        cases gk with
        | zero =>
          obtain rfl : j = 8 := by omega
          have hneg : ¬ 7 - ((8 : Nat) : Int) ≥ 0 := by omega
          go_wp2
          go_roundg k
          case measure => omega
          case rel =>
            refine ⟨i + 1, by omega, by rw [Int.natCast_add]; rfl, ?_⟩
            rw [hts.out, M.runS_append, M.runO_append, hSo.out, hLo.out]
            exact HI
        | succ kk =>
          have hpos : 7 - (j : Int) ≥ 0 := by omega
          have hj8 : (j : Int) ≤ 7 := by omega
          obtain ⟨C, hC⟩ : ∃ C : Nat, C = (256 + f[i].toNat) / 2 ^ (8 - j) := ⟨_, rfl⟩
          have h1 := hcn.out j (by omega)
          have h2 := hcx.out j (by omega)
          have h3 := hbt.out j
          have hb := hb31.out j (by omega)
          have hbo := M.runO_len (bts f[i] j) S
          have hbl : (bts f[i] j).length = j := by simp [bts]
          have hC1 : C ≤ 511 := by rw [hC]; exact Nat.le_trans (Nat.div_le_self _ _) (by omega)
          rw [← hC] at h1 h2 ⊢
          have HB := Lib.hid (HI.out.bit (C : Int) (M.bitAt f[i].toNat j).2 (by rw [List.length_append]; omega))
          rw [h2, show (M.bitAt f[i].toNat j).2 % 2 = (M.bitAt f[i].toNat j).2 by omega] at HB
          have hbe : bits .and .i64 ((f[i].toNat : Int) / 2 ^ (7 - j)) 1 = (M.bitAt f[i].toNat j).2 := by rw [and_1, hb]
          have hsu := Lib.hid (bts_succ f[i] j)
          generalize hbt2 : (M.bitAt f[i].toNat j).2 = bt at *
          replace h1 := Lib.hid h1
          replace hC := Lib.hid hC
          clear hb h2 hbo hbl
          go_wp2_with fail
          refine HB.out.mono ?_
          rintro e y ⟨rfl, hy⟩
          replace hy := Lib.hid hy
          go_wp2
          go_roundg kk
          case measure => omega
          case rel =>
            refine ⟨j + 1, by omega, by rw [h1.out], by rw [Int.natCast_add]; congr 1; omega, ?_⟩
            rw [hsu.out, M.runS_append, M.runO_append, ← List.append_assoc]
            have h5 := hy.out
            rw [← hbt2] at h5
            refine Lib.hid ?_
            simpa [M.runS, M.runO] using h5
end Go.Proofs.Ytdepfgeomceiiaa
