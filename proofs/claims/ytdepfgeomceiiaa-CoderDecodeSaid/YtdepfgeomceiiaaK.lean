/- Walk of the reader's fill. -/
import Derived.Test.YtdepfgeomceiiaaG
set_option linter.unusedVariables false
namespace Go.Proofs.Ytdepfgeomceiiaa
open Go.RowKit
set_option maxRecDepth 100000 in
set_option maxHeartbeats 1000000 in
theorem fill_any (g : Nat) (f : ByteArray) (n : Nat) (p : Nat → Int) (lo en : Int) (w : World) (hB : Blk w g 70 261 (cc p lo en (RX f n))) (hn : n ≤ 1000000000) (hf : f.size ≤ 1000000000000000) :
    Calls Try.prog 40 #[.pointer (some ⟨g, 0, none⟩)] w fun e w' => e = .returned (.tuple #[]) ∧ Blk w' g 70 261 (cc p lo en (RX f (n + (4 - n)))) ∧ Chg g none w w' := by
  go_enter Try.func40, Try.ntmps40
  go_upto_block 0 with fail
  go_wp2_with fail
  go_loopg [] (4 - n) (fun k wr => ∃ m : Nat, n ≤ m ∧ k = 4 - m ∧ (m = n ∨ m ≤ 4) ∧ Blk wr g 70 261 (cc p lo en (RX f m)) ∧ Chg g none w wr)
  case atStart => exact ⟨n, Nat.le_refl _, rfl, .inl rfl, hB, Chg.refl _ _ _⟩
  case round =>
    obtain ⟨m, h1, hk, h2, h3, h4⟩ := hrel
    clear hB
    have c9 : wr.cell? ⟨g, 259, none⟩ = some (.int .i64 (m : Int)) := h3.cell 259 (by omega)
    have HK := Lib.hid hk
    clear hk
    by_cases hlt : m < 4
    · go_wp2_with fail
      refine (rnext g f m p lo en 0 wr h3 (by omega) hf).mono ?_
      rintro e y ⟨rfl, h5, h6⟩
      go_wp2
      have hk := HK.out
      go_roundg (4 - (m + 1))
      case measure => omega
      case rel => exact ⟨m + 1, by omega, rfl, .inr (by omega), h5, h4.trans (.inl rfl) h6⟩
    · go_wp2
      refine bodyPost_end (results_none rfl _ _ _) rfl ⟨rfl, ?_, h4⟩
      rw [show n + (4 - n) = m by omega]; exact h3
end Go.Proofs.Ytdepfgeomceiiaa
