/- Walk of layer 3's reference: Same, of two equal lists of rectangles. -/
import Derived.Test.YtplnhmfkflnhpaaQ
import Derived.Deep.Quiet
import Derived.Deep.QuietTactic
import Derived.BigQuiet
set_option linter.unusedVariables false
namespace Go.Proofs.Ytplnhmfkflnhpaa
open Go.RowKit
/-- The slice v reads as the list l. -/
def RdR (W : World) (v : Value) (l : List R) : Prop :=
  ∃ o cap, v = .slice o l.length cap ∧ ∀ i r, l[i]? = some r → ∃ g, o = some ⟨g, 0, none⟩ ∧ W.cell? ⟨g, i * 4, none⟩ = some (.int .i64 r.x0) ∧ W.cell? ⟨g, i * 4 + 1, none⟩ = some (.int .i64 r.y0) ∧ W.cell? ⟨g, i * 4 + 2, none⟩ = some (.int .i64 r.x1) ∧ W.cell? ⟨g, i * 4 + 3, none⟩ = some (.int .i64 r.y1)
theorem same_self (r : R) : same ⟨r.x0, r.y0, r.x1, r.y1⟩ ⟨r.x0, r.y0, r.x1, r.y1⟩ = true := by simp [same]
set_option maxRecDepth 100000 in
set_option maxHeartbeats 4000000 in
theorem same_yes (v1 v2 : Value) (l : List R) (w : World) (hl : l.length ≤ 1000) (h1 : RdR w v1 l) (h2 : RdR w v2 l) :
    Calls Try.prog 42 #[v1, v2] w fun e w' => e = .returned (.bool true) ∧ ∃ n, w' = w.drewN n := by
  obtain ⟨o1, c1, rfl, f1⟩ := h1
  obtain ⟨o2, c2, rfl, f2⟩ := h2
  have F1 := Lib.hid f1
  have F2 := Lib.hid f2
  clear f1 f2
  have hq := neq26
  go_enter Try.func42, Try.ntmps42
  go_wp2
  go_loopw [5] (fun i wr => ∃ k : Nat, k ≤ l.length ∧ i = .int .i64 k ∧ ∃ n, wr = w.drewN n) (fun i _ => l.length - (intOf i).toNat)
  case atStart => exact ⟨0, by omega, rfl, 0, rfl⟩
  case round =>
    obtain ⟨k, hk, rfl, n, rfl⟩ := hrel
    by_cases hlt : k < l.length
    · obtain ⟨r, hr⟩ : ∃ r, l[k]? = some r := ⟨_, List.getElem?_eq_getElem hlt⟩
      obtain ⟨g1, rfl, a0, a1, a2, a3⟩ := F1.out k r hr
      obtain ⟨g2, rfl, b0, b1, b2, b3⟩ := F2.out k r hr
      clear hr
      have hs := same_self r
      go_wp2
      go_quiet (fail)
      go_wp2
      go_roundw
      case rel => exact ⟨k + 1, by omega, by go_num, _, rfl⟩
      case measure => simp [intOf]; omega
    · go_wp2
      go_ret
      exact ⟨rfl, n, rfl⟩
end Go.Proofs.Ytplnhmfkflnhpaa
