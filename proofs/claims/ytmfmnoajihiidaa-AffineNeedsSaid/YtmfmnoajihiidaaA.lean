/- Walks of det and within. -/
import Derived.Test.YtmfmnoajihiidaaM
import Derived.Test.YtmfmnoajihiidaaRw
import Derived.Test.YtmfmnoajihiidaaH
import Derived.IntWalk
import Derived.Deep.DeepCutAuto
import Derived.Deep.CutBlock
import Derived.Deep.LoopGhost
set_option linter.unusedVariables false
namespace Go.Proofs.Ytmfmnoajihiidaa
open Go.RowKit
theorem w64 (n : Int) (h0 : -9223372036854775808 ≤ n) (h1 : n ≤ 9223372036854775807) : IntKind.i64.wrap n = n := by rw [IntKind.wrap_i64]; omega
theorem ww64 (n : Int) (h0 : -9223372036854775808 ≤ n) (h1 : n ≤ 9223372036854775807) : wrap64 n = n := IntWalk.wrap64_in n ⟨h0, h1⟩
set_option maxRecDepth 100000 in
set_option maxHeartbeats 400000 in
theorem det_any (A B C D E F N : Int) (hA : -4096 ≤ A ∧ A ≤ 4096) (hB : -4096 ≤ B ∧ B ≤ 4096) (hD : -4096 ≤ D ∧ D ≤ 4096) (hE : -4096 ≤ E ∧ E ≤ 4096) (w : World) :
    Calls Try.prog 43 #[.agg #[.int .i64 A, .int .i64 B, .int .i64 C, .int .i64 D, .int .i64 E, .int .i64 F, .int .i64 N]] w fun e w' => e = .returned (.int .i64 (Af.det ⟨A, B, C, D, E, F, N⟩)) ∧ Grow w w' := by
  have k1 := Af.mul_bd hA hE
  have k2 := Af.mul_bd hB hD
  have e1 : wrap64 (A * E) = A * E := ww64 _ (by omega) (by omega)
  have e2 : wrap64 (B * D) = B * D := ww64 _ (by omega) (by omega)
  have e3 : wrap64 (A * E - B * D) = A * E - B * D := ww64 _ (by omega) (by omega)
  have hd : Af.det ⟨A, B, C, D, E, F, N⟩ = A * E - B * D := rfl
  rw [hd]
  clear hA hB hD hE hd
  go_enter Try.func43, Try.ntmps43
  go_wp2
  go_ret
  refine ⟨?_, Grow.alloc _ _⟩
  first | rfl | (simp only [e1, e2, e3]; rfl)
/-- A row of numbers. -/
def iv (l : List Int) : Array Value := (l.map fun z => Value.int .i64 z).toArray
set_option maxRecDepth 100000 in
set_option maxHeartbeats 400000 in
theorem within_any (m : Int) (hm : 0 ≤ m ∧ m ≤ 1000000000) (l : List Int) (hl : l.length ≤ 100) (b : Nat) (w : World) (hb : w.heap[b]? = some (.cells (iv l) 3 (0, 0))) :
    Calls Try.prog 59 #[.int .i64 m, .slice (some ⟨b, 0, none⟩) l.length l.length] w fun e w' => e = .returned (.bool (l.all (Af.wi m))) ∧ w' = w := by
  have hc : ∀ i (h : i < l.length), w.cell? ⟨b, i, none⟩ = some (.int .i64 l[i]) := fun i h => by
    rw [cell_of_row w b i _ _ _ hb]; unfold iv; simp [h]
  replace hc := Lib.hid hc
  clear hb
  go_enter Try.func59, Try.ntmps59
  go_upto_block 1 with fail
  go_loopg [9] l.length (fun k s9 wr => ∃ i, i + k = l.length ∧ s9 = .int .i64 (i : Int) ∧ wr = w ∧ (l.take i).all (Af.wi m) = true)
  case atStart => exact ⟨0, by omega, rfl, rfl, rfl⟩
  case round =>
    obtain ⟨i, hik, rfl, rfl, hall⟩ := hrel
    cases gk with
    | zero =>
      obtain rfl : i = l.length := by omega
      have hlt : ¬ (l.length : Int) < l.length := by omega
      rw [List.take_length] at hall
      go_wp2
      go_ret
      exact ⟨rfl, rfl⟩
    | succ k =>
      have hi : i < l.length := by omega
      have hlt : (i : Int) < l.length := by omega
      have c := hc.out i hi
      have hts : l.take (i + 1) = l.take i ++ [l[i]] := by rw [List.take_add_one, List.getElem?_eq_getElem hi]; rfl
      have hmem : l[i] ∈ l := List.getElem_mem hi
      by_cases hw : Af.wi m l[i] = true
      · have hw' : -m ≤ l[i] ∧ l[i] ≤ m := by simpa [Af.wi] using hw
        have h2 : (l.take (i + 1)).all (Af.wi m) = true := by rw [hts, List.all_append, hall]; simp [hw]
        generalize l[i] = z at *
        have h3 : ¬ z < -m := by omega
        have h4 : ¬ z > m := by omega
        clear hmem hts hw hw'
        go_wp2
        go_roundg k
        case measure => omega
        case rel => exact ⟨i + 1, by omega, by rw [Int.natCast_add]; rfl, rfl, h2⟩
      · have h2 : l.all (Af.wi m) = false := by
          cases hh : l.all (Af.wi m) with
          | false => rfl
          | true => exact absurd (List.all_eq_true.1 hh _ hmem) hw
        have hw' : l[i] < -m ∨ m < l[i] := by
          have : ¬ (-m ≤ l[i] ∧ l[i] ≤ m) := by simpa [Af.wi] using hw
          omega
        generalize l[i] = z at *
        clear hmem hts hw
        by_cases h3 : z < -m
        · go_wp2
          go_ret
          exact ⟨by rw [h2]; rfl, rfl⟩
        · have h4 : z > m := by omega
          go_wp2
          go_ret
          exact ⟨rfl, rfl⟩
end Go.Proofs.Ytmfmnoajihiidaa
