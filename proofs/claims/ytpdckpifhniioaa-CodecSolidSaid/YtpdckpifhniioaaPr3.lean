/- Walks of predict: the predict claims' texts, turned to this seat by genPort.py. -/
import Derived.Test.YtpdckpifhniioaaPr2
import Derived.Deep.Cut
import Derived.Deep.RegionHeld3
import Derived.Deep.DrawnRows
set_option linter.unusedVariables false
set_option linter.unusedSimpArgs false
namespace Go.Proofs.Ytpdckpifhniioaa.Prd
open Go.RowKit
open Go.Proofs.Ytpdckpifhniioaa
section
def fw (k : Nat) (t : Nat → UInt8) : ByteArray := ⟨(M.tab 256 (M.res k (plf t))).toArray⟩
theorem fw_size (k : Nat) (t : Nat → UInt8) : (fw k t).size = 256 := by unfold fw; rw [str_size, M.tab_length]
theorem fw_get (k : Nat) (t : Nat → UInt8) (i : Nat) (h : i < (fw k t).size) : (fw k t)[i] = M.res k (plf t) i := by
  rw [fw_size] at h
  show (M.tab 256 (M.res k (plf t))).toArray[i]'(by simp [M.tab_length, h]) = _
  rw [List.getElem_toArray, M.tab_get]
theorem forward_of (t : Nat → UInt8) (k : Nat) (hk : k < 6) (n : Int) (hn : n = k) (w : World) : Calls Try.prog 43 #[.agg (cf 256 t), .int .i64 n] w fun e w' => e = .returned (.tuple #[.string (fw k t), .int .i64 0]) ∧ Below w.heap.size w w' := by
  subst hn
  exact forward_any t k hk w

end
section

/-- 256 bytes as a string. -/
def St (f : Nat → UInt8) : ByteArray := ⟨(M.tab 256 f).toArray⟩
theorem St_size (f : Nat → UInt8) : (St f).size = 256 := by unfold St; rw [str_size, M.tab_length]
theorem St_index (f : Nat → UInt8) (j : Nat) (z : Int) (hz : z = j) (h : j < 256) (W : World) : (Instr.index 9 (.string (St f)) (.int .i64 z)).run Try.prog W = .ok (.int .u8 (f j).toNat) W := by
  subst hz
  have hi : j < (St f).size := by rw [St_size]; omega
  have hg : (St f)[j]? = some (f j) := by
    rw [getElem?_pos (St f) j hi]
    show some ((M.tab 256 f).toArray[j]'(by simp [M.tab_length, h])) = _
    rw [List.getElem_toArray, M.tab_get]
  simp [Instr.index, asIntOf, Sem.run_bind, run_underlying Try.underlying9, hg]
/-- The tile of four planes. -/
def til (p : Nat → UInt8) (j : Nat) : UInt8 :=
  if j % 4 = 0 then M.bkR (p (j / 4)) (p (64 + j / 4)) (p (128 + j / 4)) else if j % 4 = 1 then M.bkG (p (j / 4)) (p (128 + j / 4)) else if j % 4 = 2 then M.bkB (p (j / 4)) (p (64 + j / 4)) (p (128 + j / 4)) else p (192 + j / 4)
def tilN (p : Nat → UInt8) (n j : Nat) : UInt8 := if j < n * 4 then til p j else 0
theorem tilN_zero (p : Nat → UInt8) : tilN p 0 = fun _ => 0 := by funext j; simp [tilN]
theorem tilN_full (p : Nat → UInt8) (j : Nat) (h : j < 256) : tilN p 64 j = til p j := by unfold tilN; rw [if_pos (by omega)]
theorem tilN_put (p : Nat → UInt8) (n j : Nat) : M.put (M.put (M.put (M.put (tilN p n) (n * 4) (M.bkR (p n) (p (64 + n)) (p (128 + n)))) (n * 4 + 1) (M.bkG (p n) (p (128 + n)))) (n * 4 + 2) (M.bkB (p n) (p (64 + n)) (p (128 + n)))) (n * 4 + 3) (p (192 + n)) j = tilN p (n + 1) j := by
  unfold M.put tilN
  by_cases h3 : j = n * 4 + 3
  · subst h3; rw [if_pos rfl, if_pos (by omega)]; unfold til; rw [if_neg (by omega), if_neg (by omega), if_neg (by omega), show (n * 4 + 3) / 4 = n by omega]
  rw [if_neg h3]
  by_cases h2 : j = n * 4 + 2
  · subst h2; rw [if_pos rfl, if_pos (by omega)]; unfold til; rw [if_neg (by omega), if_neg (by omega), if_pos (by omega), show (n * 4 + 2) / 4 = n by omega]
  rw [if_neg h2]
  by_cases h1 : j = n * 4 + 1
  · subst h1; rw [if_pos rfl, if_pos (by omega)]; unfold til; rw [if_neg (by omega), if_pos (by omega), show (n * 4 + 1) / 4 = n by omega]
  rw [if_neg h1]
  by_cases h0 : j = n * 4
  · subst h0; rw [if_pos rfl, if_pos (by omega)]; unfold til; rw [if_pos (by omega), show (n * 4) / 4 = n by omega]
  rw [if_neg h0]
  by_cases h : j < n * 4
  · rw [if_pos h, if_pos (by omega)]
  · rw [if_neg h, if_neg (by omega)]
theorem til_plf (t : Nat → UInt8) (j : Nat) (h : j < 256) : til (plf t) j = t j := by
  have e0 : plf t (j / 4) = M.swY (t (4 * (j / 4))) (t (4 * (j / 4) + 1)) (t (4 * (j / 4) + 2)) := by unfold plf; rw [if_pos (by omega)]
  have e1 : plf t (64 + j / 4) = M.swU (t (4 * (j / 4))) (t (4 * (j / 4) + 2)) := by unfold plf; rw [if_neg (by omega), if_pos (by omega), show 64 + j / 4 - 64 = j / 4 by omega]
  have e2 : plf t (128 + j / 4) = M.swV (t (4 * (j / 4))) (t (4 * (j / 4) + 1)) (t (4 * (j / 4) + 2)) := by unfold plf; rw [if_neg (by omega), if_neg (by omega), if_pos (by omega), show 128 + j / 4 - 128 = j / 4 by omega]
  have e3 : plf t (192 + j / 4) = t (4 * (j / 4) + 3) := by unfold plf; rw [if_neg (by omega), if_neg (by omega), if_neg (by omega), show 192 + j / 4 - 192 = j / 4 by omega]
  unfold til
  rw [e0, e1, e2, e3, M.bk_r, M.bk_g, M.bk_b]
  split
  · congr 1; omega
  split
  · congr 1; omega
  split
  · congr 1; omega
  · congr 1; omega
theorem plf_til (p : Nat → UInt8) (j : Nat) (h : j < 256) : plf (til p) j = p j := by
  have t0 : ∀ n, til p (4 * n) = M.bkR (p n) (p (64 + n)) (p (128 + n)) := fun n => by unfold til; rw [if_pos (by omega), show 4 * n / 4 = n by omega]
  have t1 : ∀ n, til p (4 * n + 1) = M.bkG (p n) (p (128 + n)) := fun n => by unfold til; rw [if_neg (by omega), if_pos (by omega), show (4 * n + 1) / 4 = n by omega]
  have t2 : ∀ n, til p (4 * n + 2) = M.bkB (p n) (p (64 + n)) (p (128 + n)) := fun n => by unfold til; rw [if_neg (by omega), if_neg (by omega), if_pos (by omega), show (4 * n + 2) / 4 = n by omega]
  have t3 : ∀ n, til p (4 * n + 3) = p (192 + n) := fun n => by unfold til; rw [if_neg (by omega), if_neg (by omega), if_neg (by omega), show (4 * n + 3) / 4 = n by omega]
  unfold plf
  simp only [t0, t1, t2, t3]
  by_cases h1 : j < 64
  · rw [if_pos h1]; exact M.sw_y _ _ _
  rw [if_neg h1]
  by_cases h2 : j < 128
  · rw [if_pos h2, M.sw_u]; exact congrArg p (by omega)
  rw [if_neg h2]
  by_cases h3 : j < 192
  · rw [if_pos h3, M.sw_v]; exact congrArg p (by omega)
  · rw [if_neg h3]; exact congrArg p (by omega)
theorem til_congr (p q : Nat → UInt8) (h : ∀ i, i < 256 → p i = q i) (j : Nat) (hj : j < 256) : til p j = til q j := by
  unfold til
  rw [h (j / 4) (by omega), h (64 + j / 4) (by omega), h (128 + j / 4) (by omega), h (192 + j / 4) (by omega)]
theorem back_of (U t : Nat → UInt8) (h : ∀ i, i < 256 → U i = plf t i) (j : Nat) (hj : j < 256) : til U j = t j := by
  rw [til_congr U (plf t) h j hj, til_plf t j hj]
/-- Inverse behind Forward. -/
theorem back_fwd (k : Nat) (t : Nat → UInt8) (j : Nat) (h : j < 256) : til (M.unp k (M.res k (plf t)) 256) j = t j :=
  back_of _ t (fun i hi => M.unp_res k (plf t) 256 i hi) j h
theorem fwd_of (k : Nat) (U f : Nat → UInt8) (h : ∀ i, i < 256 → M.res k U i = f i) : fw k (til U) = St f := by
  unfold fw St
  rw [M.tab_congr 256 (M.res k (plf (til U))) f fun i hi => (by rw [M.res_congr k (plf (til U)) U i (fun m _ hm => plf_til U m (by omega)), h i hi])]
/-- Forward behind Inverse. -/
theorem fwd_back (k : Nat) (f : Nat → UInt8) : fw k (til (M.unp k f 256)) = St f :=
  fwd_of k _ f (fun i hi => M.res_unp k f 256 i hi)
theorem fw_St (k : Nat) (t : Nat → UInt8) : fw k t = St (M.res k (plf t)) := rfl

theorem unp_put (k : Nat) (f : Nat → UInt8) (q i : Nat) (hi : i < 64) : M.put (M.unp k f (q * 64 + i)) (q * 64 + i) (f (q * 64 + i) + M.gs k (M.pl (M.unp k f (q * 64 + i)) q) i) = M.unp k f (q * 64 + (i + 1)) := by
  show _ = M.unp k f ((q * 64 + i) + 1)
  show _ = M.put _ _ _
  rw [show (q * 64 + i) / 64 = q by omega, show (q * 64 + i) % 64 = i by omega]
theorem sc_keep {x : World} {g b i j : Nat} {v u : Value} (hne : g ≠ b) (h : x.drew.cell? ⟨g, i, none⟩ = some u) : (x.setCell ⟨b, j, none⟩ v).drew.cell? ⟨g, i, none⟩ = some u := by
  show (x.setCell ⟨b, j, none⟩ v).cell? ⟨g, i, none⟩ = some u
  rw [World.cell?_setCell_other _ _ _ _ (by intro e; injection e with e1 _ _; exact hne e1.symm)]
  exact h
theorem results_row_tmp {fn : Func} {p u : Tmp} {ty : TypeId} (h : fn.results = #[.cell p ty, .tmp u]) (tmps : Array Value) (w : World) (g : Nat) (cs : Array Value)
    (hp : tmps.getD p undef = .pointer (some ⟨g, 0, none⟩)) (hl : (loadVar ty ⟨g, 0, none⟩).run Try.prog w = .ok (.agg cs) w) :
    (results fn tmps).run Try.prog w = .ok (.tuple #[.agg cs, tmps.getD u undef]) w := by
  have hp' : tmps[p]?.getD undef = .pointer (some ⟨g, 0, none⟩) := by simpa using hp
  simp [results, h, hp', asAddr, hl]
theorem e_add8 (a b : UInt8) : ((a.toNat : Int) + (b.toNat : Int)) % 256 = ((a + b).toNat : Int) := by
  have := a.toNat_lt; have := b.toNat_lt
  rw [UInt8.toNat_add]; omega
end
end Go.Proofs.Ytpdckpifhniioaa.Prd
