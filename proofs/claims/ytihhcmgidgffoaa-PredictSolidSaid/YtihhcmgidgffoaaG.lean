/- Walks of layer 10 (predict): the laws' common part (the chapter's examples) returns true. -/
import Derived.Test.YtihhcmgidgffoaaF
import Derived.Test.YtihhcmgidgffoaaD
set_option linter.unusedVariables false
namespace Go.Proofs.Ytihhcmgidgffoaa
open Go.RowKit

/-- n zero bytes. -/
def Zs (n : Nat) : ByteArray := ⟨(List.replicate n (0 : UInt8)).toArray⟩
theorem zeros_of (n : Nat) (hn : n ≤ 1000) (m : Int) (hm : m = n) (w : World) : Calls Try.prog 14 #[.int .i64 m] w fun e w' => e = .returned (.string (Zs n)) ∧ Below w.heap.size w w' := by
  subst hm
  exact zeros_any n hn w
/-- What Forward returns. -/
def fw (k : Nat) (t : Nat → UInt8) : ByteArray := ⟨(M.tab 256 (M.res k (plf t))).toArray⟩
theorem fw_size (k : Nat) (t : Nat → UInt8) : (fw k t).size = 256 := by unfold fw; rw [str_size, M.tab_length]
theorem fw_get (k : Nat) (t : Nat → UInt8) (i : Nat) (h : i < (fw k t).size) : (fw k t)[i] = M.res k (plf t) i := by
  rw [fw_size] at h
  show (M.tab 256 (M.res k (plf t))).toArray[i]'(by simp [M.tab_length, h]) = _
  rw [List.getElem_toArray, M.tab_get]
theorem forward_of (t : Nat → UInt8) (k : Nat) (hk : k < 6) (n : Int) (hn : n = k) (w : World) : Calls Try.prog 16 #[.agg (cf 256 t), .int .i64 n] w fun e w' => e = .returned (.tuple #[.string (fw k t), .int .i64 0]) ∧ Below w.heap.size w w' := by
  subst hn
  exact forward_any t k hk w

/-- The residuals of a solid tile. -/
def sol (y u v a : UInt8) (j : Nat) : UInt8 := if j = 0 then y else if j = 64 then u else if j = 128 then v else if j = 192 then a else 0
theorem plf_solid (r g b a : UInt8) (j : Nat) (hj : j < 256) : plf (fl r g b a) j = if j < 64 then M.swY r g b else if j < 128 then M.swU r b else if j < 192 then M.swV r g b else a := by
  have h0 : ∀ n, fl r g b a (4 * n) = r := fun n => by unfold fl; rw [if_pos (by omega)]
  have h1 : ∀ n, fl r g b a (4 * n + 1) = g := fun n => by unfold fl; rw [if_neg (by omega), if_pos (by omega)]
  have h2 : ∀ n, fl r g b a (4 * n + 2) = b := fun n => by unfold fl; rw [if_neg (by omega), if_neg (by omega), if_pos (by omega)]
  have h3 : ∀ n, fl r g b a (4 * n + 3) = a := fun n => by unfold fl; rw [if_neg (by omega), if_neg (by omega), if_neg (by omega)]
  unfold plf
  simp only [h0, h1, h2, h3]
theorem gs_const (k : Nat) (h1 : 1 ≤ k) (h5 : k ≤ 5) (p : Nat → UInt8) (x : UInt8) (i : Nat) (hi : 0 < i) (h : ∀ m, m < i → p m = x) : M.gs k p i = x := by
  have hv := M.gs_val k p i
  have hL : M.nbL p i = (x.toNat : Int) := by
    unfold M.nbL
    rw [if_neg (by omega)]
    split
    · rw [h _ (by omega)]
    · split <;> rw [h _ (by omega)]
  have hU : M.nbU p i = (x.toNat : Int) := by
    unfold M.nbU
    rw [if_neg (by omega)]
    split
    · rw [h _ (by omega)]
    · rw [h _ (by omega)]
  have hC : M.nbC p i = (x.toNat : Int) := by
    unfold M.nbC
    rw [if_neg (by omega)]
    split
    · rw [h _ (by omega)]
    · split
      · rw [h _ (by omega)]
      · rw [h _ (by omega)]
  unfold M.gi at hv
  rw [hL, hU, hC, M.pred_same k _ h1 h5] at hv
  exact UInt8.toNat_inj.1 (by omega)
theorem gs_first (k : Nat) (h1 : 1 ≤ k) (h5 : k ≤ 5) (p : Nat → UInt8) : M.gs k p 0 = 0 := by
  have hv : ((M.gs k p 0).toNat : Int) = M.pred k 0 0 0 := M.gs_val k p 0
  rw [M.pred_same k _ h1 h5] at hv
  exact UInt8.toNat_inj.1 (by simp; omega)
theorem res_solid (k : Nat) (h1 : 1 ≤ k) (h5 : k ≤ 5) (r g b a : UInt8) (j : Nat) (hj : j < 256) : M.res k (plf (fl r g b a)) j = sol (M.swY r g b) (M.swU r b) (M.swV r g b) a j := by
  unfold M.res
  by_cases h0 : j % 64 = 0
  · rw [h0, gs_first k h1 h5]
    rw [show ∀ x : UInt8, x - 0 = x from fun x => UInt8.sub_zero x]
    rw [plf_solid r g b a j hj]
    unfold sol
    have : j = 0 ∨ j = 64 ∨ j = 128 ∨ j = 192 := by omega
    rcases this with h | h | h | h <;> subst h <;> rfl
  · rw [gs_const k h1 h5 _ (plf (fl r g b a) j) (j % 64) (by omega) (fun m hm => ?_)]
    · rw [UInt8.sub_self]
      unfold sol
      rw [if_neg (by omega), if_neg (by omega), if_neg (by omega), if_neg (by omega)]
    · unfold M.pl
      rw [plf_solid r g b a _ (by omega), plf_solid r g b a j hj]
      have e1 : (64 * (j / 64) + m < 64) = (j < 64) := by apply propext; omega
      have e2 : (64 * (j / 64) + m < 128) = (j < 128) := by apply propext; omega
      have e3 : (64 * (j / 64) + m < 192) = (j < 192) := by apply propext; omega
      simp only [e1, e2, e3]
theorem tab_zero (n : Nat) (f : Nat → UInt8) (h : ∀ i, i < n → f i = 0) : M.tab n f = List.replicate n 0 := by
  apply List.ext_getElem
  · rw [M.tab_length, List.length_replicate]
  · intro i h1 h2
    rw [M.tab_get, List.getElem_replicate]
    exact h i (by rw [M.tab_length] at h1; exact h1)
theorem sol_tab (y u v a : UInt8) : M.tab 256 (sol y u v a) = [y] ++ List.replicate 63 0 ++ [u] ++ List.replicate 63 0 ++ [v] ++ List.replicate 63 0 ++ [a] ++ List.replicate 63 0 := by
  have e : (256 : Nat) = 1 + 63 + 1 + 63 + 1 + 63 + 1 + 63 := rfl
  rw [e, M.tab_add, M.tab_add, M.tab_add, M.tab_add, M.tab_add, M.tab_add, M.tab_add]
  rw [tab_zero 63 _ (fun i hi => by unfold sol; rw [if_neg (by omega), if_neg (by omega), if_neg (by omega), if_neg (by omega)]),
    tab_zero 63 _ (fun i hi => by unfold sol; rw [if_neg (by omega), if_neg (by omega), if_neg (by omega), if_neg (by omega)]),
    tab_zero 63 _ (fun i hi => by unfold sol; rw [if_neg (by omega), if_neg (by omega), if_neg (by omega), if_neg (by omega)]),
    tab_zero 63 _ (fun i hi => by unfold sol; rw [if_neg (by omega), if_neg (by omega), if_neg (by omega), if_neg (by omega)])]
  rfl
theorem fw_solid (k : Nat) (h1 : 1 ≤ k) (h5 : k ≤ 5) (r g b a : UInt8) : fw k (fl r g b a) = ⟨#[M.swY r g b]⟩ ++ Zs 63 ++ ⟨#[M.swU r b]⟩ ++ Zs 63 ++ ⟨#[M.swV r g b]⟩ ++ Zs 63 ++ ⟨#[a]⟩ ++ Zs 63 := by
  unfold fw Zs
  rw [M.tab_congr 256 _ _ (fun j hj => res_solid k h1 h5 r g b a j hj), sol_tab]
  show _ = (⟨[M.swY r g b].toArray⟩ : ByteArray) ++ _ ++ ⟨[M.swU r b].toArray⟩ ++ _ ++ ⟨[M.swV r g b].toArray⟩ ++ _ ++ ⟨[a].toArray⟩ ++ _
  simp only [str_append]
theorem fw_sanity : fw 1 (fl 10 10 10 255) = ⟨#[10]⟩ ++ Zs 191 ++ ⟨#[255]⟩ ++ Zs 63 := by
  rw [fw_solid 1 (by omega) (by omega)]
  unfold Zs
  apply ByteArray.ext
  rfl
theorem sw_ex1 (w : World) : Calls Try.prog 13 #[.int .u8 255, .int .u8 0, .int .u8 0] w fun e w' => e = .returned (.tuple #[.int .u8 191, .int .u8 255, .int .u8 129]) ∧ w = w' := swap_any 255 0 0 w
theorem sw_ex2 (w : World) : Calls Try.prog 13 #[.int .u8 10, .int .u8 10, .int .u8 10] w fun e w' => e = .returned (.tuple #[.int .u8 10, .int .u8 0, .int .u8 0]) ∧ w = w' := swap_any 10 10 10 w
theorem fill_ex (w : World) : Calls Try.prog 17 #[.agg #[.int .u8 10, .int .u8 10, .int .u8 10, .int .u8 255]] w fun e w' => e = .returned (.agg (cf 256 (fl 10 10 10 255))) ∧ Below w.heap.size w w' := fill_any 10 10 10 255 w
theorem fw_ex (w : World) : Calls Try.prog 16 #[.agg (cf 256 (fl 10 10 10 255)), .int .i64 1] w fun e w' => e = .returned (.tuple #[.string (⟨#[10]⟩ ++ Zs 191 ++ ⟨#[255]⟩ ++ Zs 63), .int .i64 0]) ∧ Below w.heap.size w w' := by
  have h := forward_of (fl 10 10 10 255) 1 (by omega) 1 rfl w
  rwa [fw_sanity] at h
theorem cost_ex (w : World) : Calls Try.prog 11 #[.string ⟨#[1, 255, 128]⟩] w fun e w' => e = .returned (.int .i64 130) ∧ Below w.heap.size w w' := cost_any ⟨#[1, 255, 128]⟩ w (by decide) 130 (by decide +kernel)

set_option maxRecDepth 100000 in
set_option maxHeartbeats 800000 in
theorem sanity_any (w : World) : Calls Try.prog 10 #[] w fun e w' => e = .returned (.bool true) ∧ Below w.heap.size w w' := by
  go_enter Try.func10, Try.ntmps10
  go_wp2_with fail
  refine (sw_ex1 _).mono ?_
  rintro e x1 ⟨rfl, rfl⟩
  go_wp2_with fail
  refine (sw_ex2 _).mono ?_
  rintro e x2 ⟨rfl, rfl⟩
  go_wp2_with fail
  refine (fill_ex _).mono ?_
  rintro e x3 ⟨rfl, b3⟩
  go_wp2_with fail
  refine (fw_ex _).mono ?_
  rintro e x4 ⟨rfl, b4⟩
  replace b3 := bt b3 b4
  clear b4
  go_wp2_with fail
  refine (zeros_of 191 (by omega) 191 rfl _).mono ?_
  rintro e x5 ⟨rfl, b5⟩
  replace b3 := bt b3 b5
  clear b5
  go_wp2_with fail
  refine (zeros_of 63 (by omega) 63 rfl _).mono ?_
  rintro e x6 ⟨rfl, b6⟩
  replace b3 := bt b3 b6
  clear b6
  go_wp2_with fail
  refine (cost_ex _).mono ?_
  rintro e x7 ⟨rfl, b7⟩
  replace b3 := bt b3 b7
  clear b7
  go_wp2_with fail
  go_ret
  exact ⟨rfl, b3⟩
end Go.Proofs.Ytihhcmgidgffoaa
