/- Walks of layer 10 (predict): the table of predictors, the prediction at an index. -/
import Derived.Test.YtihhcmgidgffoaaA5
namespace Go.Proofs.Ytihhcmgidgffoaa
open Go.RowKit

/-- The cells of the table of predictors. -/
def prC : Array Value := #[.string ⟨#[110, 111, 110, 101]⟩, .func (.func 25) #[] #[], .string ⟨#[108, 101, 102, 116]⟩, .func (.func 26) #[] #[], .string ⟨#[117, 112]⟩, .func (.func 27) #[] #[],
  .string ⟨#[97, 118, 101, 114, 97, 103, 101]⟩, .func (.func 28) #[] #[], .string ⟨#[112, 97, 101, 116, 104]⟩, .func (.func 29) #[] #[], .string ⟨#[109, 101, 100, 105, 97, 110, 32, 101, 100, 103, 101]⟩, .func (.func 30) #[] #[]]
theorem prC_at (k : Nat) (h : k < 6) : prC[k * 2 + 1]? = some (.func (.func (25 + k)) #[] #[]) := by
  match k, h with
  | 0, _ => rfl
  | 1, _ => rfl
  | 2, _ => rfl
  | 3, _ => rfl
  | 4, _ => rfl
  | 5, _ => rfl
theorem enter_fn (k : Nat) (h : k < 6) (args : Array Value) (w : World) : (callFunc (25 + k) args).run Try.prog w = .ok (.enter (25 + k) args) w := by
  match k, h with
  | 0, _ => show (callFunc 25 args).run Try.prog w = .ok (.enter 25 args) w; simp [callFunc, go_sem, Try.func25]; rfl
  | 1, _ => show (callFunc 26 args).run Try.prog w = .ok (.enter 26 args) w; simp [callFunc, go_sem, Try.func26]; rfl
  | 2, _ => show (callFunc 27 args).run Try.prog w = .ok (.enter 27 args) w; simp [callFunc, go_sem, Try.func27]; rfl
  | 3, _ => show (callFunc 28 args).run Try.prog w = .ok (.enter 28 args) w; simp [callFunc, go_sem, Try.func28]; rfl
  | 4, _ => show (callFunc 29 args).run Try.prog w = .ok (.enter 29 args) w; simp [callFunc, go_sem, Try.func29]; rfl
  | 5, _ => show (callFunc 30 args).run Try.prog w = .ok (.enter 30 args) w; simp [callFunc, go_sem, Try.func30]; rfl

theorem fn_any (k : Nat) (h : k < 6) (l u c : Int) (w : World) (hl : 0 ≤ l ∧ l ≤ 255) (hu : 0 ≤ u ∧ u ≤ 255) (hc : 0 ≤ c ∧ c ≤ 255) :
    Calls Try.prog (25 + k) #[.int .i64 l, .int .i64 u, .int .i64 c] w fun e w' => e = .returned (.int .i64 (M.pred k l u c)) ∧ w = w' := by
  match k, h with
  | 0, _ => exact fn1 l u c w
  | 1, _ => exact fn2 l u c w
  | 2, _ => exact fn3 l u c w
  | 3, _ => exact fn4 l u c w hl hu
  | 4, _ => exact fn5 l u c w hl hu hc
  | 5, _ => exact fn6 l u c w hl hu hc

theorem predictors_any (w : World) : Calls Try.prog 22 #[] w fun e w' => e = .returned (.slice (some ⟨w.heap.size, 0, none⟩) 6 6) ∧ w.alloc (.cells prC 60) = w' := by
  go_enter Try.func22, Try.ntmps22
  go_wp2
  go_ret
  exact ⟨rfl, rfl⟩
theorem Predictors_any (w : World) : Calls Try.prog 15 #[] w fun e w' => e = .returned (.int .i64 6) ∧ Below w.heap.size w w' := by
  go_enter Try.func15, Try.ntmps15
  go_wp2_with fail
  refine (predictors_any _).mono ?_
  rintro e w' ⟨rfl, rfl⟩
  go_wp2_with fail
  go_ret
  exact ⟨rfl, (Below.refl _ _).alloc (Nat.le_refl _) _⟩

theorem at_any (b o g : Nat) (x : UInt8) (i : Nat) (hi : i < 64) (w : World) (hg : w.cell? ⟨g, 0, none⟩ = some (.pointer (some ⟨b, o, none⟩))) (hp : w.cell? ⟨b, o + i, none⟩ = some (.int .u8 x.toNat)) :
    Calls Try.prog 31 #[.int .i64 i, .pointer (some ⟨g, 0, none⟩)] w fun e w' => e = .returned (.int .i64 x.toNat) ∧ w = w' := by
  have hx := x.toNat_lt
  go_enter Try.func31, Try.ntmps31
  go_wp2_with fail
  go_ret
  exact ⟨rfl, rfl⟩

theorem at_new (b o : Nat) (p : Nat → UInt8) (m : Nat) (n : Int) (hn : n = (m : Int)) (hm : m < 64) (w : World) (hb : b < w.heap.size) (hp : w.cell? ⟨b, o + m, none⟩ = some (.int .u8 (p m).toNat)) :
    Calls Try.prog 31 #[.int .i64 n, .pointer (some ⟨w.heap.size, 0, none⟩)] (w.alloc (.cells #[.pointer (some ⟨b, o, none⟩)] 66)) fun e w' => e = .returned (.int .i64 (p m).toNat) ∧ w.alloc (.cells #[.pointer (some ⟨b, o, none⟩)] 66) = w' := by
  subst hn
  refine at_any b o w.heap.size (p m) m hm _ ?_ ?_
  · rw [World.cell?_alloc_mark]; rfl
  · rw [((Below.refl w.heap.size w).alloc (Nat.le_refl _) _).cell (p := ⟨b, o + m, none⟩) hb]; exact hp
theorem gi0 (k : Nat) (hk : k < 6) (p : Nat → UInt8) (w : World) : Calls Try.prog (25 + k) #[.int .i64 0, .int .i64 0, .int .i64 0] w fun e w' => e = .returned (.int .i64 (M.gi k p 0)) ∧ w = w' :=
  fn_any k hk 0 0 0 w M.zero_in M.zero_in M.zero_in
theorem gi1 (k : Nat) (hk : k < 6) (p : Nat → UInt8) (i : Nat) (h0 : ¬ i = 0) (h8 : i < 8) (w : World) : Calls Try.prog (25 + k) #[.int .i64 (p (i - 1)).toNat, .int .i64 (p (i - 1)).toNat, .int .i64 (p (i - 1)).toNat] w fun e w' => e = .returned (.int .i64 (M.gi k p i)) ∧ w = w' := by
  have h := fn_any k hk _ _ _ w (M.byte_in (p (i - 1))) (M.byte_in (p (i - 1))) (M.byte_in (p (i - 1)))
  have e : M.pred k (p (i - 1)).toNat (p (i - 1)).toNat (p (i - 1)).toNat = M.gi k p i := by unfold M.gi M.nbL M.nbU M.nbC; simp only [h0, h8, if_true, if_false]
  rwa [e] at h
theorem gi2 (k : Nat) (hk : k < 6) (p : Nat → UInt8) (i : Nat) (h8 : ¬ i < 8) (hm : i % 8 = 0) (w : World) : Calls Try.prog (25 + k) #[.int .i64 (p (i - 8)).toNat, .int .i64 (p (i - 8)).toNat, .int .i64 (p (i - 8)).toNat] w fun e w' => e = .returned (.int .i64 (M.gi k p i)) ∧ w = w' := by
  have h := fn_any k hk _ _ _ w (M.byte_in (p (i - 8))) (M.byte_in (p (i - 8))) (M.byte_in (p (i - 8)))
  have h0 : ¬ i = 0 := by omega
  have e : M.pred k (p (i - 8)).toNat (p (i - 8)).toNat (p (i - 8)).toNat = M.gi k p i := by unfold M.gi M.nbL M.nbU M.nbC; simp only [h0, h8, hm, if_true, if_false]
  rwa [e] at h
theorem gi3 (k : Nat) (hk : k < 6) (p : Nat → UInt8) (i : Nat) (h8 : ¬ i < 8) (hm : ¬ i % 8 = 0) (w : World) : Calls Try.prog (25 + k) #[.int .i64 (p (i - 1)).toNat, .int .i64 (p (i - 8)).toNat, .int .i64 (p (i - 9)).toNat] w fun e w' => e = .returned (.int .i64 (M.gi k p i)) ∧ w = w' := by
  have h := fn_any k hk _ _ _ w (M.byte_in (p (i - 1))) (M.byte_in (p (i - 8))) (M.byte_in (p (i - 9)))
  have h0 : ¬ i = 0 := by omega
  have e : M.pred k (p (i - 1)).toNat (p (i - 8)).toNat (p (i - 9)).toNat = M.gi k p i := by unfold M.gi M.nbL M.nbU M.nbC; simp only [h0, h8, hm, if_false]
  rwa [e] at h

set_option maxRecDepth 100000 in
set_option maxHeartbeats 800000 in
theorem guess_any (k : Nat) (hk : k < 6) (b o : Nat) (p : Nat → UInt8) (i : Nat) (hi : i < 64) (w : World) (hb : b < w.heap.size) (hp : ∀ m, m < i → w.cell? ⟨b, o + m, none⟩ = some (.int .u8 (p m).toNat)) :
    Calls Try.prog 23 #[.pointer (some ⟨b, o, none⟩), .int .i64 i, .func (.func (25 + k)) #[] #[]] w fun e w' => e = .returned (.int .u8 (M.gs k p i).toNat) ∧ Below w.heap.size w w' := by
  have hgv := M.gs_val k p i
  have hgi := M.gi_in k p i
  unfold M.InB at hgi
  obtain ⟨hg0, hg1⟩ := hgi
  have HG := Lib.hid hgv
  clear hgv
  have HP := Lib.hid hp
  clear hp
  have ef := enter_fn k hk
  by_cases h0 : i = 0
  · subst h0
    go_enter Try.func23, Try.ntmps23
    go_wp2_with fail
    refine (gi0 k hk p _).mono ?_
    rintro e w' ⟨rfl, rfl⟩
    go_wp2_with fail
    go_ret
    exact ⟨ret_int HG.out.symm, (Below.refl _ _).alloc (Nat.le_refl _) _⟩
  · by_cases h8 : i < 8
    · go_enter Try.func23, Try.ntmps23
      go_wp2_with fail
      refine (at_new b o p (i - 1) _ (by omega) (by omega) w hb (HP.out _ (by omega))).mono ?_
      rintro e w' ⟨rfl, rfl⟩
      go_wp2_with fail
      refine (at_new b o p (i - 1) _ (by omega) (by omega) w hb (HP.out _ (by omega))).mono ?_
      rintro e w' ⟨rfl, rfl⟩
      go_wp2_with fail
      refine (at_new b o p (i - 1) _ (by omega) (by omega) w hb (HP.out _ (by omega))).mono ?_
      rintro e w' ⟨rfl, rfl⟩
      go_wp2_with fail
      refine (gi1 k hk p i h0 h8 _).mono ?_
      rintro e w' ⟨rfl, rfl⟩
      go_wp2_with fail
      go_ret
      exact ⟨ret_int HG.out.symm, (Below.refl _ _).alloc (Nat.le_refl _) _⟩
    · by_cases hm : i % 8 = 0
      · have hm8 : (i : Int) % 8 = 0 := by omega
        go_enter Try.func23, Try.ntmps23
        go_wp2_with fail
        refine (at_new b o p (i - 8) _ (by omega) (by omega) w hb (HP.out _ (by omega))).mono ?_
        rintro e w' ⟨rfl, rfl⟩
        go_wp2_with fail
        refine (gi2 k hk p i h8 hm _).mono ?_
        rintro e w' ⟨rfl, rfl⟩
        go_wp2_with fail
        go_ret
        exact ⟨ret_int HG.out.symm, (Below.refl _ _).alloc (Nat.le_refl _) _⟩
      · have hm8 : ((i : Int) % 8 == 0) = false := by simp; omega
        go_enter Try.func23, Try.ntmps23
        go_wp2_with fail
        refine (at_new b o p (i - 1) _ (by omega) (by omega) w hb (HP.out _ (by omega))).mono ?_
        rintro e w' ⟨rfl, rfl⟩
        go_wp2_with fail
        refine (at_new b o p (i - 8) _ (by omega) (by omega) w hb (HP.out _ (by omega))).mono ?_
        rintro e w' ⟨rfl, rfl⟩
        go_wp2_with fail
        refine (at_new b o p (i - 9) _ (by omega) (by omega) w hb (HP.out _ (by omega))).mono ?_
        rintro e w' ⟨rfl, rfl⟩
        go_wp2_with fail
        refine (gi3 k hk p i h8 hm _).mono ?_
        rintro e w' ⟨rfl, rfl⟩
        go_wp2_with fail
        go_ret
        exact ⟨ret_int HG.out.symm, (Below.refl _ _).alloc (Nat.le_refl _) _⟩
end Go.Proofs.Ytihhcmgidgffoaa
