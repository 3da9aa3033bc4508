/- Walks of predict: the predict claims' texts, turned to this seat by genPort.py. -/
import Derived.Test.YtpdckpifhniioaaJG

set_option linter.unusedVariables false
set_option linter.unusedSimpArgs false
namespace Go.Proofs.Ytpdckpifhniioaa.Prd
open Go.RowKit
open Go.Proofs.Ytpdckpifhniioaa
section
namespace M

/-! ## The colour transform -/
def swM (r b : UInt8) : UInt8 := b + (r - b) / 2
def swU (r b : UInt8) : UInt8 := r - b
def swV (r g b : UInt8) : UInt8 := g - swM r b
def swY (r g b : UInt8) : UInt8 := swM r b + swV r g b / 2
def bkM (y v : UInt8) : UInt8 := y - v / 2
def bkB (y u v : UInt8) : UInt8 := bkM y v - u / 2
def bkR (y u v : UInt8) : UInt8 := bkB y u v + u
def bkG (y v : UInt8) : UInt8 := v + bkM y v

theorem bk_m (r g b : UInt8) : bkM (swY r g b) (swV r g b) = swM r b := by unfold bkM swY; exact UInt8.add_sub_cancel _ _
theorem bk_b (r g b : UInt8) : bkB (swY r g b) (swU r b) (swV r g b) = b := by
  unfold bkB; rw [bk_m]; unfold swM swU; exact UInt8.add_sub_cancel _ _
theorem bk_r (r g b : UInt8) : bkR (swY r g b) (swU r b) (swV r g b) = r := by
  unfold bkR; rw [bk_b]; unfold swU; rw [UInt8.add_comm]; exact UInt8.sub_add_cancel _ _
theorem bk_g (r g b : UInt8) : bkG (swY r g b) (swV r g b) = g := by
  unfold bkG; rw [bk_m]; unfold swV; exact UInt8.sub_add_cancel _ _
theorem sw_u (y u v : UInt8) : swU (bkR y u v) (bkB y u v) = u := by
  unfold swU bkR; rw [UInt8.add_comm]; exact UInt8.add_sub_cancel _ _
theorem sw_m (y u v : UInt8) : swM (bkR y u v) (bkB y u v) = bkM y v := by
  have h := sw_u y u v
  unfold swU at h
  unfold swM
  rw [h]
  unfold bkB
  exact UInt8.sub_add_cancel _ _
theorem sw_v (y u v : UInt8) : swV (bkR y u v) (bkG y v) (bkB y u v) = v := by
  unfold swV; rw [sw_m]; unfold bkG; exact UInt8.add_sub_cancel _ _
theorem sw_y (y u v : UInt8) : swY (bkR y u v) (bkG y v) (bkB y u v) = y := by
  unfold swY; rw [sw_v, sw_m]; unfold bkM; exact UInt8.sub_add_cancel _ _
theorem sw_grey (x : UInt8) : swU x x = 0 ∧ swV x x x = 0 ∧ swY x x x = x := by
  have h0 : x - x = 0 := UInt8.sub_self x
  have hm : swM x x = x := by
    unfold swM; rw [h0]
    show x + 0 / 2 = x
    rw [show (0 : UInt8) / 2 = 0 from rfl, UInt8.add_zero]
  refine ⟨h0, ?_, ?_⟩
  · unfold swV; rw [hm]; exact h0
  · unfold swY swV; rw [hm, h0, show (0 : UInt8) / 2 = 0 from rfl, UInt8.add_zero]

/-! ## The predictors -/
def dist (l u c x : Int) : Int := max (l + u - c - x) (x - l - u + c)
def paeth (l u c : Int) : Int :=
  if dist l u c u < dist l u c l then (if dist l u c c < dist l u c u then c else u)
  else (if dist l u c c < dist l u c l then c else l)
def median (l u c : Int) : Int := max (min l u) (min (max l u) (l + u - c))
def pred (k : Nat) (l u c : Int) : Int :=
  match k with
  | 1 => l
  | 2 => u
  | 3 => (l + u) / 2
  | 4 => paeth l u c
  | 5 => median l u c
  | _ => 0
def InB (x : Int) : Prop := 0 ≤ x ∧ x ≤ 255
theorem pred_in (k : Nat) (l u c : Int) (hl : InB l) (hu : InB u) (hc : InB c) : InB (pred k l u c) := by
  unfold pred
  split
  · exact hl
  · exact hu
  · unfold InB at *; omega
  · unfold paeth; split <;> split <;> assumption
  · unfold median InB at *; omega
  · exact ⟨by omega, by omega⟩
theorem pred_same (k : Nat) (x : Int) (h1 : 1 ≤ k) (h5 : k ≤ 5) : pred k x x x = x := by
  match k, h1, h5 with
  | 1, _, _ => rfl
  | 2, _, _ => rfl
  | 3, _, _ => show (x + x) / 2 = x; omega
  | 4, _, _ => show paeth x x x = x; unfold paeth; simp
  | 5, _, _ => show median x x x = x; unfold median; omega

/-! ## Residuals -/
/-- The three neighbours at index i of a plane. -/
def nbL (p : Nat → UInt8) (i : Nat) : Int := if i = 0 then 0 else if i < 8 then (p (i - 1)).toNat else if i % 8 = 0 then (p (i - 8)).toNat else (p (i - 1)).toNat
def nbU (p : Nat → UInt8) (i : Nat) : Int := if i = 0 then 0 else if i < 8 then (p (i - 1)).toNat else (p (i - 8)).toNat
def nbC (p : Nat → UInt8) (i : Nat) : Int := if i = 0 then 0 else if i < 8 then (p (i - 1)).toNat else if i % 8 = 0 then (p (i - 8)).toNat else (p (i - 9)).toNat
theorem byte_in (x : UInt8) : InB (x.toNat : Int) := by have := x.toNat_lt; unfold InB; omega
theorem zero_in : InB 0 := by unfold InB; omega
theorem nbL_in (p : Nat → UInt8) (i : Nat) : InB (nbL p i) := by unfold nbL; split; · exact zero_in
                                                                 split; · exact byte_in _
                                                                 split <;> exact byte_in _
theorem nbU_in (p : Nat → UInt8) (i : Nat) : InB (nbU p i) := by unfold nbU; split; · exact zero_in
                                                                 split <;> exact byte_in _
theorem nbC_in (p : Nat → UInt8) (i : Nat) : InB (nbC p i) := by unfold nbC; split; · exact zero_in
                                                                 split; · exact byte_in _
                                                                 split <;> exact byte_in _
/-- The prediction at index i. -/
def gi (k : Nat) (p : Nat → UInt8) (i : Nat) : Int := pred k (nbL p i) (nbU p i) (nbC p i)
theorem gi_in (k : Nat) (p : Nat → UInt8) (i : Nat) : InB (gi k p i) := pred_in _ _ _ _ (nbL_in p i) (nbU_in p i) (nbC_in p i)
def gs (k : Nat) (p : Nat → UInt8) (i : Nat) : UInt8 := UInt8.ofNat (gi k p i).toNat
theorem gs_val (k : Nat) (p : Nat → UInt8) (i : Nat) : ((gs k p i).toNat : Int) = gi k p i := by
  have h := gi_in k p i
  unfold InB at h
  unfold gs
  simp
  omega
theorem gi_congr (k : Nat) (p q : Nat → UInt8) (i : Nat) (h : ∀ m, m < i → p m = q m) : gi k p i = gi k q i := by
  have hL : nbL p i = nbL q i := by
    unfold nbL
    split; · rfl
    split; · rw [h _ (by omega)]
    split <;> rw [h _ (by omega)]
  have hU : nbU p i = nbU q i := by
    unfold nbU
    split; · rfl
    split <;> rw [h _ (by omega)]
  have hC : nbC p i = nbC q i := by
    unfold nbC
    split; · rfl
    split; · rw [h _ (by omega)]
    split
    · rw [h _ (by omega)]
    · rw [h _ (by omega)]
  unfold gi
  rw [hL, hU, hC]
theorem gs_congr (k : Nat) (p q : Nat → UInt8) (i : Nat) (h : ∀ m, m < i → p m = q m) : gs k p i = gs k q i := by
  unfold gs; rw [gi_congr k p q i h]
/-- Plane q of four planes that lie one behind the other. -/
def pl (p : Nat → UInt8) (q : Nat) : Nat → UInt8 := fun i => p (64 * q + i)
/-- The residual at place j. -/
def res (k : Nat) (p : Nat → UInt8) (j : Nat) : UInt8 := p j - gs k (pl p (j / 64)) (j % 64)
def tab (n : Nat) (f : Nat → UInt8) : List UInt8 := (List.range n).map f
theorem tab_length (n : Nat) (f : Nat → UInt8) : (tab n f).length = n := by simp [tab]
theorem tab_get (n : Nat) (f : Nat → UInt8) (i : Nat) (h : i < (tab n f).length) : (tab n f)[i] = f i := by simp [tab]
theorem tab_get? (n : Nat) (f : Nat → UInt8) (i : Nat) (h : i < n) : (tab n f)[i]? = some (f i) := by simp [tab, h]
theorem tab_congr (n : Nat) (f g : Nat → UInt8) (h : ∀ i, i < n → f i = g i) : tab n f = tab n g := by
  unfold tab; exact List.map_congr_left fun i hi => h i (by simpa using hi)
theorem tab_inj (n : Nat) (f g : Nat → UInt8) (h : tab n f = tab n g) : ∀ i, i < n → f i = g i := by
  intro i hi
  have h1 := tab_get? n f i hi
  rw [h, tab_get? n g i hi] at h1
  exact (Option.some.inj h1).symm
theorem tab_succ (n : Nat) (f : Nat → UInt8) : tab (n + 1) f = tab n f ++ [f n] := by simp [tab, List.range_succ]
theorem tab_add (n m : Nat) (f : Nat → UInt8) : tab (n + m) f = tab n f ++ tab m (fun i => f (n + i)) := by
  induction m with
  | zero => simp [tab]
  | succ m ih => rw [← Nat.add_assoc, tab_succ, ih, tab_succ, List.append_assoc]
theorem tab_of (l : List UInt8) : tab l.length (fun i => l.getD i 0) = l := by
  apply List.ext_getElem
  · exact tab_length _ _
  · intro i h1 h2
    rw [tab_get]; simp [h2]

theorem res_congr (k : Nat) (p q : Nat → UInt8) (j : Nat) (h : ∀ m, 64 * (j / 64) ≤ m → m ≤ j → p m = q m) : res k p j = res k q j := by
  unfold res
  rw [h j (by omega) (Nat.le_refl _), gs_congr k (pl p (j / 64)) (pl q (j / 64)) (j % 64) (fun m hm => h _ (by omega) (by omega))]

/-! ## The inverse -/
def put (p : Nat → UInt8) (j : Nat) (v : UInt8) : Nat → UInt8 := fun i => if i = j then v else p i
theorem put_same (p : Nat → UInt8) (j : Nat) (v : UInt8) : put p j v j = v := by simp [put]
theorem put_other (p : Nat → UInt8) (j : Nat) (v : UInt8) (i : Nat) (h : i ≠ j) : put p j v i = p i := by simp [put, h]
/-- What has been decoded of s in n steps. -/
def unp (k : Nat) (s : Nat → UInt8) : Nat → Nat → UInt8
  | 0 => fun _ => 0
  | n + 1 => put (unp k s n) n (s n + gs k (pl (unp k s n) (n / 64)) (n % 64))
theorem unp_later (k : Nat) (s : Nat → UInt8) (n j : Nat) (h : j < n) : unp k s n j = unp k s (j + 1) j := by
  induction n with
  | zero => omega
  | succ n ih =>
    by_cases e : j = n
    · subst e; rfl
    · have : unp k s (n + 1) j = unp k s n j := put_other _ _ _ _ e
      rw [this, ih (by omega)]
theorem unp_at (k : Nat) (s : Nat → UInt8) (n j : Nat) (h : j < n) : unp k s n j = s j + gs k (pl (unp k s n) (j / 64)) (j % 64) := by
  rw [unp_later k s n j h]
  show put _ _ _ _ = _
  rw [put_same]
  congr 1
  refine gs_congr _ _ _ _ fun m hm => ?_
  show unp k s j (64 * (j / 64) + m) = unp k s n (64 * (j / 64) + m)
  rw [unp_later k s n _ (by omega), unp_later k s j _ (by omega)]
theorem res_unp (k : Nat) (s : Nat → UInt8) (n j : Nat) (h : j < n) : res k (unp k s n) j = s j := by
  unfold res
  rw [unp_at k s n j h]
  exact UInt8.add_sub_cancel _ _
theorem unp_res (k : Nat) (p : Nat → UInt8) (n : Nat) : ∀ j, j < n → unp k (res k p) n j = p j := by
  intro j
  induction j using Nat.strongRecOn with
  | _ j ih =>
    intro hj
    rw [unp_at k _ n j hj]
    have : gs k (pl (unp k (res k p) n) (j / 64)) (j % 64) = gs k (pl p (j / 64)) (j % 64) := gs_congr _ _ _ _ fun m hm => by
      show unp k (res k p) n (64 * (j / 64) + m) = p (64 * (j / 64) + m)
      exact ih _ (by omega) (by omega)
    rw [this]
    unfold res
    exact UInt8.sub_add_cancel _ _
theorem unp_congr (k : Nat) (s t : Nat → UInt8) : ∀ n, (∀ j, j < n → s j = t j) → unp k s n = unp k t n
  | 0, _ => rfl
  | n + 1, h => by
    show put _ _ _ = put _ _ _
    rw [unp_congr k s t n (fun j hj => h j (by omega)), h n (by omega)]

/-! ## Cost -/
def cb (b : UInt8) : Nat := min b.toNat (256 - b.toNat)
def cost (l : List UInt8) : Nat := (l.map cb).sum
theorem cost_append (l m : List UInt8) : cost (l ++ m) = cost l + cost m := by simp [cost]
theorem cost_cons (b : UInt8) (m : List UInt8) : cost (b :: m) = cb b + cost m := by simp [cost]
theorem cost_reverse (l : List UInt8) : cost l.reverse = cost l := by
  induction l with
  | nil => rfl
  | cons b l ih => rw [List.reverse_cons, cost_append, cost_cons, ih]; simp [cost]; omega
theorem cb_le (b : UInt8) : cb b ≤ 128 := by have := b.toNat_lt; unfold cb; omega
theorem cost_le (l : List UInt8) : cost l ≤ 128 * l.length := by
  induction l with
  | nil => simp [cost]
  | cons b l ih => rw [cost_cons, List.length_cons]; have := cb_le b; omega
theorem cb_zero (b : UInt8) : cb b = 0 ↔ b = 0 := by
  have := b.toNat_lt
  rw [← UInt8.toNat_inj]
  show min _ _ = 0 ↔ b.toNat = 0
  omega
theorem cost_zero (l : List UInt8) : cost l = 0 ↔ ∀ b ∈ l, b = 0 := by
  induction l with
  | nil => simp [cost]
  | cons b l ih =>
    rw [cost_cons, List.forall_mem_cons, ← ih, ← cb_zero]
    omega
end M
end
end Go.Proofs.Ytpdckpifhniioaa.Prd
