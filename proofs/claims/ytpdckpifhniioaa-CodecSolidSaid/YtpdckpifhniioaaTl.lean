/- Tiles as functions of their cells' numbers. -/
import Derived.Test.YtpdckpifhniioaaC1
import Derived.Test.YtpdckpifhniioaaX
import Derived.Laws.StructEq
import Derived.DeepKeys
set_option linter.unusedVariables false
namespace Go.Proofs.Ytpdckpifhniioaa
open Go.RowKit
namespace Ab
abbrev u8 (n : Int) : Leaf := .v (.int .u8 n)
abbrev ub (b : UInt8) : Leaf := u8 (b.toNat : Nat)
/-- The cells of a tile. -/
def tl (t : Nat → UInt8) : List Leaf := (List.range 256).map fun i => ub (t i)
theorem tl_len (t : Nat → UInt8) : (tl t).length = 256 := by simp [tl]
theorem tl_at (t : Nat → UInt8) {i : Nat} (h : i < 256) : (tl t)[i]? = some (ub (t i)) := by simp [tl, h]
theorem tl_none (t : Nat → UInt8) {i : Nat} (h : ¬ i < 256) : (tl t)[i]? = none := by simp [tl]; omega
theorem tl_getD (t : Nat → UInt8) {i : Nat} (h : i < 256) : (tl t).getD i .u = ub (t i) := by rw [List.getD_eq_getElem?_getD, tl_at t h]; rfl
/-- A pixel of a tile. -/
def px (t : Nat → UInt8) (k : Nat) : List Leaf := [ub (t (4 * k)), ub (t (4 * k + 1)), ub (t (4 * k + 2)), ub (t (4 * k + 3))]
theorem tl_pix (t : Nat → UInt8) {k : Nat} (h : k < 64) : ((tl t).drop (k * 4)).take 4 = px t k := by
  apply List.ext_getElem?
  intro j
  rw [List.getElem?_take]
  split
  · rename_i hj
    rw [List.getElem?_drop, tl_at t (by omega), Nat.mul_comm k 4]
    unfold px
    match j, hj with
    | 0, _ => rfl
    | 1, _ => rfl
    | 2, _ => rfl
    | 3, _ => rfl
  · rename_i hj
    unfold px
    rw [List.getElem?_eq_none (by simp; omega)]
def setP (t : Nat → UInt8) (k : Nat) (a b c d : UInt8) : Nat → UInt8 := fun i => if i = 4 * k then a else if i = 4 * k + 1 then b else if i = 4 * k + 2 then c else if i = 4 * k + 3 then d else t i
theorem tl_set (t : Nat → UInt8) {k : Nat} (h : k < 64) (a b c d : UInt8) : splice (tl t) (k * 4) [ub a, ub b, ub c, ub d] = tl (setP t k a b c d) := by
  apply List.ext_getElem?
  intro j
  simp only [splice]
  by_cases hj : j < 256
  · rw [tl_at _ hj]
    simp only [List.getElem?_set, List.length_set, tl_len]
    unfold setP
    by_cases h0 : j = 4 * k
    · subst h0
      rw [if_neg (by omega), if_neg (by omega), if_neg (by omega), if_pos (by omega), if_pos (by omega), if_pos rfl]
    · by_cases h1 : j = 4 * k + 1
      · subst h1
        rw [if_neg (by omega), if_neg (by omega), if_pos (by omega), if_pos (by omega), if_neg (by omega), if_pos rfl]
      · by_cases h2 : j = 4 * k + 2
        · subst h2
          rw [if_neg (by omega), if_pos (by omega), if_pos (by omega), if_neg (by omega), if_neg (by omega), if_pos rfl]
        · by_cases h3 : j = 4 * k + 3
          · subst h3
            rw [if_pos (by omega), if_pos (by omega), if_neg (by omega), if_neg (by omega), if_neg (by omega), if_pos rfl]
          · rw [if_neg (by omega), if_neg (by omega), if_neg (by omega), if_neg (by omega), tl_at _ hj, if_neg h0, if_neg h1, if_neg h2, if_neg h3]
  · rw [tl_none _ hj]
    rw [List.getElem?_eq_none]
    simp only [List.length_set, tl_len]
    omega
theorem tl_ext {t u : Nat → UInt8} (h : ∀ i, i < 256 → t i = u i) : tl t = tl u := by
  apply List.ext_getElem?
  intro j
  by_cases hj : j < 256
  · rw [tl_at _ hj, tl_at _ hj, h j hj]
  · rw [tl_none _ hj, tl_none _ hj]
def zT : Nat → UInt8 := fun _ => 0
theorem tl_zero : List.replicate 256 (u8 0) = tl zT := by kernel_rfl
/-! ### Equality of keys -/
theorem eq_key {t m D D' : Nat} (hk : Try.prog.keyTypeAt m t = true) (hm : m ≤ 10000) (hg : Try.prog.eqGuardType Try.prog.depth t = false) {xs ys : List Value} {la lb : List Lit} (hlx : ∀ y ∈ xs, leafy y = true) (hly : ∀ y ∈ ys, leafy y = true)
    (fx : (Value.agg xs.toArray).formed Try.prog t = true) (fy : (Value.agg ys.toArray).formed Try.prog t = true) (hx : Try.prog.keyLits D t xs = some la) (hy : Try.prog.keyLits D' t ys = some lb) (b : Bool) (hb : b = true ↔ la = lb) :
    EqOK Try.prog t (xs.map .v) (ys.map .v) b := by
  intro β u v x y w hu hv
  have pl : ∀ {l : List Value}, (∀ y ∈ l, leafy y = true) → plLs (l.map .v) = some l := by
    intro l hl
    induction l with
    | nil => rfl
    | cons a l ih =>
      simp only [List.map_cons, plLs, Leaf.pl, hl a (by simp), ih (fun y hy => hl y (by simp [hy]))]
  have hu' := (plLs_iff (pl hlx) β u).1 hu
  have hv' := (plLs_iff (pl hly) β v).1 hv
  subst hu' hv'
  obtain ⟨r, hr, hiff⟩ := run_equalIn_deep (P := Try.prog) (10000 - m) m t hk w D D' (.agg u.toArray) (.agg v.toArray) la lb fx fy (by simpa [Value.cells] using hx) (by simpa [Value.cells] using hy)
  rw [show 10000 - m + m = 10000 by omega] at hr
  have hrb : r = b := by
    cases r <;> cases b <;> simp_all
  subst hrb
  have g : ∀ op, (eqGuard op t x y (.agg u.toArray) (.agg v.toArray)).run Try.prog w = .ok () w := by
    intro op; unfold eqGuard; cases op <;> simp [Sem.run_bind, hg, go_sem]
  constructor
  · rw [Sem.run_bind, g, Result.andThen_ok, run_eql_struct, hr]; rfl
  · rw [Sem.run_bind, g, Result.andThen_ok, run_neq_struct, hr]; rfl
end Ab
end Go.Proofs.Ytpdckpifhniioaa
