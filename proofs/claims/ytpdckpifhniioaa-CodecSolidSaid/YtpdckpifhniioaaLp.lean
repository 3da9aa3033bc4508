/- Small steps at the ends of rounds: growing slices, plain cells. No function of the program is in sight. -/
import Derived.Test.YtpdckpifhniioaaRl
set_option linter.unusedVariables false
namespace Go.Proofs.Ytpdckpifhniioaa
open Go.RowKit
namespace Ab
def Plain (l : List Leaf) : Prop := ∀ x ∈ l, ∃ v, x = .v v
theorem Plain.nil : Plain [] := fun x h => by cases h
theorem Plain.cons {v : Value} {l : List Leaf} (h : Plain l) : Plain (.v v :: l) := fun x hx => by
  cases hx with
  | head => exact ⟨v, rfl⟩
  | tail _ hx => exact h x hx
theorem Plain.append {l m : List Leaf} (h : Plain l) (k : Plain m) : Plain (l ++ m) := fun x hx => by
  rcases List.mem_append.1 hx with hx | hx
  · exact h x hx
  · exact k x hx
theorem plain_tl (t : Nat → UInt8) : Plain (tl t) := tl_plain t
theorem plain_rws (l : List TA) : Plain (rws l) := rws_plain l
theorem plain_sbytes (s : ByteArray) : Plain (sbytes s) := fun x hx => by
  simp only [sbytes, List.mem_map] at hx
  obtain ⟨b, _, rfl⟩ := hx
  exact ⟨_, rfl⟩
section
variable {P : Program} {S : St} {l : List (Nat × Option Nat)} {n t id j : Nat}
theorem LeR.sl_int {k : IntKind} {x y : Int} (h : S.sl t = iv k y) (e : y = x) : LeR l n (S.sl t) (iv k x) := by
  rw [h, e]; exact LeR.of rfl
theorem LeR.sl_o {m m' : Nat} (h : S.sl t = .c (.l (.o j m))) (hr : ri l n j = some id) (e : m = m') : LeR l n (S.sl t) (.c (.l (.o id m'))) := by
  rw [h, e]; exact LeR.of (by simp [SV.rn, Cp.rn, Leaf.rn, hr])
theorem LeR.sl {v : SV} (h : S.sl t = v) (hl : v.rn (ri l n) = some v) : LeR l n (S.sl t) v := by rw [h]; exact LeR.of hl
theorem LeR.sl_plain {cs : List Leaf} (h : S.sl t = .c (.agg cs)) (hp : Plain cs) : LeR l n (S.sl t) (.c (.agg cs)) := by
  rw [h]; refine LeR.of ?_
  simp only [SV.rn, Cp.rn, rnLs_plain _ cs hp]
theorem LeN.sl_plain {cs : List Leaf} (h : S.sl t = .c (.agg cs)) (hp : Plain cs) : LeN n (S.sl t) (.c (.agg cs)) := by
  rw [h]; refine LeN.of rfl ?_
  simp only [ltN, SV.rn, Cp.rn, rnLs_plain _ cs hp, Option.isSome_some]
theorem LeN.sl_o {m m' : Nat} (h : S.sl t = .c (.l (.o id m))) (hi : Nat.blt id n = true) (e : m = m') : LeN n (S.sl t) (.c (.l (.o id m'))) := by
  rw [h, e]; refine LeN.of rfl ?_
  simp only [ltN, SV.rn, Cp.rn, Leaf.rn, rnId, hi, Option.isSome_some]
theorem BkM.plain {cs cs' : List Leaf} {b b' : BT} (h : S.blk j = some ⟨cs, b⟩) (e : cs = cs') (hp : Plain cs') (hb : b.rn (ri l n) = some b') : BkM l n (S.blk j) ⟨cs', b'⟩ := by
  subst e
  rw [h]; refine BkM.of ?_
  unfold Blk.rn
  simp only [rnLs_plain _ cs hp, hb]
theorem BkN.plain {cs cs' : List Leaf} {b : BT} (h : S.blk id = some ⟨cs, b⟩) (e : cs = cs') (hp : Plain cs') (hb : (b.rn (rnId n 0 [])).isSome = true) : BkN n (S.blk id) ⟨cs', b⟩ := by
  subst e
  rw [h]; refine BkN.of rfl ?_
  unfold blkLt
  simp only [rnLs_plain _ cs hp, hb, Option.isSome_some, Bool.and_self]
theorem BkM.blk {k k'' k' : Blk} (h : S.blk j = some k) (hr : k.rn (ri l n) = some k'') (e : k'' = k') : BkM l n (S.blk j) k' := by
  rw [h]; subst e; exact BkM.of hr
theorem BkR.plain {ρ : Nat → Option Nat} {cs cs' : List Leaf} {b b' : BT} (e : cs = cs') (hp : Plain cs') (hb : b.rn ρ = some b') : BkR ρ ⟨cs, b⟩ ⟨cs', b'⟩ := by
  subst e
  refine BkR.of ?_
  unfold Blk.rn
  simp only [rnLs_plain _ cs hp, hb]
theorem blkLt_plain {cs : List Leaf} {b : BT} (hp : Plain cs) (hb : (b.rn (rnId n 0 [])).isSome = true) : blkLt n ⟨cs, b⟩ = true := by
  unfold blkLt
  simp only [rnLs_plain _ cs hp, hb, Option.isSome_some, Bool.and_self]
end
/-- The end of a round, told by the number of names. -/
theorem RoundTo.toN {P : Program} {c : Code} {n : Nat} {K : Exit → St → Prop} (N : Nat) {E : List (Nat × SV)} {H : List (Nat × Option Blk)} {m q : Nat} {W : List Nat} (S : St) (hn : n ≤ S.n) (hb : wkB ⟨E, H, N, m, W, q⟩ S = true) (hE : wkE ⟨E, H, N, m, W, q⟩ S.n S.E) (hH : wkH ⟨E, H, N, m, W, q⟩ S.n S.H) (h : WPL P c S K) : RoundTo P c n K ⟨E, H, N, m, W, q⟩ := RoundTo.to S hn hb hE hH h
theorem RoundTo.reN {P : Program} {c : Code} {n : Nat} {K : Exit → St → Prop} (N : Nat) {E : List (Nat × SV)} {H : List (Nat × Option Blk)} {m q : Nat} {W : List Nat} (l : List (Nat × Option Nat)) (S : St) (hb : wkBR l ⟨E, H, N, m, W, q⟩ S = true) (hE : wkER l ⟨E, H, N, m, W, q⟩ S.n S.E) (hH : wkHR l ⟨E, H, N, m, W, q⟩ S.n S.H) (h : WPL P c S K) : RoundTo P c n K ⟨E, H, N, m, W, q⟩ := RoundTo.re l S hb hE hH h
/-- So many elements may be asked for. -/
theorem apB {P : Program} {e need bytes : Nat} (h : (P.info? e).map (·.bytes) = some bytes) (k : need * (bytes + 1) ≤ 140737488355328) : ApB P e need := fun i hi => by
  rw [hi] at h
  cases h
  exact k
/-! ### Bytes -/
def tb (t : Nat → UInt8) (m : Nat) : List Leaf := (List.range m).map fun i => ub (t i)
theorem tb_len (t : Nat → UInt8) (m : Nat) : (tb t m).length = m := by simp [tb]
theorem tb_all (t : Nat → UInt8) (m : Nat) : AllB (tb t m) := fun x hx => by
  simp only [tb, List.mem_map] at hx
  obtain ⟨i, _, rfl⟩ := hx
  exact ⟨_, rfl⟩
theorem tb_plain (t : Nat → UInt8) (m : Nat) : Plain (tb t m) := fun x hx => by
  obtain ⟨b, rfl⟩ := tb_all t m x hx
  exact ⟨_, rfl⟩
theorem tb_str (t : Nat → UInt8) (m : Nat) : strL (tb t m) = ⟨((List.range m).map t).toArray⟩ := by
  unfold strL tb
  congr 2
  rw [List.map_map]
  apply List.map_congr_left
  intro i _
  simp [lfB]
theorem tb_four (t : Nat → UInt8) (m : Nat) : tb t m ++ [ub (t m), ub (t (m + 1)), ub (t (m + 2)), ub (t (m + 3))] = tb t (m + 4) := by
  simp [tb, List.range_succ]
end Ab
end Go.Proofs.Ytpdckpifhniioaa
