/- Walks of predict: the predict claims' texts, turned to this seat by genPort.py. -/
import Derived.Test.YtpdckpifhniioaaPr1
import Derived.Deep.MidRow
import Derived.Deep.WholeRow
import Derived.Deep.RegionHeld3
import Derived.Deep.DrawnRows
set_option linter.unusedVariables false
set_option linter.unusedSimpArgs false
namespace Go.Proofs.Ytpdckpifhniioaa.Prd
open Go.RowKit
open Go.Proofs.Ytpdckpifhniioaa
section

/-- The cells of n bytes. -/
def cf (n : Nat) (f : Nat → UInt8) : Array Value := ((List.range n).map fun i => Value.int .u8 ((f i).toNat : Int)).toArray
theorem cf_size (n : Nat) (f : Nat → UInt8) : (cf n f).size = n := by simp [cf]
theorem cf_at (n : Nat) (f : Nat → UInt8) (i : Nat) (h : i < n) : (cf n f)[i]? = some (.int .u8 ((f i).toNat : Int)) := by simp [cf, h]
theorem cf_none (n : Nat) (f : Nat → UInt8) (i : Nat) (h : n ≤ i) : (cf n f)[i]? = none := by simp [cf, h]
theorem cf_congr (n : Nat) (f g : Nat → UInt8) (h : ∀ i, i < n → f i = g i) : cf n f = cf n g := by
  unfold cf
  congr 1
  exact List.map_congr_left fun i hi => by rw [h i (by simpa using hi)]
theorem cf_set (n : Nat) (f : Nat → UInt8) (i : Nat) (v : UInt8) : (cf n f).setIfInBounds i (.int .u8 (v.toNat : Int)) = cf n (M.put f i v) := by
  apply Array.ext_getElem?
  intro j
  rw [Array.getElem?_setIfInBounds]
  by_cases hj : j < n
  · rw [cf_at n (M.put f i v) j hj]
    by_cases e : i = j
    · subst e; rw [if_pos rfl, if_pos (by rw [cf_size]; exact hj), M.put_same]
    · rw [if_neg e, cf_at n f j hj, M.put_other _ _ _ _ (fun h => e h.symm)]
  · rw [cf_none n (M.put f i v) j (by omega)]
    by_cases e : i = j
    · subst e; rw [if_pos rfl, if_neg (by rw [cf_size]; exact hj)]
    · rw [if_neg e, cf_none n f j (by omega)]
theorem cf_one (n : Nat) (f : Nat → UInt8) : (cf n f).all (·.oneCell') = true := by
  rw [Array.all_eq_true]
  intro i hi
  have h := cf_at n f i (by rw [cf_size] at hi; exact hi)
  rw [Array.getElem?_eq_getElem hi] at h
  rw [Option.some.inj h]; rfl
theorem cf_inj (n : Nat) (f g : Nat → UInt8) (h : cf n f = cf n g) (i : Nat) (hi : i < n) : f i = g i := by
  have h1 := cf_at n f i hi
  rw [h, cf_at n g i hi] at h1
  simp at h1
  exact UInt8.toNat_inj.1 (by omega)
theorem cf_extract (n : Nat) (f : Nat → UInt8) (o m : Nat) (h : o + m ≤ n) : (cf n f).extract o (o + m) = cf m (fun i => f (o + i)) := by
  apply Array.ext_getElem?
  intro j
  rw [Array.getElem?_extract]
  by_cases hj : j < m
  · rw [if_pos (by rw [cf_size]; omega), cf_at n f _ (by omega), cf_at m _ j hj]
  · rw [if_neg (by rw [cf_size]; omega), cf_none m _ j (by omega)]
theorem cf_tab (n : Nat) (f : Nat → UInt8) : (cf n f).toList = bvals (M.tab n f) := by simp [cf, bvals, M.tab]
theorem cf4 (f : Nat → UInt8) : cf 4 f = #[.int .u8 ((f 0).toNat : Int), .int .u8 ((f 1).toNat : Int), .int .u8 ((f 2).toNat : Int), .int .u8 ((f 3).toNat : Int)] := by rfl

/-- Block g holds the n bytes f. -/
def Bk (g : Nat) (t : TypeId) (n : Nat) (f : Nat → UInt8) (w : World) : Prop := w.heap[g]? = some (.cells (cf n f) t (0, 0))
theorem Bk.lt {g t n f w} (h : Bk g t n f w) : g < w.heap.size := by
  rcases Nat.lt_or_ge g w.heap.size with h' | h'
  · exact h'
  · unfold Bk at h; rw [Array.getElem?_eq_none h'] at h; simp at h
theorem Bk.cell {g t n f w} (h : Bk g t n f w) (i : Nat) (hi : i < n) : w.cell? ⟨g, i, none⟩ = some (.int .u8 ((f i).toNat : Int)) := by
  rw [cell_of_row w g i _ _ _ h]; exact cf_at n f i hi
theorem Bk.free {g t n f w} (h : Bk g t n f w) (i : Nat) : w.frozen? ⟨g, i, none⟩ = false := frozen_of_row w g i _ _ h
theorem Bk.set {g t n f w} (h : Bk g t n f w) (i : Nat) (v : UInt8) : Bk g t n (M.put f i v) (w.setCell ⟨g, i, none⟩ (.int .u8 (v.toNat : Int))) := by
  unfold Bk
  rw [heap_setCell_same _ _ _ _ _ _ h, cf_set]
theorem Bk.other {g t n f w} (h : Bk g t n f w) (a : Addr) (v : Value) (hne : g ≠ a.block) : Bk g t n f (w.setCell a v) := by
  unfold Bk
  rw [heap_setCell_other _ _ _ _ hne]; exact h
theorem Bk.keep {g t n f w w1} (h : Bk g t n f w) (hb : Below w.heap.size w w1) : Bk g t n f w1 := by
  have hl := h.lt
  unfold Bk at h ⊢
  rw [hb.block _ hl]; exact h
theorem Bk.drew {g t n f w} (h : Bk g t n f w) : Bk g t n f w.drew := h
theorem Bk.alloc {g t n f w} (h : Bk g t n f w) (o : Obj) : Bk g t n f (w.alloc o) := h.keep ((Below.refl _ _).alloc (Nat.le_refl _) o)
theorem Bk.new (w : World) (t : TypeId) (n : Nat) (f : Nat → UInt8) : Bk w.heap.size t n f (w.alloc (.cells (cf n f) t)) := heap_alloc_new _ _
theorem Bk.congr {g t n f f' w} (h : Bk g t n f w) (he : ∀ i, i < n → f i = f' i) : Bk g t n f' w := by
  unfold Bk at h ⊢
  rw [h, cf_congr n f f' he]

theorem Try.zero123 (w : World) : (zeroValue 123).run Try.prog w = .ok (.agg (cf 256 fun _ => 0)) w := by kernel_rfl
theorem Try.zero27 (w : World) : (zeroValue 27).run Try.prog w = .ok (.agg (cf 256 fun _ => 0)) w := by kernel_rfl
theorem Try.zero122 (w : World) : (zeroValue 122).run Try.prog w = .ok (.agg (cf 64 fun _ => 0)) w := by kernel_rfl
theorem Try.size123 : (Try.prog.info? 123).map (·.size) = some 256 := by kernel_rfl
theorem Try.size27 : (Try.prog.info? 27).map (·.size) = some 256 := by kernel_rfl
theorem Try.size122 : (Try.prog.info? 122).map (·.size) = some 64 := by kernel_rfl
theorem Try.size23 : (Try.prog.info? 23).map (·.size) = some 4 := by kernel_rfl

/-- Pixel i of a tile. -/
def px (t : Nat → UInt8) (i : Nat) : Array Value := #[.int .u8 ((t (4 * i)).toNat : Int), .int .u8 ((t (4 * i + 1)).toNat : Int), .int .u8 ((t (4 * i + 2)).toNat : Int), .int .u8 ((t (4 * i + 3)).toNat : Int)]
theorem run_index_pix (t : Nat → UInt8) (i : Nat) (h : i < 64) (w : World) : (Instr.index 27 (.agg (cf 256 t)) (.int .i64 i)).run Try.prog w = .ok (.agg (px t i)) w := by
  have hp : (cf 256 t).extract (i * 4) (i * 4 + 4) = px t i := by
    rw [cf_extract 256 t _ _ (by omega), cf4, Nat.mul_comm]; rfl
  have hu := Try.underlying27
  cases hq : Try.prog.info? 23 with
  | none => have := Try.size23; rw [hq] at this; simp at this
  | some inf =>
    have hs : inf.size = 4 := by have := Try.size23; rw [hq] at this; simpa using this
    simp [Instr.index, asIntOf, Sem.run_bind, run_underlying hu, h, part, sizeOf, typeInfo, hq, hs, hp]
end
section

theorem range_cf {g : Nat} {t : TypeId} {N : Nat} {f : Nat → UInt8} {w : World} (h : Bk g t N f w) (o n : Nat) (hle : o + n ≤ N) : w.rangeAt g o (cf n fun i => f (o + i)).toList := by
  intro j v hj
  rw [Array.getElem?_toList] at hj
  have hjn : j < n := by
    rcases Nat.lt_or_ge j n with h' | h'
    · exact h'
    · rw [cf_none n _ j h'] at hj; simp at hj
  rw [cf_at n _ j hjn] at hj
  rw [h.cell (o + j) (by omega), ← hj]
section
variable {ops : Array Oper} {rest : List Oper} {op : Oper} {a : Act} {w : World} {Q : Exit → Act → World → Prop}
theorem wp_load_cf (hgd : op.guard = none) (ty : TypeId) (x : Operand) (ho : op.op = .load ty x) (b o n N : Nat) (t : TypeId) (f : Nat → UInt8) (hx : a.eval x = .pointer (some ⟨b, o, none⟩))
    (d : TypeDesc) (hB : Bk b t N f w) (hle : o + n ≤ N) (hu : Try.prog.underlying ty = some d) (hd : d.isRow = true) (hi : (Try.prog.info? ty).map (·.size) = some n)
    (h : wpList Try.prog ops Q rest (a.put op.dst (.agg (cf n fun i => f (o + i)))) w) : wpList Try.prog ops Q (op :: rest) a w :=
  wpList_load_mid hgd ty x ho b o hx (cf n fun i => f (o + i)).toList d (range_cf hB o n hle) hu hd (by rw [hi, Array.length_toList, cf_size]) (by rw [Array.toArray_toList]; exact h)
theorem wp_store_cf (W : World) (hgd : op.guard = none) (ty : TypeId) (x y : Operand) (ho : op.op = .store ty x y) (hd : op.dst = none) (g : Nat) (hg : g = W.heap.size) (n : Nat) (f f0 : Nat → UInt8) (hx : a.eval x = .pointer (some ⟨g, 0, none⟩)) (hy : a.eval y = .agg (cf n f))
    (hi : (Try.prog.info? ty).map (·.size) = some n) (t : TypeId)
    (h : wpList Try.prog ops Q rest (a.put op.dst undef) (W.alloc (.cells (cf n f) t))) : wpList Try.prog ops Q (op :: rest) a (W.alloc (.cells (cf n f0) t)) := by
  subst hg
  refine wpList_store_row hgd ty x y ho W.heap.size (cf n f) hx hy t (cf n f0) (heap_alloc_new _ _) (by rw [hi, cf_size]) (by rw [cf_size, cf_size]) (cf_one _ _) ?_
  rw [World.setRow_alloc_new]
  exact h
/-- 'append(v, x...)' of a window of a block of bytes, v nil or of the call's own. -/
theorem wp_append_cf (hgd : op.guard = none) (s x : Operand) (ho : op.op = .call { callee := .builtin .append, args := #[s, x], argTypes := #[46, 46] })
    (base : Nat) (v : Value) (n : Nat) (l : List UInt8) (hs : a.eval s = v) (hown : w.ownsRow base 5 1 v n (bvals l)) (g o m c N : Nat) (t : TypeId) (f : Nat → UInt8) (hB : Bk g t N f w)
    (hx : a.eval x = .slice (some ⟨g, o, none⟩) m c) (hle : o + m ≤ N) (hlen : n + m ≤ 140737488355328) (hbase : base ≤ w.heap.size)
    (h : ∀ v' w', w'.ownsRow base 5 1 v' (n + m) (bvals (l ++ M.tab m fun i => f (o + i))) → w.grownBy w' v.ownBlock → wpList Try.prog ops Q rest (a.put op.dst v') w') : wpList Try.prog ops Q (op :: rest) a w := by
  obtain ⟨i0, hi, hz0, hz1, hz2⟩ := info_parts Try.info5
  refine wpList_append_own _ hgd s x 46 ho base 5 i0 (.int .u8 0) 1 1 Try.underlying46 hi hz0 hz1 hz2 rfl (by decide) v n (bvals l) hs hown ⟨g, o, none⟩ m c (cf m fun i => f (o + i)).toList hx (by rw [Array.length_toList, cf_size]; omega)
    (fun j u hj => by rw [Addr.add_mid]; exact range_cf hB o m hle j u hj) (fun u hu => ?_) (by unfold maxLen; omega) (by omega) hbase fun v' w' h1 h2 _ => h v' w' (by rw [bvals_append, ← cf_tab]; exact h1) h2
  have := cf_one m fun i => f (o + i)
  rw [Array.all_eq_true] at this
  rw [Array.mem_toList_iff] at hu
  obtain ⟨i, hi, rfl⟩ := Array.mem_iff_getElem.1 hu
  exact this i hi
end

set_option maxRecDepth 100000 in
set_option maxHeartbeats 400000 in
theorem concat_any (g : Nat) (f : Nat → UInt8) (w : World) (h : Bk g 123 256 f w) :
    Calls Try.prog 73 #[.slice (some ⟨g, 0, none⟩) 4 4] w fun e w' => e = .returned (.string ⟨(M.tab 256 f).toArray⟩) ∧ Below w.heap.size w w' := by
  have hz := Try.zero122
  go_enter Try.func73, Try.ntmps73
  go_wp2_with fail
  clear hz
  go_loopw [3, 8] (fun v a wr => ∃ q : Nat, q ≤ 4 ∧ a = .int .i64 q ∧ wr.ownsRow w.heap.size 5 1 v (q * 64) (bvals (M.tab (q * 64) f)) ∧ Bk g 123 256 f wr ∧ Below w.heap.size w wr) (fun _ a _ => 4 - (intOf a).toNat)
  case atStart => exact ⟨0, by omega, rfl, World.ownsRow_nil _ _ _ _, h, Below.refl _ _⟩
  case round =>
    obtain ⟨q, hq, rfl, hown, hB, hb⟩ := hrel
    by_cases hq4 : q < 4
    · have hz := Try.zero122
      go_wp2_with (first
        | (refine wp_load_cf rfl 122 _ rfl g (q * 64) 64 256 123 f rfl _ hB (by omega) Try.underlying122 rfl Try.size122 ?_)
        | (refine wp_store_cf wr rfl 122 _ _ rfl rfl wr.heap.size rfl 64 _ (fun _ => 0) rfl rfl Try.size122 122 ?_)
        | (at_builtin; refine wp_append_cf rfl _ _ rfl w.heap.size _ (q * 64) _ rfl (hown.alloc _) wr.heap.size 0 64 64 64 122 (fun i => f (q * 64 + i)) (Bk.new wr 122 64 _) rfl (by omega) (by omega) (by rw [World.size_alloc]; have := hb.size; omega) ?_; intro v' w' hown' hgr))
      go_roundw
      case rel =>
        refine ⟨q + 1, by omega, by go_num, ?_, ?_, ?_⟩
        · rw [show (q + 1) * 64 = q * 64 + 64 by omega, M.tab_add]
          simpa using hown'
        · have hlt := h.lt
          have h1 : Bk g 123 256 f (wr.alloc (.cells (cf 64 fun i => f (q * 64 + i)) 122)) := hB.alloc _
          unfold Bk at h1 ⊢
          rw [hgr.block g (by rw [World.size_alloc]; have := hb.size; omega) (fun e => by have := (hown.lt g e.symm).1; omega)]
          exact h1
        · exact (hb.alloc hb.size _).grown hgr (by rw [World.size_alloc]; have := hb.size; omega) (fun k hk => (hown.lt k hk).1)
      case measure => simp [intOf]; omega
    · have hq4' : q = 4 := by omega
      subst hq4'
      have hc := conv_own (P := Try.prog) wr 46 9 5 Try.underlying46 Try.underlying5 Try.underlying9 _ _ _ _ hown
      go_wp2_with fail
      go_ret
      exact ⟨rfl, hb⟩
end
section

/-- The four planes of a tile. -/
def plf (t : Nat → UInt8) (j : Nat) : UInt8 :=
  if j < 64 then M.swY (t (4 * j)) (t (4 * j + 1)) (t (4 * j + 2))
  else if j < 128 then M.swU (t (4 * (j - 64))) (t (4 * (j - 64) + 2))
  else if j < 192 then M.swV (t (4 * (j - 128))) (t (4 * (j - 128) + 1)) (t (4 * (j - 128) + 2))
  else t (4 * (j - 192) + 3)
/-- What the first loop of Forward has filled in n rounds. -/
def plN (t : Nat → UInt8) (n : Nat) (j : Nat) : UInt8 := if j % 64 < n then plf t j else 0
theorem plN_zero (t : Nat → UInt8) : plN t 0 = fun _ => 0 := by funext j; simp [plN]
theorem plN_put (t : Nat → UInt8) (n : Nat) (h : n < 64) (j : Nat) (hj : j < 256) :
    M.put (M.put (M.put (M.put (plN t n) n (M.swY (t (4 * n)) (t (4 * n + 1)) (t (4 * n + 2)))) (64 + n) (M.swU (t (4 * n)) (t (4 * n + 2)))) (128 + n) (M.swV (t (4 * n)) (t (4 * n + 1)) (t (4 * n + 2)))) (192 + n) (t (4 * n + 3)) j = plN t (n + 1) j := by
  unfold M.put plN
  by_cases h1 : j = 192 + n
  · subst h1
    rw [if_pos rfl, if_pos (by omega)]
    unfold plf
    rw [if_neg (by omega), if_neg (by omega), if_neg (by omega), show 192 + n - 192 = n by omega]
  rw [if_neg h1]
  by_cases h2 : j = 128 + n
  · subst h2
    rw [if_pos rfl, if_pos (by omega)]
    unfold plf
    rw [if_neg (by omega), if_neg (by omega), if_pos (by omega), show 128 + n - 128 = n by omega]
  rw [if_neg h2]
  by_cases h3 : j = 64 + n
  · subst h3
    rw [if_pos rfl, if_pos (by omega)]
    unfold plf
    rw [if_neg (by omega), if_pos (by omega), show 64 + n - 64 = n by omega]
  rw [if_neg h3]
  by_cases h4 : j = n
  · subst h4
    rw [if_pos rfl, if_pos (by omega)]
    unfold plf
    rw [if_pos (by omega)]
  rw [if_neg h4]
  by_cases h5 : j % 64 < n
  · rw [if_pos h5, if_pos (by omega)]
  · rw [if_neg h5, if_neg (by omega)]
theorem plN_full (t : Nat → UInt8) (j : Nat) : plN t 64 j = plf t j := by unfold plN; rw [if_pos (by omega)]

theorem fill_eq (wr : World) (f : Nat → UInt8) : ((wr.alloc (.cells prC 128)).alloc (.cells (cf 256 fun _ => 0) 123)).setRow (wr.heap.size + 1) (cf 256 f) = (wr.alloc (.cells prC 128)).alloc (.cells (cf 256 f) 123) := by
  have := World.setRow_alloc_new (wr.alloc (.cells prC 128)) (cf 256 fun _ => 0) (cf 256 f) 123
  rw [World.size_alloc] at this
  exact this
/-- The residuals, m of them done. -/
def outN (k : Nat) (p : Nat → UInt8) (m j : Nat) : UInt8 := if j < m then M.res k p j else p j
theorem outN_zero (k : Nat) (p : Nat → UInt8) (j : Nat) : outN k p 0 j = p j := by simp [outN]
theorem outN_at (k : Nat) (p : Nat → UInt8) (m : Nat) : outN k p m m = p m := by simp [outN]
theorem outN_full (k : Nat) (p : Nat → UInt8) (n j : Nat) (h : j < n) : outN k p n j = M.res k p j := by unfold outN; rw [if_pos h]
theorem outN_put (k : Nat) (p : Nat → UInt8) (q i j : Nat) (hi : i < 64) : M.put (outN k p (q * 64 + i)) (q * 64 + i) (p (q * 64 + i) - M.gs k (M.pl p q) i) j = outN k p (q * 64 + (i + 1)) j := by
  unfold M.put outN
  by_cases h : j = q * 64 + i
  · subst h
    rw [if_pos rfl, if_pos (by omega)]
    unfold M.res
    rw [show (q * 64 + i) / 64 = q by omega, show (q * 64 + i) % 64 = i by omega]
  · rw [if_neg h]
    by_cases h2 : j < q * 64 + i
    · rw [if_pos h2, if_pos (by omega)]
    · rw [if_neg h2, if_neg (by omega)]
theorem guess_bk (k : Nat) (hk : k < 6) (g : Nat) (p : Nat → UInt8) (q i : Nat) (hq : q < 4) (hi : i < 64) (w : World) (h : Bk g 123 256 p w) :
    Calls Try.prog 72 #[.pointer (some ⟨g, q * 64, none⟩), .int .i64 i, .func (.func (86 + k)) #[] #[]] w fun e w' => e = .returned (.int .u8 (M.gs k (M.pl p q) i).toNat) ∧ Below w.heap.size w w' :=
  guess_any k hk g (q * 64) (M.pl p q) i hi w h.lt (fun m hm => by
    have := h.cell (q * 64 + m) (by omega)
    rw [this]
    unfold M.pl
    rw [Nat.mul_comm])
theorem cell_keep {w w1 : World} {a : Addr} {v : Value} (h : w.cell? a = some v) (hb : Below w.heap.size w w1) : w1.cell? a = some v := by
  rw [hb.cell (block_lt_of_cell h)]; exact h

theorem e_sub8 (a b : UInt8) : ((a.toNat : Int) - (b.toNat : Int)) % 256 = ((a - b).toNat : Int) := by
  have := a.toNat_lt; have := b.toNat_lt
  rw [UInt8.toNat_sub]; omega

set_option maxRecDepth 100000 in
set_option maxHeartbeats 800000 in
theorem forward_any (t : Nat → UInt8) (k : Nat) (hk : k < 6) (w : World) :
    Calls Try.prog 43 #[.agg (cf 256 t), .int .i64 k] w fun e w' =>
      e = .returned (.tuple #[.string ⟨(M.tab 256 (M.res k (plf t))).toArray⟩, .int .i64 0]) ∧ Below w.heap.size w w' := by
  have hz := Try.zero123
  go_enter Try.func43, Try.ntmps43
  go_wp2_with fail
  refine (Predictors_any _).mono ?_
  rintro e w1 ⟨rfl, hb1⟩
  have ht : Bk w.heap.size 27 256 t w1 := (Bk.new w 27 256 t).keep hb1
  have hb := ((Below.refl w.heap.size w).alloc (Nat.le_refl _) (.cells (cf 256 t) 27)).trans (hb1.mono (by simp))
  have ht2 : Bk w.heap.size 27 256 t (w1.alloc (.cells (cf 256 fun _ => 0) 123)) := ht.alloc _
  clear hb1
  go_wp2_with (refine wpList_load_row rfl 27 _ rfl w.heap.size rfl 27 _ (0, 0) _ ht2 Try.underlying27 rfl (by rw [cf_size]; exact Try.size27) ?_)
  clear ht ht2 hz
  have hsz1 := hb.size
  go_loopw [21] (fun i wr => ∃ n : Nat, n ≤ 64 ∧ i = .int .i64 n ∧ Bk w1.heap.size 123 256 (plN t n) wr ∧ Below w.heap.size w wr) (fun i _ => 64 - (intOf i).toNat)
  case atStart => exact ⟨0, by omega, rfl, by rw [plN_zero]; exact Bk.new w1 123 256 _, hb.alloc hb.size _⟩
  case round =>
    obtain ⟨n, hn, rfl, hB, hbl⟩ := hrel
    have hlw := hB.lt
    by_cases hlt : n < 64
    · have c0 := hB.cell n (by omega)
      have c1 := hB.cell (64 + n) (by omega)
      have c2 := hB.cell (128 + n) (by omega)
      have c3 := hB.cell (192 + n) (by omega)
      have f0 := hB.free n
      have f1 := hB.free (64 + n)
      have f2 := hB.free (128 + n)
      have f3 := hB.free (192 + n)
      have HB := Lib.hid hB
      clear hB
      have hix : ∀ W, (Instr.index 27 (.agg (cf 256 t)) (.int .i64 n)).run Try.prog W = .ok (.agg #[.int .u8 ((t (4 * n)).toNat : Int), .int .u8 ((t (4 * n + 1)).toNat : Int), .int .u8 ((t (4 * n + 2)).toNat : Int), .int .u8 ((t (4 * n + 3)).toNat : Int)]) W := fun W => run_index_pix t n hlt W
      go_wp2_with (go_at_call 70; refine (swap_any _ _ _ _).mono ?_; rintro e w' ⟨rfl, rfl⟩)
      go_roundw
      case rel => exact ⟨n + 1, by omega, by go_num, (((((HB.out.set n _).set (64 + n) _).set (128 + n) _).set (192 + n) _).alloc _).congr (plN_put t n hlt), ((((hbl.setCell (p := ⟨w1.heap.size, n, none⟩) hsz1 _).setCell (p := ⟨w1.heap.size, 64 + n, none⟩) hsz1 _).setCell (p := ⟨w1.heap.size, 128 + n, none⟩) hsz1 _).setCell (p := ⟨w1.heap.size, 192 + n, none⟩) hsz1 _).alloc (by simp; omega) _⟩
      case measure => simp [intOf]; omega

    · have hn64 : n = 64 := by omega
      have hB2 := hB.congr (f' := plf t) (fun j _ => (by rw [hn64]; exact plN_full t j))
      clear hB hn64
      have hpc : (wr.alloc (.cells prC 128)).cell? ⟨wr.heap.size, k * 2 + 1, none⟩ = some (.func (.func (86 + k)) #[] #[]) := by rw [World.cell?_alloc_mark]; exact prC_at k hk
      have hz := Try.zero123
      have hB3 : Bk w1.heap.size 123 256 (plf t) (wr.alloc (.cells prC 128)) := hB2.alloc _
      have hN : Bk (wr.heap.size + 1) 123 256 (fun _ => 0) ((wr.alloc (.cells prC 128)).alloc (.cells (cf 256 fun _ => 0) 123)) := heap_alloc2_new _ _ _
      go_wp2_with (first
        | (go_at_call 71; refine (predictors_any _).mono ?_; rintro e w' ⟨rfl, rfl⟩)
        | (refine wpList_load_row rfl 123 _ rfl w1.heap.size rfl 123 _ (0, 0) _ hB3 Try.underlying123 rfl (by rw [cf_size]; exact Try.size123) ?_)
        | (refine wpList_store_row rfl 123 _ _ rfl (wr.heap.size + 1) (cf 256 (plf t)) rfl rfl 123 (cf 256 fun _ => 0) hN (by rw [cf_size]; exact Try.size123) (by rw [cf_size, cf_size]) (cf_one _ _) ?_))
      rw [fill_eq]
      have hP : Bk w1.heap.size 123 256 (plf t) ((wr.alloc (.cells prC 128)).alloc (.cells (cf 256 (plf t)) 123)) := hB3.alloc _
      have hO : Bk (wr.heap.size + 1) 123 256 (outN k (plf t) 0) ((wr.alloc (.cells prC 128)).alloc (.cells (cf 256 (plf t)) 123)) := Bk.congr (heap_alloc2_new _ _ _) (fun j _ => (outN_zero _ _ j).symm)
      have hL : Below w.heap.size w ((wr.alloc (.cells prC 128)).alloc (.cells (cf 256 (plf t)) 123)) := (hbl.alloc hbl.size _).alloc (by have := hbl.size; simp; omega) _
      clear hpc hB2 hB3 hN hz
      have hne : w1.heap.size ≠ wr.heap.size + 1 := by omega
      have hge : w.heap.size ≤ wr.heap.size + 1 := by omega
      generalize (wr.alloc (.cells prC 128)).alloc (.cells (cf 256 (plf t)) 123) = W0 at *
      generalize wr.heap.size + 1 = go at *
      generalize w1.heap.size = gp at *
      clear hbl hlw hsz1 hb hn hlt
      go_loopw [57] (fun a wo => ∃ q : Nat, q ≤ 4 ∧ a = .int .i64 q ∧ Bk gp 123 256 (plf t) wo ∧ Bk go 123 256 (outN k (plf t) (q * 64)) wo ∧ Below w.heap.size w wo) (fun a _ => 4 - (intOf a).toNat)
      case atStart => exact ⟨0, by omega, rfl, hP, hO, hL⟩
      case round =>
        obtain ⟨q, hq, rfl, hP1, hO1, hL1⟩ := hrel
        by_cases hq4 : q < 4
        · have hq0 : (0 : Int) ≤ (q : Int) := by omega
          have hq1 : (q : Int) < 4 := by omega
          go_wp2_with fail
          clear hP hO hL
          go_loopw [60] (fun a wi => ∃ i : Nat, i ≤ 64 ∧ a = .int .i64 i ∧ Bk gp 123 256 (plf t) wi ∧ Bk go 123 256 (outN k (plf t) (q * 64 + i)) wi ∧ Below w.heap.size w wi) (fun a _ => 64 - (intOf a).toNat)
          case atStart => exact ⟨0, by omega, rfl, hP1, hO1, hL1⟩
          case round =>
            obtain ⟨i, hi, rfl, hP2, hO2, hL2⟩ := hrel
            clear hP1 hO1 hL1
            by_cases hi4 : i < 64
            · have hc := hO2.cell (q * 64 + i) (by omega)
              rw [outN_at] at hc
              have hf := hO2.free (q * 64 + i)
              have hcd : wr.drew.cell? ⟨go, q * 64 + i, none⟩ = some (.int .u8 ((plf t (q * 64 + i)).toNat : Int)) := hc
              have hfd : wr.drew.frozen? ⟨go, q * 64 + i, none⟩ = false := hf
              have hi0 : (0 : Int) ≤ (i : Int) := by omega
              have hi1 : (i : Int) < 64 := by omega
              have HP := Lib.hid hP2
              have HO := Lib.hid hO2
              have HL := Lib.hid hL2
              clear hP2 hO2 hL2 hc hf
              go_wp2_with fail
              go_region_with (go_at_call 72; refine (guess_bk k hk gp (plf t) q i hq4 hi4 _ (Bk.drew HP.out)).mono ?_; rintro e w2 ⟨rfl, hb2⟩; have hc2 := cell_keep hcd hb2; have hf2 := (hb2.frozen (p := ⟨go, q * 64 + i, none⟩) (block_lt_of_cell hcd)).trans hfd)
              all_goals
                go_wp2_with fail
                go_roundw
                case rel =>
                  rw [e_sub8]
                  refine ⟨i + 1, by omega, ?_, ((Bk.drew HP.out).keep hb2).other _ _ hne, Bk.congr (((Bk.drew HO.out).keep hb2).set (q * 64 + i) _) (fun j _ => outN_put k (plf t) q i j hi4), (bt (Below.drew HL.out) hb2).setCell (p := ⟨go, q * 64 + i, none⟩) hge _⟩
                  go_num
                case measure => simp [intOf]; omega
            · have hi64 : i = 64 := by omega
              subst hi64
              go_wp2_with fail
              go_roundw
              case rel =>
                first
                | exact ⟨q + 1, by omega, by go_num, hP2, by rw [show (q + 1) * 64 = q * 64 + 64 by omega]; exact hO2, hL2⟩
                | ((repeat apply Exists.intro); refine ⟨⟨q + 1, by omega, ?_, hP2, by rw [show (q + 1) * 64 = q * 64 + 64 by omega]; exact hO2, hL2⟩, rfl⟩; go_num)
              case measure => simp [intOf]; omega
        · have hq4' : q = 4 := by omega
          subst hq4'
          have hB : Bk go 123 256 (M.res k (plf t)) wr := hO1.congr (fun j hj => outN_full _ _ _ _ hj)
          clear hO1 hP1 hP hO hL
          go_wp2_with (go_at_call 73; refine (concat_any go _ _ hB).mono ?_; rintro e w2 ⟨rfl, hb2⟩)
          go_ret2
          exact ⟨rfl, bt hL1 hb2⟩
end
end Go.Proofs.Ytpdckpifhniioaa.Prd
