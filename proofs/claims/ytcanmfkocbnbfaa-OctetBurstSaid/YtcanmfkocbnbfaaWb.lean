/- OctetBurst: the walk. The condition on the string is the row's own reach. -/
import Derived.Test.YtcanmfkocbnbfaaG
import Derived.Test.YtcanmfkocbnbfaaH
import Derived.OpenShut
import Derived.Lib.Strings
set_option linter.unusedVariables false
namespace Go.Proofs.Ytcanmfkocbnbfaa
open Go.RowKit
namespace octetBurst

theorem xor_byte (a b : UInt8) : ∃ z : UInt8, bits .xor .u8 (a.toNat : Int) (b.toNat : Int) = (z.toNat : Int) ∧ z = a ^^^ b :=
  ⟨a ^^^ b, by rw [u8_xor_nat a.toNat b.toNat a.toNat_lt b.toNat_lt, UInt8.toNat_xor], rfl⟩

theorem sum_inj (l m : List UInt8) (h : M.sum l = M.sum m) : M.crcL 4294967295 l = M.crcL 4294967295 m := by
  have h1 := M.crcL_lt l 4294967295 (by omega)
  have h2 := M.crcL_lt m 4294967295 (by omega)
  unfold M.sum at h
  omega

theorem split4 (l : List UInt8) (k : Nat) (h : k + 4 ≤ l.length) : ∃ p x y z t q, l = p ++ [x, y, z, t] ++ q ∧ p.length = k := by
  refine ⟨l.take k, l[k], l[k + 1], l[k + 2], l[k + 3], l.drop (k + 4), ?_, by simp; omega⟩
  have e3 := List.drop_eq_getElem_cons (l := l) (i := k + 3) (by omega)
  have e2 := List.drop_eq_getElem_cons (l := l) (i := k + 2) (by omega)
  have e1 := List.drop_eq_getElem_cons (l := l) (i := k + 1) (by omega)
  have e0 := List.drop_eq_getElem_cons (l := l) (i := k) (by omega)
  have := List.take_append_drop k l
  rw [e0, e1, e2, e3] at this
  refine this.symm.trans ?_; simp

theorem law (l : List UInt8) (k : Nat) (h : k + 4 ≤ l.length) (z0 z1 z2 z3 : UInt8) (l0 l1 l2 l3 : List UInt8)
    (h0 : l.set k z0 = l0) (h1 : l0.set (k + 1) z1 = l1) (h2 : l1.set (k + 2) z2 = l2) (h3 : l2.set (k + 3) z3 = l3) :
    (((M.sum l : Nat) : Int) == ((M.sum l3 : Nat) : Int)) = (l3 == l) := by
  obtain ⟨p, x, y, z, t, q, rfl, rfl⟩ := split4 l k h
  subst h0 h1 h2
  have e : l3 = p ++ [z0, z1, z2, z3] ++ q := by
    rw [← h3]
    simp [List.set_append_right]
  rw [Bool.eq_iff_iff, beq_iff_eq, beq_iff_eq]
  constructor
  · intro hs
    have hs' : M.sum (p ++ [x, y, z, t] ++ q) = M.sum l3 := by omega
    have := sum_inj _ _ hs'
    rw [e] at this
    obtain ⟨r1, r2, r3, r4⟩ := M.burst p q x y z t z0 z1 z2 z3 4294967295 (by omega) this
    rw [e, r1, r2, r3, r4]
  · intro he
    rw [he]

theorem place (a : Int) (n : Nat) (h : 4 ≤ n) (hn : n ≤ 140737488351232) :
    ∃ k : Nat, (wrap64 (wrap64 (a.tmod ((n : Int) - 3) + (n : Int)) - 3)).tmod ((n : Int) - 3) = (k : Int) ∧ k + 4 ≤ n := by
  have h1 := Int.tmod_lt_of_pos a (b := (n : Int) - 3) (by omega)
  have h2 := Int.lt_tmod_of_pos a (b := (n : Int) - 3) (by omega)
  generalize a.tmod ((n : Int) - 3) = t at *
  rw [IntWalk.wrap64_in (t + n) ⟨by omega, by omega⟩, IntWalk.wrap64_in _ ⟨by omega, by omega⟩, Int.tmod_eq_emod_of_nonneg (by omega)]
  have h3 := Int.emod_nonneg (t + n - 3) (b := (n : Int) - 3) (by omega)
  have h4 := Int.emod_lt_of_pos (t + n - 3) (b := (n : Int) - 3) (by omega)
  exact ⟨((t + n - 3) % ((n : Int) - 3)).toNat, by omega, by omega⟩

/-- What the law's loop holds: the bytes l in block g, and by's four bytes in block w.heap.size. -/
structure Ho (w : World) (g : Nat) (l : List UInt8) (y0 y1 y2 y3 : UInt8) (x : World) : Prop where
  lie : Lie g l x
  free : ∀ j, j < l.length → x.frozen? ⟨g, j, none⟩ = false
  old : w.heap.size < g ∧ g < x.heap.size
  by_ : x.heap[w.heap.size]? = some (.cells #[.int .u8 y0.toNat, .int .u8 y1.toNat, .int .u8 y2.toNat, .int .u8 y3.toNat] 37 (0, 0))
  bl : Below w.heap.size w x

theorem Ho.keep {w g l y0 y1 y2 y3 x x'} (h : Ho w g l y0 y1 y2 y3 x) (hb : Below x.heap.size x x') : Ho w g l y0 y1 y2 y3 x' :=
  ⟨fun j hj => by rw [hb.cell (p := ⟨g, j, none⟩) h.old.2]; exact h.lie j hj, fun j hj => by rw [hb.frozen (p := ⟨g, j, none⟩) h.old.2]; exact h.free j hj,
   ⟨h.old.1, Nat.lt_of_lt_of_le h.old.2 hb.size⟩, by rw [hb.block _ (Nat.lt_trans h.old.1 h.old.2)]; exact h.by_, bt h.bl hb⟩
theorem Ho.set {w g l y0 y1 y2 y3 x} (h : Ho w g l y0 y1 y2 y3 x) (i : Nat) (hi : i < l.length) (b : UInt8) : Ho w g (l.set i b) y0 y1 y2 y3 (x.setCell ⟨g, i, none⟩ (.int .u8 b.toNat)) :=
  ⟨h.lie.set i hi b, fun j hj => by rw [World.frozen?_setCell]; exact h.free j (by simpa using hj),
   ⟨h.old.1, by simpa [World.setCell] using h.old.2⟩, by rw [heap_setCell_other _ _ _ _ (by have := h.old.1; simp; omega)]; exact h.by_,
   h.bl.setCell (p := ⟨g, i, none⟩) (Nat.le_of_lt h.old.1) _⟩
theorem Ho.drew {w g l y0 y1 y2 y3 x} (h : Ho w g l y0 y1 y2 y3 x) : Ho w g l y0 y1 y2 y3 x.drew := h.keep ((Below.refl _ _).drew)

set_option maxRecDepth 100000 in
set_option maxHeartbeats 400000 in
theorem walk (a0 : ByteArray) (a1 : Int) (y0 y1 y2 y3 : UInt8) (w : World) (w0 : a0.size ≤ 140737488351232) (w1 : (Lit.int .i64 a1).wf = true) :
    Calls Try.prog 7 #[.string a0, .int .i64 a1, .agg #[.int .u8 y0.toNat, .int .u8 y1.toNat, .int .u8 y2.toNat, .int .u8 y3.toNat]] w fun e w' => e = .returned (.bool true) ∧ Below w.heap.size w w' := by
  by_cases h4 : a0.size < 4
  · clear w1
    go_enter Try.func7, Try.ntmps7
    go_wp2_with fail
    refine (sanity_any _).mono ?_
    rintro e x1 ⟨rfl, b1⟩
    go_wp2_with fail
    go_ret
    exact ⟨rfl, (((Below.refl _ _).alloc (Nat.le_refl _) _).trans (b1.mono (by rw [World.size_alloc]; omega)))⟩
  · obtain ⟨k, hk, hkn⟩ := place a1 a0.size (by omega) w0
    clear w1
    go_enter Try.func7, Try.ntmps7
    go_wp2_with fail
    refine (sanity_any _).mono ?_
    rintro e x1 ⟨rfl, b1⟩
    have hby := (b1.block w.heap.size (by rw [World.size_alloc]; omega)).trans (heap_alloc_new _ _)
    have hb1 : Below w.heap.size w x1 := ((Below.refl _ _).alloc (Nat.le_refl _) _).trans (b1.mono (by rw [World.size_alloc]; omega))
    have hx1 : w.heap.size < x1.heap.size := by have := b1.size; rw [World.size_alloc] at this; omega
    have HBY := Lib.hid hby
    clear b1 hby
    obtain ⟨W1, cap, hcb, hcap, hlie, hfree, hbW, hgW⟩ := conv_bytes x1 a0
    have hHo : Ho w x1.heap.size a0.data.toList y0 y1 y2 y3 W1 :=
      ⟨hlie, fun j hj => (hfree j (by have : a0.data.toList.length = a0.size := Array.length_toList
                                      omega)).1, ⟨hx1, hgW⟩, by rw [hbW.block _ hx1]; exact HBY.out, bt hb1 hbW⟩
    clear hlie hfree hbW hgW HBY hb1
    have hlen : a0.data.toList.length = a0.size := Array.length_toList
    have HL := Lib.hid hlen
    clear hlen
    go_wp2_with fail
    clear hcb hk
    refine wp_loop_rounds 5 ?_
    rw [rounds_succ]
    go_wp2_with fail
    have hi0 : k < (a0.data.toList).length := by have := HL.out; omega
    have f1 := hHo.lie (k) hi0
    have f2 := hHo.free (k) hi0
    have f3 : W1.cell? ⟨w.heap.size, 0, none⟩ = some (.int .u8 y0.toNat) := by rw [cell_of_row W1 _ 0 _ _ _ hHo.by_]; rfl
    obtain ⟨z0, hz, ez0⟩ := xor_byte ((a0.data.toList)[k]) y0
    generalize hB0 : (a0.data.toList)[k]'hi0 = B0 at *
    have EZ0 := Lib.hid ez0
    have HB0 := Lib.hid hB0
    clear ez0 hB0
    go_region
    have hH0 := (hHo.set (k) (by have := HL.out; omega) z0).drew
    have hL0 : Hid (((a0.data.toList).set (k) z0).length = a0.size) := by rw [List.length_set]; exact HL.out
    generalize hl0 : (a0.data.toList).set (k) z0 = l0 at *
    have Hl0 := Lib.hid hl0
    generalize (W1.setCell ⟨x1.heap.size, k, none⟩ (.int .u8 z0.toNat)).drew = V0 at *
    clear f1 f2 f3 hz hl0 hHo 
    go_wp2_with fail
    rw [rounds_succ]
    go_wp2_with fail
    have hi1 : k + 1 < (l0).length := by have := hL0.out; omega
    have f1 := hH0.lie (k + 1) hi1
    have f2 := hH0.free (k + 1) hi1
    have f3 : V0.cell? ⟨w.heap.size, 1, none⟩ = some (.int .u8 y1.toNat) := by rw [cell_of_row V0 _ 1 _ _ _ hH0.by_]; rfl
    obtain ⟨z1, hz, ez1⟩ := xor_byte ((l0)[k + 1]) y1
    generalize hB1 : (l0)[k + 1]'hi1 = B1 at *
    have EZ1 := Lib.hid ez1
    have HB1 := Lib.hid hB1
    clear ez1 hB1
    have e1 : IntKind.i64.wrap ((k : Int) + 1) = (k : Int) + 1 := IntWalk.i64_in _ (by omega)
    have e2 : (0 : Int) ≤ (k : Int) + 1 := by omega
    have e3 : ((k : Int) + 1).toNat = k + 1 := by omega
    have e4 : (k : Int) + 1 < a0.size := by omega
    go_region
    have hH1 := (hH0.set (k + 1) (by have := hL0.out; omega) z1).drew
    have hL1 : Hid (((l0).set (k + 1) z1).length = a0.size) := by rw [List.length_set]; exact hL0.out
    generalize hl1 : (l0).set (k + 1) z1 = l1 at *
    have Hl1 := Lib.hid hl1
    generalize (V0.setCell ⟨x1.heap.size, k + 1, none⟩ (.int .u8 z1.toNat)).drew = V1 at *
    clear f1 f2 f3 hz hl1 hH0 e1 e2 e3 e4
    go_wp2_with fail
    rw [rounds_succ]
    go_wp2_with fail
    have hi2 : k + 2 < (l1).length := by have := hL1.out; omega
    have f1 := hH1.lie (k + 2) hi2
    have f2 := hH1.free (k + 2) hi2
    have f3 : V1.cell? ⟨w.heap.size, 2, none⟩ = some (.int .u8 y2.toNat) := by rw [cell_of_row V1 _ 2 _ _ _ hH1.by_]; rfl
    obtain ⟨z2, hz, ez2⟩ := xor_byte ((l1)[k + 2]) y2
    generalize hB2 : (l1)[k + 2]'hi2 = B2 at *
    have EZ2 := Lib.hid ez2
    have HB2 := Lib.hid hB2
    clear ez2 hB2
    have e1 : IntKind.i64.wrap ((k : Int) + 2) = (k : Int) + 2 := IntWalk.i64_in _ (by omega)
    have e2 : (0 : Int) ≤ (k : Int) + 2 := by omega
    have e3 : ((k : Int) + 2).toNat = k + 2 := by omega
    have e4 : (k : Int) + 2 < a0.size := by omega
    go_region
    have hH2 := (hH1.set (k + 2) (by have := hL1.out; omega) z2).drew
    have hL2 : Hid (((l1).set (k + 2) z2).length = a0.size) := by rw [List.length_set]; exact hL1.out
    generalize hl2 : (l1).set (k + 2) z2 = l2 at *
    have Hl2 := Lib.hid hl2
    generalize (V1.setCell ⟨x1.heap.size, k + 2, none⟩ (.int .u8 z2.toNat)).drew = V2 at *
    clear f1 f2 f3 hz hl2 hH1 e1 e2 e3 e4
    go_wp2_with fail
    rw [rounds_succ]
    go_wp2_with fail
    have hi3 : k + 3 < (l2).length := by have := hL2.out; omega
    have f1 := hH2.lie (k + 3) hi3
    have f2 := hH2.free (k + 3) hi3
    have f3 : V2.cell? ⟨w.heap.size, 3, none⟩ = some (.int .u8 y3.toNat) := by rw [cell_of_row V2 _ 3 _ _ _ hH2.by_]; rfl
    obtain ⟨z3, hz, ez3⟩ := xor_byte ((l2)[k + 3]) y3
    generalize hB3 : (l2)[k + 3]'hi3 = B3 at *
    have EZ3 := Lib.hid ez3
    have HB3 := Lib.hid hB3
    clear ez3 hB3
    have e1 : IntKind.i64.wrap ((k : Int) + 3) = (k : Int) + 3 := IntWalk.i64_in _ (by omega)
    have e2 : (0 : Int) ≤ (k : Int) + 3 := by omega
    have e3 : ((k : Int) + 3).toNat = k + 3 := by omega
    have e4 : (k : Int) + 3 < a0.size := by omega
    go_region
    have hH3 := (hH2.set (k + 3) (by have := hL2.out; omega) z3).drew
    have hL3 : Hid (((l2).set (k + 3) z3).length = a0.size) := by rw [List.length_set]; exact hL2.out
    generalize hl3 : (l2).set (k + 3) z3 = l3 at *
    have Hl3 := Lib.hid hl3
    generalize (V2.setCell ⟨x1.heap.size, k + 3, none⟩ (.int .u8 z3.toNat)).drew = V3 at *
    clear f1 f2 f3 hz hl3 hH2 e1 e2 e3 e4
    go_wp2_with fail
    rw [rounds_succ]
    go_wp2_with fail
    refine q_region (C := Ho w x1.heap.size l3 y0 y1 y2 y3) (by kernel_rfl) (by kernel_rfl) hH3.drew ?_
    have hs1 : a0.size ≤ 1000000000000000000 := by omega
    have hs2 : (⟨l3.toArray⟩ : ByteArray).size ≤ 1000000000000000000 := by rw [str_size, hL3.out]; omega
    repeat (first
      | go_big_quiet_skip
      | (go_big_quiet_want; refine q_val ?_; apply Exists.intro; refine ⟨fun x hx => ?_, ?_⟩; (focus (have hcv := hx.lie.conv cap; rw [hL3.out] at hcv; go_simp <;> rfl)); simp only [Act.put, List.setIfInBounds_toArray, List.set_cons_zero, List.set_cons_succ]; go_big_quiet_on)
      | (go_big_quiet_want; refine q_call 20 ?_; apply Exists.intro; refine ⟨fun x hx => ?_, ?_⟩; (focus (go_simp <;> rfl)); apply Exists.intro; refine ⟨fun x hx => ?_, ?_⟩; (focus (exact (sum_any _ _ (by assumption)).mono fun e y ⟨he, hb⟩ => ⟨he, hx.keep hb⟩)); simp only [Act.put, List.setIfInBounds_toArray, List.set_cons_zero, List.set_cons_succ]; go_big_quiet_on))
    refine wpQuiet_nil ?_
    intro x4 hS4
    replace hS4 := hS4.bl
    clear hH3
    go_wp2_with fail
    go_ret
    refine ⟨ret_bool ?_, hS4⟩
    have hl := law a0.data.toList k (by have := HL.out; omega) z0 z1 z2 z3 l0 l1 l2 l3 Hl0.out Hl1.out Hl2.out Hl3.out
    rw [← ByteArray.toList_eq] at hl
    simp only [ByteArray.toList_eq] at hl ⊢
    rw [hl]; simp
end octetBurst
end Go.Proofs.Ytcanmfkocbnbfaa
