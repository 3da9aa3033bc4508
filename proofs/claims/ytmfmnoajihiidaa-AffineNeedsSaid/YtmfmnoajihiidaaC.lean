/- Walk of gcd. -/
import Derived.Test.YtmfmnoajihiidaaB
set_option linter.unusedVariables false
namespace Go.Proofs.Ytmfmnoajihiidaa
open Go.RowKit
/-- The greatest common divisor of a row. -/
def gl (l : List Int) : Nat := l.foldl (fun d z => Nat.gcd d z.natAbs) 0
theorem gl_snoc (l : List Int) (z : Int) : gl (l ++ [z]) = Nat.gcd (gl l) z.natAbs := by unfold gl; rw [List.foldl_append]; rfl
theorem gl_bd : ∀ (l : List Int) (m : Nat), (∀ z ∈ l, z.natAbs ≤ m) → gl l ≤ m := by
  intro l m h
  suffices H : ∀ (l : List Int) (d : Nat), d ≤ m → (∀ z ∈ l, z.natAbs ≤ m) → l.foldl (fun d z => Nat.gcd d z.natAbs) d ≤ m from H l 0 (Nat.zero_le _) h
  intro l
  induction l with
  | nil => intro d hd _; exact hd
  | cons z l ih =>
    intro d hd hz
    refine ih _ ?_ fun y hy => hz y (by simp [hy])
    have hzz := hz z (by simp)
    by_cases h0 : d = 0
    · subst h0; show Nat.gcd 0 _ ≤ m; rw [Nat.gcd_zero_left]; exact hzz
    · exact Nat.le_trans (Nat.gcd_le_left _ (by omega)) hd
theorem gcd_step (g n : Int) (hn : n ≠ 0) : Nat.gcd n.natAbs (g.tmod n).natAbs = Nat.gcd g.natAbs n.natAbs ∧ (g.tmod n).natAbs < n.natAbs := by
  have h1 : (g.tmod n).natAbs = g.natAbs % n.natAbs := Int.natAbs_tmod g n
  rw [h1]
  refine ⟨?_, Nat.mod_lt _ (by omega)⟩
  rw [Nat.gcd_comm n.natAbs, ← Nat.gcd_rec, Nat.gcd_comm]
set_option maxRecDepth 100000 in
set_option maxHeartbeats 1000000 in
theorem gcd_any (l : List Int) (hl : l.length ≤ 100) (hbd : ∀ z ∈ l, z.natAbs ≤ 1000000000000000000) (b : Nat) (w : World) (hb : w.heap[b]? = some (.cells (iv l) 3 (0, 0))) :
    Calls Try.prog 75 #[.slice (some ⟨b, 0, none⟩) l.length l.length] w fun e w' => e = .returned (.int .i64 (gl l : Int)) ∧ Grow w w' := by
  have hc : ∀ x, Grow w x → ∀ i (h : i < l.length), x.cell? ⟨b, i, none⟩ = some (.int .i64 l[i]) := fun x hx i h => by
    refine hx.cell ?_
    rw [cell_of_row w b i _ _ _ hb]; unfold iv; simp [h]
  replace hc := Lib.hid hc
  replace hbd := Lib.hid hbd
  clear hb
  go_enter Try.func75, Try.ntmps75
  go_upto_block 1 with fail
  go_loopg [3, 8] l.length (fun k s3 s8 wr => ∃ (i : Nat) (g : Int), i + k = l.length ∧ s8 = .int .i64 (i : Int) ∧ s3 = .int .i64 g ∧ Hid (Grow w wr ∧ g.natAbs = gl (l.take i)))
  case atStart => exact ⟨0, 0, by omega, rfl, rfl, Lib.hid ⟨Grow.refl _, rfl⟩⟩
  case round =>
    obtain ⟨i, g, hik, rfl, rfl, HR⟩ := hrel
    have hgb : g.natAbs ≤ 1000000000000000000 := by rw [HR.out.2]; exact gl_bd _ _ fun z hz => hbd.out z (List.mem_of_mem_take hz)
    cases gk with
    | zero =>
      obtain rfl : i = l.length := by omega
      have hlt : ¬ (l.length : Int) < l.length := by omega
      have hg := HR.out.2
      rw [List.take_length] at hg
      have hG := Lib.hid HR.out.1
      have hm : max g (-g) = (gl l : Int) := by omega
      clear HR hg
      go_wp2
      all_goals (go_ret; exact ⟨ret_int (by omega), hG.out⟩)
    | succ k =>
      have hi : i < l.length := by omega
      have hlt : (i : Int) < l.length := by omega
      have c := hc.out wr HR.out.1 i hi
      have hts : l.take (i + 1) = l.take i ++ [l[i]] := by rw [List.take_add_one, List.getElem?_eq_getElem hi]; rfl
      have hz := hbd.out l[i] (List.getElem_mem hi)
      have hgl := Lib.hid (show gl (l.take (i + 1)) = Nat.gcd (gl (l.take i)) l[i].natAbs by rw [hts, gl_snoc])
      clear hts
      generalize l[i] = z at *
      generalize gl (l.take i) = d0 at *
      go_upto_block 2 with fail
      refine wp_block ?_
      go_loopg [3, 5] z.natAbs (fun k s3 s5 wr => ∃ (g n : Int), s3 = .int .i64 g ∧ s5 = .int .i64 n ∧ k = n.natAbs ∧ Hid (Grow w wr ∧ Nat.gcd g.natAbs n.natAbs = Nat.gcd d0 z.natAbs ∧ g.natAbs ≤ 1000000000000000000 ∧ n.natAbs ≤ 1000000000000000000))
      case atStart => exact ⟨g, z, rfl, rfl, rfl, Lib.hid ⟨HR.out.1, by rw [HR.out.2], hgb, hz⟩⟩
      case round =>
        obtain ⟨g', n, rfl, rfl, hkn, HI⟩ := hrel
        clear HR c hgb hz
        obtain ⟨i1, i2, i3, i4⟩ := HI.out
        by_cases hn : n = 0
        · subst hn
          have hf : Hid (Grow w wr ∧ g'.natAbs = Nat.gcd d0 z.natAbs) := Lib.hid ⟨i1, by rw [← i2]; simp⟩
          clear HI i1 i2 i3 i4 hkn
          go_wp2
          go_roundg k
          case measure => omega
          case rel => exact ⟨i + 1, g', by omega, by rw [Int.natCast_add]; rfl, rfl, Lib.hid ⟨hf.out.1, by rw [hf.out.2, hgl.out]⟩⟩
        · obtain ⟨e1, e2⟩ := gcd_step g' n hn
          have hf : Hid (∀ nn, Grow w (wr.drewN nn) ∧ Nat.gcd n.natAbs (g'.tmod n).natAbs = Nat.gcd d0 z.natAbs ∧ n.natAbs ≤ 1000000000000000000 ∧ (g'.tmod n).natAbs ≤ 1000000000000000000) := Lib.hid fun nn => ⟨i1.trans ⟨rfl, rfl, rfl, Nat.le_refl _, fun _ _ => rfl⟩, by rw [e1, i2], i4, by omega⟩
          clear HI i1 i2 i3 e1
          go_upto_region 6 with fail
          refine q_region (C := fun x => ∃ n, x = wr.drewN n) (by kernel_rfl) (by kernel_rfl) ⟨1, rfl⟩ ?_
          repeat (first
            | go_big_quiet_skip
            | (go_big_quiet_want; refine q_val ?_; apply Exists.intro; refine ⟨fun x hx => ?_, ?_⟩; (focus (obtain ⟨n, rfl⟩ := hx; go_simp <;> rfl)); simp only [Act.put, List.setIfInBounds_toArray, List.set_cons_zero, List.set_cons_succ]; go_big_quiet_on))
          refine wpQuiet_nil ?_
          rintro x ⟨nn, rfl⟩
          have hf2 := Lib.hid (hf.out nn)
          clear hf
          go_wp2
          go_roundg (g'.tmod n).natAbs
          case measure => omega
          case rel => exact ⟨n, g'.tmod n, rfl, rfl, rfl, hf2⟩
end Go.Proofs.Ytmfmnoajihiidaa
