/- Walk of layer 3's reference: Tiles. -/
import Derived.Test.YtplnhmfkflnhpaaY
import Derived.Test.YtplnhmfkflnhpaaRw
set_option linter.unusedVariables false
namespace Go.Proofs.Ytplnhmfkflnhpaa
open Go.RowKit
theorem own_slice {w : World} {b : Nat} {e : TypeId} {s : Nat} {v : Value} {n : Nat} {xs : List Value} (h : w.ownsRow b e s v n xs) : ∃ o c, v = .slice o n c := by
  rcases h.2 with ⟨rfl, h0⟩ | ⟨g, cap, cur, rfl, _⟩
  · exact ⟨none, 0, by rw [h0]⟩
  · exact ⟨_, _, rfl⟩
/-- The tiles that have been collected: whole rows, or as many as are wanted. -/
def Got (ax ay : Int) (nx ny nn j : Nat) (L : List (Int × Int)) : Prop := L <+: tls ax ay nx ny ∧ L.length ≤ nn ∧ (L = tls ax ay nx j ∨ L.length = nn)
def Got2 (ax ay : Int) (nx ny nn j i : Nat) (L : List (Int × Int)) : Prop := L <+: tls ax ay nx ny ∧ L.length ≤ nn ∧ (L = tls ax ay nx j ++ row ax (ay + (j : Int)) i ∨ L.length = nn)
theorem got_start (ax ay : Int) (nx ny nn : Nat) : Got ax ay nx ny nn 0 [] := ⟨List.nil_prefix, Nat.zero_le _, .inl rfl⟩
theorem got_in {ax ay : Int} {nx ny nn j : Nat} {L : List (Int × Int)} (h : Got ax ay nx ny nn j L) (hl : L.length < nn) : Got2 ax ay nx ny nn j 0 L := by
  obtain ⟨h1, h2, h3⟩ := h
  refine ⟨h1, h2, .inl ?_⟩
  rcases h3 with h3 | h3
  · rw [h3]; simp [row]
  · omega
theorem got_push {ax ay : Int} {nx ny nn j i : Nat} {L : List (Int × Int)} (h : Got2 ax ay nx ny nn j i L) (hl : L.length < nn) (hi : i < nx) (hj : j < ny) : Got2 ax ay nx ny nn j (i + 1) (L ++ [(ax + (i : Int), ay + (j : Int))]) := by
  obtain ⟨h1, h2, h3⟩ := h
  rcases h3 with h3 | h3
  · subst h3
    have e : tls ax ay nx j ++ row ax (ay + (j : Int)) i ++ [(ax + (i : Int), ay + (j : Int))] = tls ax ay nx j ++ row ax (ay + (j : Int)) (i + 1) := by rw [row_succ, List.append_assoc]
    refine ⟨?_, ?_, .inl e⟩
    · rw [e]; exact tls_at ax ay (by omega) hj
    · simp at hl ⊢; omega
  · omega
theorem got_out {ax ay : Int} {nx ny nn j i : Nat} {L : List (Int × Int)} (h : Got2 ax ay nx ny nn j i L) (hi : i = nx ∨ L.length = nn) : Got ax ay nx ny nn (j + 1) L := by
  obtain ⟨h1, h2, h3⟩ := h
  refine ⟨h1, h2, ?_⟩
  rcases h3 with h3 | h3
  · rcases hi with hi | hi
    · subst hi; exact .inl (by rw [tls_succ]; exact h3)
    · exact .inr hi
  · exact .inr h3
theorem got_end {ax ay : Int} {nx ny nn j : Nat} {L : List (Int × Int)} (h : Got ax ay nx ny nn j L) (hj : j = ny ∨ L.length = nn) : (tls ax ay nx ny).take nn = L := by
  obtain ⟨h1, h2, h3⟩ := h
  have key : L.length = nn → (tls ax ay nx ny).take nn = L := by
    intro e
    obtain ⟨m, hm⟩ := h1
    rw [← hm, ← e, List.take_left]
  rcases hj with hj | hj
  · rcases h3 with h3 | h3
    · subst hj; rw [← h3]; exact List.take_of_length_le h2
    · exact key h3
  · exact key hj
set_option maxRecDepth 100000 in
set_option maxHeartbeats 4000000 in
theorem tiles_ref (r : R) (nn : Nat) (hnn : nn ≤ 1000) (hok : Okr r) (w : World) :
    Calls Try.prog 21 #[.agg #[.int .i64 r.x0, .int .i64 r.y0, .int .i64 r.x1, .int .i64 r.y1], .int .i64 (nn : Int)] w fun e W' =>
    ∃ v, e = .returned v ∧ W'.ownsRow w.heap.size 31 2 v ((tilesL r).take nn).length (tcs ((tilesL r).take nn)) ∧ Below w.heap.size w W' := by
  cases he : emp r with
  | true =>
    have ht : tilesL r = [] := by unfold tilesL; rw [if_pos he]
    rw [ht]
    clear hok ht
    go_enter Try.func21, Try.ntmps21
    go_wp2_with (go_at_call 45; refine (empty_ref _ _ _ _ _).mono ?_; rintro e w2 ⟨rfl, rfl⟩)
    go_ret
    exact ⟨_, rfl, by rw [List.take_nil]; exact World.ownsRow_nil _ _ _ _, ball2 _ _ _⟩
  | false =>
    obtain ⟨hax, hay, hbx, hby, hox, hoy⟩ := hok he
    clear hok
    have ht : tilesL r = tls (tax r) (tay r) (tnx r) (tny r) := by unfold tilesL; rw [if_neg (by simp [he])]
    have HT := Lib.hid ht
    clear ht
    go_enter Try.func21, Try.ntmps21
    go_wp2_with (go_at_call 45; refine (empty_ref _ _ _ _ _).mono ?_; rintro e w2 ⟨rfl, rfl⟩)
    refine (at_ref _ _ _).mono ?_
    rintro e w1 ⟨rfl, hB⟩
    have hg1 := bt (ball2 w (.cells #[.int .i64 r.x0, .int .i64 r.y0, .int .i64 r.x1, .int .i64 r.y1] 26) (.cells #[.int .i64 r.x0, .int .i64 r.y0, .int .i64 r.x1, .int .i64 r.y1] 26)) hB
    obtain ⟨hc, hf⟩ := bcell hB
    have hz : w.heap.size < w1.heap.size := by (have := hB.size; simp at this; omega)
    go_wp2_with fail
    refine (at_ref _ _ _).mono ?_
    rintro e w2 ⟨rfl, hB2⟩
    have hg2 := Grow.trans (Grow.a (o := .cells #[.int .i64 (flr r.x0 8), .int .i64 (flr r.y0 8)] 31) hg1) hB2
    obtain ⟨hc2, hf2⟩ := bcell hB2
    have hz2 : w1.heap.size < w2.heap.size := by (have := hB2.size; simp at this; omega)
    go_wp2_with fail
    refine wp_gen (fun W0 => (W0.cell? ⟨w1.heap.size, 0, none⟩ = some (.int .i64 (flr r.x0 8)) ∧ W0.cell? ⟨w1.heap.size, 1, none⟩ = some (.int .i64 (flr r.y0 8)) ∧ W0.cell? ⟨w2.heap.size, 0, none⟩ = some (.int .i64 (flr (wrap64 (r.x1 - 1)) 8)) ∧ W0.cell? ⟨w2.heap.size, 1, none⟩ = some (.int .i64 (flr (wrap64 (r.y1 - 1)) 8))) ∧ Grow w W0 ∧ w2.heap.size < W0.heap.size) ⟨by go_simp, hg2.a _, by simp⟩ ?_
    rintro W0 ⟨⟨k0, k1, k2, k3⟩, hg, hW⟩
    have Hg := Lib.hid hg
    clear hc hf hc2 hf2 hz hB hB2 hg1 hg2 hg
    have hnx : tnx r = (flr (wrap64 (r.x1 - 1)) 8 - flr r.x0 8 + 1).toNat := rfl
    have hny : tny r = (flr (wrap64 (r.y1 - 1)) 8 - flr r.y0 8 + 1).toNat := rfl
    unfold tax tay at HT
    generalize flr r.x0 8 = ax at *
    generalize flr r.y0 8 = ay at *
    generalize flr (wrap64 (r.x1 - 1)) 8 = bx at *
    generalize flr (wrap64 (r.y1 - 1)) 8 = b at *
    generalize tnx r = nx at *
    generalize tny r = ny at *
    have hnx' : (nx : Int) = bx - ax + 1 := by omega
    have hny' : (ny : Int) = b - ay + 1 := by omega
    have HX := Lib.hid hnx'
    have HY := Lib.hid hny'
    clear hnx hny hnx' hny'
    go_loopw [5, 9, 10] (fun v y x wr => ∃ (j : Nat) (L : List (Int × Int)), j ≤ ny ∧ y = .int .i64 (ay + j) ∧ wr.ownsRow W0.heap.size 31 2 v L.length (tcs L) ∧ Grow W0 wr ∧ Hid (Got ax ay nx ny nn j L)) (fun _ y _ _ => (b + 1 - intOf y).toNat)
    case atStart => exact ⟨0, [], Nat.zero_le _, by go_num, World.ownsRow_nil _ _ _ _, Grow.refl _, Lib.hid (got_start _ _ _ _ _)⟩
    case round =>
      obtain ⟨j, L, hj, rfl, hown, hgw, HG⟩ := hrel
      have hHY := HY.out
      have hLn := HG.out.2.1
      have c0 := hgw.cell k0
      have c1 := hgw.cell k1
      have c2 := hgw.cell k2
      have c3 := hgw.cell k3
      obtain ⟨wo, rfl⟩ : ∃ wo : World, wo = wr := ⟨_, rfl⟩
      obtain ⟨o1, cp1, rfl⟩ := own_slice hown
      by_cases hgo : j < ny ∧ L.length < nn
      · obtain ⟨hjn, hln⟩ := hgo
        have t1 : ay + (j : Int) ≤ b := by omega
        have t2 : (L.length : Int) < (nn : Int) := by omega
        go_wp2
        go_loopw [5, 10] (fun v x wr => ∃ (i : Nat) (L' : List (Int × Int)), i ≤ nx ∧ x = .int .i64 (ax + i) ∧ wr.ownsRow W0.heap.size 31 2 v L'.length (tcs L') ∧ Grow W0 wr ∧ Hid (Got2 ax ay nx ny nn j i L')) (fun _ x _ => (bx + 1 - intOf x).toNat)
        case atStart => exact ⟨0, L, Nat.zero_le _, by go_num, hown, hgw, Lib.hid (got_in HG.out hln)⟩
        case round =>
          obtain ⟨i, L', hi, rfl, hown', hgw', HG'⟩ := hrel
          have hHX := HX.out
          have hLn' := HG'.out.2.1
          have d0 := hgw'.cell k0
          have d1 := hgw'.cell k1
          have d2 := hgw'.cell k2
          have d3 := hgw'.cell k3
          obtain ⟨o2, cp2, rfl⟩ := own_slice hown'
          by_cases hgi : i < nx ∧ L'.length < nn
          · obtain ⟨hin, hln'⟩ := hgi
            have t1' : ax + (i : Int) ≤ bx := by omega
            have t2' : (L'.length : Int) < (nn : Int) := by omega
            have hWr := hgw'.size
            go_wp2_with (at_builtin; refine wp_pushS _ rfl _ _ 28 31 rfl Try.underlying28 _ 2 16 infoT rfl (by decide) W0.heap.size _ _ _ rfl hown' (tcl (ax + (i : Int), ay + (j : Int))) rfl (0, 0) rfl (by intro u h; simp [tcl] at h; rcases h with rfl | rfl <;> rfl) (by omega) (by decide) hWr ?_; intro v' w3 hown2 hne hb3 hsz3)
            go_roundw
            case rel => exact ⟨i + 1, L' ++ [(ax + (i : Int), ay + (j : Int))], by omega, by go_num, by rw [tcs_snoc, List.length_append]; exact hown2, Below.trans hgw' hb3, Lib.hid (got_push HG'.out hln' hin hjn)⟩
            case measure => simp [intOf]; omega
          · by_cases hin : i < nx
            · have t1' : ax + (i : Int) ≤ bx := by omega
              have t2' : (nn : Int) ≤ (L'.length : Int) := by omega
              have hend : L'.length = nn := by omega
              have hfin := Lib.hid (got_out HG'.out (.inr hend))
              clear hend hgi
              go_wp2
              go_roundw
              case rel => exact ⟨j + 1, L', by omega, by go_num, hown', hgw', hfin⟩
              case measure => simp [intOf]; omega
            · have t1' : bx < ax + (i : Int) := by omega
              have hend : i = nx := by omega
              have hfin := Lib.hid (got_out HG'.out (.inl hend))
              clear hend hgi
              go_wp2
              go_roundw
              case rel => exact ⟨j + 1, L', by omega, by go_num, hown', hgw', hfin⟩
              case measure => simp [intOf]; omega
      · have hT : j = ny ∨ L.length = nn := by omega
        have hfin := Lib.hid (got_end HG.out hT)
        clear hT
        by_cases hjn : j < ny
        · have t1 : ay + (j : Int) ≤ b := by omega
          have t2 : (nn : Int) ≤ (L.length : Int) := by omega
          clear hgo
          go_wp2
          go_ret
          exact ⟨_, rfl, by rw [HT.out, hfin.out]; exact row_mono hown Hg.out.size, Hg.out.trans hgw⟩
        · have t1 : b < ay + (j : Int) := by omega
          clear hgo
          go_wp2
          go_ret
          exact ⟨_, rfl, by (have e := congrArg List.length hfin.out; rw [List.length_take] at e; rw [HT.out, hfin.out, e]; exact row_mono hown Hg.out.size), Hg.out.trans hgw⟩
end Go.Proofs.Ytplnhmfkflnhpaa
