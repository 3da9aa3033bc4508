/- Walks of Bounds$1 and Bounds. Printed by genB1.py. -/
import Derived.Test.YtmfmnoajihiidaaJ6
import Derived.Test.YtmfmnoajihiidaaV
import Derived.Test.YtmfmnoajihiidaaV2
import Derived.Test.YtmfmnoajihiidaaRc
set_option linter.unusedVariables false
namespace Go.Proofs.Ytmfmnoajihiidaa
open Go.RowKit
namespace Af
def lox (a : Af) (r : Rct.R) : Int := Rct.mn (Rct.mn (Rct.mn (a.bx r.x0 r.y0) (a.bx r.x1 r.y0)) (a.bx r.x0 r.y1)) (a.bx r.x1 r.y1)
def loy (a : Af) (r : Rct.R) : Int := Rct.mn (Rct.mn (Rct.mn (a.bY r.x0 r.y0) (a.bY r.x1 r.y0)) (a.bY r.x0 r.y1)) (a.bY r.x1 r.y1)
def hix (a : Af) (r : Rct.R) : Int := Rct.mx (Rct.mx (Rct.mx (a.bx r.x0 r.y0) (a.bx r.x1 r.y0)) (a.bx r.x0 r.y1)) (a.bx r.x1 r.y1)
def hiy (a : Af) (r : Rct.R) : Int := Rct.mx (Rct.mx (Rct.mx (a.bY r.x0 r.y0) (a.bY r.x1 r.y0)) (a.bY r.x0 r.y1)) (a.bY r.x1 r.y1)
def bnd (a : Af) (r : Rct.R) : Rct.R := Rct.inter ⟨Rct.cel (2 * a.lox r - a.N) (2 * a.N), Rct.cel (2 * a.loy r - a.N) (2 * a.N), Rct.flr (2 * a.hix r - a.N) (2 * a.N) + 1, Rct.flr (2 * a.hiy r - a.N) (2 * a.N) + 1⟩ ⟨-65536, -65536, 65536, 65536⟩
theorem b_bd {a : Af} (h : a.val = true) {X Y : Int} (hX : -70000 ≤ X ∧ X ≤ 70000) (hY : -70000 ≤ Y ∧ Y ≤ 70000) : (-1000000000 ≤ a.bx X Y ∧ a.bx X Y ≤ 1000000000) ∧ (-1000000000 ≤ a.bY X Y ∧ a.bY X Y ≤ 1000000000) := by
  obtain ⟨h1, h2, h3, h4, h5, h6, h7, h8, h9⟩ := a.val_iff.1 h
  have k1 := mul_bd h2 hX
  have k2 := mul_bd h3 hY
  have k3 := mul_bd h4 hX
  have k4 := mul_bd h5 hY
  unfold bx bY
  omega
end Af
theorem row4_at {C : Array Value} {a b c d : Int} (h : C.toList.take (4 * 1) = ivl [a, b, c, d]) : C[0]? = some (.int .i64 a) ∧ C[1]? = some (.int .i64 b) ∧ C[2]? = some (.int .i64 c) ∧ C[3]? = some (.int .i64 d) := by
  have k : ∀ j, j < 4 → C[j]? = (ivl [a, b, c, d])[j]? := by
    intro j hj
    rw [← h, List.getElem?_take, if_pos (by omega), Array.getElem?_toList]
  exact ⟨(k 0 (by omega)).trans rfl, (k 1 (by omega)).trans rfl, (k 2 (by omega)).trans rfl, (k 3 (by omega)).trans rfl⟩
set_option maxRecDepth 100000 in
set_option maxHeartbeats 4000000 in
theorem bnd1_any (a : Af) (hv : a.val = true) (r : Rct.R) (hb : (-70000 ≤ r.x0 ∧ r.x0 ≤ 70000) ∧ (-70000 ≤ r.y0 ∧ r.y0 ≤ 70000) ∧ (-70000 ≤ r.x1 ∧ r.x1 ≤ 70000) ∧ (-70000 ≤ r.y1 ∧ r.y1 ≤ 70000)) (br ba : Nat) (w : World) (hr : w.heap[br]? = some (.cells #[.int .i64 r.x0, .int .i64 r.y0, .int .i64 r.x1, .int .i64 r.y1] 48 (0, 0))) (ha : w.heap[ba]? = some (.cells #[.int .i64 a.A, .int .i64 a.B, .int .i64 a.C, .int .i64 a.D, .int .i64 a.E, .int .i64 a.F, .int .i64 a.N] 23 (0, 0))) :
    Calls Try.prog 49 #[.pointer (some ⟨br, 0, none⟩), .pointer (some ⟨ba, 0, none⟩)] w fun e w' => e = .returned (.agg #[.int .i64 (a.bnd r).x0, .int .i64 (a.bnd r).y0, .int .i64 (a.bnd r).x1, .int .i64 (a.bnd r).y1]) ∧ Grow w w' := by
  have hN : 1 ≤ a.N ∧ a.N ≤ 4096 := ⟨(a.val_iff.1 hv).1, (a.val_iff.1 hv).2.2.2.2.2.1⟩
  have bd0 := Af.b_bd hv hb.1 hb.2.1
  have bd1 := Af.b_bd hv hb.2.2.1 hb.2.1
  have bd2 := Af.b_bd hv hb.1 hb.2.2.2
  have bd3 := Af.b_bd hv hb.2.2.1 hb.2.2.2
  have hba : ba < w.heap.size := (Array.getElem?_eq_some_iff.1 ha).1
  have HL1 := Lib.hid (fun cap => low_any (a.bx r.x0 r.y0) (a.bx r.x1 r.y0) (a.bx r.x0 r.y1) (a.bx r.x1 r.y1) (cap := cap))
  have HH1 := Lib.hid (fun cap => high_any (a.bx r.x0 r.y0) (a.bx r.x1 r.y0) (a.bx r.x0 r.y1) (a.bx r.x1 r.y1) (cap := cap))
  have bL1 : -1000000000000000 ≤ a.lox r ∧ a.lox r ≤ 1000000000000000 := by unfold Af.lox; simp only [Rct.mn_eq]; omega
  have bH1 : -1000000000000000 ≤ a.hix r ∧ a.hix r ≤ 1000000000000000 := by unfold Af.hix; simp only [Rct.mx_eq]; omega
  have HP1 := Lib.hid (fun b w h => first_any a hN (a.lox r) bL1 b w h)
  have fb1 := Rct.flr_spec (2 * a.hix r - a.N) (2 * a.N) (by omega) (by omega) (by omega)
  have HQ1 := Lib.hid (fun b w h => last_any a hN (a.hix r) bH1 (by omega) b w h)
  rw [show Rct.mn (Rct.mn (Rct.mn (a.bx r.x0 r.y0) (a.bx r.x1 r.y0)) (a.bx r.x0 r.y1)) (a.bx r.x1 r.y1) = a.lox r from rfl] at HL1
  rw [show Rct.mx (Rct.mx (Rct.mx (a.bx r.x0 r.y0) (a.bx r.x1 r.y0)) (a.bx r.x0 r.y1)) (a.bx r.x1 r.y1) = a.hix r from rfl] at HH1
  have HL2 := Lib.hid (fun cap => low_any (a.bY r.x0 r.y0) (a.bY r.x1 r.y0) (a.bY r.x0 r.y1) (a.bY r.x1 r.y1) (cap := cap))
  have HH2 := Lib.hid (fun cap => high_any (a.bY r.x0 r.y0) (a.bY r.x1 r.y0) (a.bY r.x0 r.y1) (a.bY r.x1 r.y1) (cap := cap))
  have bL2 : -1000000000000000 ≤ a.loy r ∧ a.loy r ≤ 1000000000000000 := by unfold Af.loy; simp only [Rct.mn_eq]; omega
  have bH2 : -1000000000000000 ≤ a.hiy r ∧ a.hiy r ≤ 1000000000000000 := by unfold Af.hiy; simp only [Rct.mx_eq]; omega
  have HP2 := Lib.hid (fun b w h => first_any a hN (a.loy r) bL2 b w h)
  have fb2 := Rct.flr_spec (2 * a.hiy r - a.N) (2 * a.N) (by omega) (by omega) (by omega)
  have HQ2 := Lib.hid (fun b w h => last_any a hN (a.hiy r) bH2 (by omega) b w h)
  rw [show Rct.mn (Rct.mn (Rct.mn (a.bY r.x0 r.y0) (a.bY r.x1 r.y0)) (a.bY r.x0 r.y1)) (a.bY r.x1 r.y1) = a.loy r from rfl] at HL2
  rw [show Rct.mx (Rct.mx (Rct.mx (a.bY r.x0 r.y0) (a.bY r.x1 r.y0)) (a.bY r.x0 r.y1)) (a.bY r.x1 r.y1) = a.hiy r from rfl] at HH2
  have hbnd : a.bnd r = Rct.inter ⟨Rct.cel (2 * a.lox r - a.N) (2 * a.N), Rct.cel (2 * a.loy r - a.N) (2 * a.N), Rct.flr (2 * a.hix r - a.N) (2 * a.N) + 1, Rct.flr (2 * a.hiy r - a.N) (2 * a.N) + 1⟩ ⟨-65536, -65536, 65536, 65536⟩ := rfl
  have HI := Lib.hid (Rct.inter_any (Rct.cel (2 * a.lox r - a.N) (2 * a.N)) (Rct.cel (2 * a.loy r - a.N) (2 * a.N)) (Rct.flr (2 * a.hix r - a.N) (2 * a.N) + 1) (Rct.flr (2 * a.hiy r - a.N) (2 * a.N) + 1) (-65536) (-65536) 65536 65536)
  rw [← hbnd] at HI
  clear hbnd fb1 fb2 bL1 bL2 bH1 bH2 bd0 bd1 bd2 bd3 hN
  generalize a.bnd r = rs at *
  generalize Rct.cel (2 * a.lox r - a.N) (2 * a.N) = P1 at *
  generalize Rct.cel (2 * a.loy r - a.N) (2 * a.N) = P2 at *
  generalize Rct.flr (2 * a.hix r - a.N) (2 * a.N) + 1 = Q1 at *
  generalize Rct.flr (2 * a.hiy r - a.N) (2 * a.N) + 1 = Q2 at *
  generalize a.lox r = L1 at *
  generalize a.loy r = L2 at *
  generalize a.hix r = H1 at *
  generalize a.hiy r = H2 at *
  have hcb : CbC 51 #[.pointer (some ⟨w.heap.size + 1, 0, none⟩), .pointer (some ⟨ba, 0, none⟩), .pointer (some ⟨w.heap.size + 2, 0, none⟩)] r.x0 r.y0 r.x1 r.y1 (fun k x => Bw (w.heap.size + 1) ba (w.heap.size + 1) (w.heap.size + 2) (w.heap.size + 3) a (w.alloc (.cells #[.int .i64 0, .int .i64 0, .int .i64 0, .int .i64 0] 48)) ([a.bx r.x0 r.y0, a.bx r.x1 r.y0, a.bx r.x0 r.y1, a.bx r.x1 r.y1].take k) ([a.bY r.x0 r.y0, a.bY r.x1 r.y0, a.bY r.x0 r.y1, a.bY r.x1 r.y1].take k) x) := by
    refine ⟨enters_fn Try.func51 (by kernel_rfl) rfl, fun k x y hB g => hB.grow g, ?_, ?_, ?_, ?_⟩
    · exact fun x hx => push_any _ _ _ _ _ a hv _ _ _ ⟨by simp, by simp⟩ _ _ hb.1 hb.2.1 x hx
    · exact fun x hx => push_any _ _ _ _ _ a hv _ _ _ ⟨by simp, by simp⟩ _ _ hb.2.2.1 hb.2.1 x hx
    · exact fun x hx => push_any _ _ _ _ _ a hv _ _ _ ⟨by simp, by simp⟩ _ _ hb.1 hb.2.2.2 x hx
    · exact fun x hx => push_any _ _ _ _ _ a hv _ _ _ ⟨by simp, by simp⟩ _ _ hb.2.2.1 hb.2.2.2 x hx
  have HC := Lib.hid (corners_any _ _ _ _ _ _ _ (Lib.hid hcb))
  have hI0 : Bw (w.heap.size + 1) ba (w.heap.size + 1) (w.heap.size + 2) (w.heap.size + 3) a (w.alloc (.cells #[.int .i64 0, .int .i64 0, .int .i64 0, .int .i64 0] 48)) [] [] (((w.alloc (.cells #[.int .i64 0, .int .i64 0, .int .i64 0, .int .i64 0] 48)).alloc (.cells #[.slice none 0 0] 83)).alloc (.cells #[.slice none 0 0] 83)) := by
    refine ⟨((Below.refl _ _).alloc (by simp) _).alloc (by simp <;> omega) _, (((Grow.alloc w _).a _).a _).block ha, ⟨.slice none 0 0, .slice none 0 0, (Grow.alloc _ _).block (heap_new' _ _ _ (by simp)), heap_new' _ _ _ (by simp), World.ownsRow_nil _ _ _ _, World.ownsRow_nil _ _ _ _, fun k hk => by simp [Value.ownBlock] at hk⟩, by omega, by omega, by omega, by omega, by omega, by omega, by simp <;> omega⟩
  clear hcb hv hb
  have c0 : (((w.alloc (.cells #[.int .i64 0, .int .i64 0, .int .i64 0, .int .i64 0] 48)).alloc (.cells #[.slice none 0 0] 83)).alloc (.cells #[.slice none 0 0] 83)).cell? ⟨br, 0, none⟩ = some (.int .i64 r.x0) := (((Grow.alloc w (.cells #[.int .i64 0, .int .i64 0, .int .i64 0, .int .i64 0] 48)).a (.cells #[.slice none 0 0] 83)).a (.cells #[.slice none 0 0] 83)).cell (by rw [cell_of_row w _ 0 _ _ _ hr]; rfl)
  have c1 : (((w.alloc (.cells #[.int .i64 0, .int .i64 0, .int .i64 0, .int .i64 0] 48)).alloc (.cells #[.slice none 0 0] 83)).alloc (.cells #[.slice none 0 0] 83)).cell? ⟨br, 1, none⟩ = some (.int .i64 r.y0) := (((Grow.alloc w (.cells #[.int .i64 0, .int .i64 0, .int .i64 0, .int .i64 0] 48)).a (.cells #[.slice none 0 0] 83)).a (.cells #[.slice none 0 0] 83)).cell (by rw [cell_of_row w _ 1 _ _ _ hr]; rfl)
  have c2 : (((w.alloc (.cells #[.int .i64 0, .int .i64 0, .int .i64 0, .int .i64 0] 48)).alloc (.cells #[.slice none 0 0] 83)).alloc (.cells #[.slice none 0 0] 83)).cell? ⟨br, 2, none⟩ = some (.int .i64 r.x1) := (((Grow.alloc w (.cells #[.int .i64 0, .int .i64 0, .int .i64 0, .int .i64 0] 48)).a (.cells #[.slice none 0 0] 83)).a (.cells #[.slice none 0 0] 83)).cell (by rw [cell_of_row w _ 2 _ _ _ hr]; rfl)
  have c3 : (((w.alloc (.cells #[.int .i64 0, .int .i64 0, .int .i64 0, .int .i64 0] 48)).alloc (.cells #[.slice none 0 0] 83)).alloc (.cells #[.slice none 0 0] 83)).cell? ⟨br, 3, none⟩ = some (.int .i64 r.y1) := (((Grow.alloc w (.cells #[.int .i64 0, .int .i64 0, .int .i64 0, .int .i64 0] 48)).a (.cells #[.slice none 0 0] 83)).a (.cells #[.slice none 0 0] 83)).cell (by rw [cell_of_row w _ 3 _ _ _ hr]; rfl)
  replace hI0 := Lib.hid hI0
  clear hr
  replace hba := Lib.hid hba
  replace ha := Lib.hid ha
  go_enter Try.func49, Try.ntmps49
  go_wp2_with fail
  refine (HC.out _ hI0.out).mono ?_
  rintro e y ⟨rfl, hB⟩
  obtain ⟨hbel, ra, ⟨v1, v2, s1, s2, o1, o2, dj⟩, hlt⟩ := hB
  clear HC hI0 c0 c1 c2 c3
  replace o1 : y.ownsRow (w.heap.size + 3) 3 1 v1 4 (ivl [a.bx r.x0 r.y0, a.bx r.x1 r.y0, a.bx r.x0 r.y1, a.bx r.x1 r.y1]) := o1
  replace o2 : y.ownsRow (w.heap.size + 3) 3 1 v2 4 (ivl [a.bY r.x0 r.y0, a.bY r.x1 r.y0, a.bY r.x0 r.y1, a.bY r.x1 r.y1]) := o2
  rcases o1.2 with ⟨_, h0⟩ | ⟨g1, cap1, C1, rfl, hg1, t1, _, _, _, tk1⟩
  · omega
  rcases o2.2 with ⟨_, h0⟩ | ⟨g2, cap2, C2, rfl, hg2, t2, _, _, _, tk2⟩
  · omega
  obtain ⟨k10, k11, k12, k13⟩ := row4_at tk1
  obtain ⟨k20, k21, k22, k23⟩ := row4_at tk2
  have hG : Grow w y := (Grow.alloc w (.cells #[.int .i64 0, .int .i64 0, .int .i64 0, .int .i64 0] 48)).trans (show Grow (w.alloc (.cells #[.int .i64 0, .int .i64 0, .int .i64 0, .int .i64 0] 48)) y by
    have hs : (w.alloc (.cells #[.int .i64 0, .int .i64 0, .int .i64 0, .int .i64 0] 48)).heap.size = w.heap.size + 1 := by simp
    unfold Grow; rw [hs]; exact hbel)
  have rz : y.heap[w.heap.size]? = some (.cells #[.int .i64 0, .int .i64 0, .int .i64 0, .int .i64 0] 48 (0, 0)) := (hbel.block w.heap.size (by omega)).trans (heap_alloc_new _ _)
  clear o1 o2 tk1 tk2 hbel dj hlt
  replace hG := Lib.hid hG
  replace ra := Lib.hid ra
  replace s1 := Lib.hid s1
  replace s2 := Lib.hid s2
  replace t1 := Lib.hid t1
  replace t2 := Lib.hid t2
  replace rz := Lib.hid rz
  replace hg1 := Lib.hid hg1
  replace hg2 := Lib.hid hg2
  go_upto_region 7 with fail
  replace hg1 := hg1.out
  replace hg2 := hg2.out
  replace hba := hba.out
  have hSu : ∀ (bb : Bool) (xx : World), (fun bb xx => Grow w xx ∧ xx.heap[ba]? = some (.cells #[.int .i64 a.A, .int .i64 a.B, .int .i64 a.C, .int .i64 a.D, .int .i64 a.E, .int .i64 a.F, .int .i64 a.N] 23 (0, 0)) ∧ xx.heap[w.heap.size + 1]? = some (.cells #[.slice (some ⟨g1, 0, none⟩) 4 cap1] 83 (0, 0)) ∧ xx.heap[w.heap.size + 2]? = some (.cells #[.slice (some ⟨g2, 0, none⟩) 4 cap2] 83 (0, 0)) ∧ xx.heap[g1]? = some (.cells C1 3 (0, 0)) ∧ xx.heap[g2]? = some (.cells C2 3 (0, 0)) ∧ xx.heap[w.heap.size]? = some (cond bb (.cells #[.int .i64 rs.x0, .int .i64 rs.y0, .int .i64 rs.x1, .int .i64 rs.y1] 48 (0, 0)) (.cells #[.int .i64 0, .int .i64 0, .int .i64 0, .int .i64 0] 48 (0, 0)))) bb xx → Grow w xx ∧ xx.heap[ba]? = some (.cells #[.int .i64 a.A, .int .i64 a.B, .int .i64 a.C, .int .i64 a.D, .int .i64 a.E, .int .i64 a.F, .int .i64 a.N] 23 (0, 0)) ∧ xx.heap[w.heap.size + 1]? = some (.cells #[.slice (some ⟨g1, 0, none⟩) 4 cap1] 83 (0, 0)) ∧ xx.heap[w.heap.size + 2]? = some (.cells #[.slice (some ⟨g2, 0, none⟩) 4 cap2] 83 (0, 0)) ∧ xx.heap[g1]? = some (.cells C1 3 (0, 0)) ∧ xx.heap[g2]? = some (.cells C2 3 (0, 0)) ∧ xx.heap[w.heap.size]? = some (cond bb (.cells #[.int .i64 rs.x0, .int .i64 rs.y0, .int .i64 rs.x1, .int .i64 rs.y1] 48 (0, 0)) (.cells #[.int .i64 0, .int .i64 0, .int .i64 0, .int .i64 0] 48 (0, 0))) := fun _ _ h => h
  refine wp_region_calls ?lit7 ?hlit7 (by kernel_rfl) (by kernel_rfl) (by kernel_rfl) (by kernel_rfl) 23 (fun ii => ([(.func (.func 52) #[] #[.pointer (some ⟨ba, 0, none⟩)]), (.func (.func 56) #[] #[]), (.slice (some ⟨g1, 0, none⟩) 4 cap1), (.int .i64 (L1)), (.int .i64 (P1)), (.func (.func 52) #[] #[.pointer (some ⟨ba, 0, none⟩)]), (.func (.func 56) #[] #[]), (.slice (some ⟨g2, 0, none⟩) 4 cap2), (.int .i64 (L2)), (.int .i64 (P2)), (.func (.func 54) #[] #[.pointer (some ⟨ba, 0, none⟩)]), (.func (.func 57) #[] #[]), (.slice (some ⟨g1, 0, none⟩) 4 cap1), (.int .i64 (H1)), (.int .i64 (Q1)), (.func (.func 54) #[] #[.pointer (some ⟨ba, 0, none⟩)]), (.func (.func 57) #[] #[]), (.slice (some ⟨g2, 0, none⟩) 4 cap2), (.int .i64 (H2)), (.int .i64 (Q2)), (.agg #[.int .i64 (P1), .int .i64 (P2), .int .i64 (Q1), .int .i64 (Q2)]), (.agg #[.int .i64 (-65536), .int .i64 (-65536), .int .i64 (65536), .int .i64 (65536)]), (.agg #[.int .i64 (rs.x0), .int .i64 (rs.y0), .int .i64 (rs.x1), .int .i64 (rs.y1)]), (undef)] : List Value).getD ii undef) (fun bb xx => Grow w xx ∧ xx.heap[ba]? = some (.cells #[.int .i64 a.A, .int .i64 a.B, .int .i64 a.C, .int .i64 a.D, .int .i64 a.E, .int .i64 a.F, .int .i64 a.N] 23 (0, 0)) ∧ xx.heap[w.heap.size + 1]? = some (.cells #[.slice (some ⟨g1, 0, none⟩) 4 cap1] 83 (0, 0)) ∧ xx.heap[w.heap.size + 2]? = some (.cells #[.slice (some ⟨g2, 0, none⟩) 4 cap2] 83 (0, 0)) ∧ xx.heap[g1]? = some (.cells C1 3 (0, 0)) ∧ xx.heap[g2]? = some (.cells C2 3 (0, 0)) ∧ xx.heap[w.heap.size]? = some (cond bb (.cells #[.int .i64 rs.x0, .int .i64 rs.y0, .int .i64 rs.x1, .int .i64 rs.y1] 48 (0, 0)) (.cells #[.int .i64 0, .int .i64 0, .int .i64 0, .int .i64 0] 48 (0, 0)))) ⟨hG.out.d, ra.out, s1.out, s2.out, t1.out, t2.out, rz.out⟩ ?_ ?_ ?_
  case hlit7 =>
    intro uu
    simp only [fill, Act.put, Nat.zero_add, Nat.reduceAdd, List.setIfInBounds_toArray, List.set_cons_zero, List.set_cons_succ]
    rfl
  · intro ii oo ho him uu xx bb hx hd
    replace hx := hSu bb xx hx
    have hi : ii < 24 := (List.getElem?_eq_some_iff.1 ho).1
    obtain rfl | rfl | rfl | rfl | rfl | rfl | rfl | rfl | rfl | rfl | rfl | rfl | rfl | rfl | rfl | rfl | rfl | rfl | rfl | rfl | rfl | rfl | rfl | rfl : ii = 0 ∨ ii = 1 ∨ ii = 2 ∨ ii = 3 ∨ ii = 4 ∨ ii = 5 ∨ ii = 6 ∨ ii = 7 ∨ ii = 8 ∨ ii = 9 ∨ ii = 10 ∨ ii = 11 ∨ ii = 12 ∨ ii = 13 ∨ ii = 14 ∨ ii = 15 ∨ ii = 16 ∨ ii = 17 ∨ ii = 18 ∨ ii = 19 ∨ ii = 20 ∨ ii = 21 ∨ ii = 22 ∨ ii = 23 := by omega
    · simp only [List.getElem?_cons_zero, Option.some.injEq] at ho; subst ho
      exact .inl (run_mv _ rfl rfl)
    · simp only [List.getElem?_cons_succ, List.getElem?_cons_zero, Option.some.injEq] at ho; subst ho
      exact .inl (run_mv _ rfl rfl)
    · simp only [List.getElem?_cons_succ, List.getElem?_cons_zero, Option.some.injEq] at ho; subst ho
      exact .inl (run_ld83 _ _ rfl rfl (hx.2.2.1))
    · simp only [List.getElem?_cons_succ, List.getElem?_cons_zero, Option.some.injEq] at ho; subst ho
      have q1 : uu 1 = (.func (.func 56) #[] #[]) := hd 1 (by kernel_rfl)
      have q2 : uu 2 = (.slice (some ⟨g1, 0, none⟩) 4 cap1) := hd 2 (by kernel_rfl)
      exact .inr ⟨56, _, run_cv56 _ rfl q1 q2, (HL1.out cap1 g1 xx (by rw [cell_of_row xx _ 0 _ _ _ hx.2.2.2.2.1]; exact k10) (by rw [cell_of_row xx _ 1 _ _ _ hx.2.2.2.2.1]; exact k11) (by rw [cell_of_row xx _ 2 _ _ _ hx.2.2.2.2.1]; exact k12) (by rw [cell_of_row xx _ 3 _ _ _ hx.2.2.2.2.1]; exact k13)).mono fun e x h => ⟨h.1, ⟨hx.1.trans h.2, h.2.block hx.2.1, h.2.block hx.2.2.1, h.2.block hx.2.2.2.1, h.2.block hx.2.2.2.2.1, h.2.block hx.2.2.2.2.2.1, h.2.block hx.2.2.2.2.2.2⟩⟩⟩
    · simp only [List.getElem?_cons_succ, List.getElem?_cons_zero, Option.some.injEq] at ho; subst ho
      have q1 : uu 0 = (.func (.func 52) #[] #[.pointer (some ⟨ba, 0, none⟩)]) := hd 0 (by kernel_rfl)
      have q2 : uu 3 = (.int .i64 (L1)) := hd 3 (by kernel_rfl)
      exact .inr ⟨52, _, run_cv52 _ _ rfl q1 q2, (HP1.out ba xx hx.2.1).mono fun e x h => ⟨h.1, by rw [h.2]; exact hx⟩⟩
    · simp only [List.getElem?_cons_succ, List.getElem?_cons_zero, Option.some.injEq] at ho; subst ho
      exact .inl (run_mv _ rfl rfl)
    · simp only [List.getElem?_cons_succ, List.getElem?_cons_zero, Option.some.injEq] at ho; subst ho
      exact .inl (run_mv _ rfl rfl)
    · simp only [List.getElem?_cons_succ, List.getElem?_cons_zero, Option.some.injEq] at ho; subst ho
      exact .inl (run_ld83 _ _ rfl rfl (hx.2.2.2.1))
    · simp only [List.getElem?_cons_succ, List.getElem?_cons_zero, Option.some.injEq] at ho; subst ho
      have q1 : uu 6 = (.func (.func 56) #[] #[]) := hd 6 (by kernel_rfl)
      have q2 : uu 7 = (.slice (some ⟨g2, 0, none⟩) 4 cap2) := hd 7 (by kernel_rfl)
      exact .inr ⟨56, _, run_cv56 _ rfl q1 q2, (HL2.out cap2 g2 xx (by rw [cell_of_row xx _ 0 _ _ _ hx.2.2.2.2.2.1]; exact k20) (by rw [cell_of_row xx _ 1 _ _ _ hx.2.2.2.2.2.1]; exact k21) (by rw [cell_of_row xx _ 2 _ _ _ hx.2.2.2.2.2.1]; exact k22) (by rw [cell_of_row xx _ 3 _ _ _ hx.2.2.2.2.2.1]; exact k23)).mono fun e x h => ⟨h.1, ⟨hx.1.trans h.2, h.2.block hx.2.1, h.2.block hx.2.2.1, h.2.block hx.2.2.2.1, h.2.block hx.2.2.2.2.1, h.2.block hx.2.2.2.2.2.1, h.2.block hx.2.2.2.2.2.2⟩⟩⟩
    · simp only [List.getElem?_cons_succ, List.getElem?_cons_zero, Option.some.injEq] at ho; subst ho
      have q1 : uu 5 = (.func (.func 52) #[] #[.pointer (some ⟨ba, 0, none⟩)]) := hd 5 (by kernel_rfl)
      have q2 : uu 8 = (.int .i64 (L2)) := hd 8 (by kernel_rfl)
      exact .inr ⟨52, _, run_cv52 _ _ rfl q1 q2, (HP2.out ba xx hx.2.1).mono fun e x h => ⟨h.1, by rw [h.2]; exact hx⟩⟩
    · simp only [List.getElem?_cons_succ, List.getElem?_cons_zero, Option.some.injEq] at ho; subst ho
      exact .inl (run_mv _ rfl rfl)
    · simp only [List.getElem?_cons_succ, List.getElem?_cons_zero, Option.some.injEq] at ho; subst ho
      exact .inl (run_mv _ rfl rfl)
    · simp only [List.getElem?_cons_succ, List.getElem?_cons_zero, Option.some.injEq] at ho; subst ho
      exact .inl (run_ld83 _ _ rfl rfl (hx.2.2.1))
    · simp only [List.getElem?_cons_succ, List.getElem?_cons_zero, Option.some.injEq] at ho; subst ho
      have q1 : uu 11 = (.func (.func 57) #[] #[]) := hd 11 (by kernel_rfl)
      have q2 : uu 12 = (.slice (some ⟨g1, 0, none⟩) 4 cap1) := hd 12 (by kernel_rfl)
      exact .inr ⟨57, _, run_cv57 _ rfl q1 q2, (HH1.out cap1 g1 xx (by rw [cell_of_row xx _ 0 _ _ _ hx.2.2.2.2.1]; exact k10) (by rw [cell_of_row xx _ 1 _ _ _ hx.2.2.2.2.1]; exact k11) (by rw [cell_of_row xx _ 2 _ _ _ hx.2.2.2.2.1]; exact k12) (by rw [cell_of_row xx _ 3 _ _ _ hx.2.2.2.2.1]; exact k13)).mono fun e x h => ⟨h.1, ⟨hx.1.trans h.2, h.2.block hx.2.1, h.2.block hx.2.2.1, h.2.block hx.2.2.2.1, h.2.block hx.2.2.2.2.1, h.2.block hx.2.2.2.2.2.1, h.2.block hx.2.2.2.2.2.2⟩⟩⟩
    · simp only [List.getElem?_cons_succ, List.getElem?_cons_zero, Option.some.injEq] at ho; subst ho
      have q1 : uu 10 = (.func (.func 54) #[] #[.pointer (some ⟨ba, 0, none⟩)]) := hd 10 (by kernel_rfl)
      have q2 : uu 13 = (.int .i64 (H1)) := hd 13 (by kernel_rfl)
      exact .inr ⟨54, _, run_cv54 _ _ rfl q1 q2, (HQ1.out ba xx hx.2.1).mono fun e x h => ⟨h.1, by rw [h.2]; exact hx⟩⟩
    · simp only [List.getElem?_cons_succ, List.getElem?_cons_zero, Option.some.injEq] at ho; subst ho
      exact .inl (run_mv _ rfl rfl)
    · simp only [List.getElem?_cons_succ, List.getElem?_cons_zero, Option.some.injEq] at ho; subst ho
      exact .inl (run_mv _ rfl rfl)
    · simp only [List.getElem?_cons_succ, List.getElem?_cons_zero, Option.some.injEq] at ho; subst ho
      exact .inl (run_ld83 _ _ rfl rfl (hx.2.2.2.1))
    · simp only [List.getElem?_cons_succ, List.getElem?_cons_zero, Option.some.injEq] at ho; subst ho
      have q1 : uu 16 = (.func (.func 57) #[] #[]) := hd 16 (by kernel_rfl)
      have q2 : uu 17 = (.slice (some ⟨g2, 0, none⟩) 4 cap2) := hd 17 (by kernel_rfl)
      exact .inr ⟨57, _, run_cv57 _ rfl q1 q2, (HH2.out cap2 g2 xx (by rw [cell_of_row xx _ 0 _ _ _ hx.2.2.2.2.2.1]; exact k20) (by rw [cell_of_row xx _ 1 _ _ _ hx.2.2.2.2.2.1]; exact k21) (by rw [cell_of_row xx _ 2 _ _ _ hx.2.2.2.2.2.1]; exact k22) (by rw [cell_of_row xx _ 3 _ _ _ hx.2.2.2.2.2.1]; exact k23)).mono fun e x h => ⟨h.1, ⟨hx.1.trans h.2, h.2.block hx.2.1, h.2.block hx.2.2.1, h.2.block hx.2.2.2.1, h.2.block hx.2.2.2.2.1, h.2.block hx.2.2.2.2.2.1, h.2.block hx.2.2.2.2.2.2⟩⟩⟩
    · simp only [List.getElem?_cons_succ, List.getElem?_cons_zero, Option.some.injEq] at ho; subst ho
      have q1 : uu 15 = (.func (.func 54) #[] #[.pointer (some ⟨ba, 0, none⟩)]) := hd 15 (by kernel_rfl)
      have q2 : uu 18 = (.int .i64 (H2)) := hd 18 (by kernel_rfl)
      exact .inr ⟨54, _, run_cv54 _ _ rfl q1 q2, (HQ2.out ba xx hx.2.1).mono fun e x h => ⟨h.1, by rw [h.2]; exact hx⟩⟩
    · simp only [List.getElem?_cons_succ, List.getElem?_cons_zero, Option.some.injEq] at ho; subst ho
      have q1 : uu 4 = (.int .i64 (P1)) := hd 4 (by kernel_rfl)
      have q2 : uu 9 = (.int .i64 (P2)) := hd 9 (by kernel_rfl)
      have q3 : uu 14 = (.int .i64 (Q1)) := hd 14 (by kernel_rfl)
      have q4 : uu 19 = (.int .i64 (Q2)) := hd 19 (by kernel_rfl)
      exact .inl (run_bld48 _ _ _ _ rfl q1 q2 q3 q4)
    · simp only [List.getElem?_cons_succ, List.getElem?_cons_zero, Option.some.injEq] at ho; subst ho
      exact .inr ⟨45, _, run_c45  rfl rfl , (canvas_any xx).mono fun e x h => ⟨h.1, ⟨hx.1.trans h.2, h.2.block hx.2.1, h.2.block hx.2.2.1, h.2.block hx.2.2.2.1, h.2.block hx.2.2.2.2.1, h.2.block hx.2.2.2.2.2.1, h.2.block hx.2.2.2.2.2.2⟩⟩⟩
    · simp only [List.getElem?_cons_succ, List.getElem?_cons_zero, Option.some.injEq] at ho; subst ho
      have q1 : uu 20 = (.agg #[.int .i64 (P1), .int .i64 (P2), .int .i64 (Q1), .int .i64 (Q2)]) := hd 20 (by kernel_rfl)
      have q2 : uu 21 = (.agg #[.int .i64 (-65536), .int .i64 (-65536), .int .i64 (65536), .int .i64 (65536)]) := hd 21 (by kernel_rfl)
      exact .inr ⟨58, _, run_c58 _ _ rfl rfl q1 q2, (HI.out xx).mono fun e x h => have h : _ ∧ Grow xx x := h; ⟨h.1, ⟨hx.1.trans h.2, h.2.block hx.2.1, h.2.block hx.2.2.1, h.2.block hx.2.2.2.1, h.2.block hx.2.2.2.2.1, h.2.block hx.2.2.2.2.2.1, h.2.block hx.2.2.2.2.2.2⟩⟩⟩
    · exact absurd rfl him
  · intro oo ho
    refine ⟨rfl, fun uu xx hx hd => ?_⟩
    replace hx := hSu false xx hx
    simp only [List.getElem?_cons_succ, List.getElem?_cons_zero, Option.some.injEq] at ho; subst ho
    have q1 : uu 22 = (.agg #[.int .i64 (rs.x0), .int .i64 (rs.y0), .int .i64 (rs.x1), .int .i64 (rs.y1)]) := hd 22 (by kernel_rfl)
    exact ⟨_, run_st48 _ _ _ _ _ _ _ _ _ rfl rfl q1 hx.2.2.2.2.2.2, grow4 hx.1 (Nat.le_refl _) _ _ _ _, (other4 (by omega) _ _ _ _).trans hx.2.1, (other4 (by omega) _ _ _ _).trans hx.2.2.1, (other4 (by omega) _ _ _ _).trans hx.2.2.2.1, (other4 (by omega) _ _ _ _).trans hx.2.2.2.2.1, (other4 (by omega) _ _ _ _).trans hx.2.2.2.2.2.1, cells4 hx.2.2.2.2.2.2 _ _ _ _⟩
  · intro xx hx
    replace hx := hSu _ xx hx
    go_wp2
    refine bodyPost_ret (results_cell48 rfl _ w.heap.size _ _ _ _ _ rfl hx.2.2.2.2.2.2) rfl ⟨rfl, hx.1⟩
end Go.Proofs.Ytmfmnoajihiidaa
