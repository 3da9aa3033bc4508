/- x -/
import Derived.Test.YtpdckpifhniioaaD1
set_option linter.unusedVariables false
set_option linter.unusedSimpArgs false
namespace Go.Proofs.Ytpdckpifhniioaa
open Go.RowKit
namespace Ab
def I122 (t : Nat → UInt8) (k : Nat) : St := ⟨[(3, iv .i64 (k : Nat)), (1, .c (.l (.p 0 0))), (2, .c (.l (.p 1 0)))], [(0, some ⟨tl (upTo k (clnT t) t), .t 27⟩), (1, some ⟨tl zT, .t 27⟩)], 2, 15, [1, 0], (0)⟩
theorem upTo_px (t : Nat → UInt8) {k : Nat} (hk : k < 64) : List.take 4 (List.drop (0 + k * 4) (tl (upTo k (clnT t) t))) = [ub (t (4 * k)), ub (t (4 * k + 1)), ub (t (4 * k + 2)), ub (t (4 * k + 3))] := by
  rw [Nat.zero_add, tl_pix _ hk]
  unfold px upTo
  rw [if_neg (by omega), if_neg (by omega), if_neg (by omega), if_neg (by omega)]
def cz_R122 (t : Nat → UInt8) (k : Nat) : Cz := {
  ct := (fun f => match f with
  | 51 => some fun _ _S ar => match ar with | [.c (.agg [.v (.int _ a), .v (.int _ b), .v (.int _ c), .v (.int _ e)])] => some { v := ag [u8 (pcl e a), u8 (pcl e b), u8 (pcl e c), u8 (pcl e e)], rd := [], wr := [], nw := 0 } | _ => none
  | _ => none)
  eq := (fun t => match t with
  | _ => none)
  raw := [], sym := [0, 10, 11, 13], nf := [(11, .c (.agg [ub (t (4 * k)), ub (t (4 * k + 1)), ub (t (4 * k + 2)), ub (t (4 * k + 3))])), (12, .c (.agg [ub ((clnT t) (4 * k)), ub ((clnT t) (4 * k + 1)), ub ((clnT t) (4 * k + 2)), ub ((clnT t) (4 * k + 3))]))], ap := true, off := [], on := [], lp := fun _ => none, un := 0 }
set_option maxRecDepth 100000 in
theorem R122 (t : Nat → UInt8) (k : Nat)  (K : Exit → St → Prop) (h : HB (decide ((Nat.cast k : Int) < 64)) (InR ((Nat.cast k : Int)) 64 ∧ 0 + ((Nat.cast k : Int)).toNat * 4 + 4 ≤ 256 ∧ Le (ag (List.take 4 (List.drop (0 + ((Nat.cast k : Int)).toNat * 4) (tl (upTo k (clnT t) t))))) (ag [Leaf.v (Value.int IntKind.u8 (Nat.cast ((t (4 * k)).toNat) : Int)), Leaf.v (Value.int IntKind.u8 (Nat.cast ((t (4 * k + 1)).toNat) : Int)), Leaf.v (Value.int IntKind.u8 (Nat.cast ((t (4 * k + 2)).toNat) : Int)), Leaf.v (Value.int IntKind.u8 (Nat.cast ((t (4 * k + 3)).toNat) : Int))]) ∧ CallOKd Try.prog 51 [] [ag [Leaf.v (Value.int IntKind.u8 (Nat.cast ((t (4 * k)).toNat) : Int)), Leaf.v (Value.int IntKind.u8 (Nat.cast ((t (4 * k + 1)).toNat) : Int)), Leaf.v (Value.int IntKind.u8 (Nat.cast ((t (4 * k + 2)).toNat) : Int)), Leaf.v (Value.int IntKind.u8 (Nat.cast ((t (4 * k + 3)).toNat) : Int))]] [] 2 (ag [Leaf.v (Value.int IntKind.u8 (pcl (Nat.cast ((t (4 * k + 3)).toNat) : Int) (Nat.cast ((t (4 * k)).toNat) : Int))), Leaf.v (Value.int IntKind.u8 (pcl (Nat.cast ((t (4 * k + 3)).toNat) : Int) (Nat.cast ((t (4 * k + 1)).toNat) : Int))), Leaf.v (Value.int IntKind.u8 (pcl (Nat.cast ((t (4 * k + 3)).toNat) : Int) (Nat.cast ((t (4 * k + 2)).toNat) : Int))), Leaf.v (Value.int IntKind.u8 (pcl (Nat.cast ((t (4 * k + 3)).toNat) : Int) (Nat.cast ((t (4 * k + 3)).toNat) : Int)))]) [] 0 ∧ Le (ag [Leaf.v (Value.int IntKind.u8 (pcl (Nat.cast ((t (4 * k + 3)).toNat) : Int) (Nat.cast ((t (4 * k)).toNat) : Int))), Leaf.v (Value.int IntKind.u8 (pcl (Nat.cast ((t (4 * k + 3)).toNat) : Int) (Nat.cast ((t (4 * k + 1)).toNat) : Int))), Leaf.v (Value.int IntKind.u8 (pcl (Nat.cast ((t (4 * k + 3)).toNat) : Int) (Nat.cast ((t (4 * k + 2)).toNat) : Int))), Leaf.v (Value.int IntKind.u8 (pcl (Nat.cast ((t (4 * k + 3)).toNat) : Int) (Nat.cast ((t (4 * k + 3)).toNat) : Int)))]) (ag [Leaf.v (Value.int IntKind.u8 (Nat.cast ((clnT t (4 * k)).toNat) : Int)), Leaf.v (Value.int IntKind.u8 (Nat.cast ((clnT t (4 * k + 1)).toNat) : Int)), Leaf.v (Value.int IntKind.u8 (Nat.cast ((clnT t (4 * k + 2)).toNat) : Int)), Leaf.v (Value.int IntKind.u8 (Nat.cast ((clnT t (4 * k + 3)).toNat) : Int))]) ∧ InR ((Nat.cast k : Int)) 64 ∧ 0 + ((Nat.cast k : Int)).toNat * 4 + 4 ≤ 256 ∧ IntKind.i64.wrap ((Nat.cast k : Int) + 1) = (Nat.cast k : Int) + 1 ∧ RoundTo Try.prog ((getLoop 2 (Try.f81.body.getD Code.skip)).getD Code.skip) 2 (wkK 2 K) (St.mk [(3, iv IntKind.i64 ((Nat.cast k : Int) + 1)), (7, iv IntKind.i64 ((Nat.cast k : Int) + 1)), (6, iv IntKind.i64 (Nat.cast k : Int)), (13, SV.c (Cp.l (Leaf.p 0 (0 + ((Nat.cast k : Int)).toNat * 4)))), (12, ag [Leaf.v (Value.int IntKind.u8 (Nat.cast ((clnT t (4 * k)).toNat) : Int)), Leaf.v (Value.int IntKind.u8 (Nat.cast ((clnT t (4 * k + 1)).toNat) : Int)), Leaf.v (Value.int IntKind.u8 (Nat.cast ((clnT t (4 * k + 2)).toNat) : Int)), Leaf.v (Value.int IntKind.u8 (Nat.cast ((clnT t (4 * k + 3)).toNat) : Int))]), (11, ag [Leaf.v (Value.int IntKind.u8 (Nat.cast ((t (4 * k)).toNat) : Int)), Leaf.v (Value.int IntKind.u8 (Nat.cast ((t (4 * k + 1)).toNat) : Int)), Leaf.v (Value.int IntKind.u8 (Nat.cast ((t (4 * k + 2)).toNat) : Int)), Leaf.v (Value.int IntKind.u8 (Nat.cast ((t (4 * k + 3)).toNat) : Int))]), (10, SV.c (Cp.l (Leaf.p 0 (0 + ((Nat.cast k : Int)).toNat * 4)))), (9, iv IntKind.i64 (Nat.cast k : Int)), (8, iv IntKind.i64 (Nat.cast k : Int)), (5, bv (decide ((Nat.cast k : Int) < 64))), (4, iv IntKind.i64 (Nat.cast k : Int)), (3, iv IntKind.i64 (Nat.cast k : Int)), (1, SV.c (Cp.l (Leaf.p 0 0))), (2, SV.c (Cp.l (Leaf.p 1 0)))] [(0, some (Blk.mk (splice (tl (upTo k (clnT t) t)) (0 + ((Nat.cast k : Int)).toNat * 4) [Leaf.v (Value.int IntKind.u8 (Nat.cast ((clnT t (4 * k)).toNat) : Int)), Leaf.v (Value.int IntKind.u8 (Nat.cast ((clnT t (4 * k + 1)).toNat) : Int)), Leaf.v (Value.int IntKind.u8 (Nat.cast ((clnT t (4 * k + 2)).toNat) : Int)), Leaf.v (Value.int IntKind.u8 (Nat.cast ((clnT t (4 * k + 3)).toNat) : Int))]) (BT.t 27))), (0, some (Blk.mk (tl (upTo k (clnT t) t)) (BT.t 27))), (1, some (Blk.mk (tl zT) (BT.t 27)))] 2 15 [0, 1, 0] 0)) (wkK 2 K (Exit.exit 0) (St.mk [(5, bv (decide ((Nat.cast k : Int) < 64))), (4, iv IntKind.i64 (Nat.cast k : Int)), (3, iv IntKind.i64 (Nat.cast k : Int)), (1, SV.c (Cp.l (Leaf.p 0 0))), (2, SV.c (Cp.l (Leaf.p 1 0)))] [(0, some (Blk.mk (tl (upTo k (clnT t) t)) (BT.t 27))), (1, some (Blk.mk (tl zT) (BT.t 27)))] 2 15 [1, 0] 0))) : WPL Try.prog ((getLoop 2 (Try.f81.body.getD .skip)).getD .skip) (I122 t k) (wkK 2 K) :=
  wp_round (cx := cz_R122 t k) rfl (of_eq (by kernel_rfl) h)
set_option maxRecDepth 100000 in
set_option maxHeartbeats 4000000 in
theorem L122 (t : Nat → UInt8)  : ∀ (m k : Nat), 64 - k = m → k ≤ 64 → ∀ (K : Exit → St → Prop), K (.exit 0) (I122 t 64) → WPL Try.prog ((getLoop 2 (Try.f81.body.getD .skip)).getD .skip) (I122 t k) (wkK 2 K)
  | 0, k, hm, hk, K, hK => by
    have e : k = 64 := by omega
    subst e
    refine R122 t _ K (HB.mk (fun hne => absurd (of_decide_eq_true hne) (by omega)) (fun he => ?_))
    exact wkK.to (I122 t _) (Nat.le_refl _) (by kernel_rfl) (wkE_cons (LeN.sl (by kernel_rfl) rfl) (wkE_cons (LeN.sl (by kernel_rfl) rfl) (wkE_cons (LeN.sl (by kernel_rfl) rfl) trivial))) (wkH_cons (BkN.plain (cs := tl (upTo 64 (clnT t) t)) (b := .t 27) (by kernel_rfl) (rfl) (plain_tl _) (by kernel_rfl)) (wkH_cons (BkN.plain (cs := tl zT) (b := .t 27) (by kernel_rfl) (rfl) (plain_tl _) (by kernel_rfl)) trivial)) hK
  | m + 1, k, hm, hk, K, hK => by
    refine R122 t k K (HB.mk (fun hne => ?_) (fun he => absurd (show ((k : Nat) : Int) < (64 : Nat) by omega) (of_decide_eq_false he)))
    have hlt : k < 64 := by omega
    repeat' (first | exact trivial | with_reducible apply And.intro | (with_reducible apply HB.mk) | with_reducible intro _)
    all_goals first
      | (assumption)
      | (with_reducible exact Le.refl _)
      | (with_reducible rfl)
      | (with_reducible exact C100 _ _ _ _ _)
      | (exact ⟨by omega, by omega⟩)
      | ((rw [tl_len]; omega))
      | (omega)
      | (exact Le.of (congrArg (fun l => SV.c (.agg l)) (upTo_px t hlt)))
      | (exact Le.of (cln_px t k))
      | ((with_reducible refine RoundTo.toN 2 (I122 t (k + 1)) ?_ ?_ ?_ ?_ ?_); exact Nat.le_refl _; kernel_rfl; exact (wkE_cons (LeN.sl (by kernel_rfl) rfl) (wkE_cons (LeN.sl (by kernel_rfl) rfl) (wkE_cons (LeN.sl (by kernel_rfl) rfl) trivial))); exact (wkH_cons (BkN.plain (cs := splice (tl (upTo k (clnT t) t)) (0 + k * 4) [ub ((clnT t) (4 * k)), ub ((clnT t) (4 * k + 1)), ub ((clnT t) (4 * k + 2)), ub ((clnT t) (4 * k + 3))]) (b := .t 27) (by kernel_rfl) (by rw [Nat.zero_add, upTo_set k _ _ hlt]) (plain_tl _) (by kernel_rfl)) (wkH_cons (BkN.plain (cs := tl zT) (b := .t 27) (by kernel_rfl) (rfl) (plain_tl _) (by kernel_rfl)) trivial)); exact (L122 t  m (k + 1) (by omega) (by omega) K hK))
      | (exact okw _ (by omega) (by omega))
      | (exact Le.of rfl)
      | (exact BkR.of rfl)
      | (unfold SlOK; omega)
      | (unfold SlOK; decide)
      | (unfold inByte; decide)
      | (simp only [*, Bool.and_self, Bool.not_false, Bool.not_true]; done)
      | (simp_all [wants]; done)
theorem enters122 : Enters Try.prog 81 := fun args w => by go_simp
def cz_C122 (t : Nat → UInt8) : Cz := {
  ct := (fun f => match f with
  | 51 => some fun _ _S ar => match ar with | [.c (.agg [.v (.int _ a), .v (.int _ b), .v (.int _ c), .v (.int _ e)])] => some { v := ag [u8 (pcl e a), u8 (pcl e b), u8 (pcl e c), u8 (pcl e e)], rd := [], wr := [], nw := 0 } | _ => none
  | _ => none)
  eq := (fun t => match t with
  | _ => none)
  raw := [], sym := [], nf := [(14, .c (.agg (tl (clnT t))))], ap := true, off := [], on := [], lp := fun r => match r with | 2 => some (fun _ K => K (.exit 0) (I122 t 64)) | _ => none, un := 0, wh := [27] }
set_option maxRecDepth 100000 in
set_option maxHeartbeats 400000 in
theorem C122 (t : Nat → UInt8)  (n : Nat) : CallOK Try.prog 81 [.c (.agg (tl t))] [] n (.c (.agg (tl (clnT t)))) [] 0 := by
  refine CallOK.any ?_ (by kernel_rfl) (by kernel_rfl) n
  refine call_ok (cx := cz_C122 t) (nm := []) rfl Try.func81 (body := Try.f81.body.getD .skip) rfl enters122 (by kernel_rfl) ?_
  apply of_eq (q := (LoopOK Try.prog ((getLoop 2 (Try.f81.body.getD .skip)).getD .skip) (St.mk [(3, iv IntKind.i64 0), (2, SV.c (Cp.l (Leaf.p 1 0))), (1, SV.c (Cp.l (Leaf.p 0 0))), (0, ag (tl t))] [(1, some (Blk.mk zT256 (BT.t 27))), (0, some (Blk.mk (tl t) (BT.t 27)))] 2 15 [1, 0] 0) fun K => K (Exit.exit 0) (I122 t 64)) ∧ Le (ag (List.take 256 (tl (upTo 64 (clnT t) t)))) (ag (tl (clnT t))) ∧ 0 = 0 ∧ 256 = 256 ∧ Le (ag [Leaf.v (Value.int IntKind.u8 (Nat.cast ((clnT t 0).toNat) : Int)), Leaf.v (Value.int IntKind.u8 (Nat.cast ((clnT t 1).toNat) : Int)), Leaf.v (Value.int IntKind.u8 (Nat.cast ((clnT t 2).toNat) : Int)), Leaf.v (Value.int IntKind.u8 (Nat.cast ((clnT t 3).toNat) : Int)), Leaf.v (Value.int IntKind.u8 (Nat.cast ((clnT t 4).toNat) : Int)), Leaf.v (Value.int IntKind.u8 (Nat.cast ((clnT t 5).toNat) : Int)), Leaf.v (Value.int IntKind.u8 (Nat.cast ((clnT t 6).toNat) : Int)), Leaf.v (Value.int IntKind.u8 (Nat.cast ((clnT t 7).toNat) : Int)), Leaf.v (Value.int IntKind.u8 (Nat.cast ((clnT t 8).toNat) : Int)), Leaf.v (Value.int IntKind.u8 (Nat.cast ((clnT t 9).toNat) : Int)), Leaf.v (Value.int IntKind.u8 (Nat.cast ((clnT t 10).toNat) : Int)), Leaf.v (Value.int IntKind.u8 (Nat.cast ((clnT t 11).toNat) : Int)), Leaf.v (Value.int IntKind.u8 (Nat.cast ((clnT t 12).toNat) : Int)), Leaf.v (Value.int IntKind.u8 (Nat.cast ((clnT t 13).toNat) : Int)), Leaf.v (Value.int IntKind.u8 (Nat.cast ((clnT t 14).toNat) : Int)), Leaf.v (Value.int IntKind.u8 (Nat.cast ((clnT t 15).toNat) : Int)), Leaf.v (Value.int IntKind.u8 (Nat.cast ((clnT t 16).toNat) : Int)), Leaf.v (Value.int IntKind.u8 (Nat.cast ((clnT t 17).toNat) : Int)), Leaf.v (Value.int IntKind.u8 (Nat.cast ((clnT t 18).toNat) : Int)), Leaf.v (Value.int IntKind.u8 (Nat.cast ((clnT t 19).toNat) : Int)), Leaf.v (Value.int IntKind.u8 (Nat.cast ((clnT t 20).toNat) : Int)), Leaf.v (Value.int IntKind.u8 (Nat.cast ((clnT t 21).toNat) : Int)), Leaf.v (Value.int IntKind.u8 (Nat.cast ((clnT t 22).toNat) : Int)), Leaf.v (Value.int IntKind.u8 (Nat.cast ((clnT t 23).toNat) : Int)), Leaf.v (Value.int IntKind.u8 (Nat.cast ((clnT t 24).toNat) : Int)), Leaf.v (Value.int IntKind.u8 (Nat.cast ((clnT t 25).toNat) : Int)), Leaf.v (Value.int IntKind.u8 (Nat.cast ((clnT t 26).toNat) : Int)), Leaf.v (Value.int IntKind.u8 (Nat.cast ((clnT t 27).toNat) : Int)), Leaf.v (Value.int IntKind.u8 (Nat.cast ((clnT t 28).toNat) : Int)), Leaf.v (Value.int IntKind.u8 (Nat.cast ((clnT t 29).toNat) : Int)), Leaf.v (Value.int IntKind.u8 (Nat.cast ((clnT t 30).toNat) : Int)), Leaf.v (Value.int IntKind.u8 (Nat.cast ((clnT t 31).toNat) : Int)), Leaf.v (Value.int IntKind.u8 (Nat.cast ((clnT t 32).toNat) : Int)), Leaf.v (Value.int IntKind.u8 (Nat.cast ((clnT t 33).toNat) : Int)), Leaf.v (Value.int IntKind.u8 (Nat.cast ((clnT t 34).toNat) : Int)), Leaf.v (Value.int IntKind.u8 (Nat.cast ((clnT t 35).toNat) : Int)), Leaf.v (Value.int IntKind.u8 (Nat.cast ((clnT t 36).toNat) : Int)), Leaf.v (Value.int IntKind.u8 (Nat.cast ((clnT t 37).toNat) : Int)), Leaf.v (Value.int IntKind.u8 (Nat.cast ((clnT t 38).toNat) : Int)), Leaf.v (Value.int IntKind.u8 (Nat.cast ((clnT t 39).toNat) : Int)), Leaf.v (Value.int IntKind.u8 (Nat.cast ((clnT t 40).toNat) : Int)), Leaf.v (Value.int IntKind.u8 (Nat.cast ((clnT t 41).toNat) : Int)), Leaf.v (Value.int IntKind.u8 (Nat.cast ((clnT t 42).toNat) : Int)), Leaf.v (Value.int IntKind.u8 (Nat.cast ((clnT t 43).toNat) : Int)), Leaf.v (Value.int IntKind.u8 (Nat.cast ((clnT t 44).toNat) : Int)), Leaf.v (Value.int IntKind.u8 (Nat.cast ((clnT t 45).toNat) : Int)), Leaf.v (Value.int IntKind.u8 (Nat.cast ((clnT t 46).toNat) : Int)), Leaf.v (Value.int IntKind.u8 (Nat.cast ((clnT t 47).toNat) : Int)), Leaf.v (Value.int IntKind.u8 (Nat.cast ((clnT t 48).toNat) : Int)), Leaf.v (Value.int IntKind.u8 (Nat.cast ((clnT t 49).toNat) : Int)), Leaf.v (Value.int IntKind.u8 (Nat.cast ((clnT t 50).toNat) : Int)), Leaf.v (Value.int IntKind.u8 (Nat.cast ((clnT t 51).toNat) : Int)), Leaf.v (Value.int IntKind.u8 (Nat.cast ((clnT t 52).toNat) : Int)), Leaf.v (Value.int IntKind.u8 (Nat.cast ((clnT t 53).toNat) : Int)), Leaf.v (Value.int IntKind.u8 (Nat.cast ((clnT t 54).toNat) : Int)), Leaf.v (Value.int IntKind.u8 (Nat.cast ((clnT t 55).toNat) : Int)), Leaf.v (Value.int IntKind.u8 (Nat.cast ((clnT t 56).toNat) : Int)), Leaf.v (Value.int IntKind.u8 (Nat.cast ((clnT t 57).toNat) : Int)), Leaf.v (Value.int IntKind.u8 (Nat.cast ((clnT t 58).toNat) : Int)), Leaf.v (Value.int IntKind.u8 (Nat.cast ((clnT t 59).toNat) : Int)), Leaf.v (Value.int IntKind.u8 (Nat.cast ((clnT t 60).toNat) : Int)), Leaf.v (Value.int IntKind.u8 (Nat.cast ((clnT t 61).toNat) : Int)), Leaf.v (Value.int IntKind.u8 (Nat.cast ((clnT t 62).toNat) : Int)), Leaf.v (Value.int IntKind.u8 (Nat.cast ((clnT t 63).toNat) : Int)), Leaf.v (Value.int IntKind.u8 (Nat.cast ((clnT t 64).toNat) : Int)), Leaf.v (Value.int IntKind.u8 (Nat.cast ((clnT t 65).toNat) : Int)), Leaf.v (Value.int IntKind.u8 (Nat.cast ((clnT t 66).toNat) : Int)), Leaf.v (Value.int IntKind.u8 (Nat.cast ((clnT t 67).toNat) : Int)), Leaf.v (Value.int IntKind.u8 (Nat.cast ((clnT t 68).toNat) : Int)), Leaf.v (Value.int IntKind.u8 (Nat.cast ((clnT t 69).toNat) : Int)), Leaf.v (Value.int IntKind.u8 (Nat.cast ((clnT t 70).toNat) : Int)), Leaf.v (Value.int IntKind.u8 (Nat.cast ((clnT t 71).toNat) : Int)), Leaf.v (Value.int IntKind.u8 (Nat.cast ((clnT t 72).toNat) : Int)), Leaf.v (Value.int IntKind.u8 (Nat.cast ((clnT t 73).toNat) : Int)), Leaf.v (Value.int IntKind.u8 (Nat.cast ((clnT t 74).toNat) : Int)), Leaf.v (Value.int IntKind.u8 (Nat.cast ((clnT t 75).toNat) : Int)), Leaf.v (Value.int IntKind.u8 (Nat.cast ((clnT t 76).toNat) : Int)), Leaf.v (Value.int IntKind.u8 (Nat.cast ((clnT t 77).toNat) : Int)), Leaf.v (Value.int IntKind.u8 (Nat.cast ((clnT t 78).toNat) : Int)), Leaf.v (Value.int IntKind.u8 (Nat.cast ((clnT t 79).toNat) : Int)), Leaf.v (Value.int IntKind.u8 (Nat.cast ((clnT t 80).toNat) : Int)), Leaf.v (Value.int IntKind.u8 (Nat.cast ((clnT t 81).toNat) : Int)), Leaf.v (Value.int IntKind.u8 (Nat.cast ((clnT t 82).toNat) : Int)), Leaf.v (Value.int IntKind.u8 (Nat.cast ((clnT t 83).toNat) : Int)), Leaf.v (Value.int IntKind.u8 (Nat.cast ((clnT t 84).toNat) : Int)), Leaf.v (Value.int IntKind.u8 (Nat.cast ((clnT t 85).toNat) : Int)), Leaf.v (Value.int IntKind.u8 (Nat.cast ((clnT t 86).toNat) : Int)), Leaf.v (Value.int IntKind.u8 (Nat.cast ((clnT t 87).toNat) : Int)), Leaf.v (Value.int IntKind.u8 (Nat.cast ((clnT t 88).toNat) : Int)), Leaf.v (Value.int IntKind.u8 (Nat.cast ((clnT t 89).toNat) : Int)), Leaf.v (Value.int IntKind.u8 (Nat.cast ((clnT t 90).toNat) : Int)), Leaf.v (Value.int IntKind.u8 (Nat.cast ((clnT t 91).toNat) : Int)), Leaf.v (Value.int IntKind.u8 (Nat.cast ((clnT t 92).toNat) : Int)), Leaf.v (Value.int IntKind.u8 (Nat.cast ((clnT t 93).toNat) : Int)), Leaf.v (Value.int IntKind.u8 (Nat.cast ((clnT t 94).toNat) : Int)), Leaf.v (Value.int IntKind.u8 (Nat.cast ((clnT t 95).toNat) : Int)), Leaf.v (Value.int IntKind.u8 (Nat.cast ((clnT t 96).toNat) : Int)), Leaf.v (Value.int IntKind.u8 (Nat.cast ((clnT t 97).toNat) : Int)), Leaf.v (Value.int IntKind.u8 (Nat.cast ((clnT t 98).toNat) : Int)), Leaf.v (Value.int IntKind.u8 (Nat.cast ((clnT t 99).toNat) : Int)), Leaf.v (Value.int IntKind.u8 (Nat.cast ((clnT t 100).toNat) : Int)), Leaf.v (Value.int IntKind.u8 (Nat.cast ((clnT t 101).toNat) : Int)), Leaf.v (Value.int IntKind.u8 (Nat.cast ((clnT t 102).toNat) : Int)), Leaf.v (Value.int IntKind.u8 (Nat.cast ((clnT t 103).toNat) : Int)), Leaf.v (Value.int IntKind.u8 (Nat.cast ((clnT t 104).toNat) : Int)), Leaf.v (Value.int IntKind.u8 (Nat.cast ((clnT t 105).toNat) : Int)), Leaf.v (Value.int IntKind.u8 (Nat.cast ((clnT t 106).toNat) : Int)), Leaf.v (Value.int IntKind.u8 (Nat.cast ((clnT t 107).toNat) : Int)), Leaf.v (Value.int IntKind.u8 (Nat.cast ((clnT t 108).toNat) : Int)), Leaf.v (Value.int IntKind.u8 (Nat.cast ((clnT t 109).toNat) : Int)), Leaf.v (Value.int IntKind.u8 (Nat.cast ((clnT t 110).toNat) : Int)), Leaf.v (Value.int IntKind.u8 (Nat.cast ((clnT t 111).toNat) : Int)), Leaf.v (Value.int IntKind.u8 (Nat.cast ((clnT t 112).toNat) : Int)), Leaf.v (Value.int IntKind.u8 (Nat.cast ((clnT t 113).toNat) : Int)), Leaf.v (Value.int IntKind.u8 (Nat.cast ((clnT t 114).toNat) : Int)), Leaf.v (Value.int IntKind.u8 (Nat.cast ((clnT t 115).toNat) : Int)), Leaf.v (Value.int IntKind.u8 (Nat.cast ((clnT t 116).toNat) : Int)), Leaf.v (Value.int IntKind.u8 (Nat.cast ((clnT t 117).toNat) : Int)), Leaf.v (Value.int IntKind.u8 (Nat.cast ((clnT t 118).toNat) : Int)), Leaf.v (Value.int IntKind.u8 (Nat.cast ((clnT t 119).toNat) : Int)), Leaf.v (Value.int IntKind.u8 (Nat.cast ((clnT t 120).toNat) : Int)), Leaf.v (Value.int IntKind.u8 (Nat.cast ((clnT t 121).toNat) : Int)), Leaf.v (Value.int IntKind.u8 (Nat.cast ((clnT t 122).toNat) : Int)), Leaf.v (Value.int IntKind.u8 (Nat.cast ((clnT t 123).toNat) : Int)), Leaf.v (Value.int IntKind.u8 (Nat.cast ((clnT t 124).toNat) : Int)), Leaf.v (Value.int IntKind.u8 (Nat.cast ((clnT t 125).toNat) : Int)), Leaf.v (Value.int IntKind.u8 (Nat.cast ((clnT t 126).toNat) : Int)), Leaf.v (Value.int IntKind.u8 (Nat.cast ((clnT t 127).toNat) : Int)), Leaf.v (Value.int IntKind.u8 (Nat.cast ((clnT t 128).toNat) : Int)), Leaf.v (Value.int IntKind.u8 (Nat.cast ((clnT t 129).toNat) : Int)), Leaf.v (Value.int IntKind.u8 (Nat.cast ((clnT t 130).toNat) : Int)), Leaf.v (Value.int IntKind.u8 (Nat.cast ((clnT t 131).toNat) : Int)), Leaf.v (Value.int IntKind.u8 (Nat.cast ((clnT t 132).toNat) : Int)), Leaf.v (Value.int IntKind.u8 (Nat.cast ((clnT t 133).toNat) : Int)), Leaf.v (Value.int IntKind.u8 (Nat.cast ((clnT t 134).toNat) : Int)), Leaf.v (Value.int IntKind.u8 (Nat.cast ((clnT t 135).toNat) : Int)), Leaf.v (Value.int IntKind.u8 (Nat.cast ((clnT t 136).toNat) : Int)), Leaf.v (Value.int IntKind.u8 (Nat.cast ((clnT t 137).toNat) : Int)), Leaf.v (Value.int IntKind.u8 (Nat.cast ((clnT t 138).toNat) : Int)), Leaf.v (Value.int IntKind.u8 (Nat.cast ((clnT t 139).toNat) : Int)), Leaf.v (Value.int IntKind.u8 (Nat.cast ((clnT t 140).toNat) : Int)), Leaf.v (Value.int IntKind.u8 (Nat.cast ((clnT t 141).toNat) : Int)), Leaf.v (Value.int IntKind.u8 (Nat.cast ((clnT t 142).toNat) : Int)), Leaf.v (Value.int IntKind.u8 (Nat.cast ((clnT t 143).toNat) : Int)), Leaf.v (Value.int IntKind.u8 (Nat.cast ((clnT t 144).toNat) : Int)), Leaf.v (Value.int IntKind.u8 (Nat.cast ((clnT t 145).toNat) : Int)), Leaf.v (Value.int IntKind.u8 (Nat.cast ((clnT t 146).toNat) : Int)), Leaf.v (Value.int IntKind.u8 (Nat.cast ((clnT t 147).toNat) : Int)), Leaf.v (Value.int IntKind.u8 (Nat.cast ((clnT t 148).toNat) : Int)), Leaf.v (Value.int IntKind.u8 (Nat.cast ((clnT t 149).toNat) : Int)), Leaf.v (Value.int IntKind.u8 (Nat.cast ((clnT t 150).toNat) : Int)), Leaf.v (Value.int IntKind.u8 (Nat.cast ((clnT t 151).toNat) : Int)), Leaf.v (Value.int IntKind.u8 (Nat.cast ((clnT t 152).toNat) : Int)), Leaf.v (Value.int IntKind.u8 (Nat.cast ((clnT t 153).toNat) : Int)), Leaf.v (Value.int IntKind.u8 (Nat.cast ((clnT t 154).toNat) : Int)), Leaf.v (Value.int IntKind.u8 (Nat.cast ((clnT t 155).toNat) : Int)), Leaf.v (Value.int IntKind.u8 (Nat.cast ((clnT t 156).toNat) : Int)), Leaf.v (Value.int IntKind.u8 (Nat.cast ((clnT t 157).toNat) : Int)), Leaf.v (Value.int IntKind.u8 (Nat.cast ((clnT t 158).toNat) : Int)), Leaf.v (Value.int IntKind.u8 (Nat.cast ((clnT t 159).toNat) : Int)), Leaf.v (Value.int IntKind.u8 (Nat.cast ((clnT t 160).toNat) : Int)), Leaf.v (Value.int IntKind.u8 (Nat.cast ((clnT t 161).toNat) : Int)), Leaf.v (Value.int IntKind.u8 (Nat.cast ((clnT t 162).toNat) : Int)), Leaf.v (Value.int IntKind.u8 (Nat.cast ((clnT t 163).toNat) : Int)), Leaf.v (Value.int IntKind.u8 (Nat.cast ((clnT t 164).toNat) : Int)), Leaf.v (Value.int IntKind.u8 (Nat.cast ((clnT t 165).toNat) : Int)), Leaf.v (Value.int IntKind.u8 (Nat.cast ((clnT t 166).toNat) : Int)), Leaf.v (Value.int IntKind.u8 (Nat.cast ((clnT t 167).toNat) : Int)), Leaf.v (Value.int IntKind.u8 (Nat.cast ((clnT t 168).toNat) : Int)), Leaf.v (Value.int IntKind.u8 (Nat.cast ((clnT t 169).toNat) : Int)), Leaf.v (Value.int IntKind.u8 (Nat.cast ((clnT t 170).toNat) : Int)), Leaf.v (Value.int IntKind.u8 (Nat.cast ((clnT t 171).toNat) : Int)), Leaf.v (Value.int IntKind.u8 (Nat.cast ((clnT t 172).toNat) : Int)), Leaf.v (Value.int IntKind.u8 (Nat.cast ((clnT t 173).toNat) : Int)), Leaf.v (Value.int IntKind.u8 (Nat.cast ((clnT t 174).toNat) : Int)), Leaf.v (Value.int IntKind.u8 (Nat.cast ((clnT t 175).toNat) : Int)), Leaf.v (Value.int IntKind.u8 (Nat.cast ((clnT t 176).toNat) : Int)), Leaf.v (Value.int IntKind.u8 (Nat.cast ((clnT t 177).toNat) : Int)), Leaf.v (Value.int IntKind.u8 (Nat.cast ((clnT t 178).toNat) : Int)), Leaf.v (Value.int IntKind.u8 (Nat.cast ((clnT t 179).toNat) : Int)), Leaf.v (Value.int IntKind.u8 (Nat.cast ((clnT t 180).toNat) : Int)), Leaf.v (Value.int IntKind.u8 (Nat.cast ((clnT t 181).toNat) : Int)), Leaf.v (Value.int IntKind.u8 (Nat.cast ((clnT t 182).toNat) : Int)), Leaf.v (Value.int IntKind.u8 (Nat.cast ((clnT t 183).toNat) : Int)), Leaf.v (Value.int IntKind.u8 (Nat.cast ((clnT t 184).toNat) : Int)), Leaf.v (Value.int IntKind.u8 (Nat.cast ((clnT t 185).toNat) : Int)), Leaf.v (Value.int IntKind.u8 (Nat.cast ((clnT t 186).toNat) : Int)), Leaf.v (Value.int IntKind.u8 (Nat.cast ((clnT t 187).toNat) : Int)), Leaf.v (Value.int IntKind.u8 (Nat.cast ((clnT t 188).toNat) : Int)), Leaf.v (Value.int IntKind.u8 (Nat.cast ((clnT t 189).toNat) : Int)), Leaf.v (Value.int IntKind.u8 (Nat.cast ((clnT t 190).toNat) : Int)), Leaf.v (Value.int IntKind.u8 (Nat.cast ((clnT t 191).toNat) : Int)), Leaf.v (Value.int IntKind.u8 (Nat.cast ((clnT t 192).toNat) : Int)), Leaf.v (Value.int IntKind.u8 (Nat.cast ((clnT t 193).toNat) : Int)), Leaf.v (Value.int IntKind.u8 (Nat.cast ((clnT t 194).toNat) : Int)), Leaf.v (Value.int IntKind.u8 (Nat.cast ((clnT t 195).toNat) : Int)), Leaf.v (Value.int IntKind.u8 (Nat.cast ((clnT t 196).toNat) : Int)), Leaf.v (Value.int IntKind.u8 (Nat.cast ((clnT t 197).toNat) : Int)), Leaf.v (Value.int IntKind.u8 (Nat.cast ((clnT t 198).toNat) : Int)), Leaf.v (Value.int IntKind.u8 (Nat.cast ((clnT t 199).toNat) : Int)), Leaf.v (Value.int IntKind.u8 (Nat.cast ((clnT t 200).toNat) : Int)), Leaf.v (Value.int IntKind.u8 (Nat.cast ((clnT t 201).toNat) : Int)), Leaf.v (Value.int IntKind.u8 (Nat.cast ((clnT t 202).toNat) : Int)), Leaf.v (Value.int IntKind.u8 (Nat.cast ((clnT t 203).toNat) : Int)), Leaf.v (Value.int IntKind.u8 (Nat.cast ((clnT t 204).toNat) : Int)), Leaf.v (Value.int IntKind.u8 (Nat.cast ((clnT t 205).toNat) : Int)), Leaf.v (Value.int IntKind.u8 (Nat.cast ((clnT t 206).toNat) : Int)), Leaf.v (Value.int IntKind.u8 (Nat.cast ((clnT t 207).toNat) : Int)), Leaf.v (Value.int IntKind.u8 (Nat.cast ((clnT t 208).toNat) : Int)), Leaf.v (Value.int IntKind.u8 (Nat.cast ((clnT t 209).toNat) : Int)), Leaf.v (Value.int IntKind.u8 (Nat.cast ((clnT t 210).toNat) : Int)), Leaf.v (Value.int IntKind.u8 (Nat.cast ((clnT t 211).toNat) : Int)), Leaf.v (Value.int IntKind.u8 (Nat.cast ((clnT t 212).toNat) : Int)), Leaf.v (Value.int IntKind.u8 (Nat.cast ((clnT t 213).toNat) : Int)), Leaf.v (Value.int IntKind.u8 (Nat.cast ((clnT t 214).toNat) : Int)), Leaf.v (Value.int IntKind.u8 (Nat.cast ((clnT t 215).toNat) : Int)), Leaf.v (Value.int IntKind.u8 (Nat.cast ((clnT t 216).toNat) : Int)), Leaf.v (Value.int IntKind.u8 (Nat.cast ((clnT t 217).toNat) : Int)), Leaf.v (Value.int IntKind.u8 (Nat.cast ((clnT t 218).toNat) : Int)), Leaf.v (Value.int IntKind.u8 (Nat.cast ((clnT t 219).toNat) : Int)), Leaf.v (Value.int IntKind.u8 (Nat.cast ((clnT t 220).toNat) : Int)), Leaf.v (Value.int IntKind.u8 (Nat.cast ((clnT t 221).toNat) : Int)), Leaf.v (Value.int IntKind.u8 (Nat.cast ((clnT t 222).toNat) : Int)), Leaf.v (Value.int IntKind.u8 (Nat.cast ((clnT t 223).toNat) : Int)), Leaf.v (Value.int IntKind.u8 (Nat.cast ((clnT t 224).toNat) : Int)), Leaf.v (Value.int IntKind.u8 (Nat.cast ((clnT t 225).toNat) : Int)), Leaf.v (Value.int IntKind.u8 (Nat.cast ((clnT t 226).toNat) : Int)), Leaf.v (Value.int IntKind.u8 (Nat.cast ((clnT t 227).toNat) : Int)), Leaf.v (Value.int IntKind.u8 (Nat.cast ((clnT t 228).toNat) : Int)), Leaf.v (Value.int IntKind.u8 (Nat.cast ((clnT t 229).toNat) : Int)), Leaf.v (Value.int IntKind.u8 (Nat.cast ((clnT t 230).toNat) : Int)), Leaf.v (Value.int IntKind.u8 (Nat.cast ((clnT t 231).toNat) : Int)), Leaf.v (Value.int IntKind.u8 (Nat.cast ((clnT t 232).toNat) : Int)), Leaf.v (Value.int IntKind.u8 (Nat.cast ((clnT t 233).toNat) : Int)), Leaf.v (Value.int IntKind.u8 (Nat.cast ((clnT t 234).toNat) : Int)), Leaf.v (Value.int IntKind.u8 (Nat.cast ((clnT t 235).toNat) : Int)), Leaf.v (Value.int IntKind.u8 (Nat.cast ((clnT t 236).toNat) : Int)), Leaf.v (Value.int IntKind.u8 (Nat.cast ((clnT t 237).toNat) : Int)), Leaf.v (Value.int IntKind.u8 (Nat.cast ((clnT t 238).toNat) : Int)), Leaf.v (Value.int IntKind.u8 (Nat.cast ((clnT t 239).toNat) : Int)), Leaf.v (Value.int IntKind.u8 (Nat.cast ((clnT t 240).toNat) : Int)), Leaf.v (Value.int IntKind.u8 (Nat.cast ((clnT t 241).toNat) : Int)), Leaf.v (Value.int IntKind.u8 (Nat.cast ((clnT t 242).toNat) : Int)), Leaf.v (Value.int IntKind.u8 (Nat.cast ((clnT t 243).toNat) : Int)), Leaf.v (Value.int IntKind.u8 (Nat.cast ((clnT t 244).toNat) : Int)), Leaf.v (Value.int IntKind.u8 (Nat.cast ((clnT t 245).toNat) : Int)), Leaf.v (Value.int IntKind.u8 (Nat.cast ((clnT t 246).toNat) : Int)), Leaf.v (Value.int IntKind.u8 (Nat.cast ((clnT t 247).toNat) : Int)), Leaf.v (Value.int IntKind.u8 (Nat.cast ((clnT t 248).toNat) : Int)), Leaf.v (Value.int IntKind.u8 (Nat.cast ((clnT t 249).toNat) : Int)), Leaf.v (Value.int IntKind.u8 (Nat.cast ((clnT t 250).toNat) : Int)), Leaf.v (Value.int IntKind.u8 (Nat.cast ((clnT t 251).toNat) : Int)), Leaf.v (Value.int IntKind.u8 (Nat.cast ((clnT t 252).toNat) : Int)), Leaf.v (Value.int IntKind.u8 (Nat.cast ((clnT t 253).toNat) : Int)), Leaf.v (Value.int IntKind.u8 (Nat.cast ((clnT t 254).toNat) : Int)), Leaf.v (Value.int IntKind.u8 (Nat.cast ((clnT t 255).toNat) : Int))]) (ag (tl (clnT t))) ∧ True) (by kernel_rfl)
  repeat' (first | exact trivial | with_reducible apply And.intro | (with_reducible apply HB.mk) | with_reducible intro _)
  all_goals first
    | (assumption)
    | (with_reducible exact Le.refl _)
    | (with_reducible rfl)
    | (exact LoopOK.mk (I122 t 0) rfl (by kernel_rfl) (wkE_cons (LeN.sl (by kernel_rfl) rfl) (wkE_cons (LeN.sl (by kernel_rfl) rfl) (wkE_cons (LeN.sl (by kernel_rfl) rfl) trivial))) (wkH_cons (BkN.plain (cs := tl t) (b := .t 27) (by kernel_rfl) (by rw [upTo_none]) (plain_tl _) (by kernel_rfl)) (wkH_cons (BkN.plain (cs := zT256) (b := .t 27) (by kernel_rfl) (zT256_eq) (plain_tl _) (by kernel_rfl)) trivial)) (fun K hT => L122 t  _ 0 rfl (by first | decide | omega) K hT))
    | (refine Le.of ?_; rw [upTo_all, tl_take])
    | (exact Le.of (by kernel_rfl))
    | (exact okw _ (by omega) (by omega))
    | (exact Le.of rfl)
    | (exact BkR.of rfl)
    | (unfold SlOK; omega)
    | (unfold SlOK; decide)
    | (unfold inByte; decide)
    | (simp only [*, Bool.and_self, Bool.not_false, Bool.not_true]; done)
    | (simp_all [wants]; done)
theorem C122L (l : List Leaf) (t : Nat → UInt8) (h : l = tl t) (n : Nat) : CallOK Try.prog 81 [.c (.agg l)] [] n (.c (.agg (tl (clnT (lsB l))))) [] 0 := by
  subst h
  rw [cln_lsB]; exact C122 t n
def I44 (t : Nat → UInt8) (k : Nat) : St := ⟨[(3, iv .i64 (k : Nat)), (1, .c (.l (.p 0 0)))], [(0, some ⟨tl t, .t 27⟩)], 1, 13, [0], (0)⟩
def Q44 (t : Nat → UInt8) : St := ⟨[(2, bv false)], [(0, some ⟨tl t, .t 27⟩)], 1, 13, [0], (0)⟩
theorem tl_a (t : Nat → UInt8) {k : Nat} (hk : k < 64) : (tl t).getD (0 + ((k : Nat) : Int).toNat * 4 + 3) .u = ub (t (4 * k + 3)) := by
  rw [show 0 + ((k : Nat) : Int).toNat * 4 + 3 = 4 * k + 3 by omega, tl_getD t (by omega)]
theorem a_yes {b : UInt8} (h : (((b.toNat : Nat) : Int) != 0) = false) : decide (b = 0) = true := by
  have : ((b.toNat : Nat) : Int) = 0 := by simpa using h
  exact decide_eq_true (UInt8.toNat_inj.1 (by simpa using this))
theorem a_no {b : UInt8} (h : (((b.toNat : Nat) : Int) != 0) = true) : decide (b = 0) = false := by
  refine decide_eq_false fun e => ?_
  subst e
  exact absurd h (by decide)
theorem zero_iff (t : Nat → UInt8) : zeroT t = true ↔ ∀ j, j < 64 → decide (t (4 * j + 3) = 0) = true := by
  unfold zeroT
  rw [sameT_iff]
  constructor
  · intro h j hj
    have := h (4 * j + 3) (by omega)
    unfold clnT pcb zT at this
    rw [show (4 * j + 3) / 4 = j by omega] at this
    refine decide_eq_true ?_
    by_cases e : t (4 * j + 3) = 0
    · exact e
    · rwa [if_neg e] at this
  · intro h i hi
    unfold clnT pcb zT
    rw [if_pos (of_decide_eq_true (h (i / 4) (by omega)))]
theorem zero_no {t : Nat → UInt8} {j : Nat} (hj : j < 64) (h : decide (t (4 * j + 3) = 0) = false) : zeroT t = false := by
  cases e : zeroT t with
  | false => rfl
  | true => rw [(zero_iff t).1 e j hj] at h; cases h
def cz_R44 (t : Nat → UInt8) (k : Nat) : Cz := {
  ct := (fun f => match f with
  | _ => none)
  eq := (fun t => match t with
  | _ => none)
  raw := [], sym := [9, 11], nf := [(11, iv .u8 ((t (4 * k + 3)).toNat : Nat))], ap := true, off := [], on := [], lp := fun _ => none, un := 0 }
set_option maxRecDepth 100000 in
theorem R44 (t : Nat → UInt8) (k : Nat)  (K : Exit → St → Prop) (h : HB (decide ((Nat.cast k : Int) < 64)) (InR ((Nat.cast k : Int)) 64 ∧ 0 + ((Nat.cast k : Int)).toNat * 4 + 3 < 256 ∧ Le (SV.c (Cp.l ((tl t).getD (0 + ((Nat.cast k : Int)).toNat * 4 + 3) Leaf.u))) (iv IntKind.u8 (Nat.cast ((t (4 * k + 3)).toNat) : Int)) ∧ HB ((Nat.cast ((t (4 * k + 3)).toNat) : Int) != 0) (wkK 1 K Exit.ret (St.mk [(2, bv false), (12, bv ((Nat.cast ((t (4 * k + 3)).toNat) : Int) != 0)), (11, iv IntKind.u8 (Nat.cast ((t (4 * k + 3)).toNat) : Int)), (10, SV.c (Cp.l (Leaf.p 0 (0 + ((Nat.cast k : Int)).toNat * 4 + 3)))), (9, SV.c (Cp.l (Leaf.p 0 (0 + ((Nat.cast k : Int)).toNat * 4)))), (8, iv IntKind.i64 (Nat.cast k : Int)), (5, bv (decide ((Nat.cast k : Int) < 64))), (4, iv IntKind.i64 (Nat.cast k : Int)), (3, iv IntKind.i64 (Nat.cast k : Int)), (1, SV.c (Cp.l (Leaf.p 0 0)))] [(0, some (Blk.mk (tl t) (BT.t 27)))] 1 13 [0] 0)) (IntKind.i64.wrap ((Nat.cast k : Int) + 1) = (Nat.cast k : Int) + 1 ∧ RoundTo Try.prog ((getLoop 2 (Try.f24.body.getD Code.skip)).getD Code.skip) 1 (wkK 1 K) (St.mk [(3, iv IntKind.i64 ((Nat.cast k : Int) + 1)), (7, iv IntKind.i64 ((Nat.cast k : Int) + 1)), (6, iv IntKind.i64 (Nat.cast k : Int)), (12, bv ((Nat.cast ((t (4 * k + 3)).toNat) : Int) != 0)), (11, iv IntKind.u8 (Nat.cast ((t (4 * k + 3)).toNat) : Int)), (10, SV.c (Cp.l (Leaf.p 0 (0 + ((Nat.cast k : Int)).toNat * 4 + 3)))), (9, SV.c (Cp.l (Leaf.p 0 (0 + ((Nat.cast k : Int)).toNat * 4)))), (8, iv IntKind.i64 (Nat.cast k : Int)), (5, bv (decide ((Nat.cast k : Int) < 64))), (4, iv IntKind.i64 (Nat.cast k : Int)), (3, iv IntKind.i64 (Nat.cast k : Int)), (1, SV.c (Cp.l (Leaf.p 0 0)))] [(0, some (Blk.mk (tl t) (BT.t 27)))] 1 13 [0] 0))) (wkK 1 K (Exit.exit 0) (St.mk [(5, bv (decide ((Nat.cast k : Int) < 64))), (4, iv IntKind.i64 (Nat.cast k : Int)), (3, iv IntKind.i64 (Nat.cast k : Int)), (1, SV.c (Cp.l (Leaf.p 0 0)))] [(0, some (Blk.mk (tl t) (BT.t 27)))] 1 13 [0] 0))) : WPL Try.prog ((getLoop 2 (Try.f24.body.getD .skip)).getD .skip) (I44 t k) (wkK 1 K) :=
  wp_round (cx := cz_R44 t k) rfl (of_eq (by kernel_rfl) h)
set_option maxRecDepth 100000 in
set_option maxHeartbeats 4000000 in
theorem L44 (t : Nat → UInt8)  : ∀ (m k : Nat), 64 - k = m → k ≤ 64 → (∀ j, j < k → decide (t (4 * j + 3) = 0) = true) → ∀ (K : Exit → St → Prop), ((∀ j, j < 64 → decide (t (4 * j + 3) = 0) = true) → K (.exit 0) (I44 t 64)) → (∀ j, j < 64 → decide (t (4 * j + 3) = 0) = false → K .ret (Q44 t)) → WPL Try.prog ((getLoop 2 (Try.f24.body.getD .skip)).getD .skip) (I44 t k) (wkK 1 K)
  | 0, k, hm, hk, hall, K, hK, hR => by
    have e : k = 64 := by omega
    subst e
    refine R44 t _ K (HB.mk (fun hne => absurd (of_decide_eq_true hne) (by omega)) (fun he => ?_))
    exact wkK.to (I44 t _) (Nat.le_refl _) (by kernel_rfl) (wkE_cons (LeN.sl (by kernel_rfl) rfl) (wkE_cons (LeN.sl (by kernel_rfl) rfl) trivial)) (wkH_cons (BkN.plain (cs := tl t) (b := .t 27) (by kernel_rfl) (rfl) (plain_tl _) (by kernel_rfl)) trivial) (hK hall)
  | m + 1, k, hm, hk, hall, K, hK, hR => by
    refine R44 t k K (HB.mk (fun hne => ?_) (fun he => absurd (show ((k : Nat) : Int) < (64 : Nat) by omega) (of_decide_eq_false he)))
    have hlt : k < 64 := by omega
    repeat' (first | exact trivial | with_reducible apply And.intro | (with_reducible apply HB.mk) | with_reducible intro _)
    all_goals first
      | (assumption)
      | (with_reducible exact Le.refl _)
      | (with_reducible rfl)
      | (exact ⟨by omega, by omega⟩)
      | ((rw [tl_len]; omega))
      | (omega)
      | (exact Le.of (congrArg (fun l => SV.c (.l l)) (tl_a t hlt)))
      | (have hcnd : ((((t (4 * k + 3)).toNat : Nat) : Int) != 0) = false := (by with_reducible assumption); (with_reducible refine RoundTo.toN 1 (I44 t (k + 1)) ?_ ?_ ?_ ?_ ?_); exact Nat.le_refl _; kernel_rfl; exact (wkE_cons (LeN.sl (by kernel_rfl) rfl) (wkE_cons (LeN.sl (by kernel_rfl) rfl) trivial)); exact (wkH_cons (BkN.plain (cs := tl t) (b := .t 27) (by kernel_rfl) (rfl) (plain_tl _) (by kernel_rfl)) trivial); exact (L44 t  m (k + 1) (by omega) (by omega) (fun j hj => by rcases Nat.lt_or_ge j k with h | h; exact hall j h; have e : j = k := (by omega); subst e; exact a_yes hcnd) K hK hR))
      | (exact wkK.to (Q44 t) (Nat.le_refl _) (by kernel_rfl) (wkE_cons (LeN.sl (by kernel_rfl) rfl) trivial) (wkH_cons (BkN.plain (cs := tl t) (b := .t 27) (by kernel_rfl) (rfl) (plain_tl _) (by kernel_rfl)) trivial) (hR k hlt (a_no (by with_reducible assumption))))
      | (exact okw _ (by omega) (by omega))
      | (exact Le.of rfl)
      | (exact BkR.of rfl)
      | (unfold SlOK; omega)
      | (unfold SlOK; decide)
      | (unfold inByte; decide)
      | (simp only [*, Bool.and_self, Bool.not_false, Bool.not_true]; done)
      | (simp_all [wants]; done)
theorem enters44 : Enters Try.prog 24 := fun args w => by go_simp
def cz_C44 (t : Nat → UInt8) : Cz := {
  ct := (fun f => match f with
  | _ => none)
  eq := (fun t => match t with
  | _ => none)
  raw := [], sym := [], nf := [], ap := true, off := [], on := [], lp := fun r => match r with | 2 => some (fun _ K => ((∀ j, j < 64 → decide (t (4 * j + 3) = 0) = true) → K (.exit 0) (I44 t 64)) ∧ (∀ j, j < 64 → decide (t (4 * j + 3) = 0) = false → K .ret (Q44 t))) | _ => none, un := 0 }
set_option maxRecDepth 100000 in
set_option maxHeartbeats 400000 in
theorem C44 (t : Nat → UInt8)  (n : Nat) : CallOK Try.prog 24 [.c (.agg (tl t))] [] n (bv (zeroT t)) [] 0 := by
  refine CallOK.any ?_ (by kernel_rfl) (by kernel_rfl) n
  refine call_ok (cx := cz_C44 t) (nm := []) rfl Try.func24 (body := Try.f24.body.getD .skip) rfl enters44 (by kernel_rfl) ?_
  apply of_eq (q := (LoopOK Try.prog ((getLoop 2 (Try.f24.body.getD .skip)).getD .skip) (St.mk [(3, iv IntKind.i64 0), (2, bv false), (1, SV.c (Cp.l (Leaf.p 0 0))), (0, ag (tl t))] [(0, some (Blk.mk (tl t) (BT.t 27)))] 1 13 [0] 0) fun K => ((∀ (j : Nat), j < 64 → decide (t (4 * j + 3) = 0) = true) → K (Exit.exit 0) (I44 t 64)) ∧ ∀ (j : Nat), j < 64 → decide (t (4 * j + 3) = 0) = false → K Exit.ret (Q44 t)) ∧ ((∀ (j : Nat), j < 64 → decide (t (4 * j + 3) = 0) = true) → Le (bv true) (bv (zeroT t)) ∧ True) ∧ ∀ (j : Nat), j < 64 → decide (t (4 * j + 3) = 0) = false → Le (bv false) (bv (zeroT t)) ∧ True) (by kernel_rfl)
  repeat' (first | exact trivial | with_reducible apply And.intro | (with_reducible apply HB.mk) | with_reducible intro _)
  all_goals first
    | (assumption)
    | (with_reducible exact Le.refl _)
    | (with_reducible rfl)
    | (exact LoopOK.mk (I44 t 0) rfl (by kernel_rfl) (wkE_cons (LeN.sl (by kernel_rfl) rfl) (wkE_cons (LeN.sl (by kernel_rfl) rfl) trivial)) (wkH_cons (BkN.plain (cs := tl t) (b := .t 27) (by kernel_rfl) (rfl) (plain_tl _) (by kernel_rfl)) trivial) (fun K hT => L44 t _ 0 rfl (by decide) (fun j hj => absurd hj (Nat.not_lt_zero j)) K hT.1 hT.2))
    | (exact Le.bool ((zero_iff t).2 ‹_›).symm)
    | (exact Le.bool (zero_no ‹_› ‹_›).symm)
    | (exact okw _ (by omega) (by omega))
    | (exact Le.of rfl)
    | (exact BkR.of rfl)
    | (unfold SlOK; omega)
    | (unfold SlOK; decide)
    | (unfold inByte; decide)
    | (simp only [*, Bool.and_self, Bool.not_false, Bool.not_true]; done)
    | (simp_all [wants]; done)
theorem C44L (l : List Leaf) (t : Nat → UInt8) (h : l = tl t) (n : Nat) : CallOK Try.prog 24 [.c (.agg l)] [] n (bv (zeroT (lsB l))) [] 0 := by
  subst h
  have e : zeroT (lsB (tl t)) = zeroT t := sameT_congr (fun i hi => by unfold clnT; rw [lsB_tl t hi, lsB_tl t (by omega)]) (fun i hi => rfl)
  rw [e]; exact C44 t n
theorem zeroT_lsB (t : Nat → UInt8) : zeroT (lsB (tl t)) = zeroT t := sameT_congr (fun i hi => by unfold clnT; rw [lsB_tl t hi, lsB_tl t (by omega)]) (fun i hi => rfl)
def pq (xs ys : List Leaf) : Bool := decide (lsB xs 0 = lsB ys 0 ∧ lsB xs 1 = lsB ys 1 ∧ lsB xs 2 = lsB ys 2 ∧ lsB xs 3 = lsB ys 3)
theorem lsB4 (a b c e : UInt8) : lsB [ub a, ub b, ub c, ub e] 0 = a ∧ lsB [ub a, ub b, ub c, ub e] 1 = b ∧ lsB [ub a, ub b, ub c, ub e] 2 = c ∧ lsB [ub a, ub b, ub c, ub e] 3 = e := ⟨ofI_nat a, ofI_nat b, ofI_nat c, ofI_nat e⟩
theorem eq36L (a b c e a' b' c' e' : UInt8) : EqOK Try.prog 23 [ub a, ub b, ub c, ub e] [ub a', ub b', ub c', ub e'] (pq [ub a, ub b, ub c, ub e] [ub a', ub b', ub c', ub e']) := by
  unfold pq
  obtain ⟨h0, h1, h2, h3⟩ := lsB4 a b c e
  obtain ⟨k0, k1, k2, k3⟩ := lsB4 a' b' c' e'
  rw [h0, h1, h2, h3, k0, k1, k2, k3]
  exact eq36 a b c e a' b' c' e'
def I121 (t u : Nat → UInt8) (k : Nat) : St := ⟨[(5, iv .i64 (k : Nat)), (2, .c (.l (.p 0 0))), (3, .c (.l (.p 1 0)))], [(0, some ⟨tl t, .t 27⟩), (1, some ⟨tl u, .t 27⟩)], 2, 17, [1, 0], (0)⟩
def Q121 (t u : Nat → UInt8) : St := ⟨[(4, bv false)], [(0, some ⟨tl t, .t 27⟩), (1, some ⟨tl u, .t 27⟩)], 2, 17, [1, 0], (0)⟩
def pe (t u : Nat → UInt8) (j : Nat) : Bool := decide (t (4 * j) = u (4 * j) ∧ t (4 * j + 1) = u (4 * j + 1) ∧ t (4 * j + 2) = u (4 * j + 2) ∧ t (4 * j + 3) = u (4 * j + 3))
theorem same_iff (t u : Nat → UInt8) : sameT t u = true ↔ ∀ j, j < 64 → pe t u j = true := by
  rw [sameT_iff]
  constructor
  · intro h j hj
    exact decide_eq_true ⟨h _ (by omega), h _ (by omega), h _ (by omega), h _ (by omega)⟩
  · intro h i hi
    obtain ⟨a, b, c, d⟩ := of_decide_eq_true (h (i / 4) (by omega))
    have : i = 4 * (i / 4) + i % 4 := by omega
    have h4 : i % 4 < 4 := by omega
    generalize i / 4 = q at *
    match hm : i % 4, h4 with
    | 0, _ => rw [this, hm]; exact a
    | 1, _ => rw [this, hm]; exact b
    | 2, _ => rw [this, hm]; exact c
    | 3, _ => rw [this, hm]; exact d
theorem same_no {t u : Nat → UInt8} {j : Nat} (hj : j < 64) (h : pe t u j = false) : sameT t u = false := by
  cases e : sameT t u with
  | false => rfl
  | true => rw [(same_iff t u).1 e j hj] at h; cases h
theorem pq_pe (t u : Nat → UInt8) (k : Nat) : pq [ub (t (4 * k)), ub (t (4 * k + 1)), ub (t (4 * k + 2)), ub (t (4 * k + 3))] [ub (u (4 * k)), ub (u (4 * k + 1)), ub (u (4 * k + 2)), ub (u (4 * k + 3))] = pe t u k := by
  unfold pq pe
  obtain ⟨h0, h1, h2, h3⟩ := lsB4 (t (4 * k)) (t (4 * k + 1)) (t (4 * k + 2)) (t (4 * k + 3))
  obtain ⟨k0, k1, k2, k3⟩ := lsB4 (u (4 * k)) (u (4 * k + 1)) (u (4 * k + 2)) (u (4 * k + 3))
  rw [h0, h1, h2, h3, k0, k1, k2, k3]
theorem tl_px0 (t : Nat → UInt8) {k : Nat} (hk : k < 64) : List.take 4 (List.drop (0 + ((k : Nat) : Int).toNat * 4) (tl t)) = [ub (t (4 * k)), ub (t (4 * k + 1)), ub (t (4 * k + 2)), ub (t (4 * k + 3))] := by
  rw [show 0 + ((k : Nat) : Int).toNat * 4 = k * 4 by omega, tl_pix t hk]; rfl
theorem not_t {b : Bool} (h : (!b) = false) : b = true := by simpa using h
theorem not_f {b : Bool} (h : (!b) = true) : b = false := by simpa using h
def cz_R121 (t u : Nat → UInt8) (k : Nat) : Cz := {
  ct := (fun f => match f with
  | _ => none)
  eq := (fun t => match t with
  | 23 => some pq
  | _ => none)
  raw := [], sym := [11, 12, 14, 15], nf := [(12, .c (.agg [ub (t (4 * k)), ub (t (4 * k + 1)), ub (t (4 * k + 2)), ub (t (4 * k + 3))])), (15, .c (.agg [ub (u (4 * k)), ub (u (4 * k + 1)), ub (u (4 * k + 2)), ub (u (4 * k + 3))])), (16, bv (!(pe t u k)))], ap := true, off := [], on := [], lp := fun _ => none, un := 0 }
set_option maxRecDepth 100000 in
theorem R121 (t u : Nat → UInt8) (k : Nat)  (K : Exit → St → Prop) (h : HB (decide ((Nat.cast k : Int) < 64)) (InR ((Nat.cast k : Int)) 64 ∧ 0 + ((Nat.cast k : Int)).toNat * 4 + 4 ≤ 256 ∧ Le (ag (List.take 4 (List.drop (0 + ((Nat.cast k : Int)).toNat * 4) (tl t)))) (ag [Leaf.v (Value.int IntKind.u8 (Nat.cast ((t (4 * k)).toNat) : Int)), Leaf.v (Value.int IntKind.u8 (Nat.cast ((t (4 * k + 1)).toNat) : Int)), Leaf.v (Value.int IntKind.u8 (Nat.cast ((t (4 * k + 2)).toNat) : Int)), Leaf.v (Value.int IntKind.u8 (Nat.cast ((t (4 * k + 3)).toNat) : Int))]) ∧ InR ((Nat.cast k : Int)) 64 ∧ 0 + ((Nat.cast k : Int)).toNat * 4 + 4 ≤ 256 ∧ Le (ag (List.take 4 (List.drop (0 + ((Nat.cast k : Int)).toNat * 4) (tl u)))) (ag [Leaf.v (Value.int IntKind.u8 (Nat.cast ((u (4 * k)).toNat) : Int)), Leaf.v (Value.int IntKind.u8 (Nat.cast ((u (4 * k + 1)).toNat) : Int)), Leaf.v (Value.int IntKind.u8 (Nat.cast ((u (4 * k + 2)).toNat) : Int)), Leaf.v (Value.int IntKind.u8 (Nat.cast ((u (4 * k + 3)).toNat) : Int))]) ∧ EqOK Try.prog 23 [Leaf.v (Value.int IntKind.u8 (Nat.cast ((t (4 * k)).toNat) : Int)), Leaf.v (Value.int IntKind.u8 (Nat.cast ((t (4 * k + 1)).toNat) : Int)), Leaf.v (Value.int IntKind.u8 (Nat.cast ((t (4 * k + 2)).toNat) : Int)), Leaf.v (Value.int IntKind.u8 (Nat.cast ((t (4 * k + 3)).toNat) : Int))] [Leaf.v (Value.int IntKind.u8 (Nat.cast ((u (4 * k)).toNat) : Int)), Leaf.v (Value.int IntKind.u8 (Nat.cast ((u (4 * k + 1)).toNat) : Int)), Leaf.v (Value.int IntKind.u8 (Nat.cast ((u (4 * k + 2)).toNat) : Int)), Leaf.v (Value.int IntKind.u8 (Nat.cast ((u (4 * k + 3)).toNat) : Int))] (pq [ub (t (4 * k)), ub (t (4 * k + 1)), ub (t (4 * k + 2)), ub (t (4 * k + 3))] [ub (u (4 * k)), ub (u (4 * k + 1)), ub (u (4 * k + 2)), ub (u (4 * k + 3))]) ∧ Le (bv !pq [ub (t (4 * k)), ub (t (4 * k + 1)), ub (t (4 * k + 2)), ub (t (4 * k + 3))] [ub (u (4 * k)), ub (u (4 * k + 1)), ub (u (4 * k + 2)), ub (u (4 * k + 3))]) (bv !pe t u k) ∧ HB (!pe t u k) (wkK 2 K Exit.ret (St.mk [(4, bv false), (16, bv !pe t u k), (15, ag [Leaf.v (Value.int IntKind.u8 (Nat.cast ((u (4 * k)).toNat) : Int)), Leaf.v (Value.int IntKind.u8 (Nat.cast ((u (4 * k + 1)).toNat) : Int)), Leaf.v (Value.int IntKind.u8 (Nat.cast ((u (4 * k + 2)).toNat) : Int)), Leaf.v (Value.int IntKind.u8 (Nat.cast ((u (4 * k + 3)).toNat) : Int))]), (14, SV.c (Cp.l (Leaf.p 1 (0 + ((Nat.cast k : Int)).toNat * 4)))), (13, iv IntKind.i64 (Nat.cast k : Int)), (12, ag [Leaf.v (Value.int IntKind.u8 (Nat.cast ((t (4 * k)).toNat) : Int)), Leaf.v (Value.int IntKind.u8 (Nat.cast ((t (4 * k + 1)).toNat) : Int)), Leaf.v (Value.int IntKind.u8 (Nat.cast ((t (4 * k + 2)).toNat) : Int)), Leaf.v (Value.int IntKind.u8 (Nat.cast ((t (4 * k + 3)).toNat) : Int))]), (11, SV.c (Cp.l (Leaf.p 0 (0 + ((Nat.cast k : Int)).toNat * 4)))), (10, iv IntKind.i64 (Nat.cast k : Int)), (7, bv (decide ((Nat.cast k : Int) < 64))), (6, iv IntKind.i64 (Nat.cast k : Int)), (5, iv IntKind.i64 (Nat.cast k : Int)), (2, SV.c (Cp.l (Leaf.p 0 0))), (3, SV.c (Cp.l (Leaf.p 1 0)))] [(0, some (Blk.mk (tl t) (BT.t 27))), (1, some (Blk.mk (tl u) (BT.t 27)))] 2 17 [1, 0] 0)) (IntKind.i64.wrap ((Nat.cast k : Int) + 1) = (Nat.cast k : Int) + 1 ∧ RoundTo Try.prog ((getLoop 2 (Try.f95.body.getD Code.skip)).getD Code.skip) 2 (wkK 2 K) (St.mk [(5, iv IntKind.i64 ((Nat.cast k : Int) + 1)), (9, iv IntKind.i64 ((Nat.cast k : Int) + 1)), (8, iv IntKind.i64 (Nat.cast k : Int)), (16, bv !pe t u k), (15, ag [Leaf.v (Value.int IntKind.u8 (Nat.cast ((u (4 * k)).toNat) : Int)), Leaf.v (Value.int IntKind.u8 (Nat.cast ((u (4 * k + 1)).toNat) : Int)), Leaf.v (Value.int IntKind.u8 (Nat.cast ((u (4 * k + 2)).toNat) : Int)), Leaf.v (Value.int IntKind.u8 (Nat.cast ((u (4 * k + 3)).toNat) : Int))]), (14, SV.c (Cp.l (Leaf.p 1 (0 + ((Nat.cast k : Int)).toNat * 4)))), (13, iv IntKind.i64 (Nat.cast k : Int)), (12, ag [Leaf.v (Value.int IntKind.u8 (Nat.cast ((t (4 * k)).toNat) : Int)), Leaf.v (Value.int IntKind.u8 (Nat.cast ((t (4 * k + 1)).toNat) : Int)), Leaf.v (Value.int IntKind.u8 (Nat.cast ((t (4 * k + 2)).toNat) : Int)), Leaf.v (Value.int IntKind.u8 (Nat.cast ((t (4 * k + 3)).toNat) : Int))]), (11, SV.c (Cp.l (Leaf.p 0 (0 + ((Nat.cast k : Int)).toNat * 4)))), (10, iv IntKind.i64 (Nat.cast k : Int)), (7, bv (decide ((Nat.cast k : Int) < 64))), (6, iv IntKind.i64 (Nat.cast k : Int)), (5, iv IntKind.i64 (Nat.cast k : Int)), (2, SV.c (Cp.l (Leaf.p 0 0))), (3, SV.c (Cp.l (Leaf.p 1 0)))] [(0, some (Blk.mk (tl t) (BT.t 27))), (1, some (Blk.mk (tl u) (BT.t 27)))] 2 17 [1, 0] 0))) (wkK 2 K (Exit.exit 0) (St.mk [(7, bv (decide ((Nat.cast k : Int) < 64))), (6, iv IntKind.i64 (Nat.cast k : Int)), (5, iv IntKind.i64 (Nat.cast k : Int)), (2, SV.c (Cp.l (Leaf.p 0 0))), (3, SV.c (Cp.l (Leaf.p 1 0)))] [(0, some (Blk.mk (tl t) (BT.t 27))), (1, some (Blk.mk (tl u) (BT.t 27)))] 2 17 [1, 0] 0))) : WPL Try.prog ((getLoop 2 (Try.f95.body.getD .skip)).getD .skip) (I121 t u k) (wkK 2 K) :=
  wp_round (cx := cz_R121 t u k) rfl (of_eq (by kernel_rfl) h)
set_option maxRecDepth 100000 in
set_option maxHeartbeats 4000000 in
theorem L121 (t u : Nat → UInt8)  : ∀ (m k : Nat), 64 - k = m → k ≤ 64 → (∀ j, j < k → pe t u j = true) → ∀ (K : Exit → St → Prop), ((∀ j, j < 64 → pe t u j = true) → K (.exit 0) (I121 t u 64)) → (∀ j, j < 64 → pe t u j = false → K .ret (Q121 t u)) → WPL Try.prog ((getLoop 2 (Try.f95.body.getD .skip)).getD .skip) (I121 t u k) (wkK 2 K)
  | 0, k, hm, hk, hall, K, hK, hR => by
    have e : k = 64 := by omega
    subst e
    refine R121 t u _ K (HB.mk (fun hne => absurd (of_decide_eq_true hne) (by omega)) (fun he => ?_))
    exact wkK.to (I121 t u _) (Nat.le_refl _) (by kernel_rfl) (wkE_cons (LeN.sl (by kernel_rfl) rfl) (wkE_cons (LeN.sl (by kernel_rfl) rfl) (wkE_cons (LeN.sl (by kernel_rfl) rfl) trivial))) (wkH_cons (BkN.plain (cs := tl t) (b := .t 27) (by kernel_rfl) (rfl) (plain_tl _) (by kernel_rfl)) (wkH_cons (BkN.plain (cs := tl u) (b := .t 27) (by kernel_rfl) (rfl) (plain_tl _) (by kernel_rfl)) trivial)) (hK hall)
  | m + 1, k, hm, hk, hall, K, hK, hR => by
    refine R121 t u k K (HB.mk (fun hne => ?_) (fun he => absurd (show ((k : Nat) : Int) < (64 : Nat) by omega) (of_decide_eq_false he)))
    have hlt : k < 64 := by omega
    repeat' (first | exact trivial | with_reducible apply And.intro | (with_reducible apply HB.mk) | with_reducible intro _)
    all_goals first
      | (assumption)
      | (with_reducible exact Le.refl _)
      | (with_reducible rfl)
      | (exact ⟨by omega, by omega⟩)
      | ((rw [tl_len]; omega))
      | (omega)
      | (exact Le.of (congrArg (fun l => SV.c (.agg l)) (tl_px0 _ hlt)))
      | (exact eq36L _ _ _ _ _ _ _ _)
      | (exact Le.bool (by rw [pq_pe]))
      | (have hcnd : (!(pe t u k)) = false := (by with_reducible assumption); (with_reducible refine RoundTo.toN 2 (I121 t u (k + 1)) ?_ ?_ ?_ ?_ ?_); exact Nat.le_refl _; kernel_rfl; exact (wkE_cons (LeN.sl (by kernel_rfl) rfl) (wkE_cons (LeN.sl (by kernel_rfl) rfl) (wkE_cons (LeN.sl (by kernel_rfl) rfl) trivial))); exact (wkH_cons (BkN.plain (cs := tl t) (b := .t 27) (by kernel_rfl) (rfl) (plain_tl _) (by kernel_rfl)) (wkH_cons (BkN.plain (cs := tl u) (b := .t 27) (by kernel_rfl) (rfl) (plain_tl _) (by kernel_rfl)) trivial)); exact (L121 t u  m (k + 1) (by omega) (by omega) (fun j hj => by rcases Nat.lt_or_ge j k with h | h; exact hall j h; have e : j = k := (by omega); subst e; exact not_t hcnd) K hK hR))
      | (exact wkK.to (Q121 t u) (Nat.le_refl _) (by kernel_rfl) (wkE_cons (LeN.sl (by kernel_rfl) rfl) trivial) (wkH_cons (BkN.plain (cs := tl t) (b := .t 27) (by kernel_rfl) (rfl) (plain_tl _) (by kernel_rfl)) (wkH_cons (BkN.plain (cs := tl u) (b := .t 27) (by kernel_rfl) (rfl) (plain_tl _) (by kernel_rfl)) trivial)) (hR k hlt (not_f (by with_reducible assumption))))
      | (exact okw _ (by omega) (by omega))
      | (exact Le.of rfl)
      | (exact BkR.of rfl)
      | (unfold SlOK; omega)
      | (unfold SlOK; decide)
      | (unfold inByte; decide)
      | (simp only [*, Bool.and_self, Bool.not_false, Bool.not_true]; done)
      | (simp_all [wants]; done)
theorem enters121 : Enters Try.prog 95 := fun args w => by go_simp
def cz_C121 (t u : Nat → UInt8) : Cz := {
  ct := (fun f => match f with
  | _ => none)
  eq := (fun t => match t with
  | 23 => some pq
  | _ => none)
  raw := [], sym := [], nf := [], ap := true, off := [], on := [], lp := fun r => match r with | 2 => some (fun _ K => ((∀ j, j < 64 → pe t u j = true) → K (.exit 0) (I121 t u 64)) ∧ (∀ j, j < 64 → pe t u j = false → K .ret (Q121 t u))) | _ => none, un := 0 }
set_option maxRecDepth 100000 in
set_option maxHeartbeats 400000 in
theorem C121 (t u : Nat → UInt8)  (n : Nat) : CallOK Try.prog 95 [.c (.agg (tl t)), .c (.agg (tl u))] [] n (bv (sameT t u)) [] 0 := by
  refine CallOK.any ?_ (by kernel_rfl) (by kernel_rfl) n
  refine call_ok (cx := cz_C121 t u) (nm := []) rfl Try.func95 (body := Try.f95.body.getD .skip) rfl enters121 (by kernel_rfl) ?_
  apply of_eq (q := (LoopOK Try.prog ((getLoop 2 (Try.f95.body.getD .skip)).getD .skip) (St.mk [(5, iv IntKind.i64 0), (4, bv false), (3, SV.c (Cp.l (Leaf.p 1 0))), (2, SV.c (Cp.l (Leaf.p 0 0))), (0, ag (tl t)), (1, ag (tl u))] [(1, some (Blk.mk (tl u) (BT.t 27))), (0, some (Blk.mk (tl t) (BT.t 27)))] 2 17 [1, 0] 0) fun K => ((∀ (j : Nat), j < 64 → pe t u j = true) → K (Exit.exit 0) (I121 t u 64)) ∧ ∀ (j : Nat), j < 64 → pe t u j = false → K Exit.ret (Q121 t u)) ∧ ((∀ (j : Nat), j < 64 → pe t u j = true) → Le (bv true) (bv (sameT t u)) ∧ True) ∧ ∀ (j : Nat), j < 64 → pe t u j = false → Le (bv false) (bv (sameT t u)) ∧ True) (by kernel_rfl)
  repeat' (first | exact trivial | with_reducible apply And.intro | (with_reducible apply HB.mk) | with_reducible intro _)
  all_goals first
    | (assumption)
    | (with_reducible exact Le.refl _)
    | (with_reducible rfl)
    | (exact LoopOK.mk (I121 t u 0) rfl (by kernel_rfl) (wkE_cons (LeN.sl (by kernel_rfl) rfl) (wkE_cons (LeN.sl (by kernel_rfl) rfl) (wkE_cons (LeN.sl (by kernel_rfl) rfl) trivial))) (wkH_cons (BkN.plain (cs := tl t) (b := .t 27) (by kernel_rfl) (rfl) (plain_tl _) (by kernel_rfl)) (wkH_cons (BkN.plain (cs := tl u) (b := .t 27) (by kernel_rfl) (rfl) (plain_tl _) (by kernel_rfl)) trivial)) (fun K hT => L121 t u _ 0 rfl (by decide) (fun j hj => absurd hj (Nat.not_lt_zero j)) K hT.1 hT.2))
    | (exact Le.bool ((same_iff t u).2 ‹_›).symm)
    | (exact Le.bool (same_no ‹_› ‹_›).symm)
    | (exact okw _ (by omega) (by omega))
    | (exact Le.of rfl)
    | (exact BkR.of rfl)
    | (unfold SlOK; omega)
    | (unfold SlOK; decide)
    | (unfold inByte; decide)
    | (simp only [*, Bool.and_self, Bool.not_false, Bool.not_true]; done)
    | (simp_all [wants]; done)
theorem C121L (l m : List Leaf) (t u : Nat → UInt8) (h : l = tl t) (h' : m = tl u) (n : Nat) : CallOK Try.prog 95 [.c (.agg l), .c (.agg m)] [] n (bv (sameT (lsB l) (lsB m))) [] 0 := by
  subst h h'
  rw [same_lsB]; exact C121 t u n
theorem enters104 : Enters Try.prog 53 := fun args w => by go_simp
def cz_C104 : Cz := {
  ct := (fun f => match f with
  | _ => none)
  eq := (fun t => match t with
  | _ => none)
  raw := [], sym := [], nf := [], ap := true, off := [], on := [], lp := fun _ => none, un := 0 }
set_option maxRecDepth 100000 in
set_option maxHeartbeats 400000 in
theorem C104 (x y : Int)  (n : Nat) : CallOK Try.prog 53 [ag [li x, li y]] [] n (bv (inB x y)) [] 0 := by
  refine CallOK.any ?_ (by kernel_rfl) (by kernel_rfl) n
  refine call_ok (cx := cz_C104) (nm := []) rfl Try.func53 (body := Try.f53.body.getD .skip) rfl enters104 (by kernel_rfl) ?_
  apply of_eq (q := (decide (x ≥ -8192) = true → decide (x ≥ -8192) = true ∧ True) ∧ (decide (x ≥ -8192) = true → decide (x ≥ -8192) = true ∧ True) ∧ (decide (x ≥ -8192) = true → decide (x ≥ -8192) = true) ∧ ((bif decide (x ≥ -8192) then decide (x ≤ 8191) else false) = true → (bif decide (x ≥ -8192) then decide (x ≤ 8191) else false) = true ∧ True) ∧ ((bif decide (x ≥ -8192) then decide (x ≤ 8191) else false) = true → (bif decide (x ≥ -8192) then decide (x ≤ 8191) else false) = true ∧ True) ∧ ((bif decide (x ≥ -8192) then decide (x ≤ 8191) else false) = true → (bif decide (x ≥ -8192) then decide (x ≤ 8191) else false) = true) ∧ ((bif bif decide (x ≥ -8192) then decide (x ≤ 8191) else false then decide (y ≥ -8192) else false) = true → (bif bif decide (x ≥ -8192) then decide (x ≤ 8191) else false then decide (y ≥ -8192) else false) = true ∧ True) ∧ ((bif bif decide (x ≥ -8192) then decide (x ≤ 8191) else false then decide (y ≥ -8192) else false) = true → (bif bif decide (x ≥ -8192) then decide (x ≤ 8191) else false then decide (y ≥ -8192) else false) = true ∧ True) ∧ ((bif bif decide (x ≥ -8192) then decide (x ≤ 8191) else false then decide (y ≥ -8192) else false) = true → (bif bif decide (x ≥ -8192) then decide (x ≤ 8191) else false then decide (y ≥ -8192) else false) = true) ∧ Le (bv (bif bif bif decide (x ≥ -8192) then decide (x ≤ 8191) else false then decide (y ≥ -8192) else false then decide (y ≤ 8191) else false)) (bv (inB x y)) ∧ True) (by kernel_rfl)
  repeat' (first | exact trivial | with_reducible apply And.intro | (with_reducible apply HB.mk) | with_reducible intro _)
  all_goals first
    | (assumption)
    | (with_reducible exact Le.refl _)
    | (with_reducible rfl)
    | (exact Le.bool (inB_eq x y))
    | (exact okw _ (by omega) (by omega))
    | (exact Le.of rfl)
    | (exact BkR.of rfl)
    | (unfold SlOK; omega)
    | (unfold SlOK; decide)
    | (unfold inByte; decide)
    | (simp only [*, Bool.and_self, Bool.not_false, Bool.not_true]; done)
    | (simp_all [wants]; done)
def lesB (ax ay bx by_ : Int) : Bool := decide (ay < by_ ∨ ay = by_ ∧ ax < bx)
theorem enters123 : Enters Try.prog 82 := fun args w => by go_simp
def cz_C123 : Cz := {
  ct := (fun f => match f with
  | _ => none)
  eq := (fun t => match t with
  | _ => none)
  raw := [], sym := [], nf := [], ap := true, off := [], on := [], lp := fun _ => none, un := 0 }
set_option maxRecDepth 100000 in
set_option maxHeartbeats 400000 in
theorem C123 (ax ay bx by_ : Int)  (n : Nat) : CallOK Try.prog 82 [ag [li ax, li ay], ag [li bx, li by_]] [] n (bv (lesB ax ay bx by_)) [] 0 := by
  refine CallOK.any ?_ (by kernel_rfl) (by kernel_rfl) n
  refine call_ok (cx := cz_C123) (nm := []) rfl Try.func82 (body := Try.f82.body.getD .skip) rfl enters123 (by kernel_rfl) ?_
  apply of_eq (q := ((!decide (ay < by_)) = true → (!decide (ay < by_)) = true ∧ True) ∧ ((!decide (ay < by_)) = true → (!decide (ay < by_)) = true ∧ True) ∧ ((!decide (ay < by_)) = true → (!decide (ay < by_)) = true ∧ (!decide (ay < by_)) = true ∧ True) ∧ ((!decide (ay < by_)) = true → (!decide (ay < by_)) = true ∧ True) ∧ ((!decide (ay < by_) && ay == by_) = true → (!decide (ay < by_) && ay == by_) = true ∧ True) ∧ ((!decide (ay < by_) && ay == by_) = true → (!decide (ay < by_) && ay == by_) = true ∧ True) ∧ ((!decide (ay < by_) && ay == by_) = true → (!decide (ay < by_) && ay == by_) = true ∧ (!decide (ay < by_) && ay == by_) = true ∧ True) ∧ ((!decide (ay < by_)) = true → (!decide (ay < by_)) = true ∧ ((ay == by_) = true → (!decide (ay < by_) && ay == by_) = true) ∧ True) ∧ (decide (ay < by_) = false → (!decide (ay < by_)) = true) ∧ Le (bv (bif decide (ay < by_) then true else bif ay == by_ then decide (ax < bx) else false)) (bv (lesB ax ay bx by_)) ∧ True) (by kernel_rfl)
  repeat' (first | exact trivial | with_reducible apply And.intro | (with_reducible apply HB.mk) | with_reducible intro _)
  all_goals first
    | (assumption)
    | (with_reducible exact Le.refl _)
    | (with_reducible rfl)
    | (refine Le.bool ?_; unfold lesB; by_cases h1 : ay < by_ <;> by_cases h2 : ay = by_ <;> by_cases h3 : ax < bx <;> simp [h1, h2, h3])
    | (exact okw _ (by omega) (by omega))
    | (exact Le.of rfl)
    | (exact BkR.of rfl)
    | (unfold SlOK; omega)
    | (unfold SlOK; decide)
    | (unfold inByte; decide)
    | (simp only [*, Bool.and_self, Bool.not_false, Bool.not_true]; done)
    | (simp_all [wants]; done)
end Ab
end Go.Proofs.Ytpdckpifhniioaa
