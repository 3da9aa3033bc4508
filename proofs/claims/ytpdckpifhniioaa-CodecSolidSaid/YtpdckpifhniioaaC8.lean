/- x -/
import Derived.Test.YtpdckpifhniioaaC7
import Derived.Test.YtpdckpifhniioaaLp
set_option linter.unusedVariables false
set_option linter.unusedSimpArgs false
namespace Go.Proofs.Ytpdckpifhniioaa
open Go.RowKit
namespace Ab
def bytesT (t : Nat → UInt8) : ByteArray := ⟨((List.range 256).map t).toArray⟩
def I115 (t : Nat → UInt8) (k : Nat) : St := ⟨[(8, iv .i64 (k : Nat)), (7, .c (.agg (tl t))), (3, .c (.l (.o 1 (4 * k))))], [(0, some ⟨tl t, .t 27⟩), (1, some ⟨tb t (4 * k), .r 5 1 1⟩)], 2, 25, [1, 0], (0)⟩
theorem tb_next (t : Nat → UInt8) (k : Nat) : tb t (4 * k) ++ [ub (t (4 * k)), ub (t (4 * k + 1)), ub (t (4 * k + 2)), ub (t (4 * k + 3))] = tb t (4 * (k + 1)) := tb_four t (4 * k)
theorem bytesT_len (t : Nat → UInt8) : (bytesT t).size = 256 := by unfold bytesT; simp [ByteArray.size]
def cz_R115 (t : Nat → UInt8) (k : Nat) : Cz := {
  ct := (fun f => match f with
  | _ => none)
  eq := (fun t => match t with
  | _ => none)
  raw := [], sym := [10, 21], nf := [(10, .c (.agg [ub (t (4 * k)), ub (t (4 * k + 1)), ub (t (4 * k + 2)), ub (t (4 * k + 3))]))], ap := true, off := [], on := [], lp := fun _ => none, un := 0 }
set_option maxRecDepth 100000 in
theorem R115 (t : Nat → UInt8) (k : Nat)  (K : Exit → St → Prop) (h : HB (decide ((Nat.cast k : Int) < 64)) (InR ((Nat.cast k : Int)) 64 ∧ Le (ag (List.take 4 (List.drop (((Nat.cast k : Int)).toNat * 4) (tl t)))) (ag [Leaf.v (Value.int IntKind.u8 (Nat.cast ((t (4 * k)).toNat) : Int)), Leaf.v (Value.int IntKind.u8 (Nat.cast ((t (4 * k + 1)).toNat) : Int)), Leaf.v (Value.int IntKind.u8 (Nat.cast ((t (4 * k + 2)).toNat) : Int)), Leaf.v (Value.int IntKind.u8 (Nat.cast ((t (4 * k + 3)).toNat) : Int))]) ∧ ((tb t (4 * k)).length = 4 * k * 1 ∧ 4 = 4 ∧ IntKind.i64.wrap ((Nat.cast k : Int) + 1) = (Nat.cast k : Int) + 1 ∧ RoundTo Try.prog ((getLoop 3 (Try.f45.body.getD .skip)).getD .skip) 2 (wkK 2 K) (St.mk [(8, iv IntKind.i64 ((Nat.cast k : Int) + 1)), (22, iv IntKind.i64 ((Nat.cast k : Int) + 1)), (3, SV.c (Cp.l (Leaf.o 1 (4 * k + 4)))), (21, SV.c (Cp.l (Leaf.o 1 (4 * k + 4)))), (20, SV.c (Cp.l (Leaf.o 3 4))), (19, iv IntKind.u8 (Nat.cast ((t (4 * k + 3)).toNat) : Int)), (18, SV.c (Cp.l (Leaf.p 2 3))), (17, iv IntKind.u8 (Nat.cast ((t (4 * k + 2)).toNat) : Int)), (16, SV.c (Cp.l (Leaf.p 2 2))), (15, iv IntKind.u8 (Nat.cast ((t (4 * k + 1)).toNat) : Int)), (14, SV.c (Cp.l (Leaf.p 2 1))), (13, iv IntKind.u8 (Nat.cast ((t (4 * k)).toNat) : Int)), (12, SV.c (Cp.l (Leaf.p 2 0))), (11, SV.c (Cp.l (Leaf.o 1 (4 * k)))), (5, SV.c (Cp.l (Leaf.p 2 0))), (10, ag [Leaf.v (Value.int IntKind.u8 (Nat.cast ((t (4 * k)).toNat) : Int)), Leaf.v (Value.int IntKind.u8 (Nat.cast ((t (4 * k + 1)).toNat) : Int)), Leaf.v (Value.int IntKind.u8 (Nat.cast ((t (4 * k + 2)).toNat) : Int)), Leaf.v (Value.int IntKind.u8 (Nat.cast ((t (4 * k + 3)).toNat) : Int))]), (9, bv (decide ((Nat.cast k : Int) < 64))), (8, iv IntKind.i64 (Nat.cast k : Int)), (7, ag (tl t)), (3, SV.c (Cp.l (Leaf.o 1 (4 * k))))] [(1, some (Blk.mk (tb t (4 * k) ++ [Leaf.v (Value.int IntKind.u8 (Nat.cast ((t (4 * k)).toNat) : Int)), Leaf.v (Value.int IntKind.u8 (Nat.cast ((t (4 * k + 1)).toNat) : Int)), Leaf.v (Value.int IntKind.u8 (Nat.cast ((t (4 * k + 2)).toNat) : Int)), Leaf.v (Value.int IntKind.u8 (Nat.cast ((t (4 * k + 3)).toNat) : Int))]) (BT.r 5 1 1))), (3, some (Blk.mk [Leaf.v (Value.int IntKind.u8 (Nat.cast ((t (4 * k)).toNat) : Int)), Leaf.v (Value.int IntKind.u8 (Nat.cast ((t (4 * k + 1)).toNat) : Int)), Leaf.v (Value.int IntKind.u8 (Nat.cast ((t (4 * k + 2)).toNat) : Int)), Leaf.v (Value.int IntKind.u8 (Nat.cast ((t (4 * k + 3)).toNat) : Int))] (BT.r 5 1 3))), (2, some (Blk.mk [Leaf.v (Value.int IntKind.u8 (Nat.cast ((t (4 * k)).toNat) : Int)), Leaf.v (Value.int IntKind.u8 (Nat.cast ((t (4 * k + 1)).toNat) : Int)), Leaf.v (Value.int IntKind.u8 (Nat.cast ((t (4 * k + 2)).toNat) : Int)), Leaf.v (Value.int IntKind.u8 (Nat.cast ((t (4 * k + 3)).toNat) : Int))] (BT.t 23))), (2, some (Blk.mk [Leaf.v (Value.int IntKind.u8 0), Leaf.v (Value.int IntKind.u8 0), Leaf.v (Value.int IntKind.u8 0), Leaf.v (Value.int IntKind.u8 0)] (BT.t 23))), (0, some (Blk.mk (tl t) (BT.t 27))), (1, some (Blk.mk (tb t (4 * k)) (BT.r 5 1 1)))] 4 25 [1, 3, 2, 2, 1, 0] 0)) ∧ [(1, 4 * k + 4, false)] = [(1, 4 * k + 4, false)] ∧ ApB Try.prog 5 (4 * k + 4) ∧ (tb t (4 * k)).length = 4 * k * 1 ∧ 4 = 4 ∧ IntKind.i64.wrap ((Nat.cast k : Int) + 1) = (Nat.cast k : Int) + 1 ∧ RoundTo Try.prog ((getLoop 3 (Try.f45.body.getD .skip)).getD .skip) 2 (wkK 2 K) (St.mk [(8, iv IntKind.i64 ((Nat.cast k : Int) + 1)), (22, iv IntKind.i64 ((Nat.cast k : Int) + 1)), (3, SV.c (Cp.l (Leaf.o 4 (4 * k + 4)))), (21, SV.c (Cp.l (Leaf.o 4 (4 * k + 4)))), (20, SV.c (Cp.l (Leaf.o 3 4))), (19, iv IntKind.u8 (Nat.cast ((t (4 * k + 3)).toNat) : Int)), (18, SV.c (Cp.l (Leaf.p 2 3))), (17, iv IntKind.u8 (Nat.cast ((t (4 * k + 2)).toNat) : Int)), (16, SV.c (Cp.l (Leaf.p 2 2))), (15, iv IntKind.u8 (Nat.cast ((t (4 * k + 1)).toNat) : Int)), (14, SV.c (Cp.l (Leaf.p 2 1))), (13, iv IntKind.u8 (Nat.cast ((t (4 * k)).toNat) : Int)), (12, SV.c (Cp.l (Leaf.p 2 0))), (11, SV.c (Cp.l (Leaf.o 1 (4 * k)))), (5, SV.c (Cp.l (Leaf.p 2 0))), (10, ag [Leaf.v (Value.int IntKind.u8 (Nat.cast ((t (4 * k)).toNat) : Int)), Leaf.v (Value.int IntKind.u8 (Nat.cast ((t (4 * k + 1)).toNat) : Int)), Leaf.v (Value.int IntKind.u8 (Nat.cast ((t (4 * k + 2)).toNat) : Int)), Leaf.v (Value.int IntKind.u8 (Nat.cast ((t (4 * k + 3)).toNat) : Int))]), (9, bv (decide ((Nat.cast k : Int) < 64))), (8, iv IntKind.i64 (Nat.cast k : Int)), (7, ag (tl t)), (3, SV.c (Cp.l (Leaf.o 1 (4 * k))))] [(4, some (Blk.mk (tb t (4 * k) ++ [Leaf.v (Value.int IntKind.u8 (Nat.cast ((t (4 * k)).toNat) : Int)), Leaf.v (Value.int IntKind.u8 (Nat.cast ((t (4 * k + 1)).toNat) : Int)), Leaf.v (Value.int IntKind.u8 (Nat.cast ((t (4 * k + 2)).toNat) : Int)), Leaf.v (Value.int IntKind.u8 (Nat.cast ((t (4 * k + 3)).toNat) : Int))]) (BT.r 5 1 4))), (3, some (Blk.mk [Leaf.v (Value.int IntKind.u8 (Nat.cast ((t (4 * k)).toNat) : Int)), Leaf.v (Value.int IntKind.u8 (Nat.cast ((t (4 * k + 1)).toNat) : Int)), Leaf.v (Value.int IntKind.u8 (Nat.cast ((t (4 * k + 2)).toNat) : Int)), Leaf.v (Value.int IntKind.u8 (Nat.cast ((t (4 * k + 3)).toNat) : Int))] (BT.r 5 1 3))), (2, some (Blk.mk [Leaf.v (Value.int IntKind.u8 (Nat.cast ((t (4 * k)).toNat) : Int)), Leaf.v (Value.int IntKind.u8 (Nat.cast ((t (4 * k + 1)).toNat) : Int)), Leaf.v (Value.int IntKind.u8 (Nat.cast ((t (4 * k + 2)).toNat) : Int)), Leaf.v (Value.int IntKind.u8 (Nat.cast ((t (4 * k + 3)).toNat) : Int))] (BT.t 23))), (2, some (Blk.mk [Leaf.v (Value.int IntKind.u8 0), Leaf.v (Value.int IntKind.u8 0), Leaf.v (Value.int IntKind.u8 0), Leaf.v (Value.int IntKind.u8 0)] (BT.t 23))), (0, some (Blk.mk (tl t) (BT.t 27))), (1, some (Blk.mk (tb t (4 * k)) (BT.r 5 1 1)))] 5 25 [4, 3, 2, 2, 1, 0] 0)) (wkK 2 K (Exit.exit 0) (St.mk [(9, bv (decide ((Nat.cast k : Int) < 64))), (8, iv IntKind.i64 (Nat.cast k : Int)), (7, ag (tl t)), (3, SV.c (Cp.l (Leaf.o 1 (4 * k))))] [(0, some (Blk.mk (tl t) (BT.t 27))), (1, some (Blk.mk (tb t (4 * k)) (BT.r 5 1 1)))] 2 25 [1, 0] 0))) : WPL Try.prog ((getLoop 3 (Try.f45.body.getD .skip)).getD .skip) (I115 t k) (wkK 2 K) :=
  wp_round (cx := cz_R115 t k) rfl (of_eq (by kernel_rfl) h)
set_option maxRecDepth 100000 in
set_option maxHeartbeats 4000000 in
theorem L115 (t : Nat → UInt8)  : ∀ (m k : Nat), 64 - k = m → k ≤ 64 → ∀ (K : Exit → St → Prop), K (.exit 0) (I115 t 64) → WPL Try.prog ((getLoop 3 (Try.f45.body.getD .skip)).getD .skip) (I115 t k) (wkK 2 K)
  | 0, k, hm, hk, K, hK => by
    have e : k = 64 := by omega
    subst e
    refine R115 t _ K (HB.mk (fun hne => absurd (of_decide_eq_true hne) (by omega)) (fun he => ?_))
    exact wkK.to (I115 t _) (Nat.le_refl _) (by kernel_rfl) (wkE_cons (LeN.sl (by kernel_rfl) rfl) (wkE_cons (LeN.sl_plain (by kernel_rfl) (plain_tl t)) (wkE_cons (LeN.sl (by kernel_rfl) rfl) trivial))) (wkH_cons (BkN.plain (cs := tl t) (b := .t 27) (by kernel_rfl) (rfl) (plain_tl t) (by kernel_rfl)) (wkH_cons (BkN.plain (cs := tb t (4 * 64)) (b := .r 5 1 1) (by kernel_rfl) (rfl) (tb_plain _ _) (by kernel_rfl)) trivial)) hK
  | m + 1, k, hm, hk, K, hK => by
    refine R115 t k K (HB.mk (fun hne => ?_) (fun he => absurd (show ((k : Nat) : Int) < (64 : Nat) by omega) (of_decide_eq_false he)))
    have hlt : k < 64 := by omega
    repeat' (first | exact trivial | with_reducible apply And.intro | (with_reducible apply HB.mk) | with_reducible intro _)
    all_goals first
      | (assumption)
      | (with_reducible exact Le.refl _)
      | (exact ⟨by omega, by omega⟩)
      | (rw [tb_len]; omega)
      | (exact Le.of (by rw [show (((k : Nat) : Int)).toNat = k from rfl, tl_pix _ hlt]; rfl))
      | (exact apB (bytes := 1) (by kernel_rfl) (by omega))
      | ((with_reducible refine RoundTo.toN 4 (I115 t (k + 1)) ?_ ?_ ?_ ?_ ?_); exact Nat.le_refl _; kernel_rfl; exact (wkE_cons (LeN.sl (by kernel_rfl) rfl) (wkE_cons (LeN.sl_plain (by kernel_rfl) (plain_tl t)) (wkE_cons (LeN.sl_o (m := 4 * k + 4) (by kernel_rfl) rfl (by omega)) trivial))); exact (wkH_cons (BkN.plain (cs := tl t) (b := .t 27) (by kernel_rfl) (rfl) (plain_tl t) (by kernel_rfl)) (wkH_cons (BkN.plain (cs := tb t (4 * k) ++ [ub (t (4 * k)), ub (t (4 * k + 1)), ub (t (4 * k + 2)), ub (t (4 * k + 3))]) (b := .r 5 1 1) (by kernel_rfl) (tb_next t k) (tb_plain _ _) (by kernel_rfl)) trivial)); exact (L115 t  m (k + 1) (by omega) (by omega) K hK))
      | ((with_reducible refine RoundTo.reN 5 [(1, some 4)] (I115 t (k + 1)) ?_ ?_ ?_ ?_); kernel_rfl; exact (wkER_cons (LeR.of (by kernel_rfl)) (wkER_cons (LeR.sl_plain (by kernel_rfl) (plain_tl t)) (wkER_cons (LeR.sl_o (j := 4) (m := 4 * k + 4) (by kernel_rfl) rfl (by omega)) trivial))); exact (wkHR_cons (j := 0) rfl (BkM.plain (cs := tl t) (b := .t 27) (by kernel_rfl) (rfl) (plain_tl t) (by kernel_rfl)) (wkHR_cons (j := 4) rfl (BkM.plain (cs := tb t (4 * k) ++ [ub (t (4 * k)), ub (t (4 * k + 1)), ub (t (4 * k + 2)), ub (t (4 * k + 3))]) (b := .r 5 1 4) (by kernel_rfl) (tb_next t k) (tb_plain _ _) (by kernel_rfl)) trivial)); exact (L115 t  m (k + 1) (by omega) (by omega) K hK))
      | (exact okw _ (by omega) (by omega))
      | (exact Le.of rfl)
      | (exact BkR.of rfl)
      | (unfold SlOK; omega)
      | (unfold SlOK; decide)
      | (unfold inByte; decide)
      | (simp only [*, Bool.and_self, Bool.not_false, Bool.not_true]; done)
      | (simp_all [wants]; done)
theorem enters115 : Enters Try.prog 45 := fun args w => by go_simp
def cz_C115 (t : Nat → UInt8) : Cz := {
  ct := (fun f => match f with
  | _ => none)
  eq := (fun t => match t with
  | _ => none)
  raw := [], sym := [24], nf := [(7, .c (.agg (tl t)))], ap := true, off := [], on := [], lp := fun r => match r with | 3 => some (fun _ K => K (.exit 0) (I115 t 64)) | _ => none, un := 0 }
set_option maxRecDepth 100000 in
set_option maxHeartbeats 400000 in
theorem C115 (t : Nat → UInt8)  (n : Nat) : CallOK Try.prog 45 [.c (.agg (tl t))] [] n (.c (.l (.v (.string (bytesT t))))) [] 0 := by
  refine CallOK.any ?_ (by kernel_rfl) (by kernel_rfl) n
  refine call_ok (cx := cz_C115 t) (nm := []) rfl Try.func45 (body := Try.f45.body.getD .skip) rfl enters115 (by kernel_rfl) ?_
  apply of_eq (q := Le (ag (List.take 256 (tl t))) (ag (tl t)) ∧ (LoopOK Try.prog ((getLoop 3 (Try.f45.body.getD .skip)).getD .skip) (St.mk [(8, iv IntKind.i64 0), (7, ag (tl t)), (3, SV.c (Cp.l (Leaf.o 1 0))), (6, SV.c (Cp.l (Leaf.o 1 0))), (2, SV.c (Cp.l (Leaf.v (Value.string (ByteArray.mk #[]))))), (1, SV.c (Cp.l (Leaf.p 0 0))), (0, ag (tl t))] [(1, some (Blk.mk [] (BT.r 5 1 1))), (0, some (Blk.mk (tl t) (BT.t 27)))] 2 25 [1, 0] 0) fun K => K (Exit.exit 0) (I115 t 64)) ∧ 256 = 256 ∧ AllB (tb t (4 * 64)) ∧ Le (SV.c (Cp.l (Leaf.v (Value.string (strL (tb t (4 * 64))))))) (SV.c (Cp.l (Leaf.v (Value.string (bytesT t))))) ∧ True) (by kernel_rfl)
  repeat' (first | exact trivial | with_reducible apply And.intro | (with_reducible apply HB.mk) | with_reducible intro _)
  all_goals first
    | (assumption)
    | (with_reducible exact Le.refl _)
    | (exact LoopOK.mk (I115 t 0) rfl (by kernel_rfl) (wkE_cons (LeN.sl (by kernel_rfl) rfl) (wkE_cons (LeN.sl_plain (by kernel_rfl) (plain_tl t)) (wkE_cons (LeN.sl (by kernel_rfl) rfl) trivial))) (wkH_cons (BkN.plain (cs := tl t) (b := .t 27) (by kernel_rfl) (rfl) (plain_tl t) (by kernel_rfl)) (wkH_cons (BkN.plain (cs := []) (b := .r 5 1 1) (by kernel_rfl) (rfl) (tb_plain _ _) (by kernel_rfl)) trivial)) (fun K hT => L115 t  _ 0 rfl (by first | decide | omega) K hT))
    | (exact Le.of (by rw [tl_take]))
    | (exact tb_len t 256)
    | (exact tb_all t 256)
    | (refine Le.of ?_; rw [tb_str]; rfl)
    | (exact okw _ (by omega) (by omega))
    | (exact Le.of rfl)
    | (exact BkR.of rfl)
    | (unfold SlOK; omega)
    | (unfold SlOK; decide)
    | (unfold inByte; decide)
    | (simp only [*, Bool.and_self, Bool.not_false, Bool.not_true]; done)
    | (simp_all [wants]; done)
end Ab
end Go.Proofs.Ytpdckpifhniioaa
