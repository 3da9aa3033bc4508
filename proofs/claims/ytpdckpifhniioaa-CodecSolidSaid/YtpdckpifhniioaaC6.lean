/- raster.Valid of a good raster. -/
import Derived.Test.YtpdckpifhniioaaRl
set_option linter.unusedVariables false
set_option linter.unusedSimpArgs false
namespace Go.Proofs.Ytpdckpifhniioaa
open Go.RowKit
namespace Ab
def I46 (l : List TA) (k : Nat) : St := ⟨[(12, iv .i64 (k : Nat)), (11, iv .i64 (l.length : Nat)), (10, .c (.l (.o 0 l.length))), (1, .c (.l (.p 1 0)))], [(0, some ⟨rws l, .r 35 258 0⟩), (1, some ⟨[.o 0 l.length], .t 38⟩)], 2, 52, [2, 1], (1)⟩
theorem tn (k : Nat) : ((k : Nat) : Int).toNat = k := rfl
theorem kprev {k : Nat} (h : 0 < k) : (((k : Nat) : Int) - 1).toNat = k - 1 := by omega
theorem good_prev {l : List TA} (hg : Good l) {k : Nat} (hk : k < l.length) (h : 0 < k) : ordI (at' l (k - 1)).X (at' l (k - 1)).Y (at' l k).X (at' l k).Y < 0 := by
  have := hg.ord (k - 1) (by omega)
  rw [show k - 1 + 1 = k by omega] at this
  exact ord_lt this
theorem gk {k : Nat} (h : (!false && decide (((k : Nat) : Int) > 0)) = true) : 0 < k := by
  simp at h; omega
def cz_R46 (l : List TA) (k : Nat) : Cz := {
  ct := (fun f => match f with
  | 38 => some fun _ _S ar => match ar with | [.c (.agg l)] => some { v := .c (.agg (tl (clnT (lsB l)))), rd := [], wr := [], nw := 0 } | _ => none
  | 36 => some fun _ _S ar => match ar with | [.c (.agg [.v (.int _ ax), .v (.int _ ay)])] => some { v := bv (inB ax ay), rd := [], wr := [], nw := 0 } | _ => none
  | 37 => some fun _ _S ar => match ar with | [.c (.agg l)] => some { v := bv (zeroT (lsB l)), rd := [], wr := [], nw := 0 } | _ => none
  | 39 => some fun _ _S ar => match ar with | [.c (.agg [.v (.int _ ax), .v (.int _ ay)]), .c (.agg [.v (.int _ cx), .v (.int _ cy)])] => some { v := iv .i64 (ordI ax ay cx cy), rd := [], wr := [], nw := 0 } | _ => none
  | _ => none)
  eq := (fun t => match t with
  | 27 => some (fun xs ys => sameT (lsB xs) (lsB ys))
  | _ => none)
  raw := [], sym := [15, 16, 42, 44], nf := [(16, .c (.agg (el (at' l k)))), (18, .c (.agg [li (at' l k).X, li (at' l k).Y])), (20, bv false), (23, .c (.agg (tl (at' l k).t))), (24, bv false), (25, bv false), (28, .c (.agg (tl (at' l k).t))), (29, .c (.agg (tl (clnT (at' l k).t)))), (31, .c (.agg (tl (at' l k).t))), (32, bv false), (33, bv false), (44, .c (.agg [li (at' l (k - 1)).X, li (at' l (k - 1)).Y])), (46, .c (.agg [li (at' l k).X, li (at' l k).Y])), (48, bv false), (49, bv false), (50, bv false)], ap := true, off := [], on := [], lp := fun _ => none, un := 0 }
set_option maxRecDepth 100000 in
theorem R46 (l : List TA) (k : Nat)  (K : Exit → St → Prop) (h : HB (decide ((Nat.cast k : Int) < (Nat.cast l.length : Int))) (InR ((Nat.cast k : Int)) l.length ∧ ((Nat.cast k : Int)).toNat * 258 + 258 ≤ (Blk.mk (rws l) (BT.r 35 258 0)).cs.length ∧ Le (ag (List.take 258 (List.drop (((Nat.cast k : Int)).toNat * 258) (rws l)))) (ag (el (at' l k))) ∧ Le (ag (List.take 2 (List.drop 0 (splice zA258 0 (el (at' l k)))))) (ag [li (at' l k).X, li (at' l k).Y]) ∧ CallOKd Try.prog 36 [] [ag [li (at' l k).X, li (at' l k).Y]] [] 3 (bv (inB (at' l k).X (at' l k).Y)) [] 0 ∧ Le (bv !inB (at' l k).X (at' l k).Y) (bv false) ∧ ((!false) = true → (!false) = true ∧ Le (ag (List.take 256 (List.drop 2 (splice zA258 0 (el (at' l k)))))) (ag (tl (at' l k).t)) ∧ True) ∧ ((!false) = true → (!false) = true ∧ CallOKd Try.prog 37 [] [ag (tl (at' l k).t)] [] 3 (bv (zeroT (lsB (tl (at' l k).t)))) [] 0 ∧ Le (bv (zeroT (lsB (tl (at' l k).t)))) (bv false) ∧ True) ∧ (false = false → (!false) = true) ∧ Le (bv (bif false then true else false)) (bv false) ∧ ((!false) = true → (!false) = true ∧ Le (ag (List.take 256 (List.drop 2 (splice zA258 0 (el (at' l k)))))) (ag (tl (at' l k).t)) ∧ True) ∧ ((!false) = true → (!false) = true ∧ CallOKd Try.prog 38 [] [ag (tl (at' l k).t)] [] 3 (ag (tl (clnT (lsB (tl (at' l k).t))))) [] 0 ∧ Le (ag (tl (clnT (lsB (tl (at' l k).t))))) (ag (tl (clnT (at' l k).t))) ∧ True) ∧ ((!false) = true → (!false) = true ∧ Le (ag (List.take 256 (List.drop 2 (splice zA258 0 (el (at' l k)))))) (ag (tl (at' l k).t)) ∧ True) ∧ ((!false) = true → (!false) = true ∧ (!false) = true ∧ EqOK Try.prog 27 (tl (clnT (at' l k).t)) (tl (at' l k).t) (sameT (lsB (tl (clnT (at' l k).t))) (lsB (tl (at' l k).t))) ∧ Le (bv !sameT (lsB (tl (clnT (at' l k).t))) (lsB (tl (at' l k).t))) (bv false) ∧ True) ∧ (false = false → (!false) = true) ∧ Le (bv (bif false then true else false)) (bv false) ∧ ((!false) = true → (!false) = true ∧ True) ∧ ((!false) = true → (!false) = true ∧ True) ∧ ((!false && decide ((Nat.cast k : Int) > 0)) = true → (!false && decide ((Nat.cast k : Int) > 0)) = true ∧ True) ∧ ((!false && decide ((Nat.cast k : Int) > 0)) = true → (!false && decide ((Nat.cast k : Int) > 0)) = true ∧ IntKind.i64.wrap ((Nat.cast k : Int) - 1) = (Nat.cast k : Int) - 1 ∧ True) ∧ ((!false && decide ((Nat.cast k : Int) > 0)) = true → (!false && decide ((Nat.cast k : Int) > 0)) = true ∧ (!false && decide ((Nat.cast k : Int) > 0)) = true ∧ InR ((Nat.cast k : Int) - 1) l.length ∧ True) ∧ ((!false && decide ((Nat.cast k : Int) > 0)) = true → (!false && decide ((Nat.cast k : Int) > 0)) = true ∧ True) ∧ ((!false && decide ((Nat.cast k : Int) > 0)) = true → (!false && decide ((Nat.cast k : Int) > 0)) = true ∧ ((Nat.cast k : Int) - 1).toNat * 258 + 0 + 2 ≤ (Blk.mk (rws l) (BT.r 35 258 0)).cs.length ∧ Le (ag (List.take 2 (List.drop (((Nat.cast k : Int) - 1).toNat * 258 + 0) (rws l)))) (ag [li (at' l (k - 1)).X, li (at' l (k - 1)).Y]) ∧ True) ∧ ((!false && decide ((Nat.cast k : Int) > 0)) = true → (!false && decide ((Nat.cast k : Int) > 0)) = true ∧ Le (ag (List.take 2 (List.drop 0 (splice zA258 0 (el (at' l k)))))) (ag [li (at' l k).X, li (at' l k).Y]) ∧ True) ∧ ((!false && decide ((Nat.cast k : Int) > 0)) = true → (!false && decide ((Nat.cast k : Int) > 0)) = true ∧ (!false && decide ((Nat.cast k : Int) > 0)) = true ∧ CallOKd Try.prog 39 [] [ag [li (at' l (k - 1)).X, li (at' l (k - 1)).Y], ag [li (at' l k).X, li (at' l k).Y]] [] 3 (iv IntKind.i64 (ordI (at' l (k - 1)).X (at' l (k - 1)).Y (at' l k).X (at' l k).Y)) [] 0 ∧ True) ∧ ((!false && decide ((Nat.cast k : Int) > 0)) = true → (!false && decide ((Nat.cast k : Int) > 0)) = true ∧ Le (bv (decide (ordI (at' l (k - 1)).X (at' l (k - 1)).Y (at' l k).X (at' l k).Y ≥ 0))) (bv false) ∧ True) ∧ ((!false) = true → (!false) = true ∧ (decide ((Nat.cast k : Int) > 0) = true → (!false && decide ((Nat.cast k : Int) > 0)) = true) ∧ Le (bv (bif decide ((Nat.cast k : Int) > 0) then false else false)) (bv false) ∧ True) ∧ (false = false → (!false) = true) ∧ Le (bv (bif false then true else false)) (bv false) ∧ IntKind.i64.wrap ((Nat.cast k : Int) + 1) = (Nat.cast k : Int) + 1 ∧ RoundTo Try.prog ((getLoop 4 (Try.f13.body.getD Code.skip)).getD Code.skip) 2 (wkK 2 K) (St.mk [(12, iv IntKind.i64 ((Nat.cast k : Int) + 1)), (51, iv IntKind.i64 ((Nat.cast k : Int) + 1)), (50, bv false), (49, SV.g (!false) (Cp.l (lb false))), (48, SV.g (!false && decide ((Nat.cast k : Int) > 0)) (Cp.l (lb false))), (47, SV.g (!false && decide ((Nat.cast k : Int) > 0)) (Cp.l (li (ordI (at' l (k - 1)).X (at' l (k - 1)).Y (at' l k).X (at' l k).Y)))), (46, SV.g (!false && decide ((Nat.cast k : Int) > 0)) (Cp.agg [li (at' l k).X, li (at' l k).Y])), (45, SV.g (!false && decide ((Nat.cast k : Int) > 0)) (Cp.l (Leaf.p 2 0))), (44, SV.g (!false && decide ((Nat.cast k : Int) > 0)) (Cp.agg [li (at' l (k - 1)).X, li (at' l (k - 1)).Y])), (43, SV.g (!false && decide ((Nat.cast k : Int) > 0)) (Cp.l (Leaf.p 0 (((Nat.cast k : Int) - 1).toNat * 258 + 0)))), (42, SV.g (!false && decide ((Nat.cast k : Int) > 0)) (Cp.l (Leaf.p 0 (((Nat.cast k : Int) - 1).toNat * 258)))), (41, SV.g (!false && decide ((Nat.cast k : Int) > 0)) (Cp.l (li ((Nat.cast k : Int) - 1)))), (40, SV.g (!false && decide ((Nat.cast k : Int) > 0)) (Cp.l (li (Nat.cast k : Int)))), (39, SV.g (!false && decide ((Nat.cast k : Int) > 0)) (Cp.l (Leaf.o 0 l.length))), (38, SV.g (!false && decide ((Nat.cast k : Int) > 0)) (Cp.l (Leaf.p 1 0))), (37, SV.g (!false) (Cp.l (lb (decide ((Nat.cast k : Int) > 0))))), (36, SV.g (!false) (Cp.l (lb (decide ((Nat.cast k : Int) > 0))))), (35, SV.g (!false) (Cp.l (li (Nat.cast k : Int)))), (34, bv false), (33, bv false), (32, SV.g (!false) (Cp.l (lb false))), (31, SV.g (!false) (Cp.agg (tl (at' l k).t))), (30, SV.g (!false) (Cp.l (Leaf.p 2 2))), (29, SV.g (!false) (Cp.agg (tl (clnT (at' l k).t)))), (28, SV.g (!false) (Cp.agg (tl (at' l k).t))), (27, SV.g (!false) (Cp.l (Leaf.p 2 2))), (26, bv false), (25, bv false), (24, SV.g (!false) (Cp.l (lb false))), (23, SV.g (!false) (Cp.agg (tl (at' l k).t))), (22, SV.g (!false) (Cp.l (Leaf.p 2 2))), (21, bv false), (20, bv false), (19, bv (inB (at' l k).X (at' l k).Y)), (18, ag [li (at' l k).X, li (at' l k).Y]), (17, SV.c (Cp.l (Leaf.p 2 0))), (3, iv IntKind.i64 (Nat.cast k : Int)), (4, SV.c (Cp.l (Leaf.p 2 0))), (16, ag (el (at' l k))), (15, SV.c (Cp.l (Leaf.p 0 (((Nat.cast k : Int)).toNat * 258)))), (14, iv IntKind.i64 (Nat.cast k : Int)), (13, bv (decide ((Nat.cast k : Int) < (Nat.cast l.length : Int)))), (12, iv IntKind.i64 (Nat.cast k : Int)), (11, iv IntKind.i64 (Nat.cast l.length : Int)), (10, SV.c (Cp.l (Leaf.o 0 l.length))), (1, SV.c (Cp.l (Leaf.p 1 0)))] [(2, some (Blk.mk (splice zA258 0 (el (at' l k))) (BT.t 35))), (2, some (Blk.mk zA258 (BT.t 35))), (0, some (Blk.mk (rws l) (BT.r 35 258 0))), (1, some (Blk.mk [Leaf.o 0 l.length] (BT.t 38)))] 3 52 [2, 2, 2, 1] 1)) (wkK 2 K (Exit.exit 0) (St.mk [(13, bv (decide ((Nat.cast k : Int) < (Nat.cast l.length : Int)))), (12, iv IntKind.i64 (Nat.cast k : Int)), (11, iv IntKind.i64 (Nat.cast l.length : Int)), (10, SV.c (Cp.l (Leaf.o 0 l.length))), (1, SV.c (Cp.l (Leaf.p 1 0)))] [(0, some (Blk.mk (rws l) (BT.r 35 258 0))), (1, some (Blk.mk [Leaf.o 0 l.length] (BT.t 38)))] 2 52 [2, 1] 1))) : WPL Try.prog ((getLoop 4 (Try.f13.body.getD .skip)).getD .skip) (I46 l k) (wkK 2 K) :=
  wp_round (cx := cz_R46 l k) rfl (of_eq (by kernel_rfl) h)
set_option maxRecDepth 100000 in
theorem L46 (l : List TA) (hg : Good l) : ∀ (m k : Nat), l.length - k = m → k ≤ l.length → ∀ (K : Exit → St → Prop), K (.exit 0) (I46 l l.length) → WPL Try.prog ((getLoop 4 (Try.f13.body.getD .skip)).getD .skip) (I46 l k) (wkK 2 K)
  | 0, k, hm, hk, K, hK => by
    have e : k = l.length := by omega
    subst e
    refine R46 l _ K (HB.mk (fun hne => absurd (of_decide_eq_true hne) (by omega)) (fun he => ?_))
    exact wkK.to (I46 l _) (Nat.le_refl _) (by kernel_rfl) (wkE_cons (LeN.sl (by kernel_rfl) rfl) (wkE_cons (LeN.sl (by kernel_rfl) rfl) (wkE_cons (LeN.sl (by kernel_rfl) rfl) (wkE_cons (LeN.sl (by kernel_rfl) rfl) trivial)))) (wkH_cons (BkN.blk (k := ⟨rws l, .r 35 258 0⟩) (by kernel_rfl) rfl (blt_rws _ _ rfl)) (wkH_cons (BkN.blk (k := ⟨[.o 0 l.length], .t 38⟩) (by kernel_rfl) (rfl) (by kernel_rfl)) trivial)) hK
  | m + 1, k, hm, hk, K, hK => by
    refine R46 l k K (HB.mk (fun hne => ?_) (fun he => absurd (show ((k : Nat) : Int) < (l.length : Nat) by omega) (of_decide_eq_false he)))
    have hlt : k < l.length := by omega
    have hlen := hg.len
    repeat' (first | exact trivial | with_reducible apply And.intro | (with_reducible apply HB.mk) | with_reducible intro _)
    all_goals first
      | (assumption)
      | (with_reducible exact Le.refl _)
      | ((exact C66L _ _ rfl _))
      | (with_reducible exact C107 _ _ _)
      | ((exact C108L _ _ rfl _))
      | (with_reducible exact C109 _ _ _ _ _)
      | (exact ⟨by omega, by omega⟩)
      | (exact ⟨by have := gk ‹_›; omega, by omega⟩)
      | ((rw [rws_len, tn]; omega))
      | ((have := gk ‹_›; rw [rws_len, kprev this]; omega))
      | ((refine Le.of ?_; simp only [tn, Nat.zero_add, Nat.add_zero]; rw [rws_at hlt]))
      | ((refine Le.of ?_; rw [put_el]; rfl))
      | ((refine Le.of ?_; rw [put_el]; exact congrArg (fun x => ag x) (tl_take _)))
      | ((have := gk ‹_›; refine Le.of ?_; simp only [kprev this, Nat.zero_add, Nat.add_zero]; rw [rws_pos (by omega)]))
      | (exact C107 _ _ _)
      | (exact Le.bool (by rw [hg.inn k hlt]; rfl))
      | ((refine Le.bool ?_; rw [show zeroT (lsB (tl (at' l k).t)) = zeroT (at' l k).t from sameT_congr (fun i hi => by unfold clnT; rw [lsB_tl _ hi, lsB_tl _ (by omega)]) (fun i hi => rfl), hg.nz k hlt]))
      | (exact Le.bool rfl)
      | (exact Le.of (by rw [cln_lsB]))
      | (exact eq38L rfl rfl)
      | (exact Le.bool (by rw [same_lsB, hg.cl k hlt]; rfl))
      | ((have := gk ‹_›; exact okw _ (by omega) (by omega)))
      | ((refine Le.bool (decide_eq_false ?_); have h1 := good_prev hg hlt (gk ‹_›); omega))
      | ((refine Le.bool ?_; cases decide (((k : Nat) : Int) > 0) <;> rfl))
      | ((simp at *; omega))
      | (refine RoundTo.to (I46 l (k + 1)) (Nat.le_refl _) (by kernel_rfl) (wkE_cons (LeN.sl (by kernel_rfl) rfl) (wkE_cons (LeN.sl (by kernel_rfl) rfl) (wkE_cons (LeN.sl (by kernel_rfl) rfl) (wkE_cons (LeN.sl (by kernel_rfl) rfl) trivial)))) (wkH_cons (BkN.blk (k := ⟨rws l, .r 35 258 0⟩) (by kernel_rfl) rfl (blt_rws _ _ rfl)) (wkH_cons (BkN.blk (k := ⟨[.o 0 l.length], .t 38⟩) (by kernel_rfl) (rfl) (by kernel_rfl)) trivial)) (L46 l hg m (k + 1) (by omega) (by omega) K hK))
      | (exact okw _ (by omega) (by omega))
      | (exact Le.of rfl)
      | (exact BkR.of rfl)
      | (unfold SlOK; omega)
      | (unfold SlOK; decide)
      | (unfold inByte; decide)
      | (simp only [*, Bool.and_self, Bool.not_false, Bool.not_true]; done)
      | (simp_all [wants]; done)
theorem enters46 : Enters Try.prog 13 := fun args w => by go_simp
def cz_C46 (l : List TA) : Cz := {
  ct := (fun f => match f with
  | 38 => some fun _ _S ar => match ar with | [.c (.agg l)] => some { v := .c (.agg (tl (clnT (lsB l)))), rd := [], wr := [], nw := 0 } | _ => none
  | 36 => some fun _ _S ar => match ar with | [.c (.agg [.v (.int _ ax), .v (.int _ ay)])] => some { v := bv (inB ax ay), rd := [], wr := [], nw := 0 } | _ => none
  | 37 => some fun _ _S ar => match ar with | [.c (.agg l)] => some { v := bv (zeroT (lsB l)), rd := [], wr := [], nw := 0 } | _ => none
  | 39 => some fun _ _S ar => match ar with | [.c (.agg [.v (.int _ ax), .v (.int _ ay)]), .c (.agg [.v (.int _ cx), .v (.int _ cy)])] => some { v := iv .i64 (ordI ax ay cx cy), rd := [], wr := [], nw := 0 } | _ => none
  | _ => none)
  eq := (fun t => match t with
  | 27 => some (fun xs ys => sameT (lsB xs) (lsB ys))
  | _ => none)
  raw := [], sym := [], nf := [(8, bv false)], ap := true, off := [], on := [], lp := fun r => match r with | 4 => some (fun _ K => K (.exit 0) (I46 l l.length)) | _ => none, un := 0 }
set_option maxRecDepth 100000 in
set_option maxHeartbeats 400000 in
theorem C46 (l : List TA) (hg : Good l) : CallOK Try.prog 13 [.c (.agg [.o 0 l.length])] [(0, ⟨rws l, .r 35 258 0⟩)] 1 (bv true) [] ([] : List Nat).length := by
  have hlen := hg.len
  refine call_ok (cx := cz_C46 l) (nm := []) rfl Try.func13 (body := Try.f13.body.getD .skip) rfl enters46 (by unfold inck; simp only [List.all_cons, List.all_nil, blt_rws _ _ (show (BT.rn (rnId 1 0 []) (.r 35 258 0)).isSome = true from rfl), Bool.and_true, Bool.true_and]; kernel_rfl) ?_
  apply of_eq (q := Le (bv (decide ((Nat.cast l.length : Int) > 1024))) (bv false) ∧ (LoopOK Try.prog ((getLoop 4 (Try.f13.body.getD .skip)).getD .skip) (St.mk [(12, iv IntKind.i64 0), (11, iv IntKind.i64 (Nat.cast l.length : Int)), (10, SV.c (Cp.l (Leaf.o 0 l.length))), (9, SV.c (Cp.l (Leaf.p 1 0))), (8, bv false), (7, iv IntKind.i64 (Nat.cast l.length : Int)), (6, SV.c (Cp.l (Leaf.o 0 l.length))), (5, SV.c (Cp.l (Leaf.p 1 0))), (2, bv false), (1, SV.c (Cp.l (Leaf.p 1 0))), (0, ag [Leaf.o 0 l.length])] [(1, some (Blk.mk [Leaf.o 0 l.length] (BT.t 38))), (0, some (Blk.mk (rws l) (BT.r 35 258 0)))] 2 52 [1] 1) fun K => K (Exit.exit 0) (I46 l l.length)) ∧ Le (bv true) (bv true) ∧ True) (by kernel_rfl)
  repeat' (first | exact trivial | with_reducible apply And.intro | (with_reducible apply HB.mk) | with_reducible intro _)
  all_goals first
    | (assumption)
    | (with_reducible exact Le.refl _)
    | (exact LoopOK.mk (I46 l 0) rfl (by kernel_rfl) (wkE_cons (LeN.sl (by kernel_rfl) rfl) (wkE_cons (LeN.sl (by kernel_rfl) rfl) (wkE_cons (LeN.sl (by kernel_rfl) rfl) (wkE_cons (LeN.sl (by kernel_rfl) rfl) trivial)))) (wkH_cons (BkN.blk (k := ⟨rws l, .r 35 258 0⟩) (by kernel_rfl) rfl (blt_rws _ _ rfl)) (wkH_cons (BkN.blk (k := ⟨[.o 0 l.length], .t 38⟩) (by kernel_rfl) (rfl) (by kernel_rfl)) trivial)) (fun K hT => L46 l hg _ 0 rfl (Nat.zero_le _) K hT))
    | ((refine Le.bool (decide_eq_false ?_); omega))
    | (exact okw _ (by omega) (by omega))
    | (exact Le.of rfl)
    | (exact BkR.of rfl)
    | (unfold SlOK; omega)
    | (unfold SlOK; decide)
    | (unfold inByte; decide)
    | (simp only [*, Bool.and_self, Bool.not_false, Bool.not_true]; done)
    | (simp_all [wants]; done)
end Ab
end Go.Proofs.Ytpdckpifhniioaa
