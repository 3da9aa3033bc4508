/- x -/
import Derived.Test.YtpdckpifhniioaaD2
set_option linter.unusedVariables false
set_option linter.unusedSimpArgs false
namespace Go.Proofs.Ytpdckpifhniioaa
open Go.RowKit
namespace Ab
def I56 (l : List TA) (k : Nat) : St := ⟨[(3, iv .i64 (k : Nat)), (1, .c (.l (.p 1 0)))], [(0, some ⟨rws l, .r 35 258 0⟩), (1, some ⟨[.o 0 l.length], .t 38⟩)], 2, 60, [1], (1)⟩
theorem el_pos (e : TA) : List.take 2 (List.drop 0 (el e)) = [li e.X, li e.Y] := rfl
theorem el_t (e : TA) : List.take 256 (List.drop 2 (el e)) = tl e.t := tl_take _
theorem less_t {l : List TA} (hg : Good l) {k : Nat} (hk : k < l.length) (h : 0 < k) : lesB (at' l (k - 1)).X (at' l (k - 1)).Y (at' l k).X (at' l k).Y = true := by
  have := hg.ord (k - 1) (by omega)
  rw [show k - 1 + 1 = k by omega] at this
  exact decide_eq_true this
theorem gk0 {k : Nat} (h : decide (((k : Nat) : Int) > 0) = true) : 0 < k := by have := of_decide_eq_true h; omega
def cz_R56 (l : List TA) (k : Nat) : Cz := {
  ct := (fun f => match f with
  | 24 => some fun _ _S ar => match ar with | [.c (.agg l)] => some { v := bv (zeroT (lsB l)), rd := [], wr := [], nw := 0 } | _ => none
  | 53 => some fun _ _S ar => match ar with | [.c (.agg [.v (.int _ ax), .v (.int _ ay)])] => some { v := bv (inB ax ay), rd := [], wr := [], nw := 0 } | _ => none
  | 95 => some fun _ _S ar => match ar with | [.c (.agg l), .c (.agg m)] => some { v := bv (sameT (lsB l) (lsB m)), rd := [], wr := [], nw := 0 } | _ => none
  | 81 => some fun _ _S ar => match ar with | [.c (.agg l)] => some { v := .c (.agg (tl (clnT (lsB l)))), rd := [], wr := [], nw := 0 } | _ => none
  | 82 => some fun _ _S ar => match ar with | [.c (.agg [.v (.int _ ax), .v (.int _ ay)]), .c (.agg [.v (.int _ cx), .v (.int _ cy)])] => some { v := bv (lesB ax ay cx cy), rd := [], wr := [], nw := 0 } | _ => none
  | _ => none)
  eq := (fun t => match t with
  | _ => none)
  raw := [], sym := [21, 22, 51, 53], nf := [(22, .c (.agg (el (at' l k)))), (24, .c (.agg (tl (at' l k).t))), (25, bv false), (27, .c (.agg (tl (at' l k).t))), (28, .c (.agg (tl (clnT (at' l k).t)))), (30, .c (.agg (tl (at' l k).t))), (31, bv true), (33, .c (.agg [li (at' l k).X, li (at' l k).Y])), (34, bv true), (35, bv false), (38, bv false), (41, bv false), (42, bv false), (53, .c (.agg [li (at' l (k - 1)).X, li (at' l (k - 1)).Y])), (55, .c (.agg [li (at' l k).X, li (at' l k).Y])), (56, bv true), (57, bv false), (58, bv false), (59, bv false)], ap := true, off := [], on := [], lp := fun _ => none, un := 0, wh := [35] }
set_option maxRecDepth 100000 in
theorem R56 (l : List TA) (k : Nat)  (K : Exit → St → Prop) (h : HB (decide ((Nat.cast k : Int) < (Nat.cast l.length : Int))) (InR ((Nat.cast k : Int)) l.length ∧ ((Nat.cast k : Int)).toNat * 258 + 258 ≤ (rws l).length ∧ Le (ag (List.take 258 (List.drop (((Nat.cast k : Int)).toNat * 258) (rws l)))) (ag (el (at' l k))) ∧ 0 = 0 ∧ 258 = 258 ∧ Le (ag (List.take 256 (List.drop 2 (el (at' l k))))) (ag (tl (at' l k).t)) ∧ CallOKd Try.prog 24 [] [ag (tl (at' l k).t)] [] 3 (bv (zeroT (lsB (tl (at' l k).t)))) [] 0 ∧ Le (bv (zeroT (lsB (tl (at' l k).t)))) (bv false) ∧ Le (ag (List.take 256 (List.drop 2 (el (at' l k))))) (ag (tl (at' l k).t)) ∧ CallOKd Try.prog 81 [] [ag (tl (at' l k).t)] [] 3 (ag (tl (clnT (lsB (tl (at' l k).t))))) [] 0 ∧ Le (ag (tl (clnT (lsB (tl (at' l k).t))))) (ag (tl (clnT (at' l k).t))) ∧ Le (ag (List.take 256 (List.drop 2 (el (at' l k))))) (ag (tl (at' l k).t)) ∧ CallOKd Try.prog 95 [] [ag (tl (clnT (at' l k).t)), ag (tl (at' l k).t)] [] 3 (bv (sameT (lsB (tl (clnT (at' l k).t))) (lsB (tl (at' l k).t)))) [] 0 ∧ Le (bv (sameT (lsB (tl (clnT (at' l k).t))) (lsB (tl (at' l k).t)))) (bv true) ∧ Le (ag (List.take 2 (el (at' l k)))) (ag [li (at' l k).X, li (at' l k).Y]) ∧ CallOKd Try.prog 53 [] [ag [li (at' l k).X, li (at' l k).Y]] [] 3 (bv (inB (at' l k).X (at' l k).Y)) [] 0 ∧ Le (bv (inB (at' l k).X (at' l k).Y)) (bv true) ∧ Le (bv !true) (bv false) ∧ (false = false → (!false) = true) ∧ Le (bv (bif false then true else false)) (bv false) ∧ ((!false) = true → (!false) = true ∧ Le (bv !true) (bv false) ∧ True) ∧ (false = false → (!false) = true) ∧ Le (bv (bif false then true else false)) (bv false) ∧ ((!false) = true → (!false) = true ∧ True) ∧ ((!false) = true → (!false) = true ∧ True) ∧ ((!false && decide ((Nat.cast k : Int) > 0)) = true → (!false && decide ((Nat.cast k : Int) > 0)) = true ∧ True) ∧ ((!false && decide ((Nat.cast k : Int) > 0)) = true → (!false && decide ((Nat.cast k : Int) > 0)) = true ∧ IntKind.i64.wrap ((Nat.cast k : Int) - 1) = (Nat.cast k : Int) - 1 ∧ True) ∧ ((!false && decide ((Nat.cast k : Int) > 0)) = true → (!false && decide ((Nat.cast k : Int) > 0)) = true ∧ (!false && decide ((Nat.cast k : Int) > 0)) = true ∧ InR ((Nat.cast k : Int) - 1) l.length ∧ True) ∧ ((!false && decide ((Nat.cast k : Int) > 0)) = true → (!false && decide ((Nat.cast k : Int) > 0)) = true ∧ True) ∧ ((!false && decide ((Nat.cast k : Int) > 0)) = true → (!false && decide ((Nat.cast k : Int) > 0)) = true ∧ ((Nat.cast k : Int) - 1).toNat * 258 + 0 + 2 ≤ (rws l).length ∧ Le (ag (List.take 2 (List.drop (((Nat.cast k : Int) - 1).toNat * 258 + 0) (rws l)))) (ag [li (at' l (k - 1)).X, li (at' l (k - 1)).Y]) ∧ True) ∧ ((!false && decide ((Nat.cast k : Int) > 0)) = true → (!false && decide ((Nat.cast k : Int) > 0)) = true ∧ Le (ag (List.take 2 (el (at' l k)))) (ag [li (at' l k).X, li (at' l k).Y]) ∧ True) ∧ ((!false && decide ((Nat.cast k : Int) > 0)) = true → (!false && decide ((Nat.cast k : Int) > 0)) = true ∧ (!false && decide ((Nat.cast k : Int) > 0)) = true ∧ CallOKd Try.prog 82 [] [ag [li (at' l (k - 1)).X, li (at' l (k - 1)).Y], ag [li (at' l k).X, li (at' l k).Y]] [] 3 (bv (lesB (at' l (k - 1)).X (at' l (k - 1)).Y (at' l k).X (at' l k).Y)) [] 0 ∧ Le (bv (lesB (at' l (k - 1)).X (at' l (k - 1)).Y (at' l k).X (at' l k).Y)) (bv true) ∧ True) ∧ ((!false && decide ((Nat.cast k : Int) > 0)) = true → (!false && decide ((Nat.cast k : Int) > 0)) = true ∧ Le (bv !true) (bv false) ∧ True) ∧ ((!false) = true → (!false) = true ∧ (decide ((Nat.cast k : Int) > 0) = true → (!false && decide ((Nat.cast k : Int) > 0)) = true) ∧ Le (bv (bif decide ((Nat.cast k : Int) > 0) then false else false)) (bv false) ∧ True) ∧ (false = false → (!false) = true) ∧ Le (bv (bif false then true else false)) (bv false) ∧ IntKind.i64.wrap ((Nat.cast k : Int) + 1) = (Nat.cast k : Int) + 1 ∧ RoundTo Try.prog ((getLoop 4 (Try.f83.body.getD Code.skip)).getD Code.skip) 2 (wkK 2 K) (St.mk [(3, iv IntKind.i64 ((Nat.cast k : Int) + 1)), (17, iv IntKind.i64 ((Nat.cast k : Int) + 1)), (16, iv IntKind.i64 (Nat.cast k : Int)), (59, bv false), (58, SV.g (!false) (Cp.l (lb false))), (57, SV.g (!false && decide ((Nat.cast k : Int) > 0)) (Cp.l (lb false))), (56, SV.g (!false && decide ((Nat.cast k : Int) > 0)) (Cp.l (lb true))), (55, SV.g (!false && decide ((Nat.cast k : Int) > 0)) (Cp.agg [li (at' l k).X, li (at' l k).Y])), (54, SV.g (!false && decide ((Nat.cast k : Int) > 0)) (Cp.l (Leaf.p 2 0))), (53, SV.g (!false && decide ((Nat.cast k : Int) > 0)) (Cp.agg [li (at' l (k - 1)).X, li (at' l (k - 1)).Y])), (52, SV.g (!false && decide ((Nat.cast k : Int) > 0)) (Cp.l (Leaf.p 0 (((Nat.cast k : Int) - 1).toNat * 258 + 0)))), (51, SV.g (!false && decide ((Nat.cast k : Int) > 0)) (Cp.l (Leaf.p 0 (((Nat.cast k : Int) - 1).toNat * 258)))), (50, SV.g (!false && decide ((Nat.cast k : Int) > 0)) (Cp.l (li ((Nat.cast k : Int) - 1)))), (49, SV.g (!false && decide ((Nat.cast k : Int) > 0)) (Cp.l (li (Nat.cast k : Int)))), (48, SV.g (!false && decide ((Nat.cast k : Int) > 0)) (Cp.l (Leaf.o 0 l.length))), (47, SV.g (!false && decide ((Nat.cast k : Int) > 0)) (Cp.l (Leaf.p 1 0))), (46, SV.g (!false) (Cp.l (lb (decide ((Nat.cast k : Int) > 0))))), (45, SV.g (!false) (Cp.l (lb (decide ((Nat.cast k : Int) > 0))))), (44, SV.g (!false) (Cp.l (li (Nat.cast k : Int)))), (43, bv false), (42, bv false), (41, SV.g (!false) (Cp.l (lb false))), (40, SV.g (!false) (Cp.l (lb true))), (39, bv false), (38, bv false), (37, SV.g (!false) (Cp.l (lb false))), (36, bv false), (35, bv false), (34, bv true), (33, ag [li (at' l k).X, li (at' l k).Y]), (32, SV.c (Cp.l (Leaf.p 2 0))), (6, bv true), (31, bv true), (30, ag (tl (at' l k).t)), (29, SV.c (Cp.l (Leaf.p 2 2))), (28, ag (tl (clnT (at' l k).t))), (27, ag (tl (at' l k).t)), (26, SV.c (Cp.l (Leaf.p 2 2))), (5, bv false), (25, bv false), (24, ag (tl (at' l k).t)), (23, SV.c (Cp.l (Leaf.p 2 2))), (4, SV.c (Cp.l (Leaf.p 2 0))), (22, ag (el (at' l k))), (21, SV.c (Cp.l (Leaf.p 0 (((Nat.cast k : Int)).toNat * 258)))), (20, iv IntKind.i64 (Nat.cast k : Int)), (19, SV.c (Cp.l (Leaf.o 0 l.length))), (18, SV.c (Cp.l (Leaf.p 1 0))), (15, bv (decide ((Nat.cast k : Int) < (Nat.cast l.length : Int)))), (14, iv IntKind.i64 (Nat.cast l.length : Int)), (13, SV.c (Cp.l (Leaf.o 0 l.length))), (12, SV.c (Cp.l (Leaf.p 1 0))), (11, iv IntKind.i64 (Nat.cast k : Int)), (3, iv IntKind.i64 (Nat.cast k : Int)), (1, SV.c (Cp.l (Leaf.p 1 0)))] [(2, some (Blk.mk (el (at' l k)) (BT.t 35))), (2, some (Blk.mk zA258 (BT.t 35))), (0, some (Blk.mk (rws l) (BT.r 35 258 0))), (1, some (Blk.mk [Leaf.o 0 l.length] (BT.t 38)))] 3 60 [2, 2, 1] 1)) (wkK 2 K (Exit.exit 0) (St.mk [(15, bv (decide ((Nat.cast k : Int) < (Nat.cast l.length : Int)))), (14, iv IntKind.i64 (Nat.cast l.length : Int)), (13, SV.c (Cp.l (Leaf.o 0 l.length))), (12, SV.c (Cp.l (Leaf.p 1 0))), (11, iv IntKind.i64 (Nat.cast k : Int)), (3, iv IntKind.i64 (Nat.cast k : Int)), (1, SV.c (Cp.l (Leaf.p 1 0)))] [(0, some (Blk.mk (rws l) (BT.r 35 258 0))), (1, some (Blk.mk [Leaf.o 0 l.length] (BT.t 38)))] 2 60 [1] 1))) : WPL Try.prog ((getLoop 4 (Try.f83.body.getD .skip)).getD .skip) (I56 l k) (wkK 2 K) :=
  wp_round (cx := cz_R56 l k) rfl (of_eq (by kernel_rfl) h)
set_option maxRecDepth 100000 in
set_option maxHeartbeats 4000000 in
theorem L56 (l : List TA) (hg : Good l) : ∀ (m k : Nat), l.length - k = m → k ≤ l.length → ∀ (K : Exit → St → Prop), K (.exit 0) (I56 l l.length) → WPL Try.prog ((getLoop 4 (Try.f83.body.getD .skip)).getD .skip) (I56 l k) (wkK 2 K)
  | 0, k, hm, hk, K, hK => by
    have e : k = l.length := by omega
    subst e
    refine R56 l _ K (HB.mk (fun hne => absurd (of_decide_eq_true hne) (by omega)) (fun he => ?_))
    exact wkK.to (I56 l _) (Nat.le_refl _) (by kernel_rfl) (wkE_cons (LeN.sl (by kernel_rfl) rfl) (wkE_cons (LeN.sl (by kernel_rfl) rfl) trivial)) (wkH_cons (BkN.plain (cs := rws l) (b := .r 35 258 0) (by kernel_rfl) (rfl) (plain_rws l) (by kernel_rfl)) (wkH_cons (BkN.blk (k := ⟨[.o 0 l.length], .t 38⟩) (by kernel_rfl) (rfl) (by kernel_rfl)) trivial)) hK
  | m + 1, k, hm, hk, K, hK => by
    refine R56 l k K (HB.mk (fun hne => ?_) (fun he => absurd (show ((k : Nat) : Int) < (l.length : Nat) by omega) (of_decide_eq_false he)))
    have hlt : k < l.length := by omega
    have hlen := hg.len
    repeat' (first | exact trivial | with_reducible apply And.intro | (with_reducible apply HB.mk) | with_reducible intro _)
    all_goals first
      | (assumption)
      | (with_reducible exact Le.refl _)
      | (with_reducible rfl)
      | ((with_reducible exact C44L _ _ rfl _))
      | (with_reducible exact C104 _ _ _)
      | ((with_reducible exact C121L _ _ _ _ rfl rfl _))
      | ((with_reducible exact C122L _ _ rfl _))
      | (with_reducible exact C123 _ _ _ _ _)
      | (exact ⟨by omega, by omega⟩)
      | (exact ⟨by have := gk ‹_›; omega, by omega⟩)
      | ((rw [rws_len, show (((k : Nat) : Int)).toNat = k from rfl]; omega))
      | ((have := gk ‹_›; rw [rws_len, kprev this]; omega))
      | ((refine Le.of ?_; simp only [tn, Nat.zero_add, Nat.add_zero]; rw [rws_at hlt]))
      | (exact Le.of (congrArg (fun l => SV.c (.agg l)) (el_t _)))
      | (exact Le.of (congrArg (fun l => SV.c (.agg l)) (el_pos _)))
      | ((have := gk ‹_›; refine Le.of ?_; simp only [kprev this, Nat.zero_add, Nat.add_zero]; rw [rws_pos (by omega)]))
      | (exact Le.bool (by rw [hg.inn k hlt]))
      | (exact Le.bool (by rw [zeroT_lsB, hg.nz k hlt]))
      | (exact Le.of (by rw [cln_lsB]))
      | (exact Le.bool (by rw [same_lsB, hg.cl k hlt]))
      | (exact Le.bool rfl)
      | ((have := gk ‹_›; exact Le.bool (less_t hg hlt this)))
      | ((have := gk ‹_›; exact okw _ (by omega) (by omega)))
      | ((refine Le.bool ?_; cases decide (((k : Nat) : Int) > 0) <;> rfl))
      | ((simp at *; omega))
      | ((with_reducible refine RoundTo.toN 3 (I56 l (k + 1)) ?_ ?_ ?_ ?_ ?_); exact Nat.le_refl _; kernel_rfl; exact (wkE_cons (LeN.sl (by kernel_rfl) rfl) (wkE_cons (LeN.sl (by kernel_rfl) rfl) trivial)); exact (wkH_cons (BkN.plain (cs := rws l) (b := .r 35 258 0) (by kernel_rfl) (rfl) (plain_rws l) (by kernel_rfl)) (wkH_cons (BkN.blk (k := ⟨[.o 0 l.length], .t 38⟩) (by kernel_rfl) (rfl) (by kernel_rfl)) trivial)); exact (L56 l hg m (k + 1) (by omega) (by omega) K hK))
      | (exact okw _ (by omega) (by omega))
      | (exact Le.of rfl)
      | (exact BkR.of rfl)
      | (unfold SlOK; omega)
      | (unfold SlOK; decide)
      | (unfold inByte; decide)
      | (simp only [*, Bool.and_self, Bool.not_false, Bool.not_true]; done)
      | (simp_all [wants]; done)
theorem enters56 : Enters Try.prog 83 := fun args w => by go_simp
def cz_C56 (l : List TA) : Cz := {
  ct := (fun f => match f with
  | 24 => some fun _ _S ar => match ar with | [.c (.agg l)] => some { v := bv (zeroT (lsB l)), rd := [], wr := [], nw := 0 } | _ => none
  | 53 => some fun _ _S ar => match ar with | [.c (.agg [.v (.int _ ax), .v (.int _ ay)])] => some { v := bv (inB ax ay), rd := [], wr := [], nw := 0 } | _ => none
  | 95 => some fun _ _S ar => match ar with | [.c (.agg l), .c (.agg m)] => some { v := bv (sameT (lsB l) (lsB m)), rd := [], wr := [], nw := 0 } | _ => none
  | 81 => some fun _ _S ar => match ar with | [.c (.agg l)] => some { v := .c (.agg (tl (clnT (lsB l)))), rd := [], wr := [], nw := 0 } | _ => none
  | 82 => some fun _ _S ar => match ar with | [.c (.agg [.v (.int _ ax), .v (.int _ ay)]), .c (.agg [.v (.int _ cx), .v (.int _ cy)])] => some { v := bv (lesB ax ay cx cy), rd := [], wr := [], nw := 0 } | _ => none
  | _ => none)
  eq := (fun t => match t with
  | _ => none)
  raw := [], sym := [], nf := [(10, bv false)], ap := true, off := [], on := [], lp := fun r => match r with | 4 => some (fun _ K => K (.exit 0) (I56 l l.length)) | _ => none, un := 0 }
set_option maxRecDepth 100000 in
set_option maxHeartbeats 400000 in
theorem C56 (l : List TA) (hg : Good l) : CallOK Try.prog 83 [.c (.agg [.o 0 l.length])] [(0, ⟨rws l, .r 35 258 0⟩)] 1 (bv true) [] 0 := by
  have hlen := hg.len
  refine call_ok (cx := cz_C56 l) (nm := []) rfl Try.func83 (body := Try.f83.body.getD .skip) rfl enters56 (by unfold inck; simp only [List.all_cons, List.all_nil, blkLt_plain (plain_rws l) (show (BT.rn (rnId 1 0 []) (.r 35 258 0)).isSome = true from rfl), Bool.and_true, Bool.true_and]; kernel_rfl) ?_
  apply of_eq (q := Le (bv (decide ((Nat.cast l.length : Int) > 1024))) (bv false) ∧ (LoopOK Try.prog ((getLoop 4 (Try.f83.body.getD .skip)).getD .skip) (St.mk [(3, iv IntKind.i64 0), (10, bv false), (9, iv IntKind.i64 (Nat.cast l.length : Int)), (8, SV.c (Cp.l (Leaf.o 0 l.length))), (7, SV.c (Cp.l (Leaf.p 1 0))), (2, bv false), (1, SV.c (Cp.l (Leaf.p 1 0))), (0, ag [Leaf.o 0 l.length])] [(1, some (Blk.mk [Leaf.o 0 l.length] (BT.t 38))), (0, some (Blk.mk (rws l) (BT.r 35 258 0)))] 2 60 [1] 1) fun K => K (Exit.exit 0) (I56 l l.length)) ∧ Le (bv true) (bv true) ∧ True) (by kernel_rfl)
  repeat' (first | exact trivial | with_reducible apply And.intro | (with_reducible apply HB.mk) | with_reducible intro _)
  all_goals first
    | (assumption)
    | (with_reducible exact Le.refl _)
    | (with_reducible rfl)
    | (exact LoopOK.mk (I56 l 0) rfl (by kernel_rfl) (wkE_cons (LeN.sl (by kernel_rfl) rfl) (wkE_cons (LeN.sl (by kernel_rfl) rfl) trivial)) (wkH_cons (BkN.plain (cs := rws l) (b := .r 35 258 0) (by kernel_rfl) (rfl) (plain_rws l) (by kernel_rfl)) (wkH_cons (BkN.blk (k := ⟨[.o 0 l.length], .t 38⟩) (by kernel_rfl) (rfl) (by kernel_rfl)) trivial)) (fun K hT => L56 l hg _ 0 rfl (by first | decide | omega) K hT))
    | ((refine Le.bool (decide_eq_false ?_); omega))
    | (exact okw _ (by omega) (by omega))
    | (exact Le.of rfl)
    | (exact BkR.of rfl)
    | (unfold SlOK; omega)
    | (unfold SlOK; decide)
    | (unfold inByte; decide)
    | (simp only [*, Bool.and_self, Bool.not_false, Bool.not_true]; done)
    | (simp_all [wants]; done)
theorem C56g (l : List TA) (hg : Good l) (id n : Nat) (hi : id < n) : CallOK Try.prog 83 [.c (.agg [.o id l.length])] [(id, ⟨rws l, .r 35 258 id⟩)] n (bv true) [] 0 := by
  have key := CallOK.at1 (C56 l hg) id n hi
  have e1 := ren_plain (σ := up1 id n) (plain_rws l)
  simp only [List.map_cons, List.map_nil, Blk.ren, e1] at key
  exact key
theorem enters99 : Enters Try.prog 56 := fun args w => by go_simp
def cz_C99 (l : List TA) : Cz := {
  ct := (fun f => match f with
  | 83 => some fun _ _S ar => match ar with | [.c (.agg [.o i _])] => some { v := bv true, rd := [i], wr := [], nw := 0 } | _ => none
  | _ => none)
  eq := (fun t => match t with
  | _ => none)
  raw := [], sym := [], nf := [(5, bv true), (7, bv false)], ap := true, off := [], on := [], lp := fun _ => none, un := 0, wh := [38] }
set_option maxRecDepth 100000 in
set_option maxHeartbeats 400000 in
theorem C99 (l : List TA) (hg : Good l) : CallOK Try.prog 56 [.c (.agg [.o 0 l.length])] [(0, ⟨rws l, .r 35 258 0⟩)] 1 (.c (.agg [.o 0 l.length])) [] 0 := by
  refine call_ok (cx := cz_C99 l) (nm := []) rfl Try.func56 (body := Try.f56.body.getD .skip) rfl enters99 (by unfold inck; simp only [List.all_cons, List.all_nil, blkLt_plain (plain_rws l) (show (BT.rn (rnId 1 0 []) (.r 35 258 0)).isSome = true from rfl), Bool.and_true, Bool.true_and]; kernel_rfl) ?_
  apply of_eq (q := CallOKd Try.prog 83 [] [ag [Leaf.o 0 l.length]] [(0, Blk.mk (rws l) (BT.r 35 258 0))] 3 (bv true) [] 0 ∧ Le (bv true) (bv true) ∧ Le (bv !true) (bv false) ∧ 0 = 0 ∧ 1 = 1 ∧ Le (ag [Leaf.o 0 l.length]) (ag [Leaf.o 0 l.length]) ∧ True) (by kernel_rfl)
  repeat' (first | exact trivial | with_reducible apply And.intro | (with_reducible apply HB.mk) | with_reducible intro _)
  all_goals first
    | (assumption)
    | (with_reducible exact Le.refl _)
    | (with_reducible rfl)
    | ((with_reducible exact C56g _ hg _ _ (by omega)))
    | (exact Le.bool rfl)
    | (exact okw _ (by omega) (by omega))
    | (exact Le.of rfl)
    | (exact BkR.of rfl)
    | (unfold SlOK; omega)
    | (unfold SlOK; decide)
    | (unfold inByte; decide)
    | (simp only [*, Bool.and_self, Bool.not_false, Bool.not_true]; done)
    | (simp_all [wants]; done)
theorem enters105 : Enters Try.prog 54 := fun args w => by go_simp
def cz_C105 (l : List TA) : Cz := {
  ct := (fun f => match f with
  | _ => none)
  eq := (fun t => match t with
  | _ => none)
  raw := [], sym := [], nf := [(6, bv false)], ap := true, off := [], on := [], lp := fun _ => none, un := 0, wh := [71] }
set_option maxRecDepth 100000 in
set_option maxHeartbeats 400000 in
theorem C105 (l : List TA) (hl : l.length ≤ 1024) : CallOK Try.prog 54 [.c (.agg [.o 0 l.length])] [(0, ⟨rws l, .r 35 258 0⟩)] 1 (.c (.agg [.o 0 l.length, li 0])) [] 0 := by
  refine call_ok (cx := cz_C105 l) (nm := []) rfl Try.func54 (body := Try.f54.body.getD .skip) rfl enters105 (by unfold inck; simp only [List.all_cons, List.all_nil, blkLt_plain (plain_rws l) (show (BT.rn (rnId 1 0 []) (.r 35 258 0)).isSome = true from rfl), Bool.and_true, Bool.true_and]; kernel_rfl) ?_
  apply of_eq (q := Le (bv (decide ((Nat.cast l.length : Int) > 1024))) (bv false) ∧ 0 = 0 ∧ 2 = 2 ∧ Le (ag [Leaf.o 0 l.length, li 0]) (ag [Leaf.o 0 l.length, li 0]) ∧ True) (by kernel_rfl)
  repeat' (first | exact trivial | with_reducible apply And.intro | (with_reducible apply HB.mk) | with_reducible intro _)
  all_goals first
    | (assumption)
    | (with_reducible exact Le.refl _)
    | (with_reducible rfl)
    | ((refine Le.bool (decide_eq_false ?_); omega))
    | (exact Le.of rfl)
    | (exact okw _ (by omega) (by omega))
    | (exact Le.of rfl)
    | (exact BkR.of rfl)
    | (unfold SlOK; omega)
    | (unfold SlOK; decide)
    | (unfold inByte; decide)
    | (simp only [*, Bool.and_self, Bool.not_false, Bool.not_true]; done)
    | (simp_all [wants]; done)
theorem C99g (l : List TA) (hg : Good l) (id n : Nat) (hi : id < n) : CallOK Try.prog 56 [.c (.agg [.o id l.length])] [(id, ⟨rws l, .r 35 258 id⟩)] n (.c (.agg [.o id l.length])) [] 0 := by
  have key := CallOK.at1 (C99 l hg) id n hi
  have e1 := ren_plain (σ := up1 id n) (plain_rws l)
  simp only [List.map_cons, List.map_nil, Blk.ren, e1] at key
  exact key
theorem C105g (l : List TA) (hl : l.length ≤ 1024) (id n : Nat) (hi : id < n) : CallOK Try.prog 54 [.c (.agg [.o id l.length])] [(id, ⟨rws l, .r 35 258 id⟩)] n (.c (.agg [.o id l.length, li 0])) [] 0 := by
  have key := CallOK.at1 (C105 l hl) id n hi
  have e1 := ren_plain (σ := up1 id n) (plain_rws l)
  simp only [List.map_cons, List.map_nil, Blk.ren, e1] at key
  exact key
end Ab
end Go.Proofs.Ytpdckpifhniioaa
