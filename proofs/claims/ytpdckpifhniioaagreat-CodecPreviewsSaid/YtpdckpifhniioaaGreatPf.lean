/- Part 6 of what CodecPreviews rests on. -/
import Derived.Test.YtpdckpifhniioaaGreatPd
import Derived.Test.YtpdckpifhniioaaGreatPe
section
set_option linter.unusedVariables false
set_option linter.unusedSimpArgs false
namespace Go.Proofs.YtpdckpifhniioaaGreat
open Go.RowKit
namespace Ab
def I56 (l : List TA) (k : Nat) : St := ⟨[(3, iv .i64 (k : Nat)), (1, .c (.l (.p 1 0)))], [(0, some ⟨rws l, .r 42 258 0⟩), (1, some ⟨[.o 0 l.length], .t 26⟩)], 2, 60, [1], (1)⟩
theorem el_pos (e : TA) : List.take 2 (List.drop 0 (el e)) = [li e.X, li e.Y] := rfl
theorem el_t (e : TA) : List.take 256 (List.drop 2 (el e)) = tl e.t := tl_take _
theorem less_t {l : List TA} (hg : Good l) {k : Nat} (hk : k < l.length) (h : 0 < k) : lesB (at' l (k - 1)).X (at' l (k - 1)).Y (at' l k).X (at' l k).Y = true := by
  have := hg.ord (k - 1) (by omega)
  rw [show k - 1 + 1 = k by omega] at this
  exact decide_eq_true this
def cz_R56 (l : List TA) (k : Nat) : Cz := {
  ct := (fun f => match f with
  | 44 => some fun _ _S ar => match ar with | [.c (.agg l)] => some { v := bv (zeroT (lsB l)), rd := [], wr := [], nw := 0 } | _ => none
  | 104 => some fun _ _S ar => match ar with | [.c (.agg [.v (.int _ ax), .v (.int _ ay)])] => some { v := bv (inB ax ay), rd := [], wr := [], nw := 0 } | _ => none
  | 121 => some fun _ _S ar => match ar with | [.c (.agg l), .c (.agg m)] => some { v := bv (sameT (lsB l) (lsB m)), rd := [], wr := [], nw := 0 } | _ => none
  | 122 => some fun _ _S ar => match ar with | [.c (.agg l)] => some { v := .c (.agg (tl (clnT (lsB l)))), rd := [], wr := [], nw := 0 } | _ => none
  | 123 => some fun _ _S ar => match ar with | [.c (.agg [.v (.int _ ax), .v (.int _ ay)]), .c (.agg [.v (.int _ cx), .v (.int _ cy)])] => some { v := bv (lesB ax ay cx cy), rd := [], wr := [], nw := 0 } | _ => none
  | _ => none)
  eq := (fun t => match t with
  | _ => none)
  raw := [], sym := [21, 22, 51, 53], nf := [(22, .c (.agg (el (at' l k)))), (24, .c (.agg (tl (at' l k).t))), (25, bv false), (27, .c (.agg (tl (at' l k).t))), (28, .c (.agg (tl (clnT (at' l k).t)))), (30, .c (.agg (tl (at' l k).t))), (31, bv true), (33, .c (.agg [li (at' l k).X, li (at' l k).Y])), (34, bv true), (35, bv false), (38, bv false), (41, bv false), (42, bv false), (53, .c (.agg [li (at' l (k - 1)).X, li (at' l (k - 1)).Y])), (55, .c (.agg [li (at' l k).X, li (at' l k).Y])), (56, bv true), (57, bv false), (58, bv false), (59, bv false)], ap := true, off := [], on := [], lp := fun _ => none, un := 0, wh := [42] }
set_option maxRecDepth 100000 in
theorem R56 (l : List TA) (k : Nat)  (K : Exit → St → Prop) (h : HB (decide ((Nat.cast k : Int) < (Nat.cast l.length : Int))) (InR ((Nat.cast k : Int)) l.length ∧ ((Nat.cast k : Int)).toNat * 258 + 258 ≤ (rws l).length ∧ Le (ag (List.take 258 (List.drop (((Nat.cast k : Int)).toNat * 258) (rws l)))) (ag (el (at' l k))) ∧ 0 = 0 ∧ 258 = 258 ∧ Le (ag (List.take 256 (List.drop 2 (el (at' l k))))) (ag (tl (at' l k).t)) ∧ CallOKd Tryz.prog 44 [] [ag (tl (at' l k).t)] [] 3 (bv (zeroT (lsB (tl (at' l k).t)))) [] 0 ∧ Le (bv (zeroT (lsB (tl (at' l k).t)))) (bv false) ∧ Le (ag (List.take 256 (List.drop 2 (el (at' l k))))) (ag (tl (at' l k).t)) ∧ CallOKd Tryz.prog 122 [] [ag (tl (at' l k).t)] [] 3 (ag (tl (clnT (lsB (tl (at' l k).t))))) [] 0 ∧ Le (ag (tl (clnT (lsB (tl (at' l k).t))))) (ag (tl (clnT (at' l k).t))) ∧ Le (ag (List.take 256 (List.drop 2 (el (at' l k))))) (ag (tl (at' l k).t)) ∧ CallOKd Tryz.prog 121 [] [ag (tl (clnT (at' l k).t)), ag (tl (at' l k).t)] [] 3 (bv (sameT (lsB (tl (clnT (at' l k).t))) (lsB (tl (at' l k).t)))) [] 0 ∧ Le (bv (sameT (lsB (tl (clnT (at' l k).t))) (lsB (tl (at' l k).t)))) (bv true) ∧ Le (ag (List.take 2 (el (at' l k)))) (ag [li (at' l k).X, li (at' l k).Y]) ∧ CallOKd Tryz.prog 104 [] [ag [li (at' l k).X, li (at' l k).Y]] [] 3 (bv (inB (at' l k).X (at' l k).Y)) [] 0 ∧ Le (bv (inB (at' l k).X (at' l k).Y)) (bv true) ∧ Le (bv !true) (bv false) ∧ (false = false → (!false) = true) ∧ Le (bv (bif false then true else false)) (bv false) ∧ ((!false) = true → (!false) = true ∧ Le (bv !true) (bv false) ∧ True) ∧ (false = false → (!false) = true) ∧ Le (bv (bif false then true else false)) (bv false) ∧ ((!false) = true → (!false) = true ∧ True) ∧ ((!false) = true → (!false) = true ∧ True) ∧ ((!false && decide ((Nat.cast k : Int) > 0)) = true → (!false && decide ((Nat.cast k : Int) > 0)) = true ∧ True) ∧ ((!false && decide ((Nat.cast k : Int) > 0)) = true → (!false && decide ((Nat.cast k : Int) > 0)) = true ∧ IntKind.i64.wrap ((Nat.cast k : Int) - 1) = (Nat.cast k : Int) - 1 ∧ True) ∧ ((!false && decide ((Nat.cast k : Int) > 0)) = true → (!false && decide ((Nat.cast k : Int) > 0)) = true ∧ (!false && decide ((Nat.cast k : Int) > 0)) = true ∧ InR ((Nat.cast k : Int) - 1) l.length ∧ True) ∧ ((!false && decide ((Nat.cast k : Int) > 0)) = true → (!false && decide ((Nat.cast k : Int) > 0)) = true ∧ True) ∧ ((!false && decide ((Nat.cast k : Int) > 0)) = true → (!false && decide ((Nat.cast k : Int) > 0)) = true ∧ ((Nat.cast k : Int) - 1).toNat * 258 + 0 + 2 ≤ (rws l).length ∧ Le (ag (List.take 2 (List.drop (((Nat.cast k : Int) - 1).toNat * 258 + 0) (rws l)))) (ag [li (at' l (k - 1)).X, li (at' l (k - 1)).Y]) ∧ True) ∧ ((!false && decide ((Nat.cast k : Int) > 0)) = true → (!false && decide ((Nat.cast k : Int) > 0)) = true ∧ Le (ag (List.take 2 (el (at' l k)))) (ag [li (at' l k).X, li (at' l k).Y]) ∧ True) ∧ ((!false && decide ((Nat.cast k : Int) > 0)) = true → (!false && decide ((Nat.cast k : Int) > 0)) = true ∧ (!false && decide ((Nat.cast k : Int) > 0)) = true ∧ CallOKd Tryz.prog 123 [] [ag [li (at' l (k - 1)).X, li (at' l (k - 1)).Y], ag [li (at' l k).X, li (at' l k).Y]] [] 3 (bv (lesB (at' l (k - 1)).X (at' l (k - 1)).Y (at' l k).X (at' l k).Y)) [] 0 ∧ Le (bv (lesB (at' l (k - 1)).X (at' l (k - 1)).Y (at' l k).X (at' l k).Y)) (bv true) ∧ True) ∧ ((!false && decide ((Nat.cast k : Int) > 0)) = true → (!false && decide ((Nat.cast k : Int) > 0)) = true ∧ Le (bv !true) (bv false) ∧ True) ∧ ((!false) = true → (!false) = true ∧ (decide ((Nat.cast k : Int) > 0) = true → (!false && decide ((Nat.cast k : Int) > 0)) = true) ∧ Le (bv (bif decide ((Nat.cast k : Int) > 0) then false else false)) (bv false) ∧ True) ∧ (false = false → (!false) = true) ∧ Le (bv (bif false then true else false)) (bv false) ∧ IntKind.i64.wrap ((Nat.cast k : Int) + 1) = (Nat.cast k : Int) + 1 ∧ RoundTo Tryz.prog ((getLoop 4 (Tryz.f56.body.getD Code.skip)).getD Code.skip) 2 (wkK 2 K) (St.mk [(3, iv IntKind.i64 ((Nat.cast k : Int) + 1)), (17, iv IntKind.i64 ((Nat.cast k : Int) + 1)), (16, iv IntKind.i64 (Nat.cast k : Int)), (59, bv false), (58, SV.g (!false) (Cp.l (lb false))), (57, SV.g (!false && decide ((Nat.cast k : Int) > 0)) (Cp.l (lb false))), (56, SV.g (!false && decide ((Nat.cast k : Int) > 0)) (Cp.l (lb true))), (55, SV.g (!false && decide ((Nat.cast k : Int) > 0)) (Cp.agg [li (at' l k).X, li (at' l k).Y])), (54, SV.g (!false && decide ((Nat.cast k : Int) > 0)) (Cp.l (Leaf.p 2 0))), (53, SV.g (!false && decide ((Nat.cast k : Int) > 0)) (Cp.agg [li (at' l (k - 1)).X, li (at' l (k - 1)).Y])), (52, SV.g (!false && decide ((Nat.cast k : Int) > 0)) (Cp.l (Leaf.p 0 (((Nat.cast k : Int) - 1).toNat * 258 + 0)))), (51, SV.g (!false && decide ((Nat.cast k : Int) > 0)) (Cp.l (Leaf.p 0 (((Nat.cast k : Int) - 1).toNat * 258)))), (50, SV.g (!false && decide ((Nat.cast k : Int) > 0)) (Cp.l (li ((Nat.cast k : Int) - 1)))), (49, SV.g (!false && decide ((Nat.cast k : Int) > 0)) (Cp.l (li (Nat.cast k : Int)))), (48, SV.g (!false && decide ((Nat.cast k : Int) > 0)) (Cp.l (Leaf.o 0 l.length))), (47, SV.g (!false && decide ((Nat.cast k : Int) > 0)) (Cp.l (Leaf.p 1 0))), (46, SV.g (!false) (Cp.l (lb (decide ((Nat.cast k : Int) > 0))))), (45, SV.g (!false) (Cp.l (lb (decide ((Nat.cast k : Int) > 0))))), (44, SV.g (!false) (Cp.l (li (Nat.cast k : Int)))), (43, bv false), (42, bv false), (41, SV.g (!false) (Cp.l (lb false))), (40, SV.g (!false) (Cp.l (lb true))), (39, bv false), (38, bv false), (37, SV.g (!false) (Cp.l (lb false))), (36, bv false), (35, bv false), (34, bv true), (33, ag [li (at' l k).X, li (at' l k).Y]), (32, SV.c (Cp.l (Leaf.p 2 0))), (6, bv true), (31, bv true), (30, ag (tl (at' l k).t)), (29, SV.c (Cp.l (Leaf.p 2 2))), (28, ag (tl (clnT (at' l k).t))), (27, ag (tl (at' l k).t)), (26, SV.c (Cp.l (Leaf.p 2 2))), (5, bv false), (25, bv false), (24, ag (tl (at' l k).t)), (23, SV.c (Cp.l (Leaf.p 2 2))), (4, SV.c (Cp.l (Leaf.p 2 0))), (22, ag (el (at' l k))), (21, SV.c (Cp.l (Leaf.p 0 (((Nat.cast k : Int)).toNat * 258)))), (20, iv IntKind.i64 (Nat.cast k : Int)), (19, SV.c (Cp.l (Leaf.o 0 l.length))), (18, SV.c (Cp.l (Leaf.p 1 0))), (15, bv (decide ((Nat.cast k : Int) < (Nat.cast l.length : Int)))), (14, iv IntKind.i64 (Nat.cast l.length : Int)), (13, SV.c (Cp.l (Leaf.o 0 l.length))), (12, SV.c (Cp.l (Leaf.p 1 0))), (11, iv IntKind.i64 (Nat.cast k : Int)), (3, iv IntKind.i64 (Nat.cast k : Int)), (1, SV.c (Cp.l (Leaf.p 1 0)))] [(2, some (Blk.mk (el (at' l k)) (BT.t 42))), (2, some (Blk.mk zA258 (BT.t 42))), (0, some (Blk.mk (rws l) (BT.r 42 258 0))), (1, some (Blk.mk [Leaf.o 0 l.length] (BT.t 26)))] 3 60 [2, 2, 1] 1)) (wkK 2 K (Exit.exit 0) (St.mk [(15, bv (decide ((Nat.cast k : Int) < (Nat.cast l.length : Int)))), (14, iv IntKind.i64 (Nat.cast l.length : Int)), (13, SV.c (Cp.l (Leaf.o 0 l.length))), (12, SV.c (Cp.l (Leaf.p 1 0))), (11, iv IntKind.i64 (Nat.cast k : Int)), (3, iv IntKind.i64 (Nat.cast k : Int)), (1, SV.c (Cp.l (Leaf.p 1 0)))] [(0, some (Blk.mk (rws l) (BT.r 42 258 0))), (1, some (Blk.mk [Leaf.o 0 l.length] (BT.t 26)))] 2 60 [1] 1))) : WPL Tryz.prog ((getLoop 4 (Tryz.f56.body.getD .skip)).getD .skip) (I56 l k) (wkK 2 K) :=
  wp_round (cx := cz_R56 l k) rfl (of_eq (by kernel_rfl) h)
set_option maxRecDepth 100000 in
set_option maxHeartbeats 4000000 in
theorem L56 (l : List TA) (hg : Good l) : ∀ (m k : Nat), l.length - k = m → k ≤ l.length → ∀ (K : Exit → St → Prop), K (.exit 0) (I56 l l.length) → WPL Tryz.prog ((getLoop 4 (Tryz.f56.body.getD .skip)).getD .skip) (I56 l k) (wkK 2 K)
  | 0, k, hm, hk, K, hK => by
    have e : k = l.length := by omega
    subst e
    refine R56 l _ K (HB.mk (fun hne => absurd (of_decide_eq_true hne) (by omega)) (fun he => ?_))
    exact wkK.to (I56 l _) (Nat.le_refl _) (by kernel_rfl) (wkE_cons (LeN.sl (by kernel_rfl) rfl) (wkE_cons (LeN.sl (by kernel_rfl) rfl) trivial)) (wkH_cons (BkN.plain (cs := rws l) (b := .r 42 258 0) (by kernel_rfl) (rfl) (plain_rws l) (by kernel_rfl)) (wkH_cons (BkN.blk (k := ⟨[.o 0 l.length], .t 26⟩) (by kernel_rfl) (rfl) (by kernel_rfl)) trivial)) hK
  | m + 1, k, hm, hk, K, hK => by
    refine R56 l k K (HB.mk (fun hne => ?_) (fun he => absurd (show ((k : Nat) : Int) < (l.length : Nat) by omega) (of_decide_eq_false he)))
    have hlt : k < l.length := by omega
    have hlen := hg.len
    repeat' (first | exact trivial | with_reducible apply And.intro | (with_reducible apply HB.mk) | with_reducible intro _)
    all_goals first
      | (assumption)
      | (with_reducible exact Le.refl _)
      | (with_reducible rfl)
      | ((with_reducible exact C44L _ _ rfl _))
      | (with_reducible exact C104 _ _ _)
      | ((with_reducible exact C121L _ _ _ _ rfl rfl _))
      | ((with_reducible exact C122L _ _ rfl _))
      | (with_reducible exact C123 _ _ _ _ _)
      | (exact ⟨by omega, by omega⟩)
      | (exact ⟨by have := gk ‹_›; omega, by omega⟩)
      | ((rw [rws_len, show (((k : Nat) : Int)).toNat = k from rfl]; omega))
      | ((have := gk ‹_›; rw [rws_len, kprev this]; omega))
      | ((refine Le.of ?_; simp only [tn, Nat.zero_add, Nat.add_zero]; rw [rws_at hlt]))
      | (exact Le.of (congrArg (fun l => SV.c (.agg l)) (el_t _)))
      | (exact Le.of (congrArg (fun l => SV.c (.agg l)) (el_pos _)))
      | ((have := gk ‹_›; refine Le.of ?_; simp only [kprev this, Nat.zero_add, Nat.add_zero]; rw [rws_pos (by omega)]))
      | (exact Le.bool (by rw [hg.inn k hlt]))
      | (exact Le.bool (by rw [zeroT_lsB, hg.nz k hlt]))
      | (exact Le.of (by rw [cln_lsB]))
      | (exact Le.bool (by rw [same_lsB, hg.cl k hlt]))
      | (exact Le.bool rfl)
      | ((have := gk ‹_›; exact Le.bool (less_t hg hlt this)))
      | ((have := gk ‹_›; exact okw _ (by omega) (by omega)))
      | ((refine Le.bool ?_; cases decide (((k : Nat) : Int) > 0) <;> rfl))
      | ((simp at *; omega))
      | ((with_reducible refine RoundTo.toN 3 (I56 l (k + 1)) ?_ ?_ ?_ ?_ ?_); exact Nat.le_refl _; kernel_rfl; exact (wkE_cons (LeN.sl (by kernel_rfl) rfl) (wkE_cons (LeN.sl (by kernel_rfl) rfl) trivial)); exact (wkH_cons (BkN.plain (cs := rws l) (b := .r 42 258 0) (by kernel_rfl) (rfl) (plain_rws l) (by kernel_rfl)) (wkH_cons (BkN.blk (k := ⟨[.o 0 l.length], .t 26⟩) (by kernel_rfl) (rfl) (by kernel_rfl)) trivial)); exact (L56 l hg m (k + 1) (by omega) (by omega) K hK))
      | (exact okw _ (by omega) (by omega))
      | (exact Le.of rfl)
      | (exact BkR.of rfl)
      | (unfold SlOK; omega)
      | (unfold SlOK; decide)
      | (unfold inByte; decide)
      | (simp only [*, Bool.and_self, Bool.not_false, Bool.not_true]; done)
      | (simp_all [wants]; done)
theorem enters56 : Enters Tryz.prog 56 := fun args w => by go_simp
def cz_C56 (l : List TA) : Cz := {
  ct := (fun f => match f with
  | 44 => some fun _ _S ar => match ar with | [.c (.agg l)] => some { v := bv (zeroT (lsB l)), rd := [], wr := [], nw := 0 } | _ => none
  | 104 => some fun _ _S ar => match ar with | [.c (.agg [.v (.int _ ax), .v (.int _ ay)])] => some { v := bv (inB ax ay), rd := [], wr := [], nw := 0 } | _ => none
  | 121 => some fun _ _S ar => match ar with | [.c (.agg l), .c (.agg m)] => some { v := bv (sameT (lsB l) (lsB m)), rd := [], wr := [], nw := 0 } | _ => none
  | 122 => some fun _ _S ar => match ar with | [.c (.agg l)] => some { v := .c (.agg (tl (clnT (lsB l)))), rd := [], wr := [], nw := 0 } | _ => none
  | 123 => some fun _ _S ar => match ar with | [.c (.agg [.v (.int _ ax), .v (.int _ ay)]), .c (.agg [.v (.int _ cx), .v (.int _ cy)])] => some { v := bv (lesB ax ay cx cy), rd := [], wr := [], nw := 0 } | _ => none
  | _ => none)
  eq := (fun t => match t with
  | _ => none)
  raw := [], sym := [], nf := [(10, bv false)], ap := true, off := [], on := [], lp := fun r => match r with | 4 => some (fun _ K => K (.exit 0) (I56 l l.length)) | _ => none, un := 0 }
set_option maxRecDepth 100000 in
set_option maxHeartbeats 400000 in
theorem C56 (l : List TA) (hg : Good l) : CallOK Tryz.prog 56 [.c (.agg [.o 0 l.length])] [(0, ⟨rws l, .r 42 258 0⟩)] 1 (bv true) [] 0 := by
  have hlen := hg.len
  refine call_ok (cx := cz_C56 l) (nm := []) rfl Tryz.func56 (body := Tryz.f56.body.getD .skip) rfl enters56 (by unfold inck; simp only [List.all_cons, List.all_nil, blkLt_plain (plain_rws l) (show (BT.rn (rnId 1 0 []) (.r 42 258 0)).isSome = true from rfl), Bool.and_true, Bool.true_and]; kernel_rfl) ?_
  apply of_eq (q := Le (bv (decide ((Nat.cast l.length : Int) > 1024))) (bv false) ∧ (LoopOK Tryz.prog ((getLoop 4 (Tryz.f56.body.getD .skip)).getD .skip) (St.mk [(3, iv IntKind.i64 0), (10, bv false), (9, iv IntKind.i64 (Nat.cast l.length : Int)), (8, SV.c (Cp.l (Leaf.o 0 l.length))), (7, SV.c (Cp.l (Leaf.p 1 0))), (2, bv false), (1, SV.c (Cp.l (Leaf.p 1 0))), (0, ag [Leaf.o 0 l.length])] [(1, some (Blk.mk [Leaf.o 0 l.length] (BT.t 26))), (0, some (Blk.mk (rws l) (BT.r 42 258 0)))] 2 60 [1] 1) fun K => K (Exit.exit 0) (I56 l l.length)) ∧ Le (bv true) (bv true) ∧ True) (by kernel_rfl)
  repeat' (first | exact trivial | with_reducible apply And.intro | (with_reducible apply HB.mk) | with_reducible intro _)
  all_goals first
    | (assumption)
    | (with_reducible exact Le.refl _)
    | (with_reducible rfl)
    | (exact LoopOK.mk (I56 l 0) rfl (by kernel_rfl) (wkE_cons (LeN.sl (by kernel_rfl) rfl) (wkE_cons (LeN.sl (by kernel_rfl) rfl) trivial)) (wkH_cons (BkN.plain (cs := rws l) (b := .r 42 258 0) (by kernel_rfl) (rfl) (plain_rws l) (by kernel_rfl)) (wkH_cons (BkN.blk (k := ⟨[.o 0 l.length], .t 26⟩) (by kernel_rfl) (rfl) (by kernel_rfl)) trivial)) (fun K hT => L56 l hg _ 0 rfl (by first | decide | omega) K hT))
    | ((refine Le.bool (decide_eq_false ?_); omega))
    | (exact okw _ (by omega) (by omega))
    | (exact Le.of rfl)
    | (exact BkR.of rfl)
    | (unfold SlOK; omega)
    | (unfold SlOK; decide)
    | (unfold inByte; decide)
    | (simp only [*, Bool.and_self, Bool.not_false, Bool.not_true]; done)
    | (simp_all [wants]; done)
theorem C56g (l : List TA) (hg : Good l) (id n : Nat) (hi : id < n) : CallOK Tryz.prog 56 [.c (.agg [.o id l.length])] [(id, ⟨rws l, .r 42 258 id⟩)] n (bv true) [] 0 := by
  have key := CallOK.at1 (C56 l hg) id n hi
  have e1 := ren_plain (σ := up1 id n) (plain_rws l)
  simp only [List.map_cons, List.map_nil, Blk.ren, e1] at key
  exact key
theorem enters99 : Enters Tryz.prog 99 := fun args w => by go_simp
def cz_C99 (l : List TA) : Cz := {
  ct := (fun f => match f with
  | 56 => some fun _ _S ar => match ar with | [.c (.agg [.o i _])] => some { v := bv true, rd := [i], wr := [], nw := 0 } | _ => none
  | _ => none)
  eq := (fun t => match t with
  | _ => none)
  raw := [], sym := [], nf := [(5, bv true), (7, bv false)], ap := true, off := [], on := [], lp := fun _ => none, un := 0, wh := [26] }
set_option maxRecDepth 100000 in
set_option maxHeartbeats 400000 in
theorem C99 (l : List TA) (hg : Good l) : CallOK Tryz.prog 99 [.c (.agg [.o 0 l.length])] [(0, ⟨rws l, .r 42 258 0⟩)] 1 (.c (.agg [.o 0 l.length])) [] 0 := by
  refine call_ok (cx := cz_C99 l) (nm := []) rfl Tryz.func99 (body := Tryz.f99.body.getD .skip) rfl enters99 (by unfold inck; simp only [List.all_cons, List.all_nil, blkLt_plain (plain_rws l) (show (BT.rn (rnId 1 0 []) (.r 42 258 0)).isSome = true from rfl), Bool.and_true, Bool.true_and]; kernel_rfl) ?_
  apply of_eq (q := CallOKd Tryz.prog 56 [] [ag [Leaf.o 0 l.length]] [(0, Blk.mk (rws l) (BT.r 42 258 0))] 3 (bv true) [] 0 ∧ Le (bv true) (bv true) ∧ Le (bv !true) (bv false) ∧ 0 = 0 ∧ 1 = 1 ∧ Le (ag [Leaf.o 0 l.length]) (ag [Leaf.o 0 l.length]) ∧ True) (by kernel_rfl)
  repeat' (first | exact trivial | with_reducible apply And.intro | (with_reducible apply HB.mk) | with_reducible intro _)
  all_goals first
    | (assumption)
    | (with_reducible exact Le.refl _)
    | (with_reducible rfl)
    | ((with_reducible exact C56g _ hg _ _ (by omega)))
    | (exact Le.bool rfl)
    | (exact okw _ (by omega) (by omega))
    | (exact Le.of rfl)
    | (exact BkR.of rfl)
    | (unfold SlOK; omega)
    | (unfold SlOK; decide)
    | (unfold inByte; decide)
    | (simp only [*, Bool.and_self, Bool.not_false, Bool.not_true]; done)
    | (simp_all [wants]; done)
theorem enters105 : Enters Tryz.prog 105 := fun args w => by go_simp
def cz_C105 (l : List TA) : Cz := {
  ct := (fun f => match f with
  | _ => none)
  eq := (fun t => match t with
  | _ => none)
  raw := [], sym := [], nf := [(6, bv false)], ap := true, off := [], on := [], lp := fun _ => none, un := 0, wh := [96] }
set_option maxRecDepth 100000 in
set_option maxHeartbeats 400000 in
theorem C105 (l : List TA) (hl : l.length ≤ 1024) : CallOK Tryz.prog 105 [.c (.agg [.o 0 l.length])] [(0, ⟨rws l, .r 42 258 0⟩)] 1 (.c (.agg [.o 0 l.length, li 0])) [] 0 := by
  refine call_ok (cx := cz_C105 l) (nm := []) rfl Tryz.func105 (body := Tryz.f105.body.getD .skip) rfl enters105 (by unfold inck; simp only [List.all_cons, List.all_nil, blkLt_plain (plain_rws l) (show (BT.rn (rnId 1 0 []) (.r 42 258 0)).isSome = true from rfl), Bool.and_true, Bool.true_and]; kernel_rfl) ?_
  apply of_eq (q := Le (bv (decide ((Nat.cast l.length : Int) > 1024))) (bv false) ∧ 0 = 0 ∧ 2 = 2 ∧ Le (ag [Leaf.o 0 l.length, li 0]) (ag [Leaf.o 0 l.length, li 0]) ∧ True) (by kernel_rfl)
  repeat' (first | exact trivial | with_reducible apply And.intro | (with_reducible apply HB.mk) | with_reducible intro _)
  all_goals first
    | (assumption)
    | (with_reducible exact Le.refl _)
    | (with_reducible rfl)
    | ((refine Le.bool (decide_eq_false ?_); omega))
    | (exact Le.of rfl)
    | (exact okw _ (by omega) (by omega))
    | (exact Le.of rfl)
    | (exact BkR.of rfl)
    | (unfold SlOK; omega)
    | (unfold SlOK; decide)
    | (unfold inByte; decide)
    | (simp only [*, Bool.and_self, Bool.not_false, Bool.not_true]; done)
    | (simp_all [wants]; done)
theorem C99g (l : List TA) (hg : Good l) (id n : Nat) (hi : id < n) : CallOK Tryz.prog 99 [.c (.agg [.o id l.length])] [(id, ⟨rws l, .r 42 258 id⟩)] n (.c (.agg [.o id l.length])) [] 0 := by
  have key := CallOK.at1 (C99 l hg) id n hi
  have e1 := ren_plain (σ := up1 id n) (plain_rws l)
  simp only [List.map_cons, List.map_nil, Blk.ren, e1] at key
  exact key
theorem C105g (l : List TA) (hl : l.length ≤ 1024) (id n : Nat) (hi : id < n) : CallOK Tryz.prog 105 [.c (.agg [.o id l.length])] [(id, ⟨rws l, .r 42 258 id⟩)] n (.c (.agg [.o id l.length, li 0])) [] 0 := by
  have key := CallOK.at1 (C105 l hl) id n hi
  have e1 := ren_plain (σ := up1 id n) (plain_rws l)
  simp only [List.map_cons, List.map_nil, Blk.ren, e1] at key
  exact key
end Ab
end Go.Proofs.YtpdckpifhniioaaGreat
end
section
set_option linter.unusedVariables false
set_option linter.unusedSimpArgs false
namespace Go.Proofs.YtpdckpifhniioaaGreat
open Go.RowKit
namespace Ab
theorem eql40 (a0 a1 b0 b1 : Int) (W : World) : (binOp .eql 40 (.agg #[.int .i64 a0, .int .i64 a1]) (.agg #[.int .i64 b0, .int .i64 b1])).run Tryz.prog W = .ok (.bool (a0 == b0 && a1 == b1)) W := by
  by_cases h0 : a0 = b0
  · by_cases h1 : a1 = b1
    · subst h0 h1; go_simp
    · subst h0; go_simp
  · go_simp
theorem neq40 (a0 a1 b0 b1 : Int) (W : World) : (binOp .neq 40 (.agg #[.int .i64 a0, .int .i64 a1]) (.agg #[.int .i64 b0, .int .i64 b1])).run Tryz.prog W = .ok (.bool (!(a0 == b0 && a1 == b1))) W := by
  by_cases h0 : a0 = b0
  · by_cases h1 : a1 = b1
    · subst h0 h1; go_simp
    · subst h0; go_simp
  · go_simp
set_option maxRecDepth 100000 in
theorem eq40 (a0 a1 b0 b1 : Int) : EqOK Tryz.prog 40 [li a0, li a1] [li b0, li b1] (a0 == b0 && a1 == b1) := by
  intro β u v x y w hu hv
  rw [(plLs_iff (ys := [.int .i64 a0, .int .i64 a1]) rfl β u).1 hu, (plLs_iff (ys := [.int .i64 b0, .int .i64 b1]) rfl β v).1 hv]
  have h1 := eql40 a0 a1 b0 b1 w
  have h2 := neq40 a0 a1 b0 b1 w
  have g : ∀ op, (eqGuard op 40 x y (.agg [.int .i64 a0, .int .i64 a1].toArray) (.agg [.int .i64 b0, .int .i64 b1].toArray)).run Tryz.prog w = .ok () w := by
    intro op; unfold eqGuard; cases op <;> go_simp
  constructor
  · rw [Sem.run_bind, g]; exact h1
  · rw [Sem.run_bind, g]; exact h2
/-- A position behind all of l. -/
def Behind (l : List TA) (x y : Int) : Prop := ∀ k, k < l.length → (at' l k).Y < y ∨ ((at' l k).Y = y ∧ (at' l k).X < x)
def I106 (l : List TA) (x y : Int) (t : Nat → UInt8) (k : Nat) : St := ⟨[(10, iv .i64 (k : Nat)), (9, bv false), (7, .c (.l (.p 5 0))), (6, .c (.l (.p 4 0))), (5, .c (.l (.p 3 0))), (4, .c (.l (.p 2 0))), (3, .c (.l (.p 1 0)))], [(0, some ⟨rws l, .r 42 258 0⟩), (1, some ⟨[.o 0 l.length], .t 26⟩), (2, some ⟨[li x, li y], .t 40⟩), (3, some ⟨tl t, .t 38⟩), (4, some ⟨[.v (.slice none 0 0)], .t 26⟩), (5, some ⟨[.o 6 k], .t 26⟩), (6, some ⟨rws (l.take k), .r 42 258 6⟩)], 7, 73, [6, 5, 4, 3, 2, 1], (1)⟩
theorem rws_append (l m : List TA) : rws (l ++ m) = rws l ++ rws m := by simp [rws]
theorem rws_one (e : TA) : rws [e] = el e := by simp [rws]
theorem at_get {l : List TA} {k : Nat} (h : k < l.length) : l[k]? = some (at' l k) := by
  unfold at'
  rw [List.getD, List.getElem?_eq_getElem h]; rfl
theorem rws_next {l : List TA} {k : Nat} (h : k < l.length) : rws (l.take k) ++ splice zA258 0 (el (at' l k)) = rws (l.take (k + 1)) := by
  rw [put_el, List.take_add_one, at_get h, rws_append]
  show _ = _ ++ rws [at' l k]
  rw [rws_one]
theorem zA_split {x y : Int} : splice zA258 0 [li x, li y] = [li x, li y] ++ List.replicate 256 (.v (.int .u8 0)) := rfl
theorem build_el (x y : Int) (t : Nat → UInt8) : splice (splice zA258 0 [li x, li y]) 2 (tl t) = el ⟨x, y, t⟩ := by
  rw [zA_split]
  exact splice_full (tl t) (List.replicate 256 (.v (.int .u8 0))) [li x, li y] (by rw [tl_len, List.length_replicate])
theorem rws_last (l : List TA) (e : TA) : rws (l.take l.length) ++ splice zA258 0 (el e) = rws l ++ el e := by
  rw [List.take_length, put_el]
theorem BkM.lsB {S : St} {l : List (Nat × Option Nat)} {n j t : Nat} {xs xs' : List Leaf} (h : S.blk j = some ⟨xs, .t t⟩) (hl : LsR l n xs xs') : BkM l n (S.blk j) ⟨xs', .t t⟩ := by
  rw [h]; exact BkM.ls hl
theorem cln_tl {t : Nat → UInt8} (h : sameT (clnT t) t = true) : tl (clnT (lsB (tl t))) = tl t := by
  rw [cln_lsB]
  exact tl_ext fun i hi => (sameT_iff _ _).1 h i hi
theorem plain_el (e : TA) : Plain (el e) := fun x hx => by
  simp only [el, List.mem_cons] at hx
  rcases hx with rfl | rfl | hx
  · exact ⟨_, rfl⟩
  · exact ⟨_, rfl⟩
  · exact tl_plain _ x hx
theorem take_len (l : List TA) {k : Nat} (h : k ≤ l.length) : (l.take k).length = k := by rw [List.length_take]; omega
theorem behind_less {l : List TA} {x y : Int} (h : Behind l x y) {k : Nat} (hk : k < l.length) : lesB x y (at' l k).X (at' l k).Y = false := by
  have := h k hk
  exact decide_eq_false (by omega)
theorem behind_ne {l : List TA} {x y : Int} (h : Behind l x y) {k : Nat} (hk : k < l.length) : (!((at' l k).X == x && (at' l k).Y == y)) = true := by
  have := h k hk
  by_cases h1 : (at' l k).X = x
  · have h2 : (at' l k).Y ≠ y := by omega
    simp [h1, h2]
  · simp [h1]
def cz_R106 (l : List TA) (x y : Int) (t : Nat → UInt8) (k : Nat) : Cz := {
  ct := (fun f => match f with
  | 44 => some fun _ _S ar => match ar with | [.c (.agg l)] => some { v := bv (zeroT (lsB l)), rd := [], wr := [], nw := 0 } | _ => none
  | 122 => some fun _ _S ar => match ar with | [.c (.agg l)] => some { v := .c (.agg (tl (clnT (lsB l)))), rd := [], wr := [], nw := 0 } | _ => none
  | 123 => some fun _ _S ar => match ar with | [.c (.agg [.v (.int _ ax), .v (.int _ ay)]), .c (.agg [.v (.int _ cx), .v (.int _ cy)])] => some { v := bv (lesB ax ay cx cy), rd := [], wr := [], nw := 0 } | _ => none
  | _ => none)
  eq := (fun t => match t with
  | 40 => some (fun xs ys => match xs, ys with | [.v (.int _ a0), .v (.int _ a1)], [.v (.int _ b0), .v (.int _ b1)] => (a0 == b0 && a1 == b1) | _, _ => false)
  | _ => none)
  raw := [], sym := [31, 33, 47, 49, 57, 58, 60], nf := [(33, .c (.agg [li (at' l k).X, li (at' l k).Y])), (34, bv false), (35, bv false), (49, .c (.agg [li (at' l k).X, li (at' l k).Y])), (51, bv true), (58, .c (.agg (el (at' l k))))], ap := true, off := [], on := [], lp := fun _ => none, un := 0 }
set_option maxRecDepth 100000 in
theorem R106 (l : List TA) (x y : Int) (t : Nat → UInt8) (k : Nat)  (K : Exit → St → Prop) (h : HB (decide ((Nat.cast k : Int) < (Nat.cast l.length : Int))) (((!false) = true → (!false) = true ∧ True) ∧ ((!false) = true → (!false) = true ∧ (!false) = true ∧ InR ((Nat.cast k : Int)) l.length ∧ True) ∧ ((!false) = true → (!false) = true ∧ True) ∧ ((!false) = true → (!false) = true ∧ ((Nat.cast k : Int)).toNat * 258 + 0 + 2 ≤ (rws l).length ∧ Le (ag (List.take 2 (List.drop (((Nat.cast k : Int)).toNat * 258 + 0) (rws l)))) (ag [li (at' l k).X, li (at' l k).Y]) ∧ True) ∧ ((!false) = true → (!false) = true ∧ (!false) = true ∧ CallOKd Tryz.prog 123 [] [ag [li x, li y], ag [li (at' l k).X, li (at' l k).Y]] [] 7 (bv (lesB x y (at' l k).X (at' l k).Y)) [] 0 ∧ Le (bv (lesB x y (at' l k).X (at' l k).Y)) (bv false) ∧ True) ∧ ((!false) = true → (!false) = true) ∧ Le (bv (bif !false then false else false)) (bv false) ∧ InR ((Nat.cast k : Int)) l.length ∧ ((Nat.cast k : Int)).toNat * 258 + 0 + 2 ≤ (rws l).length ∧ Le (ag (List.take 2 (List.drop (((Nat.cast k : Int)).toNat * 258 + 0) (rws l)))) (ag [li (at' l k).X, li (at' l k).Y]) ∧ EqOK Tryz.prog 40 [li (at' l k).X, li (at' l k).Y] [li x, li y] ((at' l k).X == x && (at' l k).Y == y) ∧ Le (bv !((at' l k).X == x && (at' l k).Y == y)) (bv true) ∧ (InR ((Nat.cast k : Int)) l.length ∧ ((Nat.cast k : Int)).toNat * 258 + 258 ≤ (rws l).length ∧ Le (ag (List.take 258 (List.drop (((Nat.cast k : Int)).toNat * 258) (rws l)))) (ag (el (at' l k))) ∧ (rws (List.take k l)).length = k * 258 ∧ 258 = 258 ∧ IntKind.i64.wrap ((Nat.cast k : Int) + 1) = (Nat.cast k : Int) + 1 ∧ RoundTo Tryz.prog ((getLoop 6 (Tryz.f106.body.getD Code.skip)).getD Code.skip) 7 (wkK 7 K) (St.mk [(10, iv IntKind.i64 ((Nat.cast k : Int) + 1)), (23, iv IntKind.i64 ((Nat.cast k : Int) + 1)), (22, iv IntKind.i64 (Nat.cast k : Int)), (61, SV.c (Cp.l (Leaf.p 5 0))), (60, SV.c (Cp.l (Leaf.o 6 (k + 1)))), (59, SV.c (Cp.l (Leaf.o 7 1))), (58, ag (el (at' l k))), (57, SV.c (Cp.l (Leaf.p 0 (((Nat.cast k : Int)).toNat * 258)))), (56, iv IntKind.i64 (Nat.cast k : Int)), (55, SV.c (Cp.l (Leaf.o 0 l.length))), (54, SV.c (Cp.l (Leaf.p 1 0))), (53, SV.c (Cp.l (Leaf.o 6 k))), (52, SV.c (Cp.l (Leaf.p 5 0))), (51, bv true), (50, ag [li x, li y]), (49, ag [li (at' l k).X, li (at' l k).Y]), (48, SV.c (Cp.l (Leaf.p 0 (((Nat.cast k : Int)).toNat * 258 + 0)))), (47, SV.c (Cp.l (Leaf.p 0 (((Nat.cast k : Int)).toNat * 258)))), (46, iv IntKind.i64 (Nat.cast k : Int)), (45, SV.c (Cp.l (Leaf.o 0 l.length))), (44, SV.c (Cp.l (Leaf.p 1 0))), (35, bv false), (34, SV.g (!false) (Cp.l (lb false))), (33, SV.g (!false) (Cp.agg [li (at' l k).X, li (at' l k).Y])), (32, SV.g (!false) (Cp.l (Leaf.p 0 (((Nat.cast k : Int)).toNat * 258 + 0)))), (31, SV.g (!false) (Cp.l (Leaf.p 0 (((Nat.cast k : Int)).toNat * 258)))), (30, SV.g (!false) (Cp.l (li (Nat.cast k : Int)))), (29, SV.g (!false) (Cp.l (Leaf.o 0 l.length))), (28, SV.g (!false) (Cp.l (Leaf.p 1 0))), (27, SV.g (!false) (Cp.agg [li x, li y])), (26, bv !false), (25, bv !false), (24, bv false), (21, bv (decide ((Nat.cast k : Int) < (Nat.cast l.length : Int)))), (20, iv IntKind.i64 (Nat.cast l.length : Int)), (19, SV.c (Cp.l (Leaf.o 0 l.length))), (18, SV.c (Cp.l (Leaf.p 1 0))), (17, iv IntKind.i64 (Nat.cast k : Int)), (10, iv IntKind.i64 (Nat.cast k : Int)), (9, bv false), (7, SV.c (Cp.l (Leaf.p 5 0))), (6, SV.c (Cp.l (Leaf.p 4 0))), (5, SV.c (Cp.l (Leaf.p 3 0))), (4, SV.c (Cp.l (Leaf.p 2 0))), (3, SV.c (Cp.l (Leaf.p 1 0)))] [(5, some (Blk.mk [Leaf.o 6 (k + 1)] (BT.t 26))), (6, some (Blk.mk (rws (List.take k l) ++ splice zA258 0 (el (at' l k))) (BT.r 42 258 6))), (7, some (Blk.mk (splice zA258 0 (el (at' l k))) (BT.r 42 258 7))), (0, some (Blk.mk (rws l) (BT.r 42 258 0))), (1, some (Blk.mk [Leaf.o 0 l.length] (BT.t 26))), (2, some (Blk.mk [li x, li y] (BT.t 40))), (3, some (Blk.mk (tl t) (BT.t 38))), (4, some (Blk.mk [Leaf.v (Value.slice none 0 0)] (BT.t 26))), (5, some (Blk.mk [Leaf.o 6 k] (BT.t 26))), (6, some (Blk.mk (rws (List.take k l)) (BT.r 42 258 6)))] 8 73 [5, 6, 7, 6, 5, 4, 3, 2, 1] 1)) ∧ InR ((Nat.cast k : Int)) l.length ∧ ((Nat.cast k : Int)).toNat * 258 + 258 ≤ (rws l).length ∧ Le (ag (List.take 258 (List.drop (((Nat.cast k : Int)).toNat * 258) (rws l)))) (ag (el (at' l k))) ∧ [(6, k + 1, false)] = [(6, k + 1, false)] ∧ ApB Tryz.prog 42 (k + 1) ∧ (rws (List.take k l)).length = k * 258 ∧ 258 = 258 ∧ IntKind.i64.wrap ((Nat.cast k : Int) + 1) = (Nat.cast k : Int) + 1 ∧ RoundTo Tryz.prog ((getLoop 6 (Tryz.f106.body.getD Code.skip)).getD Code.skip) 7 (wkK 7 K) (St.mk [(10, iv IntKind.i64 ((Nat.cast k : Int) + 1)), (23, iv IntKind.i64 ((Nat.cast k : Int) + 1)), (22, iv IntKind.i64 (Nat.cast k : Int)), (61, SV.c (Cp.l (Leaf.p 5 0))), (60, SV.c (Cp.l (Leaf.o 8 (k + 1)))), (59, SV.c (Cp.l (Leaf.o 7 1))), (58, ag (el (at' l k))), (57, SV.c (Cp.l (Leaf.p 0 (((Nat.cast k : Int)).toNat * 258)))), (56, iv IntKind.i64 (Nat.cast k : Int)), (55, SV.c (Cp.l (Leaf.o 0 l.length))), (54, SV.c (Cp.l (Leaf.p 1 0))), (53, SV.c (Cp.l (Leaf.o 6 k))), (52, SV.c (Cp.l (Leaf.p 5 0))), (51, bv true), (50, ag [li x, li y]), (49, ag [li (at' l k).X, li (at' l k).Y]), (48, SV.c (Cp.l (Leaf.p 0 (((Nat.cast k : Int)).toNat * 258 + 0)))), (47, SV.c (Cp.l (Leaf.p 0 (((Nat.cast k : Int)).toNat * 258)))), (46, iv IntKind.i64 (Nat.cast k : Int)), (45, SV.c (Cp.l (Leaf.o 0 l.length))), (44, SV.c (Cp.l (Leaf.p 1 0))), (35, bv false), (34, SV.g (!false) (Cp.l (lb false))), (33, SV.g (!false) (Cp.agg [li (at' l k).X, li (at' l k).Y])), (32, SV.g (!false) (Cp.l (Leaf.p 0 (((Nat.cast k : Int)).toNat * 258 + 0)))), (31, SV.g (!false) (Cp.l (Leaf.p 0 (((Nat.cast k : Int)).toNat * 258)))), (30, SV.g (!false) (Cp.l (li (Nat.cast k : Int)))), (29, SV.g (!false) (Cp.l (Leaf.o 0 l.length))), (28, SV.g (!false) (Cp.l (Leaf.p 1 0))), (27, SV.g (!false) (Cp.agg [li x, li y])), (26, bv !false), (25, bv !false), (24, bv false), (21, bv (decide ((Nat.cast k : Int) < (Nat.cast l.length : Int)))), (20, iv IntKind.i64 (Nat.cast l.length : Int)), (19, SV.c (Cp.l (Leaf.o 0 l.length))), (18, SV.c (Cp.l (Leaf.p 1 0))), (17, iv IntKind.i64 (Nat.cast k : Int)), (10, iv IntKind.i64 (Nat.cast k : Int)), (9, bv false), (7, SV.c (Cp.l (Leaf.p 5 0))), (6, SV.c (Cp.l (Leaf.p 4 0))), (5, SV.c (Cp.l (Leaf.p 3 0))), (4, SV.c (Cp.l (Leaf.p 2 0))), (3, SV.c (Cp.l (Leaf.p 1 0)))] [(5, some (Blk.mk [Leaf.o 8 (k + 1)] (BT.t 26))), (8, some (Blk.mk (rws (List.take k l) ++ splice zA258 0 (el (at' l k))) (BT.r 42 258 8))), (7, some (Blk.mk (splice zA258 0 (el (at' l k))) (BT.r 42 258 7))), (0, some (Blk.mk (rws l) (BT.r 42 258 0))), (1, some (Blk.mk [Leaf.o 0 l.length] (BT.t 26))), (2, some (Blk.mk [li x, li y] (BT.t 40))), (3, some (Blk.mk (tl t) (BT.t 38))), (4, some (Blk.mk [Leaf.v (Value.slice none 0 0)] (BT.t 26))), (5, some (Blk.mk [Leaf.o 6 k] (BT.t 26))), (6, some (Blk.mk (rws (List.take k l)) (BT.r 42 258 6)))] 9 73 [5, 8, 7, 6, 5, 4, 3, 2, 1] 1)) (wkK 7 K (Exit.exit 0) (St.mk [(21, bv (decide ((Nat.cast k : Int) < (Nat.cast l.length : Int)))), (20, iv IntKind.i64 (Nat.cast l.length : Int)), (19, SV.c (Cp.l (Leaf.o 0 l.length))), (18, SV.c (Cp.l (Leaf.p 1 0))), (17, iv IntKind.i64 (Nat.cast k : Int)), (10, iv IntKind.i64 (Nat.cast k : Int)), (9, bv false), (7, SV.c (Cp.l (Leaf.p 5 0))), (6, SV.c (Cp.l (Leaf.p 4 0))), (5, SV.c (Cp.l (Leaf.p 3 0))), (4, SV.c (Cp.l (Leaf.p 2 0))), (3, SV.c (Cp.l (Leaf.p 1 0)))] [(0, some (Blk.mk (rws l) (BT.r 42 258 0))), (1, some (Blk.mk [Leaf.o 0 l.length] (BT.t 26))), (2, some (Blk.mk [li x, li y] (BT.t 40))), (3, some (Blk.mk (tl t) (BT.t 38))), (4, some (Blk.mk [Leaf.v (Value.slice none 0 0)] (BT.t 26))), (5, some (Blk.mk [Leaf.o 6 k] (BT.t 26))), (6, some (Blk.mk (rws (List.take k l)) (BT.r 42 258 6)))] 7 73 [6, 5, 4, 3, 2, 1] 1))) : WPL Tryz.prog ((getLoop 6 (Tryz.f106.body.getD .skip)).getD .skip) (I106 l x y t k) (wkK 7 K) :=
  wp_round (cx := cz_R106 l x y t k) rfl (of_eq (by kernel_rfl) h)
set_option maxRecDepth 100000 in
set_option maxHeartbeats 4000000 in
theorem L106 (l : List TA) (x y : Int) (t : Nat → UInt8) (hl : l.length ≤ 1024) (hb : Behind l x y) : ∀ (m k : Nat), l.length - k = m → k ≤ l.length → ∀ (K : Exit → St → Prop), K (.exit 0) (I106 l x y t l.length) → WPL Tryz.prog ((getLoop 6 (Tryz.f106.body.getD .skip)).getD .skip) (I106 l x y t k) (wkK 7 K)
  | 0, k, hm, hk, K, hK => by
    have e : k = l.length := by omega
    subst e
    refine R106 l x y t _ K (HB.mk (fun hne => absurd (of_decide_eq_true hne) (by omega)) (fun he => ?_))
    exact wkK.to (I106 l x y t _) (Nat.le_refl _) (by kernel_rfl) (wkE_cons (LeN.sl (by kernel_rfl) rfl) (wkE_cons (LeN.sl (by kernel_rfl) rfl) (wkE_cons (LeN.sl (by kernel_rfl) rfl) (wkE_cons (LeN.sl (by kernel_rfl) rfl) (wkE_cons (LeN.sl (by kernel_rfl) rfl) (wkE_cons (LeN.sl (by kernel_rfl) rfl) (wkE_cons (LeN.sl (by kernel_rfl) rfl) trivial))))))) (wkH_cons (BkN.plain (cs := rws l) (b := .r 42 258 0) (by kernel_rfl) (rfl) (plain_rws l) (by kernel_rfl)) (wkH_cons (BkN.blk (k := ⟨[.o 0 l.length], .t 26⟩) (by kernel_rfl) (rfl) (by kernel_rfl)) (wkH_cons (BkN.blk (k := ⟨[li x, li y], .t 40⟩) (by kernel_rfl) (rfl) (by kernel_rfl)) (wkH_cons (BkN.plain (cs := tl t) (b := .t 38) (by kernel_rfl) (rfl) (plain_tl t) (by kernel_rfl)) (wkH_cons (BkN.blk (k := ⟨[.v (.slice none 0 0)], .t 26⟩) (by kernel_rfl) (rfl) (by kernel_rfl)) (wkH_cons (BkN.blk (k := ⟨[.o 6 l.length], .t 26⟩) (by kernel_rfl) (rfl) (by kernel_rfl)) (wkH_cons (BkN.plain (cs := rws (l.take l.length)) (b := .r 42 258 6) (by kernel_rfl) (rfl) (plain_rws _) (by kernel_rfl)) trivial))))))) hK
  | m + 1, k, hm, hk, K, hK => by
    refine R106 l x y t k K (HB.mk (fun hne => ?_) (fun he => absurd (show ((k : Nat) : Int) < (l.length : Nat) by omega) (of_decide_eq_false he)))
    have hlt : k < l.length := by omega
    repeat' (first | exact trivial | with_reducible apply And.intro | (with_reducible apply HB.mk) | with_reducible intro _)
    all_goals first
      | (assumption)
      | (with_reducible exact Le.refl _)
      | (with_reducible rfl)
      | (with_reducible exact C123 _ _ _ _ _)
      | (exact ⟨by omega, by omega⟩)
      | ((rw [rws_len, show (((k : Nat) : Int)).toNat = k from rfl]; omega))
      | ((rw [rws_len, take_len l (by omega)]; omega))
      | ((rw [put_el, el_len]; done))
      | (exact apB (bytes := 272) (by kernel_rfl) (by omega))
      | ((refine Le.of ?_; simp only [tn, Nat.zero_add, Nat.add_zero]; rw [rws_at hlt]))
      | ((refine Le.of ?_; simp only [tn, Nat.zero_add, Nat.add_zero]; rw [rws_pos hlt]))
      | (exact Le.bool (behind_less hb hlt))
      | (exact Le.bool rfl)
      | (exact Le.bool (behind_ne hb hlt))
      | (exact eq40 _ _ _ _)
      | ((with_reducible refine RoundTo.toN 8 (I106 l x y t (k + 1)) ?_ ?_ ?_ ?_ ?_); exact Nat.le_refl _; kernel_rfl; exact (wkE_cons (LeN.sl (by kernel_rfl) rfl) (wkE_cons (LeN.sl (by kernel_rfl) rfl) (wkE_cons (LeN.sl (by kernel_rfl) rfl) (wkE_cons (LeN.sl (by kernel_rfl) rfl) (wkE_cons (LeN.sl (by kernel_rfl) rfl) (wkE_cons (LeN.sl (by kernel_rfl) rfl) (wkE_cons (LeN.sl (by kernel_rfl) rfl) trivial))))))); exact (wkH_cons (BkN.plain (cs := rws l) (b := .r 42 258 0) (by kernel_rfl) (rfl) (plain_rws l) (by kernel_rfl)) (wkH_cons (BkN.blk (k := ⟨[.o 0 l.length], .t 26⟩) (by kernel_rfl) (rfl) (by kernel_rfl)) (wkH_cons (BkN.blk (k := ⟨[li x, li y], .t 40⟩) (by kernel_rfl) (rfl) (by kernel_rfl)) (wkH_cons (BkN.plain (cs := tl t) (b := .t 38) (by kernel_rfl) (rfl) (plain_tl t) (by kernel_rfl)) (wkH_cons (BkN.blk (k := ⟨[.v (.slice none 0 0)], .t 26⟩) (by kernel_rfl) (rfl) (by kernel_rfl)) (wkH_cons (BkN.blk (k := ⟨[.o 6 (k + 1)], .t 26⟩) (by kernel_rfl) (rfl) (by kernel_rfl)) (wkH_cons (BkN.plain (cs := rws (l.take k) ++ splice zA258 0 (el (at' l k))) (b := .r 42 258 6) (by kernel_rfl) (rws_next hlt) (plain_rws _) (by kernel_rfl)) trivial))))))); exact (L106 l x y t hl hb m (k + 1) (by omega) (by omega) K hK))
      | ((with_reducible refine RoundTo.reN 9 [(6, some 8)] (I106 l x y t (k + 1)) ?_ ?_ ?_ ?_); kernel_rfl; exact (wkER_cons (LeR.of (by kernel_rfl)) (wkER_cons (LeR.of (by kernel_rfl)) (wkER_cons (LeR.of (by kernel_rfl)) (wkER_cons (LeR.of (by kernel_rfl)) (wkER_cons (LeR.of (by kernel_rfl)) (wkER_cons (LeR.of (by kernel_rfl)) (wkER_cons (LeR.of (by kernel_rfl)) trivial))))))); exact (wkHR_cons (j := 0) rfl (BkM.plain (cs := rws l) (b := .r 42 258 0) (by kernel_rfl) (rfl) (plain_rws l) (by kernel_rfl)) (wkHR_cons (j := 1) rfl (BkM.blk (k := ⟨[.o 0 l.length], .t 26⟩) (k'' := ⟨[.o 0 l.length], .t 26⟩) (by kernel_rfl) (by kernel_rfl) rfl) (wkHR_cons (j := 2) rfl (BkM.blk (k := ⟨[li x, li y], .t 40⟩) (k'' := ⟨[li x, li y], .t 40⟩) (by kernel_rfl) (by kernel_rfl) rfl) (wkHR_cons (j := 3) rfl (BkM.plain (cs := tl t) (b := .t 38) (by kernel_rfl) (rfl) (plain_tl t) (by kernel_rfl)) (wkHR_cons (j := 4) rfl (BkM.blk (k := ⟨[.v (.slice none 0 0)], .t 26⟩) (k'' := ⟨[.v (.slice none 0 0)], .t 26⟩) (by kernel_rfl) (by kernel_rfl) rfl) (wkHR_cons (j := 5) rfl (BkM.blk (k := ⟨[.o 8 (k + 1)], .t 26⟩) (k'' := ⟨[.o 6 (k + 1)], .t 26⟩) (by kernel_rfl) (by kernel_rfl) rfl) (wkHR_cons (j := 8) rfl (BkM.plain (cs := rws (l.take k) ++ splice zA258 0 (el (at' l k))) (b := .r 42 258 8) (by kernel_rfl) (rws_next hlt) (plain_rws _) (by kernel_rfl)) trivial))))))); exact (L106 l x y t hl hb m (k + 1) (by omega) (by omega) K hK))
      | (exact okw _ (by omega) (by omega))
      | (exact Le.of rfl)
      | (exact BkR.of rfl)
      | (unfold SlOK; omega)
      | (unfold SlOK; decide)
      | (unfold inByte; decide)
      | (simp only [*, Bool.and_self, Bool.not_false, Bool.not_true]; done)
      | (simp_all [wants]; done)
attribute [local irreducible] tl sameT zeroT rws
theorem enters106 : Enters Tryz.prog 106 := fun args w => by go_simp
def cz_C106 (l : List TA) (x y : Int) (t : Nat → UInt8) : Cz := {
  ct := (fun f => match f with
  | 44 => some fun _ _S ar => match ar with | [.c (.agg l)] => some { v := bv (zeroT (lsB l)), rd := [], wr := [], nw := 0 } | _ => none
  | 122 => some fun _ _S ar => match ar with | [.c (.agg l)] => some { v := .c (.agg (tl (clnT (lsB l)))), rd := [], wr := [], nw := 0 } | _ => none
  | 123 => some fun _ _S ar => match ar with | [.c (.agg [.v (.int _ ax), .v (.int _ ay)]), .c (.agg [.v (.int _ cx), .v (.int _ cy)])] => some { v := bv (lesB ax ay cx cy), rd := [], wr := [], nw := 0 } | _ => none
  | _ => none)
  eq := (fun t => match t with
  | 40 => some (fun xs ys => match xs, ys with | [.v (.int _ a0), .v (.int _ a1)], [.v (.int _ b0), .v (.int _ b1)] => (a0 == b0 && a1 == b1) | _, _ => false)
  | _ => none)
  raw := [], sym := [70], nf := [(12, .c (.agg (tl t))), (13, .c (.agg (tl t))), (14, .c (.agg (tl t))), (15, bv false), (67, .c (.agg (tl t))), (68, .c (.agg (el ⟨x, y, t⟩)))], ap := true, off := [], on := [], lp := fun r => match r with | 6 => some (fun _ K => K (.exit 0) (I106 l x y t l.length)) | _ => none, un := 0, wh := [26, 38] }
set_option maxRecDepth 100000 in
set_option maxHeartbeats 400000 in
theorem C106 (l : List TA) (x y : Int) (t : Nat → UInt8) (hl : l.length ≤ 1023) (hb : Behind l x y) (hz : zeroT t = false) (hc : sameT (clnT t) t = true) : CallOK Tryz.prog 106 [.c (.agg [.o 0 l.length]), ag [li x, li y], .c (.agg (tl t))] [(0, ⟨rws l, .r 42 258 0⟩)] 1 (.c (.agg [.o 1 (l.length + 1)])) [(1, ⟨rws l ++ el ⟨x, y, t⟩, .r 42 258 1⟩)] 1 := by
  refine call_ok2 (cx := cz_C106 l x y t) rfl 8 (nm := [6]) (nm2 := [8]) Tryz.func106 (body := Tryz.f106.body.getD .skip) rfl enters106 (by unfold inck; simp only [List.all_cons, List.all_nil, blkLt_plain (plain_rws l) (show (BT.rn (rnId 1 0 []) (.r 42 258 0)).isSome = true from rfl), Bool.and_true, Bool.true_and]; kernel_rfl) (by unfold inck; simp only [List.all_cons, List.all_nil, blkLt_plain (plain_rws l) (show (BT.rn (rnId 1 0 []) (.r 42 258 0)).isSome = true from rfl), Bool.and_true, Bool.true_and]; kernel_rfl) rfl ?_
  apply of_eq (q := 0 = 0 ∧ 1 = 1 ∧ Le (ag (List.take 256 (tl t))) (ag (tl t)) ∧ CallOKd Tryz.prog 122 [] [ag (tl t)] [] 6 (ag (tl (clnT (lsB (tl t))))) [] 0 ∧ Le (ag (tl (clnT (lsB (tl t))))) (ag (tl t)) ∧ 0 = 0 ∧ 256 = 256 ∧ Le (ag (List.take 256 (tl t))) (ag (tl t)) ∧ CallOKd Tryz.prog 44 [] [ag (tl t)] [] 6 (bv (zeroT (lsB (tl t)))) [] 0 ∧ Le (bv (zeroT (lsB (tl t)))) (bv false) ∧ (LoopOK Tryz.prog ((getLoop 6 (Tryz.f106.body.getD .skip)).getD .skip) (St.mk [(10, iv IntKind.i64 0), (9, bv false), (16, bv false), (8, bv false), (15, bv false), (14, ag (tl t)), (13, ag (tl t)), (12, ag (tl t)), (7, SV.c (Cp.l (Leaf.p 5 0))), (11, ag [Leaf.v (Value.slice none 0 0)]), (6, SV.c (Cp.l (Leaf.p 4 0))), (5, SV.c (Cp.l (Leaf.p 3 0))), (4, SV.c (Cp.l (Leaf.p 2 0))), (3, SV.c (Cp.l (Leaf.p 1 0))), (0, ag [Leaf.o 0 l.length]), (1, ag [li x, li y]), (2, ag (tl t))] [(3, some (Blk.mk (tl t) (BT.t 38))), (5, some (Blk.mk [Leaf.v (Value.slice none 0 0)] (BT.t 26))), (5, some (Blk.mk [Leaf.v (Value.slice none 0 0)] (BT.t 26))), (4, some (Blk.mk [Leaf.v (Value.slice none 0 0)] (BT.t 26))), (3, some (Blk.mk (tl t) (BT.t 38))), (2, some (Blk.mk [li x, li y] (BT.t 40))), (1, some (Blk.mk [Leaf.o 0 l.length] (BT.t 26))), (0, some (Blk.mk (rws l) (BT.r 42 258 0)))] 6 73 [3, 5, 5, 4, 3, 2, 1] 1) fun K => K (Exit.exit 0) (I106 l x y t l.length)) ∧ (Le (ag (List.take 256 (tl t))) (ag (tl t)) ∧ Le (ag (splice [li x, li y, Leaf.v (Value.int IntKind.u8 0), Leaf.v (Value.int IntKind.u8 0), Leaf.v (Value.int IntKind.u8 0), Leaf.v (Value.int IntKind.u8 0), Leaf.v (Value.int IntKind.u8 0), Leaf.v (Value.int IntKind.u8 0), Leaf.v (Value.int IntKind.u8 0), Leaf.v (Value.int IntKind.u8 0), Leaf.v (Value.int IntKind.u8 0), Leaf.v (Value.int IntKind.u8 0), Leaf.v (Value.int IntKind.u8 0), Leaf.v (Value.int IntKind.u8 0), Leaf.v (Value.int IntKind.u8 0), Leaf.v (Value.int IntKind.u8 0), Leaf.v (Value.int IntKind.u8 0), Leaf.v (Value.int IntKind.u8 0), Leaf.v (Value.int IntKind.u8 0), Leaf.v (Value.int IntKind.u8 0), Leaf.v (Value.int IntKind.u8 0), Leaf.v (Value.int IntKind.u8 0), Leaf.v (Value.int IntKind.u8 0), Leaf.v (Value.int IntKind.u8 0), Leaf.v (Value.int IntKind.u8 0), Leaf.v (Value.int IntKind.u8 0), Leaf.v (Value.int IntKind.u8 0), Leaf.v (Value.int IntKind.u8 0), Leaf.v (Value.int IntKind.u8 0), Leaf.v (Value.int IntKind.u8 0), Leaf.v (Value.int IntKind.u8 0), Leaf.v (Value.int IntKind.u8 0), Leaf.v (Value.int IntKind.u8 0), Leaf.v (Value.int IntKind.u8 0), Leaf.v (Value.int IntKind.u8 0), Leaf.v (Value.int IntKind.u8 0), Leaf.v (Value.int IntKind.u8 0), Leaf.v (Value.int IntKind.u8 0), Leaf.v (Value.int IntKind.u8 0), Leaf.v (Value.int IntKind.u8 0), Leaf.v (Value.int IntKind.u8 0), Leaf.v (Value.int IntKind.u8 0), Leaf.v (Value.int IntKind.u8 0), Leaf.v (Value.int IntKind.u8 0), Leaf.v (Value.int IntKind.u8 0), Leaf.v (Value.int IntKind.u8 0), Leaf.v (Value.int IntKind.u8 0), Leaf.v (Value.int IntKind.u8 0), Leaf.v (Value.int IntKind.u8 0), Leaf.v (Value.int IntKind.u8 0), Leaf.v (Value.int IntKind.u8 0), Leaf.v (Value.int IntKind.u8 0), Leaf.v (Value.int IntKind.u8 0), Leaf.v (Value.int IntKind.u8 0), Leaf.v (Value.int IntKind.u8 0), Leaf.v (Value.int IntKind.u8 0), Leaf.v (Value.int IntKind.u8 0), Leaf.v (Value.int IntKind.u8 0), Leaf.v (Value.int IntKind.u8 0), Leaf.v (Value.int IntKind.u8 0), Leaf.v (Value.int IntKind.u8 0), Leaf.v (Value.int IntKind.u8 0), Leaf.v (Value.int IntKind.u8 0), Leaf.v (Value.int IntKind.u8 0), Leaf.v (Value.int IntKind.u8 0), Leaf.v (Value.int IntKind.u8 0), Leaf.v (Value.int IntKind.u8 0), Leaf.v (Value.int IntKind.u8 0), Leaf.v (Value.int IntKind.u8 0), Leaf.v (Value.int IntKind.u8 0), Leaf.v (Value.int IntKind.u8 0), Leaf.v (Value.int IntKind.u8 0), Leaf.v (Value.int IntKind.u8 0), Leaf.v (Value.int IntKind.u8 0), Leaf.v (Value.int IntKind.u8 0), Leaf.v (Value.int IntKind.u8 0), Leaf.v (Value.int IntKind.u8 0), Leaf.v (Value.int IntKind.u8 0), Leaf.v (Value.int IntKind.u8 0), Leaf.v (Value.int IntKind.u8 0), Leaf.v (Value.int IntKind.u8 0), Leaf.v (Value.int IntKind.u8 0), Leaf.v (Value.int IntKind.u8 0), Leaf.v (Value.int IntKind.u8 0), Leaf.v (Value.int IntKind.u8 0), Leaf.v (Value.int IntKind.u8 0), Leaf.v (Value.int IntKind.u8 0), Leaf.v (Value.int IntKind.u8 0), Leaf.v (Value.int IntKind.u8 0), Leaf.v (Value.int IntKind.u8 0), Leaf.v (Value.int IntKind.u8 0), Leaf.v (Value.int IntKind.u8 0), Leaf.v (Value.int IntKind.u8 0), Leaf.v (Value.int IntKind.u8 0), Leaf.v (Value.int IntKind.u8 0), Leaf.v (Value.int IntKind.u8 0), Leaf.v (Value.int IntKind.u8 0), Leaf.v (Value.int IntKind.u8 0), Leaf.v (Value.int IntKind.u8 0), Leaf.v (Value.int IntKind.u8 0), Leaf.v (Value.int IntKind.u8 0), Leaf.v (Value.int IntKind.u8 0), Leaf.v (Value.int IntKind.u8 0), Leaf.v (Value.int IntKind.u8 0), Leaf.v (Value.int IntKind.u8 0), Leaf.v (Value.int IntKind.u8 0), Leaf.v (Value.int IntKind.u8 0), Leaf.v (Value.int IntKind.u8 0), Leaf.v (Value.int IntKind.u8 0), Leaf.v (Value.int IntKind.u8 0), Leaf.v (Value.int IntKind.u8 0), Leaf.v (Value.int IntKind.u8 0), Leaf.v (Value.int IntKind.u8 0), Leaf.v (Value.int IntKind.u8 0), Leaf.v (Value.int IntKind.u8 0), Leaf.v (Value.int IntKind.u8 0), Leaf.v (Value.int IntKind.u8 0), Leaf.v (Value.int IntKind.u8 0), Leaf.v (Value.int IntKind.u8 0), Leaf.v (Value.int IntKind.u8 0), Leaf.v (Value.int IntKind.u8 0), Leaf.v (Value.int IntKind.u8 0), Leaf.v (Value.int IntKind.u8 0), Leaf.v (Value.int IntKind.u8 0), Leaf.v (Value.int IntKind.u8 0), Leaf.v (Value.int IntKind.u8 0), Leaf.v (Value.int IntKind.u8 0), Leaf.v (Value.int IntKind.u8 0), Leaf.v (Value.int IntKind.u8 0), Leaf.v (Value.int IntKind.u8 0), Leaf.v (Value.int IntKind.u8 0), Leaf.v (Value.int IntKind.u8 0), Leaf.v (Value.int IntKind.u8 0), Leaf.v (Value.int IntKind.u8 0), Leaf.v (Value.int IntKind.u8 0), Leaf.v (Value.int IntKind.u8 0), Leaf.v (Value.int IntKind.u8 0), Leaf.v (Value.int IntKind.u8 0), Leaf.v (Value.int IntKind.u8 0), Leaf.v (Value.int IntKind.u8 0), Leaf.v (Value.int IntKind.u8 0), Leaf.v (Value.int IntKind.u8 0), Leaf.v (Value.int IntKind.u8 0), Leaf.v (Value.int IntKind.u8 0), Leaf.v (Value.int IntKind.u8 0), Leaf.v (Value.int IntKind.u8 0), Leaf.v (Value.int IntKind.u8 0), Leaf.v (Value.int IntKind.u8 0), Leaf.v (Value.int IntKind.u8 0), Leaf.v (Value.int IntKind.u8 0), Leaf.v (Value.int IntKind.u8 0), Leaf.v (Value.int IntKind.u8 0), Leaf.v (Value.int IntKind.u8 0), Leaf.v (Value.int IntKind.u8 0), Leaf.v (Value.int IntKind.u8 0), Leaf.v (Value.int IntKind.u8 0), Leaf.v (Value.int IntKind.u8 0), Leaf.v (Value.int IntKind.u8 0), Leaf.v (Value.int IntKind.u8 0), Leaf.v (Value.int IntKind.u8 0), Leaf.v (Value.int IntKind.u8 0), Leaf.v (Value.int IntKind.u8 0), Leaf.v (Value.int IntKind.u8 0), Leaf.v (Value.int IntKind.u8 0), Leaf.v (Value.int IntKind.u8 0), Leaf.v (Value.int IntKind.u8 0), Leaf.v (Value.int IntKind.u8 0), Leaf.v (Value.int IntKind.u8 0), Leaf.v (Value.int IntKind.u8 0), Leaf.v (Value.int IntKind.u8 0), Leaf.v (Value.int IntKind.u8 0), Leaf.v (Value.int IntKind.u8 0), Leaf.v (Value.int IntKind.u8 0), Leaf.v (Value.int IntKind.u8 0), Leaf.v (Value.int IntKind.u8 0), Leaf.v (Value.int IntKind.u8 0), Leaf.v (Value.int IntKind.u8 0), Leaf.v (Value.int IntKind.u8 0), Leaf.v (Value.int IntKind.u8 0), Leaf.v (Value.int IntKind.u8 0), Leaf.v (Value.int IntKind.u8 0), Leaf.v (Value.int IntKind.u8 0), Leaf.v (Value.int IntKind.u8 0), Leaf.v (Value.int IntKind.u8 0), Leaf.v (Value.int IntKind.u8 0), Leaf.v (Value.int IntKind.u8 0), Leaf.v (Value.int IntKind.u8 0), Leaf.v (Value.int IntKind.u8 0), Leaf.v (Value.int IntKind.u8 0), Leaf.v (Value.int IntKind.u8 0), Leaf.v (Value.int IntKind.u8 0), Leaf.v (Value.int IntKind.u8 0), Leaf.v (Value.int IntKind.u8 0), Leaf.v (Value.int IntKind.u8 0), Leaf.v (Value.int IntKind.u8 0), Leaf.v (Value.int IntKind.u8 0), Leaf.v (Value.int IntKind.u8 0), Leaf.v (Value.int IntKind.u8 0), Leaf.v (Value.int IntKind.u8 0), Leaf.v (Value.int IntKind.u8 0), Leaf.v (Value.int IntKind.u8 0), Leaf.v (Value.int IntKind.u8 0), Leaf.v (Value.int IntKind.u8 0), Leaf.v (Value.int IntKind.u8 0), Leaf.v (Value.int IntKind.u8 0), Leaf.v (Value.int IntKind.u8 0), Leaf.v (Value.int IntKind.u8 0), Leaf.v (Value.int IntKind.u8 0), Leaf.v (Value.int IntKind.u8 0), Leaf.v (Value.int IntKind.u8 0), Leaf.v (Value.int IntKind.u8 0), Leaf.v (Value.int IntKind.u8 0), Leaf.v (Value.int IntKind.u8 0), Leaf.v (Value.int IntKind.u8 0), Leaf.v (Value.int IntKind.u8 0), Leaf.v (Value.int IntKind.u8 0), Leaf.v (Value.int IntKind.u8 0), Leaf.v (Value.int IntKind.u8 0), Leaf.v (Value.int IntKind.u8 0), Leaf.v (Value.int IntKind.u8 0), Leaf.v (Value.int IntKind.u8 0), Leaf.v (Value.int IntKind.u8 0), Leaf.v (Value.int IntKind.u8 0), Leaf.v (Value.int IntKind.u8 0), Leaf.v (Value.int IntKind.u8 0), Leaf.v (Value.int IntKind.u8 0), Leaf.v (Value.int IntKind.u8 0), Leaf.v (Value.int IntKind.u8 0), Leaf.v (Value.int IntKind.u8 0), Leaf.v (Value.int IntKind.u8 0), Leaf.v (Value.int IntKind.u8 0), Leaf.v (Value.int IntKind.u8 0), Leaf.v (Value.int IntKind.u8 0), Leaf.v (Value.int IntKind.u8 0), Leaf.v (Value.int IntKind.u8 0), Leaf.v (Value.int IntKind.u8 0), Leaf.v (Value.int IntKind.u8 0), Leaf.v (Value.int IntKind.u8 0), Leaf.v (Value.int IntKind.u8 0), Leaf.v (Value.int IntKind.u8 0), Leaf.v (Value.int IntKind.u8 0), Leaf.v (Value.int IntKind.u8 0), Leaf.v (Value.int IntKind.u8 0), Leaf.v (Value.int IntKind.u8 0), Leaf.v (Value.int IntKind.u8 0), Leaf.v (Value.int IntKind.u8 0), Leaf.v (Value.int IntKind.u8 0), Leaf.v (Value.int IntKind.u8 0), Leaf.v (Value.int IntKind.u8 0), Leaf.v (Value.int IntKind.u8 0), Leaf.v (Value.int IntKind.u8 0), Leaf.v (Value.int IntKind.u8 0), Leaf.v (Value.int IntKind.u8 0), Leaf.v (Value.int IntKind.u8 0), Leaf.v (Value.int IntKind.u8 0), Leaf.v (Value.int IntKind.u8 0), Leaf.v (Value.int IntKind.u8 0), Leaf.v (Value.int IntKind.u8 0)] 2 (tl t))) (ag (el (TA.mk x y t))) ∧ (rws (List.take l.length l)).length = l.length * 258 ∧ 258 = 258 ∧ 0 = 0 ∧ 1 = 1 ∧ Le (ag [Leaf.o 1 (l.length + 1)]) (ag [Leaf.o 1 (l.length + 1)]) ∧ BkR (rnId 1 0 [6]) (Blk.mk (rws (List.take l.length l) ++ splice zA258 0 (el (TA.mk x y t))) (BT.r 42 258 6)) (Blk.mk (rws l ++ el (TA.mk x y t)) (BT.r 42 258 1)) ∧ True) ∧ Le (ag (List.take 256 (tl t))) (ag (tl t)) ∧ Le (ag (splice [li x, li y, Leaf.v (Value.int IntKind.u8 0), Leaf.v (Value.int IntKind.u8 0), Leaf.v (Value.int IntKind.u8 0), Leaf.v (Value.int IntKind.u8 0), Leaf.v (Value.int IntKind.u8 0), Leaf.v (Value.int IntKind.u8 0), Leaf.v (Value.int IntKind.u8 0), Leaf.v (Value.int IntKind.u8 0), Leaf.v (Value.int IntKind.u8 0), Leaf.v (Value.int IntKind.u8 0), Leaf.v (Value.int IntKind.u8 0), Leaf.v (Value.int IntKind.u8 0), Leaf.v (Value.int IntKind.u8 0), Leaf.v (Value.int IntKind.u8 0), Leaf.v (Value.int IntKind.u8 0), Leaf.v (Value.int IntKind.u8 0), Leaf.v (Value.int IntKind.u8 0), Leaf.v (Value.int IntKind.u8 0), Leaf.v (Value.int IntKind.u8 0), Leaf.v (Value.int IntKind.u8 0), Leaf.v (Value.int IntKind.u8 0), Leaf.v (Value.int IntKind.u8 0), Leaf.v (Value.int IntKind.u8 0), Leaf.v (Value.int IntKind.u8 0), Leaf.v (Value.int IntKind.u8 0), Leaf.v (Value.int IntKind.u8 0), Leaf.v (Value.int IntKind.u8 0), Leaf.v (Value.int IntKind.u8 0), Leaf.v (Value.int IntKind.u8 0), Leaf.v (Value.int IntKind.u8 0), Leaf.v (Value.int IntKind.u8 0), Leaf.v (Value.int IntKind.u8 0), Leaf.v (Value.int IntKind.u8 0), Leaf.v (Value.int IntKind.u8 0), Leaf.v (Value.int IntKind.u8 0), Leaf.v (Value.int IntKind.u8 0), Leaf.v (Value.int IntKind.u8 0), Leaf.v (Value.int IntKind.u8 0), Leaf.v (Value.int IntKind.u8 0), Leaf.v (Value.int IntKind.u8 0), Leaf.v (Value.int IntKind.u8 0), Leaf.v (Value.int IntKind.u8 0), Leaf.v (Value.int IntKind.u8 0), Leaf.v (Value.int IntKind.u8 0), Leaf.v (Value.int IntKind.u8 0), Leaf.v (Value.int IntKind.u8 0), Leaf.v (Value.int IntKind.u8 0), Leaf.v (Value.int IntKind.u8 0), Leaf.v (Value.int IntKind.u8 0), Leaf.v (Value.int IntKind.u8 0), Leaf.v (Value.int IntKind.u8 0), Leaf.v (Value.int IntKind.u8 0), Leaf.v (Value.int IntKind.u8 0), Leaf.v (Value.int IntKind.u8 0), Leaf.v (Value.int IntKind.u8 0), Leaf.v (Value.int IntKind.u8 0), Leaf.v (Value.int IntKind.u8 0), Leaf.v (Value.int IntKind.u8 0), Leaf.v (Value.int IntKind.u8 0), Leaf.v (Value.int IntKind.u8 0), Leaf.v (Value.int IntKind.u8 0), Leaf.v (Value.int IntKind.u8 0), Leaf.v (Value.int IntKind.u8 0), Leaf.v (Value.int IntKind.u8 0), Leaf.v (Value.int IntKind.u8 0), Leaf.v (Value.int IntKind.u8 0), Leaf.v (Value.int IntKind.u8 0), Leaf.v (Value.int IntKind.u8 0), Leaf.v (Value.int IntKind.u8 0), Leaf.v (Value.int IntKind.u8 0), Leaf.v (Value.int IntKind.u8 0), Leaf.v (Value.int IntKind.u8 0), Leaf.v (Value.int IntKind.u8 0), Leaf.v (Value.int IntKind.u8 0), Leaf.v (Value.int IntKind.u8 0), Leaf.v (Value.int IntKind.u8 0), Leaf.v (Value.int IntKind.u8 0), Leaf.v (Value.int IntKind.u8 0), Leaf.v (Value.int IntKind.u8 0), Leaf.v (Value.int IntKind.u8 0), Leaf.v (Value.int IntKind.u8 0), Leaf.v (Value.int IntKind.u8 0), Leaf.v (Value.int IntKind.u8 0), Leaf.v (Value.int IntKind.u8 0), Leaf.v (Value.int IntKind.u8 0), Leaf.v (Value.int IntKind.u8 0), Leaf.v (Value.int IntKind.u8 0), Leaf.v (Value.int IntKind.u8 0), Leaf.v (Value.int IntKind.u8 0), Leaf.v (Value.int IntKind.u8 0), Leaf.v (Value.int IntKind.u8 0), Leaf.v (Value.int IntKind.u8 0), Leaf.v (Value.int IntKind.u8 0), Leaf.v (Value.int IntKind.u8 0), Leaf.v (Value.int IntKind.u8 0), Leaf.v (Value.int IntKind.u8 0), Leaf.v (Value.int IntKind.u8 0), Leaf.v (Value.int IntKind.u8 0), Leaf.v (Value.int IntKind.u8 0), Leaf.v (Value.int IntKind.u8 0), Leaf.v (Value.int IntKind.u8 0), Leaf.v (Value.int IntKind.u8 0), Leaf.v (Value.int IntKind.u8 0), Leaf.v (Value.int IntKind.u8 0), Leaf.v (Value.int IntKind.u8 0), Leaf.v (Value.int IntKind.u8 0), Leaf.v (Value.int IntKind.u8 0), Leaf.v (Value.int IntKind.u8 0), Leaf.v (Value.int IntKind.u8 0), Leaf.v (Value.int IntKind.u8 0), Leaf.v (Value.int IntKind.u8 0), Leaf.v (Value.int IntKind.u8 0), Leaf.v (Value.int IntKind.u8 0), Leaf.v (Value.int IntKind.u8 0), Leaf.v (Value.int IntKind.u8 0), Leaf.v (Value.int IntKind.u8 0), Leaf.v (Value.int IntKind.u8 0), Leaf.v (Value.int IntKind.u8 0), Leaf.v (Value.int IntKind.u8 0), Leaf.v (Value.int IntKind.u8 0), Leaf.v (Value.int IntKind.u8 0), Leaf.v (Value.int IntKind.u8 0), Leaf.v (Value.int IntKind.u8 0), Leaf.v (Value.int IntKind.u8 0), Leaf.v (Value.int IntKind.u8 0), Leaf.v (Value.int IntKind.u8 0), Leaf.v (Value.int IntKind.u8 0), Leaf.v (Value.int IntKind.u8 0), Leaf.v (Value.int IntKind.u8 0), Leaf.v (Value.int IntKind.u8 0), Leaf.v (Value.int IntKind.u8 0), Leaf.v (Value.int IntKind.u8 0), Leaf.v (Value.int IntKind.u8 0), Leaf.v (Value.int IntKind.u8 0), Leaf.v (Value.int IntKind.u8 0), Leaf.v (Value.int IntKind.u8 0), Leaf.v (Value.int IntKind.u8 0), Leaf.v (Value.int IntKind.u8 0), Leaf.v (Value.int IntKind.u8 0), Leaf.v (Value.int IntKind.u8 0), Leaf.v (Value.int IntKind.u8 0), Leaf.v (Value.int IntKind.u8 0), Leaf.v (Value.int IntKind.u8 0), Leaf.v (Value.int IntKind.u8 0), Leaf.v (Value.int IntKind.u8 0), Leaf.v (Value.int IntKind.u8 0), Leaf.v (Value.int IntKind.u8 0), Leaf.v (Value.int IntKind.u8 0), Leaf.v (Value.int IntKind.u8 0), Leaf.v (Value.int IntKind.u8 0), Leaf.v (Value.int IntKind.u8 0), Leaf.v (Value.int IntKind.u8 0), Leaf.v (Value.int IntKind.u8 0), Leaf.v (Value.int IntKind.u8 0), Leaf.v (Value.int IntKind.u8 0), Leaf.v (Value.int IntKind.u8 0), Leaf.v (Value.int IntKind.u8 0), Leaf.v (Value.int IntKind.u8 0), Leaf.v (Value.int IntKind.u8 0), Leaf.v (Value.int IntKind.u8 0), Leaf.v (Value.int IntKind.u8 0), Leaf.v (Value.int IntKind.u8 0), Leaf.v (Value.int IntKind.u8 0), Leaf.v (Value.int IntKind.u8 0), Leaf.v (Value.int IntKind.u8 0), Leaf.v (Value.int IntKind.u8 0), Leaf.v (Value.int IntKind.u8 0), Leaf.v (Value.int IntKind.u8 0), Leaf.v (Value.int IntKind.u8 0), Leaf.v (Value.int IntKind.u8 0), Leaf.v (Value.int IntKind.u8 0), Leaf.v (Value.int IntKind.u8 0), Leaf.v (Value.int IntKind.u8 0), Leaf.v (Value.int IntKind.u8 0), Leaf.v (Value.int IntKind.u8 0), Leaf.v (Value.int IntKind.u8 0), Leaf.v (Value.int IntKind.u8 0), Leaf.v (Value.int IntKind.u8 0), Leaf.v (Value.int IntKind.u8 0), Leaf.v (Value.int IntKind.u8 0), Leaf.v (Value.int IntKind.u8 0), Leaf.v (Value.int IntKind.u8 0), Leaf.v (Value.int IntKind.u8 0), Leaf.v (Value.int IntKind.u8 0), Leaf.v (Value.int IntKind.u8 0), Leaf.v (Value.int IntKind.u8 0), Leaf.v (Value.int IntKind.u8 0), Leaf.v (Value.int IntKind.u8 0), Leaf.v (Value.int IntKind.u8 0), Leaf.v (Value.int IntKind.u8 0), Leaf.v (Value.int IntKind.u8 0), Leaf.v (Value.int IntKind.u8 0), Leaf.v (Value.int IntKind.u8 0), Leaf.v (Value.int IntKind.u8 0), Leaf.v (Value.int IntKind.u8 0), Leaf.v (Value.int IntKind.u8 0), Leaf.v (Value.int IntKind.u8 0), Leaf.v (Value.int IntKind.u8 0), Leaf.v (Value.int IntKind.u8 0), Leaf.v (Value.int IntKind.u8 0), Leaf.v (Value.int IntKind.u8 0), Leaf.v (Value.int IntKind.u8 0), Leaf.v (Value.int IntKind.u8 0), Leaf.v (Value.int IntKind.u8 0), Leaf.v (Value.int IntKind.u8 0), Leaf.v (Value.int IntKind.u8 0), Leaf.v (Value.int IntKind.u8 0), Leaf.v (Value.int IntKind.u8 0), Leaf.v (Value.int IntKind.u8 0), Leaf.v (Value.int IntKind.u8 0), Leaf.v (Value.int IntKind.u8 0), Leaf.v (Value.int IntKind.u8 0), Leaf.v (Value.int IntKind.u8 0), Leaf.v (Value.int IntKind.u8 0), Leaf.v (Value.int IntKind.u8 0), Leaf.v (Value.int IntKind.u8 0), Leaf.v (Value.int IntKind.u8 0), Leaf.v (Value.int IntKind.u8 0), Leaf.v (Value.int IntKind.u8 0), Leaf.v (Value.int IntKind.u8 0), Leaf.v (Value.int IntKind.u8 0), Leaf.v (Value.int IntKind.u8 0), Leaf.v (Value.int IntKind.u8 0), Leaf.v (Value.int IntKind.u8 0), Leaf.v (Value.int IntKind.u8 0), Leaf.v (Value.int IntKind.u8 0), Leaf.v (Value.int IntKind.u8 0), Leaf.v (Value.int IntKind.u8 0), Leaf.v (Value.int IntKind.u8 0), Leaf.v (Value.int IntKind.u8 0), Leaf.v (Value.int IntKind.u8 0), Leaf.v (Value.int IntKind.u8 0), Leaf.v (Value.int IntKind.u8 0), Leaf.v (Value.int IntKind.u8 0), Leaf.v (Value.int IntKind.u8 0), Leaf.v (Value.int IntKind.u8 0), Leaf.v (Value.int IntKind.u8 0), Leaf.v (Value.int IntKind.u8 0), Leaf.v (Value.int IntKind.u8 0), Leaf.v (Value.int IntKind.u8 0), Leaf.v (Value.int IntKind.u8 0), Leaf.v (Value.int IntKind.u8 0), Leaf.v (Value.int IntKind.u8 0), Leaf.v (Value.int IntKind.u8 0), Leaf.v (Value.int IntKind.u8 0), Leaf.v (Value.int IntKind.u8 0), Leaf.v (Value.int IntKind.u8 0), Leaf.v (Value.int IntKind.u8 0), Leaf.v (Value.int IntKind.u8 0), Leaf.v (Value.int IntKind.u8 0), Leaf.v (Value.int IntKind.u8 0), Leaf.v (Value.int IntKind.u8 0), Leaf.v (Value.int IntKind.u8 0), Leaf.v (Value.int IntKind.u8 0), Leaf.v (Value.int IntKind.u8 0), Leaf.v (Value.int IntKind.u8 0)] 2 (tl t))) (ag (el (TA.mk x y t))) ∧ [(6, l.length + 1, false)] = [(6, l.length + 1, false)] ∧ ApB Tryz.prog 42 (l.length + 1) ∧ (rws (List.take l.length l)).length = l.length * 258 ∧ 258 = 258 ∧ 0 = 0 ∧ 1 = 1 ∧ Le (ag [Leaf.o 1 (l.length + 1)]) (ag [Leaf.o 1 (l.length + 1)]) ∧ BkR (rnId 1 0 [8]) (Blk.mk (rws (List.take l.length l) ++ splice zA258 0 (el (TA.mk x y t))) (BT.r 42 258 8)) (Blk.mk (rws l ++ el (TA.mk x y t)) (BT.r 42 258 1)) ∧ True) (by kernel_rfl)
  repeat' (first | exact trivial | with_reducible apply And.intro | (with_reducible apply HB.mk) | with_reducible intro _)
  all_goals first
    | (assumption)
    | (with_reducible exact Le.refl _)
    | (with_reducible rfl)
    | ((with_reducible exact C44L _ _ rfl _))
    | ((with_reducible exact C122L _ _ rfl _))
    | (exact LoopOK.re [(6, none)] (I106 l x y t 0) (by kernel_rfl) (wkER_cons (LeR.of (by kernel_rfl)) (wkER_cons (LeR.of (by kernel_rfl)) (wkER_cons (LeR.of (by kernel_rfl)) (wkER_cons (LeR.of (by kernel_rfl)) (wkER_cons (LeR.of (by kernel_rfl)) (wkER_cons (LeR.of (by kernel_rfl)) (wkER_cons (LeR.of (by kernel_rfl)) trivial))))))) (wkHR_cons (j := 0) rfl (BkM.plain (cs := rws l) (b := .r 42 258 0) (by kernel_rfl) (rfl) (plain_rws l) (by kernel_rfl)) (wkHR_cons (j := 1) rfl (BkM.blk (k := ⟨[.o 0 l.length], .t 26⟩) (k'' := ⟨[.o 0 l.length], .t 26⟩) (by kernel_rfl) (by kernel_rfl) rfl) (wkHR_cons (j := 2) rfl (BkM.blk (k := ⟨[li x, li y], .t 40⟩) (k'' := ⟨[li x, li y], .t 40⟩) (by kernel_rfl) (by kernel_rfl) rfl) (wkHR_cons (j := 3) rfl (BkM.plain (cs := tl t) (b := .t 38) (by kernel_rfl) (rfl) (plain_tl t) (by kernel_rfl)) (wkHR_cons (j := 4) rfl (BkM.blk (k := ⟨[.v (.slice none 0 0)], .t 26⟩) (k'' := ⟨[.v (.slice none 0 0)], .t 26⟩) (by kernel_rfl) (by kernel_rfl) rfl) (wkHR_cons (j := 5) rfl (BkM.lsB (xs := [.v (.slice none 0 0)]) (by kernel_rfl) (LsR.cons (LfR.nil (show 6 < 7 by decide) rfl) LsR.nil)) (wkHR_nil rfl trivial))))))) (fun K hT => L106 l x y t (by omega) hb _ 0 rfl (Nat.zero_le _) K hT))
    | (exact Le.of (congrArg (fun l => SV.c (.agg l)) (cln_tl hc)))
    | (exact Le.of (congrArg (fun l => SV.c (.agg l)) (tl_take _)))
    | (exact Le.bool (by rw [zeroT_lsB, hz]))
    | (exact Le.of (congrArg (fun l => SV.c (.agg l)) (build_el _ _ _)))
    | (exact apB (bytes := 272) (by kernel_rfl) (by omega))
    | ((rw [rws_len, take_len l (Nat.le_refl _)]; omega))
    | ((rw [put_el, el_len]; done))
    | (exact BkR.plain (rws_last l ⟨x, y, t⟩) ((plain_rws l).append (plain_el _)) (by kernel_rfl))
    | (exact okw _ (by omega) (by omega))
    | (exact Le.of rfl)
    | (exact BkR.of rfl)
    | (unfold SlOK; omega)
    | (unfold SlOK; decide)
    | (unfold inByte; decide)
    | (simp only [*, Bool.and_self, Bool.not_false, Bool.not_true]; done)
    | (simp_all [wants]; done)
end Ab
end Go.Proofs.YtpdckpifhniioaaGreat
end
section
set_option linter.unusedVariables false
set_option linter.unusedSimpArgs false
namespace Go.Proofs.YtpdckpifhniioaaGreat
open Go.RowKit
namespace Ab
theorem C106g (l : List TA) (x y : Int) (t : Nat → UInt8) (hl : l.length ≤ 1023) (hb : Behind l x y) (hz : zeroT t = false) (hc : sameT (clnT t) t = true) (id n : Nat) (hi : id < n) :
    CallOK Tryz.prog 106 [.c (.agg [.o id l.length]), ag [li x, li y], .c (.agg (tl t))] [(id, ⟨rws l, .r 42 258 id⟩)] n (.c (.agg [.o n (l.length + 1)])) [(n, ⟨rws l ++ el ⟨x, y, t⟩, .r 42 258 n⟩)] 1 := by
  have key := CallOK.at1 (C106 l x y t hl hb hz hc) id n hi
  have e1 := ren_plain (σ := up1 id n) (plain_rws l)
  have e2 := ren_plain (σ := up1 id n) (plain_tl t)
  have e3 := ren_plain (σ := up1 id n) ((plain_rws l).append (plain_el ⟨x, y, t⟩))
  simp only [List.map_cons, List.map_nil, Blk.ren, SV.ren, Cp.ren, Leaf.ren, e1, e2, e3] at key
  exact key
def P106 (S : St) (i : Nat) (x y : Int) (c : List Leaf) (n : Nat) : Blk := match S.blk i with | some k => ⟨k.cs ++ (li x :: li y :: c), .r 42 258 n⟩ | none => ⟨[], .t 0⟩
attribute [local irreducible] tl sameT zeroT rws
theorem good_append {l : List TA} {x y : Int} {t : Nat → UInt8} (hg : Good l) (hl : l.length ≤ 1023) (hb : Behind l x y) (hi : inB x y = true) (hz : zeroT t = false) (hc : sameT (clnT t) t = true) : Good (l ++ [⟨x, y, t⟩]) := by
  have a1 : ∀ k, k < l.length → at' (l ++ [⟨x, y, t⟩]) k = at' l k := fun k hk => by unfold at'; rw [List.getD_eq_getElem?_getD, List.getD_eq_getElem?_getD, List.getElem?_append_left hk]
  have a2 : at' (l ++ [⟨x, y, t⟩]) l.length = ⟨x, y, t⟩ := by unfold at'; simp
  have hlen : (l ++ [(⟨x, y, t⟩ : TA)]).length = l.length + 1 := by simp
  refine ⟨by omega, fun k hk => ?_, fun k hk => ?_, fun k hk => ?_, fun k hk => ?_⟩
  · rcases Nat.lt_or_ge k l.length with h | h
    · rw [a1 k h]; exact hg.inn k h
    · rw [show k = l.length by omega, a2]; exact hi
  · rcases Nat.lt_or_ge k l.length with h | h
    · rw [a1 k h]; exact hg.nz k h
    · rw [show k = l.length by omega, a2]; exact hz
  · rcases Nat.lt_or_ge k l.length with h | h
    · rw [a1 k h]; exact hg.cl k h
    · rw [show k = l.length by omega, a2]; exact hc
  · rcases Nat.lt_or_ge (k + 1) l.length with h | h
    · rw [a1 k (by omega), a1 (k + 1) h]; exact hg.ord k h
    · rw [show k + 1 = l.length by omega, a2, a1 k (by omega)]; exact hb k (by omega)
theorem C105p (l : List TA) (x y : Int) (t : Nat → UInt8) (hl : l.length ≤ 1023) (id n : Nat) (hi : id < n) : CallOK Tryz.prog 105 [.c (.agg [.o id (l.length + 1)])] [(id, ⟨rws l ++ el ⟨x, y, t⟩, .r 42 258 id⟩)] n (.c (.agg [.o id (l.length + 1), li 0])) [] 0 := by
  have key := C105g (l ++ [⟨x, y, t⟩]) (by simp; omega) id n hi
  rw [rws_append, rws_one] at key
  simpa using key
theorem enters45 : Enters Tryz.prog 45 := fun args w => by go_simp
def cz_C45 (l : List TA) (x y : Int) (t : Nat → UInt8) : Cz := {
  ct := (fun f => match f with
  | 99 => some fun _ _S ar => match ar with | [.c (.agg [.o i m])] => some { v := .c (.agg [.o i m]), rd := [i], wr := [], nw := 0 } | _ => none
  | 104 => some fun _ _S ar => match ar with | [.c (.agg [.v (.int _ ax), .v (.int _ ay)])] => some { v := bv (inB ax ay), rd := [], wr := [], nw := 0 } | _ => none
  | 105 => some fun _ _S ar => match ar with | [.c (.agg [.o i m])] => some { v := .c (.agg [.o i m, li 0]), rd := [i], wr := [], nw := 0 } | _ => none
  | 106 => some fun _ _S ar => match ar with | [.c (.agg [.o i m]), .c (.agg [.v (.int _ x), .v (.int _ y)]), .c (.agg c)] => some { v := .c (.agg [.o _S.n (m + 1)]), rd := [i], wr := [(_S.n, P106 _S i x y c _S.n)], nw := 1 } | _ => none
  | _ => none)
  eq := (fun t => match t with
  | _ => none)
  raw := [], sym := [], nf := [(8, bv true), (9, bv false), (14, .c (.agg (tl t)))], ap := true, off := [], on := [], lp := fun _ => none, un := 0, wh := [96] }
set_option maxRecDepth 100000 in
set_option maxHeartbeats 400000 in
theorem C45 (l : List TA) (x y : Int) (t : Nat → UInt8) (hg : Good l) (hl : l.length ≤ 1023) (hb : Behind l x y) (hi : inB x y = true) (hz : zeroT t = false) (hc : sameT (clnT t) t = true) : CallOK Tryz.prog 45 [.c (.agg [.o 0 l.length]), ag [li x, li y], .c (.agg (tl t))] [(0, ⟨rws l, .r 42 258 0⟩)] 1 (.c (.agg [.o 1 (l.length + 1), li 0])) [(1, ⟨rws l ++ el ⟨x, y, t⟩, .r 42 258 1⟩)] 1 := by
  refine call_ok (cx := cz_C45 l x y t) (nm := [5]) rfl Tryz.func45 (body := Tryz.f45.body.getD .skip) rfl enters45 (by unfold inck; simp only [List.all_cons, List.all_nil, blkLt_plain (plain_rws l) (show (BT.rn (rnId 1 0 []) (.r 42 258 0)).isSome = true from rfl), Bool.and_true, Bool.true_and]; kernel_rfl) ?_
  apply of_eq (q := CallOKd Tryz.prog 104 [] [ag [li x, li y]] [] 5 (bv (inB x y)) [] 0 ∧ Le (bv (inB x y)) (bv true) ∧ Le (bv !true) (bv false) ∧ CallOKd Tryz.prog 99 [] [ag [Leaf.o 0 l.length]] [(0, Blk.mk (rws l) (BT.r 42 258 0))] 5 (ag [Leaf.o 0 l.length]) [] 0 ∧ Le (ag (List.take 256 (tl t))) (ag (tl t)) ∧ CallOKd Tryz.prog 106 [] [ag [Leaf.o 0 l.length], ag [li x, li y], ag (tl t)] [(0, Blk.mk (rws l) (BT.r 42 258 0))] 5 (ag [Leaf.o 5 (l.length + 1)]) [(5, Blk.mk (rws l ++ li x :: li y :: tl t) (BT.r 42 258 5))] 1 ∧ CallOKd Tryz.prog 105 [] [ag [Leaf.o 5 (l.length + 1)]] [(5, Blk.mk (rws l ++ li x :: li y :: tl t) (BT.r 42 258 5))] 6 (ag [Leaf.o 5 (l.length + 1), li 0]) [] 0 ∧ 0 = 0 ∧ 2 = 2 ∧ Le (ag [Leaf.o 1 (l.length + 1), li 0]) (ag [Leaf.o 1 (l.length + 1), li 0]) ∧ BkR (rnId 1 0 [5]) (Blk.mk (rws l ++ li x :: li y :: tl t) (BT.r 42 258 5)) (Blk.mk (rws l ++ el (TA.mk x y t)) (BT.r 42 258 1)) ∧ True) (by kernel_rfl)
  repeat' (first | exact trivial | with_reducible apply And.intro | (with_reducible apply HB.mk) | with_reducible intro _)
  all_goals first
    | (assumption)
    | (with_reducible exact Le.refl _)
    | (with_reducible rfl)
    | ((with_reducible exact C99g _ hg _ _ (by omega)))
    | (with_reducible exact C104 _ _ _)
    | ((with_reducible exact C105g _ (by omega) _ _ (by omega)))
    | ((with_reducible exact C106g l x y t hl hb hz hc _ _ (by omega)))
    | (exact Le.bool hi)
    | (exact C106g l x y t hl hb hz hc _ _ (by omega))
    | (exact Le.bool rfl)
    | (exact Le.of (congrArg (fun l => SV.c (.agg l)) (tl_take _)))
    | (exact C105p l x y t hl _ _ (by omega))
    | (exact BkR.plain rfl ((plain_rws l).append (plain_el _)) (by kernel_rfl))
    | (exact okw _ (by omega) (by omega))
    | (exact Le.of rfl)
    | (exact BkR.of rfl)
    | (unfold SlOK; omega)
    | (unfold SlOK; decide)
    | (unfold inByte; decide)
    | (simp only [*, Bool.and_self, Bool.not_false, Bool.not_true]; done)
    | (simp_all [wants]; done)
end Ab
end Go.Proofs.YtpdckpifhniioaaGreat
end
section
set_option linter.unusedVariables false
set_option linter.unusedSimpArgs false
namespace Go.Proofs.YtpdckpifhniioaaGreat
open Go.RowKit
namespace Ab
theorem C45g (l : List TA) (x y : Int) (t : Nat → UInt8) (hg : Good l) (hl : l.length ≤ 1023) (hb : Behind l x y) (hi : inB x y = true) (hz : zeroT t = false) (hc : sameT (clnT t) t = true) (id n : Nat) (hid : id < n) :
    CallOK Tryz.prog 45 [.c (.agg [.o id l.length]), ag [li x, li y], .c (.agg (tl t))] [(id, ⟨rws l, .r 42 258 id⟩)] n (.c (.agg [.o n (l.length + 1), li 0])) [(n, ⟨rws l ++ el ⟨x, y, t⟩, .r 42 258 n⟩)] 1 := by
  have key := CallOK.at1 (C45 l x y t hg hl hb hi hz hc) id n hid
  have e1 := ren_plain (σ := up1 id n) (plain_rws l)
  have e2 := ren_plain (σ := up1 id n) (plain_tl t)
  have e3 := ren_plain (σ := up1 id n) ((plain_rws l).append (plain_el ⟨x, y, t⟩))
  simp only [List.map_cons, List.map_nil, Blk.ren, SV.ren, Cp.ren, Leaf.ren, e1, e2, e3] at key
  exact key
def lsI (l : List Leaf) : List Int := l.map fun x => match x with | .v (.int _ n) => n | _ => 0
def M43 (S : St) (i o y : Nat) : List Leaf := match S.blk i with | some k => tl (mdT (lsI k.cs) o y) | none => []
/-- The tile, and the position, of the k-th round. -/
def tM (s : List Int) (k : Nat) : Nat → UInt8 := bif rst (s.getD k 0) 4 == 0 then mdT s k 1 else mdT s k (s.length - k)
def pX (s : List Int) (k : Nat) : Int := ((k : Nat) : Int) - 2 + 3 * rst (s.getD 0 0) 2
def pY (k : Nat) : Int := ((k : Nat) : Int).tdiv 2
/-- The raster after k rounds. -/
def mdL (s : List Int) : Nat → List TA
  | 0 => []
  | k + 1 => bif zeroT (tM s k) then mdL s k else mdL s k ++ [⟨pX s k, pY k, tM s k⟩]
def mdN (s : List Int) : Nat := min s.length 6
def I11 (p : Nat) (s : List Int) (k : Nat) : St := ⟨[(4, iv .i64 (k : Nat)), (3, .c (.l (.p 2 0))), (2, .c (.l (.p 1 0))), (0, .c (.l (.s 0 p s.length)))], [(0, some ⟨qls p s, .q⟩), (1, some ⟨[.v (.slice none 0 0)], .t 26⟩), (2, some ⟨[.o 3 (mdL s k).length], .t 26⟩), (3, some ⟨rws (mdL s k), .r 42 258 3⟩)], 4, 57, [3, 2, 1], (1)⟩
theorem lsI_qls (p : Nat) (s : List Int) : lsI (qls p s) = List.replicate p 0 ++ s := by
  unfold lsI qls
  rw [List.map_append, List.map_replicate, List.map_map]
  exact congrArg _ (List.map_id s)
theorem mdT_pad (p : Nat) (s : List Int) (o n : Nat) : mdT (List.replicate p 0 ++ s) (p + o) n = mdT s o n := by
  have hx : ∀ i, xM (List.replicate p 0 ++ s) (p + o) n i = xM s o n i := fun i => by
    unfold xM
    rw [Nat.add_assoc, getD_pad]
  have hy : ∀ i, yM (List.replicate p 0 ++ s) (p + o) n i = yM s o n i := fun i => by
    unfold yM
    rw [hx i]
  funext i
  unfold mdT
  rw [hy]
theorem C43L (p : Nat) (cs : List Leaf) (s : List Int) (h : cs = qls p s) (o y : Nat) (h0 : p ≤ o) (hn : 0 < y) (ho : o + y ≤ p + s.length) (hs : s.length ≤ 20000000000000) (id n : Nat) (hi : id < n) : CallOK Tryz.prog 43 [.c (.l (.s id o y))] [(id, ⟨cs, .q⟩)] n (.c (.agg (tl (mdT (lsI cs) o y)))) [] 0 := by
  subst h
  obtain ⟨z, rfl⟩ : ∃ z, o = p + z := ⟨o - p, by omega⟩
  rw [lsI_qls, mdT_pad]; exact C43g p s z y hn (by omega) hs id n hi
theorem qls_ne' (p : Nat) (s : List Int) {i : Nat} (h : p ≤ i) (h2 : i < p + s.length) : (qls p s).getD i .u ≠ .u := by
  obtain ⟨z, rfl⟩ : ∃ z, i = p + z := ⟨i - p, by omega⟩
  exact qls_ne p s (by omega)
theorem tM_t {s : List Int} {k : Nat} (h : (rst (s.getD k 0) 4 == 0) = true) : mdT s k 1 = tM s k := by unfold tM; rw [h]; rfl
theorem tM_f {s : List Int} {k : Nat} (h : (rst (s.getD k 0) 4 == 0) = false) : mdT s k (s.length - k) = tM s k := by unfold tM; rw [h]; rfl
theorem pcb_idem (e x : UInt8) : pcb (pcb e e) (pcb e x) = pcb e x := by
  unfold pcb
  by_cases h : e = 0
  · simp [h]
  · simp [h]
theorem mdT_clean (s : List Int) (o n : Nat) : sameT (clnT (mdT s o n)) (mdT s o n) = true := by
  rw [sameT_iff]
  intro i hi
  unfold clnT mdT
  have e1 : (4 * (i / 4) + 3) / 4 = i / 4 := by omega
  have e2 : (4 * (i / 4) + 3) % 4 = 3 := by omega
  rw [e1, e2]
  unfold pxC
  exact pcb_idem _ _
theorem tM_clean (s : List Int) (k : Nat) : sameT (clnT (tM s k)) (tM s k) = true := by
  unfold tM
  cases rst (s.getD k 0) 4 == 0
  · exact mdT_clean _ _ _
  · exact mdT_clean _ _ _
theorem mdL_mem (s : List Int) : ∀ k, ∀ e ∈ mdL s k, ∃ j, j < k ∧ e.X = pX s j ∧ e.Y = pY j
  | 0, e, h => by cases h
  | k + 1, e, h => by
    unfold mdL at h
    cases hz : zeroT (tM s k) with
    | true =>
      rw [hz] at h
      obtain ⟨j, hj, h1⟩ := mdL_mem s k e h
      exact ⟨j, by omega, h1⟩
    | false =>
      rw [hz] at h
      rcases List.mem_append.1 h with h | h
      · obtain ⟨j, hj, h1⟩ := mdL_mem s k e h
        exact ⟨j, by omega, h1⟩
      · rw [List.mem_singleton] at h
        subst h
        exact ⟨k, Nat.lt_succ_self k, rfl, rfl⟩
theorem at_mem {l : List TA} {k : Nat} (h : k < l.length) : at' l k ∈ l := List.mem_of_getElem? (at_get h)
theorem pY_eq (k : Nat) : pY k = ((k / 2 : Nat) : Int) := by
  unfold pY
  rw [Int.tdiv_eq_ediv_of_nonneg (by omega)]; rfl
theorem mdL_behind (s : List Int) (k : Nat) : Behind (mdL s k) (pX s k) (pY k) := fun i hi => by
  obtain ⟨j, hj, h1, h2⟩ := mdL_mem s k _ (at_mem hi)
  rw [h1, h2, pY_eq, pY_eq]
  unfold pX
  omega
theorem mdL_len (s : List Int) : ∀ k, (mdL s k).length ≤ k
  | 0 => Nat.le_refl _
  | k + 1 => by
    unfold mdL
    have := mdL_len s k
    cases zeroT (tM s k)
    · show (mdL s k ++ _).length ≤ _
      rw [List.length_append]; exact Nat.add_le_add_right this 1
    · exact Nat.le_succ_of_le this
theorem rst2 (x : Int) : 0 ≤ rst x 2 ∧ rst x 2 < 2 := by
  have := rest_bd (x := x) (n := 2) (by decide) (by decide)
  exact ⟨this.1, this.2.1⟩
theorem pX_bd (s : List Int) {k : Nat} (hk : k < 6) : -2 ≤ pX s k ∧ pX s k ≤ 6 := by
  have := rst2 (s.getD 0 0)
  unfold pX
  omega
theorem pos_in (s : List Int) {k : Nat} (hk : k < 6) : inB (pX s k) (pY k) = true := by
  have := pX_bd s hk
  rw [pY_eq]
  exact decide_eq_true (by omega)
theorem mdL_good (s : List Int) : ∀ k, k ≤ 6 → Good (mdL s k)
  | 0, _ => ⟨Nat.zero_le 1024, fun k h => absurd h (Nat.not_lt_zero k), fun k h => absurd h (Nat.not_lt_zero k), fun k h => absurd h (Nat.not_lt_zero k), fun k h => absurd h (Nat.not_lt_zero _)⟩
  | k + 1, hk => by
    unfold mdL
    have hg := mdL_good s k (by omega)
    cases hz : zeroT (tM s k) with
    | true => exact hg
    | false => exact good_append hg (by have := mdL_len s k; omega) (mdL_behind s k) (pos_in s (by omega)) hz (tM_clean s k)
theorem mdL_t {s : List Int} {k : Nat} (h : (!(zeroT (tM s k))) = false) : mdL s (k + 1) = mdL s k := by
  rw [mdL, not_t h]; rfl
theorem mdL_f {s : List Int} {k : Nat} (h : (!(zeroT (tM s k))) = true) : rws (mdL s k) ++ el ⟨pX s k, pY k, tM s k⟩ = rws (mdL s (k + 1)) ∧ (mdL s k).length + 1 = (mdL s (k + 1)).length := by
  rw [mdL, not_f h]
  show _ = rws (mdL s k ++ _) ∧ _ = (mdL s k ++ _).length
  rw [rws_append, rws_one, List.length_append]
  exact ⟨rfl, rfl⟩
attribute [local irreducible] tl sameT zeroT rws mdT tM pX pY mdL
theorem head11 (s : List Int) (k : Nat) : (bif decide (((k : Nat) : Int) < (s.length : Nat)) then decide (((k : Nat) : Int) < 6) else false) = decide (((k : Nat) : Int) < (mdN s : Nat)) := by
  unfold mdN
  by_cases h1 : ((k : Nat) : Int) < (s.length : Nat)
  · rw [decide_eq_true h1]
    show decide _ = _
    exact decide_eq_decide.2 (by omega)
  · rw [decide_eq_false h1]
    exact (decide_eq_false (by omega)).symm
def cz_R11 (p : Nat) (s : List Int) (k : Nat) : Cz := {
  ct := (fun f => match f with
  | 14 => some fun _ _S ar => match ar with | [.c (.l (.v (.int _ x))), .c (.l (.v (.int _ n)))] => some { v := iv .i64 (rst x n), rd := [], wr := [], nw := 0 } | _ => none
  | 43 => some fun _ _S ar => match ar with | [.c (.l (.s i o y))] => some { v := .c (.agg (M43 _S i o y)), rd := [i], wr := [], nw := 0 } | _ => none
  | 44 => some fun _ _S ar => match ar with | [.c (.agg l)] => some { v := bv (zeroT (lsB l)), rd := [], wr := [], nw := 0 } | _ => none
  | 45 => some fun _ _S ar => match ar with | [.c (.agg [.o i m]), .c (.agg [.v (.int _ x), .v (.int _ y)]), .c (.agg c)] => some { v := .c (.agg [.o _S.n (m + 1), li 0]), rd := [i], wr := [(_S.n, P106 _S i x y c _S.n)], nw := 1 } | _ => none
  | _ => none)
  eq := (fun t => match t with
  | _ => none)
  raw := [], sym := [0, 25, 26, 40, 41], nf := [(16, bv (decide (((k : Nat) : Int) < (mdN s : Nat)))), (22, .c (.agg (tl (mdT s k (s.length - k))))), (26, iv .i64 (s.getD k 0)), (34, .c (.agg (tl (mdT s k 1)))), (35, .c (.agg (tl (tM s k)))), (36, bv (zeroT (tM s k))), (41, iv .i64 (s.getD 0 0)), (44, iv .i64 (pX s k)), (46, iv .i64 (pY k)), (52, .c (.agg (tl (tM s k))))], ap := true, off := [], on := [], lp := fun _ => none, un := 0, wh := [26, 38, 40, 96] }
set_option maxRecDepth 100000 in
theorem R11 (p : Nat) (s : List Int) (k : Nat)  (K : Exit → St → Prop) (h : (decide ((Nat.cast k : Int) < (Nat.cast s.length : Int)) = true → decide ((Nat.cast k : Int) < (Nat.cast s.length : Int)) = true ∧ True) ∧ (decide ((Nat.cast k : Int) < (Nat.cast s.length : Int)) = true → decide ((Nat.cast k : Int) < (Nat.cast s.length : Int)) = true) ∧ Le (bv (bif decide ((Nat.cast k : Int) < (Nat.cast s.length : Int)) then decide ((Nat.cast k : Int) < 6) else false)) (bv (decide ((Nat.cast k : Int) < (Nat.cast ((mdN s)) : Int)))) ∧ HB (decide ((Nat.cast k : Int) < (Nat.cast ((mdN s)) : Int))) (SlS (Nat.cast k : Int) (Nat.cast s.length : Int) (Nat.cast s.length : Int) ∧ CallOKd Tryz.prog 43 [] [SV.c (Cp.l (Leaf.s 0 (p + ((Nat.cast k : Int)).toNat * 1) ((Nat.cast s.length : Int) - (Nat.cast k : Int)).toNat))] [(0, Blk.mk (qls p s) BT.q)] 4 (ag (tl (mdT (lsI (qls p s)) (p + ((Nat.cast k : Int)).toNat * 1) ((Nat.cast s.length : Int) - (Nat.cast k : Int)).toNat))) [] 0 ∧ Le (ag (tl (mdT (lsI (qls p s)) (p + ((Nat.cast k : Int)).toNat * 1) ((Nat.cast s.length : Int) - (Nat.cast k : Int)).toNat))) (ag (tl (mdT s k (s.length - k)))) ∧ 256 ≤ 256 ∧ 0 = 0 ∧ 256 = 256 ∧ InR ((Nat.cast k : Int)) s.length ∧ p + ((Nat.cast k : Int)).toNat * 1 < (qls p s).length ∧ (qls p s).getD (p + ((Nat.cast k : Int)).toNat * 1) Leaf.u ≠ Leaf.u ∧ Le (SV.c (Cp.l ((qls p s).getD (p + ((Nat.cast k : Int)).toNat * 1) Leaf.u))) (iv IntKind.i64 (s.getD k 0)) ∧ CallOKd Tryz.prog 14 [] [iv IntKind.i64 (s.getD k 0), iv IntKind.i64 4] [] 5 (iv IntKind.i64 (rst (s.getD k 0) 4)) [] 0 ∧ HB (rst (s.getD k 0) 4 == 0) (IntKind.i64.wrap ((Nat.cast k : Int) + 1) = (Nat.cast k : Int) + 1 ∧ SlS ((Nat.cast k : Int)) ((Nat.cast k : Int) + 1) (Nat.cast s.length : Int) ∧ CallOKd Tryz.prog 43 [] [SV.c (Cp.l (Leaf.s 0 (p + ((Nat.cast k : Int)).toNat * 1) ((Nat.cast k : Int) + 1 - (Nat.cast k : Int)).toNat))] [(0, Blk.mk (qls p s) BT.q)] 5 (ag (tl (mdT (lsI (qls p s)) (p + ((Nat.cast k : Int)).toNat * 1) ((Nat.cast k : Int) + 1 - (Nat.cast k : Int)).toNat))) [] 0 ∧ Le (ag (tl (mdT (lsI (qls p s)) (p + ((Nat.cast k : Int)).toNat * 1) ((Nat.cast k : Int) + 1 - (Nat.cast k : Int)).toNat))) (ag (tl (mdT s k 1))) ∧ 256 ≤ 256 ∧ 0 = 0 ∧ 256 = 256 ∧ Le (ag (List.take 256 (tl (mdT s k 1)))) (ag (tl (tM s k))) ∧ CallOKd Tryz.prog 44 [] [ag (tl (tM s k))] [] 5 (bv (zeroT (lsB (tl (tM s k))))) [] 0 ∧ Le (bv (zeroT (lsB (tl (tM s k))))) (bv (zeroT (tM s k))) ∧ IntKind.i64.wrap ((Nat.cast k : Int) - 2) = (Nat.cast k : Int) - 2 ∧ InR 0 s.length ∧ p + Int.toNat 0 * 1 < (qls p s).length ∧ (qls p s).getD (p + Int.toNat 0 * 1) Leaf.u ≠ Leaf.u ∧ Le (SV.c (Cp.l ((qls p s).getD (p + Int.toNat 0 * 1) Leaf.u))) (iv IntKind.i64 (s.getD 0 0)) ∧ CallOKd Tryz.prog 14 [] [iv IntKind.i64 (s.getD 0 0), iv IntKind.i64 2] [] 5 (iv IntKind.i64 (rst (s.getD 0 0) 2)) [] 0 ∧ IntKind.i64.wrap (3 * rst (s.getD 0 0) 2) = 3 * rst (s.getD 0 0) 2 ∧ IntKind.i64.wrap ((Nat.cast k : Int) - 2 + 3 * rst (s.getD 0 0) 2) = (Nat.cast k : Int) - 2 + 3 * rst (s.getD 0 0) 2 ∧ Le (iv IntKind.i64 ((Nat.cast k : Int) - 2 + 3 * rst (s.getD 0 0) 2)) (iv IntKind.i64 (pX s k)) ∧ (2 : Int) ≠ 0 ∧ IntKind.i64.wrap (((Nat.cast k : Int)).tdiv 2) = ((Nat.cast k : Int)).tdiv 2 ∧ Le (iv IntKind.i64 (((Nat.cast k : Int)).tdiv 2)) (iv IntKind.i64 (pY k)) ∧ 2 ≤ 2 ∧ 0 = 0 ∧ 2 = 2 ∧ HB (!zeroT (tM s k)) (Le (ag (List.take 256 (tl (mdT s k 1)))) (ag (tl (tM s k))) ∧ CallOKd Tryz.prog 45 [] [ag [Leaf.o 3 (mdL s k).length], ag [li (pX s k), li (pY k)], ag (tl (tM s k))] [(3, Blk.mk (rws (mdL s k)) (BT.r 42 258 3))] 6 (ag [Leaf.o 6 ((mdL s k).length + 1), li 0]) [(6, Blk.mk (rws (mdL s k) ++ li (pX s k) :: li (pY k) :: tl (tM s k)) (BT.r 42 258 6))] 1 ∧ 2 ≤ 2 ∧ 0 = 0 ∧ 2 = 2 ∧ 1 ≤ 1 ∧ 0 = 0 ∧ 1 = 1 ∧ IntKind.i64.wrap ((Nat.cast k : Int) + 1) = (Nat.cast k : Int) + 1 ∧ RoundTo Tryz.prog ((getLoop 3 (Tryz.f11.body.getD Code.skip)).getD Code.skip) 4 (wkK 4 K) (St.mk [(4, iv IntKind.i64 ((Nat.cast k : Int) + 1)), (18, iv IntKind.i64 ((Nat.cast k : Int) + 1)), (17, iv IntKind.i64 (Nat.cast k : Int)), (55, ag [Leaf.o 6 ((mdL s k).length + 1)]), (54, SV.c (Cp.l (Leaf.p 7 0))), (8, SV.c (Cp.l (Leaf.p 7 0))), (53, ag [Leaf.o 6 ((mdL s k).length + 1), li 0]), (52, ag (tl (tM s k))), (51, ag [li (pX s k), li (pY k)]), (50, ag [Leaf.o 3 (mdL s k).length]), (49, bv !zeroT (tM s k)), (48, bv (zeroT (tM s k))), (7, SV.c (Cp.l (Leaf.p 5 0))), (47, ag [li (pX s k), li (pY k)]), (46, iv IntKind.i64 (pY k)), (45, iv IntKind.i64 (Nat.cast k : Int)), (44, iv IntKind.i64 (pX s k)), (43, iv IntKind.i64 (3 * rst (s.getD 0 0) 2)), (42, iv IntKind.i64 (rst (s.getD 0 0) 2)), (41, iv IntKind.i64 (s.getD 0 0)), (40, SV.c (Cp.l (Leaf.p 0 (p + Int.toNat 0 * 1)))), (39, SV.c (Cp.l (Leaf.s 0 p s.length))), (38, iv IntKind.i64 ((Nat.cast k : Int) - 2)), (37, iv IntKind.i64 (Nat.cast k : Int)), (6, bv (zeroT (tM s k))), (36, bv (zeroT (tM s k))), (35, ag (tl (tM s k))), (34, ag (tl (mdT s k 1))), (33, SV.c (Cp.l (Leaf.s 0 (p + ((Nat.cast k : Int)).toNat * 1) ((Nat.cast k : Int) + 1 - (Nat.cast k : Int)).toNat))), (32, iv IntKind.i64 ((Nat.cast k : Int) + 1)), (31, iv IntKind.i64 (Nat.cast k : Int)), (30, iv IntKind.i64 (Nat.cast k : Int)), (29, SV.c (Cp.l (Leaf.s 0 p s.length))), (28, bv (rst (s.getD k 0) 4 == 0)), (27, iv IntKind.i64 (rst (s.getD k 0) 4)), (26, iv IntKind.i64 (s.getD k 0)), (25, SV.c (Cp.l (Leaf.p 0 (p + ((Nat.cast k : Int)).toNat * 1)))), (24, iv IntKind.i64 (Nat.cast k : Int)), (23, SV.c (Cp.l (Leaf.s 0 p s.length))), (5, SV.c (Cp.l (Leaf.p 4 0))), (22, ag (tl (mdT s k (s.length - k)))), (21, SV.c (Cp.l (Leaf.s 0 (p + ((Nat.cast k : Int)).toNat * 1) ((Nat.cast s.length : Int) - (Nat.cast k : Int)).toNat))), (20, iv IntKind.i64 (Nat.cast k : Int)), (19, SV.c (Cp.l (Leaf.s 0 p s.length))), (16, bv (decide ((Nat.cast k : Int) < (Nat.cast ((mdN s)) : Int)))), (15, SV.g (decide ((Nat.cast k : Int) < (Nat.cast s.length : Int))) (Cp.l (lb (decide ((Nat.cast k : Int) < 6))))), (14, SV.g (decide ((Nat.cast k : Int) < (Nat.cast s.length : Int))) (Cp.l (li (Nat.cast k : Int)))), (13, bv (decide ((Nat.cast k : Int) < (Nat.cast s.length : Int)))), (12, bv (decide ((Nat.cast k : Int) < (Nat.cast s.length : Int)))), (11, iv IntKind.i64 (Nat.cast s.length : Int)), (10, SV.c (Cp.l (Leaf.s 0 p s.length))), (9, iv IntKind.i64 (Nat.cast k : Int)), (4, iv IntKind.i64 (Nat.cast k : Int)), (3, SV.c (Cp.l (Leaf.p 2 0))), (2, SV.c (Cp.l (Leaf.p 1 0))), (0, SV.c (Cp.l (Leaf.s 0 p s.length)))] [(2, some (Blk.mk [Leaf.o 6 ((mdL s k).length + 1)] (BT.t 26))), (7, some (Blk.mk [Leaf.o 6 ((mdL s k).length + 1), li 0] (BT.t 96))), (7, some (Blk.mk [Leaf.v (Value.slice none 0 0), li 0] (BT.t 96))), (6, some (Blk.mk (rws (mdL s k) ++ li (pX s k) :: li (pY k) :: tl (tM s k)) (BT.r 42 258 6))), (5, some (Blk.mk [li (pX s k), li (pY k)] (BT.t 40))), (5, some (Blk.mk [li 0, li 0] (BT.t 40))), (4, some (Blk.mk (tl (mdT s k 1)) (BT.t 38))), (4, some (Blk.mk (tl (mdT s k (s.length - k))) (BT.t 38))), (4, some (Blk.mk zT256 (BT.t 38))), (0, some (Blk.mk (qls p s) BT.q)), (1, some (Blk.mk [Leaf.v (Value.slice none 0 0)] (BT.t 26))), (2, some (Blk.mk [Leaf.o 3 (mdL s k).length] (BT.t 26))), (3, some (Blk.mk (rws (mdL s k)) (BT.r 42 258 3)))] 8 57 [2, 7, 7, 6, 5, 5, 4, 4, 4, 3, 2, 1] 1)) (IntKind.i64.wrap ((Nat.cast k : Int) + 1) = (Nat.cast k : Int) + 1 ∧ RoundTo Tryz.prog ((getLoop 3 (Tryz.f11.body.getD Code.skip)).getD Code.skip) 4 (wkK 4 K) (St.mk [(4, iv IntKind.i64 ((Nat.cast k : Int) + 1)), (18, iv IntKind.i64 ((Nat.cast k : Int) + 1)), (17, iv IntKind.i64 (Nat.cast k : Int)), (49, bv !zeroT (tM s k)), (48, bv (zeroT (tM s k))), (7, SV.c (Cp.l (Leaf.p 5 0))), (47, ag [li (pX s k), li (pY k)]), (46, iv IntKind.i64 (pY k)), (45, iv IntKind.i64 (Nat.cast k : Int)), (44, iv IntKind.i64 (pX s k)), (43, iv IntKind.i64 (3 * rst (s.getD 0 0) 2)), (42, iv IntKind.i64 (rst (s.getD 0 0) 2)), (41, iv IntKind.i64 (s.getD 0 0)), (40, SV.c (Cp.l (Leaf.p 0 (p + Int.toNat 0 * 1)))), (39, SV.c (Cp.l (Leaf.s 0 p s.length))), (38, iv IntKind.i64 ((Nat.cast k : Int) - 2)), (37, iv IntKind.i64 (Nat.cast k : Int)), (6, bv (zeroT (tM s k))), (36, bv (zeroT (tM s k))), (35, ag (tl (tM s k))), (34, ag (tl (mdT s k 1))), (33, SV.c (Cp.l (Leaf.s 0 (p + ((Nat.cast k : Int)).toNat * 1) ((Nat.cast k : Int) + 1 - (Nat.cast k : Int)).toNat))), (32, iv IntKind.i64 ((Nat.cast k : Int) + 1)), (31, iv IntKind.i64 (Nat.cast k : Int)), (30, iv IntKind.i64 (Nat.cast k : Int)), (29, SV.c (Cp.l (Leaf.s 0 p s.length))), (28, bv (rst (s.getD k 0) 4 == 0)), (27, iv IntKind.i64 (rst (s.getD k 0) 4)), (26, iv IntKind.i64 (s.getD k 0)), (25, SV.c (Cp.l (Leaf.p 0 (p + ((Nat.cast k : Int)).toNat * 1)))), (24, iv IntKind.i64 (Nat.cast k : Int)), (23, SV.c (Cp.l (Leaf.s 0 p s.length))), (5, SV.c (Cp.l (Leaf.p 4 0))), (22, ag (tl (mdT s k (s.length - k)))), (21, SV.c (Cp.l (Leaf.s 0 (p + ((Nat.cast k : Int)).toNat * 1) ((Nat.cast s.length : Int) - (Nat.cast k : Int)).toNat))), (20, iv IntKind.i64 (Nat.cast k : Int)), (19, SV.c (Cp.l (Leaf.s 0 p s.length))), (16, bv (decide ((Nat.cast k : Int) < (Nat.cast ((mdN s)) : Int)))), (15, SV.g (decide ((Nat.cast k : Int) < (Nat.cast s.length : Int))) (Cp.l (lb (decide ((Nat.cast k : Int) < 6))))), (14, SV.g (decide ((Nat.cast k : Int) < (Nat.cast s.length : Int))) (Cp.l (li (Nat.cast k : Int)))), (13, bv (decide ((Nat.cast k : Int) < (Nat.cast s.length : Int)))), (12, bv (decide ((Nat.cast k : Int) < (Nat.cast s.length : Int)))), (11, iv IntKind.i64 (Nat.cast s.length : Int)), (10, SV.c (Cp.l (Leaf.s 0 p s.length))), (9, iv IntKind.i64 (Nat.cast k : Int)), (4, iv IntKind.i64 (Nat.cast k : Int)), (3, SV.c (Cp.l (Leaf.p 2 0))), (2, SV.c (Cp.l (Leaf.p 1 0))), (0, SV.c (Cp.l (Leaf.s 0 p s.length)))] [(5, some (Blk.mk [li (pX s k), li (pY k)] (BT.t 40))), (5, some (Blk.mk [li 0, li 0] (BT.t 40))), (4, some (Blk.mk (tl (mdT s k 1)) (BT.t 38))), (4, some (Blk.mk (tl (mdT s k (s.length - k))) (BT.t 38))), (4, some (Blk.mk zT256 (BT.t 38))), (0, some (Blk.mk (qls p s) BT.q)), (1, some (Blk.mk [Leaf.v (Value.slice none 0 0)] (BT.t 26))), (2, some (Blk.mk [Leaf.o 3 (mdL s k).length] (BT.t 26))), (3, some (Blk.mk (rws (mdL s k)) (BT.r 42 258 3)))] 6 57 [5, 5, 4, 4, 4, 3, 2, 1] 1))) (Le (ag (List.take 256 (tl (mdT s k (s.length - k))))) (ag (tl (tM s k))) ∧ CallOKd Tryz.prog 44 [] [ag (tl (tM s k))] [] 5 (bv (zeroT (lsB (tl (tM s k))))) [] 0 ∧ Le (bv (zeroT (lsB (tl (tM s k))))) (bv (zeroT (tM s k))) ∧ IntKind.i64.wrap ((Nat.cast k : Int) - 2) = (Nat.cast k : Int) - 2 ∧ InR 0 s.length ∧ p + Int.toNat 0 * 1 < (qls p s).length ∧ (qls p s).getD (p + Int.toNat 0 * 1) Leaf.u ≠ Leaf.u ∧ Le (SV.c (Cp.l ((qls p s).getD (p + Int.toNat 0 * 1) Leaf.u))) (iv IntKind.i64 (s.getD 0 0)) ∧ CallOKd Tryz.prog 14 [] [iv IntKind.i64 (s.getD 0 0), iv IntKind.i64 2] [] 5 (iv IntKind.i64 (rst (s.getD 0 0) 2)) [] 0 ∧ IntKind.i64.wrap (3 * rst (s.getD 0 0) 2) = 3 * rst (s.getD 0 0) 2 ∧ IntKind.i64.wrap ((Nat.cast k : Int) - 2 + 3 * rst (s.getD 0 0) 2) = (Nat.cast k : Int) - 2 + 3 * rst (s.getD 0 0) 2 ∧ Le (iv IntKind.i64 ((Nat.cast k : Int) - 2 + 3 * rst (s.getD 0 0) 2)) (iv IntKind.i64 (pX s k)) ∧ (2 : Int) ≠ 0 ∧ IntKind.i64.wrap (((Nat.cast k : Int)).tdiv 2) = ((Nat.cast k : Int)).tdiv 2 ∧ Le (iv IntKind.i64 (((Nat.cast k : Int)).tdiv 2)) (iv IntKind.i64 (pY k)) ∧ 2 ≤ 2 ∧ 0 = 0 ∧ 2 = 2 ∧ HB (!zeroT (tM s k)) (Le (ag (List.take 256 (tl (mdT s k (s.length - k))))) (ag (tl (tM s k))) ∧ CallOKd Tryz.prog 45 [] [ag [Leaf.o 3 (mdL s k).length], ag [li (pX s k), li (pY k)], ag (tl (tM s k))] [(3, Blk.mk (rws (mdL s k)) (BT.r 42 258 3))] 6 (ag [Leaf.o 6 ((mdL s k).length + 1), li 0]) [(6, Blk.mk (rws (mdL s k) ++ li (pX s k) :: li (pY k) :: tl (tM s k)) (BT.r 42 258 6))] 1 ∧ 2 ≤ 2 ∧ 0 = 0 ∧ 2 = 2 ∧ 1 ≤ 1 ∧ 0 = 0 ∧ 1 = 1 ∧ IntKind.i64.wrap ((Nat.cast k : Int) + 1) = (Nat.cast k : Int) + 1 ∧ RoundTo Tryz.prog ((getLoop 3 (Tryz.f11.body.getD Code.skip)).getD Code.skip) 4 (wkK 4 K) (St.mk [(4, iv IntKind.i64 ((Nat.cast k : Int) + 1)), (18, iv IntKind.i64 ((Nat.cast k : Int) + 1)), (17, iv IntKind.i64 (Nat.cast k : Int)), (55, ag [Leaf.o 6 ((mdL s k).length + 1)]), (54, SV.c (Cp.l (Leaf.p 7 0))), (8, SV.c (Cp.l (Leaf.p 7 0))), (53, ag [Leaf.o 6 ((mdL s k).length + 1), li 0]), (52, ag (tl (tM s k))), (51, ag [li (pX s k), li (pY k)]), (50, ag [Leaf.o 3 (mdL s k).length]), (49, bv !zeroT (tM s k)), (48, bv (zeroT (tM s k))), (7, SV.c (Cp.l (Leaf.p 5 0))), (47, ag [li (pX s k), li (pY k)]), (46, iv IntKind.i64 (pY k)), (45, iv IntKind.i64 (Nat.cast k : Int)), (44, iv IntKind.i64 (pX s k)), (43, iv IntKind.i64 (3 * rst (s.getD 0 0) 2)), (42, iv IntKind.i64 (rst (s.getD 0 0) 2)), (41, iv IntKind.i64 (s.getD 0 0)), (40, SV.c (Cp.l (Leaf.p 0 (p + Int.toNat 0 * 1)))), (39, SV.c (Cp.l (Leaf.s 0 p s.length))), (38, iv IntKind.i64 ((Nat.cast k : Int) - 2)), (37, iv IntKind.i64 (Nat.cast k : Int)), (6, bv (zeroT (tM s k))), (36, bv (zeroT (tM s k))), (35, ag (tl (tM s k))), (28, bv (rst (s.getD k 0) 4 == 0)), (27, iv IntKind.i64 (rst (s.getD k 0) 4)), (26, iv IntKind.i64 (s.getD k 0)), (25, SV.c (Cp.l (Leaf.p 0 (p + ((Nat.cast k : Int)).toNat * 1)))), (24, iv IntKind.i64 (Nat.cast k : Int)), (23, SV.c (Cp.l (Leaf.s 0 p s.length))), (5, SV.c (Cp.l (Leaf.p 4 0))), (22, ag (tl (mdT s k (s.length - k)))), (21, SV.c (Cp.l (Leaf.s 0 (p + ((Nat.cast k : Int)).toNat * 1) ((Nat.cast s.length : Int) - (Nat.cast k : Int)).toNat))), (20, iv IntKind.i64 (Nat.cast k : Int)), (19, SV.c (Cp.l (Leaf.s 0 p s.length))), (16, bv (decide ((Nat.cast k : Int) < (Nat.cast ((mdN s)) : Int)))), (15, SV.g (decide ((Nat.cast k : Int) < (Nat.cast s.length : Int))) (Cp.l (lb (decide ((Nat.cast k : Int) < 6))))), (14, SV.g (decide ((Nat.cast k : Int) < (Nat.cast s.length : Int))) (Cp.l (li (Nat.cast k : Int)))), (13, bv (decide ((Nat.cast k : Int) < (Nat.cast s.length : Int)))), (12, bv (decide ((Nat.cast k : Int) < (Nat.cast s.length : Int)))), (11, iv IntKind.i64 (Nat.cast s.length : Int)), (10, SV.c (Cp.l (Leaf.s 0 p s.length))), (9, iv IntKind.i64 (Nat.cast k : Int)), (4, iv IntKind.i64 (Nat.cast k : Int)), (3, SV.c (Cp.l (Leaf.p 2 0))), (2, SV.c (Cp.l (Leaf.p 1 0))), (0, SV.c (Cp.l (Leaf.s 0 p s.length)))] [(2, some (Blk.mk [Leaf.o 6 ((mdL s k).length + 1)] (BT.t 26))), (7, some (Blk.mk [Leaf.o 6 ((mdL s k).length + 1), li 0] (BT.t 96))), (7, some (Blk.mk [Leaf.v (Value.slice none 0 0), li 0] (BT.t 96))), (6, some (Blk.mk (rws (mdL s k) ++ li (pX s k) :: li (pY k) :: tl (tM s k)) (BT.r 42 258 6))), (5, some (Blk.mk [li (pX s k), li (pY k)] (BT.t 40))), (5, some (Blk.mk [li 0, li 0] (BT.t 40))), (4, some (Blk.mk (tl (mdT s k (s.length - k))) (BT.t 38))), (4, some (Blk.mk zT256 (BT.t 38))), (0, some (Blk.mk (qls p s) BT.q)), (1, some (Blk.mk [Leaf.v (Value.slice none 0 0)] (BT.t 26))), (2, some (Blk.mk [Leaf.o 3 (mdL s k).length] (BT.t 26))), (3, some (Blk.mk (rws (mdL s k)) (BT.r 42 258 3)))] 8 57 [2, 7, 7, 6, 5, 5, 4, 4, 3, 2, 1] 1)) (IntKind.i64.wrap ((Nat.cast k : Int) + 1) = (Nat.cast k : Int) + 1 ∧ RoundTo Tryz.prog ((getLoop 3 (Tryz.f11.body.getD Code.skip)).getD Code.skip) 4 (wkK 4 K) (St.mk [(4, iv IntKind.i64 ((Nat.cast k : Int) + 1)), (18, iv IntKind.i64 ((Nat.cast k : Int) + 1)), (17, iv IntKind.i64 (Nat.cast k : Int)), (49, bv !zeroT (tM s k)), (48, bv (zeroT (tM s k))), (7, SV.c (Cp.l (Leaf.p 5 0))), (47, ag [li (pX s k), li (pY k)]), (46, iv IntKind.i64 (pY k)), (45, iv IntKind.i64 (Nat.cast k : Int)), (44, iv IntKind.i64 (pX s k)), (43, iv IntKind.i64 (3 * rst (s.getD 0 0) 2)), (42, iv IntKind.i64 (rst (s.getD 0 0) 2)), (41, iv IntKind.i64 (s.getD 0 0)), (40, SV.c (Cp.l (Leaf.p 0 (p + Int.toNat 0 * 1)))), (39, SV.c (Cp.l (Leaf.s 0 p s.length))), (38, iv IntKind.i64 ((Nat.cast k : Int) - 2)), (37, iv IntKind.i64 (Nat.cast k : Int)), (6, bv (zeroT (tM s k))), (36, bv (zeroT (tM s k))), (35, ag (tl (tM s k))), (28, bv (rst (s.getD k 0) 4 == 0)), (27, iv IntKind.i64 (rst (s.getD k 0) 4)), (26, iv IntKind.i64 (s.getD k 0)), (25, SV.c (Cp.l (Leaf.p 0 (p + ((Nat.cast k : Int)).toNat * 1)))), (24, iv IntKind.i64 (Nat.cast k : Int)), (23, SV.c (Cp.l (Leaf.s 0 p s.length))), (5, SV.c (Cp.l (Leaf.p 4 0))), (22, ag (tl (mdT s k (s.length - k)))), (21, SV.c (Cp.l (Leaf.s 0 (p + ((Nat.cast k : Int)).toNat * 1) ((Nat.cast s.length : Int) - (Nat.cast k : Int)).toNat))), (20, iv IntKind.i64 (Nat.cast k : Int)), (19, SV.c (Cp.l (Leaf.s 0 p s.length))), (16, bv (decide ((Nat.cast k : Int) < (Nat.cast ((mdN s)) : Int)))), (15, SV.g (decide ((Nat.cast k : Int) < (Nat.cast s.length : Int))) (Cp.l (lb (decide ((Nat.cast k : Int) < 6))))), (14, SV.g (decide ((Nat.cast k : Int) < (Nat.cast s.length : Int))) (Cp.l (li (Nat.cast k : Int)))), (13, bv (decide ((Nat.cast k : Int) < (Nat.cast s.length : Int)))), (12, bv (decide ((Nat.cast k : Int) < (Nat.cast s.length : Int)))), (11, iv IntKind.i64 (Nat.cast s.length : Int)), (10, SV.c (Cp.l (Leaf.s 0 p s.length))), (9, iv IntKind.i64 (Nat.cast k : Int)), (4, iv IntKind.i64 (Nat.cast k : Int)), (3, SV.c (Cp.l (Leaf.p 2 0))), (2, SV.c (Cp.l (Leaf.p 1 0))), (0, SV.c (Cp.l (Leaf.s 0 p s.length)))] [(5, some (Blk.mk [li (pX s k), li (pY k)] (BT.t 40))), (5, some (Blk.mk [li 0, li 0] (BT.t 40))), (4, some (Blk.mk (tl (mdT s k (s.length - k))) (BT.t 38))), (4, some (Blk.mk zT256 (BT.t 38))), (0, some (Blk.mk (qls p s) BT.q)), (1, some (Blk.mk [Leaf.v (Value.slice none 0 0)] (BT.t 26))), (2, some (Blk.mk [Leaf.o 3 (mdL s k).length] (BT.t 26))), (3, some (Blk.mk (rws (mdL s k)) (BT.r 42 258 3)))] 6 57 [5, 5, 4, 4, 3, 2, 1] 1)))) (wkK 4 K (Exit.exit 0) (St.mk [(16, bv (decide ((Nat.cast k : Int) < (Nat.cast ((mdN s)) : Int)))), (15, SV.g (decide ((Nat.cast k : Int) < (Nat.cast s.length : Int))) (Cp.l (lb (decide ((Nat.cast k : Int) < 6))))), (14, SV.g (decide ((Nat.cast k : Int) < (Nat.cast s.length : Int))) (Cp.l (li (Nat.cast k : Int)))), (13, bv (decide ((Nat.cast k : Int) < (Nat.cast s.length : Int)))), (12, bv (decide ((Nat.cast k : Int) < (Nat.cast s.length : Int)))), (11, iv IntKind.i64 (Nat.cast s.length : Int)), (10, SV.c (Cp.l (Leaf.s 0 p s.length))), (9, iv IntKind.i64 (Nat.cast k : Int)), (4, iv IntKind.i64 (Nat.cast k : Int)), (3, SV.c (Cp.l (Leaf.p 2 0))), (2, SV.c (Cp.l (Leaf.p 1 0))), (0, SV.c (Cp.l (Leaf.s 0 p s.length)))] [(0, some (Blk.mk (qls p s) BT.q)), (1, some (Blk.mk [Leaf.v (Value.slice none 0 0)] (BT.t 26))), (2, some (Blk.mk [Leaf.o 3 (mdL s k).length] (BT.t 26))), (3, some (Blk.mk (rws (mdL s k)) (BT.r 42 258 3)))] 4 57 [3, 2, 1] 1))) : WPL Tryz.prog ((getLoop 3 (Tryz.f11.body.getD .skip)).getD .skip) (I11 p s k) (wkK 4 K) :=
  wp_round (cx := cz_R11 p s k) rfl (of_eq (by kernel_rfl) h)
set_option maxRecDepth 100000 in
set_option maxHeartbeats 4000000 in
theorem L11 (p : Nat) (s : List Int) (hs : s.length ≤ 20000000000000) : ∀ (m k : Nat), (mdN s) - k = m → k ≤ (mdN s) → ∀ (K : Exit → St → Prop), K (.exit 0) (I11 p s (mdN s)) → WPL Tryz.prog ((getLoop 3 (Tryz.f11.body.getD .skip)).getD .skip) (I11 p s k) (wkK 4 K)
  | 0, k, hm, hk, K, hK => by
    have e : k = (mdN s) := by omega
    subst e
    refine R11 p s _ K ⟨fun h => ⟨h, trivial⟩, ⟨fun h => h, ⟨Le.bool (head11 s _), (HB.mk (fun hne => absurd (of_decide_eq_true hne) (by omega)) (fun he => ?_))⟩⟩⟩
    exact wkK.to (I11 p s _) (Nat.le_refl _) (by kernel_rfl) (wkE_cons (LeN.sl (by kernel_rfl) rfl) (wkE_cons (LeN.sl (by kernel_rfl) rfl) (wkE_cons (LeN.sl (by kernel_rfl) rfl) (wkE_cons (LeN.sl (by kernel_rfl) rfl) trivial)))) (wkH_cons (BkN.fix (cs := qls p s) (b := .q) (by kernel_rfl) (rfl) (fix_qls p s) (by kernel_rfl)) (wkH_cons (BkN.blk (k := ⟨[.v (.slice none 0 0)], .t 26⟩) (by kernel_rfl) (rfl) (by kernel_rfl)) (wkH_cons (BkN.blk (k := ⟨[.o 3 (mdL s (mdN s)).length], .t 26⟩) (by kernel_rfl) (rfl) (by kernel_rfl)) (wkH_cons (BkN.plain (cs := rws (mdL s (mdN s))) (b := .r 42 258 3) (by kernel_rfl) (rfl) (plain_rws _) (by kernel_rfl)) trivial)))) hK
  | m + 1, k, hm, hk, K, hK => by
    refine R11 p s k K ⟨fun h => ⟨h, trivial⟩, ⟨fun h => h, ⟨Le.bool (head11 s _), (HB.mk (fun hne => ?_) (fun he => absurd (show ((k : Nat) : Int) < ((mdN s) : Nat) by omega) (of_decide_eq_false he)))⟩⟩⟩
    have hlt : k < (mdN s) := by omega
    have hk1 : k < s.length := Nat.lt_of_lt_of_le hlt (Nat.min_le_left _ _)
    have hk6 : k < 6 := Nat.lt_of_lt_of_le hlt (Nat.min_le_right _ _)
    have hY : ((k : Nat) : Int).tdiv 2 = ((k / 2 : Nat) : Int) := by rw [← pY_eq]; unfold pY; rfl
    repeat' (first | exact trivial | with_reducible apply And.intro | (with_reducible apply HB.mk) | with_reducible intro _)
    all_goals first
      | (assumption)
      | (with_reducible exact Le.refl _)
      | (with_reducible rfl)
      | (((with_reducible refine C14 _ _ ?_ ?_ _) <;> omega))
      | (((with_reducible refine C43L p _ s rfl _ _ ?_ ?_ ?_ ?_ _ _ ?_) <;> omega))
      | ((with_reducible exact C44L _ _ rfl _))
      | ((with_reducible exact C45g _ _ _ _ hg hl hb hi hz hc _ _ (by omega)))
      | ((unfold SlS; omega))
      | ((exact ⟨by omega, by omega⟩))
      | (((refine C43L p _ s rfl _ _ ?_ ?_ ?_ ?_ _ _ ?_) <;> omega))
      | (exact Le.of (by rw [lsI_qls, show p + ((k : Nat) : Int).toNat * 1 = p + k by omega, mdT_pad, show (((s.length : Nat) : Int) - ((k : Nat) : Int)).toNat = s.length - k by omega]))
      | (exact Le.of (by rw [lsI_qls, show p + ((k : Nat) : Int).toNat * 1 = p + k by omega, mdT_pad, show (((k : Nat) : Int) + 1 - ((k : Nat) : Int)).toNat = 1 by omega]))
      | ((rw [qls_len]; omega))
      | ((refine qls_ne' p s ?_ ?_ <;> omega))
      | (exact Le.of (congrArg (fun l => SV.c (.l l)) (by rw [show p + ((k : Nat) : Int).toNat * 1 = p + k by omega]; exact qls_at p s hk1)))
      | (exact Le.of (congrArg (fun l => SV.c (.l l)) (qls_at p s (i := 0) (by omega))))
      | (exact Le.of (congrArg (fun l => SV.c (.agg l)) ((tl_take _).trans (by rw [tM_t (by with_reducible assumption)]))))
      | (exact Le.of (congrArg (fun l => SV.c (.agg l)) ((tl_take _).trans (by rw [tM_f (by with_reducible assumption)]))))
      | (exact Le.bool (by rw [zeroT_lsB]))
      | ((have := rst2 (s.getD 0 0); exact okw _ (by omega) (by omega)))
      | ((rw [hY]; exact okw _ (by omega) (by omega)))
      | (exact Le.int (by unfold pX; rfl))
      | (exact Le.int (by unfold pY; rfl))
      | (exact C45g _ _ _ _ (mdL_good s k (by omega)) (by have := mdL_len s k; omega) (mdL_behind s k) (pos_in s hk6) (not_f (by with_reducible assumption)) (tM_clean s k) _ _ (by omega))
      | (omega)
      | (have hcnd : (!zeroT (tM s k)) = false := (by with_reducible assumption); (with_reducible refine RoundTo.toN 6 (I11 p s (k + 1)) ?_ ?_ ?_ ?_ ?_); exact Nat.le_refl _; kernel_rfl; exact (wkE_cons (LeN.sl (by kernel_rfl) rfl) (wkE_cons (LeN.sl (by kernel_rfl) rfl) (wkE_cons (LeN.sl (by kernel_rfl) rfl) (wkE_cons (LeN.sl (by kernel_rfl) rfl) trivial)))); exact (wkH_cons (BkN.fix (cs := qls p s) (b := .q) (by kernel_rfl) (rfl) (fix_qls p s) (by kernel_rfl)) (wkH_cons (BkN.blk (k := ⟨[.v (.slice none 0 0)], .t 26⟩) (by kernel_rfl) (rfl) (by kernel_rfl)) (wkH_cons (BkN.blk (k := ⟨[.o 3 (mdL s k).length], .t 26⟩) (by kernel_rfl) (by rw [mdL_t hcnd]) (by kernel_rfl)) (wkH_cons (BkN.plain (cs := rws (mdL s k)) (b := .r 42 258 3) (by kernel_rfl) (by rw [mdL_t hcnd]) (plain_rws _) (by kernel_rfl)) trivial)))); exact (L11 p s hs m (k + 1) (by omega) (by omega) K hK))
      | (have hcnd : (!zeroT (tM s k)) = true := (by with_reducible assumption); (with_reducible refine RoundTo.reN 8 [(3, some 6)] (I11 p s (k + 1)) ?_ ?_ ?_ ?_); kernel_rfl; exact (wkER_cons (LeR.of (by kernel_rfl)) (wkER_cons (LeR.of (by kernel_rfl)) (wkER_cons (LeR.of (by kernel_rfl)) (wkER_cons (LeR.of (by kernel_rfl)) trivial)))); exact (wkHR_cons (j := 0) rfl (BkM.fix (cs := qls p s) (b := .q) (by kernel_rfl) (rfl) (fix_qls p s) (by kernel_rfl)) (wkHR_cons (j := 1) rfl (BkM.blk (k := ⟨[.v (.slice none 0 0)], .t 26⟩) (k'' := ⟨[.v (.slice none 0 0)], .t 26⟩) (by kernel_rfl) (by kernel_rfl) rfl) (wkHR_cons (j := 2) rfl (BkM.blk (k := ⟨[.o 6 ((mdL s k).length + 1)], .t 26⟩) (k'' := ⟨[.o 3 ((mdL s k).length + 1)], .t 26⟩) (by kernel_rfl) (by kernel_rfl) (by rw [(mdL_f hcnd).2])) (wkHR_cons (j := 6) rfl (BkM.plain (cs := rws (mdL s k) ++ el ⟨pX s k, pY k, tM s k⟩) (b := .r 42 258 6) (by kernel_rfl) ((mdL_f hcnd).1) (plain_rws _) (by kernel_rfl)) trivial)))); exact (L11 p s hs m (k + 1) (by omega) (by omega) K hK))
      | (exact okw _ (by omega) (by omega))
      | (exact Le.of rfl)
      | (exact BkR.of rfl)
      | (unfold SlOK; omega)
      | (unfold SlOK; decide)
      | (unfold inByte; decide)
      | (simp only [*, Bool.and_self, Bool.not_false, Bool.not_true]; done)
      | (simp_all [wants]; done)
end Ab
end Go.Proofs.YtpdckpifhniioaaGreat
end
section
set_option linter.unusedVariables false
set_option linter.unusedSimpArgs false
namespace Go.Proofs.YtpdckpifhniioaaGreat
open Go.RowKit
namespace Ab
attribute [local irreducible] tl sameT zeroT rws mdT tM pX pY mdL
theorem enters11 : Enters Tryz.prog 11 := fun args w => by go_simp
def cz_C11 (p : Nat) (s : List Int) : Cz := {
  ct := (fun f => match f with
  | 14 => some fun _ _S ar => match ar with | [.c (.l (.v (.int _ x))), .c (.l (.v (.int _ n)))] => some { v := iv .i64 (rst x n), rd := [], wr := [], nw := 0 } | _ => none
  | 44 => some fun _ _S ar => match ar with | [.c (.agg l)] => some { v := bv (zeroT (lsB l)), rd := [], wr := [], nw := 0 } | _ => none
  | _ => none)
  eq := (fun t => match t with
  | _ => none)
  raw := [], sym := [], nf := [], ap := true, off := [], on := [], lp := fun r => match r with | 3 => some (fun _ K => K (.exit 0) (I11 p s (mdN s))) | _ => none, un := 0, wh := [26, 38, 40, 96] }
set_option maxRecDepth 100000 in
set_option maxHeartbeats 400000 in
theorem C11 (p : Nat) (s : List Int) (hs : s.length ≤ 20000000000000) : CallOK Tryz.prog 11 [.c (.l (.s 0 p s.length))] [(0, ⟨qls p s, .q⟩)] 1 (.c (.agg [.o 1 (mdL s (mdN s)).length])) [(1, ⟨rws (mdL s (mdN s)), .r 42 258 1⟩)] 1 := by
  refine call_ok (cx := cz_C11 p s) (nm := [3]) rfl Tryz.func11 (body := Tryz.f11.body.getD .skip) rfl enters11 (by unfold inck; simp only [List.all_cons, List.all_nil, blkLt_fix (fix_qls p s) (show (BT.rn (rnId 1 0 []) (.q)).isSome = true from rfl), Bool.and_true, Bool.true_and]; kernel_rfl) ?_
  apply of_eq (q := (LoopOK Tryz.prog ((getLoop 3 (Tryz.f11.body.getD .skip)).getD .skip) (St.mk [(4, iv IntKind.i64 0), (3, SV.c (Cp.l (Leaf.p 2 0))), (2, SV.c (Cp.l (Leaf.p 1 0))), (0, SV.c (Cp.l (Leaf.s 0 p s.length)))] [(2, some (Blk.mk [Leaf.v (Value.slice none 0 0)] (BT.t 26))), (1, some (Blk.mk [Leaf.v (Value.slice none 0 0)] (BT.t 26))), (0, some (Blk.mk (qls p s) BT.q))] 3 57 [2, 1] 1) fun K => K (Exit.exit 0) (I11 p s (mdN s))) ∧ 0 = 0 ∧ 1 = 1 ∧ Le (ag [Leaf.o 1 (mdL s (mdN s)).length]) (ag [Leaf.o 1 (mdL s (mdN s)).length]) ∧ BkR (rnId 1 0 [3]) (Blk.mk (rws (mdL s (mdN s))) (BT.r 42 258 3)) (Blk.mk (rws (mdL s (mdN s))) (BT.r 42 258 1)) ∧ True) (by kernel_rfl)
  repeat' (first | exact trivial | with_reducible apply And.intro | (with_reducible apply HB.mk) | with_reducible intro _)
  all_goals first
    | (assumption)
    | (with_reducible exact Le.refl _)
    | (with_reducible rfl)
    | (exact LoopOK.re [(3, none)] (I11 p s 0) (by kernel_rfl) (wkER_cons (LeR.of (by kernel_rfl)) (wkER_cons (LeR.of (by kernel_rfl)) (wkER_cons (LeR.of (by kernel_rfl)) (wkER_cons (LeR.of (by kernel_rfl)) trivial)))) (wkHR_cons (j := 0) rfl (BkM.fix (cs := qls p s) (b := .q) (by kernel_rfl) (rfl) (fix_qls p s) (by kernel_rfl)) (wkHR_cons (j := 1) rfl (BkM.blk (k := ⟨[.v (.slice none 0 0)], .t 26⟩) (k'' := ⟨[.v (.slice none 0 0)], .t 26⟩) (by kernel_rfl) (by kernel_rfl) rfl) (wkHR_cons (j := 2) rfl (BkM.lsB (xs := [.v (.slice none 0 0)]) (by kernel_rfl) (LsR.cons (by show LfR _ 4 _ (.o 3 (mdL s 0).length); rw [show (mdL s 0).length = 0 by unfold mdL; rfl]; exact LfR.nil (show 3 < 4 by decide) rfl) LsR.nil)) (wkHR_nil rfl trivial)))) (fun K hT => L11 p s hs _ 0 rfl (Nat.zero_le _) K hT))
    | (exact BkR.plain rfl (plain_rws _) (by kernel_rfl))
    | (exact okw _ (by omega) (by omega))
    | (exact Le.of rfl)
    | (exact BkR.of rfl)
    | (unfold SlOK; omega)
    | (unfold SlOK; decide)
    | (unfold inByte; decide)
    | (simp only [*, Bool.and_self, Bool.not_false, Bool.not_true]; done)
    | (simp_all [wants]; done)
end Ab
end Go.Proofs.YtpdckpifhniioaaGreat
end
section
set_option linter.unusedVariables false
namespace Go.Proofs.YtpdckpifhniioaaGreat
open Go.RowKit
namespace Ab
set_option maxRecDepth 100000 in
set_option maxHeartbeats 1000000 in
theorem bstr0 (b : Nat) (p : Value) (w : World) (h1 : w.heap[b]? = some (.cells #[p, .slice none 0 0] 101 (0, 0))) :
    Calls Tryz.prog 54 #[.pointer (some ⟨b, 0, none⟩)] w fun e w' => e = .returned (.string .empty) ∧ w' = w.drew := by
  have c1 : w.drew.cell? ⟨b, 1, none⟩ = some (.slice none 0 0) := by
    have : w.drew.heap[b]? = some (.cells #[p, .slice none 0 0] 101 (0, 0)) := h1
    rw [Lib.cell_of_heap this]; rfl
  have hSD : (Builtin.unsafeSliceData_ #[57] 171 #[.slice none 0 0]).run Tryz.prog w.drew = .ok (.pointer none) w.drew := rfl
  have hUS : (Builtin.unsafeString_ #[171, 3] 9 #[.pointer none, .int .i64 0]).run Tryz.prog w.drew = .ok (.string .empty) w.drew := Lib.run_unsafeString_none _ _ _ _ _
  clear h1
  go_enter Tryz.func54, Tryz.ntmps54
  go_wp2
  go_region
  all_goals (go_wp2; go_ret; exact ⟨rfl, rfl⟩)
theorem C54z (id n : Nat) (l0 : Leaf) :
    CallOK Tryz.prog 54 [.c (.l (.p id 0))] [(id, ⟨[l0, .v (.slice none 0 0)], .e 101⟩)] n (.c (.l (.v (.string .empty)))) [] 0 := by
  refine ⟨enters54, fun β x vals hv hinj hlt hnew hH _ => ?_⟩
  match vals, hv with
  | [y], ⟨⟨b, hb, hy⟩, _⟩ =>
    subst hy
    obtain ⟨y0, y1, h1, d0, d1⟩ := blkE2 (hH id b _ hb (lk_cons_eq _ _ _))
    obtain ⟨d1, _⟩ := d1
    subst d1
    refine (bstr0 b y0 x h1).mono ?_
    rintro e x' ⟨rfl, rfl⟩
    exact ⟨_, β, rfl, done_wr hinj hlt ⟨rfl, rfl⟩ rfl rfl rfl (Nat.le_refl _) (fun k hk hn => rfl) (fun i c k hi hk => by cases hk)⟩
/-- A result that is a nil slice may grow from now on. -/
theorem CallOKd.nil_o {P : Program} {f : Nat} {dc : List (Nat × Nat × Bool)} {args : List SV} {H : List (Nat × Blk)} {n : Nat} (h : CallOKd P f dc args H n (.c (.agg [.v (.slice none 0 0)])) [] 0) (bk : Blk) :
    CallOKd P f dc args H n (.c (.agg [.o n 0])) [(n, bk)] 1 := by
  refine ⟨h.1, fun β x vals ha hi hl hn hb hd => (h.2 β x vals ha hi hl (fun id h1 h2 => by omega) hb hd).mono ?_⟩
  rintro e x' ⟨y, β', rfl, D⟩
  have hnn := hn n (Nat.le_refl _) (by omega)
  have hb0 : ∀ b, β' n ≠ some b := fun b hb => by
    rcases D.new n b hb with h1 | ⟨_, h1, _⟩
    · rw [hnn.1] at h1; cases h1
    · omega
  refine ⟨y, ⟨β'.b, fun i => if i = n then some 0 else β'.c i⟩, rfl, ?_, ⟨D.ext.b, fun i v hv => ?_⟩, fun i b hb => ?_, fun i v hv => ?_, D.inj, D.lt, D.os, D.tape, D.output, D.size, fun k hk _ => D.keep k hk (fun _ _ => rfl), fun i b k hb hk => ?_⟩
  · obtain ⟨ys, e1, hd1⟩ := D.den
    refine ⟨ys, e1, ?_⟩
    match ys, hd1 with
    | [z], ⟨h1, _⟩ => exact ⟨.inl ⟨rfl, if_pos rfl, h1.1⟩, trivial⟩
  · show (if i = n then some 0 else β'.c i) = some v
    by_cases e1 : i = n
    · subst e1; rw [hnn.2] at hv; cases hv
    · rw [if_neg e1]; exact D.ext.c i v hv
  · rcases D.new i b hb with h1 | ⟨h1, h2, h3⟩
    · exact .inl h1
    · omega
  · by_cases e1 : i = n
    · exact .inr (by omega)
    · have hv : (if i = n then some 0 else β'.c i) = some v := hv
      rw [if_neg e1] at hv
      rcases D.newc i v hv with h1 | ⟨h1, h2⟩
      · exact .inl h1
      · omega
  · obtain ⟨rfl, rfl⟩ := lk_one hk
    exact absurd hb (hb0 b)
end Ab
end Go.Proofs.YtpdckpifhniioaaGreat
end
section
set_option linter.unusedVariables false
set_option linter.unusedSimpArgs false
namespace Go.Proofs.YtpdckpifhniioaaGreat
open Go.RowKit
namespace Ab
def cz_C11y (o : Option Addr) (c : Nat) : Cz := {
  ct := (fun f => match f with
  | _ => none)
  eq := (fun t => match t with
  | _ => none)
  raw := [], sym := [], nf := [], ap := true, off := [], on := [], lp := fun _ => none, un := 3, wh := [26, 38, 40, 96] }
set_option maxRecDepth 100000 in
set_option maxHeartbeats 400000 in
theorem C11y (o : Option Addr) (c : Nat)  : CallOK Tryz.prog 11 [.c (.l (.v (.slice o 0 c)))] [(0, ⟨qls 0 [], .q⟩)] 1 (.c (.agg [.v (.slice none 0 0)])) [] 0 := by
  refine call_ok (cx := cz_C11y o c) (nm := []) rfl Tryz.func11 (body := Tryz.f11.body.getD .skip) rfl enters11 (by kernel_rfl) ?_
  apply of_eq (q := (decide (0 < (Nat.cast 0 : Int)) = true → decide (0 < (Nat.cast 0 : Int)) = true ∧ True) ∧ (decide (0 < (Nat.cast 0 : Int)) = true → decide (0 < (Nat.cast 0 : Int)) = true) ∧ 0 = 0 ∧ 1 = 1 ∧ Le (ag [Leaf.v (Value.slice none 0 0)]) (ag [Leaf.v (Value.slice none 0 0)]) ∧ True) (by kernel_rfl)
  repeat' (first | exact trivial | with_reducible apply And.intro | (with_reducible apply HB.mk) | with_reducible intro _)
  all_goals first
    | (assumption)
    | (with_reducible exact Le.refl _)
    | (with_reducible rfl)
    | (exact okw _ (by omega) (by omega))
    | (exact Le.of rfl)
    | (exact BkR.of rfl)
    | (unfold SlOK; omega)
    | (unfold SlOK; decide)
    | (unfold inByte; decide)
    | (simp only [*, Bool.and_self, Bool.not_false, Bool.not_true]; done)
    | (simp_all [wants]; done)
theorem C11z (o : Option Addr) (c : Nat) : CallOK Tryz.prog 11 [.c (.l (.v (.slice o 0 c)))] [(0, ⟨qls 0 [], .q⟩)] 1 (.c (.agg [.o 1 (mdL [] (mdN [])).length])) [(1, ⟨rws (mdL [] (mdN [])), .r 42 258 1⟩)] 1 :=
  CallOKd.nil_o (C11y o c) _
/-- String: what a builder's block says of it. -/
def B54 (S : St) (i : Nat) : Option Cr := match S.blk i with
  | some ⟨[_, .v (.slice none 0 0)], _⟩ => some ⟨.c (.l (.v (.string .empty))), [i], [], 0, []⟩
  | some ⟨[_, .o bf _], _⟩ => some ⟨V54 S i, [i, bf], [(bf, ⟨[], .x⟩)], 0, []⟩
  | _ => none
theorem good_nil : Good [] := mdL_good [] 0 (Nat.zero_le 6)
theorem C46z (l : List TA) (hl : l = []) (id n : Nat) (hi : id < n) : CallOK Tryz.prog 46 [.c (.agg [.o id 0])] [(id, ⟨rws l, .r 42 258 id⟩)] n (bv true) [] 0 := by
  subst hl; exact C46g [] good_nil id n hi
attribute [local irreducible] Oct.M.sum hdB blB entB rws
def cz_C12y (l : List TA) : Cz := {
  ct := (fun f => match f with
  | 46 => some fun _ _S ar => match ar with | [.c (.agg [.o i _])] => some { v := bv true, rd := [i], wr := [], nw := 0 } | _ => none
  | 47 => some fun _ap _S ar => match ar with | [.c (.l (.p i _)), .c (.l (.v (.string s)))] => B47 _ap _S i s | _ => none
  | 48 => some fun _ _S ar => match ar with | [.c (.l (.v (.int _ k)))] => some { v := .c (.l (.v (.string ⟨(Oct.M.leb (Oct.u64 k)).toArray⟩))), rd := [], wr := [], nw := 0 } | _ => none
  | 50 => some fun _ _S ar => match ar with | [.c (.l (.v (.int _ k))), .c (.l (.v (.int _ m)))] => some { v := .c (.l (.v (.string ⟨(Oct.M.be (Oct.sz m) (Oct.u64 k)).toArray⟩))), rd := [], wr := [], nw := 0 } | _ => none
  | 51 => some fun _ _S ar => match ar with | [.c (.agg [.v (.int _ a), .v (.int _ b), .v (.int _ c), .v (.int _ e)])] => some { v := .c (.l (.v (.string ⟨#[ofI a, ofI b, ofI c, ofI e]⟩))), rd := [], wr := [], nw := 0 } | _ => none
  | 53 => some fun _ _S ar => match ar with | [.c (.l (.v (.string s)))] => some { v := iv .u32 (Oct.M.sum s.data.toList : Nat), rd := [], wr := [], nw := 0 } | _ => none
  | 54 => some fun _ap _S ar => match ar with | [.c (.l (.p i _))] => B54 _S i | _ => none
  | 55 => some fun _ _S ar => match ar with | [.c (.l (.v (.string s)))] => some { v := .c (.l (.v (.string ⟨(Oct.txt s).toArray⟩))), rd := [], wr := [], nw := 0 } | _ => none
  | _ => none)
  eq := (fun t => match t with
  | _ => none)
  raw := [], sym := [], nf := [(11, bv true), (12, bv false), (16, .c (.l (.v (.string (hdB l 0))))), (57, .c (.l (.v (.string (hdB l 0))))), (59, .c (.l (.v (.string (txtB (hdB l 0)))))), (62, iv .u32 (sumI (hdB l 0))), (63, iv .i64 (sumI (hdB l 0))), (64, .c (.l (.v (.string (putB (sumI (hdB l 0)) 4))))), (66, .c (.l (.v (.string (blB l 0))))), (67, .c (.l (.v (.string (packB l)))))], ap := true, off := [], on := [], lp := fun _ => none, un := 3, ex := [101] }
set_option maxRecDepth 100000 in
set_option maxHeartbeats 400000 in
theorem C12y (l : List TA) (hl : l = []) : CallOK Tryz.prog 12 [.c (.agg [.o 0 0])] [(0, ⟨rws l, .r 42 258 0⟩)] 1 (.tup [.l (.v (.string (packB l))), .l (li 0)]) [] 0 := by
  have hh := hdB_le l 0
  have hhp := hdB_pos l 0
  have hbz : (blB l 0).size = 0 := by unfold blB; rfl
  have hl0 : l.length = 0 := by rw [hl]; rfl
  refine call_ok (cx := cz_C12y l) (nm := []) rfl Tryz.func12 (body := Tryz.f12.body.getD .skip) rfl enters12 (by unfold inck; simp only [List.all_cons, List.all_nil, blt_rws _ _ (show (BT.rn (rnId 1 0 []) (.r 42 258 0)).isSome = true from rfl), Bool.and_true, Bool.true_and]; kernel_rfl) ?_
  apply of_eq (q := CallOKd Tryz.prog 46 [] [ag [Leaf.o 0 0]] [(0, Blk.mk (rws l) (BT.r 42 258 0))] 2 (bv true) [] 0 ∧ Le (bv true) (bv true) ∧ Le (bv !true) (bv false) ∧ CallOKd Tryz.prog 48 [] [iv IntKind.i64 (Nat.cast 0 : Int)] [] 4 (SV.c (Cp.l (Leaf.v (Value.string (ByteArray.mk (Oct.M.leb (Oct.u64 (Nat.cast 0 : Int))).toArray))))) [] 0 ∧ Le (SV.c (Cp.l (Leaf.v (Value.string (ByteArray.mk (Oct.M.leb (Oct.u64 (Nat.cast 0 : Int))).toArray))))) (SV.c (Cp.l (Leaf.v (Value.string (hdB l 0))))) ∧ CallOKd Tryz.prog 47 [] [SV.c (Cp.l (Leaf.p 2 0)), SV.c (Cp.l (Leaf.v (Value.string (hdB l 0))))] [(2, Blk.mk [Leaf.v (Value.pointer none), Leaf.v (Value.slice none 0 0)] (BT.e 101))] 4 (SV.tup [Cp.l (li (Nat.cast ((hdB l 0).size) : Int)), Cp.l (Leaf.v Value.nilIface)]) [(2, Blk.mk [Leaf.p 2 0, Leaf.o 4 (hdB l 0).size] (BT.e 101)), (4, Blk.mk (sbytes (hdB l 0)) (BT.r 5 1 4))] 1 ∧ CallOKd Tryz.prog 54 [] [SV.c (Cp.l (Leaf.p 2 0))] [(2, Blk.mk [Leaf.p 2 0, Leaf.o 4 (hdB l 0).size] (BT.e 101)), (4, Blk.mk (sbytes (hdB l 0)) (BT.r 5 1 4))] 5 (SV.c (Cp.l (Leaf.v (Value.string (strL (sbytes (hdB l 0))))))) [(4, Blk.mk [] BT.x)] 0 ∧ Le (SV.c (Cp.l (Leaf.v (Value.string (strL (sbytes (hdB l 0))))))) (SV.c (Cp.l (Leaf.v (Value.string (hdB l 0))))) ∧ CallOKd Tryz.prog 55 [] [SV.c (Cp.l (Leaf.v (Value.string (hdB l 0))))] [] 5 (SV.c (Cp.l (Leaf.v (Value.string (ByteArray.mk (Oct.txt (hdB l 0)).toArray))))) [] 0 ∧ Le (SV.c (Cp.l (Leaf.v (Value.string (ByteArray.mk (Oct.txt (hdB l 0)).toArray))))) (SV.c (Cp.l (Leaf.v (Value.string (txtB (hdB l 0)))))) ∧ (Nat.cast (((ByteArray.mk #[71, 1]).size + (txtB (hdB l 0)).size)) : Int) ≤ IntKind.i64.max ∧ CallOKd Tryz.prog 53 [] [SV.c (Cp.l (Leaf.v (Value.string (hdB l 0))))] [] 5 (iv IntKind.u32 (Nat.cast ((Oct.M.sum (hdB l 0).data.toList)) : Int)) [] 0 ∧ Le (iv IntKind.u32 (Nat.cast ((Oct.M.sum (hdB l 0).data.toList)) : Int)) (iv IntKind.u32 (sumI (hdB l 0))) ∧ Le (iv IntKind.i64 (IntKind.i64.wrap (sumI (hdB l 0)))) (iv IntKind.i64 (sumI (hdB l 0))) ∧ CallOKd Tryz.prog 50 [] [iv IntKind.i64 (sumI (hdB l 0)), iv IntKind.i64 4] [] 5 (SV.c (Cp.l (Leaf.v (Value.string (ByteArray.mk (Oct.M.be (Oct.sz 4) (Oct.u64 (sumI (hdB l 0)))).toArray))))) [] 0 ∧ Le (SV.c (Cp.l (Leaf.v (Value.string (ByteArray.mk (Oct.M.be (Oct.sz 4) (Oct.u64 (sumI (hdB l 0)))).toArray))))) (SV.c (Cp.l (Leaf.v (Value.string (putB (sumI (hdB l 0)) 4))))) ∧ (Nat.cast (((ByteArray.mk #[71, 1] ++ txtB (hdB l 0)).size + (putB (sumI (hdB l 0)) 4).size)) : Int) ≤ IntKind.i64.max ∧ CallOKd Tryz.prog 54 [] [SV.c (Cp.l (Leaf.p 3 0))] [(3, Blk.mk [Leaf.v (Value.pointer none), Leaf.v (Value.slice none 0 0)] (BT.e 101))] 5 (SV.c (Cp.l (Leaf.v (Value.string ByteArray.empty)))) [] 0 ∧ Le (SV.c (Cp.l (Leaf.v (Value.string ByteArray.empty)))) (SV.c (Cp.l (Leaf.v (Value.string (blB l 0))))) ∧ (Nat.cast (((ByteArray.mk #[71, 1] ++ txtB (hdB l 0) ++ putB (sumI (hdB l 0)) 4).size + (blB l 0).size)) : Int) ≤ IntKind.i64.max ∧ Le (SV.c (Cp.l (Leaf.v (Value.string (ByteArray.mk #[71, 1] ++ txtB (hdB l 0) ++ putB (sumI (hdB l 0)) 4 ++ blB l 0))))) (SV.c (Cp.l (Leaf.v (Value.string (packB l))))) ∧ Le (SV.tup [Cp.l (Leaf.v (Value.string (packB l))), Cp.l (li 0)]) (SV.tup [Cp.l (Leaf.v (Value.string (packB l))), Cp.l (li 0)]) ∧ True) (by kernel_rfl)
  repeat' (first | exact trivial | with_reducible apply And.intro | (with_reducible apply HB.mk) | with_reducible intro _)
  all_goals first
    | (assumption)
    | (with_reducible exact Le.refl _)
    | (with_reducible rfl)
    | ((with_reducible exact C46z l hl _ _ (by omega)))
    | ((first | with_reducible refine C47ag _ ?_ ?_ _ _ ?_ | with_reducible refine C47tg _ _ _ ?_ ?_ ?_ ?_ _ _ _ ?_ ?_ ?_ | with_reducible refine C47fg _ _ _ ?_ ?_ ?_ ?_ _ _ _ ?_ ?_ ?_) <;> first | exact plain_sbytes _ | (rw [sbytes_len]; done) | omega)
    | (with_reducible exact C48 _ _)
    | (with_reducible exact C50 _ _ _)
    | ((with_reducible refine C53 _ ?_ _); first | assumption | decide +kernel | (simp; omega))
    | ((first | exact C54z _ _ _ | with_reducible refine C54 _ _ _ _ _ _ ?_ ?_ ?_ ?_ ?_) <;> first | (rw [sbytes_len]; done) | exact allB_sbytes _ | omega)
    | ((with_reducible refine C55 _ ?_ _); first | assumption | decide +kernel | (simp; omega))
    | (exact Le.of (by rw [strL_sbytes]))
    | (((with_reducible refine C55 _ ?_ _); omega))
    | (((with_reducible refine C53 _ ?_ _); omega))
    | (exact Le.of (by unfold hdB; rw [hl0]; rfl))
    | (exact Le.of (by unfold packB; rw [hl0]))
    | (exact Le.of (by unfold blB; rfl))
    | (exact Le.of rfl)
    | ((refine Le.int ?_; rw [IntKind.wrap_i64]; have := sumI_bd (hdB l 0); omega))
    | ((rw [IntKind.max_i64]; have := txtB_le (hdB l 0) (by omega); (try simp only [ByteArray.size_append, putB_sz, sz2, sz4]); have e0 : (⟨#[71, 1]⟩ : ByteArray).size = 2 := rfl; omega))
    | (exact okw _ (by omega) (by omega))
    | (exact Le.of rfl)
    | (exact BkR.of rfl)
    | (unfold SlOK; omega)
    | (unfold SlOK; decide)
    | (unfold inByte; decide)
    | (simp only [*, Bool.and_self, Bool.not_false, Bool.not_true]; done)
    | (simp_all [wants]; done)
end Ab
end Go.Proofs.YtpdckpifhniioaaGreat
end
section
set_option linter.unusedVariables false
set_option linter.unusedSimpArgs false
namespace Go.Proofs.YtpdckpifhniioaaGreat
open Go.RowKit
namespace Ab
end Ab
end Go.Proofs.YtpdckpifhniioaaGreat
end
section
set_option linter.unusedVariables false
set_option linter.unusedSimpArgs false
namespace Go.Proofs.YtpdckpifhniioaaGreat
open Go.RowKit
namespace Ab
/-- A slice of integers that came in. -/
def IntsAt (x : Leaf) (p : Nat) (s : List Int) : Prop := s.length ≤ 20000000000000 ∧ (x = .s 0 p s.length ∨ (s = [] ∧ p = 0 ∧ ∃ o c, x = .v (.slice o 0 c)))
theorem IntsAt.rn {x : Leaf} {p : Nat} {s : List Int} (h : IntsAt x p s) : x.rn (rnId 1 0 []) = some x := by
  rcases h.2 with rfl | ⟨_, _, o, c, rfl⟩
  · rfl
  · rfl
theorem IntsAt.lt {x : Leaf} {p : Nat} {s : List Int} (h : IntsAt x p s) : ltN 1 (.c (.l x)) = true := by
  rcases h.2 with rfl | ⟨_, _, o, c, rfl⟩ <;> rfl
theorem ints_call {P : Program} {f : Nat} {pre post : List SV} {vp vq : List Value} (ha : pls pre = some vp) (hb : pls post = some vq)
    (h : ∀ x p s, IntsAt x p s → CallOK P f (pre ++ .c (.l x) :: post) [(0, ⟨qls p s, .q⟩)] 1 (bv true) [] 0)
    (o : Option Addr) (zs : List Int) (n c : Nat) (w : World) (w0 : n * 8 ≤ 140737488351232) (hn : zs.length = n) (hcap : n ≤ c)
    (hc : ∀ i (h : i < zs.length), ∃ a, o = some a ∧ a.block < w.heap.size ∧ w.cell? (a.add i) = some (.int .i64 zs[i])) :
    Calls P f (vp ++ .slice o n c :: vq).toArray w fun e w' => e = .returned (.bool true) ∧ Below w.heap.size w w' := by
  have fin : ∀ (β : Bt) (x : Leaf) (p : Nat) (s : List Int), IntsAt x p s → x.den β (.slice o n c) → (∀ i j b, β i = some b → β j = some b → i = j) → (∀ i b, β i = some b → b < w.heap.size) → (∀ i, 1 ≤ i → β i = none ∧ β.c i = none) → (∀ b, β 0 = some b → BlkAt β w b ⟨qls p s, .q⟩) →
      Calls P f (vp ++ .slice o n c :: vq).toArray w fun e w' => e = .returned (.bool true) ∧ Below w.heap.size w w' := by
    intro β x p s hx hd hinj hlt hno hbk
    have hden : All2 (SV.den β) (pre ++ .c (.l x) :: post) (vp ++ .slice o n c :: vq) := ((pls_iff ha β vp).2 rfl).append ⟨hd, (pls_iff hb β vq).2 rfl⟩
    refine ((h x p s hx).2 β w _ hden hinj hlt (fun id h1 _ => hno id h1) (fun id b k hb hk => ?_) (fun _ h => by cases h)).mono ?_
    · cases id with
      | zero =>
        have : k = ⟨qls p s, .q⟩ := by
          have e : lk [(0, (⟨qls p s, .q⟩ : Blk))] 0 = some ⟨qls p s, .q⟩ := lk_cons_eq _ _ _
          rw [e] at hk; exact (Option.some.inj hk).symm
        subst this; exact hbk b hb
      | succ i => rw [(hno (i + 1) (by omega)).1] at hb; cases hb
    · rintro e x' ⟨z, β', rfl, hD⟩
      refine ⟨by rw [(SV.pl_iff (x := bv true) (y := .bool true) rfl β' z).1 hD.den], hD.os, hD.tape, hD.output, hD.size, fun k hk => hD.keep k hk fun id _ => rfl⟩
  cases zs with
  | nil =>
    have hn0 : n = 0 := by simpa using hn.symm
    subst hn0
    exact fin ⟨fun _ => none, fun _ => none⟩ (.v (.slice o 0 c)) 0 [] ⟨by simp, .inr ⟨rfl, rfl, o, c, rfl⟩⟩ ⟨rfl, rfl⟩ (fun _ _ _ h => by cases h) (fun _ _ h => by cases h) (fun _ _ => ⟨rfl, rfl⟩) (fun _ h => by cases h)
  | cons z zs =>
    obtain ⟨a, rfl, hal, ha0⟩ := hc 0 (by simp)
    obtain ⟨b, off, sp⟩ := a
    have hsp : sp = none := by
      cases sp with
      | none => rfl
      | some q =>
        have := ha0
        unfold World.cell? at this
        simp only [Addr.add] at this
        split at this <;> simp at this
    subst hsp
    refine fin ⟨fun i => if i = 0 then some b else none, fun _ => none⟩ (.s 0 off (z :: zs).length) off (z :: zs) ⟨by omega, .inl rfl⟩ ⟨b, c, rfl, by omega, by rw [hn]⟩ (fun i j b' h1 h2 => ?_) (fun i b' h1 => ?_) (fun i hi => ⟨if_neg (by omega), rfl⟩) (fun b' hb' => ?_)
    · by_cases e1 : i = 0
      · by_cases e2 : j = 0
        · omega
        · simp [e2] at h2
      · simp [e1] at h1
    · by_cases e1 : i = 0
      · simp [e1] at h1; subst h1; exact hal
      · simp [e1] at h1
    · have : b' = b := by simpa using hb'.symm
      subst this
      refine .inl (.inr ⟨rfl, fun i l hl => ?_⟩)
      have hl' : (qls off (z :: zs))[i]? = some l := hl
      by_cases hi : i < off
      · left
        unfold qls at hl'
        rw [List.getElem?_append_left (by simpa using hi), List.getElem?_replicate_of_lt hi] at hl'
        exact (Option.some.inj hl').symm
      · right
        unfold qls at hl'
        rw [List.getElem?_append_right (by simpa using (by omega : off ≤ i)), List.length_replicate, List.getElem?_map] at hl'
        obtain ⟨y, hy, rfl⟩ := Option.map_eq_some_iff.1 hl'
        obtain ⟨hy1, hy2⟩ := List.getElem?_eq_some_iff.1 hy
        obtain ⟨a, e, _, hcell⟩ := hc (i - off) hy1
        obtain rfl := Option.some.inj e
        refine ⟨.int .i64 y, ?_, rfl, rfl⟩
        have e2 : off + (i - off) = i := by omega
        have e3 : (⟨b', off, none⟩ : Addr).add (i - off) = ⟨b', i, none⟩ := by
          by_cases e0 : i - off = 0
          · have : off = i := by omega
            subst this
            rw [e0]; rfl
          · simp only [Addr.add, if_neg e0, e2]
        rw [e3] at hcell
        rw [hcell, hy2]
/-- made, at any name. -/
theorem made_any {x : Leaf} {p : Nat} {s : List Int} (h : IntsAt x p s) (n : Nat) (hn : 0 < n) : CallOK Tryz.prog 11 [.c (.l x)] [(0, ⟨qls p s, .q⟩)] n (.c (.agg [.o n (mdL s (mdN s)).length])) [(n, ⟨rws (mdL s (mdN s)), .r 42 258 n⟩)] 1 := by
  have e1 : ∀ σ, (qls p s).map (Leaf.ren σ) = qls p s := (fix_qls p s).2
  have e2 := ren_plain (σ := up1 0 n) (plain_rws (mdL s (mdN s)))
  rcases h.2 with rfl | ⟨rfl, rfl, o, c, rfl⟩
  · have key := CallOK.at1 (C11 p s h.1) 0 n hn
    simp only [List.map_cons, List.map_nil, Blk.ren, SV.ren, Cp.ren, Leaf.ren, BT.ren, e1, e2] at key
    exact key
  · have key := CallOK.at1 (C11z o c) 0 n hn
    simp only [List.map_cons, List.map_nil, Blk.ren, SV.ren, Cp.ren, Leaf.ren, BT.ren, e1, e2] at key
    exact key
/-- Pack of any good raster. -/
theorem pack_any (l : List TA) (hg : Good l) (id n : Nat) (hi : id < n) : CallOK Tryz.prog 12 [.c (.agg [.o id l.length])] [(id, ⟨rws l, .r 42 258 id⟩)] n (.tup [.l (.v (.string (packB l))), .l (li 0)]) [] 0 := by
  have e1 := ren_plain (σ := up1 id n) (plain_rws l)
  by_cases hl : l = []
  · subst hl
    have key := CallOK.at1 (C12y [] rfl) id n hi
    simp only [List.map_cons, List.map_nil, Blk.ren, SV.ren, Cp.ren, Leaf.ren, BT.ren, e1] at key
    exact key
  · have key := CallOK.at1 (C12 l hg (List.length_pos_iff.2 hl)) id n hi
    simp only [List.map_cons, List.map_nil, Blk.ren, SV.ren, Cp.ren, Leaf.ren, BT.ren, e1] at key
    exact key
theorem made_good (s : List Int) : Good (mdL s (mdN s)) := mdL_good s _ (Nat.min_le_right _ _)
theorem made_len (s : List Int) : (mdL s (mdN s)).length ≤ 6 := Nat.le_trans (mdL_len s _) (Nat.min_le_right _ _)
theorem pack_size (l : List TA) : (packB l).size = 6 + (txtB (hdB l l.length)).size + (blB l l.length).size := by
  unfold packB
  simp only [ByteArray.size_append, putB_sz, sz4]
  have e0 : (⟨#[71, 1]⟩ : ByteArray).size = 2 := rfl
  omega
end Ab
end Go.Proofs.YtpdckpifhniioaaGreat
end
section
set_option linter.unusedVariables false
set_option linter.unusedSimpArgs false
namespace Go.Proofs.YtpdckpifhniioaaGreat
open Go.RowKit
namespace Ab
attribute [local irreducible] CallOKd
/-- An entry of an index, its blob. -/
structure EN where
  X : Int
  Y : Int
  a : UInt8
  b : UInt8
  c : UInt8
  d : UInt8
  sum : Int
  blob : ByteArray
def en (e : EN) : List Leaf := [li e.X, li e.Y, ub e.a, ub e.b, ub e.c, ub e.d, li e.sum, .v (.string e.blob)]
def ens (l : List EN) : List Leaf := (l.map en).flatten
def pt1 (s : ByteArray) (p : Nat) : Nat × Bool := (Oct.takeRes s p false (Oct.sz 2)).2
def pt2 (s : ByteArray) (p : Nat) : Nat × Bool := (Oct.takeRes s (pt1 s p).1 (pt1 s p).2 (Oct.sz 2)).2
def pt3 (s : ByteArray) (p : Nat) : Nat × Bool := (Oct.takeRes s (pt2 s p).1 (pt2 s p).2 4).2
def pt4 (s : ByteArray) (p : Nat) : Nat × Bool := (Oct.varRes s (pt3 s p).1 (pt3 s p).2).2
def pt5 (s : ByteArray) (p : Nat) : Nat × Bool := (Oct.takeRes s (pt4 s p).1 (pt4 s p).2 (Oct.sz 4)).2
def numV (s : ByteArray) (p : Nat) (f : Bool) (m : Int) : Int := wrap64 (Oct.bev (Oct.takeRes s p f (Oct.sz m)).1.data.toList)
def prX (s : ByteArray) (p : Nat) : Int := numV s p false 2
def prY (s : ByteArray) (p : Nat) : Int := numV s (pt1 s p).1 (pt1 s p).2 2
def prQ (s : ByteArray) (p : Nat) : ByteArray := (Oct.takeRes s (pt2 s p).1 (pt2 s p).2 4).1
def prZ (s : ByteArray) (p : Nat) : Int := (Oct.varRes s (pt3 s p).1 (pt3 s p).2).1
def prS (s : ByteArray) (p : Nat) : Int := numV s (pt4 s p).1 (pt4 s p).2 4
def prE (s : ByteArray) (p : Nat) : EN := ⟨prX s p - 8192, prY s p - 8192, (prQ s p).get! 0, (prQ s p).get! 1, (prQ s p).get! 2, (prQ s p).get! 3, prS s p, ByteArray.empty⟩
/-- Where the k-th entry begins. -/
def posn (s : ByteArray) : Nat → Nat
  | 0 => (Oct.varRes s 0 false).2.1
  | k + 1 => (pt5 s (posn s k)).1
def enE (s : ByteArray) (k : Nat) : EN := prE s (posn s k)
def szE (s : ByteArray) (k : Nat) : Int := prZ s (posn s k)
def bd1 (s : ByteArray) (p : Nat) : Bool := bif (pt5 s p).2 then true else decide (prX s p - 8192 ≥ 8192)
def bd2 (s : ByteArray) (p : Nat) : Bool := bif bd1 s p then true else decide (prY s p - 8192 ≥ 8192)
def bd3 (s : ByteArray) (p : Nat) : Bool := bif bd2 s p then true else decide (prZ s p < 1)
def bad1 (s : ByteArray) (p : Nat) : Bool := bif bd3 s p then true else decide (prZ s p > 257)
def bad2 (s : ByteArray) (k : Nat) : Bool := bif decide (((k : Nat) : Int) > 0) then !lesB (enE s (k - 1)).X (enE s (k - 1)).Y (enE s k).X (enE s k).Y else false
def okE (s : ByteArray) (k : Nat) : Bool := !bad1 s (posn s k) && !bad2 s k
def ents (s : ByteArray) (k : Nat) : List EN := (List.range k).map (enE s)
def szs (s : ByteArray) (k : Nat) : List Leaf := (List.range k).map fun j => li (szE s j)
def nP (s : ByteArray) : Int := (Oct.varRes s 0 false).1
def nN (s : ByteArray) : Nat := (nP s).toNat
def hdBad (s : ByteArray) : Bool := bif (bif (Oct.varRes s 0 false).2.2 then true else decide (nP s < 0)) then true else decide (nP s > 1024)
theorem plain_en (e : EN) : Plain (en e) := fun x hx => by
  simp only [en, List.mem_cons, List.not_mem_nil, or_false] at hx
  rcases hx with rfl | rfl | rfl | rfl | rfl | rfl | rfl | rfl <;> exact ⟨_, rfl⟩
theorem plain_ens (l : List EN) : Plain (ens l) := fun x hx => by
  simp only [ens, List.mem_flatten, List.mem_map] at hx
  obtain ⟨m, ⟨e, _, rfl⟩, hx⟩ := hx
  exact plain_en e x hx
theorem ens_len : ∀ l : List EN, (ens l).length = 8 * l.length
  | [] => rfl
  | e :: l => by
    have := ens_len l
    simp only [ens, List.map_cons, List.flatten_cons, List.length_append, List.length_cons] at *
    show 8 + _ = _
    omega
theorem ens_append (l m : List EN) : ens (l ++ m) = ens l ++ ens m := by simp [ens]
theorem ens_one (e : EN) : ens [e] = en e := by simp [ens]
def EN.z : EN := ⟨0, 0, 0, 0, 0, 0, 0, ByteArray.empty⟩
def ea (l : List EN) (k : Nat) : EN := l.getD k EN.z
theorem ens_drop : ∀ (l : List EN) (k : Nat), k < l.length → ∃ m, (ens l).drop (k * 8) = en (ea l k) ++ m
  | [], k, h => by simp at h
  | e :: l, 0, h => ⟨ens l, by simp [ens, ea]⟩
  | e :: l, k + 1, h => by
    obtain ⟨m, hm⟩ := ens_drop l k (by simpa using h)
    refine ⟨m, ?_⟩
    have : (ens (e :: l)).drop ((k + 1) * 8) = (ens l).drop (k * 8) := by
      simp only [ens, List.map_cons, List.flatten_cons]
      rw [List.drop_append, List.drop_eq_nil_of_le (by show 8 ≤ _; omega), List.nil_append, show (en e).length = 8 from rfl, show (k + 1) * 8 - 8 = k * 8 by omega]
    rw [this, hm]
    rfl
theorem ens_at {l : List EN} {k : Nat} (h : k < l.length) : List.take 8 (List.drop (k * 8) (ens l)) = en (ea l k) := by
  obtain ⟨m, hm⟩ := ens_drop l k h
  rw [hm]; rfl
theorem ens_pos {l : List EN} {k : Nat} (h : k < l.length) : List.take 2 (List.drop (k * 8) (ens l)) = [li (ea l k).X, li (ea l k).Y] := by
  obtain ⟨m, hm⟩ := ens_drop l k h
  rw [hm]; rfl
theorem ents_len (s : ByteArray) (k : Nat) : (ents s k).length = k := by simp [ents]
theorem ents_at (s : ByteArray) {j k : Nat} (h : j < k) : ea (ents s k) j = enE s j := by simp [ea, ents, List.getD, h]
theorem ents_next (s : ByteArray) (k : Nat) : ens (ents s k) ++ en (enE s k) = ens (ents s (k + 1)) := by
  unfold ents
  rw [List.range_succ, List.map_append, ens_append, List.map_singleton, ens_one]
theorem szs_len (s : ByteArray) (k : Nat) : (szs s k).length = k := by simp [szs]
theorem szs_next (s : ByteArray) (k : Nat) : szs s k ++ [li (szE s k)] = szs s (k + 1) := by
  unfold szs
  rw [List.range_succ, List.map_append, List.map_singleton]
theorem plain_szs (s : ByteArray) (k : Nat) : Plain (szs s k) := fun x hx => by
  simp only [szs, List.mem_map] at hx
  obtain ⟨b, _, rfl⟩ := hx
  exact ⟨_, rfl⟩
theorem szs_at (s : ByteArray) {j k : Nat} (h : j < k) : (szs s k).getD j .u = li (szE s j) := by simp [szs, List.getD, h]
theorem pt1_le {s : ByteArray} {p : Nat} (h : p ≤ s.size) : (pt1 s p).1 ≤ s.size := Oct.takeRes_le _ _ _ _ h
theorem pt2_le {s : ByteArray} {p : Nat} (h : p ≤ s.size) : (pt2 s p).1 ≤ s.size := Oct.takeRes_le _ _ _ _ (pt1_le h)
theorem pt3_le {s : ByteArray} {p : Nat} (h : p ≤ s.size) : (pt3 s p).1 ≤ s.size := Oct.takeRes_le _ _ _ _ (pt2_le h)
theorem pt4_le {s : ByteArray} {p : Nat} (h : p ≤ s.size) : (pt4 s p).1 ≤ s.size := Oct.varRes_le _ _ _ (pt3_le h)
theorem pt5_le {s : ByteArray} {p : Nat} (h : p ≤ s.size) : (pt5 s p).1 ≤ s.size := Oct.takeRes_le _ _ _ _ (pt4_le h)
theorem posn_le (s : ByteArray) : ∀ k, posn s k ≤ s.size
  | 0 => Oct.varRes_le s 0 false (Nat.zero_le _)
  | k + 1 => pt5_le (posn_le s k)
theorem numV_bd (s : ByteArray) (p : Nat) (f : Bool) (m : Int) (h : Oct.sz m ≤ 4) : 0 ≤ numV s p f m ∧ numV s p f m < 4294967296 := by
  unfold numV
  have h1 := Oct.bev_lt (Oct.takeRes s p f (Oct.sz m)).1.data.toList
  have h2 : (Oct.takeRes s p f (Oct.sz m)).1.data.toList.length ≤ 4 := by
    unfold Oct.takeRes
    split
    · exact Nat.zero_le _
    · show (s.extract p (p + (Oct.sz m : Int).toNat)).size ≤ 4
      rw [ByteArray.size_extract]
      omega
  have h3 := Nat.pow_le_pow_right (n := 256) (by decide) h2
  have h4 : Oct.bev (Oct.takeRes s p f (Oct.sz m)).1.data.toList < 4294967296 := Nat.lt_of_lt_of_le h1 h3
  generalize Oct.bev (Oct.takeRes s p f (Oct.sz m)).1.data.toList = z at *
  have : wrap64 (z : Int) = z := by
    unfold wrap64; omega
  omega
theorem ok8192 (z : Int) (h : 0 ≤ z ∧ z < 4294967296) : IntKind.i64.wrap (z - 8192) = z - 8192 := okw _ (by omega) (by omega)
theorem prX_bd (s : ByteArray) (p : Nat) : 0 ≤ prX s p ∧ prX s p < 4294967296 := numV_bd _ _ _ _ (by decide)
theorem prY_bd (s : ByteArray) (p : Nat) : 0 ≤ prY s p ∧ prY s p < 4294967296 := numV_bd _ _ _ _ (by decide)
theorem take_f {s : ByteArray} {p : Nat} {f : Bool} {m : Int} (h : (Oct.takeRes s p f m).2.2 = false) : f = false ∧ 0 ≤ m ∧ (p : Int) + m ≤ s.size ∧ Oct.takeRes s p f m = (s.extract p (p + m.toNat), p + m.toNat, false) := by
  unfold Oct.takeRes at h ⊢
  split at h
  · exact absurd h (by simp)
  · rename_i hh
    rw [if_neg hh]
    have hf : f = false := by cases f <;> simp_all
    exact ⟨hf, by omega, by omega, rfl⟩
theorem var_f {s : ByteArray} {p : Nat} {f : Bool} (h : (Oct.varRes s p f).2.2 = false) : f = false := by
  cases f with
  | false => rfl
  | true => unfold Oct.varRes at h; simp at h
theorem prQ_size {s : ByteArray} {p : Nat} (h : (pt5 s p).2 = false) : (prQ s p).size = 4 := by
  have h4 := (take_f h).1
  have h3 := var_f h4
  obtain ⟨_, _, h5, h6⟩ := take_f (show (Oct.takeRes s (pt2 s p).1 (pt2 s p).2 4).2.2 = false from h3)
  unfold prQ
  rw [h6, ByteArray.size_extract]
  show min ((pt2 s p).1 + 4) s.size - (pt2 s p).1 = 4
  omega
theorem bad1_f {s : ByteArray} {p : Nat} (h : bad1 s p = false) : (pt5 s p).2 = false ∧ prX s p - 8192 < 8192 ∧ prY s p - 8192 < 8192 ∧ 1 ≤ prZ s p ∧ prZ s p ≤ 257 := by
  unfold bad1 bd3 bd2 bd1 at h
  cases h1 : (pt5 s p).2
  · rw [h1] at h
    by_cases h2 : prX s p - 8192 ≥ 8192
    · simp [h2] at h
    · by_cases h3 : prY s p - 8192 ≥ 8192
      · simp [h2, h3] at h
      · by_cases h4 : prZ s p < 1
        · simp [h2, h3, h4] at h
        · by_cases h5 : prZ s p > 257
          · simp [h2, h3, h4, h5] at h
          · exact ⟨rfl, by omega, by omega, by omega, by omega⟩
  · rw [h1] at h; simp at h
theorem okE_t {s : ByteArray} {k : Nat} (h1 : bad1 s (posn s k) = false) (h2 : bad2 s k = false) : okE s k = true := by unfold okE; rw [h1, h2]; rfl
theorem okE_1 {s : ByteArray} {k : Nat} (h1 : bad1 s (posn s k) = true) : okE s k = false := by unfold okE; rw [h1]; rfl
theorem okE_2 {s : ByteArray} {k : Nat} (h2 : bad2 s k = true) : okE s k = false := by unfold okE; rw [h2, Bool.not_true, Bool.and_false]
theorem hdBad_f {s : ByteArray} (h : hdBad s = false) : (Oct.varRes s 0 false).2.2 = false ∧ nP s = (nN s : Nat) ∧ nN s ≤ 1024 := by
  unfold hdBad at h
  cases h1 : (Oct.varRes s 0 false).2.2
  · rw [h1] at h
    by_cases h2 : nP s < 0
    · simp [h2] at h
    · by_cases h3 : nP s > 1024
      · simp [h2, h3] at h
      · unfold nN; exact ⟨rfl, by omega, by omega⟩
  · rw [h1] at h; simp at h
theorem apB123 {need : Nat} (k : need * 49 ≤ 140737488355328) : ApB Tryz.prog 123 need := apB (bytes := 48) (by kernel_rfl) k
theorem apB3 {need : Nat} (k : need * 9 ≤ 140737488355328) : ApB Tryz.prog 3 need := apB (bytes := 8) (by kernel_rfl) k
theorem rd1 (s : ByteArray) (p : Nat) (hs : s.size ≤ 1000000000000000000) (hp : p ≤ s.size) (id n : Nat) : CallOK Tryz.prog 60 [.c (.l (.p id 0)), iv .i64 2] [(id, ⟨[.v (.string s), .v (.int .i64 (p : Nat)), .v (.bool false)], .t 174⟩)] n (iv .i64 (prX s p)) [(id, ⟨[.v (.string s), .v (.int .i64 ((pt1 s p).1 : Nat)), .v (.bool (pt1 s p).2)], .t 174⟩)] 0 := by
  have h1 := pt1_le hp
  have h2 := pt2_le hp
  have h3 := pt3_le hp
  have h4 := pt4_le hp
  exact C60 id s ((p : Nat) : Int) (false) 2 hs (by omega) (by omega) n
theorem rd2 (s : ByteArray) (p : Nat) (hs : s.size ≤ 1000000000000000000) (hp : p ≤ s.size) (id n : Nat) : CallOK Tryz.prog 60 [.c (.l (.p id 0)), iv .i64 2] [(id, ⟨[.v (.string s), .v (.int .i64 ((pt1 s p).1 : Nat)), .v (.bool (pt1 s p).2)], .t 174⟩)] n (iv .i64 (prY s p)) [(id, ⟨[.v (.string s), .v (.int .i64 ((pt2 s p).1 : Nat)), .v (.bool (pt2 s p).2)], .t 174⟩)] 0 := by
  have h1 := pt1_le hp
  have h2 := pt2_le hp
  have h3 := pt3_le hp
  have h4 := pt4_le hp
  exact C60 id s (((pt1 s p).1 : Nat) : Int) ((pt1 s p).2) 2 hs (by omega) (by omega) n
theorem rd3 (s : ByteArray) (p : Nat) (hs : s.size ≤ 1000000000000000000) (hp : p ≤ s.size) (id n : Nat) : CallOK Tryz.prog 64 [.c (.l (.p id 0)), iv .i64 4] [(id, ⟨[.v (.string s), .v (.int .i64 ((pt2 s p).1 : Nat)), .v (.bool (pt2 s p).2)], .t 174⟩)] n (.c (.l (.v (.string (prQ s p))))) [(id, ⟨[.v (.string s), .v (.int .i64 ((pt3 s p).1 : Nat)), .v (.bool (pt3 s p).2)], .t 174⟩)] 0 := by
  have h1 := pt1_le hp
  have h2 := pt2_le hp
  have h3 := pt3_le hp
  have h4 := pt4_le hp
  exact C64 id s (((pt2 s p).1 : Nat) : Int) ((pt2 s p).2) 4 hs (by omega) (by omega) n
theorem rd4 (s : ByteArray) (p : Nat) (hs : s.size ≤ 1000000000000000000) (hp : p ≤ s.size) (id n : Nat) : CallOK Tryz.prog 125 [.c (.l (.p id 0))] [(id, ⟨[.v (.string s), .v (.int .i64 ((pt3 s p).1 : Nat)), .v (.bool (pt3 s p).2)], .t 174⟩)] n (iv .i64 (prZ s p)) [(id, ⟨[.v (.string s), .v (.int .i64 ((pt4 s p).1 : Nat)), .v (.bool (pt4 s p).2)], .t 174⟩)] 0 := by
  have h1 := pt1_le hp
  have h2 := pt2_le hp
  have h3 := pt3_le hp
  have h4 := pt4_le hp
  exact C125 id s (((pt3 s p).1 : Nat) : Int) ((pt3 s p).2)  hs (by omega) (by omega) n
theorem rd5 (s : ByteArray) (p : Nat) (hs : s.size ≤ 1000000000000000000) (hp : p ≤ s.size) (id n : Nat) : CallOK Tryz.prog 60 [.c (.l (.p id 0)), iv .i64 4] [(id, ⟨[.v (.string s), .v (.int .i64 ((pt4 s p).1 : Nat)), .v (.bool (pt4 s p).2)], .t 174⟩)] n (iv .i64 (prS s p)) [(id, ⟨[.v (.string s), .v (.int .i64 ((pt5 s p).1 : Nat)), .v (.bool (pt5 s p).2)], .t 174⟩)] 0 := by
  have h1 := pt1_le hp
  have h2 := pt2_le hp
  have h3 := pt3_le hp
  have h4 := pt4_le hp
  exact C60 id s (((pt4 s p).1 : Nat) : Int) ((pt4 s p).2) 4 hs (by omega) (by omega) n
theorem rd6 (s : ByteArray) (p : Nat) (id n : Nat) : CallOK Tryz.prog 61 [.c (.l (.p id 0))] [(id, ⟨[.v (.string s), .v (.int .i64 ((pt5 s p).1 : Nat)), .v (.bool (pt5 s p).2)], .t 174⟩)] n (bv (pt5 s p).2) [] 0 := C61 id s ((pt5 s p).1 : Nat) (pt5 s p).2 (by omega) n
theorem enters127 : Enters Tryz.prog 127 := fun args w => by go_simp
def cz_C127 : Cz := {
  ct := (fun f => match f with
  | _ => none)
  eq := (fun t => match t with
  | _ => none)
  raw := [], sym := [1,2,3,4,5,6,7,8,9,10,11,12], nf := [], ap := true, off := [], on := [], lp := fun _ => none, un := 0 }
set_option maxRecDepth 100000 in
set_option maxHeartbeats 400000 in
theorem C127 (q : ByteArray) (hq : q.size = 4) (n : Nat) : CallOK Tryz.prog 127 [.c (.l (.v (.string q)))] [] n (ag [ub (q.get! 0), ub (q.get! 1), ub (q.get! 2), ub (q.get! 3)]) [] 0 := by
  refine CallOK.any ?_ (by kernel_rfl) (by kernel_rfl) n
  refine call_ok (cx := cz_C127) (nm := []) rfl Tryz.func127 (body := Tryz.f127.body.getD .skip) rfl enters127 (by kernel_rfl) ?_
  apply of_eq (q := InR 0 q.size ∧ InR 1 q.size ∧ InR 2 q.size ∧ InR 3 q.size ∧ Le (ag [Leaf.v (Value.int IntKind.u8 (Nat.cast ((q.get! (Int.toNat 0)).toNat) : Int)), Leaf.v (Value.int IntKind.u8 (Nat.cast ((q.get! (Int.toNat 1)).toNat) : Int)), Leaf.v (Value.int IntKind.u8 (Nat.cast ((q.get! (Int.toNat 2)).toNat) : Int)), Leaf.v (Value.int IntKind.u8 (Nat.cast ((q.get! (Int.toNat 3)).toNat) : Int))]) (ag [Leaf.v (Value.int IntKind.u8 (Nat.cast ((q.get! 0).toNat) : Int)), Leaf.v (Value.int IntKind.u8 (Nat.cast ((q.get! 1).toNat) : Int)), Leaf.v (Value.int IntKind.u8 (Nat.cast ((q.get! 2).toNat) : Int)), Leaf.v (Value.int IntKind.u8 (Nat.cast ((q.get! 3).toNat) : Int))]) ∧ True) (by kernel_rfl)
  repeat' (first | exact trivial | with_reducible apply And.intro | (with_reducible apply HB.mk) | with_reducible intro _)
  all_goals first
    | (assumption)
    | (with_reducible exact Le.refl _)
    | (with_reducible rfl)
    | (exact ⟨by omega, by omega⟩)
    | (exact okw _ (by omega) (by omega))
    | (exact Le.of rfl)
    | (exact BkR.of rfl)
    | (unfold SlOK; omega)
    | (unfold SlOK; decide)
    | (unfold inByte; decide)
    | (simp only [*, Bool.and_self, Bool.not_false, Bool.not_true]; done)
    | (simp_all [wants]; done)
theorem enters126 : Enters Tryz.prog 126 := fun args w => by go_simp
def cz_C126 : Cz := {
  ct := (fun f => match f with
  | _ => none)
  eq := (fun t => match t with
  | _ => none)
  raw := [], sym := [], nf := [], ap := true, off := [], on := [], lp := fun _ => none, un := 0 }
set_option maxRecDepth 100000 in
set_option maxHeartbeats 400000 in
theorem C126 (ax ay bx by_ : Int)  (n : Nat) : CallOK Tryz.prog 126 [ag [li ax, li ay], ag [li bx, li by_]] [] n (bv (lesB ax ay bx by_)) [] 0 := by
  refine CallOK.any ?_ (by kernel_rfl) (by kernel_rfl) n
  refine call_ok (cx := cz_C126) (nm := []) rfl Tryz.func126 (body := Tryz.f126.body.getD .skip) rfl enters126 (by kernel_rfl) ?_
  apply of_eq (q := ((!decide (ay < by_)) = true → (!decide (ay < by_)) = true ∧ True) ∧ ((!decide (ay < by_)) = true → (!decide (ay < by_)) = true ∧ True) ∧ ((!decide (ay < by_)) = true → (!decide (ay < by_)) = true ∧ (!decide (ay < by_)) = true ∧ True) ∧ ((!decide (ay < by_)) = true → (!decide (ay < by_)) = true ∧ True) ∧ ((!decide (ay < by_) && ay == by_) = true → (!decide (ay < by_) && ay == by_) = true ∧ True) ∧ ((!decide (ay < by_) && ay == by_) = true → (!decide (ay < by_) && ay == by_) = true ∧ True) ∧ ((!decide (ay < by_) && ay == by_) = true → (!decide (ay < by_) && ay == by_) = true ∧ (!decide (ay < by_) && ay == by_) = true ∧ True) ∧ ((!decide (ay < by_)) = true → (!decide (ay < by_)) = true ∧ ((ay == by_) = true → (!decide (ay < by_) && ay == by_) = true) ∧ True) ∧ (decide (ay < by_) = false → (!decide (ay < by_)) = true) ∧ Le (bv (bif decide (ay < by_) then true else bif ay == by_ then decide (ax < bx) else false)) (bv (lesB ax ay bx by_)) ∧ True) (by kernel_rfl)
  repeat' (first | exact trivial | with_reducible apply And.intro | (with_reducible apply HB.mk) | with_reducible intro _)
  all_goals first
    | (assumption)
    | (with_reducible exact Le.refl _)
    | (with_reducible rfl)
    | (refine Le.bool ?_; unfold lesB; by_cases h1 : ay < by_ <;> by_cases h2 : ay = by_ <;> by_cases h3 : ax < bx <;> simp [h1, h2, h3])
    | (exact okw _ (by omega) (by omega))
    | (exact Le.of rfl)
    | (exact BkR.of rfl)
    | (unfold SlOK; omega)
    | (unfold SlOK; decide)
    | (unfold inByte; decide)
    | (simp only [*, Bool.and_self, Bool.not_false, Bool.not_true]; done)
    | (simp_all [wants]; done)
def I62 (s : ByteArray) (k : Nat) : St := ⟨[(28, iv .i64 (k : Nat)), (27, iv .i64 (nN s : Nat)), (5, .c (.l (.p 0 0))), (2, .c (.l (.o 1 k))), (3, .c (.l (.o 2 k)))], [(0, some ⟨[.v (.string s), .v (.int .i64 (posn s k : Nat)), .v (.bool false)], .t 174⟩), (1, some ⟨ens (ents s k), .r 123 8 1⟩), (2, some ⟨szs s k, .r 3 1 2⟩)], 3, 96, [2, 1, 0], (0)⟩
def Q62 : St := ⟨[(2, .c (.l (.v (.slice none 0 0)))), (3, .c (.l (.v (.slice none 0 0)))), (4, iv .i64 11)], [], 3, 96, [2, 1, 0], (0)⟩
def cz_R62p (s : ByteArray) (k : Nat) : Cz := {
  ct := (fun f => match f with
  | 58 => some fun _ _S ar => match ar with | [.c (.l (.v (.string s)))] => some { v := .c (.l (.p _S.n 0)), rd := [], wr := [(_S.n, ⟨[.v (.string s), .v (.int .i64 0), .v (.bool false)], .t 174⟩)], nw := 1 } | _ => none
  | 60 => some fun _ap _S ar => match ar with | [.c (.l (.p i _)), .c (.l (.v (.int _ m)))] => (match _S.E with | (30, _) :: _ => some ⟨iv .i64 (prX s (posn s k)), [i], [(i, ⟨[.v (.string s), .v (.int .i64 ((pt1 s (posn s k)).1 : Nat)), .v (.bool (pt1 s (posn s k)).2)], .t 174⟩)], 0, []⟩ | (33, _) :: _ => some ⟨iv .i64 (prY s (posn s k)), [i], [(i, ⟨[.v (.string s), .v (.int .i64 ((pt2 s (posn s k)).1 : Nat)), .v (.bool (pt2 s (posn s k)).2)], .t 174⟩)], 0, []⟩ | (40, _) :: _ => some ⟨iv .i64 (prS s (posn s k)), [i], [(i, ⟨[.v (.string s), .v (.int .i64 ((pt5 s (posn s k)).1 : Nat)), .v (.bool (pt5 s (posn s k)).2)], .t 174⟩)], 0, []⟩ | _ => none) | _ => none
  | 61 => some fun _ap _S ar => match ar with | [.c (.l (.p i _))] => (match _S.E with | (42, _) :: _ => some ⟨bv (pt5 s (posn s k)).2, [i], [], 0, []⟩ | _ => none) | _ => none
  | 63 => some fun _ _S ar => match ar with | [.c (.l (.p i _))] => some { v := V63 _S i, rd := [i], wr := [], nw := 0 } | _ => none
  | 64 => some fun _ap _S ar => match ar with | [.c (.l (.p i _)), .c (.l (.v (.int _ m)))] => (match _S.E with | (36, _) :: _ => some ⟨.c (.l (.v (.string (prQ s (posn s k))))), [i], [(i, ⟨[.v (.string s), .v (.int .i64 ((pt3 s (posn s k)).1 : Nat)), .v (.bool (pt3 s (posn s k)).2)], .t 174⟩)], 0, []⟩ | _ => none) | _ => none
  | 125 => some fun _ap _S ar => match ar with | [.c (.l (.p i _))] => (match _S.E with | (38, _) :: _ => some ⟨iv .i64 (prZ s (posn s k)), [i], [(i, ⟨[.v (.string s), .v (.int .i64 ((pt4 s (posn s k)).1 : Nat)), .v (.bool (pt4 s (posn s k)).2)], .t 174⟩)], 0, []⟩ | _ => none) | _ => none
  | 126 => some fun _ _S ar => match ar with | [.c (.agg [.v (.int _ ax), .v (.int _ ay)]), .c (.agg [.v (.int _ cx), .v (.int _ cy)])] => some { v := bv (lesB ax ay cx cy), rd := [], wr := [], nw := 0 } | _ => none
  | 127 => some fun _ _S ar => match ar with | [.c (.l (.v (.string q)))] => some { v := ag [ub (q.get! 0), ub (q.get! 1), ub (q.get! 2), ub (q.get! 3)], rd := [], wr := [], nw := 0 } | _ => none
  | _ => none)
  eq := (fun t => match t with
  | _ => none)
  raw := [], sym := [71, 73, 85, 89], nf := [(32, iv .i64 (enE s k).X), (35, iv .i64 (enE s k).Y), (47, bv (bd1 s (posn s k))), (51, bv (bd2 s (posn s k))), (55, bv (bd3 s (posn s k))), (59, bv (bad1 s (posn s k))), (62, .c (.agg [li (enE s k).X, li (enE s k).Y])), (73, .c (.agg [li (enE s (k - 1)).X, li (enE s (k - 1)).Y])), (74, .c (.agg [li (enE s k).X, li (enE s k).Y])), (77, bv (bad2 s k)), (79, .c (.agg [li (enE s k).X, li (enE s k).Y])), (83, .c (.agg (en (enE s k))))], ap := true, off := [], on := [], lp := fun _ => none, un := 0, wh := [40] }
set_option maxRecDepth 100000 in
theorem R62p (s : ByteArray) (k : Nat)  (K : Exit → St → Prop) (h : HB (decide ((Nat.cast k : Int) < (Nat.cast ((nN s)) : Int))) (CallOKd Tryz.prog 60 [] [SV.c (Cp.l (Leaf.p 0 0)), iv IntKind.i64 2] [(0, Blk.mk [Leaf.v (Value.string s), li (Nat.cast ((posn s k)) : Int), lb false] (BT.t 174))] 3 (iv IntKind.i64 (prX s (posn s k))) [(0, Blk.mk [Leaf.v (Value.string s), li (Nat.cast ((pt1 s (posn s k)).fst) : Int), lb (pt1 s (posn s k)).snd] (BT.t 174))] 0 ∧ IntKind.i64.wrap (prX s (posn s k) - 8192) = prX s (posn s k) - 8192 ∧ Le (iv IntKind.i64 (prX s (posn s k) - 8192)) (iv IntKind.i64 (enE s k).X) ∧ CallOKd Tryz.prog 60 [] [SV.c (Cp.l (Leaf.p 0 0)), iv IntKind.i64 2] [(0, Blk.mk [Leaf.v (Value.string s), li (Nat.cast ((pt1 s (posn s k)).fst) : Int), lb (pt1 s (posn s k)).snd] (BT.t 174))] 3 (iv IntKind.i64 (prY s (posn s k))) [(0, Blk.mk [Leaf.v (Value.string s), li (Nat.cast ((pt2 s (posn s k)).fst) : Int), lb (pt2 s (posn s k)).snd] (BT.t 174))] 0 ∧ IntKind.i64.wrap (prY s (posn s k) - 8192) = prY s (posn s k) - 8192 ∧ Le (iv IntKind.i64 (prY s (posn s k) - 8192)) (iv IntKind.i64 (enE s k).Y) ∧ CallOKd Tryz.prog 64 [] [SV.c (Cp.l (Leaf.p 0 0)), iv IntKind.i64 4] [(0, Blk.mk [Leaf.v (Value.string s), li (Nat.cast ((pt2 s (posn s k)).fst) : Int), lb (pt2 s (posn s k)).snd] (BT.t 174))] 3 (SV.c (Cp.l (Leaf.v (Value.string (prQ s (posn s k)))))) [(0, Blk.mk [Leaf.v (Value.string s), li (Nat.cast ((pt3 s (posn s k)).fst) : Int), lb (pt3 s (posn s k)).snd] (BT.t 174))] 0 ∧ CallOKd Tryz.prog 125 [] [SV.c (Cp.l (Leaf.p 0 0))] [(0, Blk.mk [Leaf.v (Value.string s), li (Nat.cast ((pt3 s (posn s k)).fst) : Int), lb (pt3 s (posn s k)).snd] (BT.t 174))] 3 (iv IntKind.i64 (prZ s (posn s k))) [(0, Blk.mk [Leaf.v (Value.string s), li (Nat.cast ((pt4 s (posn s k)).fst) : Int), lb (pt4 s (posn s k)).snd] (BT.t 174))] 0 ∧ CallOKd Tryz.prog 60 [] [SV.c (Cp.l (Leaf.p 0 0)), iv IntKind.i64 4] [(0, Blk.mk [Leaf.v (Value.string s), li (Nat.cast ((pt4 s (posn s k)).fst) : Int), lb (pt4 s (posn s k)).snd] (BT.t 174))] 3 (iv IntKind.i64 (prS s (posn s k))) [(0, Blk.mk [Leaf.v (Value.string s), li (Nat.cast ((pt5 s (posn s k)).fst) : Int), lb (pt5 s (posn s k)).snd] (BT.t 174))] 0 ∧ CallOKd Tryz.prog 61 [] [SV.c (Cp.l (Leaf.p 0 0))] [(0, Blk.mk [Leaf.v (Value.string s), li (Nat.cast ((pt5 s (posn s k)).fst) : Int), lb (pt5 s (posn s k)).snd] (BT.t 174))] 3 (bv (pt5 s (posn s k)).snd) [] 0 ∧ ((!(pt5 s (posn s k)).snd) = true → (!(pt5 s (posn s k)).snd) = true ∧ True) ∧ ((pt5 s (posn s k)).snd = false → (!(pt5 s (posn s k)).snd) = true) ∧ Le (bv (bif (pt5 s (posn s k)).snd then true else decide ((enE s k).X ≥ 8192))) (bv (bd1 s (posn s k))) ∧ ((!bd1 s (posn s k)) = true → (!bd1 s (posn s k)) = true ∧ True) ∧ (bd1 s (posn s k) = false → (!bd1 s (posn s k)) = true) ∧ Le (bv (bif bd1 s (posn s k) then true else decide ((enE s k).Y ≥ 8192))) (bv (bd2 s (posn s k))) ∧ ((!bd2 s (posn s k)) = true → (!bd2 s (posn s k)) = true ∧ True) ∧ (bd2 s (posn s k) = false → (!bd2 s (posn s k)) = true) ∧ Le (bv (bif bd2 s (posn s k) then true else decide (prZ s (posn s k) < 1))) (bv (bd3 s (posn s k))) ∧ ((!bd3 s (posn s k)) = true → (!bd3 s (posn s k)) = true ∧ True) ∧ (bd3 s (posn s k) = false → (!bd3 s (posn s k)) = true) ∧ Le (bv (bif bd3 s (posn s k) then true else decide (prZ s (posn s k) > 257))) (bv (bad1 s (posn s k))) ∧ HB (bad1 s (posn s k)) (wkK 3 K Exit.ret (St.mk [(4, iv IntKind.i64 11), (3, SV.c (Cp.l (Leaf.v (Value.slice none 0 0)))), (2, SV.c (Cp.l (Leaf.v (Value.slice none 0 0)))), (59, bv (bad1 s (posn s k))), (58, SV.g (!bd3 s (posn s k)) (Cp.l (lb (decide (prZ s (posn s k) > 257))))), (57, SV.g (!bd3 s (posn s k)) (Cp.l (li (prZ s (posn s k))))), (56, bv (bd3 s (posn s k))), (55, bv (bd3 s (posn s k))), (54, SV.g (!bd2 s (posn s k)) (Cp.l (lb (decide (prZ s (posn s k) < 1))))), (53, SV.g (!bd2 s (posn s k)) (Cp.l (li (prZ s (posn s k))))), (52, bv (bd2 s (posn s k))), (51, bv (bd2 s (posn s k))), (50, SV.g (!bd1 s (posn s k)) (Cp.l (lb (decide ((enE s k).Y ≥ 8192))))), (49, SV.g (!bd1 s (posn s k)) (Cp.l (li (enE s k).Y))), (48, bv (bd1 s (posn s k))), (47, bv (bd1 s (posn s k))), (46, SV.g (!(pt5 s (posn s k)).snd) (Cp.l (lb (decide ((enE s k).X ≥ 8192))))), (45, SV.g (!(pt5 s (posn s k)).snd) (Cp.l (li (enE s k).X))), (44, bv (pt5 s (posn s k)).snd), (43, bv (pt5 s (posn s k)).snd), (42, SV.c (Cp.l (Leaf.p 0 0))), (11, iv IntKind.i64 (prS s (posn s k))), (10, iv IntKind.i64 (prZ s (posn s k))), (9, SV.c (Cp.l (Leaf.v (Value.string (prQ s (posn s k)))))), (41, iv IntKind.i64 (prS s (posn s k))), (40, SV.c (Cp.l (Leaf.p 0 0))), (39, iv IntKind.i64 (prZ s (posn s k))), (38, SV.c (Cp.l (Leaf.p 0 0))), (37, SV.c (Cp.l (Leaf.v (Value.string (prQ s (posn s k)))))), (36, SV.c (Cp.l (Leaf.p 0 0))), (8, iv IntKind.i64 (enE s k).Y), (7, iv IntKind.i64 (enE s k).X), (35, iv IntKind.i64 (enE s k).Y), (34, iv IntKind.i64 (prY s (posn s k))), (33, SV.c (Cp.l (Leaf.p 0 0))), (32, iv IntKind.i64 (enE s k).X), (31, iv IntKind.i64 (prX s (posn s k))), (30, SV.c (Cp.l (Leaf.p 0 0))), (29, bv (decide ((Nat.cast k : Int) < (Nat.cast ((nN s)) : Int)))), (28, iv IntKind.i64 (Nat.cast k : Int)), (27, iv IntKind.i64 (Nat.cast ((nN s)) : Int)), (5, SV.c (Cp.l (Leaf.p 0 0))), (2, SV.c (Cp.l (Leaf.o 1 k))), (3, SV.c (Cp.l (Leaf.o 2 k)))] [(0, some (Blk.mk [Leaf.v (Value.string s), li (Nat.cast ((pt5 s (posn s k)).fst) : Int), lb (pt5 s (posn s k)).snd] (BT.t 174))), (0, some (Blk.mk [Leaf.v (Value.string s), li (Nat.cast ((pt4 s (posn s k)).fst) : Int), lb (pt4 s (posn s k)).snd] (BT.t 174))), (0, some (Blk.mk [Leaf.v (Value.string s), li (Nat.cast ((pt3 s (posn s k)).fst) : Int), lb (pt3 s (posn s k)).snd] (BT.t 174))), (0, some (Blk.mk [Leaf.v (Value.string s), li (Nat.cast ((pt2 s (posn s k)).fst) : Int), lb (pt2 s (posn s k)).snd] (BT.t 174))), (0, some (Blk.mk [Leaf.v (Value.string s), li (Nat.cast ((pt1 s (posn s k)).fst) : Int), lb (pt1 s (posn s k)).snd] (BT.t 174))), (0, some (Blk.mk [Leaf.v (Value.string s), li (Nat.cast ((posn s k)) : Int), lb false] (BT.t 174))), (1, some (Blk.mk (ens (ents s k)) (BT.r 123 8 1))), (2, some (Blk.mk (szs s k) (BT.r 3 1 2)))] 3 96 [0, 0, 0, 0, 0, 2, 1, 0] 0)) (Le (ag [li (enE s k).X, li (enE s k).Y]) (ag [li (enE s k).X, li (enE s k).Y]) ∧ 0 = 0 ∧ 2 = 2 ∧ (decide ((Nat.cast k : Int) > 0) = true → decide ((Nat.cast k : Int) > 0) = true ∧ True) ∧ (decide ((Nat.cast k : Int) > 0) = true → decide ((Nat.cast k : Int) > 0) = true ∧ IntKind.i64.wrap ((Nat.cast k : Int) - 1) = (Nat.cast k : Int) - 1 ∧ True) ∧ (decide ((Nat.cast k : Int) > 0) = true → decide ((Nat.cast k : Int) > 0) = true ∧ decide ((Nat.cast k : Int) > 0) = true ∧ InR ((Nat.cast k : Int) - 1) k ∧ True) ∧ (decide ((Nat.cast k : Int) > 0) = true → decide ((Nat.cast k : Int) > 0) = true ∧ True) ∧ (decide ((Nat.cast k : Int) > 0) = true → decide ((Nat.cast k : Int) > 0) = true ∧ ((Nat.cast k : Int) - 1).toNat * 8 + 0 + 2 ≤ (ens (ents s k)).length ∧ Le (ag (List.take 2 (List.drop (((Nat.cast k : Int) - 1).toNat * 8 + 0) (ens (ents s k))))) (ag [li (enE s (k - 1)).X, li (enE s (k - 1)).Y]) ∧ True) ∧ (decide ((Nat.cast k : Int) > 0) = true → Le (ag [li (enE s k).X, li (enE s k).Y]) (ag [li (enE s k).X, li (enE s k).Y]) ∧ True) ∧ (decide ((Nat.cast k : Int) > 0) = true → decide ((Nat.cast k : Int) > 0) = true ∧ decide ((Nat.cast k : Int) > 0) = true ∧ CallOKd Tryz.prog 126 [] [ag [li (enE s (k - 1)).X, li (enE s (k - 1)).Y], ag [li (enE s k).X, li (enE s k).Y]] [] 4 (bv (lesB (enE s (k - 1)).X (enE s (k - 1)).Y (enE s k).X (enE s k).Y)) [] 0 ∧ True) ∧ (decide ((Nat.cast k : Int) > 0) = true → decide ((Nat.cast k : Int) > 0) = true ∧ True) ∧ (decide ((Nat.cast k : Int) > 0) = true → decide ((Nat.cast k : Int) > 0) = true) ∧ Le (bv (bif decide ((Nat.cast k : Int) > 0) then !lesB (enE s (k - 1)).X (enE s (k - 1)).Y (enE s k).X (enE s k).Y else false)) (bv (bad2 s k)) ∧ HB (bad2 s k) (wkK 3 K Exit.ret (St.mk [(4, iv IntKind.i64 11), (3, SV.c (Cp.l (Leaf.v (Value.slice none 0 0)))), (2, SV.c (Cp.l (Leaf.v (Value.slice none 0 0)))), (77, bv (bad2 s k)), (76, SV.g (decide ((Nat.cast k : Int) > 0)) (Cp.l (lb !lesB (enE s (k - 1)).X (enE s (k - 1)).Y (enE s k).X (enE s k).Y))), (75, SV.g (decide ((Nat.cast k : Int) > 0)) (Cp.l (lb (lesB (enE s (k - 1)).X (enE s (k - 1)).Y (enE s k).X (enE s k).Y)))), (74, SV.g (decide ((Nat.cast k : Int) > 0)) (Cp.agg [li (enE s k).X, li (enE s k).Y])), (73, SV.g (decide ((Nat.cast k : Int) > 0)) (Cp.agg [li (enE s (k - 1)).X, li (enE s (k - 1)).Y])), (72, SV.g (decide ((Nat.cast k : Int) > 0)) (Cp.l (Leaf.p 1 (((Nat.cast k : Int) - 1).toNat * 8 + 0)))), (71, SV.g (decide ((Nat.cast k : Int) > 0)) (Cp.l (Leaf.p 1 (((Nat.cast k : Int) - 1).toNat * 8)))), (70, SV.g (decide ((Nat.cast k : Int) > 0)) (Cp.l (li ((Nat.cast k : Int) - 1)))), (69, SV.g (decide ((Nat.cast k : Int) > 0)) (Cp.l (li (Nat.cast k : Int)))), (68, SV.g (decide ((Nat.cast k : Int) > 0)) (Cp.l (Leaf.o 1 k))), (67, SV.g (decide ((Nat.cast k : Int) > 0)) (Cp.l (Leaf.o 1 k))), (66, bv (decide ((Nat.cast k : Int) > 0))), (65, bv (decide ((Nat.cast k : Int) > 0))), (64, iv IntKind.i64 (Nat.cast k : Int)), (63, SV.c (Cp.l (Leaf.o 1 k))), (12, SV.c (Cp.l (Leaf.p 3 0))), (62, ag [li (enE s k).X, li (enE s k).Y]), (61, iv IntKind.i64 (enE s k).Y), (60, iv IntKind.i64 (enE s k).X), (59, bv (bad1 s (posn s k))), (58, SV.g (!bd3 s (posn s k)) (Cp.l (lb (decide (prZ s (posn s k) > 257))))), (57, SV.g (!bd3 s (posn s k)) (Cp.l (li (prZ s (posn s k))))), (56, bv (bd3 s (posn s k))), (55, bv (bd3 s (posn s k))), (54, SV.g (!bd2 s (posn s k)) (Cp.l (lb (decide (prZ s (posn s k) < 1))))), (53, SV.g (!bd2 s (posn s k)) (Cp.l (li (prZ s (posn s k))))), (52, bv (bd2 s (posn s k))), (51, bv (bd2 s (posn s k))), (50, SV.g (!bd1 s (posn s k)) (Cp.l (lb (decide ((enE s k).Y ≥ 8192))))), (49, SV.g (!bd1 s (posn s k)) (Cp.l (li (enE s k).Y))), (48, bv (bd1 s (posn s k))), (47, bv (bd1 s (posn s k))), (46, SV.g (!(pt5 s (posn s k)).snd) (Cp.l (lb (decide ((enE s k).X ≥ 8192))))), (45, SV.g (!(pt5 s (posn s k)).snd) (Cp.l (li (enE s k).X))), (44, bv (pt5 s (posn s k)).snd), (43, bv (pt5 s (posn s k)).snd), (42, SV.c (Cp.l (Leaf.p 0 0))), (11, iv IntKind.i64 (prS s (posn s k))), (10, iv IntKind.i64 (prZ s (posn s k))), (9, SV.c (Cp.l (Leaf.v (Value.string (prQ s (posn s k)))))), (41, iv IntKind.i64 (prS s (posn s k))), (40, SV.c (Cp.l (Leaf.p 0 0))), (39, iv IntKind.i64 (prZ s (posn s k))), (38, SV.c (Cp.l (Leaf.p 0 0))), (37, SV.c (Cp.l (Leaf.v (Value.string (prQ s (posn s k)))))), (36, SV.c (Cp.l (Leaf.p 0 0))), (8, iv IntKind.i64 (enE s k).Y), (7, iv IntKind.i64 (enE s k).X), (35, iv IntKind.i64 (enE s k).Y), (34, iv IntKind.i64 (prY s (posn s k))), (33, SV.c (Cp.l (Leaf.p 0 0))), (32, iv IntKind.i64 (enE s k).X), (31, iv IntKind.i64 (prX s (posn s k))), (30, SV.c (Cp.l (Leaf.p 0 0))), (29, bv (decide ((Nat.cast k : Int) < (Nat.cast ((nN s)) : Int)))), (28, iv IntKind.i64 (Nat.cast k : Int)), (27, iv IntKind.i64 (Nat.cast ((nN s)) : Int)), (5, SV.c (Cp.l (Leaf.p 0 0))), (2, SV.c (Cp.l (Leaf.o 1 k))), (3, SV.c (Cp.l (Leaf.o 2 k)))] [(3, some (Blk.mk [li (enE s k).X, li (enE s k).Y] (BT.t 40))), (3, some (Blk.mk [li 0, li 0] (BT.t 40))), (0, some (Blk.mk [Leaf.v (Value.string s), li (Nat.cast ((pt5 s (posn s k)).fst) : Int), lb (pt5 s (posn s k)).snd] (BT.t 174))), (0, some (Blk.mk [Leaf.v (Value.string s), li (Nat.cast ((pt4 s (posn s k)).fst) : Int), lb (pt4 s (posn s k)).snd] (BT.t 174))), (0, some (Blk.mk [Leaf.v (Value.string s), li (Nat.cast ((pt3 s (posn s k)).fst) : Int), lb (pt3 s (posn s k)).snd] (BT.t 174))), (0, some (Blk.mk [Leaf.v (Value.string s), li (Nat.cast ((pt2 s (posn s k)).fst) : Int), lb (pt2 s (posn s k)).snd] (BT.t 174))), (0, some (Blk.mk [Leaf.v (Value.string s), li (Nat.cast ((pt1 s (posn s k)).fst) : Int), lb (pt1 s (posn s k)).snd] (BT.t 174))), (0, some (Blk.mk [Leaf.v (Value.string s), li (Nat.cast ((posn s k)) : Int), lb false] (BT.t 174))), (1, some (Blk.mk (ens (ents s k)) (BT.r 123 8 1))), (2, some (Blk.mk (szs s k) (BT.r 3 1 2)))] 4 96 [3, 3, 0, 0, 0, 0, 0, 2, 1, 0] 0)) (((Le (ag [li (enE s k).X, li (enE s k).Y]) (ag [li (enE s k).X, li (enE s k).Y]) ∧ CallOKd Tryz.prog 127 [] [SV.c (Cp.l (Leaf.v (Value.string (prQ s (posn s k)))))] [] 4 (ag [Leaf.v (Value.int IntKind.u8 (Nat.cast (((prQ s (posn s k)).get! 0).toNat) : Int)), Leaf.v (Value.int IntKind.u8 (Nat.cast (((prQ s (posn s k)).get! 1).toNat) : Int)), Leaf.v (Value.int IntKind.u8 (Nat.cast (((prQ s (posn s k)).get! 2).toNat) : Int)), Leaf.v (Value.int IntKind.u8 (Nat.cast (((prQ s (posn s k)).get! 3).toNat) : Int))]) [] 0 ∧ Le (ag [li (enE s k).X, li (enE s k).Y, Leaf.v (Value.int IntKind.u8 (Nat.cast (((prQ s (posn s k)).get! 0).toNat) : Int)), Leaf.v (Value.int IntKind.u8 (Nat.cast (((prQ s (posn s k)).get! 1).toNat) : Int)), Leaf.v (Value.int IntKind.u8 (Nat.cast (((prQ s (posn s k)).get! 2).toNat) : Int)), Leaf.v (Value.int IntKind.u8 (Nat.cast (((prQ s (posn s k)).get! 3).toNat) : Int)), li (prS s (posn s k)), Leaf.v (Value.string (ByteArray.mk #[]))]) (ag (en (enE s k))) ∧ (ens (ents s k)).length = k * 8 ∧ 8 = 8 ∧ (szs s k).length = k * 1 ∧ 1 = 1 ∧ IntKind.i64.wrap ((Nat.cast k : Int) + 1) = (Nat.cast k : Int) + 1 ∧ RoundTo Tryz.prog ((getLoop 6 (Tryz.f62.body.getD Code.skip)).getD Code.skip) 3 (wkK 3 K) (St.mk [(28, iv IntKind.i64 ((Nat.cast k : Int) + 1)), (90, iv IntKind.i64 ((Nat.cast k : Int) + 1)), (3, SV.c (Cp.l (Leaf.o 2 (k + 1)))), (2, SV.c (Cp.l (Leaf.o 1 (k + 1)))), (89, SV.c (Cp.l (Leaf.o 2 (k + 1)))), (88, SV.c (Cp.l (Leaf.o 5 1))), (87, iv IntKind.i64 (prZ s (posn s k))), (86, SV.c (Cp.l (Leaf.o 2 k))), (85, SV.c (Cp.l (Leaf.o 1 (k + 1)))), (84, SV.c (Cp.l (Leaf.o 4 1))), (83, ag (en (enE s k))), (82, iv IntKind.i64 (prS s (posn s k))), (81, ag [Leaf.v (Value.int IntKind.u8 (Nat.cast (((prQ s (posn s k)).get! 0).toNat) : Int)), Leaf.v (Value.int IntKind.u8 (Nat.cast (((prQ s (posn s k)).get! 1).toNat) : Int)), Leaf.v (Value.int IntKind.u8 (Nat.cast (((prQ s (posn s k)).get! 2).toNat) : Int)), Leaf.v (Value.int IntKind.u8 (Nat.cast (((prQ s (posn s k)).get! 3).toNat) : Int))]), (80, SV.c (Cp.l (Leaf.v (Value.string (prQ s (posn s k)))))), (79, ag [li (enE s k).X, li (enE s k).Y]), (78, SV.c (Cp.l (Leaf.o 1 k))), (77, bv (bad2 s k)), (76, SV.g (decide ((Nat.cast k : Int) > 0)) (Cp.l (lb !lesB (enE s (k - 1)).X (enE s (k - 1)).Y (enE s k).X (enE s k).Y))), (75, SV.g (decide ((Nat.cast k : Int) > 0)) (Cp.l (lb (lesB (enE s (k - 1)).X (enE s (k - 1)).Y (enE s k).X (enE s k).Y)))), (74, SV.g (decide ((Nat.cast k : Int) > 0)) (Cp.agg [li (enE s k).X, li (enE s k).Y])), (73, SV.g (decide ((Nat.cast k : Int) > 0)) (Cp.agg [li (enE s (k - 1)).X, li (enE s (k - 1)).Y])), (72, SV.g (decide ((Nat.cast k : Int) > 0)) (Cp.l (Leaf.p 1 (((Nat.cast k : Int) - 1).toNat * 8 + 0)))), (71, SV.g (decide ((Nat.cast k : Int) > 0)) (Cp.l (Leaf.p 1 (((Nat.cast k : Int) - 1).toNat * 8)))), (70, SV.g (decide ((Nat.cast k : Int) > 0)) (Cp.l (li ((Nat.cast k : Int) - 1)))), (69, SV.g (decide ((Nat.cast k : Int) > 0)) (Cp.l (li (Nat.cast k : Int)))), (68, SV.g (decide ((Nat.cast k : Int) > 0)) (Cp.l (Leaf.o 1 k))), (67, SV.g (decide ((Nat.cast k : Int) > 0)) (Cp.l (Leaf.o 1 k))), (66, bv (decide ((Nat.cast k : Int) > 0))), (65, bv (decide ((Nat.cast k : Int) > 0))), (64, iv IntKind.i64 (Nat.cast k : Int)), (63, SV.c (Cp.l (Leaf.o 1 k))), (12, SV.c (Cp.l (Leaf.p 3 0))), (62, ag [li (enE s k).X, li (enE s k).Y]), (61, iv IntKind.i64 (enE s k).Y), (60, iv IntKind.i64 (enE s k).X), (59, bv (bad1 s (posn s k))), (58, SV.g (!bd3 s (posn s k)) (Cp.l (lb (decide (prZ s (posn s k) > 257))))), (57, SV.g (!bd3 s (posn s k)) (Cp.l (li (prZ s (posn s k))))), (56, bv (bd3 s (posn s k))), (55, bv (bd3 s (posn s k))), (54, SV.g (!bd2 s (posn s k)) (Cp.l (lb (decide (prZ s (posn s k) < 1))))), (53, SV.g (!bd2 s (posn s k)) (Cp.l (li (prZ s (posn s k))))), (52, bv (bd2 s (posn s k))), (51, bv (bd2 s (posn s k))), (50, SV.g (!bd1 s (posn s k)) (Cp.l (lb (decide ((enE s k).Y ≥ 8192))))), (49, SV.g (!bd1 s (posn s k)) (Cp.l (li (enE s k).Y))), (48, bv (bd1 s (posn s k))), (47, bv (bd1 s (posn s k))), (46, SV.g (!(pt5 s (posn s k)).snd) (Cp.l (lb (decide ((enE s k).X ≥ 8192))))), (45, SV.g (!(pt5 s (posn s k)).snd) (Cp.l (li (enE s k).X))), (44, bv (pt5 s (posn s k)).snd), (43, bv (pt5 s (posn s k)).snd), (42, SV.c (Cp.l (Leaf.p 0 0))), (11, iv IntKind.i64 (prS s (posn s k))), (10, iv IntKind.i64 (prZ s (posn s k))), (9, SV.c (Cp.l (Leaf.v (Value.string (prQ s (posn s k)))))), (41, iv IntKind.i64 (prS s (posn s k))), (40, SV.c (Cp.l (Leaf.p 0 0))), (39, iv IntKind.i64 (prZ s (posn s k))), (38, SV.c (Cp.l (Leaf.p 0 0))), (37, SV.c (Cp.l (Leaf.v (Value.string (prQ s (posn s k)))))), (36, SV.c (Cp.l (Leaf.p 0 0))), (8, iv IntKind.i64 (enE s k).Y), (7, iv IntKind.i64 (enE s k).X), (35, iv IntKind.i64 (enE s k).Y), (34, iv IntKind.i64 (prY s (posn s k))), (33, SV.c (Cp.l (Leaf.p 0 0))), (32, iv IntKind.i64 (enE s k).X), (31, iv IntKind.i64 (prX s (posn s k))), (30, SV.c (Cp.l (Leaf.p 0 0))), (29, bv (decide ((Nat.cast k : Int) < (Nat.cast ((nN s)) : Int)))), (28, iv IntKind.i64 (Nat.cast k : Int)), (27, iv IntKind.i64 (Nat.cast ((nN s)) : Int)), (5, SV.c (Cp.l (Leaf.p 0 0))), (2, SV.c (Cp.l (Leaf.o 1 k))), (3, SV.c (Cp.l (Leaf.o 2 k)))] [(2, some (Blk.mk (szs s k ++ [li (prZ s (posn s k))]) (BT.r 3 1 2))), (5, some (Blk.mk [li (prZ s (posn s k))] (BT.r 3 1 5))), (1, some (Blk.mk (ens (ents s k) ++ splice [li 0, li 0, Leaf.v (Value.int IntKind.u8 0), Leaf.v (Value.int IntKind.u8 0), Leaf.v (Value.int IntKind.u8 0), Leaf.v (Value.int IntKind.u8 0), li 0, Leaf.v (Value.string (ByteArray.mk #[]))] 0 (en (enE s k))) (BT.r 123 8 1))), (4, some (Blk.mk (splice [li 0, li 0, Leaf.v (Value.int IntKind.u8 0), Leaf.v (Value.int IntKind.u8 0), Leaf.v (Value.int IntKind.u8 0), Leaf.v (Value.int IntKind.u8 0), li 0, Leaf.v (Value.string (ByteArray.mk #[]))] 0 (en (enE s k))) (BT.r 123 8 4))), (3, some (Blk.mk [li (enE s k).X, li (enE s k).Y] (BT.t 40))), (3, some (Blk.mk [li 0, li 0] (BT.t 40))), (0, some (Blk.mk [Leaf.v (Value.string s), li (Nat.cast ((pt5 s (posn s k)).fst) : Int), lb (pt5 s (posn s k)).snd] (BT.t 174))), (0, some (Blk.mk [Leaf.v (Value.string s), li (Nat.cast ((pt4 s (posn s k)).fst) : Int), lb (pt4 s (posn s k)).snd] (BT.t 174))), (0, some (Blk.mk [Leaf.v (Value.string s), li (Nat.cast ((pt3 s (posn s k)).fst) : Int), lb (pt3 s (posn s k)).snd] (BT.t 174))), (0, some (Blk.mk [Leaf.v (Value.string s), li (Nat.cast ((pt2 s (posn s k)).fst) : Int), lb (pt2 s (posn s k)).snd] (BT.t 174))), (0, some (Blk.mk [Leaf.v (Value.string s), li (Nat.cast ((pt1 s (posn s k)).fst) : Int), lb (pt1 s (posn s k)).snd] (BT.t 174))), (0, some (Blk.mk [Leaf.v (Value.string s), li (Nat.cast ((posn s k)) : Int), lb false] (BT.t 174))), (1, some (Blk.mk (ens (ents s k)) (BT.r 123 8 1))), (2, some (Blk.mk (szs s k) (BT.r 3 1 2)))] 6 96 [2, 5, 1, 4, 3, 3, 0, 0, 0, 0, 0, 2, 1, 0] 0)) ∧ Le (ag [li (enE s k).X, li (enE s k).Y]) (ag [li (enE s k).X, li (enE s k).Y]) ∧ CallOKd Tryz.prog 127 [] [SV.c (Cp.l (Leaf.v (Value.string (prQ s (posn s k)))))] [] 4 (ag [Leaf.v (Value.int IntKind.u8 (Nat.cast (((prQ s (posn s k)).get! 0).toNat) : Int)), Leaf.v (Value.int IntKind.u8 (Nat.cast (((prQ s (posn s k)).get! 1).toNat) : Int)), Leaf.v (Value.int IntKind.u8 (Nat.cast (((prQ s (posn s k)).get! 2).toNat) : Int)), Leaf.v (Value.int IntKind.u8 (Nat.cast (((prQ s (posn s k)).get! 3).toNat) : Int))]) [] 0 ∧ Le (ag [li (enE s k).X, li (enE s k).Y, Leaf.v (Value.int IntKind.u8 (Nat.cast (((prQ s (posn s k)).get! 0).toNat) : Int)), Leaf.v (Value.int IntKind.u8 (Nat.cast (((prQ s (posn s k)).get! 1).toNat) : Int)), Leaf.v (Value.int IntKind.u8 (Nat.cast (((prQ s (posn s k)).get! 2).toNat) : Int)), Leaf.v (Value.int IntKind.u8 (Nat.cast (((prQ s (posn s k)).get! 3).toNat) : Int)), li (prS s (posn s k)), Leaf.v (Value.string (ByteArray.mk #[]))]) (ag (en (enE s k))) ∧ [(1, k + 1, false)] = [(1, k + 1, false)] ∧ ApB Tryz.prog 123 (k + 1) ∧ (ens (ents s k)).length = k * 8 ∧ 8 = 8 ∧ (szs s k).length = k * 1 ∧ 1 = 1 ∧ IntKind.i64.wrap ((Nat.cast k : Int) + 1) = (Nat.cast k : Int) + 1 ∧ RoundTo Tryz.prog ((getLoop 6 (Tryz.f62.body.getD Code.skip)).getD Code.skip) 3 (wkK 3 K) (St.mk [(28, iv IntKind.i64 ((Nat.cast k : Int) + 1)), (90, iv IntKind.i64 ((Nat.cast k : Int) + 1)), (3, SV.c (Cp.l (Leaf.o 2 (k + 1)))), (2, SV.c (Cp.l (Leaf.o 5 (k + 1)))), (89, SV.c (Cp.l (Leaf.o 2 (k + 1)))), (88, SV.c (Cp.l (Leaf.o 6 1))), (87, iv IntKind.i64 (prZ s (posn s k))), (86, SV.c (Cp.l (Leaf.o 2 k))), (85, SV.c (Cp.l (Leaf.o 5 (k + 1)))), (84, SV.c (Cp.l (Leaf.o 4 1))), (83, ag (en (enE s k))), (82, iv IntKind.i64 (prS s (posn s k))), (81, ag [Leaf.v (Value.int IntKind.u8 (Nat.cast (((prQ s (posn s k)).get! 0).toNat) : Int)), Leaf.v (Value.int IntKind.u8 (Nat.cast (((prQ s (posn s k)).get! 1).toNat) : Int)), Leaf.v (Value.int IntKind.u8 (Nat.cast (((prQ s (posn s k)).get! 2).toNat) : Int)), Leaf.v (Value.int IntKind.u8 (Nat.cast (((prQ s (posn s k)).get! 3).toNat) : Int))]), (80, SV.c (Cp.l (Leaf.v (Value.string (prQ s (posn s k)))))), (79, ag [li (enE s k).X, li (enE s k).Y]), (78, SV.c (Cp.l (Leaf.o 1 k))), (77, bv (bad2 s k)), (76, SV.g (decide ((Nat.cast k : Int) > 0)) (Cp.l (lb !lesB (enE s (k - 1)).X (enE s (k - 1)).Y (enE s k).X (enE s k).Y))), (75, SV.g (decide ((Nat.cast k : Int) > 0)) (Cp.l (lb (lesB (enE s (k - 1)).X (enE s (k - 1)).Y (enE s k).X (enE s k).Y)))), (74, SV.g (decide ((Nat.cast k : Int) > 0)) (Cp.agg [li (enE s k).X, li (enE s k).Y])), (73, SV.g (decide ((Nat.cast k : Int) > 0)) (Cp.agg [li (enE s (k - 1)).X, li (enE s (k - 1)).Y])), (72, SV.g (decide ((Nat.cast k : Int) > 0)) (Cp.l (Leaf.p 1 (((Nat.cast k : Int) - 1).toNat * 8 + 0)))), (71, SV.g (decide ((Nat.cast k : Int) > 0)) (Cp.l (Leaf.p 1 (((Nat.cast k : Int) - 1).toNat * 8)))), (70, SV.g (decide ((Nat.cast k : Int) > 0)) (Cp.l (li ((Nat.cast k : Int) - 1)))), (69, SV.g (decide ((Nat.cast k : Int) > 0)) (Cp.l (li (Nat.cast k : Int)))), (68, SV.g (decide ((Nat.cast k : Int) > 0)) (Cp.l (Leaf.o 1 k))), (67, SV.g (decide ((Nat.cast k : Int) > 0)) (Cp.l (Leaf.o 1 k))), (66, bv (decide ((Nat.cast k : Int) > 0))), (65, bv (decide ((Nat.cast k : Int) > 0))), (64, iv IntKind.i64 (Nat.cast k : Int)), (63, SV.c (Cp.l (Leaf.o 1 k))), (12, SV.c (Cp.l (Leaf.p 3 0))), (62, ag [li (enE s k).X, li (enE s k).Y]), (61, iv IntKind.i64 (enE s k).Y), (60, iv IntKind.i64 (enE s k).X), (59, bv (bad1 s (posn s k))), (58, SV.g (!bd3 s (posn s k)) (Cp.l (lb (decide (prZ s (posn s k) > 257))))), (57, SV.g (!bd3 s (posn s k)) (Cp.l (li (prZ s (posn s k))))), (56, bv (bd3 s (posn s k))), (55, bv (bd3 s (posn s k))), (54, SV.g (!bd2 s (posn s k)) (Cp.l (lb (decide (prZ s (posn s k) < 1))))), (53, SV.g (!bd2 s (posn s k)) (Cp.l (li (prZ s (posn s k))))), (52, bv (bd2 s (posn s k))), (51, bv (bd2 s (posn s k))), (50, SV.g (!bd1 s (posn s k)) (Cp.l (lb (decide ((enE s k).Y ≥ 8192))))), (49, SV.g (!bd1 s (posn s k)) (Cp.l (li (enE s k).Y))), (48, bv (bd1 s (posn s k))), (47, bv (bd1 s (posn s k))), (46, SV.g (!(pt5 s (posn s k)).snd) (Cp.l (lb (decide ((enE s k).X ≥ 8192))))), (45, SV.g (!(pt5 s (posn s k)).snd) (Cp.l (li (enE s k).X))), (44, bv (pt5 s (posn s k)).snd), (43, bv (pt5 s (posn s k)).snd), (42, SV.c (Cp.l (Leaf.p 0 0))), (11, iv IntKind.i64 (prS s (posn s k))), (10, iv IntKind.i64 (prZ s (posn s k))), (9, SV.c (Cp.l (Leaf.v (Value.string (prQ s (posn s k)))))), (41, iv IntKind.i64 (prS s (posn s k))), (40, SV.c (Cp.l (Leaf.p 0 0))), (39, iv IntKind.i64 (prZ s (posn s k))), (38, SV.c (Cp.l (Leaf.p 0 0))), (37, SV.c (Cp.l (Leaf.v (Value.string (prQ s (posn s k)))))), (36, SV.c (Cp.l (Leaf.p 0 0))), (8, iv IntKind.i64 (enE s k).Y), (7, iv IntKind.i64 (enE s k).X), (35, iv IntKind.i64 (enE s k).Y), (34, iv IntKind.i64 (prY s (posn s k))), (33, SV.c (Cp.l (Leaf.p 0 0))), (32, iv IntKind.i64 (enE s k).X), (31, iv IntKind.i64 (prX s (posn s k))), (30, SV.c (Cp.l (Leaf.p 0 0))), (29, bv (decide ((Nat.cast k : Int) < (Nat.cast ((nN s)) : Int)))), (28, iv IntKind.i64 (Nat.cast k : Int)), (27, iv IntKind.i64 (Nat.cast ((nN s)) : Int)), (5, SV.c (Cp.l (Leaf.p 0 0))), (2, SV.c (Cp.l (Leaf.o 1 k))), (3, SV.c (Cp.l (Leaf.o 2 k)))] [(2, some (Blk.mk (szs s k ++ [li (prZ s (posn s k))]) (BT.r 3 1 2))), (6, some (Blk.mk [li (prZ s (posn s k))] (BT.r 3 1 6))), (5, some (Blk.mk (ens (ents s k) ++ splice [li 0, li 0, Leaf.v (Value.int IntKind.u8 0), Leaf.v (Value.int IntKind.u8 0), Leaf.v (Value.int IntKind.u8 0), Leaf.v (Value.int IntKind.u8 0), li 0, Leaf.v (Value.string (ByteArray.mk #[]))] 0 (en (enE s k))) (BT.r 123 8 5))), (4, some (Blk.mk (splice [li 0, li 0, Leaf.v (Value.int IntKind.u8 0), Leaf.v (Value.int IntKind.u8 0), Leaf.v (Value.int IntKind.u8 0), Leaf.v (Value.int IntKind.u8 0), li 0, Leaf.v (Value.string (ByteArray.mk #[]))] 0 (en (enE s k))) (BT.r 123 8 4))), (3, some (Blk.mk [li (enE s k).X, li (enE s k).Y] (BT.t 40))), (3, some (Blk.mk [li 0, li 0] (BT.t 40))), (0, some (Blk.mk [Leaf.v (Value.string s), li (Nat.cast ((pt5 s (posn s k)).fst) : Int), lb (pt5 s (posn s k)).snd] (BT.t 174))), (0, some (Blk.mk [Leaf.v (Value.string s), li (Nat.cast ((pt4 s (posn s k)).fst) : Int), lb (pt4 s (posn s k)).snd] (BT.t 174))), (0, some (Blk.mk [Leaf.v (Value.string s), li (Nat.cast ((pt3 s (posn s k)).fst) : Int), lb (pt3 s (posn s k)).snd] (BT.t 174))), (0, some (Blk.mk [Leaf.v (Value.string s), li (Nat.cast ((pt2 s (posn s k)).fst) : Int), lb (pt2 s (posn s k)).snd] (BT.t 174))), (0, some (Blk.mk [Leaf.v (Value.string s), li (Nat.cast ((pt1 s (posn s k)).fst) : Int), lb (pt1 s (posn s k)).snd] (BT.t 174))), (0, some (Blk.mk [Leaf.v (Value.string s), li (Nat.cast ((posn s k)) : Int), lb false] (BT.t 174))), (1, some (Blk.mk (ens (ents s k)) (BT.r 123 8 1))), (2, some (Blk.mk (szs s k) (BT.r 3 1 2)))] 7 96 [2, 6, 5, 4, 3, 3, 0, 0, 0, 0, 0, 2, 1, 0] 0)) ∧ (Le (ag [li (enE s k).X, li (enE s k).Y]) (ag [li (enE s k).X, li (enE s k).Y]) ∧ CallOKd Tryz.prog 127 [] [SV.c (Cp.l (Leaf.v (Value.string (prQ s (posn s k)))))] [] 4 (ag [Leaf.v (Value.int IntKind.u8 (Nat.cast (((prQ s (posn s k)).get! 0).toNat) : Int)), Leaf.v (Value.int IntKind.u8 (Nat.cast (((prQ s (posn s k)).get! 1).toNat) : Int)), Leaf.v (Value.int IntKind.u8 (Nat.cast (((prQ s (posn s k)).get! 2).toNat) : Int)), Leaf.v (Value.int IntKind.u8 (Nat.cast (((prQ s (posn s k)).get! 3).toNat) : Int))]) [] 0 ∧ Le (ag [li (enE s k).X, li (enE s k).Y, Leaf.v (Value.int IntKind.u8 (Nat.cast (((prQ s (posn s k)).get! 0).toNat) : Int)), Leaf.v (Value.int IntKind.u8 (Nat.cast (((prQ s (posn s k)).get! 1).toNat) : Int)), Leaf.v (Value.int IntKind.u8 (Nat.cast (((prQ s (posn s k)).get! 2).toNat) : Int)), Leaf.v (Value.int IntKind.u8 (Nat.cast (((prQ s (posn s k)).get! 3).toNat) : Int)), li (prS s (posn s k)), Leaf.v (Value.string (ByteArray.mk #[]))]) (ag (en (enE s k))) ∧ (ens (ents s k)).length = k * 8 ∧ 8 = 8 ∧ [(2, k + 1, false)] = [(2, k + 1, false)] ∧ ApB Tryz.prog 3 (k + 1) ∧ (szs s k).length = k * 1 ∧ 1 = 1 ∧ IntKind.i64.wrap ((Nat.cast k : Int) + 1) = (Nat.cast k : Int) + 1 ∧ RoundTo Tryz.prog ((getLoop 6 (Tryz.f62.body.getD Code.skip)).getD Code.skip) 3 (wkK 3 K) (St.mk [(28, iv IntKind.i64 ((Nat.cast k : Int) + 1)), (90, iv IntKind.i64 ((Nat.cast k : Int) + 1)), (3, SV.c (Cp.l (Leaf.o 6 (k + 1)))), (2, SV.c (Cp.l (Leaf.o 1 (k + 1)))), (89, SV.c (Cp.l (Leaf.o 6 (k + 1)))), (88, SV.c (Cp.l (Leaf.o 5 1))), (87, iv IntKind.i64 (prZ s (posn s k))), (86, SV.c (Cp.l (Leaf.o 2 k))), (85, SV.c (Cp.l (Leaf.o 1 (k + 1)))), (84, SV.c (Cp.l (Leaf.o 4 1))), (83, ag (en (enE s k))), (82, iv IntKind.i64 (prS s (posn s k))), (81, ag [Leaf.v (Value.int IntKind.u8 (Nat.cast (((prQ s (posn s k)).get! 0).toNat) : Int)), Leaf.v (Value.int IntKind.u8 (Nat.cast (((prQ s (posn s k)).get! 1).toNat) : Int)), Leaf.v (Value.int IntKind.u8 (Nat.cast (((prQ s (posn s k)).get! 2).toNat) : Int)), Leaf.v (Value.int IntKind.u8 (Nat.cast (((prQ s (posn s k)).get! 3).toNat) : Int))]), (80, SV.c (Cp.l (Leaf.v (Value.string (prQ s (posn s k)))))), (79, ag [li (enE s k).X, li (enE s k).Y]), (78, SV.c (Cp.l (Leaf.o 1 k))), (77, bv (bad2 s k)), (76, SV.g (decide ((Nat.cast k : Int) > 0)) (Cp.l (lb !lesB (enE s (k - 1)).X (enE s (k - 1)).Y (enE s k).X (enE s k).Y))), (75, SV.g (decide ((Nat.cast k : Int) > 0)) (Cp.l (lb (lesB (enE s (k - 1)).X (enE s (k - 1)).Y (enE s k).X (enE s k).Y)))), (74, SV.g (decide ((Nat.cast k : Int) > 0)) (Cp.agg [li (enE s k).X, li (enE s k).Y])), (73, SV.g (decide ((Nat.cast k : Int) > 0)) (Cp.agg [li (enE s (k - 1)).X, li (enE s (k - 1)).Y])), (72, SV.g (decide ((Nat.cast k : Int) > 0)) (Cp.l (Leaf.p 1 (((Nat.cast k : Int) - 1).toNat * 8 + 0)))), (71, SV.g (decide ((Nat.cast k : Int) > 0)) (Cp.l (Leaf.p 1 (((Nat.cast k : Int) - 1).toNat * 8)))), (70, SV.g (decide ((Nat.cast k : Int) > 0)) (Cp.l (li ((Nat.cast k : Int) - 1)))), (69, SV.g (decide ((Nat.cast k : Int) > 0)) (Cp.l (li (Nat.cast k : Int)))), (68, SV.g (decide ((Nat.cast k : Int) > 0)) (Cp.l (Leaf.o 1 k))), (67, SV.g (decide ((Nat.cast k : Int) > 0)) (Cp.l (Leaf.o 1 k))), (66, bv (decide ((Nat.cast k : Int) > 0))), (65, bv (decide ((Nat.cast k : Int) > 0))), (64, iv IntKind.i64 (Nat.cast k : Int)), (63, SV.c (Cp.l (Leaf.o 1 k))), (12, SV.c (Cp.l (Leaf.p 3 0))), (62, ag [li (enE s k).X, li (enE s k).Y]), (61, iv IntKind.i64 (enE s k).Y), (60, iv IntKind.i64 (enE s k).X), (59, bv (bad1 s (posn s k))), (58, SV.g (!bd3 s (posn s k)) (Cp.l (lb (decide (prZ s (posn s k) > 257))))), (57, SV.g (!bd3 s (posn s k)) (Cp.l (li (prZ s (posn s k))))), (56, bv (bd3 s (posn s k))), (55, bv (bd3 s (posn s k))), (54, SV.g (!bd2 s (posn s k)) (Cp.l (lb (decide (prZ s (posn s k) < 1))))), (53, SV.g (!bd2 s (posn s k)) (Cp.l (li (prZ s (posn s k))))), (52, bv (bd2 s (posn s k))), (51, bv (bd2 s (posn s k))), (50, SV.g (!bd1 s (posn s k)) (Cp.l (lb (decide ((enE s k).Y ≥ 8192))))), (49, SV.g (!bd1 s (posn s k)) (Cp.l (li (enE s k).Y))), (48, bv (bd1 s (posn s k))), (47, bv (bd1 s (posn s k))), (46, SV.g (!(pt5 s (posn s k)).snd) (Cp.l (lb (decide ((enE s k).X ≥ 8192))))), (45, SV.g (!(pt5 s (posn s k)).snd) (Cp.l (li (enE s k).X))), (44, bv (pt5 s (posn s k)).snd), (43, bv (pt5 s (posn s k)).snd), (42, SV.c (Cp.l (Leaf.p 0 0))), (11, iv IntKind.i64 (prS s (posn s k))), (10, iv IntKind.i64 (prZ s (posn s k))), (9, SV.c (Cp.l (Leaf.v (Value.string (prQ s (posn s k)))))), (41, iv IntKind.i64 (prS s (posn s k))), (40, SV.c (Cp.l (Leaf.p 0 0))), (39, iv IntKind.i64 (prZ s (posn s k))), (38, SV.c (Cp.l (Leaf.p 0 0))), (37, SV.c (Cp.l (Leaf.v (Value.string (prQ s (posn s k)))))), (36, SV.c (Cp.l (Leaf.p 0 0))), (8, iv IntKind.i64 (enE s k).Y), (7, iv IntKind.i64 (enE s k).X), (35, iv IntKind.i64 (enE s k).Y), (34, iv IntKind.i64 (prY s (posn s k))), (33, SV.c (Cp.l (Leaf.p 0 0))), (32, iv IntKind.i64 (enE s k).X), (31, iv IntKind.i64 (prX s (posn s k))), (30, SV.c (Cp.l (Leaf.p 0 0))), (29, bv (decide ((Nat.cast k : Int) < (Nat.cast ((nN s)) : Int)))), (28, iv IntKind.i64 (Nat.cast k : Int)), (27, iv IntKind.i64 (Nat.cast ((nN s)) : Int)), (5, SV.c (Cp.l (Leaf.p 0 0))), (2, SV.c (Cp.l (Leaf.o 1 k))), (3, SV.c (Cp.l (Leaf.o 2 k)))] [(6, some (Blk.mk (szs s k ++ [li (prZ s (posn s k))]) (BT.r 3 1 6))), (5, some (Blk.mk [li (prZ s (posn s k))] (BT.r 3 1 5))), (1, some (Blk.mk (ens (ents s k) ++ splice [li 0, li 0, Leaf.v (Value.int IntKind.u8 0), Leaf.v (Value.int IntKind.u8 0), Leaf.v (Value.int IntKind.u8 0), Leaf.v (Value.int IntKind.u8 0), li 0, Leaf.v (Value.string (ByteArray.mk #[]))] 0 (en (enE s k))) (BT.r 123 8 1))), (4, some (Blk.mk (splice [li 0, li 0, Leaf.v (Value.int IntKind.u8 0), Leaf.v (Value.int IntKind.u8 0), Leaf.v (Value.int IntKind.u8 0), Leaf.v (Value.int IntKind.u8 0), li 0, Leaf.v (Value.string (ByteArray.mk #[]))] 0 (en (enE s k))) (BT.r 123 8 4))), (3, some (Blk.mk [li (enE s k).X, li (enE s k).Y] (BT.t 40))), (3, some (Blk.mk [li 0, li 0] (BT.t 40))), (0, some (Blk.mk [Leaf.v (Value.string s), li (Nat.cast ((pt5 s (posn s k)).fst) : Int), lb (pt5 s (posn s k)).snd] (BT.t 174))), (0, some (Blk.mk [Leaf.v (Value.string s), li (Nat.cast ((pt4 s (posn s k)).fst) : Int), lb (pt4 s (posn s k)).snd] (BT.t 174))), (0, some (Blk.mk [Leaf.v (Value.string s), li (Nat.cast ((pt3 s (posn s k)).fst) : Int), lb (pt3 s (posn s k)).snd] (BT.t 174))), (0, some (Blk.mk [Leaf.v (Value.string s), li (Nat.cast ((pt2 s (posn s k)).fst) : Int), lb (pt2 s (posn s k)).snd] (BT.t 174))), (0, some (Blk.mk [Leaf.v (Value.string s), li (Nat.cast ((pt1 s (posn s k)).fst) : Int), lb (pt1 s (posn s k)).snd] (BT.t 174))), (0, some (Blk.mk [Leaf.v (Value.string s), li (Nat.cast ((posn s k)) : Int), lb false] (BT.t 174))), (1, some (Blk.mk (ens (ents s k)) (BT.r 123 8 1))), (2, some (Blk.mk (szs s k) (BT.r 3 1 2)))] 7 96 [6, 5, 1, 4, 3, 3, 0, 0, 0, 0, 0, 2, 1, 0] 0)) ∧ Le (ag [li (enE s k).X, li (enE s k).Y]) (ag [li (enE s k).X, li (enE s k).Y]) ∧ CallOKd Tryz.prog 127 [] [SV.c (Cp.l (Leaf.v (Value.string (prQ s (posn s k)))))] [] 4 (ag [Leaf.v (Value.int IntKind.u8 (Nat.cast (((prQ s (posn s k)).get! 0).toNat) : Int)), Leaf.v (Value.int IntKind.u8 (Nat.cast (((prQ s (posn s k)).get! 1).toNat) : Int)), Leaf.v (Value.int IntKind.u8 (Nat.cast (((prQ s (posn s k)).get! 2).toNat) : Int)), Leaf.v (Value.int IntKind.u8 (Nat.cast (((prQ s (posn s k)).get! 3).toNat) : Int))]) [] 0 ∧ Le (ag [li (enE s k).X, li (enE s k).Y, Leaf.v (Value.int IntKind.u8 (Nat.cast (((prQ s (posn s k)).get! 0).toNat) : Int)), Leaf.v (Value.int IntKind.u8 (Nat.cast (((prQ s (posn s k)).get! 1).toNat) : Int)), Leaf.v (Value.int IntKind.u8 (Nat.cast (((prQ s (posn s k)).get! 2).toNat) : Int)), Leaf.v (Value.int IntKind.u8 (Nat.cast (((prQ s (posn s k)).get! 3).toNat) : Int)), li (prS s (posn s k)), Leaf.v (Value.string (ByteArray.mk #[]))]) (ag (en (enE s k))) ∧ [(1, k + 1, false)] = [(1, k + 1, false)] ∧ ApB Tryz.prog 123 (k + 1) ∧ (ens (ents s k)).length = k * 8 ∧ 8 = 8 ∧ [(2, k + 1, false)] = [(2, k + 1, false)] ∧ ApB Tryz.prog 3 (k + 1) ∧ (szs s k).length = k * 1 ∧ 1 = 1 ∧ IntKind.i64.wrap ((Nat.cast k : Int) + 1) = (Nat.cast k : Int) + 1 ∧ RoundTo Tryz.prog ((getLoop 6 (Tryz.f62.body.getD Code.skip)).getD Code.skip) 3 (wkK 3 K) (St.mk [(28, iv IntKind.i64 ((Nat.cast k : Int) + 1)), (90, iv IntKind.i64 ((Nat.cast k : Int) + 1)), (3, SV.c (Cp.l (Leaf.o 7 (k + 1)))), (2, SV.c (Cp.l (Leaf.o 5 (k + 1)))), (89, SV.c (Cp.l (Leaf.o 7 (k + 1)))), (88, SV.c (Cp.l (Leaf.o 6 1))), (87, iv IntKind.i64 (prZ s (posn s k))), (86, SV.c (Cp.l (Leaf.o 2 k))), (85, SV.c (Cp.l (Leaf.o 5 (k + 1)))), (84, SV.c (Cp.l (Leaf.o 4 1))), (83, ag (en (enE s k))), (82, iv IntKind.i64 (prS s (posn s k))), (81, ag [Leaf.v (Value.int IntKind.u8 (Nat.cast (((prQ s (posn s k)).get! 0).toNat) : Int)), Leaf.v (Value.int IntKind.u8 (Nat.cast (((prQ s (posn s k)).get! 1).toNat) : Int)), Leaf.v (Value.int IntKind.u8 (Nat.cast (((prQ s (posn s k)).get! 2).toNat) : Int)), Leaf.v (Value.int IntKind.u8 (Nat.cast (((prQ s (posn s k)).get! 3).toNat) : Int))]), (80, SV.c (Cp.l (Leaf.v (Value.string (prQ s (posn s k)))))), (79, ag [li (enE s k).X, li (enE s k).Y]), (78, SV.c (Cp.l (Leaf.o 1 k))), (77, bv (bad2 s k)), (76, SV.g (decide ((Nat.cast k : Int) > 0)) (Cp.l (lb !lesB (enE s (k - 1)).X (enE s (k - 1)).Y (enE s k).X (enE s k).Y))), (75, SV.g (decide ((Nat.cast k : Int) > 0)) (Cp.l (lb (lesB (enE s (k - 1)).X (enE s (k - 1)).Y (enE s k).X (enE s k).Y)))), (74, SV.g (decide ((Nat.cast k : Int) > 0)) (Cp.agg [li (enE s k).X, li (enE s k).Y])), (73, SV.g (decide ((Nat.cast k : Int) > 0)) (Cp.agg [li (enE s (k - 1)).X, li (enE s (k - 1)).Y])), (72, SV.g (decide ((Nat.cast k : Int) > 0)) (Cp.l (Leaf.p 1 (((Nat.cast k : Int) - 1).toNat * 8 + 0)))), (71, SV.g (decide ((Nat.cast k : Int) > 0)) (Cp.l (Leaf.p 1 (((Nat.cast k : Int) - 1).toNat * 8)))), (70, SV.g (decide ((Nat.cast k : Int) > 0)) (Cp.l (li ((Nat.cast k : Int) - 1)))), (69, SV.g (decide ((Nat.cast k : Int) > 0)) (Cp.l (li (Nat.cast k : Int)))), (68, SV.g (decide ((Nat.cast k : Int) > 0)) (Cp.l (Leaf.o 1 k))), (67, SV.g (decide ((Nat.cast k : Int) > 0)) (Cp.l (Leaf.o 1 k))), (66, bv (decide ((Nat.cast k : Int) > 0))), (65, bv (decide ((Nat.cast k : Int) > 0))), (64, iv IntKind.i64 (Nat.cast k : Int)), (63, SV.c (Cp.l (Leaf.o 1 k))), (12, SV.c (Cp.l (Leaf.p 3 0))), (62, ag [li (enE s k).X, li (enE s k).Y]), (61, iv IntKind.i64 (enE s k).Y), (60, iv IntKind.i64 (enE s k).X), (59, bv (bad1 s (posn s k))), (58, SV.g (!bd3 s (posn s k)) (Cp.l (lb (decide (prZ s (posn s k) > 257))))), (57, SV.g (!bd3 s (posn s k)) (Cp.l (li (prZ s (posn s k))))), (56, bv (bd3 s (posn s k))), (55, bv (bd3 s (posn s k))), (54, SV.g (!bd2 s (posn s k)) (Cp.l (lb (decide (prZ s (posn s k) < 1))))), (53, SV.g (!bd2 s (posn s k)) (Cp.l (li (prZ s (posn s k))))), (52, bv (bd2 s (posn s k))), (51, bv (bd2 s (posn s k))), (50, SV.g (!bd1 s (posn s k)) (Cp.l (lb (decide ((enE s k).Y ≥ 8192))))), (49, SV.g (!bd1 s (posn s k)) (Cp.l (li (enE s k).Y))), (48, bv (bd1 s (posn s k))), (47, bv (bd1 s (posn s k))), (46, SV.g (!(pt5 s (posn s k)).snd) (Cp.l (lb (decide ((enE s k).X ≥ 8192))))), (45, SV.g (!(pt5 s (posn s k)).snd) (Cp.l (li (enE s k).X))), (44, bv (pt5 s (posn s k)).snd), (43, bv (pt5 s (posn s k)).snd), (42, SV.c (Cp.l (Leaf.p 0 0))), (11, iv IntKind.i64 (prS s (posn s k))), (10, iv IntKind.i64 (prZ s (posn s k))), (9, SV.c (Cp.l (Leaf.v (Value.string (prQ s (posn s k)))))), (41, iv IntKind.i64 (prS s (posn s k))), (40, SV.c (Cp.l (Leaf.p 0 0))), (39, iv IntKind.i64 (prZ s (posn s k))), (38, SV.c (Cp.l (Leaf.p 0 0))), (37, SV.c (Cp.l (Leaf.v (Value.string (prQ s (posn s k)))))), (36, SV.c (Cp.l (Leaf.p 0 0))), (8, iv IntKind.i64 (enE s k).Y), (7, iv IntKind.i64 (enE s k).X), (35, iv IntKind.i64 (enE s k).Y), (34, iv IntKind.i64 (prY s (posn s k))), (33, SV.c (Cp.l (Leaf.p 0 0))), (32, iv IntKind.i64 (enE s k).X), (31, iv IntKind.i64 (prX s (posn s k))), (30, SV.c (Cp.l (Leaf.p 0 0))), (29, bv (decide ((Nat.cast k : Int) < (Nat.cast ((nN s)) : Int)))), (28, iv IntKind.i64 (Nat.cast k : Int)), (27, iv IntKind.i64 (Nat.cast ((nN s)) : Int)), (5, SV.c (Cp.l (Leaf.p 0 0))), (2, SV.c (Cp.l (Leaf.o 1 k))), (3, SV.c (Cp.l (Leaf.o 2 k)))] [(7, some (Blk.mk (szs s k ++ [li (prZ s (posn s k))]) (BT.r 3 1 7))), (6, some (Blk.mk [li (prZ s (posn s k))] (BT.r 3 1 6))), (5, some (Blk.mk (ens (ents s k) ++ splice [li 0, li 0, Leaf.v (Value.int IntKind.u8 0), Leaf.v (Value.int IntKind.u8 0), Leaf.v (Value.int IntKind.u8 0), Leaf.v (Value.int IntKind.u8 0), li 0, Leaf.v (Value.string (ByteArray.mk #[]))] 0 (en (enE s k))) (BT.r 123 8 5))), (4, some (Blk.mk (splice [li 0, li 0, Leaf.v (Value.int IntKind.u8 0), Leaf.v (Value.int IntKind.u8 0), Leaf.v (Value.int IntKind.u8 0), Leaf.v (Value.int IntKind.u8 0), li 0, Leaf.v (Value.string (ByteArray.mk #[]))] 0 (en (enE s k))) (BT.r 123 8 4))), (3, some (Blk.mk [li (enE s k).X, li (enE s k).Y] (BT.t 40))), (3, some (Blk.mk [li 0, li 0] (BT.t 40))), (0, some (Blk.mk [Leaf.v (Value.string s), li (Nat.cast ((pt5 s (posn s k)).fst) : Int), lb (pt5 s (posn s k)).snd] (BT.t 174))), (0, some (Blk.mk [Leaf.v (Value.string s), li (Nat.cast ((pt4 s (posn s k)).fst) : Int), lb (pt4 s (posn s k)).snd] (BT.t 174))), (0, some (Blk.mk [Leaf.v (Value.string s), li (Nat.cast ((pt3 s (posn s k)).fst) : Int), lb (pt3 s (posn s k)).snd] (BT.t 174))), (0, some (Blk.mk [Leaf.v (Value.string s), li (Nat.cast ((pt2 s (posn s k)).fst) : Int), lb (pt2 s (posn s k)).snd] (BT.t 174))), (0, some (Blk.mk [Leaf.v (Value.string s), li (Nat.cast ((pt1 s (posn s k)).fst) : Int), lb (pt1 s (posn s k)).snd] (BT.t 174))), (0, some (Blk.mk [Leaf.v (Value.string s), li (Nat.cast ((posn s k)) : Int), lb false] (BT.t 174))), (1, some (Blk.mk (ens (ents s k)) (BT.r 123 8 1))), (2, some (Blk.mk (szs s k) (BT.r 3 1 2)))] 8 96 [7, 6, 5, 4, 3, 3, 0, 0, 0, 0, 0, 2, 1, 0] 0)))) (wkK 3 K (Exit.exit 0) (St.mk [(29, bv (decide ((Nat.cast k : Int) < (Nat.cast ((nN s)) : Int)))), (28, iv IntKind.i64 (Nat.cast k : Int)), (27, iv IntKind.i64 (Nat.cast ((nN s)) : Int)), (5, SV.c (Cp.l (Leaf.p 0 0))), (2, SV.c (Cp.l (Leaf.o 1 k))), (3, SV.c (Cp.l (Leaf.o 2 k)))] [(0, some (Blk.mk [Leaf.v (Value.string s), li (Nat.cast ((posn s k)) : Int), lb false] (BT.t 174))), (1, some (Blk.mk (ens (ents s k)) (BT.r 123 8 1))), (2, some (Blk.mk (szs s k) (BT.r 3 1 2)))] 3 96 [2, 1, 0] 0))) : WPL Tryz.prog ((getLoop 6 (Tryz.f62.body.getD .skip)).getD .skip) (I62 s k) (wkK 3 K) :=
  wp_round (cx := cz_R62p s k) rfl (of_eq (by kernel_rfl) h)
set_option maxRecDepth 100000 in
set_option maxHeartbeats 4000000 in
theorem L62p (s : ByteArray) (hs : s.size ≤ 1000000000000000000) (hn : nN s ≤ 1024) : ∀ (m k : Nat), (nN s) - k = m → k ≤ (nN s) → (∀ j, j < k → okE s j = true) → ∀ (K : Exit → St → Prop), ((∀ j, j < (nN s) → okE s j = true) → K (.exit 0) (I62 s (nN s))) → (∀ j, j < (nN s) → okE s j = false → K .ret (Q62)) → WPL Tryz.prog ((getLoop 6 (Tryz.f62.body.getD .skip)).getD .skip) (I62 s k) (wkK 3 K)
  | 0, k, hm, hk, hall, K, hK, hR => by
    have e : k = (nN s) := by omega
    subst e
    refine R62p s _ K (HB.mk (fun hne => absurd (of_decide_eq_true hne) (by omega)) (fun he => ?_))
    exact wkK.to (I62 s _) (Nat.le_refl _) (by kernel_rfl) (wkE_cons (LeN.sl (by kernel_rfl) rfl) (wkE_cons (LeN.sl (by kernel_rfl) rfl) (wkE_cons (LeN.sl (by kernel_rfl) rfl) (wkE_cons (LeN.sl (by kernel_rfl) rfl) (wkE_cons (LeN.sl (by kernel_rfl) rfl) trivial))))) (wkH_cons (BkN.blk (k := ⟨[.v (.string s), .v (.int .i64 (posn s (nN s) : Nat)), .v (.bool false)], .t 174⟩) (by kernel_rfl) (rfl) (by kernel_rfl)) (wkH_cons (BkN.plain (cs := ens (ents s (nN s))) (b := .r 123 8 1) (by kernel_rfl) (rfl) (plain_ens _) (by kernel_rfl)) (wkH_cons (BkN.plain (cs := szs s (nN s)) (b := .r 3 1 2) (by kernel_rfl) (rfl) (plain_szs _ _) (by kernel_rfl)) trivial))) (hK hall)
  | m + 1, k, hm, hk, hall, K, hK, hR => by
    refine R62p s k K (HB.mk (fun hne => ?_) (fun he => absurd (show ((k : Nat) : Int) < ((nN s) : Nat) by omega) (of_decide_eq_false he)))
    have hlt : k < (nN s) := by omega
    have hp0 := posn_le s k
    have hp1 := pt1_le hp0
    have hp2 := pt2_le hp0
    have hp3 := pt3_le hp0
    have hp4 := pt4_le hp0
    have hp5 := pt5_le hp0
    repeat' (first | exact trivial | with_reducible apply And.intro | (with_reducible apply HB.mk) | with_reducible intro _)
    all_goals first
      | (assumption)
      | (with_reducible exact Le.refl _)
      | (with_reducible rfl)
      | ((with_reducible first | exact rd1 _ _ hs hp0 _ _ | exact rd2 _ _ hs hp0 _ _ | exact rd5 _ _ hs hp0 _ _))
      | ((with_reducible exact rd6 _ _ _ _))
      | ((with_reducible exact rd3 _ _ hs hp0 _ _))
      | ((with_reducible exact rd4 _ _ hs hp0 _ _))
      | (with_reducible exact C126 _ _ _ _ _)
      | ((with_reducible exact C127 _ (prQ_size (bad1_f (by with_reducible assumption)).1) _))
      | (exact ⟨by have := gk ‹_›; omega, by omega⟩)
      | ((have := gk ‹_›; rw [ens_len, ents_len, kprev this]; omega))
      | ((refine Le.int ?_; rfl))
      | (exact Le.of rfl)
      | ((have := gk ‹_›; refine Le.of ?_; simp only [kprev this, Nat.zero_add, Nat.add_zero]; rw [ens_pos (by rw [ents_len]; omega), ents_at s (by omega)]))
      | (exact Le.bool rfl)
      | ((refine Le.bool ?_; unfold bad2; rfl))
      | ((rw [ens_len, ents_len]; omega))
      | ((rw [szs_len]; omega))
      | ((with_reducible refine apB123 ?_; omega))
      | ((with_reducible refine apB3 ?_; omega))
      | (exact ok8192 _ (prX_bd _ _))
      | (exact ok8192 _ (prY_bd _ _))
      | ((have := gk ‹_›; exact okw _ (by omega) (by omega)))
      | (omega)
      | (have hcnd : bad1 s (posn s k) = false := (by with_reducible assumption); (with_reducible refine RoundTo.toN 6 (I62 s (k + 1)) ?_ ?_ ?_ ?_ ?_); exact Nat.le_refl _; kernel_rfl; exact (wkE_cons (LeN.sl (by kernel_rfl) rfl) (wkE_cons (LeN.sl (by kernel_rfl) rfl) (wkE_cons (LeN.sl (by kernel_rfl) rfl) (wkE_cons (LeN.sl (by kernel_rfl) rfl) (wkE_cons (LeN.sl (by kernel_rfl) rfl) trivial))))); exact (wkH_cons (BkN.blk (k := ⟨[.v (.string s), .v (.int .i64 ((pt5 s (posn s k)).1 : Nat)), .v (.bool (pt5 s (posn s k)).2)], .t 174⟩) (by kernel_rfl) (by rw [(bad1_f hcnd).1]; rfl) (by kernel_rfl)) (wkH_cons (BkN.plain (cs := ens (ents s k) ++ en (enE s k)) (b := .r 123 8 1) (by kernel_rfl) (ents_next s k) (plain_ens _) (by kernel_rfl)) (wkH_cons (BkN.plain (cs := szs s k ++ [li (szE s k)]) (b := .r 3 1 2) (by kernel_rfl) (szs_next s k) (plain_szs _ _) (by kernel_rfl)) trivial))); exact (L62p s hs hn m (k + 1) (by omega) (by omega) (fun j hj => by rcases Nat.lt_or_ge j k with h | h; exact hall j h; have e : j = k := (by omega); subst e; exact okE_t hcnd (by with_reducible assumption)) K hK hR))
      | (have hcnd : bad1 s (posn s k) = false := (by with_reducible assumption); (with_reducible refine RoundTo.reH 7 6 [(1, some 5)] (I62 s (k + 1)) ?_ ?_ ?_ ?_); kernel_rfl; exact (wkER_cons (LeR.of (by kernel_rfl)) (wkER_cons (LeR.of (by kernel_rfl)) (wkER_cons (LeR.of (by kernel_rfl)) (wkER_cons (LeR.of (by kernel_rfl)) (wkER_cons (LeR.of (by kernel_rfl)) trivial))))); exact (wkHR_cons (j := 0) rfl (BkM.blk (k := ⟨[.v (.string s), .v (.int .i64 ((pt5 s (posn s k)).1 : Nat)), .v (.bool (pt5 s (posn s k)).2)], .t 174⟩) (k'' := ⟨[.v (.string s), .v (.int .i64 ((pt5 s (posn s k)).1 : Nat)), .v (.bool (pt5 s (posn s k)).2)], .t 174⟩) (by kernel_rfl) (by kernel_rfl) (by rw [(bad1_f hcnd).1]; rfl)) (wkHR_cons (j := 5) rfl (BkM.plain (cs := ens (ents s k) ++ en (enE s k)) (b := .r 123 8 5) (by kernel_rfl) (ents_next s k) (plain_ens _) (by kernel_rfl)) (wkHR_cons (j := 2) rfl (BkM.plain (cs := szs s k ++ [li (szE s k)]) (b := .r 3 1 2) (by kernel_rfl) (szs_next s k) (plain_szs _ _) (by kernel_rfl)) trivial))); exact (L62p s hs hn m (k + 1) (by omega) (by omega) (fun j hj => by rcases Nat.lt_or_ge j k with h | h; exact hall j h; have e : j = k := (by omega); subst e; exact okE_t hcnd (by with_reducible assumption)) K hK hR))
      | (have hcnd : bad1 s (posn s k) = false := (by with_reducible assumption); (with_reducible refine RoundTo.reH 7 5 [(2, some 6)] (I62 s (k + 1)) ?_ ?_ ?_ ?_); kernel_rfl; exact (wkER_cons (LeR.of (by kernel_rfl)) (wkER_cons (LeR.of (by kernel_rfl)) (wkER_cons (LeR.of (by kernel_rfl)) (wkER_cons (LeR.of (by kernel_rfl)) (wkER_cons (LeR.of (by kernel_rfl)) trivial))))); exact (wkHR_cons (j := 0) rfl (BkM.blk (k := ⟨[.v (.string s), .v (.int .i64 ((pt5 s (posn s k)).1 : Nat)), .v (.bool (pt5 s (posn s k)).2)], .t 174⟩) (k'' := ⟨[.v (.string s), .v (.int .i64 ((pt5 s (posn s k)).1 : Nat)), .v (.bool (pt5 s (posn s k)).2)], .t 174⟩) (by kernel_rfl) (by kernel_rfl) (by rw [(bad1_f hcnd).1]; rfl)) (wkHR_cons (j := 1) rfl (BkM.plain (cs := ens (ents s k) ++ en (enE s k)) (b := .r 123 8 1) (by kernel_rfl) (ents_next s k) (plain_ens _) (by kernel_rfl)) (wkHR_cons (j := 6) rfl (BkM.plain (cs := szs s k ++ [li (szE s k)]) (b := .r 3 1 6) (by kernel_rfl) (szs_next s k) (plain_szs _ _) (by kernel_rfl)) trivial))); exact (L62p s hs hn m (k + 1) (by omega) (by omega) (fun j hj => by rcases Nat.lt_or_ge j k with h | h; exact hall j h; have e : j = k := (by omega); subst e; exact okE_t hcnd (by with_reducible assumption)) K hK hR))
      | (have hcnd : bad1 s (posn s k) = false := (by with_reducible assumption); (with_reducible refine RoundTo.reN 8 [(1, some 5), (2, some 7)] (I62 s (k + 1)) ?_ ?_ ?_ ?_); kernel_rfl; exact (wkER_cons (LeR.of (by kernel_rfl)) (wkER_cons (LeR.of (by kernel_rfl)) (wkER_cons (LeR.of (by kernel_rfl)) (wkER_cons (LeR.of (by kernel_rfl)) (wkER_cons (LeR.of (by kernel_rfl)) trivial))))); exact (wkHR_cons (j := 0) rfl (BkM.blk (k := ⟨[.v (.string s), .v (.int .i64 ((pt5 s (posn s k)).1 : Nat)), .v (.bool (pt5 s (posn s k)).2)], .t 174⟩) (k'' := ⟨[.v (.string s), .v (.int .i64 ((pt5 s (posn s k)).1 : Nat)), .v (.bool (pt5 s (posn s k)).2)], .t 174⟩) (by kernel_rfl) (by kernel_rfl) (by rw [(bad1_f hcnd).1]; rfl)) (wkHR_cons (j := 5) rfl (BkM.plain (cs := ens (ents s k) ++ en (enE s k)) (b := .r 123 8 5) (by kernel_rfl) (ents_next s k) (plain_ens _) (by kernel_rfl)) (wkHR_cons (j := 7) rfl (BkM.plain (cs := szs s k ++ [li (szE s k)]) (b := .r 3 1 7) (by kernel_rfl) (szs_next s k) (plain_szs _ _) (by kernel_rfl)) trivial))); exact (L62p s hs hn m (k + 1) (by omega) (by omega) (fun j hj => by rcases Nat.lt_or_ge j k with h | h; exact hall j h; have e : j = k := (by omega); subst e; exact okE_t hcnd (by with_reducible assumption)) K hK hR))
      | (exact wkK.to (Q62) (Nat.le_refl _) (by kernel_rfl) (wkE_cons (LeN.sl (by kernel_rfl) rfl) (wkE_cons (LeN.sl (by kernel_rfl) rfl) (wkE_cons (LeN.sl (by kernel_rfl) rfl) trivial))) trivial (hR k hlt ((by first | exact okE_1 (by with_reducible assumption) | exact okE_2 (by with_reducible assumption)))))
      | (exact okw _ (by omega) (by omega))
      | (exact Le.of rfl)
      | (exact BkR.of rfl)
      | (unfold SlOK; omega)
      | (unfold SlOK; decide)
      | (unfold inByte; decide)
      | (simp only [*, Bool.and_self, Bool.not_false, Bool.not_true]; done)
      | (simp_all [wants]; done)
end Ab
end Go.Proofs.YtpdckpifhniioaaGreat
end
section
set_option linter.unusedVariables false
set_option linter.unusedSimpArgs false
namespace Go.Proofs.YtpdckpifhniioaaGreat
open Go.RowKit
namespace Ab
attribute [local irreducible] CallOKd
def parseB (s : ByteArray) : Bool := bif hdBad s then false else bif (List.range (nN s)).all (okE s) then !decide ((s.size : Int) - ((posn s (nN s) : Nat) : Int) > 0) else false
theorem parse_no {s : ByteArray} {j : Nat} (hj : j < nN s) (h : okE s j = false) : parseB s = false := by
  unfold parseB
  have : (List.range (nN s)).all (okE s) = false := by
    rw [List.all_eq_false]
    exact ⟨j, List.mem_range.2 hj, by rw [h]; decide⟩
  rw [this]
  cases hdBad s <;> rfl
theorem parse_hd {s : ByteArray} (h : hdBad s = true) : parseB s = false := by unfold parseB; rw [h]; rfl
theorem parse_val {s : ByteArray} (h1 : hdBad s = false) (h2 : ∀ j, j < nN s → okE s j = true) : parseB s = !decide ((s.size : Int) - ((posn s (nN s) : Nat) : Int) > 0) := by
  unfold parseB
  have : (List.range (nN s)).all (okE s) = true := by
    rw [List.all_eq_true]
    exact fun j hj => h2 j (List.mem_range.1 hj)
  rw [h1, this]; rfl
theorem parse_f {s : ByteArray} (h : parseB s = true) : hdBad s = false ∧ (∀ j, j < nN s → okE s j = true) ∧ posn s (nN s) = s.size := by
  have h1 : hdBad s = false := by
    cases e : hdBad s with
    | false => rfl
    | true => rw [parse_hd e] at h; cases h
  have h2 : ∀ j, j < nN s → okE s j = true := fun j hj => by
    cases e : okE s j with
    | true => rfl
    | false => rw [parse_no hj e] at h; cases h
  refine ⟨h1, h2, ?_⟩
  rw [parse_val h1 h2] at h
  have h3 := posn_le s (nN s)
  have h4 : ¬ ((s.size : Int) - ((posn s (nN s) : Nat) : Int) > 0) := by simpa using h
  omega
theorem LeR.nilS {l : List (Nat × Option Nat)} {S : St} {n t i : Nat} (h : S.sl t = .c (.l (.v (.slice none 0 0)))) (hi : i < n) (hs : sg l i = none) : LeR l n (S.sl t) (.c (.l (.o i 0))) := by
  rw [h]; exact fun β y hd => LfR.nil hi hs β y hd
theorem parse_l {s : ByteArray} (h1 : hdBad s = false) (h2 : ∀ j, j < nN s → okE s j = true) (h3 : decide ((s.size : Int) - ((posn s (nN s) : Nat) : Int) > 0) = true) : parseB s = false := by rw [parse_val h1 h2, h3]; rfl
theorem parse_y {s : ByteArray} (h1 : hdBad s = false) (h2 : ∀ j, j < nN s → okE s j = true) (h3 : decide ((s.size : Int) - ((posn s (nN s) : Nat) : Int) > 0) = false) : parseB s = true := by rw [parse_val h1 h2, h3]; rfl
theorem rd0 (s : ByteArray) (hs : s.size ≤ 1000000000000000000) (id n : Nat) : CallOK Tryz.prog 125 [.c (.l (.p id 0))] [(id, ⟨[.v (.string s), .v (.int .i64 0), .v (.bool false)], .t 174⟩)] n (iv .i64 (nP s)) [(id, ⟨[.v (.string s), .v (.int .i64 (posn s 0 : Nat)), .v (.bool (Oct.varRes s 0 false).2.2)], .t 174⟩)] 0 := C125 id s (0 : Nat) false hs (by decide) (Int.natCast_nonneg _) n
theorem rd7 (s : ByteArray) (k : Nat) (hs : s.size ≤ 1000000000000000000) (f : Bool) (id n : Nat) : CallOK Tryz.prog 63 [.c (.l (.p id 0))] [(id, ⟨[.v (.string s), .v (.int .i64 (posn s k : Nat)), .v (.bool f)], .t 174⟩)] n (iv .i64 (s.size - (posn s k : Nat))) [] 0 := C63 id s (posn s k : Nat) f hs (Int.natCast_nonneg _) (Int.ofNat_le.2 (posn_le s k)) n
theorem rd8 (s : ByteArray) (p : Nat) (f : Bool) (id n : Nat) : CallOK Tryz.prog 61 [.c (.l (.p id 0))] [(id, ⟨[.v (.string s), .v (.int .i64 (p : Nat)), .v (.bool f)], .t 174⟩)] n (bv f) [] 0 := C61 id s (p : Nat) f (Int.natCast_nonneg _) n
theorem enters62 : Enters Tryz.prog 62 := fun args w => by go_simp
def cz_C62k (s : ByteArray) : Cz := {
  ct := (fun f => match f with
  | 58 => some fun _ _S ar => match ar with | [.c (.l (.v (.string s)))] => some { v := .c (.l (.p _S.n 0)), rd := [], wr := [(_S.n, ⟨[.v (.string s), .v (.int .i64 0), .v (.bool false)], .t 174⟩)], nw := 1 } | _ => none
  | 61 => some fun _ _S ar => match ar with | [.c (.l (.p i _))] => some { v := bv (Oct.varRes s 0 false).2.2, rd := [i], wr := [], nw := 0 } | _ => none
  | 63 => some fun _ _S ar => match ar with | [.c (.l (.p i _))] => some { v := iv .i64 (s.size - (posn s (nN s) : Nat)), rd := [i], wr := [], nw := 0 } | _ => none
  | 125 => some fun _ _S ar => match ar with | [.c (.l (.p i _))] => some { v := iv .i64 (nP s), rd := [i], wr := [(i, ⟨[.v (.string s), .v (.int .i64 (posn s 0 : Nat)), .v (.bool (Oct.varRes s 0 false).2.2)], .t 174⟩)], nw := 0 } | _ => none
  | _ => none)
  eq := (fun t => match t with
  | _ => none)
  raw := [], sym := [], nf := [(26, bv (hdBad s))], ap := true, off := [], on := [], lp := fun r => match r with | 6 => some (fun _ K => ((∀ j, j < (nN s) → okE s j = true) → K (.exit 0) (I62 s (nN s))) ∧ (∀ j, j < (nN s) → okE s j = false → K .ret (Q62))) | _ => none, un := 0 }
set_option maxRecDepth 100000 in
set_option maxHeartbeats 400000 in
theorem C62k (s : ByteArray) (hs : s.size ≤ 1000000000000000000) (hb : parseB s = true) : CallOK Tryz.prog 62 [.c (.l (.v (.string s)))] [] 0 (.tup [.l (.o 0 (nN s)), .l (.o 1 (nN s)), .l (li 0)]) [(0, ⟨ens (ents s (nN s)), .r 123 8 0⟩), (1, ⟨szs s (nN s), .r 3 1 1⟩)] 2 := by
  refine call_ok (cx := cz_C62k s) (nm := [1, 2]) rfl Tryz.func62 (body := Tryz.f62.body.getD .skip) rfl enters62 (by kernel_rfl) ?_
  apply of_eq (q := CallOKd Tryz.prog 58 [] [SV.c (Cp.l (Leaf.v (Value.string s)))] [] 0 (SV.c (Cp.l (Leaf.p 0 0))) [(0, Blk.mk [Leaf.v (Value.string s), li 0, lb false] (BT.t 174))] 1 ∧ CallOKd Tryz.prog 125 [] [SV.c (Cp.l (Leaf.p 0 0))] [(0, Blk.mk [Leaf.v (Value.string s), li 0, lb false] (BT.t 174))] 1 (iv IntKind.i64 (nP s)) [(0, Blk.mk [Leaf.v (Value.string s), li (Nat.cast ((posn s 0)) : Int), lb (Oct.varRes s 0 false).snd.snd] (BT.t 174))] 0 ∧ CallOKd Tryz.prog 61 [] [SV.c (Cp.l (Leaf.p 0 0))] [(0, Blk.mk [Leaf.v (Value.string s), li (Nat.cast ((posn s 0)) : Int), lb (Oct.varRes s 0 false).snd.snd] (BT.t 174))] 1 (bv (Oct.varRes s 0 false).snd.snd) [] 0 ∧ ((!(Oct.varRes s 0 false).snd.snd) = true → (!(Oct.varRes s 0 false).snd.snd) = true ∧ True) ∧ ((Oct.varRes s 0 false).snd.snd = false → (!(Oct.varRes s 0 false).snd.snd) = true) ∧ ((!bif (Oct.varRes s 0 false).snd.snd then true else decide (nP s < 0)) = true → (!bif (Oct.varRes s 0 false).snd.snd then true else decide (nP s < 0)) = true ∧ True) ∧ ((bif (Oct.varRes s 0 false).snd.snd then true else decide (nP s < 0)) = false → (!bif (Oct.varRes s 0 false).snd.snd then true else decide (nP s < 0)) = true) ∧ Le (bv (bif bif (Oct.varRes s 0 false).snd.snd then true else decide (nP s < 0) then true else decide (nP s > 1024))) (bv (hdBad s)) ∧ HB (hdBad s) (Le (SV.tup [Cp.l (Leaf.v (Value.slice none 0 0)), Cp.l (Leaf.v (Value.slice none 0 0)), Cp.l (li 11)]) (SV.tup [Cp.l (Leaf.o 0 (nN s)), Cp.l (Leaf.o 1 (nN s)), Cp.l (li 0)]) ∧ False) ((LoopOK Tryz.prog ((getLoop 6 (Tryz.f62.body.getD .skip)).getD .skip) (St.mk [(28, iv IntKind.i64 0), (27, iv IntKind.i64 (nP s)), (26, bv (hdBad s)), (25, SV.g (!bif (Oct.varRes s 0 false).snd.snd then true else decide (nP s < 0)) (Cp.l (lb (decide (nP s > 1024))))), (24, SV.g (!bif (Oct.varRes s 0 false).snd.snd then true else decide (nP s < 0)) (Cp.l (li (nP s)))), (23, bv (bif (Oct.varRes s 0 false).snd.snd then true else decide (nP s < 0))), (22, bv (bif (Oct.varRes s 0 false).snd.snd then true else decide (nP s < 0))), (21, SV.g (!(Oct.varRes s 0 false).snd.snd) (Cp.l (lb (decide (nP s < 0))))), (20, SV.g (!(Oct.varRes s 0 false).snd.snd) (Cp.l (li (nP s)))), (19, bv (Oct.varRes s 0 false).snd.snd), (18, bv (Oct.varRes s 0 false).snd.snd), (17, SV.c (Cp.l (Leaf.p 0 0))), (6, iv IntKind.i64 (nP s)), (16, iv IntKind.i64 (nP s)), (15, SV.c (Cp.l (Leaf.p 0 0))), (5, SV.c (Cp.l (Leaf.p 0 0))), (14, SV.c (Cp.l (Leaf.p 0 0))), (13, SV.c (Cp.l (Leaf.v (Value.string s)))), (4, iv IntKind.i64 0), (3, SV.c (Cp.l (Leaf.v (Value.slice none 0 0)))), (2, SV.c (Cp.l (Leaf.v (Value.slice none 0 0)))), (0, SV.c (Cp.l (Leaf.v (Value.string s))))] [(0, some (Blk.mk [Leaf.v (Value.string s), li (Nat.cast ((posn s 0)) : Int), lb (Oct.varRes s 0 false).snd.snd] (BT.t 174))), (0, some (Blk.mk [Leaf.v (Value.string s), li 0, lb false] (BT.t 174)))] 1 96 [0, 0] 0) fun K => ((∀ (j : Nat), j < nN s → okE s j = true) → K (Exit.exit 0) (I62 s (nN s))) ∧ ∀ (j : Nat), j < nN s → okE s j = false → K Exit.ret Q62) ∧ ((∀ (j : Nat), j < nN s → okE s j = true) → CallOKd Tryz.prog 63 [] [SV.c (Cp.l (Leaf.p 0 0))] [(0, Blk.mk [Leaf.v (Value.string s), li (Nat.cast ((posn s (nN s))) : Int), lb false] (BT.t 174))] 3 (iv IntKind.i64 ((Nat.cast s.size : Int) - (Nat.cast ((posn s (nN s))) : Int))) [] 0 ∧ HB (decide ((Nat.cast s.size : Int) - (Nat.cast ((posn s (nN s))) : Int) > 0)) (Le (SV.tup [Cp.l (Leaf.v (Value.slice none 0 0)), Cp.l (Leaf.v (Value.slice none 0 0)), Cp.l (li 11)]) (SV.tup [Cp.l (Leaf.o 0 (nN s)), Cp.l (Leaf.o 1 (nN s)), Cp.l (li 0)]) ∧ BkR (rnId 0 0 [1, 2]) (Blk.mk (ens (ents s (nN s))) (BT.r 123 8 1)) (Blk.mk (ens (ents s (nN s))) (BT.r 123 8 0)) ∧ BkR (rnId 0 0 [1, 2]) (Blk.mk (szs s (nN s)) (BT.r 3 1 2)) (Blk.mk (szs s (nN s)) (BT.r 3 1 1)) ∧ True) (Le (SV.tup [Cp.l (Leaf.o 0 (nN s)), Cp.l (Leaf.o 1 (nN s)), Cp.l (li 0)]) (SV.tup [Cp.l (Leaf.o 0 (nN s)), Cp.l (Leaf.o 1 (nN s)), Cp.l (li 0)]) ∧ BkR (rnId 0 0 [1, 2]) (Blk.mk (ens (ents s (nN s))) (BT.r 123 8 1)) (Blk.mk (ens (ents s (nN s))) (BT.r 123 8 0)) ∧ BkR (rnId 0 0 [1, 2]) (Blk.mk (szs s (nN s)) (BT.r 3 1 2)) (Blk.mk (szs s (nN s)) (BT.r 3 1 1)) ∧ True)) ∧ ∀ (j : Nat), j < nN s → okE s j = false → Le (SV.tup [Cp.l (Leaf.v (Value.slice none 0 0)), Cp.l (Leaf.v (Value.slice none 0 0)), Cp.l (li 11)]) (SV.tup [Cp.l (Leaf.o 0 (nN s)), Cp.l (Leaf.o 1 (nN s)), Cp.l (li 0)]) ∧ False)) (by kernel_rfl)
  repeat' (first | exact trivial | with_reducible apply And.intro | (with_reducible apply HB.mk) | with_reducible intro _)
  all_goals first
    | (assumption)
    | (with_reducible exact Le.refl _)
    | (with_reducible rfl)
    | ((with_reducible exact C58 _ _))
    | ((with_reducible exact rd8 _ _ _ _ _))
    | ((with_reducible exact rd7 _ _ hs _ _ _))
    | ((with_reducible exact rd0 _ hs _ _))
    | (exact LoopOK.re [(1, none), (2, none)] (I62 s 0) (by kernel_rfl) (wkER_cons (LeR.of (by kernel_rfl)) (wkER_cons (LeR.sl_int (y := nP s) (by kernel_rfl) ((hdBad_f ‹hdBad s = false›).2.1)) (wkER_cons (LeR.of (by kernel_rfl)) (wkER_cons (LeR.nilS (by kernel_rfl) (show 1 < 3 by decide) rfl) (wkER_cons (LeR.nilS (by kernel_rfl) (show 2 < 3 by decide) rfl) trivial))))) (wkHR_cons (j := 0) rfl (BkM.blk (k := ⟨[.v (.string s), .v (.int .i64 (posn s 0 : Nat)), .v (.bool (Oct.varRes s 0 false).2.2)], .t 174⟩) (k'' := ⟨[.v (.string s), .v (.int .i64 (posn s 0 : Nat)), .v (.bool (Oct.varRes s 0 false).2.2)], .t 174⟩) (by kernel_rfl) (by kernel_rfl) (by rw [(hdBad_f ‹hdBad s = false›).1])) (wkHR_nil rfl (wkHR_nil rfl trivial))) (fun K hT => L62p s hs (hdBad_f ‹hdBad s = false›).2.2 _ 0 rfl (Nat.zero_le _) (fun j hj => absurd hj (Nat.not_lt_zero j)) K hT.1 hT.2))
    | (exact Le.bool rfl)
    | (exact Le.of rfl)
    | (exact BkR.plain rfl (plain_ens _) (by kernel_rfl))
    | (exact BkR.plain rfl (plain_szs _ _) (by kernel_rfl))
    | (exact absurd (hb.symm.trans (parse_hd (by with_reducible assumption))) (by decide))
    | (exact absurd (hb.symm.trans (parse_no (by with_reducible assumption) (by with_reducible assumption))) (by decide))
    | (exact absurd (hb.symm.trans (parse_l (by with_reducible assumption) (by with_reducible assumption) (by with_reducible assumption))) (by decide))
    | (exact okw _ (by omega) (by omega))
    | (exact Le.of rfl)
    | (exact BkR.of rfl)
    | (unfold SlOK; omega)
    | (unfold SlOK; decide)
    | (unfold inByte; decide)
    | (simp only [*, Bool.and_self, Bool.not_false, Bool.not_true]; done)
    | (simp_all [wants]; done)
end Ab
end Go.Proofs.YtpdckpifhniioaaGreat
end
section
set_option linter.unusedVariables false
set_option linter.unusedSimpArgs false
namespace Go.Proofs.YtpdckpifhniioaaGreat
open Go.RowKit
namespace Ab
attribute [local irreducible] CallOKd
def opR (s : ByteArray) : ByteArray := (cutP s ⟨#[71, 1]⟩).1
def opC (s : ByteArray) : Bool := (cutP s ⟨#[71, 1]⟩).2
def ot1 (s : ByteArray) : Nat × Bool := (Oct.textRes (opR s) 0 false).2
def opI (s : ByteArray) : ByteArray := (Oct.textRes (opR s) 0 false).1
def ot2 (s : ByteArray) : Nat × Bool := (Oct.takeRes (opR s) (ot1 s).1 (ot1 s).2 (Oct.sz 4)).2
def opS (s : ByteArray) : Int := numV (opR s) (ot1 s).1 (ot1 s).2 4
def tot (s : ByteArray) : Nat → Int
  | 0 => 0
  | k + 1 => tot s k + szE s k
/-- b, but not to be computed. -/
def stB (s : ByteArray) (b : Bool) : Bool := match s.data.toList with | [] => b | _ :: _ => b
def opNe (s : ByteArray) : Bool := stB s (opS s != sumI (opI s))
def opT (s : ByteArray) : Int := tot (opI s) (nN (opI s))
def opLf (s : ByteArray) : Int := ((opR s).size : Int) - (((ot2 s).1 : Nat) : Int)
/-- What Open returns as its error. -/
def openE (s : ByteArray) : Int := bif !opC s then 11 else bif (ot2 s).2 then 10 else bif opNe s then 12 else bif !parseB (opI s) then 11 else bif decide (opLf s < opT s) then 10 else bif decide (opLf s > opT s) then 11 else 0
def bpos (s : ByteArray) (k : Nat) : Nat := (ot2 s).1 + (tot (opI s) k).toNat
def blE (s : ByteArray) (k : Nat) : ByteArray := (Oct.takeRes (opR s) (bpos s k) false (szE (opI s) k)).1
def EN.bl (e : EN) (b : ByteArray) : EN := { e with blob := b }
def mixE (s : ByteArray) (k : Nat) : List EN := (List.range (nN (opI s))).map fun j => if j < k then (enE (opI s) j).bl (blE s j) else enE (opI s) j
/-- The entries of an opened file. -/
def openL (s : ByteArray) : List EN := (List.range (nN (opI s))).map fun j => (enE (opI s) j).bl (blE s j)
theorem stB_eq (s : ByteArray) (b : Bool) : stB s b = b := by unfold stB; split <;> rfl
theorem opNe_eq (s : ByteArray) : (opS s != sumI (opI s)) = opNe s := (stB_eq s _).symm
theorem szs_at' (s : ByteArray) {i j k : Nat} (e : i = j) (h : j < k) : (szs s k).getD i .u = li (szE s j) := by subst e; exact szs_at s h
theorem op7 (q : ByteArray) (h : q.size ≤ 1000000000000000000) (n : Nat) : CallOK Tryz.prog 53 [.c (.l (.v (.string q)))] [] n (iv .u32 (sumI q)) [] 0 := C53 q h n
theorem cutP_le (s t : ByteArray) : (cutP s t).1.size ≤ s.size := by
  unfold cutP
  cases hasP s t
  · exact Nat.le_refl _
  · show (s.extract t.size s.size).size ≤ _
    rw [ByteArray.size_extract]; omega
theorem opR_le (s : ByteArray) : (opR s).size ≤ s.size := cutP_le _ _
theorem text_le (s : ByteArray) (p : Nat) (f : Bool) (hp : p ≤ s.size) : (Oct.textRes s p f).2.1 ≤ s.size ∧ (Oct.textRes s p f).1.size ≤ s.size := by
  unfold Oct.textRes
  have h1 := Oct.takeRes_le s (Oct.varRes s p f).2.1 (Oct.varRes s p f).2.2 (Oct.varRes s p f).1 (Oct.varRes_le s p f hp)
  have h2 := Oct.takeRes_size s (Oct.varRes s p f).2.1 (Oct.varRes s p f).2.2 (Oct.varRes s p f).1
  simp only []
  split
  · exact ⟨hp, Nat.zero_le _⟩
  · exact ⟨h1, h2⟩
theorem ot1_le (s : ByteArray) : (ot1 s).1 ≤ (opR s).size := (text_le _ _ _ (Nat.zero_le _)).1
theorem opI_le (s : ByteArray) : (opI s).size ≤ (opR s).size := (text_le _ _ _ (Nat.zero_le _)).2
theorem ot2_le (s : ByteArray) : (ot2 s).1 ≤ (opR s).size := Oct.takeRes_le _ _ _ _ (ot1_le s)
theorem sz_bd {s : ByteArray} {j : Nat} (h : okE s j = true) : 1 ≤ szE s j ∧ szE s j ≤ 257 := by
  unfold okE at h
  have h1 : bad1 s (posn s j) = false := by
    cases e : bad1 s (posn s j) with
    | false => rfl
    | true => rw [e] at h; cases h
  exact (bad1_f h1).2.2.2
theorem tot_bd {s : ByteArray} {n : Nat} (h : ∀ j, j < n → okE s j = true) : ∀ k, k ≤ n → (k : Int) ≤ tot s k ∧ tot s k ≤ 257 * k
  | 0, _ => ⟨Int.le_refl _, Int.le_refl _⟩
  | k + 1, hk => by
    have h1 := tot_bd h k (by omega)
    have h2 := sz_bd (h k hk)
    show _ ≤ tot s k + szE s k ∧ tot s k + szE s k ≤ _
    omega
theorem tot_mono {s : ByteArray} {n : Nat} (h : ∀ j, j < n → okE s j = true) {k : Nat} : ∀ m, k + m ≤ n → tot s k ≤ tot s (k + m)
  | 0, _ => Int.le_refl _
  | m + 1, hk => by
    have h1 := tot_mono (k := k) h m (by omega)
    have h2 := sz_bd (h (k + m) (by omega))
    show _ ≤ tot s (k + m) + szE s (k + m)
    omega
theorem bl_step {s : ByteArray} (hp : parseB (opI s) = true) (hl : opLf s = opT s) {k : Nat} (hk : k < nN (opI s)) :
    Oct.takeRes (opR s) (bpos s k) false (szE (opI s) k) = ((opR s).extract (bpos s k) (bpos s (k + 1)), bpos s (k + 1), false) := by
  obtain ⟨_, hok, _⟩ := parse_f hp
  have h1 := tot_bd hok k (by omega)
  have h2 := sz_bd (hok k hk)
  have h3 := tot_mono hok (k := k + 1) (nN (opI s) - (k + 1)) (by omega)
  rw [show k + 1 + (nN (opI s) - (k + 1)) = nN (opI s) by omega] at h3
  have h4 : tot (opI s) (k + 1) = tot (opI s) k + szE (opI s) k := rfl
  have h5 : ((bpos s k : Nat) : Int) = ((ot2 s).1 : Nat) + tot (opI s) k := by unfold bpos; omega
  have h6 : bpos s k + (szE (opI s) k).toNat = bpos s (k + 1) := by unfold bpos; omega
  have h7 : ((opR s).size : Int) - (((ot2 s).1 : Nat) : Int) = tot (opI s) (nN (opI s)) := hl
  unfold Oct.takeRes
  rw [if_neg (by
    rintro (h | h | h)
    · cases h
    · omega
    · omega), h6]
theorem bpos_le {s : ByteArray} (hp : parseB (opI s) = true) (hl : opLf s = opT s) {k : Nat} (hk : k ≤ nN (opI s)) : bpos s k ≤ (opR s).size := by
  obtain ⟨_, hok, _⟩ := parse_f hp
  have h1 := tot_bd hok k hk
  have h3 := tot_mono hok (k := k) (nN (opI s) - k) (by omega)
  rw [show k + (nN (opI s) - k) = nN (opI s) by omega] at h3
  have h7 : ((opR s).size : Int) - (((ot2 s).1 : Nat) : Int) = tot (opI s) (nN (opI s)) := hl
  unfold bpos; omega
theorem nN_le {s : ByteArray} (hp : parseB s = true) : nN s ≤ 1024 := (hdBad_f (parse_f hp).1).2.2
theorem mixE_len (s : ByteArray) (k : Nat) : (mixE s k).length = nN (opI s) := by simp [mixE]
theorem openL_len (s : ByteArray) : (openL s).length = nN (opI s) := by simp [openL]
theorem mixE_zero (s : ByteArray) : mixE s 0 = ents (opI s) (nN (opI s)) := by
  unfold mixE ents
  exact List.map_congr_left fun j _ => if_neg (Nat.not_lt_zero j)
theorem mixE_all (s : ByteArray) : mixE s (nN (opI s)) = openL s := by
  unfold mixE openL
  exact List.map_congr_left fun j hj => if_pos (List.mem_range.1 hj)
theorem mixE_set (s : ByteArray) {k : Nat} (hk : k < nN (opI s)) : (mixE s k).set k ((enE (opI s) k).bl (blE s k)) = mixE s (k + 1) := by
  apply List.ext_getElem?
  intro i
  rw [List.getElem?_set, mixE_len]
  unfold mixE
  simp only [List.getElem?_map, List.getElem?_range]
  by_cases hi : i < nN (opI s)
  · rw [List.getElem?_range hi]
    by_cases e : k = i
    · subst e; rw [if_pos rfl, if_pos hk]; simp
    · rw [if_neg e]
      simp only [Option.map_some, Option.some.injEq]
      by_cases h1 : i < k
      · rw [if_pos h1, if_pos (by omega)]
      · rw [if_neg h1, if_neg (by omega)]
  · rw [if_neg (by omega : ¬ k = i), List.getElem?_eq_none (by rw [List.length_range]; omega)]; rfl
theorem mixE_at (s : ByteArray) {k : Nat} (hk : k < nN (opI s)) : ea (mixE s k) k = enE (opI s) k := by simp [ea, mixE, List.getD, hk]
theorem ens_blob : ∀ (l : List EN) (k : Nat) (b : ByteArray), k < l.length → (ens l).set (k * 8 + 7) (.v (.string b)) = ens (l.set k ((ea l k).bl b))
  | [], k, b, h => by simp at h
  | e :: l, 0, b, h => by simp [ens, ea, en, EN.bl]
  | e :: l, k + 1, b, h => by
    have ih := ens_blob l k b (by simpa using h)
    have e1 : ens (e :: l) = en e ++ ens l := by simp [ens]
    have e2 : ens ((e :: l).set (k + 1) ((ea (e :: l) (k + 1)).bl b)) = en e ++ ens (l.set k ((ea l k).bl b)) := by simp [ens, ea]
    rw [e1, e2, ← ih, List.set_append_right _ _ (by show 8 ≤ _; omega)]
    rw [show (en e).length = 8 from rfl, show (k + 1) * 8 + 7 - 8 = k * 8 + 7 by omega]
theorem mix_step (s : ByteArray) {k : Nat} (hk : k < nN (opI s)) : splice (ens (mixE s k)) (k * 8 + 7) [.v (.string (blE s k))] = ens (mixE s (k + 1)) := by
  show (ens (mixE s k)).set (k * 8 + 7) _ = _
  rw [ens_blob _ _ _ (by rw [mixE_len]; exact hk), mixE_at s hk, mixE_set s hk]
theorem ok_addT {s : ByteArray} {n k : Nat} (h : ∀ j, j < n → okE s j = true) (hk : k < n) (hn : n ≤ 1024) : IntKind.i64.wrap (tot s k + szE s k) = tot s k + szE s k := by
  have h1 := tot_bd h (k + 1) hk
  have h2 : tot s (k + 1) = tot s k + szE s k := rfl
  rw [h2] at h1
  generalize tot s k + szE s k = z at *
  exact okw _ (by omega) (by omega)
theorem op1 (s : ByteArray) (hs : s.size ≤ 1000000000000000000) (n : Nat) : CallOK Tryz.prog 57 [.c (.l (.v (.string s))), .c (.l (.v (.string ⟨#[71, 1]⟩)))] [] n (.tup [.l (.v (.string (opR s))), .l (.v (.bool (opC s)))]) [] 0 := C57 s _ hs n
theorem op2 (s : ByteArray) (hs : (opR s).size ≤ 1000000000000000000) (id n : Nat) : CallOK Tryz.prog 59 [.c (.l (.p id 0))] [(id, ⟨[.v (.string (opR s)), .v (.int .i64 0), .v (.bool false)], .t 174⟩)] n (.c (.l (.v (.string (opI s))))) [(id, ⟨[.v (.string (opR s)), .v (.int .i64 ((ot1 s).1 : Nat)), .v (.bool (ot1 s).2)], .t 174⟩)] 0 := C59 id (opR s) (0 : Nat) false hs (by decide) (Int.natCast_nonneg _) n
theorem op3 (s : ByteArray) (hs : (opR s).size ≤ 1000000000000000000) (id n : Nat) : CallOK Tryz.prog 60 [.c (.l (.p id 0)), iv .i64 4] [(id, ⟨[.v (.string (opR s)), .v (.int .i64 ((ot1 s).1 : Nat)), .v (.bool (ot1 s).2)], .t 174⟩)] n (iv .i64 (opS s)) [(id, ⟨[.v (.string (opR s)), .v (.int .i64 ((ot2 s).1 : Nat)), .v (.bool (ot2 s).2)], .t 174⟩)] 0 := C60 id (opR s) ((ot1 s).1 : Nat) (ot1 s).2 4 hs (Int.natCast_nonneg _) (Int.ofNat_le.2 (ot1_le s)) n
theorem op4 (s : ByteArray) (id n : Nat) : CallOK Tryz.prog 61 [.c (.l (.p id 0))] [(id, ⟨[.v (.string (opR s)), .v (.int .i64 ((ot2 s).1 : Nat)), .v (.bool (ot2 s).2)], .t 174⟩)] n (bv (ot2 s).2) [] 0 := C61 id (opR s) ((ot2 s).1 : Nat) (ot2 s).2 (Int.natCast_nonneg _) n
theorem op5 (s : ByteArray) (f : Bool) (hs : (opR s).size ≤ 1000000000000000000) (id n : Nat) : CallOK Tryz.prog 63 [.c (.l (.p id 0))] [(id, ⟨[.v (.string (opR s)), .v (.int .i64 ((ot2 s).1 : Nat)), .v (.bool f)], .t 174⟩)] n (iv .i64 (opLf s)) [] 0 := C63 id (opR s) ((ot2 s).1 : Nat) f hs (Int.natCast_nonneg _) (Int.ofNat_le.2 (ot2_le s)) n
theorem op6 (s : ByteArray) (hs : (opR s).size ≤ 1000000000000000000) (hp : parseB (opI s) = true) (hl : opLf s = opT s) {k : Nat} (hk : k < nN (opI s)) (id n : Nat) : CallOK Tryz.prog 64 [.c (.l (.p id 0)), iv .i64 (szE (opI s) k)] [(id, ⟨[.v (.string (opR s)), .v (.int .i64 (bpos s k : Nat)), .v (.bool false)], .t 174⟩)] n (.c (.l (.v (.string (blE s k))))) [(id, ⟨[.v (.string (opR s)), .v (.int .i64 (bpos s (k + 1) : Nat)), .v (.bool false)], .t 174⟩)] 0 := by
  have key := C64 id (opR s) (bpos s k : Nat) false (szE (opI s) k) hs (Int.natCast_nonneg _) (Int.ofNat_le.2 (bpos_le hp hl (Nat.le_of_lt hk))) n
  have e : ((bpos s k : Nat) : Int).toNat = bpos s k := rfl
  rw [e, show (Oct.takeRes (opR s) (bpos s k) false (szE (opI s) k)).2.1 = bpos s (k + 1) by rw [bl_step hp hl hk], show (Oct.takeRes (opR s) (bpos s k) false (szE (opI s) k)).2.2 = false by rw [bl_step hp hl hk]] at key
  exact key
theorem op_parse {s : ByteArray} (h : openE s = 0) : parseB (opI s) = true := by
  unfold openE at h
  cases h1 : opC s <;> cases h2 : (ot2 s).2 <;> cases h3 : opNe s <;> cases h4 : parseB (opI s) <;> simp_all
def I15a (s : ByteArray) (k : Nat) : St := ⟨[(47, iv .i64 (k : Nat)), (46, iv .i64 (nN (opI s) : Nat)), (45, .c (.l (.o 2 (nN (opI s))))), (12, iv .i64 (tot (opI s) k)), (6, .c (.l (.p 0 0))), (9, .c (.l (.o 1 (nN (opI s))))), (10, .c (.l (.o 2 (nN (opI s))))), (11, iv .i64 0)], [(0, some ⟨[.v (.string (opR s)), .v (.int .i64 ((ot2 s).1 : Nat)), .v (.bool false)], .t 174⟩), (1, some ⟨ens (ents (opI s) (nN (opI s))), .r 123 8 1⟩), (2, some ⟨szs (opI s) (nN (opI s)), .r 3 1 2⟩)], 3, 87, [2, 1, 0], (0)⟩
def I15b (s : ByteArray) (k : Nat) : St := ⟨[(71, iv .i64 (k : Nat)), (70, iv .i64 (nN (opI s) : Nat)), (69, .c (.l (.o 2 (nN (opI s))))), (6, .c (.l (.p 0 0))), (9, .c (.l (.o 1 (nN (opI s)))))], [(0, some ⟨[.v (.string (opR s)), .v (.int .i64 (bpos s k : Nat)), .v (.bool false)], .t 174⟩), (1, some ⟨ens (mixE s k), .r 123 8 1⟩), (2, some ⟨szs (opI s) (nN (opI s)), .r 3 1 2⟩)], 3, 87, [2, 1, 0], (0)⟩
def cz_R15a (s : ByteArray) (k : Nat) : Cz := {
  ct := (fun f => match f with
  | _ => none)
  eq := (fun t => match t with
  | _ => none)
  raw := [], sym := [49, 50], nf := [(50, iv .i64 (szE (opI s) k)), (53, iv .i64 (tot (opI s) (k + 1)))], ap := true, off := [], on := [], lp := fun _ => none, un := 0 }
set_option maxRecDepth 100000 in
theorem R15a (s : ByteArray) (k : Nat)  (K : Exit → St → Prop) (h : HB (decide ((Nat.cast k : Int) < (Nat.cast ((nN (opI s))) : Int))) (InR ((Nat.cast k : Int)) (nN (opI s)) ∧ ((Nat.cast k : Int)).toNat * 1 < (szs (opI s) (nN (opI s))).length ∧ Le (SV.c (Cp.l ((szs (opI s) (nN (opI s))).getD (((Nat.cast k : Int)).toNat * 1) Leaf.u))) (iv IntKind.i64 (szE (opI s) k)) ∧ IntKind.i64.wrap (tot (opI s) k + szE (opI s) k) = tot (opI s) k + szE (opI s) k ∧ Le (iv IntKind.i64 (tot (opI s) k + szE (opI s) k)) (iv IntKind.i64 (tot (opI s) (k + 1))) ∧ IntKind.i64.wrap ((Nat.cast k : Int) + 1) = (Nat.cast k : Int) + 1 ∧ RoundTo Tryz.prog ((getLoop 13 (Tryz.f15.body.getD Code.skip)).getD Code.skip) 3 (wkK 3 K) (St.mk [(47, iv IntKind.i64 ((Nat.cast k : Int) + 1)), (54, iv IntKind.i64 ((Nat.cast k : Int) + 1)), (12, iv IntKind.i64 (tot (opI s) (k + 1))), (53, iv IntKind.i64 (tot (opI s) (k + 1))), (52, iv IntKind.i64 (szE (opI s) k)), (51, iv IntKind.i64 (tot (opI s) k)), (14, iv IntKind.i64 (szE (opI s) k)), (50, iv IntKind.i64 (szE (opI s) k)), (49, SV.c (Cp.l (Leaf.p 2 (((Nat.cast k : Int)).toNat * 1)))), (48, bv (decide ((Nat.cast k : Int) < (Nat.cast ((nN (opI s))) : Int)))), (47, iv IntKind.i64 (Nat.cast k : Int)), (46, iv IntKind.i64 (Nat.cast ((nN (opI s))) : Int)), (45, SV.c (Cp.l (Leaf.o 2 (nN (opI s))))), (12, iv IntKind.i64 (tot (opI s) k)), (6, SV.c (Cp.l (Leaf.p 0 0))), (9, SV.c (Cp.l (Leaf.o 1 (nN (opI s))))), (10, SV.c (Cp.l (Leaf.o 2 (nN (opI s))))), (11, iv IntKind.i64 0)] [(0, some (Blk.mk [Leaf.v (Value.string (opR s)), li (Nat.cast ((ot2 s).fst) : Int), lb false] (BT.t 174))), (1, some (Blk.mk (ens (ents (opI s) (nN (opI s)))) (BT.r 123 8 1))), (2, some (Blk.mk (szs (opI s) (nN (opI s))) (BT.r 3 1 2)))] 3 87 [2, 1, 0] 0)) (wkK 3 K (Exit.exit 1) (St.mk [(48, bv (decide ((Nat.cast k : Int) < (Nat.cast ((nN (opI s))) : Int)))), (47, iv IntKind.i64 (Nat.cast k : Int)), (46, iv IntKind.i64 (Nat.cast ((nN (opI s))) : Int)), (45, SV.c (Cp.l (Leaf.o 2 (nN (opI s))))), (12, iv IntKind.i64 (tot (opI s) k)), (6, SV.c (Cp.l (Leaf.p 0 0))), (9, SV.c (Cp.l (Leaf.o 1 (nN (opI s))))), (10, SV.c (Cp.l (Leaf.o 2 (nN (opI s))))), (11, iv IntKind.i64 0)] [(0, some (Blk.mk [Leaf.v (Value.string (opR s)), li (Nat.cast ((ot2 s).fst) : Int), lb false] (BT.t 174))), (1, some (Blk.mk (ens (ents (opI s) (nN (opI s)))) (BT.r 123 8 1))), (2, some (Blk.mk (szs (opI s) (nN (opI s))) (BT.r 3 1 2)))] 3 87 [2, 1, 0] 0))) : WPL Tryz.prog ((getLoop 13 (Tryz.f15.body.getD .skip)).getD .skip) (I15a s k) (wkK 3 K) :=
  wp_round (cx := cz_R15a s k) rfl (of_eq (by kernel_rfl) h)
set_option maxRecDepth 100000 in
set_option maxHeartbeats 4000000 in
theorem L15a (s : ByteArray) (hok : ∀ j, j < (nN (opI s)) → okE (opI s) j = true) (hn : (nN (opI s)) ≤ 1024) : ∀ (m k : Nat), (nN (opI s)) - k = m → k ≤ (nN (opI s)) → ∀ (K : Exit → St → Prop), K (.exit 1) (I15a s (nN (opI s))) → WPL Tryz.prog ((getLoop 13 (Tryz.f15.body.getD .skip)).getD .skip) (I15a s k) (wkK 3 K)
  | 0, k, hm, hk, K, hK => by
    have e : k = (nN (opI s)) := by omega
    subst e
    refine R15a s _ K (HB.mk (fun hne => absurd (of_decide_eq_true hne) (by omega)) (fun he => ?_))
    exact wkK.to (I15a s _) (Nat.le_refl _) (by kernel_rfl) (wkE_cons (LeN.sl (by kernel_rfl) rfl) (wkE_cons (LeN.sl (by kernel_rfl) rfl) (wkE_cons (LeN.sl (by kernel_rfl) rfl) (wkE_cons (LeN.sl (by kernel_rfl) rfl) (wkE_cons (LeN.sl (by kernel_rfl) rfl) (wkE_cons (LeN.sl (by kernel_rfl) rfl) (wkE_cons (LeN.sl (by kernel_rfl) rfl) (wkE_cons (LeN.sl (by kernel_rfl) rfl) trivial)))))))) (wkH_cons (BkN.blk (k := ⟨[.v (.string (opR s)), .v (.int .i64 ((ot2 s).1 : Nat)), .v (.bool false)], .t 174⟩) (by kernel_rfl) (rfl) (by kernel_rfl)) (wkH_cons (BkN.plain (cs := ens (ents (opI s) (nN (opI s)))) (b := .r 123 8 1) (by kernel_rfl) (rfl) (plain_ens _) (by kernel_rfl)) (wkH_cons (BkN.plain (cs := szs (opI s) (nN (opI s))) (b := .r 3 1 2) (by kernel_rfl) (rfl) (plain_szs _ _) (by kernel_rfl)) trivial))) hK
  | m + 1, k, hm, hk, K, hK => by
    refine R15a s k K (HB.mk (fun hne => ?_) (fun he => absurd (show ((k : Nat) : Int) < ((nN (opI s)) : Nat) by omega) (of_decide_eq_false he)))
    have hlt : k < (nN (opI s)) := by omega
    repeat' (first | exact trivial | with_reducible apply And.intro | (with_reducible apply HB.mk) | with_reducible intro _)
    all_goals first
      | (assumption)
      | (with_reducible exact Le.refl _)
      | (with_reducible rfl)
      | (exact ⟨by omega, by omega⟩)
      | ((rw [szs_len]; omega))
      | (exact Le.of (congrArg (fun l => SV.c (.l l)) (szs_at' _ (by omega) hlt)))
      | (exact ok_addT hok hlt hn)
      | (exact Le.int rfl)
      | (omega)
      | ((with_reducible refine RoundTo.toN 3 (I15a s (k + 1)) ?_ ?_ ?_ ?_ ?_); exact Nat.le_refl _; kernel_rfl; exact (wkE_cons (LeN.sl (by kernel_rfl) rfl) (wkE_cons (LeN.sl (by kernel_rfl) rfl) (wkE_cons (LeN.sl (by kernel_rfl) rfl) (wkE_cons (LeN.sl (by kernel_rfl) rfl) (wkE_cons (LeN.sl (by kernel_rfl) rfl) (wkE_cons (LeN.sl (by kernel_rfl) rfl) (wkE_cons (LeN.sl (by kernel_rfl) rfl) (wkE_cons (LeN.sl (by kernel_rfl) rfl) trivial)))))))); exact (wkH_cons (BkN.blk (k := ⟨[.v (.string (opR s)), .v (.int .i64 ((ot2 s).1 : Nat)), .v (.bool false)], .t 174⟩) (by kernel_rfl) (rfl) (by kernel_rfl)) (wkH_cons (BkN.plain (cs := ens (ents (opI s) (nN (opI s)))) (b := .r 123 8 1) (by kernel_rfl) (rfl) (plain_ens _) (by kernel_rfl)) (wkH_cons (BkN.plain (cs := szs (opI s) (nN (opI s))) (b := .r 3 1 2) (by kernel_rfl) (rfl) (plain_szs _ _) (by kernel_rfl)) trivial))); exact (L15a s hok hn m (k + 1) (by omega) (by omega) K hK))
      | (exact okw _ (by omega) (by omega))
      | (exact Le.of rfl)
      | (exact BkR.of rfl)
      | (unfold SlOK; omega)
      | (unfold SlOK; decide)
      | (unfold inByte; decide)
      | (simp only [*, Bool.and_self, Bool.not_false, Bool.not_true]; done)
      | (simp_all [wants]; done)
def cz_R15b (s : ByteArray) (k : Nat) : Cz := {
  ct := (fun f => match f with
  | 64 => some fun _ _S ar => match ar with | [.c (.l (.p i _)), .c (.l (.v (.int _ m)))] => some { v := .c (.l (.v (.string (blE s k)))), rd := [i], wr := [(i, ⟨[.v (.string (opR s)), .v (.int .i64 (bpos s (k + 1) : Nat)), .v (.bool false)], .t 174⟩)], nw := 0 } | _ => none
  | _ => none)
  eq := (fun t => match t with
  | _ => none)
  raw := [], sym := [0, 74, 75, 81], nf := [(75, iv .i64 (szE (opI s) k))], ap := true, off := [], on := [], lp := fun _ => none, un := 0 }
set_option maxRecDepth 100000 in
theorem R15b (s : ByteArray) (k : Nat)  (K : Exit → St → Prop) (h : HB (decide ((Nat.cast k : Int) < (Nat.cast ((nN (opI s))) : Int))) (InR ((Nat.cast k : Int)) (nN (opI s)) ∧ ((Nat.cast k : Int)).toNat * 1 < (szs (opI s) (nN (opI s))).length ∧ Le (SV.c (Cp.l ((szs (opI s) (nN (opI s))).getD (((Nat.cast k : Int)).toNat * 1) Leaf.u))) (iv IntKind.i64 (szE (opI s) k)) ∧ CallOKd Tryz.prog 64 [] [SV.c (Cp.l (Leaf.p 0 0)), iv IntKind.i64 (szE (opI s) k)] [(0, Blk.mk [Leaf.v (Value.string (opR s)), li (Nat.cast ((bpos s k)) : Int), lb false] (BT.t 174))] 3 (SV.c (Cp.l (Leaf.v (Value.string (blE s k))))) [(0, Blk.mk [Leaf.v (Value.string (opR s)), li (Nat.cast ((bpos s (k + 1))) : Int), lb false] (BT.t 174))] 0 ∧ InR ((Nat.cast k : Int)) (nN (opI s)) ∧ ((Nat.cast k : Int)).toNat * 8 + 7 + 1 ≤ (ens (mixE s k)).length ∧ IntKind.i64.wrap ((Nat.cast k : Int) + 1) = (Nat.cast k : Int) + 1 ∧ RoundTo Tryz.prog ((getLoop 24 (Tryz.f15.body.getD Code.skip)).getD Code.skip) 3 (wkK 3 K) (St.mk [(71, iv IntKind.i64 ((Nat.cast k : Int) + 1)), (83, iv IntKind.i64 ((Nat.cast k : Int) + 1)), (82, SV.c (Cp.l (Leaf.p 1 (((Nat.cast k : Int)).toNat * 8 + 7)))), (81, SV.c (Cp.l (Leaf.p 1 (((Nat.cast k : Int)).toNat * 8)))), (80, SV.c (Cp.l (Leaf.v (Value.string (blE s k))))), (79, iv IntKind.i64 (szE (opI s) k)), (78, SV.c (Cp.l (Leaf.p 0 0))), (77, iv IntKind.i64 (Nat.cast k : Int)), (76, SV.c (Cp.l (Leaf.o 1 (nN (opI s))))), (16, iv IntKind.i64 (szE (opI s) k)), (15, iv IntKind.i64 (Nat.cast k : Int)), (75, iv IntKind.i64 (szE (opI s) k)), (74, SV.c (Cp.l (Leaf.p 2 (((Nat.cast k : Int)).toNat * 1)))), (73, iv IntKind.i64 (Nat.cast k : Int)), (72, bv (decide ((Nat.cast k : Int) < (Nat.cast ((nN (opI s))) : Int)))), (71, iv IntKind.i64 (Nat.cast k : Int)), (70, iv IntKind.i64 (Nat.cast ((nN (opI s))) : Int)), (69, SV.c (Cp.l (Leaf.o 2 (nN (opI s))))), (6, SV.c (Cp.l (Leaf.p 0 0))), (9, SV.c (Cp.l (Leaf.o 1 (nN (opI s)))))] [(1, some (Blk.mk (splice (ens (mixE s k)) (((Nat.cast k : Int)).toNat * 8 + 7) [Leaf.v (Value.string (blE s k))]) (BT.r 123 8 1))), (0, some (Blk.mk [Leaf.v (Value.string (opR s)), li (Nat.cast ((bpos s (k + 1))) : Int), lb false] (BT.t 174))), (0, some (Blk.mk [Leaf.v (Value.string (opR s)), li (Nat.cast ((bpos s k)) : Int), lb false] (BT.t 174))), (1, some (Blk.mk (ens (mixE s k)) (BT.r 123 8 1))), (2, some (Blk.mk (szs (opI s) (nN (opI s))) (BT.r 3 1 2)))] 3 87 [1, 0, 2, 1, 0] 0)) (wkK 3 K (Exit.exit 4) (St.mk [(72, bv (decide ((Nat.cast k : Int) < (Nat.cast ((nN (opI s))) : Int)))), (71, iv IntKind.i64 (Nat.cast k : Int)), (70, iv IntKind.i64 (Nat.cast ((nN (opI s))) : Int)), (69, SV.c (Cp.l (Leaf.o 2 (nN (opI s))))), (6, SV.c (Cp.l (Leaf.p 0 0))), (9, SV.c (Cp.l (Leaf.o 1 (nN (opI s)))))] [(0, some (Blk.mk [Leaf.v (Value.string (opR s)), li (Nat.cast ((bpos s k)) : Int), lb false] (BT.t 174))), (1, some (Blk.mk (ens (mixE s k)) (BT.r 123 8 1))), (2, some (Blk.mk (szs (opI s) (nN (opI s))) (BT.r 3 1 2)))] 3 87 [2, 1, 0] 0))) : WPL Tryz.prog ((getLoop 24 (Tryz.f15.body.getD .skip)).getD .skip) (I15b s k) (wkK 3 K) :=
  wp_round (cx := cz_R15b s k) rfl (of_eq (by kernel_rfl) h)
set_option maxRecDepth 100000 in
set_option maxHeartbeats 4000000 in
theorem L15b (s : ByteArray) (hr : (opR s).size ≤ 1000000000000000000) (hp : parseB (opI s) = true) (hl : opLf s = opT s) : ∀ (m k : Nat), (nN (opI s)) - k = m → k ≤ (nN (opI s)) → ∀ (K : Exit → St → Prop), K (.exit 4) (I15b s (nN (opI s))) → WPL Tryz.prog ((getLoop 24 (Tryz.f15.body.getD .skip)).getD .skip) (I15b s k) (wkK 3 K)
  | 0, k, hm, hk, K, hK => by
    have e : k = (nN (opI s)) := by omega
    subst e
    refine R15b s _ K (HB.mk (fun hne => absurd (of_decide_eq_true hne) (by omega)) (fun he => ?_))
    exact wkK.to (I15b s _) (Nat.le_refl _) (by kernel_rfl) (wkE_cons (LeN.sl (by kernel_rfl) rfl) (wkE_cons (LeN.sl (by kernel_rfl) rfl) (wkE_cons (LeN.sl (by kernel_rfl) rfl) (wkE_cons (LeN.sl (by kernel_rfl) rfl) (wkE_cons (LeN.sl (by kernel_rfl) rfl) trivial))))) (wkH_cons (BkN.blk (k := ⟨[.v (.string (opR s)), .v (.int .i64 (bpos s (nN (opI s)) : Nat)), .v (.bool false)], .t 174⟩) (by kernel_rfl) (rfl) (by kernel_rfl)) (wkH_cons (BkN.plain (cs := ens (mixE s (nN (opI s)))) (b := .r 123 8 1) (by kernel_rfl) (rfl) (plain_ens _) (by kernel_rfl)) (wkH_cons (BkN.plain (cs := szs (opI s) (nN (opI s))) (b := .r 3 1 2) (by kernel_rfl) (rfl) (plain_szs _ _) (by kernel_rfl)) trivial))) hK
  | m + 1, k, hm, hk, K, hK => by
    refine R15b s k K (HB.mk (fun hne => ?_) (fun he => absurd (show ((k : Nat) : Int) < ((nN (opI s)) : Nat) by omega) (of_decide_eq_false he)))
    have hlt : k < (nN (opI s)) := by omega
    have hn := nN_le hp
    repeat' (first | exact trivial | with_reducible apply And.intro | (with_reducible apply HB.mk) | with_reducible intro _)
    all_goals first
      | (assumption)
      | (with_reducible exact Le.refl _)
      | (with_reducible rfl)
      | ((with_reducible exact op6 s hr hp hl hlt _ _))
      | (exact ⟨by omega, by omega⟩)
      | ((rw [szs_len]; omega))
      | ((rw [ens_len, mixE_len]; omega))
      | (exact Le.of (congrArg (fun l => SV.c (.l l)) (szs_at' _ (by omega) hlt)))
      | (omega)
      | ((with_reducible refine RoundTo.toN 3 (I15b s (k + 1)) ?_ ?_ ?_ ?_ ?_); exact Nat.le_refl _; kernel_rfl; exact (wkE_cons (LeN.sl (by kernel_rfl) rfl) (wkE_cons (LeN.sl (by kernel_rfl) rfl) (wkE_cons (LeN.sl (by kernel_rfl) rfl) (wkE_cons (LeN.sl (by kernel_rfl) rfl) (wkE_cons (LeN.sl (by kernel_rfl) rfl) trivial))))); exact (wkH_cons (BkN.blk (k := ⟨[.v (.string (opR s)), .v (.int .i64 (bpos s (k + 1) : Nat)), .v (.bool false)], .t 174⟩) (by kernel_rfl) (rfl) (by kernel_rfl)) (wkH_cons (BkN.plain (cs := splice (ens (mixE s k)) (k * 8 + 7) [.v (.string (blE s k))]) (b := .r 123 8 1) (by kernel_rfl) (mix_step s hlt) (plain_ens _) (by kernel_rfl)) (wkH_cons (BkN.plain (cs := szs (opI s) (nN (opI s))) (b := .r 3 1 2) (by kernel_rfl) (rfl) (plain_szs _ _) (by kernel_rfl)) trivial))); exact (L15b s hr hp hl m (k + 1) (by omega) (by omega) K hK))
      | (exact okw _ (by omega) (by omega))
      | (exact Le.of rfl)
      | (exact BkR.of rfl)
      | (unfold SlOK; omega)
      | (unfold SlOK; decide)
      | (unfold inByte; decide)
      | (simp only [*, Bool.and_self, Bool.not_false, Bool.not_true]; done)
      | (simp_all [wants]; done)
attribute [local irreducible] Oct.M.sum
theorem enters15 : Enters Tryz.prog 15 := fun args w => by go_simp
theorem CallOKd.off {P : Program} {f : Nat} {dc : List (Nat × Nat × Bool)} {args : List SV} {v : SV} {wr : List (Nat × Blk)} {nw : Nat} (h : CallOKd P f dc args [] 0 v wr nw) (n : Nat) :
    CallOKd P f (dc.map fun p => (n + p.1, p.2)) (args.map (SV.ren (n + ·))) [] n (v.ren (n + ·)) (wr.map fun p => (n + p.1, p.2.ren (n + ·))) nw :=
  CallOKd.ren h (n + ·) n (fun i h => absurd h (Nat.not_lt_zero i)) (fun i _ => rfl) (fun i j h _ _ => absurd h (Nat.not_lt_zero i))
theorem C62g (s : ByteArray) (hs : s.size ≤ 1000000000000000000) (hb : parseB s = true) (n : Nat) : CallOK Tryz.prog 62 [.c (.l (.v (.string s)))] [] n (.tup [.l (.o n (nN s)), .l (.o (n + 1) (nN s)), .l (li 0)]) [(n, ⟨ens (ents s (nN s)), .r 123 8 n⟩), (n + 1, ⟨szs s (nN s), .r 3 1 (n + 1)⟩)] 2 := by
  have key := CallOKd.off (C62k s hs hb) n
  simp only [List.map_cons, List.map_nil, Blk.ren, SV.ren, Cp.ren, Leaf.ren, BT.ren, ren_plain (plain_ens _), ren_plain (plain_szs _ _), Nat.add_zero] at key
  exact key
theorem le_of_left {s : ByteArray} (h1 : decide (opLf s < opT s) = false) (h2 : decide (opLf s > opT s) = false) : opLf s = opT s := by
  have := of_decide_eq_false h1
  have := of_decide_eq_false h2
  omega
def cz_C15k (s : ByteArray) : Cz := {
  ct := (fun f => match f with
  | 53 => some fun _ _S ar => match ar with | [.c (.l (.v (.string q)))] => some { v := iv .u32 (sumI q), rd := [], wr := [], nw := 0 } | _ => none
  | 57 => some fun _ _S ar => match ar with | [_, _] => some { v := .tup [.l (.v (.string (opR s))), .l (.v (.bool (opC s)))], rd := [], wr := [], nw := 0 } | _ => none
  | 58 => some fun _ _S ar => match ar with | [.c (.l (.v (.string q)))] => some { v := .c (.l (.p _S.n 0)), rd := [], wr := [(_S.n, ⟨[.v (.string q), .v (.int .i64 0), .v (.bool false)], .t 174⟩)], nw := 1 } | _ => none
  | 59 => some fun _ _S ar => match ar with | [.c (.l (.p i _))] => some { v := .c (.l (.v (.string (opI s)))), rd := [i], wr := [(i, ⟨[.v (.string (opR s)), .v (.int .i64 ((ot1 s).1 : Nat)), .v (.bool (ot1 s).2)], .t 174⟩)], nw := 0 } | _ => none
  | 60 => some fun _ _S ar => match ar with | [.c (.l (.p i _)), _] => some { v := iv .i64 (opS s), rd := [i], wr := [(i, ⟨[.v (.string (opR s)), .v (.int .i64 ((ot2 s).1 : Nat)), .v (.bool (ot2 s).2)], .t 174⟩)], nw := 0 } | _ => none
  | 61 => some fun _ _S ar => match ar with | [.c (.l (.p i _))] => some { v := bv (ot2 s).2, rd := [i], wr := [], nw := 0 } | _ => none
  | 62 => some fun _ _S ar => match ar with | [.c (.l (.v (.string q)))] => some { v := .tup [.l (.o _S.n (nN q)), .l (.o (_S.n + 1) (nN q)), .l (li 0)], rd := [], wr := [(_S.n, ⟨ens (ents q (nN q)), .r 123 8 _S.n⟩), (_S.n + 1, ⟨szs q (nN q), .r 3 1 (_S.n + 1)⟩)], nw := 2 } | _ => none
  | 63 => some fun _ _S ar => match ar with | [.c (.l (.p i _))] => some { v := iv .i64 (opLf s), rd := [i], wr := [], nw := 0 } | _ => none
  | _ => none)
  eq := (fun t => match t with
  | _ => none)
  raw := [], sym := [], nf := [(37, iv .i64 (sumI (opI s))), (38, bv (opNe s)), (63, bv (decide (opLf s < opT s))), (68, bv (decide (opLf s > opT s)))], ap := true, off := [], on := [], lp := fun r => match r with | 13 => some (fun _ K => K (.exit 1) (I15a s (nN (opI s)))) | 24 => some (fun _ K => K (.exit 4) (I15b s (nN (opI s)))) | _ => none, un := 0 }
set_option maxRecDepth 100000 in
set_option maxHeartbeats 400000 in
theorem C15k (s : ByteArray) (hs : s.size ≤ 1000000000000000000) (he : openE s = 0) : CallOK Tryz.prog 15 [.c (.l (.v (.string s)))] [] 0 (.tup [.l (.p 0 0), .l (li 0)]) [(0, ⟨[.o 1 (nN (opI s)), li 0], .t 125⟩), (1, ⟨ens (openL s), .r 123 8 1⟩)] 2 := by
  have hp := op_parse he
  have hr : (opR s).size ≤ 1000000000000000000 := Nat.le_trans (opR_le s) hs
  have hi : (opI s).size ≤ 1000000000000000000 := Nat.le_trans (opI_le s) hr
  have hok := (parse_f hp).2.1
  have hn := nN_le hp
  refine call_ok (cx := cz_C15k s) (nm := [3, 1]) rfl Tryz.func15 (body := Tryz.f15.body.getD .skip) rfl enters15 (by kernel_rfl) ?_
  apply of_eq (q := CallOKd Tryz.prog 57 [] [SV.c (Cp.l (Leaf.v (Value.string s))), SV.c (Cp.l (Leaf.v (Value.string (ByteArray.mk #[71, 1]))))] [] 0 (SV.tup [Cp.l (Leaf.v (Value.string (opR s))), Cp.l (lb (opC s))]) [] 0 ∧ HB (!opC s) (Le (SV.tup [Cp.l (Leaf.v (Value.pointer none)), Cp.l (li 11)]) (SV.tup [Cp.l (Leaf.p 0 0), Cp.l (li 0)]) ∧ False) (CallOKd Tryz.prog 58 [] [SV.c (Cp.l (Leaf.v (Value.string (opR s))))] [] 0 (SV.c (Cp.l (Leaf.p 0 0))) [(0, Blk.mk [Leaf.v (Value.string (opR s)), li 0, lb false] (BT.t 174))] 1 ∧ CallOKd Tryz.prog 59 [] [SV.c (Cp.l (Leaf.p 0 0))] [(0, Blk.mk [Leaf.v (Value.string (opR s)), li 0, lb false] (BT.t 174))] 1 (SV.c (Cp.l (Leaf.v (Value.string (opI s))))) [(0, Blk.mk [Leaf.v (Value.string (opR s)), li (Nat.cast ((ot1 s).fst) : Int), lb (ot1 s).snd] (BT.t 174))] 0 ∧ CallOKd Tryz.prog 60 [] [SV.c (Cp.l (Leaf.p 0 0)), iv IntKind.i64 4] [(0, Blk.mk [Leaf.v (Value.string (opR s)), li (Nat.cast ((ot1 s).fst) : Int), lb (ot1 s).snd] (BT.t 174))] 1 (iv IntKind.i64 (opS s)) [(0, Blk.mk [Leaf.v (Value.string (opR s)), li (Nat.cast ((ot2 s).fst) : Int), lb (ot2 s).snd] (BT.t 174))] 0 ∧ CallOKd Tryz.prog 61 [] [SV.c (Cp.l (Leaf.p 0 0))] [(0, Blk.mk [Leaf.v (Value.string (opR s)), li (Nat.cast ((ot2 s).fst) : Int), lb (ot2 s).snd] (BT.t 174))] 1 (bv (ot2 s).snd) [] 0 ∧ HB (ot2 s).snd (Le (SV.tup [Cp.l (Leaf.v (Value.pointer none)), Cp.l (li 10)]) (SV.tup [Cp.l (Leaf.p 0 0), Cp.l (li 0)]) ∧ False) (CallOKd Tryz.prog 53 [] [SV.c (Cp.l (Leaf.v (Value.string (opI s))))] [] 1 (iv IntKind.u32 (sumI (opI s))) [] 0 ∧ Le (iv IntKind.i64 (IntKind.i64.wrap (sumI (opI s)))) (iv IntKind.i64 (sumI (opI s))) ∧ Le (bv (opS s != sumI (opI s))) (bv (opNe s)) ∧ HB (opNe s) (Le (SV.tup [Cp.l (Leaf.v (Value.pointer none)), Cp.l (li 12)]) (SV.tup [Cp.l (Leaf.p 0 0), Cp.l (li 0)]) ∧ False) (CallOKd Tryz.prog 62 [] [SV.c (Cp.l (Leaf.v (Value.string (opI s))))] [] 1 (SV.tup [Cp.l (Leaf.o 1 (nN (opI s))), Cp.l (Leaf.o 2 (nN (opI s))), Cp.l (li 0)]) [(1, Blk.mk (ens (ents (opI s) (nN (opI s)))) (BT.r 123 8 1)), (2, Blk.mk (szs (opI s) (nN (opI s))) (BT.r 3 1 2))] 2 ∧ (LoopOK Tryz.prog ((getLoop 13 (Tryz.f15.body.getD .skip)).getD .skip) (St.mk [(47, iv IntKind.i64 0), (46, iv IntKind.i64 (Nat.cast ((nN (opI s))) : Int)), (45, SV.c (Cp.l (Leaf.o 2 (nN (opI s))))), (12, iv IntKind.i64 0), (11, iv IntKind.i64 0), (10, SV.c (Cp.l (Leaf.o 2 (nN (opI s))))), (9, SV.c (Cp.l (Leaf.o 1 (nN (opI s))))), (44, iv IntKind.i64 0), (43, SV.c (Cp.l (Leaf.o 2 (nN (opI s))))), (42, SV.c (Cp.l (Leaf.o 1 (nN (opI s))))), (39, SV.tup [Cp.l (Leaf.o 1 (nN (opI s))), Cp.l (Leaf.o 2 (nN (opI s))), Cp.l (li 0)]), (41, SV.tup [Cp.l (Leaf.o 1 (nN (opI s))), Cp.l (Leaf.o 2 (nN (opI s))), Cp.l (li 0)]), (40, SV.c (Cp.l (Leaf.v (Value.string (opI s))))), (33, bv (opNe s)), (38, bv (opNe s)), (37, iv IntKind.i64 (sumI (opI s))), (36, iv IntKind.u32 (sumI (opI s))), (35, SV.c (Cp.l (Leaf.v (Value.string (opI s))))), (34, iv IntKind.i64 (opS s)), (30, bv (ot2 s).snd), (32, bv (ot2 s).snd), (31, SV.c (Cp.l (Leaf.p 0 0))), (8, iv IntKind.i64 (opS s)), (7, SV.c (Cp.l (Leaf.v (Value.string (opI s))))), (29, iv IntKind.i64 (opS s)), (28, SV.c (Cp.l (Leaf.p 0 0))), (27, SV.c (Cp.l (Leaf.v (Value.string (opI s))))), (26, SV.c (Cp.l (Leaf.p 0 0))), (6, SV.c (Cp.l (Leaf.p 0 0))), (25, SV.c (Cp.l (Leaf.p 0 0))), (24, SV.c (Cp.l (Leaf.v (Value.string (opR s))))), (23, bv !opC s), (22, bv (opC s)), (5, bv (opC s)), (4, SV.c (Cp.l (Leaf.v (Value.string (opR s))))), (21, bv (opC s)), (20, SV.c (Cp.l (Leaf.v (Value.string (opR s))))), (17, SV.tup [Cp.l (Leaf.v (Value.string (opR s))), Cp.l (lb (opC s))]), (19, SV.tup [Cp.l (Leaf.v (Value.string (opR s))), Cp.l (lb (opC s))]), (18, SV.c (Cp.l (Leaf.v (Value.string s)))), (3, iv IntKind.i64 0), (2, SV.c (Cp.l (Leaf.v (Value.pointer none)))), (0, SV.c (Cp.l (Leaf.v (Value.string s))))] [(1, some (Blk.mk (ens (ents (opI s) (nN (opI s)))) (BT.r 123 8 1))), (2, some (Blk.mk (szs (opI s) (nN (opI s))) (BT.r 3 1 2))), (0, some (Blk.mk [Leaf.v (Value.string (opR s)), li (Nat.cast ((ot2 s).fst) : Int), lb (ot2 s).snd] (BT.t 174))), (0, some (Blk.mk [Leaf.v (Value.string (opR s)), li (Nat.cast ((ot1 s).fst) : Int), lb (ot1 s).snd] (BT.t 174))), (0, some (Blk.mk [Leaf.v (Value.string (opR s)), li 0, lb false] (BT.t 174)))] 3 87 [1, 2, 0, 0, 0] 0) fun K => K (Exit.exit 1) (I15a s (nN (opI s)))) ∧ CallOKd Tryz.prog 63 [] [SV.c (Cp.l (Leaf.p 0 0))] [(0, Blk.mk [Leaf.v (Value.string (opR s)), li (Nat.cast ((ot2 s).fst) : Int), lb false] (BT.t 174))] 3 (iv IntKind.i64 (opLf s)) [] 0 ∧ Le (bv (decide (opLf s < tot (opI s) (nN (opI s))))) (bv (decide (opLf s < opT s))) ∧ HB (decide (opLf s < opT s)) (Le (SV.tup [Cp.l (Leaf.v (Value.pointer none)), Cp.l (li 10)]) (SV.tup [Cp.l (Leaf.p 0 0), Cp.l (li 0)]) ∧ False) (CallOKd Tryz.prog 63 [] [SV.c (Cp.l (Leaf.p 0 0))] [(0, Blk.mk [Leaf.v (Value.string (opR s)), li (Nat.cast ((ot2 s).fst) : Int), lb false] (BT.t 174))] 3 (iv IntKind.i64 (opLf s)) [] 0 ∧ Le (bv (decide (opLf s > tot (opI s) (nN (opI s))))) (bv (decide (opLf s > opT s))) ∧ HB (decide (opLf s > opT s)) (Le (SV.tup [Cp.l (Leaf.v (Value.pointer none)), Cp.l (li 11)]) (SV.tup [Cp.l (Leaf.p 0 0), Cp.l (li 0)]) ∧ False) ((LoopOK Tryz.prog ((getLoop 24 (Tryz.f15.body.getD .skip)).getD .skip) (St.mk [(71, iv IntKind.i64 0), (70, iv IntKind.i64 (Nat.cast ((nN (opI s))) : Int)), (69, SV.c (Cp.l (Leaf.o 2 (nN (opI s))))), (64, bv (decide (opLf s > opT s))), (68, bv (decide (opLf s > opT s))), (67, iv IntKind.i64 (tot (opI s) (nN (opI s)))), (66, iv IntKind.i64 (opLf s)), (65, SV.c (Cp.l (Leaf.p 0 0))), (59, bv (decide (opLf s < opT s))), (63, bv (decide (opLf s < opT s))), (62, iv IntKind.i64 (tot (opI s) (nN (opI s)))), (61, iv IntKind.i64 (opLf s)), (60, SV.c (Cp.l (Leaf.p 0 0))), (55, bv (0 != 0)), (57, bv (0 != 0)), (56, iv IntKind.i64 0), (47, iv IntKind.i64 (Nat.cast ((nN (opI s))) : Int)), (46, iv IntKind.i64 (Nat.cast ((nN (opI s))) : Int)), (45, SV.c (Cp.l (Leaf.o 2 (nN (opI s))))), (12, iv IntKind.i64 (tot (opI s) (nN (opI s)))), (6, SV.c (Cp.l (Leaf.p 0 0))), (9, SV.c (Cp.l (Leaf.o 1 (nN (opI s))))), (10, SV.c (Cp.l (Leaf.o 2 (nN (opI s))))), (11, iv IntKind.i64 0)] [(0, some (Blk.mk [Leaf.v (Value.string (opR s)), li (Nat.cast ((ot2 s).fst) : Int), lb false] (BT.t 174))), (1, some (Blk.mk (ens (ents (opI s) (nN (opI s)))) (BT.r 123 8 1))), (2, some (Blk.mk (szs (opI s) (nN (opI s))) (BT.r 3 1 2)))] 3 87 [2, 1, 0] 0) fun K => K (Exit.exit 4) (I15b s (nN (opI s)))) ∧ Le (SV.tup [Cp.l (Leaf.p 0 0), Cp.l (li 0)]) (SV.tup [Cp.l (Leaf.p 0 0), Cp.l (li 0)]) ∧ BkR (rnId 0 0 [3, 1]) (Blk.mk [Leaf.o 1 (nN (opI s)), li 0] (BT.t 125)) (Blk.mk [Leaf.o 1 (nN (opI s)), li 0] (BT.t 125)) ∧ BkR (rnId 0 0 [3, 1]) (Blk.mk (ens (mixE s (nN (opI s)))) (BT.r 123 8 1)) (Blk.mk (ens (openL s)) (BT.r 123 8 1)) ∧ True)))))) (by kernel_rfl)
  repeat' (first | exact trivial | with_reducible apply And.intro | (with_reducible apply HB.mk) | with_reducible intro _)
  all_goals first
    | (assumption)
    | (with_reducible exact Le.refl _)
    | (with_reducible rfl)
    | ((with_reducible exact op7 _ hi _))
    | ((with_reducible exact op1 s hs _))
    | ((with_reducible exact C58 _ _))
    | ((with_reducible exact op2 s hr _ _))
    | ((with_reducible exact op3 s hr _ _))
    | ((with_reducible exact op4 s _ _))
    | ((with_reducible exact C62g _ hi hp _))
    | ((with_reducible exact op5 s _ hr _ _))
    | (exact LoopOK.mk (I15a s 0) rfl (by kernel_rfl) (wkE_cons (LeN.sl (by kernel_rfl) rfl) (wkE_cons (LeN.sl (by kernel_rfl) rfl) (wkE_cons (LeN.sl (by kernel_rfl) rfl) (wkE_cons (LeN.sl (by kernel_rfl) rfl) (wkE_cons (LeN.sl (by kernel_rfl) rfl) (wkE_cons (LeN.sl (by kernel_rfl) rfl) (wkE_cons (LeN.sl (by kernel_rfl) rfl) (wkE_cons (LeN.sl (by kernel_rfl) rfl) trivial)))))))) (wkH_cons (BkN.blk (k := ⟨[.v (.string (opR s)), .v (.int .i64 ((ot2 s).1 : Nat)), .v (.bool (ot2 s).2)], .t 174⟩) (by kernel_rfl) (by rw [show (ot2 s).2 = false from (by with_reducible assumption)]) (by kernel_rfl)) (wkH_cons (BkN.plain (cs := ens (ents (opI s) (nN (opI s)))) (b := .r 123 8 1) (by kernel_rfl) (rfl) (plain_ens _) (by kernel_rfl)) (wkH_cons (BkN.plain (cs := szs (opI s) (nN (opI s))) (b := .r 3 1 2) (by kernel_rfl) (rfl) (plain_szs _ _) (by kernel_rfl)) trivial))) (fun K hT => L15a s hok hn _ 0 rfl (Nat.zero_le _) K hT))
    | (exact LoopOK.mk (I15b s 0) rfl (by kernel_rfl) (wkE_cons (LeN.sl (by kernel_rfl) rfl) (wkE_cons (LeN.sl (by kernel_rfl) rfl) (wkE_cons (LeN.sl (by kernel_rfl) rfl) (wkE_cons (LeN.sl (by kernel_rfl) rfl) (wkE_cons (LeN.sl (by kernel_rfl) rfl) trivial))))) (wkH_cons (BkN.blk (k := ⟨[.v (.string (opR s)), .v (.int .i64 ((ot2 s).1 : Nat)), .v (.bool false)], .t 174⟩) (by kernel_rfl) (rfl) (by kernel_rfl)) (wkH_cons (BkN.plain (cs := ens (ents (opI s) (nN (opI s)))) (b := .r 123 8 1) (by kernel_rfl) (by rw [mixE_zero]) (plain_ens _) (by kernel_rfl)) (wkH_cons (BkN.plain (cs := szs (opI s) (nN (opI s))) (b := .r 3 1 2) (by kernel_rfl) (rfl) (plain_szs _ _) (by kernel_rfl)) trivial))) (fun K hT => L15b s hr hp (le_of_left (by with_reducible assumption) (by with_reducible assumption)) _ 0 rfl (Nat.zero_le _) K hT))
    | ((refine Le.int ?_; rw [IntKind.wrap_i64]; have := sumI_bd (opI s); omega))
    | (exact Le.bool (opNe_eq s))
    | (exact BkR.plain (by rw [mixE_all]) (plain_ens _) (by kernel_rfl))
    | ((exfalso; simp_all [openE]; done))
    | (exact okw _ (by omega) (by omega))
    | (exact Le.of rfl)
    | (exact BkR.of rfl)
    | (unfold SlOK; omega)
    | (unfold SlOK; decide)
    | (unfold inByte; decide)
    | (simp only [*, Bool.and_self, Bool.not_false, Bool.not_true]; done)
    | (simp_all [wants]; done)
theorem open_ok (s : ByteArray) (hs : s.size ≤ 1000000000000000000) (he : openE s = 0) (n : Nat) : CallOK Tryz.prog 15 [.c (.l (.v (.string s)))] [] n (.tup [.l (.p n 0), .l (li 0)]) [(n, ⟨[.o (n + 1) (openL s).length, li 0], .t 125⟩), (n + 1, ⟨ens (openL s), .r 123 8 (n + 1)⟩)] 2 := by
  have key := CallOKd.off (C15k s hs he) n
  simp only [List.map_cons, List.map_nil, Blk.ren, SV.ren, Cp.ren, Leaf.ren, BT.ren, ren_plain (plain_ens _), Nat.add_zero] at key
  rw [openL_len]
  exact key
end Ab
end Go.Proofs.YtpdckpifhniioaaGreat
end
section
set_option linter.unusedVariables false
set_option linter.unusedSimpArgs false
namespace Go.Proofs.YtpdckpifhniioaaGreat
open Go.RowKit
namespace Ab
def byl (s : ByteArray) : List UInt8 := s.data.toList
def rmd (s : ByteArray) (p : Nat) : List UInt8 := (byl s).drop p
theorem byl_len (s : ByteArray) : (byl s).length = s.size := by unfold byl; rw [Array.length_toList]; rfl
theorem byl_append (s t : ByteArray) : byl (s ++ t) = byl s ++ byl t := by simp [byl, ByteArray.data_append]
theorem byl_ext {s t : ByteArray} (h : byl s = byl t) : s = t := by
  obtain ⟨⟨a⟩⟩ := s
  obtain ⟨⟨b⟩⟩ := t
  have : a = b := h
  rw [this]
theorem byl_mk (l : List UInt8) : byl ⟨l.toArray⟩ = l := rfl
theorem byl_extract (s : ByteArray) (i j : Nat) : byl (s.extract i j) = ((byl s).drop i).take (j - i) := by
  unfold byl
  rw [ByteArray.data_extract, Array.toList_extract, List.extract_eq_take_drop]
theorem rm_zero (s : ByteArray) : rmd s 0 = byl s := by unfold rmd; rw [List.drop_zero]
theorem rm_len (s : ByteArray) (p : Nat) : (rmd s p).length = s.size - p := by unfold rmd; rw [List.length_drop, byl_len]
theorem rm_step {s : ByteArray} {p : Nat} {B C : List UInt8} (h : rmd s p = B ++ C) (hp : p ≤ s.size) : rmd s (p + B.length) = C ∧ p + B.length ≤ s.size := by
  constructor
  · unfold rmd at *
    rw [← List.drop_drop, h, List.drop_left]
  · have := congrArg List.length h
    rw [rm_len, List.length_append] at this
    omega
theorem rd_take {s : ByteArray} {p : Nat} {B C : List UInt8} (h : rmd s p = B ++ C) (hp : p ≤ s.size) {m : Int} (hm : m = (B.length : Nat)) : Oct.takeRes s p false m = (⟨B.toArray⟩, p + B.length, false) := by
  have h1 := (rm_step h hp).2
  unfold Oct.takeRes
  rw [if_neg (by
    rintro (h | h | h)
    · cases h
    · omega
    · omega), hm]
  have e : (((B.length : Nat) : Int)).toNat = B.length := rfl
  rw [e]
  have : s.extract p (p + B.length) = ⟨B.toArray⟩ := byl_ext (by
    rw [byl_extract, byl_mk, Nat.add_sub_cancel_left]
    show (rmd s p).take _ = _
    rw [h, List.take_left]; rfl)
  rw [this]
theorem rd_var {s : ByteArray} {p : Nat} {v : Nat} {C : List UInt8} (h : rmd s p = Oct.M.leb v ++ C) (hv : v < 9223372036854775808) : Oct.varRes s p false = ((v : Int), p + (Oct.M.leb v).length, false) := by
  have h1 : Oct.M.dec 0 0 (s.data.toList.drop p) = some (v, (Oct.M.leb v).length) := (Oct.M.dec_iff _ _ _).2 ⟨by omega, rfl, C, h⟩
  unfold Oct.varRes
  rw [if_neg (by simp), h1]
  simp only []
  rw [Oct.wrap64_small v hv]
theorem bev_be : ∀ (k u : Nat), Oct.bev (Oct.M.be k u) = u % 256 ^ k
  | 0, u => by simp [Oct.bev, Oct.M.be, Nat.mod_one]
  | k + 1, u => by
    rw [Oct.M.be_snoc, Oct.bev_snoc, bev_be k, Nat.pow_succ, Nat.mul_comm (256 ^ k), Nat.mod_mul]
    have : (UInt8.ofNat u).toNat = u % 256 := by simp
    rw [this]; omega
theorem byl_var (k : Int) : byl (varB k) = Oct.M.leb (Oct.u64 k) := rfl
theorem byl_txt (h : ByteArray) : byl (txtB h) = Oct.M.leb h.size ++ byl h := rfl
/-- A number of m bytes is read. -/
theorem rd_num {s : ByteArray} {p : Nat} {k m : Int} {C : List UInt8} (h : rmd s p = byl (putB k m) ++ C) (hp : p ≤ s.size) (h0 : 0 ≤ k) (h1 : k < 256 ^ (Oct.sz m)) (h2 : Oct.sz m ≤ 4) :
    Oct.takeRes s p false (Oct.sz m : Nat) = (putB k m, p + Oct.sz m, false) ∧ numV s p false m = k := by
  have hl : (byl (putB k m)).length = Oct.sz m := Oct.M.be_length _ _
  have e := rd_take h hp (m := (Oct.sz m : Nat)) (by rw [hl])
  have e2 : (⟨(byl (putB k m)).toArray⟩ : ByteArray) = putB k m := byl_ext rfl
  rw [e2, hl] at e
  refine ⟨e, ?_⟩
  unfold numV
  rw [e]
  show wrap64 (Oct.bev (Oct.M.be (Oct.sz m) (Oct.u64 k)) : Nat) = k
  have h3 : (256 : Nat) ^ (Oct.sz m) ≤ 256 ^ 4 := Nat.pow_le_pow_right (by decide) h2
  have h4 : ((256 ^ (Oct.sz m) : Nat) : Int) = (256 : Int) ^ (Oct.sz m) := by simp
  have hk : k < 4294967296 := by omega
  have h5 : Oct.u64 k = k.toNat := by unfold Oct.u64; omega
  have h6 : k.toNat < 256 ^ (Oct.sz m) := by
    have : ((256 ^ (Oct.sz m) : Nat) : Int) = (256 : Int) ^ (Oct.sz m) := by simp
    omega
  rw [bev_be, h5, Nat.mod_eq_of_lt h6, Oct.wrap64_small _ (by omega)]
  omega
def quadE (e : EN) : ByteArray := ⟨#[e.a, e.b, e.c, e.d]⟩
def entW (e : EN) : ByteArray := putB (e.X + 8192) 2 ++ putB (e.Y + 8192) 2 ++ quadE e ++ varB e.blob.size ++ putB e.sum 4
def hdW (L : List EN) : Nat → ByteArray
  | 0 => varB L.length
  | k + 1 => hdW L k ++ entW (ea L k)
def blW (L : List EN) : Nat → ByteArray
  | 0 => ⟨#[]⟩
  | k + 1 => blW L k ++ (ea L k).blob
def bodyW (L : List EN) : ByteArray := txtB (hdW L L.length) ++ putB (sumI (hdW L L.length)) 4 ++ blW L L.length
def writeB (L : List EN) : ByteArray := ⟨#[71, 1]⟩ ++ txtB (hdW L L.length) ++ putB (sumI (hdW L L.length)) 4 ++ blW L L.length
/-- What entries must be, for Open to take them. -/
structure GoodE (L : List EN) : Prop where
  len : L.length ≤ 1024
  x : ∀ k, k < L.length → -8192 ≤ (ea L k).X ∧ (ea L k).X ≤ 8191
  y : ∀ k, k < L.length → -8192 ≤ (ea L k).Y ∧ (ea L k).Y ≤ 8191
  s : ∀ k, k < L.length → 0 ≤ (ea L k).sum ∧ (ea L k).sum < 4294967296
  b : ∀ k, k < L.length → 1 ≤ (ea L k).blob.size ∧ (ea L k).blob.size ≤ 257
  ord : ∀ k, k + 1 < L.length → (ea L k).Y < (ea L (k + 1)).Y ∨ ((ea L k).Y = (ea L (k + 1)).Y ∧ (ea L k).X < (ea L (k + 1)).X)
theorem u64_of {k : Nat} (h : k < 9223372036854775808) : Oct.u64 (k : Int) = k := by unfold Oct.u64; omega
/-- An entry is read. -/
theorem rd_ent {s : ByteArray} {p : Nat} {e : EN} {C : List UInt8} (h : rmd s p = byl (entW e) ++ C) (hp : p ≤ s.size) (hx : -8192 ≤ e.X ∧ e.X ≤ 8191) (hy : -8192 ≤ e.Y ∧ e.Y ≤ 8191) (hs : 0 ≤ e.sum ∧ e.sum < 4294967296) (hb : e.blob.size ≤ 257) :
    pt5 s p = (p + (entW e).size, false) ∧ prX s p = e.X + 8192 ∧ prY s p = e.Y + 8192 ∧ prQ s p = quadE e ∧ prZ s p = (e.blob.size : Nat) ∧ prS s p = e.sum := by
  unfold entW at h
  simp only [byl_append, List.append_assoc] at h
  obtain ⟨a1, a2⟩ := rd_num h hp (by omega) (by show e.X + 8192 < 256 ^ 2; omega) (by decide)
  obtain ⟨b1, b2⟩ := rm_step h hp
  have l1 : (byl (putB (e.X + 8192) 2)).length = 2 := rfl
  rw [l1] at b1 b2
  have p1 : pt1 s p = (p + 2, false) := by unfold pt1; rw [a1]; rfl
  obtain ⟨c1, c2⟩ := rd_num b1 b2 (by omega) (by show e.Y + 8192 < 256 ^ 2; omega) (by decide)
  obtain ⟨d1, d2⟩ := rm_step b1 b2
  have l2 : (byl (putB (e.Y + 8192) 2)).length = 2 := rfl
  rw [l2] at d1 d2
  have p2 : pt2 s p = (p + 2 + 2, false) := by unfold pt2; rw [p1]; show (Oct.takeRes s (p + 2) false _).2 = _; rw [c1]; rfl
  have l3 : (byl (quadE e)).length = 4 := rfl
  have e1 := rd_take d1 d2 (m := 4) rfl
  obtain ⟨f1, f2⟩ := rm_step d1 d2
  rw [l3] at f1 f2 e1
  have p3 : pt3 s p = (p + 2 + 2 + 4, false) := by unfold pt3; rw [p2]; show (Oct.takeRes s (p + 2 + 2) false _).2 = _; rw [e1]
  have hz : Oct.u64 (e.blob.size : Nat) = e.blob.size := u64_of (by omega)
  rw [byl_var, hz] at f1
  have g1 := rd_var f1 (by omega)
  obtain ⟨k1, k2⟩ := rm_step f1 f2
  have p4 : pt4 s p = (p + 2 + 2 + 4 + (Oct.M.leb e.blob.size).length, false) := by unfold pt4; rw [p3]; show (Oct.varRes s (p + 2 + 2 + 4) false).2 = _; rw [g1]
  obtain ⟨m1, m2⟩ := rd_num k1 k2 hs.1 (by show e.sum < 256 ^ 4; omega) (by decide)
  have p5 : pt5 s p = (p + 2 + 2 + 4 + (Oct.M.leb e.blob.size).length + 4, false) := by
    unfold pt5; rw [p4]; show (Oct.takeRes s _ false _).2 = _; rw [m1]; rfl
  have sz : (entW e).size = 2 + 2 + 4 + (Oct.M.leb e.blob.size).length + 4 := by
    unfold entW
    simp only [ByteArray.size_append, putB_sz, sz2, sz4]
    have : (varB (e.blob.size : Nat)).size = (Oct.M.leb e.blob.size).length := by
      show (Oct.M.leb (Oct.u64 (e.blob.size : Nat))).length = _
      rw [hz]
    rw [this]; rfl
  refine ⟨by rw [p5, sz]; simp only [Prod.mk.injEq, and_true]; omega, a2, ?_, ?_, ?_, ?_⟩
  · unfold prY; rw [p1]; exact c2
  · unfold prQ; rw [p2]; show (Oct.takeRes s (p + 2 + 2) false 4).1 = _; rw [e1]; exact byl_ext rfl
  · unfold prZ; rw [p3]; show (Oct.varRes s (p + 2 + 2 + 4) false).1 = _; rw [g1]
  · unfold prS; rw [p4]; exact m2
theorem hdW_more (L : List EN) (k : Nat) : ∀ d, ∃ R, byl (hdW L (k + d)) = byl (hdW L k) ++ R
  | 0 => ⟨[], by simp⟩
  | d + 1 => by
    obtain ⟨R, h⟩ := hdW_more L k d
    refine ⟨R ++ byl (entW (ea L (k + d))), ?_⟩
    show byl (hdW L (k + d) ++ entW (ea L (k + d))) = _
    rw [byl_append, h, List.append_assoc]
theorem hdW_at (L : List EN) {k : Nat} (h : k < L.length) : ∃ R, rmd (hdW L L.length) (hdW L k).size = byl (entW (ea L k)) ++ R := by
  obtain ⟨R, e⟩ := hdW_more L (k + 1) (L.length - (k + 1))
  rw [show k + 1 + (L.length - (k + 1)) = L.length by omega] at e
  refine ⟨R, ?_⟩
  unfold rmd
  rw [e]
  show List.drop _ (byl (hdW L k ++ entW (ea L k)) ++ R) = _
  rw [byl_append, List.append_assoc, ← byl_len, List.drop_left]
theorem hdW_mono (L : List EN) {k : Nat} (h : k ≤ L.length) : (hdW L k).size ≤ (hdW L L.length).size := by
  obtain ⟨R, e⟩ := hdW_more L k (L.length - k)
  rw [show k + (L.length - k) = L.length by omega] at e
  have := congrArg List.length e
  rw [List.length_append, byl_len, byl_len] at this
  omega
section
variable {L : List EN} (g : GoodE L)
include g
theorem w_n : Oct.varRes (hdW L L.length) 0 false = (((L.length : Nat) : Int), (hdW L 0).size, false) := by
  obtain ⟨R, e⟩ := hdW_more L 0 L.length
  rw [Nat.zero_add] at e
  have hl := g.len
  have h1 : rmd (hdW L L.length) 0 = Oct.M.leb L.length ++ R := by
    rw [rm_zero, e]
    show Oct.M.leb (Oct.u64 (L.length : Nat)) ++ R = _
    rw [u64_of (by omega)]
  rw [rd_var h1 (by omega), Nat.zero_add]
  have : (hdW L 0).size = (Oct.M.leb L.length).length := by
    show (Oct.M.leb (Oct.u64 (L.length : Nat))).length = _
    rw [u64_of (by omega)]
  rw [this]
theorem w_posn : ∀ k, k ≤ L.length → posn (hdW L L.length) k = (hdW L k).size
  | 0, _ => by
    show (Oct.varRes (hdW L L.length) 0 false).2.1 = _
    rw [w_n g]
  | k + 1, hk => by
    obtain ⟨R, e⟩ := hdW_at L (show k < L.length by omega)
    show (pt5 (hdW L L.length) (posn (hdW L L.length) k)).1 = _
    rw [w_posn k (by omega), (rd_ent e (hdW_mono L (by omega)) (g.x k hk) (g.y k hk) (g.s k hk) (g.b k hk).2).1]
    show _ = (hdW L k ++ entW (ea L k)).size
    rw [ByteArray.size_append]
theorem w_ent {k : Nat} (hk : k < L.length) : pt5 (hdW L L.length) (posn (hdW L L.length) k) = ((hdW L (k + 1)).size, false) ∧ prX (hdW L L.length) (posn (hdW L L.length) k) = (ea L k).X + 8192 ∧ prY (hdW L L.length) (posn (hdW L L.length) k) = (ea L k).Y + 8192 ∧ prQ (hdW L L.length) (posn (hdW L L.length) k) = quadE (ea L k) ∧
    prZ (hdW L L.length) (posn (hdW L L.length) k) = ((ea L k).blob.size : Nat) ∧ prS (hdW L L.length) (posn (hdW L L.length) k) = (ea L k).sum := by
  obtain ⟨R, e⟩ := hdW_at L hk
  have h := rd_ent e (hdW_mono L (by omega)) (g.x k hk) (g.y k hk) (g.s k hk) (g.b k hk).2
  rw [w_posn g k (by omega)]
  refine ⟨?_, h.2⟩
  rw [h.1]
  show _ = ((hdW L k ++ entW (ea L k)).size, false)
  rw [ByteArray.size_append]
theorem w_enE {k : Nat} (hk : k < L.length) : enE (hdW L L.length) k = { ea L k with blob := ByteArray.empty } := by
  obtain ⟨h1, h2, h3, h4, h5, h6⟩ := w_ent g hk
  unfold enE prE
  rw [h2, h3, h4, h6, show (ea L k).X + 8192 - 8192 = (ea L k).X by omega, show (ea L k).Y + 8192 - 8192 = (ea L k).Y by omega]
  rfl
theorem w_szE {k : Nat} (hk : k < L.length) : szE (hdW L L.length) k = ((ea L k).blob.size : Nat) := (w_ent g hk).2.2.2.2.1
theorem w_nN : nN (hdW L L.length) = L.length ∧ hdBad (hdW L L.length) = false := by
  have h := w_n g
  have hl := g.len
  have h1 : nP (hdW L L.length) = (L.length : Nat) := by unfold nP; rw [h]
  constructor
  · unfold nN; rw [h1]; rfl
  · unfold hdBad
    rw [h1, h]
    simp only [cond_false]
    rw [decide_eq_false (by omega : ¬ ((L.length : Nat) : Int) < 0), decide_eq_false (by omega : ¬ ((L.length : Nat) : Int) > 1024)]; rfl
theorem w_ok {k : Nat} (hk : k < L.length) : okE (hdW L L.length) k = true := by
  obtain ⟨h1, h2, h3, h4, h5, h6⟩ := w_ent g hk
  have hx := g.x k hk
  have hy := g.y k hk
  have hb := g.b k hk
  refine okE_t ?_ ?_
  · unfold bad1 bd3 bd2 bd1
    rw [h1, h2, h3, h5, decide_eq_false (by omega), decide_eq_false (by omega), decide_eq_false (by omega), decide_eq_false (by omega)]; rfl
  · unfold bad2
    by_cases h0 : ((k : Nat) : Int) > 0
    · have ho := g.ord (k - 1) (by omega)
      rw [show k - 1 + 1 = k by omega] at ho
      rw [decide_eq_true h0, w_enE g hk, w_enE g (show k - 1 < L.length by omega)]
      show (!lesB (ea L (k - 1)).X (ea L (k - 1)).Y (ea L k).X (ea L k).Y) = false
      have : lesB (ea L (k - 1)).X (ea L (k - 1)).Y (ea L k).X (ea L k).Y = true := decide_eq_true ho
      rw [this]; rfl
    · rw [decide_eq_false h0]; rfl
theorem w_parse : parseB (hdW L L.length) = true := by
  obtain ⟨h1, h2⟩ := w_nN g
  refine parse_y h2 (fun j hj => w_ok g (by omega)) (decide_eq_false ?_)
  rw [h1, w_posn g _ (Nat.le_refl _)]
  omega
theorem w_tot : ∀ k, k ≤ L.length → tot (hdW L L.length) k = ((blW L k).size : Nat)
  | 0, _ => rfl
  | k + 1, hk => by
    show tot (hdW L L.length) k + szE (hdW L L.length) k = _
    rw [w_tot k (by omega), w_szE g hk]
    show _ = (((blW L k ++ (ea L k).blob).size : Nat) : Int)
    rw [ByteArray.size_append]; omega
end
/-- Open's reading of a string that begins with the magic bytes, an index and its sum. -/
theorem cut_magic (t : ByteArray) : cutP (⟨#[71, 1]⟩ ++ t) ⟨#[71, 1]⟩ = (t, true) := by
  have hs : (⟨#[71, 1]⟩ ++ t : ByteArray).size = 2 + t.size := by rw [ByteArray.size_append]; rfl
  have e0 : ((⟨#[71, 1]⟩ : ByteArray)).size = 2 := rfl
  have h : hasP (⟨#[71, 1]⟩ ++ t) ⟨#[71, 1]⟩ = true := by
    unfold hasP
    rw [decide_eq_true (by rw [hs, e0]; omega)]
    have : (⟨#[71, 1]⟩ ++ t : ByteArray).extract 0 2 = ⟨#[71, 1]⟩ := byl_ext (by
      rw [byl_extract, byl_append, List.drop_zero]; rfl)
    show (((⟨#[71, 1]⟩ ++ t : ByteArray).extract 0 2).toList == _) = true
    rw [this]; exact beq_self_eq_true _
  unfold cutP
  rw [h]
  show ((⟨#[71, 1]⟩ ++ t : ByteArray).extract 2 _, true) = _
  have : (⟨#[71, 1]⟩ ++ t : ByteArray).extract 2 (⟨#[71, 1]⟩ ++ t : ByteArray).size = t := byl_ext (by
    rw [byl_extract, hs, byl_append]
    show List.take _ (byl t) = _
    exact List.take_of_length_le (by rw [byl_len]; omega))
  rw [this]
theorem opR_magic (t : ByteArray) : opR (⟨#[71, 1]⟩ ++ t) = t ∧ opC (⟨#[71, 1]⟩ ++ t) = true := by unfold opR opC; rw [cut_magic]; exact ⟨rfl, rfl⟩
/-- A text is read. -/
theorem rd_text {s h : ByteArray} {p : Nat} {C : List UInt8} (e : rmd s p = byl (txtB h) ++ C) (hp : p ≤ s.size) (hh : h.size < 9223372036854775808) : Oct.textRes s p false = (h, p + (txtB h).size, false) := by
  rw [byl_txt, List.append_assoc] at e
  have h1 := rd_var e hh
  obtain ⟨e2, h2⟩ := rm_step e hp
  have h3 := rd_take e2 h2 (m := (h.size : Nat)) (by rw [byl_len])
  unfold Oct.textRes
  rw [h1]
  simp only []
  rw [h3]
  have : (⟨(byl h).toArray⟩ : ByteArray) = h := byl_ext rfl
  rw [this, byl_len]
  simp only [Bool.false_eq_true, if_false, Prod.mk.injEq, true_and, and_true]
  have : (txtB h).size = (Oct.M.leb h.size).length + h.size := by
    rw [← byl_len, byl_txt, List.length_append, byl_len]
  omega
/-- The head of a body: the index and its sum, whatever follows. -/
theorem rd_head {t h C : ByteArray} {s : ByteArray} (ht : t = txtB h ++ putB (sumI h) 4 ++ C) (hh : h.size < 9223372036854775808) (hs : s = ⟨#[71, 1]⟩ ++ t) :
    opC s = true ∧ opI s = h ∧ ot2 s = ((txtB h).size + 4, false) ∧ opNe s = false ∧ opLf s = (C.size : Nat) ∧ opR s = t := by
  subst hs
  obtain ⟨r1, r2⟩ := opR_magic t
  have e0 : rmd t 0 = byl (txtB h) ++ (byl (putB (sumI h) 4) ++ byl C) := by rw [rm_zero, ht, byl_append, byl_append, List.append_assoc]
  have h1 := rd_text e0 (Nat.zero_le _) hh
  rw [Nat.zero_add] at h1
  obtain ⟨e1, h2⟩ := rm_step e0 (Nat.zero_le _)
  rw [byl_len, Nat.zero_add] at e1 h2
  have hb := sumI_bd h
  obtain ⟨h3, h4⟩ := rd_num e1 h2 hb.1 (by show sumI h < 256 ^ 4; omega) (by decide)
  have o1 : ot1 (⟨#[71, 1]⟩ ++ t) = ((txtB h).size, false) := by unfold ot1; rw [r1, h1]
  have oi : opI (⟨#[71, 1]⟩ ++ t) = h := by unfold opI; rw [r1, h1]
  have o2 : ot2 (⟨#[71, 1]⟩ ++ t) = ((txtB h).size + 4, false) := by unfold ot2; rw [r1, o1]; show (Oct.takeRes t (txtB h).size false _).2 = _; rw [h3]; rfl
  have os : opS (⟨#[71, 1]⟩ ++ t) = sumI h := by unfold opS; rw [r1, o1]; exact h4
  refine ⟨r2, oi, o2, ?_, ?_, r1⟩
  · rw [← opNe_eq, os, oi]; simp
  · unfold opLf
    rw [r1, o2, ht]
    simp only [ByteArray.size_append, putB_sz, sz4]
    omega
end Ab
end Go.Proofs.YtpdckpifhniioaaGreat
end
section
set_option linter.unusedVariables false
set_option linter.unusedSimpArgs false
namespace Go.Proofs.YtpdckpifhniioaaGreat
open Go.RowKit
namespace Ab
theorem write_body (L : List EN) : writeB L = ⟨#[71, 1]⟩ ++ bodyW L := byl_ext (by
  unfold writeB bodyW
  simp only [byl_append, List.append_assoc])
theorem entW_le (e : EN) : (entW e).size ≤ 22 := by
  unfold entW
  simp only [ByteArray.size_append, putB_sz, sz2, sz4]
  have h := varB_le e.blob.size
  have : (quadE e).size = 4 := rfl
  omega
theorem hdW_le (L : List EN) : ∀ k, (hdW L k).size ≤ 10 + 22 * k
  | 0 => varB_le _
  | k + 1 => by
    show (hdW L k ++ entW (ea L k)).size ≤ _
    rw [ByteArray.size_append]
    have := hdW_le L k
    have := entW_le (ea L k)
    omega
theorem blW_more (L : List EN) (k : Nat) : ∀ d, ∃ R, byl (blW L (k + d)) = byl (blW L k) ++ R
  | 0 => ⟨[], by simp⟩
  | d + 1 => by
    obtain ⟨R, h⟩ := blW_more L k d
    refine ⟨R ++ byl (ea L (k + d)).blob, ?_⟩
    show byl (blW L (k + d) ++ (ea L (k + d)).blob) = _
    rw [byl_append, h, List.append_assoc]
section
variable {L : List EN} (g : GoodE L)
include g
theorem hdW_lt : (hdW L L.length).size < 9223372036854775808 := by
  have := hdW_le L L.length
  have := g.len
  omega
theorem w_opT {s : ByteArray} (h : opI s = hdW L L.length) : opT s = ((blW L L.length).size : Nat) := by
  unfold opT
  rw [h, (w_nN g).1, w_tot g _ (Nat.le_refl _)]
/-- The error is decided by what follows the head. -/
theorem w_open {C s : ByteArray} (hs : s = ⟨#[71, 1]⟩ ++ (txtB (hdW L L.length) ++ putB (sumI (hdW L L.length)) 4 ++ C)) :
    openE s = (bif decide (((C.size : Nat) : Int) < ((blW L L.length).size : Nat)) then 10 else bif decide (((C.size : Nat) : Int) > ((blW L L.length).size : Nat)) then 11 else 0) := by
  obtain ⟨h1, h2, h3, h4, h5, h6⟩ := rd_head rfl (hdW_lt g) hs
  unfold openE
  rw [h1, h3, h4, h2, w_parse g, h5, w_opT g h2]
  rfl
theorem write_open : openE (writeB L) = 0 := by
  rw [w_open g (C := blW L L.length) (by rw [write_body]; rfl)]
  rw [decide_eq_false (by omega : ¬ ((blW L L.length).size : Int) < ((blW L L.length).size : Nat))]
  rfl
theorem write_list : openL (writeB L) = L := by
  obtain ⟨h1, h2, h3, h4, h5, h6⟩ := rd_head (t := bodyW L) rfl (hdW_lt g) (write_body L)
  have hn := (w_nN g).1
  apply List.ext_getElem?
  intro k
  by_cases hk : k < L.length
  · unfold openL
    rw [h2, hn, List.getElem?_map, List.getElem?_range hk]
    simp only [Option.map_some]
    rw [w_enE g hk]
    have hb : blE (writeB L) k = (ea L k).blob := by
      unfold blE bpos
      rw [h6, h3, h2, w_tot g k (by omega), w_szE g hk]
      have e0 : (((blW L k).size : Nat) : Int).toNat = (blW L k).size := rfl
      rw [e0]
      obtain ⟨R, e⟩ := blW_more L (k + 1) (L.length - (k + 1))
      rw [show k + 1 + (L.length - (k + 1)) = L.length by omega] at e
      have e1 : rmd (bodyW L) ((txtB (hdW L L.length)).size + 4 + (blW L k).size) = byl (ea L k).blob ++ R := by
        unfold rmd bodyW
        rw [byl_append, e]
        show List.drop _ (byl (txtB _ ++ putB _ 4) ++ (byl (blW L k ++ (ea L k).blob) ++ R)) = _
        rw [byl_append, byl_append]
        have l1 : (txtB (hdW L L.length)).size + 4 + (blW L k).size = (byl (txtB (hdW L L.length)) ++ byl (putB (sumI (hdW L L.length)) 4) ++ byl (blW L k)).length := by
          rw [List.length_append, List.length_append, byl_len, byl_len, byl_len, putB_sz, sz4]
        rw [l1, ← List.append_assoc, ← List.append_assoc, List.append_assoc _ (byl (ea L k).blob), List.drop_left]
      have e2 : (txtB (hdW L L.length)).size + 4 + (blW L k).size ≤ (bodyW L).size := by
        have := congrArg List.length e1
        unfold bodyW
        have e3 := congrArg List.length e
        rw [List.length_append, byl_len, byl_len] at e3
        have : (blW L (k + 1)).size = (blW L k).size + (ea L k).blob.size := by
          show (blW L k ++ (ea L k).blob).size = _
          rw [ByteArray.size_append]
        simp only [ByteArray.size_append, putB_sz, sz4]
        omega
      have e4 := rd_take e1 e2 (m := ((ea L k).blob.size : Nat)) (by rw [byl_len])
      show (Oct.takeRes (bodyW L) _ false _).1 = _
      rw [e4]
      exact byl_ext rfl
    have hq : L[k]? = some (ea L k) := by
      unfold ea
      rw [List.getD, List.getElem?_eq_getElem hk]; rfl
    rw [hb, hq]
    rfl
  · rw [List.getElem?_eq_none (by rw [openL_len, h2, hn]; omega), List.getElem?_eq_none (by omega)]
end
def enO (e : TA) : EN := ⟨e.X, e.Y, meanB e.t 0, meanB e.t 1, meanB e.t 2, meanB e.t 3, sumI (blobT e.t), blobT e.t⟩
theorem ea_map {l : List TA} {k : Nat} (h : k < l.length) : ea (l.map enO) k = enO (at' l k) := by
  unfold ea at'
  simp [List.getD, h]
theorem hd_eq (l : List TA) : ∀ k, k ≤ l.length → hdW (l.map enO) k = hdB l k
  | 0, _ => by
    show varB ((l.map enO).length : Nat) = varB (l.length : Nat)
    rw [List.length_map]
  | k + 1, h => by
    show hdW (l.map enO) k ++ entW (ea (l.map enO) k) = hdB l k ++ entB (at' l k)
    rw [hd_eq l k (by omega), ea_map h]; rfl
theorem bl_eq (l : List TA) : ∀ k, k ≤ l.length → blW (l.map enO) k = blB l k
  | 0, _ => rfl
  | k + 1, h => by
    show blW (l.map enO) k ++ (ea (l.map enO) k).blob = blB l k ++ blobT (at' l k).t
    rw [bl_eq l k (by omega), ea_map h]; rfl
theorem pack_write (l : List TA) : packB l = writeB (l.map enO) := by
  unfold packB writeB
  rw [List.length_map, hd_eq l _ (Nat.le_refl _), bl_eq l _ (Nat.le_refl _)]
theorem good_goodE {l : List TA} (g : Good l) : GoodE (l.map enO) := by
  refine ⟨by rw [List.length_map]; exact g.len, fun k hk => ?_, fun k hk => ?_, fun k hk => ?_, fun k hk => ?_, fun k hk => ?_⟩
  all_goals rw [List.length_map] at hk
  · rw [ea_map hk]; exact ⟨(good_xy g hk).1, (good_xy g hk).2.1⟩
  · rw [ea_map hk]; exact (good_xy g hk).2.2
  · rw [ea_map hk]
    have := sumI_bd (blobT (at' l k).t)
    exact ⟨this.1, by show sumI _ < _; omega⟩
  · rw [ea_map hk]; exact ⟨blobT_pos _, blobT_le _⟩
  · rw [ea_map hk, ea_map (by omega)]; exact g.ord k hk
theorem pack_open {l : List TA} (g : Good l) : openE (packB l) = 0 ∧ openL (packB l) = l.map enO := by
  rw [pack_write]; exact ⟨write_open (good_goodE g), write_list (good_goodE g)⟩
end Ab
end Go.Proofs.YtpdckpifhniioaaGreat
end
section
set_option linter.unusedVariables false
set_option linter.unusedSimpArgs false
namespace Go.Proofs.YtpdckpifhniioaaGreat
open Go.RowKit
namespace Ab
attribute [local irreducible] CallOKd
def strT (s : ByteArray) : Nat → UInt8 := fun i => s.get! i
def fillS (s : ByteArray) : Nat → UInt8 := fillT (s.get! 0) (s.get! 1) (s.get! 2) (s.get! 3)
/-- Kind 0: the tile; is it one? -/
def d0B (s : ByteArray) : Bool := decide (s.size = 4)
def d0T (s : ByteArray) : Nat → UInt8 := bif d0B s then fillS s else zT
def d1B (s : ByteArray) : Bool := decide (s.size = 256)
def d1T (s : ByteArray) : Nat → UInt8 := bif d1B s then strT s else zT
end Ab
end Go.Proofs.YtpdckpifhniioaaGreat
end
section
set_option linter.unusedVariables false
set_option linter.unusedSimpArgs false
namespace Go.Proofs.YtpdckpifhniioaaGreat
open Go.RowKit
namespace Ab
attribute [local irreducible] CallOKd
/-- Kind 2: the residuals. -/
def d2D (s : ByteArray) : ByteArray × Int := Cod.dres (s.extract 1 s.size) 256
def d2K (s : ByteArray) : Int := ((s.get! 0).toNat : Nat)
def d2N (s : ByteArray) : Bool := stB s ((d2D s).2 != 0)
def d2B (s : ByteArray) : Bool := bif decide (s.size = 0) then false else bif d2N s then false else decide (d2K s < 6)
def invT (k : Nat) (f : Nat → UInt8) : Nat → UInt8 := Prd.til (Prd.M.unp k f 256)
def d2T (s : ByteArray) : Nat → UInt8 := bif d2B s then invT (d2K s).toNat (strT (d2D s).1) else zT
end Ab
end Go.Proofs.YtpdckpifhniioaaGreat
end
section
set_option linter.unusedVariables false
set_option linter.unusedSimpArgs false
namespace Go.Proofs.YtpdckpifhniioaaGreat
open Go.RowKit
namespace Ab
attribute [local irreducible] CallOKd
def kB (b : ByteArray) : Int := ((b.get! 0).toNat : Nat)
def tlB (b : ByteArray) : ByteArray := b.extract 1 b.size
def dkB (b : ByteArray) : Bool := if kB b = 0 then d0B (tlB b) else if kB b = 1 then d1B (tlB b) else if kB b = 2 then d2B (tlB b) else false
def dkT (b : ByteArray) : Nat → UInt8 := if kB b = 0 then d0T (tlB b) else if kB b = 1 then d1T (tlB b) else if kB b = 2 then d2T (tlB b) else zT
theorem clnT_lsB (t : Nat → UInt8) : tl (clnT (lsB (tl t))) = tl (clnT t) := cln_lsB t
theorem k0 {b : ByteArray} (h : kB b = 0) : dkT b = d0T (tlB b) ∧ dkB b = d0B (tlB b) := by unfold dkT dkB; rw [h]; exact ⟨rfl, rfl⟩
theorem k1 {b : ByteArray} (h : kB b = 1) : dkT b = d1T (tlB b) ∧ dkB b = d1B (tlB b) := by unfold dkT dkB; rw [h]; exact ⟨rfl, rfl⟩
theorem k2 {b : ByteArray} (h : kB b = 2) : dkT b = d2T (tlB b) ∧ dkB b = d2B (tlB b) := by unfold dkT dkB; rw [h]; exact ⟨rfl, rfl⟩
theorem k3 {b : ByteArray} (h : kB b ≥ 3) : dkT b = zT ∧ dkB b = false := by unfold dkT dkB; rw [if_neg (by omega), if_neg (by omega), if_neg (by omega), if_neg (by omega), if_neg (by omega), if_neg (by omega)]; exact ⟨rfl, rfl⟩
end Ab
end Go.Proofs.YtpdckpifhniioaaGreat
end
section
set_option linter.unusedVariables false
set_option linter.unusedSimpArgs false
namespace Go.Proofs.YtpdckpifhniioaaGreat
open Go.RowKit
namespace Ab
attribute [local irreducible] CallOKd
theorem not_f' {b : Bool} (h : b = false) : (!b) = true := by rw [h]; rfl
theorem mE_t {b : Bool} (h : b = true) : (!b) = false := by rw [h]; rfl
theorem find_range (p : Nat → Bool) : ∀ (n j : Nat), j < n → p j = true → (∀ i, i < j → p i = false) → (List.range n).find? p = some j := by
  intro n j hj hp hb
  rw [List.find?_range_eq_some]
  exact ⟨hp, List.mem_range.2 hj, fun i hi => by simpa using hb i hi⟩
end Ab
end Go.Proofs.YtpdckpifhniioaaGreat
end
