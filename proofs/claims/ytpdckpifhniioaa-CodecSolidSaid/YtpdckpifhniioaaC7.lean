/- x -/
import Derived.Test.YtpdckpifhniioaaC6
import Derived.Test.YtpdckpifhniioaaCo5
import Derived.Test.YtpdckpifhniioaaPr3
set_option linter.unusedVariables false
set_option linter.unusedSimpArgs false
namespace Go.Proofs.Ytpdckpifhniioaa
open Go.RowKit
namespace Ab
theorem enters113 : Enters Try.prog 43 := fun args w => by go_simp
theorem enters114 : Enters Try.prog 44 := fun args w => by go_simp
theorem enters147 : Enters Try.prog 68 := fun args w => by go_simp
theorem enters148 : Enters Try.prog 69 := fun args w => by go_simp
theorem plLs_tv : ∀ l : List Nat, ∀ t : Nat → UInt8, plLs (l.map fun i => ub (t i)) = some (l.map fun i => bv8 (t i))
  | [], _ => rfl
  | i :: l, t => by
    simp only [List.map_cons, plLs, Leaf.pl]
    rw [show leafy (Value.int .u8 ((t i).toNat : Nat)) = true from rfl, plLs_tv l t]
theorem plLs_tl (t : Nat → UInt8) : plLs (tl t) = some (tv t) := plLs_tv _ t
theorem cpl_agg {xs : List Leaf} {ys : List Value} (h : plLs xs = some ys) : (Cp.agg xs).pl = some (.agg ys.toArray) := by simp only [Cp.pl, h]
theorem tv_cf (t : Nat → UInt8) : (tv t).toArray = Prd.cf 256 t := by unfold tv Prd.cf; rfl
theorem cpl_tl (t : Nat → UInt8) : (Cp.agg (tl t)).pl = some (.agg (Prd.cf 256 t)) := by rw [cpl_agg (plLs_tl t), tv_cf]
theorem pl_tl (t : Nat → UInt8) : (SV.c (.agg (tl t))).pl = some (.agg (Prd.cf 256 t)) := cpl_tl t
theorem pls_tl (t : Nat → UInt8) {l : List SV} {ys : List Value} (h : pls l = some ys) : pls (.c (.agg (tl t)) :: l) = some (.agg (Prd.cf 256 t) :: ys) := by
  unfold pls
  rw [pl_tl, h]
theorem C147 (n : Nat) : CallOK Try.prog 68 [] [] n (iv .i64 6) [] 0 :=
  call_plain enters147 (vals := []) (y := .int .i64 6) rfl rfl n fun x => (Prd.Predictors_any x).mono fun e x' h => ⟨h.1, h.2⟩
theorem C148 (s : ByteArray) (hs : s.size ≤ 1000000000000000) (n : Nat) : CallOK Try.prog 69 [.c (.l (.v (.string s)))] [] n (iv .i64 (Prd.M.cost s.data.toList : Nat)) [] 0 :=
  call_plain enters148 (vals := [.string s]) (y := .int .i64 (Prd.M.cost s.data.toList : Nat)) rfl rfl n fun x => (Prd.cost_any s x hs _ rfl).mono fun e x' h => ⟨h.1, h.2⟩
theorem C113 (t : Nat → UInt8) (k : Int) (h0 : 0 ≤ k) (hk : k < 6) (n : Nat) : CallOK Try.prog 43 [.c (.agg (tl t)), iv .i64 k] [] n (.tup [.l (.v (.string (Prd.fw k.toNat t))), .l (li 0)]) [] 0 :=
  call_plain enters113 (vals := [.agg (Prd.cf 256 t), .int .i64 k]) (y := .tuple #[.string (Prd.fw k.toNat t), .int .i64 0]) (pls_tl t rfl) rfl n fun x => (Prd.forward_of t k.toNat (by omega) k (by omega) x).mono fun e x' h => ⟨h.1, h.2⟩
theorem fw_congr (k : Nat) {t u : Nat → UInt8} (h : ∀ i, i < 256 → t i = u i) : Prd.fw k t = Prd.fw k u := by
  unfold Prd.fw
  congr 2
  refine Prd.M.tab_congr 256 _ _ fun i hi => Prd.M.res_congr k _ _ i fun m h1 h2 => ?_
  unfold Prd.plf
  split
  · rw [h (4 * m) (by omega), h (4 * m + 1) (by omega), h (4 * m + 2) (by omega)]
  · split
    · rw [h (4 * (m - 64)) (by omega), h (4 * (m - 64) + 2) (by omega)]
    · split
      · rw [h (4 * (m - 128)) (by omega), h (4 * (m - 128) + 1) (by omega), h (4 * (m - 128) + 2) (by omega)]
      · rw [h (4 * (m - 192) + 3) (by omega)]
theorem C113L (l : List Leaf) (t : Nat → UInt8) (h : l = tl t) (k : Int) (h0 : 0 ≤ k) (hk : k < 6) (n : Nat) : CallOK Try.prog 43 [.c (.agg l), iv .i64 k] [] n (.tup [.l (.v (.string (Prd.fw k.toNat (lsB l)))), .l (li 0)]) [] 0 := by
  subst h
  rw [fw_congr k.toNat (fun i hi => lsB_tl t hi)]
  exact C113 t k h0 hk n
theorem C114 (s : ByteArray) (hs : s.size ≤ 2500000) (n : Nat) : CallOK Try.prog 44 [.c (.l (.v (.string s)))] [] n (.c (.l (.v (.string ⟨(Cod.M.enc s.data.toList).toArray⟩)))) [] 0 :=
  call_plain enters114 (vals := [.string s]) (y := .string ⟨(Cod.M.enc s.data.toList).toArray⟩) rfl rfl n fun x => (Cod.encode_any s x hs).mono fun e x' h => ⟨h.1, h.2⟩
theorem fw_lsB (k : Nat) (t : Nat → UInt8) : Prd.fw k (lsB (tl t)) = Prd.fw k t := fw_congr k fun i hi => lsB_tl t hi
theorem fw_len (k : Nat) (t : Nat → UInt8) : (Prd.fw k t).size = 256 := Prd.fw_size k t
/-- What Best has found after k predictors: the predictor, its cost. -/
def bst (t : Nat → UInt8) : Nat → Nat × Nat
  | 0 => (0, 1073741824)
  | k + 1 => bif decide ((Prd.M.cost (Prd.fw k t).data.toList : Nat) < (bst t k).2) then (k, Prd.M.cost (Prd.fw k t).data.toList) else bst t k
/-- The predictor of least cost. -/
def bestT (t : Nat → UInt8) : Nat := (bst t 6).1
def costI (k : Nat) (t : Nat → UInt8) : Int := (Prd.M.cost (Prd.fw k t).data.toList : Nat)
def I112 (t : Nat → UInt8) (k : Nat) : St := ⟨[(10, iv .i64 (k : Nat)), (9, iv .i64 6), (3, iv .i64 ((bst t k).1 : Nat)), (4, iv .i64 ((bst t k).2 : Nat)), (1, .c (.l (.p 0 0)))], [(0, some ⟨tl t, .t 27⟩)], 1, 28, [0], (0)⟩
theorem bst_t {t : Nat → UInt8} {k : Nat} (h : decide (costI k t < ((bst t k).2 : Nat)) = true) : ((k : Nat) : Int) = ((bst t (k + 1)).1 : Nat) ∧ costI k t = ((bst t (k + 1)).2 : Nat) := by
  have h := of_decide_eq_true h
  unfold costI at h ⊢
  rw [bst]
  rw [decide_eq_true (by omega)]
  exact ⟨rfl, rfl⟩
theorem bst_f {t : Nat → UInt8} {k : Nat} (h : decide (costI k t < ((bst t k).2 : Nat)) = false) : ((bst t k).1 : Int) = ((bst t (k + 1)).1 : Nat) ∧ ((bst t k).2 : Int) = ((bst t (k + 1)).2 : Nat) := by
  have h := of_decide_eq_false h
  unfold costI at h
  rw [bst]
  rw [decide_eq_false (by omega)]
  exact ⟨rfl, rfl⟩
theorem bst_lt (t : Nat → UInt8) : ∀ k, 0 < k → (bst t k).1 < k
  | 0, h => by omega
  | k + 1, _ => by
    rw [bst]
    by_cases h : (Prd.M.cost (Prd.fw k t).data.toList : Nat) < (bst t k).2
    · rw [decide_eq_true h]; exact Nat.lt_succ_self k
    · rw [decide_eq_false h]
      rcases Nat.eq_zero_or_pos k with rfl | hk
      · exact Nat.zero_lt_one
      · exact Nat.lt_succ_of_lt (bst_lt t k hk)
theorem bestT_lt (t : Nat → UInt8) : bestT t < 6 := bst_lt t 6 (by decide)
theorem bst_congr {t u : Nat → UInt8} (h : ∀ i, i < 256 → t i = u i) : ∀ k, bst t k = bst u k
  | 0 => rfl
  | k + 1 => by rw [bst, bst, bst_congr h k, fw_congr k h]
theorem bestT_lsB (t : Nat → UInt8) : bestT (lsB (tl t)) = bestT t := by unfold bestT; rw [bst_congr (fun i hi => lsB_tl t hi)]
def cz_R112 (t : Nat → UInt8) (k : Nat) : Cz := {
  ct := (fun f => match f with
  | 43 => some fun _ _S ar => match ar with | [.c (.agg l), .c (.l (.v (.int _ k)))] => some { v := .tup [.l (.v (.string (Prd.fw k.toNat (lsB l)))), .l (li 0)], rd := [], wr := [], nw := 0 } | _ => none
  | 68 => some fun _ _S ar => match ar with | [] => some { v := iv .i64 6, rd := [], wr := [], nw := 0 } | _ => none
  | 69 => some fun _ _S ar => match ar with | [.c (.l (.v (.string s)))] => some { v := iv .i64 (Prd.M.cost s.data.toList : Nat), rd := [], wr := [], nw := 0 } | _ => none
  | _ => none)
  eq := (fun t => match t with
  | _ => none)
  raw := [], sym := [], nf := [(14, .c (.agg (tl t))), (16, .tup [.l (.v (.string (Prd.fw k t))), .l (li 0)]), (20, iv .i64 (costI k t))], ap := true, off := [], on := [], lp := fun _ => none, un := 0 }
set_option maxRecDepth 100000 in
theorem R112 (t : Nat → UInt8) (k : Nat)  (K : Exit → St → Prop) (h : HB (decide ((Nat.cast k : Int) < 6)) (Le (ag (List.take 256 (tl t))) (ag (tl t)) ∧ CallOKd Try.prog 43 [] [ag (tl t), iv IntKind.i64 (Nat.cast k : Int)] [] 1 (SV.tup [Cp.l (Leaf.v (Value.string (Prd.fw ((Nat.cast k : Int)).toNat (lsB (tl t))))), Cp.l (li 0)]) [] 0 ∧ Le (SV.tup [Cp.l (Leaf.v (Value.string (Prd.fw ((Nat.cast k : Int)).toNat (lsB (tl t))))), Cp.l (li 0)]) (SV.tup [Cp.l (Leaf.v (Value.string (Prd.fw k t))), Cp.l (li 0)]) ∧ CallOKd Try.prog 69 [] [SV.c (Cp.l (Leaf.v (Value.string (Prd.fw k t))))] [] 1 (iv IntKind.i64 (Nat.cast ((Prd.M.cost (Prd.fw k t).data.toList)) : Int)) [] 0 ∧ Le (iv IntKind.i64 (Nat.cast ((Prd.M.cost (Prd.fw k t).data.toList)) : Int)) (iv IntKind.i64 (costI k t)) ∧ HB (decide (costI k t < (Nat.cast ((bst t k).snd) : Int))) (IntKind.i64.wrap ((Nat.cast k : Int) + 1) = (Nat.cast k : Int) + 1 ∧ RoundTo Try.prog ((getLoop 3 (Try.f42.body.getD Code.skip)).getD Code.skip) 1 (wkK 1 K) (St.mk [(10, iv IntKind.i64 ((Nat.cast k : Int) + 1)), (26, iv IntKind.i64 ((Nat.cast k : Int) + 1)), (4, iv IntKind.i64 (costI k t)), (3, iv IntKind.i64 (Nat.cast k : Int)), (25, iv IntKind.i64 (costI k t)), (24, iv IntKind.i64 (Nat.cast k : Int)), (23, bv (decide (costI k t < (Nat.cast ((bst t k).snd) : Int)))), (22, iv IntKind.i64 (Nat.cast ((bst t k).snd) : Int)), (21, iv IntKind.i64 (costI k t)), (8, iv IntKind.i64 (costI k t)), (20, iv IntKind.i64 (costI k t)), (19, SV.c (Cp.l (Leaf.v (Value.string (Prd.fw k t))))), (7, iv IntKind.i64 0), (6, SV.c (Cp.l (Leaf.v (Value.string (Prd.fw k t))))), (18, iv IntKind.i64 0), (17, SV.c (Cp.l (Leaf.v (Value.string (Prd.fw k t))))), (13, SV.tup [Cp.l (Leaf.v (Value.string (Prd.fw k t))), Cp.l (li 0)]), (16, SV.tup [Cp.l (Leaf.v (Value.string (Prd.fw k t))), Cp.l (li 0)]), (15, iv IntKind.i64 (Nat.cast k : Int)), (14, ag (tl t)), (5, iv IntKind.i64 (Nat.cast k : Int)), (12, iv IntKind.i64 (Nat.cast k : Int)), (11, bv (decide ((Nat.cast k : Int) < 6))), (10, iv IntKind.i64 (Nat.cast k : Int)), (9, iv IntKind.i64 6), (3, iv IntKind.i64 (Nat.cast ((bst t k).fst) : Int)), (4, iv IntKind.i64 (Nat.cast ((bst t k).snd) : Int)), (1, SV.c (Cp.l (Leaf.p 0 0)))] [(0, some (Blk.mk (tl t) (BT.t 27)))] 1 28 [0] 0)) (IntKind.i64.wrap ((Nat.cast k : Int) + 1) = (Nat.cast k : Int) + 1 ∧ RoundTo Try.prog ((getLoop 3 (Try.f42.body.getD Code.skip)).getD Code.skip) 1 (wkK 1 K) (St.mk [(10, iv IntKind.i64 ((Nat.cast k : Int) + 1)), (26, iv IntKind.i64 ((Nat.cast k : Int) + 1)), (23, bv (decide (costI k t < (Nat.cast ((bst t k).snd) : Int)))), (22, iv IntKind.i64 (Nat.cast ((bst t k).snd) : Int)), (21, iv IntKind.i64 (costI k t)), (8, iv IntKind.i64 (costI k t)), (20, iv IntKind.i64 (costI k t)), (19, SV.c (Cp.l (Leaf.v (Value.string (Prd.fw k t))))), (7, iv IntKind.i64 0), (6, SV.c (Cp.l (Leaf.v (Value.string (Prd.fw k t))))), (18, iv IntKind.i64 0), (17, SV.c (Cp.l (Leaf.v (Value.string (Prd.fw k t))))), (13, SV.tup [Cp.l (Leaf.v (Value.string (Prd.fw k t))), Cp.l (li 0)]), (16, SV.tup [Cp.l (Leaf.v (Value.string (Prd.fw k t))), Cp.l (li 0)]), (15, iv IntKind.i64 (Nat.cast k : Int)), (14, ag (tl t)), (5, iv IntKind.i64 (Nat.cast k : Int)), (12, iv IntKind.i64 (Nat.cast k : Int)), (11, bv (decide ((Nat.cast k : Int) < 6))), (10, iv IntKind.i64 (Nat.cast k : Int)), (9, iv IntKind.i64 6), (3, iv IntKind.i64 (Nat.cast ((bst t k).fst) : Int)), (4, iv IntKind.i64 (Nat.cast ((bst t k).snd) : Int)), (1, SV.c (Cp.l (Leaf.p 0 0)))] [(0, some (Blk.mk (tl t) (BT.t 27)))] 1 28 [0] 0))) (wkK 1 K (Exit.exit 0) (St.mk [(11, bv (decide ((Nat.cast k : Int) < 6))), (10, iv IntKind.i64 (Nat.cast k : Int)), (9, iv IntKind.i64 6), (3, iv IntKind.i64 (Nat.cast ((bst t k).fst) : Int)), (4, iv IntKind.i64 (Nat.cast ((bst t k).snd) : Int)), (1, SV.c (Cp.l (Leaf.p 0 0)))] [(0, some (Blk.mk (tl t) (BT.t 27)))] 1 28 [0] 0))) : WPL Try.prog ((getLoop 3 (Try.f42.body.getD .skip)).getD .skip) (I112 t k) (wkK 1 K) :=
  wp_round (cx := cz_R112 t k) rfl (of_eq (by kernel_rfl) h)
set_option maxRecDepth 100000 in
set_option maxHeartbeats 4000000 in
theorem L112 (t : Nat → UInt8)  : ∀ (m k : Nat), 6 - k = m → k ≤ 6 → ∀ (K : Exit → St → Prop), K (.exit 0) (I112 t 6) → WPL Try.prog ((getLoop 3 (Try.f42.body.getD .skip)).getD .skip) (I112 t k) (wkK 1 K)
  | 0, k, hm, hk, K, hK => by
    have e : k = 6 := by omega
    subst e
    refine R112 t _ K (HB.mk (fun hne => absurd (of_decide_eq_true hne) (by omega)) (fun he => ?_))
    exact wkK.to (I112 t _) (Nat.le_refl _) (by kernel_rfl) (wkE_cons (LeN.sl (by kernel_rfl) rfl) (wkE_cons (LeN.sl (by kernel_rfl) rfl) (wkE_cons (LeN.sl (by kernel_rfl) rfl) (wkE_cons (LeN.sl (by kernel_rfl) rfl) (wkE_cons (LeN.sl (by kernel_rfl) rfl) trivial))))) (wkH_cons (BkN.blk (k := ⟨tl t, .t 27⟩) (by kernel_rfl) (rfl) (by kernel_rfl)) trivial) hK
  | m + 1, k, hm, hk, K, hK => by
    refine R112 t k K (HB.mk (fun hne => ?_) (fun he => absurd (show ((k : Nat) : Int) < (6 : Nat) by omega) (of_decide_eq_false he)))
    have hlt : k < 6 := by omega
    repeat' (first | exact trivial | with_reducible apply And.intro | (with_reducible apply HB.mk) | with_reducible intro _)
    all_goals first
      | (assumption)
      | (with_reducible exact Le.refl _)
      | ((with_reducible refine C113L _ _ rfl _ ?_ ?_ _) <;> omega)
      | ((with_reducible refine C148 _ ?_ _); rw [fw_len]; decide)
      | (exact Le.of (by rw [tl_take]))
      | (exact Le.of (by rw [show (((k : Nat) : Int)).toNat = k from rfl, fw_lsB]))
      | ((with_reducible refine C148 _ ?_ _); rw [fw_len]; decide)
      | (exact Le.of rfl)
      | (have hcnd : decide (costI k t < ((bst t k).2 : Nat)) = true := (by with_reducible assumption); refine RoundTo.to (I112 t (k + 1)) (Nat.le_refl _) (by kernel_rfl) (wkE_cons (LeN.sl (by kernel_rfl) rfl) (wkE_cons (LeN.sl (by kernel_rfl) rfl) (wkE_cons (LeN.sl_int (y := ((k : Nat) : Int)) (by kernel_rfl) ((bst_t hcnd).1)) (wkE_cons (LeN.sl_int (y := costI k t) (by kernel_rfl) ((bst_t hcnd).2)) (wkE_cons (LeN.sl (by kernel_rfl) rfl) trivial))))) (wkH_cons (BkN.blk (k := ⟨tl t, .t 27⟩) (by kernel_rfl) (rfl) (by kernel_rfl)) trivial) (L112 t  m (k + 1) (by omega) (by omega) K hK))
      | (have hcnd : decide (costI k t < ((bst t k).2 : Nat)) = false := (by with_reducible assumption); refine RoundTo.to (I112 t (k + 1)) (Nat.le_refl _) (by kernel_rfl) (wkE_cons (LeN.sl (by kernel_rfl) rfl) (wkE_cons (LeN.sl (by kernel_rfl) rfl) (wkE_cons (LeN.sl_int (y := (((bst t k).1 : Nat) : Int)) (by kernel_rfl) ((bst_f hcnd).1)) (wkE_cons (LeN.sl_int (y := (((bst t k).2 : Nat) : Int)) (by kernel_rfl) ((bst_f hcnd).2)) (wkE_cons (LeN.sl (by kernel_rfl) rfl) trivial))))) (wkH_cons (BkN.blk (k := ⟨tl t, .t 27⟩) (by kernel_rfl) (rfl) (by kernel_rfl)) trivial) (L112 t  m (k + 1) (by omega) (by omega) K hK))
      | (exact okw _ (by omega) (by omega))
      | (exact Le.of rfl)
      | (exact BkR.of rfl)
      | (unfold SlOK; omega)
      | (unfold SlOK; decide)
      | (unfold inByte; decide)
      | (simp only [*, Bool.and_self, Bool.not_false, Bool.not_true]; done)
      | (simp_all [wants]; done)
theorem enters112 : Enters Try.prog 42 := fun args w => by go_simp
def cz_C112 (t : Nat → UInt8) : Cz := {
  ct := (fun f => match f with
  | 43 => some fun _ _S ar => match ar with | [.c (.agg l), .c (.l (.v (.int _ k)))] => some { v := .tup [.l (.v (.string (Prd.fw k.toNat (lsB l)))), .l (li 0)], rd := [], wr := [], nw := 0 } | _ => none
  | 68 => some fun _ _S ar => match ar with | [] => some { v := iv .i64 6, rd := [], wr := [], nw := 0 } | _ => none
  | 69 => some fun _ _S ar => match ar with | [.c (.l (.v (.string s)))] => some { v := iv .i64 (Prd.M.cost s.data.toList : Nat), rd := [], wr := [], nw := 0 } | _ => none
  | _ => none)
  eq := (fun t => match t with
  | _ => none)
  raw := [], sym := [], nf := [], ap := true, off := [], on := [], lp := fun r => match r with | 3 => some (fun _ K => K (.exit 0) (I112 t 6)) | _ => none, un := 0 }
set_option maxRecDepth 100000 in
set_option maxHeartbeats 400000 in
theorem C112 (t : Nat → UInt8)  (n : Nat) : CallOK Try.prog 42 [.c (.agg (tl t))] [] n (iv .i64 (bestT t : Nat)) [] 0 := by
  refine CallOK.any ?_ (by kernel_rfl) (by kernel_rfl) n
  refine call_ok (cx := cz_C112 t) (nm := []) rfl Try.func42 (body := Try.f42.body.getD .skip) rfl enters112 (by kernel_rfl) ?_
  apply of_eq (q := CallOKd Try.prog 68 [] [] [] 1 (iv IntKind.i64 6) [] 0 ∧ (LoopOK Try.prog ((getLoop 3 (Try.f42.body.getD .skip)).getD .skip) (St.mk [(10, iv IntKind.i64 0), (9, iv IntKind.i64 6), (4, iv IntKind.i64 1073741824), (3, iv IntKind.i64 0), (2, iv IntKind.i64 0), (1, SV.c (Cp.l (Leaf.p 0 0))), (0, ag (tl t))] [(0, some (Blk.mk (tl t) (BT.t 27)))] 1 28 [0] 0) fun K => K (Exit.exit 0) (I112 t 6)) ∧ Le (iv IntKind.i64 (Nat.cast ((bst t 6).fst) : Int)) (iv IntKind.i64 (Nat.cast ((bestT t)) : Int)) ∧ True) (by kernel_rfl)
  repeat' (first | exact trivial | with_reducible apply And.intro | (with_reducible apply HB.mk) | with_reducible intro _)
  all_goals first
    | (assumption)
    | (with_reducible exact Le.refl _)
    | (with_reducible exact C147 _)
    | (exact LoopOK.mk (I112 t 0) rfl (by kernel_rfl) (wkE_cons (LeN.sl (by kernel_rfl) rfl) (wkE_cons (LeN.sl (by kernel_rfl) rfl) (wkE_cons (LeN.sl (by kernel_rfl) rfl) (wkE_cons (LeN.sl (by kernel_rfl) rfl) (wkE_cons (LeN.sl (by kernel_rfl) rfl) trivial))))) (wkH_cons (BkN.blk (k := ⟨tl t, .t 27⟩) (by kernel_rfl) (rfl) (by kernel_rfl)) trivial) (fun K hT => L112 t  _ 0 rfl (by first | decide | omega) K hT))
    | (exact Le.of rfl)
    | (exact okw _ (by omega) (by omega))
    | (exact Le.of rfl)
    | (exact BkR.of rfl)
    | (unfold SlOK; omega)
    | (unfold SlOK; decide)
    | (unfold inByte; decide)
    | (simp only [*, Bool.and_self, Bool.not_false, Bool.not_true]; done)
    | (simp_all [wants]; done)
theorem C112L (l : List Leaf) (t : Nat → UInt8) (h : l = tl t) (n : Nat) : CallOK Try.prog 42 [.c (.agg l)] [] n (iv .i64 (bestT (lsB l) : Nat)) [] 0 := by
  subst h
  rw [bestT_lsB]
  exact C112 t n
end Ab
end Go.Proofs.Ytpdckpifhniioaa
