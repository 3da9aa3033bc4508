/- x -/
import Derived.Test.YtpdckpifhniioaaC10
set_option linter.unusedVariables false
set_option linter.unusedSimpArgs false
namespace Go.Proofs.Ytpdckpifhniioaa
open Go.RowKit
namespace Ab
theorem u8_rng (x : Int) : 0 ≤ IntKind.u8.wrap x ∧ IntKind.u8.wrap x < 256 := by rw [IntKind.wrap_u8]; omega
theorem mch_bd (s s3 : Int) : 0 ≤ mch s s3 ∧ mch s s3 < 256 := by
  unfold mch
  cases rnd s3 64 == 0
  · exact u8_rng _
  · exact ⟨Int.le_refl _, by show (0 : Int) < 256; decide⟩
theorem mal_bd (s3 : Int) : 0 ≤ mal s3 ∧ mal s3 < 256 := by
  unfold mal
  cases rnd s3 64 == 0
  · exact u8_rng _
  · exact ⟨Int.le_refl _, by show (0 : Int) < 256; decide⟩
theorem u8_ofI {x : Int} (h : 0 ≤ x ∧ x < 256) : u8 x = ub (ofI x) := by
  unfold ofI
  have : ((UInt8.ofNat x.toNat).toNat : Int) = x := by
    rw [UInt8.toNat_ofNat']
    omega
  rw [show ub (UInt8.ofNat x.toNat) = u8 ((UInt8.ofNat x.toNat).toNat : Nat) from rfl, this]
def meanB (t : Nat → UInt8) (c : Nat) : UInt8 := ofI (match c with | 0 => mch (mS t 0 64) (mS t 3 64) | 1 => mch (mS t 1 64) (mS t 3 64) | 2 => mch (mS t 2 64) (mS t 3 64) | _ => mal (mS t 3 64))
def codT (t : Nat → UInt8) : ByteArray := ⟨#[2, UInt8.ofNat (bestT t)]⟩ ++ ⟨(Cod.M.enc (Prd.fw (bestT t) t).data.toList).toArray⟩
/-- The blob of a tile. -/
def blobT (t : Nat → UInt8) : ByteArray := bif solT t then ⟨#[0, t 0, t 1, t 2, t 3]⟩ else bif decide (((codT t).size : Int) < 257) then codT t else ⟨#[1]⟩ ++ bytesT t
theorem meanL_ub (t : Nat → UInt8) : meanL t = [ub (meanB t 0), ub (meanB t 1), ub (meanB t 2), ub (meanB t 3)] := by
  unfold meanL
  rw [u8_ofI (mch_bd _ _), u8_ofI (mch_bd _ _), u8_ofI (mch_bd _ _), u8_ofI (mal_bd _)]
  rfl
theorem mS_congr {t u : Nat → UInt8} (h : ∀ i, i < 256 → t i = u i) (c : Nat) : ∀ k, k ≤ 64 → mS t c k = mS u c k
  | 0, _ => rfl
  | k + 1, hk => by
    rw [mS, mS, mS_congr h c k (by omega), h (4 * k + 3) (by omega)]
    congr 2
    unfold ch
    split
    · rw [h _ (by omega)]
    · rw [h _ (by omega)]
    · rw [h _ (by omega)]
    · rfl
theorem meanL_lsB (t : Nat → UInt8) : meanL (lsB (tl t)) = meanL t := by
  have := fun c => mS_congr (t := lsB (tl t)) (u := t) (fun i hi => lsB_tl t hi) c 64 (Nat.le_refl _)
  unfold meanL
  rw [this, this, this, this]
theorem C52L (l : List Leaf) (t : Nat → UInt8) (h : l = tl t) (n : Nat) : CallOK Try.prog 19 [.c (.agg l)] [] n (ag (meanL (lsB l))) [] 0 := by
  subst h; rw [meanL_lsB]; exact C52 t n
theorem bytesT_lsB (t : Nat → UInt8) : bytesT (lsB (tl t)) = bytesT t := by
  unfold bytesT
  congr 2
  apply List.map_congr_left
  intro i hi
  exact lsB_tl t (by simpa using hi)
theorem C115L (l : List Leaf) (t : Nat → UInt8) (h : l = tl t) (n : Nat) : CallOK Try.prog 45 [.c (.agg l)] [] n (.c (.l (.v (.string (bytesT (lsB l)))))) [] 0 := by
  subst h; rw [bytesT_lsB]; exact C115 t n
theorem sol_lsB (t : Nat → UInt8) : solT (lsB (tl t)) = solT t := by
  unfold solT
  rw [lsB_tl t (by decide), lsB_tl t (by decide), lsB_tl t (by decide), lsB_tl t (by decide)]
  exact sameT_congr (fun i hi => lsB_tl t hi) (fun i hi => rfl)
theorem C111L (l : List Leaf) (t : Nat → UInt8) (h : l = tl t) (n : Nat) : CallOK Try.prog 41 [.c (.agg l)] [] n (.tup [.agg [ub (solP (lsB l) 0), ub (solP (lsB l) 1), ub (solP (lsB l) 2), ub (solP (lsB l) 3)], .l (.v (.bool (solT (lsB l))))]) [] 0 := by
  subst h
  have e : ∀ i, i < 256 → solP (lsB (tl t)) i = solP t i := fun i hi => by unfold solP; rw [sol_lsB, lsB_tl t hi]
  rw [sol_lsB, e 0 (by decide), e 1 (by decide), e 2 (by decide), e 3 (by decide)]
  exact C111 t n
theorem solP_lsB (t : Nat → UInt8) {i : Nat} (hi : i < 256) : solP (lsB (tl t)) i = solP t i := by unfold solP; rw [sol_lsB, lsB_tl t hi]
theorem strOf_bytes (l : List UInt8) : strOf (l.map fun b => ((b.toNat : Nat) : Int)) = ⟨l.toArray⟩ := by
  unfold strOf
  rw [List.map_map]
  congr 2
  rw [show ((fun b : Int => UInt8.ofNat b.toNat) ∘ fun b : UInt8 => ((b.toNat : Nat) : Int)) = id from funext fun b => by simp]
  exact List.map_id l
theorem inb (b : UInt8) : inByte ((b.toNat : Nat) : Int) := okb b
theorem enters51 : Enters Try.prog 18 := fun args w => by go_simp
def cz_C51 : Cz := {
  ct := (fun f => match f with
  | _ => none)
  eq := (fun t => match t with
  | _ => none)
  raw := [], sym := [], nf := [], ap := true, off := [], on := [], lp := fun _ => none, un := 0 }
set_option maxRecDepth 100000 in
set_option maxHeartbeats 400000 in
theorem C51 (a b c e : UInt8)  (n : Nat) : CallOK Try.prog 18 [ag [ub a, ub b, ub c, ub e]] [] n (.c (.l (.v (.string ⟨#[a, b, c, e]⟩)))) [] 0 := by
  refine CallOK.any ?_ (by kernel_rfl) (by kernel_rfl) n
  refine call_ok (cx := cz_C51) (nm := []) rfl Try.func18 (body := Try.f18.body.getD .skip) rfl enters51 (by kernel_rfl) ?_
  apply of_eq (q := inByte (Nat.cast a.toNat : Int) ∧ inByte (Nat.cast b.toNat : Int) ∧ inByte (Nat.cast c.toNat : Int) ∧ inByte (Nat.cast e.toNat : Int) ∧ Le (SV.c (Cp.l (Leaf.v (Value.string (strOf [(Nat.cast a.toNat : Int), (Nat.cast b.toNat : Int), (Nat.cast c.toNat : Int), (Nat.cast e.toNat : Int)]))))) (SV.c (Cp.l (Leaf.v (Value.string (ByteArray.mk #[a, b, c, e]))))) ∧ True) (by kernel_rfl)
  repeat' (first | exact trivial | with_reducible apply And.intro | (with_reducible apply HB.mk) | with_reducible intro _)
  all_goals first
    | (assumption)
    | (with_reducible exact Le.refl _)
    | (exact inb _)
    | (exact Le.of (congrArg (fun s => SV.c (.l (.v (.string s)))) (strOf_bytes [a, b, c, e])))
    | (exact okw _ (by omega) (by omega))
    | (exact Le.of rfl)
    | (exact BkR.of rfl)
    | (unfold SlOK; omega)
    | (unfold SlOK; decide)
    | (unfold inByte; decide)
    | (simp only [*, Bool.and_self, Bool.not_false, Bool.not_true]; done)
    | (simp_all [wants]; done)
theorem C51I (a b c e : UInt8) (n : Nat) : CallOK Try.prog 18 [ag [ub a, ub b, ub c, ub e]] [] n (.c (.l (.v (.string ⟨#[ofI ((a.toNat : Nat) : Int), ofI ((b.toNat : Nat) : Int), ofI ((c.toNat : Nat) : Int), ofI ((e.toNat : Nat) : Int)]⟩)))) [] 0 := by
  rw [ofI_nat, ofI_nat, ofI_nat, ofI_nat]; exact C51 a b c e n
theorem enc_sz (k : Nat) (t : Nat → UInt8) : (⟨(Cod.M.enc (Prd.fw k t).data.toList).toArray⟩ : ByteArray).size ≤ 8196 := by
  have h := Cod.M.enc_bd (Prd.fw k t).data.toList
  have e : (Prd.fw k t).data.toList.length = 256 := by
    rw [Array.length_toList]; exact fw_len k t
  rw [e] at h
  simpa [ByteArray.size] using h
theorem codT_sz (t : Nat → UInt8) : (codT t).size ≤ 8198 := by
  unfold codT
  rw [ByteArray.size_append]
  have := enc_sz (bestT t) t
  have e : (⟨#[2, UInt8.ofNat (bestT t)]⟩ : ByteArray).size = 2 := rfl
  omega
theorem blobT_1 {t : Nat → UInt8} (h : solT t = true) : (⟨#[0]⟩ : ByteArray) ++ ⟨#[t 0, t 1, t 2, t 3]⟩ = blobT t := by
  unfold blobT; rw [h]; rfl
theorem blobT_2 {t : Nat → UInt8} (h : solT t = false) (k : decide (((codT t).size : Int) < 257) = true) : codT t = blobT t := by
  unfold blobT; rw [h, k]; rfl
theorem blobT_3 {t : Nat → UInt8} (h : solT t = false) (k : decide (((codT t).size : Int) < 257) = false) : (⟨#[1]⟩ : ByteArray) ++ bytesT t = blobT t := by
  unfold blobT; rw [h, k]; rfl
theorem solP_t' {t : Nat → UInt8} (h : solT t = true) : [ub (solP t 0), ub (solP t 1), ub (solP t 2), ub (solP t 3)] = [ub (t 0), ub (t 1), ub (t 2), ub (t 3)] := by
  unfold solP; rw [if_pos h, if_pos h, if_pos h, if_pos h]
theorem best8 (t : Nat → UInt8) : IntKind.u8.wrap ((bestT t : Nat) : Int) = ((UInt8.ofNat (bestT t)).toNat : Nat) := by
  have := bestT_lt t
  rw [IntKind.wrap_u8, UInt8.toNat_ofNat']
  omega
attribute [local irreducible] solT codT bestT blobT bytesT tl sameT Prd.fw Cod.M.enc
theorem enters49 : Enters Try.prog 16 := fun args w => by go_simp
def cz_C49 (t : Nat → UInt8) : Cz := {
  ct := (fun f => match f with
  | 18 => some fun _ _S ar => match ar with | [.c (.agg [.v (.int _ a), .v (.int _ b), .v (.int _ c), .v (.int _ e)])] => some { v := .c (.l (.v (.string ⟨#[ofI a, ofI b, ofI c, ofI e]⟩))), rd := [], wr := [], nw := 0 } | _ => none
  | 41 => some fun _ _S ar => match ar with | [.c (.agg l)] => some { v := .tup [.agg [ub (solP (lsB l) 0), ub (solP (lsB l) 1), ub (solP (lsB l) 2), ub (solP (lsB l) 3)], .l (.v (.bool (solT (lsB l))))], rd := [], wr := [], nw := 0 } | _ => none
  | 42 => some fun _ _S ar => match ar with | [.c (.agg l)] => some { v := iv .i64 (bestT (lsB l) : Nat), rd := [], wr := [], nw := 0 } | _ => none
  | 43 => some fun _ _S ar => match ar with | [.c (.agg l), .c (.l (.v (.int _ k)))] => some { v := .tup [.l (.v (.string (Prd.fw k.toNat (lsB l)))), .l (li 0)], rd := [], wr := [], nw := 0 } | _ => none
  | 44 => some fun _ _S ar => match ar with | [.c (.l (.v (.string s)))] => some { v := .c (.l (.v (.string ⟨(Cod.M.enc s.data.toList).toArray⟩))), rd := [], wr := [], nw := 0 } | _ => none
  | 45 => some fun _ _S ar => match ar with | [.c (.agg l)] => some { v := .c (.l (.v (.string (bytesT (lsB l))))), rd := [], wr := [], nw := 0 } | _ => none
  | _ => none)
  eq := (fun t => match t with
  | _ => none)
  raw := [], sym := [], nf := [(10, .c (.agg (tl t))), (11, .tup [.agg [ub (solP t 0), ub (solP t 1), ub (solP t 2), ub (solP t 3)], .l (.v (.bool (solT t)))]), (16, .c (.l (.v (.string ⟨#[0]⟩)))), (17, .c (.agg [ub (t 0), ub (t 1), ub (t 2), ub (t 3)])), (18, .c (.l (.v (.string ⟨#[t 0, t 1, t 2, t 3]⟩)))), (20, .c (.agg (tl t))), (21, iv .i64 (bestT t : Nat)), (23, .c (.agg (tl t))), (25, .tup [.l (.v (.string (Prd.fw (bestT t) t))), .l (li 0)]), (29, iv .u8 ((UInt8.ofNat (bestT t)).toNat : Nat)), (31, .c (.l (.v (.string ⟨#[2, UInt8.ofNat (bestT t)]⟩)))), (34, .c (.l (.v (.string (codT t))))), (40, .c (.l (.v (.string ⟨#[1]⟩)))), (41, .c (.agg (tl t))), (42, .c (.l (.v (.string (bytesT t)))))], ap := true, off := [], on := [], lp := fun _ => none, un := 0 }
set_option maxRecDepth 100000 in
set_option maxHeartbeats 400000 in
theorem C49 (t : Nat → UInt8)  (n : Nat) : CallOK Try.prog 16 [.c (.agg (tl t))] [] n (.c (.l (.v (.string (blobT t))))) [] 0 := by
  refine CallOK.any ?_ (by kernel_rfl) (by kernel_rfl) n
  have hb6 := bestT_lt t
  have hcs := codT_sz t
  have hes := enc_sz (bestT t) t
  have hbs := bytesT_len t
  refine call_ok (cx := cz_C49 t) (nm := []) rfl Try.func16 (body := Try.f16.body.getD .skip) rfl enters49 (by kernel_rfl) ?_
  apply of_eq (q := Le (ag (List.take 256 (tl t))) (ag (tl t)) ∧ CallOKd Try.prog 41 [] [ag (tl t)] [] 1 (SV.tup [Cp.agg [Leaf.v (Value.int IntKind.u8 (Nat.cast ((solP (lsB (tl t)) 0).toNat) : Int)), Leaf.v (Value.int IntKind.u8 (Nat.cast ((solP (lsB (tl t)) 1).toNat) : Int)), Leaf.v (Value.int IntKind.u8 (Nat.cast ((solP (lsB (tl t)) 2).toNat) : Int)), Leaf.v (Value.int IntKind.u8 (Nat.cast ((solP (lsB (tl t)) 3).toNat) : Int))], Cp.l (lb (solT (lsB (tl t))))]) [] 0 ∧ Le (SV.tup [Cp.agg [Leaf.v (Value.int IntKind.u8 (Nat.cast ((solP (lsB (tl t)) 0).toNat) : Int)), Leaf.v (Value.int IntKind.u8 (Nat.cast ((solP (lsB (tl t)) 1).toNat) : Int)), Leaf.v (Value.int IntKind.u8 (Nat.cast ((solP (lsB (tl t)) 2).toNat) : Int)), Leaf.v (Value.int IntKind.u8 (Nat.cast ((solP (lsB (tl t)) 3).toNat) : Int))], Cp.l (lb (solT (lsB (tl t))))]) (SV.tup [Cp.agg [Leaf.v (Value.int IntKind.u8 (Nat.cast ((solP t 0).toNat) : Int)), Leaf.v (Value.int IntKind.u8 (Nat.cast ((solP t 1).toNat) : Int)), Leaf.v (Value.int IntKind.u8 (Nat.cast ((solP t 2).toNat) : Int)), Leaf.v (Value.int IntKind.u8 (Nat.cast ((solP t 3).toNat) : Int))], Cp.l (lb (solT t))]) ∧ HB (solT t) (inByte 0 ∧ Le (SV.c (Cp.l (Leaf.v (Value.string (strOf [0]))))) (SV.c (Cp.l (Leaf.v (Value.string (ByteArray.mk #[0]))))) ∧ Le (ag [Leaf.v (Value.int IntKind.u8 (Nat.cast ((solP t 0).toNat) : Int)), Leaf.v (Value.int IntKind.u8 (Nat.cast ((solP t 1).toNat) : Int)), Leaf.v (Value.int IntKind.u8 (Nat.cast ((solP t 2).toNat) : Int)), Leaf.v (Value.int IntKind.u8 (Nat.cast ((solP t 3).toNat) : Int))]) (ag [Leaf.v (Value.int IntKind.u8 (Nat.cast ((t 0).toNat) : Int)), Leaf.v (Value.int IntKind.u8 (Nat.cast ((t 1).toNat) : Int)), Leaf.v (Value.int IntKind.u8 (Nat.cast ((t 2).toNat) : Int)), Leaf.v (Value.int IntKind.u8 (Nat.cast ((t 3).toNat) : Int))]) ∧ CallOKd Try.prog 18 [] [ag [Leaf.v (Value.int IntKind.u8 (Nat.cast ((t 0).toNat) : Int)), Leaf.v (Value.int IntKind.u8 (Nat.cast ((t 1).toNat) : Int)), Leaf.v (Value.int IntKind.u8 (Nat.cast ((t 2).toNat) : Int)), Leaf.v (Value.int IntKind.u8 (Nat.cast ((t 3).toNat) : Int))]] [] 3 (SV.c (Cp.l (Leaf.v (Value.string (ByteArray.mk #[ofI (Nat.cast ((t 0).toNat) : Int), ofI (Nat.cast ((t 1).toNat) : Int), ofI (Nat.cast ((t 2).toNat) : Int), ofI (Nat.cast ((t 3).toNat) : Int)]))))) [] 0 ∧ Le (SV.c (Cp.l (Leaf.v (Value.string (ByteArray.mk #[ofI (Nat.cast ((t 0).toNat) : Int), ofI (Nat.cast ((t 1).toNat) : Int), ofI (Nat.cast ((t 2).toNat) : Int), ofI (Nat.cast ((t 3).toNat) : Int)]))))) (SV.c (Cp.l (Leaf.v (Value.string (ByteArray.mk #[t 0, t 1, t 2, t 3]))))) ∧ (Nat.cast (((ByteArray.mk #[0]).size + (ByteArray.mk #[t 0, t 1, t 2, t 3]).size)) : Int) ≤ IntKind.i64.max ∧ Le (SV.c (Cp.l (Leaf.v (Value.string (ByteArray.mk #[0] ++ ByteArray.mk #[t 0, t 1, t 2, t 3]))))) (SV.c (Cp.l (Leaf.v (Value.string (blobT t))))) ∧ True) (Le (ag (List.take 256 (tl t))) (ag (tl t)) ∧ CallOKd Try.prog 42 [] [ag (tl t)] [] 2 (iv IntKind.i64 (Nat.cast ((bestT (lsB (tl t)))) : Int)) [] 0 ∧ Le (iv IntKind.i64 (Nat.cast ((bestT (lsB (tl t)))) : Int)) (iv IntKind.i64 (Nat.cast ((bestT t)) : Int)) ∧ Le (ag (List.take 256 (tl t))) (ag (tl t)) ∧ CallOKd Try.prog 43 [] [ag (tl t), iv IntKind.i64 (Nat.cast ((bestT t)) : Int)] [] 2 (SV.tup [Cp.l (Leaf.v (Value.string (Prd.fw ((Nat.cast ((bestT t)) : Int)).toNat (lsB (tl t))))), Cp.l (li 0)]) [] 0 ∧ Le (SV.tup [Cp.l (Leaf.v (Value.string (Prd.fw ((Nat.cast ((bestT t)) : Int)).toNat (lsB (tl t))))), Cp.l (li 0)]) (SV.tup [Cp.l (Leaf.v (Value.string (Prd.fw (bestT t) t))), Cp.l (li 0)]) ∧ Le (iv IntKind.u8 (IntKind.u8.wrap (Nat.cast ((bestT t)) : Int))) (iv IntKind.u8 (Nat.cast ((UInt8.ofNat (bestT t)).toNat) : Int)) ∧ inByte 2 ∧ inByte (Nat.cast ((UInt8.ofNat (bestT t)).toNat) : Int) ∧ Le (SV.c (Cp.l (Leaf.v (Value.string (strOf [2, (Nat.cast ((UInt8.ofNat (bestT t)).toNat) : Int)]))))) (SV.c (Cp.l (Leaf.v (Value.string (ByteArray.mk #[2, UInt8.ofNat (bestT t)]))))) ∧ CallOKd Try.prog 44 [] [SV.c (Cp.l (Leaf.v (Value.string (Prd.fw (bestT t) t))))] [] 3 (SV.c (Cp.l (Leaf.v (Value.string (ByteArray.mk (Cod.M.enc (Prd.fw (bestT t) t).data.toList).toArray))))) [] 0 ∧ (Nat.cast (((ByteArray.mk #[2, UInt8.ofNat (bestT t)]).size + (ByteArray.mk (Cod.M.enc (Prd.fw (bestT t) t).data.toList).toArray).size)) : Int) ≤ IntKind.i64.max ∧ Le (SV.c (Cp.l (Leaf.v (Value.string (ByteArray.mk #[2, UInt8.ofNat (bestT t)] ++ ByteArray.mk (Cod.M.enc (Prd.fw (bestT t) t).data.toList).toArray))))) (SV.c (Cp.l (Leaf.v (Value.string (codT t))))) ∧ HB (decide ((Nat.cast ((codT t).size) : Int) < 257)) (Le (SV.c (Cp.l (Leaf.v (Value.string (codT t))))) (SV.c (Cp.l (Leaf.v (Value.string (blobT t))))) ∧ True) (inByte 1 ∧ Le (SV.c (Cp.l (Leaf.v (Value.string (strOf [1]))))) (SV.c (Cp.l (Leaf.v (Value.string (ByteArray.mk #[1]))))) ∧ Le (ag (List.take 256 (tl t))) (ag (tl t)) ∧ CallOKd Try.prog 45 [] [ag (tl t)] [] 4 (SV.c (Cp.l (Leaf.v (Value.string (bytesT (lsB (tl t))))))) [] 0 ∧ Le (SV.c (Cp.l (Leaf.v (Value.string (bytesT (lsB (tl t))))))) (SV.c (Cp.l (Leaf.v (Value.string (bytesT t))))) ∧ (Nat.cast (((ByteArray.mk #[1]).size + (bytesT t).size)) : Int) ≤ IntKind.i64.max ∧ Le (SV.c (Cp.l (Leaf.v (Value.string (ByteArray.mk #[1] ++ bytesT t))))) (SV.c (Cp.l (Leaf.v (Value.string (blobT t))))) ∧ True))) (by kernel_rfl)
  repeat' (first | exact trivial | with_reducible apply And.intro | (with_reducible apply HB.mk) | with_reducible intro _)
  all_goals first
    | (assumption)
    | (with_reducible exact Le.refl _)
    | ((with_reducible exact C51I _ _ _ _ _))
    | ((with_reducible exact C111L _ _ rfl _))
    | ((with_reducible refine C112L _ _ rfl _))
    | ((with_reducible refine C113L _ _ rfl _ ?_ ?_ _) <;> omega)
    | ((with_reducible refine C114 _ ?_ _); rw [fw_len]; decide)
    | ((with_reducible exact C115L _ _ rfl _))
    | (exact Le.of (by rw [tl_take]))
    | (exact Le.of (by rw [sol_lsB, solP_lsB t (by decide), solP_lsB t (by decide), solP_lsB t (by decide), solP_lsB t (by decide)]))
    | (exact inb _)
    | (exact Le.of (by rw [solP_t' (by with_reducible assumption : solT t = true)]))
    | (exact Le.of (congrArg (fun l => SV.c (.agg l)) (solP_t' (by with_reducible assumption : solT t = true))))
    | (exact Le.of (by rw [ofI_nat, ofI_nat, ofI_nat, ofI_nat]))
    | (exact Le.of (by rw [blobT_1 (by with_reducible assumption : solT t = true)]))
    | (exact Le.of (by rw [bestT_lsB]))
    | (exact Le.of (by unfold codT; rfl))
    | (exact Le.of (by rw [show ((bestT t : Nat) : Int).toNat = bestT t from rfl, fw_lsB]))
    | (exact Le.of (by rw [best8]))
    | (exact Le.of (congrArg (fun s => SV.c (.l (.v (.string s)))) (strOf_bytes [2, UInt8.ofNat (bestT t)])))
    | (exact Le.of (congrArg (fun s => SV.c (.l (.v (.string s)))) (strOf_bytes [1])))
    | (exact Le.of (congrArg (fun s => SV.c (.l (.v (.string s)))) (strOf_bytes [0])))
    | (exact Le.of (by rw [blobT_2 (by with_reducible assumption : solT t = false) (by with_reducible assumption : decide (((codT t).size : Int) < 257) = true)]))
    | (exact Le.of (by rw [blobT_3 (by with_reducible assumption : solT t = false) (by with_reducible assumption : decide (((codT t).size : Int) < 257) = false)]))
    | (exact Le.of (by rw [bytesT_lsB]))
    | ((rw [IntKind.max_i64]; have e0 : (⟨#[0]⟩ : ByteArray).size = 1 := rfl; have e4 : (⟨#[t 0, t 1, t 2, t 3]⟩ : ByteArray).size = 4 := rfl; have e2 : (⟨#[2, UInt8.ofNat (bestT t)]⟩ : ByteArray).size = 2 := rfl; have e1 : (⟨#[1]⟩ : ByteArray).size = 1 := rfl; omega))
    | (exact okw _ (by omega) (by omega))
    | (exact Le.of rfl)
    | (exact BkR.of rfl)
    | (unfold SlOK; omega)
    | (unfold SlOK; decide)
    | (unfold inByte; decide)
    | (simp only [*, Bool.and_self, Bool.not_false, Bool.not_true]; done)
    | (simp_all [wants]; done)
end Ab
end Go.Proofs.Ytpdckpifhniioaa
