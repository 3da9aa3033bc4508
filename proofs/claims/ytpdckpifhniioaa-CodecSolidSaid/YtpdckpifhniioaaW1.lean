/- CodecSolid: the law's run. -/
import Derived.Test.YtpdckpifhniioaaE2
import Derived.Test.YtpdckpifhniioaaC2
set_option linter.unusedVariables false
set_option linter.unusedSimpArgs false
namespace Go.Proofs.Ytpdckpifhniioaa
open Go.RowKit
namespace Ab
def eA (e : UInt8) : UInt8 := if e = 0 then 1 else e
theorem eA_ne (e : UInt8) : eA e ≠ 0 := by
  unfold eA
  by_cases h : e = 0
  · rw [if_pos h]; decide
  · rwa [if_neg h]
theorem eA_t {e : UInt8} (h : ((((e.toNat : Nat) : Int)) == 0) = true) : eA e = 1 := by
  have h1 : e = 0 := UInt8.toNat_inj.1 (by simpa using h)
  unfold eA; rw [if_pos h1]
theorem eA_f {e : UInt8} (h : ((((e.toNat : Nat) : Int)) == 0) = false) : eA e = e := by
  unfold eA; rw [if_neg]
  rintro rfl; exact absurd h (by decide)
theorem fill_nz (a b c e : UInt8) : zeroT (fillT a b c (eA e)) = false := by
  cases h : zeroT (fillT a b c (eA e)) with
  | false => rfl
  | true =>
    have := of_decide_eq_true ((zero_iff _).1 h 0 (by decide))
    exact absurd this (eA_ne e)
theorem fill_cl (a b c e : UInt8) : sameT (clnT (fillT a b c (eA e))) (fillT a b c (eA e)) = true := by
  rw [sameT_iff]
  intro i hi
  have h3 : fillT a b c (eA e) (4 * (i / 4) + 3) = eA e := by
    unfold fillT; rw [show (4 * (i / 4) + 3) % 4 = 3 by omega]; rfl
  unfold clnT pcb
  rw [h3, if_neg (eA_ne e)]
theorem fill_sol (a b c e : UInt8) : solT (fillT a b c e) = true := by
  unfold solT
  rw [sameT_iff]
  intro i _
  rfl
theorem good_one {x y : Int} {t : Nat → UInt8} (h : inB x y = true) (hz : zeroT t = false) (hc : sameT (clnT t) t = true) : Good [⟨x, y, t⟩] := by
  have e : ∀ k, k < [(⟨x, y, t⟩ : TA)].length → at' [(⟨x, y, t⟩ : TA)] k = ⟨x, y, t⟩ := fun k hk => by
    have : k = 0 := by simpa using hk
    subst this; rfl
  exact ⟨by simp, fun k hk => by rw [e k hk]; exact h, fun k hk => by rw [e k hk]; exact hz, fun k hk => by rw [e k hk]; exact hc, fun k hk => by simp at hk⟩
theorem pack_one (cs : List Leaf) (t : Nat → UInt8) (h : cs = el ⟨0, 0, t⟩) (hz : zeroT t = false) (hc : sameT (clnT t) t = true) (id n : Nat) (hi : id < n) : CallOK Try.prog 7 [.c (.agg [.o id 1])] [(id, ⟨cs, .r 35 258 id⟩)] n (.tup [.l (.v (.string (packB [⟨0, 0, t⟩]))), .l (li 0)]) [] 0 := by
  subst h
  have := pack_any [⟨0, 0, t⟩] (good_one (by decide) hz hc) id n hi
  rwa [rws_one] at this
attribute [local irreducible] tl sameT zeroT rws mdL packB solT fillT
theorem enters3 : Enters Try.prog 3 := fun args w => by go_simp
def cz_W3 (a b c e : UInt8) (x : Leaf) (p : Nat) (s : List Int) : Cz := {
  ct := (fun f => match f with
  | 5 => some fun _ _S ar => match ar with | [] => some { v := bv true, rd := [], wr := [], nw := 0 } | _ => none
  | 6 => some fun _ _S ar => match ar with | [.c (.agg [.v (.int _ a), .v (.int _ b), .v (.int _ c), .v (.int _ e)])] => some { v := .c (.agg (tl (fillT (ofI a) (ofI b) (ofI c) (ofI e)))), rd := [], wr := [], nw := 0 } | _ => none
  | 7 => some fun _ap _S ar => match _ap, ar with
    | _, [.c (.agg [.v (.slice none _ _)])] => some { v := .tup [.l (.v (.string ⟨#[71, 1, 1, 0, 210, 2, 239, 141]⟩)), .l (li 0)], rd := [], wr := [], nw := 0, dc := [] }
    | _, [.c (.agg [.o 3 _])] => some { v := .tup [.l (.v (.string (packB [⟨0, 0, (fillT a b c (eA e))⟩]))), .l (li 0)], rd := [3], wr := [], nw := 0, dc := [] }
    | _, [.c (.agg [.o i _])] => some { v := .tup [.l (.v (.string (packB (mdL s (mdN s))))), .l (li 0)], rd := [i], wr := [], nw := 0, dc := [] }
    | _, _ => none
  | 8 => some fun _ _S ar => match ar with | [.c (.l _)] => some { v := .c (.agg [.o _S.n (mdL s (mdN s)).length]), rd := [0], wr := [(_S.n, ⟨rws (mdL s (mdN s)), .r 35 258 _S.n⟩)], nw := 1 } | _ => none
  | _ => none)
  eq := (fun t => match t with
  | _ => none)
  raw := [], sym := [], nf := [(20, ag [ub a, ub b, ub c, ub (eA e)]), (21, .c (.agg (tl (fillT a b c (eA e))))), (23, .c (.agg (tl (fillT a b c (eA e))))), (24, .c (.agg (el ⟨0, 0, (fillT a b c (eA e))⟩))), (45, bv true), (49, bv true), (58, bv true), (69, bv true)], ap := true, off := [], on := [], lp := fun _ => none, un := 0, wh := [27, 38] }
set_option maxRecDepth 100000 in
set_option maxHeartbeats 400000 in
theorem W3 (a b c e : UInt8) (x : Leaf) (p : Nat) (s : List Int) (hx : IntsAt x p s) : CallOK Try.prog 3 [ag [ub a, ub b, ub c, ub e], .c (.l x)] [(0, ⟨qls p s, .q⟩)] 1 (bv true) [] 0 := by
  refine call_ok (cx := cz_W3 a b c e x p s) (nm := []) rfl Try.func3 (body := Try.f3.body.getD .skip) rfl enters3 (by unfold inck; simp only [List.all_cons, List.all_nil, hx.lt, blkLt_fix (fix_qls p s) (show (BT.rn (rnId 1 0 []) (.q)).isSome = true from rfl), Bool.and_true, Bool.true_and]; kernel_rfl) ?_
  apply of_eq (q := CallOKd Try.prog 5 [] [] [] 2 (bv true) [] 0 ∧ HB ((Nat.cast e.toNat : Int) == 0) (Le (ag [Leaf.v (Value.int IntKind.u8 (Nat.cast a.toNat : Int)), Leaf.v (Value.int IntKind.u8 (Nat.cast b.toNat : Int)), Leaf.v (Value.int IntKind.u8 (Nat.cast c.toNat : Int)), Leaf.v (Value.int IntKind.u8 1)]) (ag [Leaf.v (Value.int IntKind.u8 (Nat.cast a.toNat : Int)), Leaf.v (Value.int IntKind.u8 (Nat.cast b.toNat : Int)), Leaf.v (Value.int IntKind.u8 (Nat.cast c.toNat : Int)), Leaf.v (Value.int IntKind.u8 (Nat.cast ((eA e).toNat) : Int))]) ∧ CallOKd Try.prog 6 [] [ag [Leaf.v (Value.int IntKind.u8 (Nat.cast a.toNat : Int)), Leaf.v (Value.int IntKind.u8 (Nat.cast b.toNat : Int)), Leaf.v (Value.int IntKind.u8 (Nat.cast c.toNat : Int)), Leaf.v (Value.int IntKind.u8 (Nat.cast ((eA e).toNat) : Int))]] [] 2 (ag (tl (fillT (ofI (Nat.cast a.toNat : Int)) (ofI (Nat.cast b.toNat : Int)) (ofI (Nat.cast c.toNat : Int)) (ofI (Nat.cast ((eA e).toNat) : Int))))) [] 0 ∧ Le (ag (tl (fillT (ofI (Nat.cast a.toNat : Int)) (ofI (Nat.cast b.toNat : Int)) (ofI (Nat.cast c.toNat : Int)) (ofI (Nat.cast ((eA e).toNat) : Int))))) (ag (tl (fillT a b c (eA e)))) ∧ 0 = 0 ∧ 256 = 256 ∧ Le (ag (List.take 256 (tl (fillT a b c (eA e))))) (ag (tl (fillT a b c (eA e)))) ∧ Le (ag (splice zA258 2 (tl (fillT a b c (eA e))))) (ag (el (TA.mk 0 0 (fillT a b c (eA e))))) ∧ CallOKd Try.prog 7 [] [ag [Leaf.o 3 1]] [(3, Blk.mk (splice zA258 0 (el (TA.mk 0 0 (fillT a b c (eA e))))) (BT.r 35 258 3))] 4 (SV.tup [Cp.l (Leaf.v (Value.string (packB [TA.mk 0 0 (fillT a b c (eA e))]))), Cp.l (li 0)]) [] 0 ∧ CallOKd Try.prog 7 [] [ag [Leaf.v (Value.slice none 0 0)]] [] 4 (SV.tup [Cp.l (Leaf.v (Value.string (ByteArray.mk #[71, 1, 1, 0, 210, 2, 239, 141]))), Cp.l (li 0)]) [] 0 ∧ CallOKd Try.prog 8 [] [SV.c (Cp.l x)] [(0, Blk.mk (qls p s) BT.q)] 4 (ag [Leaf.o 4 (mdL s (mdN s)).length]) [(4, Blk.mk (rws (mdL s (mdN s))) (BT.r 35 258 4))] 1 ∧ 0 = 0 ∧ 1 = 1 ∧ CallOKd Try.prog 7 [] [ag [Leaf.o 4 (mdL s (mdN s)).length]] [(4, Blk.mk (rws (mdL s (mdN s))) (BT.r 35 258 4))] 6 (SV.tup [Cp.l (Leaf.v (Value.string (packB (mdL s (mdN s))))), Cp.l (li 0)]) [] 0 ∧ (true = true → true = true ∧ Le (bv (0 == 0)) (bv true) ∧ True) ∧ (true = true → true = true) ∧ ((bif true then true else false) = true → (bif true then true else false) = true ∧ Le (bv (0 == 0)) (bv true) ∧ True) ∧ ((bif true then true else false) = true → (bif true then true else false) = true) ∧ ((bif bif true then true else false then true else false) = true → (bif bif true then true else false then true else false) = true ∧ True) ∧ ((bif bif true then true else false then true else false) = true → (bif bif true then true else false then true else false) = true ∧ True) ∧ ((bif bif true then true else false then true else false) = true → (bif bif true then true else false then true else false) = true ∧ IntKind.i64.wrap ((Nat.cast ((ByteArray.mk #[71, 1, 1, 0, 210, 2, 239, 141]).size) : Int) + 13) = (Nat.cast ((ByteArray.mk #[71, 1, 1, 0, 210, 2, 239, 141]).size) : Int) + 13 ∧ True) ∧ ((bif bif true then true else false then true else false) = true → (bif bif true then true else false then true else false) = true ∧ IntKind.i64.wrap ((Nat.cast ((ByteArray.mk #[71, 1, 1, 0, 210, 2, 239, 141]).size) : Int) + 13 + 5) = (Nat.cast ((ByteArray.mk #[71, 1, 1, 0, 210, 2, 239, 141]).size) : Int) + 13 + 5 ∧ True) ∧ ((bif bif true then true else false then true else false) = true → (bif bif true then true else false then true else false) = true ∧ (bif bif true then true else false then true else false) = true ∧ Le (bv ((Nat.cast ((packB [TA.mk 0 0 (fillT a b c (eA e))]).size) : Int) == (Nat.cast ((ByteArray.mk #[71, 1, 1, 0, 210, 2, 239, 141]).size) : Int) + 13 + 5)) (bv true) ∧ True) ∧ ((bif bif true then true else false then true else false) = true → (bif bif true then true else false then true else false) = true) ∧ ((bif bif bif true then true else false then true else false then true else false) = true → (bif bif bif true then true else false then true else false then true else false) = true ∧ True) ∧ ((bif bif bif true then true else false then true else false then true else false) = true → (bif bif bif true then true else false then true else false then true else false) = true ∧ True) ∧ ((bif bif bif true then true else false then true else false then true else false) = true → (bif bif bif true then true else false then true else false then true else false) = true ∧ True) ∧ ((bif bif bif true then true else false then true else false then true else false) = true → (bif bif bif true then true else false then true else false then true else false) = true ∧ IntKind.i64.wrap ((Nat.cast ((mdL s (mdN s)).length) : Int) * 271) = (Nat.cast ((mdL s (mdN s)).length) : Int) * 271 ∧ True) ∧ ((bif bif bif true then true else false then true else false then true else false) = true → (bif bif bif true then true else false then true else false then true else false) = true ∧ (bif bif bif true then true else false then true else false then true else false) = true ∧ IntKind.i64.wrap (10 + (Nat.cast ((mdL s (mdN s)).length) : Int) * 271) = 10 + (Nat.cast ((mdL s (mdN s)).length) : Int) * 271 ∧ True) ∧ ((bif bif bif true then true else false then true else false then true else false) = true → (bif bif bif true then true else false then true else false then true else false) = true ∧ (bif bif bif true then true else false then true else false then true else false) = true ∧ Le (bv (decide ((Nat.cast ((packB (mdL s (mdN s))).size) : Int) ≤ 10 + (Nat.cast ((mdL s (mdN s)).length) : Int) * 271))) (bv true) ∧ True) ∧ ((bif bif bif true then true else false then true else false then true else false) = true → (bif bif bif true then true else false then true else false then true else false) = true) ∧ Le (bv (bif bif bif bif true then true else false then true else false then true else false then true else false)) (bv true) ∧ True) (Le (ag [Leaf.v (Value.int IntKind.u8 (Nat.cast a.toNat : Int)), Leaf.v (Value.int IntKind.u8 (Nat.cast b.toNat : Int)), Leaf.v (Value.int IntKind.u8 (Nat.cast c.toNat : Int)), Leaf.v (Value.int IntKind.u8 (Nat.cast e.toNat : Int))]) (ag [Leaf.v (Value.int IntKind.u8 (Nat.cast a.toNat : Int)), Leaf.v (Value.int IntKind.u8 (Nat.cast b.toNat : Int)), Leaf.v (Value.int IntKind.u8 (Nat.cast c.toNat : Int)), Leaf.v (Value.int IntKind.u8 (Nat.cast ((eA e).toNat) : Int))]) ∧ CallOKd Try.prog 6 [] [ag [Leaf.v (Value.int IntKind.u8 (Nat.cast a.toNat : Int)), Leaf.v (Value.int IntKind.u8 (Nat.cast b.toNat : Int)), Leaf.v (Value.int IntKind.u8 (Nat.cast c.toNat : Int)), Leaf.v (Value.int IntKind.u8 (Nat.cast ((eA e).toNat) : Int))]] [] 2 (ag (tl (fillT (ofI (Nat.cast a.toNat : Int)) (ofI (Nat.cast b.toNat : Int)) (ofI (Nat.cast c.toNat : Int)) (ofI (Nat.cast ((eA e).toNat) : Int))))) [] 0 ∧ Le (ag (tl (fillT (ofI (Nat.cast a.toNat : Int)) (ofI (Nat.cast b.toNat : Int)) (ofI (Nat.cast c.toNat : Int)) (ofI (Nat.cast ((eA e).toNat) : Int))))) (ag (tl (fillT a b c (eA e)))) ∧ 0 = 0 ∧ 256 = 256 ∧ Le (ag (List.take 256 (tl (fillT a b c (eA e))))) (ag (tl (fillT a b c (eA e)))) ∧ Le (ag (splice zA258 2 (tl (fillT a b c (eA e))))) (ag (el (TA.mk 0 0 (fillT a b c (eA e))))) ∧ CallOKd Try.prog 7 [] [ag [Leaf.o 3 1]] [(3, Blk.mk (splice zA258 0 (el (TA.mk 0 0 (fillT a b c (eA e))))) (BT.r 35 258 3))] 4 (SV.tup [Cp.l (Leaf.v (Value.string (packB [TA.mk 0 0 (fillT a b c (eA e))]))), Cp.l (li 0)]) [] 0 ∧ CallOKd Try.prog 7 [] [ag [Leaf.v (Value.slice none 0 0)]] [] 4 (SV.tup [Cp.l (Leaf.v (Value.string (ByteArray.mk #[71, 1, 1, 0, 210, 2, 239, 141]))), Cp.l (li 0)]) [] 0 ∧ CallOKd Try.prog 8 [] [SV.c (Cp.l x)] [(0, Blk.mk (qls p s) BT.q)] 4 (ag [Leaf.o 4 (mdL s (mdN s)).length]) [(4, Blk.mk (rws (mdL s (mdN s))) (BT.r 35 258 4))] 1 ∧ 0 = 0 ∧ 1 = 1 ∧ CallOKd Try.prog 7 [] [ag [Leaf.o 4 (mdL s (mdN s)).length]] [(4, Blk.mk (rws (mdL s (mdN s))) (BT.r 35 258 4))] 6 (SV.tup [Cp.l (Leaf.v (Value.string (packB (mdL s (mdN s))))), Cp.l (li 0)]) [] 0 ∧ (true = true → true = true ∧ Le (bv (0 == 0)) (bv true) ∧ True) ∧ (true = true → true = true) ∧ ((bif true then true else false) = true → (bif true then true else false) = true ∧ Le (bv (0 == 0)) (bv true) ∧ True) ∧ ((bif true then true else false) = true → (bif true then true else false) = true) ∧ ((bif bif true then true else false then true else false) = true → (bif bif true then true else false then true else false) = true ∧ True) ∧ ((bif bif true then true else false then true else false) = true → (bif bif true then true else false then true else false) = true ∧ True) ∧ ((bif bif true then true else false then true else false) = true → (bif bif true then true else false then true else false) = true ∧ IntKind.i64.wrap ((Nat.cast ((ByteArray.mk #[71, 1, 1, 0, 210, 2, 239, 141]).size) : Int) + 13) = (Nat.cast ((ByteArray.mk #[71, 1, 1, 0, 210, 2, 239, 141]).size) : Int) + 13 ∧ True) ∧ ((bif bif true then true else false then true else false) = true → (bif bif true then true else false then true else false) = true ∧ IntKind.i64.wrap ((Nat.cast ((ByteArray.mk #[71, 1, 1, 0, 210, 2, 239, 141]).size) : Int) + 13 + 5) = (Nat.cast ((ByteArray.mk #[71, 1, 1, 0, 210, 2, 239, 141]).size) : Int) + 13 + 5 ∧ True) ∧ ((bif bif true then true else false then true else false) = true → (bif bif true then true else false then true else false) = true ∧ (bif bif true then true else false then true else false) = true ∧ Le (bv ((Nat.cast ((packB [TA.mk 0 0 (fillT a b c (eA e))]).size) : Int) == (Nat.cast ((ByteArray.mk #[71, 1, 1, 0, 210, 2, 239, 141]).size) : Int) + 13 + 5)) (bv true) ∧ True) ∧ ((bif bif true then true else false then true else false) = true → (bif bif true then true else false then true else false) = true) ∧ ((bif bif bif true then true else false then true else false then true else false) = true → (bif bif bif true then true else false then true else false then true else false) = true ∧ True) ∧ ((bif bif bif true then true else false then true else false then true else false) = true → (bif bif bif true then true else false then true else false then true else false) = true ∧ True) ∧ ((bif bif bif true then true else false then true else false then true else false) = true → (bif bif bif true then true else false then true else false then true else false) = true ∧ True) ∧ ((bif bif bif true then true else false then true else false then true else false) = true → (bif bif bif true then true else false then true else false then true else false) = true ∧ IntKind.i64.wrap ((Nat.cast ((mdL s (mdN s)).length) : Int) * 271) = (Nat.cast ((mdL s (mdN s)).length) : Int) * 271 ∧ True) ∧ ((bif bif bif true then true else false then true else false then true else false) = true → (bif bif bif true then true else false then true else false then true else false) = true ∧ (bif bif bif true then true else false then true else false then true else false) = true ∧ IntKind.i64.wrap (10 + (Nat.cast ((mdL s (mdN s)).length) : Int) * 271) = 10 + (Nat.cast ((mdL s (mdN s)).length) : Int) * 271 ∧ True) ∧ ((bif bif bif true then true else false then true else false then true else false) = true → (bif bif bif true then true else false then true else false then true else false) = true ∧ (bif bif bif true then true else false then true else false then true else false) = true ∧ Le (bv (decide ((Nat.cast ((packB (mdL s (mdN s))).size) : Int) ≤ 10 + (Nat.cast ((mdL s (mdN s)).length) : Int) * 271))) (bv true) ∧ True) ∧ ((bif bif bif true then true else false then true else false then true else false) = true → (bif bif bif true then true else false then true else false then true else false) = true) ∧ Le (bv (bif bif bif bif true then true else false then true else false then true else false then true else false)) (bv true) ∧ True)) (by kernel_rfl)
  repeat' (first | exact trivial | with_reducible apply And.intro | (with_reducible apply HB.mk) | with_reducible intro _)
  all_goals first
    | (assumption)
    | (with_reducible exact Le.refl _)
    | (with_reducible rfl)
    | ((with_reducible exact C10 _))
    | ((with_reducible exact C161I _ _ _ _ _))
    | ((with_reducible exact C12e _))
    | ((exact made_any hx _ (by omega)))
    | ((exact pack_one _ _ (by rw [put_el]) (fill_nz _ _ _ _) (fill_cl _ _ _ _) _ _ (by omega)))
    | ((exact pack_any _ (made_good s) _ _ (by omega)))
    | (exact okw _ (by decide) (by decide))
    | ((refine Le.of ?_; rw [eA_t (by with_reducible assumption)]; rfl))
    | ((refine Le.of ?_; rw [eA_f (by with_reducible assumption)]; done))
    | ((refine Le.of ?_; rw [ofI_nat, ofI_nat, ofI_nat, ofI_nat]; done))
    | (exact Le.of (congrArg (fun l => SV.c (.agg l)) (tl_take _)))
    | (exact Le.of (congrArg (fun l => SV.c (.agg l)) (build_el 0 0 _)))
    | ((refine Le.bool ?_; rw [pack_solid _ _ _ (fill_sol _ _ _ _), pack_nil]; rfl))
    | ((refine Le.bool (decide_eq_true ?_); have := pack_bound _ (made_len s); omega))
    | (exact Le.bool rfl)
    | ((have := made_len s; exact okw _ (by omega) (by omega)))
    | (omega)
    | (exact okw _ (by omega) (by omega))
    | (exact Le.of rfl)
    | (exact BkR.of rfl)
    | (unfold SlOK; omega)
    | (unfold SlOK; decide)
    | (unfold inByte; decide)
    | (simp only [*, Bool.and_self, Bool.not_false, Bool.not_true]; done)
    | (simp_all [wants]; done)
end Ab
namespace codecSolid
theorem walk (a b c e : UInt8) (o : Option Addr) (zs : List Int) (n cap : Nat) (w : World) (w0 : n * 8 ≤ 140737488351232) (hn : zs.length = n) (hcap : n ≤ cap)
    (hc : ∀ i (h : i < zs.length), ∃ a, o = some a ∧ a.block < w.heap.size ∧ w.cell? (a.add i) = some (.int .i64 zs[i])) (hwf : ∀ z ∈ zs, (Lit.int .i64 z).wf = true) :
    Calls Try.prog 3 #[.agg #[.int .u8 (a.toNat : Int), .int .u8 (b.toNat : Int), .int .u8 (c.toNat : Int), .int .u8 (e.toNat : Int)], .slice o n cap] w fun e w' => e = .returned (.bool true) ∧ Below w.heap.size w w' :=
  Ab.ints_call (pre := [Ab.ag [Ab.ub a, Ab.ub b, Ab.ub c, Ab.ub e]]) (post := []) rfl rfl (fun x p s hx => Ab.W3 a b c e x p s hx) o zs n cap w w0 hn hcap hc
end codecSolid
namespace Ab
end Ab
end Go.Proofs.Ytpdckpifhniioaa
