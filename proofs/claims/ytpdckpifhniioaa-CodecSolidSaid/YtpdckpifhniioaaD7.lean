/- x -/
import Derived.Test.YtpdckpifhniioaaD6
set_option linter.unusedVariables false
set_option linter.unusedSimpArgs false
namespace Go.Proofs.Ytpdckpifhniioaa
open Go.RowKit
namespace Ab
attribute [local irreducible] tl sameT zeroT rws mdT tM pX pY mdL
theorem enters11 : Enters Try.prog 8 := fun args w => by go_simp
def cz_C11 (p : Nat) (s : List Int) : Cz := {
  ct := (fun f => match f with
  | 10 => some fun _ _S ar => match ar with | [.c (.l (.v (.int _ x))), .c (.l (.v (.int _ n)))] => some { v := iv .i64 (rst x n), rd := [], wr := [], nw := 0 } | _ => none
  | 24 => some fun _ _S ar => match ar with | [.c (.agg l)] => some { v := bv (zeroT (lsB l)), rd := [], wr := [], nw := 0 } | _ => none
  | _ => none)
  eq := (fun t => match t with
  | _ => none)
  raw := [], sym := [], nf := [], ap := true, off := [], on := [], lp := fun r => match r with | 3 => some (fun _ K => K (.exit 0) (I11 p s (mdN s))) | _ => none, un := 0, wh := [38, 27, 33, 71] }
set_option maxRecDepth 100000 in
set_option maxHeartbeats 400000 in
theorem C11 (p : Nat) (s : List Int) (hs : s.length ≤ 20000000000000) : CallOK Try.prog 8 [.c (.l (.s 0 p s.length))] [(0, ⟨qls p s, .q⟩)] 1 (.c (.agg [.o 1 (mdL s (mdN s)).length])) [(1, ⟨rws (mdL s (mdN s)), .r 35 258 1⟩)] 1 := by
  refine call_ok (cx := cz_C11 p s) (nm := [3]) rfl Try.func8 (body := Try.f8.body.getD .skip) rfl enters11 (by unfold inck; simp only [List.all_cons, List.all_nil, blkLt_fix (fix_qls p s) (show (BT.rn (rnId 1 0 []) (.q)).isSome = true from rfl), Bool.and_true, Bool.true_and]; kernel_rfl) ?_
  apply of_eq (q := (LoopOK Try.prog ((getLoop 3 (Try.f8.body.getD .skip)).getD .skip) (St.mk [(4, iv IntKind.i64 0), (3, SV.c (Cp.l (Leaf.p 2 0))), (2, SV.c (Cp.l (Leaf.p 1 0))), (0, SV.c (Cp.l (Leaf.s 0 p s.length)))] [(2, some (Blk.mk [Leaf.v (Value.slice none 0 0)] (BT.t 38))), (1, some (Blk.mk [Leaf.v (Value.slice none 0 0)] (BT.t 38))), (0, some (Blk.mk (qls p s) BT.q))] 3 57 [2, 1] 1) fun K => K (Exit.exit 0) (I11 p s (mdN s))) ∧ 0 = 0 ∧ 1 = 1 ∧ Le (ag [Leaf.o 1 (mdL s (mdN s)).length]) (ag [Leaf.o 1 (mdL s (mdN s)).length]) ∧ BkR (rnId 1 0 [3]) (Blk.mk (rws (mdL s (mdN s))) (BT.r 35 258 3)) (Blk.mk (rws (mdL s (mdN s))) (BT.r 35 258 1)) ∧ True) (by kernel_rfl)
  repeat' (first | exact trivial | with_reducible apply And.intro | (with_reducible apply HB.mk) | with_reducible intro _)
  all_goals first
    | (assumption)
    | (with_reducible exact Le.refl _)
    | (with_reducible rfl)
    | (exact LoopOK.re [(3, none)] (I11 p s 0) (by kernel_rfl) (wkER_cons (LeR.of (by kernel_rfl)) (wkER_cons (LeR.of (by kernel_rfl)) (wkER_cons (LeR.of (by kernel_rfl)) (wkER_cons (LeR.of (by kernel_rfl)) trivial)))) (wkHR_cons (j := 0) rfl (BkM.fix (cs := qls p s) (b := .q) (by kernel_rfl) (rfl) (fix_qls p s) (by kernel_rfl)) (wkHR_cons (j := 1) rfl (BkM.blk (k := ⟨[.v (.slice none 0 0)], .t 38⟩) (k'' := ⟨[.v (.slice none 0 0)], .t 38⟩) (by kernel_rfl) (by kernel_rfl) rfl) (wkHR_cons (j := 2) rfl (BkM.lsB (xs := [.v (.slice none 0 0)]) (by kernel_rfl) (LsR.cons (by show LfR _ 4 _ (.o 3 (mdL s 0).length); rw [show (mdL s 0).length = 0 by unfold mdL; rfl]; exact LfR.nil (show 3 < 4 by decide) rfl) LsR.nil)) (wkHR_nil rfl trivial)))) (fun K hT => L11 p s hs _ 0 rfl (Nat.zero_le _) K hT))
    | (exact BkR.plain rfl (plain_rws _) (by kernel_rfl))
    | (exact okw _ (by omega) (by omega))
    | (exact Le.of rfl)
    | (exact BkR.of rfl)
    | (unfold SlOK; omega)
    | (unfold SlOK; decide)
    | (unfold inByte; decide)
    | (simp only [*, Bool.and_self, Bool.not_false, Bool.not_true]; done)
    | (simp_all [wants]; done)
end Ab
end Go.Proofs.Ytpdckpifhniioaa
