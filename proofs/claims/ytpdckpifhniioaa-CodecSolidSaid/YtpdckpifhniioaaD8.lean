/- x -/
import Derived.Test.YtpdckpifhniioaaD7
import Derived.Test.YtpdckpifhniioaaBz
set_option linter.unusedVariables false
set_option linter.unusedSimpArgs false
namespace Go.Proofs.Ytpdckpifhniioaa
open Go.RowKit
namespace Ab
def cz_C11y (o : Option Addr) (c : Nat) : Cz := {
  ct := (fun f => match f with
  | _ => none)
  eq := (fun t => match t with
  | _ => none)
  raw := [], sym := [], nf := [], ap := true, off := [], on := [], lp := fun _ => none, un := 3, wh := [38, 27, 33, 71] }
set_option maxRecDepth 100000 in
set_option maxHeartbeats 400000 in
theorem C11y (o : Option Addr) (c : Nat)  : CallOK Try.prog 8 [.c (.l (.v (.slice o 0 c)))] [(0, ⟨qls 0 [], .q⟩)] 1 (.c (.agg [.v (.slice none 0 0)])) [] 0 := by
  refine call_ok (cx := cz_C11y o c) (nm := []) rfl Try.func8 (body := Try.f8.body.getD .skip) rfl enters11 (by kernel_rfl) ?_
  apply of_eq (q := (decide (0 < (Nat.cast 0 : Int)) = true → decide (0 < (Nat.cast 0 : Int)) = true ∧ True) ∧ (decide (0 < (Nat.cast 0 : Int)) = true → decide (0 < (Nat.cast 0 : Int)) = true) ∧ 0 = 0 ∧ 1 = 1 ∧ Le (ag [Leaf.v (Value.slice none 0 0)]) (ag [Leaf.v (Value.slice none 0 0)]) ∧ True) (by kernel_rfl)
  repeat' (first | exact trivial | with_reducible apply And.intro | (with_reducible apply HB.mk) | with_reducible intro _)
  all_goals first
    | (assumption)
    | (with_reducible exact Le.refl _)
    | (with_reducible rfl)
    | (exact okw _ (by omega) (by omega))
    | (exact Le.of rfl)
    | (exact BkR.of rfl)
    | (unfold SlOK; omega)
    | (unfold SlOK; decide)
    | (unfold inByte; decide)
    | (simp only [*, Bool.and_self, Bool.not_false, Bool.not_true]; done)
    | (simp_all [wants]; done)
theorem C11z (o : Option Addr) (c : Nat) : CallOK Try.prog 8 [.c (.l (.v (.slice o 0 c)))] [(0, ⟨qls 0 [], .q⟩)] 1 (.c (.agg [.o 1 (mdL [] (mdN [])).length])) [(1, ⟨rws (mdL [] (mdN [])), .r 35 258 1⟩)] 1 :=
  CallOKd.nil_o (C11y o c) _
/-- String: what a builder's block says of it. -/
def B54 (S : St) (i : Nat) : Option Cr := match S.blk i with
  | some ⟨[_, .v (.slice none 0 0)], _⟩ => some ⟨.c (.l (.v (.string .empty))), [i], [], 0, []⟩
  | some ⟨[_, .o bf _], _⟩ => some ⟨V54 S i, [i, bf], [(bf, ⟨[], .x⟩)], 0, []⟩
  | _ => none
theorem good_nil : Good [] := mdL_good [] 0 (Nat.zero_le 6)
theorem C46z (l : List TA) (hl : l = []) (id n : Nat) (hi : id < n) : CallOK Try.prog 13 [.c (.agg [.o id 0])] [(id, ⟨rws l, .r 35 258 id⟩)] n (bv true) [] 0 := by
  subst hl; exact C46g [] good_nil id n hi
attribute [local irreducible] Oct.M.sum hdB blB entB rws
def cz_C12y (l : List TA) : Cz := {
  ct := (fun f => match f with
  | 13 => some fun _ _S ar => match ar with | [.c (.agg [.o i _])] => some { v := bv true, rd := [i], wr := [], nw := 0 } | _ => none
  | 14 => some fun _ap _S ar => match ar with | [.c (.l (.p i _)), .c (.l (.v (.string s)))] => B47 _ap _S i s | _ => none
  | 15 => some fun _ _S ar => match ar with | [.c (.l (.v (.int _ k)))] => some { v := .c (.l (.v (.string ⟨(Oct.M.leb (Oct.u64 k)).toArray⟩))), rd := [], wr := [], nw := 0 } | _ => none
  | 17 => some fun _ _S ar => match ar with | [.c (.l (.v (.int _ k))), .c (.l (.v (.int _ m)))] => some { v := .c (.l (.v (.string ⟨(Oct.M.be (Oct.sz m) (Oct.u64 k)).toArray⟩))), rd := [], wr := [], nw := 0 } | _ => none
  | 18 => some fun _ _S ar => match ar with | [.c (.agg [.v (.int _ a), .v (.int _ b), .v (.int _ c), .v (.int _ e)])] => some { v := .c (.l (.v (.string ⟨#[ofI a, ofI b, ofI c, ofI e]⟩))), rd := [], wr := [], nw := 0 } | _ => none
  | 20 => some fun _ _S ar => match ar with | [.c (.l (.v (.string s)))] => some { v := iv .u32 (Oct.M.sum s.data.toList : Nat), rd := [], wr := [], nw := 0 } | _ => none
  | 21 => some fun _ap _S ar => match ar with | [.c (.l (.p i _))] => B54 _S i | _ => none
  | 22 => some fun _ _S ar => match ar with | [.c (.l (.v (.string s)))] => some { v := .c (.l (.v (.string ⟨(Oct.txt s).toArray⟩))), rd := [], wr := [], nw := 0 } | _ => none
  | _ => none)
  eq := (fun t => match t with
  | _ => none)
  raw := [], sym := [], nf := [(11, bv true), (12, bv false), (16, .c (.l (.v (.string (hdB l 0))))), (57, .c (.l (.v (.string (hdB l 0))))), (59, .c (.l (.v (.string (txtB (hdB l 0)))))), (62, iv .u32 (sumI (hdB l 0))), (63, iv .i64 (sumI (hdB l 0))), (64, .c (.l (.v (.string (putB (sumI (hdB l 0)) 4))))), (66, .c (.l (.v (.string (blB l 0))))), (67, .c (.l (.v (.string (packB l)))))], ap := true, off := [], on := [], lp := fun _ => none, un := 3, ex := [54] }
set_option maxRecDepth 100000 in
set_option maxHeartbeats 400000 in
theorem C12y (l : List TA) (hl : l = []) : CallOK Try.prog 7 [.c (.agg [.o 0 0])] [(0, ⟨rws l, .r 35 258 0⟩)] 1 (.tup [.l (.v (.string (packB l))), .l (li 0)]) [] 0 := by
  have hh := hdB_le l 0
  have hhp := hdB_pos l 0
  have hbz : (blB l 0).size = 0 := by unfold blB; rfl
  have hl0 : l.length = 0 := by rw [hl]; rfl
  refine call_ok (cx := cz_C12y l) (nm := []) rfl Try.func7 (body := Try.f7.body.getD .skip) rfl enters12 (by unfold inck; simp only [List.all_cons, List.all_nil, blt_rws _ _ (show (BT.rn (rnId 1 0 []) (.r 35 258 0)).isSome = true from rfl), Bool.and_true, Bool.true_and]; kernel_rfl) ?_
  apply of_eq (q := CallOKd Try.prog 13 [] [ag [Leaf.o 0 0]] [(0, Blk.mk (rws l) (BT.r 35 258 0))] 2 (bv true) [] 0 ∧ Le (bv true) (bv true) ∧ Le (bv !true) (bv false) ∧ CallOKd Try.prog 15 [] [iv IntKind.i64 (Nat.cast 0 : Int)] [] 4 (SV.c (Cp.l (Leaf.v (Value.string (ByteArray.mk (Oct.M.leb (Oct.u64 (Nat.cast 0 : Int))).toArray))))) [] 0 ∧ Le (SV.c (Cp.l (Leaf.v (Value.string (ByteArray.mk (Oct.M.leb (Oct.u64 (Nat.cast 0 : Int))).toArray))))) (SV.c (Cp.l (Leaf.v (Value.string (hdB l 0))))) ∧ CallOKd Try.prog 14 [] [SV.c (Cp.l (Leaf.p 2 0)), SV.c (Cp.l (Leaf.v (Value.string (hdB l 0))))] [(2, Blk.mk [Leaf.v (Value.pointer none), Leaf.v (Value.slice none 0 0)] (BT.e 54))] 4 (SV.tup [Cp.l (li (Nat.cast ((hdB l 0).size) : Int)), Cp.l (Leaf.v Value.nilIface)]) [(2, Blk.mk [Leaf.p 2 0, Leaf.o 4 (hdB l 0).size] (BT.e 54)), (4, Blk.mk (sbytes (hdB l 0)) (BT.r 5 1 4))] 1 ∧ CallOKd Try.prog 21 [] [SV.c (Cp.l (Leaf.p 2 0))] [(2, Blk.mk [Leaf.p 2 0, Leaf.o 4 (hdB l 0).size] (BT.e 54)), (4, Blk.mk (sbytes (hdB l 0)) (BT.r 5 1 4))] 5 (SV.c (Cp.l (Leaf.v (Value.string (strL (sbytes (hdB l 0))))))) [(4, Blk.mk [] BT.x)] 0 ∧ Le (SV.c (Cp.l (Leaf.v (Value.string (strL (sbytes (hdB l 0))))))) (SV.c (Cp.l (Leaf.v (Value.string (hdB l 0))))) ∧ CallOKd Try.prog 22 [] [SV.c (Cp.l (Leaf.v (Value.string (hdB l 0))))] [] 5 (SV.c (Cp.l (Leaf.v (Value.string (ByteArray.mk (Oct.txt (hdB l 0)).toArray))))) [] 0 ∧ Le (SV.c (Cp.l (Leaf.v (Value.string (ByteArray.mk (Oct.txt (hdB l 0)).toArray))))) (SV.c (Cp.l (Leaf.v (Value.string (txtB (hdB l 0)))))) ∧ (Nat.cast (((ByteArray.mk #[71, 1]).size + (txtB (hdB l 0)).size)) : Int) ≤ IntKind.i64.max ∧ CallOKd Try.prog 20 [] [SV.c (Cp.l (Leaf.v (Value.string (hdB l 0))))] [] 5 (iv IntKind.u32 (Nat.cast ((Oct.M.sum (hdB l 0).data.toList)) : Int)) [] 0 ∧ Le (iv IntKind.u32 (Nat.cast ((Oct.M.sum (hdB l 0).data.toList)) : Int)) (iv IntKind.u32 (sumI (hdB l 0))) ∧ Le (iv IntKind.i64 (IntKind.i64.wrap (sumI (hdB l 0)))) (iv IntKind.i64 (sumI (hdB l 0))) ∧ CallOKd Try.prog 17 [] [iv IntKind.i64 (sumI (hdB l 0)), iv IntKind.i64 4] [] 5 (SV.c (Cp.l (Leaf.v (Value.string (ByteArray.mk (Oct.M.be (Oct.sz 4) (Oct.u64 (sumI (hdB l 0)))).toArray))))) [] 0 ∧ Le (SV.c (Cp.l (Leaf.v (Value.string (ByteArray.mk (Oct.M.be (Oct.sz 4) (Oct.u64 (sumI (hdB l 0)))).toArray))))) (SV.c (Cp.l (Leaf.v (Value.string (putB (sumI (hdB l 0)) 4))))) ∧ (Nat.cast (((ByteArray.mk #[71, 1] ++ txtB (hdB l 0)).size + (putB (sumI (hdB l 0)) 4).size)) : Int) ≤ IntKind.i64.max ∧ CallOKd Try.prog 21 [] [SV.c (Cp.l (Leaf.p 3 0))] [(3, Blk.mk [Leaf.v (Value.pointer none), Leaf.v (Value.slice none 0 0)] (BT.e 54))] 5 (SV.c (Cp.l (Leaf.v (Value.string ByteArray.empty)))) [] 0 ∧ Le (SV.c (Cp.l (Leaf.v (Value.string ByteArray.empty)))) (SV.c (Cp.l (Leaf.v (Value.string (blB l 0))))) ∧ (Nat.cast (((ByteArray.mk #[71, 1] ++ txtB (hdB l 0) ++ putB (sumI (hdB l 0)) 4).size + (blB l 0).size)) : Int) ≤ IntKind.i64.max ∧ Le (SV.c (Cp.l (Leaf.v (Value.string (ByteArray.mk #[71, 1] ++ txtB (hdB l 0) ++ putB (sumI (hdB l 0)) 4 ++ blB l 0))))) (SV.c (Cp.l (Leaf.v (Value.string (packB l))))) ∧ Le (SV.tup [Cp.l (Leaf.v (Value.string (packB l))), Cp.l (li 0)]) (SV.tup [Cp.l (Leaf.v (Value.string (packB l))), Cp.l (li 0)]) ∧ True) (by kernel_rfl)
  repeat' (first | exact trivial | with_reducible apply And.intro | (with_reducible apply HB.mk) | with_reducible intro _)
  all_goals first
    | (assumption)
    | (with_reducible exact Le.refl _)
    | (with_reducible rfl)
    | ((with_reducible exact C46z l hl _ _ (by omega)))
    | ((first | with_reducible refine C47ag _ ?_ ?_ _ _ ?_ | with_reducible refine C47tg _ _ _ ?_ ?_ ?_ ?_ _ _ _ ?_ ?_ ?_ | with_reducible refine C47fg _ _ _ ?_ ?_ ?_ ?_ _ _ _ ?_ ?_ ?_) <;> first | exact plain_sbytes _ | (rw [sbytes_len]; done) | omega)
    | (with_reducible exact C48 _ _)
    | (with_reducible exact C50 _ _ _)
    | ((with_reducible refine C53 _ ?_ _); first | assumption | decide +kernel | (simp; omega))
    | ((first | exact C54z _ _ _ | with_reducible refine C54 _ _ _ _ _ _ ?_ ?_ ?_ ?_ ?_) <;> first | (rw [sbytes_len]; done) | exact allB_sbytes _ | omega)
    | ((with_reducible refine C55 _ ?_ _); first | assumption | decide +kernel | (simp; omega))
    | (exact Le.of (by rw [strL_sbytes]))
    | (((with_reducible refine C55 _ ?_ _); omega))
    | (((with_reducible refine C53 _ ?_ _); omega))
    | (exact Le.of (by unfold hdB; rw [hl0]; rfl))
    | (exact Le.of (by unfold packB; rw [hl0]))
    | (exact Le.of (by unfold blB; rfl))
    | (exact Le.of rfl)
    | ((refine Le.int ?_; rw [IntKind.wrap_i64]; have := sumI_bd (hdB l 0); omega))
    | ((rw [IntKind.max_i64]; have := txtB_le (hdB l 0) (by omega); (try simp only [ByteArray.size_append, putB_sz, sz2, sz4]); have e0 : (⟨#[71, 1]⟩ : ByteArray).size = 2 := rfl; omega))
    | (exact okw _ (by omega) (by omega))
    | (exact Le.of rfl)
    | (exact BkR.of rfl)
    | (unfold SlOK; omega)
    | (unfold SlOK; decide)
    | (unfold inByte; decide)
    | (simp only [*, Bool.and_self, Bool.not_false, Bool.not_true]; done)
    | (simp_all [wants]; done)
end Ab
end Go.Proofs.Ytpdckpifhniioaa
