/- The nil file's methods; CodecNil's run. -/
import Derived.Test.YtpdckpifhniioaaGreatC2
set_option linter.unusedVariables false
set_option linter.unusedSimpArgs false
namespace Go.Proofs.YtpdckpifhniioaaGreat
open Go.RowKit
namespace Ab
theorem enters46 : Enters Tryz.prog 46 := fun args w => by go_simp
theorem C46e (n : Nat) : CallOK Tryz.prog 46 [ag [.v (.slice none 0 0)]] [] n (bv true) [] 0 :=
  call_plain enters46 (vals := [.agg #[.slice none 0 0]]) (y := .bool true) rfl rfl n fun x => Oct.valid_empty x
theorem enters87 : Enters Tryz.prog 87 := fun args w => by go_simp
def cz_C87e : Cz := {
  ct := (fun f => match f with
  | 46 => some fun _S ar => match ar with | [.c (.agg [.v (.slice none _ _)])] => some { v := bv true, rd := [], wr := [], nw := 0 } | _ => none
  | _ => none)
  eq := (fun t => match t with
  | _ => none)
  raw := [], sym := [], nf := [], off := [], on := [], lp := fun _ => none, un := 0 }
set_option maxRecDepth 100000 in
set_option maxHeartbeats 400000 in
theorem C87e   (n : Nat) : CallOK Tryz.prog 87 [ag [.v (.slice none 0 0)]] [] n (.c (.l (.v (.slice none 0 0)))) [] 0 := by
  refine CallOK.any ?_ (by kernel_rfl) (by kernel_rfl) n
  refine call_ok (cx := cz_C87e) (nm := []) rfl Tryz.func87 (body := Tryz.f87.body.getD .skip) rfl enters87 (by kernel_rfl) ?_
  apply of_eq (q := CallOK Tryz.prog 46 [ag [Leaf.v (Value.slice none 0 0)]] [] 1 (bv true) [] 0 ∧ Le (SV.c (Cp.l (Leaf.v (Value.slice none 0 0)))) (SV.c (Cp.l (Leaf.v (Value.slice none 0 0)))) ∧ True) (by kernel_rfl)
  repeat' (first | exact trivial | with_reducible apply And.intro | (with_reducible apply HB.mk) | with_reducible intro _)
  all_goals first
    | (assumption)
    | (with_reducible exact Le.refl _)
    | (with_reducible exact C46e _)
    | (exact okw _ (by omega) (by omega))
    | (exact Le.of rfl)
    | (simp only [*, Bool.and_self, Bool.not_false, Bool.not_true]; done)
    | (simp_all [wants]; done)
theorem enters88 : Enters Tryz.prog 88 := fun args w => by go_simp
def cz_C88e : Cz := {
  ct := (fun f => match f with
  | _ => none)
  eq := (fun t => match t with
  | _ => none)
  raw := [], sym := [], nf := [], off := [], on := [], lp := fun _ => none, un := 2 }
set_option maxRecDepth 100000 in
set_option maxHeartbeats 400000 in
theorem C88e   : CallOK Tryz.prog 88 [.c (.l (.v (.slice none 0 0))), .c (.l (.f 89 [(1, 0)]))] [] 3 (.c (.l (.v (.slice none 0 0)))) [] ([] : List Nat).length := by
  refine call_ok (cx := cz_C88e) (nm := []) rfl Tryz.func88 (body := Tryz.f88.body.getD .skip) rfl enters88 (by kernel_rfl) ?_
  apply of_eq (q := Le (SV.c (Cp.l (Leaf.v (Value.slice none 0 0)))) (SV.c (Cp.l (Leaf.v (Value.slice none 0 0)))) ∧ True) (by kernel_rfl)
  repeat' (first | exact trivial | with_reducible apply And.intro | (with_reducible apply HB.mk) | with_reducible intro _)
  all_goals first
    | (assumption)
    | (with_reducible exact Le.refl _)
    | (exact okw _ (by omega) (by omega))
    | (exact Le.of rfl)
    | (simp only [*, Bool.and_self, Bool.not_false, Bool.not_true]; done)
    | (simp_all [wants]; done)
theorem enters32 : Enters Tryz.prog 32 := fun args w => by go_simp
def cz_C32e : Cz := {
  ct := (fun f => match f with
  | 87 => some fun _S ar => match ar with | [.c (.agg [.v (.slice none _ _)])] => some { v := .c (.l (.v (.slice none 0 0))), rd := [], wr := [], nw := 0 } | _ => none
  | 88 => some fun _S ar => match ar with | [.c (.l (.v (.slice none _ _))), _] => some { v := .c (.l (.v (.slice none 0 0))), rd := [], wr := [], nw := 0 } | _ => none
  | _ => none)
  eq := (fun t => match t with
  | _ => none)
  raw := [], sym := [], nf := [], off := [], on := [], lp := fun _ => none, un := 0 }
set_option maxRecDepth 100000 in
set_option maxHeartbeats 400000 in
theorem C32e (r0 r1 r2 r3 : Int)  (n : Nat) : CallOK Tryz.prog 32 [ag [.v (.slice none 0 0)], ag [li r0, li r1, li r2, li r3]] [] n (ag [.v (.slice none 0 0)]) [] 0 := by
  refine CallOK.any ?_ (by kernel_rfl) (by kernel_rfl) n
  refine call_ok (cx := cz_C32e) (nm := []) rfl Tryz.func32 (body := Tryz.f32.body.getD .skip) rfl enters32 (by kernel_rfl) ?_
  apply of_eq (q := CallOK Tryz.prog 87 [ag [Leaf.v (Value.slice none 0 0)]] [] 3 (SV.c (Cp.l (Leaf.v (Value.slice none 0 0)))) [] 0 ∧ CallOK Tryz.prog 88 [SV.c (Cp.l (Leaf.v (Value.slice none 0 0))), SV.c (Cp.l (Leaf.f 89 [(1, 0)]))] [] 3 (SV.c (Cp.l (Leaf.v (Value.slice none 0 0)))) [] 0 ∧ Le (ag [Leaf.v (Value.slice none 0 0)]) (ag [Leaf.v (Value.slice none 0 0)]) ∧ True) (by kernel_rfl)
  repeat' (first | exact trivial | with_reducible apply And.intro | (with_reducible apply HB.mk) | with_reducible intro _)
  all_goals first
    | (assumption)
    | (with_reducible exact Le.refl _)
    | (with_reducible exact C87e _)
    | ((exact C88e))
    | (exact okw _ (by omega) (by omega))
    | (exact Le.of rfl)
    | (simp only [*, Bool.and_self, Bool.not_false, Bool.not_true]; done)
    | (simp_all [wants]; done)
theorem enters80 : Enters Tryz.prog 80 := fun args w => by go_simp
def cz_C80r : Cz := {
  ct := (fun f => match f with
  | _ => none)
  eq := (fun t => match t with
  | _ => none)
  raw := [], sym := [], nf := [], off := [], on := [], lp := fun _ => none, un := 2 }
set_option maxRecDepth 100000 in
set_option maxHeartbeats 400000 in
theorem C80r   : CallOK Tryz.prog 80 [.c (.l (.v (.pointer none))), .c (.l (.f 82 [(0, 0)]))] [] 2 (.tup [.agg [.v (.slice none 0 0)], .l (li 1)]) [] ([] : List Nat).length := by
  refine call_ok (cx := cz_C80r) (nm := []) rfl Tryz.func80 (body := Tryz.f80.body.getD .skip) rfl enters80 (by kernel_rfl) ?_
  apply of_eq (q := Le (SV.tup [Cp.agg [Leaf.v (Value.slice none 0 0)], Cp.l (li 1)]) (SV.tup [Cp.agg [Leaf.v (Value.slice none 0 0)], Cp.l (li 1)]) ∧ True) (by kernel_rfl)
  repeat' (first | exact trivial | with_reducible apply And.intro | (with_reducible apply HB.mk) | with_reducible intro _)
  all_goals first
    | (assumption)
    | (with_reducible exact Le.refl _)
    | (exact okw _ (by omega) (by omega))
    | (exact Le.of rfl)
    | (simp only [*, Bool.and_self, Bool.not_false, Bool.not_true]; done)
    | (simp_all [wants]; done)
def cz_C80a : Cz := {
  ct := (fun f => match f with
  | _ => none)
  eq := (fun t => match t with
  | _ => none)
  raw := [], sym := [], nf := [], off := [], on := [], lp := fun _ => none, un := 2 }
set_option maxRecDepth 100000 in
set_option maxHeartbeats 400000 in
theorem C80a   (n : Nat) : CallOK Tryz.prog 80 [.c (.l (.v (.pointer none))), .c (.l (.f 81 []))] [] n (.tup [.agg [.v (.slice none 0 0)], .l (li 1)]) [] 0 := by
  refine CallOK.any ?_ (by kernel_rfl) (by kernel_rfl) n
  refine call_ok (cx := cz_C80a) (nm := []) rfl Tryz.func80 (body := Tryz.f80.body.getD .skip) rfl enters80 (by kernel_rfl) ?_
  apply of_eq (q := Le (SV.tup [Cp.agg [Leaf.v (Value.slice none 0 0)], Cp.l (li 1)]) (SV.tup [Cp.agg [Leaf.v (Value.slice none 0 0)], Cp.l (li 1)]) ∧ True) (by kernel_rfl)
  repeat' (first | exact trivial | with_reducible apply And.intro | (with_reducible apply HB.mk) | with_reducible intro _)
  all_goals first
    | (assumption)
    | (with_reducible exact Le.refl _)
    | (exact okw _ (by omega) (by omega))
    | (exact Le.of rfl)
    | (simp only [*, Bool.and_self, Bool.not_false, Bool.not_true]; done)
    | (simp_all [wants]; done)
theorem enters24 : Enters Tryz.prog 24 := fun args w => by go_simp
def cz_C24n : Cz := {
  ct := (fun f => match f with
  | 32 => some fun _S ar => match ar with | [.c (.agg [.v (.slice none _ _)]), .c (.agg [.v (.int _ r0), .v (.int _ r1), .v (.int _ r2), .v (.int _ r3)])] => some { v := ag [.v (.slice none 0 0)], rd := [], wr := [], nw := 0 } | _ => none
  | 80 => some fun _S ar => match ar with | [.c (.l (.v (.pointer none))), _] => some { v := .tup [.agg [.v (.slice none 0 0)], .l (li 1)], rd := [], wr := [], nw := 0 } | _ => none
  | _ => none)
  eq := (fun t => match t with
  | _ => none)
  raw := [], sym := [], nf := [], off := [], on := [], lp := fun _ => none, un := 0 }
set_option maxRecDepth 100000 in
set_option maxHeartbeats 400000 in
theorem C24n (r0 r1 r2 r3 : Int)  (n : Nat) : CallOK Tryz.prog 24 [.c (.l (.v (.pointer none))), ag [li r0, li r1, li r2, li r3]] [] n (.tup [.agg [.v (.slice none 0 0)], .l (li 1)]) [] 0 := by
  refine CallOK.any ?_ (by kernel_rfl) (by kernel_rfl) n
  refine call_ok (cx := cz_C24n) (nm := []) rfl Tryz.func24 (body := Tryz.f24.body.getD .skip) rfl enters24 (by kernel_rfl) ?_
  apply of_eq (q := CallOK Tryz.prog 80 [SV.c (Cp.l (Leaf.v (Value.pointer none))), SV.c (Cp.l (Leaf.f 82 [(0, 0)]))] [] 2 (SV.tup [Cp.agg [Leaf.v (Value.slice none 0 0)], Cp.l (li 1)]) [] 0 ∧ CallOK Tryz.prog 32 [ag [Leaf.v (Value.slice none 0 0)], ag [li r0, li r1, li r2, li r3]] [] 3 (ag [Leaf.v (Value.slice none 0 0)]) [] 0 ∧ Le (SV.tup [Cp.agg [Leaf.v (Value.slice none 0 0)], Cp.l (li 1)]) (SV.tup [Cp.agg [Leaf.v (Value.slice none 0 0)], Cp.l (li 1)]) ∧ True) (by kernel_rfl)
  repeat' (first | exact trivial | with_reducible apply And.intro | (with_reducible apply HB.mk) | with_reducible intro _)
  all_goals first
    | (assumption)
    | (with_reducible exact Le.refl _)
    | (with_reducible exact C32e _ _ _ _ _)
    | ((first | exact C80r | exact C80a _))
    | (exact okw _ (by omega) (by omega))
    | (exact Le.of rfl)
    | (simp only [*, Bool.and_self, Bool.not_false, Bool.not_true]; done)
    | (simp_all [wants]; done)
theorem enters23 : Enters Tryz.prog 23 := fun args w => by go_simp
def cz_C23n : Cz := {
  ct := (fun f => match f with
  | 80 => some fun _S ar => match ar with | [.c (.l (.v (.pointer none))), _] => some { v := .tup [.agg [.v (.slice none 0 0)], .l (li 1)], rd := [], wr := [], nw := 0 } | _ => none
  | _ => none)
  eq := (fun t => match t with
  | _ => none)
  raw := [], sym := [], nf := [], off := [], on := [], lp := fun _ => none, un := 0 }
set_option maxRecDepth 100000 in
set_option maxHeartbeats 400000 in
theorem C23n   (n : Nat) : CallOK Tryz.prog 23 [.c (.l (.v (.pointer none)))] [] n (.tup [.agg [.v (.slice none 0 0)], .l (li 1)]) [] 0 := by
  refine CallOK.any ?_ (by kernel_rfl) (by kernel_rfl) n
  refine call_ok (cx := cz_C23n) (nm := []) rfl Tryz.func23 (body := Tryz.f23.body.getD .skip) rfl enters23 (by kernel_rfl) ?_
  apply of_eq (q := CallOK Tryz.prog 80 [SV.c (Cp.l (Leaf.v (Value.pointer none))), SV.c (Cp.l (Leaf.f 81 []))] [] 1 (SV.tup [Cp.agg [Leaf.v (Value.slice none 0 0)], Cp.l (li 1)]) [] 0 ∧ Le (SV.tup [Cp.agg [Leaf.v (Value.slice none 0 0)], Cp.l (li 1)]) (SV.tup [Cp.agg [Leaf.v (Value.slice none 0 0)], Cp.l (li 1)]) ∧ True) (by kernel_rfl)
  repeat' (first | exact trivial | with_reducible apply And.intro | (with_reducible apply HB.mk) | with_reducible intro _)
  all_goals first
    | (assumption)
    | (with_reducible exact Le.refl _)
    | ((first | exact C80r | exact C80a _))
    | (exact okw _ (by omega) (by omega))
    | (exact Le.of rfl)
    | (simp only [*, Bool.and_self, Bool.not_false, Bool.not_true]; done)
    | (simp_all [wants]; done)
def zT256 : List Leaf := List.replicate 256 (.v (.int .u8 0))
theorem enters22 : Enters Tryz.prog 22 := fun args w => by go_simp
def cz_C22n : Cz := {
  ct := (fun f => match f with
  | _ => none)
  eq := (fun t => match t with
  | _ => none)
  raw := [], sym := [], nf := [], off := [], on := [], lp := fun _ => none, un := 2 }
set_option maxRecDepth 100000 in
set_option maxHeartbeats 400000 in
theorem C22n (x y : Int)  (n : Nat) : CallOK Tryz.prog 22 [.c (.l (.v (.pointer none))), ag [li x, li y]] [] n (.tup [.agg zT256, .l (li 1)]) [] 0 := by
  refine CallOK.any ?_ (by kernel_rfl) (by kernel_rfl) n
  refine call_ok (cx := cz_C22n) (nm := []) rfl Tryz.func22 (body := Tryz.f22.body.getD .skip) rfl enters22 (by kernel_rfl) ?_
  apply of_eq (q := Le (SV.tup [Cp.agg zT256, Cp.l (li 1)]) (SV.tup [Cp.agg zT256, Cp.l (li 1)]) ∧ True) (by kernel_rfl)
  repeat' (first | exact trivial | with_reducible apply And.intro | (with_reducible apply HB.mk) | with_reducible intro _)
  all_goals first
    | (assumption)
    | (with_reducible exact Le.refl _)
    | (exact Le.of (by kernel_rfl))
    | (exact okw _ (by omega) (by omega))
    | (exact Le.of rfl)
    | (simp only [*, Bool.and_self, Bool.not_false, Bool.not_true]; done)
    | (simp_all [wants]; done)
theorem enters16 : Enters Tryz.prog 16 := fun args w => by go_simp
def cz_C16n : Cz := {
  ct := (fun f => match f with
  | _ => none)
  eq := (fun t => match t with
  | _ => none)
  raw := [], sym := [], nf := [], off := [], on := [], lp := fun _ => none, un := 2 }
set_option maxRecDepth 100000 in
set_option maxHeartbeats 400000 in
theorem C16n (x y : Int)  (n : Nat) : CallOK Tryz.prog 16 [.c (.l (.v (.pointer none))), ag [li x, li y]] [] n (.tup [.agg zT256, .l (li 1)]) [] 0 := by
  refine CallOK.any ?_ (by kernel_rfl) (by kernel_rfl) n
  refine call_ok (cx := cz_C16n) (nm := []) rfl Tryz.func16 (body := Tryz.f16.body.getD .skip) rfl enters16 (by kernel_rfl) ?_
  apply of_eq (q := Le (SV.tup [Cp.agg zT256, Cp.l (li 1)]) (SV.tup [Cp.agg zT256, Cp.l (li 1)]) ∧ True) (by kernel_rfl)
  repeat' (first | exact trivial | with_reducible apply And.intro | (with_reducible apply HB.mk) | with_reducible intro _)
  all_goals first
    | (assumption)
    | (with_reducible exact Le.refl _)
    | (exact Le.of (by kernel_rfl))
    | (exact okw _ (by omega) (by omega))
    | (exact Le.of rfl)
    | (simp only [*, Bool.and_self, Bool.not_false, Bool.not_true]; done)
    | (simp_all [wants]; done)
def cz_C25n : Cz := {
  ct := (fun f => match f with
  | _ => none)
  eq := (fun t => match t with
  | _ => none)
  raw := [], sym := [], nf := [], off := [], on := [], lp := fun _ => none, un := 0 }
set_option maxRecDepth 100000 in
set_option maxHeartbeats 400000 in
theorem C25n   (n : Nat) : CallOK Tryz.prog 25 [.c (.l (.v (.pointer none)))] [] n (iv .i64 0) [] 0 := by
  refine CallOK.any ?_ (by kernel_rfl) (by kernel_rfl) n
  refine call_ok (cx := cz_C25n) (nm := []) rfl Tryz.func25 (body := Tryz.f25.body.getD .skip) rfl enters25 (by kernel_rfl) ?_
  apply of_eq (q := Le (iv IntKind.i64 0) (iv IntKind.i64 0) ∧ True) (by kernel_rfl)
  repeat' (first | exact trivial | with_reducible apply And.intro | (with_reducible apply HB.mk) | with_reducible intro _)
  all_goals first
    | (assumption)
    | (with_reducible exact Le.refl _)
    | (exact okw _ (by omega) (by omega))
    | (exact Le.of rfl)
    | (simp only [*, Bool.and_self, Bool.not_false, Bool.not_true]; done)
    | (simp_all [wants]; done)
theorem enters19 : Enters Tryz.prog 19 := fun args w => by go_simp
def cz_C19n : Cz := {
  ct := (fun f => match f with
  | _ => none)
  eq := (fun t => match t with
  | _ => none)
  raw := [], sym := [], nf := [], off := [], on := [], lp := fun _ => none, un := 0 }
set_option maxRecDepth 100000 in
set_option maxHeartbeats 400000 in
theorem C19n   (n : Nat) : CallOK Tryz.prog 19 [.c (.l (.v (.pointer none)))] [] n (iv .i64 0) [] 0 := by
  refine CallOK.any ?_ (by kernel_rfl) (by kernel_rfl) n
  refine call_ok (cx := cz_C19n) (nm := []) rfl Tryz.func19 (body := Tryz.f19.body.getD .skip) rfl enters19 (by kernel_rfl) ?_
  apply of_eq (q := Le (iv IntKind.i64 0) (iv IntKind.i64 0) ∧ True) (by kernel_rfl)
  repeat' (first | exact trivial | with_reducible apply And.intro | (with_reducible apply HB.mk) | with_reducible intro _)
  all_goals first
    | (assumption)
    | (with_reducible exact Le.refl _)
    | (exact okw _ (by omega) (by omega))
    | (exact Le.of rfl)
    | (simp only [*, Bool.and_self, Bool.not_false, Bool.not_true]; done)
    | (simp_all [wants]; done)
def cz_C26n : Cz := {
  ct := (fun f => match f with
  | _ => none)
  eq := (fun t => match t with
  | _ => none)
  raw := [], sym := [], nf := [], off := [], on := [], lp := fun _ => none, un := 2 }
set_option maxRecDepth 100000 in
set_option maxHeartbeats 400000 in
theorem C26n   (n : Nat) : CallOK Tryz.prog 26 [.c (.l (.v (.pointer none)))] [] n (ag [li 0, li 0, li 0, li 0]) [] 0 := by
  refine CallOK.any ?_ (by kernel_rfl) (by kernel_rfl) n
  refine call_ok (cx := cz_C26n) (nm := []) rfl Tryz.func26 (body := Tryz.f26.body.getD .skip) rfl enters26 (by kernel_rfl) ?_
  apply of_eq (q := Le (ag [li 0, li 0, li 0, li 0]) (ag [li 0, li 0, li 0, li 0]) ∧ True) (by kernel_rfl)
  repeat' (first | exact trivial | with_reducible apply And.intro | (with_reducible apply HB.mk) | with_reducible intro _)
  all_goals first
    | (assumption)
    | (with_reducible exact Le.refl _)
    | (exact okw _ (by omega) (by omega))
    | (exact Le.of rfl)
    | (simp only [*, Bool.and_self, Bool.not_false, Bool.not_true]; done)
    | (simp_all [wants]; done)
theorem enters6 : Enters Tryz.prog 6 := fun args w => by go_simp
def cz_C6 : Cz := {
  ct := (fun f => match f with
  | 10 => some fun _S ar => match ar with | [] => some { v := bv true, rd := [], wr := [], nw := 0 } | _ => none
  | 16 => some fun _S ar => match ar with | [.c (.l (.v (.pointer none))), .c (.agg [.v (.int _ x), .v (.int _ y)])] => some { v := .tup [.agg zT256, .l (li 1)], rd := [], wr := [], nw := 0 } | _ => none
  | 19 => some fun _S ar => match ar with | [.c (.l (.v (.pointer none)))] => some { v := iv .i64 0, rd := [], wr := [], nw := 0 } | _ => none
  | 22 => some fun _S ar => match ar with | [.c (.l (.v (.pointer none))), .c (.agg [.v (.int _ x), .v (.int _ y)])] => some { v := .tup [.agg zT256, .l (li 1)], rd := [], wr := [], nw := 0 } | _ => none
  | 23 => some fun _S ar => match ar with | [.c (.l (.v (.pointer none)))] => some { v := .tup [.agg [.v (.slice none 0 0)], .l (li 1)], rd := [], wr := [], nw := 0 } | _ => none
  | 24 => some fun _S ar => match ar with | [.c (.l (.v (.pointer none))), .c (.agg [.v (.int _ r0), .v (.int _ r1), .v (.int _ r2), .v (.int _ r3)])] => some { v := .tup [.agg [.v (.slice none 0 0)], .l (li 1)], rd := [], wr := [], nw := 0 } | _ => none
  | 25 => some fun _S ar => match ar with | [.c (.l (.v (.pointer none)))] => some { v := iv .i64 0, rd := [], wr := [], nw := 0 } | _ => none
  | 26 => some fun _S ar => match ar with | [.c (.l (.v (.pointer none)))] => some { v := ag [li 0, li 0, li 0, li 0], rd := [], wr := [], nw := 0 } | _ => none
  | _ => none)
  eq := (fun t => match t with
  | 66 => some (fun xs ys => match xs, ys with | [.v (.int _ a0), .v (.int _ a1), .v (.int _ a2), .v (.int _ a3)], [.v (.int _ b0), .v (.int _ b1), .v (.int _ b2), .v (.int _ b3)] => (a0 == b0 && (a1 == b1 && (a2 == b2 && a3 == b3))) | _, _ => false)
  | _ => none)
  raw := [], sym := [], nf := [(45, bv true), (49, bv true), (53, bv true), (57, bv true), (62, bv true), (67, bv true), (73, bv true)], off := [], on := [], lp := fun _ => none, un := 0 }
set_option maxRecDepth 100000 in
set_option maxHeartbeats 400000 in
theorem C6 (k : Int)  (n : Nat) : CallOK Tryz.prog 6 [iv .i64 k] [] n (bv true) [] 0 := by
  refine CallOK.any ?_ (by kernel_rfl) (by kernel_rfl) n
  refine call_ok (cx := cz_C6) (nm := []) rfl Tryz.func6 (body := Tryz.f6.body.getD .skip) rfl enters6 (by kernel_rfl) ?_
  apply of_eq (q := CallOK Tryz.prog 10 [] [] 0 (bv true) [] 0 ∧ CallOK Tryz.prog 22 [SV.c (Cp.l (Leaf.v (Value.pointer none))), ag [li k, li 0]] [] 0 (SV.tup [Cp.agg zT256, Cp.l (li 1)]) [] 0 ∧ CallOK Tryz.prog 24 [SV.c (Cp.l (Leaf.v (Value.pointer none))), ag [li 0, li 0, li k, li k]] [] 1 (SV.tup [Cp.agg [Leaf.v (Value.slice none 0 0)], Cp.l (li 1)]) [] 0 ∧ CallOK Tryz.prog 23 [SV.c (Cp.l (Leaf.v (Value.pointer none)))] [] 2 (SV.tup [Cp.agg [Leaf.v (Value.slice none 0 0)], Cp.l (li 1)]) [] 0 ∧ CallOK Tryz.prog 16 [SV.c (Cp.l (Leaf.v (Value.pointer none))), ag [li k, li 0]] [] 3 (SV.tup [Cp.agg zT256, Cp.l (li 1)]) [] 0 ∧ (true = true → true = true ∧ True) ∧ (true = true → true = true) ∧ Le (bv (bif true then 1 == 1 else false)) (bv true) ∧ (true = true → true = true ∧ True) ∧ (true = true → true = true) ∧ Le (bv (bif true then 1 == 1 else false)) (bv true) ∧ (true = true → true = true ∧ True) ∧ (true = true → true = true) ∧ Le (bv (bif true then 1 == 1 else false)) (bv true) ∧ (true = true → true = true ∧ True) ∧ (true = true → true = true) ∧ Le (bv (bif true then 1 == 1 else false)) (bv true) ∧ (true = true → true = true ∧ CallOK Tryz.prog 25 [SV.c (Cp.l (Leaf.v (Value.pointer none)))] [] 4 (iv IntKind.i64 0) [] 0 ∧ True) ∧ (true = true → true = true ∧ True) ∧ (true = true → true = true) ∧ Le (bv (bif true then 0 == 0 else false)) (bv true) ∧ (true = true → true = true ∧ CallOK Tryz.prog 19 [SV.c (Cp.l (Leaf.v (Value.pointer none)))] [] 4 (iv IntKind.i64 0) [] 0 ∧ True) ∧ (true = true → true = true ∧ True) ∧ (true = true → true = true) ∧ Le (bv (bif true then 0 == 0 else false)) (bv true) ∧ (true = true → true = true ∧ CallOK Tryz.prog 26 [SV.c (Cp.l (Leaf.v (Value.pointer none)))] [] 4 (ag [li 0, li 0, li 0, li 0]) [] 0 ∧ True) ∧ (true = true → true = true ∧ true = true ∧ EqOK Tryz.prog 66 [li 0, li 0, li 0, li 0] [li 0, li 0, li 0, li 0] (0 == 0 && (0 == 0 && (0 == 0 && 0 == 0))) ∧ True) ∧ (true = true → true = true) ∧ Le (bv (bif true then 0 == 0 && (0 == 0 && (0 == 0 && 0 == 0)) else false)) (bv true) ∧ Le (bv true) (bv true) ∧ True) (by kernel_rfl)
  repeat' (first | exact trivial | with_reducible apply And.intro | (with_reducible apply HB.mk) | with_reducible intro _)
  all_goals first
    | (assumption)
    | (with_reducible exact Le.refl _)
    | (with_reducible exact C10 _)
    | (with_reducible exact C16n _ _ _)
    | (with_reducible exact C19n _)
    | (with_reducible exact C22n _ _ _)
    | (with_reducible exact C23n _)
    | (with_reducible exact C24n _ _ _ _ _)
    | (with_reducible exact C25n _)
    | (with_reducible exact C26n _)
    | (exact Le.of (by kernel_rfl))
    | (exact eq66 0 0 0 0 0 0 0 0)
    | (exact okw _ (by omega) (by omega))
    | (exact Le.of rfl)
    | (simp only [*, Bool.and_self, Bool.not_false, Bool.not_true]; done)
    | (simp_all [wants]; done)
end Ab
namespace codecNil
theorem walk (k : Int) (w : World) (wf0 : (Lit.int .i64 k).wf = true) : Calls Tryz.prog 6 #[.int .i64 k] w fun e w' => e = .returned (.bool true) ∧ Below w.heap.size w w' :=
  Ab.plain_call (Ab.C6 k 0) rfl rfl w
end codecNil
namespace Ab
end Ab
end Go.Proofs.YtpdckpifhniioaaGreat
