/- x -/
import Derived.Test.YtpdckpifhniioaaC4
import Derived.Test.YtpdckpifhniioaaXr
set_option linter.unusedVariables false
set_option linter.unusedSimpArgs false
namespace Go.Proofs.Ytpdckpifhniioaa
open Go.RowKit
namespace Ab
theorem Le.int' {k : IntKind} {a b : Int} (h : a = b) : Le (iv k a) (iv k b) := Le.int h
theorem enters179 : Enters Try.prog 85 := fun args w => by go_simp
def cz_C179 : Cz := {
  ct := (fun f => match f with
  | _ => none)
  eq := (fun t => match t with
  | _ => none)
  raw := [], sym := [], nf := [], ap := true, off := [], on := [], lp := fun _ => none, un := 0 }
set_option maxRecDepth 100000 in
set_option maxHeartbeats 400000 in
theorem C179 (x : Int)  (n : Nat) : CallOK Try.prog 85 [iv .i64 x] [] n (bv false) [] 0 := by
  refine CallOK.any ?_ (by kernel_rfl) (by kernel_rfl) n
  refine call_ok (cx := cz_C179) (nm := []) rfl Try.func85 (body := Try.f85.body.getD .skip) rfl enters179 (by kernel_rfl) ?_
  apply of_eq (q := Le (bv (x != x)) (bv false) ∧ True) (by kernel_rfl)
  repeat' (first | exact trivial | with_reducible apply And.intro | (with_reducible apply HB.mk) | with_reducible intro _)
  all_goals first
    | (assumption)
    | (with_reducible exact Le.refl _)
    | (exact Le.bool (by simp))
    | (exact okw _ (by omega) (by omega))
    | (exact Le.of rfl)
    | (exact BkR.of rfl)
    | (unfold SlOK; omega)
    | (unfold SlOK; decide)
    | (unfold inByte; decide)
    | (simp only [*, Bool.and_self, Bool.not_false, Bool.not_true]; done)
    | (simp_all [wants]; done)
def cmpI (x y : Int) : Int := bif decide (x < y) then -1 else bif decide (x > y) then 1 else 0
def orI (a b : Int) : Int := bif a != 0 then a else bif b != 0 then b else 0
theorem enters144 : Enters Try.prog 65 := fun args w => by go_simp
def cz_C144 : Cz := {
  ct := (fun f => match f with
  | 85 => some fun _ _S ar => match ar with | [.c (.l (.v (.int _ x)))] => some { v := bv false, rd := [], wr := [], nw := 0 } | _ => none
  | _ => none)
  eq := (fun t => match t with
  | _ => none)
  raw := [], sym := [], nf := [], ap := true, off := [], on := [], lp := fun _ => none, un := 0 }
set_option maxRecDepth 100000 in
set_option maxHeartbeats 400000 in
theorem C144 (x y : Int)  (n : Nat) : CallOK Try.prog 65 [iv .i64 x, iv .i64 y] [] n (iv .i64 (cmpI x y)) [] 0 := by
  refine CallOK.any ?_ (by kernel_rfl) (by kernel_rfl) n
  refine call_ok (cx := cz_C144) (nm := []) rfl Try.func65 (body := Try.f65.body.getD .skip) rfl enters144 (by kernel_rfl) ?_
  apply of_eq (q := CallOKd Try.prog 85 [] [iv IntKind.i64 x] [] 0 (bv false) [] 0 ∧ CallOKd Try.prog 85 [] [iv IntKind.i64 y] [] 0 (bv false) [] 0 ∧ HB (decide (x < y)) (Le (iv IntKind.i64 (-1)) (iv IntKind.i64 (cmpI x y)) ∧ True) (HB (decide (x > y)) (Le (iv IntKind.i64 1) (iv IntKind.i64 (cmpI x y)) ∧ True) (Le (iv IntKind.i64 0) (iv IntKind.i64 (cmpI x y)) ∧ True))) (by kernel_rfl)
  repeat' (first | exact trivial | with_reducible apply And.intro | (with_reducible apply HB.mk) | with_reducible intro _)
  all_goals first
    | (assumption)
    | (with_reducible exact Le.refl _)
    | (with_reducible exact C179 _ _)
    | (refine Le.int ?_; unfold cmpI; simp only [‹decide (x < y) = _›, cond_true, cond_false]; done)
    | (refine Le.int ?_; unfold cmpI; simp only [‹decide (x < y) = _›, ‹decide (x > y) = _›, cond_true, cond_false]; done)
    | (exact okw _ (by omega) (by omega))
    | (exact Le.of rfl)
    | (exact BkR.of rfl)
    | (unfold SlOK; omega)
    | (unfold SlOK; decide)
    | (unfold inByte; decide)
    | (simp only [*, Bool.and_self, Bool.not_false, Bool.not_true]; done)
    | (simp_all [wants]; done)
theorem enters143 : Enters Try.prog 64 := fun args w => by go_simp
def cz_C143 : Cz := {
  ct := (fun f => match f with
  | _ => none)
  eq := (fun t => match t with
  | _ => none)
  raw := [], sym := [], nf := [], ap := true, off := [], on := [], lp := fun _ => none, un := 3 }
set_option maxRecDepth 100000 in
set_option maxHeartbeats 400000 in
theorem C143 (a b : Int)  : CallOK Try.prog 64 [.c (.l (.o 2 2))] [(2, ⟨[li a, li b], .r 3 1 2⟩)] 3 (iv .i64 (orI a b)) [] ([] : List Nat).length := by
  refine call_ok (cx := cz_C143) (nm := []) rfl Try.func64 (body := Try.f64.body.getD .skip) rfl enters143 (by kernel_rfl) ?_
  apply of_eq (q := HB (a != 0) (Le (iv IntKind.i64 a) (iv IntKind.i64 (orI a b)) ∧ True) (IntKind.i64.wrap (0 + 1) = 0 + 1 ∧ HB (b != 0) (Le (iv IntKind.i64 b) (iv IntKind.i64 (orI a b)) ∧ True) (IntKind.i64.wrap (0 + 1 + 1) = 0 + 1 + 1 ∧ Le (iv IntKind.i64 0) (iv IntKind.i64 (orI a b)) ∧ True))) (by kernel_rfl)
  repeat' (first | exact trivial | with_reducible apply And.intro | (with_reducible apply HB.mk) | with_reducible intro _)
  all_goals first
    | (assumption)
    | (with_reducible exact Le.refl _)
    | (refine Le.int ?_; unfold orI; simp only [‹(a != 0) = _›, cond_true, cond_false]; done)
    | (refine Le.int ?_; unfold orI; simp only [‹(a != 0) = _›, ‹(b != 0) = _›, cond_true, cond_false]; done)
    | (exact okw _ (by omega) (by omega))
    | (exact Le.of rfl)
    | (exact BkR.of rfl)
    | (unfold SlOK; omega)
    | (unfold SlOK; decide)
    | (unfold inByte; decide)
    | (simp only [*, Bool.and_self, Bool.not_false, Bool.not_true]; done)
    | (simp_all [wants]; done)
def V143 (S : St) (i : Nat) : SV := match S.blk i with | some ⟨[.v (.int _ a), .v (.int _ b)], _⟩ => iv .i64 (orI a b) | _ => .u
def ordI (ax ay bx by_ : Int) : Int := orI (cmpI ay by_) (cmpI ax bx)
theorem enters109 : Enters Try.prog 39 := fun args w => by go_simp
def cz_C109 : Cz := {
  ct := (fun f => match f with
  | 64 => some fun _ _S ar => match ar with | [.c (.l (.o i _))] => some { v := V143 _S i, rd := [i], wr := [], nw := 0 } | _ => none
  | 65 => some fun _ _S ar => match ar with | [.c (.l (.v (.int _ x))), .c (.l (.v (.int _ y)))] => some { v := iv .i64 (cmpI x y), rd := [], wr := [], nw := 0 } | _ => none
  | _ => none)
  eq := (fun t => match t with
  | _ => none)
  raw := [], sym := [], nf := [], ap := true, off := [], on := [], lp := fun _ => none, un := 0 }
set_option maxRecDepth 100000 in
set_option maxHeartbeats 400000 in
theorem C109 (ax ay bx by_ : Int)  (n : Nat) : CallOK Try.prog 39 [ag [li ax, li ay], ag [li bx, li by_]] [] n (iv .i64 (ordI ax ay bx by_)) [] 0 := by
  refine CallOK.any ?_ (by kernel_rfl) (by kernel_rfl) n
  refine call_ok (cx := cz_C109) (nm := []) rfl Try.func39 (body := Try.f39.body.getD .skip) rfl enters109 (by kernel_rfl) ?_
  apply of_eq (q := CallOKd Try.prog 65 [] [iv IntKind.i64 ay, iv IntKind.i64 by_] [] 2 (iv IntKind.i64 (cmpI ay by_)) [] 0 ∧ CallOKd Try.prog 65 [] [iv IntKind.i64 ax, iv IntKind.i64 bx] [] 2 (iv IntKind.i64 (cmpI ax bx)) [] 0 ∧ CallOKd Try.prog 64 [] [SV.c (Cp.l (Leaf.o 2 2))] [(2, Blk.mk [li (cmpI ay by_), li (cmpI ax bx)] (BT.r 3 1 2))] 3 (iv IntKind.i64 (orI (cmpI ay by_) (cmpI ax bx))) [] 0 ∧ Le (iv IntKind.i64 (orI (cmpI ay by_) (cmpI ax bx))) (iv IntKind.i64 (ordI ax ay bx by_)) ∧ True) (by kernel_rfl)
  repeat' (first | exact trivial | with_reducible apply And.intro | (with_reducible apply HB.mk) | with_reducible intro _)
  all_goals first
    | (assumption)
    | (with_reducible exact Le.refl _)
    | ((exact C143 _ _))
    | (with_reducible exact C144 _ _ _)
    | (exact okw _ (by omega) (by omega))
    | (exact Le.of rfl)
    | (exact BkR.of rfl)
    | (unfold SlOK; omega)
    | (unfold SlOK; decide)
    | (unfold inByte; decide)
    | (simp only [*, Bool.and_self, Bool.not_false, Bool.not_true]; done)
    | (simp_all [wants]; done)
def inB (x y : Int) : Bool := decide (-8192 ≤ x ∧ x ≤ 8191 ∧ -8192 ≤ y ∧ y ≤ 8191)
theorem inB_eq (x y : Int) : (bif (bif (bif decide (x ≥ -8192) then decide (x ≤ 8191) else false) then decide (y ≥ -8192) else false) then decide (y ≤ 8191) else false) = inB x y := by
  unfold inB
  by_cases h1 : x ≥ -8192 <;> by_cases h2 : x ≤ 8191 <;> by_cases h3 : y ≥ -8192 <;> by_cases h4 : y ≤ 8191 <;> simp [h1, h2, h3, h4] <;> omega
theorem ord_lt {ax ay bx by_ : Int} (h : ay < by_ ∨ (ay = by_ ∧ ax < bx)) : ordI ax ay bx by_ < 0 := by
  unfold ordI orI cmpI
  rcases h with h | ⟨h1, h2⟩
  · simp [h]
  · subst h1; simp [h2]
theorem enters107 : Enters Try.prog 36 := fun args w => by go_simp
def cz_C107 : Cz := {
  ct := (fun f => match f with
  | _ => none)
  eq := (fun t => match t with
  | _ => none)
  raw := [], sym := [], nf := [], ap := true, off := [], on := [], lp := fun _ => none, un := 0 }
set_option maxRecDepth 100000 in
set_option maxHeartbeats 400000 in
theorem C107 (x y : Int)  (n : Nat) : CallOK Try.prog 36 [ag [li x, li y]] [] n (bv (inB x y)) [] 0 := by
  refine CallOK.any ?_ (by kernel_rfl) (by kernel_rfl) n
  refine call_ok (cx := cz_C107) (nm := []) rfl Try.func36 (body := Try.f36.body.getD .skip) rfl enters107 (by kernel_rfl) ?_
  apply of_eq (q := (decide (x ≥ -8192) = true → decide (x ≥ -8192) = true ∧ True) ∧ (decide (x ≥ -8192) = true → decide (x ≥ -8192) = true ∧ True) ∧ (decide (x ≥ -8192) = true → decide (x ≥ -8192) = true) ∧ ((bif decide (x ≥ -8192) then decide (x ≤ 8191) else false) = true → (bif decide (x ≥ -8192) then decide (x ≤ 8191) else false) = true ∧ True) ∧ ((bif decide (x ≥ -8192) then decide (x ≤ 8191) else false) = true → (bif decide (x ≥ -8192) then decide (x ≤ 8191) else false) = true ∧ True) ∧ ((bif decide (x ≥ -8192) then decide (x ≤ 8191) else false) = true → (bif decide (x ≥ -8192) then decide (x ≤ 8191) else false) = true) ∧ ((bif bif decide (x ≥ -8192) then decide (x ≤ 8191) else false then decide (y ≥ -8192) else false) = true → (bif bif decide (x ≥ -8192) then decide (x ≤ 8191) else false then decide (y ≥ -8192) else false) = true ∧ True) ∧ ((bif bif decide (x ≥ -8192) then decide (x ≤ 8191) else false then decide (y ≥ -8192) else false) = true → (bif bif decide (x ≥ -8192) then decide (x ≤ 8191) else false then decide (y ≥ -8192) else false) = true ∧ True) ∧ ((bif bif decide (x ≥ -8192) then decide (x ≤ 8191) else false then decide (y ≥ -8192) else false) = true → (bif bif decide (x ≥ -8192) then decide (x ≤ 8191) else false then decide (y ≥ -8192) else false) = true) ∧ Le (bv (bif bif bif decide (x ≥ -8192) then decide (x ≤ 8191) else false then decide (y ≥ -8192) else false then decide (y ≤ 8191) else false)) (bv (inB x y)) ∧ True) (by kernel_rfl)
  repeat' (first | exact trivial | with_reducible apply And.intro | (with_reducible apply HB.mk) | with_reducible intro _)
  all_goals first
    | (assumption)
    | (with_reducible exact Le.refl _)
    | (exact Le.bool (inB_eq x y))
    | (exact okw _ (by omega) (by omega))
    | (exact Le.of rfl)
    | (exact BkR.of rfl)
    | (unfold SlOK; omega)
    | (unfold SlOK; decide)
    | (unfold inByte; decide)
    | (simp only [*, Bool.and_self, Bool.not_false, Bool.not_true]; done)
    | (simp_all [wants]; done)
end Ab
end Go.Proofs.Ytpdckpifhniioaa
