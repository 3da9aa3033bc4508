/- Contracts of the reference's functions. -/
import Derived.Test.YtmfmnoajihiidaaX
import Derived.Test.YtmfmnoajihiidaaK
set_option linter.unusedVariables false
set_option linter.unusedSimpArgs false
namespace Go.Proofs.Ytmfmnoajihiidaa
open Go.RowKit
namespace Ab
theorem okw (n : Int) (h0 : -9223372036854775808 ≤ n) (h1 : n ≤ 9223372036854775807) : IntKind.i64.wrap n = n := w64 n h0 h1
theorem wi_eq (x m : Int) : (bif decide (x ≥ 0 - m) then decide (x ≤ m) else false) = Af.wi m x := by
  unfold Af.wi
  by_cases h : x ≥ 0 - m <;> by_cases k : x ≤ m <;> simp [h, k] <;> omega
theorem enters61 : Enters Try.prog 61 := fun args w => by go_simp
def cz_C61 : Cz := {
  ct := (fun f => match f with
  | _ => none)
  eq := (fun t => match t with
  | _ => none)
  raw := [], sym := [], nf := [], off := [], on := [], lp := fun _ => none, un := 0 }
set_option maxRecDepth 100000 in
theorem C61 (x m : Int) (h : -4000000000 ≤ m ∧ m ≤ 4000000000) (n : Nat) : CallOK Try.prog 61 [iv .i64 x, iv .i64 m] [] n (bv (Af.wi m x)) [] 0 := by
  refine CallOK.any ?_ rfl rfl n
  refine call_ok (cx := cz_C61) (nm := []) rfl Try.func61 (body := Try.f61.body.getD .skip) rfl enters61 (by kernel_rfl) ?_
  refine of_eq (q := IntKind.i64.wrap (0 - m) = 0 - m ∧ (decide (x ≥ 0 - m) = true → decide (x ≥ 0 - m) = true ∧ decide (x ≥ 0 - m) = true ∧ True) ∧ (decide (x ≥ 0 - m) = true → decide (x ≥ 0 - m) = true) ∧ Le (bv (bif decide (x ≥ 0 - m) then decide (x ≤ m) else false)) (bv (Af.wi m x)) ∧ True) (by kernel_rfl) ?_
  repeat' (first | exact trivial | with_reducible apply And.intro | (with_reducible apply HB.mk) | with_reducible intro _)
  all_goals first
    | (assumption)
    | (with_reducible exact Le.refl _)
    | (exact Le.bool (wi_eq x m))
    | (exact okw _ (by omega) (by omega))
    | (exact Le.of rfl)
    | (simp only [*, Bool.and_self, Bool.not_false, Bool.not_true]; done)
    | (simp_all [wants]; done)
def detw (a : Af) : Int := IntKind.i64.wrap (IntKind.i64.wrap (a.A * a.E) - IntKind.i64.wrap (a.B * a.D))
theorem detw_eq (a : Af) (hA : -4096 ≤ a.A ∧ a.A ≤ 4096) (hB : -4096 ≤ a.B ∧ a.B ≤ 4096) (hD : -4096 ≤ a.D ∧ a.D ≤ 4096) (hE : -4096 ≤ a.E ∧ a.E ≤ 4096) : detw a = a.det := by
  have k1 := Af.mul_bd hA hE
  have k2 := Af.mul_bd hB hD
  unfold detw Af.det
  rw [okw (a.A * a.E) (by omega) (by omega), okw (a.B * a.D) (by omega) (by omega), okw _ (by omega) (by omega)]
theorem enters20 : Enters Try.prog 20 := fun args w => by go_simp
def cz_C20 : Cz := {
  ct := (fun f => match f with
  | 61 => some fun _S ar => match ar with | [.c (.l (.v (.int _ x))), .c (.l (.v (.int _ m)))] => some { v := bv (Af.wi m x), rd := [], wr := [], nw := 0 } | _ => none
  | _ => none)
  eq := (fun t => match t with
  | _ => none)
  raw := [7, 12, 13], sym := [], nf := [], off := [], on := [], lp := fun _ => none, un := 0 }
set_option maxRecDepth 100000 in
theorem C20 (a : Af)  (n : Nat) : CallOK Try.prog 20 [ag [li a.A, li a.B, li a.C, li a.D, li a.E, li a.F, li a.N]] [] n (iv .i64 (detw a)) [] 0 := by
  refine CallOK.any ?_ rfl rfl n
  refine call_ok (cx := cz_C20) (nm := []) rfl Try.func20 (body := Try.f20.body.getD .skip) rfl enters20 (by kernel_rfl) ?_
  refine of_eq (q := Le (iv IntKind.i64 (IntKind.i64.wrap (IntKind.i64.wrap (a.A * a.E) - IntKind.i64.wrap (a.B * a.D)))) (iv IntKind.i64 (detw a)) ∧ True) (by kernel_rfl) ?_
  repeat' (first | exact trivial | with_reducible apply And.intro | (with_reducible apply HB.mk) | with_reducible intro _)
  all_goals first
    | (assumption)
    | (with_reducible exact Le.refl _)
    | (exact okw _ (by omega) (by omega))
    | (exact Le.of rfl)
    | (simp only [*, Bool.and_self, Bool.not_false, Bool.not_true]; done)
    | (simp_all [wants]; done)
theorem val30 (a : Af) {w1 w2 : Bool} (h1 : w1 = (bif (bif (bif Af.wi 4096 a.A then Af.wi 4096 a.B else false) then Af.wi 4096 a.D else false) then Af.wi 4096 a.E else false)) (h2 : w2 = (bif Af.wi 268435456 a.C then Af.wi 268435456 a.F else false)) :
    (bif (bif (bif (bif decide (a.N ≥ 1) then decide (a.N ≤ 4096) else false) then w1 else false) then w2 else false) then (detw a != 0) else false) = a.val := by
  have hd : w1 = true → detw a = a.det := by
    intro h
    rw [h1] at h
    have : Af.wi 4096 a.A = true ∧ Af.wi 4096 a.B = true ∧ Af.wi 4096 a.D = true ∧ Af.wi 4096 a.E = true := by
      cases x1 : Af.wi 4096 a.A <;> cases x2 : Af.wi 4096 a.B <;> cases x3 : Af.wi 4096 a.D <;> cases x4 : Af.wi 4096 a.E <;> simp_all
    obtain ⟨y1, y2, y3, y4⟩ := this
    unfold Af.wi at y1 y2 y3 y4
    simp only [decide_eq_true_eq] at y1 y2 y3 y4
    exact detw_eq a y1 y2 y3 y4
  have hN : (bif decide (a.N ≥ 1) then decide (a.N ≤ 4096) else false) = (decide (1 ≤ a.N) && Af.wi 4096 a.N) := by
    unfold Af.wi
    by_cases k : 1 ≤ a.N <;> by_cases k2 : a.N ≤ 4096 <;> simp [k, k2]
    omega
  rw [hN]
  unfold Af.val
  cases hw : w1 with
  | true =>
    rw [hd hw]
    rw [hw] at h1
    have : Af.wi 4096 a.A = true ∧ Af.wi 4096 a.B = true ∧ Af.wi 4096 a.D = true ∧ Af.wi 4096 a.E = true := by
      cases x1 : Af.wi 4096 a.A <;> cases x2 : Af.wi 4096 a.B <;> cases x3 : Af.wi 4096 a.D <;> cases x4 : Af.wi 4096 a.E <;> simp_all
    obtain ⟨y1, y2, y3, y4⟩ := this
    rw [y1, y2, y3, y4, h2]
    have hb : (a.det != 0) = decide (a.det ≠ 0) := by by_cases h : a.det = 0 <;> simp [h]
    rw [hb]
    cases decide (1 ≤ a.N) <;> cases Af.wi 4096 a.N <;> cases Af.wi 268435456 a.C <;> cases Af.wi 268435456 a.F <;> cases decide (a.det ≠ 0) <;> rfl
  | false =>
    rw [hw] at h1
    cases decide (1 ≤ a.N) <;> cases Af.wi 4096 a.N <;> cases x1 : Af.wi 4096 a.A <;> cases x2 : Af.wi 4096 a.B <;> cases x3 : Af.wi 4096 a.D <;> cases x4 : Af.wi 4096 a.E <;> simp_all
theorem enters30 : Enters Try.prog 30 := fun args w => by go_simp
def cz_C30 : Cz := {
  ct := (fun f => match f with
  | 20 => some fun _S ar => match ar with | [.c (.agg [.v (.int _ aA), .v (.int _ aB), .v (.int _ aC), .v (.int _ aD), .v (.int _ aE), .v (.int _ aF), .v (.int _ aN)])] => some { v := iv .i64 (detw ⟨aA, aB, aC, aD, aE, aF, aN⟩), rd := [], wr := [], nw := 0 } | _ => none
  | 61 => some fun _S ar => match ar with | [.c (.l (.v (.int _ x))), .c (.l (.v (.int _ m)))] => some { v := bv (Af.wi m x), rd := [], wr := [], nw := 0 } | _ => none
  | _ => none)
  eq := (fun t => match t with
  | _ => none)
  raw := [], sym := [], nf := [], off := [], on := [], lp := fun _ => none, un := 0 }
set_option maxRecDepth 100000 in
theorem C30 (a : Af)  (n : Nat) : CallOK Try.prog 30 [ag [li a.A, li a.B, li a.C, li a.D, li a.E, li a.F, li a.N]] [] n (bv a.val) [] 0 := by
  refine CallOK.any ?_ rfl rfl n
  refine call_ok (cx := cz_C30) (nm := []) rfl Try.func30 (body := Try.f30.body.getD .skip) rfl enters30 (by kernel_rfl) ?_
  refine of_eq (q := CallOK Try.prog 61 [iv IntKind.i64 a.A, iv IntKind.i64 4096] [] 1 (bv (Af.wi 4096 a.A)) [] 0 ∧ (Af.wi 4096 a.A = true → Af.wi 4096 a.A = true ∧ True) ∧ (Af.wi 4096 a.A = true → Af.wi 4096 a.A = true ∧ CallOK Try.prog 61 [iv IntKind.i64 a.B, iv IntKind.i64 4096] [] 1 (bv (Af.wi 4096 a.B)) [] 0 ∧ True) ∧ (Af.wi 4096 a.A = true → Af.wi 4096 a.A = true) ∧ ((bif Af.wi 4096 a.A then Af.wi 4096 a.B else false) = true → (bif Af.wi 4096 a.A then Af.wi 4096 a.B else false) = true ∧ True) ∧ ((bif Af.wi 4096 a.A then Af.wi 4096 a.B else false) = true → (bif Af.wi 4096 a.A then Af.wi 4096 a.B else false) = true ∧ CallOK Try.prog 61 [iv IntKind.i64 a.D, iv IntKind.i64 4096] [] 1 (bv (Af.wi 4096 a.D)) [] 0 ∧ True) ∧ ((bif Af.wi 4096 a.A then Af.wi 4096 a.B else false) = true → (bif Af.wi 4096 a.A then Af.wi 4096 a.B else false) = true) ∧ ((bif bif Af.wi 4096 a.A then Af.wi 4096 a.B else false then Af.wi 4096 a.D else false) = true → (bif bif Af.wi 4096 a.A then Af.wi 4096 a.B else false then Af.wi 4096 a.D else false) = true ∧ True) ∧ ((bif bif Af.wi 4096 a.A then Af.wi 4096 a.B else false then Af.wi 4096 a.D else false) = true → (bif bif Af.wi 4096 a.A then Af.wi 4096 a.B else false then Af.wi 4096 a.D else false) = true ∧ CallOK Try.prog 61 [iv IntKind.i64 a.E, iv IntKind.i64 4096] [] 1 (bv (Af.wi 4096 a.E)) [] 0 ∧ True) ∧ ((bif bif Af.wi 4096 a.A then Af.wi 4096 a.B else false then Af.wi 4096 a.D else false) = true → (bif bif Af.wi 4096 a.A then Af.wi 4096 a.B else false then Af.wi 4096 a.D else false) = true) ∧ CallOK Try.prog 61 [iv IntKind.i64 a.C, iv IntKind.i64 268435456] [] 1 (bv (Af.wi 268435456 a.C)) [] 0 ∧ (Af.wi 268435456 a.C = true → Af.wi 268435456 a.C = true ∧ True) ∧ (Af.wi 268435456 a.C = true → Af.wi 268435456 a.C = true ∧ CallOK Try.prog 61 [iv IntKind.i64 a.F, iv IntKind.i64 268435456] [] 1 (bv (Af.wi 268435456 a.F)) [] 0 ∧ True) ∧ (Af.wi 268435456 a.C = true → Af.wi 268435456 a.C = true) ∧ (decide (a.N ≥ 1) = true → decide (a.N ≥ 1) = true ∧ True) ∧ (decide (a.N ≥ 1) = true → decide (a.N ≥ 1) = true ∧ True) ∧ (decide (a.N ≥ 1) = true → decide (a.N ≥ 1) = true) ∧ ((bif decide (a.N ≥ 1) then decide (a.N ≤ 4096) else false) = true → (bif decide (a.N ≥ 1) then decide (a.N ≤ 4096) else false) = true) ∧ ((bif bif decide (a.N ≥ 1) then decide (a.N ≤ 4096) else false then bif bif bif Af.wi 4096 a.A then Af.wi 4096 a.B else false then Af.wi 4096 a.D else false then Af.wi 4096 a.E else false else false) = true → (bif bif decide (a.N ≥ 1) then decide (a.N ≤ 4096) else false then bif bif bif Af.wi 4096 a.A then Af.wi 4096 a.B else false then Af.wi 4096 a.D else false then Af.wi 4096 a.E else false else false) = true) ∧ ((bif bif bif decide (a.N ≥ 1) then decide (a.N ≤ 4096) else false then bif bif bif Af.wi 4096 a.A then Af.wi 4096 a.B else false then Af.wi 4096 a.D else false then Af.wi 4096 a.E else false else false then bif Af.wi 268435456 a.C then Af.wi 268435456 a.F else false else false) = true → (bif bif bif decide (a.N ≥ 1) then decide (a.N ≤ 4096) else false then bif bif bif Af.wi 4096 a.A then Af.wi 4096 a.B else false then Af.wi 4096 a.D else false then Af.wi 4096 a.E else false else false then bif Af.wi 268435456 a.C then Af.wi 268435456 a.F else false else false) = true ∧ CallOK Try.prog 20 [ag [li a.A, li a.B, li a.C, li a.D, li a.E, li a.F, li a.N]] [] 1 (iv IntKind.i64 (detw a)) [] 0 ∧ True) ∧ ((bif bif bif decide (a.N ≥ 1) then decide (a.N ≤ 4096) else false then bif bif bif Af.wi 4096 a.A then Af.wi 4096 a.B else false then Af.wi 4096 a.D else false then Af.wi 4096 a.E else false else false then bif Af.wi 268435456 a.C then Af.wi 268435456 a.F else false else false) = true → (bif bif bif decide (a.N ≥ 1) then decide (a.N ≤ 4096) else false then bif bif bif Af.wi 4096 a.A then Af.wi 4096 a.B else false then Af.wi 4096 a.D else false then Af.wi 4096 a.E else false else false then bif Af.wi 268435456 a.C then Af.wi 268435456 a.F else false else false) = true ∧ True) ∧ ((bif bif bif decide (a.N ≥ 1) then decide (a.N ≤ 4096) else false then bif bif bif Af.wi 4096 a.A then Af.wi 4096 a.B else false then Af.wi 4096 a.D else false then Af.wi 4096 a.E else false else false then bif Af.wi 268435456 a.C then Af.wi 268435456 a.F else false else false) = true → (bif bif bif decide (a.N ≥ 1) then decide (a.N ≤ 4096) else false then bif bif bif Af.wi 4096 a.A then Af.wi 4096 a.B else false then Af.wi 4096 a.D else false then Af.wi 4096 a.E else false else false then bif Af.wi 268435456 a.C then Af.wi 268435456 a.F else false else false) = true) ∧ Le (bv (bif bif bif bif decide (a.N ≥ 1) then decide (a.N ≤ 4096) else false then bif bif bif Af.wi 4096 a.A then Af.wi 4096 a.B else false then Af.wi 4096 a.D else false then Af.wi 4096 a.E else false else false then bif Af.wi 268435456 a.C then Af.wi 268435456 a.F else false else false then detw a != 0 else false)) (bv a.val) ∧ True) (by kernel_rfl) ?_
  repeat' (first | exact trivial | with_reducible apply And.intro | (with_reducible apply HB.mk) | with_reducible intro _)
  all_goals first
    | (assumption)
    | (with_reducible exact Le.refl _)
    | (with_reducible exact C20 _ _)
    | ((with_reducible refine C61 _ _ ?_ _); omega)
    | (exact Le.bool (val30 a rfl rfl))
    | (exact okw _ (by omega) (by omega))
    | (exact Le.of rfl)
    | (simp only [*, Bool.and_self, Bool.not_false, Bool.not_true]; done)
    | (simp_all [wants]; done)
theorem enters34 : Enters Try.prog 34 := fun args w => by go_simp
def cz_C34 : Cz := {
  ct := (fun f => match f with
  | 20 => some fun _S ar => match ar with | [.c (.agg [.v (.int _ aA), .v (.int _ aB), .v (.int _ aC), .v (.int _ aD), .v (.int _ aE), .v (.int _ aF), .v (.int _ aN)])] => some { v := iv .i64 (detw ⟨aA, aB, aC, aD, aE, aF, aN⟩), rd := [], wr := [], nw := 0 } | _ => none
  | 30 => some fun _S ar => match ar with | [.c (.agg [.v (.int _ aA), .v (.int _ aB), .v (.int _ aC), .v (.int _ aD), .v (.int _ aE), .v (.int _ aF), .v (.int _ aN)])] => some { v := bv (Af.val ⟨aA, aB, aC, aD, aE, aF, aN⟩), rd := [], wr := [], nw := 0 } | _ => none
  | 61 => some fun _S ar => match ar with | [.c (.l (.v (.int _ x))), .c (.l (.v (.int _ m)))] => some { v := bv (Af.wi m x), rd := [], wr := [], nw := 0 } | _ => none
  | _ => none)
  eq := (fun t => match t with
  | _ => none)
  raw := [], sym := [], nf := [], off := [], on := [], lp := fun _ => none, un := 0 }
set_option maxRecDepth 100000 in
theorem C34 (x y : Int)  (n : Nat) : CallOK Try.prog 34 [iv .i64 x, iv .i64 y] [] n (ag [li 1, li 0, li x, li 0, li 1, li y, li 1]) [] 0 := by
  refine CallOK.any ?_ rfl rfl n
  refine call_ok (cx := cz_C34) (nm := []) rfl Try.func34 (body := Try.f34.body.getD .skip) rfl enters34 (by kernel_rfl) ?_
  refine of_eq (q := Le (ag [li 1, li 0, li x, li 0, li 1, li y, li 1]) (ag [li 1, li 0, li x, li 0, li 1, li y, li 1]) ∧ True) (by kernel_rfl) ?_
  repeat' (first | exact trivial | with_reducible apply And.intro | (with_reducible apply HB.mk) | with_reducible intro _)
  all_goals first
    | (assumption)
    | (with_reducible exact Le.refl _)
    | (exact okw _ (by omega) (by omega))
    | (exact Le.of rfl)
    | (simp only [*, Bool.and_self, Bool.not_false, Bool.not_true]; done)
    | (simp_all [wants]; done)
def I76 (a b : Int) : St := ⟨[(0, iv .i64 a), (1, iv .i64 b)], [], 0, 22, []⟩
def cz_R76 : Cz := {
  ct := (fun f => match f with
  | 20 => some fun _S ar => match ar with | [.c (.agg [.v (.int _ aA), .v (.int _ aB), .v (.int _ aC), .v (.int _ aD), .v (.int _ aE), .v (.int _ aF), .v (.int _ aN)])] => some { v := iv .i64 (detw ⟨aA, aB, aC, aD, aE, aF, aN⟩), rd := [], wr := [], nw := 0 } | _ => none
  | 30 => some fun _S ar => match ar with | [.c (.agg [.v (.int _ aA), .v (.int _ aB), .v (.int _ aC), .v (.int _ aD), .v (.int _ aE), .v (.int _ aF), .v (.int _ aN)])] => some { v := bv (Af.val ⟨aA, aB, aC, aD, aE, aF, aN⟩), rd := [], wr := [], nw := 0 } | _ => none
  | 34 => some fun _S ar => match ar with | [.c (.l (.v (.int _ x))), .c (.l (.v (.int _ y)))] => some { v := ag [li 1, li 0, li x, li 0, li 1, li y, li 1], rd := [], wr := [], nw := 0 } | _ => none
  | 61 => some fun _S ar => match ar with | [.c (.l (.v (.int _ x))), .c (.l (.v (.int _ m)))] => some { v := bv (Af.wi m x), rd := [], wr := [], nw := 0 } | _ => none
  | _ => none)
  eq := (fun t => match t with
  | _ => none)
  raw := [], sym := [], nf := [], off := [], on := [], lp := fun _ => none, un := 0 }
set_option maxRecDepth 100000 in
theorem R76 (a b : Int)  (K : Exit → St → Prop) (h : HB (b != 0) (b ≠ 0 ∧ RoundTo Try.prog ((getLoop 3 (Try.f76.body.getD Code.skip)).getD Code.skip) 0 (wkK 0 K) (St.mk [(1, iv IntKind.i64 (a.tmod b)), (20, iv IntKind.i64 (a.tmod b)), (0, iv IntKind.i64 b), (19, iv IntKind.i64 b), (5, iv IntKind.i64 (a.tmod b)), (18, iv IntKind.i64 (a.tmod b)), (17, iv IntKind.i64 b), (16, iv IntKind.i64 a), (15, bv (b != 0)), (14, iv IntKind.i64 b), (0, iv IntKind.i64 a), (1, iv IntKind.i64 b)] [] 0 22 [])) (wkK 0 K (Exit.exit 0) (St.mk [(15, bv (b != 0)), (14, iv IntKind.i64 b), (0, iv IntKind.i64 a), (1, iv IntKind.i64 b)] [] 0 22 []))) : WPL Try.prog ((getLoop 3 (Try.f76.body.getD .skip)).getD .skip) (I76 a b) (wkK 0 K) :=
  wp_round (cx := cz_R76) rfl (of_eq (by kernel_rfl) h)
theorem L76 : ∀ (m : Nat) (a b : Int), b.toNat < m → 0 ≤ a → 0 ≤ b → ∀ (K : Exit → St → Prop), K (.exit 0) (I76 (Nat.gcd a.natAbs b.natAbs : Nat) 0) → WPL Try.prog ((getLoop 3 (Try.f76.body.getD .skip)).getD .skip) (I76 a b) (wkK 0 K)
  | 0, a, b, h, _, _, _, _ => absurd h (Nat.not_lt_zero _)
  | m + 1, a, b, h, ha, hb, K, hK => by
    refine R76 a b K (HB.mk (fun hne => ?_) (fun he => ?_))
    · have hb0 : b ≠ 0 := by simpa using hne
      have h1 : 0 ≤ a.tmod b := Int.tmod_nonneg b ha
      have h2 : a.tmod b < b := Int.tmod_lt_of_pos a (by omega)
      refine ⟨hb0, RoundTo.to (I76 b (a.tmod b)) (Nat.le_refl _) (by kernel_rfl) (wkE_cons (LeN.sl_int rfl rfl) (wkE_cons (LeN.sl_int rfl rfl) trivial)) trivial ?_⟩
      refine L76 m b (a.tmod b) (by omega) hb h1 K ?_
      have hg : Nat.gcd b.natAbs (a.tmod b).natAbs = Nat.gcd a.natAbs b.natAbs := by
        rw [Int.natAbs_tmod, Nat.gcd_comm b.natAbs, ← Nat.gcd_rec, Nat.gcd_comm]
      rw [hg]; exact hK
    · have hb0 : b = 0 := by simpa using he
      subst hb0
      refine wkK.to (I76 (Nat.gcd a.natAbs (0 : Int).natAbs : Nat) 0) (Nat.le_refl _) (by kernel_rfl) (wkE_cons (LeN.sl_int rfl (by simp; omega)) (wkE_cons (LeN.sl_int rfl rfl) trivial)) trivial hK
theorem imax_abs (a : Int) : imax a (0 - a) = (a.natAbs : Int) := by unfold imax; split <;> omega
theorem enters76 : Enters Try.prog 76 := fun args w => by go_simp
def cz_C76 (a b : Int) : Cz := {
  ct := (fun f => match f with
  | 20 => some fun _S ar => match ar with | [.c (.agg [.v (.int _ aA), .v (.int _ aB), .v (.int _ aC), .v (.int _ aD), .v (.int _ aE), .v (.int _ aF), .v (.int _ aN)])] => some { v := iv .i64 (detw ⟨aA, aB, aC, aD, aE, aF, aN⟩), rd := [], wr := [], nw := 0 } | _ => none
  | 30 => some fun _S ar => match ar with | [.c (.agg [.v (.int _ aA), .v (.int _ aB), .v (.int _ aC), .v (.int _ aD), .v (.int _ aE), .v (.int _ aF), .v (.int _ aN)])] => some { v := bv (Af.val ⟨aA, aB, aC, aD, aE, aF, aN⟩), rd := [], wr := [], nw := 0 } | _ => none
  | 34 => some fun _S ar => match ar with | [.c (.l (.v (.int _ x))), .c (.l (.v (.int _ y)))] => some { v := ag [li 1, li 0, li x, li 0, li 1, li y, li 1], rd := [], wr := [], nw := 0 } | _ => none
  | 61 => some fun _S ar => match ar with | [.c (.l (.v (.int _ x))), .c (.l (.v (.int _ m)))] => some { v := bv (Af.wi m x), rd := [], wr := [], nw := 0 } | _ => none
  | _ => none)
  eq := (fun t => match t with
  | _ => none)
  raw := [], sym := [], nf := [], off := [], on := [], lp := fun r => match r with | 3 => some (fun _ K => K (.exit 0) (I76 (Nat.gcd a.natAbs b.natAbs : Nat) 0)) | _ => none, un := 0 }
set_option maxRecDepth 100000 in
theorem C76 (a b : Int) (ha : -1000000000000000000 ≤ a ∧ a ≤ 1000000000000000000) (hb : -1000000000000000000 ≤ b ∧ b ≤ 1000000000000000000) (n : Nat) : CallOK Try.prog 76 [iv .i64 a, iv .i64 b] [] n (iv .i64 (Nat.gcd a.natAbs b.natAbs : Nat)) [] 0 := by
  refine CallOK.any ?_ rfl rfl n
  refine call_ok (cx := cz_C76 a b) (nm := []) rfl Try.func76 (body := Try.f76.body.getD .skip) rfl enters76 (by kernel_rfl) ?_
  refine of_eq (q := IntKind.i64.wrap (0 - a) = 0 - a ∧ IntKind.i64.wrap (0 - b) = 0 - b ∧ (LoopOK Try.prog ((getLoop 3 (Try.f76.body.getD .skip)).getD .skip) (St.mk [(1, iv IntKind.i64 (imax b (0 - b))), (13, iv IntKind.i64 (imax b (0 - b))), (12, iv IntKind.i64 (0 - b)), (11, iv IntKind.i64 b), (10, iv IntKind.i64 b), (0, iv IntKind.i64 (imax a (0 - a))), (9, iv IntKind.i64 (imax a (0 - a))), (8, iv IntKind.i64 (0 - a)), (7, iv IntKind.i64 a), (6, iv IntKind.i64 a), (4, iv IntKind.i64 0), (0, iv IntKind.i64 a), (1, iv IntKind.i64 b)] [] 0 22 []) fun K => K (Exit.exit 0) (I76 (↑(a.natAbs.gcd b.natAbs)) 0)) ∧ Le (iv IntKind.i64 ↑(a.natAbs.gcd b.natAbs)) (iv IntKind.i64 ↑(a.natAbs.gcd b.natAbs)) ∧ True) (by kernel_rfl) ?_
  repeat' (first | exact trivial | with_reducible apply And.intro | (with_reducible apply HB.mk) | with_reducible intro _)
  all_goals first
    | (assumption)
    | (with_reducible exact Le.refl _)
    | (refine LoopOK.mk (I76 (imax a (0 - a)) (imax b (0 - b))) rfl (by kernel_rfl) (wkE_cons (LeN.sl_int rfl rfl) (wkE_cons (LeN.sl_int rfl rfl) trivial)) trivial (fun K hT => L76 _ _ _ (Nat.lt_succ_self _) (by rw [imax_abs]; omega) (by rw [imax_abs]; omega) K ?_); rw [imax_abs, imax_abs, Int.natAbs_natCast, Int.natAbs_natCast]; exact hT)
    | (exact okw _ (by omega) (by omega))
    | (exact Le.of rfl)
    | (simp only [*, Bool.and_self, Bool.not_false, Bool.not_true]; done)
    | (simp_all [wants]; done)
end Ab
end Go.Proofs.Ytmfmnoajihiidaa
