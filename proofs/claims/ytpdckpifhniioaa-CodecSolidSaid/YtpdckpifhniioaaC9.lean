/- x -/
import Derived.Test.YtpdckpifhniioaaC8
set_option linter.unusedVariables false
set_option linter.unusedSimpArgs false
namespace Go.Proofs.Ytpdckpifhniioaa
open Go.RowKit
namespace Ab
def rnd (a b : Int) : Int := (2 * a + b).tdiv (2 * b)
def mch (s s3 : Int) : Int := bif rnd s3 64 == 0 then 0 else IntKind.u8.wrap (rnd s s3)
def mal (s3 : Int) : Int := bif rnd s3 64 == 0 then 0 else IntKind.u8.wrap (rnd s3 64)
theorem rnd_bd {a b : Int} (h0 : 0 ≤ a) (h1 : a ≤ 1000000000) (b0 : 0 < b) (b1 : b ≤ 1000000000) : 0 ≤ rnd a b ∧ rnd a b ≤ 2 * a + b := by
  unfold rnd
  rw [Int.tdiv_eq_ediv_of_nonneg (by omega)]
  exact ⟨Int.ediv_nonneg (by omega) (by omega), Int.ediv_le_self _ (by omega)⟩
theorem enters158 : Enters Try.prog 79 := fun args w => by go_simp
def cz_C158 : Cz := {
  ct := (fun f => match f with
  | _ => none)
  eq := (fun t => match t with
  | _ => none)
  raw := [], sym := [], nf := [], ap := true, off := [], on := [], lp := fun _ => none, un := 0 }
set_option maxRecDepth 100000 in
set_option maxHeartbeats 400000 in
theorem C158 (a b : Int) (h0 : 0 ≤ a) (h1 : a ≤ 1000000000) (b0 : 0 < b) (b1 : b ≤ 1000000000) (n : Nat) : CallOK Try.prog 79 [iv .i64 a, iv .i64 b] [] n (iv .i64 (rnd a b)) [] 0 := by
  refine CallOK.any ?_ (by kernel_rfl) (by kernel_rfl) n
  refine call_ok (cx := cz_C158) (nm := []) rfl Try.func79 (body := Try.f79.body.getD .skip) rfl enters158 (by kernel_rfl) ?_
  apply of_eq (q := IntKind.i64.wrap (2 * a) = 2 * a ∧ IntKind.i64.wrap (2 * a + b) = 2 * a + b ∧ IntKind.i64.wrap (2 * b) = 2 * b ∧ 2 * b ≠ 0 ∧ IntKind.i64.wrap ((2 * a + b).tdiv (2 * b)) = (2 * a + b).tdiv (2 * b) ∧ Le (iv IntKind.i64 ((2 * a + b).tdiv (2 * b))) (iv IntKind.i64 (rnd a b)) ∧ True) (by kernel_rfl)
  repeat' (first | exact trivial | with_reducible apply And.intro | (with_reducible apply HB.mk) | with_reducible intro _)
  all_goals first
    | (assumption)
    | (with_reducible exact Le.refl _)
    | (have := rnd_bd h0 h1 b0 b1; unfold rnd at this; exact okw _ (by omega) (by omega))
    | (omega)
    | (exact okw _ (by omega) (by omega))
    | (exact Le.of rfl)
    | (exact BkR.of rfl)
    | (unfold SlOK; omega)
    | (unfold SlOK; decide)
    | (unfold inByte; decide)
    | (simp only [*, Bool.and_self, Bool.not_false, Bool.not_true]; done)
    | (simp_all [wants]; done)
theorem mul_bd {e a : Int} (he : 0 ≤ e ∧ e < 256) (ha : 0 ≤ a ∧ a < 256) : 0 ≤ e * a ∧ e * a ≤ 65025 :=
  ⟨Int.mul_nonneg he.1 ha.1, by
    have := Int.mul_le_mul (show e ≤ 255 by omega) (show a ≤ 255 by omega) ha.1 (by omega : (0 : Int) ≤ 255)
    omega⟩
theorem u8w {a : Int} (h : 0 ≤ a ∧ a < 256) : IntKind.i64.wrap a = a := by rw [IntKind.wrap_i64]; omega
theorem u8u {a : Int} (h : 0 ≤ a ∧ a < 256) : IntKind.u8.wrap a = a := by rw [IntKind.wrap_u8]; omega
theorem enters117 : Enters Try.prog 47 := fun args w => by go_simp
def cz_C117 (a b d e : Int) : Cz := {
  ct := (fun f => match f with
  | _ => none)
  eq := (fun t => match t with
  | _ => none)
  raw := [], sym := [], nf := [(14, bv false), (16, iv .i64 1), (28, iv .i64 e), (29, iv .i64 e), (32, iv .i64 a), (35, iv .i64 b), (38, iv .i64 d)], ap := true, off := [], on := [], lp := fun _ => none, un := 5 }
set_option maxRecDepth 100000 in
set_option maxHeartbeats 400000 in
theorem C117 (s0 s1 s2 s3 c : Int) (a b d e : Int) (h0 : 0 ≤ s0 ∧ s0 ≤ 1000000000) (h1 : 0 ≤ s1 ∧ s1 ≤ 1000000000) (h2 : 0 ≤ s2 ∧ s2 ≤ 1000000000) (h3 : 0 ≤ s3 ∧ s3 ≤ 1000000000) (h4 : 0 ≤ c ∧ c ≤ 1000000000) (ha : 0 ≤ a ∧ a < 256) (hb : 0 ≤ b ∧ b < 256) (hd : 0 ≤ d ∧ d < 256) (he : 0 ≤ e ∧ e < 256) : CallOK Try.prog 47 [.c (.l (.p 0 0)), ag [u8 a, u8 b, u8 d, u8 e], iv .i64 1] [(0, ⟨[li s0, li s1, li s2, li s3, li c], .t 99⟩)] 1 (.tup []) [(0, ⟨[li (s0 + e * a), li (s1 + e * b), li (s2 + e * d), li (s3 + e * 1), li (c + 1)], .t 99⟩)] ([] : List Nat).length := by
  have pa := mul_bd he ha
  have pb := mul_bd he hb
  have pd := mul_bd he hd
  have wa := u8w ha
  have wb := u8w hb
  have wd := u8w hd
  have we := u8w he
  refine call_ok (cx := cz_C117 a b d e) (nm := []) rfl Try.func47 (body := Try.f47.body.getD .skip) rfl enters117 (by kernel_rfl) ?_
  apply of_eq (q := ((!false) = true → (!false) = true ∧ True) ∧ (false = false → (!false) = true) ∧ Le (bv (bif false then true else decide (1 < 1))) (bv false) ∧ Le (iv IntKind.i64 (imin 1 65536)) (iv IntKind.i64 1) ∧ IntKind.i64.wrap (c + 1) = c + 1 ∧ Le (iv IntKind.i64 (IntKind.i64.wrap e)) (iv IntKind.i64 e) ∧ IntKind.i64.wrap (1 * e) = 1 * e ∧ Le (iv IntKind.i64 (1 * e)) (iv IntKind.i64 e) ∧ Le (iv IntKind.i64 (IntKind.i64.wrap a)) (iv IntKind.i64 a) ∧ Le (iv IntKind.i64 (IntKind.i64.wrap b)) (iv IntKind.i64 b) ∧ Le (iv IntKind.i64 (IntKind.i64.wrap d)) (iv IntKind.i64 d) ∧ IntKind.i64.wrap (e * a) = e * a ∧ IntKind.i64.wrap (s0 + e * a) = s0 + e * a ∧ IntKind.i64.wrap (0 + 1) = 0 + 1 ∧ IntKind.i64.wrap (e * b) = e * b ∧ IntKind.i64.wrap (s1 + e * b) = s1 + e * b ∧ IntKind.i64.wrap (0 + 1 + 1) = 0 + 1 + 1 ∧ IntKind.i64.wrap (e * d) = e * d ∧ IntKind.i64.wrap (s2 + e * d) = s2 + e * d ∧ IntKind.i64.wrap (0 + 1 + 1 + 1) = 0 + 1 + 1 + 1 ∧ IntKind.i64.wrap (e * 1) = e * 1 ∧ IntKind.i64.wrap (s3 + e * 1) = s3 + e * 1 ∧ IntKind.i64.wrap (0 + 1 + 1 + 1 + 1) = 0 + 1 + 1 + 1 + 1 ∧ Le (SV.tup []) (SV.tup []) ∧ BkR (rnId 1 0 []) (Blk.mk [li (s0 + e * a), li (s1 + e * b), li (s2 + e * d), li (s3 + e * 1), li (c + 1)] (BT.t 99)) (Blk.mk [li (s0 + e * a), li (s1 + e * b), li (s2 + e * d), li (s3 + e * 1), li (c + 1)] (BT.t 99)) ∧ True) (by kernel_rfl)
  repeat' (first | exact trivial | with_reducible apply And.intro | (with_reducible apply HB.mk) | with_reducible intro _)
  all_goals first
    | (assumption)
    | (with_reducible exact Le.refl _)
    | (exact Le.of (by rw [‹IntKind.i64.wrap _ = _›]))
    | (exact Le.int wa)
    | (exact Le.int wb)
    | (exact Le.int wd)
    | (exact Le.int we)
    | (exact Le.int (Int.one_mul _))
    | (exact Le.int rfl)
    | (exact okw _ (by omega) (by omega))
    | (exact Le.of rfl)
    | (exact BkR.of rfl)
    | (unfold SlOK; omega)
    | (unfold SlOK; decide)
    | (unfold inByte; decide)
    | (simp only [*, Bool.and_self, Bool.not_false, Bool.not_true]; done)
    | (simp_all [wants]; done)
def up1 (id n : Nat) : Nat → Nat
  | 0 => id
  | k + 1 => n + k
/-- A contract at block 0 with one name known, at any block. -/
theorem CallOK.at1 {P : Program} {f : Nat} {args : List SV} {k : Blk} {v : SV} {wr : List (Nat × Blk)} {nw : Nat} (h : CallOK P f args [(0, k)] 1 v wr nw) (id n : Nat) (hi : id < n) :
    CallOK P f (args.map (SV.ren (up1 id n))) [(id, k.ren (up1 id n))] n (v.ren (up1 id n)) (wr.map fun p => (up1 id n p.1, p.2.ren (up1 id n))) nw :=
  CallOK.ren h (up1 id n) n (fun i hi' => by
    have : i = 0 := by omega
    subst this; exact hi) (fun i hi' => by
    cases i with
    | zero => omega
    | succ k => show n + k = n + (k + 1 - 1); omega) (fun i j h1 h2 _ => by omega)
theorem C117g (s0 s1 s2 s3 c : Int) (a b d e : Int) (h0 : 0 ≤ s0 ∧ s0 ≤ 1000000000) (h1 : 0 ≤ s1 ∧ s1 ≤ 1000000000) (h2 : 0 ≤ s2 ∧ s2 ≤ 1000000000) (h3 : 0 ≤ s3 ∧ s3 ≤ 1000000000) (h4 : 0 ≤ c ∧ c ≤ 1000000000) (ha : 0 ≤ a ∧ a < 256) (hb : 0 ≤ b ∧ b < 256) (hd : 0 ≤ d ∧ d < 256) (he : 0 ≤ e ∧ e < 256) (id n : Nat) (hi : id < n) : CallOK Try.prog 47 [.c (.l (.p id 0)), ag [u8 a, u8 b, u8 d, u8 e], iv .i64 1] [(id, ⟨[li s0, li s1, li s2, li s3, li c], .t 99⟩)] n (.tup []) [(id, ⟨[li (s0 + e * a), li (s1 + e * b), li (s2 + e * d), li (s3 + e * 1), li (c + 1)], .t 99⟩)] 0 :=
  CallOK.at1 (C117 s0 s1 s2 s3 c a b d e h0 h1 h2 h3 h4 ha hb hd he) id n hi
end Ab
end Go.Proofs.Ytpdckpifhniioaa
