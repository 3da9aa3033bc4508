/- x -/
import Derived.Test.YtpdckpifhniioaaC9
set_option linter.unusedVariables false
set_option linter.unusedSimpArgs false
namespace Go.Proofs.Ytpdckpifhniioaa
open Go.RowKit
namespace Ab
theorem enters159 : Enters Try.prog 80 := fun args w => by go_simp
def cz_C159_0 : Cz := {
  ct := (fun f => match f with
  | 79 => some fun _ _S ar => match ar with | [.c (.l (.v (.int _ a))), .c (.l (.v (.int _ b)))] => some { v := iv .i64 (rnd a b), rd := [], wr := [], nw := 0 } | _ => none
  | _ => none)
  eq := (fun t => match t with
  | _ => none)
  raw := [], sym := [], nf := [], ap := true, off := [], on := [], lp := fun _ => none, un := 0 }
set_option maxRecDepth 100000 in
set_option maxHeartbeats 400000 in
theorem C159_0 (s0 s1 s2 s3 : Int) (h0 : 0 ≤ s0 ∧ s0 ≤ 10000000) (h1 : 0 ≤ s1 ∧ s1 ≤ 10000000) (h2 : 0 ≤ s2 ∧ s2 ≤ 10000000) (h3 : 0 ≤ s3 ∧ s3 ≤ 10000000) (hp : 0 < s3) : CallOK Try.prog 80 [iv .i64 0, .c (.l (.p 1 0))] [(1, ⟨[.p 0 0], .t 138⟩), (0, ⟨[li s0, li s1, li s2, li s3, li 64], .t 99⟩)] 3 (iv .u8 (IntKind.u8.wrap (rnd s0 s3))) [] 0 := by
  refine call_ok (cx := cz_C159_0) (nm := []) rfl Try.func80 (body := Try.f80.body.getD .skip) rfl enters159 (by kernel_rfl) ?_
  apply of_eq (q := CallOKd Try.prog 79 [] [iv IntKind.i64 s0, iv IntKind.i64 s3] [] 3 (iv IntKind.i64 (rnd s0 s3)) [] 0 ∧ Le (iv IntKind.u8 (IntKind.u8.wrap (rnd s0 s3))) (iv IntKind.u8 (IntKind.u8.wrap (rnd s0 s3))) ∧ True) (by kernel_rfl)
  repeat' (first | exact trivial | with_reducible apply And.intro | (with_reducible apply HB.mk) | with_reducible intro _)
  all_goals first
    | (assumption)
    | (with_reducible exact Le.refl _)
    | ((with_reducible refine C158 _ _ ?_ ?_ ?_ ?_ _) <;> omega)
    | (exact okw _ (by omega) (by omega))
    | (exact Le.of rfl)
    | (exact BkR.of rfl)
    | (unfold SlOK; omega)
    | (unfold SlOK; decide)
    | (unfold inByte; decide)
    | (simp only [*, Bool.and_self, Bool.not_false, Bool.not_true]; done)
    | (simp_all [wants]; done)
def cz_C159_1 : Cz := {
  ct := (fun f => match f with
  | 79 => some fun _ _S ar => match ar with | [.c (.l (.v (.int _ a))), .c (.l (.v (.int _ b)))] => some { v := iv .i64 (rnd a b), rd := [], wr := [], nw := 0 } | _ => none
  | _ => none)
  eq := (fun t => match t with
  | _ => none)
  raw := [], sym := [], nf := [], ap := true, off := [], on := [], lp := fun _ => none, un := 0 }
set_option maxRecDepth 100000 in
set_option maxHeartbeats 400000 in
theorem C159_1 (s0 s1 s2 s3 : Int) (h0 : 0 ≤ s0 ∧ s0 ≤ 10000000) (h1 : 0 ≤ s1 ∧ s1 ≤ 10000000) (h2 : 0 ≤ s2 ∧ s2 ≤ 10000000) (h3 : 0 ≤ s3 ∧ s3 ≤ 10000000) (hp : 0 < s3) : CallOK Try.prog 80 [iv .i64 1, .c (.l (.p 1 0))] [(1, ⟨[.p 0 0], .t 138⟩), (0, ⟨[li s0, li s1, li s2, li s3, li 64], .t 99⟩)] 3 (iv .u8 (IntKind.u8.wrap (rnd s1 s3))) [] 0 := by
  refine call_ok (cx := cz_C159_1) (nm := []) rfl Try.func80 (body := Try.f80.body.getD .skip) rfl enters159 (by kernel_rfl) ?_
  apply of_eq (q := CallOKd Try.prog 79 [] [iv IntKind.i64 s1, iv IntKind.i64 s3] [] 3 (iv IntKind.i64 (rnd s1 s3)) [] 0 ∧ Le (iv IntKind.u8 (IntKind.u8.wrap (rnd s1 s3))) (iv IntKind.u8 (IntKind.u8.wrap (rnd s1 s3))) ∧ True) (by kernel_rfl)
  repeat' (first | exact trivial | with_reducible apply And.intro | (with_reducible apply HB.mk) | with_reducible intro _)
  all_goals first
    | (assumption)
    | (with_reducible exact Le.refl _)
    | ((with_reducible refine C158 _ _ ?_ ?_ ?_ ?_ _) <;> omega)
    | (exact okw _ (by omega) (by omega))
    | (exact Le.of rfl)
    | (exact BkR.of rfl)
    | (unfold SlOK; omega)
    | (unfold SlOK; decide)
    | (unfold inByte; decide)
    | (simp only [*, Bool.and_self, Bool.not_false, Bool.not_true]; done)
    | (simp_all [wants]; done)
def cz_C159_2 : Cz := {
  ct := (fun f => match f with
  | 79 => some fun _ _S ar => match ar with | [.c (.l (.v (.int _ a))), .c (.l (.v (.int _ b)))] => some { v := iv .i64 (rnd a b), rd := [], wr := [], nw := 0 } | _ => none
  | _ => none)
  eq := (fun t => match t with
  | _ => none)
  raw := [], sym := [], nf := [], ap := true, off := [], on := [], lp := fun _ => none, un := 0 }
set_option maxRecDepth 100000 in
set_option maxHeartbeats 400000 in
theorem C159_2 (s0 s1 s2 s3 : Int) (h0 : 0 ≤ s0 ∧ s0 ≤ 10000000) (h1 : 0 ≤ s1 ∧ s1 ≤ 10000000) (h2 : 0 ≤ s2 ∧ s2 ≤ 10000000) (h3 : 0 ≤ s3 ∧ s3 ≤ 10000000) (hp : 0 < s3) : CallOK Try.prog 80 [iv .i64 2, .c (.l (.p 1 0))] [(1, ⟨[.p 0 0], .t 138⟩), (0, ⟨[li s0, li s1, li s2, li s3, li 64], .t 99⟩)] 3 (iv .u8 (IntKind.u8.wrap (rnd s2 s3))) [] 0 := by
  refine call_ok (cx := cz_C159_2) (nm := []) rfl Try.func80 (body := Try.f80.body.getD .skip) rfl enters159 (by kernel_rfl) ?_
  apply of_eq (q := CallOKd Try.prog 79 [] [iv IntKind.i64 s2, iv IntKind.i64 s3] [] 3 (iv IntKind.i64 (rnd s2 s3)) [] 0 ∧ Le (iv IntKind.u8 (IntKind.u8.wrap (rnd s2 s3))) (iv IntKind.u8 (IntKind.u8.wrap (rnd s2 s3))) ∧ True) (by kernel_rfl)
  repeat' (first | exact trivial | with_reducible apply And.intro | (with_reducible apply HB.mk) | with_reducible intro _)
  all_goals first
    | (assumption)
    | (with_reducible exact Le.refl _)
    | ((with_reducible refine C158 _ _ ?_ ?_ ?_ ?_ _) <;> omega)
    | (exact okw _ (by omega) (by omega))
    | (exact Le.of rfl)
    | (exact BkR.of rfl)
    | (unfold SlOK; omega)
    | (unfold SlOK; decide)
    | (unfold inByte; decide)
    | (simp only [*, Bool.and_self, Bool.not_false, Bool.not_true]; done)
    | (simp_all [wants]; done)
def V159 (S : St) (i : Int) : SV := match S.blk 0 with | some ⟨[.v (.int _ s0), .v (.int _ s1), .v (.int _ s2), .v (.int _ s3), _], _⟩ => iv .u8 (IntKind.u8.wrap (rnd (match i with | 0 => s0 | 1 => s1 | _ => s2) s3)) | _ => .u
theorem rnd_pos {s : Int} (h0 : 0 ≤ s) (h : (rnd s 64 == 0) = false) : 0 < s := by
  rcases Int.lt_or_eq_of_le h0 with h1 | h1
  · exact h1
  · subst h1; exact absurd h (by decide)
theorem enters118 : Enters Try.prog 48 := fun args w => by go_simp
def cz_C118 : Cz := {
  ct := (fun f => match f with
  | 79 => some fun _ _S ar => match ar with | [.c (.l (.v (.int _ a))), .c (.l (.v (.int _ b)))] => some { v := iv .i64 (rnd a b), rd := [], wr := [], nw := 0 } | _ => none
  | 80 => some fun _ _S ar => match ar with | [.c (.l (.v (.int _ i))), .c (.l (.p 1 0))] => some { v := V159 _S i, rd := [1, 0], wr := [], nw := 0 } | _ => none
  | _ => none)
  eq := (fun t => match t with
  | _ => none)
  raw := [], sym := [], nf := [(13, bv false)], ap := true, off := [], on := [], lp := fun _ => none, un := 0 }
set_option maxRecDepth 100000 in
set_option maxHeartbeats 400000 in
theorem C118 (s0 s1 s2 s3 : Int) (h0 : 0 ≤ s0 ∧ s0 ≤ 10000000) (h1 : 0 ≤ s1 ∧ s1 ≤ 10000000) (h2 : 0 ≤ s2 ∧ s2 ≤ 10000000) (h3 : 0 ≤ s3 ∧ s3 ≤ 10000000) : CallOK Try.prog 48 [.c (.l (.p 0 0))] [(0, ⟨[li s0, li s1, li s2, li s3, li 64], .t 99⟩)] 1 (ag [u8 (mch s0 s3), u8 (mch s1 s3), u8 (mch s2 s3), u8 (mal s3)]) [] 0 := by
  have hpos := rnd_pos (s := s3) h3.1
  refine call_ok (cx := cz_C118) (nm := []) rfl Try.func48 (body := Try.f48.body.getD .skip) rfl enters118 (by kernel_rfl) ?_
  apply of_eq (q := ((!false) = true → (!false) = true ∧ True) ∧ ((!false) = true → (!false) = true ∧ True) ∧ ((!false) = true → (!false) = true ∧ True) ∧ ((!false) = true → (!false) = true ∧ True) ∧ (false = false → (!false) = true) ∧ Le (bv (bif false then true else 64 == 0)) (bv false) ∧ CallOKd Try.prog 79 [] [iv IntKind.i64 s3, iv IntKind.i64 64] [] 3 (iv IntKind.i64 (rnd s3 64)) [] 0 ∧ HB (rnd s3 64 == 0) (Le (ag [Leaf.v (Value.int IntKind.u8 0), Leaf.v (Value.int IntKind.u8 0), Leaf.v (Value.int IntKind.u8 0), Leaf.v (Value.int IntKind.u8 0)]) (ag [Leaf.v (Value.int IntKind.u8 (mch s0 s3)), Leaf.v (Value.int IntKind.u8 (mch s1 s3)), Leaf.v (Value.int IntKind.u8 (mch s2 s3)), Leaf.v (Value.int IntKind.u8 (mal s3))]) ∧ True) (CallOKd Try.prog 80 [] [iv IntKind.i64 0, SV.c (Cp.l (Leaf.p 1 0))] [(1, Blk.mk [Leaf.p 0 0] (BT.t 138)), (0, Blk.mk [li s0, li s1, li s2, li s3, li 64] (BT.t 99))] 3 (iv IntKind.u8 (IntKind.u8.wrap (rnd s0 s3))) [] 0 ∧ CallOKd Try.prog 80 [] [iv IntKind.i64 1, SV.c (Cp.l (Leaf.p 1 0))] [(1, Blk.mk [Leaf.p 0 0] (BT.t 138)), (0, Blk.mk [li s0, li s1, li s2, li s3, li 64] (BT.t 99))] 3 (iv IntKind.u8 (IntKind.u8.wrap (rnd s1 s3))) [] 0 ∧ CallOKd Try.prog 80 [] [iv IntKind.i64 2, SV.c (Cp.l (Leaf.p 1 0))] [(1, Blk.mk [Leaf.p 0 0] (BT.t 138)), (0, Blk.mk [li s0, li s1, li s2, li s3, li 64] (BT.t 99))] 3 (iv IntKind.u8 (IntKind.u8.wrap (rnd s2 s3))) [] 0 ∧ Le (ag [Leaf.v (Value.int IntKind.u8 (IntKind.u8.wrap (rnd s0 s3))), Leaf.v (Value.int IntKind.u8 (IntKind.u8.wrap (rnd s1 s3))), Leaf.v (Value.int IntKind.u8 (IntKind.u8.wrap (rnd s2 s3))), Leaf.v (Value.int IntKind.u8 (IntKind.u8.wrap (rnd s3 64)))]) (ag [Leaf.v (Value.int IntKind.u8 (mch s0 s3)), Leaf.v (Value.int IntKind.u8 (mch s1 s3)), Leaf.v (Value.int IntKind.u8 (mch s2 s3)), Leaf.v (Value.int IntKind.u8 (mal s3))]) ∧ True)) (by kernel_rfl)
  repeat' (first | exact trivial | with_reducible apply And.intro | (with_reducible apply HB.mk) | with_reducible intro _)
  all_goals first
    | (assumption)
    | (with_reducible exact Le.refl _)
    | ((with_reducible refine C158 _ _ ?_ ?_ ?_ ?_ _) <;> omega)
    | (((with_reducible refine C159_0 _ _ _ _ ?_ ?_ ?_ ?_ ?_) <;> omega))
    | (((with_reducible refine C159_0 _ _ _ _ ?_ ?_ ?_ ?_ ?_) <;> first | omega | exact hpos ‹_›))
    | (((with_reducible refine C159_1 _ _ _ _ ?_ ?_ ?_ ?_ ?_) <;> first | omega | exact hpos ‹_›))
    | (((with_reducible refine C159_2 _ _ _ _ ?_ ?_ ?_ ?_ ?_) <;> first | omega | exact hpos ‹_›))
    | (refine Le.of ?_; unfold mch mal; rw [‹(rnd s3 64 == 0) = true›]; rfl)
    | (refine Le.of ?_; unfold mch mal; rw [‹(rnd s3 64 == 0) = false›]; rfl)
    | (exact okw _ (by omega) (by omega))
    | (exact Le.of rfl)
    | (exact BkR.of rfl)
    | (unfold SlOK; omega)
    | (unfold SlOK; decide)
    | (unfold inByte; decide)
    | (simp only [*, Bool.and_self, Bool.not_false, Bool.not_true]; done)
    | (simp_all [wants]; done)
theorem C118g (s0 s1 s2 s3 : Int) (h0 : 0 ≤ s0 ∧ s0 ≤ 10000000) (h1 : 0 ≤ s1 ∧ s1 ≤ 10000000) (h2 : 0 ≤ s2 ∧ s2 ≤ 10000000) (h3 : 0 ≤ s3 ∧ s3 ≤ 10000000) (id n : Nat) (hi : id < n) : CallOK Try.prog 48 [.c (.l (.p id 0))] [(id, ⟨[li s0, li s1, li s2, li s3, li 64], .t 99⟩)] n (ag [u8 (mch s0 s3), u8 (mch s1 s3), u8 (mch s2 s3), u8 (mal s3)]) [] 0 :=
  CallOK.at1 (C118 s0 s1 s2 s3 h0 h1 h2 h3) id n hi
def ch (t : Nat → UInt8) (c k : Nat) : Int := match c with | 0 => ((t (4 * k)).toNat : Nat) | 1 => ((t (4 * k + 1)).toNat : Nat) | 2 => ((t (4 * k + 2)).toNat : Nat) | _ => 1
def mS (t : Nat → UInt8) (c : Nat) : Nat → Int
  | 0 => 0
  | k + 1 => mS t c k + ((t (4 * k + 3)).toNat : Nat) * ch t c k
def meanL (t : Nat → UInt8) : List Leaf := [u8 (mch (mS t 0 64) (mS t 3 64)), u8 (mch (mS t 1 64) (mS t 3 64)), u8 (mch (mS t 2 64) (mS t 3 64)), u8 (mal (mS t 3 64))]
def MBk (t : Nat → UInt8) (k : Nat) : Blk := ⟨[li (mS t 0 k), li (mS t 1 k), li (mS t 2 k), li (mS t 3 k), li (k : Nat)], .t 99⟩
def I52 (t : Nat → UInt8) (k : Nat) : St := ⟨[(7, iv .i64 (k : Nat)), (6, .c (.agg (tl t))), (3, .c (.l (.p 2 0))), (2, .c (.l (.p 1 0))), (1, .c (.l (.p 0 0)))], [(0, some ⟨tl t, .t 27⟩), (1, some ⟨[u8 0, u8 0, u8 0, u8 0], .t 23⟩), (2, some (MBk t k))], 3, 14, [2, 1, 0], (0)⟩
def W117 (S : St) (i : Nat) (a b d e : Int) : Blk := match S.blk i with | some ⟨[.v (.int _ s0), .v (.int _ s1), .v (.int _ s2), .v (.int _ s3), .v (.int _ c)], _⟩ => ⟨[li (s0 + e * a), li (s1 + e * b), li (s2 + e * d), li (s3 + e * 1), li (c + 1)], .t 99⟩ | _ => ⟨[], .t 0⟩
def V118 (S : St) (i : Nat) : SV := match S.blk i with | some ⟨[.v (.int _ s0), .v (.int _ s1), .v (.int _ s2), .v (.int _ s3), _], _⟩ => ag [u8 (mch s0 s3), u8 (mch s1 s3), u8 (mch s2 s3), u8 (mal s3)] | _ => .u
theorem ch_bd (t : Nat → UInt8) (c k : Nat) : 0 ≤ ch t c k ∧ ch t c k < 256 := by
  unfold ch
  split
  · exact okb _
  · exact okb _
  · exact okb _
  · omega
theorem mS_bd (t : Nat → UInt8) (c : Nat) : ∀ k, 0 ≤ mS t c k ∧ mS t c k ≤ 65025 * (k : Nat)
  | 0 => ⟨Int.le_refl _, Int.le_refl _⟩
  | k + 1 => by
    have h1 := mS_bd t c k
    have h2 := mul_bd (okb (t (4 * k + 3))) (ch_bd t c k)
    rw [mS]
    omega
theorem mS_b (t : Nat → UInt8) (c : Nat) {k : Nat} (h : k ≤ 64) : 0 ≤ mS t c k ∧ mS t c k ≤ 10000000 := by
  have := mS_bd t c k
  omega
theorem mS_b' (t : Nat → UInt8) (c : Nat) {k : Nat} (h : k ≤ 64) : 0 ≤ mS t c k ∧ mS t c k ≤ 1000000000 := by
  have := mS_bd t c k
  omega
def cz_R52 (t : Nat → UInt8) (k : Nat) : Cz := {
  ct := (fun f => match f with
  | 47 => some fun _ _S ar => match ar with | [.c (.l (.p i _)), .c (.agg [.v (.int _ a), .v (.int _ b), .v (.int _ d), .v (.int _ e)]), .c (.l (.v (.int _ 1)))] => some { v := .tup [], rd := [i], wr := [(i, W117 _S i a b d e)], nw := 0 } | _ => none
  | 48 => some fun _ _S ar => match ar with | [.c (.l (.p i _))] => some { v := V118 _S i, rd := [i], wr := [], nw := 0 } | _ => none
  | _ => none)
  eq := (fun t => match t with
  | _ => none)
  raw := [], sym := [9], nf := [(9, .c (.agg [ub (t (4 * k)), ub (t (4 * k + 1)), ub (t (4 * k + 2)), ub (t (4 * k + 3))])), (10, .c (.agg [ub (t (4 * k)), ub (t (4 * k + 1)), ub (t (4 * k + 2)), ub (t (4 * k + 3))]))], ap := true, off := [], on := [], lp := fun _ => none, un := 0 }
set_option maxRecDepth 100000 in
theorem R52 (t : Nat → UInt8) (k : Nat)  (K : Exit → St → Prop) (h : HB (decide ((Nat.cast k : Int) < 64)) (InR ((Nat.cast k : Int)) 64 ∧ Le (ag (List.take 4 (List.drop (((Nat.cast k : Int)).toNat * 4) (tl t)))) (ag [Leaf.v (Value.int IntKind.u8 (Nat.cast ((t (4 * k)).toNat) : Int)), Leaf.v (Value.int IntKind.u8 (Nat.cast ((t (4 * k + 1)).toNat) : Int)), Leaf.v (Value.int IntKind.u8 (Nat.cast ((t (4 * k + 2)).toNat) : Int)), Leaf.v (Value.int IntKind.u8 (Nat.cast ((t (4 * k + 3)).toNat) : Int))]) ∧ Le (ag [Leaf.v (Value.int IntKind.u8 (Nat.cast ((t (4 * k)).toNat) : Int)), Leaf.v (Value.int IntKind.u8 (Nat.cast ((t (4 * k + 1)).toNat) : Int)), Leaf.v (Value.int IntKind.u8 (Nat.cast ((t (4 * k + 2)).toNat) : Int)), Leaf.v (Value.int IntKind.u8 (Nat.cast ((t (4 * k + 3)).toNat) : Int))]) (ag [Leaf.v (Value.int IntKind.u8 (Nat.cast ((t (4 * k)).toNat) : Int)), Leaf.v (Value.int IntKind.u8 (Nat.cast ((t (4 * k + 1)).toNat) : Int)), Leaf.v (Value.int IntKind.u8 (Nat.cast ((t (4 * k + 2)).toNat) : Int)), Leaf.v (Value.int IntKind.u8 (Nat.cast ((t (4 * k + 3)).toNat) : Int))]) ∧ CallOKd Try.prog 47 [] [SV.c (Cp.l (Leaf.p 2 0)), ag [Leaf.v (Value.int IntKind.u8 (Nat.cast ((t (4 * k)).toNat) : Int)), Leaf.v (Value.int IntKind.u8 (Nat.cast ((t (4 * k + 1)).toNat) : Int)), Leaf.v (Value.int IntKind.u8 (Nat.cast ((t (4 * k + 2)).toNat) : Int)), Leaf.v (Value.int IntKind.u8 (Nat.cast ((t (4 * k + 3)).toNat) : Int))], iv IntKind.i64 1] [(2, Blk.mk [li (mS t 0 k), li (mS t 1 k), li (mS t 2 k), li (mS t 3 k), li (Nat.cast k : Int)] (BT.t 99))] 4 (SV.tup []) [(2, Blk.mk [li (mS t 0 k + (Nat.cast ((t (4 * k + 3)).toNat) : Int) * (Nat.cast ((t (4 * k)).toNat) : Int)), li (mS t 1 k + (Nat.cast ((t (4 * k + 3)).toNat) : Int) * (Nat.cast ((t (4 * k + 1)).toNat) : Int)), li (mS t 2 k + (Nat.cast ((t (4 * k + 3)).toNat) : Int) * (Nat.cast ((t (4 * k + 2)).toNat) : Int)), li (mS t 3 k + (Nat.cast ((t (4 * k + 3)).toNat) : Int) * 1), li ((Nat.cast k : Int) + 1)] (BT.t 99))] 0 ∧ IntKind.i64.wrap ((Nat.cast k : Int) + 1) = (Nat.cast k : Int) + 1 ∧ RoundTo Try.prog ((getLoop 3 (Try.f19.body.getD .skip)).getD .skip) 3 (wkK 3 K) (St.mk [(7, iv IntKind.i64 ((Nat.cast k : Int) + 1)), (12, iv IntKind.i64 ((Nat.cast k : Int) + 1)), (11, SV.tup []), (10, ag [Leaf.v (Value.int IntKind.u8 (Nat.cast ((t (4 * k)).toNat) : Int)), Leaf.v (Value.int IntKind.u8 (Nat.cast ((t (4 * k + 1)).toNat) : Int)), Leaf.v (Value.int IntKind.u8 (Nat.cast ((t (4 * k + 2)).toNat) : Int)), Leaf.v (Value.int IntKind.u8 (Nat.cast ((t (4 * k + 3)).toNat) : Int))]), (5, SV.c (Cp.l (Leaf.p 3 0))), (9, ag [Leaf.v (Value.int IntKind.u8 (Nat.cast ((t (4 * k)).toNat) : Int)), Leaf.v (Value.int IntKind.u8 (Nat.cast ((t (4 * k + 1)).toNat) : Int)), Leaf.v (Value.int IntKind.u8 (Nat.cast ((t (4 * k + 2)).toNat) : Int)), Leaf.v (Value.int IntKind.u8 (Nat.cast ((t (4 * k + 3)).toNat) : Int))]), (8, bv (decide ((Nat.cast k : Int) < 64))), (7, iv IntKind.i64 (Nat.cast k : Int)), (6, ag (tl t)), (3, SV.c (Cp.l (Leaf.p 2 0))), (2, SV.c (Cp.l (Leaf.p 1 0))), (1, SV.c (Cp.l (Leaf.p 0 0)))] [(2, some (Blk.mk [li (mS t 0 k + (Nat.cast ((t (4 * k + 3)).toNat) : Int) * (Nat.cast ((t (4 * k)).toNat) : Int)), li (mS t 1 k + (Nat.cast ((t (4 * k + 3)).toNat) : Int) * (Nat.cast ((t (4 * k + 1)).toNat) : Int)), li (mS t 2 k + (Nat.cast ((t (4 * k + 3)).toNat) : Int) * (Nat.cast ((t (4 * k + 2)).toNat) : Int)), li (mS t 3 k + (Nat.cast ((t (4 * k + 3)).toNat) : Int) * 1), li ((Nat.cast k : Int) + 1)] (BT.t 99))), (3, some (Blk.mk [Leaf.v (Value.int IntKind.u8 (Nat.cast ((t (4 * k)).toNat) : Int)), Leaf.v (Value.int IntKind.u8 (Nat.cast ((t (4 * k + 1)).toNat) : Int)), Leaf.v (Value.int IntKind.u8 (Nat.cast ((t (4 * k + 2)).toNat) : Int)), Leaf.v (Value.int IntKind.u8 (Nat.cast ((t (4 * k + 3)).toNat) : Int))] (BT.t 23))), (3, some (Blk.mk [Leaf.v (Value.int IntKind.u8 0), Leaf.v (Value.int IntKind.u8 0), Leaf.v (Value.int IntKind.u8 0), Leaf.v (Value.int IntKind.u8 0)] (BT.t 23))), (0, some (Blk.mk (tl t) (BT.t 27))), (1, some (Blk.mk [Leaf.v (Value.int IntKind.u8 0), Leaf.v (Value.int IntKind.u8 0), Leaf.v (Value.int IntKind.u8 0), Leaf.v (Value.int IntKind.u8 0)] (BT.t 23))), (2, some (Blk.mk [li (mS t 0 k), li (mS t 1 k), li (mS t 2 k), li (mS t 3 k), li (Nat.cast k : Int)] (BT.t 99)))] 4 14 [2, 3, 3, 2, 1, 0] 0)) (wkK 3 K (Exit.exit 0) (St.mk [(8, bv (decide ((Nat.cast k : Int) < 64))), (7, iv IntKind.i64 (Nat.cast k : Int)), (6, ag (tl t)), (3, SV.c (Cp.l (Leaf.p 2 0))), (2, SV.c (Cp.l (Leaf.p 1 0))), (1, SV.c (Cp.l (Leaf.p 0 0)))] [(0, some (Blk.mk (tl t) (BT.t 27))), (1, some (Blk.mk [Leaf.v (Value.int IntKind.u8 0), Leaf.v (Value.int IntKind.u8 0), Leaf.v (Value.int IntKind.u8 0), Leaf.v (Value.int IntKind.u8 0)] (BT.t 23))), (2, some (Blk.mk [li (mS t 0 k), li (mS t 1 k), li (mS t 2 k), li (mS t 3 k), li (Nat.cast k : Int)] (BT.t 99)))] 3 14 [2, 1, 0] 0))) : WPL Try.prog ((getLoop 3 (Try.f19.body.getD .skip)).getD .skip) (I52 t k) (wkK 3 K) :=
  wp_round (cx := cz_R52 t k) rfl (of_eq (by kernel_rfl) h)
set_option maxRecDepth 100000 in
set_option maxHeartbeats 4000000 in
theorem L52 (t : Nat → UInt8)  : ∀ (m k : Nat), 64 - k = m → k ≤ 64 → ∀ (K : Exit → St → Prop), K (.exit 0) (I52 t 64) → WPL Try.prog ((getLoop 3 (Try.f19.body.getD .skip)).getD .skip) (I52 t k) (wkK 3 K)
  | 0, k, hm, hk, K, hK => by
    have e : k = 64 := by omega
    subst e
    refine R52 t _ K (HB.mk (fun hne => absurd (of_decide_eq_true hne) (by omega)) (fun he => ?_))
    exact wkK.to (I52 t _) (Nat.le_refl _) (by kernel_rfl) (wkE_cons (LeN.sl (by kernel_rfl) rfl) (wkE_cons (LeN.sl_plain (by kernel_rfl) (plain_tl t)) (wkE_cons (LeN.sl (by kernel_rfl) rfl) (wkE_cons (LeN.sl (by kernel_rfl) rfl) (wkE_cons (LeN.sl (by kernel_rfl) rfl) trivial))))) (wkH_cons (BkN.plain (cs := tl t) (b := .t 27) (by kernel_rfl) (rfl) (plain_tl t) (by kernel_rfl)) (wkH_cons (BkN.blk (k := ⟨[u8 0, u8 0, u8 0, u8 0], .t 23⟩) (by kernel_rfl) (rfl) (by kernel_rfl)) (wkH_cons (BkN.blk (k := MBk t 64) (by kernel_rfl) (rfl) (by kernel_rfl)) trivial))) hK
  | m + 1, k, hm, hk, K, hK => by
    refine R52 t k K (HB.mk (fun hne => ?_) (fun he => absurd (show ((k : Nat) : Int) < (64 : Nat) by omega) (of_decide_eq_false he)))
    have hlt : k < 64 := by omega
    repeat' (first | exact trivial | with_reducible apply And.intro | (with_reducible apply HB.mk) | with_reducible intro _)
    all_goals first
      | (assumption)
      | (with_reducible exact Le.refl _)
      | (((with_reducible refine C117g _ _ _ _ _ _ _ _ _ ?_ ?_ ?_ ?_ ?_ ?_ ?_ ?_ ?_ _ _ ?_) <;> first | exact okb _ | exact mS_b' t _ (Nat.le_of_lt hlt) | omega))
      | (exact ⟨by omega, by omega⟩)
      | (exact Le.of (by rw [show (((k : Nat) : Int)).toNat = k from rfl, tl_pix _ hlt]; rfl))
      | ((with_reducible refine RoundTo.toN 4 (I52 t (k + 1)) ?_ ?_ ?_ ?_ ?_); exact Nat.le_refl _; kernel_rfl; exact (wkE_cons (LeN.sl (by kernel_rfl) rfl) (wkE_cons (LeN.sl_plain (by kernel_rfl) (plain_tl t)) (wkE_cons (LeN.sl (by kernel_rfl) rfl) (wkE_cons (LeN.sl (by kernel_rfl) rfl) (wkE_cons (LeN.sl (by kernel_rfl) rfl) trivial))))); exact (wkH_cons (BkN.plain (cs := tl t) (b := .t 27) (by kernel_rfl) (rfl) (plain_tl t) (by kernel_rfl)) (wkH_cons (BkN.blk (k := ⟨[u8 0, u8 0, u8 0, u8 0], .t 23⟩) (by kernel_rfl) (rfl) (by kernel_rfl)) (wkH_cons (BkN.blk (k := ⟨[li (mS t 0 k + ((t (4 * k + 3)).toNat : Nat) * ((t (4 * k)).toNat : Nat)), li (mS t 1 k + ((t (4 * k + 3)).toNat : Nat) * ((t (4 * k + 1)).toNat : Nat)), li (mS t 2 k + ((t (4 * k + 3)).toNat : Nat) * ((t (4 * k + 2)).toNat : Nat)), li (mS t 3 k + ((t (4 * k + 3)).toNat : Nat) * 1), li (((k : Nat) : Int) + 1)], .t 99⟩) (by kernel_rfl) (rfl) (by kernel_rfl)) trivial))); exact (L52 t  m (k + 1) (by omega) (by omega) K hK))
      | (exact okw _ (by omega) (by omega))
      | (exact Le.of rfl)
      | (exact BkR.of rfl)
      | (unfold SlOK; omega)
      | (unfold SlOK; decide)
      | (unfold inByte; decide)
      | (simp only [*, Bool.and_self, Bool.not_false, Bool.not_true]; done)
      | (simp_all [wants]; done)
theorem enters52 : Enters Try.prog 19 := fun args w => by go_simp
def cz_C52 (t : Nat → UInt8) : Cz := {
  ct := (fun f => match f with
  | 47 => some fun _ _S ar => match ar with | [.c (.l (.p i _)), .c (.agg [.v (.int _ a), .v (.int _ b), .v (.int _ d), .v (.int _ e)]), .c (.l (.v (.int _ 1)))] => some { v := .tup [], rd := [i], wr := [(i, W117 _S i a b d e)], nw := 0 } | _ => none
  | 48 => some fun _ _S ar => match ar with | [.c (.l (.p i _))] => some { v := V118 _S i, rd := [i], wr := [], nw := 0 } | _ => none
  | _ => none)
  eq := (fun t => match t with
  | _ => none)
  raw := [], sym := [], nf := [(6, .c (.agg (tl t)))], ap := true, off := [], on := [], lp := fun r => match r with | 3 => some (fun _ K => K (.exit 0) (I52 t 64)) | _ => none, un := 0 }
set_option maxRecDepth 100000 in
set_option maxHeartbeats 400000 in
theorem C52 (t : Nat → UInt8)  (n : Nat) : CallOK Try.prog 19 [.c (.agg (tl t))] [] n (ag (meanL t)) [] 0 := by
  refine CallOK.any ?_ (by kernel_rfl) (by kernel_rfl) n
  refine call_ok (cx := cz_C52 t) (nm := []) rfl Try.func19 (body := Try.f19.body.getD .skip) rfl enters52 (by kernel_rfl) ?_
  apply of_eq (q := Le (ag (List.take 256 (tl t))) (ag (tl t)) ∧ (LoopOK Try.prog ((getLoop 3 (Try.f19.body.getD .skip)).getD .skip) (St.mk [(7, iv IntKind.i64 0), (6, ag (tl t)), (3, SV.c (Cp.l (Leaf.p 2 0))), (2, SV.c (Cp.l (Leaf.p 1 0))), (1, SV.c (Cp.l (Leaf.p 0 0))), (0, ag (tl t))] [(2, some (Blk.mk [li 0, li 0, li 0, li 0, li 0] (BT.t 99))), (1, some (Blk.mk [Leaf.v (Value.int IntKind.u8 0), Leaf.v (Value.int IntKind.u8 0), Leaf.v (Value.int IntKind.u8 0), Leaf.v (Value.int IntKind.u8 0)] (BT.t 23))), (0, some (Blk.mk (tl t) (BT.t 27)))] 3 14 [2, 1, 0] 0) fun K => K (Exit.exit 0) (I52 t 64)) ∧ CallOKd Try.prog 48 [] [SV.c (Cp.l (Leaf.p 2 0))] [(2, Blk.mk [li (mS t 0 64), li (mS t 1 64), li (mS t 2 64), li (mS t 3 64), li (Nat.cast 64 : Int)] (BT.t 99))] 3 (ag [Leaf.v (Value.int IntKind.u8 (mch (mS t 0 64) (mS t 3 64))), Leaf.v (Value.int IntKind.u8 (mch (mS t 1 64) (mS t 3 64))), Leaf.v (Value.int IntKind.u8 (mch (mS t 2 64) (mS t 3 64))), Leaf.v (Value.int IntKind.u8 (mal (mS t 3 64)))]) [] 0 ∧ Le (ag [Leaf.v (Value.int IntKind.u8 (mch (mS t 0 64) (mS t 3 64))), Leaf.v (Value.int IntKind.u8 (mch (mS t 1 64) (mS t 3 64))), Leaf.v (Value.int IntKind.u8 (mch (mS t 2 64) (mS t 3 64))), Leaf.v (Value.int IntKind.u8 (mal (mS t 3 64)))]) (ag [Leaf.v (Value.int IntKind.u8 (mch (mS t 0 64) (mS t 3 64))), Leaf.v (Value.int IntKind.u8 (mch (mS t 1 64) (mS t 3 64))), Leaf.v (Value.int IntKind.u8 (mch (mS t 2 64) (mS t 3 64))), Leaf.v (Value.int IntKind.u8 (mal (mS t 3 64)))]) ∧ True) (by kernel_rfl)
  repeat' (first | exact trivial | with_reducible apply And.intro | (with_reducible apply HB.mk) | with_reducible intro _)
  all_goals first
    | (assumption)
    | (with_reducible exact Le.refl _)
    | (((with_reducible refine C118g _ _ _ _ ?_ ?_ ?_ ?_ _ _ ?_) <;> first | exact mS_b t _ (Nat.le_refl _) | decide))
    | (exact LoopOK.mk (I52 t 0) rfl (by kernel_rfl) (wkE_cons (LeN.sl (by kernel_rfl) rfl) (wkE_cons (LeN.sl_plain (by kernel_rfl) (plain_tl t)) (wkE_cons (LeN.sl (by kernel_rfl) rfl) (wkE_cons (LeN.sl (by kernel_rfl) rfl) (wkE_cons (LeN.sl (by kernel_rfl) rfl) trivial))))) (wkH_cons (BkN.plain (cs := tl t) (b := .t 27) (by kernel_rfl) (rfl) (plain_tl t) (by kernel_rfl)) (wkH_cons (BkN.blk (k := ⟨[u8 0, u8 0, u8 0, u8 0], .t 23⟩) (by kernel_rfl) (rfl) (by kernel_rfl)) (wkH_cons (BkN.blk (k := MBk t 0) (by kernel_rfl) (rfl) (by kernel_rfl)) trivial))) (fun K hT => L52 t  _ 0 rfl (by first | decide | omega) K hT))
    | (exact Le.of (by rw [tl_take]))
    | (refine C118g _ _ _ _ ?_ ?_ ?_ ?_ _ _ ?_ <;> first | exact mS_b t _ (Nat.le_refl _) | decide)
    | (exact okw _ (by omega) (by omega))
    | (exact Le.of rfl)
    | (exact BkR.of rfl)
    | (unfold SlOK; omega)
    | (unfold SlOK; decide)
    | (unfold inByte; decide)
    | (simp only [*, Bool.and_self, Bool.not_false, Bool.not_true]; done)
    | (simp_all [wants]; done)
end Ab
end Go.Proofs.Ytpdckpifhniioaa
