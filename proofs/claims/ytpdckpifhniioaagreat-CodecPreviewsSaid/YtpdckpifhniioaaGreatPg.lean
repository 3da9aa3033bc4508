/- Part 7 of what CodecPreviews rests on. -/
import Derived.Laws.StructEq
import Derived.Deep.QuietTactic
import Derived.BigQuiet
import Derived.Deep.RegionWith
import Derived.WalkKit
import Derived.ProofKit
import Derived.OpenShut
import Derived.SliceStrings
import Derived.SizedLaws
import Derived.Test.YtpdckpifhniioaaGreatPc
import Derived.Test.YtpdckpifhniioaaGreatPe
import Derived.Test.YtpdckpifhniioaaGreatPf
section
set_option linter.unusedVariables false
set_option linter.unusedSimpArgs false
namespace Go.Proofs.YtpdckpifhniioaaGreat
open Go.RowKit
namespace Ab
attribute [local irreducible] CallOKd
/-- Every blob has a byte, none too many. -/
def GoodB (L : List EN) : Prop := L.length ≤ 1024 ∧ ∀ k, k < L.length → 1 ≤ (ea L k).blob.size ∧ (ea L k).blob.size ≤ 257
theorem GoodB.len {L : List EN} (h : GoodB L) : L.length ≤ 1024 := h.1
theorem enters25 : Enters Tryz.prog 25 := fun args w => by go_simp
theorem enters19 : Enters Tryz.prog 19 := fun args w => by go_simp
def cz_C19k (L : List EN) (d : Int) : Cz := {
  ct := (fun f => match f with
  | _ => none)
  eq := (fun t => match t with
  | _ => none)
  raw := [], sym := [], nf := [], ap := true, off := [], on := [], lp := fun _ => none, un := 0 }
set_option maxRecDepth 100000 in
set_option maxHeartbeats 400000 in
theorem C19k (L : List EN) (d : Int)  : CallOK Tryz.prog 19 [.c (.l (.p 0 0))] [(0, ⟨[.o 1 L.length, li d], .t 125⟩)] 2 (iv .i64 d) [] 0 := by
  refine call_ok (cx := cz_C19k L d) (nm := []) rfl Tryz.func19 (body := Tryz.f19.body.getD .skip) rfl enters19 (by kernel_rfl) ?_
  apply of_eq (q := Le (iv IntKind.i64 d) (iv IntKind.i64 d) ∧ True) (by kernel_rfl)
  repeat' (first | exact trivial | with_reducible apply And.intro | (with_reducible apply HB.mk) | with_reducible intro _)
  all_goals first
    | (with_reducible assumption)
    | (with_reducible exact Le.refl _)
    | (with_reducible rfl)
    | (exact okw _ (by omega) (by omega))
    | (exact Le.of rfl)
    | (exact BkR.of rfl)
    | (unfold SlOK; omega)
    | (unfold SlOK; decide)
    | (unfold inByte; decide)
    | (simp only [*, Bool.and_self, Bool.not_false, Bool.not_true]; done)
    | (simp_all [wants]; done)
theorem decoded_any (L : List EN) (d : Int) (id i n : Nat) (h1 : id < n) (h2 : i < n) (h3 : id ≠ i) : CallOK Tryz.prog 19 [.c (.l (.p id 0))] [(id, ⟨[.o i L.length, li d], .t 125⟩)] n (iv .i64 d) [] 0 := CallOKd.at2 (C19k L d) id i n h1 h2 h3
end Ab
end Go.Proofs.YtpdckpifhniioaaGreat
end
section
set_option linter.unusedVariables false
set_option linter.unusedSimpArgs false
namespace Go.Proofs.YtpdckpifhniioaaGreat
open Go.RowKit
namespace Ab
attribute [local irreducible] CallOKd
section
variable {L : List EN} {w : Int → Int → Bool} {k : Nat}
end
attribute [local irreducible] tl rws
end Ab
end Go.Proofs.YtpdckpifhniioaaGreat
end
section
set_option linter.unusedVariables false
set_option linter.unusedSimpArgs false
namespace Go.Proofs.YtpdckpifhniioaaGreat
open Go.RowKit
namespace Ab
attribute [local irreducible] CallOKd
end Ab
end Go.Proofs.YtpdckpifhniioaaGreat
end
section
set_option linter.unusedVariables false
set_option linter.unusedSimpArgs false
namespace Go.Proofs.YtpdckpifhniioaaGreat
open Go.RowKit
namespace Ab
attribute [local irreducible] CallOKd
def mT (l : List TA) (x y : Int) (j : Nat) : Bool := (at' l j).X == x && (at' l j).Y == y
def fndT (l : List TA) (x y : Int) : Int := match (List.range l.length).find? (mT l x y) with | some j => ((j : Nat) : Int) | none => -1
def rT (l : List TA) (x y : Int) : Nat → UInt8 := bif decide (fndT l x y < 0) then zT else (at' l (fndT l x y).toNat).t
def I69 (l : List TA) (x y : Int) (k : Nat) : St := ⟨[(8, iv .i64 (k : Nat)), (7, iv .i64 (l.length : Nat)), (0, .c (.l (.o 0 l.length))), (1, .c (.l (.f 70 [(1, 0)])))], [(0, some ⟨rws l, .r 42 258 0⟩), (1, some ⟨[li x, li y], .t 40⟩)], 2, 19, [], (2)⟩
def Q69 (l : List TA) (x y : Int) (k : Nat) : St := ⟨[(4, iv .i64 (k : Nat))], [], 2, 19, [], (2)⟩
theorem mT_eq (l : List TA) (x y : Int) (k : Nat) : ((at' l k).X == x && (at' l k).Y == y) = mT l x y k := rfl
theorem fndT_none {l : List TA} {x y : Int} (h : ∀ j, j < l.length → (!mT l x y j) = true) : fndT l x y = -1 := by
  unfold fndT
  have : (List.range l.length).find? (mT l x y) = none := by
    rw [List.find?_eq_none]
    intro j hj
    have := h j (List.mem_range.1 hj)
    simpa using this
  rw [this]
theorem fndT_some {l : List TA} {x y : Int} {j : Nat} (hj : j < l.length) (hb : ∀ i, i < j → (!mT l x y i) = true) (h : (!mT l x y j) = false) : fndT l x y = ((j : Nat) : Int) := by
  unfold fndT
  rw [find_range _ _ _ hj (by simpa using h) (fun i hi => by simpa using hb i hi)]
theorem fndT_bd (l : List TA) (x y : Int) : fndT l x y = -1 ∨ (0 ≤ fndT l x y ∧ fndT l x y < l.length) := by
  unfold fndT
  cases h : (List.range l.length).find? (mT l x y) with
  | none => exact .inl rfl
  | some j =>
    have := List.mem_range.1 (List.mem_of_find?_eq_some h)
    right
    show 0 ≤ ((j : Nat) : Int) ∧ ((j : Nat) : Int) < _
    omega
theorem fndT_in {l : List TA} {x y : Int} (h : decide (fndT l x y < 0) = false) : 0 ≤ fndT l x y ∧ (fndT l x y).toNat < l.length := by
  have := of_decide_eq_false h
  rcases fndT_bd l x y with h | h <;> omega
theorem rT_t {l : List TA} {x y : Int} (h : decide (fndT l x y < 0) = true) : rT l x y = zT := by unfold rT; rw [h]; rfl
theorem rT_f {l : List TA} {x y : Int} (h : decide (fndT l x y < 0) = false) : rT l x y = (at' l (fndT l x y).toNat).t := by unfold rT; rw [h]; rfl
theorem rws_tl {l : List TA} {k : Nat} (h : k < l.length) : List.take 256 (List.drop (k * 258 + 2) (rws l)) = tl (at' l k).t := by
  obtain ⟨m, hm⟩ := rws_drop l k h
  rw [← List.drop_drop, hm]
  show List.take 256 (tl (at' l k).t ++ m) = _
  rw [List.take_append_of_le_length (by rw [tl_len]; exact Nat.le_refl _), tl_take]
theorem enters70 : Enters Tryz.prog 70 := fun args w => by go_simp
def cz_C70 (e : TA) (x y : Int) : Cz := {
  ct := (fun f => match f with
  | _ => none)
  eq := (fun t => match t with
  | 40 => some (fun xs ys => match xs, ys with | [.v (.int _ a0), .v (.int _ a1)], [.v (.int _ b0), .v (.int _ b1)] => (a0 == b0 && a1 == b1) | _, _ => false)
  | _ => none)
  raw := [], sym := [], nf := [(5, ag [li e.X, li e.Y])], ap := true, off := [], on := [], lp := fun _ => none, un := 0 }
set_option maxRecDepth 100000 in
set_option maxHeartbeats 400000 in
theorem C70 (e : TA) (x y : Int)  : CallOK Tryz.prog 70 [.c (.agg (el e)), .c (.l (.p 0 0))] [(0, ⟨[li x, li y], .t 40⟩)] 1 (bv (e.X == x && e.Y == y)) [] 0 := by
  refine call_ok (cx := cz_C70 e x y) (nm := []) rfl Tryz.func70 (body := Tryz.f70.body.getD .skip) rfl enters70 (by kernel_rfl) ?_
  apply of_eq (q := Le (ag (List.take 2 (el e))) (ag [li e.X, li e.Y]) ∧ EqOK Tryz.prog 40 [li e.X, li e.Y] [li x, li y] (e.X == x && e.Y == y) ∧ Le (bv (e.X == x && e.Y == y)) (bv (e.X == x && e.Y == y)) ∧ True) (by kernel_rfl)
  repeat' (first | exact trivial | with_reducible apply And.intro | (with_reducible apply HB.mk) | with_reducible intro _)
  all_goals first
    | (with_reducible assumption)
    | (with_reducible exact Le.refl _)
    | (with_reducible rfl)
    | (exact eq40 _ _ _ _)
    | (exact Le.of rfl)
    | (exact okw _ (by omega) (by omega))
    | (exact Le.of rfl)
    | (exact BkR.of rfl)
    | (unfold SlOK; omega)
    | (unfold SlOK; decide)
    | (unfold inByte; decide)
    | (simp only [*, Bool.and_self, Bool.not_false, Bool.not_true]; done)
    | (simp_all [wants]; done)
theorem C70g (e : TA) (x y : Int) (id n : Nat) (hi : id < n) : CallOK Tryz.prog 70 [.c (.agg (el e)), .c (.l (.p id 0))] [(id, ⟨[li x, li y], .t 40⟩)] n (bv (e.X == x && e.Y == y)) [] 0 := by
  have key := CallOK.at1 (C70 e x y) id n hi
  simp only [List.map_cons, List.map_nil, Blk.ren, SV.ren, Cp.ren, Leaf.ren, BT.ren, ren_plain (plain_el _)] at key
  exact key
def cz_R69 (l : List TA) (x y : Int) (k : Nat) : Cz := {
  ct := (fun f => match f with
  | 70 => some fun _ _S ar => match ar with | [.c (.agg (.v (.int _ X) :: .v (.int _ Y) :: _)), .c (.l (.p i _))] => some { v := bv (X == x && Y == y), rd := [i], wr := [], nw := 0 } | _ => none
  | _ => none)
  eq := (fun t => match t with
  | _ => none)
  raw := [], sym := [14, 15], nf := [(15, .c (.agg (el (at' l k)))), (16, bv (mT l x y k))], ap := true, off := [], on := [], lp := fun _ => none, un := 0 }
set_option maxRecDepth 100000 in
theorem R69 (l : List TA) (x y : Int) (k : Nat)  (K : Exit → St → Prop) (h : HB (decide ((Nat.cast k : Int) < (Nat.cast l.length : Int))) (InR ((Nat.cast k : Int)) l.length ∧ ((Nat.cast k : Int)).toNat * 258 + 258 ≤ (rws l).length ∧ Le (ag (List.take 258 (List.drop (((Nat.cast k : Int)).toNat * 258) (rws l)))) (ag (el (at' l k))) ∧ CallOKd Tryz.prog 70 [] [ag (el (at' l k)), SV.c (Cp.l (Leaf.p 1 0))] [(1, Blk.mk [li x, li y] (BT.t 40))] 2 (bv ((at' l k).X == x && (at' l k).Y == y)) [] 0 ∧ Le (bv ((at' l k).X == x && (at' l k).Y == y)) (bv (mT l x y k)) ∧ HB (mT l x y k) (wkK 2 K Exit.ret (St.mk [(4, iv IntKind.i64 (Nat.cast k : Int)), (17, iv IntKind.i64 (Nat.cast k : Int)), (16, bv (mT l x y k)), (15, ag (el (at' l k))), (14, SV.c (Cp.l (Leaf.p 0 (((Nat.cast k : Int)).toNat * 258)))), (13, iv IntKind.i64 (Nat.cast k : Int)), (12, SV.c (Cp.l (Leaf.o 0 l.length))), (11, SV.c (Cp.l (Leaf.f 70 [(1, 0)]))), (5, iv IntKind.i64 (Nat.cast k : Int)), (10, iv IntKind.i64 (Nat.cast k : Int)), (9, bv (decide ((Nat.cast k : Int) < (Nat.cast l.length : Int)))), (8, iv IntKind.i64 (Nat.cast k : Int)), (7, iv IntKind.i64 (Nat.cast l.length : Int)), (0, SV.c (Cp.l (Leaf.o 0 l.length))), (1, SV.c (Cp.l (Leaf.f 70 [(1, 0)])))] [(0, some (Blk.mk (rws l) (BT.r 42 258 0))), (1, some (Blk.mk [li x, li y] (BT.t 40)))] 2 19 [] 2)) (IntKind.i64.wrap ((Nat.cast k : Int) + 1) = (Nat.cast k : Int) + 1 ∧ RoundTo Tryz.prog ((getLoop 2 (Tryz.f69.body.getD Code.skip)).getD Code.skip) 2 (wkK 2 K) (St.mk [(8, iv IntKind.i64 ((Nat.cast k : Int) + 1)), (18, iv IntKind.i64 ((Nat.cast k : Int) + 1)), (16, bv (mT l x y k)), (15, ag (el (at' l k))), (14, SV.c (Cp.l (Leaf.p 0 (((Nat.cast k : Int)).toNat * 258)))), (13, iv IntKind.i64 (Nat.cast k : Int)), (12, SV.c (Cp.l (Leaf.o 0 l.length))), (11, SV.c (Cp.l (Leaf.f 70 [(1, 0)]))), (5, iv IntKind.i64 (Nat.cast k : Int)), (10, iv IntKind.i64 (Nat.cast k : Int)), (9, bv (decide ((Nat.cast k : Int) < (Nat.cast l.length : Int)))), (8, iv IntKind.i64 (Nat.cast k : Int)), (7, iv IntKind.i64 (Nat.cast l.length : Int)), (0, SV.c (Cp.l (Leaf.o 0 l.length))), (1, SV.c (Cp.l (Leaf.f 70 [(1, 0)])))] [(0, some (Blk.mk (rws l) (BT.r 42 258 0))), (1, some (Blk.mk [li x, li y] (BT.t 40)))] 2 19 [] 2))) (wkK 2 K (Exit.exit 0) (St.mk [(9, bv (decide ((Nat.cast k : Int) < (Nat.cast l.length : Int)))), (8, iv IntKind.i64 (Nat.cast k : Int)), (7, iv IntKind.i64 (Nat.cast l.length : Int)), (0, SV.c (Cp.l (Leaf.o 0 l.length))), (1, SV.c (Cp.l (Leaf.f 70 [(1, 0)])))] [(0, some (Blk.mk (rws l) (BT.r 42 258 0))), (1, some (Blk.mk [li x, li y] (BT.t 40)))] 2 19 [] 2))) : WPL Tryz.prog ((getLoop 2 (Tryz.f69.body.getD .skip)).getD .skip) (I69 l x y k) (wkK 2 K) :=
  wp_round (cx := cz_R69 l x y k) rfl (of_eq (by kernel_rfl) h)
set_option maxRecDepth 100000 in
set_option maxHeartbeats 4000000 in
theorem L69 (l : List TA) (x y : Int) (hL : l.length ≤ 1024) : ∀ (m k : Nat), l.length - k = m → k ≤ l.length → (∀ j, j < k → (!mT l x y j) = true) → ∀ (K : Exit → St → Prop), ((∀ j, j < l.length → (!mT l x y j) = true) → K (.exit 0) (I69 l x y l.length)) → (∀ j, j < l.length → (∀ i, i < j → (!mT l x y i) = true) → (!mT l x y j) = false → K .ret (Q69 l x y j)) → WPL Tryz.prog ((getLoop 2 (Tryz.f69.body.getD .skip)).getD .skip) (I69 l x y k) (wkK 2 K)
  | 0, k, hm, hk, hall, K, hK, hR => by
    have e : k = l.length := by omega
    subst e
    refine R69 l x y _ K (HB.mk (fun hne => absurd (of_decide_eq_true hne) (by omega)) (fun he => ?_))
    exact wkK.to (I69 l x y _) (Nat.le_refl _) (by kernel_rfl) (wkE_cons (LeN.sl (by kernel_rfl) rfl) (wkE_cons (LeN.sl (by kernel_rfl) rfl) (wkE_cons (LeN.sl (by kernel_rfl) rfl) (wkE_cons (LeN.sl (by kernel_rfl) rfl) trivial)))) (wkH_cons (BkN.plain (cs := rws l) (b := .r 42 258 0) (by kernel_rfl) (rfl) (plain_rws _) (by kernel_rfl)) (wkH_cons (BkN.blk (k := ⟨[li x, li y], .t 40⟩) (by kernel_rfl) (rfl) (by kernel_rfl)) trivial)) (hK hall)
  | m + 1, k, hm, hk, hall, K, hK, hR => by
    refine R69 l x y k K (HB.mk (fun hne => ?_) (fun he => absurd (show ((k : Nat) : Int) < (l.length : Nat) by omega) (of_decide_eq_false he)))
    have hlt : k < l.length := by omega
    repeat' (first | exact trivial | with_reducible apply And.intro | (with_reducible apply HB.mk) | with_reducible intro _)
    all_goals first
      | (with_reducible assumption)
      | (with_reducible exact Le.refl _)
      | (with_reducible rfl)
      | ((with_reducible exact C70g _ x y _ _ (by omega)))
      | (exact ⟨by omega, by omega⟩)
      | ((rw [rws_len, tn]; omega))
      | ((refine Le.of ?_; simp only [tn, Nat.zero_add, Nat.add_zero]; rw [rws_at hlt]))
      | (with_reducible exact C70g _ _ _ _ _ (by omega))
      | (with_reducible exact Le.bool (mT_eq _ _ _ _))
      | (omega)
      | (have hcnd : (mT l x y k) = false := (by with_reducible assumption); (with_reducible refine RoundTo.toN 2 (I69 l x y (k + 1)) ?_ ?_ ?_ ?_ ?_); exact Nat.le_refl _; kernel_rfl; exact (wkE_cons (LeN.sl (by kernel_rfl) rfl) (wkE_cons (LeN.sl (by kernel_rfl) rfl) (wkE_cons (LeN.sl (by kernel_rfl) rfl) (wkE_cons (LeN.sl (by kernel_rfl) rfl) trivial)))); exact (wkH_cons (BkN.plain (cs := rws l) (b := .r 42 258 0) (by kernel_rfl) (rfl) (plain_rws _) (by kernel_rfl)) (wkH_cons (BkN.blk (k := ⟨[li x, li y], .t 40⟩) (by kernel_rfl) (rfl) (by kernel_rfl)) trivial)); exact (L69 l x y hL m (k + 1) (by omega) (by omega) (fun j hj => by rcases Nat.lt_or_ge j k with h | h; exact hall j h; have e : j = k := (by omega); subst e; exact (not_f' hcnd)) K hK hR))
      | (exact wkK.to (Q69 l x y k) (Nat.le_refl _) (by kernel_rfl) (wkE_cons (LeN.sl (by kernel_rfl) rfl) trivial) trivial (hR k hlt hall ((mE_t (by with_reducible assumption)))))
      | (exact okw _ (by omega) (by omega))
      | (exact Le.of rfl)
      | (exact BkR.of rfl)
      | (unfold SlOK; omega)
      | (unfold SlOK; decide)
      | (unfold inByte; decide)
      | (simp only [*, Bool.and_self, Bool.not_false, Bool.not_true]; done)
      | (simp_all [wants]; done)
theorem enters69 : Enters Tryz.prog 69 := fun args w => by go_simp
def cz_C69 (l : List TA) (x y : Int) : Cz := {
  ct := (fun f => match f with
  | _ => none)
  eq := (fun t => match t with
  | _ => none)
  raw := [], sym := [], nf := [], ap := true, off := [], on := [], lp := fun r => match r with | 2 => some (fun _ K => ((∀ j, j < l.length → (!mT l x y j) = true) → K (.exit 0) (I69 l x y l.length)) ∧ (∀ j, j < l.length → (∀ i, i < j → (!mT l x y i) = true) → (!mT l x y j) = false → K .ret (Q69 l x y j))) | _ => none, un := 0 }
set_option maxRecDepth 100000 in
set_option maxHeartbeats 400000 in
theorem C69 (l : List TA) (x y : Int) (hL : l.length ≤ 1024) : CallOK Tryz.prog 69 [.c (.l (.o 0 l.length)), .c (.l (.f 70 [(1, 0)]))] [(0, ⟨rws l, .r 42 258 0⟩), (1, ⟨[li x, li y], .t 40⟩)] 2 (iv .i64 (fndT l x y)) [] 0 := by
  refine call_ok (cx := cz_C69 l x y) (nm := []) rfl Tryz.func69 (body := Tryz.f69.body.getD .skip) rfl enters69 (by unfold inck; simp only [List.all_cons, List.all_nil, blkLt_plain (plain_rws l) (show (BT.rn (rnId 2 0 []) (.r 42 258 0)).isSome = true from rfl), Bool.and_true, Bool.true_and]; kernel_rfl) ?_
  apply of_eq (q := (LoopOK Tryz.prog ((getLoop 2 (Tryz.f69.body.getD .skip)).getD .skip) (St.mk [(8, iv IntKind.i64 0), (7, iv IntKind.i64 (Nat.cast l.length : Int)), (6, SV.c (Cp.l (Leaf.o 0 l.length))), (4, iv IntKind.i64 0), (0, SV.c (Cp.l (Leaf.o 0 l.length))), (1, SV.c (Cp.l (Leaf.f 70 [(1, 0)])))] [(0, some (Blk.mk (rws l) (BT.r 42 258 0))), (1, some (Blk.mk [li x, li y] (BT.t 40)))] 2 19 [] 2) fun K => ((∀ (j : Nat), j < l.length → (!mT l x y j) = true) → K (Exit.exit 0) (I69 l x y l.length)) ∧ ∀ (j : Nat), j < l.length → (∀ (i : Nat), i < j → (!mT l x y i) = true) → (!mT l x y j) = false → K Exit.ret (Q69 l x y j)) ∧ ((∀ (j : Nat), j < l.length → (!mT l x y j) = true) → Le (iv IntKind.i64 (-1)) (iv IntKind.i64 (fndT l x y)) ∧ True) ∧ ∀ (j : Nat), j < l.length → (∀ (i : Nat), i < j → (!mT l x y i) = true) → (!mT l x y j) = false → Le (iv IntKind.i64 (Nat.cast j : Int)) (iv IntKind.i64 (fndT l x y)) ∧ True) (by kernel_rfl)
  repeat' (first | exact trivial | with_reducible apply And.intro | (with_reducible apply HB.mk) | with_reducible intro _)
  all_goals first
    | (with_reducible assumption)
    | (with_reducible exact Le.refl _)
    | (with_reducible rfl)
    | (exact LoopOK.mk (I69 l x y 0) rfl (by kernel_rfl) (wkE_cons (LeN.sl (by kernel_rfl) rfl) (wkE_cons (LeN.sl (by kernel_rfl) rfl) (wkE_cons (LeN.sl (by kernel_rfl) rfl) (wkE_cons (LeN.sl (by kernel_rfl) rfl) trivial)))) (wkH_cons (BkN.plain (cs := rws l) (b := .r 42 258 0) (by kernel_rfl) (rfl) (plain_rws _) (by kernel_rfl)) (wkH_cons (BkN.blk (k := ⟨[li x, li y], .t 40⟩) (by kernel_rfl) (rfl) (by kernel_rfl)) trivial)) (fun K hT => L69 l x y hL _ 0 rfl (Nat.zero_le _) (fun j hj => absurd hj (Nat.not_lt_zero j)) K hT.1 hT.2))
    | ((refine Le.int ?_; exact (fndT_none (by with_reducible assumption)).symm))
    | ((refine Le.int ?_; exact (fndT_some (by with_reducible assumption) (by with_reducible assumption) (by with_reducible assumption)).symm))
    | (exact okw _ (by omega) (by omega))
    | (exact Le.of rfl)
    | (exact BkR.of rfl)
    | (unfold SlOK; omega)
    | (unfold SlOK; decide)
    | (unfold inByte; decide)
    | (simp only [*, Bool.and_self, Bool.not_false, Bool.not_true]; done)
    | (simp_all [wants]; done)
theorem C69g (l : List TA) (x y : Int) (hL : l.length ≤ 1024) (i q n : Nat) (h1 : i < n) (h2 : q < n) (h3 : i ≠ q) : CallOK Tryz.prog 69 [.c (.l (.o i l.length)), .c (.l (.f 70 [(q, 0)]))] [(i, ⟨rws l, .r 42 258 i⟩), (q, ⟨[li x, li y], .t 40⟩)] n (iv .i64 (fndT l x y)) [] 0 := by
  have key := CallOKd.at2 (C69 l x y hL) i q n h1 h2 h3
  simp only [List.map_cons, List.map_nil, Blk.ren, SV.ren, Cp.ren, Leaf.ren, BT.ren, ren_plain (plain_rws _)] at key
  exact key
theorem enters18 : Enters Tryz.prog 18 := fun args w => by go_simp
def cz_C18 (l : List TA) (x y : Int) : Cz := {
  ct := (fun f => match f with
  | 69 => some fun _ _S ar => match ar with | [.c (.l (.o i _)), .c (.l (.f _ [(q, _)]))] => some { v := iv .i64 (fndT l x y), rd := [i, q], wr := [], nw := 0 } | _ => none
  | 70 => some fun _ _S ar => match ar with | [.c (.agg (.v (.int _ X) :: .v (.int _ Y) :: _)), .c (.l (.p i _))] => some { v := bv (X == x && Y == y), rd := [i], wr := [], nw := 0 } | _ => none
  | _ => none)
  eq := (fun t => match t with
  | _ => none)
  raw := [], sym := [16, 18], nf := [(18, .c (.agg (tl (rT l x y))))], ap := true, off := [], on := [], lp := fun _ => none, un := 0, wh := [38] }
set_option maxRecDepth 100000 in
set_option maxHeartbeats 400000 in
theorem C18 (l : List TA) (x y : Int) (hL : l.length ≤ 1024) : CallOK Tryz.prog 18 [.c (.agg [.o 0 l.length]), ag [li x, li y]] [(0, ⟨rws l, .r 42 258 0⟩)] 1 (.c (.agg (tl (rT l x y)))) [] 0 := by
  refine call_ok (cx := cz_C18 l x y) (nm := []) rfl Tryz.func18 (body := Tryz.f18.body.getD .skip) rfl enters18 (by unfold inck; simp only [List.all_cons, List.all_nil, blkLt_plain (plain_rws l) (show (BT.rn (rnId 1 0 []) (.r 42 258 0)).isSome = true from rfl), Bool.and_true, Bool.true_and]; kernel_rfl) ?_
  apply of_eq (q := CallOKd Tryz.prog 69 [] [SV.c (Cp.l (Leaf.o 0 l.length)), SV.c (Cp.l (Leaf.f 70 [(2, 0)]))] [(0, Blk.mk (rws l) (BT.r 42 258 0)), (2, Blk.mk [li x, li y] (BT.t 40))] 4 (iv IntKind.i64 (fndT l x y)) [] 0 ∧ HB (decide (fndT l x y < 0)) (0 = 0 ∧ 256 = 256 ∧ Le (ag zT256) (ag (tl (rT l x y))) ∧ True) (InR (fndT l x y) l.length ∧ (fndT l x y).toNat * 258 + 2 + 256 ≤ (rws l).length ∧ Le (ag (List.take 256 (List.drop ((fndT l x y).toNat * 258 + 2) (rws l)))) (ag (tl (rT l x y))) ∧ 0 = 0 ∧ 256 = 256 ∧ Le (ag (tl (rT l x y))) (ag (tl (rT l x y))) ∧ True)) (by kernel_rfl)
  repeat' (first | exact trivial | with_reducible apply And.intro | (with_reducible apply HB.mk) | with_reducible intro _)
  all_goals first
    | (with_reducible assumption)
    | (with_reducible exact Le.refl _)
    | (with_reducible rfl)
    | (((with_reducible refine C69g l x y hL _ _ _ ?_ ?_ ?_) <;> omega))
    | ((have := fndT_in (by with_reducible assumption); exact ⟨by omega, by omega⟩))
    | ((have := fndT_in (by with_reducible assumption); rw [rws_len]; omega))
    | ((refine Le.of ?_; rw [rT_t (by with_reducible assumption), ← zT256_eq]; done))
    | ((refine Le.of ?_; rw [rT_f (by with_reducible assumption), rws_tl (fndT_in (by with_reducible assumption)).2]; done))
    | (exact okw _ (by omega) (by omega))
    | (exact Le.of rfl)
    | (exact BkR.of rfl)
    | (unfold SlOK; omega)
    | (unfold SlOK; decide)
    | (unfold inByte; decide)
    | (simp only [*, Bool.and_self, Bool.not_false, Bool.not_true]; done)
    | (simp_all [wants]; done)
theorem rtile_any (l : List TA) (x y : Int) (hL : l.length ≤ 1024) (id n : Nat) (hi : id < n) : CallOK Tryz.prog 18 [.c (.agg [.o id l.length]), ag [li x, li y]] [(id, ⟨rws l, .r 42 258 id⟩)] n (.c (.agg (tl (rT l x y)))) [] 0 := by
  have key := CallOK.at1 (C18 l x y hL) id n hi
  simp only [List.map_cons, List.map_nil, Blk.ren, SV.ren, Cp.ren, Leaf.ren, BT.ren, ren_plain (plain_rws _), ren_plain (plain_tl _)] at key
  exact key
end Ab
end Go.Proofs.YtpdckpifhniioaaGreat
end
section
set_option linter.unusedVariables false
set_option linter.unusedSimpArgs false
namespace Go.Proofs.YtpdckpifhniioaaGreat
open Go.RowKit
namespace Ab
attribute [local irreducible] CallOKd
theorem enters130 : Enters Tryz.prog 130 := fun args w => by go_simp
def cz_C130 : Cz := {
  ct := (fun f => match f with
  | _ => none)
  eq := (fun t => match t with
  | _ => none)
  raw := [], sym := [], nf := [], ap := true, off := [], on := [], lp := fun _ => none, un := 0 }
set_option maxRecDepth 100000 in
set_option maxHeartbeats 400000 in
theorem C130 (a b : Int) (h0 : 0 ≤ a) (h1 : a ≤ 1000000000) (b0 : 0 < b) (b1 : b ≤ 1000000000) (n : Nat) : CallOK Tryz.prog 130 [iv .i64 a, iv .i64 b] [] n (iv .i64 (rnd a b)) [] 0 := by
  refine CallOK.any ?_ (by kernel_rfl) (by kernel_rfl) n
  refine call_ok (cx := cz_C130) (nm := []) rfl Tryz.func130 (body := Tryz.f130.body.getD .skip) rfl enters130 (by kernel_rfl) ?_
  apply of_eq (q := IntKind.i64.wrap (2 * a) = 2 * a ∧ IntKind.i64.wrap (2 * a + b) = 2 * a + b ∧ IntKind.i64.wrap (2 * b) = 2 * b ∧ 2 * b ≠ 0 ∧ IntKind.i64.wrap ((2 * a + b).tdiv (2 * b)) = (2 * a + b).tdiv (2 * b) ∧ Le (iv IntKind.i64 ((2 * a + b).tdiv (2 * b))) (iv IntKind.i64 (rnd a b)) ∧ True) (by kernel_rfl)
  repeat' (first | exact trivial | with_reducible apply And.intro | (with_reducible apply HB.mk) | with_reducible intro _)
  all_goals first
    | (with_reducible assumption)
    | (with_reducible exact Le.refl _)
    | (with_reducible rfl)
    | (have := rnd_bd h0 h1 b0 b1; unfold rnd at this; exact okw _ (by omega) (by omega))
    | (omega)
    | (exact okw _ (by omega) (by omega))
    | (exact Le.of rfl)
    | (exact BkR.of rfl)
    | (unfold SlOK; omega)
    | (unfold SlOK; decide)
    | (unfold inByte; decide)
    | (simp only [*, Bool.and_self, Bool.not_false, Bool.not_true]; done)
    | (simp_all [wants]; done)
theorem enters67 : Enters Tryz.prog 67 := fun args w => by go_simp
def cz_C67 (a b d e : Int) : Cz := {
  ct := (fun f => match f with
  | _ => none)
  eq := (fun t => match t with
  | _ => none)
  raw := [], sym := [], nf := [(8, bv false), (10, iv .i64 1), (13, iv .i64 e), (15, iv .i64 e), (42, iv .i64 a), (55, iv .i64 b), (68, iv .i64 d)], ap := true, off := [], on := [], lp := fun _ => none, un := 0 }
set_option maxRecDepth 100000 in
set_option maxHeartbeats 400000 in
theorem C67 (s0 s1 s2 s3 c : Int) (a b d e : Int) (h0 : 0 ≤ s0 ∧ s0 ≤ 1000000000) (h1 : 0 ≤ s1 ∧ s1 ≤ 1000000000) (h2 : 0 ≤ s2 ∧ s2 ≤ 1000000000) (h3 : 0 ≤ s3 ∧ s3 ≤ 1000000000) (h4 : 0 ≤ c ∧ c ≤ 1000000000) (ha : 0 ≤ a ∧ a < 256) (hb : 0 ≤ b ∧ b < 256) (hd : 0 ≤ d ∧ d < 256) (he : 0 ≤ e ∧ e < 256) : CallOK Tryz.prog 67 [.c (.l (.p 0 0)), ag [u8 a, u8 b, u8 d, u8 e], iv .i64 1] [(0, ⟨[li s3, li s0, li s1, li s2, li c], .t 130⟩)] 1 (.tup []) [(0, ⟨[li (s3 + e), li (s0 + e * a), li (s1 + e * b), li (s2 + e * d), li (c + 1)], .t 130⟩)] 0 := by
  have pa := mul_bd he ha
  have pb := mul_bd he hb
  have pd := mul_bd he hd
  have wa := u8w ha
  have wb := u8w hb
  have wd := u8w hd
  have we := u8w he
  refine call_ok (cx := cz_C67 a b d e) (nm := []) rfl Tryz.func67 (body := Tryz.f67.body.getD .skip) rfl enters67 (by kernel_rfl) ?_
  apply of_eq (q := Le (bv (decide (1 < 1))) (bv false) ∧ Le (iv IntKind.i64 (imin 1 65536)) (iv IntKind.i64 1) ∧ Le (iv IntKind.i64 (IntKind.i64.wrap e)) (iv IntKind.i64 e) ∧ IntKind.i64.wrap (e * 1) = e * 1 ∧ Le (iv IntKind.i64 (e * 1)) (iv IntKind.i64 e) ∧ IntKind.i64.wrap (c + 1) = c + 1 ∧ IntKind.i64.wrap (s3 + e) = s3 + e ∧ Le (iv IntKind.i64 (IntKind.i64.wrap a)) (iv IntKind.i64 a) ∧ IntKind.i64.wrap (e * a) = e * a ∧ IntKind.i64.wrap (s0 + e * a) = s0 + e * a ∧ Le (iv IntKind.i64 (IntKind.i64.wrap b)) (iv IntKind.i64 b) ∧ IntKind.i64.wrap (e * b) = e * b ∧ IntKind.i64.wrap (s1 + e * b) = s1 + e * b ∧ Le (iv IntKind.i64 (IntKind.i64.wrap d)) (iv IntKind.i64 d) ∧ IntKind.i64.wrap (e * d) = e * d ∧ IntKind.i64.wrap (s2 + e * d) = s2 + e * d ∧ Le (SV.tup []) (SV.tup []) ∧ BkR (rnId 1 0 []) (Blk.mk [li (s3 + e), li (s0 + e * a), li (s1 + e * b), li (s2 + e * d), li (c + 1)] (BT.t 130)) (Blk.mk [li (s3 + e), li (s0 + e * a), li (s1 + e * b), li (s2 + e * d), li (c + 1)] (BT.t 130)) ∧ True) (by kernel_rfl)
  repeat' (first | exact trivial | with_reducible apply And.intro | (with_reducible apply HB.mk) | with_reducible intro _)
  all_goals first
    | (with_reducible assumption)
    | (with_reducible exact Le.refl _)
    | (with_reducible rfl)
    | (with_reducible exact Le.int wa)
    | (with_reducible exact Le.int wb)
    | (with_reducible exact Le.int wd)
    | (with_reducible exact Le.int we)
    | (with_reducible exact Le.int (Int.mul_one _))
    | (exact Le.bool rfl)
    | (exact Le.int rfl)
    | ((rw [Int.mul_one]; exact okw _ (by omega) (by omega)))
    | (exact BkR.of (by kernel_rfl))
    | (exact okw _ (by omega) (by omega))
    | (exact Le.of rfl)
    | (exact BkR.of rfl)
    | (unfold SlOK; omega)
    | (unfold SlOK; decide)
    | (unfold inByte; decide)
    | (simp only [*, Bool.and_self, Bool.not_false, Bool.not_true]; done)
    | (simp_all [wants]; done)
theorem C67g (s0 s1 s2 s3 c : Int) (a b d e : Int) (h0 : 0 ≤ s0 ∧ s0 ≤ 1000000000) (h1 : 0 ≤ s1 ∧ s1 ≤ 1000000000) (h2 : 0 ≤ s2 ∧ s2 ≤ 1000000000) (h3 : 0 ≤ s3 ∧ s3 ≤ 1000000000) (h4 : 0 ≤ c ∧ c ≤ 1000000000) (ha : 0 ≤ a ∧ a < 256) (hb : 0 ≤ b ∧ b < 256) (hd : 0 ≤ d ∧ d < 256) (he : 0 ≤ e ∧ e < 256) (id n : Nat) (hi : id < n) : CallOK Tryz.prog 67 [.c (.l (.p id 0)), ag [u8 a, u8 b, u8 d, u8 e], iv .i64 1] [(id, ⟨[li s3, li s0, li s1, li s2, li c], .t 130⟩)] n (.tup []) [(id, ⟨[li (s3 + e), li (s0 + e * a), li (s1 + e * b), li (s2 + e * d), li (c + 1)], .t 130⟩)] 0 :=
  CallOK.at1 (C67 s0 s1 s2 s3 c a b d e h0 h1 h2 h3 h4 ha hb hd he) id n hi
theorem enters68 : Enters Tryz.prog 68 := fun args w => by go_simp
def cz_C68 : Cz := {
  ct := (fun f => match f with
  | 130 => some fun _ _S ar => match ar with | [.c (.l (.v (.int _ a))), .c (.l (.v (.int _ b)))] => some { v := iv .i64 (rnd a b), rd := [], wr := [], nw := 0 } | _ => none
  | _ => none)
  eq := (fun t => match t with
  | _ => none)
  raw := [], sym := [], nf := [(8, bv false)], ap := true, off := [], on := [], lp := fun _ => none, un := 0, wh := [36] }
set_option maxRecDepth 100000 in
set_option maxHeartbeats 400000 in
theorem C68 (s0 s1 s2 s3 : Int) (h0 : 0 ≤ s0 ∧ s0 ≤ 10000000) (h1 : 0 ≤ s1 ∧ s1 ≤ 10000000) (h2 : 0 ≤ s2 ∧ s2 ≤ 10000000) (h3 : 0 ≤ s3 ∧ s3 ≤ 10000000) : CallOK Tryz.prog 68 [.c (.l (.p 0 0))] [(0, ⟨[li s3, li s0, li s1, li s2, li 64], .t 130⟩)] 1 (ag [u8 (mch s0 s3), u8 (mch s1 s3), u8 (mch s2 s3), u8 (mal s3)]) [] 0 := by
  have hpos := rnd_pos (s := s3) h3.1
  refine call_ok (cx := cz_C68) (nm := []) rfl Tryz.func68 (body := Tryz.f68.body.getD .skip) rfl enters68 (by kernel_rfl) ?_
  apply of_eq (q := Le (bv (64 == 0)) (bv false) ∧ CallOKd Tryz.prog 130 [] [iv IntKind.i64 s3, iv IntKind.i64 64] [] 2 (iv IntKind.i64 (rnd s3 64)) [] 0 ∧ HB (rnd s3 64 == 0) (0 = 0 ∧ 4 = 4 ∧ Le (ag [Leaf.v (Value.int IntKind.u8 0), Leaf.v (Value.int IntKind.u8 0), Leaf.v (Value.int IntKind.u8 0), Leaf.v (Value.int IntKind.u8 0)]) (ag [Leaf.v (Value.int IntKind.u8 (mch s0 s3)), Leaf.v (Value.int IntKind.u8 (mch s1 s3)), Leaf.v (Value.int IntKind.u8 (mch s2 s3)), Leaf.v (Value.int IntKind.u8 (mal s3))]) ∧ True) (CallOKd Tryz.prog 130 [] [iv IntKind.i64 s0, iv IntKind.i64 s3] [] 2 (iv IntKind.i64 (rnd s0 s3)) [] 0 ∧ CallOKd Tryz.prog 130 [] [iv IntKind.i64 s1, iv IntKind.i64 s3] [] 2 (iv IntKind.i64 (rnd s1 s3)) [] 0 ∧ CallOKd Tryz.prog 130 [] [iv IntKind.i64 s2, iv IntKind.i64 s3] [] 2 (iv IntKind.i64 (rnd s2 s3)) [] 0 ∧ 0 = 0 ∧ 4 = 4 ∧ Le (ag [Leaf.v (Value.int IntKind.u8 (IntKind.u8.wrap (rnd s0 s3))), Leaf.v (Value.int IntKind.u8 (IntKind.u8.wrap (rnd s1 s3))), Leaf.v (Value.int IntKind.u8 (IntKind.u8.wrap (rnd s2 s3))), Leaf.v (Value.int IntKind.u8 (IntKind.u8.wrap (rnd s3 64)))]) (ag [Leaf.v (Value.int IntKind.u8 (mch s0 s3)), Leaf.v (Value.int IntKind.u8 (mch s1 s3)), Leaf.v (Value.int IntKind.u8 (mch s2 s3)), Leaf.v (Value.int IntKind.u8 (mal s3))]) ∧ True)) (by kernel_rfl)
  repeat' (first | exact trivial | with_reducible apply And.intro | (with_reducible apply HB.mk) | with_reducible intro _)
  all_goals first
    | (with_reducible assumption)
    | (with_reducible exact Le.refl _)
    | (with_reducible rfl)
    | (((with_reducible refine C130 _ _ ?_ ?_ ?_ ?_ _) <;> first | omega | exact hpos (by with_reducible assumption)))
    | (exact Le.bool rfl)
    | ((refine Le.of ?_; unfold mch mal; rw [((by with_reducible assumption) : (rnd s3 64 == 0) = true)]; rfl))
    | ((refine Le.of ?_; unfold mch mal; rw [((by with_reducible assumption) : (rnd s3 64 == 0) = false)]; rfl))
    | (exact okw _ (by omega) (by omega))
    | (exact Le.of rfl)
    | (exact BkR.of rfl)
    | (unfold SlOK; omega)
    | (unfold SlOK; decide)
    | (unfold inByte; decide)
    | (simp only [*, Bool.and_self, Bool.not_false, Bool.not_true]; done)
    | (simp_all [wants]; done)
theorem C68g (s0 s1 s2 s3 : Int) (h0 : 0 ≤ s0 ∧ s0 ≤ 10000000) (h1 : 0 ≤ s1 ∧ s1 ≤ 10000000) (h2 : 0 ≤ s2 ∧ s2 ≤ 10000000) (h3 : 0 ≤ s3 ∧ s3 ≤ 10000000) (id n : Nat) (hi : id < n) : CallOK Tryz.prog 68 [.c (.l (.p id 0))] [(id, ⟨[li s3, li s0, li s1, li s2, li 64], .t 130⟩)] n (ag [u8 (mch s0 s3), u8 (mch s1 s3), u8 (mch s2 s3), u8 (mal s3)]) [] 0 :=
  CallOK.at1 (C68 s0 s1 s2 s3 h0 h1 h2 h3) id n hi
def I17 (t : Nat → UInt8) (k : Nat) : St := ⟨[(4, iv .i64 (k : Nat)), (3, .c (.l (.p 2 0))), (2, .c (.l (.p 1 0))), (1, .c (.l (.p 0 0)))], [(0, some ⟨tl t, .t 38⟩), (1, some ⟨[u8 0, u8 0, u8 0, u8 0], .t 36⟩), (2, some ⟨[li (mS t 3 k), li (mS t 0 k), li (mS t 1 k), li (mS t 2 k), li (k : Nat)], .t 130⟩)], 3, 18, [2, 1, 0], (0)⟩
def W67 (S : St) (i : Nat) (a b d e : Int) : Blk := match S.blk i with | some ⟨[.v (.int _ s3), .v (.int _ s0), .v (.int _ s1), .v (.int _ s2), .v (.int _ c)], _⟩ => ⟨[li (s3 + e), li (s0 + e * a), li (s1 + e * b), li (s2 + e * d), li (c + 1)], .t 130⟩ | _ => ⟨[], .t 0⟩
def V68 (S : St) (i : Nat) : SV := match S.blk i with | some ⟨[.v (.int _ s3), .v (.int _ s0), .v (.int _ s1), .v (.int _ s2), _], _⟩ => ag [u8 (mch s0 s3), u8 (mch s1 s3), u8 (mch s2 s3), u8 (mal s3)] | _ => .u
theorem mS3 (t : Nat → UInt8) (k : Nat) : mS t 3 k + ((t (4 * k + 3)).toNat : Nat) = mS t 3 (k + 1) := by
  rw [mS]; show _ = mS t 3 k + _ * 1; rw [Int.mul_one]
theorem tl_pix' (t : Nat → UInt8) {k : Nat} (h : k < 64) : List.take 4 (List.drop (0 + ((k : Nat) : Int).toNat * 4) (tl t)) = [ub (t (4 * k)), ub (t (4 * k + 1)), ub (t (4 * k + 2)), ub (t (4 * k + 3))] := by
  rw [show 0 + ((k : Nat) : Int).toNat * 4 = k * 4 by omega, tl_pix _ h]; rfl
def cz_R17 (t : Nat → UInt8) (k : Nat) : Cz := {
  ct := (fun f => match f with
  | 67 => some fun _ _S ar => match ar with | [.c (.l (.p i _)), .c (.agg [.v (.int _ a), .v (.int _ b), .v (.int _ d), .v (.int _ e)]), .c (.l (.v (.int _ 1)))] => some { v := .tup [], rd := [i], wr := [(i, W67 _S i a b d e)], nw := 0 } | _ => none
  | 68 => some fun _ _S ar => match ar with | [.c (.l (.p i _))] => some { v := V68 _S i, rd := [i], wr := [], nw := 0 } | _ => none
  | _ => none)
  eq := (fun t => match t with
  | _ => none)
  raw := [], sym := [13, 14], nf := [(14, .c (.agg [ub (t (4 * k)), ub (t (4 * k + 1)), ub (t (4 * k + 2)), ub (t (4 * k + 3))]))], ap := true, off := [], on := [], lp := fun _ => none, un := 0 }
set_option maxRecDepth 100000 in
theorem R17 (t : Nat → UInt8) (k : Nat)  (K : Exit → St → Prop) (h : HB (decide ((Nat.cast k : Int) < 64)) (InR ((Nat.cast k : Int)) 64 ∧ 0 + ((Nat.cast k : Int)).toNat * 4 + 4 ≤ 256 ∧ Le (ag (List.take 4 (List.drop (0 + ((Nat.cast k : Int)).toNat * 4) (tl t)))) (ag [Leaf.v (Value.int IntKind.u8 (Nat.cast ((t (4 * k)).toNat) : Int)), Leaf.v (Value.int IntKind.u8 (Nat.cast ((t (4 * k + 1)).toNat) : Int)), Leaf.v (Value.int IntKind.u8 (Nat.cast ((t (4 * k + 2)).toNat) : Int)), Leaf.v (Value.int IntKind.u8 (Nat.cast ((t (4 * k + 3)).toNat) : Int))]) ∧ CallOKd Tryz.prog 67 [] [SV.c (Cp.l (Leaf.p 2 0)), ag [Leaf.v (Value.int IntKind.u8 (Nat.cast ((t (4 * k)).toNat) : Int)), Leaf.v (Value.int IntKind.u8 (Nat.cast ((t (4 * k + 1)).toNat) : Int)), Leaf.v (Value.int IntKind.u8 (Nat.cast ((t (4 * k + 2)).toNat) : Int)), Leaf.v (Value.int IntKind.u8 (Nat.cast ((t (4 * k + 3)).toNat) : Int))], iv IntKind.i64 1] [(2, Blk.mk [li (mS t 3 k), li (mS t 0 k), li (mS t 1 k), li (mS t 2 k), li (Nat.cast k : Int)] (BT.t 130))] 3 (SV.tup []) [(2, Blk.mk [li (mS t 3 k + (Nat.cast ((t (4 * k + 3)).toNat) : Int)), li (mS t 0 k + (Nat.cast ((t (4 * k + 3)).toNat) : Int) * (Nat.cast ((t (4 * k)).toNat) : Int)), li (mS t 1 k + (Nat.cast ((t (4 * k + 3)).toNat) : Int) * (Nat.cast ((t (4 * k + 1)).toNat) : Int)), li (mS t 2 k + (Nat.cast ((t (4 * k + 3)).toNat) : Int) * (Nat.cast ((t (4 * k + 2)).toNat) : Int)), li ((Nat.cast k : Int) + 1)] (BT.t 130))] 0 ∧ IntKind.i64.wrap ((Nat.cast k : Int) + 1) = (Nat.cast k : Int) + 1 ∧ RoundTo Tryz.prog ((getLoop 3 (Tryz.f17.body.getD Code.skip)).getD Code.skip) 3 (wkK 3 K) (St.mk [(4, iv IntKind.i64 ((Nat.cast k : Int) + 1)), (10, iv IntKind.i64 ((Nat.cast k : Int) + 1)), (9, iv IntKind.i64 (Nat.cast k : Int)), (15, SV.tup []), (14, ag [Leaf.v (Value.int IntKind.u8 (Nat.cast ((t (4 * k)).toNat) : Int)), Leaf.v (Value.int IntKind.u8 (Nat.cast ((t (4 * k + 1)).toNat) : Int)), Leaf.v (Value.int IntKind.u8 (Nat.cast ((t (4 * k + 2)).toNat) : Int)), Leaf.v (Value.int IntKind.u8 (Nat.cast ((t (4 * k + 3)).toNat) : Int))]), (13, SV.c (Cp.l (Leaf.p 0 (0 + ((Nat.cast k : Int)).toNat * 4)))), (12, iv IntKind.i64 (Nat.cast k : Int)), (11, SV.c (Cp.l (Leaf.p 2 0))), (8, bv (decide ((Nat.cast k : Int) < 64))), (7, iv IntKind.i64 (Nat.cast k : Int)), (4, iv IntKind.i64 (Nat.cast k : Int)), (3, SV.c (Cp.l (Leaf.p 2 0))), (2, SV.c (Cp.l (Leaf.p 1 0))), (1, SV.c (Cp.l (Leaf.p 0 0)))] [(2, some (Blk.mk [li (mS t 3 k + (Nat.cast ((t (4 * k + 3)).toNat) : Int)), li (mS t 0 k + (Nat.cast ((t (4 * k + 3)).toNat) : Int) * (Nat.cast ((t (4 * k)).toNat) : Int)), li (mS t 1 k + (Nat.cast ((t (4 * k + 3)).toNat) : Int) * (Nat.cast ((t (4 * k + 1)).toNat) : Int)), li (mS t 2 k + (Nat.cast ((t (4 * k + 3)).toNat) : Int) * (Nat.cast ((t (4 * k + 2)).toNat) : Int)), li ((Nat.cast k : Int) + 1)] (BT.t 130))), (0, some (Blk.mk (tl t) (BT.t 38))), (1, some (Blk.mk [Leaf.v (Value.int IntKind.u8 0), Leaf.v (Value.int IntKind.u8 0), Leaf.v (Value.int IntKind.u8 0), Leaf.v (Value.int IntKind.u8 0)] (BT.t 36))), (2, some (Blk.mk [li (mS t 3 k), li (mS t 0 k), li (mS t 1 k), li (mS t 2 k), li (Nat.cast k : Int)] (BT.t 130)))] 3 18 [2, 2, 1, 0] 0)) (wkK 3 K (Exit.exit 0) (St.mk [(8, bv (decide ((Nat.cast k : Int) < 64))), (7, iv IntKind.i64 (Nat.cast k : Int)), (4, iv IntKind.i64 (Nat.cast k : Int)), (3, SV.c (Cp.l (Leaf.p 2 0))), (2, SV.c (Cp.l (Leaf.p 1 0))), (1, SV.c (Cp.l (Leaf.p 0 0)))] [(0, some (Blk.mk (tl t) (BT.t 38))), (1, some (Blk.mk [Leaf.v (Value.int IntKind.u8 0), Leaf.v (Value.int IntKind.u8 0), Leaf.v (Value.int IntKind.u8 0), Leaf.v (Value.int IntKind.u8 0)] (BT.t 36))), (2, some (Blk.mk [li (mS t 3 k), li (mS t 0 k), li (mS t 1 k), li (mS t 2 k), li (Nat.cast k : Int)] (BT.t 130)))] 3 18 [2, 1, 0] 0))) : WPL Tryz.prog ((getLoop 3 (Tryz.f17.body.getD .skip)).getD .skip) (I17 t k) (wkK 3 K) :=
  wp_round (cx := cz_R17 t k) rfl (of_eq (by kernel_rfl) h)
set_option maxRecDepth 100000 in
set_option maxHeartbeats 4000000 in
theorem L17 (t : Nat → UInt8)  : ∀ (m k : Nat), 64 - k = m → k ≤ 64 → ∀ (K : Exit → St → Prop), K (.exit 0) (I17 t 64) → WPL Tryz.prog ((getLoop 3 (Tryz.f17.body.getD .skip)).getD .skip) (I17 t k) (wkK 3 K)
  | 0, k, hm, hk, K, hK => by
    have e : k = 64 := by omega
    subst e
    refine R17 t _ K (HB.mk (fun hne => absurd (of_decide_eq_true hne) (by omega)) (fun he => ?_))
    exact wkK.to (I17 t _) (Nat.le_refl _) (by kernel_rfl) (wkE_cons (LeN.sl (by kernel_rfl) rfl) (wkE_cons (LeN.sl (by kernel_rfl) rfl) (wkE_cons (LeN.sl (by kernel_rfl) rfl) (wkE_cons (LeN.sl (by kernel_rfl) rfl) trivial)))) (wkH_cons (BkN.plain (cs := tl t) (b := .t 38) (by kernel_rfl) (rfl) (plain_tl t) (by kernel_rfl)) (wkH_cons (BkN.blk (k := ⟨[u8 0, u8 0, u8 0, u8 0], .t 36⟩) (by kernel_rfl) (rfl) (by kernel_rfl)) (wkH_cons (BkN.blk (k := ⟨[li (mS t 3 64), li (mS t 0 64), li (mS t 1 64), li (mS t 2 64), li (64 : Nat)], .t 130⟩) (by kernel_rfl) (rfl) (by kernel_rfl)) trivial))) hK
  | m + 1, k, hm, hk, K, hK => by
    refine R17 t k K (HB.mk (fun hne => ?_) (fun he => absurd (show ((k : Nat) : Int) < (64 : Nat) by omega) (of_decide_eq_false he)))
    have hlt : k < 64 := by omega
    repeat' (first | exact trivial | with_reducible apply And.intro | (with_reducible apply HB.mk) | with_reducible intro _)
    all_goals first
      | (with_reducible assumption)
      | (with_reducible exact Le.refl _)
      | (with_reducible rfl)
      | (((with_reducible refine C67g _ _ _ _ _ _ _ _ _ ?_ ?_ ?_ ?_ ?_ ?_ ?_ ?_ ?_ _ _ ?_) <;> first | exact okb _ | exact mS_b' t _ (Nat.le_of_lt hlt) | omega))
      | (exact ⟨by omega, by omega⟩)
      | ((rw [tl_len]; omega))
      | (exact Le.of (congrArg (fun l => SV.c (.agg l)) (tl_pix' t hlt)))
      | (omega)
      | ((with_reducible refine RoundTo.toN 3 (I17 t (k + 1)) ?_ ?_ ?_ ?_ ?_); exact Nat.le_refl _; kernel_rfl; exact (wkE_cons (LeN.sl (by kernel_rfl) rfl) (wkE_cons (LeN.sl (by kernel_rfl) rfl) (wkE_cons (LeN.sl (by kernel_rfl) rfl) (wkE_cons (LeN.sl (by kernel_rfl) rfl) trivial)))); exact (wkH_cons (BkN.plain (cs := tl t) (b := .t 38) (by kernel_rfl) (rfl) (plain_tl t) (by kernel_rfl)) (wkH_cons (BkN.blk (k := ⟨[u8 0, u8 0, u8 0, u8 0], .t 36⟩) (by kernel_rfl) (rfl) (by kernel_rfl)) (wkH_cons (BkN.blk (k := ⟨[li (mS t 3 k + ((t (4 * k + 3)).toNat : Nat)), li (mS t 0 k + ((t (4 * k + 3)).toNat : Nat) * ((t (4 * k)).toNat : Nat)), li (mS t 1 k + ((t (4 * k + 3)).toNat : Nat) * ((t (4 * k + 1)).toNat : Nat)), li (mS t 2 k + ((t (4 * k + 3)).toNat : Nat) * ((t (4 * k + 2)).toNat : Nat)), li (((k : Nat) : Int) + 1)], .t 130⟩) (by kernel_rfl) (by rw [mS3]; rfl) (by kernel_rfl)) trivial))); exact (L17 t  m (k + 1) (by omega) (by omega) K hK))
      | (exact okw _ (by omega) (by omega))
      | (exact Le.of rfl)
      | (exact BkR.of rfl)
      | (unfold SlOK; omega)
      | (unfold SlOK; decide)
      | (unfold inByte; decide)
      | (simp only [*, Bool.and_self, Bool.not_false, Bool.not_true]; done)
      | (simp_all [wants]; done)
theorem enters17 : Enters Tryz.prog 17 := fun args w => by go_simp
def cz_C17 (t : Nat → UInt8) : Cz := {
  ct := (fun f => match f with
  | 67 => some fun _ _S ar => match ar with | [.c (.l (.p i _)), .c (.agg [.v (.int _ a), .v (.int _ b), .v (.int _ d), .v (.int _ e)]), .c (.l (.v (.int _ 1)))] => some { v := .tup [], rd := [i], wr := [(i, W67 _S i a b d e)], nw := 0 } | _ => none
  | 68 => some fun _ _S ar => match ar with | [.c (.l (.p i _))] => some { v := V68 _S i, rd := [i], wr := [], nw := 0 } | _ => none
  | _ => none)
  eq := (fun t => match t with
  | _ => none)
  raw := [], sym := [], nf := [], ap := true, off := [], on := [], lp := fun r => match r with | 3 => some (fun _ K => K (.exit 0) (I17 t 64)) | _ => none, un := 0, wh := [36] }
set_option maxRecDepth 100000 in
set_option maxHeartbeats 400000 in
theorem C17 (t : Nat → UInt8)  (n : Nat) : CallOK Tryz.prog 17 [.c (.agg (tl t))] [] n (ag (meanL t)) [] 0 := by
  refine CallOK.any ?_ (by kernel_rfl) (by kernel_rfl) n
  refine call_ok (cx := cz_C17 t) (nm := []) rfl Tryz.func17 (body := Tryz.f17.body.getD .skip) rfl enters17 (by kernel_rfl) ?_
  apply of_eq (q := (LoopOK Tryz.prog ((getLoop 3 (Tryz.f17.body.getD .skip)).getD .skip) (St.mk [(4, iv IntKind.i64 0), (3, SV.c (Cp.l (Leaf.p 2 0))), (6, SV.c (Cp.l (Leaf.p 2 0))), (5, ag [li 0, li 0, li 0, li 0, li 0]), (2, SV.c (Cp.l (Leaf.p 1 0))), (1, SV.c (Cp.l (Leaf.p 0 0))), (0, ag (tl t))] [(2, some (Blk.mk [li 0, li 0, li 0, li 0, li 0] (BT.t 130))), (1, some (Blk.mk [Leaf.v (Value.int IntKind.u8 0), Leaf.v (Value.int IntKind.u8 0), Leaf.v (Value.int IntKind.u8 0), Leaf.v (Value.int IntKind.u8 0)] (BT.t 36))), (0, some (Blk.mk (tl t) (BT.t 38)))] 3 18 [2, 1, 0] 0) fun K => K (Exit.exit 0) (I17 t 64)) ∧ CallOKd Tryz.prog 68 [] [SV.c (Cp.l (Leaf.p 2 0))] [(2, Blk.mk [li (mS t 3 64), li (mS t 0 64), li (mS t 1 64), li (mS t 2 64), li (Nat.cast 64 : Int)] (BT.t 130))] 3 (ag [Leaf.v (Value.int IntKind.u8 (mch (mS t 0 64) (mS t 3 64))), Leaf.v (Value.int IntKind.u8 (mch (mS t 1 64) (mS t 3 64))), Leaf.v (Value.int IntKind.u8 (mch (mS t 2 64) (mS t 3 64))), Leaf.v (Value.int IntKind.u8 (mal (mS t 3 64)))]) [] 0 ∧ 0 = 0 ∧ 4 = 4 ∧ Le (ag [Leaf.v (Value.int IntKind.u8 (mch (mS t 0 64) (mS t 3 64))), Leaf.v (Value.int IntKind.u8 (mch (mS t 1 64) (mS t 3 64))), Leaf.v (Value.int IntKind.u8 (mch (mS t 2 64) (mS t 3 64))), Leaf.v (Value.int IntKind.u8 (mal (mS t 3 64)))]) (ag [Leaf.v (Value.int IntKind.u8 (mch (mS t 0 64) (mS t 3 64))), Leaf.v (Value.int IntKind.u8 (mch (mS t 1 64) (mS t 3 64))), Leaf.v (Value.int IntKind.u8 (mch (mS t 2 64) (mS t 3 64))), Leaf.v (Value.int IntKind.u8 (mal (mS t 3 64)))]) ∧ True) (by kernel_rfl)
  repeat' (first | exact trivial | with_reducible apply And.intro | (with_reducible apply HB.mk) | with_reducible intro _)
  all_goals first
    | (with_reducible assumption)
    | (with_reducible exact Le.refl _)
    | (with_reducible rfl)
    | (((with_reducible refine C68g _ _ _ _ ?_ ?_ ?_ ?_ _ _ ?_) <;> first | exact mS_b t _ (Nat.le_refl _) | decide))
    | (exact LoopOK.mk (I17 t 0) rfl (by kernel_rfl) (wkE_cons (LeN.sl (by kernel_rfl) rfl) (wkE_cons (LeN.sl (by kernel_rfl) rfl) (wkE_cons (LeN.sl (by kernel_rfl) rfl) (wkE_cons (LeN.sl (by kernel_rfl) rfl) trivial)))) (wkH_cons (BkN.plain (cs := tl t) (b := .t 38) (by kernel_rfl) (rfl) (plain_tl t) (by kernel_rfl)) (wkH_cons (BkN.blk (k := ⟨[u8 0, u8 0, u8 0, u8 0], .t 36⟩) (by kernel_rfl) (rfl) (by kernel_rfl)) (wkH_cons (BkN.blk (k := ⟨[li (mS t 3 0), li (mS t 0 0), li (mS t 1 0), li (mS t 2 0), li (0 : Nat)], .t 130⟩) (by kernel_rfl) (rfl) (by kernel_rfl)) trivial))) (fun K hT => L17 t  _ 0 rfl (by first | decide | omega) K hT))
    | (((refine C68g _ _ _ _ ?_ ?_ ?_ ?_ _ _ ?_)) <;> first | exact mS_b t _ (Nat.le_refl _) | decide)
    | (exact okw _ (by omega) (by omega))
    | (exact Le.of rfl)
    | (exact BkR.of rfl)
    | (unfold SlOK; omega)
    | (unfold SlOK; decide)
    | (unfold inByte; decide)
    | (simp only [*, Bool.and_self, Bool.not_false, Bool.not_true]; done)
    | (simp_all [wants]; done)
theorem mean_ext {t u : Nat → UInt8} (h : ∀ i, i < 256 → t i = u i) : meanL t = meanL u := by
  have hs : ∀ c k, k ≤ 64 → mS t c k = mS u c k := by
    intro c k
    induction k with
    | zero => intro _; rfl
    | succ k ih =>
      intro hk
      rw [mS, mS, ih (by omega), h (4 * k + 3) (by omega)]
      have : ch t c k = ch u c k := by
        unfold ch
        split
        · rw [h (4 * k) (by omega)]
        · rw [h (4 * k + 1) (by omega)]
        · rw [h (4 * k + 2) (by omega)]
        · rfl
      rw [this]
  unfold meanL
  rw [hs 0 64 (by omega), hs 1 64 (by omega), hs 2 64 (by omega), hs 3 64 (by omega)]
end Ab
end Go.Proofs.YtpdckpifhniioaaGreat
end
section
set_option linter.unusedVariables false
set_option linter.unusedSimpArgs false
namespace Go.Proofs.YtpdckpifhniioaaGreat
open Go.RowKit
namespace Ab
attribute [local irreducible] CallOKd
def insB (x y : Int) : Bool := bif bif bif decide (x ≥ 0) then decide (x < 8) else false then decide (y ≥ 0) else false then decide (y < 8) else false
structure GoodX (L : List EN) : Prop where
  x : ∀ k, k < L.length → -8192 ≤ (ea L k).X ∧ (ea L k).X ≤ 8191
  y : ∀ k, k < L.length → -8192 ≤ (ea L k).Y ∧ (ea L k).Y ≤ 8191
def pIn (L : List EN) (px py : Int) (k : Nat) : Bool := insB ((ea L k).X - 8 * px) ((ea L k).Y - 8 * py)
def pAt (L : List EN) (px py : Int) (k : Nat) : Nat := (8 * ((ea L k).Y - 8 * py) + ((ea L k).X - 8 * px)).toNat
/-- The preview after k entries. -/
def pvT (L : List EN) (px py : Int) : Nat → Nat → UInt8
  | 0 => zT
  | k + 1 => bif pIn L px py k then setP (pvT L px py k) (pAt L px py k) (ea L k).a (ea L k).b (ea L k).c (ea L k).d else pvT L px py k
def I16 (L : List EN) (px py : Int) (k : Nat) : St := ⟨[(19, iv .i64 (k : Nat)), (18, iv .i64 (L.length : Nat)), (17, .c (.l (.o 1 L.length))), (3, .c (.l (.p 2 0))), (4, .c (.l (.p 3 0))), (6, .c (.l (.p 4 0)))], [(1, some ⟨ens L, .r 123 8 1⟩), (2, some ⟨[li px, li py], .t 40⟩), (3, some ⟨tl zT, .t 38⟩), (4, some ⟨tl (pvT L px py k), .t 38⟩)], 5, 60, [4, 3, 2], (2)⟩
theorem insB_t {x y : Int} (h : insB x y = true) : 0 ≤ x ∧ x < 8 ∧ 0 ≤ y ∧ y < 8 := by
  unfold insB at h
  by_cases h1 : x ≥ 0
  · by_cases h2 : x < 8
    · by_cases h3 : y ≥ 0
      · by_cases h4 : y < 8
        · exact ⟨h1, h2, h3, h4⟩
        · simp [h1, h2, h3, h4] at h
      · simp [h1, h2, h3] at h
    · simp [h1, h2] at h
  · simp [h1] at h
theorem insB_of {x y : Int} (h : 0 ≤ x ∧ x < 8 ∧ 0 ≤ y ∧ y < 8) : insB x y = true := by
  unfold insB
  rw [decide_eq_true h.1, decide_eq_true h.2.1, decide_eq_true h.2.2.1, decide_eq_true h.2.2.2]; rfl
theorem pv_t {L : List EN} {px py : Int} {k : Nat} (h : pIn L px py k = true) : tl (setP (pvT L px py k) (pAt L px py k) (ea L k).a (ea L k).b (ea L k).c (ea L k).d) = tl (pvT L px py (k + 1)) := by
  rw [pvT, h]; rfl
theorem pv_f {L : List EN} {px py : Int} {k : Nat} (h : pIn L px py k = false) : pvT L px py (k + 1) = pvT L px py k := by
  rw [pvT, h]; rfl
theorem pIn_eq (L : List EN) (px py : Int) (k : Nat) : (bif bif bif decide ((ea L k).X - 8 * px ≥ 0) then decide ((ea L k).X - 8 * px < 8) else false then decide ((ea L k).Y - 8 * py ≥ 0) else false then decide ((ea L k).Y - 8 * py < 8) else false) = pIn L px py k := rfl
theorem set_px (t : Nat → UInt8) {k : Nat} (h : k < 64) (a b c d : UInt8) : List.take 256 (List.drop 0 (splice (tl t) (0 + k * 4) [ub a, ub b, ub c, ub d])) = tl (setP t k a b c d) := by rw [List.drop_zero, Nat.zero_add, tl_set _ h, tl_take]
theorem en_px (e : EN) : List.take 4 (List.drop 2 (en e)) = [ub e.a, ub e.b, ub e.c, ub e.d] := rfl
theorem enters128 : Enters Tryz.prog 128 := fun args w => by go_simp
def cz_C128 : Cz := {
  ct := (fun f => match f with
  | _ => none)
  eq := (fun t => match t with
  | _ => none)
  raw := [], sym := [], nf := [], ap := true, off := [], on := [], lp := fun _ => none, un := 0 }
set_option maxRecDepth 100000 in
set_option maxHeartbeats 400000 in
theorem C128 (x y : Int)  (n : Nat) : CallOK Tryz.prog 128 [iv .i64 x, iv .i64 y] [] n (bv (insB x y)) [] 0 := by
  refine CallOK.any ?_ (by kernel_rfl) (by kernel_rfl) n
  refine call_ok (cx := cz_C128) (nm := []) rfl Tryz.func128 (body := Tryz.f128.body.getD .skip) rfl enters128 (by kernel_rfl) ?_
  apply of_eq (q := (decide (x ≥ 0) = true → decide (x ≥ 0) = true ∧ True) ∧ (decide (x ≥ 0) = true → decide (x ≥ 0) = true) ∧ ((bif decide (x ≥ 0) then decide (x < 8) else false) = true → (bif decide (x ≥ 0) then decide (x < 8) else false) = true ∧ True) ∧ ((bif decide (x ≥ 0) then decide (x < 8) else false) = true → (bif decide (x ≥ 0) then decide (x < 8) else false) = true) ∧ ((bif bif decide (x ≥ 0) then decide (x < 8) else false then decide (y ≥ 0) else false) = true → (bif bif decide (x ≥ 0) then decide (x < 8) else false then decide (y ≥ 0) else false) = true ∧ True) ∧ ((bif bif decide (x ≥ 0) then decide (x < 8) else false then decide (y ≥ 0) else false) = true → (bif bif decide (x ≥ 0) then decide (x < 8) else false then decide (y ≥ 0) else false) = true) ∧ Le (bv (bif bif bif decide (x ≥ 0) then decide (x < 8) else false then decide (y ≥ 0) else false then decide (y < 8) else false)) (bv (insB x y)) ∧ True) (by kernel_rfl)
  repeat' (first | exact trivial | with_reducible apply And.intro | (with_reducible apply HB.mk) | with_reducible intro _)
  all_goals first
    | (with_reducible assumption)
    | (with_reducible exact Le.refl _)
    | (with_reducible rfl)
    | (exact Le.bool rfl)
    | (exact okw _ (by omega) (by omega))
    | (exact Le.of rfl)
    | (exact BkR.of rfl)
    | (unfold SlOK; omega)
    | (unfold SlOK; decide)
    | (unfold inByte; decide)
    | (simp only [*, Bool.and_self, Bool.not_false, Bool.not_true]; done)
    | (simp_all [wants]; done)
theorem enters65 : Enters Tryz.prog 65 := fun args w => by go_simp
def cz_C65 (t : Nat → UInt8) (x y : Int) (a b c e : UInt8) : Cz := {
  ct := (fun f => match f with
  | 128 => some fun _ _S ar => match ar with | [.c (.l (.v (.int _ x))), .c (.l (.v (.int _ y)))] => some { v := bv (insB x y), rd := [], wr := [], nw := 0 } | _ => none
  | _ => none)
  eq := (fun t => match t with
  | _ => none)
  raw := [], sym := [0, 17, 18], nf := [(11, bv true), (18, .c (.agg (tl (setP t (8 * y + x).toNat a b c e))))], ap := true, off := [], on := [], lp := fun _ => none, un := 0, wh := [38] }
set_option maxRecDepth 100000 in
set_option maxHeartbeats 400000 in
theorem C65 (t : Nat → UInt8) (x y : Int) (a b c e : UInt8) (h : 0 ≤ x ∧ x < 8 ∧ 0 ≤ y ∧ y < 8) (n : Nat) : CallOK Tryz.prog 65 [.c (.agg (tl t)), iv .i64 x, iv .i64 y, ag [ub a, ub b, ub c, ub e]] [] n (.c (.agg (tl (setP t (8 * y + x).toNat a b c e)))) [] 0 := by
  refine CallOK.any ?_ (by kernel_rfl) (by kernel_rfl) n
  refine call_ok (cx := cz_C65 t x y a b c e) (nm := []) rfl Tryz.func65 (body := Tryz.f65.body.getD .skip) rfl enters65 (by kernel_rfl) ?_
  apply of_eq (q := CallOKd Tryz.prog 128 [] [iv IntKind.i64 x, iv IntKind.i64 y] [] 3 (bv (insB x y)) [] 0 ∧ Le (bv (insB x y)) (bv true) ∧ IntKind.i64.wrap (8 * y) = 8 * y ∧ IntKind.i64.wrap (8 * y + x) = 8 * y + x ∧ InR (8 * y + x) 64 ∧ 0 + (8 * y + x).toNat * 4 + 4 ≤ 256 ∧ 256 ≤ (splice (tl t) (0 + (8 * y + x).toNat * 4) [Leaf.v (Value.int IntKind.u8 (Nat.cast a.toNat : Int)), Leaf.v (Value.int IntKind.u8 (Nat.cast b.toNat : Int)), Leaf.v (Value.int IntKind.u8 (Nat.cast c.toNat : Int)), Leaf.v (Value.int IntKind.u8 (Nat.cast e.toNat : Int))]).length ∧ Le (ag (List.take 256 (List.drop 0 (splice (tl t) (0 + (8 * y + x).toNat * 4) [Leaf.v (Value.int IntKind.u8 (Nat.cast a.toNat : Int)), Leaf.v (Value.int IntKind.u8 (Nat.cast b.toNat : Int)), Leaf.v (Value.int IntKind.u8 (Nat.cast c.toNat : Int)), Leaf.v (Value.int IntKind.u8 (Nat.cast e.toNat : Int))])))) (ag (tl (setP t (8 * y + x).toNat a b c e))) ∧ 256 ≤ 256 ∧ 0 = 0 ∧ 256 = 256 ∧ Le (ag (tl (setP t (8 * y + x).toNat a b c e))) (ag (tl (setP t (8 * y + x).toNat a b c e))) ∧ True) (by kernel_rfl)
  repeat' (first | exact trivial | with_reducible apply And.intro | (with_reducible apply HB.mk) | with_reducible intro _)
  all_goals first
    | (with_reducible assumption)
    | (with_reducible exact Le.refl _)
    | (with_reducible rfl)
    | ((with_reducible exact C128 _ _ _))
    | ((with_reducible refine Le.bool ?_; exact insB_of h))
    | (exact ⟨by omega, by omega⟩)
    | ((rw [tl_len]; omega))
    | ((rw [splice_length, tl_len]; omega))
    | ((exact okw _ (by omega) (by omega)))
    | (exact Le.of (congrArg (fun l => SV.c (.agg l)) (set_px t (by omega) a b c e)))
    | (omega)
    | (exact okw _ (by omega) (by omega))
    | (exact Le.of rfl)
    | (exact BkR.of rfl)
    | (unfold SlOK; omega)
    | (unfold SlOK; decide)
    | (unfold inByte; decide)
    | (simp only [*, Bool.and_self, Bool.not_false, Bool.not_true]; done)
    | (simp_all [wants]; done)
theorem C65L (l : List Leaf) (t : Nat → UInt8) (hl : l = tl t) (x y : Int) (a b c e : UInt8) (h : 0 ≤ x ∧ x < 8 ∧ 0 ≤ y ∧ y < 8) (n : Nat) : CallOK Tryz.prog 65 [.c (.agg l), iv .i64 x, iv .i64 y, ag [ub a, ub b, ub c, ub e]] [] n (.c (.agg (tl (setP t (8 * y + x).toNat a b c e)))) [] 0 := by subst hl; exact C65 t x y a b c e h n
def cz_R16 (L : List EN) (px py : Int) (k : Nat) : Cz := {
  ct := (fun f => match f with
  | 65 => some fun _ _S ar => match ar with | [.c (.agg _), .c (.l (.v (.int _ x))), .c (.l (.v (.int _ y))), _] => some { v := .c (.agg (tl (setP (pvT L px py k) (pAt L px py k) (ea L k).a (ea L k).b (ea L k).c (ea L k).d))), rd := [], wr := [], nw := 0 } | _ => none
  | _ => none)
  eq := (fun t => match t with
  | _ => none)
  raw := [], sym := [21, 22], nf := [(22, .c (.agg (en (ea L k)))), (50, bv (pIn L px py k)), (51, .c (.agg (tl (pvT L px py k)))), (55, ag [ub (ea L k).a, ub (ea L k).b, ub (ea L k).c, ub (ea L k).d])], ap := true, off := [], on := [], lp := fun _ => none, un := 0, wh := [38, 123] }
set_option maxRecDepth 100000 in
theorem R16 (L : List EN) (px py : Int) (k : Nat)  (K : Exit → St → Prop) (h : HB (decide ((Nat.cast k : Int) < (Nat.cast L.length : Int))) (InR ((Nat.cast k : Int)) L.length ∧ ((Nat.cast k : Int)).toNat * 8 + 8 ≤ (ens L).length ∧ Le (ag (List.take 8 (List.drop (((Nat.cast k : Int)).toNat * 8) (ens L)))) (ag (en (ea L k))) ∧ 0 = 0 ∧ 8 = 8 ∧ IntKind.i64.wrap (8 * px) = 8 * px ∧ IntKind.i64.wrap ((ea L k).X - 8 * px) = (ea L k).X - 8 * px ∧ IntKind.i64.wrap (8 * py) = 8 * py ∧ IntKind.i64.wrap ((ea L k).Y - 8 * py) = (ea L k).Y - 8 * py ∧ (decide ((ea L k).X - 8 * px ≥ 0) = true → decide ((ea L k).X - 8 * px ≥ 0) = true ∧ True) ∧ (decide ((ea L k).X - 8 * px ≥ 0) = true → decide ((ea L k).X - 8 * px ≥ 0) = true) ∧ ((bif decide ((ea L k).X - 8 * px ≥ 0) then decide ((ea L k).X - 8 * px < 8) else false) = true → (bif decide ((ea L k).X - 8 * px ≥ 0) then decide ((ea L k).X - 8 * px < 8) else false) = true ∧ True) ∧ ((bif decide ((ea L k).X - 8 * px ≥ 0) then decide ((ea L k).X - 8 * px < 8) else false) = true → (bif decide ((ea L k).X - 8 * px ≥ 0) then decide ((ea L k).X - 8 * px < 8) else false) = true) ∧ ((bif bif decide ((ea L k).X - 8 * px ≥ 0) then decide ((ea L k).X - 8 * px < 8) else false then decide ((ea L k).Y - 8 * py ≥ 0) else false) = true → (bif bif decide ((ea L k).X - 8 * px ≥ 0) then decide ((ea L k).X - 8 * px < 8) else false then decide ((ea L k).Y - 8 * py ≥ 0) else false) = true ∧ True) ∧ ((bif bif decide ((ea L k).X - 8 * px ≥ 0) then decide ((ea L k).X - 8 * px < 8) else false then decide ((ea L k).Y - 8 * py ≥ 0) else false) = true → (bif bif decide ((ea L k).X - 8 * px ≥ 0) then decide ((ea L k).X - 8 * px < 8) else false then decide ((ea L k).Y - 8 * py ≥ 0) else false) = true) ∧ Le (bv (bif bif bif decide ((ea L k).X - 8 * px ≥ 0) then decide ((ea L k).X - 8 * px < 8) else false then decide ((ea L k).Y - 8 * py ≥ 0) else false then decide ((ea L k).Y - 8 * py < 8) else false)) (bv (pIn L px py k)) ∧ HB (pIn L px py k) (Le (ag (List.take 256 (tl (pvT L px py k)))) (ag (tl (pvT L px py k))) ∧ Le (ag (List.take 4 (List.drop 2 (en (ea L k))))) (ag [Leaf.v (Value.int IntKind.u8 (Nat.cast ((ea L k).a.toNat) : Int)), Leaf.v (Value.int IntKind.u8 (Nat.cast ((ea L k).b.toNat) : Int)), Leaf.v (Value.int IntKind.u8 (Nat.cast ((ea L k).c.toNat) : Int)), Leaf.v (Value.int IntKind.u8 (Nat.cast ((ea L k).d.toNat) : Int))]) ∧ CallOKd Tryz.prog 65 [] [ag (tl (pvT L px py k)), iv IntKind.i64 ((ea L k).X - 8 * px), iv IntKind.i64 ((ea L k).Y - 8 * py), ag [Leaf.v (Value.int IntKind.u8 (Nat.cast ((ea L k).a.toNat) : Int)), Leaf.v (Value.int IntKind.u8 (Nat.cast ((ea L k).b.toNat) : Int)), Leaf.v (Value.int IntKind.u8 (Nat.cast ((ea L k).c.toNat) : Int)), Leaf.v (Value.int IntKind.u8 (Nat.cast ((ea L k).d.toNat) : Int))]] [] 6 (ag (tl (setP (pvT L px py k) (pAt L px py k) (ea L k).a (ea L k).b (ea L k).c (ea L k).d))) [] 0 ∧ 0 = 0 ∧ 256 = 256 ∧ IntKind.i64.wrap ((Nat.cast k : Int) + 1) = (Nat.cast k : Int) + 1 ∧ RoundTo Tryz.prog ((getLoop 5 (Tryz.f16.body.getD Code.skip)).getD Code.skip) 5 (wkK 5 K) (St.mk [(19, iv IntKind.i64 ((Nat.cast k : Int) + 1)), (57, iv IntKind.i64 ((Nat.cast k : Int) + 1)), (56, ag (tl (setP (pvT L px py k) (pAt L px py k) (ea L k).a (ea L k).b (ea L k).c (ea L k).d))), (55, ag [Leaf.v (Value.int IntKind.u8 (Nat.cast ((ea L k).a.toNat) : Int)), Leaf.v (Value.int IntKind.u8 (Nat.cast ((ea L k).b.toNat) : Int)), Leaf.v (Value.int IntKind.u8 (Nat.cast ((ea L k).c.toNat) : Int)), Leaf.v (Value.int IntKind.u8 (Nat.cast ((ea L k).d.toNat) : Int))]), (54, SV.c (Cp.l (Leaf.p 5 2))), (53, iv IntKind.i64 ((ea L k).Y - 8 * py)), (52, iv IntKind.i64 ((ea L k).X - 8 * px)), (51, ag (tl (pvT L px py k))), (50, bv (pIn L px py k)), (49, SV.g (bif bif decide ((ea L k).X - 8 * px ≥ 0) then decide ((ea L k).X - 8 * px < 8) else false then decide ((ea L k).Y - 8 * py ≥ 0) else false) (Cp.l (lb (decide ((ea L k).Y - 8 * py < 8))))), (48, SV.g (bif bif decide ((ea L k).X - 8 * px ≥ 0) then decide ((ea L k).X - 8 * px < 8) else false then decide ((ea L k).Y - 8 * py ≥ 0) else false) (Cp.l (li ((ea L k).Y - 8 * py)))), (47, bv (bif bif decide ((ea L k).X - 8 * px ≥ 0) then decide ((ea L k).X - 8 * px < 8) else false then decide ((ea L k).Y - 8 * py ≥ 0) else false)), (46, bv (bif bif decide ((ea L k).X - 8 * px ≥ 0) then decide ((ea L k).X - 8 * px < 8) else false then decide ((ea L k).Y - 8 * py ≥ 0) else false)), (45, SV.g (bif decide ((ea L k).X - 8 * px ≥ 0) then decide ((ea L k).X - 8 * px < 8) else false) (Cp.l (lb (decide ((ea L k).Y - 8 * py ≥ 0))))), (44, SV.g (bif decide ((ea L k).X - 8 * px ≥ 0) then decide ((ea L k).X - 8 * px < 8) else false) (Cp.l (li ((ea L k).Y - 8 * py)))), (43, bv (bif decide ((ea L k).X - 8 * px ≥ 0) then decide ((ea L k).X - 8 * px < 8) else false)), (42, bv (bif decide ((ea L k).X - 8 * px ≥ 0) then decide ((ea L k).X - 8 * px < 8) else false)), (41, SV.g (decide ((ea L k).X - 8 * px ≥ 0)) (Cp.l (lb (decide ((ea L k).X - 8 * px < 8))))), (40, SV.g (decide ((ea L k).X - 8 * px ≥ 0)) (Cp.l (li ((ea L k).X - 8 * px)))), (39, bv (decide ((ea L k).X - 8 * px ≥ 0))), (38, bv (decide ((ea L k).X - 8 * px ≥ 0))), (37, iv IntKind.i64 ((ea L k).X - 8 * px)), (10, iv IntKind.i64 ((ea L k).Y - 8 * py)), (9, iv IntKind.i64 ((ea L k).X - 8 * px)), (36, iv IntKind.i64 ((ea L k).Y - 8 * py)), (35, iv IntKind.i64 (8 * py)), (34, iv IntKind.i64 py), (33, SV.c (Cp.l (Leaf.p 2 1))), (32, iv IntKind.i64 (ea L k).Y), (31, SV.c (Cp.l (Leaf.p 5 1))), (30, SV.c (Cp.l (Leaf.p 5 0))), (29, iv IntKind.i64 ((ea L k).X - 8 * px)), (28, iv IntKind.i64 (8 * px)), (27, iv IntKind.i64 px), (26, SV.c (Cp.l (Leaf.p 2 0))), (25, iv IntKind.i64 (ea L k).X), (24, SV.c (Cp.l (Leaf.p 5 0))), (23, SV.c (Cp.l (Leaf.p 5 0))), (8, SV.c (Cp.l (Leaf.p 5 0))), (22, ag (en (ea L k))), (21, SV.c (Cp.l (Leaf.p 1 (((Nat.cast k : Int)).toNat * 8)))), (20, bv (decide ((Nat.cast k : Int) < (Nat.cast L.length : Int)))), (19, iv IntKind.i64 (Nat.cast k : Int)), (18, iv IntKind.i64 (Nat.cast L.length : Int)), (17, SV.c (Cp.l (Leaf.o 1 L.length))), (3, SV.c (Cp.l (Leaf.p 2 0))), (4, SV.c (Cp.l (Leaf.p 3 0))), (6, SV.c (Cp.l (Leaf.p 4 0)))] [(4, some (Blk.mk (tl (setP (pvT L px py k) (pAt L px py k) (ea L k).a (ea L k).b (ea L k).c (ea L k).d)) (BT.t 38))), (5, some (Blk.mk (en (ea L k)) (BT.t 123))), (5, some (Blk.mk [li 0, li 0, Leaf.v (Value.int IntKind.u8 0), Leaf.v (Value.int IntKind.u8 0), Leaf.v (Value.int IntKind.u8 0), Leaf.v (Value.int IntKind.u8 0), li 0, Leaf.v (Value.string (ByteArray.mk #[]))] (BT.t 123))), (1, some (Blk.mk (ens L) (BT.r 123 8 1))), (2, some (Blk.mk [li px, li py] (BT.t 40))), (3, some (Blk.mk (tl zT) (BT.t 38))), (4, some (Blk.mk (tl (pvT L px py k)) (BT.t 38)))] 6 60 [4, 5, 5, 4, 3, 2] 2)) (IntKind.i64.wrap ((Nat.cast k : Int) + 1) = (Nat.cast k : Int) + 1 ∧ RoundTo Tryz.prog ((getLoop 5 (Tryz.f16.body.getD Code.skip)).getD Code.skip) 5 (wkK 5 K) (St.mk [(19, iv IntKind.i64 ((Nat.cast k : Int) + 1)), (57, iv IntKind.i64 ((Nat.cast k : Int) + 1)), (50, bv (pIn L px py k)), (49, SV.g (bif bif decide ((ea L k).X - 8 * px ≥ 0) then decide ((ea L k).X - 8 * px < 8) else false then decide ((ea L k).Y - 8 * py ≥ 0) else false) (Cp.l (lb (decide ((ea L k).Y - 8 * py < 8))))), (48, SV.g (bif bif decide ((ea L k).X - 8 * px ≥ 0) then decide ((ea L k).X - 8 * px < 8) else false then decide ((ea L k).Y - 8 * py ≥ 0) else false) (Cp.l (li ((ea L k).Y - 8 * py)))), (47, bv (bif bif decide ((ea L k).X - 8 * px ≥ 0) then decide ((ea L k).X - 8 * px < 8) else false then decide ((ea L k).Y - 8 * py ≥ 0) else false)), (46, bv (bif bif decide ((ea L k).X - 8 * px ≥ 0) then decide ((ea L k).X - 8 * px < 8) else false then decide ((ea L k).Y - 8 * py ≥ 0) else false)), (45, SV.g (bif decide ((ea L k).X - 8 * px ≥ 0) then decide ((ea L k).X - 8 * px < 8) else false) (Cp.l (lb (decide ((ea L k).Y - 8 * py ≥ 0))))), (44, SV.g (bif decide ((ea L k).X - 8 * px ≥ 0) then decide ((ea L k).X - 8 * px < 8) else false) (Cp.l (li ((ea L k).Y - 8 * py)))), (43, bv (bif decide ((ea L k).X - 8 * px ≥ 0) then decide ((ea L k).X - 8 * px < 8) else false)), (42, bv (bif decide ((ea L k).X - 8 * px ≥ 0) then decide ((ea L k).X - 8 * px < 8) else false)), (41, SV.g (decide ((ea L k).X - 8 * px ≥ 0)) (Cp.l (lb (decide ((ea L k).X - 8 * px < 8))))), (40, SV.g (decide ((ea L k).X - 8 * px ≥ 0)) (Cp.l (li ((ea L k).X - 8 * px)))), (39, bv (decide ((ea L k).X - 8 * px ≥ 0))), (38, bv (decide ((ea L k).X - 8 * px ≥ 0))), (37, iv IntKind.i64 ((ea L k).X - 8 * px)), (10, iv IntKind.i64 ((ea L k).Y - 8 * py)), (9, iv IntKind.i64 ((ea L k).X - 8 * px)), (36, iv IntKind.i64 ((ea L k).Y - 8 * py)), (35, iv IntKind.i64 (8 * py)), (34, iv IntKind.i64 py), (33, SV.c (Cp.l (Leaf.p 2 1))), (32, iv IntKind.i64 (ea L k).Y), (31, SV.c (Cp.l (Leaf.p 5 1))), (30, SV.c (Cp.l (Leaf.p 5 0))), (29, iv IntKind.i64 ((ea L k).X - 8 * px)), (28, iv IntKind.i64 (8 * px)), (27, iv IntKind.i64 px), (26, SV.c (Cp.l (Leaf.p 2 0))), (25, iv IntKind.i64 (ea L k).X), (24, SV.c (Cp.l (Leaf.p 5 0))), (23, SV.c (Cp.l (Leaf.p 5 0))), (8, SV.c (Cp.l (Leaf.p 5 0))), (22, ag (en (ea L k))), (21, SV.c (Cp.l (Leaf.p 1 (((Nat.cast k : Int)).toNat * 8)))), (20, bv (decide ((Nat.cast k : Int) < (Nat.cast L.length : Int)))), (19, iv IntKind.i64 (Nat.cast k : Int)), (18, iv IntKind.i64 (Nat.cast L.length : Int)), (17, SV.c (Cp.l (Leaf.o 1 L.length))), (3, SV.c (Cp.l (Leaf.p 2 0))), (4, SV.c (Cp.l (Leaf.p 3 0))), (6, SV.c (Cp.l (Leaf.p 4 0)))] [(5, some (Blk.mk (en (ea L k)) (BT.t 123))), (5, some (Blk.mk [li 0, li 0, Leaf.v (Value.int IntKind.u8 0), Leaf.v (Value.int IntKind.u8 0), Leaf.v (Value.int IntKind.u8 0), Leaf.v (Value.int IntKind.u8 0), li 0, Leaf.v (Value.string (ByteArray.mk #[]))] (BT.t 123))), (1, some (Blk.mk (ens L) (BT.r 123 8 1))), (2, some (Blk.mk [li px, li py] (BT.t 40))), (3, some (Blk.mk (tl zT) (BT.t 38))), (4, some (Blk.mk (tl (pvT L px py k)) (BT.t 38)))] 6 60 [5, 5, 4, 3, 2] 2))) (wkK 5 K (Exit.exit 0) (St.mk [(20, bv (decide ((Nat.cast k : Int) < (Nat.cast L.length : Int)))), (19, iv IntKind.i64 (Nat.cast k : Int)), (18, iv IntKind.i64 (Nat.cast L.length : Int)), (17, SV.c (Cp.l (Leaf.o 1 L.length))), (3, SV.c (Cp.l (Leaf.p 2 0))), (4, SV.c (Cp.l (Leaf.p 3 0))), (6, SV.c (Cp.l (Leaf.p 4 0)))] [(1, some (Blk.mk (ens L) (BT.r 123 8 1))), (2, some (Blk.mk [li px, li py] (BT.t 40))), (3, some (Blk.mk (tl zT) (BT.t 38))), (4, some (Blk.mk (tl (pvT L px py k)) (BT.t 38)))] 5 60 [4, 3, 2] 2))) : WPL Tryz.prog ((getLoop 5 (Tryz.f16.body.getD .skip)).getD .skip) (I16 L px py k) (wkK 5 K) :=
  wp_round (cx := cz_R16 L px py k) rfl (of_eq (by kernel_rfl) h)
set_option maxRecDepth 100000 in
set_option maxHeartbeats 4000000 in
theorem L16 (L : List EN) (px py : Int) (hL : L.length ≤ 1024) (hX : GoodX L) (hx : -1000000 ≤ px ∧ px ≤ 1000000) (hy : -1000000 ≤ py ∧ py ≤ 1000000) : ∀ (m k : Nat), L.length - k = m → k ≤ L.length → ∀ (K : Exit → St → Prop), K (.exit 0) (I16 L px py L.length) → WPL Tryz.prog ((getLoop 5 (Tryz.f16.body.getD .skip)).getD .skip) (I16 L px py k) (wkK 5 K)
  | 0, k, hm, hk, K, hK => by
    have e : k = L.length := by omega
    subst e
    refine R16 L px py _ K (HB.mk (fun hne => absurd (of_decide_eq_true hne) (by omega)) (fun he => ?_))
    exact wkK.to (I16 L px py _) (Nat.le_refl _) (by kernel_rfl) (wkE_cons (LeN.sl (by kernel_rfl) rfl) (wkE_cons (LeN.sl (by kernel_rfl) rfl) (wkE_cons (LeN.sl (by kernel_rfl) rfl) (wkE_cons (LeN.sl (by kernel_rfl) rfl) (wkE_cons (LeN.sl (by kernel_rfl) rfl) (wkE_cons (LeN.sl (by kernel_rfl) rfl) trivial)))))) (wkH_cons (BkN.plain (cs := ens L) (b := .r 123 8 1) (by kernel_rfl) (rfl) (plain_ens _) (by kernel_rfl)) (wkH_cons (BkN.blk (k := ⟨[li px, li py], .t 40⟩) (by kernel_rfl) (rfl) (by kernel_rfl)) (wkH_cons (BkN.plain (cs := tl zT) (b := .t 38) (by kernel_rfl) (rfl) (plain_tl _) (by kernel_rfl)) (wkH_cons (BkN.plain (cs := tl (pvT L px py L.length)) (b := .t 38) (by kernel_rfl) (rfl) (plain_tl _) (by kernel_rfl)) trivial)))) hK
  | m + 1, k, hm, hk, K, hK => by
    refine R16 L px py k K (HB.mk (fun hne => ?_) (fun he => absurd (show ((k : Nat) : Int) < (L.length : Nat) by omega) (of_decide_eq_false he)))
    have hlt : k < L.length := by omega
    have gx := hX.x k hlt
    have gy := hX.y k hlt
    repeat' (first | exact trivial | with_reducible apply And.intro | (with_reducible apply HB.mk) | with_reducible intro _)
    all_goals first
      | (with_reducible assumption)
      | (with_reducible exact Le.refl _)
      | (with_reducible rfl)
      | (((exact C65L _ _ rfl _ _ _ _ _ _ (insB_t (show insB _ _ = true from (by with_reducible assumption : pIn L px py k = true))) _)))
      | (exact ⟨by omega, by omega⟩)
      | ((rw [ens_len]; omega))
      | ((refine Le.of ?_; simp only [tn, Nat.zero_add, Nat.add_zero]; rw [ens_at hlt]))
      | (with_reducible exact Le.bool (pIn_eq _ _ _ _))
      | (with_reducible exact Le.of (congrArg (fun l => SV.c (.agg l)) (tl_take _)))
      | (with_reducible exact Le.of (congrArg (fun l => SV.c (.agg l)) (en_px _)))
      | ((exact okw _ (by omega) (by omega)))
      | (omega)
      | (have hcnd : pIn L px py k = false := (by with_reducible assumption); (with_reducible refine RoundTo.toN 6 (I16 L px py (k + 1)) ?_ ?_ ?_ ?_ ?_); exact Nat.le_refl _; kernel_rfl; exact (wkE_cons (LeN.sl (by kernel_rfl) rfl) (wkE_cons (LeN.sl (by kernel_rfl) rfl) (wkE_cons (LeN.sl (by kernel_rfl) rfl) (wkE_cons (LeN.sl (by kernel_rfl) rfl) (wkE_cons (LeN.sl (by kernel_rfl) rfl) (wkE_cons (LeN.sl (by kernel_rfl) rfl) trivial)))))); exact (wkH_cons (BkN.plain (cs := ens L) (b := .r 123 8 1) (by kernel_rfl) (rfl) (plain_ens _) (by kernel_rfl)) (wkH_cons (BkN.blk (k := ⟨[li px, li py], .t 40⟩) (by kernel_rfl) (rfl) (by kernel_rfl)) (wkH_cons (BkN.plain (cs := tl zT) (b := .t 38) (by kernel_rfl) (rfl) (plain_tl _) (by kernel_rfl)) (wkH_cons (BkN.plain (cs := tl (pvT L px py k)) (b := .t 38) (by kernel_rfl) (by rw [pv_f hcnd]) (plain_tl _) (by kernel_rfl)) trivial)))); exact (L16 L px py hL hX hx hy m (k + 1) (by omega) (by omega) K hK))
      | (have hcnd : pIn L px py k = true := (by with_reducible assumption); (with_reducible refine RoundTo.toN 6 (I16 L px py (k + 1)) ?_ ?_ ?_ ?_ ?_); exact Nat.le_refl _; kernel_rfl; exact (wkE_cons (LeN.sl (by kernel_rfl) rfl) (wkE_cons (LeN.sl (by kernel_rfl) rfl) (wkE_cons (LeN.sl (by kernel_rfl) rfl) (wkE_cons (LeN.sl (by kernel_rfl) rfl) (wkE_cons (LeN.sl (by kernel_rfl) rfl) (wkE_cons (LeN.sl (by kernel_rfl) rfl) trivial)))))); exact (wkH_cons (BkN.plain (cs := ens L) (b := .r 123 8 1) (by kernel_rfl) (rfl) (plain_ens _) (by kernel_rfl)) (wkH_cons (BkN.blk (k := ⟨[li px, li py], .t 40⟩) (by kernel_rfl) (rfl) (by kernel_rfl)) (wkH_cons (BkN.plain (cs := tl zT) (b := .t 38) (by kernel_rfl) (rfl) (plain_tl _) (by kernel_rfl)) (wkH_cons (BkN.plain (cs := (tl (setP (pvT L px py k) (pAt L px py k) (ea L k).a (ea L k).b (ea L k).c (ea L k).d))) (b := .t 38) (by kernel_rfl) (pv_t hcnd) (plain_tl _) (by kernel_rfl)) trivial)))); exact (L16 L px py hL hX hx hy m (k + 1) (by omega) (by omega) K hK))
      | (exact okw _ (by omega) (by omega))
      | (exact Le.of rfl)
      | (exact BkR.of rfl)
      | (unfold SlOK; omega)
      | (unfold SlOK; decide)
      | (unfold inByte; decide)
      | (simp only [*, Bool.and_self, Bool.not_false, Bool.not_true]; done)
      | (simp_all [wants]; done)
theorem enters16 : Enters Tryz.prog 16 := fun args w => by go_simp
def cz_C16 (L : List EN) (d px py : Int) : Cz := {
  ct := (fun f => match f with
  | 66 => some fun _ _S ar => match ar with | [.c (.agg l)] => some { v := .c (.agg (tl (clnT (lsB l)))), rd := [], wr := [], nw := 0 } | _ => none
  | _ => none)
  eq := (fun t => match t with
  | _ => none)
  raw := [], sym := [], nf := [(58, .c (.agg (tl (pvT L px py L.length)))), (59, .c (.agg (tl (clnT (pvT L px py L.length)))))], ap := true, off := [], on := [], lp := fun r => match r with | 5 => some (fun _ K => K (.exit 0) (I16 L px py L.length)) | _ => none, un := 0, wh := [38] }
set_option maxRecDepth 100000 in
set_option maxHeartbeats 400000 in
theorem C16 (L : List EN) (d px py : Int) (hL : L.length ≤ 1024) (hX : GoodX L) (hx : -1000000 ≤ px ∧ px ≤ 1000000) (hy : -1000000 ≤ py ∧ py ≤ 1000000) : CallOK Tryz.prog 16 [.c (.l (.p 0 0)), ag [li px, li py]] [(0, ⟨[.o 1 L.length, li d], .t 125⟩), (1, ⟨ens L, .r 123 8 1⟩)] 2 (.tup [.agg (tl (clnT (pvT L px py L.length))), .l (li 0)]) [] 0 := by
  refine call_ok (cx := cz_C16 L d px py) (nm := []) rfl Tryz.func16 (body := Tryz.f16.body.getD .skip) rfl enters16 (by unfold inck; simp only [List.all_cons, List.all_nil, blkLt_plain (plain_ens L) (show (BT.rn (rnId 2 0 []) (.r 123 8 1)).isSome = true from rfl), Bool.and_true, Bool.true_and]; kernel_rfl) ?_
  apply of_eq (q := (LoopOK Tryz.prog ((getLoop 5 (Tryz.f16.body.getD .skip)).getD .skip) (St.mk [(19, iv IntKind.i64 0), (18, iv IntKind.i64 (Nat.cast L.length : Int)), (17, SV.c (Cp.l (Leaf.o 1 L.length))), (16, SV.c (Cp.l (Leaf.p 0 0))), (15, SV.c (Cp.l (Leaf.p 0 0))), (14, SV.c (Cp.l (Leaf.p 0 0))), (6, SV.c (Cp.l (Leaf.p 4 0))), (12, bv false), (11, SV.c (Cp.l (Leaf.p 0 0))), (5, iv IntKind.i64 0), (4, SV.c (Cp.l (Leaf.p 3 0))), (3, SV.c (Cp.l (Leaf.p 2 0))), (0, SV.c (Cp.l (Leaf.p 0 0))), (1, ag [li px, li py])] [(4, some (Blk.mk zT256 (BT.t 38))), (3, some (Blk.mk zT256 (BT.t 38))), (2, some (Blk.mk [li px, li py] (BT.t 40))), (0, some (Blk.mk [Leaf.o 1 L.length, li d] (BT.t 125))), (1, some (Blk.mk (ens L) (BT.r 123 8 1)))] 5 60 [4, 3, 2] 2) fun K => K (Exit.exit 0) (I16 L px py L.length)) ∧ Le (ag (List.take 256 (tl (pvT L px py L.length)))) (ag (tl (pvT L px py L.length))) ∧ CallOKd Tryz.prog 66 [] [ag (tl (pvT L px py L.length))] [] 5 (ag (tl (clnT (lsB (tl (pvT L px py L.length)))))) [] 0 ∧ Le (ag (tl (clnT (lsB (tl (pvT L px py L.length)))))) (ag (tl (clnT (pvT L px py L.length)))) ∧ 0 = 0 ∧ 256 = 256 ∧ Le (SV.tup [Cp.agg (tl (clnT (pvT L px py L.length))), Cp.l (li 0)]) (SV.tup [Cp.agg (tl (clnT (pvT L px py L.length))), Cp.l (li 0)]) ∧ True) (by kernel_rfl)
  repeat' (first | exact trivial | with_reducible apply And.intro | (with_reducible apply HB.mk) | with_reducible intro _)
  all_goals first
    | (with_reducible assumption)
    | (with_reducible exact Le.refl _)
    | (with_reducible rfl)
    | ((with_reducible exact C66L _ _ rfl _))
    | (exact LoopOK.mk (I16 L px py 0) rfl (by kernel_rfl) (wkE_cons (LeN.sl (by kernel_rfl) rfl) (wkE_cons (LeN.sl (by kernel_rfl) rfl) (wkE_cons (LeN.sl (by kernel_rfl) rfl) (wkE_cons (LeN.sl (by kernel_rfl) rfl) (wkE_cons (LeN.sl (by kernel_rfl) rfl) (wkE_cons (LeN.sl (by kernel_rfl) rfl) trivial)))))) (wkH_cons (BkN.plain (cs := ens L) (b := .r 123 8 1) (by kernel_rfl) (rfl) (plain_ens _) (by kernel_rfl)) (wkH_cons (BkN.blk (k := ⟨[li px, li py], .t 40⟩) (by kernel_rfl) (rfl) (by kernel_rfl)) (wkH_cons (BkN.plain (cs := zT256) (b := .t 38) (by kernel_rfl) (zT256_eq) (plain_tl _) (by kernel_rfl)) (wkH_cons (BkN.plain (cs := zT256) (b := .t 38) (by kernel_rfl) (zT256_eq) (plain_tl _) (by kernel_rfl)) trivial)))) (fun K hT => L16 L px py hL hX hx hy _ 0 rfl (by first | decide | omega) K hT))
    | (with_reducible exact Le.of (congrArg (fun l => SV.c (.agg l)) (tl_take _)))
    | (with_reducible exact Le.of (congrArg (fun l => SV.c (.agg l)) (clnT_lsB _)))
    | (exact okw _ (by omega) (by omega))
    | (exact Le.of rfl)
    | (exact BkR.of rfl)
    | (unfold SlOK; omega)
    | (unfold SlOK; decide)
    | (unfold inByte; decide)
    | (simp only [*, Bool.and_self, Bool.not_false, Bool.not_true]; done)
    | (simp_all [wants]; done)
theorem preview_any (L : List EN) (d px py : Int) (hL : L.length ≤ 1024) (hX : GoodX L) (hx : -1000000 ≤ px ∧ px ≤ 1000000) (hy : -1000000 ≤ py ∧ py ≤ 1000000) (id i n : Nat) (h1 : id < n) (h2 : i < n) (h3 : id ≠ i) : CallOK Tryz.prog 16 [.c (.l (.p id 0)), ag [li px, li py]] [(id, ⟨[.o i L.length, li d], .t 125⟩), (i, ⟨ens L, .r 123 8 i⟩)] n (.tup [.agg (tl (clnT (pvT L px py L.length))), .l (li 0)]) [] 0 := by
  have key := CallOKd.at2 (C16 L d px py hL hX hx hy) id i n h1 h2 h3
  simp only [List.map_cons, List.map_nil, Blk.ren, SV.ren, Cp.ren, Leaf.ren, BT.ren, ren_plain (plain_ens _), ren_plain (plain_tl _)] at key
  exact key
end Ab
end Go.Proofs.YtpdckpifhniioaaGreat
end
section
set_option linter.unusedVariables false
set_option linter.unusedSimpArgs false
namespace Go.Proofs.YtpdckpifhniioaaGreat
open Go.RowKit
namespace Ab
theorem good_lt {l : List TA} (g : Good l) (j : Nat) : ∀ d, j + d + 1 < l.length → (at' l j).Y < (at' l (j + d + 1)).Y ∨ ((at' l j).Y = (at' l (j + d + 1)).Y ∧ (at' l j).X < (at' l (j + d + 1)).X)
  | 0, h => g.ord j h
  | d + 1, h => by
    have h1 := good_lt g j d (by omega)
    have h2 := g.ord (j + d + 1) (by omega)
    rw [show j + (d + 1) + 1 = j + d + 1 + 1 by omega]
    omega
theorem mT_iff {l : List TA} {x y : Int} {j : Nat} : mT l x y j = true ↔ (at' l j).X = x ∧ (at' l j).Y = y := by
  unfold mT
  simp
theorem mT_uniq {l : List TA} (g : Good l) {x y : Int} {i j : Nat} (hi : i < l.length) (hj : j < l.length) (h1 : mT l x y i = true) (h2 : mT l x y j = true) : i = j := by
  rw [mT_iff] at h1 h2
  rcases Nat.lt_trichotomy i j with h | h | h
  · have := good_lt g i (j - i - 1) (by omega)
    rw [show i + (j - i - 1) + 1 = j by omega] at this
    omega
  · exact h
  · have := good_lt g j (i - j - 1) (by omega)
    rw [show j + (i - j - 1) + 1 = i by omega] at this
    omega
theorem pIn_iff {l : List TA} {px py : Int} {i k : Nat} (hi : i < 64) (hk : k < l.length) :
    (pIn (l.map enO) px py k = true ∧ pAt (l.map enO) px py k = i) ↔ mT l (8 * px + ((i % 8 : Nat) : Int)) (8 * py + ((i / 8 : Nat) : Int)) k = true := by
  rw [mT_iff]
  unfold pIn pAt
  rw [ea_map hk]
  show (insB ((at' l k).X - 8 * px) ((at' l k).Y - 8 * py) = true ∧ (8 * ((at' l k).Y - 8 * py) + ((at' l k).X - 8 * px)).toNat = i) ↔ _
  constructor
  · rintro ⟨h1, h2⟩
    have := insB_t h1
    omega
  · rintro ⟨h1, h2⟩
    refine ⟨insB_of ?_, ?_⟩ <;> omega
def mcol (e : EN) (c : Nat) : UInt8 := match c with | 0 => e.a | 1 => e.b | 2 => e.c | _ => e.d
theorem setP_at (t : Nat → UInt8) (k i c : Nat) (hc : c < 4) (e : EN) : setP t k e.a e.b e.c e.d (4 * i + c) = if k = i then mcol e c else t (4 * i + c) := by
  unfold setP
  by_cases h : k = i
  · subst h
    rw [if_pos rfl]
    match c, hc with
    | 0, _ => rw [if_pos (Nat.add_zero _)]; rfl
    | 1, _ => rw [if_neg (by omega), if_pos rfl]; rfl
    | 2, _ => rw [if_neg (by omega), if_neg (by omega), if_pos rfl]; rfl
    | 3, _ => rw [if_neg (by omega), if_neg (by omega), if_neg (by omega), if_pos rfl]; rfl
  · rw [if_neg h, if_neg (by omega), if_neg (by omega), if_neg (by omega), if_neg (by omega)]
section
variable {l : List TA} (g : Good l) {px py : Int} {i c : Nat} (hi : i < 64) (hc : c < 4)
include hi hc
theorem pv_none : ∀ k, k ≤ l.length → (∀ j, j < k → mT l (8 * px + ((i % 8 : Nat) : Int)) (8 * py + ((i / 8 : Nat) : Int)) j = false) → pvT (l.map enO) px py k (4 * i + c) = 0
  | 0, _, _ => rfl
  | k + 1, hk, h => by
    have ih := pv_none k (by omega) (fun j hj => h j (by omega))
    rw [pvT]
    cases hp : pIn (l.map enO) px py k
    · exact ih
    · show setP _ _ _ _ _ _ (4 * i + c) = 0
      rw [setP_at _ _ _ _ hc, if_neg, ih]
      intro ha
      have := (pIn_iff hi (show k < l.length by omega)).1 ⟨hp, ha⟩
      rw [h k (by omega)] at this; cases this
include g
theorem pv_some {j : Nat} (hj : j < l.length) (h : mT l (8 * px + ((i % 8 : Nat) : Int)) (8 * py + ((i / 8 : Nat) : Int)) j = true) : ∀ k, j < k → k ≤ l.length → pvT (l.map enO) px py k (4 * i + c) = mcol (enO (at' l j)) c
  | 0, h0, _ => absurd h0 (Nat.not_lt_zero j)
  | k + 1, h0, hk => by
    rw [pvT]
    have hm := (pIn_iff (px := px) (py := py) hi (show k < l.length by omega))
    by_cases e : j = k
    · subst e
      obtain ⟨h1, h2⟩ := hm.2 h
      rw [h1]
      show setP _ _ _ _ _ _ (4 * i + c) = _
      rw [setP_at _ _ _ _ hc, if_pos h2, ea_map hj]
    · have ih := pv_some hj h k (by omega) (by omega)
      cases hp : pIn (l.map enO) px py k
      · exact ih
      · show setP _ _ _ _ _ _ (4 * i + c) = _
        rw [setP_at _ _ _ _ hc, if_neg, ih]
        intro ha
        exact e (mT_uniq g hj (by omega) h (hm.1 ⟨hp, ha⟩))
end
theorem mS3_bd (t : Nat → UInt8) : ∀ k, 0 ≤ mS t 3 k ∧ mS t 3 k ≤ 255 * (k : Nat)
  | 0 => ⟨Int.le_refl _, Int.le_refl _⟩
  | k + 1 => by
    have h1 := mS3_bd t k
    have h2 := okb (t (4 * k + 3))
    rw [mS]
    show 0 ≤ mS t 3 k + _ * 1 ∧ mS t 3 k + _ * 1 ≤ _
    omega
theorem mcol_mean (e : TA) (c : Nat) (hc : c < 4) : mcol (enO e) c = meanB e.t c := by
  match c, hc with
  | 0, _ => rfl
  | 1, _ => rfl
  | 2, _ => rfl
  | 3, _ => rfl
/-- A mean pixel is clean. -/
theorem mean_clean (t : Nat → UInt8) (c : Nat) (hc : c < 4) : pcb (meanB t 3) (meanB t c) = meanB t c := by
  unfold pcb
  by_cases h0 : (rnd (mS t 3 64) 64 == 0) = true
  · have hz : ∀ c, c < 4 → meanB t c = 0 := fun c hc => by
      match c, hc with
      | 0, _ => show ofI (mch _ _) = 0; unfold mch; rw [h0]; rfl
      | 1, _ => show ofI (mch _ _) = 0; unfold mch; rw [h0]; rfl
      | 2, _ => show ofI (mch _ _) = 0; unfold mch; rw [h0]; rfl
      | 3, _ => show ofI (mal _) = 0; unfold mal; rw [h0]; rfl
    rw [hz 3 (by decide), hz c hc]; rfl
  · rw [if_neg]
    intro h3
    have h4 : ofI (mal (mS t 3 64)) = 0 := h3
    have hb := mS3_bd t 64
    have hr : 0 ≤ rnd (mS t 3 64) 64 ∧ rnd (mS t 3 64) 64 ≤ 255 := by
      unfold rnd
      rw [Int.tdiv_eq_ediv_of_nonneg (by omega)]
      omega
    have hne : rnd (mS t 3 64) 64 ≠ 0 := by simpa using h0
    unfold mal at h4
    rw [show (rnd (mS t 3 64) 64 == 0) = false by simpa using h0] at h4
    have h5 : ofI (IntKind.u8.wrap (rnd (mS t 3 64) 64)) = 0 := h4
    rw [IntKind.wrap_u8] at h5
    unfold ofI at h5
    have h6 := congrArg UInt8.toNat h5
    simp at h6
    omega
theorem mean_zero (c : Nat) (hc : c < 4) : meanB zT c = 0 := by
  have h : ∀ c k, mS zT c k = 0 := by
    intro c k
    induction k with
    | zero => rfl
    | succ k ih => rw [mS, ih]; show (0 : Int) + 0 * _ = 0; omega
  match c, hc with
  | 0, _ => show ofI (mch _ _) = 0; rw [h, h]; rfl
  | 1, _ => show ofI (mch _ _) = 0; rw [h, h]; rfl
  | 2, _ => show ofI (mch _ _) = 0; rw [h, h]; rfl
  | 3, _ => show ofI (mal _) = 0; rw [h]; rfl
/-- **A PREVIEW'S PIXEL.** -/
theorem pv_mean {l : List TA} (g : Good l) (px py : Int) {i c : Nat} (hi : i < 64) (hc : c < 4) :
    clnT (pvT (l.map enO) px py (l.map enO).length) (4 * i + c) = meanB (rT l (8 * px + ((i % 8 : Nat) : Int)) (8 * py + ((i / 8 : Nat) : Int))) c := by
  have e4 : (4 * i + c) / 4 = i := by omega
  unfold clnT
  rw [e4, List.length_map]
  cases hd : decide (fndT l (8 * px + ((i % 8 : Nat) : Int)) (8 * py + ((i / 8 : Nat) : Int)) < 0) with
  | true =>
    rw [rT_t hd, mean_zero c hc]
    have hn : ∀ j, j < l.length → mT l (8 * px + ((i % 8 : Nat) : Int)) (8 * py + ((i / 8 : Nat) : Int)) j = false := fun j hj => by
      cases hm : mT l (8 * px + ((i % 8 : Nat) : Int)) (8 * py + ((i / 8 : Nat) : Int)) j with
      | false => rfl
      | true =>
        exfalso
        have := of_decide_eq_true hd
        have h2 : fndT l (8 * px + ((i % 8 : Nat) : Int)) (8 * py + ((i / 8 : Nat) : Int)) = ((j : Nat) : Int) := fndT_some hj (fun q hq => by
          cases hq' : mT l (8 * px + ((i % 8 : Nat) : Int)) (8 * py + ((i / 8 : Nat) : Int)) q with
          | false => rfl
          | true => exact absurd (mT_uniq g (by omega) hj hq' hm) (by omega)) (by rw [hm]; rfl)
        omega
    rw [pv_none hi hc _ (Nat.le_refl _) hn, pv_none hi (by decide : 3 < 4) _ (Nat.le_refl _) hn]; rfl
  | false =>
    rw [rT_f hd]
    obtain ⟨h1, h2⟩ := fndT_in hd
    have hm : mT l (8 * px + ((i % 8 : Nat) : Int)) (8 * py + ((i / 8 : Nat) : Int)) (fndT l (8 * px + ((i % 8 : Nat) : Int)) (8 * py + ((i / 8 : Nat) : Int))).toNat = true := by
      unfold fndT at h1 h2 ⊢
      cases hf : (List.range l.length).find? (mT l (8 * px + ((i % 8 : Nat) : Int)) (8 * py + ((i / 8 : Nat) : Int))) with
      | none => rw [hf] at h1; exact absurd h1 (by decide)
      | some j => exact List.find?_some hf
    rw [pv_some g hi hc h2 hm _ h2 (Nat.le_refl _), pv_some g hi (by decide : 3 < 4) h2 hm _ h2 (Nat.le_refl _), mcol_mean _ _ hc, mcol_mean _ _ (by decide), mean_clean _ _ hc]
theorem goodX_of {l : List TA} (g : Good l) : GoodX (l.map enO) := ⟨(good_goodE g).x, (good_goodE g).y⟩
theorem mapO_len (l : List TA) : (l.map enO).length = l.length := List.length_map ..
/-- Open of a packed raster. -/
theorem open_pk {l : List TA} (g : Good l) (hl : l.length ≤ 1024) (n : Nat) : CallOK Tryz.prog 15 [.c (.l (.v (.string (packB l))))] [] n (.tup [.l (.p n 0), .l (li 0)]) [(n, ⟨[.o (n + 1) (l.map enO).length, li 0], 125⟩), (n + 1, ⟨ens (l.map enO), .r 123 8 (n + 1)⟩)] 2 := by
  obtain ⟨h1, h2⟩ := pack_open g
  have hs : (packB l).size ≤ 1000000000000000000 := by
    rw [pack_size]
    have e1 := txtB_le (hdB l l.length) (by have := hdB_le l l.length; omega)
    have e2 := hdB_le l l.length
    have e3 := blB_le l l.length
    omega
  have key := open_ok (packB l) hs h1 n
  rw [h2] at key
  exact key
end Ab
end Go.Proofs.YtpdckpifhniioaaGreat
end
section
set_option linter.unusedVariables false
namespace Go.Proofs.YtpdckpifhniioaaGreat.Oct
open Go.RowKit
open Go.Proofs.YtpdckpifhniioaaGreat
set_option maxRecDepth 100000 in
set_option maxHeartbeats 1000000 in
theorem valid_empty (w : World) : Calls Tryz.prog 46 #[.agg #[.slice none 0 0]] w fun e w' => e = .returned (.bool true) ∧ Grow w w' := by
  go_enter Tryz.func46, Tryz.ntmps46
  go_wp2
  refine wp_loop_rounds 1 ?_
  rw [rounds_succ]
  go_wp2
  go_ret
  exact ⟨rfl, (Below.refl _ _).alloc (Nat.le_refl _) _⟩
/-- A new builder. -/
theorem HB.new (w : World) : HB w.heap.size [] (w.alloc (.cells #[.pointer none, .slice none 0 0] 101)) :=
  ⟨_, _, heap_alloc_new _ _, .inl rfl, World.ownsRow_nil _ _ _ _, fun _ => rfl⟩
def packed0 : ByteArray := ⟨#[71, 1, 1, 0, 210, 2, 239, 141]⟩
theorem HB.nil {b : Nat} {w : World} (h : w.heap[b]? = some (.cells #[.pointer none, .slice none 0 0] 101 (0, 0))) : HB b [] w :=
  ⟨_, _, h, .inl rfl, World.ownsRow_nil _ _ _ _, fun _ => rfl⟩
theorem txt0 : (⟨(txt ⟨#[0]⟩).toArray⟩ : ByteArray) = ⟨#[1, 0]⟩ := by decide +kernel
theorem sum0 : ((M.sum (⟨#[0]⟩ : ByteArray).data.toList : Nat) : Int) = 3523407757 := by decide +kernel
theorem put0 : (⟨(M.be (sz 4) (u64 3523407757)).toArray⟩ : ByteArray) = ⟨#[210, 2, 239, 141]⟩ := by decide +kernel
abbrev BO : Obj := .cells #[.pointer none, .slice none 0 0] 101
theorem leb0 : (⟨(M.leb (u64 0)).toArray⟩ : ByteArray) = ⟨#[0]⟩ := by decide +kernel
set_option maxRecDepth 100000 in
set_option maxHeartbeats 1000000 in
theorem pack_empty (w : World) : Calls Tryz.prog 12 #[.agg #[.slice none 0 0]] w fun e w' => e = .returned (.tuple #[.string packed0, .int .i64 0]) ∧ Below w.heap.size w w' := by
  go_enter Tryz.func12, Tryz.ntmps12
  go_wp2_with fail
  refine (valid_empty _).mono ?_
  rintro e w1 ⟨rfl, g1⟩
  have r1 : w1.heap[w.heap.size]? = some (.cells #[.slice none 0 0] 26 (0, 0)) := g1.block (heap_alloc_new _ _)
  have b1 : Below w.heap.size w w1 := ((Below.refl _ w).alloc (Nat.le_refl _) _).trans (Below.mono g1 (by simp))
  have lt1 : w.heap.size < w1.heap.size := (Array.getElem?_eq_some_iff.1 r1).1
  have r2 : ((w1.alloc BO).alloc BO).heap[w.heap.size]? = some (.cells #[.slice none 0 0] 26 (0, 0)) := by
    rw [Below.heap_alloc _ _ _ (by simp; omega), Below.heap_alloc _ _ _ lt1]; exact r1
  have c2 : ((w1.alloc BO).alloc BO).cell? ⟨w.heap.size, 0, none⟩ = some (.slice none 0 0) := by rw [cell_of_row _ _ 0 _ _ _ r2]; rfl
  have p1 : ((w1.alloc BO).alloc BO).heap[w1.heap.size]? = some BO := heap_alloc2_old _ _ _
  have p2 : ((w1.alloc BO).alloc BO).heap[w1.heap.size + 1]? = some BO := heap_alloc2_new _ _ _
  have b2 : Below w.heap.size w ((w1.alloc BO).alloc BO) := (b1.alloc (Nat.le_of_lt lt1) _).alloc (by simp; omega) _
  have sz2 : ((w1.alloc BO).alloc BO).heap.size = w1.heap.size + 2 := by simp
  replace r2 := Lib.hid r2
  replace p1 := Lib.hid p1
  replace p2 := Lib.hid p2
  replace b2 := Lib.hid b2
  replace sz2 := Lib.hid sz2
  clear g1 r1 b1
  go_wp2_with fail
  generalize ((w1.alloc BO).alloc BO) = W at *
  clear c2
  refine (var_any _ _).mono ?_
  rintro e w2 ⟨rfl, g2⟩
  rw [leb0]
  have hz := sz2.out
  have r3 : w2.heap[w.heap.size]? = some (.cells #[.slice none 0 0] 26 (0, 0)) := (g2.block _ (by omega)).trans r2.out
  have p3 : w2.heap[w1.heap.size]? = some BO := (g2.block _ (by omega)).trans p1.out
  have p4 : w2.heap[w1.heap.size + 1]? = some BO := (g2.block _ (by omega)).trans p2.out
  have b3 : Below w.heap.size w w2 := b2.out.trans (Below.mono g2 (by omega))
  have sz3 : w1.heap.size + 2 ≤ w2.heap.size := by have := g2.size; omega
  clear r2 p1 p2 b2 sz2 g2 hz
  replace r3 := Lib.hid r3
  replace p3 := Lib.hid p3
  replace p4 := Lib.hid p4
  replace b3 := Lib.hid b3
  replace sz3 := Lib.hid sz3
  go_wp2_with fail
  refine (wstr _ [] _ _ (HB.nil p3.out) (by decide)).mono ?_
  rintro e w3 ⟨rfl, hB, g3, k3⟩
  have r4 : w3.heap[w.heap.size]? = some (.cells #[.slice none 0 0] 26 (0, 0)) := (k3 _ _ _ _ r3.out (by decide) (by omega)).trans r3.out
  have p5 : w3.heap[w1.heap.size + 1]? = some BO := (k3 _ _ _ _ p4.out (by decide) (by omega)).trans p4.out
  have b4 : Below w.heap.size w w3 := b3.out.trans (Below.mono g3 (by omega))
  have c4 : w3.cell? ⟨w.heap.size, 0, none⟩ = some (.slice none 0 0) := by rw [cell_of_row _ _ 0 _ _ _ r4]; rfl
  clear r3 p3 p4 b3 g3 k3 r4 sz3
  replace hB := Lib.hid hB
  replace p5 := Lib.hid p5
  replace b4 := Lib.hid b4
  go_wp2_with fail
  refine wp_loop_rounds 1 ?_
  rw [rounds_succ]
  go_wp2_with fail
  refine (bstring _ _ _ hB.out.hf).mono ?_
  rintro e w4 ⟨rfl, hF, g4, k4⟩
  have p6 : w4.heap[w1.heap.size + 1]? = some BO := (k4 _ _ _ _ p5.out (by decide) (by omega)).trans p5.out
  have b5 : Below w.heap.size w w4 := b4.out.trans (Below.mono g4 (by omega))
  clear c4 hB p5 b4 hF g4 k4
  replace p6 := Lib.hid p6
  replace b5 := Lib.hid b5
  go_wp2_with fail
  refine (text_any _ _ (by decide)).mono ?_
  rintro e w5 ⟨rfl, g5⟩
  rw [txt0]
  have p7 : w5.heap[w1.heap.size + 1]? = some BO := (g5.block _ (Array.getElem?_eq_some_iff.1 p6.out).1).trans p6.out
  have b6 : Below w.heap.size w w5 := b5.out.trans (Below.mono g5 b5.out.size)
  clear p6 b5 g5
  replace p7 := Lib.hid p7
  replace b6 := Lib.hid b6
  go_wp2_with fail
  refine (sum_any _ _ (by decide)).mono ?_
  rintro e w6 ⟨rfl, g6⟩
  rw [sum0]
  have p8 : w6.heap[w1.heap.size + 1]? = some BO := (g6.block _ (Array.getElem?_eq_some_iff.1 p7.out).1).trans p7.out
  have b7 : Below w.heap.size w w6 := b6.out.trans (Below.mono g6 b6.out.size)
  clear p7 b6 g6
  replace p8 := Lib.hid p8
  replace b7 := Lib.hid b7
  go_wp2_with fail
  refine (put_any _ _ _).mono ?_
  rintro e w7 ⟨rfl, g7⟩
  rw [put0]
  have p9 : w7.heap[w1.heap.size + 1]? = some BO := (g7.block _ (Array.getElem?_eq_some_iff.1 p8.out).1).trans p8.out
  have b8 : Below w.heap.size w w7 := b7.out.trans (Below.mono g7 b7.out.size)
  clear p8 b7 g7
  replace p9 := Lib.hid p9
  replace b8 := Lib.hid b8
  go_wp2_with fail
  refine (bstring _ _ _ (HB.nil p9.out).hf).mono ?_
  rintro e w8 ⟨rfl, hF, g8, k8⟩
  have b9 : Below w.heap.size w w8 := b8.out.trans (Below.mono g8 (by omega))
  clear p9 b8 hF g8 k8
  replace b9 := Lib.hid b9
  go_wp2
  go_ret2
  exact ⟨rfl, b9.out⟩
end Go.Proofs.YtpdckpifhniioaaGreat.Oct
end
section
set_option linter.unusedVariables false
namespace Go.Proofs.YtpdckpifhniioaaGreat
open Go.RowKit
namespace Ab
theorem eql66 (a0 a1 a2 a3 b0 b1 b2 b3 : Int) (W : World) : (binOp .eql 66 (.agg #[.int .i64 a0, .int .i64 a1, .int .i64 a2, .int .i64 a3]) (.agg #[.int .i64 b0, .int .i64 b1, .int .i64 b2, .int .i64 b3])).run Tryz.prog W = .ok (.bool (a0 == b0 && (a1 == b1 && (a2 == b2 && a3 == b3)))) W := by
  by_cases h0 : a0 = b0
  · by_cases h1 : a1 = b1
    · by_cases h2 : a2 = b2
      · by_cases h3 : a3 = b3
        · subst h0 h1 h2 h3; go_simp
        · subst h0 h1 h2; go_simp
      · subst h0 h1; go_simp
    · subst h0; go_simp
  · go_simp
theorem neq66 (a0 a1 a2 a3 b0 b1 b2 b3 : Int) (W : World) : (binOp .neq 66 (.agg #[.int .i64 a0, .int .i64 a1, .int .i64 a2, .int .i64 a3]) (.agg #[.int .i64 b0, .int .i64 b1, .int .i64 b2, .int .i64 b3])).run Tryz.prog W = .ok (.bool (!(a0 == b0 && (a1 == b1 && (a2 == b2 && a3 == b3))))) W := by
  by_cases h0 : a0 = b0
  · by_cases h1 : a1 = b1
    · by_cases h2 : a2 = b2
      · by_cases h3 : a3 = b3
        · subst h0 h1 h2 h3; go_simp
        · subst h0 h1 h2; go_simp
      · subst h0 h1; go_simp
    · subst h0; go_simp
  · go_simp
set_option maxRecDepth 100000 in
theorem eq66 (a0 a1 a2 a3 b0 b1 b2 b3 : Int) : EqOK Tryz.prog 66 [li a0, li a1, li a2, li a3] [li b0, li b1, li b2, li b3] (a0 == b0 && (a1 == b1 && (a2 == b2 && a3 == b3))) := by
  intro β u v x y w hu hv
  rw [(plLs_iff (ys := [.int .i64 a0, .int .i64 a1, .int .i64 a2, .int .i64 a3]) rfl β u).1 hu, (plLs_iff (ys := [.int .i64 b0, .int .i64 b1, .int .i64 b2, .int .i64 b3]) rfl β v).1 hv]
  have h1 := eql66 a0 a1 a2 a3 b0 b1 b2 b3 w
  have h2 := neq66 a0 a1 a2 a3 b0 b1 b2 b3 w
  have g : ∀ op, (eqGuard op 66 x y (.agg [.int .i64 a0, .int .i64 a1, .int .i64 a2, .int .i64 a3].toArray) (.agg [.int .i64 b0, .int .i64 b1, .int .i64 b2, .int .i64 b3].toArray)).run Tryz.prog w = .ok () w := by
    intro op; unfold eqGuard; cases op <;> go_simp
  constructor
  · rw [Sem.run_bind, g]; exact h1
  · rw [Sem.run_bind, g]; exact h2
end Ab
end Go.Proofs.YtpdckpifhniioaaGreat
end
section
set_option linter.unusedVariables false
set_option linter.unusedSimpArgs false
namespace Go.Proofs.YtpdckpifhniioaaGreat
open Go.RowKit
namespace Ab
def cz_C62 : Cz := {
  ct := (fun f => match f with
  | 58 => some fun _ _S ar => match ar with | [.c (.l (.v (.string s)))] => some { v := .c (.l (.p _S.n 0)), rd := [], wr := [(_S.n, ⟨[.v (.string s), .v (.int .i64 0), .v (.bool false)], .t 174⟩)], nw := 1 } | _ => none
  | 60 => some fun _ _S ar => match ar with | [.c (.l (.p i _)), .c (.l (.v (.int _ m)))] => some { v := V60 _S i m, rd := [i], wr := [(i, W60 _S i m)], nw := 0 } | _ => none
  | 61 => some fun _ _S ar => match ar with | [.c (.l (.p i _))] => some { v := V61 _S i, rd := [i], wr := [], nw := 0 } | _ => none
  | 63 => some fun _ _S ar => match ar with | [.c (.l (.p i _))] => some { v := V63 _S i, rd := [i], wr := [], nw := 0 } | _ => none
  | 64 => some fun _ _S ar => match ar with | [.c (.l (.p i _)), .c (.l (.v (.int _ m)))] => some { v := V64 _S i m, rd := [i], wr := [(i, W64 _S i m)], nw := 0 } | _ => none
  | 125 => some fun _ _S ar => match ar with | [.c (.l (.p i _))] => some { v := V125 _S i, rd := [i], wr := [(i, W125 _S i)], nw := 0 } | _ => none
  | _ => none)
  eq := (fun t => match t with
  | _ => none)
  raw := [], sym := [], nf := [(16, iv .i64 0), (18, bv false), (26, bv false)], ap := true, off := [], on := [], lp := fun _ => none, un := 2 }
set_option maxRecDepth 100000 in
set_option maxHeartbeats 400000 in
theorem C62   (n : Nat) : CallOK Tryz.prog 62 [.c (.l (.v (.string ⟨#[0]⟩)))] [] n (.tup [.l (.v (.slice none 0 0)), .l (.v (.slice none 0 0)), .l (li 0)]) [] 0 := by
  refine CallOK.any ?_ (by kernel_rfl) (by kernel_rfl) n
  refine call_ok (cx := cz_C62) (nm := []) rfl Tryz.func62 (body := Tryz.f62.body.getD .skip) rfl enters62 (by kernel_rfl) ?_
  apply of_eq (q := CallOKd Tryz.prog 58 [] [SV.c (Cp.l (Leaf.v (Value.string (ByteArray.mk #[0]))))] [] 0 (SV.c (Cp.l (Leaf.p 0 0))) [(0, Blk.mk [Leaf.v (Value.string (ByteArray.mk #[0])), li 0, lb false] (BT.t 174))] 1 ∧ CallOKd Tryz.prog 125 [] [SV.c (Cp.l (Leaf.p 0 0))] [(0, Blk.mk [Leaf.v (Value.string (ByteArray.mk #[0])), li 0, lb false] (BT.t 174))] 1 (iv IntKind.i64 (Oct.varRes (ByteArray.mk #[0]) (Int.toNat 0) false).fst) [(0, Blk.mk [Leaf.v (Value.string (ByteArray.mk #[0])), li (Nat.cast ((Oct.varRes (ByteArray.mk #[0]) (Int.toNat 0) false).snd.fst) : Int), lb (Oct.varRes (ByteArray.mk #[0]) (Int.toNat 0) false).snd.snd] (BT.t 174))] 0 ∧ Le (iv IntKind.i64 (Oct.varRes (ByteArray.mk #[0]) (Int.toNat 0) false).fst) (iv IntKind.i64 0) ∧ CallOKd Tryz.prog 61 [] [SV.c (Cp.l (Leaf.p 0 0))] [(0, Blk.mk [Leaf.v (Value.string (ByteArray.mk #[0])), li (Nat.cast ((Oct.varRes (ByteArray.mk #[0]) (Int.toNat 0) false).snd.fst) : Int), lb (Oct.varRes (ByteArray.mk #[0]) (Int.toNat 0) false).snd.snd] (BT.t 174))] 1 (bv (Oct.varRes (ByteArray.mk #[0]) (Int.toNat 0) false).snd.snd) [] 0 ∧ Le (bv (Oct.varRes (ByteArray.mk #[0]) (Int.toNat 0) false).snd.snd) (bv false) ∧ ((!false) = true → (!false) = true ∧ True) ∧ (false = false → (!false) = true) ∧ ((!bif false then true else decide (0 < 0)) = true → (!bif false then true else decide (0 < 0)) = true ∧ True) ∧ ((bif false then true else decide (0 < 0)) = false → (!bif false then true else decide (0 < 0)) = true) ∧ Le (bv (bif bif false then true else decide (0 < 0) then true else decide (0 > 1024))) (bv false) ∧ CallOKd Tryz.prog 63 [] [SV.c (Cp.l (Leaf.p 0 0))] [(0, Blk.mk [Leaf.v (Value.string (ByteArray.mk #[0])), li (Nat.cast ((Oct.varRes (ByteArray.mk #[0]) (Int.toNat 0) false).snd.fst) : Int), lb (Oct.varRes (ByteArray.mk #[0]) (Int.toNat 0) false).snd.snd] (BT.t 174))] 1 (iv IntKind.i64 ((Nat.cast ((ByteArray.mk #[0]).size) : Int) - (Nat.cast ((Oct.varRes (ByteArray.mk #[0]) (Int.toNat 0) false).snd.fst) : Int))) [] 0 ∧ Le (SV.tup [Cp.l (Leaf.v (Value.slice none 0 0)), Cp.l (Leaf.v (Value.slice none 0 0)), Cp.l (li 0)]) (SV.tup [Cp.l (Leaf.v (Value.slice none 0 0)), Cp.l (Leaf.v (Value.slice none 0 0)), Cp.l (li 0)]) ∧ True) (by kernel_rfl)
  repeat' (first | exact trivial | with_reducible apply And.intro | (with_reducible apply HB.mk) | with_reducible intro _)
  all_goals first
    | (assumption)
    | (with_reducible exact Le.refl _)
    | (with_reducible exact C58 _ _)
    | ((refine C61 _ _ _ _ ?_ _) <;> first | assumption | decide +kernel | omega)
    | ((refine C63 _ _ _ _ ?_ ?_ ?_ _) <;> first | assumption | decide +kernel | omega)
    | ((refine C125 _ _ _ _ ?_ ?_ ?_ _) <;> first | assumption | decide +kernel | omega)
    | (exact Le.of (by kernel_rfl))
    | (exact okw _ (by omega) (by omega))
    | (exact Le.of rfl)
    | (exact BkR.of rfl)
    | (unfold SlOK; omega)
    | (unfold SlOK; decide)
    | (unfold inByte; decide)
    | (simp only [*, Bool.and_self, Bool.not_false, Bool.not_true]; done)
    | (simp_all [wants]; done)
def cz_C15a : Cz := {
  ct := (fun f => match f with
  | 53 => some fun _ _S ar => match ar with | [.c (.l (.v (.string s)))] => some { v := iv .u32 (Oct.M.sum s.data.toList : Nat), rd := [], wr := [], nw := 0 } | _ => none
  | 57 => some fun _ _S ar => match ar with | [.c (.l (.v (.string s))), .c (.l (.v (.string t)))] => some { v := .tup [.l (.v (.string (cutP s t).1)), .l (.v (.bool (cutP s t).2))], rd := [], wr := [], nw := 0 } | _ => none
  | 58 => some fun _ _S ar => match ar with | [.c (.l (.v (.string s)))] => some { v := .c (.l (.p _S.n 0)), rd := [], wr := [(_S.n, ⟨[.v (.string s), .v (.int .i64 0), .v (.bool false)], .t 174⟩)], nw := 1 } | _ => none
  | 59 => some fun _ _S ar => match ar with | [.c (.l (.p i _))] => some { v := V59 _S i, rd := [i], wr := [(i, W59 _S i)], nw := 0 } | _ => none
  | 60 => some fun _ _S ar => match ar with | [.c (.l (.p i _)), .c (.l (.v (.int _ m)))] => some { v := V60 _S i m, rd := [i], wr := [(i, W60 _S i m)], nw := 0 } | _ => none
  | 61 => some fun _ _S ar => match ar with | [.c (.l (.p i _))] => some { v := V61 _S i, rd := [i], wr := [], nw := 0 } | _ => none
  | 62 => some fun _ _S ar => match ar with | [.c (.l (.v (.string s)))] => some { v := .tup [.l (.v (.slice none 0 0)), .l (.v (.slice none 0 0)), .l (li 0)], rd := [], wr := [], nw := 0 } | _ => none
  | 63 => some fun _ _S ar => match ar with | [.c (.l (.p i _))] => some { v := V63 _S i, rd := [i], wr := [], nw := 0 } | _ => none
  | 64 => some fun _ _S ar => match ar with | [.c (.l (.p i _)), .c (.l (.v (.int _ m)))] => some { v := V64 _S i m, rd := [i], wr := [(i, W64 _S i m)], nw := 0 } | _ => none
  | _ => none)
  eq := (fun t => match t with
  | _ => none)
  raw := [], sym := [], nf := [(19, .tup [.l (.v (.string ⟨#[1, 0, 210, 2, 239, 141]⟩)), .l (lb true)]), (27, .c (.l (.v (.string ⟨#[0]⟩)))), (29, iv .i64 3523407757), (32, bv false), (36, iv .u32 3523407757), (38, bv false), (63, bv false), (68, bv false)], ap := true, off := [], on := [], lp := fun _ => none, un := 2 }
set_option maxRecDepth 100000 in
set_option maxHeartbeats 400000 in
theorem C15a   : CallOK Tryz.prog 15 [.c (.l (.v (.string ⟨#[71, 1, 1, 0, 210, 2, 239, 141]⟩)))] [] 0 (.tup [.l (.p 0 0), .l (li 0)]) [(0, ⟨[.v (.slice none 0 0), li 0], .t 125⟩)] ([1] : List Nat).length := by
  refine call_ok (cx := cz_C15a) (nm := [1]) rfl Tryz.func15 (body := Tryz.f15.body.getD .skip) rfl enters15 (by kernel_rfl) ?_
  apply of_eq (q := CallOKd Tryz.prog 57 [] [SV.c (Cp.l (Leaf.v (Value.string (ByteArray.mk #[71, 1, 1, 0, 210, 2, 239, 141])))), SV.c (Cp.l (Leaf.v (Value.string (ByteArray.mk #[71, 1]))))] [] 0 (SV.tup [Cp.l (Leaf.v (Value.string (cutP (ByteArray.mk #[71, 1, 1, 0, 210, 2, 239, 141]) (ByteArray.mk #[71, 1])).fst)), Cp.l (lb (cutP (ByteArray.mk #[71, 1, 1, 0, 210, 2, 239, 141]) (ByteArray.mk #[71, 1])).snd)]) [] 0 ∧ Le (SV.tup [Cp.l (Leaf.v (Value.string (cutP (ByteArray.mk #[71, 1, 1, 0, 210, 2, 239, 141]) (ByteArray.mk #[71, 1])).fst)), Cp.l (lb (cutP (ByteArray.mk #[71, 1, 1, 0, 210, 2, 239, 141]) (ByteArray.mk #[71, 1])).snd)]) (SV.tup [Cp.l (Leaf.v (Value.string (ByteArray.mk #[1, 0, 210, 2, 239, 141]))), Cp.l (lb true)]) ∧ CallOKd Tryz.prog 58 [] [SV.c (Cp.l (Leaf.v (Value.string (ByteArray.mk #[1, 0, 210, 2, 239, 141]))))] [] 0 (SV.c (Cp.l (Leaf.p 0 0))) [(0, Blk.mk [Leaf.v (Value.string (ByteArray.mk #[1, 0, 210, 2, 239, 141])), li 0, lb false] (BT.t 174))] 1 ∧ CallOKd Tryz.prog 59 [] [SV.c (Cp.l (Leaf.p 0 0))] [(0, Blk.mk [Leaf.v (Value.string (ByteArray.mk #[1, 0, 210, 2, 239, 141])), li 0, lb false] (BT.t 174))] 1 (SV.c (Cp.l (Leaf.v (Value.string (Oct.textRes (ByteArray.mk #[1, 0, 210, 2, 239, 141]) (Int.toNat 0) false).fst)))) [(0, Blk.mk [Leaf.v (Value.string (ByteArray.mk #[1, 0, 210, 2, 239, 141])), li (Nat.cast ((Oct.textRes (ByteArray.mk #[1, 0, 210, 2, 239, 141]) (Int.toNat 0) false).snd.fst) : Int), lb (Oct.textRes (ByteArray.mk #[1, 0, 210, 2, 239, 141]) (Int.toNat 0) false).snd.snd] (BT.t 174))] 0 ∧ Le (SV.c (Cp.l (Leaf.v (Value.string (Oct.textRes (ByteArray.mk #[1, 0, 210, 2, 239, 141]) (Int.toNat 0) false).fst)))) (SV.c (Cp.l (Leaf.v (Value.string (ByteArray.mk #[0]))))) ∧ CallOKd Tryz.prog 60 [] [SV.c (Cp.l (Leaf.p 0 0)), iv IntKind.i64 4] [(0, Blk.mk [Leaf.v (Value.string (ByteArray.mk #[1, 0, 210, 2, 239, 141])), li (Nat.cast ((Oct.textRes (ByteArray.mk #[1, 0, 210, 2, 239, 141]) (Int.toNat 0) false).snd.fst) : Int), lb (Oct.textRes (ByteArray.mk #[1, 0, 210, 2, 239, 141]) (Int.toNat 0) false).snd.snd] (BT.t 174))] 1 (iv IntKind.i64 (wrap64 (Nat.cast ((Oct.bev (Oct.takeRes (ByteArray.mk #[1, 0, 210, 2, 239, 141]) ((Nat.cast ((Oct.textRes (ByteArray.mk #[1, 0, 210, 2, 239, 141]) (Int.toNat 0) false).snd.fst) : Int)).toNat (Oct.textRes (ByteArray.mk #[1, 0, 210, 2, 239, 141]) (Int.toNat 0) false).snd.snd (Nat.cast ((Oct.sz 4)) : Int)).fst.data.toList)) : Int))) [(0, Blk.mk [Leaf.v (Value.string (ByteArray.mk #[1, 0, 210, 2, 239, 141])), li (Nat.cast ((Oct.takeRes (ByteArray.mk #[1, 0, 210, 2, 239, 141]) ((Nat.cast ((Oct.textRes (ByteArray.mk #[1, 0, 210, 2, 239, 141]) (Int.toNat 0) false).snd.fst) : Int)).toNat (Oct.textRes (ByteArray.mk #[1, 0, 210, 2, 239, 141]) (Int.toNat 0) false).snd.snd (Nat.cast ((Oct.sz 4)) : Int)).snd.fst) : Int), lb (Oct.takeRes (ByteArray.mk #[1, 0, 210, 2, 239, 141]) ((Nat.cast ((Oct.textRes (ByteArray.mk #[1, 0, 210, 2, 239, 141]) (Int.toNat 0) false).snd.fst) : Int)).toNat (Oct.textRes (ByteArray.mk #[1, 0, 210, 2, 239, 141]) (Int.toNat 0) false).snd.snd (Nat.cast ((Oct.sz 4)) : Int)).snd.snd] (BT.t 174))] 0 ∧ Le (iv IntKind.i64 (wrap64 (Nat.cast ((Oct.bev (Oct.takeRes (ByteArray.mk #[1, 0, 210, 2, 239, 141]) ((Nat.cast ((Oct.textRes (ByteArray.mk #[1, 0, 210, 2, 239, 141]) (Int.toNat 0) false).snd.fst) : Int)).toNat (Oct.textRes (ByteArray.mk #[1, 0, 210, 2, 239, 141]) (Int.toNat 0) false).snd.snd (Nat.cast ((Oct.sz 4)) : Int)).fst.data.toList)) : Int))) (iv IntKind.i64 3523407757) ∧ CallOKd Tryz.prog 61 [] [SV.c (Cp.l (Leaf.p 0 0))] [(0, Blk.mk [Leaf.v (Value.string (ByteArray.mk #[1, 0, 210, 2, 239, 141])), li (Nat.cast ((Oct.takeRes (ByteArray.mk #[1, 0, 210, 2, 239, 141]) ((Nat.cast ((Oct.textRes (ByteArray.mk #[1, 0, 210, 2, 239, 141]) (Int.toNat 0) false).snd.fst) : Int)).toNat (Oct.textRes (ByteArray.mk #[1, 0, 210, 2, 239, 141]) (Int.toNat 0) false).snd.snd (Nat.cast ((Oct.sz 4)) : Int)).snd.fst) : Int), lb (Oct.takeRes (ByteArray.mk #[1, 0, 210, 2, 239, 141]) ((Nat.cast ((Oct.textRes (ByteArray.mk #[1, 0, 210, 2, 239, 141]) (Int.toNat 0) false).snd.fst) : Int)).toNat (Oct.textRes (ByteArray.mk #[1, 0, 210, 2, 239, 141]) (Int.toNat 0) false).snd.snd (Nat.cast ((Oct.sz 4)) : Int)).snd.snd] (BT.t 174))] 1 (bv (Oct.takeRes (ByteArray.mk #[1, 0, 210, 2, 239, 141]) ((Nat.cast ((Oct.textRes (ByteArray.mk #[1, 0, 210, 2, 239, 141]) (Int.toNat 0) false).snd.fst) : Int)).toNat (Oct.textRes (ByteArray.mk #[1, 0, 210, 2, 239, 141]) (Int.toNat 0) false).snd.snd (Nat.cast ((Oct.sz 4)) : Int)).snd.snd) [] 0 ∧ Le (bv (Oct.takeRes (ByteArray.mk #[1, 0, 210, 2, 239, 141]) ((Nat.cast ((Oct.textRes (ByteArray.mk #[1, 0, 210, 2, 239, 141]) (Int.toNat 0) false).snd.fst) : Int)).toNat (Oct.textRes (ByteArray.mk #[1, 0, 210, 2, 239, 141]) (Int.toNat 0) false).snd.snd (Nat.cast ((Oct.sz 4)) : Int)).snd.snd) (bv false) ∧ CallOKd Tryz.prog 53 [] [SV.c (Cp.l (Leaf.v (Value.string (ByteArray.mk #[0]))))] [] 1 (iv IntKind.u32 (Nat.cast ((Oct.M.sum (ByteArray.mk #[0]).data.toList)) : Int)) [] 0 ∧ Le (iv IntKind.u32 (Nat.cast ((Oct.M.sum (ByteArray.mk #[0]).data.toList)) : Int)) (iv IntKind.u32 3523407757) ∧ Le (bv (3523407757 != IntKind.i64.wrap 3523407757)) (bv false) ∧ CallOKd Tryz.prog 62 [] [SV.c (Cp.l (Leaf.v (Value.string (ByteArray.mk #[0]))))] [] 1 (SV.tup [Cp.l (Leaf.v (Value.slice none 0 0)), Cp.l (Leaf.v (Value.slice none 0 0)), Cp.l (li 0)]) [] 0 ∧ CallOKd Tryz.prog 63 [] [SV.c (Cp.l (Leaf.p 0 0))] [(0, Blk.mk [Leaf.v (Value.string (ByteArray.mk #[1, 0, 210, 2, 239, 141])), li (Nat.cast ((Oct.takeRes (ByteArray.mk #[1, 0, 210, 2, 239, 141]) ((Nat.cast ((Oct.textRes (ByteArray.mk #[1, 0, 210, 2, 239, 141]) (Int.toNat 0) false).snd.fst) : Int)).toNat (Oct.textRes (ByteArray.mk #[1, 0, 210, 2, 239, 141]) (Int.toNat 0) false).snd.snd (Nat.cast ((Oct.sz 4)) : Int)).snd.fst) : Int), lb (Oct.takeRes (ByteArray.mk #[1, 0, 210, 2, 239, 141]) ((Nat.cast ((Oct.textRes (ByteArray.mk #[1, 0, 210, 2, 239, 141]) (Int.toNat 0) false).snd.fst) : Int)).toNat (Oct.textRes (ByteArray.mk #[1, 0, 210, 2, 239, 141]) (Int.toNat 0) false).snd.snd (Nat.cast ((Oct.sz 4)) : Int)).snd.snd] (BT.t 174))] 1 (iv IntKind.i64 ((Nat.cast ((ByteArray.mk #[1, 0, 210, 2, 239, 141]).size) : Int) - (Nat.cast ((Oct.takeRes (ByteArray.mk #[1, 0, 210, 2, 239, 141]) ((Nat.cast ((Oct.textRes (ByteArray.mk #[1, 0, 210, 2, 239, 141]) (Int.toNat 0) false).snd.fst) : Int)).toNat (Oct.textRes (ByteArray.mk #[1, 0, 210, 2, 239, 141]) (Int.toNat 0) false).snd.snd (Nat.cast ((Oct.sz 4)) : Int)).snd.fst) : Int))) [] 0 ∧ Le (bv (decide ((Nat.cast ((ByteArray.mk #[1, 0, 210, 2, 239, 141]).size) : Int) - (Nat.cast ((Oct.takeRes (ByteArray.mk #[1, 0, 210, 2, 239, 141]) ((Nat.cast ((Oct.textRes (ByteArray.mk #[1, 0, 210, 2, 239, 141]) (Int.toNat 0) false).snd.fst) : Int)).toNat (Oct.textRes (ByteArray.mk #[1, 0, 210, 2, 239, 141]) (Int.toNat 0) false).snd.snd (Nat.cast ((Oct.sz 4)) : Int)).snd.fst) : Int) < 0))) (bv false) ∧ CallOKd Tryz.prog 63 [] [SV.c (Cp.l (Leaf.p 0 0))] [(0, Blk.mk [Leaf.v (Value.string (ByteArray.mk #[1, 0, 210, 2, 239, 141])), li (Nat.cast ((Oct.takeRes (ByteArray.mk #[1, 0, 210, 2, 239, 141]) ((Nat.cast ((Oct.textRes (ByteArray.mk #[1, 0, 210, 2, 239, 141]) (Int.toNat 0) false).snd.fst) : Int)).toNat (Oct.textRes (ByteArray.mk #[1, 0, 210, 2, 239, 141]) (Int.toNat 0) false).snd.snd (Nat.cast ((Oct.sz 4)) : Int)).snd.fst) : Int), lb (Oct.takeRes (ByteArray.mk #[1, 0, 210, 2, 239, 141]) ((Nat.cast ((Oct.textRes (ByteArray.mk #[1, 0, 210, 2, 239, 141]) (Int.toNat 0) false).snd.fst) : Int)).toNat (Oct.textRes (ByteArray.mk #[1, 0, 210, 2, 239, 141]) (Int.toNat 0) false).snd.snd (Nat.cast ((Oct.sz 4)) : Int)).snd.snd] (BT.t 174))] 1 (iv IntKind.i64 ((Nat.cast ((ByteArray.mk #[1, 0, 210, 2, 239, 141]).size) : Int) - (Nat.cast ((Oct.takeRes (ByteArray.mk #[1, 0, 210, 2, 239, 141]) ((Nat.cast ((Oct.textRes (ByteArray.mk #[1, 0, 210, 2, 239, 141]) (Int.toNat 0) false).snd.fst) : Int)).toNat (Oct.textRes (ByteArray.mk #[1, 0, 210, 2, 239, 141]) (Int.toNat 0) false).snd.snd (Nat.cast ((Oct.sz 4)) : Int)).snd.fst) : Int))) [] 0 ∧ Le (bv (decide ((Nat.cast ((ByteArray.mk #[1, 0, 210, 2, 239, 141]).size) : Int) - (Nat.cast ((Oct.takeRes (ByteArray.mk #[1, 0, 210, 2, 239, 141]) ((Nat.cast ((Oct.textRes (ByteArray.mk #[1, 0, 210, 2, 239, 141]) (Int.toNat 0) false).snd.fst) : Int)).toNat (Oct.textRes (ByteArray.mk #[1, 0, 210, 2, 239, 141]) (Int.toNat 0) false).snd.snd (Nat.cast ((Oct.sz 4)) : Int)).snd.fst) : Int) > 0))) (bv false) ∧ Le (SV.tup [Cp.l (Leaf.p 0 0), Cp.l (li 0)]) (SV.tup [Cp.l (Leaf.p 0 0), Cp.l (li 0)]) ∧ BkR (rnId 0 0 [1]) (Blk.mk [Leaf.v (Value.slice none 0 0), li 0] (BT.t 125)) (Blk.mk [Leaf.v (Value.slice none 0 0), li 0] (BT.t 125)) ∧ True) (by kernel_rfl)
  repeat' (first | exact trivial | with_reducible apply And.intro | (with_reducible apply HB.mk) | with_reducible intro _)
  all_goals first
    | (assumption)
    | (with_reducible exact Le.refl _)
    | ((refine C53 _ ?_ _); first | assumption | decide +kernel | (simp; omega))
    | ((refine C57 _ _ ?_ _); first | assumption | decide +kernel)
    | (with_reducible exact C58 _ _)
    | ((refine C59 _ _ _ _ ?_ ?_ ?_ _) <;> first | assumption | decide +kernel | omega)
    | ((refine C60 _ _ _ _ _ ?_ ?_ ?_ _) <;> first | assumption | decide +kernel | omega)
    | ((refine C61 _ _ _ _ ?_ _) <;> first | assumption | decide +kernel | omega)
    | (with_reducible exact C62 _)
    | ((refine C63 _ _ _ _ ?_ ?_ ?_ _) <;> first | assumption | decide +kernel | omega)
    | (exact Le.of (by kernel_rfl))
    | (exact BkR.of (by kernel_rfl))
    | (decide)
    | (exact okw _ (by omega) (by omega))
    | (exact Le.of rfl)
    | (exact BkR.of rfl)
    | (unfold SlOK; omega)
    | (unfold SlOK; decide)
    | (unfold inByte; decide)
    | (simp only [*, Bool.and_self, Bool.not_false, Bool.not_true]; done)
    | (simp_all [wants]; done)
def cz_C15b : Cz := {
  ct := (fun f => match f with
  | 53 => some fun _ _S ar => match ar with | [.c (.l (.v (.string s)))] => some { v := iv .u32 (Oct.M.sum s.data.toList : Nat), rd := [], wr := [], nw := 0 } | _ => none
  | 57 => some fun _ _S ar => match ar with | [.c (.l (.v (.string s))), .c (.l (.v (.string t)))] => some { v := .tup [.l (.v (.string (cutP s t).1)), .l (.v (.bool (cutP s t).2))], rd := [], wr := [], nw := 0 } | _ => none
  | 58 => some fun _ _S ar => match ar with | [.c (.l (.v (.string s)))] => some { v := .c (.l (.p _S.n 0)), rd := [], wr := [(_S.n, ⟨[.v (.string s), .v (.int .i64 0), .v (.bool false)], .t 174⟩)], nw := 1 } | _ => none
  | 59 => some fun _ _S ar => match ar with | [.c (.l (.p i _))] => some { v := V59 _S i, rd := [i], wr := [(i, W59 _S i)], nw := 0 } | _ => none
  | 60 => some fun _ _S ar => match ar with | [.c (.l (.p i _)), .c (.l (.v (.int _ m)))] => some { v := V60 _S i m, rd := [i], wr := [(i, W60 _S i m)], nw := 0 } | _ => none
  | 61 => some fun _ _S ar => match ar with | [.c (.l (.p i _))] => some { v := V61 _S i, rd := [i], wr := [], nw := 0 } | _ => none
  | 62 => some fun _ _S ar => match ar with | [.c (.l (.v (.string s)))] => some { v := .tup [.l (.v (.slice none 0 0)), .l (.v (.slice none 0 0)), .l (li 0)], rd := [], wr := [], nw := 0 } | _ => none
  | 63 => some fun _ _S ar => match ar with | [.c (.l (.p i _))] => some { v := V63 _S i, rd := [i], wr := [], nw := 0 } | _ => none
  | 64 => some fun _ _S ar => match ar with | [.c (.l (.p i _)), .c (.l (.v (.int _ m)))] => some { v := V64 _S i m, rd := [i], wr := [(i, W64 _S i m)], nw := 0 } | _ => none
  | _ => none)
  eq := (fun t => match t with
  | _ => none)
  raw := [], sym := [], nf := [(19, .tup [.l (.v (.string ⟨#[71]⟩)), .l (lb false)])], ap := true, off := [], on := [], lp := fun _ => none, un := 2 }
set_option maxRecDepth 100000 in
set_option maxHeartbeats 400000 in
theorem C15b   (n : Nat) : CallOK Tryz.prog 15 [.c (.l (.v (.string ⟨#[71]⟩)))] [] n (.tup [.l (.v (.pointer none)), .l (li 11)]) [] 0 := by
  refine CallOK.any ?_ (by kernel_rfl) (by kernel_rfl) n
  refine call_ok (cx := cz_C15b) (nm := []) rfl Tryz.func15 (body := Tryz.f15.body.getD .skip) rfl enters15 (by kernel_rfl) ?_
  apply of_eq (q := CallOKd Tryz.prog 57 [] [SV.c (Cp.l (Leaf.v (Value.string (ByteArray.mk #[71])))), SV.c (Cp.l (Leaf.v (Value.string (ByteArray.mk #[71, 1]))))] [] 0 (SV.tup [Cp.l (Leaf.v (Value.string (cutP (ByteArray.mk #[71]) (ByteArray.mk #[71, 1])).fst)), Cp.l (lb (cutP (ByteArray.mk #[71]) (ByteArray.mk #[71, 1])).snd)]) [] 0 ∧ Le (SV.tup [Cp.l (Leaf.v (Value.string (cutP (ByteArray.mk #[71]) (ByteArray.mk #[71, 1])).fst)), Cp.l (lb (cutP (ByteArray.mk #[71]) (ByteArray.mk #[71, 1])).snd)]) (SV.tup [Cp.l (Leaf.v (Value.string (ByteArray.mk #[71]))), Cp.l (lb false)]) ∧ Le (SV.tup [Cp.l (Leaf.v (Value.pointer none)), Cp.l (li 11)]) (SV.tup [Cp.l (Leaf.v (Value.pointer none)), Cp.l (li 11)]) ∧ True) (by kernel_rfl)
  repeat' (first | exact trivial | with_reducible apply And.intro | (with_reducible apply HB.mk) | with_reducible intro _)
  all_goals first
    | (assumption)
    | (with_reducible exact Le.refl _)
    | ((refine C57 _ _ ?_ _); first | assumption | decide +kernel)
    | (exact Le.of (by kernel_rfl))
    | (exact okw _ (by omega) (by omega))
    | (exact Le.of rfl)
    | (exact BkR.of rfl)
    | (unfold SlOK; omega)
    | (unfold SlOK; decide)
    | (unfold inByte; decide)
    | (simp only [*, Bool.and_self, Bool.not_false, Bool.not_true]; done)
    | (simp_all [wants]; done)
theorem C12e (n : Nat) : CallOK Tryz.prog 12 [ag [.v (.slice none 0 0)]] [] n (.tup [.l (.v (.string ⟨#[71, 1, 1, 0, 210, 2, 239, 141]⟩)), .l (li 0)]) [] 0 :=
  call_plain enters12 (vals := [.agg #[.slice none 0 0]]) (y := .tuple #[.string ⟨#[71, 1, 1, 0, 210, 2, 239, 141]⟩, .int .i64 0]) rfl rfl n fun x => Oct.pack_empty x
def cz_C25_2 : Cz := {
  ct := (fun f => match f with
  | _ => none)
  eq := (fun t => match t with
  | _ => none)
  raw := [], sym := [], nf := [], ap := true, off := [], on := [], lp := fun _ => none, un := 0 }
set_option maxRecDepth 100000 in
set_option maxHeartbeats 400000 in
theorem C25_2   : CallOK Tryz.prog 25 [.c (.l (.p 0 0))] [(0, ⟨[.v (.slice none 0 0), li 0], .t 125⟩)] 2 (iv .i64 0) [] ([] : List Nat).length := by
  refine call_ok (cx := cz_C25_2) (nm := []) rfl Tryz.func25 (body := Tryz.f25.body.getD .skip) rfl enters25 (by kernel_rfl) ?_
  apply of_eq (q := Le (iv IntKind.i64 (Nat.cast 0 : Int)) (iv IntKind.i64 0) ∧ True) (by kernel_rfl)
  repeat' (first | exact trivial | with_reducible apply And.intro | (with_reducible apply HB.mk) | with_reducible intro _)
  all_goals first
    | (assumption)
    | (with_reducible exact Le.refl _)
    | (exact okw _ (by omega) (by omega))
    | (exact Le.of rfl)
    | (exact BkR.of rfl)
    | (unfold SlOK; omega)
    | (unfold SlOK; decide)
    | (unfold inByte; decide)
    | (simp only [*, Bool.and_self, Bool.not_false, Bool.not_true]; done)
    | (simp_all [wants]; done)
theorem enters26 : Enters Tryz.prog 26 := fun args w => by go_simp
def cz_C26_2 : Cz := {
  ct := (fun f => match f with
  | _ => none)
  eq := (fun t => match t with
  | _ => none)
  raw := [], sym := [], nf := [], ap := true, off := [], on := [], lp := fun _ => none, un := 2 }
set_option maxRecDepth 100000 in
set_option maxHeartbeats 400000 in
theorem C26_2   : CallOK Tryz.prog 26 [.c (.l (.p 0 0))] [(0, ⟨[.v (.slice none 0 0), li 0], .t 125⟩)] 2 (ag [li 0, li 0, li 0, li 0]) [] ([] : List Nat).length := by
  refine call_ok (cx := cz_C26_2) (nm := []) rfl Tryz.func26 (body := Tryz.f26.body.getD .skip) rfl enters26 (by kernel_rfl) ?_
  apply of_eq (q := Le (ag [li 0, li 0, li 0, li 0]) (ag [li 0, li 0, li 0, li 0]) ∧ True) (by kernel_rfl)
  repeat' (first | exact trivial | with_reducible apply And.intro | (with_reducible apply HB.mk) | with_reducible intro _)
  all_goals first
    | (assumption)
    | (with_reducible exact Le.refl _)
    | (exact okw _ (by omega) (by omega))
    | (exact Le.of rfl)
    | (exact BkR.of rfl)
    | (unfold SlOK; omega)
    | (unfold SlOK; decide)
    | (unfold inByte; decide)
    | (simp only [*, Bool.and_self, Bool.not_false, Bool.not_true]; done)
    | (simp_all [wants]; done)
theorem enters10 : Enters Tryz.prog 10 := fun args w => by go_simp
def cz_C10 : Cz := {
  ct := (fun f => match f with
  | 12 => some fun _ _S ar => match ar with | [.c (.agg [.v (.slice none _ _)])] => some { v := .tup [.l (.v (.string ⟨#[71, 1, 1, 0, 210, 2, 239, 141]⟩)), .l (li 0)], rd := [], wr := [], nw := 0 } | _ => none
  | 15 => some fun _ _S ar => match ar with | [.c (.l (.v (.string s)))] => some { v := (match s.size with | 8 => .tup [.l (.p _S.n 0), .l (li 0)] | _ => .tup [.l (.v (.pointer none)), .l (li 11)]), rd := [], wr := (match s.size with | 8 => [(_S.n, ⟨[.v (.slice none 0 0), li 0], .t 125⟩)] | _ => []), nw := (match s.size with | 8 => 1 | _ => 0) } | _ => none
  | 25 => some fun _ _S ar => match ar with | [.c (.l (.p i _))] => some { v := iv .i64 0, rd := [i], wr := [], nw := 0 } | _ => none
  | 26 => some fun _ _S ar => match ar with | [.c (.l (.p i _))] => some { v := ag [li 0, li 0, li 0, li 0], rd := [i], wr := [], nw := 0 } | _ => none
  | _ => none)
  eq := (fun t => match t with
  | 66 => some (fun xs ys => match xs, ys with | [.v (.int _ a0), .v (.int _ a1), .v (.int _ a2), .v (.int _ a3)], [.v (.int _ b0), .v (.int _ b1), .v (.int _ b2), .v (.int _ b3)] => (a0 == b0 && (a1 == b1 && (a2 == b2 && a3 == b3))) | _, _ => false)
  | _ => none)
  raw := [], sym := [], nf := [(27, bv true), (32, .c (.l (.v (.string ⟨#[71, 1, 1, 0]⟩)))), (34, bv true), (38, bv true), (42, bv true), (47, bv true), (53, bv true), (57, bv true)], ap := true, off := [], on := [31], lp := fun _ => none, un := 0 }
set_option maxRecDepth 100000 in
set_option maxHeartbeats 400000 in
theorem C10   (n : Nat) : CallOK Tryz.prog 10 [] [] n (bv true) [] 0 := by
  refine CallOK.any ?_ (by kernel_rfl) (by kernel_rfl) n
  refine call_ok (cx := cz_C10) (nm := []) rfl Tryz.func10 (body := Tryz.f10.body.getD .skip) rfl enters10 (by kernel_rfl) ?_
  apply of_eq (q := CallOKd Tryz.prog 12 [] [ag [Leaf.v (Value.slice none 0 0)]] [] 0 (SV.tup [Cp.l (Leaf.v (Value.string (ByteArray.mk #[71, 1, 1, 0, 210, 2, 239, 141]))), Cp.l (li 0)]) [] 0 ∧ CallOKd Tryz.prog 15 [] [SV.c (Cp.l (Leaf.v (Value.string (ByteArray.mk #[71, 1, 1, 0, 210, 2, 239, 141]))))] [] 0 (SV.tup [Cp.l (Leaf.p 0 0), Cp.l (li 0)]) [(0, Blk.mk [Leaf.v (Value.slice none 0 0), li 0] (BT.t 125))] 1 ∧ CallOKd Tryz.prog 15 [] [SV.c (Cp.l (Leaf.v (Value.string (ByteArray.mk #[71]))))] [] 1 (SV.tup [Cp.l (Leaf.v (Value.pointer none)), Cp.l (li 11)]) [] 0 ∧ ((0 == 0) = true → (0 == 0) = true ∧ True) ∧ ((0 == 0) = true → (0 == 0) = true ∧ True) ∧ ((0 == 0) = true → (0 == 0) = true) ∧ Le (bv (bif 0 == 0 then (Nat.cast ((ByteArray.mk #[71, 1, 1, 0, 210, 2, 239, 141]).size) : Int) == 8 else false)) (bv true) ∧ (true = true → true = true ∧ SlOK 0 4 (Nat.cast ((ByteArray.mk #[71, 1, 1, 0, 210, 2, 239, 141]).size) : Int) ∧ True) ∧ true = true ∧ (true = true → inByte 71 ∧ inByte 1 ∧ inByte 1 ∧ inByte 0 ∧ Le (SV.c (Cp.l (Leaf.v (Value.string (strOf [71, 1, 1, 0]))))) (SV.c (Cp.l (Leaf.v (Value.string (ByteArray.mk #[71, 1, 1, 0]))))) ∧ True) ∧ (true = true → true = true ∧ true = true ∧ True) ∧ (true = true → true = true) ∧ Le (bv (bif true then ((ByteArray.mk #[71, 1, 1, 0, 210, 2, 239, 141]).extract (Int.toNat 0) (Int.toNat 4)).toList == (ByteArray.mk #[71, 1, 1, 0]).toList else false)) (bv true) ∧ (true = true → true = true ∧ True) ∧ (true = true → true = true) ∧ Le (bv (bif true then 0 == 0 else false)) (bv true) ∧ (true = true → true = true ∧ True) ∧ (true = true → true = true) ∧ Le (bv (bif true then true else false)) (bv true) ∧ (true = true → true = true ∧ CallOKd Tryz.prog 25 [] [SV.c (Cp.l (Leaf.p 0 0))] [(0, Blk.mk [Leaf.v (Value.slice none 0 0), li 0] (BT.t 125))] 2 (iv IntKind.i64 0) [] 0 ∧ True) ∧ (true = true → true = true ∧ True) ∧ (true = true → true = true) ∧ Le (bv (bif true then 0 == 0 else false)) (bv true) ∧ (true = true → true = true ∧ CallOKd Tryz.prog 26 [] [SV.c (Cp.l (Leaf.p 0 0))] [(0, Blk.mk [Leaf.v (Value.slice none 0 0), li 0] (BT.t 125))] 2 (ag [li 0, li 0, li 0, li 0]) [] 0 ∧ True) ∧ (true = true → true = true ∧ true = true ∧ EqOK Tryz.prog 66 [li 0, li 0, li 0, li 0] [li 0, li 0, li 0, li 0] (0 == 0 && (0 == 0 && (0 == 0 && 0 == 0))) ∧ True) ∧ (true = true → true = true) ∧ Le (bv (bif true then 0 == 0 && (0 == 0 && (0 == 0 && 0 == 0)) else false)) (bv true) ∧ (true = true → true = true ∧ True) ∧ (true = true → true = true) ∧ Le (bv (bif true then 11 == 11 else false)) (bv true) ∧ Le (bv true) (bv true) ∧ True) (by kernel_rfl)
  repeat' (first | exact trivial | with_reducible apply And.intro | (with_reducible apply HB.mk) | with_reducible intro _)
  all_goals first
    | (assumption)
    | (with_reducible exact Le.refl _)
    | (with_reducible exact C12e _)
    | ((first | exact C15a | exact C15b _))
    | ((exact C25_2))
    | ((exact C26_2))
    | (exact Le.of (by kernel_rfl))
    | (decide)
    | (rfl)
    | (exact eq66 0 0 0 0 0 0 0 0)
    | (exact okw _ (by omega) (by omega))
    | (exact Le.of rfl)
    | (exact BkR.of rfl)
    | (unfold SlOK; omega)
    | (unfold SlOK; decide)
    | (unfold inByte; decide)
    | (simp only [*, Bool.and_self, Bool.not_false, Bool.not_true]; done)
    | (simp_all [wants]; done)
end Ab
end Go.Proofs.YtpdckpifhniioaaGreat
end
section
set_option linter.unusedVariables false
set_option linter.unusedSimpArgs false
namespace Go.Proofs.YtpdckpifhniioaaGreat
open Go.RowKit
namespace Ab
attribute [local irreducible] CallOKd
attribute [local irreducible] tl rws mdL packB
def LM (s : List Int) : List EN := (mdL s (mdN s)).map enO
theorem made_len4 (s : List Int) : (mdL s (mdN s)).length ≤ 1024 := Nat.le_trans (made_len s) (by decide)
theorem LM_len (s : List Int) : (LM s).length = (mdL s (mdN s)).length := mapO_len _
theorem LM_len4 (s : List Int) : (LM s).length ≤ 1024 := by rw [LM_len]; exact made_len4 s
theorem LM_X (s : List Int) : GoodX (LM s) := goodX_of (made_good s)
theorem open_LM (s : List Int) (n : Nat) : CallOK Tryz.prog 15 [.c (.l (.v (.string (packB (mdL s (mdN s))))))] [] n (.tup [.l (.p n 0), .l (li 0)]) [(n, ⟨[.o (n + 1) (LM s).length, li 0], .t 125⟩), (n + 1, ⟨ens (LM s), .r 123 8 (n + 1)⟩)] 2 := open_pk (made_good s) (made_len4 s) n
attribute [local irreducible] LM
def pvx (s : List Int) (n0 n1 : Int) : Nat → UInt8 := clnT (pvT (LM s) (rst n0 3 - 1) (rst n1 2) (LM s).length)
/-- The tile that belongs to the k-th pixel. -/
def pR (s : List Int) (n0 n1 : Int) (k : Nat) : Nat → UInt8 := rT (mdL s (mdN s)) (8 * (rst n0 3 - 1) + ((k : Nat) : Int).tmod 8) (8 * rst n1 2 + ((k : Nat) : Int).tdiv 8)
theorem C17B (l : List Leaf) (t : Nat → UInt8) (h : l = tl t) (n : Nat) : CallOK Tryz.prog 17 [.c (.agg l)] [] n (ag (meanL (lsB l))) [] 0 := by
  subst h
  rw [show meanL (lsB (tl t)) = meanL t from mean_ext fun i hi => lsB_tl t hi]
  exact C17 t n
theorem pv_px (s : List Int) (n0 n1 : Int) {k : Nat} (hk : k < 64) : List.take 4 (List.drop (0 + ((k : Nat) : Int).toNat * 4) (tl (pvx s n0 n1))) = [ub (meanB (pR s n0 n1 k) 0), ub (meanB (pR s n0 n1 k) 1), ub (meanB (pR s n0 n1 k) 2), ub (meanB (pR s n0 n1 k) 3)] := by
  have e8 : ((k : Nat) : Int).tmod 8 = ((k % 8 : Nat) : Int) := by rw [Int.tmod_eq_emod_of_nonneg (by omega)]; rfl
  have d8 : ((k : Nat) : Int).tdiv 8 = ((k / 8 : Nat) : Int) := by rw [Int.tdiv_eq_ediv_of_nonneg (by omega)]; rfl
  rw [tl_pix' _ hk]
  unfold pR
  rw [e8, d8]
  have h := fun c hc => pv_mean (made_good s) (rst n0 3 - 1) (rst n1 2) (i := k) (c := c) hk hc
  have h0 := h 0 (by decide)
  have h1 := h 1 (by decide)
  have h2 := h 2 (by decide)
  have h3 := h 3 (by decide)
  unfold pvx
  rw [show LM s = (mdL s (mdN s)).map enO by unfold LM; rfl]
  rw [Nat.add_zero] at h0
  rw [h0, h1, h2, h3]
theorem meanL_px (t : Nat → UInt8) : meanL (lsB (tl t)) = [ub (meanB t 0), ub (meanB t 1), ub (meanB t 2), ub (meanB t 3)] := by
  rw [show meanL (lsB (tl t)) = meanL t from mean_ext fun i hi => lsB_tl t hi]; exact meanL_ub t
theorem pq_self (a b c d : UInt8) : (!pq [ub a, ub b, ub c, ub d] [ub a, ub b, ub c, ub d]) = false := by
  unfold pq
  rw [decide_eq_true ⟨rfl, rfl, rfl, rfl⟩]; rfl
theorem rst3 (x : Int) : 0 ≤ rst x 3 ∧ rst x 3 < 3 := by
  have := rest_bd (x := x) (n := 3) (by decide) (by decide)
  exact ⟨this.1, this.2.1⟩
theorem prev_LM (s : List Int) (n0 n1 : Int) (id i n : Nat) (h1 : id < n) (h2 : i < n) (h3 : id ≠ i) : CallOK Tryz.prog 16 [.c (.l (.p id 0)), ag [li (rst n0 3 - 1), li (rst n1 2)]] [(id, ⟨[.o i (LM s).length, li 0], .t 125⟩), (i, ⟨ens (LM s), .r 123 8 i⟩)] n (.tup [.agg (tl (pvx s n0 n1)), .l (li 0)]) [] 0 := preview_any (LM s) 0 _ _ (LM_len4 s) (LM_X s) (by have := rst3 n0; omega) (by have := rst2 n1; omega) id i n h1 h2 h3
def IPv (s : List Int) (n0 n1 : Int) (k : Nat) : St := ⟨[(14, iv .i64 (k : Nat)), (6, .c (.l (.p 3 0))), (11, .c (.l (.p 6 0))), (12, .c (.l (.p 7 0))), (9, .c (.l (.p 4 0))), (13, iv .i64 0), (5, bv true)], [(2, some ⟨rws (mdL s (mdN s)), .r 42 258 2⟩), (3, some ⟨[.o 2 (mdL s (mdN s)).length], .t 26⟩), (4, some ⟨[.o 5 (LM s).length, li 0], .t 125⟩), (5, some ⟨ens (LM s), .r 123 8 5⟩), (6, some ⟨[li (rst n0 3 - 1), li (rst n1 2)], .t 40⟩), (7, some ⟨tl (pvx s n0 n1), .t 38⟩)], 8, 84, [7, 6, 5, 4, 3, 2, 1], (1)⟩
def cz_RPv (s : List Int) (n0 n1 : Int) (k : Nat) : Cz := {
  ct := (fun f => match f with
  | 10 => some fun _ _S ar => match ar with | [] => some { v := bv true, rd := [], wr := [], nw := 0 } | _ => none
  | 11 => some fun _ _S ar => match ar with | [.c (.l _)] => some { v := .c (.agg [.o _S.n (mdL s (mdN s)).length]), rd := [0], wr := [(_S.n, ⟨rws (mdL s (mdN s)), .r 42 258 _S.n⟩)], nw := 1 } | _ => none
  | 12 => some fun _ _S ar => match ar with | [.c (.agg [.o i _])] => some { v := .tup [.l (.v (.string (packB (mdL s (mdN s))))), .l (li 0)], rd := [i], wr := [], nw := 0 } | _ => none
  | 14 => some fun _ _S ar => match ar with | [.c (.l (.v (.int _ x))), .c (.l (.v (.int _ n)))] => some { v := iv .i64 (rst x n), rd := [], wr := [], nw := 0 } | _ => none
  | 15 => some fun _ _S ar => match ar with | [.c (.l (.v (.string q)))] => some { v := .tup [.l (.p _S.n 0), .l (li 0)], rd := [], wr := [(_S.n, ⟨[.o (_S.n + 1) (LM s).length, li 0], .t 125⟩), (_S.n + 1, ⟨ens (LM s), .r 123 8 (_S.n + 1)⟩)], nw := 2 } | _ => none
  | 16 => some fun _ _S ar => match ar with | [.c (.l (.p i _)), .c (.agg [.v (.int _ _), .v (.int _ _)])] => some { v := .tup [.agg (tl (pvx s n0 n1)), .l (li 0)], rd := [i, i + 1], wr := [], nw := 0 } | _ => none
  | 17 => some fun _ _S ar => match ar with | [.c (.agg l)] => some { v := ag (meanL (lsB l)), rd := [], wr := [], nw := 0 } | _ => none
  | 18 => some fun _ _S ar => match ar with | [.c (.agg [.o i _]), .c (.agg [.v (.int _ X), .v (.int _ Y)])] => some { v := .c (.agg (tl (rT (mdL s (mdN s)) X Y))), rd := [i], wr := [], nw := 0 } | _ => none
  | 19 => some fun _ _S ar => match ar with | [.c (.l (.p i _))] => some { v := iv .i64 0, rd := [i], wr := [], nw := 0 } | _ => none
  | _ => none)
  eq := (fun t => match t with
  | 36 => some pq
  | _ => none)
  raw := [], sym := [70, 71], nf := [(67, .c (.agg (tl (pR s n0 n1 k)))), (68, ag [ub (meanB (pR s n0 n1 k) 0), ub (meanB (pR s n0 n1 k) 1), ub (meanB (pR s n0 n1 k) 2), ub (meanB (pR s n0 n1 k) 3)]), (71, ag [ub (meanB (pR s n0 n1 k) 0), ub (meanB (pR s n0 n1 k) 1), ub (meanB (pR s n0 n1 k) 2), ub (meanB (pR s n0 n1 k) 3)]), (72, ag [ub (meanB (pR s n0 n1 k) 0), ub (meanB (pR s n0 n1 k) 1), ub (meanB (pR s n0 n1 k) 2), ub (meanB (pR s n0 n1 k) 3)]), (73, bv false)], ap := true, off := [], on := [], lp := fun _ => none, un := 0, wh := [26, 36, 40, 38] }
set_option maxRecDepth 100000 in
theorem RPv (s : List Int) (n0 n1 : Int) (k : Nat)  (K : Exit → St → Prop) (h : HB (decide ((Nat.cast k : Int) < 64)) (IntKind.i64.wrap (8 * (rst n0 3 - 1)) = 8 * (rst n0 3 - 1) ∧ (8 : Int) ≠ 0 ∧ IntKind.i64.wrap (8 * (rst n0 3 - 1) + ((Nat.cast k : Int)).tmod 8) = 8 * (rst n0 3 - 1) + ((Nat.cast k : Int)).tmod 8 ∧ IntKind.i64.wrap (8 * rst n1 2) = 8 * rst n1 2 ∧ (8 : Int) ≠ 0 ∧ IntKind.i64.wrap (((Nat.cast k : Int)).tdiv 8) = ((Nat.cast k : Int)).tdiv 8 ∧ IntKind.i64.wrap (8 * rst n1 2 + ((Nat.cast k : Int)).tdiv 8) = 8 * rst n1 2 + ((Nat.cast k : Int)).tdiv 8 ∧ CallOKd Tryz.prog 18 [] [ag [Leaf.o 2 (mdL s (mdN s)).length], ag [li (8 * (rst n0 3 - 1) + ((Nat.cast k : Int)).tmod 8), li (8 * rst n1 2 + ((Nat.cast k : Int)).tdiv 8)]] [(2, Blk.mk (rws (mdL s (mdN s))) (BT.r 42 258 2))] 8 (ag (tl (rT (mdL s (mdN s)) (8 * (rst n0 3 - 1) + ((Nat.cast k : Int)).tmod 8) (8 * rst n1 2 + ((Nat.cast k : Int)).tdiv 8)))) [] 0 ∧ Le (ag (tl (rT (mdL s (mdN s)) (8 * (rst n0 3 - 1) + ((Nat.cast k : Int)).tmod 8) (8 * rst n1 2 + ((Nat.cast k : Int)).tdiv 8)))) (ag (tl (pR s n0 n1 k))) ∧ CallOKd Tryz.prog 17 [] [ag (tl (pR s n0 n1 k))] [] 8 (ag (meanL (lsB (tl (pR s n0 n1 k))))) [] 0 ∧ Le (ag (meanL (lsB (tl (pR s n0 n1 k))))) (ag [Leaf.v (Value.int IntKind.u8 (Nat.cast ((meanB (pR s n0 n1 k) 0).toNat) : Int)), Leaf.v (Value.int IntKind.u8 (Nat.cast ((meanB (pR s n0 n1 k) 1).toNat) : Int)), Leaf.v (Value.int IntKind.u8 (Nat.cast ((meanB (pR s n0 n1 k) 2).toNat) : Int)), Leaf.v (Value.int IntKind.u8 (Nat.cast ((meanB (pR s n0 n1 k) 3).toNat) : Int))]) ∧ 0 = 0 ∧ 4 = 4 ∧ InR ((Nat.cast k : Int)) 64 ∧ 0 + ((Nat.cast k : Int)).toNat * 4 + 4 ≤ 256 ∧ Le (ag (List.take 4 (List.drop (0 + ((Nat.cast k : Int)).toNat * 4) (tl (pvx s n0 n1))))) (ag [Leaf.v (Value.int IntKind.u8 (Nat.cast ((meanB (pR s n0 n1 k) 0).toNat) : Int)), Leaf.v (Value.int IntKind.u8 (Nat.cast ((meanB (pR s n0 n1 k) 1).toNat) : Int)), Leaf.v (Value.int IntKind.u8 (Nat.cast ((meanB (pR s n0 n1 k) 2).toNat) : Int)), Leaf.v (Value.int IntKind.u8 (Nat.cast ((meanB (pR s n0 n1 k) 3).toNat) : Int))]) ∧ Le (ag [Leaf.v (Value.int IntKind.u8 (Nat.cast ((meanB (pR s n0 n1 k) 0).toNat) : Int)), Leaf.v (Value.int IntKind.u8 (Nat.cast ((meanB (pR s n0 n1 k) 1).toNat) : Int)), Leaf.v (Value.int IntKind.u8 (Nat.cast ((meanB (pR s n0 n1 k) 2).toNat) : Int)), Leaf.v (Value.int IntKind.u8 (Nat.cast ((meanB (pR s n0 n1 k) 3).toNat) : Int))]) (ag [Leaf.v (Value.int IntKind.u8 (Nat.cast ((meanB (pR s n0 n1 k) 0).toNat) : Int)), Leaf.v (Value.int IntKind.u8 (Nat.cast ((meanB (pR s n0 n1 k) 1).toNat) : Int)), Leaf.v (Value.int IntKind.u8 (Nat.cast ((meanB (pR s n0 n1 k) 2).toNat) : Int)), Leaf.v (Value.int IntKind.u8 (Nat.cast ((meanB (pR s n0 n1 k) 3).toNat) : Int))]) ∧ EqOK Tryz.prog 36 [Leaf.v (Value.int IntKind.u8 (Nat.cast ((meanB (pR s n0 n1 k) 0).toNat) : Int)), Leaf.v (Value.int IntKind.u8 (Nat.cast ((meanB (pR s n0 n1 k) 1).toNat) : Int)), Leaf.v (Value.int IntKind.u8 (Nat.cast ((meanB (pR s n0 n1 k) 2).toNat) : Int)), Leaf.v (Value.int IntKind.u8 (Nat.cast ((meanB (pR s n0 n1 k) 3).toNat) : Int))] [Leaf.v (Value.int IntKind.u8 (Nat.cast ((meanB (pR s n0 n1 k) 0).toNat) : Int)), Leaf.v (Value.int IntKind.u8 (Nat.cast ((meanB (pR s n0 n1 k) 1).toNat) : Int)), Leaf.v (Value.int IntKind.u8 (Nat.cast ((meanB (pR s n0 n1 k) 2).toNat) : Int)), Leaf.v (Value.int IntKind.u8 (Nat.cast ((meanB (pR s n0 n1 k) 3).toNat) : Int))] (pq [ub (meanB (pR s n0 n1 k) 0), ub (meanB (pR s n0 n1 k) 1), ub (meanB (pR s n0 n1 k) 2), ub (meanB (pR s n0 n1 k) 3)] [ub (meanB (pR s n0 n1 k) 0), ub (meanB (pR s n0 n1 k) 1), ub (meanB (pR s n0 n1 k) 2), ub (meanB (pR s n0 n1 k) 3)]) ∧ Le (bv !pq [ub (meanB (pR s n0 n1 k) 0), ub (meanB (pR s n0 n1 k) 1), ub (meanB (pR s n0 n1 k) 2), ub (meanB (pR s n0 n1 k) 3)] [ub (meanB (pR s n0 n1 k) 0), ub (meanB (pR s n0 n1 k) 1), ub (meanB (pR s n0 n1 k) 2), ub (meanB (pR s n0 n1 k) 3)]) (bv false) ∧ IntKind.i64.wrap ((Nat.cast k : Int) + 1) = (Nat.cast k : Int) + 1 ∧ RoundTo Tryz.prog ((getLoop 10 (Tryz.f4.body.getD Code.skip)).getD Code.skip) 8 (wkK 8 K) (St.mk [(14, iv IntKind.i64 ((Nat.cast k : Int) + 1)), (52, iv IntKind.i64 ((Nat.cast k : Int) + 1)), (51, iv IntKind.i64 (Nat.cast k : Int)), (73, bv false), (72, ag [Leaf.v (Value.int IntKind.u8 (Nat.cast ((meanB (pR s n0 n1 k) 0).toNat) : Int)), Leaf.v (Value.int IntKind.u8 (Nat.cast ((meanB (pR s n0 n1 k) 1).toNat) : Int)), Leaf.v (Value.int IntKind.u8 (Nat.cast ((meanB (pR s n0 n1 k) 2).toNat) : Int)), Leaf.v (Value.int IntKind.u8 (Nat.cast ((meanB (pR s n0 n1 k) 3).toNat) : Int))]), (71, ag [Leaf.v (Value.int IntKind.u8 (Nat.cast ((meanB (pR s n0 n1 k) 0).toNat) : Int)), Leaf.v (Value.int IntKind.u8 (Nat.cast ((meanB (pR s n0 n1 k) 1).toNat) : Int)), Leaf.v (Value.int IntKind.u8 (Nat.cast ((meanB (pR s n0 n1 k) 2).toNat) : Int)), Leaf.v (Value.int IntKind.u8 (Nat.cast ((meanB (pR s n0 n1 k) 3).toNat) : Int))]), (70, SV.c (Cp.l (Leaf.p 7 (0 + ((Nat.cast k : Int)).toNat * 4)))), (69, iv IntKind.i64 (Nat.cast k : Int)), (15, SV.c (Cp.l (Leaf.p 8 0))), (68, ag [Leaf.v (Value.int IntKind.u8 (Nat.cast ((meanB (pR s n0 n1 k) 0).toNat) : Int)), Leaf.v (Value.int IntKind.u8 (Nat.cast ((meanB (pR s n0 n1 k) 1).toNat) : Int)), Leaf.v (Value.int IntKind.u8 (Nat.cast ((meanB (pR s n0 n1 k) 2).toNat) : Int)), Leaf.v (Value.int IntKind.u8 (Nat.cast ((meanB (pR s n0 n1 k) 3).toNat) : Int))]), (67, ag (tl (pR s n0 n1 k))), (66, ag [li (8 * (rst n0 3 - 1) + ((Nat.cast k : Int)).tmod 8), li (8 * rst n1 2 + ((Nat.cast k : Int)).tdiv 8)]), (65, iv IntKind.i64 (8 * rst n1 2 + ((Nat.cast k : Int)).tdiv 8)), (64, iv IntKind.i64 (((Nat.cast k : Int)).tdiv 8)), (63, iv IntKind.i64 (Nat.cast k : Int)), (62, iv IntKind.i64 (8 * rst n1 2)), (61, iv IntKind.i64 (rst n1 2)), (60, SV.c (Cp.l (Leaf.p 6 1))), (59, iv IntKind.i64 (8 * (rst n0 3 - 1) + ((Nat.cast k : Int)).tmod 8)), (58, iv IntKind.i64 (((Nat.cast k : Int)).tmod 8)), (57, iv IntKind.i64 (Nat.cast k : Int)), (56, iv IntKind.i64 (8 * (rst n0 3 - 1))), (55, iv IntKind.i64 (rst n0 3 - 1)), (54, SV.c (Cp.l (Leaf.p 6 0))), (53, ag [Leaf.o 2 (mdL s (mdN s)).length]), (50, bv (decide ((Nat.cast k : Int) < 64))), (49, iv IntKind.i64 (Nat.cast k : Int)), (14, iv IntKind.i64 (Nat.cast k : Int)), (6, SV.c (Cp.l (Leaf.p 3 0))), (11, SV.c (Cp.l (Leaf.p 6 0))), (12, SV.c (Cp.l (Leaf.p 7 0))), (9, SV.c (Cp.l (Leaf.p 4 0))), (13, iv IntKind.i64 0), (5, bv true)] [(8, some (Blk.mk [Leaf.v (Value.int IntKind.u8 (Nat.cast ((meanB (pR s n0 n1 k) 0).toNat) : Int)), Leaf.v (Value.int IntKind.u8 (Nat.cast ((meanB (pR s n0 n1 k) 1).toNat) : Int)), Leaf.v (Value.int IntKind.u8 (Nat.cast ((meanB (pR s n0 n1 k) 2).toNat) : Int)), Leaf.v (Value.int IntKind.u8 (Nat.cast ((meanB (pR s n0 n1 k) 3).toNat) : Int))] (BT.t 36))), (8, some (Blk.mk [Leaf.v (Value.int IntKind.u8 0), Leaf.v (Value.int IntKind.u8 0), Leaf.v (Value.int IntKind.u8 0), Leaf.v (Value.int IntKind.u8 0)] (BT.t 36))), (2, some (Blk.mk (rws (mdL s (mdN s))) (BT.r 42 258 2))), (3, some (Blk.mk [Leaf.o 2 (mdL s (mdN s)).length] (BT.t 26))), (4, some (Blk.mk [Leaf.o 5 (LM s).length, li 0] (BT.t 125))), (5, some (Blk.mk (ens (LM s)) (BT.r 123 8 5))), (6, some (Blk.mk [li (rst n0 3 - 1), li (rst n1 2)] (BT.t 40))), (7, some (Blk.mk (tl (pvx s n0 n1)) (BT.t 38)))] 9 84 [8, 8, 7, 6, 5, 4, 3, 2, 1] 1)) (wkK 8 K (Exit.exit 0) (St.mk [(50, bv (decide ((Nat.cast k : Int) < 64))), (49, iv IntKind.i64 (Nat.cast k : Int)), (14, iv IntKind.i64 (Nat.cast k : Int)), (6, SV.c (Cp.l (Leaf.p 3 0))), (11, SV.c (Cp.l (Leaf.p 6 0))), (12, SV.c (Cp.l (Leaf.p 7 0))), (9, SV.c (Cp.l (Leaf.p 4 0))), (13, iv IntKind.i64 0), (5, bv true)] [(2, some (Blk.mk (rws (mdL s (mdN s))) (BT.r 42 258 2))), (3, some (Blk.mk [Leaf.o 2 (mdL s (mdN s)).length] (BT.t 26))), (4, some (Blk.mk [Leaf.o 5 (LM s).length, li 0] (BT.t 125))), (5, some (Blk.mk (ens (LM s)) (BT.r 123 8 5))), (6, some (Blk.mk [li (rst n0 3 - 1), li (rst n1 2)] (BT.t 40))), (7, some (Blk.mk (tl (pvx s n0 n1)) (BT.t 38)))] 8 84 [7, 6, 5, 4, 3, 2, 1] 1))) : WPL Tryz.prog ((getLoop 10 (Tryz.f4.body.getD .skip)).getD .skip) (IPv s n0 n1 k) (wkK 8 K) :=
  wp_round (cx := cz_RPv s n0 n1 k) rfl (of_eq (by kernel_rfl) h)
set_option maxRecDepth 100000 in
set_option maxHeartbeats 4000000 in
theorem LPv (s : List Int) (n0 n1 : Int) (hy : True) : ∀ (m k : Nat), 64 - k = m → k ≤ 64 → ∀ (K : Exit → St → Prop), K (.exit 0) (IPv s n0 n1 64) → WPL Tryz.prog ((getLoop 10 (Tryz.f4.body.getD .skip)).getD .skip) (IPv s n0 n1 k) (wkK 8 K)
  | 0, k, hm, hk, K, hK => by
    have e : k = 64 := by omega
    subst e
    refine RPv s n0 n1 _ K (HB.mk (fun hne => absurd (of_decide_eq_true hne) (by omega)) (fun he => ?_))
    exact wkK.to (IPv s n0 n1 _) (Nat.le_refl _) (by kernel_rfl) (wkE_cons (LeN.sl (by kernel_rfl) rfl) (wkE_cons (LeN.sl (by kernel_rfl) rfl) (wkE_cons (LeN.sl (by kernel_rfl) rfl) (wkE_cons (LeN.sl (by kernel_rfl) rfl) (wkE_cons (LeN.sl (by kernel_rfl) rfl) (wkE_cons (LeN.sl (by kernel_rfl) rfl) (wkE_cons (LeN.sl (by kernel_rfl) rfl) trivial))))))) (wkH_cons (BkN.plain (cs := rws (mdL s (mdN s))) (b := .r 42 258 2) (by kernel_rfl) (rfl) (plain_rws _) (by kernel_rfl)) (wkH_cons (BkN.blk (k := ⟨[.o 2 (mdL s (mdN s)).length], .t 26⟩) (by kernel_rfl) (rfl) (by kernel_rfl)) (wkH_cons (BkN.blk (k := ⟨[.o 5 (LM s).length, li 0], .t 125⟩) (by kernel_rfl) (rfl) (by kernel_rfl)) (wkH_cons (BkN.plain (cs := ens (LM s)) (b := .r 123 8 5) (by kernel_rfl) (rfl) (plain_ens _) (by kernel_rfl)) (wkH_cons (BkN.blk (k := ⟨[li (rst n0 3 - 1), li (rst n1 2)], .t 40⟩) (by kernel_rfl) (rfl) (by kernel_rfl)) (wkH_cons (BkN.plain (cs := tl (pvx s n0 n1)) (b := .t 38) (by kernel_rfl) (rfl) (plain_tl _) (by kernel_rfl)) trivial)))))) hK
  | m + 1, k, hm, hk, K, hK => by
    refine RPv s n0 n1 k K (HB.mk (fun hne => ?_) (fun he => absurd (show ((k : Nat) : Int) < (64 : Nat) by omega) (of_decide_eq_false he)))
    have hlt : k < 64 := by omega
    have h8 := Int.tmod_lt_of_pos ((k : Nat) : Int) (show (0 : Int) < 8 by decide)
    have h8n := Int.tmod_nonneg (8 : Int) (show (0 : Int) ≤ ((k : Nat) : Int) by omega)
    have d8 : ((k : Nat) : Int).tdiv 8 = ((k / 8 : Nat) : Int) := by rw [Int.tdiv_eq_ediv_of_nonneg (by omega)]; rfl
    repeat' (first | exact trivial | with_reducible apply And.intro | (with_reducible apply HB.mk) | with_reducible intro _)
    all_goals first
      | (with_reducible assumption)
      | (with_reducible exact Le.refl _)
      | (with_reducible rfl)
      | ((with_reducible exact C17B _ _ rfl _))
      | ((exact rtile_any _ _ _ (made_len4 s) _ _ (by omega)))
      | (exact ⟨by omega, by omega⟩)
      | ((rw [tl_len]; omega))
      | (with_reducible exact Le.of (congrArg (fun l => SV.c (.agg l)) (pv_px s n0 n1 hlt)))
      | (exact Le.of (congrArg (fun l => SV.c (.agg l)) (meanL_px _)))
      | (exact eq36L _ _ _ _ _ _ _ _)
      | (with_reducible exact Le.bool (pq_self _ _ _ _))
      | (exact Le.of rfl)
      | ((have := rst3 n0; have := rst2 n1; exact okw _ (by omega) (by omega)))
      | (omega)
      | ((with_reducible refine RoundTo.toN 9 (IPv s n0 n1 (k + 1)) ?_ ?_ ?_ ?_ ?_); exact Nat.le_refl _; kernel_rfl; exact (wkE_cons (LeN.sl (by kernel_rfl) rfl) (wkE_cons (LeN.sl (by kernel_rfl) rfl) (wkE_cons (LeN.sl (by kernel_rfl) rfl) (wkE_cons (LeN.sl (by kernel_rfl) rfl) (wkE_cons (LeN.sl (by kernel_rfl) rfl) (wkE_cons (LeN.sl (by kernel_rfl) rfl) (wkE_cons (LeN.sl (by kernel_rfl) rfl) trivial))))))); exact (wkH_cons (BkN.plain (cs := rws (mdL s (mdN s))) (b := .r 42 258 2) (by kernel_rfl) (rfl) (plain_rws _) (by kernel_rfl)) (wkH_cons (BkN.blk (k := ⟨[.o 2 (mdL s (mdN s)).length], .t 26⟩) (by kernel_rfl) (rfl) (by kernel_rfl)) (wkH_cons (BkN.blk (k := ⟨[.o 5 (LM s).length, li 0], .t 125⟩) (by kernel_rfl) (rfl) (by kernel_rfl)) (wkH_cons (BkN.plain (cs := ens (LM s)) (b := .r 123 8 5) (by kernel_rfl) (rfl) (plain_ens _) (by kernel_rfl)) (wkH_cons (BkN.blk (k := ⟨[li (rst n0 3 - 1), li (rst n1 2)], .t 40⟩) (by kernel_rfl) (rfl) (by kernel_rfl)) (wkH_cons (BkN.plain (cs := tl (pvx s n0 n1)) (b := .t 38) (by kernel_rfl) (rfl) (plain_tl _) (by kernel_rfl)) trivial)))))); exact (LPv s n0 n1 hy m (k + 1) (by omega) (by omega) K hK))
      | (exact okw _ (by omega) (by omega))
      | (exact Le.of rfl)
      | (exact BkR.of rfl)
      | (unfold SlOK; omega)
      | (unfold SlOK; decide)
      | (unfold inByte; decide)
      | (simp only [*, Bool.and_self, Bool.not_false, Bool.not_true]; done)
      | (simp_all [wants]; done)
theorem enters4 : Enters Tryz.prog 4 := fun args w => by go_simp
def cz_W4 (x : Leaf) (p : Nat) (s : List Int) (n0 n1 : Int) : Cz := {
  ct := (fun f => match f with
  | 10 => some fun _ _S ar => match ar with | [] => some { v := bv true, rd := [], wr := [], nw := 0 } | _ => none
  | 11 => some fun _ _S ar => match ar with | [.c (.l _)] => some { v := .c (.agg [.o _S.n (mdL s (mdN s)).length]), rd := [0], wr := [(_S.n, ⟨rws (mdL s (mdN s)), .r 42 258 _S.n⟩)], nw := 1 } | _ => none
  | 12 => some fun _ _S ar => match ar with | [.c (.agg [.o i _])] => some { v := .tup [.l (.v (.string (packB (mdL s (mdN s))))), .l (li 0)], rd := [i], wr := [], nw := 0 } | _ => none
  | 14 => some fun _ _S ar => match ar with | [.c (.l (.v (.int _ x))), .c (.l (.v (.int _ n)))] => some { v := iv .i64 (rst x n), rd := [], wr := [], nw := 0 } | _ => none
  | 15 => some fun _ _S ar => match ar with | [.c (.l (.v (.string q)))] => some { v := .tup [.l (.p _S.n 0), .l (li 0)], rd := [], wr := [(_S.n, ⟨[.o (_S.n + 1) (LM s).length, li 0], .t 125⟩), (_S.n + 1, ⟨ens (LM s), .r 123 8 (_S.n + 1)⟩)], nw := 2 } | _ => none
  | 16 => some fun _ _S ar => match ar with | [.c (.l (.p i _)), .c (.agg [.v (.int _ _), .v (.int _ _)])] => some { v := .tup [.agg (tl (pvx s n0 n1)), .l (li 0)], rd := [i, i + 1], wr := [], nw := 0 } | _ => none
  | 17 => some fun _ _S ar => match ar with | [.c (.agg l)] => some { v := ag (meanL (lsB l)), rd := [], wr := [], nw := 0 } | _ => none
  | 18 => some fun _ _S ar => match ar with | [.c (.agg [.o i _]), .c (.agg [.v (.int _ X), .v (.int _ Y)])] => some { v := .c (.agg (tl (rT (mdL s (mdN s)) X Y))), rd := [i], wr := [], nw := 0 } | _ => none
  | 19 => some fun _ _S ar => match ar with | [.c (.l (.p i _))] => some { v := iv .i64 0, rd := [i], wr := [], nw := 0 } | _ => none
  | _ => none)
  eq := (fun t => match t with
  | 36 => some pq
  | _ => none)
  raw := [], sym := [], nf := [(34, bv false), (47, .c (.agg (tl (pvx s n0 n1))))], ap := true, off := [], on := [], lp := fun r => match r with | 10 => some (fun _ K => K (.exit 0) (IPv s n0 n1 64)) | _ => none, un := 0, wh := [26, 38, 40] }
set_option maxRecDepth 100000 in
set_option maxHeartbeats 400000 in
theorem W4 (x : Leaf) (p : Nat) (s : List Int) (n0 n1 : Int) (hx : IntsAt x p s) : CallOK Tryz.prog 4 [.c (.l x), ag [li n0, li n1]] [(0, ⟨qls p s, .q⟩)] 1 (bv true) [] 0 := by
  refine call_ok (cx := cz_W4 x p s n0 n1) (nm := []) rfl Tryz.func4 (body := Tryz.f4.body.getD .skip) rfl enters4 (by unfold inck; simp only [List.all_cons, List.all_nil, hx.lt, blkLt_fix (fix_qls p s) (show (BT.rn (rnId 1 0 []) (.q)).isSome = true from rfl), Bool.and_true, Bool.true_and]; kernel_rfl) ?_
  apply of_eq (q := CallOKd Tryz.prog 10 [] [] [] 2 (bv true) [] 0 ∧ CallOKd Tryz.prog 11 [] [SV.c (Cp.l x)] [(0, Blk.mk (qls p s) BT.q)] 2 (ag [Leaf.o 2 (mdL s (mdN s)).length]) [(2, Blk.mk (rws (mdL s (mdN s))) (BT.r 42 258 2))] 1 ∧ 0 = 0 ∧ 1 = 1 ∧ CallOKd Tryz.prog 12 [] [ag [Leaf.o 2 (mdL s (mdN s)).length]] [(2, Blk.mk (rws (mdL s (mdN s))) (BT.r 42 258 2))] 4 (SV.tup [Cp.l (Leaf.v (Value.string (packB (mdL s (mdN s))))), Cp.l (li 0)]) [] 0 ∧ CallOKd Tryz.prog 15 [] [SV.c (Cp.l (Leaf.v (Value.string (packB (mdL s (mdN s))))))] [] 4 (SV.tup [Cp.l (Leaf.p 4 0), Cp.l (li 0)]) [(4, Blk.mk [Leaf.o 5 (LM s).length, li 0] (BT.t 125)), (5, Blk.mk (ens (LM s)) (BT.r 123 8 5))] 2 ∧ ((!0 != 0) = true → (!0 != 0) = true ∧ True) ∧ ((0 != 0) = false → (!0 != 0) = true) ∧ Le (bv (bif 0 != 0 then true else false)) (bv false) ∧ CallOKd Tryz.prog 14 [] [iv IntKind.i64 n0, iv IntKind.i64 3] [] 6 (iv IntKind.i64 (rst n0 3)) [] 0 ∧ IntKind.i64.wrap (rst n0 3 - 1) = rst n0 3 - 1 ∧ CallOKd Tryz.prog 14 [] [iv IntKind.i64 n1, iv IntKind.i64 2] [] 6 (iv IntKind.i64 (rst n1 2)) [] 0 ∧ 0 = 0 ∧ 2 = 2 ∧ CallOKd Tryz.prog 16 [] [SV.c (Cp.l (Leaf.p 4 0)), ag [li (rst n0 3 - 1), li (rst n1 2)]] [(4, Blk.mk [Leaf.o 5 (LM s).length, li 0] (BT.t 125)), (5, Blk.mk (ens (LM s)) (BT.r 123 8 5))] 7 (SV.tup [Cp.agg (tl (pvx s n0 n1)), Cp.l (li 0)]) [] 0 ∧ Le (ag (tl (pvx s n0 n1))) (ag (tl (pvx s n0 n1))) ∧ 0 = 0 ∧ 256 = 256 ∧ (LoopOK Tryz.prog ((getLoop 10 (Tryz.f4.body.getD .skip)).getD .skip) (St.mk [(14, iv IntKind.i64 0), (13, iv IntKind.i64 0), (12, SV.c (Cp.l (Leaf.p 7 0))), (48, iv IntKind.i64 0), (47, ag (tl (pvx s n0 n1))), (43, SV.tup [Cp.agg (tl (pvx s n0 n1)), Cp.l (li 0)]), (46, SV.tup [Cp.agg (tl (pvx s n0 n1)), Cp.l (li 0)]), (45, ag [li (rst n0 3 - 1), li (rst n1 2)]), (44, SV.c (Cp.l (Leaf.p 4 0))), (11, SV.c (Cp.l (Leaf.p 6 0))), (42, ag [li (rst n0 3 - 1), li (rst n1 2)]), (41, iv IntKind.i64 (rst n1 2)), (40, iv IntKind.i64 n1), (39, SV.c (Cp.l (Leaf.p 1 1))), (38, iv IntKind.i64 (rst n0 3 - 1)), (37, iv IntKind.i64 (rst n0 3)), (36, iv IntKind.i64 n0), (35, SV.c (Cp.l (Leaf.p 1 0))), (34, bv false), (33, SV.g (!0 != 0) (Cp.l (lb false))), (32, SV.g (!0 != 0) (Cp.l (Leaf.p 4 0))), (31, bv (0 != 0)), (30, bv (0 != 0)), (29, iv IntKind.i64 0), (10, iv IntKind.i64 0), (9, SV.c (Cp.l (Leaf.p 4 0))), (28, iv IntKind.i64 0), (27, SV.c (Cp.l (Leaf.p 4 0))), (24, SV.tup [Cp.l (Leaf.p 4 0), Cp.l (li 0)]), (26, SV.tup [Cp.l (Leaf.p 4 0), Cp.l (li 0)]), (25, SV.c (Cp.l (Leaf.v (Value.string (packB (mdL s (mdN s))))))), (8, iv IntKind.i64 0), (7, SV.c (Cp.l (Leaf.v (Value.string (packB (mdL s (mdN s))))))), (23, iv IntKind.i64 0), (22, SV.c (Cp.l (Leaf.v (Value.string (packB (mdL s (mdN s))))))), (19, SV.tup [Cp.l (Leaf.v (Value.string (packB (mdL s (mdN s))))), Cp.l (li 0)]), (21, SV.tup [Cp.l (Leaf.v (Value.string (packB (mdL s (mdN s))))), Cp.l (li 0)]), (20, ag [Leaf.o 2 (mdL s (mdN s)).length]), (6, SV.c (Cp.l (Leaf.p 3 0))), (18, ag [Leaf.o 2 (mdL s (mdN s)).length]), (17, SV.c (Cp.l x)), (5, bv true), (16, bv true), (4, bv false), (3, SV.c (Cp.l (Leaf.p 1 0))), (0, SV.c (Cp.l x)), (1, ag [li n0, li n1])] [(7, some (Blk.mk (tl (pvx s n0 n1)) (BT.t 38))), (7, some (Blk.mk zT256 (BT.t 38))), (6, some (Blk.mk [li (rst n0 3 - 1), li (rst n1 2)] (BT.t 40))), (6, some (Blk.mk [li 0, li 0] (BT.t 40))), (4, some (Blk.mk [Leaf.o 5 (LM s).length, li 0] (BT.t 125))), (5, some (Blk.mk (ens (LM s)) (BT.r 123 8 5))), (3, some (Blk.mk [Leaf.o 2 (mdL s (mdN s)).length] (BT.t 26))), (3, some (Blk.mk [Leaf.v (Value.slice none 0 0)] (BT.t 26))), (2, some (Blk.mk (rws (mdL s (mdN s))) (BT.r 42 258 2))), (1, some (Blk.mk [li n0, li n1] (BT.t 44))), (0, some (Blk.mk (qls p s) BT.q))] 8 84 [7, 7, 6, 6, 4, 5, 3, 3, 2, 1] 1) fun K => K (Exit.exit 0) (IPv s n0 n1 64)) ∧ (true = true → true = true ∧ True) ∧ (true = true → true = true) ∧ ((bif true then 0 == 0 else false) = true → (bif true then 0 == 0 else false) = true ∧ CallOKd Tryz.prog 19 [] [SV.c (Cp.l (Leaf.p 4 0))] [(4, Blk.mk [Leaf.o 5 (LM s).length, li 0] (BT.t 125))] 8 (iv IntKind.i64 0) [] 0 ∧ True) ∧ ((bif true then 0 == 0 else false) = true → (bif true then 0 == 0 else false) = true ∧ True) ∧ ((bif true then 0 == 0 else false) = true → (bif true then 0 == 0 else false) = true) ∧ Le (bv (bif bif true then 0 == 0 else false then 0 == 0 else false)) (bv true) ∧ True) (by kernel_rfl)
  repeat' (first | exact trivial | with_reducible apply And.intro | (with_reducible apply HB.mk) | with_reducible intro _)
  all_goals first
    | (with_reducible assumption)
    | (with_reducible exact Le.refl _)
    | (with_reducible rfl)
    | ((with_reducible exact C10 _))
    | ((exact made_any hx _ (by omega)))
    | ((exact pack_any _ (made_good s) _ _ (by omega)))
    | (((with_reducible refine C14 _ _ ?_ ?_ _) <;> omega))
    | ((with_reducible exact open_LM s _))
    | (((with_reducible refine prev_LM s n0 n1 _ _ _ ?_ ?_ ?_) <;> omega))
    | (((with_reducible refine decoded_any (LM s) 0 _ _ _ ?_ ?_ ?_) <;> omega))
    | (exact LoopOK.mk (IPv s n0 n1 0) rfl (by kernel_rfl) (wkE_cons (LeN.sl (by kernel_rfl) rfl) (wkE_cons (LeN.sl (by kernel_rfl) rfl) (wkE_cons (LeN.sl (by kernel_rfl) rfl) (wkE_cons (LeN.sl (by kernel_rfl) rfl) (wkE_cons (LeN.sl (by kernel_rfl) rfl) (wkE_cons (LeN.sl (by kernel_rfl) rfl) (wkE_cons (LeN.sl (by kernel_rfl) rfl) trivial))))))) (wkH_cons (BkN.plain (cs := rws (mdL s (mdN s))) (b := .r 42 258 2) (by kernel_rfl) (rfl) (plain_rws _) (by kernel_rfl)) (wkH_cons (BkN.blk (k := ⟨[.o 2 (mdL s (mdN s)).length], .t 26⟩) (by kernel_rfl) (rfl) (by kernel_rfl)) (wkH_cons (BkN.blk (k := ⟨[.o 5 (LM s).length, li 0], .t 125⟩) (by kernel_rfl) (rfl) (by kernel_rfl)) (wkH_cons (BkN.plain (cs := ens (LM s)) (b := .r 123 8 5) (by kernel_rfl) (rfl) (plain_ens _) (by kernel_rfl)) (wkH_cons (BkN.blk (k := ⟨[li (rst n0 3 - 1), li (rst n1 2)], .t 40⟩) (by kernel_rfl) (rfl) (by kernel_rfl)) (wkH_cons (BkN.plain (cs := tl (pvx s n0 n1)) (b := .t 38) (by kernel_rfl) (rfl) (plain_tl _) (by kernel_rfl)) trivial)))))) (fun K hT => LPv s n0 n1 trivial _ 0 rfl (by first | decide | omega) K hT))
    | ((have := rst3 n0; have := rst2 n1; exact okw _ (by omega) (by omega)))
    | (exact Le.bool rfl)
    | (omega)
    | (exact okw _ (by omega) (by omega))
    | (exact Le.of rfl)
    | (exact BkR.of rfl)
    | (unfold SlOK; omega)
    | (unfold SlOK; decide)
    | (unfold inByte; decide)
    | (simp only [*, Bool.and_self, Bool.not_false, Bool.not_true]; done)
    | (simp_all [wants]; done)
end Ab
namespace codecPreviews
theorem walk (o : Option Addr) (zs : List Int) (n cap : Nat) (a b : Int) (w : World) (w0 : n * 8 ≤ 140737488351232) (hn : zs.length = n) (hcap : n ≤ cap)
    (hc : ∀ i (h : i < zs.length), ∃ a, o = some a ∧ a.block < w.heap.size ∧ w.cell? (a.add i) = some (.int .i64 zs[i])) (hwf : ∀ z ∈ zs, (Lit.int .i64 z).wf = true) (wf1 : (Lit.int .i64 a).wf = true) (wf2 : (Lit.int .i64 b).wf = true) :
    Calls Tryz.prog 4 #[.slice o n cap, .agg #[.int .i64 a, .int .i64 b]] w fun e w' => e = .returned (.bool true) ∧ Below w.heap.size w w' :=
  Ab.ints_call (pre := []) (post := [Ab.ag [Ab.li a, Ab.li b]]) rfl rfl (fun x p s hx => Ab.W4 x p s a b hx) o zs n cap w w0 hn hcap hc
end codecPreviews
namespace Ab
end Ab
end Go.Proofs.YtpdckpifhniioaaGreat
end
section
namespace Go.Proofs.YtpdckpifhniioaaGreat
open Go.WideShapes
/-- cs are integers of the kinds ks, each fitting its kind. -/
def IsFlat : List IntKind → List Value → Prop
  | [], cs => cs = []
  | k :: ks, cs => ∃ z rest, cs = .int k z :: rest ∧ (Lit.int k z).wf = true ∧ IsFlat ks rest
theorem IsFlat.length : ∀ {ks : List IntKind} {cs : List Value}, IsFlat ks cs → cs.length = ks.length
  | [], cs, h => by rw [show cs = [] from h]; rfl
  | k :: ks, cs, h => by
    obtain ⟨z, rest, rfl, _, h'⟩ := h
    simp [IsFlat.length h']
theorem IsFlat.append : ∀ {ks ks' : List IntKind} {cs cs' : List Value}, IsFlat ks cs → IsFlat ks' cs' → IsFlat (ks ++ ks') (cs ++ cs')
  | [], ks', cs, cs', h, h' => by rw [show cs = [] from h]; exact h'
  | k :: ks, ks', cs, cs', h, h' => by
    obtain ⟨z, rest, rfl, hw, h2⟩ := h
    exact ⟨z, rest ++ cs', rfl, hw, h2.append h'⟩
/-- Chunks of one make, one behind the other. -/
theorem IsFlat.chunks {ks : List IntKind} : ∀ (m : Nat) (cs : List Value), cs.length = m * ks.length → (∀ i, i < m → IsFlat ks ((cs.drop (i * ks.length)).take ks.length)) → IsFlat (List.replicate m ks).flatten cs
  | 0, cs, hl, _ => by
    have : cs = [] := List.eq_nil_of_length_eq_zero (by simpa using hl)
    subst this; rfl
  | m + 1, cs, hl, h => by
    have h0 := h 0 (by omega)
    simp only [Nat.zero_mul, List.drop_zero] at h0
    have h1 := IsFlat.chunks (ks := ks) m (cs.drop ks.length) (by rw [List.length_drop, hl, Nat.add_mul]; omega) (fun i hi => by
      have := h (i + 1) (by omega)
      rw [List.drop_drop]
      rwa [Nat.add_mul, Nat.one_mul, Nat.add_comm] at this)
    have := h0.append h1
    rw [List.take_append_drop] at this
    simpa [List.replicate_succ] using this
/-- Fields from place 'at' on: they lie one behind the other. -/
def fieldsFlat (P : Program) (rec : TypeId → Option (List IntKind)) : List Field → Nat → Option (List IntKind)
  | [], _ => some []
  | f :: fs, a =>
    match rec f.type with
    | none => none
    | some ks => if f.offset = a ∧ P.cellsOf f.type = ks.length then (fieldsFlat P rec fs (a + ks.length)).map (ks ++ ·) else none
/-- The kinds of a type's integers, in order; none: the type is of another make. -/
def flatK (P : Program) : Nat → TypeId → Option (List IntKind)
  | 0, _ => none
  | n + 1, t =>
    match P.underlying t with
    | some (.int k) => some [k]
    | some (.array m e) =>
      match flatK P n e with
      | none => none
      | some ks => if P.cellsOf e = ks.length ∧ P.cellsOf t = m * ks.length then some (List.replicate m ks).flatten else none
    | some (.struct fs) =>
      match fieldsFlat P (flatK P n) fs.toList 0 with
      | none => none
      | some ks => if P.cellsOf t = ks.length then some ks else none
    | _ => none
section
variable {H : Type} {enc : TypeId × Value → H} {P : Program} {w : World} {base : Nat} {spare : Nat → Bool} {held : Bool}
theorem fields_flat {rec : TypeId → Option (List IntKind)} {m : Nat} (hrec : ∀ t ks cs x, rec t = some ks → DataW.trod enc P w base spare held m t cs = some x → IsFlat ks cs) (cs : List Value) :
    ∀ (fs : List Field) (a : Nat) (ks : List IntKind), fieldsFlat P rec fs a = some ks →
      (∀ (i : Nat) (f : Field), fs[i]? = some f → ∃ x, DataW.trod enc P w base spare held m f.type ((cs.drop f.offset).take (P.cellsOf f.type)) = some x) →
      IsFlat ks ((cs.drop a).take ks.length)
  | [], a, ks, h, _ => by
    have : ks = [] := by simpa [fieldsFlat] using h.symm
    subst this
    simp [IsFlat]
  | f :: fs, a, ks, h, hx => by
    unfold fieldsFlat at h
    cases hr : rec f.type with
    | none => simp [hr] at h
    | some k0 =>
      simp only [hr] at h
      split at h
      · rename_i hc
        obtain ⟨hoff, hcell⟩ := hc
        cases hf : fieldsFlat P rec fs (a + k0.length) with
        | none => simp [hf] at h
        | some k1 =>
          have hk : k0 ++ k1 = ks := by simpa [hf] using h
          subst hk
          obtain ⟨x, hx0⟩ := hx 0 f rfl
          have h0 := hrec _ _ _ _ hr hx0
          rw [hoff, hcell] at h0
          have h1 := fields_flat hrec cs fs (a + k0.length) k1 hf (fun i g hg => hx (i + 1) g (by simpa using hg))
          have := h0.append h1
          have e : (cs.drop a).take k0.length ++ (cs.drop (a + k0.length)).take k1.length = (cs.drop a).take (k0 ++ k1).length := by
            rw [List.length_append, List.take_add, List.drop_drop]
          rwa [e] at this
      · simp at h
theorem trod_flat : ∀ (n : Nat) (t : TypeId) (ks : List IntKind) (fuel : Nat) (cs : List Value) (x : DataW H × List MemPlace), flatK P n t = some ks →
    DataW.trod enc P w base spare held fuel t cs = some x → IsFlat ks cs
  | 0, t, ks, fuel, cs, x, h, _ => by simp [flatK] at h
  | n + 1, t, ks, fuel, cs, x, h, hx => by
    unfold flatK at h
    split at h
    · rename_i k hu
      have : ks = [k] := by simpa using h.symm
      subst this
      obtain ⟨z, rfl, _, hw⟩ := DataW.trod_int hu hx
      exact ⟨z, [], rfl, hw, rfl⟩
    · rename_i m e hu
      cases hr : flatK P n e with
      | none => simp [hr] at h
      | some k0 =>
        simp only [hr] at h
        split at h
        · rename_i hc
          obtain ⟨hc1, hc2⟩ := hc
          have : ks = (List.replicate m k0).flatten := by simpa using h.symm
          subst this
          obtain ⟨xs, mm, _, _, hl, hxs, hel⟩ := DataW.trod_array hu hx
          refine IsFlat.chunks m cs (by rw [hl, hc2]) fun i hi => ?_
          have hxi := hel i hi
          rw [hc1, List.getElem?_eq_getElem (by omega)] at hxi
          exact trod_flat n e k0 mm _ _ hr hxi
        · simp at h
    · rename_i fs hu
      cases hr : fieldsFlat P (flatK P n) fs.toList 0 with
      | none => simp [hr] at h
      | some k0 =>
        simp only [hr] at h
        split at h
        · rename_i hc
          have : ks = k0 := by simpa using h.symm
          subst this
          obtain ⟨xs, mm, _, _, hl, hxs, hel⟩ := DataW.trod_struct hu hx
          have := fields_flat (rec := flatK P n) (m := mm) (fun t ks cs x h1 h2 => trod_flat n t ks mm cs x h1 h2) cs fs.toList 0 ks hr (fun i f hf => by
            have hf' : fs[i]? = some f := by simpa using hf
            have := hel i f hf'
            rw [List.getElem?_eq_getElem (by
              have := (Array.getElem?_eq_some_iff.1 hf').1
              omega)] at this
            exact ⟨_, this⟩)
          rw [List.drop_zero, List.take_of_length_le (by rw [hl, hc]; exact Nat.le_refl _)] at this
          exact this
        · simp at h
    · simp at h
/-- A value of such a type: its cells are its integers. -/
theorem open_flat {t : TypeId} {v : Value} {d : DataW H} {p : List MemPlace} {ks : List IntKind} (n : Nat) (hk : flatK P n t = some ks) (hagg : ∃ C, v = .agg C)
    (h : DataW.Trod enc P w base spare held t v d p) : ∃ cs, v = .agg cs.toArray ∧ IsFlat ks cs := by
  obtain ⟨C, rfl⟩ := hagg
  obtain ⟨fuel, hf⟩ := h
  exact ⟨C.toList, by simp, trod_flat n t ks fuel _ _ hk (by simpa [Value.cells] using hf)⟩
theorem agg_array {r : Reach} {t : TypeId} {v : Value} {n : Nat} {e : TypeId} (hs : P.underlying t = some (.array n e)) (hv : Value.okWide P w r base t v) : ∃ C, v = .agg C := by
  unfold Value.okWide at hv
  rw [hs] at hv
  obtain ⟨C, h, _⟩ := hv
  exact ⟨C, h⟩
end
end Go.Proofs.YtpdckpifhniioaaGreat
end
section
namespace Go.Proofs.YtpdckpifhniioaaGreat
open Go.WideShapes Go.ChangeShapes
section
variable {H : Type} {enc : TypeId × Value → H} {P : Program} {W : World} {base : Nat}
theorem row_lt {p : List MemPlace} {a : Addr} {n i : Nat} (hp : p = MemPlace.row a n) (hi : i < n) (hlt : ∀ x ∈ p, x.block < W.heap.size) : a.block < W.heap.size := by
  obtain ⟨b, off, spot⟩ := a
  exact hlt (.cell b off) (by rw [hp]; exact MemPlace.mem_row.2 ⟨0, by omega, by simp⟩)
/-- A slice of integers that came in. -/
theorem open_int_slice {t e : TypeId} {k : IntKind} {r : Reach} {b0 : Nat} {v : Value} {d : DataW H} {p : List MemPlace} (ht : P.underlying t = some (.slice e)) (he : P.underlying e = some (.int k)) (hc : P.cellsOf e = 1)
    (hv : Value.okWide P W r b0 t v) (h : DataW.Trod enc P W base (fun _ => true) true t v d p) (hlt : ∀ x ∈ p, x.block < W.heap.size) :
    ∃ (o : Option Addr) (n cap : Nat) (zs : List Int), v = .slice o n cap ∧ zs.length = n ∧ n ≤ cap ∧ (∀ z ∈ zs, (Lit.int k z).wf = true) ∧
      (∀ i (h : i < zs.length), ∃ a, o = some a ∧ a.block < W.heap.size ∧ W.cell? (a.add i) = some (.int k zs[i])) ∧ (d = .nil ∧ n = 0 ∨ ∃ elems spare, d = .slice elems spare ∧ elems.length = n) := by
  obtain ⟨o, len, cap, rfl⟩ := okWide_slice ht hv
  obtain ⟨fuel, hf⟩ := h
  rcases open_ints ht he hc hf with ⟨hcs, hx⟩ | ⟨a, len', cap', zs, hcs, _, hl, hm, hz, hx, hcell, hwz⟩
  · simp [Value.cells] at hcs
    obtain ⟨rfl, rfl, rfl⟩ := hcs
    simp only [Prod.mk.injEq] at hx
    obtain ⟨rfl, rfl⟩ := hx
    exact ⟨none, 0, 0, [], rfl, rfl, Nat.le_refl _, by simp, fun i h => by simp at h, Or.inl ⟨rfl, rfl⟩⟩
  · simp [Value.cells] at hcs
    obtain ⟨rfl, rfl, rfl⟩ := hcs
    simp only [Prod.mk.injEq] at hx
    obtain ⟨rfl, hp⟩ := hx
    simp only [if_true] at hz
    refine ⟨some a, len, cap, zs.take len, rfl, by rw [List.length_take]; omega, hl, fun z hzz => hwz z (List.mem_of_mem_take hzz), fun i hi => ?_, Or.inr ⟨_, _, rfl, by simp [lits]; omega⟩⟩
    rw [List.length_take] at hi
    refine ⟨a, rfl, row_lt hp (show i < zs.length by omega) hlt, ?_⟩
    rw [hcell i (by omega), List.getElem_take, List.getD_eq_getElem?_getD, List.getElem?_eq_getElem (by omega)]; rfl
/-- The reach of such a slice. -/
theorem reach_slice {ts : List TypeId} {ds : List (DataW H)} {j : Nat} {t e : TypeId} {d : DataW H} {n : Nat} (h : (DataW.weightsEach P ts ds).all (· ≤ reachBytes) = true) (ht : ts[j]? = some t) (hd : ds[j]? = some d)
    (hu : P.underlying t = some (.slice e)) (hs : d = .nil ∧ n = 0 ∨ ∃ elems spare, d = .slice elems spare ∧ elems.length = n) : n * P.bytesOf e ≤ 140737488351232 := by
  rcases hs with ⟨_, rfl⟩ | ⟨elems, spare, rfl, rfl⟩
  · simp
  · have := sized_slice h ht hd hu
    refine Nat.le_trans (Nat.mul_le_mul_right _ (Nat.le_add_right _ _)) (show _ ≤ 140737488351232 from this)
end
end Go.Proofs.YtpdckpifhniioaaGreat
end
