/- x -/
import Derived.Test.YtpdckpifhniioaaD4
set_option linter.unusedVariables false
set_option linter.unusedSimpArgs false
namespace Go.Proofs.Ytpdckpifhniioaa
open Go.RowKit
namespace Ab
theorem C106g (l : List TA) (x y : Int) (t : Nat → UInt8) (hl : l.length ≤ 1023) (hb : Behind l x y) (hz : zeroT t = false) (hc : sameT (clnT t) t = true) (id n : Nat) (hi : id < n) :
    CallOK Try.prog 55 [.c (.agg [.o id l.length]), ag [li x, li y], .c (.agg (tl t))] [(id, ⟨rws l, .r 35 258 id⟩)] n (.c (.agg [.o n (l.length + 1)])) [(n, ⟨rws l ++ el ⟨x, y, t⟩, .r 35 258 n⟩)] 1 := by
  have key := CallOK.at1 (C106 l x y t hl hb hz hc) id n hi
  have e1 := ren_plain (σ := up1 id n) (plain_rws l)
  have e2 := ren_plain (σ := up1 id n) (plain_tl t)
  have e3 := ren_plain (σ := up1 id n) ((plain_rws l).append (plain_el ⟨x, y, t⟩))
  simp only [List.map_cons, List.map_nil, Blk.ren, SV.ren, Cp.ren, Leaf.ren, e1, e2, e3] at key
  exact key
def P106 (S : St) (i : Nat) (x y : Int) (c : List Leaf) (n : Nat) : Blk := match S.blk i with | some k => ⟨k.cs ++ (li x :: li y :: c), .r 35 258 n⟩ | none => ⟨[], .t 0⟩
attribute [local irreducible] tl sameT zeroT rws
theorem good_append {l : List TA} {x y : Int} {t : Nat → UInt8} (hg : Good l) (hl : l.length ≤ 1023) (hb : Behind l x y) (hi : inB x y = true) (hz : zeroT t = false) (hc : sameT (clnT t) t = true) : Good (l ++ [⟨x, y, t⟩]) := by
  have a1 : ∀ k, k < l.length → at' (l ++ [⟨x, y, t⟩]) k = at' l k := fun k hk => by unfold at'; rw [List.getD_eq_getElem?_getD, List.getD_eq_getElem?_getD, List.getElem?_append_left hk]
  have a2 : at' (l ++ [⟨x, y, t⟩]) l.length = ⟨x, y, t⟩ := by unfold at'; simp
  have hlen : (l ++ [(⟨x, y, t⟩ : TA)]).length = l.length + 1 := by simp
  refine ⟨by omega, fun k hk => ?_, fun k hk => ?_, fun k hk => ?_, fun k hk => ?_⟩
  · rcases Nat.lt_or_ge k l.length with h | h
    · rw [a1 k h]; exact hg.inn k h
    · rw [show k = l.length by omega, a2]; exact hi
  · rcases Nat.lt_or_ge k l.length with h | h
    · rw [a1 k h]; exact hg.nz k h
    · rw [show k = l.length by omega, a2]; exact hz
  · rcases Nat.lt_or_ge k l.length with h | h
    · rw [a1 k h]; exact hg.cl k h
    · rw [show k = l.length by omega, a2]; exact hc
  · rcases Nat.lt_or_ge (k + 1) l.length with h | h
    · rw [a1 k (by omega), a1 (k + 1) h]; exact hg.ord k h
    · rw [show k + 1 = l.length by omega, a2, a1 k (by omega)]; exact hb k (by omega)
theorem C105p (l : List TA) (x y : Int) (t : Nat → UInt8) (hl : l.length ≤ 1023) (id n : Nat) (hi : id < n) : CallOK Try.prog 54 [.c (.agg [.o id (l.length + 1)])] [(id, ⟨rws l ++ el ⟨x, y, t⟩, .r 35 258 id⟩)] n (.c (.agg [.o id (l.length + 1), li 0])) [] 0 := by
  have key := C105g (l ++ [⟨x, y, t⟩]) (by simp; omega) id n hi
  rw [rws_append, rws_one] at key
  simpa using key
theorem enters45 : Enters Try.prog 25 := fun args w => by go_simp
def cz_C45 (l : List TA) (x y : Int) (t : Nat → UInt8) : Cz := {
  ct := (fun f => match f with
  | 56 => some fun _ _S ar => match ar with | [.c (.agg [.o i m])] => some { v := .c (.agg [.o i m]), rd := [i], wr := [], nw := 0 } | _ => none
  | 53 => some fun _ _S ar => match ar with | [.c (.agg [.v (.int _ ax), .v (.int _ ay)])] => some { v := bv (inB ax ay), rd := [], wr := [], nw := 0 } | _ => none
  | 54 => some fun _ _S ar => match ar with | [.c (.agg [.o i m])] => some { v := .c (.agg [.o i m, li 0]), rd := [i], wr := [], nw := 0 } | _ => none
  | 55 => some fun _ _S ar => match ar with | [.c (.agg [.o i m]), .c (.agg [.v (.int _ x), .v (.int _ y)]), .c (.agg c)] => some { v := .c (.agg [.o _S.n (m + 1)]), rd := [i], wr := [(_S.n, P106 _S i x y c _S.n)], nw := 1 } | _ => none
  | _ => none)
  eq := (fun t => match t with
  | _ => none)
  raw := [], sym := [], nf := [(8, bv true), (9, bv false), (14, .c (.agg (tl t)))], ap := true, off := [], on := [], lp := fun _ => none, un := 0, wh := [71] }
set_option maxRecDepth 100000 in
set_option maxHeartbeats 400000 in
theorem C45 (l : List TA) (x y : Int) (t : Nat → UInt8) (hg : Good l) (hl : l.length ≤ 1023) (hb : Behind l x y) (hi : inB x y = true) (hz : zeroT t = false) (hc : sameT (clnT t) t = true) : CallOK Try.prog 25 [.c (.agg [.o 0 l.length]), ag [li x, li y], .c (.agg (tl t))] [(0, ⟨rws l, .r 35 258 0⟩)] 1 (.c (.agg [.o 1 (l.length + 1), li 0])) [(1, ⟨rws l ++ el ⟨x, y, t⟩, .r 35 258 1⟩)] 1 := by
  refine call_ok (cx := cz_C45 l x y t) (nm := [5]) rfl Try.func25 (body := Try.f25.body.getD .skip) rfl enters45 (by unfold inck; simp only [List.all_cons, List.all_nil, blkLt_plain (plain_rws l) (show (BT.rn (rnId 1 0 []) (.r 35 258 0)).isSome = true from rfl), Bool.and_true, Bool.true_and]; kernel_rfl) ?_
  apply of_eq (q := CallOKd Try.prog 53 [] [ag [li x, li y]] [] 5 (bv (inB x y)) [] 0 ∧ Le (bv (inB x y)) (bv true) ∧ Le (bv !true) (bv false) ∧ CallOKd Try.prog 56 [] [ag [Leaf.o 0 l.length]] [(0, Blk.mk (rws l) (BT.r 35 258 0))] 5 (ag [Leaf.o 0 l.length]) [] 0 ∧ Le (ag (List.take 256 (tl t))) (ag (tl t)) ∧ CallOKd Try.prog 55 [] [ag [Leaf.o 0 l.length], ag [li x, li y], ag (tl t)] [(0, Blk.mk (rws l) (BT.r 35 258 0))] 5 (ag [Leaf.o 5 (l.length + 1)]) [(5, Blk.mk (rws l ++ li x :: li y :: tl t) (BT.r 35 258 5))] 1 ∧ CallOKd Try.prog 54 [] [ag [Leaf.o 5 (l.length + 1)]] [(5, Blk.mk (rws l ++ li x :: li y :: tl t) (BT.r 35 258 5))] 6 (ag [Leaf.o 5 (l.length + 1), li 0]) [] 0 ∧ 0 = 0 ∧ 2 = 2 ∧ Le (ag [Leaf.o 1 (l.length + 1), li 0]) (ag [Leaf.o 1 (l.length + 1), li 0]) ∧ BkR (rnId 1 0 [5]) (Blk.mk (rws l ++ li x :: li y :: tl t) (BT.r 35 258 5)) (Blk.mk (rws l ++ el (TA.mk x y t)) (BT.r 35 258 1)) ∧ True) (by kernel_rfl)
  repeat' (first | exact trivial | with_reducible apply And.intro | (with_reducible apply HB.mk) | with_reducible intro _)
  all_goals first
    | (assumption)
    | (with_reducible exact Le.refl _)
    | (with_reducible rfl)
    | ((with_reducible exact C99g _ hg _ _ (by omega)))
    | (with_reducible exact C104 _ _ _)
    | ((with_reducible exact C105g _ (by omega) _ _ (by omega)))
    | ((with_reducible exact C106g l x y t hl hb hz hc _ _ (by omega)))
    | (exact Le.bool hi)
    | (exact C106g l x y t hl hb hz hc _ _ (by omega))
    | (exact Le.bool rfl)
    | (exact Le.of (congrArg (fun l => SV.c (.agg l)) (tl_take _)))
    | (exact C105p l x y t hl _ _ (by omega))
    | (exact BkR.plain rfl ((plain_rws l).append (plain_el _)) (by kernel_rfl))
    | (exact okw _ (by omega) (by omega))
    | (exact Le.of rfl)
    | (exact BkR.of rfl)
    | (unfold SlOK; omega)
    | (unfold SlOK; decide)
    | (unfold inByte; decide)
    | (simp only [*, Bool.and_self, Bool.not_false, Bool.not_true]; done)
    | (simp_all [wants]; done)
end Ab
end Go.Proofs.Ytpdckpifhniioaa
