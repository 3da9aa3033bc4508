/- x -/
import Derived.Test.YtpdckpifhniioaaD5
set_option linter.unusedVariables false
set_option linter.unusedSimpArgs false
namespace Go.Proofs.Ytpdckpifhniioaa
open Go.RowKit
namespace Ab
theorem C45g (l : List TA) (x y : Int) (t : Nat → UInt8) (hg : Good l) (hl : l.length ≤ 1023) (hb : Behind l x y) (hi : inB x y = true) (hz : zeroT t = false) (hc : sameT (clnT t) t = true) (id n : Nat) (hid : id < n) :
    CallOK Try.prog 25 [.c (.agg [.o id l.length]), ag [li x, li y], .c (.agg (tl t))] [(id, ⟨rws l, .r 35 258 id⟩)] n (.c (.agg [.o n (l.length + 1), li 0])) [(n, ⟨rws l ++ el ⟨x, y, t⟩, .r 35 258 n⟩)] 1 := by
  have key := CallOK.at1 (C45 l x y t hg hl hb hi hz hc) id n hid
  have e1 := ren_plain (σ := up1 id n) (plain_rws l)
  have e2 := ren_plain (σ := up1 id n) (plain_tl t)
  have e3 := ren_plain (σ := up1 id n) ((plain_rws l).append (plain_el ⟨x, y, t⟩))
  simp only [List.map_cons, List.map_nil, Blk.ren, SV.ren, Cp.ren, Leaf.ren, e1, e2, e3] at key
  exact key
def lsI (l : List Leaf) : List Int := l.map fun x => match x with | .v (.int _ n) => n | _ => 0
def M43 (S : St) (i o y : Nat) : List Leaf := match S.blk i with | some k => tl (mdT (lsI k.cs) o y) | none => []
/-- The tile, and the position, of the k-th round. -/
def tM (s : List Int) (k : Nat) : Nat → UInt8 := bif rst (s.getD k 0) 4 == 0 then mdT s k 1 else mdT s k (s.length - k)
def pX (s : List Int) (k : Nat) : Int := ((k : Nat) : Int) - 2 + 3 * rst (s.getD 0 0) 2
def pY (k : Nat) : Int := ((k : Nat) : Int).tdiv 2
/-- The raster after k rounds. -/
def mdL (s : List Int) : Nat → List TA
  | 0 => []
  | k + 1 => bif zeroT (tM s k) then mdL s k else mdL s k ++ [⟨pX s k, pY k, tM s k⟩]
def mdN (s : List Int) : Nat := min s.length 6
def I11 (p : Nat) (s : List Int) (k : Nat) : St := ⟨[(4, iv .i64 (k : Nat)), (3, .c (.l (.p 2 0))), (2, .c (.l (.p 1 0))), (0, .c (.l (.s 0 p s.length)))], [(0, some ⟨qls p s, .q⟩), (1, some ⟨[.v (.slice none 0 0)], .t 38⟩), (2, some ⟨[.o 3 (mdL s k).length], .t 38⟩), (3, some ⟨rws (mdL s k), .r 35 258 3⟩)], 4, 57, [3, 2, 1], (1)⟩
theorem lsI_qls (p : Nat) (s : List Int) : lsI (qls p s) = List.replicate p 0 ++ s := by
  unfold lsI qls
  rw [List.map_append, List.map_replicate, List.map_map]
  exact congrArg _ (List.map_id s)
theorem mdT_pad (p : Nat) (s : List Int) (o n : Nat) : mdT (List.replicate p 0 ++ s) (p + o) n = mdT s o n := by
  have hx : ∀ i, xM (List.replicate p 0 ++ s) (p + o) n i = xM s o n i := fun i => by
    unfold xM
    rw [Nat.add_assoc, getD_pad]
  have hy : ∀ i, yM (List.replicate p 0 ++ s) (p + o) n i = yM s o n i := fun i => by
    unfold yM
    rw [hx i]
  funext i
  unfold mdT
  rw [hy]
theorem C43L (p : Nat) (cs : List Leaf) (s : List Int) (h : cs = qls p s) (o y : Nat) (h0 : p ≤ o) (hn : 0 < y) (ho : o + y ≤ p + s.length) (hs : s.length ≤ 20000000000000) (id n : Nat) (hi : id < n) : CallOK Try.prog 23 [.c (.l (.s id o y))] [(id, ⟨cs, .q⟩)] n (.c (.agg (tl (mdT (lsI cs) o y)))) [] 0 := by
  subst h
  obtain ⟨z, rfl⟩ : ∃ z, o = p + z := ⟨o - p, by omega⟩
  rw [lsI_qls, mdT_pad]; exact C43g p s z y hn (by omega) hs id n hi
theorem qls_ne' (p : Nat) (s : List Int) {i : Nat} (h : p ≤ i) (h2 : i < p + s.length) : (qls p s).getD i .u ≠ .u := by
  obtain ⟨z, rfl⟩ : ∃ z, i = p + z := ⟨i - p, by omega⟩
  exact qls_ne p s (by omega)
theorem tM_t {s : List Int} {k : Nat} (h : (rst (s.getD k 0) 4 == 0) = true) : mdT s k 1 = tM s k := by unfold tM; rw [h]; rfl
theorem tM_f {s : List Int} {k : Nat} (h : (rst (s.getD k 0) 4 == 0) = false) : mdT s k (s.length - k) = tM s k := by unfold tM; rw [h]; rfl
theorem pcb_idem (e x : UInt8) : pcb (pcb e e) (pcb e x) = pcb e x := by
  unfold pcb
  by_cases h : e = 0
  · simp [h]
  · simp [h]
theorem mdT_clean (s : List Int) (o n : Nat) : sameT (clnT (mdT s o n)) (mdT s o n) = true := by
  rw [sameT_iff]
  intro i hi
  unfold clnT mdT
  have e1 : (4 * (i / 4) + 3) / 4 = i / 4 := by omega
  have e2 : (4 * (i / 4) + 3) % 4 = 3 := by omega
  rw [e1, e2]
  unfold pxC
  exact pcb_idem _ _
theorem tM_clean (s : List Int) (k : Nat) : sameT (clnT (tM s k)) (tM s k) = true := by
  unfold tM
  cases rst (s.getD k 0) 4 == 0
  · exact mdT_clean _ _ _
  · exact mdT_clean _ _ _
theorem mdL_mem (s : List Int) : ∀ k, ∀ e ∈ mdL s k, ∃ j, j < k ∧ e.X = pX s j ∧ e.Y = pY j
  | 0, e, h => by cases h
  | k + 1, e, h => by
    unfold mdL at h
    cases hz : zeroT (tM s k) with
    | true =>
      rw [hz] at h
      obtain ⟨j, hj, h1⟩ := mdL_mem s k e h
      exact ⟨j, by omega, h1⟩
    | false =>
      rw [hz] at h
      rcases List.mem_append.1 h with h | h
      · obtain ⟨j, hj, h1⟩ := mdL_mem s k e h
        exact ⟨j, by omega, h1⟩
      · rw [List.mem_singleton] at h
        subst h
        exact ⟨k, Nat.lt_succ_self k, rfl, rfl⟩
theorem at_mem {l : List TA} {k : Nat} (h : k < l.length) : at' l k ∈ l := List.mem_of_getElem? (at_get h)
theorem pY_eq (k : Nat) : pY k = ((k / 2 : Nat) : Int) := by
  unfold pY
  rw [Int.tdiv_eq_ediv_of_nonneg (by omega)]; rfl
theorem mdL_behind (s : List Int) (k : Nat) : Behind (mdL s k) (pX s k) (pY k) := fun i hi => by
  obtain ⟨j, hj, h1, h2⟩ := mdL_mem s k _ (at_mem hi)
  rw [h1, h2, pY_eq, pY_eq]
  unfold pX
  omega
theorem mdL_len (s : List Int) : ∀ k, (mdL s k).length ≤ k
  | 0 => Nat.le_refl _
  | k + 1 => by
    unfold mdL
    have := mdL_len s k
    cases zeroT (tM s k)
    · show (mdL s k ++ _).length ≤ _
      rw [List.length_append]; exact Nat.add_le_add_right this 1
    · exact Nat.le_succ_of_le this
theorem rst2 (x : Int) : 0 ≤ rst x 2 ∧ rst x 2 < 2 := by
  have := rest_bd (x := x) (n := 2) (by decide) (by decide)
  exact ⟨this.1, this.2.1⟩
theorem pX_bd (s : List Int) {k : Nat} (hk : k < 6) : -2 ≤ pX s k ∧ pX s k ≤ 6 := by
  have := rst2 (s.getD 0 0)
  unfold pX
  omega
theorem pos_in (s : List Int) {k : Nat} (hk : k < 6) : inB (pX s k) (pY k) = true := by
  have := pX_bd s hk
  rw [pY_eq]
  exact decide_eq_true (by omega)
theorem mdL_good (s : List Int) : ∀ k, k ≤ 6 → Good (mdL s k)
  | 0, _ => ⟨Nat.zero_le 1024, fun k h => absurd h (Nat.not_lt_zero k), fun k h => absurd h (Nat.not_lt_zero k), fun k h => absurd h (Nat.not_lt_zero k), fun k h => absurd h (Nat.not_lt_zero _)⟩
  | k + 1, hk => by
    unfold mdL
    have hg := mdL_good s k (by omega)
    cases hz : zeroT (tM s k) with
    | true => exact hg
    | false => exact good_append hg (by have := mdL_len s k; omega) (mdL_behind s k) (pos_in s (by omega)) hz (tM_clean s k)
theorem mdL_t {s : List Int} {k : Nat} (h : (!(zeroT (tM s k))) = false) : mdL s (k + 1) = mdL s k := by
  rw [mdL, not_t h]; rfl
theorem mdL_f {s : List Int} {k : Nat} (h : (!(zeroT (tM s k))) = true) : rws (mdL s k) ++ el ⟨pX s k, pY k, tM s k⟩ = rws (mdL s (k + 1)) ∧ (mdL s k).length + 1 = (mdL s (k + 1)).length := by
  rw [mdL, not_f h]
  show _ = rws (mdL s k ++ _) ∧ _ = (mdL s k ++ _).length
  rw [rws_append, rws_one, List.length_append]
  exact ⟨rfl, rfl⟩
attribute [local irreducible] tl sameT zeroT rws mdT tM pX pY mdL
theorem head11 (s : List Int) (k : Nat) : (bif decide (((k : Nat) : Int) < (s.length : Nat)) then decide (((k : Nat) : Int) < 6) else false) = decide (((k : Nat) : Int) < (mdN s : Nat)) := by
  unfold mdN
  by_cases h1 : ((k : Nat) : Int) < (s.length : Nat)
  · rw [decide_eq_true h1]
    show decide _ = _
    exact decide_eq_decide.2 (by omega)
  · rw [decide_eq_false h1]
    exact (decide_eq_false (by omega)).symm
def cz_R11 (p : Nat) (s : List Int) (k : Nat) : Cz := {
  ct := (fun f => match f with
  | 10 => some fun _ _S ar => match ar with | [.c (.l (.v (.int _ x))), .c (.l (.v (.int _ n)))] => some { v := iv .i64 (rst x n), rd := [], wr := [], nw := 0 } | _ => none
  | 23 => some fun _ _S ar => match ar with | [.c (.l (.s i o y))] => some { v := .c (.agg (M43 _S i o y)), rd := [i], wr := [], nw := 0 } | _ => none
  | 24 => some fun _ _S ar => match ar with | [.c (.agg l)] => some { v := bv (zeroT (lsB l)), rd := [], wr := [], nw := 0 } | _ => none
  | 25 => some fun _ _S ar => match ar with | [.c (.agg [.o i m]), .c (.agg [.v (.int _ x), .v (.int _ y)]), .c (.agg c)] => some { v := .c (.agg [.o _S.n (m + 1), li 0]), rd := [i], wr := [(_S.n, P106 _S i x y c _S.n)], nw := 1 } | _ => none
  | _ => none)
  eq := (fun t => match t with
  | _ => none)
  raw := [], sym := [0, 25, 26, 40, 41], nf := [(16, bv (decide (((k : Nat) : Int) < (mdN s : Nat)))), (22, .c (.agg (tl (mdT s k (s.length - k))))), (26, iv .i64 (s.getD k 0)), (34, .c (.agg (tl (mdT s k 1)))), (35, .c (.agg (tl (tM s k)))), (36, bv (zeroT (tM s k))), (41, iv .i64 (s.getD 0 0)), (44, iv .i64 (pX s k)), (46, iv .i64 (pY k)), (52, .c (.agg (tl (tM s k))))], ap := true, off := [], on := [], lp := fun _ => none, un := 0, wh := [38, 27, 33, 71] }
set_option maxRecDepth 100000 in
theorem R11 (p : Nat) (s : List Int) (k : Nat)  (K : Exit → St → Prop) (h : (decide ((Nat.cast k : Int) < (Nat.cast s.length : Int)) = true → decide ((Nat.cast k : Int) < (Nat.cast s.length : Int)) = true ∧ True) ∧ (decide ((Nat.cast k : Int) < (Nat.cast s.length : Int)) = true → decide ((Nat.cast k : Int) < (Nat.cast s.length : Int)) = true) ∧ Le (bv (bif decide ((Nat.cast k : Int) < (Nat.cast s.length : Int)) then decide ((Nat.cast k : Int) < 6) else false)) (bv (decide ((Nat.cast k : Int) < (Nat.cast ((mdN s)) : Int)))) ∧ HB (decide ((Nat.cast k : Int) < (Nat.cast ((mdN s)) : Int))) (SlS (Nat.cast k : Int) (Nat.cast s.length : Int) (Nat.cast s.length : Int) ∧ CallOKd Try.prog 23 [] [SV.c (Cp.l (Leaf.s 0 (p + ((Nat.cast k : Int)).toNat * 1) ((Nat.cast s.length : Int) - (Nat.cast k : Int)).toNat))] [(0, Blk.mk (qls p s) BT.q)] 4 (ag (tl (mdT (lsI (qls p s)) (p + ((Nat.cast k : Int)).toNat * 1) ((Nat.cast s.length : Int) - (Nat.cast k : Int)).toNat))) [] 0 ∧ Le (ag (tl (mdT (lsI (qls p s)) (p + ((Nat.cast k : Int)).toNat * 1) ((Nat.cast s.length : Int) - (Nat.cast k : Int)).toNat))) (ag (tl (mdT s k (s.length - k)))) ∧ 256 ≤ 256 ∧ 0 = 0 ∧ 256 = 256 ∧ InR ((Nat.cast k : Int)) s.length ∧ p + ((Nat.cast k : Int)).toNat * 1 < (qls p s).length ∧ (qls p s).getD (p + ((Nat.cast k : Int)).toNat * 1) Leaf.u ≠ Leaf.u ∧ Le (SV.c (Cp.l ((qls p s).getD (p + ((Nat.cast k : Int)).toNat * 1) Leaf.u))) (iv IntKind.i64 (s.getD k 0)) ∧ CallOKd Try.prog 10 [] [iv IntKind.i64 (s.getD k 0), iv IntKind.i64 4] [] 5 (iv IntKind.i64 (rst (s.getD k 0) 4)) [] 0 ∧ HB (rst (s.getD k 0) 4 == 0) (IntKind.i64.wrap ((Nat.cast k : Int) + 1) = (Nat.cast k : Int) + 1 ∧ SlS ((Nat.cast k : Int)) ((Nat.cast k : Int) + 1) (Nat.cast s.length : Int) ∧ CallOKd Try.prog 23 [] [SV.c (Cp.l (Leaf.s 0 (p + ((Nat.cast k : Int)).toNat * 1) ((Nat.cast k : Int) + 1 - (Nat.cast k : Int)).toNat))] [(0, Blk.mk (qls p s) BT.q)] 5 (ag (tl (mdT (lsI (qls p s)) (p + ((Nat.cast k : Int)).toNat * 1) ((Nat.cast k : Int) + 1 - (Nat.cast k : Int)).toNat))) [] 0 ∧ Le (ag (tl (mdT (lsI (qls p s)) (p + ((Nat.cast k : Int)).toNat * 1) ((Nat.cast k : Int) + 1 - (Nat.cast k : Int)).toNat))) (ag (tl (mdT s k 1))) ∧ 256 ≤ 256 ∧ 0 = 0 ∧ 256 = 256 ∧ Le (ag (List.take 256 (tl (mdT s k 1)))) (ag (tl (tM s k))) ∧ CallOKd Try.prog 24 [] [ag (tl (tM s k))] [] 5 (bv (zeroT (lsB (tl (tM s k))))) [] 0 ∧ Le (bv (zeroT (lsB (tl (tM s k))))) (bv (zeroT (tM s k))) ∧ IntKind.i64.wrap ((Nat.cast k : Int) - 2) = (Nat.cast k : Int) - 2 ∧ InR 0 s.length ∧ p + Int.toNat 0 * 1 < (qls p s).length ∧ (qls p s).getD (p + Int.toNat 0 * 1) Leaf.u ≠ Leaf.u ∧ Le (SV.c (Cp.l ((qls p s).getD (p + Int.toNat 0 * 1) Leaf.u))) (iv IntKind.i64 (s.getD 0 0)) ∧ CallOKd Try.prog 10 [] [iv IntKind.i64 (s.getD 0 0), iv IntKind.i64 2] [] 5 (iv IntKind.i64 (rst (s.getD 0 0) 2)) [] 0 ∧ IntKind.i64.wrap (3 * rst (s.getD 0 0) 2) = 3 * rst (s.getD 0 0) 2 ∧ IntKind.i64.wrap ((Nat.cast k : Int) - 2 + 3 * rst (s.getD 0 0) 2) = (Nat.cast k : Int) - 2 + 3 * rst (s.getD 0 0) 2 ∧ Le (iv IntKind.i64 ((Nat.cast k : Int) - 2 + 3 * rst (s.getD 0 0) 2)) (iv IntKind.i64 (pX s k)) ∧ (2 : Int) ≠ 0 ∧ IntKind.i64.wrap (((Nat.cast k : Int)).tdiv 2) = ((Nat.cast k : Int)).tdiv 2 ∧ Le (iv IntKind.i64 (((Nat.cast k : Int)).tdiv 2)) (iv IntKind.i64 (pY k)) ∧ 2 ≤ 2 ∧ 0 = 0 ∧ 2 = 2 ∧ HB (!zeroT (tM s k)) (Le (ag (List.take 256 (tl (mdT s k 1)))) (ag (tl (tM s k))) ∧ CallOKd Try.prog 25 [] [ag [Leaf.o 3 (mdL s k).length], ag [li (pX s k), li (pY k)], ag (tl (tM s k))] [(3, Blk.mk (rws (mdL s k)) (BT.r 35 258 3))] 6 (ag [Leaf.o 6 ((mdL s k).length + 1), li 0]) [(6, Blk.mk (rws (mdL s k) ++ li (pX s k) :: li (pY k) :: tl (tM s k)) (BT.r 35 258 6))] 1 ∧ 2 ≤ 2 ∧ 0 = 0 ∧ 2 = 2 ∧ 1 ≤ 1 ∧ 0 = 0 ∧ 1 = 1 ∧ IntKind.i64.wrap ((Nat.cast k : Int) + 1) = (Nat.cast k : Int) + 1 ∧ RoundTo Try.prog ((getLoop 3 (Try.f8.body.getD Code.skip)).getD Code.skip) 4 (wkK 4 K) (St.mk [(4, iv IntKind.i64 ((Nat.cast k : Int) + 1)), (18, iv IntKind.i64 ((Nat.cast k : Int) + 1)), (17, iv IntKind.i64 (Nat.cast k : Int)), (55, ag [Leaf.o 6 ((mdL s k).length + 1)]), (54, SV.c (Cp.l (Leaf.p 7 0))), (8, SV.c (Cp.l (Leaf.p 7 0))), (53, ag [Leaf.o 6 ((mdL s k).length + 1), li 0]), (52, ag (tl (tM s k))), (51, ag [li (pX s k), li (pY k)]), (50, ag [Leaf.o 3 (mdL s k).length]), (49, bv !zeroT (tM s k)), (48, bv (zeroT (tM s k))), (7, SV.c (Cp.l (Leaf.p 5 0))), (47, ag [li (pX s k), li (pY k)]), (46, iv IntKind.i64 (pY k)), (45, iv IntKind.i64 (Nat.cast k : Int)), (44, iv IntKind.i64 (pX s k)), (43, iv IntKind.i64 (3 * rst (s.getD 0 0) 2)), (42, iv IntKind.i64 (rst (s.getD 0 0) 2)), (41, iv IntKind.i64 (s.getD 0 0)), (40, SV.c (Cp.l (Leaf.p 0 (p + Int.toNat 0 * 1)))), (39, SV.c (Cp.l (Leaf.s 0 p s.length))), (38, iv IntKind.i64 ((Nat.cast k : Int) - 2)), (37, iv IntKind.i64 (Nat.cast k : Int)), (6, bv (zeroT (tM s k))), (36, bv (zeroT (tM s k))), (35, ag (tl (tM s k))), (34, ag (tl (mdT s k 1))), (33, SV.c (Cp.l (Leaf.s 0 (p + ((Nat.cast k : Int)).toNat * 1) ((Nat.cast k : Int) + 1 - (Nat.cast k : Int)).toNat))), (32, iv IntKind.i64 ((Nat.cast k : Int) + 1)), (31, iv IntKind.i64 (Nat.cast k : Int)), (30, iv IntKind.i64 (Nat.cast k : Int)), (29, SV.c (Cp.l (Leaf.s 0 p s.length))), (28, bv (rst (s.getD k 0) 4 == 0)), (27, iv IntKind.i64 (rst (s.getD k 0) 4)), (26, iv IntKind.i64 (s.getD k 0)), (25, SV.c (Cp.l (Leaf.p 0 (p + ((Nat.cast k : Int)).toNat * 1)))), (24, iv IntKind.i64 (Nat.cast k : Int)), (23, SV.c (Cp.l (Leaf.s 0 p s.length))), (5, SV.c (Cp.l (Leaf.p 4 0))), (22, ag (tl (mdT s k (s.length - k)))), (21, SV.c (Cp.l (Leaf.s 0 (p + ((Nat.cast k : Int)).toNat * 1) ((Nat.cast s.length : Int) - (Nat.cast k : Int)).toNat))), (20, iv IntKind.i64 (Nat.cast k : Int)), (19, SV.c (Cp.l (Leaf.s 0 p s.length))), (16, bv (decide ((Nat.cast k : Int) < (Nat.cast ((mdN s)) : Int)))), (15, SV.g (decide ((Nat.cast k : Int) < (Nat.cast s.length : Int))) (Cp.l (lb (decide ((Nat.cast k : Int) < 6))))), (14, SV.g (decide ((Nat.cast k : Int) < (Nat.cast s.length : Int))) (Cp.l (li (Nat.cast k : Int)))), (13, bv (decide ((Nat.cast k : Int) < (Nat.cast s.length : Int)))), (12, bv (decide ((Nat.cast k : Int) < (Nat.cast s.length : Int)))), (11, iv IntKind.i64 (Nat.cast s.length : Int)), (10, SV.c (Cp.l (Leaf.s 0 p s.length))), (9, iv IntKind.i64 (Nat.cast k : Int)), (4, iv IntKind.i64 (Nat.cast k : Int)), (3, SV.c (Cp.l (Leaf.p 2 0))), (2, SV.c (Cp.l (Leaf.p 1 0))), (0, SV.c (Cp.l (Leaf.s 0 p s.length)))] [(2, some (Blk.mk [Leaf.o 6 ((mdL s k).length + 1)] (BT.t 38))), (7, some (Blk.mk [Leaf.o 6 ((mdL s k).length + 1), li 0] (BT.t 71))), (7, some (Blk.mk [Leaf.v (Value.slice none 0 0), li 0] (BT.t 71))), (6, some (Blk.mk (rws (mdL s k) ++ li (pX s k) :: li (pY k) :: tl (tM s k)) (BT.r 35 258 6))), (5, some (Blk.mk [li (pX s k), li (pY k)] (BT.t 33))), (5, some (Blk.mk [li 0, li 0] (BT.t 33))), (4, some (Blk.mk (tl (mdT s k 1)) (BT.t 27))), (4, some (Blk.mk (tl (mdT s k (s.length - k))) (BT.t 27))), (4, some (Blk.mk zT256 (BT.t 27))), (0, some (Blk.mk (qls p s) BT.q)), (1, some (Blk.mk [Leaf.v (Value.slice none 0 0)] (BT.t 38))), (2, some (Blk.mk [Leaf.o 3 (mdL s k).length] (BT.t 38))), (3, some (Blk.mk (rws (mdL s k)) (BT.r 35 258 3)))] 8 57 [2, 7, 7, 6, 5, 5, 4, 4, 4, 3, 2, 1] 1)) (IntKind.i64.wrap ((Nat.cast k : Int) + 1) = (Nat.cast k : Int) + 1 ∧ RoundTo Try.prog ((getLoop 3 (Try.f8.body.getD Code.skip)).getD Code.skip) 4 (wkK 4 K) (St.mk [(4, iv IntKind.i64 ((Nat.cast k : Int) + 1)), (18, iv IntKind.i64 ((Nat.cast k : Int) + 1)), (17, iv IntKind.i64 (Nat.cast k : Int)), (49, bv !zeroT (tM s k)), (48, bv (zeroT (tM s k))), (7, SV.c (Cp.l (Leaf.p 5 0))), (47, ag [li (pX s k), li (pY k)]), (46, iv IntKind.i64 (pY k)), (45, iv IntKind.i64 (Nat.cast k : Int)), (44, iv IntKind.i64 (pX s k)), (43, iv IntKind.i64 (3 * rst (s.getD 0 0) 2)), (42, iv IntKind.i64 (rst (s.getD 0 0) 2)), (41, iv IntKind.i64 (s.getD 0 0)), (40, SV.c (Cp.l (Leaf.p 0 (p + Int.toNat 0 * 1)))), (39, SV.c (Cp.l (Leaf.s 0 p s.length))), (38, iv IntKind.i64 ((Nat.cast k : Int) - 2)), (37, iv IntKind.i64 (Nat.cast k : Int)), (6, bv (zeroT (tM s k))), (36, bv (zeroT (tM s k))), (35, ag (tl (tM s k))), (34, ag (tl (mdT s k 1))), (33, SV.c (Cp.l (Leaf.s 0 (p + ((Nat.cast k : Int)).toNat * 1) ((Nat.cast k : Int) + 1 - (Nat.cast k : Int)).toNat))), (32, iv IntKind.i64 ((Nat.cast k : Int) + 1)), (31, iv IntKind.i64 (Nat.cast k : Int)), (30, iv IntKind.i64 (Nat.cast k : Int)), (29, SV.c (Cp.l (Leaf.s 0 p s.length))), (28, bv (rst (s.getD k 0) 4 == 0)), (27, iv IntKind.i64 (rst (s.getD k 0) 4)), (26, iv IntKind.i64 (s.getD k 0)), (25, SV.c (Cp.l (Leaf.p 0 (p + ((Nat.cast k : Int)).toNat * 1)))), (24, iv IntKind.i64 (Nat.cast k : Int)), (23, SV.c (Cp.l (Leaf.s 0 p s.length))), (5, SV.c (Cp.l (Leaf.p 4 0))), (22, ag (tl (mdT s k (s.length - k)))), (21, SV.c (Cp.l (Leaf.s 0 (p + ((Nat.cast k : Int)).toNat * 1) ((Nat.cast s.length : Int) - (Nat.cast k : Int)).toNat))), (20, iv IntKind.i64 (Nat.cast k : Int)), (19, SV.c (Cp.l (Leaf.s 0 p s.length))), (16, bv (decide ((Nat.cast k : Int) < (Nat.cast ((mdN s)) : Int)))), (15, SV.g (decide ((Nat.cast k : Int) < (Nat.cast s.length : Int))) (Cp.l (lb (decide ((Nat.cast k : Int) < 6))))), (14, SV.g (decide ((Nat.cast k : Int) < (Nat.cast s.length : Int))) (Cp.l (li (Nat.cast k : Int)))), (13, bv (decide ((Nat.cast k : Int) < (Nat.cast s.length : Int)))), (12, bv (decide ((Nat.cast k : Int) < (Nat.cast s.length : Int)))), (11, iv IntKind.i64 (Nat.cast s.length : Int)), (10, SV.c (Cp.l (Leaf.s 0 p s.length))), (9, iv IntKind.i64 (Nat.cast k : Int)), (4, iv IntKind.i64 (Nat.cast k : Int)), (3, SV.c (Cp.l (Leaf.p 2 0))), (2, SV.c (Cp.l (Leaf.p 1 0))), (0, SV.c (Cp.l (Leaf.s 0 p s.length)))] [(5, some (Blk.mk [li (pX s k), li (pY k)] (BT.t 33))), (5, some (Blk.mk [li 0, li 0] (BT.t 33))), (4, some (Blk.mk (tl (mdT s k 1)) (BT.t 27))), (4, some (Blk.mk (tl (mdT s k (s.length - k))) (BT.t 27))), (4, some (Blk.mk zT256 (BT.t 27))), (0, some (Blk.mk (qls p s) BT.q)), (1, some (Blk.mk [Leaf.v (Value.slice none 0 0)] (BT.t 38))), (2, some (Blk.mk [Leaf.o 3 (mdL s k).length] (BT.t 38))), (3, some (Blk.mk (rws (mdL s k)) (BT.r 35 258 3)))] 6 57 [5, 5, 4, 4, 4, 3, 2, 1] 1))) (Le (ag (List.take 256 (tl (mdT s k (s.length - k))))) (ag (tl (tM s k))) ∧ CallOKd Try.prog 24 [] [ag (tl (tM s k))] [] 5 (bv (zeroT (lsB (tl (tM s k))))) [] 0 ∧ Le (bv (zeroT (lsB (tl (tM s k))))) (bv (zeroT (tM s k))) ∧ IntKind.i64.wrap ((Nat.cast k : Int) - 2) = (Nat.cast k : Int) - 2 ∧ InR 0 s.length ∧ p + Int.toNat 0 * 1 < (qls p s).length ∧ (qls p s).getD (p + Int.toNat 0 * 1) Leaf.u ≠ Leaf.u ∧ Le (SV.c (Cp.l ((qls p s).getD (p + Int.toNat 0 * 1) Leaf.u))) (iv IntKind.i64 (s.getD 0 0)) ∧ CallOKd Try.prog 10 [] [iv IntKind.i64 (s.getD 0 0), iv IntKind.i64 2] [] 5 (iv IntKind.i64 (rst (s.getD 0 0) 2)) [] 0 ∧ IntKind.i64.wrap (3 * rst (s.getD 0 0) 2) = 3 * rst (s.getD 0 0) 2 ∧ IntKind.i64.wrap ((Nat.cast k : Int) - 2 + 3 * rst (s.getD 0 0) 2) = (Nat.cast k : Int) - 2 + 3 * rst (s.getD 0 0) 2 ∧ Le (iv IntKind.i64 ((Nat.cast k : Int) - 2 + 3 * rst (s.getD 0 0) 2)) (iv IntKind.i64 (pX s k)) ∧ (2 : Int) ≠ 0 ∧ IntKind.i64.wrap (((Nat.cast k : Int)).tdiv 2) = ((Nat.cast k : Int)).tdiv 2 ∧ Le (iv IntKind.i64 (((Nat.cast k : Int)).tdiv 2)) (iv IntKind.i64 (pY k)) ∧ 2 ≤ 2 ∧ 0 = 0 ∧ 2 = 2 ∧ HB (!zeroT (tM s k)) (Le (ag (List.take 256 (tl (mdT s k (s.length - k))))) (ag (tl (tM s k))) ∧ CallOKd Try.prog 25 [] [ag [Leaf.o 3 (mdL s k).length], ag [li (pX s k), li (pY k)], ag (tl (tM s k))] [(3, Blk.mk (rws (mdL s k)) (BT.r 35 258 3))] 6 (ag [Leaf.o 6 ((mdL s k).length + 1), li 0]) [(6, Blk.mk (rws (mdL s k) ++ li (pX s k) :: li (pY k) :: tl (tM s k)) (BT.r 35 258 6))] 1 ∧ 2 ≤ 2 ∧ 0 = 0 ∧ 2 = 2 ∧ 1 ≤ 1 ∧ 0 = 0 ∧ 1 = 1 ∧ IntKind.i64.wrap ((Nat.cast k : Int) + 1) = (Nat.cast k : Int) + 1 ∧ RoundTo Try.prog ((getLoop 3 (Try.f8.body.getD Code.skip)).getD Code.skip) 4 (wkK 4 K) (St.mk [(4, iv IntKind.i64 ((Nat.cast k : Int) + 1)), (18, iv IntKind.i64 ((Nat.cast k : Int) + 1)), (17, iv IntKind.i64 (Nat.cast k : Int)), (55, ag [Leaf.o 6 ((mdL s k).length + 1)]), (54, SV.c (Cp.l (Leaf.p 7 0))), (8, SV.c (Cp.l (Leaf.p 7 0))), (53, ag [Leaf.o 6 ((mdL s k).length + 1), li 0]), (52, ag (tl (tM s k))), (51, ag [li (pX s k), li (pY k)]), (50, ag [Leaf.o 3 (mdL s k).length]), (49, bv !zeroT (tM s k)), (48, bv (zeroT (tM s k))), (7, SV.c (Cp.l (Leaf.p 5 0))), (47, ag [li (pX s k), li (pY k)]), (46, iv IntKind.i64 (pY k)), (45, iv IntKind.i64 (Nat.cast k : Int)), (44, iv IntKind.i64 (pX s k)), (43, iv IntKind.i64 (3 * rst (s.getD 0 0) 2)), (42, iv IntKind.i64 (rst (s.getD 0 0) 2)), (41, iv IntKind.i64 (s.getD 0 0)), (40, SV.c (Cp.l (Leaf.p 0 (p + Int.toNat 0 * 1)))), (39, SV.c (Cp.l (Leaf.s 0 p s.length))), (38, iv IntKind.i64 ((Nat.cast k : Int) - 2)), (37, iv IntKind.i64 (Nat.cast k : Int)), (6, bv (zeroT (tM s k))), (36, bv (zeroT (tM s k))), (35, ag (tl (tM s k))), (28, bv (rst (s.getD k 0) 4 == 0)), (27, iv IntKind.i64 (rst (s.getD k 0) 4)), (26, iv IntKind.i64 (s.getD k 0)), (25, SV.c (Cp.l (Leaf.p 0 (p + ((Nat.cast k : Int)).toNat * 1)))), (24, iv IntKind.i64 (Nat.cast k : Int)), (23, SV.c (Cp.l (Leaf.s 0 p s.length))), (5, SV.c (Cp.l (Leaf.p 4 0))), (22, ag (tl (mdT s k (s.length - k)))), (21, SV.c (Cp.l (Leaf.s 0 (p + ((Nat.cast k : Int)).toNat * 1) ((Nat.cast s.length : Int) - (Nat.cast k : Int)).toNat))), (20, iv IntKind.i64 (Nat.cast k : Int)), (19, SV.c (Cp.l (Leaf.s 0 p s.length))), (16, bv (decide ((Nat.cast k : Int) < (Nat.cast ((mdN s)) : Int)))), (15, SV.g (decide ((Nat.cast k : Int) < (Nat.cast s.length : Int))) (Cp.l (lb (decide ((Nat.cast k : Int) < 6))))), (14, SV.g (decide ((Nat.cast k : Int) < (Nat.cast s.length : Int))) (Cp.l (li (Nat.cast k : Int)))), (13, bv (decide ((Nat.cast k : Int) < (Nat.cast s.length : Int)))), (12, bv (decide ((Nat.cast k : Int) < (Nat.cast s.length : Int)))), (11, iv IntKind.i64 (Nat.cast s.length : Int)), (10, SV.c (Cp.l (Leaf.s 0 p s.length))), (9, iv IntKind.i64 (Nat.cast k : Int)), (4, iv IntKind.i64 (Nat.cast k : Int)), (3, SV.c (Cp.l (Leaf.p 2 0))), (2, SV.c (Cp.l (Leaf.p 1 0))), (0, SV.c (Cp.l (Leaf.s 0 p s.length)))] [(2, some (Blk.mk [Leaf.o 6 ((mdL s k).length + 1)] (BT.t 38))), (7, some (Blk.mk [Leaf.o 6 ((mdL s k).length + 1), li 0] (BT.t 71))), (7, some (Blk.mk [Leaf.v (Value.slice none 0 0), li 0] (BT.t 71))), (6, some (Blk.mk (rws (mdL s k) ++ li (pX s k) :: li (pY k) :: tl (tM s k)) (BT.r 35 258 6))), (5, some (Blk.mk [li (pX s k), li (pY k)] (BT.t 33))), (5, some (Blk.mk [li 0, li 0] (BT.t 33))), (4, some (Blk.mk (tl (mdT s k (s.length - k))) (BT.t 27))), (4, some (Blk.mk zT256 (BT.t 27))), (0, some (Blk.mk (qls p s) BT.q)), (1, some (Blk.mk [Leaf.v (Value.slice none 0 0)] (BT.t 38))), (2, some (Blk.mk [Leaf.o 3 (mdL s k).length] (BT.t 38))), (3, some (Blk.mk (rws (mdL s k)) (BT.r 35 258 3)))] 8 57 [2, 7, 7, 6, 5, 5, 4, 4, 3, 2, 1] 1)) (IntKind.i64.wrap ((Nat.cast k : Int) + 1) = (Nat.cast k : Int) + 1 ∧ RoundTo Try.prog ((getLoop 3 (Try.f8.body.getD Code.skip)).getD Code.skip) 4 (wkK 4 K) (St.mk [(4, iv IntKind.i64 ((Nat.cast k : Int) + 1)), (18, iv IntKind.i64 ((Nat.cast k : Int) + 1)), (17, iv IntKind.i64 (Nat.cast k : Int)), (49, bv !zeroT (tM s k)), (48, bv (zeroT (tM s k))), (7, SV.c (Cp.l (Leaf.p 5 0))), (47, ag [li (pX s k), li (pY k)]), (46, iv IntKind.i64 (pY k)), (45, iv IntKind.i64 (Nat.cast k : Int)), (44, iv IntKind.i64 (pX s k)), (43, iv IntKind.i64 (3 * rst (s.getD 0 0) 2)), (42, iv IntKind.i64 (rst (s.getD 0 0) 2)), (41, iv IntKind.i64 (s.getD 0 0)), (40, SV.c (Cp.l (Leaf.p 0 (p + Int.toNat 0 * 1)))), (39, SV.c (Cp.l (Leaf.s 0 p s.length))), (38, iv IntKind.i64 ((Nat.cast k : Int) - 2)), (37, iv IntKind.i64 (Nat.cast k : Int)), (6, bv (zeroT (tM s k))), (36, bv (zeroT (tM s k))), (35, ag (tl (tM s k))), (28, bv (rst (s.getD k 0) 4 == 0)), (27, iv IntKind.i64 (rst (s.getD k 0) 4)), (26, iv IntKind.i64 (s.getD k 0)), (25, SV.c (Cp.l (Leaf.p 0 (p + ((Nat.cast k : Int)).toNat * 1)))), (24, iv IntKind.i64 (Nat.cast k : Int)), (23, SV.c (Cp.l (Leaf.s 0 p s.length))), (5, SV.c (Cp.l (Leaf.p 4 0))), (22, ag (tl (mdT s k (s.length - k)))), (21, SV.c (Cp.l (Leaf.s 0 (p + ((Nat.cast k : Int)).toNat * 1) ((Nat.cast s.length : Int) - (Nat.cast k : Int)).toNat))), (20, iv IntKind.i64 (Nat.cast k : Int)), (19, SV.c (Cp.l (Leaf.s 0 p s.length))), (16, bv (decide ((Nat.cast k : Int) < (Nat.cast ((mdN s)) : Int)))), (15, SV.g (decide ((Nat.cast k : Int) < (Nat.cast s.length : Int))) (Cp.l (lb (decide ((Nat.cast k : Int) < 6))))), (14, SV.g (decide ((Nat.cast k : Int) < (Nat.cast s.length : Int))) (Cp.l (li (Nat.cast k : Int)))), (13, bv (decide ((Nat.cast k : Int) < (Nat.cast s.length : Int)))), (12, bv (decide ((Nat.cast k : Int) < (Nat.cast s.length : Int)))), (11, iv IntKind.i64 (Nat.cast s.length : Int)), (10, SV.c (Cp.l (Leaf.s 0 p s.length))), (9, iv IntKind.i64 (Nat.cast k : Int)), (4, iv IntKind.i64 (Nat.cast k : Int)), (3, SV.c (Cp.l (Leaf.p 2 0))), (2, SV.c (Cp.l (Leaf.p 1 0))), (0, SV.c (Cp.l (Leaf.s 0 p s.length)))] [(5, some (Blk.mk [li (pX s k), li (pY k)] (BT.t 33))), (5, some (Blk.mk [li 0, li 0] (BT.t 33))), (4, some (Blk.mk (tl (mdT s k (s.length - k))) (BT.t 27))), (4, some (Blk.mk zT256 (BT.t 27))), (0, some (Blk.mk (qls p s) BT.q)), (1, some (Blk.mk [Leaf.v (Value.slice none 0 0)] (BT.t 38))), (2, some (Blk.mk [Leaf.o 3 (mdL s k).length] (BT.t 38))), (3, some (Blk.mk (rws (mdL s k)) (BT.r 35 258 3)))] 6 57 [5, 5, 4, 4, 3, 2, 1] 1)))) (wkK 4 K (Exit.exit 0) (St.mk [(16, bv (decide ((Nat.cast k : Int) < (Nat.cast ((mdN s)) : Int)))), (15, SV.g (decide ((Nat.cast k : Int) < (Nat.cast s.length : Int))) (Cp.l (lb (decide ((Nat.cast k : Int) < 6))))), (14, SV.g (decide ((Nat.cast k : Int) < (Nat.cast s.length : Int))) (Cp.l (li (Nat.cast k : Int)))), (13, bv (decide ((Nat.cast k : Int) < (Nat.cast s.length : Int)))), (12, bv (decide ((Nat.cast k : Int) < (Nat.cast s.length : Int)))), (11, iv IntKind.i64 (Nat.cast s.length : Int)), (10, SV.c (Cp.l (Leaf.s 0 p s.length))), (9, iv IntKind.i64 (Nat.cast k : Int)), (4, iv IntKind.i64 (Nat.cast k : Int)), (3, SV.c (Cp.l (Leaf.p 2 0))), (2, SV.c (Cp.l (Leaf.p 1 0))), (0, SV.c (Cp.l (Leaf.s 0 p s.length)))] [(0, some (Blk.mk (qls p s) BT.q)), (1, some (Blk.mk [Leaf.v (Value.slice none 0 0)] (BT.t 38))), (2, some (Blk.mk [Leaf.o 3 (mdL s k).length] (BT.t 38))), (3, some (Blk.mk (rws (mdL s k)) (BT.r 35 258 3)))] 4 57 [3, 2, 1] 1))) : WPL Try.prog ((getLoop 3 (Try.f8.body.getD .skip)).getD .skip) (I11 p s k) (wkK 4 K) :=
  wp_round (cx := cz_R11 p s k) rfl (of_eq (by kernel_rfl) h)
set_option maxRecDepth 100000 in
set_option maxHeartbeats 4000000 in
theorem L11 (p : Nat) (s : List Int) (hs : s.length ≤ 20000000000000) : ∀ (m k : Nat), (mdN s) - k = m → k ≤ (mdN s) → ∀ (K : Exit → St → Prop), K (.exit 0) (I11 p s (mdN s)) → WPL Try.prog ((getLoop 3 (Try.f8.body.getD .skip)).getD .skip) (I11 p s k) (wkK 4 K)
  | 0, k, hm, hk, K, hK => by
    have e : k = (mdN s) := by omega
    subst e
    refine R11 p s _ K ⟨fun h => ⟨h, trivial⟩, ⟨fun h => h, ⟨Le.bool (head11 s _), (HB.mk (fun hne => absurd (of_decide_eq_true hne) (by omega)) (fun he => ?_))⟩⟩⟩
    exact wkK.to (I11 p s _) (Nat.le_refl _) (by kernel_rfl) (wkE_cons (LeN.sl (by kernel_rfl) rfl) (wkE_cons (LeN.sl (by kernel_rfl) rfl) (wkE_cons (LeN.sl (by kernel_rfl) rfl) (wkE_cons (LeN.sl (by kernel_rfl) rfl) trivial)))) (wkH_cons (BkN.fix (cs := qls p s) (b := .q) (by kernel_rfl) (rfl) (fix_qls p s) (by kernel_rfl)) (wkH_cons (BkN.blk (k := ⟨[.v (.slice none 0 0)], .t 38⟩) (by kernel_rfl) (rfl) (by kernel_rfl)) (wkH_cons (BkN.blk (k := ⟨[.o 3 (mdL s (mdN s)).length], .t 38⟩) (by kernel_rfl) (rfl) (by kernel_rfl)) (wkH_cons (BkN.plain (cs := rws (mdL s (mdN s))) (b := .r 35 258 3) (by kernel_rfl) (rfl) (plain_rws _) (by kernel_rfl)) trivial)))) hK
  | m + 1, k, hm, hk, K, hK => by
    refine R11 p s k K ⟨fun h => ⟨h, trivial⟩, ⟨fun h => h, ⟨Le.bool (head11 s _), (HB.mk (fun hne => ?_) (fun he => absurd (show ((k : Nat) : Int) < ((mdN s) : Nat) by omega) (of_decide_eq_false he)))⟩⟩⟩
    have hlt : k < (mdN s) := by omega
    have hk1 : k < s.length := Nat.lt_of_lt_of_le hlt (Nat.min_le_left _ _)
    have hk6 : k < 6 := Nat.lt_of_lt_of_le hlt (Nat.min_le_right _ _)
    have hY : ((k : Nat) : Int).tdiv 2 = ((k / 2 : Nat) : Int) := by rw [← pY_eq]; unfold pY; rfl
    repeat' (first | exact trivial | with_reducible apply And.intro | (with_reducible apply HB.mk) | with_reducible intro _)
    all_goals first
      | (assumption)
      | (with_reducible exact Le.refl _)
      | (with_reducible rfl)
      | (((with_reducible refine C14 _ _ ?_ ?_ _) <;> omega))
      | (((with_reducible refine C43L p _ s rfl _ _ ?_ ?_ ?_ ?_ _ _ ?_) <;> omega))
      | ((with_reducible exact C44L _ _ rfl _))
      | ((with_reducible exact C45g _ _ _ _ hg hl hb hi hz hc _ _ (by omega)))
      | ((unfold SlS; omega))
      | ((exact ⟨by omega, by omega⟩))
      | (((refine C43L p _ s rfl _ _ ?_ ?_ ?_ ?_ _ _ ?_) <;> omega))
      | (exact Le.of (by rw [lsI_qls, show p + ((k : Nat) : Int).toNat * 1 = p + k by omega, mdT_pad, show (((s.length : Nat) : Int) - ((k : Nat) : Int)).toNat = s.length - k by omega]))
      | (exact Le.of (by rw [lsI_qls, show p + ((k : Nat) : Int).toNat * 1 = p + k by omega, mdT_pad, show (((k : Nat) : Int) + 1 - ((k : Nat) : Int)).toNat = 1 by omega]))
      | ((rw [qls_len]; omega))
      | ((refine qls_ne' p s ?_ ?_ <;> omega))
      | (exact Le.of (congrArg (fun l => SV.c (.l l)) (by rw [show p + ((k : Nat) : Int).toNat * 1 = p + k by omega]; exact qls_at p s hk1)))
      | (exact Le.of (congrArg (fun l => SV.c (.l l)) (qls_at p s (i := 0) (by omega))))
      | (exact Le.of (congrArg (fun l => SV.c (.agg l)) ((tl_take _).trans (by rw [tM_t (by with_reducible assumption)]))))
      | (exact Le.of (congrArg (fun l => SV.c (.agg l)) ((tl_take _).trans (by rw [tM_f (by with_reducible assumption)]))))
      | (exact Le.bool (by rw [zeroT_lsB]))
      | ((have := rst2 (s.getD 0 0); exact okw _ (by omega) (by omega)))
      | ((rw [hY]; exact okw _ (by omega) (by omega)))
      | (exact Le.int (by unfold pX; rfl))
      | (exact Le.int (by unfold pY; rfl))
      | (exact C45g _ _ _ _ (mdL_good s k (by omega)) (by have := mdL_len s k; omega) (mdL_behind s k) (pos_in s hk6) (not_f (by with_reducible assumption)) (tM_clean s k) _ _ (by omega))
      | (omega)
      | (have hcnd : (!zeroT (tM s k)) = false := (by with_reducible assumption); (with_reducible refine RoundTo.toN 6 (I11 p s (k + 1)) ?_ ?_ ?_ ?_ ?_); exact Nat.le_refl _; kernel_rfl; exact (wkE_cons (LeN.sl (by kernel_rfl) rfl) (wkE_cons (LeN.sl (by kernel_rfl) rfl) (wkE_cons (LeN.sl (by kernel_rfl) rfl) (wkE_cons (LeN.sl (by kernel_rfl) rfl) trivial)))); exact (wkH_cons (BkN.fix (cs := qls p s) (b := .q) (by kernel_rfl) (rfl) (fix_qls p s) (by kernel_rfl)) (wkH_cons (BkN.blk (k := ⟨[.v (.slice none 0 0)], .t 38⟩) (by kernel_rfl) (rfl) (by kernel_rfl)) (wkH_cons (BkN.blk (k := ⟨[.o 3 (mdL s k).length], .t 38⟩) (by kernel_rfl) (by rw [mdL_t hcnd]) (by kernel_rfl)) (wkH_cons (BkN.plain (cs := rws (mdL s k)) (b := .r 35 258 3) (by kernel_rfl) (by rw [mdL_t hcnd]) (plain_rws _) (by kernel_rfl)) trivial)))); exact (L11 p s hs m (k + 1) (by omega) (by omega) K hK))
      | (have hcnd : (!zeroT (tM s k)) = true := (by with_reducible assumption); (with_reducible refine RoundTo.reN 8 [(3, some 6)] (I11 p s (k + 1)) ?_ ?_ ?_ ?_); kernel_rfl; exact (wkER_cons (LeR.of (by kernel_rfl)) (wkER_cons (LeR.of (by kernel_rfl)) (wkER_cons (LeR.of (by kernel_rfl)) (wkER_cons (LeR.of (by kernel_rfl)) trivial)))); exact (wkHR_cons (j := 0) rfl (BkM.fix (cs := qls p s) (b := .q) (by kernel_rfl) (rfl) (fix_qls p s) (by kernel_rfl)) (wkHR_cons (j := 1) rfl (BkM.blk (k := ⟨[.v (.slice none 0 0)], .t 38⟩) (k'' := ⟨[.v (.slice none 0 0)], .t 38⟩) (by kernel_rfl) (by kernel_rfl) rfl) (wkHR_cons (j := 2) rfl (BkM.blk (k := ⟨[.o 6 ((mdL s k).length + 1)], .t 38⟩) (k'' := ⟨[.o 3 ((mdL s k).length + 1)], .t 38⟩) (by kernel_rfl) (by kernel_rfl) (by rw [(mdL_f hcnd).2])) (wkHR_cons (j := 6) rfl (BkM.plain (cs := rws (mdL s k) ++ el ⟨pX s k, pY k, tM s k⟩) (b := .r 35 258 6) (by kernel_rfl) ((mdL_f hcnd).1) (plain_rws _) (by kernel_rfl)) trivial)))); exact (L11 p s hs m (k + 1) (by omega) (by omega) K hK))
      | (exact okw _ (by omega) (by omega))
      | (exact Le.of rfl)
      | (exact BkR.of rfl)
      | (unfold SlOK; omega)
      | (unfold SlOK; decide)
      | (unfold inByte; decide)
      | (simp only [*, Bool.and_self, Bool.not_false, Bool.not_true]; done)
      | (simp_all [wants]; done)
end Ab
end Go.Proofs.Ytpdckpifhniioaa
