/- Contracts: octet, Reader, CutPrefix. -/
import Derived.Test.YtpdckpifhniioaaGreatX
import Derived.Test.YtpdckpifhniioaaGreatRk
set_option linter.unusedVariables false
set_option linter.unusedSimpArgs false
namespace Go.Proofs.YtpdckpifhniioaaGreat
open Go.RowKit
namespace Ab
theorem enters53 : Enters Tryz.prog 53 := fun args w => by go_simp
theorem C53 (s : ByteArray) (hs : s.size ≤ 1000000000000000000) (n : Nat) : CallOK Tryz.prog 53 [.c (.l (.v (.string s)))] [] n (iv .u32 (Oct.M.sum s.data.toList : Nat)) [] 0 :=
  call_plain enters53 (vals := [.string s]) (y := .int .u32 (Oct.M.sum s.data.toList : Nat)) rfl rfl n fun x => (Oct.sum_any s x hs).mono fun e x' h => ⟨h.1, by first | exact h.2 | exact h.2 ▸ Grow.refl _⟩
theorem enters48 : Enters Tryz.prog 48 := fun args w => by go_simp
theorem C48 (k : Int)  (n : Nat) : CallOK Tryz.prog 48 [iv .i64 k] [] n (.c (.l (.v (.string ⟨(Oct.M.leb (Oct.u64 k)).toArray⟩)))) [] 0 :=
  call_plain enters48 (vals := [.int .i64 k]) (y := .string ⟨(Oct.M.leb (Oct.u64 k)).toArray⟩) rfl rfl n fun x => (Oct.var_any k x).mono fun e x' h => ⟨h.1, by first | exact h.2 | exact h.2 ▸ Grow.refl _⟩
theorem enters50 : Enters Tryz.prog 50 := fun args w => by go_simp
theorem C50 (k m : Int)  (n : Nat) : CallOK Tryz.prog 50 [iv .i64 k, iv .i64 m] [] n (.c (.l (.v (.string ⟨(Oct.M.be (Oct.sz m) (Oct.u64 k)).toArray⟩)))) [] 0 :=
  call_plain enters50 (vals := [.int .i64 k, .int .i64 m]) (y := .string ⟨(Oct.M.be (Oct.sz m) (Oct.u64 k)).toArray⟩) rfl rfl n fun x => (Oct.put_any k m x).mono fun e x' h => ⟨h.1, by first | exact h.2 | exact h.2 ▸ Grow.refl _⟩
theorem enters55 : Enters Tryz.prog 55 := fun args w => by go_simp
theorem C55 (s : ByteArray) (hs : s.size ≤ 1000000000000000000) (n : Nat) : CallOK Tryz.prog 55 [.c (.l (.v (.string s)))] [] n (.c (.l (.v (.string ⟨(Oct.txt s).toArray⟩)))) [] 0 :=
  call_plain enters55 (vals := [.string s]) (y := .string ⟨(Oct.txt s).toArray⟩) rfl rfl n fun x => (Oct.text_any s x hs).mono fun e x' h => ⟨h.1, by first | exact h.2 | exact h.2 ▸ Grow.refl _⟩
theorem enters125 : Enters Tryz.prog 125 := fun args w => by go_simp
theorem C125 (id : Nat) (s : ByteArray) (P : Int) (f : Bool)  (hs : s.size ≤ 1000000000000000000) (h0 : 0 ≤ P) (hP : P ≤ s.size) (n : Nat) :
    CallOK Tryz.prog 125 [.c (.l (.p id 0))] [(id, ⟨[.v (.string s), .v (.int .i64 P), .v (.bool f)], 174⟩)] n (iv .i64 (Oct.varRes s P.toNat f).1) [(id, ⟨[.v (.string s), .v (.int .i64 ((Oct.varRes s P.toNat f).2.1 : Nat)), .v (.bool (Oct.varRes s P.toNat f).2.2)], 174⟩)] 0 := by
  have hp : P.toNat ≤ s.size := by omega
  have e : P = (P.toNat : Int) := by omega
  have key := reader_ok (id := id) (n := n) (F := 125) enters125 (s := s) (p := P.toNat) (p' := (Oct.varRes s P.toNat f).2.1) (f := f) (f' := (Oct.varRes s P.toNat f).2.2) (ar := []) (vals := []) (v := iv .i64 (Oct.varRes s P.toNat f).1) (y := .int .i64 (Oct.varRes s P.toNat f).1) rfl rfl (fun b w h => Oct.rvar_any b s P.toNat f w h hs hp)
  unfold rdB at key
  rw [← e] at key
  exact key
def V125 (S : St) (i : Nat) : SV := match S.blk i with | some ⟨[.v (.string s), .v (.int _ p), .v (.bool f)], _⟩ => iv .i64 (Oct.varRes s p.toNat f).1 | _ => .u
def W125 (S : St) (i : Nat) : Blk := match S.blk i with | some ⟨[.v (.string s), .v (.int _ p), .v (.bool f)], _⟩ => ⟨[.v (.string s), .v (.int .i64 ((Oct.varRes s p.toNat f).2.1 : Nat)), .v (.bool (Oct.varRes s p.toNat f).2.2)], 174⟩ | _ => ⟨[], 0⟩
theorem enters59 : Enters Tryz.prog 59 := fun args w => by go_simp
theorem C59 (id : Nat) (s : ByteArray) (P : Int) (f : Bool)  (hs : s.size ≤ 1000000000000000000) (h0 : 0 ≤ P) (hP : P ≤ s.size) (n : Nat) :
    CallOK Tryz.prog 59 [.c (.l (.p id 0))] [(id, ⟨[.v (.string s), .v (.int .i64 P), .v (.bool f)], 174⟩)] n (.c (.l (.v (.string (Oct.textRes s P.toNat f).1)))) [(id, ⟨[.v (.string s), .v (.int .i64 ((Oct.textRes s P.toNat f).2.1 : Nat)), .v (.bool (Oct.textRes s P.toNat f).2.2)], 174⟩)] 0 := by
  have hp : P.toNat ≤ s.size := by omega
  have e : P = (P.toNat : Int) := by omega
  have key := reader_ok (id := id) (n := n) (F := 59) enters59 (s := s) (p := P.toNat) (p' := (Oct.textRes s P.toNat f).2.1) (f := f) (f' := (Oct.textRes s P.toNat f).2.2) (ar := []) (vals := []) (v := .c (.l (.v (.string (Oct.textRes s P.toNat f).1)))) (y := .string (Oct.textRes s P.toNat f).1) rfl rfl (fun b w h => Oct.rtext_any b s P.toNat f w h hs hp)
  unfold rdB at key
  rw [← e] at key
  exact key
def V59 (S : St) (i : Nat) : SV := match S.blk i with | some ⟨[.v (.string s), .v (.int _ p), .v (.bool f)], _⟩ => .c (.l (.v (.string (Oct.textRes s p.toNat f).1))) | _ => .u
def W59 (S : St) (i : Nat) : Blk := match S.blk i with | some ⟨[.v (.string s), .v (.int _ p), .v (.bool f)], _⟩ => ⟨[.v (.string s), .v (.int .i64 ((Oct.textRes s p.toNat f).2.1 : Nat)), .v (.bool (Oct.textRes s p.toNat f).2.2)], 174⟩ | _ => ⟨[], 0⟩
theorem enters60 : Enters Tryz.prog 60 := fun args w => by go_simp
theorem C60 (id : Nat) (s : ByteArray) (P : Int) (f : Bool) (m : Int) (hs : s.size ≤ 1000000000000000000) (h0 : 0 ≤ P) (hP : P ≤ s.size) (n : Nat) :
    CallOK Tryz.prog 60 [.c (.l (.p id 0)), iv .i64 m] [(id, ⟨[.v (.string s), .v (.int .i64 P), .v (.bool f)], 174⟩)] n (iv .i64 (wrap64 (Oct.bev (Oct.takeRes s P.toNat f (Oct.sz m)).1.data.toList))) [(id, ⟨[.v (.string s), .v (.int .i64 ((Oct.takeRes s P.toNat f (Oct.sz m)).2.1 : Nat)), .v (.bool (Oct.takeRes s P.toNat f (Oct.sz m)).2.2)], 174⟩)] 0 := by
  have hp : P.toNat ≤ s.size := by omega
  have e : P = (P.toNat : Int) := by omega
  have key := reader_ok (id := id) (n := n) (F := 60) enters60 (s := s) (p := P.toNat) (p' := (Oct.takeRes s P.toNat f (Oct.sz m)).2.1) (f := f) (f' := (Oct.takeRes s P.toNat f (Oct.sz m)).2.2) (ar := [iv .i64 m]) (vals := [.int .i64 m]) (v := iv .i64 (wrap64 (Oct.bev (Oct.takeRes s P.toNat f (Oct.sz m)).1.data.toList))) (y := .int .i64 (wrap64 (Oct.bev (Oct.takeRes s P.toNat f (Oct.sz m)).1.data.toList))) rfl rfl (fun b w h => Oct.num_any b s P.toNat f w m h hs hp)
  unfold rdB at key
  rw [← e] at key
  exact key
def V60 (S : St) (i : Nat) (m : Int) : SV := match S.blk i with | some ⟨[.v (.string s), .v (.int _ p), .v (.bool f)], _⟩ => iv .i64 (wrap64 (Oct.bev (Oct.takeRes s p.toNat f (Oct.sz m)).1.data.toList)) | _ => .u
def W60 (S : St) (i : Nat) (m : Int) : Blk := match S.blk i with | some ⟨[.v (.string s), .v (.int _ p), .v (.bool f)], _⟩ => ⟨[.v (.string s), .v (.int .i64 ((Oct.takeRes s p.toNat f (Oct.sz m)).2.1 : Nat)), .v (.bool (Oct.takeRes s p.toNat f (Oct.sz m)).2.2)], 174⟩ | _ => ⟨[], 0⟩
theorem enters64 : Enters Tryz.prog 64 := fun args w => by go_simp
theorem C64 (id : Nat) (s : ByteArray) (P : Int) (f : Bool) (m : Int) (hs : s.size ≤ 1000000000000000000) (h0 : 0 ≤ P) (hP : P ≤ s.size) (n : Nat) :
    CallOK Tryz.prog 64 [.c (.l (.p id 0)), iv .i64 m] [(id, ⟨[.v (.string s), .v (.int .i64 P), .v (.bool f)], 174⟩)] n (.c (.l (.v (.string (Oct.takeRes s P.toNat f m).1)))) [(id, ⟨[.v (.string s), .v (.int .i64 ((Oct.takeRes s P.toNat f m).2.1 : Nat)), .v (.bool (Oct.takeRes s P.toNat f m).2.2)], 174⟩)] 0 := by
  have hp : P.toNat ≤ s.size := by omega
  have e : P = (P.toNat : Int) := by omega
  have key := reader_ok (id := id) (n := n) (F := 64) enters64 (s := s) (p := P.toNat) (p' := (Oct.takeRes s P.toNat f m).2.1) (f := f) (f' := (Oct.takeRes s P.toNat f m).2.2) (ar := [iv .i64 m]) (vals := [.int .i64 m]) (v := .c (.l (.v (.string (Oct.takeRes s P.toNat f m).1)))) (y := .string (Oct.takeRes s P.toNat f m).1) rfl rfl (fun b w h => Oct.take_any b s P.toNat f w m h hs hp)
  unfold rdB at key
  rw [← e] at key
  exact key
def V64 (S : St) (i : Nat) (m : Int) : SV := match S.blk i with | some ⟨[.v (.string s), .v (.int _ p), .v (.bool f)], _⟩ => .c (.l (.v (.string (Oct.takeRes s p.toNat f m).1))) | _ => .u
def W64 (S : St) (i : Nat) (m : Int) : Blk := match S.blk i with | some ⟨[.v (.string s), .v (.int _ p), .v (.bool f)], _⟩ => ⟨[.v (.string s), .v (.int .i64 ((Oct.takeRes s p.toNat f m).2.1 : Nat)), .v (.bool (Oct.takeRes s p.toNat f m).2.2)], 174⟩ | _ => ⟨[], 0⟩
theorem enters58 : Enters Tryz.prog 58 := fun args w => by go_simp
theorem enters61 : Enters Tryz.prog 61 := fun args w => by go_simp
theorem enters63 : Enters Tryz.prog 63 := fun args w => by go_simp
theorem C58 (s : ByteArray) (n : Nat) : CallOK Tryz.prog 58 [.c (.l (.v (.string s)))] [] n (.c (.l (.p n 0))) [(n, ⟨[.v (.string s), .v (.int .i64 0), .v (.bool false)], 174⟩)] 1 :=
  new_ok enters58 (vals := [.string s]) (ys := [.string s, .int .i64 0, .bool false]) rfl (by simp [leafy, Value.oneCell']) fun w => (Oct.read_any s w).mono fun e w' h => ⟨h.1, h.2.symm⟩
theorem C61 (id : Nat) (s : ByteArray) (P : Int) (f : Bool) (h0 : 0 ≤ P) (n : Nat) : CallOK Tryz.prog 61 [.c (.l (.p id 0))] [(id, ⟨[.v (.string s), .v (.int .i64 P), .v (.bool f)], 174⟩)] n (bv f) [] 0 := by
  have e : P = (P.toNat : Int) := by omega
  have key := reader_ro (id := id) (n := n) (F := 61) enters61 (s := s) (p := P.toNat) (f := f) (ar := []) (vals := []) (v := bv f) (y := .bool f) rfl rfl (fun b w h => (Oct.failed_any b s P.toNat f w h).mono fun e w' h => ⟨h.1, h.2 ▸ Grow.refl _⟩)
  unfold rdB at key
  rw [← e] at key
  exact key
theorem grow_drewN (w : World) (n : Nat) : Grow w (w.drewN n) := ⟨rfl, rfl, rfl, Nat.le_refl _, fun _ _ => rfl⟩
theorem C63 (id : Nat) (s : ByteArray) (P : Int) (f : Bool) (hs : s.size ≤ 1000000000000000000) (h0 : 0 ≤ P) (hP : P ≤ s.size) (n : Nat) : CallOK Tryz.prog 63 [.c (.l (.p id 0))] [(id, ⟨[.v (.string s), .v (.int .i64 P), .v (.bool f)], 174⟩)] n (iv .i64 (s.size - P)) [] 0 := by
  have e : P = (P.toNat : Int) := by omega
  have key := reader_ro (id := id) (n := n) (F := 63) enters63 (s := s) (p := P.toNat) (f := f) (ar := []) (vals := []) (v := iv .i64 (s.size - P.toNat)) (y := .int .i64 (s.size - P.toNat)) rfl rfl (fun b w h => (Oct.left_any b s P.toNat f w h hs (by omega)).mono fun e w' h => ⟨h.1, by obtain ⟨k, hk⟩ := h.2; rw [hk]; exact grow_drewN _ _⟩)
  unfold rdB at key
  rw [← e] at key
  exact key
def V61 (S : St) (i : Nat) : SV := match S.blk i with | some ⟨[.v (.string s), .v (.int _ p), .v (.bool f)], _⟩ => bv f | _ => .u
def V63 (S : St) (i : Nat) : SV := match S.blk i with | some ⟨[.v (.string s), .v (.int _ p), .v (.bool f)], _⟩ => iv .i64 (s.size - p) | _ => .u
def hasP (s t : ByteArray) : Bool := bif decide ((s.size : Int) ≥ t.size) then (s.extract 0 t.size).toList == t.toList else false
def cutP (s t : ByteArray) : ByteArray × Bool := bif hasP s t then (s.extract t.size s.size, true) else (s, false)
theorem enters160 : Enters Tryz.prog 160 := fun args w => by go_simp
def cz_C160 : Cz := {
  ct := (fun f => match f with
  | _ => none)
  eq := (fun t => match t with
  | _ => none)
  raw := [], sym := [], nf := [], off := [], on := [], lp := fun _ => none, un := 0 }
set_option maxRecDepth 100000 in
theorem C160 (s t : ByteArray) (hs : s.size ≤ 1000000000000000000) (n : Nat) : CallOK Tryz.prog 160 [.c (.l (.v (.string s))), .c (.l (.v (.string t)))] [] n (bv (hasP s t)) [] 0 := by
  refine CallOK.any ?_ rfl rfl n
  refine call_ok (cx := cz_C160) (nm := []) rfl Tryz.func160 (body := Tryz.f160.body.getD .skip) rfl enters160 (by kernel_rfl) ?_
  refine of_eq (q := (decide ((Nat.cast s.size : Int) ≥ (Nat.cast t.size : Int)) = true → decide ((Nat.cast s.size : Int) ≥ (Nat.cast t.size : Int)) = true ∧ True) ∧ (decide ((Nat.cast s.size : Int) ≥ (Nat.cast t.size : Int)) = true → decide ((Nat.cast s.size : Int) ≥ (Nat.cast t.size : Int)) = true ∧ decide ((Nat.cast s.size : Int) ≥ (Nat.cast t.size : Int)) = true ∧ ((0 : Int) ≤ 0 ∧ 0 ≤ (Nat.cast t.size : Int) ∧ (Nat.cast t.size : Int) ≤ (Nat.cast s.size : Int)) ∧ True) ∧ (decide ((Nat.cast s.size : Int) ≥ (Nat.cast t.size : Int)) = true → decide ((Nat.cast s.size : Int) ≥ (Nat.cast t.size : Int)) = true ∧ decide ((Nat.cast s.size : Int) ≥ (Nat.cast t.size : Int)) = true ∧ True) ∧ (decide ((Nat.cast s.size : Int) ≥ (Nat.cast t.size : Int)) = true → decide ((Nat.cast s.size : Int) ≥ (Nat.cast t.size : Int)) = true) ∧ Le (bv (bif decide ((Nat.cast s.size : Int) ≥ (Nat.cast t.size : Int)) then (s.extract (Int.toNat 0) ((Nat.cast t.size : Int)).toNat).toList == t.toList else false)) (bv (hasP s t)) ∧ True) (by kernel_rfl) ?_
  repeat' (first | exact trivial | with_reducible apply And.intro | (with_reducible apply HB.mk) | with_reducible intro _)
  all_goals first
    | (assumption)
    | (with_reducible exact Le.refl _)
    | (have := of_decide_eq_true ‹_›; omega)
    | (exact Le.of rfl)
    | (exact okw _ (by omega) (by omega))
    | (exact Le.of rfl)
    | (simp only [*, Bool.and_self, Bool.not_false, Bool.not_true]; done)
    | (simp_all [wants]; done)
theorem hasP_le {s t : ByteArray} (h : hasP s t = true) : t.size ≤ s.size := by
  unfold hasP at h
  by_cases k : (s.size : Int) ≥ t.size
  · omega
  · rw [decide_eq_false k] at h; cases h
theorem enters124 : Enters Tryz.prog 124 := fun args w => by go_simp
def cz_C124 : Cz := {
  ct := (fun f => match f with
  | 160 => some fun _S ar => match ar with | [.c (.l (.v (.string s))), .c (.l (.v (.string t)))] => some { v := bv (hasP s t), rd := [], wr := [], nw := 0 } | _ => none
  | _ => none)
  eq := (fun t => match t with
  | _ => none)
  raw := [], sym := [], nf := [], off := [], on := [], lp := fun _ => none, un := 0 }
set_option maxRecDepth 100000 in
theorem C124 (s t : ByteArray) (hs : s.size ≤ 1000000000000000000) (n : Nat) : CallOK Tryz.prog 124 [.c (.l (.v (.string s))), .c (.l (.v (.string t)))] [] n (.tup [.l (.v (.string (cutP s t).1)), .l (.v (.bool (cutP s t).2))]) [] 0 := by
  refine CallOK.any ?_ rfl rfl n
  have hsz := hasP_le (s := s) (t := t)
  refine call_ok (cx := cz_C124) (nm := []) rfl Tryz.func124 (body := Tryz.f124.body.getD .skip) rfl enters124 (by kernel_rfl) ?_
  refine of_eq (q := CallOK Tryz.prog 160 [SV.c (Cp.l (Leaf.v (Value.string s))), SV.c (Cp.l (Leaf.v (Value.string t)))] [] 0 (bv (hasP s t)) [] 0 ∧ HB (!hasP s t) (Le (SV.tup [Cp.l (Leaf.v (Value.string s)), Cp.l (lb false)]) (SV.tup [Cp.l (Leaf.v (Value.string (cutP s t).fst)), Cp.l (lb (cutP s t).snd)]) ∧ True) ((0 ≤ (Nat.cast t.size : Int) ∧ (Nat.cast t.size : Int) ≤ (Nat.cast s.size : Int) ∧ (Nat.cast s.size : Int) ≤ (Nat.cast s.size : Int)) ∧ Le (SV.tup [Cp.l (Leaf.v (Value.string (s.extract ((Nat.cast t.size : Int)).toNat ((Nat.cast s.size : Int)).toNat))), Cp.l (lb true)]) (SV.tup [Cp.l (Leaf.v (Value.string (cutP s t).fst)), Cp.l (lb (cutP s t).snd)]) ∧ True)) (by kernel_rfl) ?_
  repeat' (first | exact trivial | with_reducible apply And.intro | (with_reducible apply HB.mk) | with_reducible intro _)
  all_goals first
    | (assumption)
    | (with_reducible exact Le.refl _)
    | ((refine C160 _ _ ?_ _); first | assumption | decide)
    | (refine Le.of ?_; unfold cutP; rw [show hasP s t = false by simpa using ‹(!hasP s t) = true›]; rfl)
    | (refine Le.of ?_; unfold cutP; rw [show hasP s t = true by simpa using ‹(!hasP s t) = false›]; rfl)
    | (have := hasP_le (show hasP s t = true by simpa using ‹(!hasP s t) = false›); omega)
    | (exact okw _ (by omega) (by omega))
    | (exact Le.of rfl)
    | (simp only [*, Bool.and_self, Bool.not_false, Bool.not_true]; done)
    | (simp_all [wants]; done)
theorem enters57 : Enters Tryz.prog 57 := fun args w => by go_simp
def cz_C57 : Cz := {
  ct := (fun f => match f with
  | 124 => some fun _S ar => match ar with | [.c (.l (.v (.string s))), .c (.l (.v (.string t)))] => some { v := .tup [.l (.v (.string (cutP s t).1)), .l (.v (.bool (cutP s t).2))], rd := [], wr := [], nw := 0 } | _ => none
  | _ => none)
  eq := (fun t => match t with
  | _ => none)
  raw := [], sym := [], nf := [], off := [], on := [], lp := fun _ => none, un := 0 }
set_option maxRecDepth 100000 in
theorem C57 (s t : ByteArray) (hs : s.size ≤ 1000000000000000000) (n : Nat) : CallOK Tryz.prog 57 [.c (.l (.v (.string s))), .c (.l (.v (.string t)))] [] n (.tup [.l (.v (.string (cutP s t).1)), .l (.v (.bool (cutP s t).2))]) [] 0 := by
  refine CallOK.any ?_ rfl rfl n
  refine call_ok (cx := cz_C57) (nm := []) rfl Tryz.func57 (body := Tryz.f57.body.getD .skip) rfl enters57 (by kernel_rfl) ?_
  refine of_eq (q := CallOK Tryz.prog 124 [SV.c (Cp.l (Leaf.v (Value.string s))), SV.c (Cp.l (Leaf.v (Value.string t)))] [] 0 (SV.tup [Cp.l (Leaf.v (Value.string (cutP s t).fst)), Cp.l (lb (cutP s t).snd)]) [] 0 ∧ Le (SV.tup [Cp.l (Leaf.v (Value.string (cutP s t).fst)), Cp.l (lb (cutP s t).snd)]) (SV.tup [Cp.l (Leaf.v (Value.string (cutP s t).fst)), Cp.l (lb (cutP s t).snd)]) ∧ True) (by kernel_rfl) ?_
  repeat' (first | exact trivial | with_reducible apply And.intro | (with_reducible apply HB.mk) | with_reducible intro _)
  all_goals first
    | (assumption)
    | (with_reducible exact Le.refl _)
    | ((refine C124 _ _ ?_ _); first | assumption | decide)
    | (exact okw _ (by omega) (by omega))
    | (exact Le.of rfl)
    | (simp only [*, Bool.and_self, Bool.not_false, Bool.not_true]; done)
    | (simp_all [wants]; done)
end Ab
end Go.Proofs.YtpdckpifhniioaaGreat
