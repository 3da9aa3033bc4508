/- Contracts: octet, Reader, CutPrefix. -/
import Derived.Test.YtpdckpifhniioaaX
import Derived.Test.YtpdckpifhniioaaRk
set_option linter.unusedVariables false
set_option linter.unusedSimpArgs false
namespace Go.Proofs.Ytpdckpifhniioaa
open Go.RowKit
namespace Ab
theorem enters53 : Enters Try.prog 20 := fun args w => by go_simp
theorem C53 (s : ByteArray) (hs : s.size ≤ 1000000000000000000) (n : Nat) : CallOK Try.prog 20 [.c (.l (.v (.string s)))] [] n (iv .u32 (Oct.M.sum s.data.toList : Nat)) [] 0 :=
  call_plain enters53 (vals := [.string s]) (y := .int .u32 (Oct.M.sum s.data.toList : Nat)) rfl rfl n fun x => (Oct.sum_any s x hs).mono fun e x' h => ⟨h.1, by first | exact h.2 | exact h.2 ▸ Grow.refl _⟩
theorem enters48 : Enters Try.prog 15 := fun args w => by go_simp
theorem C48 (k : Int)  (n : Nat) : CallOK Try.prog 15 [iv .i64 k] [] n (.c (.l (.v (.string ⟨(Oct.M.leb (Oct.u64 k)).toArray⟩)))) [] 0 :=
  call_plain enters48 (vals := [.int .i64 k]) (y := .string ⟨(Oct.M.leb (Oct.u64 k)).toArray⟩) rfl rfl n fun x => (Oct.var_any k x).mono fun e x' h => ⟨h.1, by first | exact h.2 | exact h.2 ▸ Grow.refl _⟩
theorem enters50 : Enters Try.prog 17 := fun args w => by go_simp
theorem C50 (k m : Int)  (n : Nat) : CallOK Try.prog 17 [iv .i64 k, iv .i64 m] [] n (.c (.l (.v (.string ⟨(Oct.M.be (Oct.sz m) (Oct.u64 k)).toArray⟩)))) [] 0 :=
  call_plain enters50 (vals := [.int .i64 k, .int .i64 m]) (y := .string ⟨(Oct.M.be (Oct.sz m) (Oct.u64 k)).toArray⟩) rfl rfl n fun x => (Oct.put_any k m x).mono fun e x' h => ⟨h.1, by first | exact h.2 | exact h.2 ▸ Grow.refl _⟩
theorem enters55 : Enters Try.prog 22 := fun args w => by go_simp
theorem C55 (s : ByteArray) (hs : s.size ≤ 1000000000000000000) (n : Nat) : CallOK Try.prog 22 [.c (.l (.v (.string s)))] [] n (.c (.l (.v (.string ⟨(Oct.txt s).toArray⟩)))) [] 0 :=
  call_plain enters55 (vals := [.string s]) (y := .string ⟨(Oct.txt s).toArray⟩) rfl rfl n fun x => (Oct.text_any s x hs).mono fun e x' h => ⟨h.1, by first | exact h.2 | exact h.2 ▸ Grow.refl _⟩
theorem enters125 : Enters Try.prog 58 := fun args w => by go_simp
theorem C125 (id : Nat) (s : ByteArray) (P : Int) (f : Bool)  (hs : s.size ≤ 1000000000000000000) (h0 : 0 ≤ P) (hP : P ≤ s.size) (n : Nat) :
    CallOK Try.prog 58 [.c (.l (.p id 0))] [(id, ⟨[.v (.string s), .v (.int .i64 P), .v (.bool f)], .t 112⟩)] n (iv .i64 (Oct.varRes s P.toNat f).1) [(id, ⟨[.v (.string s), .v (.int .i64 ((Oct.varRes s P.toNat f).2.1 : Nat)), .v (.bool (Oct.varRes s P.toNat f).2.2)], .t 112⟩)] 0 := by
  have hp : P.toNat ≤ s.size := by omega
  have e : P = (P.toNat : Int) := by omega
  have key := reader_ok (id := id) (n := n) (F := 58) enters125 (s := s) (p := P.toNat) (p' := (Oct.varRes s P.toNat f).2.1) (f := f) (f' := (Oct.varRes s P.toNat f).2.2) (ar := []) (vals := []) (v := iv .i64 (Oct.varRes s P.toNat f).1) (y := .int .i64 (Oct.varRes s P.toNat f).1) rfl rfl (fun b w h => Oct.rvar_any b s P.toNat f w h hs hp)
  unfold rdB at key
  rw [← e] at key
  exact key
def V125 (S : St) (i : Nat) : SV := match S.blk i with | some ⟨[.v (.string s), .v (.int _ p), .v (.bool f)], _⟩ => iv .i64 (Oct.varRes s p.toNat f).1 | _ => .u
def W125 (S : St) (i : Nat) : Blk := match S.blk i with | some ⟨[.v (.string s), .v (.int _ p), .v (.bool f)], _⟩ => ⟨[.v (.string s), .v (.int .i64 ((Oct.varRes s p.toNat f).2.1 : Nat)), .v (.bool (Oct.varRes s p.toNat f).2.2)], .t 112⟩ | _ => ⟨[], .t 0⟩
theorem enters59 : Enters Try.prog 28 := fun args w => by go_simp
theorem C59 (id : Nat) (s : ByteArray) (P : Int) (f : Bool)  (hs : s.size ≤ 1000000000000000000) (h0 : 0 ≤ P) (hP : P ≤ s.size) (n : Nat) :
    CallOK Try.prog 28 [.c (.l (.p id 0))] [(id, ⟨[.v (.string s), .v (.int .i64 P), .v (.bool f)], .t 112⟩)] n (.c (.l (.v (.string (Oct.textRes s P.toNat f).1)))) [(id, ⟨[.v (.string s), .v (.int .i64 ((Oct.textRes s P.toNat f).2.1 : Nat)), .v (.bool (Oct.textRes s P.toNat f).2.2)], .t 112⟩)] 0 := by
  have hp : P.toNat ≤ s.size := by omega
  have e : P = (P.toNat : Int) := by omega
  have key := reader_ok (id := id) (n := n) (F := 28) enters59 (s := s) (p := P.toNat) (p' := (Oct.textRes s P.toNat f).2.1) (f := f) (f' := (Oct.textRes s P.toNat f).2.2) (ar := []) (vals := []) (v := .c (.l (.v (.string (Oct.textRes s P.toNat f).1)))) (y := .string (Oct.textRes s P.toNat f).1) rfl rfl (fun b w h => Oct.rtext_any b s P.toNat f w h hs hp)
  unfold rdB at key
  rw [← e] at key
  exact key
def V59 (S : St) (i : Nat) : SV := match S.blk i with | some ⟨[.v (.string s), .v (.int _ p), .v (.bool f)], _⟩ => .c (.l (.v (.string (Oct.textRes s p.toNat f).1))) | _ => .u
def W59 (S : St) (i : Nat) : Blk := match S.blk i with | some ⟨[.v (.string s), .v (.int _ p), .v (.bool f)], _⟩ => ⟨[.v (.string s), .v (.int .i64 ((Oct.textRes s p.toNat f).2.1 : Nat)), .v (.bool (Oct.textRes s p.toNat f).2.2)], .t 112⟩ | _ => ⟨[], .t 0⟩
theorem enters60 : Enters Try.prog 29 := fun args w => by go_simp
theorem C60 (id : Nat) (s : ByteArray) (P : Int) (f : Bool) (m : Int) (hs : s.size ≤ 1000000000000000000) (h0 : 0 ≤ P) (hP : P ≤ s.size) (n : Nat) :
    CallOK Try.prog 29 [.c (.l (.p id 0)), iv .i64 m] [(id, ⟨[.v (.string s), .v (.int .i64 P), .v (.bool f)], .t 112⟩)] n (iv .i64 (wrap64 (Oct.bev (Oct.takeRes s P.toNat f (Oct.sz m)).1.data.toList))) [(id, ⟨[.v (.string s), .v (.int .i64 ((Oct.takeRes s P.toNat f (Oct.sz m)).2.1 : Nat)), .v (.bool (Oct.takeRes s P.toNat f (Oct.sz m)).2.2)], .t 112⟩)] 0 := by
  have hp : P.toNat ≤ s.size := by omega
  have e : P = (P.toNat : Int) := by omega
  have key := reader_ok (id := id) (n := n) (F := 29) enters60 (s := s) (p := P.toNat) (p' := (Oct.takeRes s P.toNat f (Oct.sz m)).2.1) (f := f) (f' := (Oct.takeRes s P.toNat f (Oct.sz m)).2.2) (ar := [iv .i64 m]) (vals := [.int .i64 m]) (v := iv .i64 (wrap64 (Oct.bev (Oct.takeRes s P.toNat f (Oct.sz m)).1.data.toList))) (y := .int .i64 (wrap64 (Oct.bev (Oct.takeRes s P.toNat f (Oct.sz m)).1.data.toList))) rfl rfl (fun b w h => Oct.num_any b s P.toNat f w m h hs hp)
  unfold rdB at key
  rw [← e] at key
  exact key
def V60 (S : St) (i : Nat) (m : Int) : SV := match S.blk i with | some ⟨[.v (.string s), .v (.int _ p), .v (.bool f)], _⟩ => iv .i64 (wrap64 (Oct.bev (Oct.takeRes s p.toNat f (Oct.sz m)).1.data.toList)) | _ => .u
def W60 (S : St) (i : Nat) (m : Int) : Blk := match S.blk i with | some ⟨[.v (.string s), .v (.int _ p), .v (.bool f)], _⟩ => ⟨[.v (.string s), .v (.int .i64 ((Oct.takeRes s p.toNat f (Oct.sz m)).2.1 : Nat)), .v (.bool (Oct.takeRes s p.toNat f (Oct.sz m)).2.2)], .t 112⟩ | _ => ⟨[], .t 0⟩
theorem enters64 : Enters Try.prog 33 := fun args w => by go_simp
theorem C64 (id : Nat) (s : ByteArray) (P : Int) (f : Bool) (m : Int) (hs : s.size ≤ 1000000000000000000) (h0 : 0 ≤ P) (hP : P ≤ s.size) (n : Nat) :
    CallOK Try.prog 33 [.c (.l (.p id 0)), iv .i64 m] [(id, ⟨[.v (.string s), .v (.int .i64 P), .v (.bool f)], .t 112⟩)] n (.c (.l (.v (.string (Oct.takeRes s P.toNat f m).1)))) [(id, ⟨[.v (.string s), .v (.int .i64 ((Oct.takeRes s P.toNat f m).2.1 : Nat)), .v (.bool (Oct.takeRes s P.toNat f m).2.2)], .t 112⟩)] 0 := by
  have hp : P.toNat ≤ s.size := by omega
  have e : P = (P.toNat : Int) := by omega
  have key := reader_ok (id := id) (n := n) (F := 33) enters64 (s := s) (p := P.toNat) (p' := (Oct.takeRes s P.toNat f m).2.1) (f := f) (f' := (Oct.takeRes s P.toNat f m).2.2) (ar := [iv .i64 m]) (vals := [.int .i64 m]) (v := .c (.l (.v (.string (Oct.takeRes s P.toNat f m).1)))) (y := .string (Oct.takeRes s P.toNat f m).1) rfl rfl (fun b w h => Oct.take_any b s P.toNat f w m h hs hp)
  unfold rdB at key
  rw [← e] at key
  exact key
def V64 (S : St) (i : Nat) (m : Int) : SV := match S.blk i with | some ⟨[.v (.string s), .v (.int _ p), .v (.bool f)], _⟩ => .c (.l (.v (.string (Oct.takeRes s p.toNat f m).1))) | _ => .u
def W64 (S : St) (i : Nat) (m : Int) : Blk := match S.blk i with | some ⟨[.v (.string s), .v (.int _ p), .v (.bool f)], _⟩ => ⟨[.v (.string s), .v (.int .i64 ((Oct.takeRes s p.toNat f m).2.1 : Nat)), .v (.bool (Oct.takeRes s p.toNat f m).2.2)], .t 112⟩ | _ => ⟨[], .t 0⟩
theorem enters58 : Enters Try.prog 27 := fun args w => by go_simp
theorem enters61 : Enters Try.prog 30 := fun args w => by go_simp
theorem enters63 : Enters Try.prog 32 := fun args w => by go_simp
theorem C58 (s : ByteArray) (n : Nat) : CallOK Try.prog 27 [.c (.l (.v (.string s)))] [] n (.c (.l (.p n 0))) [(n, ⟨[.v (.string s), .v (.int .i64 0), .v (.bool false)], .t 112⟩)] 1 :=
  new_ok enters58 (vals := [.string s]) (ys := [.string s, .int .i64 0, .bool false]) rfl (by simp [leafy, Value.oneCell']) fun w => (Oct.read_any s w).mono fun e w' h => ⟨h.1, h.2.symm⟩
theorem C61 (id : Nat) (s : ByteArray) (P : Int) (f : Bool) (h0 : 0 ≤ P) (n : Nat) : CallOK Try.prog 30 [.c (.l (.p id 0))] [(id, ⟨[.v (.string s), .v (.int .i64 P), .v (.bool f)], .t 112⟩)] n (bv f) [] 0 := by
  have e : P = (P.toNat : Int) := by omega
  have key := reader_ro (id := id) (n := n) (F := 30) enters61 (s := s) (p := P.toNat) (f := f) (ar := []) (vals := []) (v := bv f) (y := .bool f) rfl rfl (fun b w h => (Oct.failed_any b s P.toNat f w h).mono fun e w' h => ⟨h.1, h.2 ▸ Grow.refl _⟩)
  unfold rdB at key
  rw [← e] at key
  exact key
theorem grow_drewN (w : World) (n : Nat) : Grow w (w.drewN n) := ⟨rfl, rfl, rfl, Nat.le_refl _, fun _ _ => rfl⟩
theorem C63 (id : Nat) (s : ByteArray) (P : Int) (f : Bool) (hs : s.size ≤ 1000000000000000000) (h0 : 0 ≤ P) (hP : P ≤ s.size) (n : Nat) : CallOK Try.prog 32 [.c (.l (.p id 0))] [(id, ⟨[.v (.string s), .v (.int .i64 P), .v (.bool f)], .t 112⟩)] n (iv .i64 (s.size - P)) [] 0 := by
  have e : P = (P.toNat : Int) := by omega
  have key := reader_ro (id := id) (n := n) (F := 32) enters63 (s := s) (p := P.toNat) (f := f) (ar := []) (vals := []) (v := iv .i64 (s.size - P.toNat)) (y := .int .i64 (s.size - P.toNat)) rfl rfl (fun b w h => (Oct.left_any b s P.toNat f w h hs (by omega)).mono fun e w' h => ⟨h.1, by obtain ⟨k, hk⟩ := h.2; rw [hk]; exact grow_drewN _ _⟩)
  unfold rdB at key
  rw [← e] at key
  exact key
def V61 (S : St) (i : Nat) : SV := match S.blk i with | some ⟨[.v (.string s), .v (.int _ p), .v (.bool f)], _⟩ => bv f | _ => .u
def V63 (S : St) (i : Nat) : SV := match S.blk i with | some ⟨[.v (.string s), .v (.int _ p), .v (.bool f)], _⟩ => iv .i64 (s.size - p) | _ => .u
def hasP (s t : ByteArray) : Bool := bif decide ((s.size : Int) ≥ t.size) then (s.extract 0 t.size).toList == t.toList else false
def cutP (s t : ByteArray) : ByteArray × Bool := bif hasP s t then (s.extract t.size s.size, true) else (s, false)
theorem enters160 : Enters Try.prog 84 := fun args w => by go_simp
def cz_C160 : Cz := {
  ct := (fun f => match f with
  | _ => none)
  eq := (fun t => match t with
  | _ => none)
  raw := [], sym := [], nf := [], ap := true, off := [], on := [], lp := fun _ => none, un := 0 }
set_option maxRecDepth 100000 in
set_option maxHeartbeats 400000 in
theorem C160 (s t : ByteArray) (hs : s.size ≤ 1000000000000000000) (n : Nat) : CallOK Try.prog 84 [.c (.l (.v (.string s))), .c (.l (.v (.string t)))] [] n (bv (hasP s t)) [] 0 := by
  refine CallOK.any ?_ (by kernel_rfl) (by kernel_rfl) n
  refine call_ok (cx := cz_C160) (nm := []) rfl Try.func84 (body := Try.f84.body.getD .skip) rfl enters160 (by kernel_rfl) ?_
  apply of_eq (q := (decide ((Nat.cast s.size : Int) ≥ (Nat.cast t.size : Int)) = true → decide ((Nat.cast s.size : Int) ≥ (Nat.cast t.size : Int)) = true ∧ True) ∧ (decide ((Nat.cast s.size : Int) ≥ (Nat.cast t.size : Int)) = true → decide ((Nat.cast s.size : Int) ≥ (Nat.cast t.size : Int)) = true ∧ decide ((Nat.cast s.size : Int) ≥ (Nat.cast t.size : Int)) = true ∧ SlOK 0 (Nat.cast t.size : Int) (Nat.cast s.size : Int) ∧ True) ∧ (decide ((Nat.cast s.size : Int) ≥ (Nat.cast t.size : Int)) = true → decide ((Nat.cast s.size : Int) ≥ (Nat.cast t.size : Int)) = true ∧ decide ((Nat.cast s.size : Int) ≥ (Nat.cast t.size : Int)) = true ∧ True) ∧ (decide ((Nat.cast s.size : Int) ≥ (Nat.cast t.size : Int)) = true → decide ((Nat.cast s.size : Int) ≥ (Nat.cast t.size : Int)) = true) ∧ Le (bv (bif decide ((Nat.cast s.size : Int) ≥ (Nat.cast t.size : Int)) then (s.extract (Int.toNat 0) ((Nat.cast t.size : Int)).toNat).toList == t.toList else false)) (bv (hasP s t)) ∧ True) (by kernel_rfl)
  repeat' (first | exact trivial | with_reducible apply And.intro | (with_reducible apply HB.mk) | with_reducible intro _)
  all_goals first
    | (assumption)
    | (with_reducible exact Le.refl _)
    | (have := of_decide_eq_true ‹_›; unfold SlOK; omega)
    | (exact Le.of rfl)
    | (exact okw _ (by omega) (by omega))
    | (exact Le.of rfl)
    | (exact BkR.of rfl)
    | (unfold SlOK; omega)
    | (unfold SlOK; decide)
    | (unfold inByte; decide)
    | (simp only [*, Bool.and_self, Bool.not_false, Bool.not_true]; done)
    | (simp_all [wants]; done)
theorem hasP_le {s t : ByteArray} (h : hasP s t = true) : t.size ≤ s.size := by
  unfold hasP at h
  by_cases k : (s.size : Int) ≥ t.size
  · omega
  · rw [decide_eq_false k] at h; cases h
theorem enters124 : Enters Try.prog 57 := fun args w => by go_simp
def cz_C124 : Cz := {
  ct := (fun f => match f with
  | 84 => some fun _ _S ar => match ar with | [.c (.l (.v (.string s))), .c (.l (.v (.string t)))] => some { v := bv (hasP s t), rd := [], wr := [], nw := 0 } | _ => none
  | _ => none)
  eq := (fun t => match t with
  | _ => none)
  raw := [], sym := [], nf := [], ap := true, off := [], on := [], lp := fun _ => none, un := 0 }
set_option maxRecDepth 100000 in
set_option maxHeartbeats 400000 in
theorem C124 (s t : ByteArray) (hs : s.size ≤ 1000000000000000000) (n : Nat) : CallOK Try.prog 57 [.c (.l (.v (.string s))), .c (.l (.v (.string t)))] [] n (.tup [.l (.v (.string (cutP s t).1)), .l (.v (.bool (cutP s t).2))]) [] 0 := by
  refine CallOK.any ?_ (by kernel_rfl) (by kernel_rfl) n
  have hsz := hasP_le (s := s) (t := t)
  refine call_ok (cx := cz_C124) (nm := []) rfl Try.func57 (body := Try.f57.body.getD .skip) rfl enters124 (by kernel_rfl) ?_
  apply of_eq (q := CallOKd Try.prog 84 [] [SV.c (Cp.l (Leaf.v (Value.string s))), SV.c (Cp.l (Leaf.v (Value.string t)))] [] 0 (bv (hasP s t)) [] 0 ∧ HB (!hasP s t) (Le (SV.tup [Cp.l (Leaf.v (Value.string s)), Cp.l (lb false)]) (SV.tup [Cp.l (Leaf.v (Value.string (cutP s t).fst)), Cp.l (lb (cutP s t).snd)]) ∧ True) (SlOK (Nat.cast t.size : Int) (Nat.cast s.size : Int) (Nat.cast s.size : Int) ∧ Le (SV.tup [Cp.l (Leaf.v (Value.string (s.extract ((Nat.cast t.size : Int)).toNat ((Nat.cast s.size : Int)).toNat))), Cp.l (lb true)]) (SV.tup [Cp.l (Leaf.v (Value.string (cutP s t).fst)), Cp.l (lb (cutP s t).snd)]) ∧ True)) (by kernel_rfl)
  repeat' (first | exact trivial | with_reducible apply And.intro | (with_reducible apply HB.mk) | with_reducible intro _)
  all_goals first
    | (assumption)
    | (with_reducible exact Le.refl _)
    | ((refine C160 _ _ ?_ _); first | assumption | decide +kernel)
    | (refine Le.of ?_; unfold cutP; rw [show hasP s t = false by simpa using ‹(!hasP s t) = true›]; rfl)
    | (refine Le.of ?_; unfold cutP; rw [show hasP s t = true by simpa using ‹(!hasP s t) = false›]; rfl)
    | (have := hasP_le (show hasP s t = true by simpa using ‹(!hasP s t) = false›); unfold SlOK; omega)
    | (exact okw _ (by omega) (by omega))
    | (exact Le.of rfl)
    | (exact BkR.of rfl)
    | (unfold SlOK; omega)
    | (unfold SlOK; decide)
    | (unfold inByte; decide)
    | (simp only [*, Bool.and_self, Bool.not_false, Bool.not_true]; done)
    | (simp_all [wants]; done)
theorem enters57 : Enters Try.prog 26 := fun args w => by go_simp
def cz_C57 : Cz := {
  ct := (fun f => match f with
  | 57 => some fun _ _S ar => match ar with | [.c (.l (.v (.string s))), .c (.l (.v (.string t)))] => some { v := .tup [.l (.v (.string (cutP s t).1)), .l (.v (.bool (cutP s t).2))], rd := [], wr := [], nw := 0 } | _ => none
  | _ => none)
  eq := (fun t => match t with
  | _ => none)
  raw := [], sym := [], nf := [], ap := true, off := [], on := [], lp := fun _ => none, un := 0 }
set_option maxRecDepth 100000 in
set_option maxHeartbeats 400000 in
theorem C57 (s t : ByteArray) (hs : s.size ≤ 1000000000000000000) (n : Nat) : CallOK Try.prog 26 [.c (.l (.v (.string s))), .c (.l (.v (.string t)))] [] n (.tup [.l (.v (.string (cutP s t).1)), .l (.v (.bool (cutP s t).2))]) [] 0 := by
  refine CallOK.any ?_ (by kernel_rfl) (by kernel_rfl) n
  refine call_ok (cx := cz_C57) (nm := []) rfl Try.func26 (body := Try.f26.body.getD .skip) rfl enters57 (by kernel_rfl) ?_
  apply of_eq (q := CallOKd Try.prog 57 [] [SV.c (Cp.l (Leaf.v (Value.string s))), SV.c (Cp.l (Leaf.v (Value.string t)))] [] 0 (SV.tup [Cp.l (Leaf.v (Value.string (cutP s t).fst)), Cp.l (lb (cutP s t).snd)]) [] 0 ∧ Le (SV.tup [Cp.l (Leaf.v (Value.string (cutP s t).fst)), Cp.l (lb (cutP s t).snd)]) (SV.tup [Cp.l (Leaf.v (Value.string (cutP s t).fst)), Cp.l (lb (cutP s t).snd)]) ∧ True) (by kernel_rfl)
  repeat' (first | exact trivial | with_reducible apply And.intro | (with_reducible apply HB.mk) | with_reducible intro _)
  all_goals first
    | (assumption)
    | (with_reducible exact Le.refl _)
    | ((refine C124 _ _ ?_ _); first | assumption | decide +kernel)
    | (exact okw _ (by omega) (by omega))
    | (exact Le.of rfl)
    | (exact BkR.of rfl)
    | (unfold SlOK; omega)
    | (unfold SlOK; decide)
    | (unfold inByte; decide)
    | (simp only [*, Bool.and_self, Bool.not_false, Bool.not_true]; done)
    | (simp_all [wants]; done)
end Ab
end Go.Proofs.Ytpdckpifhniioaa
