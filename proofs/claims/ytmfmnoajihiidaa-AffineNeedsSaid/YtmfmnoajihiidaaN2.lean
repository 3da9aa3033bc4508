/- Contracts of the program's functions, from their walks. -/
import Derived.Test.YtmfmnoajihiidaaX
import Derived.Test.YtmfmnoajihiidaaN1
import Derived.Test.YtmfmnoajihiidaaCl
import Derived.Test.YtmfmnoajihiidaaB2
import Derived.Test.YtmfmnoajihiidaaRb
set_option linter.unusedVariables false
set_option linter.unusedSimpArgs false
namespace Go.Proofs.Ytmfmnoajihiidaa
open Go.RowKit
namespace Ab
theorem enters15 : Enters Try.prog 15 := fun args w => by go_simp
theorem C15 (a b : Af)  (n : Nat) : CallOK Try.prog 15 [ag [li a.A, li a.B, li a.C, li a.D, li a.E, li a.F, li a.N], ag [li b.A, li b.B, li b.C, li b.D, li b.E, li b.F, li b.N]] [] n (.tup [.agg [li (Af.thn a b).1.A, li (Af.thn a b).1.B, li (Af.thn a b).1.C, li (Af.thn a b).1.D, li (Af.thn a b).1.E, li (Af.thn a b).1.F, li (Af.thn a b).1.N], .l (.v (.int .i64 (Af.thn a b).2))]) [] 0 :=
  call_plain enters15 (vals := [.agg #[.int .i64 a.A, .int .i64 a.B, .int .i64 a.C, .int .i64 a.D, .int .i64 a.E, .int .i64 a.F, .int .i64 a.N], .agg #[.int .i64 b.A, .int .i64 b.B, .int .i64 b.C, .int .i64 b.D, .int .i64 b.E, .int .i64 b.F, .int .i64 b.N]]) (y := .tuple #[.agg #[.int .i64 (Af.thn a b).1.A, .int .i64 (Af.thn a b).1.B, .int .i64 (Af.thn a b).1.C, .int .i64 (Af.thn a b).1.D, .int .i64 (Af.thn a b).1.E, .int .i64 (Af.thn a b).1.F, .int .i64 (Af.thn a b).1.N], .int .i64 (Af.thn a b).2]) rfl rfl n fun x => (thn_any a b x).mono fun e x' h => ⟨h.1, by first | exact h.2 | exact h.2 ▸ Grow.refl _ | exact h.2 ▸ Grow.alloc _ _⟩
theorem enters16 : Enters Try.prog 16 := fun args w => by go_simp
theorem C16 (a : Af)  (n : Nat) : CallOK Try.prog 16 [ag [li a.A, li a.B, li a.C, li a.D, li a.E, li a.F, li a.N]] [] n (.tup [.agg [li (Af.inv a).1.A, li (Af.inv a).1.B, li (Af.inv a).1.C, li (Af.inv a).1.D, li (Af.inv a).1.E, li (Af.inv a).1.F, li (Af.inv a).1.N], .l (.v (.int .i64 (Af.inv a).2))]) [] 0 :=
  call_plain enters16 (vals := [.agg #[.int .i64 a.A, .int .i64 a.B, .int .i64 a.C, .int .i64 a.D, .int .i64 a.E, .int .i64 a.F, .int .i64 a.N]]) (y := .tuple #[.agg #[.int .i64 (Af.inv a).1.A, .int .i64 (Af.inv a).1.B, .int .i64 (Af.inv a).1.C, .int .i64 (Af.inv a).1.D, .int .i64 (Af.inv a).1.E, .int .i64 (Af.inv a).1.F, .int .i64 (Af.inv a).1.N], .int .i64 (Af.inv a).2]) rfl rfl n fun x => (inv_any a x).mono fun e x' h => ⟨h.1, by first | exact h.2 | exact h.2 ▸ Grow.refl _ | exact h.2 ▸ Grow.alloc _ _⟩
theorem enters19 : Enters Try.prog 19 := fun args w => by go_simp
theorem C19 (a : Af) (X Y : Int)  (n : Nat) : CallOK Try.prog 19 [ag [li a.A, li a.B, li a.C, li a.D, li a.E, li a.F, li a.N], ag [li X, li Y]] [] n (.tup [.agg [li (Af.src a X Y).1.1, li (Af.src a X Y).1.2], .l (.v (.int .i64 (Af.src a X Y).2))]) [] 0 :=
  call_plain enters19 (vals := [.agg #[.int .i64 a.A, .int .i64 a.B, .int .i64 a.C, .int .i64 a.D, .int .i64 a.E, .int .i64 a.F, .int .i64 a.N], .agg #[.int .i64 X, .int .i64 Y]]) (y := .tuple #[.agg #[.int .i64 (Af.src a X Y).1.1, .int .i64 (Af.src a X Y).1.2], .int .i64 (Af.src a X Y).2]) rfl rfl n fun x => (Source_any a X Y x).mono fun e x' h => ⟨h.1, by first | exact h.2 | exact h.2 ▸ Grow.refl _ | exact h.2 ▸ Grow.alloc _ _⟩
theorem enters22 : Enters Try.prog 22 := fun args w => by go_simp
theorem C22 (a : Af) (r : Rct.R)  (n : Nat) : CallOK Try.prog 22 [ag [li a.A, li a.B, li a.C, li a.D, li a.E, li a.F, li a.N], ag [li r.x0, li r.y0, li r.x1, li r.y1]] [] n (.tup [.agg [li (ovr a r (Af.bnd a r)).1.x0, li (ovr a r (Af.bnd a r)).1.y0, li (ovr a r (Af.bnd a r)).1.x1, li (ovr a r (Af.bnd a r)).1.y1], .l (.v (.int .i64 (ovr a r (Af.bnd a r)).2))]) [] 0 :=
  call_plain enters22 (vals := [.agg #[.int .i64 a.A, .int .i64 a.B, .int .i64 a.C, .int .i64 a.D, .int .i64 a.E, .int .i64 a.F, .int .i64 a.N], .agg #[.int .i64 r.x0, .int .i64 r.y0, .int .i64 r.x1, .int .i64 r.y1]]) (y := .tuple #[.agg #[.int .i64 (ovr a r (Af.bnd a r)).1.x0, .int .i64 (ovr a r (Af.bnd a r)).1.y0, .int .i64 (ovr a r (Af.bnd a r)).1.x1, .int .i64 (ovr a r (Af.bnd a r)).1.y1], .int .i64 (ovr a r (Af.bnd a r)).2]) rfl rfl n fun x => (Bounds_any a r x).mono fun e x' h => ⟨h.1, by first | exact h.2 | exact h.2 ▸ Grow.refl _ | exact h.2 ▸ Grow.alloc _ _⟩
theorem enters24 : Enters Try.prog 24 := fun args w => by go_simp
theorem C24 (r : Rct.R) (X Y : Int)  (n : Nat) : CallOK Try.prog 24 [ag [li r.x0, li r.y0, li r.x1, li r.y1], ag [li X, li Y]] [] n (bv (Rct.has r X Y)) [] 0 :=
  call_plain enters24 (vals := [.agg #[.int .i64 r.x0, .int .i64 r.y0, .int .i64 r.x1, .int .i64 r.y1], .agg #[.int .i64 X, .int .i64 Y]]) (y := .bool (Rct.has r X Y)) rfl rfl n fun x => (Rct.has_any r.x0 r.y0 r.x1 r.y1 X Y x).mono fun e x' h => ⟨h.1, by first | exact h.2 | exact h.2 ▸ Grow.refl _ | exact h.2 ▸ Grow.alloc _ _⟩
theorem enters25 : Enters Try.prog 25 := fun args w => by go_simp
theorem C25 (X Y : Int)  (n : Nat) : CallOK Try.prog 25 [iv .i64 X, iv .i64 Y] [] n (ag [li 1, li 0, li X, li 0, li 1, li Y, li 1]) [] 0 :=
  call_plain enters25 (vals := [.int .i64 X, .int .i64 Y]) (y := .agg #[.int .i64 1, .int .i64 0, .int .i64 X, .int .i64 0, .int .i64 1, .int .i64 Y, .int .i64 1]) rfl rfl n fun x => (shift_any X Y x).mono fun e x' h => ⟨h.1, by first | exact h.2 | exact h.2 ▸ Grow.refl _ | exact h.2 ▸ Grow.alloc _ _⟩
theorem enters26 : Enters Try.prog 26 := fun args w => by go_simp
theorem C26 (a : Af)  (n : Nat) : CallOK Try.prog 26 [ag [li a.A, li a.B, li a.C, li a.D, li a.E, li a.F, li a.N]] [] n (ag [li (Af.clip a).A, li (Af.clip a).B, li (Af.clip a).C, li (Af.clip a).D, li (Af.clip a).E, li (Af.clip a).F, li (Af.clip a).N]) [] 0 :=
  call_plain enters26 (vals := [.agg #[.int .i64 a.A, .int .i64 a.B, .int .i64 a.C, .int .i64 a.D, .int .i64 a.E, .int .i64 a.F, .int .i64 a.N]]) (y := .agg #[.int .i64 (Af.clip a).A, .int .i64 (Af.clip a).B, .int .i64 (Af.clip a).C, .int .i64 (Af.clip a).D, .int .i64 (Af.clip a).E, .int .i64 (Af.clip a).F, .int .i64 (Af.clip a).N]) rfl rfl n fun x => (clip_any a x).mono fun e x' h => ⟨h.1, by first | exact h.2 | exact h.2 ▸ Grow.refl _ | exact h.2 ▸ Grow.alloc _ _⟩
theorem enters27 : Enters Try.prog 27 := fun args w => by go_simp
theorem C27 (a : Af)  (n : Nat) : CallOK Try.prog 27 [ag [li a.A, li a.B, li a.C, li a.D, li a.E, li a.F, li a.N]] [] n (bv (Af.val a)) [] 0 :=
  call_plain enters27 (vals := [.agg #[.int .i64 a.A, .int .i64 a.B, .int .i64 a.C, .int .i64 a.D, .int .i64 a.E, .int .i64 a.F, .int .i64 a.N]]) (y := .bool (Af.val a)) rfl rfl n fun x => (valid_any a.A a.B a.C a.D a.E a.F a.N x).mono fun e x' h => ⟨h.1, by first | exact h.2 | exact h.2 ▸ Grow.refl _ | exact h.2 ▸ Grow.alloc _ _⟩
theorem enters28 : Enters Try.prog 28 := fun args w => by go_simp
theorem C28 (a : Af)  (n : Nat) : CallOK Try.prog 28 [ag [li a.A, li a.B, li a.C, li a.D, li a.E, li a.F, li a.N]] [] n (ag [li (Af.red a).A, li (Af.red a).B, li (Af.red a).C, li (Af.red a).D, li (Af.red a).E, li (Af.red a).F, li (Af.red a).N]) [] 0 :=
  call_plain enters28 (vals := [.agg #[.int .i64 a.A, .int .i64 a.B, .int .i64 a.C, .int .i64 a.D, .int .i64 a.E, .int .i64 a.F, .int .i64 a.N]]) (y := .agg #[.int .i64 (Af.red a).A, .int .i64 (Af.red a).B, .int .i64 (Af.red a).C, .int .i64 (Af.red a).D, .int .i64 (Af.red a).E, .int .i64 (Af.red a).F, .int .i64 (Af.red a).N]) rfl rfl n fun x => (red_any a x).mono fun e x' h => ⟨h.1, by first | exact h.2 | exact h.2 ▸ Grow.refl _ | exact h.2 ▸ Grow.alloc _ _⟩
theorem enters29 : Enters Try.prog 29 := fun args w => by go_simp
theorem C29   (n : Nat) : CallOK Try.prog 29 [] [] n (ag [li 1, li 0, li 0, li 0, li 1, li 0, li 1]) [] 0 :=
  call_plain enters29 (vals := []) (y := .agg #[.int .i64 1, .int .i64 0, .int .i64 0, .int .i64 0, .int .i64 1, .int .i64 0, .int .i64 1]) rfl rfl n fun x => (identity_any x).mono fun e x' h => ⟨h.1, by first | exact h.2 | exact h.2 ▸ Grow.refl _ | exact h.2 ▸ Grow.alloc _ _⟩
theorem enters13 : Enters Try.prog 13 := fun args w => by go_simp
theorem C13   (n : Nat) : CallOK Try.prog 13 [] [] n (bv true) [] 0 :=
  call_plain enters13 (vals := []) (y := .bool true) rfl rfl n fun x => (sanity_any x).mono fun e x' h => ⟨h.1, by first | exact h.2 | exact h.2 ▸ Grow.refl _ | exact h.2 ▸ Grow.alloc _ _⟩
theorem enters14 : Enters Try.prog 14 := fun args w => by go_simp
theorem C14 (q0 q1 q2 q3 q4 q5 q6 : Int)  (n : Nat) : CallOK Try.prog 14 [ag [li q0, li q1, li q2, li q3, li q4, li q5, li q6]] [] n (ag [li (small q0 q1 q2 q3 q4 q5 q6).A, li (small q0 q1 q2 q3 q4 q5 q6).B, li (small q0 q1 q2 q3 q4 q5 q6).C, li (small q0 q1 q2 q3 q4 q5 q6).D, li (small q0 q1 q2 q3 q4 q5 q6).E, li (small q0 q1 q2 q3 q4 q5 q6).F, li (small q0 q1 q2 q3 q4 q5 q6).N]) [] 0 :=
  call_plain enters14 (vals := [.agg #[.int .i64 q0, .int .i64 q1, .int .i64 q2, .int .i64 q3, .int .i64 q4, .int .i64 q5, .int .i64 q6]]) (y := .agg #[.int .i64 (small q0 q1 q2 q3 q4 q5 q6).A, .int .i64 (small q0 q1 q2 q3 q4 q5 q6).B, .int .i64 (small q0 q1 q2 q3 q4 q5 q6).C, .int .i64 (small q0 q1 q2 q3 q4 q5 q6).D, .int .i64 (small q0 q1 q2 q3 q4 q5 q6).E, .int .i64 (small q0 q1 q2 q3 q4 q5 q6).F, .int .i64 (small q0 q1 q2 q3 q4 q5 q6).N]) rfl rfl n fun x => (small_any q0 q1 q2 q3 q4 q5 q6 x).mono fun e x' h => ⟨h.1, by first | exact h.2 | exact h.2 ▸ Grow.refl _ | exact h.2 ▸ Grow.alloc _ _⟩
theorem enters21 : Enters Try.prog 21 := fun args w => by go_simp
theorem C21 (q0 q1 q2 q3 : Int)  (n : Nat) : CallOK Try.prog 21 [ag [li q0, li q1, li q2, li q3]] [] n (ag [li (Rct.smallR q0 q1 q2 q3).x0, li (Rct.smallR q0 q1 q2 q3).y0, li (Rct.smallR q0 q1 q2 q3).x1, li (Rct.smallR q0 q1 q2 q3).y1]) [] 0 :=
  call_plain enters21 (vals := [.agg #[.int .i64 q0, .int .i64 q1, .int .i64 q2, .int .i64 q3]]) (y := .agg #[.int .i64 (Rct.smallR q0 q1 q2 q3).x0, .int .i64 (Rct.smallR q0 q1 q2 q3).y0, .int .i64 (Rct.smallR q0 q1 q2 q3).x1, .int .i64 (Rct.smallR q0 q1 q2 q3).y1]) rfl rfl n fun x => (Rct.small_any q0 q1 q2 q3 x).mono fun e x' h => ⟨h.1, by first | exact h.2 | exact h.2 ▸ Grow.refl _ | exact h.2 ▸ Grow.alloc _ _⟩
theorem enters23 : Enters Try.prog 23 := fun args w => by go_simp
theorem C23 (X Y : Int) (h : Y ≠ 0) (n : Nat) : CallOK Try.prog 23 [iv .i64 X, iv .i64 Y] [] n (iv .i64 (Rct.rst X Y)) [] 0 :=
  call_plain enters23 (vals := [.int .i64 X, .int .i64 Y]) (y := .int .i64 (Rct.rst X Y)) rfl rfl n fun x => (rest23_any X Y h x).mono fun e x' h => ⟨h.1, by first | exact h.2 | exact h.2 ▸ Grow.refl _ | exact h.2 ▸ Grow.alloc _ _⟩
theorem enters39 : Enters Try.prog 39 := fun args w => by go_simp
theorem C39 (r q : Rct.R)  (n : Nat) : CallOK Try.prog 39 [ag [li r.x0, li r.y0, li r.x1, li r.y1], ag [li q.x0, li q.y0, li q.x1, li q.y1]] [] n (ag [li (Rct.uni r q).x0, li (Rct.uni r q).y0, li (Rct.uni r q).x1, li (Rct.uni r q).y1]) [] 0 :=
  call_plain enters39 (vals := [.agg #[.int .i64 r.x0, .int .i64 r.y0, .int .i64 r.x1, .int .i64 r.y1], .agg #[.int .i64 q.x0, .int .i64 q.y0, .int .i64 q.x1, .int .i64 q.y1]]) (y := .agg #[.int .i64 (Rct.uni r q).x0, .int .i64 (Rct.uni r q).y0, .int .i64 (Rct.uni r q).x1, .int .i64 (Rct.uni r q).y1]) rfl rfl n fun x => (Rct.uni_any r.x0 r.y0 r.x1 r.y1 q.x0 q.y0 q.x1 q.y1 x).mono fun e x' h => ⟨h.1, by first | exact h.2 | exact h.2 ▸ Grow.refl _ | exact h.2 ▸ Grow.alloc _ _⟩
theorem enters68 : Enters Try.prog 68 := fun args w => by go_simp
theorem C68 (r q : Rct.R)  (n : Nat) : CallOK Try.prog 68 [ag [li r.x0, li r.y0, li r.x1, li r.y1], ag [li q.x0, li q.y0, li q.x1, li q.y1]] [] n (ag [li (Rct.uni r q).x0, li (Rct.uni r q).y0, li (Rct.uni r q).x1, li (Rct.uni r q).y1]) [] 0 :=
  call_plain enters68 (vals := [.agg #[.int .i64 r.x0, .int .i64 r.y0, .int .i64 r.x1, .int .i64 r.y1], .agg #[.int .i64 q.x0, .int .i64 q.y0, .int .i64 q.x1, .int .i64 q.y1]]) (y := .agg #[.int .i64 (Rct.uni r q).x0, .int .i64 (Rct.uni r q).y0, .int .i64 (Rct.uni r q).x1, .int .i64 (Rct.uni r q).y1]) rfl rfl n fun x => (Rct.uni_ref r.x0 r.y0 r.x1 r.y1 q.x0 q.y0 q.x1 q.y1 x).mono fun e x' h => ⟨h.1, by first | exact h.2 | exact h.2 ▸ Grow.refl _ | exact h.2 ▸ Grow.alloc _ _⟩
theorem enters71 : Enters Try.prog 71 := fun args w => by go_simp
theorem C71 (r q : Rct.R)  (n : Nat) : CallOK Try.prog 71 [ag [li r.x0, li r.y0, li r.x1, li r.y1], ag [li q.x0, li q.y0, li q.x1, li q.y1]] [] n (ag [li (Rct.inter r q).x0, li (Rct.inter r q).y0, li (Rct.inter r q).x1, li (Rct.inter r q).y1]) [] 0 :=
  call_plain enters71 (vals := [.agg #[.int .i64 r.x0, .int .i64 r.y0, .int .i64 r.x1, .int .i64 r.y1], .agg #[.int .i64 q.x0, .int .i64 q.y0, .int .i64 q.x1, .int .i64 q.y1]]) (y := .agg #[.int .i64 (Rct.inter r q).x0, .int .i64 (Rct.inter r q).y0, .int .i64 (Rct.inter r q).x1, .int .i64 (Rct.inter r q).y1]) rfl rfl n fun x => (Rct.inter_ref r.x0 r.y0 r.x1 r.y1 q.x0 q.y0 q.x1 q.y1 x).mono fun e x' h => ⟨h.1, by first | exact h.2 | exact h.2 ▸ Grow.refl _ | exact h.2 ▸ Grow.alloc _ _⟩
theorem enters40 : Enters Try.prog 40 := fun args w => by go_simp
theorem C40 (r q : Rct.R)  (n : Nat) : CallOK Try.prog 40 [ag [li r.x0, li r.y0, li r.x1, li r.y1], ag [li q.x0, li q.y0, li q.x1, li q.y1]] [] n (bv (Rct.eqr r q)) [] 0 :=
  call_plain enters40 (vals := [.agg #[.int .i64 r.x0, .int .i64 r.y0, .int .i64 r.x1, .int .i64 r.y1], .agg #[.int .i64 q.x0, .int .i64 q.y0, .int .i64 q.x1, .int .i64 q.y1]]) (y := .bool (Rct.eqr r q)) rfl rfl n fun x => (Rct.eqr_any r.x0 r.y0 r.x1 r.y1 q.x0 q.y0 q.x1 q.y1 x).mono fun e x' h => ⟨h.1, by first | exact h.2 | exact h.2 ▸ Grow.refl _ | exact h.2 ▸ Grow.alloc _ _⟩
theorem enters46 : Enters Try.prog 46 := fun args w => by go_simp
theorem C46 (a : Af) (X Y : Int) (hv : a.val = true) (hX : -70000 ≤ X ∧ X ≤ 70000) (hY : -70000 ≤ Y ∧ Y ≤ 70000) (n : Nat) : CallOK Try.prog 46 [ag [li a.A, li a.B, li a.C, li a.D, li a.E, li a.F, li a.N], ag [li X, li Y]] [] n (ag [li (Af.srcX a X Y), li (Af.srcY a X Y)]) [] 0 :=
  call_plain enters46 (vals := [.agg #[.int .i64 a.A, .int .i64 a.B, .int .i64 a.C, .int .i64 a.D, .int .i64 a.E, .int .i64 a.F, .int .i64 a.N], .agg #[.int .i64 X, .int .i64 Y]]) (y := .agg #[.int .i64 (Af.srcX a X Y), .int .i64 (Af.srcY a X Y)]) rfl rfl n fun x => (source_any a hv X Y hX hY x).mono fun e x' h => ⟨h.1, by first | exact h.2 | exact h.2 ▸ Grow.refl _ | exact h.2 ▸ Grow.alloc _ _⟩
theorem enters66 : Enters Try.prog 66 := fun args w => by go_simp
theorem C66 (r : Rct.R)  (n : Nat) : CallOK Try.prog 66 [ag [li r.x0, li r.y0, li r.x1, li r.y1]] [] n (bv (Rct.emp r)) [] 0 :=
  call_plain enters66 (vals := [.agg #[.int .i64 r.x0, .int .i64 r.y0, .int .i64 r.x1, .int .i64 r.y1]]) (y := .bool (Rct.emp r)) rfl rfl n fun x => (Rct.empty_ref r.x0 r.y0 r.x1 r.y1 x).mono fun e x' h => ⟨h.1, by first | exact h.2 | exact h.2 ▸ Grow.refl _ | exact h.2 ▸ Grow.alloc _ _⟩
theorem enters72 : Enters Try.prog 72 := fun args w => by go_simp
theorem C72 (r : Rct.R)  (n : Nat) : CallOK Try.prog 72 [ag [li r.x0, li r.y0, li r.x1, li r.y1]] [] n (bv (Rct.emp r)) [] 0 :=
  call_plain enters72 (vals := [.agg #[.int .i64 r.x0, .int .i64 r.y0, .int .i64 r.x1, .int .i64 r.y1]]) (y := .bool (Rct.emp r)) rfl rfl n fun x => (Rct.empty_any r.x0 r.y0 r.x1 r.y1 x).mono fun e x' h => ⟨h.1, by first | exact h.2 | exact h.2 ▸ Grow.refl _ | exact h.2 ▸ Grow.alloc _ _⟩
theorem enters67 : Enters Try.prog 67 := fun args w => by go_simp
theorem C67 (r : Rct.R)  (n : Nat) : CallOK Try.prog 67 [ag [li r.x0, li r.y0, li r.x1, li r.y1]] [] n (bv (Rct.valid r)) [] 0 :=
  call_plain enters67 (vals := [.agg #[.int .i64 r.x0, .int .i64 r.y0, .int .i64 r.x1, .int .i64 r.y1]]) (y := .bool (Rct.valid r)) rfl rfl n fun x => (Rct.valid_ref r.x0 r.y0 r.x1 r.y1 x).mono fun e x' h => ⟨h.1, by first | exact h.2 | exact h.2 ▸ Grow.refl _ | exact h.2 ▸ Grow.alloc _ _⟩
theorem enters74 : Enters Try.prog 74 := fun args w => by go_simp
theorem C74 (r : Rct.R)  (n : Nat) : CallOK Try.prog 74 [ag [li r.x0, li r.y0, li r.x1, li r.y1]] [] n (bv (Rct.valid r)) [] 0 :=
  call_plain enters74 (vals := [.agg #[.int .i64 r.x0, .int .i64 r.y0, .int .i64 r.x1, .int .i64 r.y1]]) (y := .bool (Rct.valid r)) rfl rfl n fun x => (Rct.valid_any r.x0 r.y0 r.x1 r.y1 x).mono fun e x' h => ⟨h.1, by first | exact h.2 | exact h.2 ▸ Grow.refl _ | exact h.2 ▸ Grow.alloc _ _⟩
theorem enters70 : Enters Try.prog 70 := fun args w => by go_simp
theorem C70 (X Y : Int)  (n : Nat) : CallOK Try.prog 70 [iv .i64 X, iv .i64 Y] [] n (iv .i64 (Rct.flr X Y)) [] 0 :=
  call_plain enters70 (vals := [.int .i64 X, .int .i64 Y]) (y := .int .i64 (Rct.flr X Y)) rfl rfl n fun x => (Rct.floor_ref X Y x).mono fun e x' h => ⟨h.1, by first | exact h.2 | exact h.2 ▸ Grow.refl _ | exact h.2 ▸ Grow.alloc _ _⟩
theorem enters69 : Enters Try.prog 69 := fun args w => by go_simp
theorem C69 (X Y : Int)  (n : Nat) : CallOK Try.prog 69 [iv .i64 X, iv .i64 Y] [] n (iv .i64 (Rct.cel X Y)) [] 0 :=
  call_plain enters69 (vals := [.int .i64 X, .int .i64 Y]) (y := .int .i64 (Rct.cel X Y)) rfl rfl n fun x => (Rct.ceil_ref X Y x).mono fun e x' h => ⟨h.1, by first | exact h.2 | exact h.2 ▸ Grow.refl _ | exact h.2 ▸ Grow.alloc _ _⟩
end Ab
end Go.Proofs.Ytmfmnoajihiidaa
