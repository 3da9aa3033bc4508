/- Two writers side by side; the contexts exchanged one to one. -/
import Derived.Test.YtdepfgeomceiiaaLV
set_option linter.unusedVariables false
namespace Go.Proofs.Ytdepfgeomceiiaa
open Go.RowKit
/-- Two writers that share nothing. -/
structure W2 (B ga gb : Nat) (sa : M.St) (la : List UInt8) (sb : M.St) (lb : List UInt8) (w : World) : Prop where
  ex : ∃ ro ro', WS B ga ro sa la w ∧ WS B gb ro' sb lb w ∧ (∀ k, ro = some k → ro' ≠ some k)
  ne : ga ≠ gb
theorem W2.swap {B ga gb sa la sb lb w} (h : W2 B ga gb sa la sb lb w) : W2 B gb ga sb lb sa la w := by
  obtain ⟨ro, ro', h1, h2, h3⟩ := h.ex
  exact ⟨⟨ro', ro, h2, h1, fun k e e' => h3 k e' e⟩, Ne.symm h.ne⟩
theorem W2.grow {B ga gb sa la sb lb w w'} (h : W2 B ga gb sa la sb lb w) (hg : Grow w w') : W2 B ga gb sa la sb lb w' := by
  obtain ⟨ro, ro', h1, h2, h3⟩ := h.ex
  exact ⟨⟨ro, ro', h1.grow hg, h2.grow hg, h3⟩, h.ne⟩
theorem W2.chg {B ga gb sa la sb lb w w' sa' la' ro1 ro} (h2 : ∃ ro', WS B gb ro' sb lb w ∧ (∀ k, ro = some k → ro' ≠ some k)) (hne : ga ≠ gb) (h1 : WS B ga ro sa la w) (h1' : WS B ga ro1 sa' la' w') (hn : Nxt ro ro1 w) (hc : Chg ga ro w w') : W2 B ga gb sa' la' sb lb w' := by
  obtain ⟨ro', h2, h3⟩ := h2
  obtain ⟨X, x1, x2, x3⟩ := h1.ex
  obtain ⟨Y, y1, y2, y3⟩ := h2.ex
  have n1 : some gb ≠ ro := by rw [← x3]; exact row_ne x2 y1 (by decide)
  have n2 : some ga ≠ ro' := by rw [← y3]; exact row_ne y2 x1 (by decide)
  refine ⟨⟨ro1, ro', h1', h2.keep hc (Ne.symm hne) n1 (fun k e => ⟨fun e' => n2 (by rw [← e', e]), fun e' => h3 k e'.symm e⟩), ?_⟩, hne⟩
  intro k e e'
  rcases hn with hn | ⟨k', hn, hk⟩
  · exact h3 k (by rw [← hn]; exact e) e'
  · rw [hn] at e
    have e := Option.some.inj e
    have := (h2.ro_ge k e').2
    omega
theorem W2.bit {B ga gb sa la sb lb w} (h : W2 B ga gb sa la sb lb w) (c b : Int) (hl : la.length + 4 ≤ 100000000) :
    Calls Try.prog 21 #[.pointer (some ⟨ga, 0, none⟩), .int .i64 c, .int .i64 b] w fun e w' => e = .returned (.tuple #[]) ∧ W2 B ga gb (M.nxt sa (cx c) (b % 2)) (la ++ M.outB sa (cx c) (b % 2)) sb lb w' ∧ ∃ ro, Chg ga ro w w' ∧ Below B w w' := by
  obtain ⟨ro, ro', h1, h2, h3⟩ := h.ex
  refine (bit_ws h1 c b hl).mono ?_
  rintro e w' ⟨rfl, ro1, k1, k2, k3⟩
  exact ⟨rfl, W2.chg ⟨ro', h2, h3⟩ h.ne h1 k1 k2 k3, ro, k3, h1.below k3⟩
theorem W2.left {B ga gb sa la sb lb w} (h : W2 B ga gb sa la sb lb w) : ∃ ro, WS B ga ro sa la w := by
  obtain ⟨ro, ro', h1, h2, h3⟩ := h.ex
  exact ⟨ro, h1⟩
/-- The other writer's contexts and bits, as the program reckons them. -/
def kx (K : Nat → Int) (b0 ad : Int) (i : Nat) : Int := IntKind.i64.wrap ((IntKind.i64.wrap ((K i) * (IntKind.i64.wrap ((IntKind.i64.wrap ((2) * (b0))) + (1))))) + (ad))
def nx (N : Nat → Int) (ad : Int) (i : Nat) : Int := IntKind.i64.wrap ((N i) + (IntKind.i64.wrap ((2) * (ad))))
theorem wrap_mod (x : Int) : IntKind.i64.wrap x % 256 = x % 256 := by rw [IntKind.wrap_i64]; omega
theorem wrap_mod2 (x : Int) : IntKind.i64.wrap x % 2 = x % 2 := by rw [IntKind.wrap_i64]; omega
theorem kx_cx (K : Nat → Int) (b0 ad : Int) (i : Nat) : cx (kx K b0 ad i) = M.sg b0 ad (cx (K i)) := by
  unfold cx
  refine M.sg_mod b0 ad (K i) _ ?_
  unfold kx
  rw [wrap_mod]
  have h1 : ∀ x y : Int, (IntKind.i64.wrap x + y) % 256 = (x + y) % 256 := fun x y => by
    have := wrap_mod x; omega
  rw [h1]
  have h2 : IntKind.i64.wrap (IntKind.i64.wrap (2 * b0) + 1) % 256 = (2 * b0 + 1) % 256 := by rw [wrap_mod, h1]
  have h3 : (K i * IntKind.i64.wrap (IntKind.i64.wrap (2 * b0) + 1)) % 256 = (K i * (2 * b0 + 1)) % 256 := by
    rw [Int.mul_emod, h2, ← Int.mul_emod]
  omega
theorem nx_mod (N : Nat → Int) (ad : Int) (i : Nat) : nx N ad i % 2 = N i % 2 := by
  unfold nx
  rw [wrap_mod2]
  have := wrap_mod2 (2 * ad)
  omega
theorem sq_ren (K N : Nat → Int) (b0 ad : Int) (i j : Nat) : sq (kx K b0 ad) (nx N ad) i j = (sq K N i j).map fun x => (M.sg b0 ad x.1, x.2) := by
  unfold sq
  rw [List.map_map]
  refine List.map_congr_left fun t _ => ?_
  show (cx (kx K b0 ad t), nx N ad t % 2) = (M.sg b0 ad (cx (K t)), N t % 2)
  rw [kx_cx, nx_mod]
theorem cd_ren (K N : Nat → Int) (b0 ad : Int) (m : Nat) : cd (kx K b0 ad) (nx N ad) m = cd K N m := by
  unfold cd
  rw [sq_ren, M.code_ren (M.sg_inj b0 ad) _ (sq_lt K N 0 m)]
/-- After i and j bits of two writers. -/
structure L2 (K N K' N' : Nat → Int) (W : World) (ga gb i j : Nat) (w : World) : Prop where
  w2 : W2 W.heap.size ga gb (M.runS M.start (sq K N 0 i)) (M.runO M.start (sq K N 0 i)) (M.runS M.start (sq K' N' 0 j)) (M.runO M.start (sq K' N' 0 j)) w
  below : Below W.heap.size W w
theorem L2.swap {K N K' N' W ga gb i j w} (h : L2 K N K' N' W ga gb i j w) : L2 K' N' K N W gb ga j i w := ⟨h.w2.swap, h.below⟩
theorem L2.grow {K N K' N' W ga gb i j w w'} (h : L2 K N K' N' W ga gb i j w) (hg : Grow w w') : L2 K N K' N' W ga gb i j w' := ⟨h.w2.grow hg, below_grow h.below h.below.size hg⟩
theorem L2.bit {K N K' N' W ga gb i j w} (h : L2 K N K' N' W ga gb i j w) (hi : i ≤ 1000) : Calls Try.prog 21 #[.pointer (some ⟨ga, 0, none⟩), .int .i64 (K i), .int .i64 (N i)] w.drew fun e x' => e = .returned (.tuple #[]) ∧ L2 K N K' N' W ga gb (i + 1) j x' := by
  have hl := runO_sq_len K N i
  refine ((h.grow (Grow.drew w)).w2.bit (K i) (N i) (by omega)).mono ?_
  rintro e x ⟨rfl, k1, ro, _, k2⟩
  refine ⟨rfl, ?_, (h.grow (Grow.drew w)).below.trans k2⟩
  rw [runS_succ, runO_succ]; exact k1
theorem L2.lw {K N K' N' W ga gb i j w} (h : L2 K N K' N' W ga gb i j w) : LW K N W ga i w := ⟨h.w2.left, h.below⟩
end Go.Proofs.Ytdepfgeomceiiaa
