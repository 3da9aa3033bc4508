/- Walks of layer 3 (rect): Tiles, and the law's collection of its first n tiles. -/
import Derived.Test.YtplnhmfkflnhpaaV
set_option linter.unusedVariables false
namespace Go.Proofs.Ytplnhmfkflnhpaa
open Go.RowKit Go.Shelf
attribute [local go_sem] Oper.semAt_some
theorem Tiles_in (F : Fence) (n : Nat) (h5 : F.fn 44) (hro : F.round = none) (r : R) (w : World) :
    CallsIn F n Try.prog 44 #[.agg #[.int .i64 r.x0, .int .i64 r.y0, .int .i64 r.x1, .int .i64 r.y1]] w fun e w' => e = .returned (.func (.func 61) #[] #[.pointer (some ⟨w.heap.size, 0, none⟩)]) ∧ w' = w.alloc (.cells #[.int .i64 r.x0, .int .i64 r.y0, .int .i64 r.x1, .int .i64 r.y1] 26) := by
  refine callsIn_of_wp Try.func44 rfl h5 ?_ hro
  simp only [Try.ntmps44, List.size_toArray, List.length_cons, List.length_nil, Nat.reduceAdd, Nat.reduceSub, Array.replicate_succ, Array.replicate_zero, List.push_toArray, List.append_toArray, List.nil_append, List.cons_append]
  gi_wp2
  go_ret
  exact ⟨rfl, rfl⟩
theorem tiles_stops (n : Nat) (hn : 1 ≤ n) (b1 BO : Nat) (r : R) (hok : Okr r) (w : World) (hA : BoxR w b1 r) (hBO : BO < w.heap.size) (hO : own BO w = none) :
    SeqStopsK Fence.wide n Try.prog 61 #[.pointer (some ⟨b1, 0, none⟩)] (fun x : Int × Int => #[.agg #[.int .i64 x.1, .int .i64 x.2]]) (Gro BO) (fun ys => ys = tilesL r) (fun pre => pre <+: tilesL r) (tilesL r).length w := fun l J Jx W hW hJ _ hY h0 =>
  tiles1_in n hn l b1 BO r hok J Jx hY W (hA.below hA.lt hW) (Nat.lt_of_lt_of_le hBO hW.size) (by rw [← hO]; unfold own; rw [World.cell?_of_block (a := ⟨BO, 0, none⟩) (hW.block BO hBO)]) hJ h0
end Go.Proofs.Ytplnhmfkflnhpaa
