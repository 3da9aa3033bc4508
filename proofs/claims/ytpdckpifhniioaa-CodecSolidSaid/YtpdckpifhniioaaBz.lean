/- String of a builder that holds nothing. -/
import Derived.Test.YtpdckpifhniioaaBc
set_option linter.unusedVariables false
namespace Go.Proofs.Ytpdckpifhniioaa
open Go.RowKit
namespace Ab
set_option maxRecDepth 100000 in
set_option maxHeartbeats 1000000 in
theorem bstr0 (b : Nat) (p : Value) (w : World) (h1 : w.heap[b]? = some (.cells #[p, .slice none 0 0] 54 (0, 0))) :
    Calls Try.prog 21 #[.pointer (some ⟨b, 0, none⟩)] w fun e w' => e = .returned (.string .empty) ∧ w' = w.drew := by
  have c1 : w.drew.cell? ⟨b, 1, none⟩ = some (.slice none 0 0) := by
    have : w.drew.heap[b]? = some (.cells #[p, .slice none 0 0] 54 (0, 0)) := h1
    rw [Lib.cell_of_heap this]; rfl
  have hSD : (Builtin.unsafeSliceData_ #[46] 105 #[.slice none 0 0]).run Try.prog w.drew = .ok (.pointer none) w.drew := rfl
  have hUS : (Builtin.unsafeString_ #[105, 3] 9 #[.pointer none, .int .i64 0]).run Try.prog w.drew = .ok (.string .empty) w.drew := Lib.run_unsafeString_none _ _ _ _ _
  clear h1
  go_enter Try.func21, Try.ntmps21
  go_wp2
  go_region
  all_goals (go_wp2; go_ret; exact ⟨rfl, rfl⟩)
theorem C54z (id n : Nat) (l0 : Leaf) :
    CallOK Try.prog 21 [.c (.l (.p id 0))] [(id, ⟨[l0, .v (.slice none 0 0)], .e 54⟩)] n (.c (.l (.v (.string .empty)))) [] 0 := by
  refine ⟨enters54, fun β x vals hv hinj hlt hnew hH _ => ?_⟩
  match vals, hv with
  | [y], ⟨⟨b, hb, hy⟩, _⟩ =>
    subst hy
    obtain ⟨y0, y1, h1, d0, d1⟩ := blkE2 (hH id b _ hb (lk_cons_eq _ _ _))
    obtain ⟨d1, _⟩ := d1
    subst d1
    refine (bstr0 b y0 x h1).mono ?_
    rintro e x' ⟨rfl, rfl⟩
    exact ⟨_, β, rfl, done_wr hinj hlt ⟨rfl, rfl⟩ rfl rfl rfl (Nat.le_refl _) (fun k hk hn => rfl) (fun i c k hi hk => by cases hk)⟩
/-- A result that is a nil slice may grow from now on. -/
theorem CallOKd.nil_o {P : Program} {f : Nat} {dc : List (Nat × Nat × Bool)} {args : List SV} {H : List (Nat × Blk)} {n : Nat} (h : CallOKd P f dc args H n (.c (.agg [.v (.slice none 0 0)])) [] 0) (bk : Blk) :
    CallOKd P f dc args H n (.c (.agg [.o n 0])) [(n, bk)] 1 := by
  refine ⟨h.1, fun β x vals ha hi hl hn hb hd => (h.2 β x vals ha hi hl (fun id h1 h2 => by omega) hb hd).mono ?_⟩
  rintro e x' ⟨y, β', rfl, D⟩
  have hnn := hn n (Nat.le_refl _) (by omega)
  have hb0 : ∀ b, β' n ≠ some b := fun b hb => by
    rcases D.new n b hb with h1 | ⟨_, h1, _⟩
    · rw [hnn.1] at h1; cases h1
    · omega
  refine ⟨y, ⟨β'.b, fun i => if i = n then some 0 else β'.c i⟩, rfl, ?_, ⟨D.ext.b, fun i v hv => ?_⟩, fun i b hb => ?_, fun i v hv => ?_, D.inj, D.lt, D.os, D.tape, D.output, D.size, fun k hk _ => D.keep k hk (fun _ _ => rfl), fun i b k hb hk => ?_⟩
  · obtain ⟨ys, e1, hd1⟩ := D.den
    refine ⟨ys, e1, ?_⟩
    match ys, hd1 with
    | [z], ⟨h1, _⟩ => exact ⟨.inl ⟨rfl, if_pos rfl, h1.1⟩, trivial⟩
  · show (if i = n then some 0 else β'.c i) = some v
    by_cases e1 : i = n
    · subst e1; rw [hnn.2] at hv; cases hv
    · rw [if_neg e1]; exact D.ext.c i v hv
  · rcases D.new i b hb with h1 | ⟨h1, h2, h3⟩
    · exact .inl h1
    · omega
  · by_cases e1 : i = n
    · exact .inr (by omega)
    · have hv : (if i = n then some 0 else β'.c i) = some v := hv
      rw [if_neg e1] at hv
      rcases D.newc i v hv with h1 | ⟨h1, h2⟩
      · exact .inl h1
      · omega
  · obtain ⟨rfl, rfl⟩ := lk_one hk
    exact absurd hb (hb0 b)
end Ab
end Go.Proofs.Ytpdckpifhniioaa
