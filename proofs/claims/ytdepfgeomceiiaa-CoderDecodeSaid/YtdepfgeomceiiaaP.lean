/- Walks of Used and of the reference's mid. -/
import Derived.Test.YtdepfgeomceiiaaO
set_option linter.unusedVariables false
namespace Go.Proofs.Ytdepfgeomceiiaa
open Go.RowKit
set_option maxRecDepth 100000 in
theorem used_any (g : Nat) (f : ByteArray) (n : Nat) (C : Nat → Value) (w : World) (hB : Blk w g 70 261 C) (hC : C 259 = .int .i64 (n : Int)) : Calls Try.prog 27 #[.pointer (some ⟨g, 0, none⟩)] w fun e w' => e = .returned (.int .i64 ((n + (4 - n) : Nat) : Int)) ∧ w = w' := by
  have c9 : w.cell? ⟨g, 259, none⟩ = some (.int .i64 (n : Int)) := by rw [hB.cell 259 (by omega), hC]
  clear hB hC
  by_cases h : n < 4
  · have hr : ((n + (4 - n) : Nat) : Int) = 4 := by omega
    rw [hr]
    have h' : (n : Int) < 4 := by omega
    go_enter Try.func27, Try.ntmps27
    go_wp2
    go_ret
    exact ⟨ret_int (by omega), rfl⟩
  · have hr : ((n + (4 - n) : Nat) : Int) = n := by omega
    rw [hr]
    have h' : ¬ (n : Int) < 4 := by omega
    go_enter Try.func27, Try.ntmps27
    go_wp2
    go_ret
    exact ⟨ret_int (by omega), rfl⟩
theorem run_ia53 {o : Oper} {ρ : Operand → Value} {x : World} {y z : Operand} (g k : Nat) (ho : o.op = .indexAddr 53 y z) (hy : ρ y = .pointer (some ⟨g, 0, none⟩)) (hz : ρ z = .int .i64 (k : Int)) (hk : k < 256) : (execOp ρ o).run Try.prog x = .ok (.value (.pointer (some ⟨g, k, none⟩))) x := by
  have hk2 : (k : Int) < 256 := by omega
  unfold execOp; rw [ho]; simp only [hy, hz]; go_simp
set_option maxRecDepth 100000 in
set_option maxHeartbeats 1000000 in
theorem rmid_any (g : Nat) (s : M.St) (hs : M.Ok s) (c : Int) (w : World) (hp : w.cell? ⟨g, cx c, none⟩ = some (.int .i64 (s.p (cx c)))) (hl : w.cell? ⟨g, 256, none⟩ = some (.int .u32 s.lo)) (he : w.cell? ⟨g, 257, none⟩ = some (.int .u32 s.hi)) :
    Calls Try.prog 43 #[.pointer (some ⟨g, 0, none⟩), .int .i64 c] w fun e w' => e = .returned (.int .u32 (M.md s (cx c))) ∧ ∃ n, w' = w.drewN n := by
  obtain ⟨p1, p2⟩ := hs.p (cx c)
  obtain ⟨m1, m2⟩ := M.md_bd hs (cx c)
  have l0 := hs.lo
  have le := hs.le
  have l1 := hs.hi
  have hm : M.md s (cx c) = s.lo + (s.hi - s.lo) / 4096 * s.p (cx c) := rfl
  rw [hm]
  clear hm
  have ha := and_255 c
  rw [← cx_val] at ha
  have hk := cx_lt c
  clear hs
  go_enter Try.func43, Try.ntmps43
  go_upto_region 1 with fail
  refine q_region (C := fun x => ∃ n, x = w.drewN n) (by kernel_rfl) (by kernel_rfl) ⟨1, rfl⟩ ?_
  repeat (first
    | go_big_quiet_skip
    | (go_big_quiet_want; refine q_val ?_; apply Exists.intro; refine ⟨fun x hx => ?_, ?_⟩; (focus (obtain ⟨n, rfl⟩ := hx; first | exact run_ia53 g (cx c) rfl rfl rfl hk | (go_simp <;> rfl))); simp only [Act.put, List.setIfInBounds_toArray, List.set_cons_zero, List.set_cons_succ]; go_big_quiet_on))
  refine wpQuiet_nil ?_
  rintro x ⟨n, rfl⟩
  go_wp2
  go_ret
  refine ⟨ret_int ?_, n, rfl⟩
  have e1 : (s.hi - s.lo).tdiv 4096 = (s.hi - s.lo) / 4096 := Int.tdiv_eq_ediv_of_nonneg (by omega)
  have e2 : 0 ≤ (s.hi - s.lo) / 4096 ∧ (s.hi - s.lo) / 4096 ≤ 4294967295 := by omega

  show IntKind.u32.wrap (s.lo + IntKind.u32.wrap (IntKind.u32.wrap ((IntKind.u32.wrap (s.hi - s.lo)).tdiv 4096) * IntKind.u32.wrap (s.p (cx c)))) = _
  rw [w32 (s.p (cx c)) (by omega) (by omega), w32 (s.hi - s.lo) (by omega) (by omega), e1, w32 ((s.hi - s.lo) / 4096) (by omega) (by omega), w32 ((s.hi - s.lo) / 4096 * s.p (cx c)) (by omega) (by omega), w32 _ (by omega) (by omega)]
end Go.Proofs.Ytdepfgeomceiiaa
