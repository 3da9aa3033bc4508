/- Walks of layer 1: Var and Text, the program's and the reference's. -/
import Derived.Test.YtcanmfkocbnbfaaA
namespace Go.Proofs.Ytcanmfkocbnbfaa
open Go.RowKit

theorem Try.info5 : (Try.prog.info? 5).map (fun i => (i.zero, i.size, i.bytes)) = some (some (.int .u8 0), 1, 1) := by kernel_rfl

theorem or128_nat : ∀ x : Fin 256, (x.val ||| 128) = x.val % 128 + 128 := by decide +kernel
theorem or128 (r : Nat) : bits .or .u8 ((r : Int) % 256) 128 = ((UInt8.ofNat (r % 128 + 128)).toNat : Int) := by
  have h := u8_or_nat (r % 256) 128 (by omega) (by omega)
  have h2 := or128_nat ⟨r % 256, by omega⟩
  simp only at h2
  rw [h2] at h
  rw [show ((r % 256 : Nat) : Int) = (r : Int) % 256 by omega, show ((128 : Nat) : Int) = 128 from rfl] at h
  rw [h]
  simp
  omega
theorem byte_small (r : Nat) (h : r < 128) : ((r : Nat) : Int) = ((UInt8.ofNat r).toNat : Int) := by simp; omega

theorem vown {w : World} {base : Nat} {v : Value} {n : Nat} {l : List UInt8} {x : Int} {b : UInt8} (h : w.ownsRow base 5 1 v (n + 1) (bvals l ++ [.int .u8 x])) (e : x = (b.toNat : Int)) (hn : l.length = n) :
    w.ownsRow base 5 1 v (l ++ [b]).length (bvals (l ++ [b])) := by
  subst e hn
  rw [bvals_append, List.length_append]
  exact h

set_option maxRecDepth 100000 in
set_option maxHeartbeats 400000 in
theorem var_any (n : Int) (w : World) :
    Calls Try.prog 16 #[.int .i64 n] w fun e w' => e = .returned (.string ⟨(M.leb (u64 n)).toArray⟩) ∧ Below w.heap.size w w' := by
  have hu := u64_eq n
  have hul := u64_lt n
  have hll := M.leb_le _ hul
  go_enter Try.func16, Try.ntmps16
  go_wp2_with fail
  go_loopw [3, 4] (fun v u wr => ∃ (l : List UInt8) (r : Nat), u = .int .u64 (r : Int) ∧ Hid (r < 18446744073709551616) ∧ Hid (M.leb (u64 n) = l ++ M.leb r) ∧ wr.ownsRow w.heap.size 5 1 v l.length (bvals l) ∧ Below w.heap.size w wr)
    (fun _ u _ => (intOf u).toNat)
  case atStart => exact ⟨[], u64 n, rfl, hul, rfl, World.ownsRow_nil _ _ _ _, Below.refl _ _⟩
  case round =>
    obtain ⟨l, r, rfl, hr, HL, hown, hb⟩ := hrel
    clear hu hul
    have hlen : l.length + (M.leb r).length ≤ 10 := by rw [← List.length_append, ← HL.out]; exact hll
    have hpos := M.leb_pos r
    have hsz := hb.size
    clear hll
    go_wp2_with (at_builtin; refine wp_push _ rfl _ _ 35 5 rfl Try.underlying35 (.int .u8 0) 1 Try.info5 rfl w.heap.size _ _ _ rfl hown _ _ rfl rfl (by omega) (by omega) hsz ?_)
    · intro v' w' hown' hne hb' hsz'
      have hge : 128 ≤ (r : Int) := by assumption
      have hown2 := vown hown' (or128 r) rfl
      clear hown' hown
      go_wp2_with fail
      go_roundw
      case rel => exact ⟨_, r / 128, by go_num, (show r / 128 < 18446744073709551616 by have := hr.out; omega), (show M.leb (u64 n) = _ by rw [HL.out, M.leb_large r (by omega), List.append_assoc]; rfl), hown2, hb.trans hb'⟩
      case measure => simp [intOf]; omega
    · intro v' w' hown' hne hb' hsz'
      have hge : (r : Int) < 128 := by assumption
      have hown2 := vown hown' (byte_small r (by omega)) rfl
      have hc := conv_own (P := Try.prog) w' 35 9 5 Try.underlying35 Try.underlying5 Try.underlying9 _ _ _ _ hown2
      have hfin : M.leb (u64 n) = l ++ [UInt8.ofNat r] := by rw [HL.out, M.leb_small r (by omega)]
      have HF := Lib.hid hfin
      clear hown' hown hfin
      go_wp2_with fail
      go_ret
      exact ⟨by rw [HF.out]; rfl, hb.trans hb'⟩
end Go.Proofs.Ytcanmfkocbnbfaa
