/- Walks of layer 1: the laws' common part (the chapter's examples) returns true. -/
import Derived.Test.YtcanmfkocbnbfaaF
import Derived.Lib.SlBytesConst
import Derived.Deep.RegionWith
namespace Go.Proofs.Ytcanmfkocbnbfaa
open Go.RowKit

theorem ex_put : (⟨(M.be (sz 2) (u64 258)).toArray⟩ : ByteArray) = ⟨#[1, 2]⟩ := by rfl
theorem ex_var : (⟨(M.leb (u64 300)).toArray⟩ : ByteArray) = ⟨#[172, 2]⟩ := by
  have : M.leb (u64 300) = [172, 2] := by
    rw [show u64 300 = 300 from rfl, M.leb_large 300 (by omega), M.leb_small _ (by omega)]; rfl
  rw [this]
theorem ex_text : (⟨(txt ⟨#[97, 98]⟩).toArray⟩ : ByteArray) = ⟨#[2, 97, 98]⟩ := by
  have : txt ⟨#[97, 98]⟩ = [2, 97, 98] := by
    unfold txt
    rw [show (⟨#[97, 98]⟩ : ByteArray).size = 2 from rfl, M.leb_small _ (by omega)]; rfl
  rw [this]
theorem ex_sum0 : M.sum (⟨#[]⟩ : ByteArray).data.toList = 0 := by decide +kernel
theorem ex_sum9 : M.sum (⟨#[49, 50, 51, 52, 53, 54, 55, 56, 57]⟩ : ByteArray).data.toList = 3421780262 := by decide +kernel
theorem ex_rvar : varRes ⟨#[128, 0]⟩ 0 false = (0, 0, true) := by rfl

theorem conv_in (g : Nat) (w : World) (h : w.heap[g]? = some (.cells #[.int .u8 172, .int .u8 2] 5 (0, 0))) : (convert 35 9 (.slice (some ⟨g, 0, none⟩) 2 2)).run Try.prog w = .ok (.string ⟨#[172, 2]⟩) w :=
  conv_row (P := Try.prog) w 35 9 5 Try.underlying35 Try.underlying5 Try.underlying9 g 5 (0,0) #[.int .u8 172, .int .u8 2] h 0 2 2 [172, 2] rfl (by intro j hj; match j, hj with | 0, _ => rfl | 1, _ => rfl)
theorem conv_new (w : World) : (convert 35 9 (.slice (some ⟨w.heap.size, 0, none⟩) 2 2)).run Try.prog (w.alloc (.cells #[.int .u8 172, .int .u8 2] 5)) = .ok (.string ⟨#[172, 2]⟩) (w.alloc (.cells #[.int .u8 172, .int .u8 2] 5)) :=
  conv_in _ _ (heap_alloc_new _ _)
theorem conv_new_drew (w : World) : (convert 35 9 (.slice (some ⟨w.heap.size, 0, none⟩) 2 2)).run Try.prog (w.alloc (.cells #[.int .u8 172, .int .u8 2] 5)).drew = .ok (.string ⟨#[172, 2]⟩) (w.alloc (.cells #[.int .u8 172, .int .u8 2] 5)).drew :=
  conv_in _ _ (heap_alloc_new _ _)

theorem p_ex (w : World) : Calls Try.prog 14 #[.int .i64 258, .int .i64 2] w fun e w' => e = .returned (.string ⟨#[1, 2]⟩) ∧ Below w.heap.size w w' := by
  have h := put_any 258 2 w
  rwa [ex_put] at h
theorem v_ex (w : World) : Calls Try.prog 16 #[.int .i64 300] w fun e w' => e = .returned (.string ⟨#[172, 2]⟩) ∧ Below w.heap.size w w' := by
  have h := var_any 300 w
  rwa [ex_var] at h
theorem t_ex (w : World) : Calls Try.prog 18 #[.string ⟨#[97, 98]⟩] w fun e w' => e = .returned (.string ⟨#[2, 97, 98]⟩) ∧ Below w.heap.size w w' := by
  have h := text_any ⟨#[97, 98]⟩ w (by decide)
  rwa [ex_text] at h
theorem s0_ex (w : World) : Calls Try.prog 20 #[.string ⟨#[]⟩] w fun e w' => e = .returned (.int .u32 0) ∧ Below w.heap.size w w' := by
  have h := sum_any ⟨#[]⟩ w (by decide)
  rwa [ex_sum0] at h
theorem s9_ex (w : World) : Calls Try.prog 20 #[.string ⟨#[49, 50, 51, 52, 53, 54, 55, 56, 57]⟩] w fun e w' => e = .returned (.int .u32 3421780262) ∧ Below w.heap.size w w' := by
  have h := sum_any ⟨#[49, 50, 51, 52, 53, 54, 55, 56, 57]⟩ w (by decide)
  rwa [ex_sum9] at h

def Sx (w w' : World) : Prop := Rd 48 (w.heap.size + 1) ⟨#[128, 0]⟩ 0 true w' ∧ Below w.heap.size w w'
theorem Sx.rd {w w1 : World} (h : Sx w w1) : Rd 48 (w.heap.size + 1) ⟨#[128, 0]⟩ 0 true w1 := h.1
theorem Sx.keep {w w1 w2 : World} (h : Sx w w1) (hb : Below w1.heap.size w1 w2) : Sx w w2 :=
  ⟨by
    have h1 := h.1
    unfold Rd at h1 ⊢
    rw [hb.block _ (by
      rcases Nat.lt_or_ge (w.heap.size + 1) w1.heap.size with h | h
      · exact h
      · rw [Array.getElem?_eq_none h] at h1; simp at h1)]
    exact h1, h.2.trans (hb.mono h.2.size)⟩
theorem Sx.bl {w w1 : World} (h : Sx w w1) : Below w.heap.size w w1 := h.2
theorem conv_keep {w w1 : World} (h : Below (w.alloc (.cells #[.int .u8 172, .int .u8 2] 5)).heap.size (w.alloc (.cells #[.int .u8 172, .int .u8 2] 5)) w1) :
    (convert 35 9 (.slice (some ⟨w.heap.size, 0, none⟩) 2 2)).run Try.prog w1 = .ok (.string ⟨#[172, 2]⟩) w1 :=
  conv_in _ _ (by rw [h.block _ (by rw [World.size_alloc]; omega)]; exact heap_alloc_new _ _)
theorem Sx.alloc {w w1 : World} (h : Sx w w1) (o : Obj) : Sx w (w1.alloc o) := h.keep ((Below.refl _ _).alloc (Nat.le_refl _) o)
theorem Sx.drew {w w1 : World} (h : Sx w w1) : Sx w w1.drew := h.keep ((Below.refl _ _).drew)

set_option maxRecDepth 100000 in
set_option maxHeartbeats 8000000 in
theorem sanity_any (w : World) :
    Calls Try.prog 13 #[] w fun e w' => e = .returned (.bool true) ∧ Below w.heap.size w w' := by
  go_enter Try.func13, Try.ntmps13
  go_wp2_with fail
  rw [conv_row (P := Try.prog) _ 35 9 5 Try.underlying35 Try.underlying5 Try.underlying9 w.heap.size 5 (0,0) #[.int .u8 128, .int .u8 0] (heap_alloc_new _ _) 0 2 2 [128, 0] rfl (by intro j hj; match j, hj with | 0, _ => rfl | 1, _ => rfl)]
  go_wp2_with fail
  refine (read_any _ _).mono ?_
  rintro e w1 ⟨rfl, hw1⟩
  have hR : Rd 48 (w.heap.size + 1) ⟨#[128, 0]⟩ 0 false w1 := by
    subst hw1
    exact heap_alloc2_new _ _ _
  have hB : Below w.heap.size w w1 := by
    subst hw1
    exact ((Below.refl _ _).alloc (Nat.le_refl _) _).alloc (by rw [World.size_alloc]; omega) _
  clear hw1
  go_wp2_with fail
  refine (rvar_any (w.heap.size + 1) ⟨#[128, 0]⟩ 0 false _ hR (by decide) (by decide)).mono ?_
  rw [ex_rvar]
  rintro e w2 ⟨rfl, hg2, hR2⟩
  have hB2 : Below w.heap.size w w2 := hB.grown hg2 hB.size (fun k hk => by simp at hk; omega)
  clear hB hR hg2
  go_wp2_with fail
  have hcv1 := conv_new
  have hcv2 := conv_new_drew
  have hS : Sx w w2 := ⟨hR2, hB2⟩
  have hS0 : Sx w w2.drew := hS.drew
  clear hR2 hB2
  go_region_with (first
    | (go_at_call 14; refine (p_ex _).mono ?_; rintro e wA ⟨rfl, hA⟩; have hS1 := Sx.keep (by assumption) hA)
    | (go_at_call 16; refine (v_ex _).mono ?_; rintro e wB ⟨rfl, hC⟩; have hcv3 := conv_keep hC; have hS2 := Sx.keep (by first | assumption | exact Sx.alloc (by assumption) _) hC)
    | (go_at_call 16; refine (v_ex _).mono ?_; rintro e wB ⟨rfl, hC⟩; have hS2 := Sx.keep (by first | assumption | exact Sx.alloc (by assumption) _) hC)
    | (go_at_call 18; refine (t_ex _).mono ?_; rintro e wC ⟨rfl, hD⟩; have hS3 := Sx.keep (by first | assumption | exact Sx.alloc (by assumption) _) hD)
    | (go_at_call_of 20 (Value.string ⟨#[]⟩); refine (s0_ex _).mono ?_; rintro e wD ⟨rfl, hE⟩; have hS4 := Sx.keep (by assumption) hE)
    | (go_at_call 20; refine (s9_ex _).mono ?_; rintro e wE ⟨rfl, hF⟩; have hS5 := Sx.keep (by assumption) hF)
    | (go_at_call 24; refine (failed_any (w.heap.size + 1) ⟨#[128, 0]⟩ 0 true _ (Sx.rd (by assumption))).mono ?_; rintro e wF ⟨rfl, rfl⟩)
    | (go_at_call 25; refine (at_any (w.heap.size + 1) ⟨#[128, 0]⟩ 0 true _ (Sx.rd (by assumption))).mono ?_; rintro e wG ⟨rfl, rfl⟩))
  all_goals
    go_wp2_with fail
    go_ret
    exact ⟨rfl, Sx.bl (by assumption)⟩
end Go.Proofs.Ytcanmfkocbnbfaa
