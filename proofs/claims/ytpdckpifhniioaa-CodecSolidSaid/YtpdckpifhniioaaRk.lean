/- Contracts of the reader's methods on abstract values, from their walks. -/
import Derived.Test.YtpdckpifhniioaaOc2
import Derived.Test.YtpdckpifhniioaaX
set_option linter.unusedVariables false
namespace Go.Proofs.Ytpdckpifhniioaa
open Go.RowKit
namespace Ab
/-- A reader's block. -/
abbrev rdB (s : ByteArray) (p : Nat) (f : Bool) : Blk := ⟨[.v (.string s), .v (.int .i64 (p : Int)), .v (.bool f)], 112⟩
theorem rd_of {β : Bt} {x : World} {b : Nat} {s : ByteArray} {p : Nat} {f : Bool} (h : BlkAt β x b (rdB s p f)) : Oct.Rd 112 b s p f x := by
  rcases h with (⟨h, _⟩ | ⟨h, _⟩) | ⟨ys, zs, h1, h2, _⟩
  · cases h
  · cases h
  have : ys = [.string s, .int .i64 (p : Int), .bool f] := (plLs_iff (ys := [.string s, .int .i64 (p : Int), .bool f]) rfl β ys).1 h2
  subst this
  exact ⟨zs, h1⟩
theorem of_rd {β : Bt} {x : World} {b : Nat} {s : ByteArray} {p : Nat} {f : Bool} (h : Oct.Rd 112 b s p f x) : BlkAt β x b (rdB s p f) := by
  obtain ⟨zs, h⟩ := h
  exact .inr ⟨_, zs, h, ⟨⟨rfl, rfl⟩, ⟨rfl, rfl⟩, ⟨rfl, rfl⟩, trivial⟩, trivial⟩
/-- A method that moves one reader. -/
theorem reader_ok {F id n : Nat} (hent : Enters Try.prog F) {s : ByteArray} {p p' : Nat} {f f' : Bool} {ar : List SV} {vals : List Value} {v : SV} {y : Value} (ha : pls ar = some vals) (hv : v.pl = some y)
    (h : ∀ b w, Oct.Rd 112 b s p f w → Calls Try.prog F (.pointer (some ⟨b, 0, none⟩) :: vals).toArray w fun e w' => e = .returned y ∧ w.grownBy w' (some b) ∧ Oct.Rd 112 b s p' f' w') :
    CallOK Try.prog F (.c (.l (.p id 0)) :: ar) [(id, rdB s p f)] n v [(id, rdB s p' f')] 0 := by
  refine ⟨hent, fun β x vs hvs hinj hlt hnew hH _ => ?_⟩
  match vs, hvs with
  | q :: vs, ⟨hq, hr⟩ =>
    obtain ⟨b, hb, rfl⟩ := hq
    have hvs := (pls_iff ha β vs).1 hr
    subst hvs
    refine (h b x (rd_of (hH id b _ hb (lk_cons_eq _ _ _)))).mono ?_
    rintro e x' ⟨rfl, hg, hr'⟩
    refine ⟨y, β, rfl, ⟨(SV.pl_iff hv β y).2 rfl, Ext.refl β, fun i c hc => .inl hc, fun i c hc => .inl hc, hinj, fun i c hc => Nat.lt_of_lt_of_le (hlt i c hc) hg.size, hg.os, hg.tape, hg.output, hg.size, fun k hk hne => hg.block k hk (fun e => ?_), fun i c k hc hk => ?_⟩⟩
    · have e : k = b := by simpa using e
      subst e
      have := hne id hb
      rw [lk_cons_eq] at this; cases this
    · have hi : i = id := by
        have := lk_mem hk
        simp only [List.mem_singleton, Prod.mk.injEq] at this; exact this.1
      subst hi
      rw [lk_cons_eq] at hk
      cases hk
      rw [hb] at hc
      cases hc
      exact of_rd hr'
/-- A method that only reads. -/
theorem reader_ro {F id n : Nat} (hent : Enters Try.prog F) {s : ByteArray} {p : Nat} {f : Bool} {ar : List SV} {vals : List Value} {v : SV} {y : Value} (ha : pls ar = some vals) (hv : v.pl = some y)
    (h : ∀ b w, Oct.Rd 112 b s p f w → Calls Try.prog F (.pointer (some ⟨b, 0, none⟩) :: vals).toArray w fun e w' => e = .returned y ∧ Grow w w') :
    CallOK Try.prog F (.c (.l (.p id 0)) :: ar) [(id, rdB s p f)] n v [] 0 := by
  refine ⟨hent, fun β x vs hvs hinj hlt hnew hH _ => ?_⟩
  match vs, hvs with
  | q :: vs, ⟨hq, hr⟩ =>
    obtain ⟨b, hb, rfl⟩ := hq
    have hvs := (pls_iff ha β vs).1 hr
    subst hvs
    refine (h b x (rd_of (hH id b _ hb (lk_cons_eq _ _ _)))).mono ?_
    rintro e x' ⟨rfl, hg⟩
    replace hg : Below x.heap.size x x' := hg
    exact ⟨y, β, rfl, ⟨(SV.pl_iff hv β y).2 rfl, Ext.refl β, fun i c hc => .inl hc, fun i c hc => .inl hc, hinj, fun i c hc => Nat.lt_of_lt_of_le (hlt i c hc) hg.size, hg.os, hg.tape, hg.output, hg.size, fun k hk hne => hg.block k hk, fun i c k hc hk => by cases hk⟩⟩
/-- A function that makes one block. -/
theorem new_ok {F n t : Nat} (hent : Enters Try.prog F) {ar : List SV} {vals ys : List Value} (ha : pls ar = some vals) (hl : ∀ y ∈ ys, leafy y = true)
    (h : ∀ w, Calls Try.prog F vals.toArray w fun e w' => e = .returned (.pointer (some ⟨w.heap.size, 0, none⟩)) ∧ w' = w.alloc (.cells ys.toArray t)) :
    CallOK Try.prog F ar [] n (.c (.l (.p n 0))) [(n, ⟨ys.map .v, .t t⟩)] 1 := by
  refine ⟨hent, fun β x vs hvs hinj hlt hnew hH _ => ?_⟩
  have hvs := (pls_iff ha β vs).1 hvs
  subst hvs
  refine (h x).mono ?_
  rintro e x' ⟨rfl, rfl⟩
  exact ⟨_, β.set n x.heap.size none, rfl, done_new ⟨hinj, hlt⟩ (hnew n (Nat.le_refl _) (by omega)) rfl rfl rfl (by simp) (fun q hq => Below.heap_alloc x _ q hq) ⟨x.heap.size, Bt.set_b _ _ _ _, rfl⟩ (.inr ⟨ys, [], by simpa [BT.ty, BT.fr] using heap_alloc_new x (.cells ys.toArray t), den_vs hl, trivial⟩)⟩
end Ab
end Go.Proofs.Ytpdckpifhniioaa
