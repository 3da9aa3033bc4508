/- Walks of coder: the coder claims' texts, turned to this seat by genPort.py. -/
import Derived.Test.YtpdckpifhniioaaCo3
import Derived.Deep.DeepCutAuto
import Derived.Deep.CutBlock
import Derived.Deep.LoopGhost
set_option linter.unusedVariables false
set_option linter.unusedSimpArgs false
namespace Go.Proofs.Ytpdckpifhniioaa.Cod
open Go.RowKit
open Go.Proofs.Ytpdckpifhniioaa
section
theorem enters_fn {f : FuncId} {fn : Func} {c : Code} (hf : Try.prog.funcs[f]? = some fn) (hname : (fn.name == "runtime.NumGoroutine") = false) (hb : fn.body = some c) (args : Array Value) (w : World) : (callFunc f args).run Try.prog w = .ok (.enter f args) w := by
  have h1 : fn.name ≠ "runtime.NumGoroutine" := by simpa using hname
  simp [callFunc, hf, h1, hb, mark]
/-- What a callback of each does: round k, the context, the bit. -/
structure CbE (fn : Nat) (cap : Array Value) (cx bt : Nat → Int) (I : Nat → World → Prop) : Prop where
  enters : ∀ args w, (callFunc fn args).run Try.prog w = .ok (.enter fn args) w
  start : cx 0 = 1
  next : ∀ k, k < 8 → cx (k + 1) = 2 * cx k + bt k
  bit : ∀ k, k < 8 → bt k = 0 ∨ bt k = 1
  call : ∀ k w, k < 8 → I k w → Calls Try.prog fn (#[.int .i64 (7 - (k : Int)), .int .i64 (cx k)] ++ cap) w fun e w' => e = .returned (.int .i64 (bt k)) ∧ I (k + 1) w'
theorem CbE.bd {fn cap cx bt I} (h : CbE fn cap cx bt I) : ∀ k, k ≤ 8 → 1 ≤ cx k ∧ cx k < 2 ^ (k + 1)
  | 0, _ => by rw [h.start]; decide
  | k + 1, hk => by
    have ih := h.bd k (by omega)
    have hb := h.bit k (by omega)
    rw [h.next k (by omega)]
    have : (2 : Int) ^ (k + 1 + 1) = 2 * 2 ^ (k + 1) := by rw [Int.pow_succ, Int.mul_comm]
    omega
set_option maxRecDepth 100000 in
set_option maxHeartbeats 1000000 in
theorem each_any (fn : Nat) (cap : Array Value) (cx bt : Nat → Int) (I : Nat → World → Prop) (H : Hid (CbE fn cap cx bt I)) (w : World) (h : I 0 w) :
    Calls Try.prog 75 #[.func (.func fn) #[] cap] w fun e w' => e = .returned (.tuple #[]) ∧ I 8 w' := by
  go_enter Try.func75, Try.ntmps75
  go_upto_block 2 with fail
  go_loopg [2, 3] 8 (fun k s2 s3 wr => k ≤ 8 ∧ s2 = .int .i64 (cx (8 - k)) ∧ s3 = .int .i64 ((k : Int) - 1) ∧ I (8 - k) wr)
  case atStart => exact ⟨Nat.le_refl _, by rw [H.out.start], rfl, h⟩
  case round =>
    obtain ⟨hk, rfl, rfl, hI⟩ := hrel
    cases gk with
    | zero =>
      go_wp2
      refine bodyPost_end (results_none rfl _ _ _) rfl ⟨rfl, hI⟩
    | succ k =>
      have e8 : 8 - (k + 1) + 1 = 8 - k := by omega
      have e7 : 7 - k + 1 = 8 - k := by omega
      have e77 : 8 - (k + 1) = 7 - k := by omega
      rw [e77] at hI
      have hc := H.out.call (7 - k) wr (by omega) hI
      rw [show 7 - ((7 - k : Nat) : Int) = (k : Int) by omega, e7] at hc
      have hn := H.out.next (7 - k) (by omega)
      rw [e7] at hn
      have hb0 := H.out.bd (7 - k) (by omega)
      have hp0 : (2 : Int) ^ (7 - k + 1) ≤ 512 := by
        have : (2 : Nat) ^ (7 - k + 1) ≤ 2 ^ 9 := Nat.pow_le_pow_right (by omega) (by omega)
        exact_mod_cast this
      have hen := Lib.hid H.out.enters
      have hb := H.out.bd (8 - k) (by omega)
      have hb2 := H.out.bit (7 - k) (by omega)
      have hp : (2 : Int) ^ (8 - k + 1) ≤ 512 := by
        have : (2 : Nat) ^ (8 - k + 1) ≤ 2 ^ 9 := Nat.pow_le_pow_right (by omega) (by omega)
        exact_mod_cast this
      replace hc := Lib.hid hc
      replace hn := Lib.hid hn
      go_wp2_with fail
      rw [hen.out, Oper.upon_enter]
      refine hc.out.mono ?_
      rintro e w' ⟨rfl, hI'⟩
      replace hn := hn.out
      go_wp2
      go_roundg k
      case measure => omega
      case rel => exact ⟨by omega, by rw [hn], rfl, hI'⟩
end
section
/-- The bit of a byte, the most significant one first. -/
theorem cb31_bit (x : UInt8) (k : Nat) (hk : k < 8) : (x.toNat : Int) / 2 ^ (7 - k) % 2 = (M.bitAt x.toNat k).2 := by
  unfold M.bitAt
  dsimp only
  rw [Int.natCast_emod, Int.natCast_ediv, Int.natCast_pow]
  rfl
set_option maxRecDepth 100000 in
set_option maxHeartbeats 1000000 in
theorem cb31 {B g sb ib wb : Nat} {ro : Option Nat} {s : M.St} {l : List UInt8} {f : ByteArray} {i : Nat} (hi : i < f.size) (w : World) (h : WS B g ro s l w) (hl : l.length + 4 ≤ 100000000)
    (h1 : w.heap[sb]? = some (.cells #[.string f] 9 (0, 0))) (h2 : w.heap[ib]? = some (.cells #[.int .i64 (i : Int)] 3 (0, 0))) (h3 : w.heap[wb]? = some (.cells #[.pointer (some ⟨g, 0, none⟩)] 134 (0, 0)))
    (k : Nat) (hk : k < 8) (c : Int) :
    Calls Try.prog 76 #[.int .i64 (7 - (k : Int)), .int .i64 c, .pointer (some ⟨sb, 0, none⟩), .pointer (some ⟨ib, 0, none⟩), .pointer (some ⟨wb, 0, none⟩)] w fun e w' =>
      e = .returned (.int .i64 (M.bitAt (f[i]).toNat k).2) ∧ ∃ ro', WS B g ro' (M.nxt s (cx c) (M.bitAt (f[i]).toNat k).2) (l ++ M.outB s (cx c) (M.bitAt (f[i]).toNat k).2) w' ∧ Nxt ro ro' w ∧ Chg g ro w w' := by
  have d1 : w.cell? ⟨sb, 0, none⟩ = some (.string f) := by rw [cell_of_row w sb 0 _ _ _ h1]; rfl
  have d2 : w.cell? ⟨ib, 0, none⟩ = some (.int .i64 (i : Int)) := by rw [cell_of_row w ib 0 _ _ _ h2]; rfl
  have d3 : w.cell? ⟨wb, 0, none⟩ = some (.pointer (some ⟨g, 0, none⟩)) := by rw [cell_of_row w wb 0 _ _ _ h3]; rfl
  obtain ⟨bt, hbt⟩ : ∃ bt, bt = (M.bitAt (f[i]).toNat k).2 := ⟨_, rfl⟩
  have hb01 : bt = 0 ∨ bt = 1 := by rw [hbt]; exact M.bitAt_bit _ _
  have hb := cb31_bit f[i] k hk
  rw [← hbt] at hb ⊢
  have HW := Lib.hid (bit_ws h c bt hl)
  rw [show bt % 2 = bt by omega] at HW
  clear h h1 h2 h3 hbt
  replace hb01 := Lib.hid hb01
  go_enter Try.func76, Try.ntmps76
  go_wp2_with fail
  have heq : bits .and .i64 (wrap64 ((f[i].toNat : Int) / 2 ^ (7 - k))) 1 = bt := by
    have hx := (f[i]).toNat_lt
    have h1 : (1 : Int) ≤ 2 ^ (7 - k) := Int.pow_pos (by decide)
    have h2 : 0 ≤ (f[i].toNat : Int) / 2 ^ (7 - k) := Int.ediv_nonneg (by omega) (by omega)
    have h3 : (f[i].toNat : Int) / 2 ^ (7 - k) ≤ f[i].toNat := Int.ediv_le_self _ (by omega)
    rw [IntWalk.wrap64_in _ (by omega), and_1, hb]
  rw [heq]
  refine HW.out.mono ?_
  rintro e w' ⟨rfl, ro', hQ⟩
  replace hQ := Lib.hid hQ
  go_wp2
  go_ret
  exact ⟨rfl, ro', hQ.out⟩
/-- During Encode: the writer, the boxes of the text, of the index and of the writer. -/
structure EI (B g sb ib wb : Nat) (f : ByteArray) (i : Nat) (w0 : World) (s : M.St) (l : List UInt8) (w : World) : Prop where
  ws : ∃ ro, WS B g ro s l w
  sb : w.heap[sb]? = some (.cells #[.string f] 9 (0, 0))
  ib : w.heap[ib]? = some (.cells #[.int .i64 (i : Int)] 3 (0, 0))
  wb : w.heap[wb]? = some (.cells #[.pointer (some ⟨g, 0, none⟩)] 134 (0, 0))
  below : Below B w0 w
theorem EI.chg {B g sb ib wb f i w0 s l w ro w' s' l' ro'} (h : EI B g sb ib wb f i w0 s l w) (k : WS B g ro s l w) (k' : WS B g ro' s' l' w') (hc : Chg g ro w w') : EI B g sb ib wb f i w0 s' l' w' := by
  refine ⟨⟨_, k'⟩, ?_, ?_, ?_, h.below.trans (k.below hc)⟩
  · have := k.ne h.sb (by decide) (by decide)
    rw [hc.block _ (Array.getElem?_eq_some_iff.1 h.sb).1 this.1 this.2]; exact h.sb
  · have := k.ne h.ib (by decide) (by decide)
    rw [hc.block _ (Array.getElem?_eq_some_iff.1 h.ib).1 this.1 this.2]; exact h.ib
  · have := k.ne h.wb (by decide) (by decide)
    rw [hc.block _ (Array.getElem?_eq_some_iff.1 h.wb).1 this.1 this.2]; exact h.wb
theorem EI.grow {B g sb ib wb f i w0 s l w w'} (h : EI B g sb ib wb f i w0 s l w) (hg : Grow w w') : EI B g sb ib wb f i w0 s l w' := by
  obtain ⟨ro, k⟩ := h.ws
  exact ⟨⟨ro, k.grow hg⟩, hg.block h.sb, hg.block h.ib, hg.block h.wb, h.below.trans ⟨Below.os hg, Below.tape hg, Below.output hg, Below.size hg, fun j hj => Below.block hg j (by have := k.bd; omega)⟩⟩
/-- The first k bits of a byte. -/
def bts (x : UInt8) (k : Nat) : List (Nat × Int) := (List.range k).map (M.bitAt x.toNat)
theorem bts_succ (x : UInt8) (k : Nat) : bts x (k + 1) = bts x k ++ [M.bitAt x.toNat k] := by
  unfold bts; rw [List.range_succ, List.map_append]; rfl
theorem bts_8 (x : UInt8) : bts x 8 = M.byteBits x := rfl
theorem ctx_next (x k : Nat) (hk : k < 8) : (((256 + x) / 2 ^ (8 - (k + 1)) : Nat) : Int) = 2 * (((256 + x) / 2 ^ (8 - k) : Nat) : Int) + (M.bitAt x k).2 := by
  unfold M.bitAt
  dsimp only
  obtain rfl | rfl | rfl | rfl | rfl | rfl | rfl | rfl : k = 0 ∨ k = 1 ∨ k = 2 ∨ k = 3 ∨ k = 4 ∨ k = 5 ∨ k = 6 ∨ k = 7 := by omega
  all_goals simp only [Nat.reduceSub, Nat.reduceAdd, Nat.reducePow]
  all_goals omega
theorem ctx_cx (x k : Nat) (hx : x < 256) (hk : k < 8) : cx (((256 + x) / 2 ^ (8 - k) : Nat) : Int) = (M.bitAt x k).1 := by
  unfold cx M.bitAt
  dsimp only
  obtain rfl | rfl | rfl | rfl | rfl | rfl | rfl | rfl : k = 0 ∨ k = 1 ∨ k = 2 ∨ k = 3 ∨ k = 4 ∨ k = 5 ∨ k = 6 ∨ k = 7 := by omega
  all_goals simp only [Nat.reduceSub, Nat.reducePow]
  all_goals omega
theorem ei_cb {B g sb ib wb : Nat} {f : ByteArray} {i : Nat} (hi : i < f.size) {w0 : World} {s : M.St} {l : List UInt8} (hl : l.length + 36 ≤ 100000000) :
    CbE 76 #[.pointer (some ⟨sb, 0, none⟩), .pointer (some ⟨ib, 0, none⟩), .pointer (some ⟨wb, 0, none⟩)] (fun k => (((256 + f[i].toNat) / 2 ^ (8 - k) : Nat) : Int)) (fun k => (M.bitAt f[i].toNat k).2)
      (fun k w => k ≤ 8 ∧ EI B g sb ib wb f i w0 (M.runS s (bts f[i] k)) (l ++ M.runO s (bts f[i] k)) w) where
  enters := enters_fn Try.func76 (by kernel_rfl) rfl
  start := by have := (f[i]).toNat_lt; show (((256 + f[i].toNat) / 2 ^ 8 : Nat) : Int) = 1; omega
  next := fun k hk => ctx_next _ _ hk
  bit := fun k hk => M.bitAt_bit _ _
  call := fun k w hk h => by
    obtain ⟨ro, hw⟩ := h.2.ws
    have hlen := M.runO_len (bts f[i] k) s
    have hbl : (bts f[i] k).length = k := by simp [bts]
    refine (cb31 hi w hw (by rw [List.length_append]; omega) h.2.sb h.2.ib h.2.wb k hk _).mono ?_
    rintro e w' ⟨rfl, ro', k1, k2, k3⟩
    refine ⟨rfl, by omega, ?_⟩
    have := h.2.chg hw k1 k3
    rw [ctx_cx _ _ (f[i]).toNat_lt hk] at this
    rw [bts_succ, M.runS_append, M.runO_append]
    simpa [M.runS, M.runO] using this
/-- .. ahead of a byte. -/
structure EL (B g sb wb : Nat) (f : ByteArray) (w0 : World) (s : M.St) (l : List UInt8) (w : World) : Prop where
  ws : ∃ ro, WS B g ro s l w
  sb : w.heap[sb]? = some (.cells #[.string f] 9 (0, 0))
  wb : w.heap[wb]? = some (.cells #[.pointer (some ⟨g, 0, none⟩)] 134 (0, 0))
  below : Below B w0 w
theorem EL.wbsz {B g sb wb f w0 s l w} (h : EL B g sb wb f w0 s l w) : wb < w.heap.size := (Array.getElem?_eq_some_iff.1 h.wb).1
theorem EL.ei {B g sb wb f w0 s l w} (h : EL B g sb wb f w0 s l w) (i : Nat) : EI B g sb w.heap.size wb f i w0 s l (w.alloc (.cells #[.int .i64 (i : Int)] 3)) := by
  obtain ⟨ro, k⟩ := h.ws
  exact ⟨⟨ro, k.grow (Grow.alloc _ _)⟩, (Grow.alloc _ _).block h.sb, heap_alloc_new _ _, (Grow.alloc _ _).block h.wb, h.below.trans (Below.mono (show Below w.heap.size _ _ from Grow.alloc _ _) k.bd)⟩
theorem EI.el {B g sb ib wb f i w0 s l w} (h : EI B g sb ib wb f i w0 s l w) : EL B g sb wb f w0 s l w := ⟨h.ws, h.sb, h.wb, h.below⟩
theorem take_succ_enc (f : ByteArray) (i : Nat) (hi : i < f.size) : M.encBits (f.data.toList.take (i + 1)) = M.encBits (f.data.toList.take i) ++ M.byteBits f[i] := by
  have h : f.data.toList.take (i + 1) = f.data.toList.take i ++ [f[i]] := by
    rw [List.take_add_one]
    have : f.data.toList[i]? = some f[i] := by
      rw [Array.getElem?_toList, Array.getElem?_eq_getElem hi]; rfl
    rw [this]; rfl
  rw [h, M.encBits_append]
  exact congrArg _ (List.append_nil _)
set_option maxRecDepth 100000 in
set_option maxHeartbeats 1000000 in
theorem encode_any (f : ByteArray) (w : World) (hf : f.size ≤ 2500000) :
    Calls Try.prog 44 #[.string f] w fun e w' => e = .returned (.string ⟨(M.enc f.data.toList).toArray⟩) ∧ Grow w w' := by
  have HN := Lib.hid (newWriter_ws (w.alloc (.cells #[.string f] 9)))
  go_enter Try.func44, Try.ntmps44
  go_wp2_with fail
  refine HN.out.mono ?_
  rintro e x ⟨rfl, hw, hg⟩
  clear HN
  have hsz : (w.alloc (.cells #[.string f] 9)).heap.size = w.heap.size + 1 := by simp
  rw [hsz] at hw ⊢
  have hE : WS w.heap.size (w.heap.size + 1) none M.start [] x := hw.lower (by omega)
  have hs : x.heap[w.heap.size]? = some (.cells #[.string f] 9 (0, 0)) := hg.block (heap_alloc_new w _)
  have hb : Below w.heap.size w x := (Grow.alloc w _).trans hg
  have hx := hw.lt
  have c1 : x.cell? ⟨w.heap.size, 0, none⟩ = some (.string f) := by rw [cell_of_row x _ 0 _ _ _ hs]; rfl
  have hx0 : w.heap.size < x.heap.size := by omega
  replace hs := Lib.hid hs
  replace hE := Lib.hid hE
  replace hb := Lib.hid hb
  clear hw hg hsz
  have hwb : Hid ((x.alloc (.cells #[.pointer (some ⟨w.heap.size + 1, 0, none⟩)] 134)).heap[x.heap.size]? = some (.cells #[.pointer (some ⟨w.heap.size + 1, 0, none⟩)] 134 (0, 0))) := Lib.hid (heap_alloc_new _ _)
  go_upto_block 1 with fail
  obtain ⟨sb, hsb⟩ : ∃ sb, sb = w.heap.size := ⟨_, rfl⟩
  go_loopg [8] f.size (fun k s8 wr => ∃ i, i + k = f.size ∧ s8 = .int .i64 (i : Int) ∧ Hid (EL w.heap.size (w.heap.size + 1) w.heap.size x.heap.size f w (M.runS M.start (M.encBits (f.data.toList.take i))) (M.runO M.start (M.encBits (f.data.toList.take i))) wr))
  case atStart =>
    refine ⟨0, by omega, rfl, Lib.hid ⟨⟨none, hE.out.grow (Grow.alloc _ _)⟩, (Grow.alloc _ _).block hs.out, hwb.out, hb.out.trans (Below.mono (show Below x.heap.size _ _ from Grow.alloc _ _) (by omega))⟩⟩
  case round =>
    obtain ⟨i, hik, rfl, HR⟩ := hrel
    clear hE hb hs hwb c1
    have hws := HR.out.wbsz
    cases gk with
    | zero =>
      obtain rfl : i = f.size := by omega
      obtain ⟨ro, hW⟩ := HR.out.ws
      have d3 : wr.cell? ⟨x.heap.size, 0, none⟩ = some (.pointer (some ⟨w.heap.size + 1, 0, none⟩)) := by rw [cell_of_row wr _ 0 _ _ _ HR.out.wb]; rfl
      have htk : f.data.toList.take f.size = f.data.toList := List.take_of_length_le (by simp [← ByteArray.size_data])
      have hlen := M.runO_len (M.encBits f.data.toList) M.start
      rw [M.encBits_len] at hlen
      have hfl : f.data.toList.length = f.size := by simp [← ByteArray.size_data]
      have HY := Lib.hid (bytes_ws hW (by rw [htk]; omega))
      have HX := Lib.hid (And.intro htk HR.out.below)
      clear HR hW htk hlen hfl
      go_wp2_with fail
      refine HY.out.mono ?_
      rintro e y ⟨rfl, hgy⟩
      obtain ⟨htk, hbe⟩ := HX.out
      rw [htk]
      go_wp2
      go_ret
      exact ⟨rfl, hbe.trans (Below.mono hgy hbe.size)⟩
    | succ k =>
      have hlt : i < f.size := by omega
      have hlen := M.runO_len (M.encBits (f.data.toList.take i)) M.start
      rw [M.encBits_len] at hlen
      have htl : (f.data.toList.take i).length ≤ i := by rw [List.length_take]; omega
      have HE := Lib.hid (each_any 76 _ _ _ _ (Lib.hid (ei_cb (B := w.heap.size) (g := w.heap.size + 1) (sb := w.heap.size) (ib := wr.heap.size) (wb := x.heap.size) hlt (w0 := w) (s := M.runS M.start (M.encBits (f.data.toList.take i))) (l := M.runO M.start (M.encBits (f.data.toList.take i))) (by omega))) _ ⟨by omega, by simpa [bts, M.runS, M.runO] using HR.out.ei i⟩)
      clear hlen htl HR
      go_wp2_with fail
      refine HE.out.mono ?_
      rintro e y ⟨rfl, _, hI⟩
      replace hI := Lib.hid hI.el
      go_wp2
      go_roundg k
      case measure => omega
      case rel =>
        refine ⟨i + 1, by omega, by rw [Int.natCast_add]; rfl, ?_⟩
        have h2 := hI.out
        rw [bts_8, ← M.runS_append, ← M.runO_append, ← take_succ_enc f i hlt] at h2
        exact Lib.hid h2
end
end Go.Proofs.Ytpdckpifhniioaa.Cod
