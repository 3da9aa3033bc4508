/- Part 3 of what CodecPreviews rests on. -/
import Derived.Test.YtpdckpifhniioaaGreatProg
import Derived.WalkKit
import Derived.WalkLawsBesides
import Derived.WalkSpells
import Derived.Lib.Hide
import Derived.Laws.IdiomStrings
import Derived.Deep.WholeRow
import Derived.Deep.QuietTactic
import Derived.BigQuiet
import Derived.Lib.QuoteBits
import Derived.Laws.StructEq
import Derived.DeepKeys
import Derived.Test.YtpdckpifhniioaaGreatPb
section
set_option linter.unusedVariables false
set_option linter.unusedSimpArgs false
namespace Go.Proofs.YtpdckpifhniioaaGreat.Oct
open Go.RowKit
open Go.Proofs.YtpdckpifhniioaaGreat
theorem ret_int {k : IntKind} {a b : Int} (h : a = b) : Ending.returned (.int k a) = .returned (.int k b) := by rw [h]
theorem ret_str {a b : ByteArray} (h : a = b) : Ending.returned (.string a) = .returned (.string b) := by rw [h]
/-- The cells of a list of bytes. -/
def bcells (l : List UInt8) : Array Value := (l.map fun b => Value.int .u8 (b.toNat : Int)).toArray
theorem bcells_at (l : List UInt8) (i : Nat) (h : i < l.length) : (bcells l)[i]? = some (.int .u8 (l[i].toNat : Int)) := by
  simp [bcells, List.getElem?_eq_getElem h]
section
variable {P : Program}
/-- 'string(b)' of a window of a block of bytes. -/
theorem conv_row (w : World) (src dst e : TypeId) (hs : P.underlying src = some (.slice e)) (he : P.underlying e = some (.int .u8)) (hd : P.underlying dst = some .string)
    (g : Nat) (t : TypeId) (fr : Nat × Nat) (C : Array Value) (hg : w.heap[g]? = some (.cells C t fr)) (k n cap : Nat) (l : List UInt8) (hn : l.length = n)
    (hl : ∀ j (h : j < l.length), C[k + j]? = some (.int .u8 (l[j].toNat : Int))) :
    (convert src dst (.slice (some ⟨g, k, none⟩) n cap)).run P w = .ok (.string ⟨l.toArray⟩) w := by
  subst hn
  refine run_convert_bytes_back w src dst e _ cap l hs he hd fun j hj => ?_
  have : (⟨g, k, none⟩ : Addr).add j = ⟨g, k + j, none⟩ := by unfold Addr.add; split <;> simp_all
  rw [this]
  unfold World.cell?
  rw [hg]
  simpa using hl j hj
end
/-- The one-cell values of a list of bytes. -/
def bvals (l : List UInt8) : List Value := l.map fun b => Value.int .u8 (b.toNat : Int)
theorem bvals_length (l : List UInt8) : (bvals l).length = l.length := by simp [bvals]
theorem bvals_append (l m : List UInt8) : bvals (l ++ m) = bvals l ++ bvals m := by simp [bvals]
section
variable {P : Program}
/-- 'v = append(v, u)' of one value of one cell, v nil or of the call's own. -/
theorem wp_push {ops : Array Oper} {rest : List Oper} {o : Oper} {a : Act} {Q : Exit → Act → World → Prop} (w : World) (hgd : o.guard = none) (s x : Operand) (t e : TypeId)
    (ho : o.op = .call { callee := .builtin .append, args := #[s, x], argTypes := #[t, t] }) (ht : P.underlying t = some (.slice e))
    (z : Value) (bytes : Nat) (hinfo : (P.info? e).map (fun i => (i.zero, i.size, i.bytes)) = some (some z, 1, bytes)) (hz : z.cells.size = 1)
    (base : Nat) (v : Value) (n : Nat) (xs : List Value) (hs : a.eval s = v) (hown : w.ownsRow base e 1 v n xs)
    (u : Value) (fr : Nat × Nat) (hx : a.eval x = .slice (some ⟨w.heap.size, 0, none⟩) 1 1) (hu : u.oneCell' = true)
    (hlen : n + 1 ≤ 1000000000) (hby : bytes ≤ 64) (hbase : base ≤ w.heap.size)
    (h : ∀ v' w', w'.ownsRow base e 1 v' (n + 1) (xs ++ [u]) → v' ≠ .slice none 0 0 → Below base w w' → w.heap.size < w'.heap.size → wpList P ops Q rest (a.put o.dst v') w') :
    wpList P ops Q (o :: rest) a (w.alloc (.cells #[u] e fr)) := by
  obtain ⟨i0, hi, hz0, hz1, hz2⟩ := info_parts hinfo
  refine wpList_append_own _ hgd s x t ho base e i0 z 1 bytes ht hi hz0 hz1 hz2 hz (by decide) v n xs hs (hown.alloc _) ⟨w.heap.size, 0, none⟩ 1 1 [u] hx rfl ?_ ?_ ?_ ?_ ?_ ?_
  · intro j u' hj
    match j, hj with
    | 0, hj =>
      simp at hj
      subst hj
      have : (⟨w.heap.size, 0, none⟩ : Addr).add 0 = ⟨w.heap.size, 0, none⟩ := by unfold Addr.add; split <;> simp_all
      rw [this, World.cell?_alloc_mark]; rfl
  · intro u' h'
    simp at h'
    subst h'; exact hu
  · unfold maxLen; omega
  · exact Nat.le_trans (Nat.mul_le_mul hlen hby) (by omega)
  · rw [World.size_alloc]; omega
  · intro v' w' hown' hg hnil
    have hsz := hg.size
    rw [World.size_alloc] at hsz
    refine h v' w' hown' (fun hv => by have := (hnil.1 hv).2; omega) ?_ (by omega)
    refine ((Below.refl base w).alloc hbase _).grown hg (by rw [World.size_alloc]; omega) fun k hk => ?_
    exact (hown.lt k hk).1
/-- 'string(b)' of a slice of the call's own. -/
theorem conv_own (w : World) (src dst e : TypeId) (hs : P.underlying src = some (.slice e)) (he : P.underlying e = some (.int .u8)) (hd : P.underlying dst = some .string)
    (base : Nat) (v : Value) (n : Nat) (l : List UInt8) (hown : w.ownsRow base e 1 v n (bvals l)) : (convert src dst v).run P w = .ok (.string ⟨l.toArray⟩) w := by
  have hl : l.length = n := by have := hown.1; rw [bvals_length] at this; omega
  rcases hown.2 with ⟨rfl, h0⟩ | ⟨g, cap, cur, rfl, _, hg, hnc, _, hsz, htk⟩
  · subst h0
    have : l = [] := List.eq_nil_of_length_eq_zero hl
    subst this
    rw [run_convert_bytes_string w src dst e none 0 0 hs he hd]
    simp [Conv.bytesToString]
    rfl
  · refine conv_row w src dst e hs he hd g e _ cur hg 0 n cap l hl fun j hj => ?_
    have h1 : (cur.toList.take (n * 1))[j]? = (bvals l)[j]? := by rw [htk]
    rw [List.getElem?_take, if_pos (by omega)] at h1
    rw [Nat.zero_add, ← Array.getElem?_toList, h1]
    simp [bvals, List.getElem?_eq_getElem hj]
end
/-- n as 64 bits without a sign. -/
def u64 (n : Int) : Nat := (n % 18446744073709551616).toNat
theorem u64_eq (n : Int) : IntKind.u64.wrap n = ((u64 n : Nat) : Int) := by rw [IntKind.wrap_u64]; unfold u64; omega
theorem u64_lt (n : Int) : u64 n < 18446744073709551616 := by unfold u64; omega
theorem str_size (l : List UInt8) : (⟨l.toArray⟩ : ByteArray).size = l.length := by
  simp [ByteArray.size]
theorem str_append (l m : List UInt8) : (⟨l.toArray⟩ : ByteArray) ++ ⟨m.toArray⟩ = ⟨(l ++ m).toArray⟩ := by
  apply ByteArray.ext; simp
theorem str_mk (s : ByteArray) : (⟨s.data.toList.toArray⟩ : ByteArray) = s := by
  apply ByteArray.ext; simp
namespace M
def be : Nat → Nat → List UInt8
  | 0, _ => []
  | k + 1, u => UInt8.ofNat (u / 256 ^ k) :: be k u
theorem be_length (k u : Nat) : (be k u).length = k := by
  induction k with
  | zero => rfl
  | succ k ih => simp [be, ih]
theorem be_snoc (k u : Nat) : be (k + 1) u = be k (u / 256) ++ [UInt8.ofNat u] := by
  induction k with
  | zero => simp [be]
  | succ k ih =>
    rw [be, ih]
    simp only [be, List.cons_append]
    rw [Nat.div_div_eq_div_mul, Nat.pow_succ, Nat.mul_comm]
theorem be_drop (k j u : Nat) : (be (k + j) u).drop k = be j u := by
  induction k with
  | zero => simp
  | succ k ih => rw [Nat.add_right_comm, be, List.drop_succ_cons, ih]
def leb (u : Nat) : List UInt8 := if u < 128 then [UInt8.ofNat u] else UInt8.ofNat (u % 128 + 128) :: leb (u / 128)
termination_by u
decreasing_by omega
theorem leb_small (u : Nat) (h : u < 128) : leb u = [UInt8.ofNat u] := by rw [leb, if_pos h]
theorem leb_large (u : Nat) (h : ¬ u < 128) : leb u = UInt8.ofNat (u % 128 + 128) :: leb (u / 128) := by rw [leb, if_neg h]
def cnt (u : Nat) : Nat := if u = 0 then 0 else 1 + cnt (u / 128)
termination_by u
decreasing_by omega
theorem cnt_zero : cnt 0 = 0 := by rw [cnt, if_pos rfl]
theorem cnt_pos (u : Nat) (h : 0 < u) : cnt u = 1 + cnt (u / 128) := by rw [cnt, if_neg (by omega)]
theorem leb_length (u : Nat) : (leb u).length = 1 + cnt (u / 128) := by
  induction u using Nat.strongRecOn with
  | _ u ih =>
    by_cases h : u < 128
    · rw [leb_small u h, Nat.div_eq_of_lt h, cnt_zero]; rfl
    · rw [leb_large u h, List.length_cons, ih (u / 128) (by omega), cnt_pos (u / 128) (by omega)]; omega
theorem cnt_le (k u : Nat) (h : u < 128 ^ k) : cnt u ≤ k := by
  induction k generalizing u with
  | zero => have : u = 0 := by simpa using h
            subst this; rw [cnt_zero]; omega
  | succ k ih =>
    by_cases h0 : u = 0
    · subst h0; rw [cnt_zero]; omega
    · rw [cnt_pos u (by omega)]
      have := ih (u / 128) (by rw [Nat.pow_succ] at h; omega)
      omega
theorem leb_le (u : Nat) (h : u < 18446744073709551616) : (leb u).length ≤ 10 := by
  rw [leb_length]
  have := cnt_le 9 (u / 128) (by omega)
  omega
theorem leb_pos (u : Nat) : 0 < (leb u).length := by rw [leb_length]; omega
def poly : Nat := 3988292384
def step (c : Nat) : Nat := (c >>> 1) ^^^ (if c % 2 = 1 then poly else 0)
def steps : Nat → Nat → Nat
  | 0, c => c
  | n + 1, c => steps n (step c)
def crcB (c b : Nat) : Nat := steps 8 (c ^^^ b)
def crcL : Nat → List UInt8 → Nat
  | c, [] => c
  | c, b :: l => crcL (crcB c b.toNat) l
def sum (l : List UInt8) : Nat := 4294967295 - crcL 4294967295 l
theorem shr1 (c : Nat) : c >>> 1 = c / 2 := by rw [Nat.shiftRight_eq_div_pow]
theorem step_lin (a b : Nat) : step (a ^^^ b) = step a ^^^ step b := by
  unfold step
  rw [Nat.shiftRight_xor_distrib]
  have e : (a ^^^ b) % 2 = (a + b) % 2 := by
    have := Nat.xor_mod_two_eq_one (a := a) (b := b)
    omega
  rcases Nat.mod_two_eq_zero_or_one a with ha | ha <;> rcases Nat.mod_two_eq_zero_or_one b with hb | hb
  · rw [if_neg (by omega), if_neg (by omega), if_neg (by omega)]; simp
  · rw [if_pos (by omega), if_neg (by omega), if_pos (by omega)]; simp [Nat.xor_assoc]
  · rw [if_pos (by omega), if_pos (by omega), if_neg (by omega)]
    simp only [Nat.xor_zero]; rw [Nat.xor_assoc, Nat.xor_assoc, Nat.xor_comm (b >>> 1) poly]
  · rw [if_neg (by omega), if_pos (by omega), if_pos (by omega)]
    have : (a >>> 1 ^^^ poly) ^^^ (b >>> 1 ^^^ poly) = (a >>> 1 ^^^ b >>> 1) ^^^ (poly ^^^ poly) := by
      rw [Nat.xor_assoc, Nat.xor_assoc, ← Nat.xor_assoc poly, Nat.xor_comm poly (b >>> 1), Nat.xor_assoc]
    rw [this, Nat.xor_self]
theorem steps_lin (n a b : Nat) : steps n (a ^^^ b) = steps n a ^^^ steps n b := by
  induction n generalizing a b with
  | zero => rfl
  | succ n ih => rw [steps, steps, steps, step_lin, ih]
theorem steps_shl (n b : Nat) : steps n (b <<< n) = b := by
  induction n with
  | zero => simp [steps]
  | succ n ih =>
    rw [steps]
    have : step (b <<< (n + 1)) = b <<< n := by
      unfold step
      have h0 : b <<< (n + 1) = 2 * (b <<< n) := by rw [Nat.shiftLeft_succ]
      rw [h0, if_neg (by omega), shr1]
      simp
    rw [this, ih]
theorem step_lt (c : Nat) (h : c < 4294967296) : step c < 4294967296 := by
  unfold step
  have h1 : c >>> 1 < 2 ^ 32 := by rw [shr1]; omega
  have h2 : (if c % 2 = 1 then poly else 0) < 2 ^ 32 := by unfold poly; split <;> omega
  exact Nat.xor_lt_two_pow h1 h2
theorem steps_lt (n c : Nat) (h : c < 4294967296) : steps n c < 4294967296 := by
  induction n generalizing c with
  | zero => exact h
  | succ n ih => exact ih _ (step_lt c h)
theorem xor_lt32 {a b : Nat} (ha : a < 4294967296) (hb : b < 4294967296) : a ^^^ b < 4294967296 :=
  Nat.xor_lt_two_pow (n := 32) ha hb
theorem crcB_lt (c b : Nat) (hc : c < 4294967296) (hb : b < 256) : crcB c b < 4294967296 :=
  steps_lt 8 _ (xor_lt32 hc (by omega))
theorem crcL_append (l m : List UInt8) : ∀ c, crcL c (l ++ m) = crcL (crcL c l) m := by
  induction l with
  | nil => intro c; rfl
  | cons b l ih => intro c; exact ih _
/-- A number is its low byte and the rest. -/
theorem split8 (c : Nat) : c = (c % 256) ^^^ ((c >>> 8) <<< 8) := by
  apply Nat.eq_of_testBit_eq
  intro i
  rw [Nat.testBit_xor, Nat.testBit_shiftLeft, Nat.testBit_shiftRight, show (256 : Nat) = 2 ^ 8 from rfl, Nat.testBit_mod_two_pow]
  by_cases h : i < 8
  · simp [h, show ¬ (8 ≤ i) by omega]
  · simp [h, show 8 ≤ i by omega, show 8 + (i - 8) = i by omega]
/-- The table's form of a round. -/
theorem crcB_table (c b : Nat) : crcB c b = steps 8 ((c % 256) ^^^ b) ^^^ (c >>> 8) := by
  unfold crcB
  conv => lhs; rw [split8 c]
  rw [Nat.xor_assoc, Nat.xor_comm _ b, ← Nat.xor_assoc, steps_lin, steps_shl]
end M
def sz (n : Int) : Nat := (max 0 (min n 8)).toNat
theorem sz_le (n : Int) : sz n ≤ 8 := by unfold sz; omega
theorem size_any (n : Int) (w : World) :
    Calls Tryz.prog 116 #[.int .i64 n] w fun e w' => e = .returned (.int .i64 (sz n)) ∧ w = w' := by
  go_enter Tryz.func116, Tryz.ntmps116
  go_wp2
  all_goals
    go_ret
    exact ⟨ret_int (by unfold sz; split at * <;> omega), rfl⟩
theorem be8_cells (u : Nat) (h : u < 18446744073709551616) :
    #[Value.int .u8 ((u : Int) / 72057594037927936), .int .u8 ((u : Int) / 281474976710656 % 256), .int .u8 ((u : Int) / 1099511627776 % 256),
      .int .u8 ((u : Int) / 4294967296 % 256), .int .u8 ((u : Int) / 16777216 % 256), .int .u8 ((u : Int) / 65536 % 256), .int .u8 ((u : Int) / 256 % 256), .int .u8 ((u : Int) % 256)] = bcells (M.be 8 u) := by
  have e : (u : Int) / 72057594037927936 = (u : Int) / 72057594037927936 % 256 := by omega
  rw [e]
  simp [bcells, M.be]
theorem be_window (u s k : Nat) (h : s = 0 ∨ k + s = 8) : ∀ j (hj : j < (M.be s u).length), (bcells (M.be 8 u))[k + j]? = some (.int .u8 (((M.be s u)[j]).toNat : Int)) := by
  intro j hj
  have hl : j < s := by rw [M.be_length] at hj; exact hj
  have h8 : k + s = 8 := by omega
  have hd := M.be_drop k s u
  rw [h8] at hd
  rw [bcells_at _ _ (by rw [M.be_length]; omega)]
  congr 3
  simp only [← hd, List.getElem_drop]
set_option maxRecDepth 100000 in
set_option maxHeartbeats 400000 in
theorem put_any (n m : Int) (w : World) :
    Calls Tryz.prog 50 #[.int .i64 n, .int .i64 m] w fun e w' => e = .returned (.string ⟨(M.be (sz m) (u64 n)).toArray⟩) ∧ Below w.heap.size w w' := by
  have hs8 := sz_le m
  have hu := u64_eq n
  have hul := u64_lt n
  go_enter Tryz.func50, Tryz.ntmps50
  go_wp2_with fail
  refine wp_loop_rounds 9 ?_
  iterate 9 (rw [rounds_succ]; go_wp2_with fail)
  refine (size_any _ _).mono ?_
  rintro e w' ⟨rfl, rfl⟩
  have hk : sz m = 0 ∨ sz m = 1 ∨ sz m = 2 ∨ sz m = 3 ∨ sz m = 4 ∨ sz m = 5 ∨ sz m = 6 ∨ sz m = 7 ∨ sz m = 8 := by omega
  rcases hk with h | h | h | h | h | h | h | h | h
  all_goals
    go_wp2_with fail
    rw [be8_cells _ hul]
    rw [conv_row (P := Tryz.prog) _ 57 9 5 Tryz.underlying57 Tryz.underlying5 Tryz.underlying9 w.heap.size 165 (0,0) (bcells (M.be 8 (u64 n))) (heap_alloc_new _ _) _ _ _ (M.be (sz m) (u64 n)) (by rw [M.be_length, h]) (be_window _ _ _ (by omega))]
    go_wp2_with fail
    go_ret
    exact ⟨by first | (rw [h]; done) | (rw [h]; rfl), (Below.refl _ _).alloc (Nat.le_refl _) _⟩
theorem Tryz.info5 : (Tryz.prog.info? 5).map (fun i => (i.zero, i.size, i.bytes)) = some (some (.int .u8 0), 1, 1) := by kernel_rfl
theorem or128_nat : ∀ x : Fin 256, (x.val ||| 128) = x.val % 128 + 128 := by decide +kernel
theorem or128 (r : Nat) : bits .or .u8 ((r : Int) % 256) 128 = ((UInt8.ofNat (r % 128 + 128)).toNat : Int) := by
  have h := u8_or_nat (r % 256) 128 (by omega) (by omega)
  have h2 := or128_nat ⟨r % 256, by omega⟩
  simp only at h2
  rw [h2] at h
  rw [show ((r % 256 : Nat) : Int) = (r : Int) % 256 by omega, show ((128 : Nat) : Int) = 128 from rfl] at h
  rw [h]
  simp
  omega
theorem byte_small (r : Nat) (h : r < 128) : ((r : Nat) : Int) = ((UInt8.ofNat r).toNat : Int) := by simp; omega
theorem vown {w : World} {base : Nat} {v : Value} {n : Nat} {l : List UInt8} {x : Int} {b : UInt8} (h : w.ownsRow base 5 1 v (n + 1) (bvals l ++ [.int .u8 x])) (e : x = (b.toNat : Int)) (hn : l.length = n) :
    w.ownsRow base 5 1 v (l ++ [b]).length (bvals (l ++ [b])) := by
  subst e hn
  rw [bvals_append, List.length_append]
  exact h
set_option maxRecDepth 100000 in
set_option maxHeartbeats 400000 in
theorem var_any (n : Int) (w : World) :
    Calls Tryz.prog 48 #[.int .i64 n] w fun e w' => e = .returned (.string ⟨(M.leb (u64 n)).toArray⟩) ∧ Below w.heap.size w w' := by
  have hu := u64_eq n
  have hul := u64_lt n
  have hll := M.leb_le _ hul
  go_enter Tryz.func48, Tryz.ntmps48
  go_wp2_with fail
  go_loopw [3, 4] (fun v u wr => ∃ (l : List UInt8) (r : Nat), u = .int .u64 (r : Int) ∧ Hid (r < 18446744073709551616) ∧ Hid (M.leb (u64 n) = l ++ M.leb r) ∧ wr.ownsRow w.heap.size 5 1 v l.length (bvals l) ∧ Below w.heap.size w wr)
    (fun _ u _ => (intOf u).toNat)
  case atStart => exact ⟨[], u64 n, rfl, hul, rfl, World.ownsRow_nil _ _ _ _, Below.refl _ _⟩
  case round =>
    obtain ⟨l, r, rfl, hr, HL, hown, hb⟩ := hrel
    clear hu hul
    have hlen : l.length + (M.leb r).length ≤ 10 := by rw [← List.length_append, ← HL.out]; exact hll
    have hpos := M.leb_pos r
    have hsz := hb.size
    clear hll
    go_wp2_with (at_builtin; refine wp_push _ rfl _ _ 57 5 rfl Tryz.underlying57 (.int .u8 0) 1 Tryz.info5 rfl w.heap.size _ _ _ rfl hown _ _ rfl rfl (by omega) (by omega) hsz ?_)
    · intro v' w' hown' hne hb' hsz'
      have hge : 128 ≤ (r : Int) := by assumption
      have hown2 := vown hown' (or128 r) rfl
      clear hown' hown
      go_wp2_with fail
      go_roundw
      case rel => exact ⟨_, r / 128, by go_num, (show r / 128 < 18446744073709551616 by have := hr.out; omega), (show M.leb (u64 n) = _ by rw [HL.out, M.leb_large r (by omega), List.append_assoc]; rfl), hown2, hb.trans hb'⟩
      case measure => simp [intOf]; omega
    · intro v' w' hown' hne hb' hsz'
      have hge : (r : Int) < 128 := by assumption
      have hown2 := vown hown' (byte_small r (by omega)) rfl
      have hc := conv_own (P := Tryz.prog) w' 57 9 5 Tryz.underlying57 Tryz.underlying5 Tryz.underlying9 _ _ _ _ hown2
      have hfin : M.leb (u64 n) = l ++ [UInt8.ofNat r] := by rw [HL.out, M.leb_small r (by omega)]
      have HF := Lib.hid hfin
      clear hown' hown hfin
      go_wp2_with fail
      go_ret
      exact ⟨by rw [HF.out]; rfl, hb.trans hb'⟩
/-- What Text gives. -/
def txt (s : ByteArray) : List UInt8 := M.leb s.size ++ s.data.toList
theorem txt_eq (s : ByteArray) : (⟨(M.leb s.size).toArray⟩ : ByteArray) ++ s = ⟨(txt s).toArray⟩ := by
  unfold txt; rw [← str_append, str_mk]
theorem u64_nat (n : Nat) (h : n ≤ 9223372036854775807) : u64 (n : Int) = n := by unfold u64; omega
set_option maxRecDepth 100000 in
set_option maxHeartbeats 400000 in
theorem text_any (s : ByteArray) (w : World) (hs : s.size ≤ 1000000000000000000) :
    Calls Tryz.prog 55 #[.string s] w fun e w' => e = .returned (.string ⟨(txt s).toArray⟩) ∧ Below w.heap.size w w' := by
  have hl := M.leb_le (u64 s.size) (u64_lt _)
  have HF : Hid ((⟨(M.leb (u64 s.size)).toArray⟩ : ByteArray) ++ s = ⟨(txt s).toArray⟩) := by rw [u64_nat _ (by omega)]; exact txt_eq s
  go_enter Tryz.func55, Tryz.ntmps55
  go_wp2_with fail
  refine (var_any _ _).mono ?_
  rintro e w' ⟨rfl, hb⟩
  go_wp2_with fail
  go_ret
  exact ⟨ret_str HF.out, hb⟩
/-- The table of the checksums of single bytes. -/
def tabC : Array Value := ((List.range 256).map fun i => Value.int .u32 (M.steps 8 i : Nat)).toArray
theorem tabC_at (i : Nat) (h : i < 256) : tabC[i]? = some (.int .u32 (M.steps 8 i : Nat)) := by
  simp [tabC, h]
theorem not_nat (c : Nat) (h : c < 4294967296) : 4294967295 ^^^ c = 4294967295 - c := by
  apply Nat.eq_of_testBit_eq
  intro i
  have h1 := Nat.testBit_two_pow_sub_succ (x := c) (n := 32) h i
  have h2 := Nat.testBit_two_pow_sub_one 32 i
  rw [show 4294967295 - c = 2 ^ 32 - (c + 1) by omega, h1, Nat.testBit_xor, show (4294967295 : Nat) = 2 ^ 32 - 1 from rfl, h2]
  by_cases hi : i < 32
  · simp [hi]
  · have : c.testBit i = false := Nat.testBit_lt_two_pow (Nat.lt_of_lt_of_le (show c < 2 ^ 32 from h) (Nat.pow_le_pow_right (by omega) (by omega : 32 ≤ i)))
    simp [hi, this]
theorem not_u32 (c : Nat) (h : c < 4294967296) : bits .xor .u32 IntKind.u32.max (c : Int) = ((4294967295 - c : Nat) : Int) := by
  have h1 := u32_xor_nat 4294967295 c (by omega) h
  rw [not_nat c h] at h1
  exact h1
theorem tabC_size : tabC.size = 256 := by simp [tabC]
theorem Tryz.size168 : (Tryz.prog.info? 168).map (·.size) = some tabC.size := by rw [tabC_size]; kernel_rfl
theorem tabC_one : tabC.all (·.oneCell') = true := by
  rw [Array.all_eq_true_iff_forall_mem]
  intro x hx
  simp [tabC] at hx
  obtain ⟨i, _, rfl⟩ := hx
  rfl
theorem step_go (x : Nat) (h : x < 4294967296) : bits .xor .u32 ((x : Int) / 2) (3988292384 * bits .and .u32 (x : Int) 1 % 4294967296) = ((M.step x : Nat) : Int) := by
  have h1 := u32_and_nat x 1 h (by omega)
  rw [show ((1 : Nat) : Int) = 1 from rfl] at h1
  rw [h1, Nat.and_one_is_mod]
  have h2 : 3988292384 * ((x % 2 : Nat) : Int) % 4294967296 = ((if x % 2 = 1 then M.poly else 0 : Nat) : Int) := by
    unfold M.poly
    rcases Nat.mod_two_eq_zero_or_one x with e | e <;> rw [e] <;> rfl
  have h3 := u32_xor_nat (x / 2) (if x % 2 = 1 then M.poly else 0) (by omega) (by unfold M.poly; split <;> omega)
  rw [h2, show (x : Int) / 2 = ((x / 2 : Nat) : Int) by omega, h3]
  unfold M.step
  rw [M.shr1]
/-- The table when its first k places are filled. -/
def tabK (k : Nat) : Array Value := ((List.range 256).map fun i => Value.int .u32 (if i < k then M.steps 8 i else 0 : Nat)).toArray
theorem tabK_zero : tabK 0 = Array.replicate 256 (.int .u32 0) := by
  apply Array.ext
  · simp [tabK]
  · intro i h1 h2
    simp [tabK]
theorem tabK_set (k : Nat) : (tabK k).setIfInBounds k (.int .u32 (M.steps 8 k : Nat)) = tabK (k + 1) := by
  apply Array.ext
  · simp [tabK]
  · intro i h1 h2
    rw [Array.getElem_setIfInBounds (by simpa using h1)]
    split
    · rename_i e; subst e; simp [tabK]
    · simp only [tabK, List.getElem_toArray, List.getElem_map, List.getElem_range]
      congr 2
      by_cases h3 : i < k
      · rw [if_pos h3, if_pos (by omega)]
      · rw [if_neg h3, if_neg (by omega)]
theorem tabK_cell (k : Nat) (h : k < 256) : (tabK k)[k]? = some (.int .u32 0) := by
  simp [tabK, h]
theorem tabK_full : tabK 256 = tabC := by
  unfold tabK tabC
  apply congrArg List.toArray
  apply List.map_congr_left
  intro i hi
  rw [if_pos (by simpa using hi)]
theorem Tryz.zero168 (w : World) : (zeroValue 168).run Tryz.prog w = .ok (.agg (Array.replicate 256 (.int .u32 0))) w := by kernel_rfl
set_option maxRecDepth 100000 in
set_option maxHeartbeats 400000 in
theorem table_any (w : World) :
    Calls Tryz.prog 119 #[] w fun e w' => e = .returned (.agg tabC) ∧ Below w.heap.size w w' := by
  have hz := Tryz.zero168
  go_enter Tryz.func119, Tryz.ntmps119
  go_wp2_with fail
  clear hz
  go_loopw [3] (fun i wr => ∃ k : Nat, k ≤ 256 ∧ i = .int .i64 k ∧ wr.heap[w.heap.size]? = some (.cells (tabK k) 168 (0, 0)) ∧ Below w.heap.size w wr)
    (fun i _ => 256 - (intOf i).toNat)
  case atStart => exact ⟨0, by omega, rfl, by rw [tabK_zero]; exact heap_alloc_new _ _, (Below.refl _ _).alloc (Nat.le_refl _) _⟩
  case round =>
    obtain ⟨k, hk, rfl, hg, hb⟩ := hrel
    have hG := Lib.hid hg
    clear hg
    by_cases hlt : k < 256
    · go_wp2_with fail
      go_loop [2, 8] (fun c j => ∃ m x : Nat, m ≤ 8 ∧ j = .int .i64 m ∧ c = .int .u32 (x : Nat) ∧ Hid (x < 4294967296) ∧ Hid (M.steps (8 - m) x = M.steps 8 k)) (fun _ j => 8 - (intOf j).toNat)
      case atStart => exact ⟨0, k, by omega, rfl, by first | rfl | go_num, (show k < 4294967296 by omega), rfl⟩
      case round =>
        obtain ⟨m, x, hm, rfl, rfl, hx, HX⟩ := hrel
        by_cases hm8 : m < 8
        · have hst := step_go x hx.out
          have HY : Hid (M.steps (8 - (m + 1)) (M.step x) = M.steps 8 k) := by
            have := HX.out
            rw [show 8 - m = (8 - (m + 1)) + 1 by omega] at this
            exact this
          go_wp2_with fail
          go_round
          case rel => exact ⟨m + 1, M.step x, by omega, by go_num, rfl, M.step_lt x hx.out, HY⟩
          case measure => simp [intOf]; omega
        · have hxk : x = M.steps 8 k := by have := HX.out; rw [show 8 - m = 0 by omega] at this; exact this
          have hcell : wr.cell? ⟨w.heap.size, k, none⟩ = some (.int .u32 0) := by rw [cell_of_row wr _ _ _ _ _ hG.out]; exact tabK_cell k hlt
          have hfr : wr.frozen? ⟨w.heap.size, k, none⟩ = false := frozen_of_row wr _ _ _ _ hG.out
          have HXK := Lib.hid hxk
          clear hxk
          go_wp2_with fail
          go_roundw
          case rel => exact ⟨k + 1, by omega, by go_num, by rw [HXK.out, heap_setCell_same wr _ _ _ _ _ hG.out, tabK_set k], hb.setCell (Nat.le_refl _) _⟩
          case measure => simp [intOf]; omega
    · have hkk : k = 256 := by omega
      have hg : wr.heap[w.heap.size]? = some (.cells tabC 168 (0, 0)) := by rw [hG.out, hkk, tabK_full]
      have hset : wr.setRow w.heap.size tabC = wr := setRow_self wr _ _ _ _ hg
      clear hG
      go_wp2_with (first | (refine wpList_store_row rfl 168 _ _ rfl w.heap.size tabC rfl rfl 168 tabC hg (by kernel_rfl) rfl tabC_one ?_) | (refine wpList_load_row rfl 168 _ rfl w.heap.size rfl 168 _ (0, 0) _ hg Tryz.underlying168 rfl (by kernel_rfl) ?_))
      rw [hset]
      exact bodyPost_ret (v := .agg tabC) (results_cell_row rfl _ _ w.heap.size 168 tabC (0, 0) _ rfl hg Tryz.underlying168 rfl (by kernel_rfl)) rfl ⟨rfl, hb⟩
theorem xor_u8 (c : Nat) (b : UInt8) : bits .xor .u8 ((c : Int) % 256) (b.toNat : Int) = ((c % 256 ^^^ b.toNat : Nat) : Int) := by
  have h := u8_xor_nat (c % 256) b.toNat (by omega) b.toNat_lt
  rw [← h]; rfl
theorem xor_lt256 (c : Nat) (b : UInt8) : (c % 256 ^^^ b.toNat) < 256 := Nat.xor_lt_two_pow (n := 8) (by omega) b.toNat_lt
theorem xor_u32 (c : Nat) (b : Nat) (hc : c < 4294967296) (hb : b < 256) : bits .xor .u32 (M.steps 8 (c % 256 ^^^ b) : Nat) ((c : Int) / 256) = ((M.crcB c b : Nat) : Int) := by
  have h := u32_xor_nat (M.steps 8 (c % 256 ^^^ b)) (c / 256) (M.steps_lt 8 _ (M.xor_lt32 (by omega) (by omega))) (by omega)
  rw [M.crcB_table, Nat.shiftRight_eq_div_pow]
  rw [show ((c / 256 : Nat) : Int) = (c : Int) / 256 by omega] at h
  rw [h]
set_option maxRecDepth 100000 in
set_option maxHeartbeats 400000 in
theorem sum1_any (gt gc : Nat) (c : Nat) (b : UInt8) (w : World)
   (ht : w.heap[gt]? = some (.cells tabC 168 (0, 0))) (hc : w.heap[gc]? = some (.cells #[.int .u32 c] 110 (0, 0))) (hlt : c < 4294967296) :
    Calls Tryz.prog 120 #[.int .u8 b.toNat, .pointer (some ⟨gt, 0, none⟩), .pointer (some ⟨gc, 0, none⟩)] w fun e w' => e = .returned (.tuple #[]) ∧ w' = (w.setCell ⟨gc, 0, none⟩ (.int .u32 (M.crcB c b.toNat : Nat))).drew := by
  have h1 := xor_u8 c b
  have h2 := xor_lt256 c b
  have h3 := xor_u32 c b.toNat hlt b.toNat_lt
  have h4 : w.cell? ⟨gc, 0, none⟩ = some (.int .u32 c) := by rw [cell_of_row w gc 0 _ _ _ hc]; rfl
  have h5 : w.frozen? ⟨gc, 0, none⟩ = false := frozen_of_row w gc 0 _ _ hc
  have h6 : w.cell? ⟨gt, (c % 256 ^^^ b.toNat), none⟩ = some (.int .u32 (M.steps 8 (c % 256 ^^^ b.toNat) : Nat)) := by rw [cell_of_row w gt _ _ _ _ ht]; exact tabC_at _ h2
  have h7 : ((c % 256 ^^^ b.toNat : Nat) : Int) < 256 := by omega
  go_enter Tryz.func120, Tryz.ntmps120
  go_wp2_with fail
  go_region
  all_goals (go_end0; exact ⟨rfl, rfl⟩)
theorem take_snoc (s : ByteArray) (k : Nat) (h : k < s.size) : s.data.toList.take (k + 1) = s.data.toList.take k ++ [s[k]] := by
  rw [List.take_succ_eq_append_getElem (by simpa using h)]; rfl
theorem crc_snoc (s : ByteArray) (k : Nat) (h : k < s.size) : M.crcL 4294967295 (s.data.toList.take (k + 1)) = M.crcB (M.crcL 4294967295 (s.data.toList.take k)) (s[k]).toNat := by
  rw [take_snoc s k h, M.crcL_append]; rfl
set_option maxRecDepth 100000 in
set_option maxHeartbeats 400000 in
theorem sum_any (s : ByteArray) (w : World) (hs : s.size ≤ 1000000000000000000) :
    Calls Tryz.prog 53 #[.string s] w fun e w' => e = .returned (.int .u32 (M.sum s.data.toList : Nat)) ∧ Below w.heap.size w w' := by
  have hz := Tryz.zero168
  go_enter Tryz.func53, Tryz.ntmps53
  go_wp2_with fail
  refine (table_any _).mono ?_
  rintro e w1 ⟨rfl, hb⟩
  go_wp2_with fail
  rw [run_storeCells_new w1 168 _ tabC Tryz.size168 (by rw [tabC_size, Array.size_replicate]) tabC_one]
  go_wp2_with fail
  clear hz
  go_loopw [11] (fun i wr => ∃ k c : Nat, k ≤ s.size ∧ i = .int .i64 k ∧ Hid (c < 4294967296) ∧ Hid (c = M.crcL 4294967295 (s.data.toList.take k)) ∧ wr.heap[w1.heap.size]? = some (.cells tabC 168 (0, 0)) ∧ wr.heap[w1.heap.size + 1]? = some (.cells #[.int .u32 c] 110 (0, 0)) ∧ Below w.heap.size w wr) (fun i _ => s.size - (intOf i).toNat)
  case atStart => exact ⟨0, 4294967295, by omega, rfl, (show 4294967295 < 4294967296 by omega), rfl, heap_alloc2_old _ _ _, heap_alloc2_new _ _ _, (hb.alloc hb.size _).alloc (by rw [World.size_alloc]; have := hb.size; omega) _⟩
  case round =>
    obtain ⟨k, c, hk, rfl, hc, HC, hgt, hgc, hbr⟩ := hrel
    have Hgt := Lib.hid hgt
    have Hgc := Lib.hid hgc
    clear hgt hgc
    by_cases hlt : k < s.size
    · go_wp2_with fail
      refine (sum1_any w1.heap.size (w1.heap.size + 1) c (s[k]) _ Hgt.out Hgc.out hc.out).mono ?_
      rintro e w2 ⟨rfl, h1⟩
      have H1 := Lib.hid h1
      clear h1
      go_wp2_with fail
      go_roundw
      case rel =>
        refine ⟨k + 1, M.crcB c (s[k]).toNat, by omega, by go_num, M.crcB_lt c _ hc.out (s[k]).toNat_lt, (show M.crcB c (s[k]).toNat = _ by rw [crc_snoc s k hlt, ← HC.out]), ?_, ?_, ?_⟩
        · rw [H1.out, heap_drew, heap_setCell_other _ _ _ _ (by simp), Hgt.out]
        · rw [H1.out, heap_drew, heap_setCell_same _ _ _ _ _ _ Hgc.out]; rfl
        · rw [H1.out]
          exact (hbr.setCell (by have := hb.size; simp; omega) _).drew
      case measure => simp [intOf]; omega
    · have h4 : wr.cell? ⟨w1.heap.size + 1, 0, none⟩ = some (.int .u32 c) := by rw [cell_of_row wr _ 0 _ _ _ Hgc.out]; rfl
      have hkk : k = s.size := by omega
      have HF : Hid (bits .xor .u32 IntKind.u32.max (c : Int) = ((M.sum s.data.toList : Nat) : Int)) := by
        have h1 := HC.out
        rw [List.take_of_length_le (by rw [hkk]; exact Nat.le_refl _)] at h1
        unfold M.sum
        rw [← h1]
        exact not_u32 c hc.out
      go_wp2_with fail
      go_ret
      exact ⟨ret_int HF.out, hbr⟩
end Go.Proofs.YtpdckpifhniioaaGreat.Oct
end
section
set_option linter.unusedVariables false
set_option linter.unusedSimpArgs false
namespace Go.Proofs.YtpdckpifhniioaaGreat.Oct
open Go.RowKit
open Go.Proofs.YtpdckpifhniioaaGreat
/-- Block b is a reader of s at place p; f: has a call failed? -/
def Rd (T : TypeId) (b : Nat) (s : ByteArray) (p : Nat) (f : Bool) (w : World) : Prop := ∃ zs : List Value, w.heap[b]? = some (.cells (([.string s, .int .i64 (p : Int), .bool f] : List Value) ++ zs).toArray T (0, 0))
theorem Rd.c0 {T b s p f w} (h : Rd T b s p f w) : w.cell? ⟨b, 0, none⟩ = some (.string s) := by obtain ⟨zs, h⟩ := h; rw [cell_of_row w b 0 _ _ _ h]; simp
theorem Rd.c1 {T b s p f w} (h : Rd T b s p f w) : w.cell? ⟨b, 1, none⟩ = some (.int .i64 (p : Int)) := by obtain ⟨zs, h⟩ := h; rw [cell_of_row w b 1 _ _ _ h]; simp
theorem Rd.c2 {T b s p f w} (h : Rd T b s p f w) : w.cell? ⟨b, 2, none⟩ = some (.bool f) := by obtain ⟨zs, h⟩ := h; rw [cell_of_row w b 2 _ _ _ h]; simp
theorem Rd.fz {T b s p f w} (h : Rd T b s p f w) (j : Nat) : w.frozen? ⟨b, j, none⟩ = false := by obtain ⟨zs, h⟩ := h; exact frozen_of_row w b j _ _ h
theorem Rd.put1 {T b s p f w} (h : Rd T b s p f w) (q : Nat) : Rd T b s q f (w.setCell ⟨b, 1, none⟩ (.int .i64 (q : Int))) := by
  obtain ⟨zs, h⟩ := h; refine ⟨zs, ?_⟩; rw [heap_setCell_same _ _ _ _ _ _ h]; simp
theorem Rd.put2 {T b s p f w} (h : Rd T b s p f w) (g : Bool) : Rd T b s p g (w.setCell ⟨b, 2, none⟩ (.bool g)) := by
  obtain ⟨zs, h⟩ := h; refine ⟨zs, ?_⟩; rw [heap_setCell_same _ _ _ _ _ _ h]; simp
theorem grown_refl (b : Nat) (w : World) : w.grownBy w (some b) := ⟨rfl, rfl, rfl, Nat.le_refl _, fun _ _ _ => rfl⟩
theorem grown_trans {b : Nat} {w w1 w2 : World} (h : w.grownBy w1 (some b)) (k : w1.grownBy w2 (some b)) : w.grownBy w2 (some b) :=
  ⟨k.os.trans h.os, k.tape.trans h.tape, k.output.trans h.output, Nat.le_trans h.size k.size, fun i hi hn => (k.block i (Nat.lt_of_lt_of_le hi h.size) hn).trans (h.block i hi hn)⟩
theorem grown_set {b : Nat} {w w1 : World} (h : w.grownBy w1 (some b)) (j : Nat) (v : Value) : w.grownBy (w1.setCell ⟨b, j, none⟩ v) (some b) :=
  ⟨h.os, h.tape, h.output, by simpa [World.setCell] using h.size, fun i hi hn => by rw [heap_setCell_other _ _ _ _ (by intro e; exact hn (by rw [e]))]; exact h.block i hi hn⟩
theorem grown_drewN {b n : Nat} {w w1 : World} (h : w.grownBy w1 (some b)) : w.grownBy (w1.drewN n) (some b) := ⟨h.os, h.tape, h.output, h.size, h.block⟩
theorem grown_below {b : Nat} {w w1 : World} (h : Below w.heap.size w w1) : w.grownBy w1 (some b) := ⟨h.os, h.tape, h.output, h.size, fun i hi _ => h.block i hi⟩
theorem read_any (s : ByteArray) (w : World) :
    Calls Tryz.prog 58 #[.string s] w fun e w' => e = .returned (.pointer (some ⟨w.heap.size, 0, none⟩)) ∧ w.alloc (.cells #[.string s, .int .i64 0, .bool false] 174) = w' := by
  go_enter Tryz.func58, Tryz.ntmps58
  go_wp2_with fail
  go_ret
  exact ⟨rfl, rfl⟩
theorem failed_any (b : Nat) (s : ByteArray) (p : Nat) (f : Bool) (w : World) (h : Rd 174 b s p f w) :
    Calls Tryz.prog 61 #[.pointer (some ⟨b, 0, none⟩)] w fun e w' => e = .returned (.bool f) ∧ w = w' := by
  have h2 := h.c2
  go_enter Tryz.func61, Tryz.ntmps61
  go_wp2_with fail
  go_ret
  exact ⟨rfl, rfl⟩
theorem left_any (b : Nat) (s : ByteArray) (p : Nat) (f : Bool) (w : World) (h : Rd 174 b s p f w) (hs : s.size ≤ 1000000000000000000) (hp : p ≤ s.size) :
    Calls Tryz.prog 63 #[.pointer (some ⟨b, 0, none⟩)] w fun e w' => e = .returned (.int .i64 ((s.size : Int) - p)) ∧ ∃ n, w' = w.drewN n := by
  have h0 := h.c0
  have h1 := h.c1
  go_enter Tryz.func63, Tryz.ntmps63
  go_wp2_with fail
  go_quiet (fail)
  go_wp2_with fail
  go_ret
  exact ⟨rfl, _, rfl⟩
theorem Rd.drewN {T b s p f w} (h : Rd T b s p f w) (n : Nat) : Rd T b s p f (w.drewN n) := h
theorem take_no (b : Nat) (s : ByteArray) (p : Nat) (f : Bool) (w : World) (n : Int) (h : Rd 174 b s p f w) (hs : s.size ≤ 1000000000000000000) (hp : p ≤ s.size)
    (hn : f = true ∨ n < 0 ∨ (s.size : Int) - p < n) :
    Calls Tryz.prog 64 #[.pointer (some ⟨b, 0, none⟩), .int .i64 n] w fun e w' => e = .returned (.string ⟨#[]⟩) ∧ w.grownBy w' (some b) ∧ Rd 174 b s p true w' := by
  have h2 := h.c2
  have hf := h.fz 2
  cases f with
  | true =>
    clear hn
    go_enter Tryz.func64, Tryz.ntmps64
    go_wp2_with fail
    go_ret
    exact ⟨rfl, grown_set (grown_refl _ _) _ _, h.put2 _⟩
  | false =>
    by_cases h0 : n < 0
    · clear hn
      go_enter Tryz.func64, Tryz.ntmps64
      go_wp2_with fail
      go_ret
      exact ⟨rfl, grown_set (grown_refl _ _) _ _, h.put2 _⟩
    · have h3 : (s.size : Int) - p < n := by rcases hn with h | h | h <;> first | omega | simp at h
      clear hn
      go_enter Tryz.func64, Tryz.ntmps64
      go_wp2_with fail
      refine (left_any b s p false _ h hs hp).mono ?_
      rintro e w1 ⟨rfl, nq, hw⟩
      subst hw
      have h2' : (w.drewN nq).cell? ⟨b, 2, none⟩ = some (.bool false) := h2
      have hf' : (w.drewN nq).frozen? ⟨b, 2, none⟩ = false := hf
      go_wp2_with fail
      go_ret
      exact ⟨rfl, grown_set (grown_drewN (grown_refl _ _)) _ _, (h.drewN nq).put2 _⟩
set_option maxHeartbeats 400000 in
theorem take_yes (b : Nat) (s : ByteArray) (p : Nat) (w : World) (n : Nat) (h : Rd 174 b s p false w) (hs : s.size ≤ 1000000000000000000) (hp : p + n ≤ s.size) :
    Calls Tryz.prog 64 #[.pointer (some ⟨b, 0, none⟩), .int .i64 n] w fun e w' => e = .returned (.string (s.extract p (p + n))) ∧ w.grownBy w' (some b) ∧ Rd 174 b s (p + n) false w' := by
  have h2 := h.c2
  have h3 : ¬ ((s.size : Int) - p < (n : Int)) := by omega
  go_enter Tryz.func64, Tryz.ntmps64
  go_wp2_with fail
  refine (left_any b s p false _ h hs (by omega)).mono ?_
  rintro e w1 ⟨rfl, nq, hw⟩
  subst hw
  have h0' : (w.drewN nq).cell? ⟨b, 0, none⟩ = some (.string s) := h.c0
  have h1' : (w.drewN nq).cell? ⟨b, 1, none⟩ = some (.int .i64 (p : Int)) := h.c1
  have hf' : (w.drewN nq).frozen? ⟨b, 1, none⟩ = false := h.fz 1
  go_wp2_with fail
  go_quiet (fail)
  go_wp2_with fail
  go_ret
  exact ⟨rfl, grown_drewN (grown_set (grown_drewN (grown_refl _ _)) _ _), (Rd.put1 (Rd.drewN h _) (p + n)).drewN _⟩
/-- What Take gives: the bytes, the place, whether it has failed. -/
def takeRes (s : ByteArray) (p : Nat) (f : Bool) (n : Int) : ByteArray × Nat × Bool :=
  if f = true ∨ n < 0 ∨ (s.size : Int) - p < n then (⟨#[]⟩, p, true) else (s.extract p (p + n.toNat), p + n.toNat, false)
theorem takeRes_le (s : ByteArray) (p : Nat) (f : Bool) (n : Int) (hp : p ≤ s.size) : (takeRes s p f n).2.1 ≤ s.size := by
  unfold takeRes
  split
  · exact hp
  · show p + n.toNat ≤ s.size
    omega
theorem takeRes_size (s : ByteArray) (p : Nat) (f : Bool) (n : Int) : (takeRes s p f n).1.size ≤ s.size := by
  unfold takeRes
  split
  · exact Nat.zero_le _
  · simp; omega
theorem take_any (b : Nat) (s : ByteArray) (p : Nat) (f : Bool) (w : World) (n : Int) (h : Rd 174 b s p f w) (hs : s.size ≤ 1000000000000000000) (hp : p ≤ s.size) :
    Calls Tryz.prog 64 #[.pointer (some ⟨b, 0, none⟩), .int .i64 n] w fun e w' => e = .returned (.string (takeRes s p f n).1) ∧ w.grownBy w' (some b) ∧ Rd 174 b s (takeRes s p f n).2.1 (takeRes s p f n).2.2 w' := by
  by_cases hn : f = true ∨ n < 0 ∨ (s.size : Int) - p < n
  · have e : takeRes s p f n = (⟨#[]⟩, p, true) := by unfold takeRes; rw [if_pos hn]
    rw [e]
    exact take_no b s p f w n h hs hp hn
  · have e : takeRes s p f n = (s.extract p (p + n.toNat), p + n.toNat, false) := by unfold takeRes; rw [if_neg hn]
    rw [e]
    have hf : f = false := by cases f <;> simp_all
    subst hf
    obtain ⟨m, rfl⟩ := Int.eq_ofNat_of_zero_le (show 0 ≤ n by omega)
    rw [Int.toNat_natCast]
    exact take_yes b s p w m h hs (by omega)
namespace M
/-- The scan: index, what was gathered, what is left; the value and the number of bytes. -/
def dec : Nat → Nat → List UInt8 → Option (Nat × Nat)
  | _, _, [] => none
  | i, u, b :: l =>
    if 10 ≤ i then none
    else if 128 ≤ b.toNat then dec (i + 1) (u + b.toNat % 128 * 128 ^ i) l
    else if (0 < i ∧ b.toNat = 0) ∨ (i = 9 ∧ 1 < b.toNat) then none
    else some (u + b.toNat * 128 ^ i, i + 1)
theorem dec_ten (i u : Nat) (l : List UInt8) (h : 10 ≤ i) : dec i u l = none := by
  cases l with
  | nil => rfl
  | cons b l => rw [dec, if_pos h]
theorem dec_more (i u : Nat) (b : UInt8) (l : List UInt8) (h : i < 10) (hb : 128 ≤ b.toNat) : dec i u (b :: l) = dec (i + 1) (u + b.toNat % 128 * 128 ^ i) l := by
  rw [dec, if_neg (by omega), if_pos hb]
theorem dec_bad (i u : Nat) (b : UInt8) (l : List UInt8) (h : i < 10) (hb : b.toNat < 128) (hz : (0 < i ∧ b.toNat = 0) ∨ (i = 9 ∧ 1 < b.toNat)) : dec i u (b :: l) = none := by
  rw [dec, if_neg (by omega), if_neg (by omega), if_pos hz]
theorem dec_good (i u : Nat) (b : UInt8) (l : List UInt8) (h : i < 10) (hb : b.toNat < 128) (hz : ¬ ((0 < i ∧ b.toNat = 0) ∨ (i = 9 ∧ 1 < b.toNat))) : dec i u (b :: l) = some (u + b.toNat * 128 ^ i, i + 1) := by
  rw [dec, if_neg (by omega), if_neg (by omega), if_neg hz]
theorem pow9 : (128 : Nat) ^ 9 = 9223372036854775808 := by decide
theorem pow_le9 (i : Nat) (h : i ≤ 9) : (128 : Nat) ^ i ≤ 9223372036854775808 := by
  rw [← pow9]; exact Nat.pow_le_pow_right (by omega) h
theorem pow_pos' (i : Nat) : 0 < (128 : Nat) ^ i := Nat.pow_pos (by omega)
/-- An encoding is decoded, whatever follows. -/
theorem dec_leb (r : Nat) : ∀ (i u : Nat) (rest : List UInt8), i + (leb r).length ≤ 10 → (i = 0 ∨ r ≠ 0) → r * 128 ^ i < 18446744073709551616 →
    dec i u (leb r ++ rest) = some (u + r * 128 ^ i, i + (leb r).length) := by
  induction r using Nat.strongRecOn with
  | _ r ih =>
    intro i u rest hl h0 hb
    have hp := leb_pos r
    by_cases h : r < 128
    · rw [leb_small r h, List.cons_append, List.nil_append]
      have hr : (UInt8.ofNat r).toNat = r := by simp; omega
      rw [dec_good i u _ rest (by omega) (by omega)]
      · rw [hr]; rfl
      · rw [hr]
        rintro (⟨h1, h2⟩ | ⟨h1, h2⟩)
        · omega
        · subst h1; rw [pow9] at hb; omega
    · have hll : (leb r).length = (leb (r / 128)).length + 1 := by rw [leb_large r h]; rfl
      have hr : (UInt8.ofNat (r % 128 + 128)).toNat = r % 128 + 128 := by simp; omega
      rw [hll]
      rw [leb_large r h, List.cons_append, dec_more i u _ _ (by omega) (by omega), hr]
      have e : (r / 128) * 128 ^ (i + 1) = (r / 128 * 128) * 128 ^ i := by rw [Nat.pow_succ]; rw [Nat.mul_assoc, Nat.mul_comm (128 ^ i) 128]
      have e2 : (r % 128 + 128) % 128 = r % 128 := by omega
      rw [e2, ih (r / 128) (by omega) (i + 1) _ rest (by omega) (by omega) (by rw [e]; exact Nat.lt_of_le_of_lt (Nat.mul_le_mul_right _ (by omega)) hb), e]
      have e3 : u + r % 128 * 128 ^ i + r / 128 * 128 * 128 ^ i = u + r * 128 ^ i := by
        rw [Nat.add_assoc, ← Nat.add_mul]; congr 2; omega
      rw [e3]
      congr 2; omega
/-- What is decoded is an encoding. -/
theorem dec_inv : ∀ (l : List UInt8) (i u v n : Nat), dec i u l = some (v, n) →
    ∃ r rest, l = leb r ++ rest ∧ v = u + r * 128 ^ i ∧ n = i + (leb r).length ∧ (i = 0 ∨ r ≠ 0) ∧ i + (leb r).length ≤ 10 ∧ r * 128 ^ i < 18446744073709551616
  | [], i, u, v, n, h => by simp [dec] at h
  | b :: l, i, u, v, n, h => by
    by_cases hi : 10 ≤ i
    · rw [dec_ten _ _ _ hi] at h; simp at h
    · by_cases hb : 128 ≤ b.toNat
      · rw [dec_more i u b l (by omega) hb] at h
        obtain ⟨r, rest, h1, h2, h3, h4, h5, h6⟩ := dec_inv l (i + 1) _ v n h
        have hr : r ≠ 0 := by omega
        have hbl := b.toNat_lt
        have e1 : (b.toNat % 128 + 128 * r) % 128 = b.toNat % 128 := by omega
        have e2 : (b.toNat % 128 + 128 * r) / 128 = r := by omega
        have hL : leb (b.toNat % 128 + 128 * r) = b :: leb r := by
          rw [leb_large _ (by omega), e1, e2]
          congr 1
          apply UInt8.toNat_inj.1
          simp; omega
        have e3 : (b.toNat % 128 + 128 * r) * 128 ^ i = b.toNat % 128 * 128 ^ i + r * 128 ^ (i + 1) := by
          rw [Nat.add_mul, Nat.pow_succ]; congr 1; rw [Nat.mul_comm 128 r, Nat.mul_assoc, Nat.mul_comm 128]
        refine ⟨b.toNat % 128 + 128 * r, rest, by rw [hL, h1]; rfl, by rw [h2, e3]; omega, by rw [h3, hL, List.length_cons]; omega, by omega, by rw [hL, List.length_cons]; omega, ?_⟩
        have hlast : r * 128 ^ (i + 1) < 18446744073709551616 := h6
        rw [e3]
        have hp := pow_le9 i (by omega)
        have h9 : i + 1 ≤ 9 := by have := leb_pos r; omega
        have hd : ∃ m, 18446744073709551616 = m * 128 ^ (i + 1) := by
          have : i + 1 = 1 ∨ i + 1 = 2 ∨ i + 1 = 3 ∨ i + 1 = 4 ∨ i + 1 = 5 ∨ i + 1 = 6 ∨ i + 1 = 7 ∨ i + 1 = 8 ∨ i + 1 = 9 := by omega
          rcases this with e | e | e | e | e | e | e | e | e <;> rw [e]
          · exact ⟨144115188075855872, by decide⟩
          · exact ⟨1125899906842624, by decide⟩
          · exact ⟨8796093022208, by decide⟩
          · exact ⟨68719476736, by decide⟩
          · exact ⟨536870912, by decide⟩
          · exact ⟨4194304, by decide⟩
          · exact ⟨32768, by decide⟩
          · exact ⟨256, by decide⟩
          · exact ⟨2, by decide⟩
        obtain ⟨m, hm⟩ := hd
        have hrm : r < m := by
          rw [hm] at hlast
          exact Nat.lt_of_mul_lt_mul_right hlast
        have h7 : (r + 1) * 128 ^ (i + 1) ≤ 18446744073709551616 := by rw [hm]; exact Nat.mul_le_mul_right _ hrm
        have h8 : b.toNat % 128 * 128 ^ i < 128 ^ (i + 1) := by
          rw [Nat.pow_succ, Nat.mul_comm (128 ^ i) 128]
          exact Nat.mul_lt_mul_of_pos_right (by omega) (pow_pos' i)
        rw [Nat.add_mul, Nat.one_mul] at h7
        omega
      · by_cases hz : (0 < i ∧ b.toNat = 0) ∨ (i = 9 ∧ 1 < b.toNat)
        · rw [dec_bad i u b l (by omega) (by omega) hz] at h; simp at h
        · rw [dec_good i u b l (by omega) (by omega) hz] at h
          simp only [Option.some.injEq, Prod.mk.injEq] at h
          have hL : leb b.toNat = [b] := by
            rw [leb_small _ (by omega)]
            congr 1
            apply UInt8.toNat_inj.1
            simp
          refine ⟨b.toNat, l, by rw [hL]; rfl, h.1.symm, by rw [hL]; exact h.2.symm, by omega, by rw [hL]; simp; omega, ?_⟩
          by_cases h9 : i = 9
          · subst h9; rw [pow9]; omega
          · have : (128 : Nat) ^ i ≤ 128 ^ 8 := Nat.pow_le_pow_right (by omega) (by omega)
            have e8 : (128 : Nat) ^ 8 = 72057594037927936 := by decide
            rw [e8] at this
            have := Nat.mul_le_mul (show b.toNat ≤ 127 by omega) this
            omega
/-- Decoding from the start: exactly the encodings of 64-bit numbers. -/
theorem dec_iff (l : List UInt8) (v n : Nat) : dec 0 0 l = some (v, n) ↔ v < 18446744073709551616 ∧ n = (leb v).length ∧ ∃ rest, l = leb v ++ rest := by
  constructor
  · intro h
    obtain ⟨r, rest, h1, h2, h3, _, _, h6⟩ := dec_inv l 0 0 v n h
    have : v = r := by simpa using h2
    subst this
    exact ⟨by simpa using h6, by simpa using h3, rest, h1⟩
  · rintro ⟨h1, h2, rest, h3⟩
    have := dec_leb v 0 0 rest (by have := leb_le v h1; omega) (.inl rfl) (by simpa using h1)
    rw [h3, this, h2]; simp
theorem dec_len (l : List UInt8) (v n : Nat) (h : dec 0 0 l = some (v, n)) : 1 ≤ n ∧ n ≤ l.length ∧ n ≤ 10 := by
  obtain ⟨h1, h2, rest, h3⟩ := (dec_iff l v n).1 h
  have := leb_pos v
  have := leb_le v h1
  rw [h3, List.length_append]; omega
end M
/-- What a reader's Var gives: the number, the place, whether it has failed. -/
def varRes (s : ByteArray) (p : Nat) (f : Bool) : Int × Nat × Bool :=
  if f = true then (0, p, true) else
    match M.dec 0 0 (s.data.toList.drop p) with
    | none => (0, p, true)
    | some (u, n) => (wrap64 (u : Int), p + n, false)
theorem drop_at (s : ByteArray) (p k : Nat) (h : p + k < s.size) : (s.data.toList.drop p).drop k = (s[p + k]'h) :: (s.data.toList.drop p).drop (k + 1) := by
  rw [List.drop_drop, List.drop_drop, List.drop_eq_getElem_cons (by simpa using h)]
  rfl
theorem and127_nat : ∀ x : Fin 256, (x.val &&& 127) = x.val % 128 := by decide +kernel
theorem two_pow7 (k : Nat) : (2 : Nat) ^ (7 * k) = 128 ^ k := by rw [Nat.pow_mul]
/-- One round of the scan's gathering, as the program reckons it. -/
theorem or_acc (k acc y : Nat) (B : UInt8) (hk : k ≤ 9) (ha : acc < 128 ^ k) (hy : y = acc) :
    ∃ y2 : Nat, bits .or .u64 (y : Int) (IntKind.u64.wrap (IntKind.u64.wrap (bits .and .u8 (B.toNat : Int) 127) * 2 ^ (7 * k))) = ((y2 : Nat) : Int) ∧
      (acc + B.toNat % 128 * 128 ^ k < 18446744073709551616 → y2 = acc + B.toNat % 128 * 128 ^ k) := by
  subst hy
  have hB := B.toNat_lt
  have h1 : bits .and .u8 (B.toNat : Int) 127 = ((B.toNat % 128 : Nat) : Int) := by
    have h := u8_and_nat B.toNat 127 hB (by omega)
    rw [show ((127 : Nat) : Int) = 127 from rfl] at h
    rw [h]
    have := and127_nat ⟨B.toNat, hB⟩
    simp only at this
    rw [this]
  have h2 : IntKind.u64.wrap ((B.toNat % 128 : Nat) : Int) = ((B.toNat % 128 : Nat) : Int) := by rw [IntKind.wrap_u64]; omega
  have h3 : IntKind.u64.wrap (((B.toNat % 128 : Nat) : Int) * 2 ^ (7 * k)) = ((B.toNat % 128 * 128 ^ k % 18446744073709551616 : Nat) : Int) := by
    rw [IntKind.wrap_u64, ← two_pow7]
    simp
  have hp := M.pow_le9 k hk
  have h4 := u64_or_nat y (B.toNat % 128 * 128 ^ k % 18446744073709551616) (by omega) (by omega)
  refine ⟨y ||| (B.toNat % 128 * 128 ^ k % 18446744073709551616), by rw [h1, h2, h3, h4], fun hlt => ?_⟩
  rw [Nat.mod_eq_of_lt (by omega)]
  have h5 := Nat.shiftLeft_add_eq_or_of_lt (show y < 2 ^ (7 * k) by rw [two_pow7]; exact ha) (B.toNat % 128)
  rw [Nat.shiftLeft_eq, two_pow7] at h5
  rw [Nat.or_comm, ← h5, Nat.add_comm]
theorem acc_lt (k acc B : Nat) (ha : acc < 128 ^ k) : acc + B % 128 * 128 ^ k < 128 ^ (k + 1) := by
  have h1 : B % 128 * 128 ^ k ≤ 127 * 128 ^ k := Nat.mul_le_mul_right _ (by omega)
  rw [Nat.pow_succ]; omega
theorem acc_small (k x : Nat) (hk : k ≤ 9) (hx : x < 128 ^ k) : x < 18446744073709551616 := by
  have := M.pow_le9 k hk
  omega
theorem good_small (k acc B : Nat) (hk : k ≤ 9) (ha : acc < 128 ^ k) (hB : B < 128) (hz : ¬ (k = 9 ∧ 1 < B)) : acc + B % 128 * 128 ^ k < 18446744073709551616 := by
  by_cases h9 : k = 9
  · subst h9; rw [M.pow9] at *; omega
  · have := acc_lt k acc B ha
    exact acc_small (k + 1) _ (by omega) this
theorem rvar_failed (b : Nat) (s : ByteArray) (p : Nat) (w : World) (h : Rd 174 b s p true w) :
    Calls Tryz.prog 125 #[.pointer (some ⟨b, 0, none⟩)] w fun e w' => e = .returned (.int .i64 0) ∧ w.grownBy w' (some b) ∧ Rd 174 b s p true w' := by
  have h2 := h.c2
  go_enter Tryz.func125, Tryz.ntmps125
  go_wp2_with fail
  go_ret
  exact ⟨rfl, grown_refl _ _, h⟩
set_option maxRecDepth 100000 in
set_option maxHeartbeats 800000 in
theorem rvar_ok (b : Nat) (s : ByteArray) (p : Nat) (w : World) (h : Rd 174 b s p false w) (hs : s.size ≤ 1000000000000000000) (hp : p ≤ s.size) :
    Calls Tryz.prog 125 #[.pointer (some ⟨b, 0, none⟩)] w fun e w' => e = .returned (.int .i64 (varRes s p false).1) ∧ w.grownBy w' (some b) ∧ Rd 174 b s (varRes s p false).2.1 (varRes s p false).2.2 w' := by
  have h2 := h.c2
  go_enter Tryz.func125, Tryz.ntmps125
  go_wp2_with fail
  refine (left_any b s p false _ h hs hp).mono ?_
  rintro e w1 ⟨rfl, nq, hw⟩
  subst hw
  obtain ⟨m, hm⟩ : ∃ m : Nat, m = min 10 (s.size - p) := ⟨_, rfl⟩
  have H0 : Rd 174 b s p false (w.drewN nq) := h
  have HG : w.grownBy (w.drewN nq) (some b) := grown_drewN (grown_refl _ _)
  generalize w.drewN nq = wq at *
  clear h2
  go_wp2_with fail
  all_goals
    go_loopw [3, 17] (fun u i wr => ∃ k acc y : Nat, k ≤ 10 ∧ k ≤ s.size - p ∧ i = .int .i64 k ∧ u = .int .u64 y ∧ Hid (acc < 128 ^ k) ∧ Hid (k ≤ 9 → y = acc) ∧
        Hid (M.dec 0 0 (s.data.toList.drop p) = M.dec k acc ((s.data.toList.drop p).drop k)) ∧ Rd 174 b s p false wr ∧ w.grownBy wr (some b))
      (fun _ i _ => 10 - (intOf i).toNat)
    case atStart => exact ⟨0, 0, 0, by omega, by omega, rfl, rfl, (show 0 < 128 ^ 0 by decide), fun _ => rfl, rfl, H0, HG⟩
    case round =>
      clear H0 HG
      obtain ⟨k, acc, y, hk, hkl, rfl, rfl, hacc, hy, HD, hrd, hg⟩ := hrel
      have h0 := hrd.c0
      have h1 := hrd.c1
      by_cases hlt : k < s.size - p ∧ k < 10
      · have hlt1 : p + k < s.size := by omega
        have hlt2 : (p : Int) + k < s.size := by omega
        have hlt3 : k < 10 := by omega
        clear hlt
        go_wp2_with fail
        have e1 : IntKind.i64.wrap ((p : Int) + k) = (p : Int) + k := IntWalk.i64_in _ (by omega)
        have e2 : (0 : Int) ≤ (p : Int) + k := by omega
        have e3 : ((p : Int) + k).toNat = p + k := by omega
        obtain ⟨B, hB⟩ : ∃ B : UInt8, s[p + k]'hlt1 = B := ⟨_, rfl⟩
        have HL : Hid ((s.data.toList.drop p).drop k = B :: (s.data.toList.drop p).drop (k + 1)) := by rw [← hB]; exact drop_at s p k hlt1
        go_quiet (fail)
        clear e1 e2 e3 hB
        have hBl : (B.toNat : Int) < 256 := by have := B.toNat_lt; omega
        have hrd' : Rd 174 b s p false (wr.drewN nq) := hrd
        have hg' : w.grownBy (wr.drewN nq) (some b) := grown_drewN hg
        clear hrd hg h0 h1
        generalize wr.drewN nq = wt at *
        by_cases hb8 : 128 ≤ B.toNat
        · obtain ⟨y2, hU, hy2⟩ := or_acc k acc y B (by omega) hacc.out (hy.out (by omega))
          have HY := Lib.hid hy2
          clear hy2
          go_wp2_with fail
          go_roundw
          case rel =>
            refine ⟨k + 1, acc + B.toNat % 128 * 128 ^ k, y2, by omega, by omega, by go_num, rfl, acc_lt k acc B.toNat hacc.out, ?_, ?_, hrd', hg'⟩
            · intro hk9
              exact HY.out (acc_small (k + 1) _ hk9 (acc_lt k acc B.toNat hacc.out))
            · show _ = _
              rw [HD.out, HL.out, M.dec_more k acc B _ hlt3 hb8]
          case measure => simp [intOf]; omega
        · by_cases hz1 : 0 < k ∧ B.toNat = 0
          · obtain ⟨hz1, hz2⟩ := hz1
            have HF : Hid (varRes s p false = (0, p, true)) := by
              have : M.dec 0 0 (s.data.toList.drop p) = none := by rw [HD.out, HL.out, M.dec_bad k acc B _ hlt3 (by omega) (.inl ⟨hz1, hz2⟩)]
              show _ = _
              unfold varRes; rw [this]; rfl
            have hc2 := hrd'.c2
            have hf2 := hrd'.fz 2
            go_wp2_with fail
            all_goals
              go_ret
              rw [HF.out]
              exact ⟨rfl, grown_set hg' _ _, hrd'.put2 _⟩
          · by_cases hz2 : k = 9 ∧ 1 < B.toNat
            · obtain ⟨hz3, hz4⟩ := hz2
              have HF : Hid (varRes s p false = (0, p, true)) := by
                have : M.dec 0 0 (s.data.toList.drop p) = none := by rw [HD.out, HL.out, M.dec_bad k acc B _ hlt3 (by omega) (.inr ⟨hz3, hz4⟩)]
                show _ = _
                unfold varRes; rw [this]; rfl
              have hc2 := hrd'.c2
              have hf2 := hrd'.fz 2
              have hz5 : 9 ≤ k := by omega
              have hz6 : ((B.toNat : Int) == 0) = false := by rw [beq_eq_false_iff_ne]; omega
              have hz7 : ((k : Int) == 9) = true := by rw [beq_iff_eq]; omega
              have hz8 : (1 : Int) < B.toNat := by omega
              clear hz3 hz1
              go_wp2_with fail
              all_goals
                go_ret
                rw [HF.out]
                exact ⟨rfl, grown_set hg' _ _, hrd'.put2 _⟩
            · obtain ⟨y2, hU, hy2⟩ := or_acc k acc y B (by omega) hacc.out (hy.out (by omega))
              have HY := Lib.hid hy2
              clear hy2
              have hc1 := hrd'.c1
              have hf1 := hrd'.fz 1
              have hv : y2 = acc + B.toNat * 128 ^ k := by
                have := HY.out (good_small k acc B.toNat (by omega) hacc.out (by omega) (by omega))
                rwa [Nat.mod_eq_of_lt (by omega)] at this
              have HF : Hid (varRes s p false = (wrap64 (y2 : Int), p + (k + 1), false)) := by
                have : M.dec 0 0 (s.data.toList.drop p) = some (y2, k + 1) := by
                  rw [HD.out, HL.out, M.dec_good k acc B _ hlt3 (by omega) (by omega), hv]
                show _ = _
                unfold varRes; rw [this]; rfl
              clear hv
              have hq := hrd'.put1 (p + (k + 1))
              have hq2 := Lib.hid hq
              clear hq
              have hcase : k = 0 ∨ (0 < k ∧ 0 < B.toNat ∧ k ≠ 9) ∨ (0 < k ∧ 0 < B.toNat ∧ k = 9 ∧ B.toNat ≤ 1) := by omega
              rcases hcase with hk0 | ⟨hk0, hB0, hk9⟩ | ⟨hk0, hB0, hk9, hB1⟩
              · have hz5 : ¬ (0 : Int) < k := by omega
                have hz7 : ((k : Int) == 9) = false := by rw [beq_eq_false_iff_ne]; omega
                have hk1 : k ≤ 0 := by omega
                clear hz1 hz2 hk0
                go_wp2_with fail
                all_goals
                  go_ret
                  rw [HF.out]
                  exact ⟨rfl, grown_set hg' _ _, hq2.out⟩
              · have hz6 : ((B.toNat : Int) == 0) = false := by rw [beq_eq_false_iff_ne]; omega
                have hz7 : ((k : Int) == 9) = false := by rw [beq_eq_false_iff_ne]; omega
                clear hz1 hz2 hk9
                go_wp2_with fail
                all_goals
                  go_ret
                  rw [HF.out]
                  exact ⟨rfl, grown_set hg' _ _, hq2.out⟩
              · have hz6 : ((B.toNat : Int) == 0) = false := by rw [beq_eq_false_iff_ne]; omega
                have hz7 : ((k : Int) == 9) = true := by rw [beq_iff_eq]; omega
                have hz8 : ¬ (1 : Int) < B.toNat := by omega
                have hz9 : 9 ≤ k := by omega
                clear hz1 hz2 hk9 hB1
                go_wp2_with fail
                all_goals
                  go_ret
                  rw [HF.out]
                  exact ⟨rfl, grown_set hg' _ _, hq2.out⟩
      · have HF : Hid (varRes s p false = (0, p, true)) := by
          have : M.dec 0 0 (s.data.toList.drop p) = none := by
            rw [HD.out]
            by_cases hk10 : 10 ≤ k
            · exact M.dec_ten _ _ _ hk10
            · rw [List.drop_drop, List.drop_of_length_le (by simp; omega)]; rfl
          show _ = _
          unfold varRes; rw [this]; rfl
        have hc2 := hrd.c2
        have hf2 := hrd.fz 2
        by_cases hz : (s.size : Int) - p ≤ k
        · by_cases hz10 : 10 ≤ (k : Int)
          · clear hlt
            go_wp2_with fail
            all_goals
              go_ret
              rw [HF.out]
              exact ⟨rfl, grown_set hg _ _, hrd.put2 _⟩
          · clear hlt
            first
              | (exfalso; omega)
              | (go_wp2_with fail
                 all_goals
                   go_ret
                   rw [HF.out]
                   exact ⟨rfl, grown_set hg _ _, hrd.put2 _⟩)
        · have hz10 : 10 ≤ (k : Int) := by omega
          clear hlt
          first
            | (exfalso; omega)
            | (go_wp2_with fail
               all_goals
                 go_ret
                 rw [HF.out]
                 exact ⟨rfl, grown_set hg _ _, hrd.put2 _⟩)
theorem rvar_any (b : Nat) (s : ByteArray) (p : Nat) (f : Bool) (w : World) (h : Rd 174 b s p f w) (hs : s.size ≤ 1000000000000000000) (hp : p ≤ s.size) :
    Calls Tryz.prog 125 #[.pointer (some ⟨b, 0, none⟩)] w fun e w' => e = .returned (.int .i64 (varRes s p f).1) ∧ w.grownBy w' (some b) ∧ Rd 174 b s (varRes s p f).2.1 (varRes s p f).2.2 w' := by
  cases f with
  | true => exact rvar_failed b s p w h
  | false => exact rvar_ok b s p w h hs hp
theorem varRes_le (s : ByteArray) (p : Nat) (f : Bool) (hp : p ≤ s.size) : (varRes s p f).2.1 ≤ s.size := by
  unfold varRes
  split
  · exact hp
  · split
    · exact hp
    · rename_i u n h
      have := M.dec_len _ _ _ h
      have h2 := this.2.1
      simp at h2
      show p + n ≤ s.size
      omega
theorem bt {w w1 w2 : World} (h : Below w.heap.size w w1) (k : Below w1.heap.size w1 w2) : Below w.heap.size w w2 := h.trans (k.mono h.size)
/-- A reader at block b, made since w; below w's blocks nothing has turned. -/
def St (w : World) (b : Nat) (s : ByteArray) (p : Nat) (f : Bool) (x : World) : Prop := Rd 174 b s p f x ∧ w.heap.size ≤ b ∧ Below w.heap.size w x
theorem St.rd {w b s p f x} (h : St w b s p f x) : Rd 174 b s p f x := h.1
theorem St.bl {w b s p f x} (h : St w b s p f x) : Below w.heap.size w x := h.2.2
theorem lt_of_heap {w : World} {b : Nat} {o : Obj} (h : w.heap[b]? = some o) : b < w.heap.size := by
  rcases Nat.lt_or_ge b w.heap.size with h' | h'
  · exact h'
  · rw [Array.getElem?_eq_none h'] at h; simp at h
theorem Rd.keep {T b s p f} {w w1 : World} (h : Rd T b s p f w) (hb : Below w.heap.size w w1) : Rd T b s p f w1 := by
  obtain ⟨zs, h⟩ := h
  have hl := lt_of_heap h
  exact ⟨zs, by rw [hb.block _ hl]; exact h⟩
theorem St.keep {w b s p f x y} (h : St w b s p f x) (hb : Below x.heap.size x y) : St w b s p f y := ⟨h.1.keep hb, h.2.1, bt h.2.2 hb⟩
theorem St.alloc {w b s p f x} (h : St w b s p f x) (o : Obj) : St w b s p f (x.alloc o) := h.keep ((Below.refl _ _).alloc (Nat.le_refl _) o)
theorem St.drew {w b s p f x} (h : St w b s p f x) : St w b s p f x.drew := h.keep ((Below.refl _ _).drew)
theorem St.step {w b s p f q g x y} (h : St w b s p f x) (hg : x.grownBy y (some b)) (hr : Rd 174 b s q g y) : St w b s q g y :=
  ⟨hr, h.2.1, h.2.2.grown hg h.2.2.size (fun k hk => by simp at hk; have := h.2.1; omega)⟩
/-- The cells of l lie in block g from its head on. -/
def Lie (g : Nat) (l : List UInt8) (w : World) : Prop := ∀ j (h : j < l.length), w.cell? ⟨g, j, none⟩ = some (.int .u8 (l[j].toNat : Int))
theorem bytes_lie (x : World) (s : ByteArray) (cap : Nat) (fr : Nat × Nat) : Lie x.heap.size s.data.toList (x.alloc (.cells (bytesRow s cap) 5 fr)) := by
  intro j hj
  rw [World.cell?_alloc_mark, bytesRow_at s cap j (by simpa using hj)]
  rfl
theorem bytesRow_size (s : ByteArray) (cap : Nat) (h : s.size ≤ cap) : (bytesRow s cap).size = cap := by
  unfold bytesRow
  rw [Array.size_append, Array.size_map, Array.size_replicate]
  show s.size + _ = _
  omega
theorem bytes_free (x : World) (s : ByteArray) (cap j : Nat) (h : s.size ≤ cap) (hj : j < cap) :
    (x.alloc (.cells (bytesRow s cap) 5 ((bytesRow s cap).size, (bytesRow s cap).size + 1))).frozen? ⟨x.heap.size, j, none⟩ = false := by
  rw [World.frozen?_alloc_mark, bytesRow_size s cap h]
  simp; omega
theorem bytes_some (x : World) (s : ByteArray) (cap j : Nat) (fr : Nat × Nat) (h : s.size ≤ cap) (hj : j < cap) :
    ((x.alloc (.cells (bytesRow s cap) 5 fr)).cell? ⟨x.heap.size, j, none⟩).isSome = true := by
  rw [World.cell?_alloc_mark, Array.getElem?_eq_getElem (by rw [bytesRow_size s cap h]; exact hj)]; rfl
theorem Lie.set {g : Nat} {l : List UInt8} {w : World} (h : Lie g l w) (i : Nat) (hi : i < l.length) (b : UInt8) : Lie g (l.set i b) (w.setCell ⟨g, i, none⟩ (.int .u8 (b.toNat : Int))) := by
  intro j hj
  have hj' : j < l.length := by simpa using hj
  by_cases e : i = j
  · subst e
    rw [World.cell?_setCell_same _ _ _ (h i hi)]
    simp
  · rw [World.cell?_setCell_other _ _ _ _ (by intro e2; injection e2 with _ e3 _; exact e e3), h j hj', List.getElem_set_ne e]
theorem Lie.conv {g : Nat} {l : List UInt8} {w : World} (h : Lie g l w) (cap : Nat) : (convert 57 9 (.slice (some ⟨g, 0, none⟩) l.length cap)).run Tryz.prog w = .ok (.string ⟨l.toArray⟩) w := by
  refine run_convert_bytes_back (P := Tryz.prog) w 57 9 5 _ cap l Tryz.underlying57 Tryz.underlying5 Tryz.underlying9 fun j hj => ?_
  have : (⟨g, 0, none⟩ : Addr).add j = ⟨g, j, none⟩ := by unfold Addr.add; split <;> simp_all
  rw [this]; exact h j hj
theorem Lie.alloc {g : Nat} {l : List UInt8} {w : World} (h : Lie g l w) (o : Obj) (hg : g < w.heap.size) : Lie g l (w.alloc o) := by
  intro j hj
  have hb := (Below.refl w.heap.size w).alloc (Nat.le_refl _) o
  rw [hb.cell (p := ⟨g, j, none⟩) hg]; exact h j hj
theorem Lie.vals {g : Nat} {l : List UInt8} {w : World} (h : Lie g l w) : ∀ j u, (bvals l)[j]? = some u → w.cell? ⟨g, 0 + j, none⟩ = some u := by
  intro j u hu
  have hj : j < l.length := by have := (List.getElem?_eq_some_iff.1 hu).1; simpa [bvals] using this
  rw [Nat.zero_add, h j hj]
  simp [bvals, List.getElem?_eq_getElem hj] at hu
  rw [hu]
/-- '[]byte(s)': what it leaves. -/
theorem conv_bytes (x : World) (s : ByteArray) : ∃ W cap, (convert 9 57 (.string s)).run Tryz.prog x = .ok (.slice (some ⟨x.heap.size, 0, none⟩) s.size cap) W ∧ s.size ≤ cap ∧ Lie x.heap.size s.data.toList W ∧
    (∀ j, j < cap → W.frozen? ⟨x.heap.size, j, none⟩ = false ∧ (W.cell? ⟨x.heap.size, j, none⟩).isSome = true) ∧ Below x.heap.size x W ∧ x.heap.size < W.heap.size := by
  have hg := grownCap_ge x s.size 0 5
  refine ⟨_, _, run_bytes_of_string (P := Tryz.prog) x 9 57 5 s Tryz.underlying9 Tryz.underlying57 Tryz.underlying5, hg, bytes_lie x.drew s _ _, fun j hj => ⟨bytes_free x.drew s _ j hg hj, bytes_some x.drew s _ j _ hg hj⟩, ?_, ?_⟩
  · exact ((Below.refl _ _).drew).alloc (Nat.le_refl _) _
  · rw [World.size_alloc]; exact Nat.lt_succ_self _
section
variable {P : Program} {ops : Array Oper} {C : World → Prop} {Q : Act → Prop} {rest : List Oper} {o : Oper} {a : Act}
theorem q_val {K : Act → Prop} (h : ∃ v, (∀ x, C x → (execOp a.eval o).run P x = .ok (.value v) x) ∧ K (a.put o.dst v)) : o.quiet P a C K := by
  obtain ⟨v, h, k⟩ := h
  exact ⟨v, fun x hx => by unfold Oper.quietAt; rw [h x hx]; exact ⟨rfl, rfl⟩, k⟩
theorem q_call {K : Act → Prop} (f : FuncId) (h : ∃ args, (∀ x, C x → (execOp a.eval o).run P x = .ok (.enter f args) x) ∧
    ∃ v, (∀ x, C x → Calls P f args x fun e x' => e = .returned v ∧ C x') ∧ K (a.put o.dst v)) : o.quiet P a C K := by
  obtain ⟨args, h, v, hc, k⟩ := h
  exact ⟨v, fun x hx => by unfold Oper.quietAt; rw [h x hx]; exact ⟨rfl, hc x hx⟩, k⟩
theorem q_region {id : Nat} {Q : Exit → Act → World → Prop} {a : Act} {w : World} {l : List Oper} (hm : P.follows .mixedOrders = true) (hB : Region.lexB .any l.toArray = true) (hC : C w.drew)
    (h : wpQuiet P l.toArray C (fun a' => ∀ w', C w' → Q .normal a' w') l a) : (Code.region id l.toArray true).wp P Q a w :=
  wp_region_quiet hm hB hC (by simpa using h)
end
/-- What a reader's Text gives. -/
def textRes (s : ByteArray) (p : Nat) (f : Bool) : ByteArray × Nat × Bool :=
  let v := varRes s p f
  let t := takeRes s v.2.1 v.2.2 v.1
  if t.2.2 = true then (⟨#[]⟩, p, true) else (t.1, t.2.1, false)
theorem takeRes_fail (s : ByteArray) (p : Nat) (f : Bool) (n : Int) (h : (takeRes s p f n).2.2 = true) : (takeRes s p f n).1 = ⟨#[]⟩ := by
  unfold takeRes at *
  split
  · rfl
  · rename_i hh; rw [if_neg hh] at h; simp at h
set_option maxRecDepth 100000 in
set_option maxHeartbeats 400000 in
theorem rtext_any (b : Nat) (s : ByteArray) (p : Nat) (f : Bool) (w : World) (h : Rd 174 b s p f w) (hs : s.size ≤ 1000000000000000000) (hp : p ≤ s.size) :
    Calls Tryz.prog 59 #[.pointer (some ⟨b, 0, none⟩)] w fun e w' => e = .returned (.string (textRes s p f).1) ∧ w.grownBy w' (some b) ∧ Rd 174 b s (textRes s p f).2.1 (textRes s p f).2.2 w' := by
  have hle := varRes_le s p f hp
  have h1 := h.c1
  have hmf : ∀ (fn : Fn) (first cap : Array Value) (w : World), (Instr.makeFunc fn first cap).run Tryz.prog w = .ok (.func fn first cap) w := fun _ _ _ _ => rfl
  go_enter Tryz.func59, Tryz.ntmps59
  go_wp2_with fail
  refine (rvar_any b s p f _ h hs hp).mono ?_
  rintro e x1 ⟨rfl, g1, r1⟩
  clear h1
  go_wp2_with fail
  refine (take_any b s _ _ _ _ r1 hs hle).mono ?_
  rintro e x2 ⟨rfl, g2, r2⟩
  have e2 := r2.c2
  have e1 := r2.fz 1
  have e3 := r2.c1
  have hF := takeRes_fail s (varRes s p f).2.1 (varRes s p f).2.2 (varRes s p f).1
  have HT : Hid (textRes s p f = if (takeRes s (varRes s p f).2.1 (varRes s p f).2.2 (varRes s p f).1).2.2 = true then (⟨#[]⟩, p, true) else ((takeRes s (varRes s p f).2.1 (varRes s p f).2.2 (varRes s p f).1).1, (takeRes s (varRes s p f).2.1 (varRes s p f).2.2 (varRes s p f).1).2.1, false)) := rfl
  generalize takeRes s (varRes s p f).2.1 (varRes s p f).2.2 (varRes s p f).1 = t at *
  obtain ⟨t1, t2, t3⟩ := t
  simp only at *
  cases t3 with
  | true =>
    rw [hF rfl] at *
    clear hF
    go_wp2_with fail
    go_ret
    rw [HT.out]
    exact ⟨rfl, grown_set (grown_trans g1 g2) _ _, r2.put1 _⟩
  | false =>
    clear hF
    go_wp2_with fail
    go_ret
    rw [HT.out]
    exact ⟨rfl, grown_trans g1 g2, r2⟩
def bev (l : List UInt8) : Nat := l.foldl (fun a b => a * 256 + b.toNat) 0
theorem bev_snoc (l : List UInt8) (b : UInt8) : bev (l ++ [b]) = bev l * 256 + b.toNat := by simp [bev]
theorem bev_lt (l : List UInt8) : bev l < 256 ^ l.length := by
  suffices ∀ (l : List UInt8) (a : Nat), l.foldl (fun a b => a * 256 + b.toNat) a < (a + 1) * 256 ^ l.length by
    have := this l 0
    simpa [bev] using this
  intro l
  induction l with
  | nil => intro a; simp
  | cons b l ih =>
    intro a
    have h := ih (a * 256 + b.toNat)
    have hb := b.toNat_lt
    rw [List.foldl_cons, List.length_cons, Nat.pow_succ]
    refine Nat.lt_of_lt_of_le h ?_
    rw [Nat.mul_comm (256 ^ l.length) 256, ← Nat.mul_assoc]
    exact Nat.mul_le_mul_right _ (by omega)
theorem take_lt (l : List UInt8) (j : Nat) (hj : j ≤ 7) : bev (l.take j) < 72057594037927936 := by
  have h := bev_lt (l.take j)
  have h2 : 256 ^ (l.take j).length ≤ 256 ^ 7 := Nat.pow_le_pow_right (by omega) (by rw [List.length_take]; omega)
  omega
theorem take_size (s : ByteArray) (p : Nat) (f : Bool) (n : Int) : (takeRes s p f (sz n)).1.size ≤ 8 := by
  unfold takeRes
  split
  · exact Nat.zero_le _
  · have := sz_le n
    simp; omega
theorem wrap64_small (u : Nat) (h : u < 9223372036854775808) : wrap64 (u : Int) = (u : Int) := IntWalk.wrap64_in _ ⟨by omega, by omega⟩
theorem take_snoc' (t : ByteArray) (j : Nat) (h : j < t.size) : t.data.toList.take (j + 1) = t.data.toList.take j ++ [t.data[j]] := by
  rw [List.take_add_one, List.getElem?_eq_getElem (by simpa using h)]; simp
theorem or_byte (u c : Nat) (hu : u < 72057594037927936) (hc : c < 256) : bits .or .i64 (wrap64 ((u : Int) * 256)) (c : Int) = wrap64 ((u * 256 + c : Nat) : Int) := by
  have hX : (BitVec.ofInt 64 (wrap64 ((u : Int) * 256))).toNat = u * 256 := by
    rw [BitVec.toNat_ofInt]
    unfold wrap64
    omega
  have hc2 : (BitVec.ofInt 64 (c : Int)).toNat = c := by
    rw [BitVec.toNat_ofInt]
    omega
  have h3 : u * 256 ||| c = u * 256 + c := by
    have h5 := Nat.shiftLeft_add_eq_or_of_lt (show c < 2 ^ 8 by omega) u
    rw [Nat.shiftLeft_eq] at h5
    exact h5.symm
  show IntKind.i64.wrap ((BitVec.ofInt 64 (wrap64 ((u : Int) * 256)) ||| BitVec.ofInt 64 (c : Int)).toNat : Int) = _
  rw [BitVec.toNat_or, hX, hc2, h3]
  exact IntWalk.i64_left _
theorem or_byte' (u c : Nat) (hu : u < 72057594037927936) (hc : c < 256) : bits .or .i64 (wrap64 (wrap64 (u : Int) * 256)) (wrap64 (c : Int)) = wrap64 ((u * 256 + c : Nat) : Int) := by
  rw [wrap64_small u (by omega), wrap64_small c (by omega)]
  exact or_byte u c hu hc
set_option maxRecDepth 100000 in
set_option maxHeartbeats 400000 in
theorem num_any (b : Nat) (s : ByteArray) (p : Nat) (f : Bool) (w : World) (n : Int) (h : Rd 174 b s p f w) (hs : s.size ≤ 1000000000000000000) (hp : p ≤ s.size) :
    Calls Tryz.prog 60 #[.pointer (some ⟨b, 0, none⟩), .int .i64 n] w fun e w' => e = .returned (.int .i64 (wrap64 (bev (takeRes s p f (sz n)).1.data.toList))) ∧ w.grownBy w' (some b) ∧ Rd 174 b s (takeRes s p f (sz n)).2.1 (takeRes s p f (sz n)).2.2 w' := by
  go_enter Tryz.func60, Tryz.ntmps60
  go_wp2_with fail
  refine (size_any n _).mono ?_
  rintro e x1 ⟨rfl, rfl⟩
  go_wp2_with fail
  refine (take_any b s p f _ (sz n) h hs hp).mono ?_
  rintro e x2 ⟨rfl, g2, r2⟩
  have hsz := take_size s p f n
  generalize ht : (takeRes s p f (sz n)).1 = t at *
  have HT := Lib.hid ht
  clear ht
  obtain ⟨W1, cap, hcb, hcap, hlie, hfree, hbW, hgW⟩ := conv_bytes x2 t
  go_wp2_with fail
  clear hcb
  have hlen : t.data.toList.length = t.size := Array.length_toList
  have HB : W1.grownBy W1 (some b) := grown_refl _ _
  have G : w.grownBy W1 (some b) := grown_trans g2 (grown_below hbW)
  have R : Rd 174 b s (takeRes s p f (sz n)).2.1 (takeRes s p f (sz n)).2.2 W1 := r2.keep hbW
  clear hfree hbW hgW g2 r2 h
  go_loopw [5, 14] (fun a i wr => ∃ j : Nat, j ≤ t.size ∧ i = .int .i64 j ∧ a = .int .i64 (wrap64 (bev (t.data.toList.take j))) ∧ Hid (wr = W1)) (fun a i _ => t.size - (intOf i).toNat)
  case atStart => exact ⟨0, Nat.zero_le _, rfl, by rw [List.take_zero]; unfold bev wrap64; rfl, rfl⟩
  case round =>
    obtain ⟨j, hj, rfl, rfl, HW⟩ := hrel
    by_cases hlt : j < t.size
    · have hi : j < t.data.toList.length := by omega
      have f1 := hlie j hi
      rw [← HW.out] at f1
      go_wp2_with fail
      go_roundw
      case rel =>
        refine ⟨j + 1, by omega, by go_num, ?_, HW⟩
        rw [take_snoc' t j hlt, bev_snoc]
        congr 1
        exact or_byte' _ _ (take_lt _ _ (by omega)) (UInt8.toNat_lt _)
      case measure => simp [intOf]; omega
    · go_wp2_with fail
      go_ret
      have hje : j = t.size := by omega
      rw [List.take_of_length_le (by omega)]
      rw [HW.out, HT.out]
      exact ⟨rfl, G, R⟩
end Go.Proofs.YtpdckpifhniioaaGreat.Oct
end
section
set_option linter.unusedVariables false
namespace Go.Proofs.YtpdckpifhniioaaGreat
open Go.RowKit
namespace Ab
/-- A reader's block. -/
abbrev rdB (s : ByteArray) (p : Nat) (f : Bool) : Blk := ⟨[.v (.string s), .v (.int .i64 (p : Int)), .v (.bool f)], 174⟩
theorem rd_of {β : Bt} {x : World} {b : Nat} {s : ByteArray} {p : Nat} {f : Bool} (h : BlkAt β x b (rdB s p f)) : Oct.Rd 174 b s p f x := by
  rcases h with (⟨h, _⟩ | ⟨h, _⟩) | ⟨ys, zs, h1, h2, _⟩
  · cases h
  · cases h
  have : ys = [.string s, .int .i64 (p : Int), .bool f] := (plLs_iff (ys := [.string s, .int .i64 (p : Int), .bool f]) rfl β ys).1 h2
  subst this
  exact ⟨zs, h1⟩
theorem of_rd {β : Bt} {x : World} {b : Nat} {s : ByteArray} {p : Nat} {f : Bool} (h : Oct.Rd 174 b s p f x) : BlkAt β x b (rdB s p f) := by
  obtain ⟨zs, h⟩ := h
  exact .inr ⟨_, zs, h, ⟨⟨rfl, rfl⟩, ⟨rfl, rfl⟩, ⟨rfl, rfl⟩, trivial⟩, trivial⟩
/-- A method that moves one reader. -/
theorem reader_ok {F id n : Nat} (hent : Enters Tryz.prog F) {s : ByteArray} {p p' : Nat} {f f' : Bool} {ar : List SV} {vals : List Value} {v : SV} {y : Value} (ha : pls ar = some vals) (hv : v.pl = some y)
    (h : ∀ b w, Oct.Rd 174 b s p f w → Calls Tryz.prog F (.pointer (some ⟨b, 0, none⟩) :: vals).toArray w fun e w' => e = .returned y ∧ w.grownBy w' (some b) ∧ Oct.Rd 174 b s p' f' w') :
    CallOK Tryz.prog F (.c (.l (.p id 0)) :: ar) [(id, rdB s p f)] n v [(id, rdB s p' f')] 0 := by
  refine ⟨hent, fun β x vs hvs hinj hlt hnew hH _ => ?_⟩
  match vs, hvs with
  | q :: vs, ⟨hq, hr⟩ =>
    obtain ⟨b, hb, rfl⟩ := hq
    have hvs := (pls_iff ha β vs).1 hr
    subst hvs
    refine (h b x (rd_of (hH id b _ hb (lk_cons_eq _ _ _)))).mono ?_
    rintro e x' ⟨rfl, hg, hr'⟩
    refine ⟨y, β, rfl, ⟨(SV.pl_iff hv β y).2 rfl, Ext.refl β, fun i c hc => .inl hc, fun i c hc => .inl hc, hinj, fun i c hc => Nat.lt_of_lt_of_le (hlt i c hc) hg.size, hg.os, hg.tape, hg.output, hg.size, fun k hk hne => hg.block k hk (fun e => ?_), fun i c k hc hk => ?_⟩⟩
    · have e : k = b := by simpa using e
      subst e
      have := hne id hb
      rw [lk_cons_eq] at this; cases this
    · have hi : i = id := by
        have := lk_mem hk
        simp only [List.mem_singleton, Prod.mk.injEq] at this; exact this.1
      subst hi
      rw [lk_cons_eq] at hk
      cases hk
      rw [hb] at hc
      cases hc
      exact of_rd hr'
/-- A method that only reads. -/
theorem reader_ro {F id n : Nat} (hent : Enters Tryz.prog F) {s : ByteArray} {p : Nat} {f : Bool} {ar : List SV} {vals : List Value} {v : SV} {y : Value} (ha : pls ar = some vals) (hv : v.pl = some y)
    (h : ∀ b w, Oct.Rd 174 b s p f w → Calls Tryz.prog F (.pointer (some ⟨b, 0, none⟩) :: vals).toArray w fun e w' => e = .returned y ∧ Grow w w') :
    CallOK Tryz.prog F (.c (.l (.p id 0)) :: ar) [(id, rdB s p f)] n v [] 0 := by
  refine ⟨hent, fun β x vs hvs hinj hlt hnew hH _ => ?_⟩
  match vs, hvs with
  | q :: vs, ⟨hq, hr⟩ =>
    obtain ⟨b, hb, rfl⟩ := hq
    have hvs := (pls_iff ha β vs).1 hr
    subst hvs
    refine (h b x (rd_of (hH id b _ hb (lk_cons_eq _ _ _)))).mono ?_
    rintro e x' ⟨rfl, hg⟩
    replace hg : Below x.heap.size x x' := hg
    exact ⟨y, β, rfl, ⟨(SV.pl_iff hv β y).2 rfl, Ext.refl β, fun i c hc => .inl hc, fun i c hc => .inl hc, hinj, fun i c hc => Nat.lt_of_lt_of_le (hlt i c hc) hg.size, hg.os, hg.tape, hg.output, hg.size, fun k hk hne => hg.block k hk, fun i c k hc hk => by cases hk⟩⟩
/-- A function that makes one block. -/
theorem new_ok {F n t : Nat} (hent : Enters Tryz.prog F) {ar : List SV} {vals ys : List Value} (ha : pls ar = some vals) (hl : ∀ y ∈ ys, leafy y = true)
    (h : ∀ w, Calls Tryz.prog F vals.toArray w fun e w' => e = .returned (.pointer (some ⟨w.heap.size, 0, none⟩)) ∧ w' = w.alloc (.cells ys.toArray t)) :
    CallOK Tryz.prog F ar [] n (.c (.l (.p n 0))) [(n, ⟨ys.map .v, .t t⟩)] 1 := by
  refine ⟨hent, fun β x vs hvs hinj hlt hnew hH _ => ?_⟩
  have hvs := (pls_iff ha β vs).1 hvs
  subst hvs
  refine (h x).mono ?_
  rintro e x' ⟨rfl, rfl⟩
  exact ⟨_, β.set n x.heap.size none, rfl, done_new ⟨hinj, hlt⟩ (hnew n (Nat.le_refl _) (by omega)) rfl rfl rfl (by simp) (fun q hq => Below.heap_alloc x _ q hq) ⟨x.heap.size, Bt.set_b _ _ _ _, rfl⟩ (.inr ⟨ys, [], by simpa [BT.ty, BT.fr] using heap_alloc_new x (.cells ys.toArray t), den_vs hl, trivial⟩)⟩
end Ab
end Go.Proofs.YtpdckpifhniioaaGreat
end
section
set_option linter.unusedVariables false
set_option linter.unusedSimpArgs false
namespace Go.Proofs.YtpdckpifhniioaaGreat
open Go.RowKit
namespace Ab
theorem enters53 : Enters Tryz.prog 53 := fun args w => by go_simp
theorem C53 (s : ByteArray) (hs : s.size ≤ 1000000000000000000) (n : Nat) : CallOK Tryz.prog 53 [.c (.l (.v (.string s)))] [] n (iv .u32 (Oct.M.sum s.data.toList : Nat)) [] 0 :=
  call_plain enters53 (vals := [.string s]) (y := .int .u32 (Oct.M.sum s.data.toList : Nat)) rfl rfl n fun x => (Oct.sum_any s x hs).mono fun e x' h => ⟨h.1, by first | exact h.2 | exact h.2 ▸ Grow.refl _⟩
theorem enters48 : Enters Tryz.prog 48 := fun args w => by go_simp
theorem C48 (k : Int)  (n : Nat) : CallOK Tryz.prog 48 [iv .i64 k] [] n (.c (.l (.v (.string ⟨(Oct.M.leb (Oct.u64 k)).toArray⟩)))) [] 0 :=
  call_plain enters48 (vals := [.int .i64 k]) (y := .string ⟨(Oct.M.leb (Oct.u64 k)).toArray⟩) rfl rfl n fun x => (Oct.var_any k x).mono fun e x' h => ⟨h.1, by first | exact h.2 | exact h.2 ▸ Grow.refl _⟩
theorem enters50 : Enters Tryz.prog 50 := fun args w => by go_simp
theorem C50 (k m : Int)  (n : Nat) : CallOK Tryz.prog 50 [iv .i64 k, iv .i64 m] [] n (.c (.l (.v (.string ⟨(Oct.M.be (Oct.sz m) (Oct.u64 k)).toArray⟩)))) [] 0 :=
  call_plain enters50 (vals := [.int .i64 k, .int .i64 m]) (y := .string ⟨(Oct.M.be (Oct.sz m) (Oct.u64 k)).toArray⟩) rfl rfl n fun x => (Oct.put_any k m x).mono fun e x' h => ⟨h.1, by first | exact h.2 | exact h.2 ▸ Grow.refl _⟩
theorem enters55 : Enters Tryz.prog 55 := fun args w => by go_simp
theorem C55 (s : ByteArray) (hs : s.size ≤ 1000000000000000000) (n : Nat) : CallOK Tryz.prog 55 [.c (.l (.v (.string s)))] [] n (.c (.l (.v (.string ⟨(Oct.txt s).toArray⟩)))) [] 0 :=
  call_plain enters55 (vals := [.string s]) (y := .string ⟨(Oct.txt s).toArray⟩) rfl rfl n fun x => (Oct.text_any s x hs).mono fun e x' h => ⟨h.1, by first | exact h.2 | exact h.2 ▸ Grow.refl _⟩
theorem enters125 : Enters Tryz.prog 125 := fun args w => by go_simp
theorem C125 (id : Nat) (s : ByteArray) (P : Int) (f : Bool)  (hs : s.size ≤ 1000000000000000000) (h0 : 0 ≤ P) (hP : P ≤ s.size) (n : Nat) :
    CallOK Tryz.prog 125 [.c (.l (.p id 0))] [(id, ⟨[.v (.string s), .v (.int .i64 P), .v (.bool f)], .t 174⟩)] n (iv .i64 (Oct.varRes s P.toNat f).1) [(id, ⟨[.v (.string s), .v (.int .i64 ((Oct.varRes s P.toNat f).2.1 : Nat)), .v (.bool (Oct.varRes s P.toNat f).2.2)], .t 174⟩)] 0 := by
  have hp : P.toNat ≤ s.size := by omega
  have e : P = (P.toNat : Int) := by omega
  have key := reader_ok (id := id) (n := n) (F := 125) enters125 (s := s) (p := P.toNat) (p' := (Oct.varRes s P.toNat f).2.1) (f := f) (f' := (Oct.varRes s P.toNat f).2.2) (ar := []) (vals := []) (v := iv .i64 (Oct.varRes s P.toNat f).1) (y := .int .i64 (Oct.varRes s P.toNat f).1) rfl rfl (fun b w h => Oct.rvar_any b s P.toNat f w h hs hp)
  unfold rdB at key
  rw [← e] at key
  exact key
def V125 (S : St) (i : Nat) : SV := match S.blk i with | some ⟨[.v (.string s), .v (.int _ p), .v (.bool f)], _⟩ => iv .i64 (Oct.varRes s p.toNat f).1 | _ => .u
def W125 (S : St) (i : Nat) : Blk := match S.blk i with | some ⟨[.v (.string s), .v (.int _ p), .v (.bool f)], _⟩ => ⟨[.v (.string s), .v (.int .i64 ((Oct.varRes s p.toNat f).2.1 : Nat)), .v (.bool (Oct.varRes s p.toNat f).2.2)], .t 174⟩ | _ => ⟨[], .t 0⟩
theorem enters59 : Enters Tryz.prog 59 := fun args w => by go_simp
theorem C59 (id : Nat) (s : ByteArray) (P : Int) (f : Bool)  (hs : s.size ≤ 1000000000000000000) (h0 : 0 ≤ P) (hP : P ≤ s.size) (n : Nat) :
    CallOK Tryz.prog 59 [.c (.l (.p id 0))] [(id, ⟨[.v (.string s), .v (.int .i64 P), .v (.bool f)], .t 174⟩)] n (.c (.l (.v (.string (Oct.textRes s P.toNat f).1)))) [(id, ⟨[.v (.string s), .v (.int .i64 ((Oct.textRes s P.toNat f).2.1 : Nat)), .v (.bool (Oct.textRes s P.toNat f).2.2)], .t 174⟩)] 0 := by
  have hp : P.toNat ≤ s.size := by omega
  have e : P = (P.toNat : Int) := by omega
  have key := reader_ok (id := id) (n := n) (F := 59) enters59 (s := s) (p := P.toNat) (p' := (Oct.textRes s P.toNat f).2.1) (f := f) (f' := (Oct.textRes s P.toNat f).2.2) (ar := []) (vals := []) (v := .c (.l (.v (.string (Oct.textRes s P.toNat f).1)))) (y := .string (Oct.textRes s P.toNat f).1) rfl rfl (fun b w h => Oct.rtext_any b s P.toNat f w h hs hp)
  unfold rdB at key
  rw [← e] at key
  exact key
def V59 (S : St) (i : Nat) : SV := match S.blk i with | some ⟨[.v (.string s), .v (.int _ p), .v (.bool f)], _⟩ => .c (.l (.v (.string (Oct.textRes s p.toNat f).1))) | _ => .u
def W59 (S : St) (i : Nat) : Blk := match S.blk i with | some ⟨[.v (.string s), .v (.int _ p), .v (.bool f)], _⟩ => ⟨[.v (.string s), .v (.int .i64 ((Oct.textRes s p.toNat f).2.1 : Nat)), .v (.bool (Oct.textRes s p.toNat f).2.2)], .t 174⟩ | _ => ⟨[], .t 0⟩
theorem enters60 : Enters Tryz.prog 60 := fun args w => by go_simp
theorem C60 (id : Nat) (s : ByteArray) (P : Int) (f : Bool) (m : Int) (hs : s.size ≤ 1000000000000000000) (h0 : 0 ≤ P) (hP : P ≤ s.size) (n : Nat) :
    CallOK Tryz.prog 60 [.c (.l (.p id 0)), iv .i64 m] [(id, ⟨[.v (.string s), .v (.int .i64 P), .v (.bool f)], .t 174⟩)] n (iv .i64 (wrap64 (Oct.bev (Oct.takeRes s P.toNat f (Oct.sz m)).1.data.toList))) [(id, ⟨[.v (.string s), .v (.int .i64 ((Oct.takeRes s P.toNat f (Oct.sz m)).2.1 : Nat)), .v (.bool (Oct.takeRes s P.toNat f (Oct.sz m)).2.2)], .t 174⟩)] 0 := by
  have hp : P.toNat ≤ s.size := by omega
  have e : P = (P.toNat : Int) := by omega
  have key := reader_ok (id := id) (n := n) (F := 60) enters60 (s := s) (p := P.toNat) (p' := (Oct.takeRes s P.toNat f (Oct.sz m)).2.1) (f := f) (f' := (Oct.takeRes s P.toNat f (Oct.sz m)).2.2) (ar := [iv .i64 m]) (vals := [.int .i64 m]) (v := iv .i64 (wrap64 (Oct.bev (Oct.takeRes s P.toNat f (Oct.sz m)).1.data.toList))) (y := .int .i64 (wrap64 (Oct.bev (Oct.takeRes s P.toNat f (Oct.sz m)).1.data.toList))) rfl rfl (fun b w h => Oct.num_any b s P.toNat f w m h hs hp)
  unfold rdB at key
  rw [← e] at key
  exact key
def V60 (S : St) (i : Nat) (m : Int) : SV := match S.blk i with | some ⟨[.v (.string s), .v (.int _ p), .v (.bool f)], _⟩ => iv .i64 (wrap64 (Oct.bev (Oct.takeRes s p.toNat f (Oct.sz m)).1.data.toList)) | _ => .u
def W60 (S : St) (i : Nat) (m : Int) : Blk := match S.blk i with | some ⟨[.v (.string s), .v (.int _ p), .v (.bool f)], _⟩ => ⟨[.v (.string s), .v (.int .i64 ((Oct.takeRes s p.toNat f (Oct.sz m)).2.1 : Nat)), .v (.bool (Oct.takeRes s p.toNat f (Oct.sz m)).2.2)], .t 174⟩ | _ => ⟨[], .t 0⟩
theorem enters64 : Enters Tryz.prog 64 := fun args w => by go_simp
theorem C64 (id : Nat) (s : ByteArray) (P : Int) (f : Bool) (m : Int) (hs : s.size ≤ 1000000000000000000) (h0 : 0 ≤ P) (hP : P ≤ s.size) (n : Nat) :
    CallOK Tryz.prog 64 [.c (.l (.p id 0)), iv .i64 m] [(id, ⟨[.v (.string s), .v (.int .i64 P), .v (.bool f)], .t 174⟩)] n (.c (.l (.v (.string (Oct.takeRes s P.toNat f m).1)))) [(id, ⟨[.v (.string s), .v (.int .i64 ((Oct.takeRes s P.toNat f m).2.1 : Nat)), .v (.bool (Oct.takeRes s P.toNat f m).2.2)], .t 174⟩)] 0 := by
  have hp : P.toNat ≤ s.size := by omega
  have e : P = (P.toNat : Int) := by omega
  have key := reader_ok (id := id) (n := n) (F := 64) enters64 (s := s) (p := P.toNat) (p' := (Oct.takeRes s P.toNat f m).2.1) (f := f) (f' := (Oct.takeRes s P.toNat f m).2.2) (ar := [iv .i64 m]) (vals := [.int .i64 m]) (v := .c (.l (.v (.string (Oct.takeRes s P.toNat f m).1)))) (y := .string (Oct.takeRes s P.toNat f m).1) rfl rfl (fun b w h => Oct.take_any b s P.toNat f w m h hs hp)
  unfold rdB at key
  rw [← e] at key
  exact key
def V64 (S : St) (i : Nat) (m : Int) : SV := match S.blk i with | some ⟨[.v (.string s), .v (.int _ p), .v (.bool f)], _⟩ => .c (.l (.v (.string (Oct.takeRes s p.toNat f m).1))) | _ => .u
def W64 (S : St) (i : Nat) (m : Int) : Blk := match S.blk i with | some ⟨[.v (.string s), .v (.int _ p), .v (.bool f)], _⟩ => ⟨[.v (.string s), .v (.int .i64 ((Oct.takeRes s p.toNat f m).2.1 : Nat)), .v (.bool (Oct.takeRes s p.toNat f m).2.2)], .t 174⟩ | _ => ⟨[], .t 0⟩
theorem enters58 : Enters Tryz.prog 58 := fun args w => by go_simp
theorem enters61 : Enters Tryz.prog 61 := fun args w => by go_simp
theorem enters63 : Enters Tryz.prog 63 := fun args w => by go_simp
theorem C58 (s : ByteArray) (n : Nat) : CallOK Tryz.prog 58 [.c (.l (.v (.string s)))] [] n (.c (.l (.p n 0))) [(n, ⟨[.v (.string s), .v (.int .i64 0), .v (.bool false)], .t 174⟩)] 1 :=
  new_ok enters58 (vals := [.string s]) (ys := [.string s, .int .i64 0, .bool false]) rfl (by simp [leafy, Value.oneCell']) fun w => (Oct.read_any s w).mono fun e w' h => ⟨h.1, h.2.symm⟩
theorem C61 (id : Nat) (s : ByteArray) (P : Int) (f : Bool) (h0 : 0 ≤ P) (n : Nat) : CallOK Tryz.prog 61 [.c (.l (.p id 0))] [(id, ⟨[.v (.string s), .v (.int .i64 P), .v (.bool f)], .t 174⟩)] n (bv f) [] 0 := by
  have e : P = (P.toNat : Int) := by omega
  have key := reader_ro (id := id) (n := n) (F := 61) enters61 (s := s) (p := P.toNat) (f := f) (ar := []) (vals := []) (v := bv f) (y := .bool f) rfl rfl (fun b w h => (Oct.failed_any b s P.toNat f w h).mono fun e w' h => ⟨h.1, h.2 ▸ Grow.refl _⟩)
  unfold rdB at key
  rw [← e] at key
  exact key
theorem grow_drewN (w : World) (n : Nat) : Grow w (w.drewN n) := ⟨rfl, rfl, rfl, Nat.le_refl _, fun _ _ => rfl⟩
theorem C63 (id : Nat) (s : ByteArray) (P : Int) (f : Bool) (hs : s.size ≤ 1000000000000000000) (h0 : 0 ≤ P) (hP : P ≤ s.size) (n : Nat) : CallOK Tryz.prog 63 [.c (.l (.p id 0))] [(id, ⟨[.v (.string s), .v (.int .i64 P), .v (.bool f)], .t 174⟩)] n (iv .i64 (s.size - P)) [] 0 := by
  have e : P = (P.toNat : Int) := by omega
  have key := reader_ro (id := id) (n := n) (F := 63) enters63 (s := s) (p := P.toNat) (f := f) (ar := []) (vals := []) (v := iv .i64 (s.size - P.toNat)) (y := .int .i64 (s.size - P.toNat)) rfl rfl (fun b w h => (Oct.left_any b s P.toNat f w h hs (by omega)).mono fun e w' h => ⟨h.1, by obtain ⟨k, hk⟩ := h.2; rw [hk]; exact grow_drewN _ _⟩)
  unfold rdB at key
  rw [← e] at key
  exact key
def V61 (S : St) (i : Nat) : SV := match S.blk i with | some ⟨[.v (.string s), .v (.int _ p), .v (.bool f)], _⟩ => bv f | _ => .u
def V63 (S : St) (i : Nat) : SV := match S.blk i with | some ⟨[.v (.string s), .v (.int _ p), .v (.bool f)], _⟩ => iv .i64 (s.size - p) | _ => .u
def hasP (s t : ByteArray) : Bool := bif decide ((s.size : Int) ≥ t.size) then (s.extract 0 t.size).toList == t.toList else false
def cutP (s t : ByteArray) : ByteArray × Bool := bif hasP s t then (s.extract t.size s.size, true) else (s, false)
theorem enters160 : Enters Tryz.prog 160 := fun args w => by go_simp
def cz_C160 : Cz := {
  ct := (fun f => match f with
  | _ => none)
  eq := (fun t => match t with
  | _ => none)
  raw := [], sym := [], nf := [], ap := true, off := [], on := [], lp := fun _ => none, un := 0 }
set_option maxRecDepth 100000 in
set_option maxHeartbeats 400000 in
theorem C160 (s t : ByteArray) (hs : s.size ≤ 1000000000000000000) (n : Nat) : CallOK Tryz.prog 160 [.c (.l (.v (.string s))), .c (.l (.v (.string t)))] [] n (bv (hasP s t)) [] 0 := by
  refine CallOK.any ?_ (by kernel_rfl) (by kernel_rfl) n
  refine call_ok (cx := cz_C160) (nm := []) rfl Tryz.func160 (body := Tryz.f160.body.getD .skip) rfl enters160 (by kernel_rfl) ?_
  apply of_eq (q := (decide ((Nat.cast s.size : Int) ≥ (Nat.cast t.size : Int)) = true → decide ((Nat.cast s.size : Int) ≥ (Nat.cast t.size : Int)) = true ∧ True) ∧ (decide ((Nat.cast s.size : Int) ≥ (Nat.cast t.size : Int)) = true → decide ((Nat.cast s.size : Int) ≥ (Nat.cast t.size : Int)) = true ∧ decide ((Nat.cast s.size : Int) ≥ (Nat.cast t.size : Int)) = true ∧ SlOK 0 (Nat.cast t.size : Int) (Nat.cast s.size : Int) ∧ True) ∧ (decide ((Nat.cast s.size : Int) ≥ (Nat.cast t.size : Int)) = true → decide ((Nat.cast s.size : Int) ≥ (Nat.cast t.size : Int)) = true ∧ decide ((Nat.cast s.size : Int) ≥ (Nat.cast t.size : Int)) = true ∧ True) ∧ (decide ((Nat.cast s.size : Int) ≥ (Nat.cast t.size : Int)) = true → decide ((Nat.cast s.size : Int) ≥ (Nat.cast t.size : Int)) = true) ∧ Le (bv (bif decide ((Nat.cast s.size : Int) ≥ (Nat.cast t.size : Int)) then (s.extract (Int.toNat 0) ((Nat.cast t.size : Int)).toNat).toList == t.toList else false)) (bv (hasP s t)) ∧ True) (by kernel_rfl)
  repeat' (first | exact trivial | with_reducible apply And.intro | (with_reducible apply HB.mk) | with_reducible intro _)
  all_goals first
    | (assumption)
    | (with_reducible exact Le.refl _)
    | (have := of_decide_eq_true ‹_›; unfold SlOK; omega)
    | (exact Le.of rfl)
    | (exact okw _ (by omega) (by omega))
    | (exact Le.of rfl)
    | (exact BkR.of rfl)
    | (unfold SlOK; omega)
    | (unfold SlOK; decide)
    | (unfold inByte; decide)
    | (simp only [*, Bool.and_self, Bool.not_false, Bool.not_true]; done)
    | (simp_all [wants]; done)
theorem hasP_le {s t : ByteArray} (h : hasP s t = true) : t.size ≤ s.size := by
  unfold hasP at h
  by_cases k : (s.size : Int) ≥ t.size
  · omega
  · rw [decide_eq_false k] at h; cases h
theorem enters124 : Enters Tryz.prog 124 := fun args w => by go_simp
def cz_C124 : Cz := {
  ct := (fun f => match f with
  | 160 => some fun _ _S ar => match ar with | [.c (.l (.v (.string s))), .c (.l (.v (.string t)))] => some { v := bv (hasP s t), rd := [], wr := [], nw := 0 } | _ => none
  | _ => none)
  eq := (fun t => match t with
  | _ => none)
  raw := [], sym := [], nf := [], ap := true, off := [], on := [], lp := fun _ => none, un := 0 }
set_option maxRecDepth 100000 in
set_option maxHeartbeats 400000 in
theorem C124 (s t : ByteArray) (hs : s.size ≤ 1000000000000000000) (n : Nat) : CallOK Tryz.prog 124 [.c (.l (.v (.string s))), .c (.l (.v (.string t)))] [] n (.tup [.l (.v (.string (cutP s t).1)), .l (.v (.bool (cutP s t).2))]) [] 0 := by
  refine CallOK.any ?_ (by kernel_rfl) (by kernel_rfl) n
  have hsz := hasP_le (s := s) (t := t)
  refine call_ok (cx := cz_C124) (nm := []) rfl Tryz.func124 (body := Tryz.f124.body.getD .skip) rfl enters124 (by kernel_rfl) ?_
  apply of_eq (q := CallOKd Tryz.prog 160 [] [SV.c (Cp.l (Leaf.v (Value.string s))), SV.c (Cp.l (Leaf.v (Value.string t)))] [] 0 (bv (hasP s t)) [] 0 ∧ HB (!hasP s t) (Le (SV.tup [Cp.l (Leaf.v (Value.string s)), Cp.l (lb false)]) (SV.tup [Cp.l (Leaf.v (Value.string (cutP s t).fst)), Cp.l (lb (cutP s t).snd)]) ∧ True) (SlOK (Nat.cast t.size : Int) (Nat.cast s.size : Int) (Nat.cast s.size : Int) ∧ Le (SV.tup [Cp.l (Leaf.v (Value.string (s.extract ((Nat.cast t.size : Int)).toNat ((Nat.cast s.size : Int)).toNat))), Cp.l (lb true)]) (SV.tup [Cp.l (Leaf.v (Value.string (cutP s t).fst)), Cp.l (lb (cutP s t).snd)]) ∧ True)) (by kernel_rfl)
  repeat' (first | exact trivial | with_reducible apply And.intro | (with_reducible apply HB.mk) | with_reducible intro _)
  all_goals first
    | (assumption)
    | (with_reducible exact Le.refl _)
    | ((refine C160 _ _ ?_ _); first | assumption | decide +kernel)
    | (refine Le.of ?_; unfold cutP; rw [show hasP s t = false by simpa using ‹(!hasP s t) = true›]; rfl)
    | (refine Le.of ?_; unfold cutP; rw [show hasP s t = true by simpa using ‹(!hasP s t) = false›]; rfl)
    | (have := hasP_le (show hasP s t = true by simpa using ‹(!hasP s t) = false›); unfold SlOK; omega)
    | (exact okw _ (by omega) (by omega))
    | (exact Le.of rfl)
    | (exact BkR.of rfl)
    | (unfold SlOK; omega)
    | (unfold SlOK; decide)
    | (unfold inByte; decide)
    | (simp only [*, Bool.and_self, Bool.not_false, Bool.not_true]; done)
    | (simp_all [wants]; done)
theorem enters57 : Enters Tryz.prog 57 := fun args w => by go_simp
def cz_C57 : Cz := {
  ct := (fun f => match f with
  | 124 => some fun _ _S ar => match ar with | [.c (.l (.v (.string s))), .c (.l (.v (.string t)))] => some { v := .tup [.l (.v (.string (cutP s t).1)), .l (.v (.bool (cutP s t).2))], rd := [], wr := [], nw := 0 } | _ => none
  | _ => none)
  eq := (fun t => match t with
  | _ => none)
  raw := [], sym := [], nf := [], ap := true, off := [], on := [], lp := fun _ => none, un := 0 }
set_option maxRecDepth 100000 in
set_option maxHeartbeats 400000 in
theorem C57 (s t : ByteArray) (hs : s.size ≤ 1000000000000000000) (n : Nat) : CallOK Tryz.prog 57 [.c (.l (.v (.string s))), .c (.l (.v (.string t)))] [] n (.tup [.l (.v (.string (cutP s t).1)), .l (.v (.bool (cutP s t).2))]) [] 0 := by
  refine CallOK.any ?_ (by kernel_rfl) (by kernel_rfl) n
  refine call_ok (cx := cz_C57) (nm := []) rfl Tryz.func57 (body := Tryz.f57.body.getD .skip) rfl enters57 (by kernel_rfl) ?_
  apply of_eq (q := CallOKd Tryz.prog 124 [] [SV.c (Cp.l (Leaf.v (Value.string s))), SV.c (Cp.l (Leaf.v (Value.string t)))] [] 0 (SV.tup [Cp.l (Leaf.v (Value.string (cutP s t).fst)), Cp.l (lb (cutP s t).snd)]) [] 0 ∧ Le (SV.tup [Cp.l (Leaf.v (Value.string (cutP s t).fst)), Cp.l (lb (cutP s t).snd)]) (SV.tup [Cp.l (Leaf.v (Value.string (cutP s t).fst)), Cp.l (lb (cutP s t).snd)]) ∧ True) (by kernel_rfl)
  repeat' (first | exact trivial | with_reducible apply And.intro | (with_reducible apply HB.mk) | with_reducible intro _)
  all_goals first
    | (assumption)
    | (with_reducible exact Le.refl _)
    | ((refine C124 _ _ ?_ _); first | assumption | decide +kernel)
    | (exact okw _ (by omega) (by omega))
    | (exact Le.of rfl)
    | (exact BkR.of rfl)
    | (unfold SlOK; omega)
    | (unfold SlOK; decide)
    | (unfold inByte; decide)
    | (simp only [*, Bool.and_self, Bool.not_false, Bool.not_true]; done)
    | (simp_all [wants]; done)
end Ab
end Go.Proofs.YtpdckpifhniioaaGreat
end
section
set_option linter.unusedVariables false
namespace Go.Proofs.YtpdckpifhniioaaGreat
open Go.RowKit
namespace Ab
abbrev u8 (n : Int) : Leaf := .v (.int .u8 n)
abbrev ub (b : UInt8) : Leaf := u8 (b.toNat : Nat)
/-- The cells of a tile. -/
def tl (t : Nat → UInt8) : List Leaf := (List.range 256).map fun i => ub (t i)
theorem tl_len (t : Nat → UInt8) : (tl t).length = 256 := by simp [tl]
theorem tl_at (t : Nat → UInt8) {i : Nat} (h : i < 256) : (tl t)[i]? = some (ub (t i)) := by simp [tl, h]
theorem tl_none (t : Nat → UInt8) {i : Nat} (h : ¬ i < 256) : (tl t)[i]? = none := by simp [tl]; omega
theorem tl_getD (t : Nat → UInt8) {i : Nat} (h : i < 256) : (tl t).getD i .u = ub (t i) := by rw [List.getD_eq_getElem?_getD, tl_at t h]; rfl
/-- A pixel of a tile. -/
def px (t : Nat → UInt8) (k : Nat) : List Leaf := [ub (t (4 * k)), ub (t (4 * k + 1)), ub (t (4 * k + 2)), ub (t (4 * k + 3))]
theorem tl_pix (t : Nat → UInt8) {k : Nat} (h : k < 64) : ((tl t).drop (k * 4)).take 4 = px t k := by
  apply List.ext_getElem?
  intro j
  rw [List.getElem?_take]
  split
  · rename_i hj
    rw [List.getElem?_drop, tl_at t (by omega), Nat.mul_comm k 4]
    unfold px
    match j, hj with
    | 0, _ => rfl
    | 1, _ => rfl
    | 2, _ => rfl
    | 3, _ => rfl
  · rename_i hj
    unfold px
    rw [List.getElem?_eq_none (by simp; omega)]
def setP (t : Nat → UInt8) (k : Nat) (a b c d : UInt8) : Nat → UInt8 := fun i => if i = 4 * k then a else if i = 4 * k + 1 then b else if i = 4 * k + 2 then c else if i = 4 * k + 3 then d else t i
theorem tl_set (t : Nat → UInt8) {k : Nat} (h : k < 64) (a b c d : UInt8) : splice (tl t) (k * 4) [ub a, ub b, ub c, ub d] = tl (setP t k a b c d) := by
  apply List.ext_getElem?
  intro j
  simp only [splice]
  by_cases hj : j < 256
  · rw [tl_at _ hj]
    simp only [List.getElem?_set, List.length_set, tl_len]
    unfold setP
    by_cases h0 : j = 4 * k
    · subst h0
      rw [if_neg (by omega), if_neg (by omega), if_neg (by omega), if_pos (by omega), if_pos (by omega), if_pos rfl]
    · by_cases h1 : j = 4 * k + 1
      · subst h1
        rw [if_neg (by omega), if_neg (by omega), if_pos (by omega), if_pos (by omega), if_neg (by omega), if_pos rfl]
      · by_cases h2 : j = 4 * k + 2
        · subst h2
          rw [if_neg (by omega), if_pos (by omega), if_pos (by omega), if_neg (by omega), if_neg (by omega), if_pos rfl]
        · by_cases h3 : j = 4 * k + 3
          · subst h3
            rw [if_pos (by omega), if_pos (by omega), if_neg (by omega), if_neg (by omega), if_neg (by omega), if_pos rfl]
          · rw [if_neg (by omega), if_neg (by omega), if_neg (by omega), if_neg (by omega), tl_at _ hj, if_neg h0, if_neg h1, if_neg h2, if_neg h3]
  · rw [tl_none _ hj]
    rw [List.getElem?_eq_none]
    simp only [List.length_set, tl_len]
    omega
theorem tl_ext {t u : Nat → UInt8} (h : ∀ i, i < 256 → t i = u i) : tl t = tl u := by
  apply List.ext_getElem?
  intro j
  by_cases hj : j < 256
  · rw [tl_at _ hj, tl_at _ hj, h j hj]
  · rw [tl_none _ hj, tl_none _ hj]
def zT : Nat → UInt8 := fun _ => 0
theorem tl_zero : List.replicate 256 (u8 0) = tl zT := by kernel_rfl
theorem eq_key {t m D D' : Nat} (hk : Tryz.prog.keyTypeAt m t = true) (hm : m ≤ 10000) (hg : Tryz.prog.eqGuardType Tryz.prog.depth t = false) {xs ys : List Value} {la lb : List Lit} (hlx : ∀ y ∈ xs, leafy y = true) (hly : ∀ y ∈ ys, leafy y = true)
    (fx : (Value.agg xs.toArray).formed Tryz.prog t = true) (fy : (Value.agg ys.toArray).formed Tryz.prog t = true) (hx : Tryz.prog.keyLits D t xs = some la) (hy : Tryz.prog.keyLits D' t ys = some lb) (b : Bool) (hb : b = true ↔ la = lb) :
    EqOK Tryz.prog t (xs.map .v) (ys.map .v) b := by
  intro β u v x y w hu hv
  have pl : ∀ {l : List Value}, (∀ y ∈ l, leafy y = true) → plLs (l.map .v) = some l := by
    intro l hl
    induction l with
    | nil => rfl
    | cons a l ih =>
      simp only [List.map_cons, plLs, Leaf.pl, hl a (by simp), ih (fun y hy => hl y (by simp [hy]))]
  have hu' := (plLs_iff (pl hlx) β u).1 hu
  have hv' := (plLs_iff (pl hly) β v).1 hv
  subst hu' hv'
  obtain ⟨r, hr, hiff⟩ := run_equalIn_deep (P := Tryz.prog) (10000 - m) m t hk w D D' (.agg u.toArray) (.agg v.toArray) la lb fx fy (by simpa [Value.cells] using hx) (by simpa [Value.cells] using hy)
  rw [show 10000 - m + m = 10000 by omega] at hr
  have hrb : r = b := by
    cases r <;> cases b <;> simp_all
  subst hrb
  have g : ∀ op, (eqGuard op t x y (.agg u.toArray) (.agg v.toArray)).run Tryz.prog w = .ok () w := by
    intro op; unfold eqGuard; cases op <;> simp [Sem.run_bind, hg, go_sem]
  constructor
  · rw [Sem.run_bind, g, Result.andThen_ok, run_eql_struct, hr]; rfl
  · rw [Sem.run_bind, g, Result.andThen_ok, run_neq_struct, hr]; rfl
end Ab
end Go.Proofs.YtpdckpifhniioaaGreat
end
section
set_option linter.unusedVariables false
set_option linter.unusedSimpArgs false
namespace Go.Proofs.YtpdckpifhniioaaGreat
open Go.RowKit
namespace Ab
def zT256 : List Leaf := List.replicate 256 (.v (.int .u8 0))
theorem zT256_eq : zT256 = tl zT := tl_zero
theorem okw (n : Int) (h0 : -9223372036854775808 ≤ n) (h1 : n ≤ 9223372036854775807) : IntKind.i64.wrap n = n := by rw [IntKind.wrap_i64]; omega
abbrev bl (b : UInt8) : Lit := .int .u8 (b.toNat : Nat)
abbrev bv8 (b : UInt8) : Value := .int .u8 (b.toNat : Nat)
theorem wf8 (b : UInt8) : (bl b).wf = true := by
  have := b.toNat_lt
  simp [Lit.wf, IntKind.min, IntKind.max, IntKind.bits, IntKind.signed]
  try omega
theorem lits5 (D : Nat) (b : UInt8) : Tryz.prog.keyLits (D + 1) 5 [bv8 b] = some [bl b] := by
  unfold Program.keyLits
  simp only [Tryz.underlying5]
  simp [wf8 b]
theorem cells5 : Tryz.prog.cellsOf 5 = 1 := by kernel_rfl
theorem cells36 : Tryz.prog.cellsOf 36 = 4 := by kernel_rfl
theorem cells38 : Tryz.prog.cellsOf 38 = 256 := by kernel_rfl
theorem lits36 (D : Nat) (a b c e : UInt8) : Tryz.prog.keyLits (D + 2) 36 [bv8 a, bv8 b, bv8 c, bv8 e] = some [bl a, bl b, bl c, bl e] := by
  unfold Program.keyLits
  simp only [Tryz.underlying36, cells36, cells5]
  simp [cells5, lits5]
theorem eq36 (a b c e a' b' c' e' : UInt8) : EqOK Tryz.prog 36 [ub a, ub b, ub c, ub e] [ub a', ub b', ub c', ub e'] (decide (a = a' ∧ b = b' ∧ c = c' ∧ e = e')) := by
  refine eq_key (t := 36) (m := 4) (D := 2) (D' := 2) (by kernel_rfl) (by decide) (by kernel_rfl) (xs := [bv8 a, bv8 b, bv8 c, bv8 e]) (ys := [bv8 a', bv8 b', bv8 c', bv8 e']) (by simp [leafy, Value.oneCell']) (by simp [leafy, Value.oneCell']) (by simp [Value.formed, Tryz.underlying36, cells36]) (by simp [Value.formed, Tryz.underlying36, cells36]) (lits36 0 _ _ _ _) (lits36 0 _ _ _ _) _ ?_
  have h : ∀ x y : UInt8, bl x = bl y ↔ x = y := by
    intro x y
    constructor
    · intro k; injection k with _ k; exact UInt8.toNat_inj.1 (by omega)
    · intro k; rw [k]
  simp only [decide_eq_true_eq, List.cons.injEq, h, and_true]
def tv (t : Nat → UInt8) : List Value := (List.range 256).map fun i => bv8 (t i)
theorem tv_tl (t : Nat → UInt8) : (tv t).map .v = tl t := by simp [tv, tl]
theorem tv_len (t : Nat → UInt8) : (tv t).length = 256 := by simp [tv]
theorem tv_pix (t : Nat → UInt8) {k : Nat} (h : k < 64) : ((tv t).drop (k * 4)).take 4 = [bv8 (t (4 * k)), bv8 (t (4 * k + 1)), bv8 (t (4 * k + 2)), bv8 (t (4 * k + 3))] := by
  have := tl_pix t h
  rw [← tv_tl, ← List.map_drop, ← List.map_take] at this
  have hi : ∀ (l m : List Value), l.map Leaf.v = m.map Leaf.v → l = m := by
    intro l m e
    exact (List.map_inj_right (fun x y e => by injection e)).1 e
  exact hi _ _ this
theorem lits38 (t : Nat → UInt8) : Tryz.prog.keyLits 3 38 (tv t) = some ((List.range 64).map fun k => [bl (t (4 * k)), bl (t (4 * k + 1)), bl (t (4 * k + 2)), bl (t (4 * k + 3))]).flatten := by
  unfold Program.keyLits
  simp only [Tryz.underlying38, cells38, cells36, tv_len, if_true]
  have : (List.range 64).mapM (fun i => Tryz.prog.keyLits 2 36 (((tv t).drop (i * 4)).take 4)) = some ((List.range 64).map fun k => [bl (t (4 * k)), bl (t (4 * k + 1)), bl (t (4 * k + 2)), bl (t (4 * k + 3))]) := by
    have key : ∀ l : List Nat, (∀ k ∈ l, k < 64) → l.mapM (fun i => Tryz.prog.keyLits 2 36 (((tv t).drop (i * 4)).take 4)) = some (l.map fun k => [bl (t (4 * k)), bl (t (4 * k + 1)), bl (t (4 * k + 2)), bl (t (4 * k + 3))]) := by
      intro l hl
      induction l with
      | nil => rfl
      | cons k l ih =>
        rw [List.mapM_cons, tv_pix t (hl k (by simp)), lits36 0, ih (fun j hj => hl j (by simp [hj]))]
        rfl
    exact key _ (fun k hk => by simpa using hk)
  rw [this]
  rfl
def sameT (t u : Nat → UInt8) : Bool := (List.range 256).all fun i => decide (t i = u i)
theorem sameT_iff (t u : Nat → UInt8) : sameT t u = true ↔ ∀ i, i < 256 → t i = u i := by
  unfold sameT; simp [List.all_eq_true]
theorem flat_inj {t u : Nat → UInt8} : ∀ l : List Nat, ((l.map fun k => [bl (t (4 * k)), bl (t (4 * k + 1)), bl (t (4 * k + 2)), bl (t (4 * k + 3))]).flatten = (l.map fun k => [bl (u (4 * k)), bl (u (4 * k + 1)), bl (u (4 * k + 2)), bl (u (4 * k + 3))]).flatten ↔ ∀ k ∈ l, t (4 * k) = u (4 * k) ∧ t (4 * k + 1) = u (4 * k + 1) ∧ t (4 * k + 2) = u (4 * k + 2) ∧ t (4 * k + 3) = u (4 * k + 3))
  | [] => by simp
  | k :: l => by
    have h : ∀ x y : UInt8, bl x = bl y ↔ x = y := by
      intro x y
      constructor
      · intro k; injection k with _ k; exact UInt8.toNat_inj.1 (by omega)
      · intro k; rw [k]
    simp only [List.map_cons, List.flatten_cons, List.cons_append, List.nil_append, List.cons.injEq, h, flat_inj l, List.forall_mem_cons]
    constructor
    · rintro ⟨a, b, c, d, e⟩; exact ⟨⟨a, b, c, d⟩, e⟩
    · rintro ⟨⟨a, b, c, d⟩, e⟩; exact ⟨a, b, c, d, e⟩
theorem eq38 (t u : Nat → UInt8) : EqOK Tryz.prog 38 (tl t) (tl u) (sameT t u) := by
  rw [← tv_tl, ← tv_tl]
  have lf : ∀ v : Nat → UInt8, ∀ y ∈ tv v, leafy y = true := by
    intro v y hy
    simp only [tv, List.mem_map] at hy
    obtain ⟨i, _, rfl⟩ := hy
    rfl
  refine eq_key (t := 38) (m := 5) (D := 3) (D' := 3) (by kernel_rfl) (by decide) (by kernel_rfl) (lf t) (lf u) (by simp [Value.formed, Tryz.underlying38, cells38, tv_len]) (by simp [Value.formed, Tryz.underlying38, cells38, tv_len]) (lits38 t) (lits38 u) _ ?_
  rw [flat_inj, sameT_iff]
  constructor
  · intro h k hk
    have hk : k < 64 := by simpa using hk
    exact ⟨h _ (by omega), h _ (by omega), h _ (by omega), h _ (by omega)⟩
  · intro h i hi
    obtain ⟨a, b, c, d⟩ := h (i / 4) (by simp; omega)
    have : i = 4 * (i / 4) + i % 4 := by omega
    have h4 : i % 4 < 4 := by omega
    generalize i / 4 = q at *
    match hm : i % 4, h4 with
    | 0, _ => rw [this, hm]; exact a
    | 1, _ => rw [this, hm]; exact b
    | 2, _ => rw [this, hm]; exact c
    | 3, _ => rw [this, hm]; exact d
end Ab
end Go.Proofs.YtpdckpifhniioaaGreat
end
section
set_option linter.unusedVariables false
set_option linter.unusedSimpArgs false
namespace Go.Proofs.YtpdckpifhniioaaGreat
open Go.RowKit
namespace Ab
theorem okb (b : UInt8) : (0 : Int) ≤ (b.toNat : Nat) ∧ ((b.toNat : Nat) : Int) < 256 := by have := b.toNat_lt; omega
def pcl (e x : Int) : Int := bif e == 0 then 0 else x
def pcb (e x : UInt8) : UInt8 := if e = 0 then 0 else x
def clnT (t : Nat → UInt8) : Nat → UInt8 := fun i => pcb (t (4 * (i / 4) + 3)) (t i)
def upTo (k : Nat) (f g : Nat → UInt8) : Nat → UInt8 := fun i => if i < 4 * k then f i else g i
theorem pcb_pcl (e x : UInt8) : pcl (e.toNat : Nat) (x.toNat : Nat) = ((pcb e x).toNat : Nat) := by
  unfold pcl pcb
  by_cases h : e = 0
  · subst h; rfl
  · have : ((e.toNat : Nat) : Int) ≠ 0 := by
      intro k; apply h; apply UInt8.toNat_inj.1; simpa using k
    rw [if_neg h, beq_false_of_ne this]; rfl
theorem pcl_t {e x : Int} (h : (e == 0) = true) : pcl e x = 0 := by unfold pcl; rw [h]; rfl
theorem pcl_f {e x : Int} (h : (e == 0) = false) : pcl e x = x := by unfold pcl; rw [h]; rfl
theorem upTo_set (k : Nat) (f g : Nat → UInt8) (hk : k < 64) : splice (tl (upTo k f g)) (k * 4) [ub (f (4 * k)), ub (f (4 * k + 1)), ub (f (4 * k + 2)), ub (f (4 * k + 3))] = tl (upTo (k + 1) f g) := by
  rw [tl_set _ hk]
  refine tl_ext fun i hi => ?_
  unfold setP upTo
  by_cases h0 : i = 4 * k
  · subst h0; rw [if_pos rfl, if_pos (by omega)]
  · by_cases h1 : i = 4 * k + 1
    · subst h1; rw [if_neg h0, if_pos rfl, if_pos (by omega)]
    · by_cases h2 : i = 4 * k + 2
      · subst h2; rw [if_neg h0, if_neg h1, if_pos rfl, if_pos (by omega)]
      · by_cases h3 : i = 4 * k + 3
        · subst h3; rw [if_neg h0, if_neg h1, if_neg h2, if_pos rfl, if_pos (by omega)]
        · rw [if_neg h0, if_neg h1, if_neg h2, if_neg h3]
          by_cases h4 : i < 4 * k
          · rw [if_pos h4, if_pos (by omega)]
          · rw [if_neg h4, if_neg (by omega)]
theorem upTo_all (f g : Nat → UInt8) : tl (upTo 64 f g) = tl f := tl_ext fun i hi => if_pos (by omega)
theorem upTo_none (f g : Nat → UInt8) : tl (upTo 0 f g) = tl g := tl_ext fun i hi => if_neg (by omega)
theorem enters129 : Enters Tryz.prog 129 := fun args w => by go_simp
def cz_C129 : Cz := {
  ct := (fun f => match f with
  | _ => none)
  eq := (fun t => match t with
  | _ => none)
  raw := [], sym := [], nf := [], ap := true, off := [], on := [], lp := fun _ => none, un := 0 }
set_option maxRecDepth 100000 in
set_option maxHeartbeats 400000 in
theorem C129 (a b c e : Int)  (n : Nat) : CallOK Tryz.prog 129 [ag [u8 a, u8 b, u8 c, u8 e]] [] n (ag [u8 (pcl e a), u8 (pcl e b), u8 (pcl e c), u8 (pcl e e)]) [] 0 := by
  refine CallOK.any ?_ (by kernel_rfl) (by kernel_rfl) n
  refine call_ok (cx := cz_C129) (nm := []) rfl Tryz.func129 (body := Tryz.f129.body.getD .skip) rfl enters129 (by kernel_rfl) ?_
  apply of_eq (q := HB (e == 0) (Le (ag [Leaf.v (Value.int IntKind.u8 0), Leaf.v (Value.int IntKind.u8 0), Leaf.v (Value.int IntKind.u8 0), Leaf.v (Value.int IntKind.u8 0)]) (ag [Leaf.v (Value.int IntKind.u8 (pcl e a)), Leaf.v (Value.int IntKind.u8 (pcl e b)), Leaf.v (Value.int IntKind.u8 (pcl e c)), Leaf.v (Value.int IntKind.u8 (pcl e e))]) ∧ True) (Le (ag [Leaf.v (Value.int IntKind.u8 a), Leaf.v (Value.int IntKind.u8 b), Leaf.v (Value.int IntKind.u8 c), Leaf.v (Value.int IntKind.u8 e)]) (ag [Leaf.v (Value.int IntKind.u8 (pcl e a)), Leaf.v (Value.int IntKind.u8 (pcl e b)), Leaf.v (Value.int IntKind.u8 (pcl e c)), Leaf.v (Value.int IntKind.u8 (pcl e e))]) ∧ True)) (by kernel_rfl)
  repeat' (first | exact trivial | with_reducible apply And.intro | (with_reducible apply HB.mk) | with_reducible intro _)
  all_goals first
    | (assumption)
    | (with_reducible exact Le.refl _)
    | (rw [pcl_t (by assumption), pcl_t (by assumption), pcl_t (by assumption), pcl_t (by assumption)]; exact Le.refl _)
    | (rw [pcl_f (by assumption), pcl_f (by assumption), pcl_f (by assumption), pcl_f (by assumption)]; exact Le.refl _)
    | (exact okw _ (by omega) (by omega))
    | (exact Le.of rfl)
    | (exact BkR.of rfl)
    | (unfold SlOK; omega)
    | (unfold SlOK; decide)
    | (unfold inByte; decide)
    | (simp only [*, Bool.and_self, Bool.not_false, Bool.not_true]; done)
    | (simp_all [wants]; done)
def I66 (t : Nat → UInt8) (k : Nat) : St := ⟨[(6, iv .i64 (k : Nat)), (5, .c (.agg (tl t))), (1, .c (.l (.p 0 0))), (2, .c (.l (.p 1 0)))], [(0, some ⟨tl (upTo k (clnT t) t), .t 38⟩), (1, some ⟨tl zT, .t 38⟩)], 2, 16, [3, 2, 1, 0], (0)⟩
theorem qdiv0 (k : Nat) : 4 * k / 4 = k ∧ (4 * k + 1) / 4 = k ∧ (4 * k + 2) / 4 = k ∧ (4 * k + 3) / 4 = k := by omega
theorem cln_px (t : Nat → UInt8) (k : Nat) : ag [u8 (pcl ((t (4 * k + 3)).toNat : Nat) ((t (4 * k)).toNat : Nat)), u8 (pcl ((t (4 * k + 3)).toNat : Nat) ((t (4 * k + 1)).toNat : Nat)), u8 (pcl ((t (4 * k + 3)).toNat : Nat) ((t (4 * k + 2)).toNat : Nat)), u8 (pcl ((t (4 * k + 3)).toNat : Nat) ((t (4 * k + 3)).toNat : Nat))] = ag [ub ((clnT t) (4 * k)), ub ((clnT t) (4 * k + 1)), ub ((clnT t) (4 * k + 2)), ub ((clnT t) (4 * k + 3))] := by
  obtain ⟨h0, h1, h2, h3⟩ := qdiv0 k
  rw [pcb_pcl, pcb_pcl, pcb_pcl, pcb_pcl]
  unfold clnT
  rw [h0, h1, h2, h3]
def cz_R66 (t : Nat → UInt8) (k : Nat) : Cz := {
  ct := (fun f => match f with
  | 129 => some fun _ _S ar => match ar with | [.c (.agg [.v (.int _ a), .v (.int _ b), .v (.int _ c), .v (.int _ e)])] => some { v := ag [u8 (pcl e a), u8 (pcl e b), u8 (pcl e c), u8 (pcl e e)], rd := [], wr := [], nw := 0 } | _ => none
  | _ => none)
  eq := (fun t => match t with
  | _ => none)
  raw := [], sym := [0, 9, 13], nf := [(9, .c (.agg [ub (t (4 * k)), ub (t (4 * k + 1)), ub (t (4 * k + 2)), ub (t (4 * k + 3))])), (12, .c (.agg [ub ((clnT t) (4 * k)), ub ((clnT t) (4 * k + 1)), ub ((clnT t) (4 * k + 2)), ub ((clnT t) (4 * k + 3))]))], ap := true, off := [], on := [], lp := fun _ => none, un := 0 }
set_option maxRecDepth 100000 in
theorem R66 (t : Nat → UInt8) (k : Nat)  (K : Exit → St → Prop) (h : HB (decide ((Nat.cast k : Int) < 64)) (InR ((Nat.cast k : Int)) 64 ∧ Le (ag (List.take 4 (List.drop (((Nat.cast k : Int)).toNat * 4) (tl t)))) (ag [Leaf.v (Value.int IntKind.u8 (Nat.cast ((t (4 * k)).toNat) : Int)), Leaf.v (Value.int IntKind.u8 (Nat.cast ((t (4 * k + 1)).toNat) : Int)), Leaf.v (Value.int IntKind.u8 (Nat.cast ((t (4 * k + 2)).toNat) : Int)), Leaf.v (Value.int IntKind.u8 (Nat.cast ((t (4 * k + 3)).toNat) : Int))]) ∧ 4 ≤ 4 ∧ CallOKd Tryz.prog 129 [] [ag [Leaf.v (Value.int IntKind.u8 (Nat.cast ((t (4 * k)).toNat) : Int)), Leaf.v (Value.int IntKind.u8 (Nat.cast ((t (4 * k + 1)).toNat) : Int)), Leaf.v (Value.int IntKind.u8 (Nat.cast ((t (4 * k + 2)).toNat) : Int)), Leaf.v (Value.int IntKind.u8 (Nat.cast ((t (4 * k + 3)).toNat) : Int))]] [] 3 (ag [Leaf.v (Value.int IntKind.u8 (pcl (Nat.cast ((t (4 * k + 3)).toNat) : Int) (Nat.cast ((t (4 * k)).toNat) : Int))), Leaf.v (Value.int IntKind.u8 (pcl (Nat.cast ((t (4 * k + 3)).toNat) : Int) (Nat.cast ((t (4 * k + 1)).toNat) : Int))), Leaf.v (Value.int IntKind.u8 (pcl (Nat.cast ((t (4 * k + 3)).toNat) : Int) (Nat.cast ((t (4 * k + 2)).toNat) : Int))), Leaf.v (Value.int IntKind.u8 (pcl (Nat.cast ((t (4 * k + 3)).toNat) : Int) (Nat.cast ((t (4 * k + 3)).toNat) : Int)))]) [] 0 ∧ Le (ag [Leaf.v (Value.int IntKind.u8 (pcl (Nat.cast ((t (4 * k + 3)).toNat) : Int) (Nat.cast ((t (4 * k)).toNat) : Int))), Leaf.v (Value.int IntKind.u8 (pcl (Nat.cast ((t (4 * k + 3)).toNat) : Int) (Nat.cast ((t (4 * k + 1)).toNat) : Int))), Leaf.v (Value.int IntKind.u8 (pcl (Nat.cast ((t (4 * k + 3)).toNat) : Int) (Nat.cast ((t (4 * k + 2)).toNat) : Int))), Leaf.v (Value.int IntKind.u8 (pcl (Nat.cast ((t (4 * k + 3)).toNat) : Int) (Nat.cast ((t (4 * k + 3)).toNat) : Int)))]) (ag [Leaf.v (Value.int IntKind.u8 (Nat.cast ((clnT t (4 * k)).toNat) : Int)), Leaf.v (Value.int IntKind.u8 (Nat.cast ((clnT t (4 * k + 1)).toNat) : Int)), Leaf.v (Value.int IntKind.u8 (Nat.cast ((clnT t (4 * k + 2)).toNat) : Int)), Leaf.v (Value.int IntKind.u8 (Nat.cast ((clnT t (4 * k + 3)).toNat) : Int))]) ∧ InR ((Nat.cast k : Int)) 64 ∧ 0 + ((Nat.cast k : Int)).toNat * 4 + 4 ≤ 256 ∧ IntKind.i64.wrap ((Nat.cast k : Int) + 1) = (Nat.cast k : Int) + 1 ∧ RoundTo Tryz.prog ((getLoop 2 (Tryz.f66.body.getD Code.skip)).getD Code.skip) 2 (wkK 2 K) (St.mk [(6, iv IntKind.i64 ((Nat.cast k : Int) + 1)), (14, iv IntKind.i64 ((Nat.cast k : Int) + 1)), (13, SV.c (Cp.l (Leaf.p 0 (0 + ((Nat.cast k : Int)).toNat * 4)))), (12, ag [Leaf.v (Value.int IntKind.u8 (Nat.cast ((clnT t (4 * k)).toNat) : Int)), Leaf.v (Value.int IntKind.u8 (Nat.cast ((clnT t (4 * k + 1)).toNat) : Int)), Leaf.v (Value.int IntKind.u8 (Nat.cast ((clnT t (4 * k + 2)).toNat) : Int)), Leaf.v (Value.int IntKind.u8 (Nat.cast ((clnT t (4 * k + 3)).toNat) : Int))]), (11, ag [Leaf.v (Value.int IntKind.u8 (Nat.cast ((t (4 * k)).toNat) : Int)), Leaf.v (Value.int IntKind.u8 (Nat.cast ((t (4 * k + 1)).toNat) : Int)), Leaf.v (Value.int IntKind.u8 (Nat.cast ((t (4 * k + 2)).toNat) : Int)), Leaf.v (Value.int IntKind.u8 (Nat.cast ((t (4 * k + 3)).toNat) : Int))]), (10, iv IntKind.i64 (Nat.cast k : Int)), (3, iv IntKind.i64 (Nat.cast k : Int)), (4, SV.c (Cp.l (Leaf.p 2 0))), (9, ag [Leaf.v (Value.int IntKind.u8 (Nat.cast ((t (4 * k)).toNat) : Int)), Leaf.v (Value.int IntKind.u8 (Nat.cast ((t (4 * k + 1)).toNat) : Int)), Leaf.v (Value.int IntKind.u8 (Nat.cast ((t (4 * k + 2)).toNat) : Int)), Leaf.v (Value.int IntKind.u8 (Nat.cast ((t (4 * k + 3)).toNat) : Int))]), (8, iv IntKind.i64 (Nat.cast k : Int)), (7, bv (decide ((Nat.cast k : Int) < 64))), (6, iv IntKind.i64 (Nat.cast k : Int)), (5, ag (tl t)), (1, SV.c (Cp.l (Leaf.p 0 0))), (2, SV.c (Cp.l (Leaf.p 1 0)))] [(0, some (Blk.mk (splice (tl (upTo k (clnT t) t)) (0 + ((Nat.cast k : Int)).toNat * 4) [Leaf.v (Value.int IntKind.u8 (Nat.cast ((clnT t (4 * k)).toNat) : Int)), Leaf.v (Value.int IntKind.u8 (Nat.cast ((clnT t (4 * k + 1)).toNat) : Int)), Leaf.v (Value.int IntKind.u8 (Nat.cast ((clnT t (4 * k + 2)).toNat) : Int)), Leaf.v (Value.int IntKind.u8 (Nat.cast ((clnT t (4 * k + 3)).toNat) : Int))]) (BT.t 38))), (2, some (Blk.mk [Leaf.v (Value.int IntKind.u8 (Nat.cast ((t (4 * k)).toNat) : Int)), Leaf.v (Value.int IntKind.u8 (Nat.cast ((t (4 * k + 1)).toNat) : Int)), Leaf.v (Value.int IntKind.u8 (Nat.cast ((t (4 * k + 2)).toNat) : Int)), Leaf.v (Value.int IntKind.u8 (Nat.cast ((t (4 * k + 3)).toNat) : Int))] (BT.t 36))), (2, some (Blk.mk [Leaf.v (Value.int IntKind.u8 0), Leaf.v (Value.int IntKind.u8 0), Leaf.v (Value.int IntKind.u8 0), Leaf.v (Value.int IntKind.u8 0)] (BT.t 36))), (0, some (Blk.mk (tl (upTo k (clnT t) t)) (BT.t 38))), (1, some (Blk.mk (tl zT) (BT.t 38)))] 3 16 [0, 2, 2, 3, 2, 1, 0] 0)) (wkK 2 K (Exit.exit 0) (St.mk [(7, bv (decide ((Nat.cast k : Int) < 64))), (6, iv IntKind.i64 (Nat.cast k : Int)), (5, ag (tl t)), (1, SV.c (Cp.l (Leaf.p 0 0))), (2, SV.c (Cp.l (Leaf.p 1 0)))] [(0, some (Blk.mk (tl (upTo k (clnT t) t)) (BT.t 38))), (1, some (Blk.mk (tl zT) (BT.t 38)))] 2 16 [3, 2, 1, 0] 0))) : WPL Tryz.prog ((getLoop 2 (Tryz.f66.body.getD .skip)).getD .skip) (I66 t k) (wkK 2 K) :=
  wp_round (cx := cz_R66 t k) rfl (of_eq (by kernel_rfl) h)
set_option maxRecDepth 100000 in
theorem L66 (t : Nat → UInt8)  : ∀ (m k : Nat), 64 - k = m → k ≤ 64 → ∀ (K : Exit → St → Prop), K (.exit 0) (I66 t 64) → WPL Tryz.prog ((getLoop 2 (Tryz.f66.body.getD .skip)).getD .skip) (I66 t k) (wkK 2 K)
  | 0, k, hm, hk, K, hK => by
    have e : k = 64 := by omega
    subst e
    refine R66 t _ K (HB.mk (fun hne => absurd (of_decide_eq_true hne) (by omega)) (fun he => ?_))
    exact wkK.to (I66 t _) (Nat.le_refl _) (by kernel_rfl) (wkE_cons (LeN.sl (by kernel_rfl) rfl) (wkE_cons (LeN.sl (by kernel_rfl) rfl) (wkE_cons (LeN.sl (by kernel_rfl) rfl) (wkE_cons (LeN.sl (by kernel_rfl) rfl) trivial)))) (wkH_cons (BkN.blk (k := ⟨tl (upTo 64 (clnT t) t), .t 38⟩) (by kernel_rfl) (rfl) (by kernel_rfl)) (wkH_cons (BkN.blk (k := ⟨tl zT, .t 38⟩) (by kernel_rfl) (rfl) (by kernel_rfl)) trivial)) hK
  | m + 1, k, hm, hk, K, hK => by
    refine R66 t k K (HB.mk (fun hne => ?_) (fun he => absurd (show ((k : Nat) : Int) < (64 : Nat) by omega) (of_decide_eq_false he)))
    have hlt : k < 64 := by omega
    repeat' (first | exact trivial | with_reducible apply And.intro | (with_reducible apply HB.mk) | with_reducible intro _)
    all_goals first
      | (assumption)
      | (with_reducible exact Le.refl _)
      | (with_reducible exact C129 _ _ _ _ _)
      | (exact ⟨by omega, by omega⟩)
      | (refine Le.of ?_; rw [show (((k : Nat) : Int)).toNat = k from rfl, tl_pix _ hlt]; rfl)
      | (exact Le.of (cln_px t k))
      | (rw [show (((k : Nat) : Int)).toNat = k from rfl]; omega)
      | (refine RoundTo.to (I66 t (k + 1)) (Nat.le_refl _) (by kernel_rfl) (wkE_cons (LeN.sl (by kernel_rfl) rfl) (wkE_cons (LeN.sl (by kernel_rfl) rfl) (wkE_cons (LeN.sl (by kernel_rfl) rfl) (wkE_cons (LeN.sl (by kernel_rfl) rfl) trivial)))) (wkH_cons (BkN.blk (k := ⟨splice (tl (upTo k (clnT t) t)) (0 + k * 4) [ub ((clnT t) (4 * k)), ub ((clnT t) (4 * k + 1)), ub ((clnT t) (4 * k + 2)), ub ((clnT t) (4 * k + 3))], .t 38⟩) (by kernel_rfl) (by rw [Nat.zero_add, upTo_set k _ _ hlt]) (by kernel_rfl)) (wkH_cons (BkN.blk (k := ⟨tl zT, .t 38⟩) (by kernel_rfl) (rfl) (by kernel_rfl)) trivial)) (L66 t  m (k + 1) (by omega) (by omega) K hK))
      | (exact okw _ (by omega) (by omega))
      | (exact Le.of rfl)
      | (exact BkR.of rfl)
      | (unfold SlOK; omega)
      | (unfold SlOK; decide)
      | (unfold inByte; decide)
      | (simp only [*, Bool.and_self, Bool.not_false, Bool.not_true]; done)
      | (simp_all [wants]; done)
theorem enters66 : Enters Tryz.prog 66 := fun args w => by go_simp
def cz_C66 (t : Nat → UInt8) : Cz := {
  ct := (fun f => match f with
  | 129 => some fun _ _S ar => match ar with | [.c (.agg [.v (.int _ a), .v (.int _ b), .v (.int _ c), .v (.int _ e)])] => some { v := ag [u8 (pcl e a), u8 (pcl e b), u8 (pcl e c), u8 (pcl e e)], rd := [], wr := [], nw := 0 } | _ => none
  | _ => none)
  eq := (fun t => match t with
  | _ => none)
  raw := [], sym := [], nf := [(5, .c (.agg (tl t)))], ap := true, off := [], on := [], lp := fun r => match r with | 2 => some (fun _ K => K (.exit 0) (I66 t 64)) | _ => none, un := 0 }
set_option maxRecDepth 100000 in
set_option maxHeartbeats 400000 in
theorem C66 (t : Nat → UInt8)  (n : Nat) : CallOK Tryz.prog 66 [.c (.agg (tl t))] [] n (.c (.agg (tl (clnT t)))) [] 0 := by
  refine CallOK.any ?_ (by kernel_rfl) (by kernel_rfl) n
  refine call_ok (cx := cz_C66 t) (nm := []) rfl Tryz.func66 (body := Tryz.f66.body.getD .skip) rfl enters66 (by kernel_rfl) ?_
  apply of_eq (q := Le (ag (List.take 256 (tl t))) (ag (tl t)) ∧ (LoopOK Tryz.prog ((getLoop 2 (Tryz.f66.body.getD .skip)).getD .skip) (St.mk [(6, iv IntKind.i64 0), (5, ag (tl t)), (2, SV.c (Cp.l (Leaf.p 1 0))), (1, SV.c (Cp.l (Leaf.p 0 0))), (0, ag (tl t))] [(1, some (Blk.mk zT256 (BT.t 38))), (0, some (Blk.mk (tl t) (BT.t 38)))] 2 16 [1, 0] 0) fun K => K (Exit.exit 0) (I66 t 64)) ∧ Le (ag (tl (upTo 64 (clnT t) t))) (ag (tl (clnT t))) ∧ True) (by kernel_rfl)
  repeat' (first | exact trivial | with_reducible apply And.intro | (with_reducible apply HB.mk) | with_reducible intro _)
  all_goals first
    | (assumption)
    | (with_reducible exact Le.refl _)
    | (exact LoopOK.mk (I66 t 0) rfl (by kernel_rfl) (wkE_cons (LeN.sl (by kernel_rfl) rfl) (wkE_cons (LeN.sl (by kernel_rfl) rfl) (wkE_cons (LeN.sl (by kernel_rfl) rfl) (wkE_cons (LeN.sl (by kernel_rfl) rfl) trivial)))) (wkH_cons (BkN.blk (k := ⟨tl t, .t 38⟩) (by kernel_rfl) (by rw [upTo_none]) (by kernel_rfl)) (wkH_cons (BkN.blk (k := ⟨tl zT, .t 38⟩) (by kernel_rfl) (rfl) (by kernel_rfl)) trivial)) (fun K hT => L66 t _ 0 rfl (by decide) K hT))
    | (refine Le.of ?_; rw [upTo_all]; rfl)
    | (exact Le.of (by kernel_rfl))
    | (exact okw _ (by omega) (by omega))
    | (exact Le.of rfl)
    | (exact BkR.of rfl)
    | (unfold SlOK; omega)
    | (unfold SlOK; decide)
    | (unfold inByte; decide)
    | (simp only [*, Bool.and_self, Bool.not_false, Bool.not_true]; done)
    | (simp_all [wants]; done)
def ofI (n : Int) : UInt8 := UInt8.ofNat n.toNat
def lsB (l : List Leaf) : Nat → UInt8 := fun i => match l[i]? with | some (.v (.int _ n)) => ofI n | _ => 0
theorem ofI_nat (b : UInt8) : ofI ((b.toNat : Nat) : Int) = b := by unfold ofI; simp
theorem lsB_tl (t : Nat → UInt8) {i : Nat} (h : i < 256) : lsB (tl t) i = t i := by unfold lsB; rw [tl_at t h]; exact ofI_nat _
theorem C66L (l : List Leaf) (t : Nat → UInt8) (h : l = tl t) (n : Nat) : CallOK Tryz.prog 66 [.c (.agg l)] [] n (.c (.agg (tl (clnT (lsB l))))) [] 0 := by
  subst h
  have e : tl (clnT (lsB (tl t))) = tl (clnT t) := tl_ext fun i hi => by unfold clnT; rw [lsB_tl t hi, lsB_tl t (by omega)]
  rw [e]; exact C66 t n
theorem eq38L {xs ys : List Leaf} {t u : Nat → UInt8} (hx : xs = tl t) (hy : ys = tl u) : EqOK Tryz.prog 38 xs ys (sameT (lsB xs) (lsB ys)) := by
  subst hx hy
  have : sameT (lsB (tl t)) (lsB (tl u)) = sameT t u := by
    rw [Bool.eq_iff_iff, sameT_iff, sameT_iff]
    constructor
    · intro h i hi; have := h i hi; rwa [lsB_tl t hi, lsB_tl u hi] at this
    · intro h i hi; rw [lsB_tl t hi, lsB_tl u hi]; exact h i hi
  rw [this]; exact eq38 t u
def fillT (a b c e : UInt8) : Nat → UInt8 := fun i => match i % 4 with | 0 => a | 1 => b | 2 => c | _ => e
theorem fill_px (a b c e : UInt8) (k : Nat) : [ub a, ub b, ub c, ub e] = [ub ((fillT a b c e) (4 * k)), ub ((fillT a b c e) (4 * k + 1)), ub ((fillT a b c e) (4 * k + 2)), ub ((fillT a b c e) (4 * k + 3))] := by
  have h0 : 4 * k % 4 = 0 := by omega
  have h1 : (4 * k + 1) % 4 = 1 := by omega
  have h2 : (4 * k + 2) % 4 = 2 := by omega
  have h3 : (4 * k + 3) % 4 = 3 := by omega
  unfold fillT
  rw [h0, h1, h2, h3]
  rfl
def I146 (a b c e : UInt8) (k : Nat) : St := ⟨[(4, iv .i64 (k : Nat)), (1, .c (.l (.p 0 0))), (2, .c (.l (.p 1 0)))], [(0, some ⟨[ub a, ub b, ub c, ub e], .t 36⟩), (1, some ⟨tl (upTo k (fillT a b c e) zT), .t 38⟩)], 2, 12, [1, 0], (0)⟩
def cz_R146 (a b c e : UInt8) (k : Nat) : Cz := {
  ct := (fun f => match f with
  | _ => none)
  eq := (fun t => match t with
  | _ => none)
  raw := [], sym := [0, 9], nf := [], ap := true, off := [], on := [], lp := fun _ => none, un := 0 }
set_option maxRecDepth 100000 in
theorem R146 (a b c e : UInt8) (k : Nat)  (K : Exit → St → Prop) (h : HB (decide ((Nat.cast k : Int) < 64)) (InR ((Nat.cast k : Int)) 64 ∧ 0 + ((Nat.cast k : Int)).toNat * 4 + 4 ≤ 256 ∧ IntKind.i64.wrap ((Nat.cast k : Int) + 1) = (Nat.cast k : Int) + 1 ∧ RoundTo Tryz.prog ((getLoop 2 (Tryz.f146.body.getD Code.skip)).getD Code.skip) 2 (wkK 2 K) (St.mk [(4, iv IntKind.i64 ((Nat.cast k : Int) + 1)), (10, iv IntKind.i64 ((Nat.cast k : Int) + 1)), (9, SV.c (Cp.l (Leaf.p 1 (0 + ((Nat.cast k : Int)).toNat * 4)))), (8, ag [Leaf.v (Value.int IntKind.u8 (Nat.cast a.toNat : Int)), Leaf.v (Value.int IntKind.u8 (Nat.cast b.toNat : Int)), Leaf.v (Value.int IntKind.u8 (Nat.cast c.toNat : Int)), Leaf.v (Value.int IntKind.u8 (Nat.cast e.toNat : Int))]), (7, iv IntKind.i64 (Nat.cast k : Int)), (3, iv IntKind.i64 (Nat.cast k : Int)), (6, iv IntKind.i64 (Nat.cast k : Int)), (5, bv (decide ((Nat.cast k : Int) < 64))), (4, iv IntKind.i64 (Nat.cast k : Int)), (1, SV.c (Cp.l (Leaf.p 0 0))), (2, SV.c (Cp.l (Leaf.p 1 0)))] [(1, some (Blk.mk (splice (tl (upTo k (fillT a b c e) zT)) (0 + ((Nat.cast k : Int)).toNat * 4) [Leaf.v (Value.int IntKind.u8 (Nat.cast a.toNat : Int)), Leaf.v (Value.int IntKind.u8 (Nat.cast b.toNat : Int)), Leaf.v (Value.int IntKind.u8 (Nat.cast c.toNat : Int)), Leaf.v (Value.int IntKind.u8 (Nat.cast e.toNat : Int))]) (BT.t 38))), (0, some (Blk.mk [Leaf.v (Value.int IntKind.u8 (Nat.cast a.toNat : Int)), Leaf.v (Value.int IntKind.u8 (Nat.cast b.toNat : Int)), Leaf.v (Value.int IntKind.u8 (Nat.cast c.toNat : Int)), Leaf.v (Value.int IntKind.u8 (Nat.cast e.toNat : Int))] (BT.t 36))), (1, some (Blk.mk (tl (upTo k (fillT a b c e) zT)) (BT.t 38)))] 2 12 [1, 1, 0] 0)) (wkK 2 K (Exit.exit 0) (St.mk [(5, bv (decide ((Nat.cast k : Int) < 64))), (4, iv IntKind.i64 (Nat.cast k : Int)), (1, SV.c (Cp.l (Leaf.p 0 0))), (2, SV.c (Cp.l (Leaf.p 1 0)))] [(0, some (Blk.mk [Leaf.v (Value.int IntKind.u8 (Nat.cast a.toNat : Int)), Leaf.v (Value.int IntKind.u8 (Nat.cast b.toNat : Int)), Leaf.v (Value.int IntKind.u8 (Nat.cast c.toNat : Int)), Leaf.v (Value.int IntKind.u8 (Nat.cast e.toNat : Int))] (BT.t 36))), (1, some (Blk.mk (tl (upTo k (fillT a b c e) zT)) (BT.t 38)))] 2 12 [1, 0] 0))) : WPL Tryz.prog ((getLoop 2 (Tryz.f146.body.getD .skip)).getD .skip) (I146 a b c e k) (wkK 2 K) :=
  wp_round (cx := cz_R146 a b c e k) rfl (of_eq (by kernel_rfl) h)
set_option maxRecDepth 100000 in
theorem L146 (a b c e : UInt8)  : ∀ (m k : Nat), 64 - k = m → k ≤ 64 → ∀ (K : Exit → St → Prop), K (.exit 0) (I146 a b c e 64) → WPL Tryz.prog ((getLoop 2 (Tryz.f146.body.getD .skip)).getD .skip) (I146 a b c e k) (wkK 2 K)
  | 0, k, hm, hk, K, hK => by
    have e : k = 64 := by omega
    subst e
    refine R146 a b c e _ K (HB.mk (fun hne => absurd (of_decide_eq_true hne) (by omega)) (fun he => ?_))
    exact wkK.to (I146 a b c e _) (Nat.le_refl _) (by kernel_rfl) (wkE_cons (LeN.sl (by kernel_rfl) rfl) (wkE_cons (LeN.sl (by kernel_rfl) rfl) (wkE_cons (LeN.sl (by kernel_rfl) rfl) trivial))) (wkH_cons (BkN.blk (k := ⟨[ub a, ub b, ub c, ub e], .t 36⟩) (by kernel_rfl) (rfl) (by kernel_rfl)) (wkH_cons (BkN.blk (k := ⟨tl (upTo 64 (fillT a b c e) zT), .t 38⟩) (by kernel_rfl) (rfl) (by kernel_rfl)) trivial)) hK
  | m + 1, k, hm, hk, K, hK => by
    refine R146 a b c e k K (HB.mk (fun hne => ?_) (fun he => absurd (show ((k : Nat) : Int) < (64 : Nat) by omega) (of_decide_eq_false he)))
    have hlt : k < 64 := by omega
    repeat' (first | exact trivial | with_reducible apply And.intro | (with_reducible apply HB.mk) | with_reducible intro _)
    all_goals first
      | (assumption)
      | (with_reducible exact Le.refl _)
      | (exact ⟨by omega, by omega⟩)
      | (rw [show (((k : Nat) : Int)).toNat = k from rfl]; omega)
      | (refine RoundTo.to (I146 a b c e (k + 1)) (Nat.le_refl _) (by kernel_rfl) (wkE_cons (LeN.sl (by kernel_rfl) rfl) (wkE_cons (LeN.sl (by kernel_rfl) rfl) (wkE_cons (LeN.sl (by kernel_rfl) rfl) trivial))) (wkH_cons (BkN.blk (k := ⟨[ub a, ub b, ub c, ub e], .t 36⟩) (by kernel_rfl) (rfl) (by kernel_rfl)) (wkH_cons (BkN.blk (k := ⟨splice (tl (upTo k (fillT a b c e) zT)) (0 + k * 4) [ub a, ub b, ub c, ub e], .t 38⟩) (by kernel_rfl) (by rw [Nat.zero_add, fill_px a b c e k, upTo_set k _ _ hlt]) (by kernel_rfl)) trivial)) (L146 a b c e  m (k + 1) (by omega) (by omega) K hK))
      | (exact okw _ (by omega) (by omega))
      | (exact Le.of rfl)
      | (exact BkR.of rfl)
      | (unfold SlOK; omega)
      | (unfold SlOK; decide)
      | (unfold inByte; decide)
      | (simp only [*, Bool.and_self, Bool.not_false, Bool.not_true]; done)
      | (simp_all [wants]; done)
theorem enters146 : Enters Tryz.prog 146 := fun args w => by go_simp
def cz_C146 (a b c e : UInt8) : Cz := {
  ct := (fun f => match f with
  | _ => none)
  eq := (fun t => match t with
  | _ => none)
  raw := [], sym := [], nf := [(11, .c (.agg (tl (fillT a b c e))))], ap := true, off := [], on := [], lp := fun r => match r with | 2 => some (fun _ K => K (.exit 0) (I146 a b c e 64)) | _ => none, un := 0 }
set_option maxRecDepth 100000 in
set_option maxHeartbeats 400000 in
theorem C146 (a b c e : UInt8)  (n : Nat) : CallOK Tryz.prog 146 [ag [ub a, ub b, ub c, ub e]] [] n (.c (.agg (tl (fillT a b c e)))) [] 0 := by
  refine CallOK.any ?_ (by kernel_rfl) (by kernel_rfl) n
  refine call_ok (cx := cz_C146 a b c e) (nm := []) rfl Tryz.func146 (body := Tryz.f146.body.getD .skip) rfl enters146 (by kernel_rfl) ?_
  apply of_eq (q := (LoopOK Tryz.prog ((getLoop 2 (Tryz.f146.body.getD .skip)).getD .skip) (St.mk [(4, iv IntKind.i64 0), (2, SV.c (Cp.l (Leaf.p 1 0))), (1, SV.c (Cp.l (Leaf.p 0 0))), (0, ag [Leaf.v (Value.int IntKind.u8 (Nat.cast a.toNat : Int)), Leaf.v (Value.int IntKind.u8 (Nat.cast b.toNat : Int)), Leaf.v (Value.int IntKind.u8 (Nat.cast c.toNat : Int)), Leaf.v (Value.int IntKind.u8 (Nat.cast e.toNat : Int))])] [(1, some (Blk.mk zT256 (BT.t 38))), (0, some (Blk.mk [Leaf.v (Value.int IntKind.u8 (Nat.cast a.toNat : Int)), Leaf.v (Value.int IntKind.u8 (Nat.cast b.toNat : Int)), Leaf.v (Value.int IntKind.u8 (Nat.cast c.toNat : Int)), Leaf.v (Value.int IntKind.u8 (Nat.cast e.toNat : Int))] (BT.t 36)))] 2 12 [1, 0] 0) fun K => K (Exit.exit 0) (I146 a b c e 64)) ∧ Le (ag (List.take 256 (tl (upTo 64 (fillT a b c e) zT)))) (ag (tl (fillT a b c e))) ∧ Le (ag (tl (fillT a b c e))) (ag (tl (fillT a b c e))) ∧ True) (by kernel_rfl)
  repeat' (first | exact trivial | with_reducible apply And.intro | (with_reducible apply HB.mk) | with_reducible intro _)
  all_goals first
    | (assumption)
    | (with_reducible exact Le.refl _)
    | (exact LoopOK.mk (I146 a b c e 0) rfl (by kernel_rfl) (wkE_cons (LeN.sl (by kernel_rfl) rfl) (wkE_cons (LeN.sl (by kernel_rfl) rfl) (wkE_cons (LeN.sl (by kernel_rfl) rfl) trivial))) (wkH_cons (BkN.blk (k := ⟨[ub a, ub b, ub c, ub e], .t 36⟩) (by kernel_rfl) (rfl) (by kernel_rfl)) (wkH_cons (BkN.blk (k := ⟨zT256, .t 38⟩) (by kernel_rfl) (by rw [upTo_none, zT256_eq]) (by kernel_rfl)) trivial)) (fun K hT => L146 a b c e _ 0 rfl (by decide) K hT))
    | (refine Le.of ?_; rw [upTo_all]; rfl)
    | (exact Le.of (by kernel_rfl))
    | (exact okw _ (by omega) (by omega))
    | (exact Le.of rfl)
    | (exact BkR.of rfl)
    | (unfold SlOK; omega)
    | (unfold SlOK; decide)
    | (unfold inByte; decide)
    | (simp only [*, Bool.and_self, Bool.not_false, Bool.not_true]; done)
    | (simp_all [wants]; done)
theorem C146I (a b c e : UInt8) (n : Nat) : CallOK Tryz.prog 146 [ag [ub a, ub b, ub c, ub e]] [] n (.c (.agg (tl (fillT (ofI (a.toNat : Nat)) (ofI (b.toNat : Nat)) (ofI (c.toNat : Nat)) (ofI (e.toNat : Nat)))))) [] 0 := by
  rw [ofI_nat, ofI_nat, ofI_nat, ofI_nat]; exact C146 a b c e n
def zeroT (t : Nat → UInt8) : Bool := sameT (clnT t) zT
theorem tl_take (t : Nat → UInt8) : List.take 256 (tl t) = tl t := List.take_of_length_le (by rw [tl_len]; exact Nat.le_refl _)
theorem sameT_congr {t t' u u' : Nat → UInt8} (h : ∀ i, i < 256 → t i = t' i) (k : ∀ i, i < 256 → u i = u' i) : sameT t u = sameT t' u' := by
  rw [Bool.eq_iff_iff, sameT_iff, sameT_iff]
  constructor
  · intro q i hi; rw [← h i hi, ← k i hi]; exact q i hi
  · intro q i hi; rw [h i hi, k i hi]; exact q i hi
theorem cln_lsB (t : Nat → UInt8) : tl (clnT (lsB (tl t))) = tl (clnT t) := tl_ext fun i hi => by unfold clnT; rw [lsB_tl t hi, lsB_tl t (by omega)]
theorem same_lsB (t u : Nat → UInt8) : sameT (lsB (tl t)) (lsB (tl u)) = sameT t u := sameT_congr (fun i hi => lsB_tl t hi) (fun i hi => lsB_tl u hi)
theorem same_lsB0 (t : Nat → UInt8) : sameT (lsB (tl t)) (lsB zT256) = sameT t zT := by rw [zT256_eq]; exact same_lsB t zT
theorem enters108 : Enters Tryz.prog 108 := fun args w => by go_simp
def cz_C108 (t : Nat → UInt8) : Cz := {
  ct := (fun f => match f with
  | 66 => some fun _ _S ar => match ar with | [.c (.agg l)] => some { v := .c (.agg (tl (clnT (lsB l)))), rd := [], wr := [], nw := 0 } | _ => none
  | _ => none)
  eq := (fun t => match t with
  | 38 => some (fun xs ys => sameT (lsB xs) (lsB ys))
  | _ => none)
  raw := [], sym := [], nf := [(3, .c (.agg (tl t))), (4, .c (.agg (tl (clnT t)))), (5, .c (.agg zT256)), (6, bv (zeroT t))], ap := true, off := [], on := [], lp := fun _ => none, un := 0 }
set_option maxRecDepth 100000 in
set_option maxHeartbeats 400000 in
theorem C108 (t : Nat → UInt8)  (n : Nat) : CallOK Tryz.prog 108 [.c (.agg (tl t))] [] n (bv (zeroT t)) [] 0 := by
  refine CallOK.any ?_ (by kernel_rfl) (by kernel_rfl) n
  refine call_ok (cx := cz_C108 t) (nm := []) rfl Tryz.func108 (body := Tryz.f108.body.getD .skip) rfl enters108 (by kernel_rfl) ?_
  apply of_eq (q := Le (ag (List.take 256 (tl t))) (ag (tl t)) ∧ CallOKd Tryz.prog 66 [] [ag (tl t)] [] 1 (ag (tl (clnT (lsB (tl t))))) [] 0 ∧ Le (ag (tl (clnT (lsB (tl t))))) (ag (tl (clnT t))) ∧ Le (ag zT256) (ag zT256) ∧ EqOK Tryz.prog 38 (tl (clnT t)) zT256 (sameT (lsB (tl (clnT t))) (lsB zT256)) ∧ Le (bv (sameT (lsB (tl (clnT t))) (lsB zT256))) (bv (zeroT t)) ∧ Le (bv (zeroT t)) (bv (zeroT t)) ∧ True) (by kernel_rfl)
  repeat' (first | exact trivial | with_reducible apply And.intro | (with_reducible apply HB.mk) | with_reducible intro _)
  all_goals first
    | (assumption)
    | (with_reducible exact Le.refl _)
    | ((exact C66L _ _ rfl _))
    | (exact eq38L rfl zT256_eq)
    | (exact eq38L rfl rfl)
    | (exact Le.of (by rw [cln_lsB]))
    | (exact Le.bool (same_lsB0 _))
    | (exact Le.bool (same_lsB _ _))
    | (exact Le.of (by rw [tl_take]))
    | (exact okw _ (by omega) (by omega))
    | (exact Le.of rfl)
    | (exact BkR.of rfl)
    | (unfold SlOK; omega)
    | (unfold SlOK; decide)
    | (unfold inByte; decide)
    | (simp only [*, Bool.and_self, Bool.not_false, Bool.not_true]; done)
    | (simp_all [wants]; done)
theorem C108L (l : List Leaf) (t : Nat → UInt8) (h : l = tl t) (n : Nat) : CallOK Tryz.prog 108 [.c (.agg l)] [] n (bv (zeroT (lsB l))) [] 0 := by
  subst h
  have e : zeroT (lsB (tl t)) = zeroT t := sameT_congr (fun i hi => by unfold clnT; rw [lsB_tl t hi, lsB_tl t (by omega)]) (fun i hi => rfl)
  rw [e]; exact C108 t n
def solT (t : Nat → UInt8) : Bool := sameT t (fillT (t 0) (t 1) (t 2) (t 3))
def solP (t : Nat → UInt8) (i : Nat) : UInt8 := if solT t = true then t i else 0
theorem solP_t {t : Nat → UInt8} (h : (!solT t) = false) : [ub (solP t 0), ub (solP t 1), ub (solP t 2), ub (solP t 3)] = [ub (t 0), ub (t 1), ub (t 2), ub (t 3)] := by
  unfold solP; rw [if_pos (by simpa using h), if_pos (by simpa using h), if_pos (by simpa using h), if_pos (by simpa using h)]
theorem solP_f {t : Nat → UInt8} (h : (!solT t) = true) : [ub (solP t 0), ub (solP t 1), ub (solP t 2), ub (solP t 3)] = [u8 0, u8 0, u8 0, u8 0] := by
  unfold solP; rw [if_neg (by simpa using h), if_neg (by simpa using h), if_neg (by simpa using h), if_neg (by simpa using h)]; rfl
theorem tl_first (t : Nat → UInt8) : List.take 4 (tl t) = [ub (t 0), ub (t 1), ub (t 2), ub (t 3)] := by have := tl_pix t (k := 0) (by decide); simpa [px] using this
theorem enters111 : Enters Tryz.prog 111 := fun args w => by go_simp
def cz_C111 (t : Nat → UInt8) : Cz := {
  ct := (fun f => match f with
  | 146 => some fun _ _S ar => match ar with | [.c (.agg [.v (.int _ a), .v (.int _ b), .v (.int _ c), .v (.int _ e)])] => some { v := .c (.agg (tl (fillT (ofI a) (ofI b) (ofI c) (ofI e)))), rd := [], wr := [], nw := 0 } | _ => none
  | _ => none)
  eq := (fun t => match t with
  | 38 => some (fun xs ys => sameT (lsB xs) (lsB ys))
  | _ => none)
  raw := [], sym := [], nf := [(4, .c (.agg (tl t))), (6, .c (.agg [ub (t 0), ub (t 1), ub (t 2), ub (t 3)])), (7, .c (.agg (tl (fillT (t 0) (t 1) (t 2) (t 3))))), (8, bv (!solT t)), (11, .c (.agg [ub (t 0), ub (t 1), ub (t 2), ub (t 3)]))], ap := true, off := [], on := [], lp := fun _ => none, un := 0 }
set_option maxRecDepth 100000 in
set_option maxHeartbeats 400000 in
theorem C111 (t : Nat → UInt8)  (n : Nat) : CallOK Tryz.prog 111 [.c (.agg (tl t))] [] n (.tup [.agg [ub (solP t 0), ub (solP t 1), ub (solP t 2), ub (solP t 3)], .l (.v (.bool (solT t)))]) [] 0 := by
  refine CallOK.any ?_ (by kernel_rfl) (by kernel_rfl) n
  refine call_ok (cx := cz_C111 t) (nm := []) rfl Tryz.func111 (body := Tryz.f111.body.getD .skip) rfl enters111 (by kernel_rfl) ?_
  apply of_eq (q := Le (ag (List.take 256 (tl t))) (ag (tl t)) ∧ Le (ag (List.take 4 (tl t))) (ag [Leaf.v (Value.int IntKind.u8 (Nat.cast ((t 0).toNat) : Int)), Leaf.v (Value.int IntKind.u8 (Nat.cast ((t 1).toNat) : Int)), Leaf.v (Value.int IntKind.u8 (Nat.cast ((t 2).toNat) : Int)), Leaf.v (Value.int IntKind.u8 (Nat.cast ((t 3).toNat) : Int))]) ∧ CallOKd Tryz.prog 146 [] [ag [Leaf.v (Value.int IntKind.u8 (Nat.cast ((t 0).toNat) : Int)), Leaf.v (Value.int IntKind.u8 (Nat.cast ((t 1).toNat) : Int)), Leaf.v (Value.int IntKind.u8 (Nat.cast ((t 2).toNat) : Int)), Leaf.v (Value.int IntKind.u8 (Nat.cast ((t 3).toNat) : Int))]] [] 2 (ag (tl (fillT (ofI (Nat.cast ((t 0).toNat) : Int)) (ofI (Nat.cast ((t 1).toNat) : Int)) (ofI (Nat.cast ((t 2).toNat) : Int)) (ofI (Nat.cast ((t 3).toNat) : Int))))) [] 0 ∧ Le (ag (tl (fillT (ofI (Nat.cast ((t 0).toNat) : Int)) (ofI (Nat.cast ((t 1).toNat) : Int)) (ofI (Nat.cast ((t 2).toNat) : Int)) (ofI (Nat.cast ((t 3).toNat) : Int))))) (ag (tl (fillT (t 0) (t 1) (t 2) (t 3)))) ∧ EqOK Tryz.prog 38 (tl t) (tl (fillT (t 0) (t 1) (t 2) (t 3))) (sameT (lsB (tl t)) (lsB (tl (fillT (t 0) (t 1) (t 2) (t 3))))) ∧ Le (bv !sameT (lsB (tl t)) (lsB (tl (fillT (t 0) (t 1) (t 2) (t 3))))) (bv !solT t) ∧ HB (!solT t) (Le (SV.tup [Cp.agg [Leaf.v (Value.int IntKind.u8 0), Leaf.v (Value.int IntKind.u8 0), Leaf.v (Value.int IntKind.u8 0), Leaf.v (Value.int IntKind.u8 0)], Cp.l (lb false)]) (SV.tup [Cp.agg [Leaf.v (Value.int IntKind.u8 (Nat.cast ((solP t 0).toNat) : Int)), Leaf.v (Value.int IntKind.u8 (Nat.cast ((solP t 1).toNat) : Int)), Leaf.v (Value.int IntKind.u8 (Nat.cast ((solP t 2).toNat) : Int)), Leaf.v (Value.int IntKind.u8 (Nat.cast ((solP t 3).toNat) : Int))], Cp.l (lb (solT t))]) ∧ True) (Le (ag (List.take 4 (tl t))) (ag [Leaf.v (Value.int IntKind.u8 (Nat.cast ((t 0).toNat) : Int)), Leaf.v (Value.int IntKind.u8 (Nat.cast ((t 1).toNat) : Int)), Leaf.v (Value.int IntKind.u8 (Nat.cast ((t 2).toNat) : Int)), Leaf.v (Value.int IntKind.u8 (Nat.cast ((t 3).toNat) : Int))]) ∧ Le (SV.tup [Cp.agg [Leaf.v (Value.int IntKind.u8 (Nat.cast ((t 0).toNat) : Int)), Leaf.v (Value.int IntKind.u8 (Nat.cast ((t 1).toNat) : Int)), Leaf.v (Value.int IntKind.u8 (Nat.cast ((t 2).toNat) : Int)), Leaf.v (Value.int IntKind.u8 (Nat.cast ((t 3).toNat) : Int))], Cp.l (lb true)]) (SV.tup [Cp.agg [Leaf.v (Value.int IntKind.u8 (Nat.cast ((solP t 0).toNat) : Int)), Leaf.v (Value.int IntKind.u8 (Nat.cast ((solP t 1).toNat) : Int)), Leaf.v (Value.int IntKind.u8 (Nat.cast ((solP t 2).toNat) : Int)), Leaf.v (Value.int IntKind.u8 (Nat.cast ((solP t 3).toNat) : Int))], Cp.l (lb (solT t))]) ∧ True)) (by kernel_rfl)
  repeat' (first | exact trivial | with_reducible apply And.intro | (with_reducible apply HB.mk) | with_reducible intro _)
  all_goals first
    | (assumption)
    | (with_reducible exact Le.refl _)
    | ((exact C146I _ _ _ _ _))
    | (exact eq38L rfl zT256_eq)
    | (exact eq38L rfl rfl)
    | (exact Le.of (by rw [cln_lsB]))
    | (exact Le.bool (same_lsB0 _))
    | (exact Le.bool (same_lsB _ _))
    | (exact Le.of (by rw [tl_take]))
    | (refine Le.of ?_; rw [ofI_nat, ofI_nat, ofI_nat, ofI_nat])
    | (refine Le.bool ?_; rw [same_lsB]; rfl)
    | (refine Le.of ?_; rw [tl_first])
    | (refine Le.of ?_; rw [solP_f (by assumption), show solT t = false by simpa using (by assumption : (!solT t) = true)])
    | (refine Le.of ?_; rw [solP_t (by assumption), show solT t = true by simpa using (by assumption : (!solT t) = false)])
    | (exact okw _ (by omega) (by omega))
    | (exact Le.of rfl)
    | (exact BkR.of rfl)
    | (unfold SlOK; omega)
    | (unfold SlOK; decide)
    | (unfold inByte; decide)
    | (simp only [*, Bool.and_self, Bool.not_false, Bool.not_true]; done)
    | (simp_all [wants]; done)
end Ab
end Go.Proofs.YtpdckpifhniioaaGreat
end
section
set_option linter.unusedVariables false
namespace Go.Proofs.YtpdckpifhniioaaGreat
open Go.RowKit
namespace Ab
def Leaf.ren (σ : Nat → Nat) : Leaf → Leaf
  | .v x => .v x
  | .p id off => .p (σ id) off
  | .f fn caps => .f fn (caps.map fun c => (σ c.1, c.2))
  | .s id off len => .s (σ id) off len
  | .o id len => .o (σ id) len
  | .u => .u
def Cp.ren (σ : Nat → Nat) : Cp → Cp
  | .l x => .l (x.ren σ)
  | .agg xs => .agg (xs.map (Leaf.ren σ))
def SV.ren (σ : Nat → Nat) : SV → SV
  | .u => .u
  | .c x => .c (x.ren σ)
  | .tup xs => .tup (xs.map (Cp.ren σ))
  | .g b x => .g b (x.ren σ)
def BT.ren (σ : Nat → Nat) : BT → BT
  | .t n => .t n
  | .r n sz id => .r n sz (σ id)
  | .y n => .y n
  | .e n => .e n
  | .x => .x
  | .q => .q
def Blk.ren (σ : Nat → Nat) (k : Blk) : Blk := ⟨k.cs.map (Leaf.ren σ), k.ty.ren σ⟩
/-- The names that σ gives, looked up. -/
def Bt.of (β : Bt) (σ : Nat → Nat) : Bt := ⟨fun i => β (σ i), fun i => β.c (σ i)⟩
theorem all2_mapl {α β γ : Type} {R : γ → β → Prop} (f : α → γ) : ∀ {l : List α} {m : List β}, All2 R (l.map f) m ↔ All2 (fun a b => R (f a) b) l m
  | [], [] => Iff.rfl
  | [], _ :: _ => Iff.rfl
  | _ :: _, [] => Iff.rfl
  | a :: l, b :: m => by simp only [List.map_cons, All2, all2_mapl f (l := l) (m := m)]
theorem all2_iff {α β : Type} {R S : α → β → Prop} (h : ∀ a b, R a b ↔ S a b) : ∀ {l : List α} {m : List β}, All2 R l m ↔ All2 S l m
  | [], [] => Iff.rfl
  | [], _ :: _ => Iff.rfl
  | _ :: _, [] => Iff.rfl
  | a :: l, b :: m => by simp only [All2, h, all2_iff h (l := l) (m := m)]
section
variable {σ : Nat → Nat} {β : Bt}
theorem Leaf.ren_den (x : Leaf) (y : Value) : (x.ren σ).den β y ↔ x.den (β.of σ) y := by
  cases x with
  | v a => exact Iff.rfl
  | p id off => exact Iff.rfl
  | f fn caps =>
    simp only [Leaf.ren, Leaf.den]
    constructor
    · rintro ⟨cs, h, e⟩; exact ⟨cs, (all2_mapl _).1 h, e⟩
    · rintro ⟨cs, h, e⟩; exact ⟨cs, (all2_mapl _).2 h, e⟩
  | s id off len => exact Iff.rfl
  | o id len => exact Iff.rfl
  | u => exact Iff.rfl
theorem Cp.ren_den (x : Cp) (y : Value) : (x.ren σ).den β y ↔ x.den (β.of σ) y := by
  cases x with
  | l a => exact Leaf.ren_den a y
  | agg xs =>
    simp only [Cp.ren, Cp.den]
    constructor
    · rintro ⟨ys, e, h⟩; exact ⟨ys, e, (all2_iff fun a b => Leaf.ren_den a b).1 ((all2_mapl _).1 h)⟩
    · rintro ⟨ys, e, h⟩; exact ⟨ys, e, (all2_mapl _).2 ((all2_iff fun a b => Leaf.ren_den a b).2 h)⟩
theorem SV.ren_den (x : SV) (y : Value) : (x.ren σ).den β y ↔ x.den (β.of σ) y := by
  cases x with
  | u => exact Iff.rfl
  | c a => exact Cp.ren_den a y
  | tup xs =>
    simp only [SV.ren, SV.den]
    constructor
    · rintro ⟨ys, e, h⟩; exact ⟨ys, e, (all2_iff fun a b => Cp.ren_den a b).1 ((all2_mapl _).1 h)⟩
    · rintro ⟨ys, e, h⟩; exact ⟨ys, e, (all2_mapl _).2 ((all2_iff fun a b => Cp.ren_den a b).2 h)⟩
  | g b a => simp only [SV.ren, SV.den, Cp.ren_den]
theorem BT.ren_ty (t : BT) : (t.ren σ).ty = t.ty ∧ ((t.ren σ = .x ↔ t = .x) ∧ (t.ren σ = .q ↔ t = .q)) ∧ (∀ l m, (t.ren σ).room β l m ↔ t.room (β.of σ) l m) ∧ ∀ m, (t.ren σ).fr m = t.fr m := by
  cases t with
  | t n => exact ⟨rfl, ⟨⟨fun h => (by cases h), fun h => (by cases h)⟩, ⟨fun h => (by cases h), fun h => (by cases h)⟩⟩, fun _ _ => Iff.rfl, fun _ => rfl⟩
  | e n => exact ⟨rfl, ⟨⟨fun h => (by cases h), fun h => (by cases h)⟩, ⟨fun h => (by cases h), fun h => (by cases h)⟩⟩, fun _ _ => Iff.rfl, fun _ => rfl⟩
  | r n sz id => exact ⟨rfl, ⟨⟨fun h => (by cases h), fun h => (by cases h)⟩, ⟨fun h => (by cases h), fun h => (by cases h)⟩⟩, fun _ _ => Iff.rfl, fun _ => rfl⟩
  | y n => exact ⟨rfl, ⟨⟨fun h => (by cases h), fun h => (by cases h)⟩, ⟨fun h => (by cases h), fun h => (by cases h)⟩⟩, fun _ _ => Iff.rfl, fun _ => rfl⟩
  | q => exact ⟨rfl, ⟨⟨fun h => (by cases h), fun h => (by cases h)⟩, Iff.rfl⟩, fun _ _ => Iff.rfl, fun _ => rfl⟩
  | x => exact ⟨rfl, ⟨Iff.rfl, ⟨fun h => (by cases h), fun h => (by cases h)⟩⟩, fun _ _ => Iff.rfl, fun _ => rfl⟩
theorem Blk.ren_at {x : World} {b : Nat} (k : Blk) : BlkAt β x b (k.ren σ) ↔ BlkAt (β.of σ) x b k := by
  obtain ⟨q1, q2, q3, q4⟩ := BT.ren_ty (σ := σ) (β := β) k.ty
  unfold BlkAt Blk.ren
  simp only [q1, q2.1, q2.2, q3, q4, List.map_eq_nil_iff]
  refine or_congr (or_congr Iff.rfl (and_congr Iff.rfl ?_)) ?_
  · unfold QC
    constructor
    · intro h i l hl
      rcases h i (l.ren σ) (by rw [List.getElem?_map, hl]; rfl) with h1 | ⟨y, h1, h2⟩
      · left; cases l <;> simp_all [Leaf.ren]
      · exact .inr ⟨y, h1, (Leaf.ren_den l y).1 h2⟩
    · intro h i l hl
      rw [List.getElem?_map, Option.map_eq_some_iff] at hl
      obtain ⟨z, hz, rfl⟩ := hl
      rcases h i z hz with h1 | ⟨y, h1, h2⟩
      · left; rw [h1]; rfl
      · exact .inr ⟨y, h1, (Leaf.ren_den z y).2 h2⟩
  constructor
  · rintro ⟨ys, zs, h1, h2, h3⟩; exact ⟨ys, zs, h1, (all2_iff fun a b => Leaf.ren_den a b).1 ((all2_mapl _).1 h2), h3⟩
  · rintro ⟨ys, zs, h1, h2, h3⟩; exact ⟨ys, zs, h1, (all2_mapl _).2 ((all2_iff fun a b => Leaf.ren_den a b).2 h2), h3⟩
end
theorem lk_ren {α γ : Type} {σ : Nat → Nat} (hi : ∀ i j, σ i = σ j → i = j) (f : α → γ) : ∀ (l : List (Nat × α)) (i : Nat), lk (l.map fun p => (σ p.1, f p.2)) (σ i) = (lk l i).map f
  | [], i => rfl
  | (k, v) :: l, i => by
    by_cases e : k = i
    · subst e; rw [List.map_cons, lk_cons_eq, lk_cons_eq]; rfl
    · rw [List.map_cons, lk_cons_ne _ _ (fun h => e (hi _ _ h)), lk_cons_ne _ _ e]; exact lk_ren hi f l i
theorem lk_ren_of {α γ : Type} {σ : Nat → Nat} (f : α → γ) : ∀ (l : List (Nat × α)) (j : Nat) (k : γ), lk (l.map fun p => (σ p.1, f p.2)) j = some k → ∃ i, σ i = j
  | [], j, k, h => by cases h
  | (a, v) :: l, j, k, h => by
    by_cases e : σ a = j
    · exact ⟨a, e⟩
    · rw [List.map_cons, lk_cons_ne _ _ e] at h; exact lk_ren_of f l j k h
/-- **A CONTRACT UNDER OTHER NAMES.** -/
theorem CallOKd.ren {P : Program} {f : Nat} {dc : List (Nat × Nat × Bool)} {args : List SV} {H : List (Nat × Blk)} {n : Nat} {v : SV} {wr : List (Nat × Blk)} {nw : Nat} (h : CallOKd P f dc args H n v wr nw) (σ : Nat → Nat) (n' : Nat)
    (hlo : ∀ i, i < n → σ i < n') (hhi : ∀ i, n ≤ i → σ i = n' + (i - n)) (hin : ∀ i j, i < n → j < n → σ i = σ j → i = j) :
    CallOKd P f (dc.map fun p => (σ p.1, p.2)) (args.map (SV.ren σ)) (H.map fun p => (σ p.1, p.2.ren σ)) n' (v.ren σ) (wr.map fun p => (σ p.1, p.2.ren σ)) nw := by
  have hi : ∀ i j, σ i = σ j → i = j := by
    intro i j e
    by_cases h1 : i < n
    · by_cases h2 : j < n
      · exact hin i j h1 h2 e
      · have := hlo i h1; have := hhi j (by omega); omega
    · by_cases h2 : j < n
      · have := hlo j h2; have := hhi i (by omega); omega
      · have := hhi i (by omega); have := hhi j (by omega); omega
  refine ⟨h.1, fun β x vals ha hinj hlt hnew hH hdc => ?_⟩
  have key := h.2 (β.of σ) x vals ((all2_iff fun a b => SV.ren_den a b).1 ((all2_mapl _).1 ha)) (fun i j b h1 h2 => hi _ _ (hinj _ _ b h1 h2)) (fun i b h1 => hlt _ b h1)
    (fun id h1 h2 => hnew (σ id) (by rw [hhi id h1]; omega) (by rw [hhi id h1]; omega))
    (fun id b k h1 h2 => (Blk.ren_at k).1 (hH (σ id) b (k.ren σ) h1 (by rw [lk_ren hi (Blk.ren σ), h2]; rfl))) (fun p hp w hv => hdc (σ p.1, p.2) (List.mem_map.2 ⟨p, hp, rfl⟩) w hv)
  refine key.mono ?_
  rintro e x' ⟨y, β₂, rfl, hD⟩
  have hE : ∀ i b, β i = some b → ¬ (n' ≤ i ∧ i < n' + nw) := fun i b h1 ⟨h2, h3⟩ => by rw [(hnew i h2 h3).1] at h1; cases h1
  have hEc : ∀ i b, β.c i = some b → ¬ (n' ≤ i ∧ i < n' + nw) := fun i b h1 ⟨h2, h3⟩ => by rw [(hnew i h2 h3).2] at h1; cases h1
  obtain ⟨β₃, hβ₃⟩ : ∃ g : Bt, g = ⟨fun j => if n' ≤ j ∧ j < n' + nw then β₂ (n + (j - n')) else β j, fun j => if n' ≤ j ∧ j < n' + nw then β₂.c (n + (j - n')) else β.c j⟩ := ⟨_, rfl⟩
  have v3 : ∀ j, β₃ j = if n' ≤ j ∧ j < n' + nw then β₂ (n + (j - n')) else β j := fun j => by rw [hβ₃]
  have w3 : ∀ j, β₃.c j = if n' ≤ j ∧ j < n' + nw then β₂.c (n + (j - n')) else β.c j := fun j => by rw [hβ₃]
  have hX : Ext β₂ (β₃.of σ) := by
    refine ⟨fun i b hb => ?_, fun i b hb => ?_⟩
    · rcases hD.new i b hb with h1 | ⟨h1, h2, h3⟩
      · show β₃ (σ i) = _
        rw [v3, if_neg (hE _ _ h1)]; exact h1
      · show β₃ (σ i) = _
        have e := hhi i h1
        rw [v3, if_pos ⟨by omega, by omega⟩, show n + (σ i - n') = i by omega]; exact hb
    · rcases hD.newc i b hb with h1 | ⟨h1, h2⟩
      · show β₃.c (σ i) = _
        rw [w3, if_neg (hEc _ _ h1)]; exact h1
      · show β₃.c (σ i) = _
        have e := hhi i h1
        rw [w3, if_pos ⟨by omega, by omega⟩, show n + (σ i - n') = i by omega]; exact hb
  refine ⟨y, β₃, rfl, ⟨(SV.ren_den v y).2 (SV.ext hX hD.den), ⟨?_, ?_⟩, ?_, ?_, ?_, ?_, hD.os, hD.tape, hD.output, hD.size, ?_, ?_⟩⟩
  · intro i b hb
    rw [v3, if_neg (hE i b hb)]; exact hb
  · intro i b hb
    rw [w3, if_neg (hEc i b hb)]; exact hb
  · intro i b hb
    rw [v3] at hb
    split at hb
    · rename_i hr
      rcases hD.new _ b hb with h1 | ⟨h1, h2, h3⟩
      · exfalso
        have e := hhi (n + (i - n')) (by omega)
        rw [show n' + (n + (i - n') - n) = i by omega] at e
        have h1 : β (σ (n + (i - n'))) = some b := h1
        rw [e] at h1
        exact hE i b h1 hr
      · exact .inr ⟨hr.1, hr.2, h3⟩
    · exact .inl hb
  · intro i b hb
    rw [w3] at hb
    split at hb
    · rename_i hr
      exact .inr hr
    · exact .inl hb
  · intro i j b hb hc
    rw [v3] at hb hc
    split at hb
    · rename_i hr
      split at hc
      · rename_i hs
        have := hD.inj _ _ b hb hc
        omega
      · rename_i hs
        exfalso
        rcases hD.new _ b hb with h1 | ⟨h1, h2, h3⟩
        · have e := hhi (n + (i - n')) (by omega)
          rw [show n' + (n + (i - n') - n) = i by omega] at e
          have h1 : β (σ (n + (i - n'))) = some b := h1
          rw [e] at h1
          exact hE i b h1 hr
        · have := hlt j b hc; omega
    · rename_i hr
      split at hc
      · rename_i hs
        exfalso
        rcases hD.new _ b hc with h1 | ⟨h1, h2, h3⟩
        · have e := hhi (n + (j - n')) (by omega)
          rw [show n' + (n + (j - n') - n) = j by omega] at e
          have h1 : β (σ (n + (j - n'))) = some b := h1
          rw [e] at h1
          exact hE j b h1 hs
        · have := hlt i b hb; omega
      · exact hinj i j b hb hc
  · intro i b hb
    rw [v3] at hb
    split at hb
    · exact hD.lt _ b hb
    · exact Nat.lt_of_lt_of_le (hlt i b hb) hD.size
  · intro k hk hne
    refine hD.keep k hk fun id hb => ?_
    have := hne (σ id) hb
    rw [lk_ren hi (Blk.ren σ)] at this
    cases hq : lk wr id with
    | none => rfl
    | some q => rw [hq] at this; cases this
  · intro i b k hb hk
    obtain ⟨id, rfl⟩ := lk_ren_of (Blk.ren σ) wr i k hk
    rw [lk_ren hi (Blk.ren σ)] at hk
    cases hq : lk wr id with
    | none => rw [hq] at hk; cases hk
    | some q =>
      rw [hq] at hk
      simp only [Option.map_some, Option.some.injEq] at hk
      subst hk
      have hb2 : β₂ id = some b := by
        rw [v3] at hb
        split at hb
        · rename_i hr
          have hge : n ≤ id := by
            rcases Nat.lt_or_ge id n with h1 | h1
            · have := hlo id h1; omega
            · exact h1
          have e := hhi id hge
          rw [show n + (σ id - n') = id by omega] at hb
          exact hb
        · exact hD.ext.b id b hb
      refine (Blk.ren_at q).2 ?_
      exact (hD.blk id b q hb2 hq).ext hX rfl
theorem CallOK.ren {P : Program} {f : Nat} {args : List SV} {H : List (Nat × Blk)} {n : Nat} {v : SV} {wr : List (Nat × Blk)} {nw : Nat} (h : CallOK P f args H n v wr nw) (σ : Nat → Nat) (n' : Nat)
    (hlo : ∀ i, i < n → σ i < n') (hhi : ∀ i, n ≤ i → σ i = n' + (i - n)) (hin : ∀ i j, i < n → j < n → σ i = σ j → i = j) :
    CallOK P f (args.map (SV.ren σ)) (H.map fun p => (σ p.1, p.2.ren σ)) n' (v.ren σ) (wr.map fun p => (σ p.1, p.2.ren σ)) nw := CallOKd.ren h σ n' hlo hhi hin
end Ab
end Go.Proofs.YtpdckpifhniioaaGreat
end
section
set_option linter.unusedVariables false
set_option linter.unusedSimpArgs false
namespace Go.Proofs.YtpdckpifhniioaaGreat
open Go.RowKit
namespace Ab
theorem enters179 : Enters Tryz.prog 179 := fun args w => by go_simp
def cz_C179 : Cz := {
  ct := (fun f => match f with
  | _ => none)
  eq := (fun t => match t with
  | _ => none)
  raw := [], sym := [], nf := [], ap := true, off := [], on := [], lp := fun _ => none, un := 0 }
set_option maxRecDepth 100000 in
set_option maxHeartbeats 400000 in
theorem C179 (x : Int)  (n : Nat) : CallOK Tryz.prog 179 [iv .i64 x] [] n (bv false) [] 0 := by
  refine CallOK.any ?_ (by kernel_rfl) (by kernel_rfl) n
  refine call_ok (cx := cz_C179) (nm := []) rfl Tryz.func179 (body := Tryz.f179.body.getD .skip) rfl enters179 (by kernel_rfl) ?_
  apply of_eq (q := Le (bv (x != x)) (bv false) ∧ True) (by kernel_rfl)
  repeat' (first | exact trivial | with_reducible apply And.intro | (with_reducible apply HB.mk) | with_reducible intro _)
  all_goals first
    | (assumption)
    | (with_reducible exact Le.refl _)
    | (exact Le.bool (by simp))
    | (exact okw _ (by omega) (by omega))
    | (exact Le.of rfl)
    | (exact BkR.of rfl)
    | (unfold SlOK; omega)
    | (unfold SlOK; decide)
    | (unfold inByte; decide)
    | (simp only [*, Bool.and_self, Bool.not_false, Bool.not_true]; done)
    | (simp_all [wants]; done)
def cmpI (x y : Int) : Int := bif decide (x < y) then -1 else bif decide (x > y) then 1 else 0
def orI (a b : Int) : Int := bif a != 0 then a else bif b != 0 then b else 0
theorem enters144 : Enters Tryz.prog 144 := fun args w => by go_simp
def cz_C144 : Cz := {
  ct := (fun f => match f with
  | 179 => some fun _ _S ar => match ar with | [.c (.l (.v (.int _ x)))] => some { v := bv false, rd := [], wr := [], nw := 0 } | _ => none
  | _ => none)
  eq := (fun t => match t with
  | _ => none)
  raw := [], sym := [], nf := [], ap := true, off := [], on := [], lp := fun _ => none, un := 0 }
set_option maxRecDepth 100000 in
set_option maxHeartbeats 400000 in
theorem C144 (x y : Int)  (n : Nat) : CallOK Tryz.prog 144 [iv .i64 x, iv .i64 y] [] n (iv .i64 (cmpI x y)) [] 0 := by
  refine CallOK.any ?_ (by kernel_rfl) (by kernel_rfl) n
  refine call_ok (cx := cz_C144) (nm := []) rfl Tryz.func144 (body := Tryz.f144.body.getD .skip) rfl enters144 (by kernel_rfl) ?_
  apply of_eq (q := CallOKd Tryz.prog 179 [] [iv IntKind.i64 x] [] 0 (bv false) [] 0 ∧ CallOKd Tryz.prog 179 [] [iv IntKind.i64 y] [] 0 (bv false) [] 0 ∧ HB (decide (x < y)) (Le (iv IntKind.i64 (-1)) (iv IntKind.i64 (cmpI x y)) ∧ True) (HB (decide (x > y)) (Le (iv IntKind.i64 1) (iv IntKind.i64 (cmpI x y)) ∧ True) (Le (iv IntKind.i64 0) (iv IntKind.i64 (cmpI x y)) ∧ True))) (by kernel_rfl)
  repeat' (first | exact trivial | with_reducible apply And.intro | (with_reducible apply HB.mk) | with_reducible intro _)
  all_goals first
    | (assumption)
    | (with_reducible exact Le.refl _)
    | (with_reducible exact C179 _ _)
    | (refine Le.int ?_; unfold cmpI; simp only [‹decide (x < y) = _›, cond_true, cond_false]; done)
    | (refine Le.int ?_; unfold cmpI; simp only [‹decide (x < y) = _›, ‹decide (x > y) = _›, cond_true, cond_false]; done)
    | (exact okw _ (by omega) (by omega))
    | (exact Le.of rfl)
    | (exact BkR.of rfl)
    | (unfold SlOK; omega)
    | (unfold SlOK; decide)
    | (unfold inByte; decide)
    | (simp only [*, Bool.and_self, Bool.not_false, Bool.not_true]; done)
    | (simp_all [wants]; done)
theorem enters143 : Enters Tryz.prog 143 := fun args w => by go_simp
def cz_C143 : Cz := {
  ct := (fun f => match f with
  | _ => none)
  eq := (fun t => match t with
  | _ => none)
  raw := [], sym := [], nf := [], ap := true, off := [], on := [], lp := fun _ => none, un := 3 }
set_option maxRecDepth 100000 in
set_option maxHeartbeats 400000 in
theorem C143 (a b : Int)  : CallOK Tryz.prog 143 [.c (.l (.o 2 2))] [(2, ⟨[li a, li b], .r 3 1 2⟩)] 3 (iv .i64 (orI a b)) [] ([] : List Nat).length := by
  refine call_ok (cx := cz_C143) (nm := []) rfl Tryz.func143 (body := Tryz.f143.body.getD .skip) rfl enters143 (by kernel_rfl) ?_
  apply of_eq (q := HB (a != 0) (Le (iv IntKind.i64 a) (iv IntKind.i64 (orI a b)) ∧ True) (IntKind.i64.wrap (0 + 1) = 0 + 1 ∧ HB (b != 0) (Le (iv IntKind.i64 b) (iv IntKind.i64 (orI a b)) ∧ True) (IntKind.i64.wrap (0 + 1 + 1) = 0 + 1 + 1 ∧ Le (iv IntKind.i64 0) (iv IntKind.i64 (orI a b)) ∧ True))) (by kernel_rfl)
  repeat' (first | exact trivial | with_reducible apply And.intro | (with_reducible apply HB.mk) | with_reducible intro _)
  all_goals first
    | (assumption)
    | (with_reducible exact Le.refl _)
    | (refine Le.int ?_; unfold orI; simp only [‹(a != 0) = _›, cond_true, cond_false]; done)
    | (refine Le.int ?_; unfold orI; simp only [‹(a != 0) = _›, ‹(b != 0) = _›, cond_true, cond_false]; done)
    | (exact okw _ (by omega) (by omega))
    | (exact Le.of rfl)
    | (exact BkR.of rfl)
    | (unfold SlOK; omega)
    | (unfold SlOK; decide)
    | (unfold inByte; decide)
    | (simp only [*, Bool.and_self, Bool.not_false, Bool.not_true]; done)
    | (simp_all [wants]; done)
def V143 (S : St) (i : Nat) : SV := match S.blk i with | some ⟨[.v (.int _ a), .v (.int _ b)], _⟩ => iv .i64 (orI a b) | _ => .u
def ordI (ax ay bx by_ : Int) : Int := orI (cmpI ay by_) (cmpI ax bx)
theorem enters109 : Enters Tryz.prog 109 := fun args w => by go_simp
def cz_C109 : Cz := {
  ct := (fun f => match f with
  | 143 => some fun _ _S ar => match ar with | [.c (.l (.o i _))] => some { v := V143 _S i, rd := [i], wr := [], nw := 0 } | _ => none
  | 144 => some fun _ _S ar => match ar with | [.c (.l (.v (.int _ x))), .c (.l (.v (.int _ y)))] => some { v := iv .i64 (cmpI x y), rd := [], wr := [], nw := 0 } | _ => none
  | _ => none)
  eq := (fun t => match t with
  | _ => none)
  raw := [], sym := [], nf := [], ap := true, off := [], on := [], lp := fun _ => none, un := 0 }
set_option maxRecDepth 100000 in
set_option maxHeartbeats 400000 in
theorem C109 (ax ay bx by_ : Int)  (n : Nat) : CallOK Tryz.prog 109 [ag [li ax, li ay], ag [li bx, li by_]] [] n (iv .i64 (ordI ax ay bx by_)) [] 0 := by
  refine CallOK.any ?_ (by kernel_rfl) (by kernel_rfl) n
  refine call_ok (cx := cz_C109) (nm := []) rfl Tryz.func109 (body := Tryz.f109.body.getD .skip) rfl enters109 (by kernel_rfl) ?_
  apply of_eq (q := CallOKd Tryz.prog 144 [] [iv IntKind.i64 ay, iv IntKind.i64 by_] [] 2 (iv IntKind.i64 (cmpI ay by_)) [] 0 ∧ CallOKd Tryz.prog 144 [] [iv IntKind.i64 ax, iv IntKind.i64 bx] [] 2 (iv IntKind.i64 (cmpI ax bx)) [] 0 ∧ CallOKd Tryz.prog 143 [] [SV.c (Cp.l (Leaf.o 2 2))] [(2, Blk.mk [li (cmpI ay by_), li (cmpI ax bx)] (BT.r 3 1 2))] 3 (iv IntKind.i64 (orI (cmpI ay by_) (cmpI ax bx))) [] 0 ∧ Le (iv IntKind.i64 (orI (cmpI ay by_) (cmpI ax bx))) (iv IntKind.i64 (ordI ax ay bx by_)) ∧ True) (by kernel_rfl)
  repeat' (first | exact trivial | with_reducible apply And.intro | (with_reducible apply HB.mk) | with_reducible intro _)
  all_goals first
    | (assumption)
    | (with_reducible exact Le.refl _)
    | ((exact C143 _ _))
    | (with_reducible exact C144 _ _ _)
    | (exact okw _ (by omega) (by omega))
    | (exact Le.of rfl)
    | (exact BkR.of rfl)
    | (unfold SlOK; omega)
    | (unfold SlOK; decide)
    | (unfold inByte; decide)
    | (simp only [*, Bool.and_self, Bool.not_false, Bool.not_true]; done)
    | (simp_all [wants]; done)
def inB (x y : Int) : Bool := decide (-8192 ≤ x ∧ x ≤ 8191 ∧ -8192 ≤ y ∧ y ≤ 8191)
theorem inB_eq (x y : Int) : (bif (bif (bif decide (x ≥ -8192) then decide (x ≤ 8191) else false) then decide (y ≥ -8192) else false) then decide (y ≤ 8191) else false) = inB x y := by
  unfold inB
  by_cases h1 : x ≥ -8192 <;> by_cases h2 : x ≤ 8191 <;> by_cases h3 : y ≥ -8192 <;> by_cases h4 : y ≤ 8191 <;> simp [h1, h2, h3, h4] <;> omega
theorem ord_lt {ax ay bx by_ : Int} (h : ay < by_ ∨ (ay = by_ ∧ ax < bx)) : ordI ax ay bx by_ < 0 := by
  unfold ordI orI cmpI
  rcases h with h | ⟨h1, h2⟩
  · simp [h]
  · subst h1; simp [h2]
theorem enters107 : Enters Tryz.prog 107 := fun args w => by go_simp
def cz_C107 : Cz := {
  ct := (fun f => match f with
  | _ => none)
  eq := (fun t => match t with
  | _ => none)
  raw := [], sym := [], nf := [], ap := true, off := [], on := [], lp := fun _ => none, un := 0 }
set_option maxRecDepth 100000 in
set_option maxHeartbeats 400000 in
theorem C107 (x y : Int)  (n : Nat) : CallOK Tryz.prog 107 [ag [li x, li y]] [] n (bv (inB x y)) [] 0 := by
  refine CallOK.any ?_ (by kernel_rfl) (by kernel_rfl) n
  refine call_ok (cx := cz_C107) (nm := []) rfl Tryz.func107 (body := Tryz.f107.body.getD .skip) rfl enters107 (by kernel_rfl) ?_
  apply of_eq (q := (decide (x ≥ -8192) = true → decide (x ≥ -8192) = true ∧ True) ∧ (decide (x ≥ -8192) = true → decide (x ≥ -8192) = true ∧ True) ∧ (decide (x ≥ -8192) = true → decide (x ≥ -8192) = true) ∧ ((bif decide (x ≥ -8192) then decide (x ≤ 8191) else false) = true → (bif decide (x ≥ -8192) then decide (x ≤ 8191) else false) = true ∧ True) ∧ ((bif decide (x ≥ -8192) then decide (x ≤ 8191) else false) = true → (bif decide (x ≥ -8192) then decide (x ≤ 8191) else false) = true ∧ True) ∧ ((bif decide (x ≥ -8192) then decide (x ≤ 8191) else false) = true → (bif decide (x ≥ -8192) then decide (x ≤ 8191) else false) = true) ∧ ((bif bif decide (x ≥ -8192) then decide (x ≤ 8191) else false then decide (y ≥ -8192) else false) = true → (bif bif decide (x ≥ -8192) then decide (x ≤ 8191) else false then decide (y ≥ -8192) else false) = true ∧ True) ∧ ((bif bif decide (x ≥ -8192) then decide (x ≤ 8191) else false then decide (y ≥ -8192) else false) = true → (bif bif decide (x ≥ -8192) then decide (x ≤ 8191) else false then decide (y ≥ -8192) else false) = true ∧ True) ∧ ((bif bif decide (x ≥ -8192) then decide (x ≤ 8191) else false then decide (y ≥ -8192) else false) = true → (bif bif decide (x ≥ -8192) then decide (x ≤ 8191) else false then decide (y ≥ -8192) else false) = true) ∧ Le (bv (bif bif bif decide (x ≥ -8192) then decide (x ≤ 8191) else false then decide (y ≥ -8192) else false then decide (y ≤ 8191) else false)) (bv (inB x y)) ∧ True) (by kernel_rfl)
  repeat' (first | exact trivial | with_reducible apply And.intro | (with_reducible apply HB.mk) | with_reducible intro _)
  all_goals first
    | (assumption)
    | (with_reducible exact Le.refl _)
    | (exact Le.bool (inB_eq x y))
    | (exact okw _ (by omega) (by omega))
    | (exact Le.of rfl)
    | (exact BkR.of rfl)
    | (unfold SlOK; omega)
    | (unfold SlOK; decide)
    | (unfold inByte; decide)
    | (simp only [*, Bool.and_self, Bool.not_false, Bool.not_true]; done)
    | (simp_all [wants]; done)
end Ab
end Go.Proofs.YtpdckpifhniioaaGreat
end
section
set_option linter.unusedVariables false
namespace Go.Proofs.YtpdckpifhniioaaGreat
open Go.RowKit
namespace Ab
structure TA where
  X : Int
  Y : Int
  t : Nat → UInt8
def el (e : TA) : List Leaf := li e.X :: li e.Y :: tl e.t
def rws (l : List TA) : List Leaf := (l.map el).flatten
def TA.z : TA := ⟨0, 0, zT⟩
def at' (l : List TA) (k : Nat) : TA := l.getD k TA.z
def zA258 : List Leaf := li 0 :: li 0 :: List.replicate 256 (.v (.int .u8 0))
theorem el_len (e : TA) : (el e).length = 258 := by simp [el, tl_len]
theorem zA_len : zA258.length = 258 := by kernel_rfl
theorem rws_len : ∀ l : List TA, (rws l).length = 258 * l.length
  | [] => rfl
  | e :: l => by
    have := rws_len l
    simp only [rws, List.map_cons, List.flatten_cons, List.length_append, el_len, List.length_cons] at *
    omega
theorem rws_drop : ∀ (l : List TA) (k : Nat), k < l.length → ∃ m, (rws l).drop (k * 258) = el (at' l k) ++ m
  | [], k, h => by simp at h
  | e :: l, 0, h => ⟨rws l, by simp [rws, at']⟩
  | e :: l, k + 1, h => by
    obtain ⟨m, hm⟩ := rws_drop l k (by simpa using h)
    refine ⟨m, ?_⟩
    have : (rws (e :: l)).drop ((k + 1) * 258) = (rws l).drop (k * 258) := by
      simp only [rws, List.map_cons, List.flatten_cons]
      rw [List.drop_append, List.drop_eq_nil_of_le (by rw [el_len]; omega), List.nil_append, el_len, show (k + 1) * 258 - 258 = k * 258 by omega]
    rw [this, hm]
    rfl
theorem rws_at {l : List TA} {k : Nat} (h : k < l.length) : List.take 258 (List.drop (k * 258) (rws l)) = el (at' l k) := by
  obtain ⟨m, hm⟩ := rws_drop l k h
  rw [hm, List.take_append_of_le_length (by rw [el_len]; exact Nat.le_refl _), List.take_of_length_le (by rw [el_len]; exact Nat.le_refl _)]
theorem rws_pos {l : List TA} {k : Nat} (h : k < l.length) : List.take 2 (List.drop (k * 258) (rws l)) = [li (at' l k).X, li (at' l k).Y] := by
  obtain ⟨m, hm⟩ := rws_drop l k h
  rw [hm]; rfl
theorem splice_full : ∀ (m z : List Leaf) (p : List Leaf), z.length = m.length → splice (p ++ z) p.length m = p ++ m
  | [], z, p, h => by
    have : z = [] := List.eq_nil_of_length_eq_zero h
    subst this; rfl
  | a :: m, b :: z, p, h => by
    have := splice_full m z (p ++ [a]) (by simpa using h)
    rw [splice, List.set_append_right _ _ (Nat.le_refl _), Nat.sub_self, List.set_cons_zero]
    simpa using this
  | a :: m, [], p, h => by simp at h
theorem splice_all {m z : List Leaf} (h : z.length = m.length) : splice z 0 m = m := splice_full m z [] h
theorem put_el (e : TA) : splice zA258 0 (el e) = el e := splice_all (by rw [zA_len, el_len])
theorem rnLs_plain (ρ : Nat → Option Nat) : ∀ l : List Leaf, (∀ x ∈ l, ∃ v, x = .v v) → rnLs ρ l = some l
  | [], _ => rfl
  | x :: l, h => by
    obtain ⟨v, rfl⟩ := h x (by simp)
    simp [rnLs, Leaf.rn, rnLs_plain ρ l fun y hy => h y (by simp [hy])]
theorem tl_plain (t : Nat → UInt8) : ∀ x ∈ tl t, ∃ v, x = .v v := by
  intro x hx
  simp only [tl, List.mem_map] at hx
  obtain ⟨i, _, rfl⟩ := hx
  exact ⟨_, rfl⟩
theorem rws_plain (l : List TA) : ∀ x ∈ rws l, ∃ v, x = .v v := by
  intro x hx
  simp only [rws, List.mem_flatten, List.mem_map] at hx
  obtain ⟨m, ⟨e, _, rfl⟩, hx⟩ := hx
  simp only [el, List.mem_cons] at hx
  rcases hx with rfl | rfl | hx
  · exact ⟨_, rfl⟩
  · exact ⟨_, rfl⟩
  · exact tl_plain _ x hx
theorem rn_rws (ρ : Nat → Option Nat) (l : List TA) : rnLs ρ (rws l) = some (rws l) := rnLs_plain ρ _ (rws_plain l)
theorem blt_rws (n : Nat) (l : List TA) {t : BT} (h : (t.rn (rnId n 0 [])).isSome = true) : blkLt n ⟨rws l, t⟩ = true := by
  unfold blkLt; rw [rn_rws, h]; rfl
/-- What a raster's tiles must be. -/
structure Good (l : List TA) : Prop where
  len : l.length ≤ 1024
  inn : ∀ k, k < l.length → inB (at' l k).X (at' l k).Y = true
  nz : ∀ k, k < l.length → zeroT (at' l k).t = false
  cl : ∀ k, k < l.length → sameT (clnT (at' l k).t) (at' l k).t = true
  ord : ∀ k, k + 1 < l.length → (at' l k).Y < (at' l (k + 1)).Y ∨ ((at' l k).Y = (at' l (k + 1)).Y ∧ (at' l k).X < (at' l (k + 1)).X)
end Ab
end Go.Proofs.YtpdckpifhniioaaGreat
end
section
set_option linter.unusedVariables false
set_option linter.unusedSimpArgs false
namespace Go.Proofs.YtpdckpifhniioaaGreat
open Go.RowKit
namespace Ab
def I46 (l : List TA) (k : Nat) : St := ⟨[(12, iv .i64 (k : Nat)), (11, iv .i64 (l.length : Nat)), (10, .c (.l (.o 0 l.length))), (1, .c (.l (.p 1 0)))], [(0, some ⟨rws l, .r 42 258 0⟩), (1, some ⟨[.o 0 l.length], .t 26⟩)], 2, 52, [2, 1], (1)⟩
theorem tn (k : Nat) : ((k : Nat) : Int).toNat = k := rfl
theorem kprev {k : Nat} (h : 0 < k) : (((k : Nat) : Int) - 1).toNat = k - 1 := by omega
theorem good_prev {l : List TA} (hg : Good l) {k : Nat} (hk : k < l.length) (h : 0 < k) : ordI (at' l (k - 1)).X (at' l (k - 1)).Y (at' l k).X (at' l k).Y < 0 := by
  have := hg.ord (k - 1) (by omega)
  rw [show k - 1 + 1 = k by omega] at this
  exact ord_lt this
theorem gk {k : Nat} (h : (!false && decide (((k : Nat) : Int) > 0)) = true) : 0 < k := by
  simp at h; omega
def cz_R46 (l : List TA) (k : Nat) : Cz := {
  ct := (fun f => match f with
  | 66 => some fun _ _S ar => match ar with | [.c (.agg l)] => some { v := .c (.agg (tl (clnT (lsB l)))), rd := [], wr := [], nw := 0 } | _ => none
  | 107 => some fun _ _S ar => match ar with | [.c (.agg [.v (.int _ ax), .v (.int _ ay)])] => some { v := bv (inB ax ay), rd := [], wr := [], nw := 0 } | _ => none
  | 108 => some fun _ _S ar => match ar with | [.c (.agg l)] => some { v := bv (zeroT (lsB l)), rd := [], wr := [], nw := 0 } | _ => none
  | 109 => some fun _ _S ar => match ar with | [.c (.agg [.v (.int _ ax), .v (.int _ ay)]), .c (.agg [.v (.int _ cx), .v (.int _ cy)])] => some { v := iv .i64 (ordI ax ay cx cy), rd := [], wr := [], nw := 0 } | _ => none
  | _ => none)
  eq := (fun t => match t with
  | 38 => some (fun xs ys => sameT (lsB xs) (lsB ys))
  | _ => none)
  raw := [], sym := [15, 16, 42, 44], nf := [(16, .c (.agg (el (at' l k)))), (18, .c (.agg [li (at' l k).X, li (at' l k).Y])), (20, bv false), (23, .c (.agg (tl (at' l k).t))), (24, bv false), (25, bv false), (28, .c (.agg (tl (at' l k).t))), (29, .c (.agg (tl (clnT (at' l k).t)))), (31, .c (.agg (tl (at' l k).t))), (32, bv false), (33, bv false), (44, .c (.agg [li (at' l (k - 1)).X, li (at' l (k - 1)).Y])), (46, .c (.agg [li (at' l k).X, li (at' l k).Y])), (48, bv false), (49, bv false), (50, bv false)], ap := true, off := [], on := [], lp := fun _ => none, un := 0 }
set_option maxRecDepth 100000 in
theorem R46 (l : List TA) (k : Nat)  (K : Exit → St → Prop) (h : HB (decide ((Nat.cast k : Int) < (Nat.cast l.length : Int))) (InR ((Nat.cast k : Int)) l.length ∧ ((Nat.cast k : Int)).toNat * 258 + 258 ≤ (Blk.mk (rws l) (BT.r 42 258 0)).cs.length ∧ Le (ag (List.take 258 (List.drop (((Nat.cast k : Int)).toNat * 258) (rws l)))) (ag (el (at' l k))) ∧ Le (ag (List.take 2 (List.drop 0 (splice zA258 0 (el (at' l k)))))) (ag [li (at' l k).X, li (at' l k).Y]) ∧ CallOKd Tryz.prog 107 [] [ag [li (at' l k).X, li (at' l k).Y]] [] 3 (bv (inB (at' l k).X (at' l k).Y)) [] 0 ∧ Le (bv !inB (at' l k).X (at' l k).Y) (bv false) ∧ ((!false) = true → (!false) = true ∧ Le (ag (List.take 256 (List.drop 2 (splice zA258 0 (el (at' l k)))))) (ag (tl (at' l k).t)) ∧ True) ∧ ((!false) = true → (!false) = true ∧ CallOKd Tryz.prog 108 [] [ag (tl (at' l k).t)] [] 3 (bv (zeroT (lsB (tl (at' l k).t)))) [] 0 ∧ Le (bv (zeroT (lsB (tl (at' l k).t)))) (bv false) ∧ True) ∧ (false = false → (!false) = true) ∧ Le (bv (bif false then true else false)) (bv false) ∧ ((!false) = true → (!false) = true ∧ Le (ag (List.take 256 (List.drop 2 (splice zA258 0 (el (at' l k)))))) (ag (tl (at' l k).t)) ∧ True) ∧ ((!false) = true → (!false) = true ∧ CallOKd Tryz.prog 66 [] [ag (tl (at' l k).t)] [] 3 (ag (tl (clnT (lsB (tl (at' l k).t))))) [] 0 ∧ Le (ag (tl (clnT (lsB (tl (at' l k).t))))) (ag (tl (clnT (at' l k).t))) ∧ True) ∧ ((!false) = true → (!false) = true ∧ Le (ag (List.take 256 (List.drop 2 (splice zA258 0 (el (at' l k)))))) (ag (tl (at' l k).t)) ∧ True) ∧ ((!false) = true → (!false) = true ∧ (!false) = true ∧ EqOK Tryz.prog 38 (tl (clnT (at' l k).t)) (tl (at' l k).t) (sameT (lsB (tl (clnT (at' l k).t))) (lsB (tl (at' l k).t))) ∧ Le (bv !sameT (lsB (tl (clnT (at' l k).t))) (lsB (tl (at' l k).t))) (bv false) ∧ True) ∧ (false = false → (!false) = true) ∧ Le (bv (bif false then true else false)) (bv false) ∧ ((!false) = true → (!false) = true ∧ True) ∧ ((!false) = true → (!false) = true ∧ True) ∧ ((!false && decide ((Nat.cast k : Int) > 0)) = true → (!false && decide ((Nat.cast k : Int) > 0)) = true ∧ True) ∧ ((!false && decide ((Nat.cast k : Int) > 0)) = true → (!false && decide ((Nat.cast k : Int) > 0)) = true ∧ IntKind.i64.wrap ((Nat.cast k : Int) - 1) = (Nat.cast k : Int) - 1 ∧ True) ∧ ((!false && decide ((Nat.cast k : Int) > 0)) = true → (!false && decide ((Nat.cast k : Int) > 0)) = true ∧ (!false && decide ((Nat.cast k : Int) > 0)) = true ∧ InR ((Nat.cast k : Int) - 1) l.length ∧ True) ∧ ((!false && decide ((Nat.cast k : Int) > 0)) = true → (!false && decide ((Nat.cast k : Int) > 0)) = true ∧ True) ∧ ((!false && decide ((Nat.cast k : Int) > 0)) = true → (!false && decide ((Nat.cast k : Int) > 0)) = true ∧ ((Nat.cast k : Int) - 1).toNat * 258 + 0 + 2 ≤ (Blk.mk (rws l) (BT.r 42 258 0)).cs.length ∧ Le (ag (List.take 2 (List.drop (((Nat.cast k : Int) - 1).toNat * 258 + 0) (rws l)))) (ag [li (at' l (k - 1)).X, li (at' l (k - 1)).Y]) ∧ True) ∧ ((!false && decide ((Nat.cast k : Int) > 0)) = true → (!false && decide ((Nat.cast k : Int) > 0)) = true ∧ Le (ag (List.take 2 (List.drop 0 (splice zA258 0 (el (at' l k)))))) (ag [li (at' l k).X, li (at' l k).Y]) ∧ True) ∧ ((!false && decide ((Nat.cast k : Int) > 0)) = true → (!false && decide ((Nat.cast k : Int) > 0)) = true ∧ (!false && decide ((Nat.cast k : Int) > 0)) = true ∧ CallOKd Tryz.prog 109 [] [ag [li (at' l (k - 1)).X, li (at' l (k - 1)).Y], ag [li (at' l k).X, li (at' l k).Y]] [] 3 (iv IntKind.i64 (ordI (at' l (k - 1)).X (at' l (k - 1)).Y (at' l k).X (at' l k).Y)) [] 0 ∧ True) ∧ ((!false && decide ((Nat.cast k : Int) > 0)) = true → (!false && decide ((Nat.cast k : Int) > 0)) = true ∧ Le (bv (decide (ordI (at' l (k - 1)).X (at' l (k - 1)).Y (at' l k).X (at' l k).Y ≥ 0))) (bv false) ∧ True) ∧ ((!false) = true → (!false) = true ∧ (decide ((Nat.cast k : Int) > 0) = true → (!false && decide ((Nat.cast k : Int) > 0)) = true) ∧ Le (bv (bif decide ((Nat.cast k : Int) > 0) then false else false)) (bv false) ∧ True) ∧ (false = false → (!false) = true) ∧ Le (bv (bif false then true else false)) (bv false) ∧ IntKind.i64.wrap ((Nat.cast k : Int) + 1) = (Nat.cast k : Int) + 1 ∧ RoundTo Tryz.prog ((getLoop 4 (Tryz.f46.body.getD Code.skip)).getD Code.skip) 2 (wkK 2 K) (St.mk [(12, iv IntKind.i64 ((Nat.cast k : Int) + 1)), (51, iv IntKind.i64 ((Nat.cast k : Int) + 1)), (50, bv false), (49, SV.g (!false) (Cp.l (lb false))), (48, SV.g (!false && decide ((Nat.cast k : Int) > 0)) (Cp.l (lb false))), (47, SV.g (!false && decide ((Nat.cast k : Int) > 0)) (Cp.l (li (ordI (at' l (k - 1)).X (at' l (k - 1)).Y (at' l k).X (at' l k).Y)))), (46, SV.g (!false && decide ((Nat.cast k : Int) > 0)) (Cp.agg [li (at' l k).X, li (at' l k).Y])), (45, SV.g (!false && decide ((Nat.cast k : Int) > 0)) (Cp.l (Leaf.p 2 0))), (44, SV.g (!false && decide ((Nat.cast k : Int) > 0)) (Cp.agg [li (at' l (k - 1)).X, li (at' l (k - 1)).Y])), (43, SV.g (!false && decide ((Nat.cast k : Int) > 0)) (Cp.l (Leaf.p 0 (((Nat.cast k : Int) - 1).toNat * 258 + 0)))), (42, SV.g (!false && decide ((Nat.cast k : Int) > 0)) (Cp.l (Leaf.p 0 (((Nat.cast k : Int) - 1).toNat * 258)))), (41, SV.g (!false && decide ((Nat.cast k : Int) > 0)) (Cp.l (li ((Nat.cast k : Int) - 1)))), (40, SV.g (!false && decide ((Nat.cast k : Int) > 0)) (Cp.l (li (Nat.cast k : Int)))), (39, SV.g (!false && decide ((Nat.cast k : Int) > 0)) (Cp.l (Leaf.o 0 l.length))), (38, SV.g (!false && decide ((Nat.cast k : Int) > 0)) (Cp.l (Leaf.p 1 0))), (37, SV.g (!false) (Cp.l (lb (decide ((Nat.cast k : Int) > 0))))), (36, SV.g (!false) (Cp.l (lb (decide ((Nat.cast k : Int) > 0))))), (35, SV.g (!false) (Cp.l (li (Nat.cast k : Int)))), (34, bv false), (33, bv false), (32, SV.g (!false) (Cp.l (lb false))), (31, SV.g (!false) (Cp.agg (tl (at' l k).t))), (30, SV.g (!false) (Cp.l (Leaf.p 2 2))), (29, SV.g (!false) (Cp.agg (tl (clnT (at' l k).t)))), (28, SV.g (!false) (Cp.agg (tl (at' l k).t))), (27, SV.g (!false) (Cp.l (Leaf.p 2 2))), (26, bv false), (25, bv false), (24, SV.g (!false) (Cp.l (lb false))), (23, SV.g (!false) (Cp.agg (tl (at' l k).t))), (22, SV.g (!false) (Cp.l (Leaf.p 2 2))), (21, bv false), (20, bv false), (19, bv (inB (at' l k).X (at' l k).Y)), (18, ag [li (at' l k).X, li (at' l k).Y]), (17, SV.c (Cp.l (Leaf.p 2 0))), (3, iv IntKind.i64 (Nat.cast k : Int)), (4, SV.c (Cp.l (Leaf.p 2 0))), (16, ag (el (at' l k))), (15, SV.c (Cp.l (Leaf.p 0 (((Nat.cast k : Int)).toNat * 258)))), (14, iv IntKind.i64 (Nat.cast k : Int)), (13, bv (decide ((Nat.cast k : Int) < (Nat.cast l.length : Int)))), (12, iv IntKind.i64 (Nat.cast k : Int)), (11, iv IntKind.i64 (Nat.cast l.length : Int)), (10, SV.c (Cp.l (Leaf.o 0 l.length))), (1, SV.c (Cp.l (Leaf.p 1 0)))] [(2, some (Blk.mk (splice zA258 0 (el (at' l k))) (BT.t 42))), (2, some (Blk.mk zA258 (BT.t 42))), (0, some (Blk.mk (rws l) (BT.r 42 258 0))), (1, some (Blk.mk [Leaf.o 0 l.length] (BT.t 26)))] 3 52 [2, 2, 2, 1] 1)) (wkK 2 K (Exit.exit 0) (St.mk [(13, bv (decide ((Nat.cast k : Int) < (Nat.cast l.length : Int)))), (12, iv IntKind.i64 (Nat.cast k : Int)), (11, iv IntKind.i64 (Nat.cast l.length : Int)), (10, SV.c (Cp.l (Leaf.o 0 l.length))), (1, SV.c (Cp.l (Leaf.p 1 0)))] [(0, some (Blk.mk (rws l) (BT.r 42 258 0))), (1, some (Blk.mk [Leaf.o 0 l.length] (BT.t 26)))] 2 52 [2, 1] 1))) : WPL Tryz.prog ((getLoop 4 (Tryz.f46.body.getD .skip)).getD .skip) (I46 l k) (wkK 2 K) :=
  wp_round (cx := cz_R46 l k) rfl (of_eq (by kernel_rfl) h)
set_option maxRecDepth 100000 in
theorem L46 (l : List TA) (hg : Good l) : ∀ (m k : Nat), l.length - k = m → k ≤ l.length → ∀ (K : Exit → St → Prop), K (.exit 0) (I46 l l.length) → WPL Tryz.prog ((getLoop 4 (Tryz.f46.body.getD .skip)).getD .skip) (I46 l k) (wkK 2 K)
  | 0, k, hm, hk, K, hK => by
    have e : k = l.length := by omega
    subst e
    refine R46 l _ K (HB.mk (fun hne => absurd (of_decide_eq_true hne) (by omega)) (fun he => ?_))
    exact wkK.to (I46 l _) (Nat.le_refl _) (by kernel_rfl) (wkE_cons (LeN.sl (by kernel_rfl) rfl) (wkE_cons (LeN.sl (by kernel_rfl) rfl) (wkE_cons (LeN.sl (by kernel_rfl) rfl) (wkE_cons (LeN.sl (by kernel_rfl) rfl) trivial)))) (wkH_cons (BkN.blk (k := ⟨rws l, .r 42 258 0⟩) (by kernel_rfl) rfl (blt_rws _ _ rfl)) (wkH_cons (BkN.blk (k := ⟨[.o 0 l.length], .t 26⟩) (by kernel_rfl) (rfl) (by kernel_rfl)) trivial)) hK
  | m + 1, k, hm, hk, K, hK => by
    refine R46 l k K (HB.mk (fun hne => ?_) (fun he => absurd (show ((k : Nat) : Int) < (l.length : Nat) by omega) (of_decide_eq_false he)))
    have hlt : k < l.length := by omega
    have hlen := hg.len
    repeat' (first | exact trivial | with_reducible apply And.intro | (with_reducible apply HB.mk) | with_reducible intro _)
    all_goals first
      | (assumption)
      | (with_reducible exact Le.refl _)
      | ((exact C66L _ _ rfl _))
      | (with_reducible exact C107 _ _ _)
      | ((exact C108L _ _ rfl _))
      | (with_reducible exact C109 _ _ _ _ _)
      | (exact ⟨by omega, by omega⟩)
      | (exact ⟨by have := gk ‹_›; omega, by omega⟩)
      | ((rw [rws_len, tn]; omega))
      | ((have := gk ‹_›; rw [rws_len, kprev this]; omega))
      | ((refine Le.of ?_; simp only [tn, Nat.zero_add, Nat.add_zero]; rw [rws_at hlt]))
      | ((refine Le.of ?_; rw [put_el]; rfl))
      | ((refine Le.of ?_; rw [put_el]; exact congrArg (fun x => ag x) (tl_take _)))
      | ((have := gk ‹_›; refine Le.of ?_; simp only [kprev this, Nat.zero_add, Nat.add_zero]; rw [rws_pos (by omega)]))
      | (exact C107 _ _ _)
      | (exact Le.bool (by rw [hg.inn k hlt]; rfl))
      | ((refine Le.bool ?_; rw [show zeroT (lsB (tl (at' l k).t)) = zeroT (at' l k).t from sameT_congr (fun i hi => by unfold clnT; rw [lsB_tl _ hi, lsB_tl _ (by omega)]) (fun i hi => rfl), hg.nz k hlt]))
      | (exact Le.bool rfl)
      | (exact Le.of (by rw [cln_lsB]))
      | (exact eq38L rfl rfl)
      | (exact Le.bool (by rw [same_lsB, hg.cl k hlt]; rfl))
      | ((have := gk ‹_›; exact okw _ (by omega) (by omega)))
      | ((refine Le.bool (decide_eq_false ?_); have h1 := good_prev hg hlt (gk ‹_›); omega))
      | ((refine Le.bool ?_; cases decide (((k : Nat) : Int) > 0) <;> rfl))
      | ((simp at *; omega))
      | (refine RoundTo.to (I46 l (k + 1)) (Nat.le_refl _) (by kernel_rfl) (wkE_cons (LeN.sl (by kernel_rfl) rfl) (wkE_cons (LeN.sl (by kernel_rfl) rfl) (wkE_cons (LeN.sl (by kernel_rfl) rfl) (wkE_cons (LeN.sl (by kernel_rfl) rfl) trivial)))) (wkH_cons (BkN.blk (k := ⟨rws l, .r 42 258 0⟩) (by kernel_rfl) rfl (blt_rws _ _ rfl)) (wkH_cons (BkN.blk (k := ⟨[.o 0 l.length], .t 26⟩) (by kernel_rfl) (rfl) (by kernel_rfl)) trivial)) (L46 l hg m (k + 1) (by omega) (by omega) K hK))
      | (exact okw _ (by omega) (by omega))
      | (exact Le.of rfl)
      | (exact BkR.of rfl)
      | (unfold SlOK; omega)
      | (unfold SlOK; decide)
      | (unfold inByte; decide)
      | (simp only [*, Bool.and_self, Bool.not_false, Bool.not_true]; done)
      | (simp_all [wants]; done)
theorem enters46 : Enters Tryz.prog 46 := fun args w => by go_simp
def cz_C46 (l : List TA) : Cz := {
  ct := (fun f => match f with
  | 66 => some fun _ _S ar => match ar with | [.c (.agg l)] => some { v := .c (.agg (tl (clnT (lsB l)))), rd := [], wr := [], nw := 0 } | _ => none
  | 107 => some fun _ _S ar => match ar with | [.c (.agg [.v (.int _ ax), .v (.int _ ay)])] => some { v := bv (inB ax ay), rd := [], wr := [], nw := 0 } | _ => none
  | 108 => some fun _ _S ar => match ar with | [.c (.agg l)] => some { v := bv (zeroT (lsB l)), rd := [], wr := [], nw := 0 } | _ => none
  | 109 => some fun _ _S ar => match ar with | [.c (.agg [.v (.int _ ax), .v (.int _ ay)]), .c (.agg [.v (.int _ cx), .v (.int _ cy)])] => some { v := iv .i64 (ordI ax ay cx cy), rd := [], wr := [], nw := 0 } | _ => none
  | _ => none)
  eq := (fun t => match t with
  | 38 => some (fun xs ys => sameT (lsB xs) (lsB ys))
  | _ => none)
  raw := [], sym := [], nf := [(8, bv false)], ap := true, off := [], on := [], lp := fun r => match r with | 4 => some (fun _ K => K (.exit 0) (I46 l l.length)) | _ => none, un := 0 }
set_option maxRecDepth 100000 in
set_option maxHeartbeats 400000 in
theorem C46 (l : List TA) (hg : Good l) : CallOK Tryz.prog 46 [.c (.agg [.o 0 l.length])] [(0, ⟨rws l, .r 42 258 0⟩)] 1 (bv true) [] ([] : List Nat).length := by
  have hlen := hg.len
  refine call_ok (cx := cz_C46 l) (nm := []) rfl Tryz.func46 (body := Tryz.f46.body.getD .skip) rfl enters46 (by unfold inck; simp only [List.all_cons, List.all_nil, blt_rws _ _ (show (BT.rn (rnId 1 0 []) (.r 42 258 0)).isSome = true from rfl), Bool.and_true, Bool.true_and]; kernel_rfl) ?_
  apply of_eq (q := Le (bv (decide ((Nat.cast l.length : Int) > 1024))) (bv false) ∧ (LoopOK Tryz.prog ((getLoop 4 (Tryz.f46.body.getD .skip)).getD .skip) (St.mk [(12, iv IntKind.i64 0), (11, iv IntKind.i64 (Nat.cast l.length : Int)), (10, SV.c (Cp.l (Leaf.o 0 l.length))), (9, SV.c (Cp.l (Leaf.p 1 0))), (8, bv false), (7, iv IntKind.i64 (Nat.cast l.length : Int)), (6, SV.c (Cp.l (Leaf.o 0 l.length))), (5, SV.c (Cp.l (Leaf.p 1 0))), (2, bv false), (1, SV.c (Cp.l (Leaf.p 1 0))), (0, ag [Leaf.o 0 l.length])] [(1, some (Blk.mk [Leaf.o 0 l.length] (BT.t 26))), (0, some (Blk.mk (rws l) (BT.r 42 258 0)))] 2 52 [1] 1) fun K => K (Exit.exit 0) (I46 l l.length)) ∧ Le (bv true) (bv true) ∧ True) (by kernel_rfl)
  repeat' (first | exact trivial | with_reducible apply And.intro | (with_reducible apply HB.mk) | with_reducible intro _)
  all_goals first
    | (assumption)
    | (with_reducible exact Le.refl _)
    | (exact LoopOK.mk (I46 l 0) rfl (by kernel_rfl) (wkE_cons (LeN.sl (by kernel_rfl) rfl) (wkE_cons (LeN.sl (by kernel_rfl) rfl) (wkE_cons (LeN.sl (by kernel_rfl) rfl) (wkE_cons (LeN.sl (by kernel_rfl) rfl) trivial)))) (wkH_cons (BkN.blk (k := ⟨rws l, .r 42 258 0⟩) (by kernel_rfl) rfl (blt_rws _ _ rfl)) (wkH_cons (BkN.blk (k := ⟨[.o 0 l.length], .t 26⟩) (by kernel_rfl) (rfl) (by kernel_rfl)) trivial)) (fun K hT => L46 l hg _ 0 rfl (Nat.zero_le _) K hT))
    | ((refine Le.bool (decide_eq_false ?_); omega))
    | (exact okw _ (by omega) (by omega))
    | (exact Le.of rfl)
    | (exact BkR.of rfl)
    | (unfold SlOK; omega)
    | (unfold SlOK; decide)
    | (unfold inByte; decide)
    | (simp only [*, Bool.and_self, Bool.not_false, Bool.not_true]; done)
    | (simp_all [wants]; done)
end Ab
end Go.Proofs.YtpdckpifhniioaaGreat
end
section
set_option linter.unusedVariables false
set_option linter.unusedSimpArgs false
namespace Go.Proofs.YtpdckpifhniioaaGreat.Cod
open Go.RowKit
open Go.Proofs.YtpdckpifhniioaaGreat
section
namespace M
/-- The model and the interval. -/
structure St where
  p : Nat → Int
  lo : Int
  hi : Int
def put (f : Nat → Int) (i : Nat) (v : Int) : Nat → Int := fun k => if k = i then v else f k
theorem put_same (f : Nat → Int) (i : Nat) (v : Int) : put f i v i = v := by simp [put]
theorem put_other (f : Nat → Int) (i : Nat) (v : Int) (k : Nat) (h : k ≠ i) : put f i v k = f k := by simp [put, h]
structure Ok (s : St) : Prop where
  p : ∀ c, 31 ≤ s.p c ∧ s.p c ≤ 4065
  lo : 0 ≤ s.lo
  le : s.lo ≤ s.hi
  hi : s.hi ≤ 4294967295
  ne : s.lo / 16777216 ≠ s.hi / 16777216
def start : St := ⟨fun _ => 2048, 0, 4294967295⟩
theorem start_ok : Ok start := ⟨fun _ => ⟨by show (31 : Int) ≤ 2048; decide, by show (2048 : Int) ≤ 4065; decide⟩, by decide, by decide, by decide, by decide⟩
def md (s : St) (c : Nat) : Int := s.lo + (s.hi - s.lo) / 4096 * s.p c
theorem Ok.lt {s : St} (h : Ok s) : s.lo < s.hi := by
  have := h.le
  have := h.ne
  rcases Int.lt_or_eq_of_le h.le with h1 | h1
  · exact h1
  · exact absurd (by rw [h1]) h.ne
theorem md_bd {s : St} (h : Ok s) (c : Nat) : 0 ≤ (s.hi - s.lo) / 4096 * s.p c ∧ (s.hi - s.lo) / 4096 * s.p c < s.hi - s.lo := by
  have h1 := h.lt
  obtain ⟨p1, p2⟩ := h.p c
  have q0 : 0 ≤ (s.hi - s.lo) / 4096 := Int.ediv_nonneg (by omega) (by omega)
  have q1 : 4096 * ((s.hi - s.lo) / 4096) ≤ s.hi - s.lo := Int.mul_ediv_self_le (by omega)
  generalize (s.hi - s.lo) / 4096 = q at *
  have a1 : 0 ≤ q * s.p c := Int.mul_nonneg q0 (by omega)
  have a2 : q * s.p c ≤ q * 4065 := Int.mul_le_mul_of_nonneg_left p2 q0
  exact ⟨a1, by omega⟩
theorem md_in {s : St} (h : Ok s) (c : Nat) : s.lo ≤ md s c ∧ md s c < s.hi := by
  have := md_bd h c
  unfold md; omega
def np (x : Int) (b : Int) : Int := if b = 1 then x + (4096 - x) / 32 else x - x / 32
theorem np_bd {x : Int} (h : 31 ≤ x ∧ x ≤ 4065) (b : Int) : 31 ≤ np x b ∧ np x b ≤ 4065 := by
  unfold np; split <;> omega
def byt (l : Int) : UInt8 := UInt8.ofNat (l / 16777216).toNat
theorem byt_val {l : Int} (h0 : 0 ≤ l) (h1 : l ≤ 4294967295) : ((byt l).toNat : Int) = l / 16777216 := by
  unfold byt
  have : (l / 16777216).toNat < 256 := by omega
  rw [UInt8.toNat_ofNat']
  rw [Nat.mod_eq_of_lt (by simpa using this)]
  omega
/-- The bytes that shifts remove, and what is left of the interval. -/
def shs : Nat → Int → Int → List UInt8 × Int × Int
  | 0, l, h => ([], l, h)
  | f + 1, l, h => if l / 16777216 = h / 16777216 then (byt l :: (shs f (l * 256 % 4294967296) ((h * 256 + 255) % 4294967296)).1, (shs f (l * 256 % 4294967296) ((h * 256 + 255) % 4294967296)).2) else ([], l, h)
theorem shs_eq (f : Nat) (l h : Int) (e : l / 16777216 = h / 16777216) : shs (f + 1) l h = (byt l :: (shs f (l * 256 % 4294967296) ((h * 256 + 255) % 4294967296)).1, (shs f (l * 256 % 4294967296) ((h * 256 + 255) % 4294967296)).2) := by
  rw [shs, if_pos e]
theorem shs_ne (f : Nat) (l h : Int) (e : l / 16777216 ≠ h / 16777216) : shs f l h = ([], l, h) := by
  cases f with
  | zero => rfl
  | succ f => rw [shs, if_neg e]
/-- What 4 - f shifts have brought in. -/
def Cg (f : Nat) (l h : Int) : Prop :=
  match f with
  | 0 => l % 4294967296 = 0 ∧ h % 4294967296 = 4294967295
  | 1 => l % 16777216 = 0 ∧ h % 16777216 = 16777215
  | 2 => l % 65536 = 0 ∧ h % 65536 = 65535
  | 3 => l % 256 = 0 ∧ h % 256 = 255
  | _ => True
/-- The interval during the shifts. -/
structure Iv (f : Nat) (l h : Int) : Prop where
  bd : f ≤ 4
  lo : 0 ≤ l
  le : l ≤ h
  hi : h ≤ 4294967295
  cg : Cg f l h
theorem Iv.next {f : Nat} {l h : Int} (i : Iv (f + 1) l h) (e : l / 16777216 = h / 16777216) : Iv f (l * 256 % 4294967296) ((h * 256 + 255) % 4294967296) := by
  obtain ⟨h1, h2, h3, h4, h5⟩ := i
  refine ⟨by omega, by omega, by omega, by omega, ?_⟩
  obtain rfl | rfl | rfl | rfl : f = 0 ∨ f = 1 ∨ f = 2 ∨ f = 3 := by omega
  all_goals (simp only [Cg] at h5 ⊢)
  · omega
  · omega
  · omega
  · omega
theorem Iv.stop {l h : Int} (i : Iv 0 l h) : l / 16777216 ≠ h / 16777216 := by
  obtain ⟨h1, h2, h3, h4, h5⟩ := i
  simp only [Cg] at h5
  omega
theorem shs_ok : ∀ (f : Nat) (l h : Int), Iv f l h → 0 ≤ (shs f l h).2.1 ∧ (shs f l h).2.1 ≤ (shs f l h).2.2 ∧ (shs f l h).2.2 ≤ 4294967295 ∧ (shs f l h).2.1 / 16777216 ≠ (shs f l h).2.2 / 16777216
  | 0, l, h, i => ⟨i.lo, i.le, i.hi, i.stop⟩
  | f + 1, l, h, i => by
    by_cases e : l / 16777216 = h / 16777216
    · rw [shs_eq f l h e]
      exact shs_ok f _ _ (i.next e)
    · rw [shs_ne _ l h e]
      exact ⟨i.lo, i.le, i.hi, e⟩
def lo1 (s : St) (c : Nat) (b : Int) : Int := if b = 1 then s.lo else md s c + 1
def hi1 (s : St) (c : Nat) (b : Int) : Int := if b = 1 then md s c else s.hi
theorem iv1 {s : St} (h : Ok s) (c : Nat) (b : Int) : Iv 4 (lo1 s c b) (hi1 s c b) := by
  have := md_in h c
  have := h.lo
  have := h.hi
  unfold lo1 hi1
  refine ⟨by omega, ?_, ?_, ?_, trivial⟩ <;> split <;> omega
/-- A bit: the bytes that leave, the state behind it. -/
def outB (s : St) (c : Nat) (b : Int) : List UInt8 := (shs 4 (lo1 s c b) (hi1 s c b)).1
def nxt (s : St) (c : Nat) (b : Int) : St := ⟨put s.p c (np (s.p c) b), (shs 4 (lo1 s c b) (hi1 s c b)).2.1, (shs 4 (lo1 s c b) (hi1 s c b)).2.2⟩
theorem nxt_ok {s : St} (h : Ok s) (c : Nat) (b : Int) : Ok (nxt s c b) := by
  obtain ⟨h1, h2, h3, h4⟩ := shs_ok 4 _ _ (iv1 h c b)
  refine ⟨fun k => ?_, h1, h2, h3, h4⟩
  show 31 ≤ put s.p c (np (s.p c) b) k ∧ put s.p c (np (s.p c) b) k ≤ 4065
  unfold put
  split
  · exact np_bd (h.p c) b
  · exact h.p k
theorem shs_len : ∀ (f : Nat) (l h : Int), (shs f l h).1.length ≤ f
  | 0, _, _ => Nat.le_refl _
  | f + 1, l, h => by
    by_cases e : l / 16777216 = h / 16777216
    · rw [shs_eq f l h e]
      have := shs_len f (l * 256 % 4294967296) ((h * 256 + 255) % 4294967296)
      simp; omega
    · rw [shs_ne _ l h e]; simp
theorem outB_len (s : St) (c : Nat) (b : Int) : (outB s c b).length ≤ 4 := shs_len 4 _ _
/-- The four bytes from place n on; zeros behind the end. -/
def at' (F : List UInt8) (n : Nat) : Int := ((F.getD n 0).toNat : Nat)
def val (F : List UInt8) (n : Nat) : Int := at' F n * 16777216 + at' F (n + 1) * 65536 + at' F (n + 2) * 256 + at' F (n + 3)
/-- The bit that a reader finds. -/
def rb (s : St) (c : Nat) (v : Int) : Int := if v ≤ md s c then 1 else 0
/-- A sequence of bits in contexts. -/
def runS : St → List (Nat × Int) → St
  | s, [] => s
  | s, x :: l => runS (nxt s x.1 x.2) l
def runO : St → List (Nat × Int) → List UInt8
  | _, [] => []
  | s, x :: l => outB s x.1 x.2 ++ runO (nxt s x.1 x.2) l
theorem runS_append : ∀ (l m : List (Nat × Int)) (s : St), runS s (l ++ m) = runS (runS s l) m
  | [], _, _ => rfl
  | x :: l, m, s => runS_append l m _
theorem runO_append : ∀ (l m : List (Nat × Int)) (s : St), runO s (l ++ m) = runO s l ++ runO (runS s l) m
  | [], _, _ => rfl
  | x :: l, m, s => by
    show outB s x.1 x.2 ++ runO _ (l ++ m) = _
    rw [runO_append l m]
    show _ = (outB s x.1 x.2 ++ runO _ l) ++ _
    rw [List.append_assoc]; rfl
theorem runO_len : ∀ (l : List (Nat × Int)) (s : St), (runO s l).length ≤ 4 * l.length
  | [], _ => Nat.le_refl _
  | x :: l, s => by
    show (outB s x.1 x.2 ++ runO _ l).length ≤ _
    have := runO_len l (nxt s x.1 x.2)
    have := outB_len s x.1 x.2
    simp; omega
/-- Four bytes, the most significant one first. -/
def be4 (x : Int) : List UInt8 := [UInt8.ofNat (x / 16777216).toNat, UInt8.ofNat (x / 65536).toNat, UInt8.ofNat (x / 256).toNat, UInt8.ofNat x.toNat]
theorem ofNat_val (n : Nat) : ((UInt8.ofNat n).toNat : Int) = (n : Int) % 256 := by
  rw [UInt8.toNat_ofNat']; omega
/-- F holds the bytes bs from place n on. -/
def Has (F : List UInt8) (n : Nat) (bs : List UInt8) : Prop := ∀ i b, bs[i]? = some b → F.getD (n + i) 0 = b
theorem Has.left {F : List UInt8} {n : Nat} {a b : List UInt8} (h : Has F n (a ++ b)) : Has F n a := fun i x hx => h i x (by rw [List.getElem?_append_left (List.getElem?_eq_some_iff.1 hx).1]; exact hx)
theorem Has.right {F : List UInt8} {n : Nat} {a b : List UInt8} (h : Has F n (a ++ b)) : Has F (n + a.length) b := fun i x hx => by
  have := h (a.length + i) x (by rw [List.getElem?_append_right (by omega)]; rw [Nat.add_sub_cancel_left]; exact hx)
  rwa [← Nat.add_assoc] at this
/-- The bits of a byte in their contexts, the most significant one first. -/
def bitAt (x : Nat) (j : Nat) : Nat × Int := ((256 + x) / 2 ^ (8 - j), ((x / 2 ^ (7 - j) % 2 : Nat) : Int))
def byteBits (x : UInt8) : List (Nat × Int) := (List.range 8).map (bitAt x.toNat)
def encBits (s : List UInt8) : List (Nat × Int) := s.flatMap byteBits
def code (l : List (Nat × Int)) : List UInt8 := runO start l ++ be4 (runS start l).lo
def enc (s : List UInt8) : List UInt8 := code (encBits s)
theorem bitAt_bit (x j : Nat) : (bitAt x j).2 = 0 ∨ (bitAt x j).2 = 1 := by unfold bitAt; dsimp only; omega
theorem encBits_append (s t : List UInt8) : encBits (s ++ t) = encBits s ++ encBits t := List.flatMap_append
theorem encBits_len (s : List UInt8) : (encBits s).length = 8 * s.length := by
  induction s with
  | nil => rfl
  | cons x s ih => show (byteBits x ++ encBits s).length = _; rw [List.length_append, ih]; simp [byteBits]; omega
/-- Eight bits of a reader: the last context, the state, the place. -/
def rdc (F : List UInt8) : Nat → Nat → St → Nat → Nat × St × Nat
  | 0, c, s, n => (c, s, n)
  | k + 1, c, s, n => rdc F k (2 * c + (rb s c (val F n)).toNat) (nxt s c (rb s c (val F n))) (n + (outB s c (rb s c (val F n))).length)
def rdN (F : List UInt8) : Nat → St → Nat → List UInt8 × St × Nat
  | 0, s, n => ([], s, n)
  | k + 1, s, n =>
    let r := rdc F 8 1 s n
    let q := rdN F k r.2.1 r.2.2
    (UInt8.ofNat r.1 :: q.1, q.2)
def dec (F : List UInt8) (n : Nat) : List UInt8 := (rdN F n start 0).1
end M
end
section
namespace M
theorem put_read (f : Nat → Int) (i : Nat) (v : Int) (k : Nat) : put f i v k = if k = i then v else f k := rfl
/-- Two states that differ by the contexts' names alone. -/
structure Ren (σ : Nat → Nat) (s t : St) : Prop where
  p : ∀ k, k < 256 → t.p (σ k) = s.p k
  lo : t.lo = s.lo
  hi : t.hi = s.hi
theorem Ren.md {σ s t} (h : Ren σ s t) (c : Nat) (hc : c < 256) : md t (σ c) = md s c := by
  unfold M.md; rw [h.p c hc, h.lo, h.hi]
theorem Ren.lo1 {σ s t} (h : Ren σ s t) (c : Nat) (hc : c < 256) (b : Int) : lo1 t (σ c) b = lo1 s c b := by
  unfold M.lo1; rw [h.md c hc, h.lo]
theorem Ren.hi1 {σ s t} (h : Ren σ s t) (c : Nat) (hc : c < 256) (b : Int) : hi1 t (σ c) b = hi1 s c b := by
  unfold M.hi1; rw [h.md c hc, h.hi]
theorem Ren.out {σ s t} (h : Ren σ s t) (c : Nat) (hc : c < 256) (b : Int) : outB t (σ c) b = outB s c b := by
  unfold outB; rw [h.lo1 c hc, h.hi1 c hc]
theorem Ren.nxt {σ s t} (hσ : ∀ i j, i < 256 → j < 256 → σ i = σ j → i = j) (h : Ren σ s t) (c : Nat) (hc : c < 256) (b : Int) : Ren σ (nxt s c b) (nxt t (σ c) b) := by
  refine ⟨fun k hk => ?_, ?_, ?_⟩
  · show put t.p (σ c) (np (t.p (σ c)) b) (σ k) = put s.p c (np (s.p c) b) k
    rw [put_read, put_read, h.p c hc, h.p k hk]
    by_cases e : k = c
    · subst e; simp
    · rw [if_neg e, if_neg (fun e' => e (hσ k c hk hc e'))]
  · show (shs 4 _ _).2.1 = (shs 4 _ _).2.1
    rw [h.lo1 c hc, h.hi1 c hc]
  · show (shs 4 _ _).2.2 = (shs 4 _ _).2.2
    rw [h.lo1 c hc, h.hi1 c hc]
/-- The new name of a context. -/
def sg (by' add : Int) (k : Nat) : Nat := (((k : Int) * (2 * by' + 1) + add) % 256).toNat
theorem Ren.run {σ : Nat → Nat} (hσ : ∀ i j, i < 256 → j < 256 → σ i = σ j → i = j) : ∀ (l : List (Nat × Int)) (s t : St), Ren σ s t → (∀ x ∈ l, x.1 < 256) →
    Ren σ (runS s l) (runS t (l.map fun x => (σ x.1, x.2))) ∧ runO t (l.map fun x => (σ x.1, x.2)) = runO s l
  | [], s, t, h, _ => ⟨h, rfl⟩
  | x :: l, s, t, h, hl => by
    have hx := hl x (by simp)
    obtain ⟨h1, h2⟩ := Ren.run hσ l _ _ (h.nxt hσ x.1 hx x.2) (fun y hy => hl y (by simp [hy]))
    refine ⟨h1, ?_⟩
    show outB t (σ x.1) x.2 ++ runO (M.nxt t (σ x.1) x.2) _ = outB s x.1 x.2 ++ runO (M.nxt s x.1 x.2) l
    rw [h2, h.out x.1 hx]
theorem code_len (l : List (Nat × Int)) : (code l).length = (runO start l).length + 4 := by
  unfold code; rw [List.length_append]; rfl
theorem code_bd (l : List (Nat × Int)) : (code l).length ≤ 4 * l.length + 4 := by
  rw [code_len]; have := runO_len l start; omega
theorem enc_bd (s : List UInt8) : (enc s).length ≤ 32 * s.length + 4 := by
  have := code_bd (encBits s)
  rw [encBits_len] at this
  show (code _).length ≤ _; omega
end M
end
section
namespace M
/-- The byte so far: the bits that have come, from the top on. -/
def acc (c k : Nat) : Nat := (c - 2 ^ k) * 2 ^ (8 - k)
end M
end
end Go.Proofs.YtpdckpifhniioaaGreat.Cod
end
