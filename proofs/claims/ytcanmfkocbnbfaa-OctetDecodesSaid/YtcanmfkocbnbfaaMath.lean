/- The plain mathematics of layer 1 (octet): big-endian and LEB128 byte lists, the bitwise CRC-32. No program is in sight; the facts hold for every number and list. -/
namespace Go.Proofs.Ytcanmfkocbnbfaa.M

/-! ### Big-endian bytes -/
def be : Nat → Nat → List UInt8
  | 0, _ => []
  | k + 1, u => UInt8.ofNat (u / 256 ^ k) :: be k u

theorem be_length (k u : Nat) : (be k u).length = k := by
  induction k with
  | zero => rfl
  | succ k ih => simp [be, ih]

theorem ofNat_mod (n : Nat) : UInt8.ofNat (n % 256) = UInt8.ofNat n := by
  apply UInt8.toNat_inj.1; simp

theorem be_snoc (k u : Nat) : be (k + 1) u = be k (u / 256) ++ [UInt8.ofNat u] := by
  induction k with
  | zero => simp [be]
  | succ k ih =>
    rw [be, ih]
    simp only [be, List.cons_append]
    rw [Nat.div_div_eq_div_mul, Nat.pow_succ, Nat.mul_comm]

theorem be_drop (k j u : Nat) : (be (k + j) u).drop k = be j u := by
  induction k with
  | zero => simp
  | succ k ih => rw [Nat.add_right_comm, be, List.drop_succ_cons, ih]

/-! ### LEB128 -/
def leb (u : Nat) : List UInt8 := if u < 128 then [UInt8.ofNat u] else UInt8.ofNat (u % 128 + 128) :: leb (u / 128)
termination_by u
decreasing_by omega

theorem leb_small (u : Nat) (h : u < 128) : leb u = [UInt8.ofNat u] := by rw [leb, if_pos h]
theorem leb_large (u : Nat) (h : ¬ u < 128) : leb u = UInt8.ofNat (u % 128 + 128) :: leb (u / 128) := by rw [leb, if_neg h]

def cnt (u : Nat) : Nat := if u = 0 then 0 else 1 + cnt (u / 128)
termination_by u
decreasing_by omega

theorem cnt_zero : cnt 0 = 0 := by rw [cnt, if_pos rfl]
theorem cnt_pos (u : Nat) (h : 0 < u) : cnt u = 1 + cnt (u / 128) := by rw [cnt, if_neg (by omega)]

theorem leb_length (u : Nat) : (leb u).length = 1 + cnt (u / 128) := by
  induction u using Nat.strongRecOn with
  | _ u ih =>
    by_cases h : u < 128
    · rw [leb_small u h, Nat.div_eq_of_lt h, cnt_zero]; rfl
    · rw [leb_large u h, List.length_cons, ih (u / 128) (by omega), cnt_pos (u / 128) (by omega)]; omega

theorem cnt_le (k u : Nat) (h : u < 128 ^ k) : cnt u ≤ k := by
  induction k generalizing u with
  | zero => have : u = 0 := by simpa using h
            subst this; rw [cnt_zero]; omega
  | succ k ih =>
    by_cases h0 : u = 0
    · subst h0; rw [cnt_zero]; omega
    · rw [cnt_pos u (by omega)]
      have := ih (u / 128) (by rw [Nat.pow_succ] at h; omega)
      omega

theorem cnt_ge (k u : Nat) (h : 128 ^ k ≤ u) : k + 1 ≤ cnt u := by
  induction k generalizing u with
  | zero => have h' : 1 ≤ u := by simpa using h
            rw [cnt_pos u (by omega)]; omega
  | succ k ih =>
    rw [cnt_pos u (by have := Nat.pow_pos (n := k + 1) (show 0 < 128 by omega); omega)]
    have := ih (u / 128) (by rw [Nat.pow_succ] at h; omega)
    omega

theorem leb_le (u : Nat) (h : u < 18446744073709551616) : (leb u).length ≤ 10 := by
  rw [leb_length]
  have := cnt_le 9 (u / 128) (by omega)
  omega

theorem leb_ten (u : Nat) (h : u < 18446744073709551616) (hg : 9223372036854775808 ≤ u) : (leb u).length = 10 := by
  have h1 := leb_le u h
  rw [leb_length] at *
  have := cnt_ge 8 (u / 128) (by omega)
  omega

theorem leb_pos (u : Nat) : 0 < (leb u).length := by rw [leb_length]; omega

theorem leb_ne (u : Nat) : leb u ≠ [] := by
  intro h; have := leb_pos u; rw [h] at this; simp at this

/-- Only the last byte is below 128. -/
theorem leb_byte (u i : Nat) (h : i < (leb u).length) : (128 ≤ ((leb u)[i]).toNat) ↔ i + 1 < (leb u).length := by
  induction u using Nat.strongRecOn generalizing i with
  | _ u ih =>
    by_cases hu : u < 128
    · have hl : leb u = [UInt8.ofNat u] := leb_small u hu
      have h1 : (leb u).length = 1 := by rw [hl]; rfl
      have hi : i = 0 := by omega
      subst hi
      simp only [hl, List.getElem_cons_zero, List.length_singleton]
      simp; omega
    · have hl : leb u = UInt8.ofNat (u % 128 + 128) :: leb (u / 128) := leb_large u hu
      have hp := leb_pos (u / 128)
      cases i with
      | zero =>
        simp only [hl, List.getElem_cons_zero, List.length_cons]
        simp; omega
      | succ i =>
        have h' : i < (leb (u / 128)).length := by rw [hl, List.length_cons] at h; omega
        have := ih (u / 128) (by omega) i h'
        simp only [hl, List.getElem_cons_succ, List.length_cons]
        omega

/-! ### CRC-32 -/
def poly : Nat := 3988292384
def step (c : Nat) : Nat := (c >>> 1) ^^^ (if c % 2 = 1 then poly else 0)
def steps : Nat → Nat → Nat
  | 0, c => c
  | n + 1, c => steps n (step c)
def crcB (c b : Nat) : Nat := steps 8 (c ^^^ b)
def crcL : Nat → List UInt8 → Nat
  | c, [] => c
  | c, b :: l => crcL (crcB c b.toNat) l
def sum (l : List UInt8) : Nat := 4294967295 - crcL 4294967295 l

theorem shr1 (c : Nat) : c >>> 1 = c / 2 := by rw [Nat.shiftRight_eq_div_pow]

theorem step_lin (a b : Nat) : step (a ^^^ b) = step a ^^^ step b := by
  unfold step
  rw [Nat.shiftRight_xor_distrib]
  have e : (a ^^^ b) % 2 = (a + b) % 2 := by
    have := Nat.xor_mod_two_eq_one (a := a) (b := b)
    omega
  rcases Nat.mod_two_eq_zero_or_one a with ha | ha <;> rcases Nat.mod_two_eq_zero_or_one b with hb | hb
  · rw [if_neg (by omega), if_neg (by omega), if_neg (by omega)]; simp
  · rw [if_pos (by omega), if_neg (by omega), if_pos (by omega)]; simp [Nat.xor_assoc]
  · rw [if_pos (by omega), if_pos (by omega), if_neg (by omega)]
    simp only [Nat.xor_zero]; rw [Nat.xor_assoc, Nat.xor_assoc, Nat.xor_comm (b >>> 1) poly]
  · rw [if_neg (by omega), if_pos (by omega), if_pos (by omega)]
    have : (a >>> 1 ^^^ poly) ^^^ (b >>> 1 ^^^ poly) = (a >>> 1 ^^^ b >>> 1) ^^^ (poly ^^^ poly) := by
      rw [Nat.xor_assoc, Nat.xor_assoc, ← Nat.xor_assoc poly, Nat.xor_comm poly (b >>> 1), Nat.xor_assoc]
    rw [this, Nat.xor_self]

theorem step_odd (y : Nat) (h : y % 2 = 1) : step y = (y / 2) ^^^ poly := by unfold step; rw [if_pos h, shr1]
theorem step_even (y : Nat) (h : ¬ y % 2 = 1) : step y = y / 2 := by unfold step; rw [if_neg h, shr1]; simp

theorem steps_lin (n a b : Nat) : steps n (a ^^^ b) = steps n a ^^^ steps n b := by
  induction n generalizing a b with
  | zero => rfl
  | succ n ih => rw [steps, steps, steps, step_lin, ih]

theorem steps_add (m n c : Nat) : steps (m + n) c = steps n (steps m c) := by
  induction m generalizing c with
  | zero => simp [steps]
  | succ m ih => rw [Nat.add_right_comm, steps, steps, ih]

theorem steps_shl (n b : Nat) : steps n (b <<< n) = b := by
  induction n with
  | zero => simp [steps]
  | succ n ih =>
    rw [steps]
    have : step (b <<< (n + 1)) = b <<< n := by
      unfold step
      have h0 : b <<< (n + 1) = 2 * (b <<< n) := by rw [Nat.shiftLeft_succ]
      rw [h0, if_neg (by omega), shr1]
      simp
    rw [this, ih]

theorem step_lt (c : Nat) (h : c < 4294967296) : step c < 4294967296 := by
  unfold step
  have h1 : c >>> 1 < 2 ^ 32 := by rw [shr1]; omega
  have h2 : (if c % 2 = 1 then poly else 0) < 2 ^ 32 := by unfold poly; split <;> omega
  exact Nat.xor_lt_two_pow h1 h2

theorem steps_lt (n c : Nat) (h : c < 4294967296) : steps n c < 4294967296 := by
  induction n generalizing c with
  | zero => exact h
  | succ n ih => exact ih _ (step_lt c h)

theorem xor_lt32 {a b : Nat} (ha : a < 4294967296) (hb : b < 4294967296) : a ^^^ b < 4294967296 :=
  Nat.xor_lt_two_pow (n := 32) ha hb

theorem crcB_lt (c b : Nat) (hc : c < 4294967296) (hb : b < 256) : crcB c b < 4294967296 :=
  steps_lt 8 _ (xor_lt32 hc (by omega))

theorem crcL_lt (l : List UInt8) : ∀ c, c < 4294967296 → crcL c l < 4294967296 := by
  induction l with
  | nil => intro c h; exact h
  | cons b l ih => intro c h; exact ih _ (crcB_lt c b.toNat h b.toNat_lt)

theorem crcL_append (l m : List UInt8) : ∀ c, crcL c (l ++ m) = crcL (crcL c l) m := by
  induction l with
  | nil => intro c; rfl
  | cons b l ih => intro c; exact ih _

/-- A number is its low byte and the rest. -/
theorem split8 (c : Nat) : c = (c % 256) ^^^ ((c >>> 8) <<< 8) := by
  apply Nat.eq_of_testBit_eq
  intro i
  rw [Nat.testBit_xor, Nat.testBit_shiftLeft, Nat.testBit_shiftRight, show (256 : Nat) = 2 ^ 8 from rfl, Nat.testBit_mod_two_pow]
  by_cases h : i < 8
  · simp [h, show ¬ (8 ≤ i) by omega]
  · simp [h, show 8 ≤ i by omega, show 8 + (i - 8) = i by omega]

/-- The table's form of a round. -/
theorem crcB_table (c b : Nat) : crcB c b = steps 8 ((c % 256) ^^^ b) ^^^ (c >>> 8) := by
  unfold crcB
  conv => lhs; rw [split8 c]
  rw [Nat.xor_assoc, Nat.xor_comm _ b, ← Nat.xor_assoc, steps_lin, steps_shl]

theorem crcL_lin3 : ∀ (a b c : List UInt8) (i j k : Nat), a.length = b.length → b.length = c.length →
    crcL (i ^^^ j ^^^ k) (List.zipWith (· ^^^ ·) (List.zipWith (· ^^^ ·) a b) c) = crcL i a ^^^ crcL j b ^^^ crcL k c
  | [], [], [], i, j, k, _, _ => by simp [crcL]
  | x :: a, y :: b, z :: c, i, j, k, h1, h2 => by
    simp only [List.zipWith_cons_cons, crcL]
    rw [← crcL_lin3 a b c _ _ _ (by simpa using h1) (by simpa using h2)]
    congr 1
    unfold crcB
    rw [← steps_lin, ← steps_lin]
    congr 1
    simp only [UInt8.toNat_xor]
    apply Nat.eq_of_testBit_eq
    intro n
    simp only [Nat.testBit_xor]
    generalize i.testBit n = p
    generalize j.testBit n = q
    generalize k.testBit n = r
    generalize x.toNat.testBit n = s
    generalize y.toNat.testBit n = t
    generalize z.toNat.testBit n = u
    cases p <;> cases q <;> cases r <;> cases s <;> cases t <;> cases u <;> rfl
  | [], [], _ :: _, _, _, _, _, h => by simp at h
  | [], _ :: _, _, _, _, _, h, _ => by simp at h
  | _ :: _, [], _, _, _, _, h, _ => by simp at h
  | _ :: _, _ :: _, [], _, _, _, _, h => by simp at h

theorem step_zero (c : Nat) (h : c < 4294967296) (hz : step c = 0) : c = 0 := by
  unfold step at hz
  rw [shr1] at hz
  rcases Nat.mod_two_eq_zero_or_one c with hc | hc
  · rw [if_neg (by omega)] at hz; simp at hz; omega
  · rw [if_pos hc] at hz
    have ht := congrArg (fun n => n.testBit 31) hz
    simp only [Nat.testBit_xor, Nat.zero_testBit] at ht
    have h1 : (c / 2).testBit 31 = false := Nat.testBit_lt_two_pow (by omega)
    have h2 : poly.testBit 31 = true := by decide
    rw [h1, h2] at ht
    simp at ht

theorem steps_zero (n c : Nat) (h : c < 4294967296) (hz : steps n c = 0) : c = 0 := by
  induction n generalizing c with
  | zero => exact hz
  | succ n ih => exact step_zero c h (ih _ (step_lt c h) hz)

theorem xor_eq_zero {a b : Nat} (h : a ^^^ b = 0) : a = b := by
  have : a ^^^ b ^^^ b = b := by rw [h]; simp
  rwa [Nat.xor_assoc, Nat.xor_self, Nat.xor_zero] at this

theorem steps_inj (n a b : Nat) (ha : a < 4294967296) (hb : b < 4294967296) (h : steps n a = steps n b) : a = b := by
  apply xor_eq_zero
  apply steps_zero n _ (xor_lt32 ha hb)
  rw [steps_lin, h, Nat.xor_self]

theorem xor_cancel_right {a b c : Nat} (h : a ^^^ c = b ^^^ c) : a = b := by
  have := congrArg (· ^^^ c) h
  simpa [Nat.xor_assoc] using this

theorem xor_cancel_left {a b c : Nat} (h : c ^^^ a = c ^^^ b) : a = b := by
  rw [Nat.xor_comm c a, Nat.xor_comm c b] at h; exact xor_cancel_right h

/-- Equal bytes behind different states keep them different. -/
theorem crcL_inj_state (l : List UInt8) : ∀ a b, a < 4294967296 → b < 4294967296 → crcL a l = crcL b l → a = b := by
  induction l with
  | nil => intro a b _ _ h; exact h
  | cons x l ih =>
    intro a b ha hb h
    have := ih _ _ (crcB_lt a _ ha x.toNat_lt) (crcB_lt b _ hb x.toNat_lt) h
    exact xor_cancel_right (steps_inj 8 _ _ (xor_lt32 ha (by have := x.toNat_lt; omega)) (xor_lt32 hb (by have := x.toNat_lt; omega)) this)

theorem crcB_two (c n a b : Nat) : steps 8 (steps n (c ^^^ a) ^^^ b) = steps (n + 8) (c ^^^ (a ^^^ (b <<< n))) := by
  rw [steps_add]
  congr 1
  rw [← Nat.xor_assoc, steps_lin n (c ^^^ a), steps_shl]

theorem crc_four (c : Nat) (x y z t : UInt8) :
    crcL c [x, y, z, t] = steps 32 (c ^^^ (x.toNat ^^^ (y.toNat <<< 8) ^^^ (z.toNat <<< 16) ^^^ (t.toNat <<< 24))) := by
  simp only [crcL, crcB]
  rw [show steps 8 (c ^^^ x.toNat) = steps 8 (c ^^^ x.toNat) from rfl, crcB_two c 8, crcB_two c 16, crcB_two c 24]

theorem pack_lt (x y z t : UInt8) : (x.toNat ^^^ (y.toNat <<< 8) ^^^ (z.toNat <<< 16) ^^^ (t.toNat <<< 24)) < 4294967296 := by
  have h1 := x.toNat_lt
  have h2 := y.toNat_lt
  have h3 := z.toNat_lt
  have h4 := t.toNat_lt
  simp only [Nat.shiftLeft_eq]
  exact xor_lt32 (xor_lt32 (xor_lt32 (by omega) (by omega)) (by omega)) (by omega)

theorem pack_inj (x y z t x' y' z' t' : UInt8)
    (h : (x.toNat ^^^ (y.toNat <<< 8) ^^^ (z.toNat <<< 16) ^^^ (t.toNat <<< 24)) = (x'.toNat ^^^ (y'.toNat <<< 8) ^^^ (z'.toNat <<< 16) ^^^ (t'.toNat <<< 24))) :
    x = x' ∧ y = y' ∧ z = z' ∧ t = t' := by
  have key : ∀ (k : Nat) (u v : UInt8), (∀ i, i < 8 → u.toNat.testBit i = v.toNat.testBit i) → u = v := by
    intro _ u v hb
    apply UInt8.toNat_inj.1
    apply Nat.eq_of_testBit_eq
    intro i
    by_cases hi : i < 8
    · exact hb i hi
    · have p : ∀ w : UInt8, w.toNat.testBit i = false := fun w =>
        Nat.testBit_lt_two_pow (Nat.lt_of_lt_of_le w.toNat_lt (Nat.pow_le_pow_right (by omega) (by omega : 8 ≤ i)))
      rw [p u, p v]
  have top : ∀ (w : UInt8) (i : Nat), 8 ≤ i → w.toNat.testBit i = false := fun w i hi =>
    Nat.testBit_lt_two_pow (Nat.lt_of_lt_of_le w.toNat_lt (Nat.pow_le_pow_right (by omega) hi))
  have hb : ∀ i, _ := fun i => congrArg (fun n => n.testBit i) h
  simp only [Nat.testBit_xor, Nat.testBit_shiftLeft] at hb
  refine ⟨key 0 _ _ fun i hi => ?_, key 0 _ _ fun i hi => ?_, key 0 _ _ fun i hi => ?_, key 0 _ _ fun i hi => ?_⟩
  · have := hb i
    simpa [show ¬ 8 ≤ i by omega, show ¬ 16 ≤ i by omega, show ¬ 24 ≤ i by omega] using this
  · have := hb (i + 8)
    simpa [show ¬ 16 ≤ i + 8 by omega, show ¬ 24 ≤ i + 8 by omega, top x (i + 8) (by omega), top x' (i + 8) (by omega)] using this
  · have := hb (i + 16)
    simpa [show 8 ≤ i + 16 by omega, show ¬ 24 ≤ i + 16 by omega, top x (i + 16) (by omega), top x' (i + 16) (by omega), top y (i + 8) (by omega), top y' (i + 8) (by omega)] using this
  · have := hb (i + 24)
    simpa [show 8 ≤ i + 24 by omega, show 16 ≤ i + 24 by omega, top x (i + 24) (by omega), top x' (i + 24) (by omega), top y (i + 16) (by omega), top y' (i + 16) (by omega), top z (i + 8) (by omega), top z' (i + 8) (by omega)] using this

theorem burst (p q : List UInt8) (x y z t x' y' z' t' : UInt8) (c : Nat) (hc : c < 4294967296)
    (h : crcL c (p ++ [x, y, z, t] ++ q) = crcL c (p ++ [x', y', z', t'] ++ q)) : x = x' ∧ y = y' ∧ z = z' ∧ t = t' := by
  rw [crcL_append, crcL_append, crcL_append, crcL_append] at h
  have h0 := crcL_lt p c hc
  have h1 := crcL_inj_state q _ _ (crcL_lt _ _ h0) (crcL_lt _ _ h0) h
  rw [crc_four, crc_four] at h1
  exact pack_inj _ _ _ _ _ _ _ _ (xor_cancel_left (steps_inj 32 _ _ (xor_lt32 h0 (pack_lt _ _ _ _)) (xor_lt32 h0 (pack_lt _ _ _ _)) h1))

end Go.Proofs.Ytcanmfkocbnbfaa.M
