/- Part 7 of what CodecEnds rests on. -/
import Derived.Laws.StructEq
import Derived.Deep.QuietTactic
import Derived.BigQuiet
import Derived.Deep.RegionWith
import Derived.WalkKit
import Derived.ProofKit
import Derived.OpenShut
import Derived.SliceStrings
import Derived.SizedLaws
import Derived.Test.YtpdckpifhniioaaPc
import Derived.Test.YtpdckpifhniioaaPe
import Derived.Test.YtpdckpifhniioaaPf
section
section
set_option linter.unusedVariables false
set_option linter.unusedSimpArgs false
namespace Go.Proofs.Ytpdckpifhniioaa
open Go.RowKit
namespace Ab
def byl (s : ByteArray) : List UInt8 := s.data.toList
def rmd (s : ByteArray) (p : Nat) : List UInt8 := (byl s).drop p
theorem byl_len (s : ByteArray) : (byl s).length = s.size := by unfold byl; rw [Array.length_toList]; rfl
theorem byl_append (s t : ByteArray) : byl (s ++ t) = byl s ++ byl t := by simp [byl, ByteArray.data_append]
theorem byl_ext {s t : ByteArray} (h : byl s = byl t) : s = t := by
  obtain ⟨⟨a⟩⟩ := s
  obtain ⟨⟨b⟩⟩ := t
  have : a = b := h
  rw [this]
theorem byl_mk (l : List UInt8) : byl ⟨l.toArray⟩ = l := rfl
theorem byl_extract (s : ByteArray) (i j : Nat) : byl (s.extract i j) = ((byl s).drop i).take (j - i) := by
  unfold byl
  rw [ByteArray.data_extract, Array.toList_extract, List.extract_eq_take_drop]
theorem rm_zero (s : ByteArray) : rmd s 0 = byl s := by unfold rmd; rw [List.drop_zero]
theorem rm_len (s : ByteArray) (p : Nat) : (rmd s p).length = s.size - p := by unfold rmd; rw [List.length_drop, byl_len]
theorem rm_step {s : ByteArray} {p : Nat} {B C : List UInt8} (h : rmd s p = B ++ C) (hp : p ≤ s.size) : rmd s (p + B.length) = C ∧ p + B.length ≤ s.size := by
  constructor
  · unfold rmd at *
    rw [← List.drop_drop, h, List.drop_left]
  · have := congrArg List.length h
    rw [rm_len, List.length_append] at this
    omega
theorem rd_take {s : ByteArray} {p : Nat} {B C : List UInt8} (h : rmd s p = B ++ C) (hp : p ≤ s.size) {m : Int} (hm : m = (B.length : Nat)) : Oct.takeRes s p false m = (⟨B.toArray⟩, p + B.length, false) := by
  have h1 := (rm_step h hp).2
  unfold Oct.takeRes
  rw [if_neg (by
    rintro (h | h | h)
    · cases h
    · omega
    · omega), hm]
  have e : (((B.length : Nat) : Int)).toNat = B.length := rfl
  rw [e]
  have : s.extract p (p + B.length) = ⟨B.toArray⟩ := byl_ext (by
    rw [byl_extract, byl_mk, Nat.add_sub_cancel_left]
    show (rmd s p).take _ = _
    rw [h, List.take_left]; rfl)
  rw [this]
theorem rd_var {s : ByteArray} {p : Nat} {v : Nat} {C : List UInt8} (h : rmd s p = Oct.M.leb v ++ C) (hv : v < 9223372036854775808) : Oct.varRes s p false = ((v : Int), p + (Oct.M.leb v).length, false) := by
  have h1 : Oct.M.dec 0 0 (s.data.toList.drop p) = some (v, (Oct.M.leb v).length) := (Oct.M.dec_iff _ _ _).2 ⟨by omega, rfl, C, h⟩
  unfold Oct.varRes
  rw [if_neg (by simp), h1]
  simp only []
  rw [Oct.wrap64_small v hv]
theorem bev_be : ∀ (k u : Nat), Oct.bev (Oct.M.be k u) = u % 256 ^ k
  | 0, u => by simp [Oct.bev, Oct.M.be, Nat.mod_one]
  | k + 1, u => by
    rw [Oct.M.be_snoc, Oct.bev_snoc, bev_be k, Nat.pow_succ, Nat.mul_comm (256 ^ k), Nat.mod_mul]
    have : (UInt8.ofNat u).toNat = u % 256 := by simp
    rw [this]; omega
theorem byl_var (k : Int) : byl (varB k) = Oct.M.leb (Oct.u64 k) := rfl
theorem byl_txt (h : ByteArray) : byl (txtB h) = Oct.M.leb h.size ++ byl h := rfl
/-- A number of m bytes is read. -/
theorem rd_num {s : ByteArray} {p : Nat} {k m : Int} {C : List UInt8} (h : rmd s p = byl (putB k m) ++ C) (hp : p ≤ s.size) (h0 : 0 ≤ k) (h1 : k < 256 ^ (Oct.sz m)) (h2 : Oct.sz m ≤ 4) :
    Oct.takeRes s p false (Oct.sz m : Nat) = (putB k m, p + Oct.sz m, false) ∧ numV s p false m = k := by
  have hl : (byl (putB k m)).length = Oct.sz m := Oct.M.be_length _ _
  have e := rd_take h hp (m := (Oct.sz m : Nat)) (by rw [hl])
  have e2 : (⟨(byl (putB k m)).toArray⟩ : ByteArray) = putB k m := byl_ext rfl
  rw [e2, hl] at e
  refine ⟨e, ?_⟩
  unfold numV
  rw [e]
  show wrap64 (Oct.bev (Oct.M.be (Oct.sz m) (Oct.u64 k)) : Nat) = k
  have h3 : (256 : Nat) ^ (Oct.sz m) ≤ 256 ^ 4 := Nat.pow_le_pow_right (by decide) h2
  have h4 : ((256 ^ (Oct.sz m) : Nat) : Int) = (256 : Int) ^ (Oct.sz m) := by simp
  have hk : k < 4294967296 := by omega
  have h5 : Oct.u64 k = k.toNat := by unfold Oct.u64; omega
  have h6 : k.toNat < 256 ^ (Oct.sz m) := by
    have : ((256 ^ (Oct.sz m) : Nat) : Int) = (256 : Int) ^ (Oct.sz m) := by simp
    omega
  rw [bev_be, h5, Nat.mod_eq_of_lt h6, Oct.wrap64_small _ (by omega)]
  omega
def quadE (e : EN) : ByteArray := ⟨#[e.a, e.b, e.c, e.d]⟩
def entW (e : EN) : ByteArray := putB (e.X + 8192) 2 ++ putB (e.Y + 8192) 2 ++ quadE e ++ varB e.blob.size ++ putB e.sum 4
def hdW (L : List EN) : Nat → ByteArray
  | 0 => varB L.length
  | k + 1 => hdW L k ++ entW (ea L k)
def blW (L : List EN) : Nat → ByteArray
  | 0 => ⟨#[]⟩
  | k + 1 => blW L k ++ (ea L k).blob
def bodyW (L : List EN) : ByteArray := txtB (hdW L L.length) ++ putB (sumI (hdW L L.length)) 4 ++ blW L L.length
def writeB (L : List EN) : ByteArray := ⟨#[71, 1]⟩ ++ txtB (hdW L L.length) ++ putB (sumI (hdW L L.length)) 4 ++ blW L L.length
/-- What entries must be, for Open to take them. -/
structure GoodE (L : List EN) : Prop where
  len : L.length ≤ 1024
  x : ∀ k, k < L.length → -8192 ≤ (ea L k).X ∧ (ea L k).X ≤ 8191
  y : ∀ k, k < L.length → -8192 ≤ (ea L k).Y ∧ (ea L k).Y ≤ 8191
  s : ∀ k, k < L.length → 0 ≤ (ea L k).sum ∧ (ea L k).sum < 4294967296
  b : ∀ k, k < L.length → 1 ≤ (ea L k).blob.size ∧ (ea L k).blob.size ≤ 257
  ord : ∀ k, k + 1 < L.length → (ea L k).Y < (ea L (k + 1)).Y ∨ ((ea L k).Y = (ea L (k + 1)).Y ∧ (ea L k).X < (ea L (k + 1)).X)
theorem u64_of {k : Nat} (h : k < 9223372036854775808) : Oct.u64 (k : Int) = k := by unfold Oct.u64; omega
/-- An entry is read. -/
theorem rd_ent {s : ByteArray} {p : Nat} {e : EN} {C : List UInt8} (h : rmd s p = byl (entW e) ++ C) (hp : p ≤ s.size) (hx : -8192 ≤ e.X ∧ e.X ≤ 8191) (hy : -8192 ≤ e.Y ∧ e.Y ≤ 8191) (hs : 0 ≤ e.sum ∧ e.sum < 4294967296) (hb : e.blob.size ≤ 257) :
    pt5 s p = (p + (entW e).size, false) ∧ prX s p = e.X + 8192 ∧ prY s p = e.Y + 8192 ∧ prQ s p = quadE e ∧ prZ s p = (e.blob.size : Nat) ∧ prS s p = e.sum := by
  unfold entW at h
  simp only [byl_append, List.append_assoc] at h
  obtain ⟨a1, a2⟩ := rd_num h hp (by omega) (by show e.X + 8192 < 256 ^ 2; omega) (by decide)
  obtain ⟨b1, b2⟩ := rm_step h hp
  have l1 : (byl (putB (e.X + 8192) 2)).length = 2 := rfl
  rw [l1] at b1 b2
  have p1 : pt1 s p = (p + 2, false) := by unfold pt1; rw [a1]; rfl
  obtain ⟨c1, c2⟩ := rd_num b1 b2 (by omega) (by show e.Y + 8192 < 256 ^ 2; omega) (by decide)
  obtain ⟨d1, d2⟩ := rm_step b1 b2
  have l2 : (byl (putB (e.Y + 8192) 2)).length = 2 := rfl
  rw [l2] at d1 d2
  have p2 : pt2 s p = (p + 2 + 2, false) := by unfold pt2; rw [p1]; show (Oct.takeRes s (p + 2) false _).2 = _; rw [c1]; rfl
  have l3 : (byl (quadE e)).length = 4 := rfl
  have e1 := rd_take d1 d2 (m := 4) rfl
  obtain ⟨f1, f2⟩ := rm_step d1 d2
  rw [l3] at f1 f2 e1
  have p3 : pt3 s p = (p + 2 + 2 + 4, false) := by unfold pt3; rw [p2]; show (Oct.takeRes s (p + 2 + 2) false _).2 = _; rw [e1]
  have hz : Oct.u64 (e.blob.size : Nat) = e.blob.size := u64_of (by omega)
  rw [byl_var, hz] at f1
  have g1 := rd_var f1 (by omega)
  obtain ⟨k1, k2⟩ := rm_step f1 f2
  have p4 : pt4 s p = (p + 2 + 2 + 4 + (Oct.M.leb e.blob.size).length, false) := by unfold pt4; rw [p3]; show (Oct.varRes s (p + 2 + 2 + 4) false).2 = _; rw [g1]
  obtain ⟨m1, m2⟩ := rd_num k1 k2 hs.1 (by show e.sum < 256 ^ 4; omega) (by decide)
  have p5 : pt5 s p = (p + 2 + 2 + 4 + (Oct.M.leb e.blob.size).length + 4, false) := by
    unfold pt5; rw [p4]; show (Oct.takeRes s _ false _).2 = _; rw [m1]; rfl
  have sz : (entW e).size = 2 + 2 + 4 + (Oct.M.leb e.blob.size).length + 4 := by
    unfold entW
    simp only [ByteArray.size_append, putB_sz, sz2, sz4]
    have : (varB (e.blob.size : Nat)).size = (Oct.M.leb e.blob.size).length := by
      show (Oct.M.leb (Oct.u64 (e.blob.size : Nat))).length = _
      rw [hz]
    rw [this]; rfl
  refine ⟨by rw [p5, sz]; simp only [Prod.mk.injEq, and_true]; omega, a2, ?_, ?_, ?_, ?_⟩
  · unfold prY; rw [p1]; exact c2
  · unfold prQ; rw [p2]; show (Oct.takeRes s (p + 2 + 2) false 4).1 = _; rw [e1]; exact byl_ext rfl
  · unfold prZ; rw [p3]; show (Oct.varRes s (p + 2 + 2 + 4) false).1 = _; rw [g1]
  · unfold prS; rw [p4]; exact m2
theorem hdW_more (L : List EN) (k : Nat) : ∀ d, ∃ R, byl (hdW L (k + d)) = byl (hdW L k) ++ R
  | 0 => ⟨[], by simp⟩
  | d + 1 => by
    obtain ⟨R, h⟩ := hdW_more L k d
    refine ⟨R ++ byl (entW (ea L (k + d))), ?_⟩
    show byl (hdW L (k + d) ++ entW (ea L (k + d))) = _
    rw [byl_append, h, List.append_assoc]
theorem hdW_at (L : List EN) {k : Nat} (h : k < L.length) : ∃ R, rmd (hdW L L.length) (hdW L k).size = byl (entW (ea L k)) ++ R := by
  obtain ⟨R, e⟩ := hdW_more L (k + 1) (L.length - (k + 1))
  rw [show k + 1 + (L.length - (k + 1)) = L.length by omega] at e
  refine ⟨R, ?_⟩
  unfold rmd
  rw [e]
  show List.drop _ (byl (hdW L k ++ entW (ea L k)) ++ R) = _
  rw [byl_append, List.append_assoc, ← byl_len, List.drop_left]
theorem hdW_mono (L : List EN) {k : Nat} (h : k ≤ L.length) : (hdW L k).size ≤ (hdW L L.length).size := by
  obtain ⟨R, e⟩ := hdW_more L k (L.length - k)
  rw [show k + (L.length - k) = L.length by omega] at e
  have := congrArg List.length e
  rw [List.length_append, byl_len, byl_len] at this
  omega
section
variable {L : List EN} (g : GoodE L)
include g
theorem w_n : Oct.varRes (hdW L L.length) 0 false = (((L.length : Nat) : Int), (hdW L 0).size, false) := by
  obtain ⟨R, e⟩ := hdW_more L 0 L.length
  rw [Nat.zero_add] at e
  have hl := g.len
  have h1 : rmd (hdW L L.length) 0 = Oct.M.leb L.length ++ R := by
    rw [rm_zero, e]
    show Oct.M.leb (Oct.u64 (L.length : Nat)) ++ R = _
    rw [u64_of (by omega)]
  rw [rd_var h1 (by omega), Nat.zero_add]
  have : (hdW L 0).size = (Oct.M.leb L.length).length := by
    show (Oct.M.leb (Oct.u64 (L.length : Nat))).length = _
    rw [u64_of (by omega)]
  rw [this]
theorem w_posn : ∀ k, k ≤ L.length → posn (hdW L L.length) k = (hdW L k).size
  | 0, _ => by
    show (Oct.varRes (hdW L L.length) 0 false).2.1 = _
    rw [w_n g]
  | k + 1, hk => by
    obtain ⟨R, e⟩ := hdW_at L (show k < L.length by omega)
    show (pt5 (hdW L L.length) (posn (hdW L L.length) k)).1 = _
    rw [w_posn k (by omega), (rd_ent e (hdW_mono L (by omega)) (g.x k hk) (g.y k hk) (g.s k hk) (g.b k hk).2).1]
    show _ = (hdW L k ++ entW (ea L k)).size
    rw [ByteArray.size_append]
theorem w_ent {k : Nat} (hk : k < L.length) : pt5 (hdW L L.length) (posn (hdW L L.length) k) = ((hdW L (k + 1)).size, false) ∧ prX (hdW L L.length) (posn (hdW L L.length) k) = (ea L k).X + 8192 ∧ prY (hdW L L.length) (posn (hdW L L.length) k) = (ea L k).Y + 8192 ∧ prQ (hdW L L.length) (posn (hdW L L.length) k) = quadE (ea L k) ∧
    prZ (hdW L L.length) (posn (hdW L L.length) k) = ((ea L k).blob.size : Nat) ∧ prS (hdW L L.length) (posn (hdW L L.length) k) = (ea L k).sum := by
  obtain ⟨R, e⟩ := hdW_at L hk
  have h := rd_ent e (hdW_mono L (by omega)) (g.x k hk) (g.y k hk) (g.s k hk) (g.b k hk).2
  rw [w_posn g k (by omega)]
  refine ⟨?_, h.2⟩
  rw [h.1]
  show _ = ((hdW L k ++ entW (ea L k)).size, false)
  rw [ByteArray.size_append]
theorem w_enE {k : Nat} (hk : k < L.length) : enE (hdW L L.length) k = { ea L k with blob := ByteArray.empty } := by
  obtain ⟨h1, h2, h3, h4, h5, h6⟩ := w_ent g hk
  unfold enE prE
  rw [h2, h3, h4, h6, show (ea L k).X + 8192 - 8192 = (ea L k).X by omega, show (ea L k).Y + 8192 - 8192 = (ea L k).Y by omega]
  rfl
theorem w_szE {k : Nat} (hk : k < L.length) : szE (hdW L L.length) k = ((ea L k).blob.size : Nat) := (w_ent g hk).2.2.2.2.1
theorem w_nN : nN (hdW L L.length) = L.length ∧ hdBad (hdW L L.length) = false := by
  have h := w_n g
  have hl := g.len
  have h1 : nP (hdW L L.length) = (L.length : Nat) := by unfold nP; rw [h]
  constructor
  · unfold nN; rw [h1]; rfl
  · unfold hdBad
    rw [h1, h]
    simp only [cond_false]
    rw [decide_eq_false (by omega : ¬ ((L.length : Nat) : Int) < 0), decide_eq_false (by omega : ¬ ((L.length : Nat) : Int) > 1024)]; rfl
theorem w_ok {k : Nat} (hk : k < L.length) : okE (hdW L L.length) k = true := by
  obtain ⟨h1, h2, h3, h4, h5, h6⟩ := w_ent g hk
  have hx := g.x k hk
  have hy := g.y k hk
  have hb := g.b k hk
  refine okE_t ?_ ?_
  · unfold bad1 bd3 bd2 bd1
    rw [h1, h2, h3, h5, decide_eq_false (by omega), decide_eq_false (by omega), decide_eq_false (by omega), decide_eq_false (by omega)]; rfl
  · unfold bad2
    by_cases h0 : ((k : Nat) : Int) > 0
    · have ho := g.ord (k - 1) (by omega)
      rw [show k - 1 + 1 = k by omega] at ho
      rw [decide_eq_true h0, w_enE g hk, w_enE g (show k - 1 < L.length by omega)]
      show (!lesB (ea L (k - 1)).X (ea L (k - 1)).Y (ea L k).X (ea L k).Y) = false
      have : lesB (ea L (k - 1)).X (ea L (k - 1)).Y (ea L k).X (ea L k).Y = true := decide_eq_true ho
      rw [this]; rfl
    · rw [decide_eq_false h0]; rfl
theorem w_parse : parseB (hdW L L.length) = true := by
  obtain ⟨h1, h2⟩ := w_nN g
  refine parse_y h2 (fun j hj => w_ok g (by omega)) (decide_eq_false ?_)
  rw [h1, w_posn g _ (Nat.le_refl _)]
  omega
theorem w_tot : ∀ k, k ≤ L.length → tot (hdW L L.length) k = ((blW L k).size : Nat)
  | 0, _ => rfl
  | k + 1, hk => by
    show tot (hdW L L.length) k + szE (hdW L L.length) k = _
    rw [w_tot k (by omega), w_szE g hk]
    show _ = (((blW L k ++ (ea L k).blob).size : Nat) : Int)
    rw [ByteArray.size_append]; omega
end
/-- Open's reading of a string that begins with the magic bytes, an index and its sum. -/
theorem cut_magic (t : ByteArray) : cutP (⟨#[71, 1]⟩ ++ t) ⟨#[71, 1]⟩ = (t, true) := by
  have hs : (⟨#[71, 1]⟩ ++ t : ByteArray).size = 2 + t.size := by rw [ByteArray.size_append]; rfl
  have e0 : ((⟨#[71, 1]⟩ : ByteArray)).size = 2 := rfl
  have h : hasP (⟨#[71, 1]⟩ ++ t) ⟨#[71, 1]⟩ = true := by
    unfold hasP
    rw [decide_eq_true (by rw [hs, e0]; omega)]
    have : (⟨#[71, 1]⟩ ++ t : ByteArray).extract 0 2 = ⟨#[71, 1]⟩ := byl_ext (by
      rw [byl_extract, byl_append, List.drop_zero]; rfl)
    show (((⟨#[71, 1]⟩ ++ t : ByteArray).extract 0 2).toList == _) = true
    rw [this]; exact beq_self_eq_true _
  unfold cutP
  rw [h]
  show ((⟨#[71, 1]⟩ ++ t : ByteArray).extract 2 _, true) = _
  have : (⟨#[71, 1]⟩ ++ t : ByteArray).extract 2 (⟨#[71, 1]⟩ ++ t : ByteArray).size = t := byl_ext (by
    rw [byl_extract, hs, byl_append]
    show List.take _ (byl t) = _
    exact List.take_of_length_le (by rw [byl_len]; omega))
  rw [this]
theorem opR_magic (t : ByteArray) : opR (⟨#[71, 1]⟩ ++ t) = t ∧ opC (⟨#[71, 1]⟩ ++ t) = true := by unfold opR opC; rw [cut_magic]; exact ⟨rfl, rfl⟩
/-- A text is read. -/
theorem rd_text {s h : ByteArray} {p : Nat} {C : List UInt8} (e : rmd s p = byl (txtB h) ++ C) (hp : p ≤ s.size) (hh : h.size < 9223372036854775808) : Oct.textRes s p false = (h, p + (txtB h).size, false) := by
  rw [byl_txt, List.append_assoc] at e
  have h1 := rd_var e hh
  obtain ⟨e2, h2⟩ := rm_step e hp
  have h3 := rd_take e2 h2 (m := (h.size : Nat)) (by rw [byl_len])
  unfold Oct.textRes
  rw [h1]
  simp only []
  rw [h3]
  have : (⟨(byl h).toArray⟩ : ByteArray) = h := byl_ext rfl
  rw [this, byl_len]
  simp only [Bool.false_eq_true, if_false, Prod.mk.injEq, true_and, and_true]
  have : (txtB h).size = (Oct.M.leb h.size).length + h.size := by
    rw [← byl_len, byl_txt, List.length_append, byl_len]
  omega
/-- The head of a body: the index and its sum, whatever follows. -/
theorem rd_head {t h C : ByteArray} {s : ByteArray} (ht : t = txtB h ++ putB (sumI h) 4 ++ C) (hh : h.size < 9223372036854775808) (hs : s = ⟨#[71, 1]⟩ ++ t) :
    opC s = true ∧ opI s = h ∧ ot2 s = ((txtB h).size + 4, false) ∧ opNe s = false ∧ opLf s = (C.size : Nat) ∧ opR s = t := by
  subst hs
  obtain ⟨r1, r2⟩ := opR_magic t
  have e0 : rmd t 0 = byl (txtB h) ++ (byl (putB (sumI h) 4) ++ byl C) := by rw [rm_zero, ht, byl_append, byl_append, List.append_assoc]
  have h1 := rd_text e0 (Nat.zero_le _) hh
  rw [Nat.zero_add] at h1
  obtain ⟨e1, h2⟩ := rm_step e0 (Nat.zero_le _)
  rw [byl_len, Nat.zero_add] at e1 h2
  have hb := sumI_bd h
  obtain ⟨h3, h4⟩ := rd_num e1 h2 hb.1 (by show sumI h < 256 ^ 4; omega) (by decide)
  have o1 : ot1 (⟨#[71, 1]⟩ ++ t) = ((txtB h).size, false) := by unfold ot1; rw [r1, h1]
  have oi : opI (⟨#[71, 1]⟩ ++ t) = h := by unfold opI; rw [r1, h1]
  have o2 : ot2 (⟨#[71, 1]⟩ ++ t) = ((txtB h).size + 4, false) := by unfold ot2; rw [r1, o1]; show (Oct.takeRes t (txtB h).size false _).2 = _; rw [h3]; rfl
  have os : opS (⟨#[71, 1]⟩ ++ t) = sumI h := by unfold opS; rw [r1, o1]; exact h4
  refine ⟨r2, oi, o2, ?_, ?_, r1⟩
  · rw [← opNe_eq, os, oi]; simp
  · unfold opLf
    rw [r1, o2, ht]
    simp only [ByteArray.size_append, putB_sz, sz4]
    omega
end Ab
end Go.Proofs.Ytpdckpifhniioaa
end
section
set_option linter.unusedVariables false
set_option linter.unusedSimpArgs false
namespace Go.Proofs.Ytpdckpifhniioaa
open Go.RowKit
namespace Ab
theorem write_body (L : List EN) : writeB L = ⟨#[71, 1]⟩ ++ bodyW L := byl_ext (by
  unfold writeB bodyW
  simp only [byl_append, List.append_assoc])
theorem entW_le (e : EN) : (entW e).size ≤ 22 := by
  unfold entW
  simp only [ByteArray.size_append, putB_sz, sz2, sz4]
  have h := varB_le e.blob.size
  have : (quadE e).size = 4 := rfl
  omega
theorem hdW_le (L : List EN) : ∀ k, (hdW L k).size ≤ 10 + 22 * k
  | 0 => varB_le _
  | k + 1 => by
    show (hdW L k ++ entW (ea L k)).size ≤ _
    rw [ByteArray.size_append]
    have := hdW_le L k
    have := entW_le (ea L k)
    omega
section
variable {L : List EN} (g : GoodE L)
include g
theorem hdW_lt : (hdW L L.length).size < 9223372036854775808 := by
  have := hdW_le L L.length
  have := g.len
  omega
theorem w_opT {s : ByteArray} (h : opI s = hdW L L.length) : opT s = ((blW L L.length).size : Nat) := by
  unfold opT
  rw [h, (w_nN g).1, w_tot g _ (Nat.le_refl _)]
/-- The error is decided by what follows the head. -/
theorem w_open {C s : ByteArray} (hs : s = ⟨#[71, 1]⟩ ++ (txtB (hdW L L.length) ++ putB (sumI (hdW L L.length)) 4 ++ C)) :
    openE s = (bif decide (((C.size : Nat) : Int) < ((blW L L.length).size : Nat)) then 10 else bif decide (((C.size : Nat) : Int) > ((blW L L.length).size : Nat)) then 11 else 0) := by
  obtain ⟨h1, h2, h3, h4, h5, h6⟩ := rd_head rfl (hdW_lt g) hs
  unfold openE
  rw [h1, h3, h4, h2, w_parse g, h5, w_opT g h2]
  rfl
theorem write_more (x : ByteArray) (hx : 0 < x.size) : openE (writeB L ++ x) = 11 := by
  rw [w_open g (C := blW L L.length ++ x) (byl_ext (by
    unfold writeB
    simp only [byl_append, List.append_assoc]))]
  rw [ByteArray.size_append, decide_eq_false (by omega), decide_eq_true (by omega)]
  rfl
/-- Every proper prefix. -/
theorem write_prefix {m : Nat} (hm : m < (writeB L).size) : openE ((writeB L).extract 0 m) = 11 ∨ openE ((writeB L).extract 0 m) = 10 := by
  have hsz : (writeB L).size = 2 + (bodyW L).size := by rw [write_body, ByteArray.size_append]; rfl
  by_cases h2 : m < 2
  · left
    have e0 : ((⟨#[71, 1]⟩ : ByteArray)).size = 2 := rfl
    have : opC ((writeB L).extract 0 m) = false := by
      unfold opC cutP hasP
      rw [decide_eq_false (by rw [ByteArray.size_extract, e0]; omega)]; rfl
    unfold openE
    rw [this]; rfl
  · have hs : (writeB L).extract 0 m = ⟨#[71, 1]⟩ ++ (bodyW L).extract 0 (m - 2) := byl_ext (by
      rw [byl_extract, write_body, byl_append, byl_append, byl_extract, List.drop_zero, List.drop_zero]
      obtain ⟨q, rfl⟩ : ∃ q, m = q + 2 := ⟨m - 2, by omega⟩
      rfl)
    have hb : (bodyW L).size = (txtB (hdW L L.length)).size + 4 + (blW L L.length).size := by
      unfold bodyW
      simp only [ByteArray.size_append, putB_sz, sz4]
    right
    by_cases h3 : (txtB (hdW L L.length)).size + 4 ≤ m - 2
    · rw [w_open g (C := (blW L L.length).extract 0 (m - 2 - ((txtB (hdW L L.length)).size + 4))) (by
        rw [hs]
        congr 1
        apply byl_ext
        unfold bodyW
        rw [byl_extract, List.drop_zero, Nat.sub_zero, byl_append, byl_append, byl_append, byl_append, byl_extract, List.drop_zero, Nat.sub_zero]
        have l1 : (byl (txtB (hdW L L.length)) ++ byl (putB (sumI (hdW L L.length)) 4)).length = (txtB (hdW L L.length)).size + 4 := by
          rw [List.length_append, byl_len, byl_len, putB_sz, sz4]
        rw [List.take_append, List.take_of_length_le (by omega), l1])]
      rw [ByteArray.size_extract, decide_eq_true (by omega)]; rfl
    · rw [hs]
      obtain ⟨r1, r2⟩ := opR_magic ((bodyW L).extract 0 (m - 2))
      generalize ht : (bodyW L).extract 0 (m - 2) = t at r1 r2 ⊢
      have hto : (ot2 (⟨#[71, 1]⟩ ++ t)).2 = true := by
        cases hf : (ot2 (⟨#[71, 1]⟩ ++ t)).2 with
        | true => rfl
        | false =>
          exfalso
          obtain ⟨f1, _, f2, _⟩ := take_f (show (Oct.takeRes (opR (⟨#[71, 1]⟩ ++ t)) (ot1 (⟨#[71, 1]⟩ ++ t)).1 (ot1 (⟨#[71, 1]⟩ ++ t)).2 (Oct.sz 4)).2.2 = false from hf)
          unfold ot1 at f1 f2
          rw [r1] at f1 f2
          have tsz : t.size = m - 2 := by rw [← ht, ByteArray.size_extract]; omega
          have tl : byl (bodyW L) = byl t ++ (byl (bodyW L)).drop (m - 2) := by
            rw [← ht, byl_extract, List.drop_zero, Nat.sub_zero, List.take_append_drop]
          unfold Oct.textRes at f1 f2
          simp only [] at f1 f2
          split at f1
          · cases f1
          · rename_i hk
            rw [if_neg hk] at f2
            have hk' : (Oct.takeRes t (Oct.varRes t 0 false).2.1 (Oct.varRes t 0 false).2.2 (Oct.varRes t 0 false).1).2.2 = false := by simpa using hk
            obtain ⟨g1, g2, g3, g4⟩ := take_f hk'
            rw [g4] at f2
            have hv : ∃ v n, Oct.M.dec 0 0 (byl t) = some (v, n) ∧ (Oct.varRes t 0 false) = (wrap64 (v : Int), n, false) := by
              have g1' := g1
              unfold Oct.varRes at g1' ⊢
              rw [if_neg (by simp)] at g1' ⊢
              rw [List.drop_zero] at g1' ⊢
              cases hd : Oct.M.dec 0 0 t.data.toList with
              | none => rw [hd] at g1'; cases g1'
              | some q => exact ⟨q.1, q.2, hd, by simp⟩
            obtain ⟨v, n, hv1, hv2⟩ := hv
            obtain ⟨i1, i2, R, i3⟩ := (Oct.M.dec_iff _ _ _).1 hv1
            have j1 : Oct.M.dec 0 0 (byl (bodyW L)) = some (v, n) := (Oct.M.dec_iff _ _ _).2 ⟨i1, i2, R ++ (byl (bodyW L)).drop (m - 2), by rw [← List.append_assoc, ← i3]; exact tl⟩
            have hlt := hdW_lt g
            have j2 : Oct.M.dec 0 0 (byl (bodyW L)) = some ((hdW L L.length).size, (Oct.M.leb (hdW L L.length).size).length) := (Oct.M.dec_iff _ _ _).2 ⟨by omega, rfl, byl (hdW L L.length) ++ (byl (putB (sumI (hdW L L.length)) 4) ++ byl (blW L L.length)), by
              unfold bodyW
              rw [byl_append, byl_append, byl_txt, List.append_assoc, List.append_assoc]⟩
            rw [j1] at j2
            simp only [Option.some.injEq, Prod.mk.injEq] at j2
            rw [hv2, j2.1, Oct.wrap64_small _ hlt] at f2
            have hts : (txtB (hdW L L.length)).size = (Oct.M.leb (hdW L L.length).size).length + (hdW L L.length).size := by
              rw [← byl_len, byl_txt, List.length_append, byl_len]
            have e0 : ((((hdW L L.length).size : Nat) : Int)).toNat = (hdW L L.length).size := rfl
            rw [e0] at f2
            simp only [] at f2
            have e4 : ((Oct.sz 4 : Nat) : Int) = 4 := rfl
            omega
      unfold openE
      rw [r2, hto]; rfl
end
def enO (e : TA) : EN := ⟨e.X, e.Y, meanB e.t 0, meanB e.t 1, meanB e.t 2, meanB e.t 3, sumI (blobT e.t), blobT e.t⟩
theorem ea_map {l : List TA} {k : Nat} (h : k < l.length) : ea (l.map enO) k = enO (at' l k) := by
  unfold ea at'
  simp [List.getD, h]
theorem hd_eq (l : List TA) : ∀ k, k ≤ l.length → hdW (l.map enO) k = hdB l k
  | 0, _ => by
    show varB ((l.map enO).length : Nat) = varB (l.length : Nat)
    rw [List.length_map]
  | k + 1, h => by
    show hdW (l.map enO) k ++ entW (ea (l.map enO) k) = hdB l k ++ entB (at' l k)
    rw [hd_eq l k (by omega), ea_map h]; rfl
theorem bl_eq (l : List TA) : ∀ k, k ≤ l.length → blW (l.map enO) k = blB l k
  | 0, _ => rfl
  | k + 1, h => by
    show blW (l.map enO) k ++ (ea (l.map enO) k).blob = blB l k ++ blobT (at' l k).t
    rw [bl_eq l k (by omega), ea_map h]; rfl
theorem pack_write (l : List TA) : packB l = writeB (l.map enO) := by
  unfold packB writeB
  rw [List.length_map, hd_eq l _ (Nat.le_refl _), bl_eq l _ (Nat.le_refl _)]
theorem good_goodE {l : List TA} (g : Good l) : GoodE (l.map enO) := by
  refine ⟨by rw [List.length_map]; exact g.len, fun k hk => ?_, fun k hk => ?_, fun k hk => ?_, fun k hk => ?_, fun k hk => ?_⟩
  all_goals rw [List.length_map] at hk
  · rw [ea_map hk]; exact ⟨(good_xy g hk).1, (good_xy g hk).2.1⟩
  · rw [ea_map hk]; exact (good_xy g hk).2.2
  · rw [ea_map hk]
    have := sumI_bd (blobT (at' l k).t)
    exact ⟨this.1, by show sumI _ < _; omega⟩
  · rw [ea_map hk]; exact ⟨blobT_pos _, blobT_le _⟩
  · rw [ea_map hk, ea_map (by omega)]; exact g.ord k hk
theorem pack_more {l : List TA} (g : Good l) (x : ByteArray) (hx : 0 < x.size) : openE (packB l ++ x) = 11 := by
  rw [pack_write]; exact write_more (good_goodE g) x hx
theorem pack_prefix {l : List TA} (g : Good l) {m : Nat} (hm : m < (packB l).size) : openE ((packB l).extract 0 m) = 11 ∨ openE ((packB l).extract 0 m) = 10 := by
  rw [pack_write] at hm ⊢; exact write_prefix (good_goodE g) hm
theorem pack_pos (l : List TA) : 2 ≤ (packB l).size := by rw [pack_size]; omega
end Ab
end Go.Proofs.Ytpdckpifhniioaa
end
section
set_option linter.unusedVariables false
namespace Go.Proofs.Ytpdckpifhniioaa.Oct
open Go.RowKit
open Go.Proofs.Ytpdckpifhniioaa
set_option maxRecDepth 100000 in
set_option maxHeartbeats 1000000 in
theorem valid_empty (w : World) : Calls Try.prog 13 #[.agg #[.slice none 0 0]] w fun e w' => e = .returned (.bool true) ∧ Grow w w' := by
  go_enter Try.func13, Try.ntmps13
  go_wp2
  refine wp_loop_rounds 1 ?_
  rw [rounds_succ]
  go_wp2
  go_ret
  exact ⟨rfl, (Below.refl _ _).alloc (Nat.le_refl _) _⟩
/-- A new builder. -/
theorem HB.new (w : World) : HB w.heap.size [] (w.alloc (.cells #[.pointer none, .slice none 0 0] 54)) :=
  ⟨_, _, heap_alloc_new _ _, .inl rfl, World.ownsRow_nil _ _ _ _, fun _ => rfl⟩
def packed0 : ByteArray := ⟨#[71, 1, 1, 0, 210, 2, 239, 141]⟩
theorem HB.nil {b : Nat} {w : World} (h : w.heap[b]? = some (.cells #[.pointer none, .slice none 0 0] 54 (0, 0))) : HB b [] w :=
  ⟨_, _, h, .inl rfl, World.ownsRow_nil _ _ _ _, fun _ => rfl⟩
theorem txt0 : (⟨(txt ⟨#[0]⟩).toArray⟩ : ByteArray) = ⟨#[1, 0]⟩ := by decide +kernel
theorem sum0 : ((M.sum (⟨#[0]⟩ : ByteArray).data.toList : Nat) : Int) = 3523407757 := by decide +kernel
theorem put0 : (⟨(M.be (sz 4) (u64 3523407757)).toArray⟩ : ByteArray) = ⟨#[210, 2, 239, 141]⟩ := by decide +kernel
abbrev BO : Obj := .cells #[.pointer none, .slice none 0 0] 54
theorem leb0 : (⟨(M.leb (u64 0)).toArray⟩ : ByteArray) = ⟨#[0]⟩ := by decide +kernel
set_option maxRecDepth 100000 in
set_option maxHeartbeats 1000000 in
theorem pack_empty (w : World) : Calls Try.prog 7 #[.agg #[.slice none 0 0]] w fun e w' => e = .returned (.tuple #[.string packed0, .int .i64 0]) ∧ Below w.heap.size w w' := by
  go_enter Try.func7, Try.ntmps7
  go_wp2_with fail
  refine (valid_empty _).mono ?_
  rintro e w1 ⟨rfl, g1⟩
  have r1 : w1.heap[w.heap.size]? = some (.cells #[.slice none 0 0] 38 (0, 0)) := g1.block (heap_alloc_new _ _)
  have b1 : Below w.heap.size w w1 := ((Below.refl _ w).alloc (Nat.le_refl _) _).trans (Below.mono g1 (by simp))
  have lt1 : w.heap.size < w1.heap.size := (Array.getElem?_eq_some_iff.1 r1).1
  have r2 : ((w1.alloc BO).alloc BO).heap[w.heap.size]? = some (.cells #[.slice none 0 0] 38 (0, 0)) := by
    rw [Below.heap_alloc _ _ _ (by simp; omega), Below.heap_alloc _ _ _ lt1]; exact r1
  have c2 : ((w1.alloc BO).alloc BO).cell? ⟨w.heap.size, 0, none⟩ = some (.slice none 0 0) := by rw [cell_of_row _ _ 0 _ _ _ r2]; rfl
  have p1 : ((w1.alloc BO).alloc BO).heap[w1.heap.size]? = some BO := heap_alloc2_old _ _ _
  have p2 : ((w1.alloc BO).alloc BO).heap[w1.heap.size + 1]? = some BO := heap_alloc2_new _ _ _
  have b2 : Below w.heap.size w ((w1.alloc BO).alloc BO) := (b1.alloc (Nat.le_of_lt lt1) _).alloc (by simp; omega) _
  have sz2 : ((w1.alloc BO).alloc BO).heap.size = w1.heap.size + 2 := by simp
  replace r2 := Lib.hid r2
  replace p1 := Lib.hid p1
  replace p2 := Lib.hid p2
  replace b2 := Lib.hid b2
  replace sz2 := Lib.hid sz2
  clear g1 r1 b1
  go_wp2_with fail
  generalize ((w1.alloc BO).alloc BO) = W at *
  clear c2
  refine (var_any _ _).mono ?_
  rintro e w2 ⟨rfl, g2⟩
  rw [leb0]
  have hz := sz2.out
  have r3 : w2.heap[w.heap.size]? = some (.cells #[.slice none 0 0] 38 (0, 0)) := (g2.block _ (by omega)).trans r2.out
  have p3 : w2.heap[w1.heap.size]? = some BO := (g2.block _ (by omega)).trans p1.out
  have p4 : w2.heap[w1.heap.size + 1]? = some BO := (g2.block _ (by omega)).trans p2.out
  have b3 : Below w.heap.size w w2 := b2.out.trans (Below.mono g2 (by omega))
  have sz3 : w1.heap.size + 2 ≤ w2.heap.size := by have := g2.size; omega
  clear r2 p1 p2 b2 sz2 g2 hz
  replace r3 := Lib.hid r3
  replace p3 := Lib.hid p3
  replace p4 := Lib.hid p4
  replace b3 := Lib.hid b3
  replace sz3 := Lib.hid sz3
  go_wp2_with fail
  refine (wstr _ [] _ _ (HB.nil p3.out) (by decide)).mono ?_
  rintro e w3 ⟨rfl, hB, g3, k3⟩
  have r4 : w3.heap[w.heap.size]? = some (.cells #[.slice none 0 0] 38 (0, 0)) := (k3 _ _ _ _ r3.out (by decide) (by omega)).trans r3.out
  have p5 : w3.heap[w1.heap.size + 1]? = some BO := (k3 _ _ _ _ p4.out (by decide) (by omega)).trans p4.out
  have b4 : Below w.heap.size w w3 := b3.out.trans (Below.mono g3 (by omega))
  have c4 : w3.cell? ⟨w.heap.size, 0, none⟩ = some (.slice none 0 0) := by rw [cell_of_row _ _ 0 _ _ _ r4]; rfl
  clear r3 p3 p4 b3 g3 k3 r4 sz3
  replace hB := Lib.hid hB
  replace p5 := Lib.hid p5
  replace b4 := Lib.hid b4
  go_wp2_with fail
  refine wp_loop_rounds 1 ?_
  rw [rounds_succ]
  go_wp2_with fail
  refine (bstring _ _ _ hB.out.hf).mono ?_
  rintro e w4 ⟨rfl, hF, g4, k4⟩
  have p6 : w4.heap[w1.heap.size + 1]? = some BO := (k4 _ _ _ _ p5.out (by decide) (by omega)).trans p5.out
  have b5 : Below w.heap.size w w4 := b4.out.trans (Below.mono g4 (by omega))
  clear c4 hB p5 b4 hF g4 k4
  replace p6 := Lib.hid p6
  replace b5 := Lib.hid b5
  go_wp2_with fail
  refine (text_any _ _ (by decide)).mono ?_
  rintro e w5 ⟨rfl, g5⟩
  rw [txt0]
  have p7 : w5.heap[w1.heap.size + 1]? = some BO := (g5.block _ (Array.getElem?_eq_some_iff.1 p6.out).1).trans p6.out
  have b6 : Below w.heap.size w w5 := b5.out.trans (Below.mono g5 b5.out.size)
  clear p6 b5 g5
  replace p7 := Lib.hid p7
  replace b6 := Lib.hid b6
  go_wp2_with fail
  refine (sum_any _ _ (by decide)).mono ?_
  rintro e w6 ⟨rfl, g6⟩
  rw [sum0]
  have p8 : w6.heap[w1.heap.size + 1]? = some BO := (g6.block _ (Array.getElem?_eq_some_iff.1 p7.out).1).trans p7.out
  have b7 : Below w.heap.size w w6 := b6.out.trans (Below.mono g6 b6.out.size)
  clear p7 b6 g6
  replace p8 := Lib.hid p8
  replace b7 := Lib.hid b7
  go_wp2_with fail
  refine (put_any _ _ _).mono ?_
  rintro e w7 ⟨rfl, g7⟩
  rw [put0]
  have p9 : w7.heap[w1.heap.size + 1]? = some BO := (g7.block _ (Array.getElem?_eq_some_iff.1 p8.out).1).trans p8.out
  have b8 : Below w.heap.size w w7 := b7.out.trans (Below.mono g7 b7.out.size)
  clear p8 b7 g7
  replace p9 := Lib.hid p9
  replace b8 := Lib.hid b8
  go_wp2_with fail
  refine (bstring _ _ _ (HB.nil p9.out).hf).mono ?_
  rintro e w8 ⟨rfl, hF, g8, k8⟩
  have b9 : Below w.heap.size w w8 := b8.out.trans (Below.mono g8 (by omega))
  clear p9 b8 hF g8 k8
  replace b9 := Lib.hid b9
  go_wp2
  go_ret2
  exact ⟨rfl, b9.out⟩
end Go.Proofs.Ytpdckpifhniioaa.Oct
end
section
set_option linter.unusedVariables false
namespace Go.Proofs.Ytpdckpifhniioaa
open Go.RowKit
namespace Ab
theorem eql66 (a0 a1 a2 a3 b0 b1 b2 b3 : Int) (W : World) : (binOp .eql 49 (.agg #[.int .i64 a0, .int .i64 a1, .int .i64 a2, .int .i64 a3]) (.agg #[.int .i64 b0, .int .i64 b1, .int .i64 b2, .int .i64 b3])).run Try.prog W = .ok (.bool (a0 == b0 && (a1 == b1 && (a2 == b2 && a3 == b3)))) W := by
  by_cases h0 : a0 = b0
  · by_cases h1 : a1 = b1
    · by_cases h2 : a2 = b2
      · by_cases h3 : a3 = b3
        · subst h0 h1 h2 h3; go_simp
        · subst h0 h1 h2; go_simp
      · subst h0 h1; go_simp
    · subst h0; go_simp
  · go_simp
theorem neq66 (a0 a1 a2 a3 b0 b1 b2 b3 : Int) (W : World) : (binOp .neq 49 (.agg #[.int .i64 a0, .int .i64 a1, .int .i64 a2, .int .i64 a3]) (.agg #[.int .i64 b0, .int .i64 b1, .int .i64 b2, .int .i64 b3])).run Try.prog W = .ok (.bool (!(a0 == b0 && (a1 == b1 && (a2 == b2 && a3 == b3))))) W := by
  by_cases h0 : a0 = b0
  · by_cases h1 : a1 = b1
    · by_cases h2 : a2 = b2
      · by_cases h3 : a3 = b3
        · subst h0 h1 h2 h3; go_simp
        · subst h0 h1 h2; go_simp
      · subst h0 h1; go_simp
    · subst h0; go_simp
  · go_simp
set_option maxRecDepth 100000 in
theorem eq66 (a0 a1 a2 a3 b0 b1 b2 b3 : Int) : EqOK Try.prog 49 [li a0, li a1, li a2, li a3] [li b0, li b1, li b2, li b3] (a0 == b0 && (a1 == b1 && (a2 == b2 && a3 == b3))) := by
  intro β u v x y w hu hv
  rw [(plLs_iff (ys := [.int .i64 a0, .int .i64 a1, .int .i64 a2, .int .i64 a3]) rfl β u).1 hu, (plLs_iff (ys := [.int .i64 b0, .int .i64 b1, .int .i64 b2, .int .i64 b3]) rfl β v).1 hv]
  have h1 := eql66 a0 a1 a2 a3 b0 b1 b2 b3 w
  have h2 := neq66 a0 a1 a2 a3 b0 b1 b2 b3 w
  have g : ∀ op, (eqGuard op 49 x y (.agg [.int .i64 a0, .int .i64 a1, .int .i64 a2, .int .i64 a3].toArray) (.agg [.int .i64 b0, .int .i64 b1, .int .i64 b2, .int .i64 b3].toArray)).run Try.prog w = .ok () w := by
    intro op; unfold eqGuard; cases op <;> go_simp
  constructor
  · rw [Sem.run_bind, g]; exact h1
  · rw [Sem.run_bind, g]; exact h2
end Ab
end Go.Proofs.Ytpdckpifhniioaa
end
section
set_option linter.unusedVariables false
set_option linter.unusedSimpArgs false
namespace Go.Proofs.Ytpdckpifhniioaa
open Go.RowKit
namespace Ab
def cz_C62 : Cz := {
  ct := (fun f => match f with
  | 27 => some fun _ _S ar => match ar with | [.c (.l (.v (.string s)))] => some { v := .c (.l (.p _S.n 0)), rd := [], wr := [(_S.n, ⟨[.v (.string s), .v (.int .i64 0), .v (.bool false)], .t 112⟩)], nw := 1 } | _ => none
  | 29 => some fun _ _S ar => match ar with | [.c (.l (.p i _)), .c (.l (.v (.int _ m)))] => some { v := V60 _S i m, rd := [i], wr := [(i, W60 _S i m)], nw := 0 } | _ => none
  | 30 => some fun _ _S ar => match ar with | [.c (.l (.p i _))] => some { v := V61 _S i, rd := [i], wr := [], nw := 0 } | _ => none
  | 32 => some fun _ _S ar => match ar with | [.c (.l (.p i _))] => some { v := V63 _S i, rd := [i], wr := [], nw := 0 } | _ => none
  | 33 => some fun _ _S ar => match ar with | [.c (.l (.p i _)), .c (.l (.v (.int _ m)))] => some { v := V64 _S i m, rd := [i], wr := [(i, W64 _S i m)], nw := 0 } | _ => none
  | 58 => some fun _ _S ar => match ar with | [.c (.l (.p i _))] => some { v := V125 _S i, rd := [i], wr := [(i, W125 _S i)], nw := 0 } | _ => none
  | _ => none)
  eq := (fun t => match t with
  | _ => none)
  raw := [], sym := [], nf := [(16, iv .i64 0), (18, bv false), (26, bv false)], ap := true, off := [], on := [], lp := fun _ => none, un := 2 }
set_option maxRecDepth 100000 in
set_option maxHeartbeats 400000 in
theorem C62   (n : Nat) : CallOK Try.prog 31 [.c (.l (.v (.string ⟨#[0]⟩)))] [] n (.tup [.l (.v (.slice none 0 0)), .l (.v (.slice none 0 0)), .l (li 0)]) [] 0 := by
  refine CallOK.any ?_ (by kernel_rfl) (by kernel_rfl) n
  refine call_ok (cx := cz_C62) (nm := []) rfl Try.func31 (body := Try.f31.body.getD .skip) rfl enters62 (by kernel_rfl) ?_
  apply of_eq (q := CallOKd Try.prog 27 [] [SV.c (Cp.l (Leaf.v (Value.string (ByteArray.mk #[0]))))] [] 0 (SV.c (Cp.l (Leaf.p 0 0))) [(0, Blk.mk [Leaf.v (Value.string (ByteArray.mk #[0])), li 0, lb false] (BT.t 112))] 1 ∧ CallOKd Try.prog 58 [] [SV.c (Cp.l (Leaf.p 0 0))] [(0, Blk.mk [Leaf.v (Value.string (ByteArray.mk #[0])), li 0, lb false] (BT.t 112))] 1 (iv IntKind.i64 (Oct.varRes (ByteArray.mk #[0]) (Int.toNat 0) false).fst) [(0, Blk.mk [Leaf.v (Value.string (ByteArray.mk #[0])), li (Nat.cast ((Oct.varRes (ByteArray.mk #[0]) (Int.toNat 0) false).snd.fst) : Int), lb (Oct.varRes (ByteArray.mk #[0]) (Int.toNat 0) false).snd.snd] (BT.t 112))] 0 ∧ Le (iv IntKind.i64 (Oct.varRes (ByteArray.mk #[0]) (Int.toNat 0) false).fst) (iv IntKind.i64 0) ∧ CallOKd Try.prog 30 [] [SV.c (Cp.l (Leaf.p 0 0))] [(0, Blk.mk [Leaf.v (Value.string (ByteArray.mk #[0])), li (Nat.cast ((Oct.varRes (ByteArray.mk #[0]) (Int.toNat 0) false).snd.fst) : Int), lb (Oct.varRes (ByteArray.mk #[0]) (Int.toNat 0) false).snd.snd] (BT.t 112))] 1 (bv (Oct.varRes (ByteArray.mk #[0]) (Int.toNat 0) false).snd.snd) [] 0 ∧ Le (bv (Oct.varRes (ByteArray.mk #[0]) (Int.toNat 0) false).snd.snd) (bv false) ∧ ((!false) = true → (!false) = true ∧ True) ∧ (false = false → (!false) = true) ∧ ((!bif false then true else decide (0 < 0)) = true → (!bif false then true else decide (0 < 0)) = true ∧ True) ∧ ((bif false then true else decide (0 < 0)) = false → (!bif false then true else decide (0 < 0)) = true) ∧ Le (bv (bif bif false then true else decide (0 < 0) then true else decide (0 > 1024))) (bv false) ∧ CallOKd Try.prog 32 [] [SV.c (Cp.l (Leaf.p 0 0))] [(0, Blk.mk [Leaf.v (Value.string (ByteArray.mk #[0])), li (Nat.cast ((Oct.varRes (ByteArray.mk #[0]) (Int.toNat 0) false).snd.fst) : Int), lb (Oct.varRes (ByteArray.mk #[0]) (Int.toNat 0) false).snd.snd] (BT.t 112))] 1 (iv IntKind.i64 ((Nat.cast ((ByteArray.mk #[0]).size) : Int) - (Nat.cast ((Oct.varRes (ByteArray.mk #[0]) (Int.toNat 0) false).snd.fst) : Int))) [] 0 ∧ Le (SV.tup [Cp.l (Leaf.v (Value.slice none 0 0)), Cp.l (Leaf.v (Value.slice none 0 0)), Cp.l (li 0)]) (SV.tup [Cp.l (Leaf.v (Value.slice none 0 0)), Cp.l (Leaf.v (Value.slice none 0 0)), Cp.l (li 0)]) ∧ True) (by kernel_rfl)
  repeat' (first | exact trivial | with_reducible apply And.intro | (with_reducible apply HB.mk) | with_reducible intro _)
  all_goals first
    | (assumption)
    | (with_reducible exact Le.refl _)
    | (with_reducible exact C58 _ _)
    | ((refine C61 _ _ _ _ ?_ _) <;> first | assumption | decide +kernel | omega)
    | ((refine C63 _ _ _ _ ?_ ?_ ?_ _) <;> first | assumption | decide +kernel | omega)
    | ((refine C125 _ _ _ _ ?_ ?_ ?_ _) <;> first | assumption | decide +kernel | omega)
    | (exact Le.of (by kernel_rfl))
    | (exact okw _ (by omega) (by omega))
    | (exact Le.of rfl)
    | (exact BkR.of rfl)
    | (unfold SlOK; omega)
    | (unfold SlOK; decide)
    | (unfold inByte; decide)
    | (simp only [*, Bool.and_self, Bool.not_false, Bool.not_true]; done)
    | (simp_all [wants]; done)
def cz_C15a : Cz := {
  ct := (fun f => match f with
  | 20 => some fun _ _S ar => match ar with | [.c (.l (.v (.string s)))] => some { v := iv .u32 (Oct.M.sum s.data.toList : Nat), rd := [], wr := [], nw := 0 } | _ => none
  | 26 => some fun _ _S ar => match ar with | [.c (.l (.v (.string s))), .c (.l (.v (.string t)))] => some { v := .tup [.l (.v (.string (cutP s t).1)), .l (.v (.bool (cutP s t).2))], rd := [], wr := [], nw := 0 } | _ => none
  | 27 => some fun _ _S ar => match ar with | [.c (.l (.v (.string s)))] => some { v := .c (.l (.p _S.n 0)), rd := [], wr := [(_S.n, ⟨[.v (.string s), .v (.int .i64 0), .v (.bool false)], .t 112⟩)], nw := 1 } | _ => none
  | 28 => some fun _ _S ar => match ar with | [.c (.l (.p i _))] => some { v := V59 _S i, rd := [i], wr := [(i, W59 _S i)], nw := 0 } | _ => none
  | 29 => some fun _ _S ar => match ar with | [.c (.l (.p i _)), .c (.l (.v (.int _ m)))] => some { v := V60 _S i m, rd := [i], wr := [(i, W60 _S i m)], nw := 0 } | _ => none
  | 30 => some fun _ _S ar => match ar with | [.c (.l (.p i _))] => some { v := V61 _S i, rd := [i], wr := [], nw := 0 } | _ => none
  | 31 => some fun _ _S ar => match ar with | [.c (.l (.v (.string s)))] => some { v := .tup [.l (.v (.slice none 0 0)), .l (.v (.slice none 0 0)), .l (li 0)], rd := [], wr := [], nw := 0 } | _ => none
  | 32 => some fun _ _S ar => match ar with | [.c (.l (.p i _))] => some { v := V63 _S i, rd := [i], wr := [], nw := 0 } | _ => none
  | 33 => some fun _ _S ar => match ar with | [.c (.l (.p i _)), .c (.l (.v (.int _ m)))] => some { v := V64 _S i m, rd := [i], wr := [(i, W64 _S i m)], nw := 0 } | _ => none
  | _ => none)
  eq := (fun t => match t with
  | _ => none)
  raw := [], sym := [], nf := [(19, .tup [.l (.v (.string ⟨#[1, 0, 210, 2, 239, 141]⟩)), .l (lb true)]), (27, .c (.l (.v (.string ⟨#[0]⟩)))), (29, iv .i64 3523407757), (32, bv false), (36, iv .u32 3523407757), (38, bv false), (63, bv false), (68, bv false)], ap := true, off := [], on := [], lp := fun _ => none, un := 2 }
set_option maxRecDepth 100000 in
set_option maxHeartbeats 400000 in
theorem C15a   : CallOK Try.prog 9 [.c (.l (.v (.string ⟨#[71, 1, 1, 0, 210, 2, 239, 141]⟩)))] [] 0 (.tup [.l (.p 0 0), .l (li 0)]) [(0, ⟨[.v (.slice none 0 0), li 0], .t 84⟩)] ([1] : List Nat).length := by
  refine call_ok (cx := cz_C15a) (nm := [1]) rfl Try.func9 (body := Try.f9.body.getD .skip) rfl enters15 (by kernel_rfl) ?_
  apply of_eq (q := CallOKd Try.prog 26 [] [SV.c (Cp.l (Leaf.v (Value.string (ByteArray.mk #[71, 1, 1, 0, 210, 2, 239, 141])))), SV.c (Cp.l (Leaf.v (Value.string (ByteArray.mk #[71, 1]))))] [] 0 (SV.tup [Cp.l (Leaf.v (Value.string (cutP (ByteArray.mk #[71, 1, 1, 0, 210, 2, 239, 141]) (ByteArray.mk #[71, 1])).fst)), Cp.l (lb (cutP (ByteArray.mk #[71, 1, 1, 0, 210, 2, 239, 141]) (ByteArray.mk #[71, 1])).snd)]) [] 0 ∧ Le (SV.tup [Cp.l (Leaf.v (Value.string (cutP (ByteArray.mk #[71, 1, 1, 0, 210, 2, 239, 141]) (ByteArray.mk #[71, 1])).fst)), Cp.l (lb (cutP (ByteArray.mk #[71, 1, 1, 0, 210, 2, 239, 141]) (ByteArray.mk #[71, 1])).snd)]) (SV.tup [Cp.l (Leaf.v (Value.string (ByteArray.mk #[1, 0, 210, 2, 239, 141]))), Cp.l (lb true)]) ∧ CallOKd Try.prog 27 [] [SV.c (Cp.l (Leaf.v (Value.string (ByteArray.mk #[1, 0, 210, 2, 239, 141]))))] [] 0 (SV.c (Cp.l (Leaf.p 0 0))) [(0, Blk.mk [Leaf.v (Value.string (ByteArray.mk #[1, 0, 210, 2, 239, 141])), li 0, lb false] (BT.t 112))] 1 ∧ CallOKd Try.prog 28 [] [SV.c (Cp.l (Leaf.p 0 0))] [(0, Blk.mk [Leaf.v (Value.string (ByteArray.mk #[1, 0, 210, 2, 239, 141])), li 0, lb false] (BT.t 112))] 1 (SV.c (Cp.l (Leaf.v (Value.string (Oct.textRes (ByteArray.mk #[1, 0, 210, 2, 239, 141]) (Int.toNat 0) false).fst)))) [(0, Blk.mk [Leaf.v (Value.string (ByteArray.mk #[1, 0, 210, 2, 239, 141])), li (Nat.cast ((Oct.textRes (ByteArray.mk #[1, 0, 210, 2, 239, 141]) (Int.toNat 0) false).snd.fst) : Int), lb (Oct.textRes (ByteArray.mk #[1, 0, 210, 2, 239, 141]) (Int.toNat 0) false).snd.snd] (BT.t 112))] 0 ∧ Le (SV.c (Cp.l (Leaf.v (Value.string (Oct.textRes (ByteArray.mk #[1, 0, 210, 2, 239, 141]) (Int.toNat 0) false).fst)))) (SV.c (Cp.l (Leaf.v (Value.string (ByteArray.mk #[0]))))) ∧ CallOKd Try.prog 29 [] [SV.c (Cp.l (Leaf.p 0 0)), iv IntKind.i64 4] [(0, Blk.mk [Leaf.v (Value.string (ByteArray.mk #[1, 0, 210, 2, 239, 141])), li (Nat.cast ((Oct.textRes (ByteArray.mk #[1, 0, 210, 2, 239, 141]) (Int.toNat 0) false).snd.fst) : Int), lb (Oct.textRes (ByteArray.mk #[1, 0, 210, 2, 239, 141]) (Int.toNat 0) false).snd.snd] (BT.t 112))] 1 (iv IntKind.i64 (wrap64 (Nat.cast ((Oct.bev (Oct.takeRes (ByteArray.mk #[1, 0, 210, 2, 239, 141]) ((Nat.cast ((Oct.textRes (ByteArray.mk #[1, 0, 210, 2, 239, 141]) (Int.toNat 0) false).snd.fst) : Int)).toNat (Oct.textRes (ByteArray.mk #[1, 0, 210, 2, 239, 141]) (Int.toNat 0) false).snd.snd (Nat.cast ((Oct.sz 4)) : Int)).fst.data.toList)) : Int))) [(0, Blk.mk [Leaf.v (Value.string (ByteArray.mk #[1, 0, 210, 2, 239, 141])), li (Nat.cast ((Oct.takeRes (ByteArray.mk #[1, 0, 210, 2, 239, 141]) ((Nat.cast ((Oct.textRes (ByteArray.mk #[1, 0, 210, 2, 239, 141]) (Int.toNat 0) false).snd.fst) : Int)).toNat (Oct.textRes (ByteArray.mk #[1, 0, 210, 2, 239, 141]) (Int.toNat 0) false).snd.snd (Nat.cast ((Oct.sz 4)) : Int)).snd.fst) : Int), lb (Oct.takeRes (ByteArray.mk #[1, 0, 210, 2, 239, 141]) ((Nat.cast ((Oct.textRes (ByteArray.mk #[1, 0, 210, 2, 239, 141]) (Int.toNat 0) false).snd.fst) : Int)).toNat (Oct.textRes (ByteArray.mk #[1, 0, 210, 2, 239, 141]) (Int.toNat 0) false).snd.snd (Nat.cast ((Oct.sz 4)) : Int)).snd.snd] (BT.t 112))] 0 ∧ Le (iv IntKind.i64 (wrap64 (Nat.cast ((Oct.bev (Oct.takeRes (ByteArray.mk #[1, 0, 210, 2, 239, 141]) ((Nat.cast ((Oct.textRes (ByteArray.mk #[1, 0, 210, 2, 239, 141]) (Int.toNat 0) false).snd.fst) : Int)).toNat (Oct.textRes (ByteArray.mk #[1, 0, 210, 2, 239, 141]) (Int.toNat 0) false).snd.snd (Nat.cast ((Oct.sz 4)) : Int)).fst.data.toList)) : Int))) (iv IntKind.i64 3523407757) ∧ CallOKd Try.prog 30 [] [SV.c (Cp.l (Leaf.p 0 0))] [(0, Blk.mk [Leaf.v (Value.string (ByteArray.mk #[1, 0, 210, 2, 239, 141])), li (Nat.cast ((Oct.takeRes (ByteArray.mk #[1, 0, 210, 2, 239, 141]) ((Nat.cast ((Oct.textRes (ByteArray.mk #[1, 0, 210, 2, 239, 141]) (Int.toNat 0) false).snd.fst) : Int)).toNat (Oct.textRes (ByteArray.mk #[1, 0, 210, 2, 239, 141]) (Int.toNat 0) false).snd.snd (Nat.cast ((Oct.sz 4)) : Int)).snd.fst) : Int), lb (Oct.takeRes (ByteArray.mk #[1, 0, 210, 2, 239, 141]) ((Nat.cast ((Oct.textRes (ByteArray.mk #[1, 0, 210, 2, 239, 141]) (Int.toNat 0) false).snd.fst) : Int)).toNat (Oct.textRes (ByteArray.mk #[1, 0, 210, 2, 239, 141]) (Int.toNat 0) false).snd.snd (Nat.cast ((Oct.sz 4)) : Int)).snd.snd] (BT.t 112))] 1 (bv (Oct.takeRes (ByteArray.mk #[1, 0, 210, 2, 239, 141]) ((Nat.cast ((Oct.textRes (ByteArray.mk #[1, 0, 210, 2, 239, 141]) (Int.toNat 0) false).snd.fst) : Int)).toNat (Oct.textRes (ByteArray.mk #[1, 0, 210, 2, 239, 141]) (Int.toNat 0) false).snd.snd (Nat.cast ((Oct.sz 4)) : Int)).snd.snd) [] 0 ∧ Le (bv (Oct.takeRes (ByteArray.mk #[1, 0, 210, 2, 239, 141]) ((Nat.cast ((Oct.textRes (ByteArray.mk #[1, 0, 210, 2, 239, 141]) (Int.toNat 0) false).snd.fst) : Int)).toNat (Oct.textRes (ByteArray.mk #[1, 0, 210, 2, 239, 141]) (Int.toNat 0) false).snd.snd (Nat.cast ((Oct.sz 4)) : Int)).snd.snd) (bv false) ∧ CallOKd Try.prog 20 [] [SV.c (Cp.l (Leaf.v (Value.string (ByteArray.mk #[0]))))] [] 1 (iv IntKind.u32 (Nat.cast ((Oct.M.sum (ByteArray.mk #[0]).data.toList)) : Int)) [] 0 ∧ Le (iv IntKind.u32 (Nat.cast ((Oct.M.sum (ByteArray.mk #[0]).data.toList)) : Int)) (iv IntKind.u32 3523407757) ∧ Le (bv (3523407757 != IntKind.i64.wrap 3523407757)) (bv false) ∧ CallOKd Try.prog 31 [] [SV.c (Cp.l (Leaf.v (Value.string (ByteArray.mk #[0]))))] [] 1 (SV.tup [Cp.l (Leaf.v (Value.slice none 0 0)), Cp.l (Leaf.v (Value.slice none 0 0)), Cp.l (li 0)]) [] 0 ∧ CallOKd Try.prog 32 [] [SV.c (Cp.l (Leaf.p 0 0))] [(0, Blk.mk [Leaf.v (Value.string (ByteArray.mk #[1, 0, 210, 2, 239, 141])), li (Nat.cast ((Oct.takeRes (ByteArray.mk #[1, 0, 210, 2, 239, 141]) ((Nat.cast ((Oct.textRes (ByteArray.mk #[1, 0, 210, 2, 239, 141]) (Int.toNat 0) false).snd.fst) : Int)).toNat (Oct.textRes (ByteArray.mk #[1, 0, 210, 2, 239, 141]) (Int.toNat 0) false).snd.snd (Nat.cast ((Oct.sz 4)) : Int)).snd.fst) : Int), lb (Oct.takeRes (ByteArray.mk #[1, 0, 210, 2, 239, 141]) ((Nat.cast ((Oct.textRes (ByteArray.mk #[1, 0, 210, 2, 239, 141]) (Int.toNat 0) false).snd.fst) : Int)).toNat (Oct.textRes (ByteArray.mk #[1, 0, 210, 2, 239, 141]) (Int.toNat 0) false).snd.snd (Nat.cast ((Oct.sz 4)) : Int)).snd.snd] (BT.t 112))] 1 (iv IntKind.i64 ((Nat.cast ((ByteArray.mk #[1, 0, 210, 2, 239, 141]).size) : Int) - (Nat.cast ((Oct.takeRes (ByteArray.mk #[1, 0, 210, 2, 239, 141]) ((Nat.cast ((Oct.textRes (ByteArray.mk #[1, 0, 210, 2, 239, 141]) (Int.toNat 0) false).snd.fst) : Int)).toNat (Oct.textRes (ByteArray.mk #[1, 0, 210, 2, 239, 141]) (Int.toNat 0) false).snd.snd (Nat.cast ((Oct.sz 4)) : Int)).snd.fst) : Int))) [] 0 ∧ Le (bv (decide ((Nat.cast ((ByteArray.mk #[1, 0, 210, 2, 239, 141]).size) : Int) - (Nat.cast ((Oct.takeRes (ByteArray.mk #[1, 0, 210, 2, 239, 141]) ((Nat.cast ((Oct.textRes (ByteArray.mk #[1, 0, 210, 2, 239, 141]) (Int.toNat 0) false).snd.fst) : Int)).toNat (Oct.textRes (ByteArray.mk #[1, 0, 210, 2, 239, 141]) (Int.toNat 0) false).snd.snd (Nat.cast ((Oct.sz 4)) : Int)).snd.fst) : Int) < 0))) (bv false) ∧ CallOKd Try.prog 32 [] [SV.c (Cp.l (Leaf.p 0 0))] [(0, Blk.mk [Leaf.v (Value.string (ByteArray.mk #[1, 0, 210, 2, 239, 141])), li (Nat.cast ((Oct.takeRes (ByteArray.mk #[1, 0, 210, 2, 239, 141]) ((Nat.cast ((Oct.textRes (ByteArray.mk #[1, 0, 210, 2, 239, 141]) (Int.toNat 0) false).snd.fst) : Int)).toNat (Oct.textRes (ByteArray.mk #[1, 0, 210, 2, 239, 141]) (Int.toNat 0) false).snd.snd (Nat.cast ((Oct.sz 4)) : Int)).snd.fst) : Int), lb (Oct.takeRes (ByteArray.mk #[1, 0, 210, 2, 239, 141]) ((Nat.cast ((Oct.textRes (ByteArray.mk #[1, 0, 210, 2, 239, 141]) (Int.toNat 0) false).snd.fst) : Int)).toNat (Oct.textRes (ByteArray.mk #[1, 0, 210, 2, 239, 141]) (Int.toNat 0) false).snd.snd (Nat.cast ((Oct.sz 4)) : Int)).snd.snd] (BT.t 112))] 1 (iv IntKind.i64 ((Nat.cast ((ByteArray.mk #[1, 0, 210, 2, 239, 141]).size) : Int) - (Nat.cast ((Oct.takeRes (ByteArray.mk #[1, 0, 210, 2, 239, 141]) ((Nat.cast ((Oct.textRes (ByteArray.mk #[1, 0, 210, 2, 239, 141]) (Int.toNat 0) false).snd.fst) : Int)).toNat (Oct.textRes (ByteArray.mk #[1, 0, 210, 2, 239, 141]) (Int.toNat 0) false).snd.snd (Nat.cast ((Oct.sz 4)) : Int)).snd.fst) : Int))) [] 0 ∧ Le (bv (decide ((Nat.cast ((ByteArray.mk #[1, 0, 210, 2, 239, 141]).size) : Int) - (Nat.cast ((Oct.takeRes (ByteArray.mk #[1, 0, 210, 2, 239, 141]) ((Nat.cast ((Oct.textRes (ByteArray.mk #[1, 0, 210, 2, 239, 141]) (Int.toNat 0) false).snd.fst) : Int)).toNat (Oct.textRes (ByteArray.mk #[1, 0, 210, 2, 239, 141]) (Int.toNat 0) false).snd.snd (Nat.cast ((Oct.sz 4)) : Int)).snd.fst) : Int) > 0))) (bv false) ∧ Le (SV.tup [Cp.l (Leaf.p 0 0), Cp.l (li 0)]) (SV.tup [Cp.l (Leaf.p 0 0), Cp.l (li 0)]) ∧ BkR (rnId 0 0 [1]) (Blk.mk [Leaf.v (Value.slice none 0 0), li 0] (BT.t 84)) (Blk.mk [Leaf.v (Value.slice none 0 0), li 0] (BT.t 84)) ∧ True) (by kernel_rfl)
  repeat' (first | exact trivial | with_reducible apply And.intro | (with_reducible apply HB.mk) | with_reducible intro _)
  all_goals first
    | (assumption)
    | (with_reducible exact Le.refl _)
    | ((refine C53 _ ?_ _); first | assumption | decide +kernel | (simp; omega))
    | ((refine C57 _ _ ?_ _); first | assumption | decide +kernel)
    | (with_reducible exact C58 _ _)
    | ((refine C59 _ _ _ _ ?_ ?_ ?_ _) <;> first | assumption | decide +kernel | omega)
    | ((refine C60 _ _ _ _ _ ?_ ?_ ?_ _) <;> first | assumption | decide +kernel | omega)
    | ((refine C61 _ _ _ _ ?_ _) <;> first | assumption | decide +kernel | omega)
    | (with_reducible exact C62 _)
    | ((refine C63 _ _ _ _ ?_ ?_ ?_ _) <;> first | assumption | decide +kernel | omega)
    | (exact Le.of (by kernel_rfl))
    | (exact BkR.of (by kernel_rfl))
    | (decide)
    | (exact okw _ (by omega) (by omega))
    | (exact Le.of rfl)
    | (exact BkR.of rfl)
    | (unfold SlOK; omega)
    | (unfold SlOK; decide)
    | (unfold inByte; decide)
    | (simp only [*, Bool.and_self, Bool.not_false, Bool.not_true]; done)
    | (simp_all [wants]; done)
def cz_C15b : Cz := {
  ct := (fun f => match f with
  | 20 => some fun _ _S ar => match ar with | [.c (.l (.v (.string s)))] => some { v := iv .u32 (Oct.M.sum s.data.toList : Nat), rd := [], wr := [], nw := 0 } | _ => none
  | 26 => some fun _ _S ar => match ar with | [.c (.l (.v (.string s))), .c (.l (.v (.string t)))] => some { v := .tup [.l (.v (.string (cutP s t).1)), .l (.v (.bool (cutP s t).2))], rd := [], wr := [], nw := 0 } | _ => none
  | 27 => some fun _ _S ar => match ar with | [.c (.l (.v (.string s)))] => some { v := .c (.l (.p _S.n 0)), rd := [], wr := [(_S.n, ⟨[.v (.string s), .v (.int .i64 0), .v (.bool false)], .t 112⟩)], nw := 1 } | _ => none
  | 28 => some fun _ _S ar => match ar with | [.c (.l (.p i _))] => some { v := V59 _S i, rd := [i], wr := [(i, W59 _S i)], nw := 0 } | _ => none
  | 29 => some fun _ _S ar => match ar with | [.c (.l (.p i _)), .c (.l (.v (.int _ m)))] => some { v := V60 _S i m, rd := [i], wr := [(i, W60 _S i m)], nw := 0 } | _ => none
  | 30 => some fun _ _S ar => match ar with | [.c (.l (.p i _))] => some { v := V61 _S i, rd := [i], wr := [], nw := 0 } | _ => none
  | 31 => some fun _ _S ar => match ar with | [.c (.l (.v (.string s)))] => some { v := .tup [.l (.v (.slice none 0 0)), .l (.v (.slice none 0 0)), .l (li 0)], rd := [], wr := [], nw := 0 } | _ => none
  | 32 => some fun _ _S ar => match ar with | [.c (.l (.p i _))] => some { v := V63 _S i, rd := [i], wr := [], nw := 0 } | _ => none
  | 33 => some fun _ _S ar => match ar with | [.c (.l (.p i _)), .c (.l (.v (.int _ m)))] => some { v := V64 _S i m, rd := [i], wr := [(i, W64 _S i m)], nw := 0 } | _ => none
  | _ => none)
  eq := (fun t => match t with
  | _ => none)
  raw := [], sym := [], nf := [(19, .tup [.l (.v (.string ⟨#[71]⟩)), .l (lb false)])], ap := true, off := [], on := [], lp := fun _ => none, un := 2 }
set_option maxRecDepth 100000 in
set_option maxHeartbeats 400000 in
theorem C15b   (n : Nat) : CallOK Try.prog 9 [.c (.l (.v (.string ⟨#[71]⟩)))] [] n (.tup [.l (.v (.pointer none)), .l (li 11)]) [] 0 := by
  refine CallOK.any ?_ (by kernel_rfl) (by kernel_rfl) n
  refine call_ok (cx := cz_C15b) (nm := []) rfl Try.func9 (body := Try.f9.body.getD .skip) rfl enters15 (by kernel_rfl) ?_
  apply of_eq (q := CallOKd Try.prog 26 [] [SV.c (Cp.l (Leaf.v (Value.string (ByteArray.mk #[71])))), SV.c (Cp.l (Leaf.v (Value.string (ByteArray.mk #[71, 1]))))] [] 0 (SV.tup [Cp.l (Leaf.v (Value.string (cutP (ByteArray.mk #[71]) (ByteArray.mk #[71, 1])).fst)), Cp.l (lb (cutP (ByteArray.mk #[71]) (ByteArray.mk #[71, 1])).snd)]) [] 0 ∧ Le (SV.tup [Cp.l (Leaf.v (Value.string (cutP (ByteArray.mk #[71]) (ByteArray.mk #[71, 1])).fst)), Cp.l (lb (cutP (ByteArray.mk #[71]) (ByteArray.mk #[71, 1])).snd)]) (SV.tup [Cp.l (Leaf.v (Value.string (ByteArray.mk #[71]))), Cp.l (lb false)]) ∧ Le (SV.tup [Cp.l (Leaf.v (Value.pointer none)), Cp.l (li 11)]) (SV.tup [Cp.l (Leaf.v (Value.pointer none)), Cp.l (li 11)]) ∧ True) (by kernel_rfl)
  repeat' (first | exact trivial | with_reducible apply And.intro | (with_reducible apply HB.mk) | with_reducible intro _)
  all_goals first
    | (assumption)
    | (with_reducible exact Le.refl _)
    | ((refine C57 _ _ ?_ _); first | assumption | decide +kernel)
    | (exact Le.of (by kernel_rfl))
    | (exact okw _ (by omega) (by omega))
    | (exact Le.of rfl)
    | (exact BkR.of rfl)
    | (unfold SlOK; omega)
    | (unfold SlOK; decide)
    | (unfold inByte; decide)
    | (simp only [*, Bool.and_self, Bool.not_false, Bool.not_true]; done)
    | (simp_all [wants]; done)
theorem C12e (n : Nat) : CallOK Try.prog 7 [ag [.v (.slice none 0 0)]] [] n (.tup [.l (.v (.string ⟨#[71, 1, 1, 0, 210, 2, 239, 141]⟩)), .l (li 0)]) [] 0 :=
  call_plain enters12 (vals := [.agg #[.slice none 0 0]]) (y := .tuple #[.string ⟨#[71, 1, 1, 0, 210, 2, 239, 141]⟩, .int .i64 0]) rfl rfl n fun x => Oct.pack_empty x
theorem enters25 : Enters Try.prog 11 := fun args w => by go_simp
def cz_C25_2 : Cz := {
  ct := (fun f => match f with
  | _ => none)
  eq := (fun t => match t with
  | _ => none)
  raw := [], sym := [], nf := [], ap := true, off := [], on := [], lp := fun _ => none, un := 0 }
set_option maxRecDepth 100000 in
set_option maxHeartbeats 400000 in
theorem C25_2   : CallOK Try.prog 11 [.c (.l (.p 0 0))] [(0, ⟨[.v (.slice none 0 0), li 0], .t 84⟩)] 2 (iv .i64 0) [] ([] : List Nat).length := by
  refine call_ok (cx := cz_C25_2) (nm := []) rfl Try.func11 (body := Try.f11.body.getD .skip) rfl enters25 (by kernel_rfl) ?_
  apply of_eq (q := Le (iv IntKind.i64 (Nat.cast 0 : Int)) (iv IntKind.i64 0) ∧ True) (by kernel_rfl)
  repeat' (first | exact trivial | with_reducible apply And.intro | (with_reducible apply HB.mk) | with_reducible intro _)
  all_goals first
    | (assumption)
    | (with_reducible exact Le.refl _)
    | (exact okw _ (by omega) (by omega))
    | (exact Le.of rfl)
    | (exact BkR.of rfl)
    | (unfold SlOK; omega)
    | (unfold SlOK; decide)
    | (unfold inByte; decide)
    | (simp only [*, Bool.and_self, Bool.not_false, Bool.not_true]; done)
    | (simp_all [wants]; done)
theorem enters26 : Enters Try.prog 12 := fun args w => by go_simp
def cz_C26_2 : Cz := {
  ct := (fun f => match f with
  | _ => none)
  eq := (fun t => match t with
  | _ => none)
  raw := [], sym := [], nf := [], ap := true, off := [], on := [], lp := fun _ => none, un := 2 }
set_option maxRecDepth 100000 in
set_option maxHeartbeats 400000 in
theorem C26_2   : CallOK Try.prog 12 [.c (.l (.p 0 0))] [(0, ⟨[.v (.slice none 0 0), li 0], .t 84⟩)] 2 (ag [li 0, li 0, li 0, li 0]) [] ([] : List Nat).length := by
  refine call_ok (cx := cz_C26_2) (nm := []) rfl Try.func12 (body := Try.f12.body.getD .skip) rfl enters26 (by kernel_rfl) ?_
  apply of_eq (q := Le (ag [li 0, li 0, li 0, li 0]) (ag [li 0, li 0, li 0, li 0]) ∧ True) (by kernel_rfl)
  repeat' (first | exact trivial | with_reducible apply And.intro | (with_reducible apply HB.mk) | with_reducible intro _)
  all_goals first
    | (assumption)
    | (with_reducible exact Le.refl _)
    | (exact okw _ (by omega) (by omega))
    | (exact Le.of rfl)
    | (exact BkR.of rfl)
    | (unfold SlOK; omega)
    | (unfold SlOK; decide)
    | (unfold inByte; decide)
    | (simp only [*, Bool.and_self, Bool.not_false, Bool.not_true]; done)
    | (simp_all [wants]; done)
theorem enters10 : Enters Try.prog 5 := fun args w => by go_simp
def cz_C10 : Cz := {
  ct := (fun f => match f with
  | 7 => some fun _ _S ar => match ar with | [.c (.agg [.v (.slice none _ _)])] => some { v := .tup [.l (.v (.string ⟨#[71, 1, 1, 0, 210, 2, 239, 141]⟩)), .l (li 0)], rd := [], wr := [], nw := 0 } | _ => none
  | 9 => some fun _ _S ar => match ar with | [.c (.l (.v (.string s)))] => some { v := (match s.size with | 8 => .tup [.l (.p _S.n 0), .l (li 0)] | _ => .tup [.l (.v (.pointer none)), .l (li 11)]), rd := [], wr := (match s.size with | 8 => [(_S.n, ⟨[.v (.slice none 0 0), li 0], .t 84⟩)] | _ => []), nw := (match s.size with | 8 => 1 | _ => 0) } | _ => none
  | 11 => some fun _ _S ar => match ar with | [.c (.l (.p i _))] => some { v := iv .i64 0, rd := [i], wr := [], nw := 0 } | _ => none
  | 12 => some fun _ _S ar => match ar with | [.c (.l (.p i _))] => some { v := ag [li 0, li 0, li 0, li 0], rd := [i], wr := [], nw := 0 } | _ => none
  | _ => none)
  eq := (fun t => match t with
  | 49 => some (fun xs ys => match xs, ys with | [.v (.int _ a0), .v (.int _ a1), .v (.int _ a2), .v (.int _ a3)], [.v (.int _ b0), .v (.int _ b1), .v (.int _ b2), .v (.int _ b3)] => (a0 == b0 && (a1 == b1 && (a2 == b2 && a3 == b3))) | _, _ => false)
  | _ => none)
  raw := [], sym := [], nf := [(27, bv true), (32, .c (.l (.v (.string ⟨#[71, 1, 1, 0]⟩)))), (34, bv true), (38, bv true), (42, bv true), (47, bv true), (53, bv true), (57, bv true)], ap := true, off := [], on := [31], lp := fun _ => none, un := 0 }
set_option maxRecDepth 100000 in
set_option maxHeartbeats 400000 in
theorem C10   (n : Nat) : CallOK Try.prog 5 [] [] n (bv true) [] 0 := by
  refine CallOK.any ?_ (by kernel_rfl) (by kernel_rfl) n
  refine call_ok (cx := cz_C10) (nm := []) rfl Try.func5 (body := Try.f5.body.getD .skip) rfl enters10 (by kernel_rfl) ?_
  apply of_eq (q := CallOKd Try.prog 7 [] [ag [Leaf.v (Value.slice none 0 0)]] [] 0 (SV.tup [Cp.l (Leaf.v (Value.string (ByteArray.mk #[71, 1, 1, 0, 210, 2, 239, 141]))), Cp.l (li 0)]) [] 0 ∧ CallOKd Try.prog 9 [] [SV.c (Cp.l (Leaf.v (Value.string (ByteArray.mk #[71, 1, 1, 0, 210, 2, 239, 141]))))] [] 0 (SV.tup [Cp.l (Leaf.p 0 0), Cp.l (li 0)]) [(0, Blk.mk [Leaf.v (Value.slice none 0 0), li 0] (BT.t 84))] 1 ∧ CallOKd Try.prog 9 [] [SV.c (Cp.l (Leaf.v (Value.string (ByteArray.mk #[71]))))] [] 1 (SV.tup [Cp.l (Leaf.v (Value.pointer none)), Cp.l (li 11)]) [] 0 ∧ ((0 == 0) = true → (0 == 0) = true ∧ True) ∧ ((0 == 0) = true → (0 == 0) = true ∧ True) ∧ ((0 == 0) = true → (0 == 0) = true) ∧ Le (bv (bif 0 == 0 then (Nat.cast ((ByteArray.mk #[71, 1, 1, 0, 210, 2, 239, 141]).size) : Int) == 8 else false)) (bv true) ∧ (true = true → true = true ∧ SlOK 0 4 (Nat.cast ((ByteArray.mk #[71, 1, 1, 0, 210, 2, 239, 141]).size) : Int) ∧ True) ∧ true = true ∧ (true = true → inByte 71 ∧ inByte 1 ∧ inByte 1 ∧ inByte 0 ∧ Le (SV.c (Cp.l (Leaf.v (Value.string (strOf [71, 1, 1, 0]))))) (SV.c (Cp.l (Leaf.v (Value.string (ByteArray.mk #[71, 1, 1, 0]))))) ∧ True) ∧ (true = true → true = true ∧ true = true ∧ True) ∧ (true = true → true = true) ∧ Le (bv (bif true then ((ByteArray.mk #[71, 1, 1, 0, 210, 2, 239, 141]).extract (Int.toNat 0) (Int.toNat 4)).toList == (ByteArray.mk #[71, 1, 1, 0]).toList else false)) (bv true) ∧ (true = true → true = true ∧ True) ∧ (true = true → true = true) ∧ Le (bv (bif true then 0 == 0 else false)) (bv true) ∧ (true = true → true = true ∧ True) ∧ (true = true → true = true) ∧ Le (bv (bif true then true else false)) (bv true) ∧ (true = true → true = true ∧ CallOKd Try.prog 11 [] [SV.c (Cp.l (Leaf.p 0 0))] [(0, Blk.mk [Leaf.v (Value.slice none 0 0), li 0] (BT.t 84))] 2 (iv IntKind.i64 0) [] 0 ∧ True) ∧ (true = true → true = true ∧ True) ∧ (true = true → true = true) ∧ Le (bv (bif true then 0 == 0 else false)) (bv true) ∧ (true = true → true = true ∧ CallOKd Try.prog 12 [] [SV.c (Cp.l (Leaf.p 0 0))] [(0, Blk.mk [Leaf.v (Value.slice none 0 0), li 0] (BT.t 84))] 2 (ag [li 0, li 0, li 0, li 0]) [] 0 ∧ True) ∧ (true = true → true = true ∧ true = true ∧ EqOK Try.prog 49 [li 0, li 0, li 0, li 0] [li 0, li 0, li 0, li 0] (0 == 0 && (0 == 0 && (0 == 0 && 0 == 0))) ∧ True) ∧ (true = true → true = true) ∧ Le (bv (bif true then 0 == 0 && (0 == 0 && (0 == 0 && 0 == 0)) else false)) (bv true) ∧ (true = true → true = true ∧ True) ∧ (true = true → true = true) ∧ Le (bv (bif true then 11 == 11 else false)) (bv true) ∧ Le (bv true) (bv true) ∧ True) (by kernel_rfl)
  repeat' (first | exact trivial | with_reducible apply And.intro | (with_reducible apply HB.mk) | with_reducible intro _)
  all_goals first
    | (assumption)
    | (with_reducible exact Le.refl _)
    | (with_reducible exact C12e _)
    | ((first | exact C15a | exact C15b _))
    | ((exact C25_2))
    | ((exact C26_2))
    | (exact Le.of (by kernel_rfl))
    | (decide)
    | (rfl)
    | (exact eq66 0 0 0 0 0 0 0 0)
    | (exact okw _ (by omega) (by omega))
    | (exact Le.of rfl)
    | (exact BkR.of rfl)
    | (unfold SlOK; omega)
    | (unfold SlOK; decide)
    | (unfold inByte; decide)
    | (simp only [*, Bool.and_self, Bool.not_false, Bool.not_true]; done)
    | (simp_all [wants]; done)
end Ab
end Go.Proofs.Ytpdckpifhniioaa
end
section
set_option linter.unusedVariables false
set_option linter.unusedSimpArgs false
namespace Go.Proofs.Ytpdckpifhniioaa
open Go.RowKit
namespace Ab
attribute [local irreducible] CallOKd
def pfx (s : List Int) (n : Int) : ByteArray := (packB (mdL s (mdN s))).extract 0 (rst n (packB (mdL s (mdN s))).size).toNat
theorem mp_le (s : List Int) : (packB (mdL s (mdN s))).size ≤ 2000 := by
  have h1 := pack_bound _ (made_len s)
  have h2 := made_len s
  omega
theorem pfx_e (s : List Int) (n : Int) : openE (pfx s n) = 11 ∨ openE (pfx s n) = 10 := by
  have h1 := pack_pos (mdL s (mdN s))
  have h2 := mp_le s
  have h3 := rest_bd (x := n) (n := ((packB (mdL s (mdN s))).size : Nat)) (by omega) (by omega)
  unfold pfx
  refine pack_prefix (made_good s) ?_
  unfold rst
  omega
theorem pfx_le (s : List Int) (n : Int) : (pfx s n).size ≤ 1000000000000000000 := by
  have h2 := mp_le s
  unfold pfx
  rw [ByteArray.size_extract]
  omega
theorem x_e (s : List Int) : openE (packB (mdL s (mdN s)) ++ ⟨#[120]⟩) = 11 := pack_more (made_good s) _ (by decide)
theorem ends_1 (s : List Int) (x : Int) (n : Nat) : CallOK Try.prog 9 [.c (.l (.v (.string (pfx s x))))] [] n (.tup [.l (.v (.pointer none)), .l (li (openE (pfx s x)))]) [] 0 :=
  open_err _ (pfx_le s x) (by rcases pfx_e s x with h | h <;> rw [h] <;> decide) n
theorem ends_2 (s : List Int) (n : Nat) : CallOK Try.prog 9 [.c (.l (.v (.string (packB (mdL s (mdN s)) ++ ⟨#[120]⟩))))] [] n (.tup [.l (.v (.pointer none)), .l (li (openE (packB (mdL s (mdN s)) ++ ⟨#[120]⟩)))]) [] 0 :=
  open_err _ (by rw [ByteArray.size_append]; have h2 := mp_le s; have : (⟨#[120]⟩ : ByteArray).size = 1 := rfl; omega) (by rw [x_e]; decide) n
attribute [local irreducible] tl rws mdL packB openE
theorem enters4 : Enters Try.prog 4 := fun args w => by go_simp
def cz_W4 (x : Leaf) (p : Nat) (s : List Int) (n : Int) : Cz := {
  ct := (fun f => match f with
  | 5 => some fun _ _S ar => match ar with | [] => some { v := bv true, rd := [], wr := [], nw := 0 } | _ => none
  | 7 => some fun _ _S ar => match ar with | [.c (.agg [.o i _])] => some { v := .tup [.l (.v (.string (packB (mdL s (mdN s))))), .l (li 0)], rd := [i], wr := [], nw := 0 } | _ => none
  | 8 => some fun _ _S ar => match ar with | [.c (.l _)] => some { v := .c (.agg [.o _S.n (mdL s (mdN s)).length]), rd := [0], wr := [(_S.n, ⟨rws (mdL s (mdN s)), .r 35 258 _S.n⟩)], nw := 1 } | _ => none
  | 9 => some fun _ _S ar => match ar with | [.c (.l (.v (.string q)))] => some { v := .tup [.l (.v (.pointer none)), .l (li (openE q))], rd := [], wr := [], nw := 0 } | _ => none
  | 10 => some fun _ _S ar => match ar with | [.c (.l (.v (.int _ x))), .c (.l (.v (.int _ n)))] => some { v := iv .i64 (rst x n), rd := [], wr := [], nw := 0 } | _ => none
  | _ => none)
  eq := (fun t => match t with
  | _ => none)
  raw := [], sym := [], nf := [(21, bv false), (28, .c (.l (.v (.string (pfx s n))))), (37, iv .i64 11), (46, bv true)], ap := true, off := [], on := [], lp := fun _ => none, un := 0, wh := [27, 38] }
set_option maxRecDepth 100000 in
set_option maxHeartbeats 400000 in
theorem W4 (x : Leaf) (p : Nat) (s : List Int) (n : Int) (hx : IntsAt x p s) : CallOK Try.prog 4 [.c (.l x), iv .i64 n] [(0, ⟨qls p s, .q⟩)] 1 (bv true) [] 0 := by
  refine call_ok (cx := cz_W4 x p s n) (nm := []) rfl Try.func4 (body := Try.f4.body.getD .skip) rfl enters4 (by unfold inck; simp only [List.all_cons, List.all_nil, hx.lt, blkLt_fix (fix_qls p s) (show (BT.rn (rnId 1 0 []) (.q)).isSome = true from rfl), Bool.and_true, Bool.true_and]; kernel_rfl) ?_
  apply of_eq (q := CallOKd Try.prog 5 [] [] [] 1 (bv true) [] 0 ∧ CallOKd Try.prog 8 [] [SV.c (Cp.l x)] [(0, Blk.mk (qls p s) BT.q)] 1 (ag [Leaf.o 1 (mdL s (mdN s)).length]) [(1, Blk.mk (rws (mdL s (mdN s))) (BT.r 35 258 1))] 1 ∧ CallOKd Try.prog 7 [] [ag [Leaf.o 1 (mdL s (mdN s)).length]] [(1, Blk.mk (rws (mdL s (mdN s))) (BT.r 35 258 1))] 2 (SV.tup [Cp.l (Leaf.v (Value.string (packB (mdL s (mdN s))))), Cp.l (li 0)]) [] 0 ∧ Le (bv ((Nat.cast ((packB (mdL s (mdN s))).size) : Int) == 0)) (bv false) ∧ CallOKd Try.prog 10 [] [iv IntKind.i64 n, iv IntKind.i64 (Nat.cast ((packB (mdL s (mdN s))).size) : Int)] [] 2 (iv IntKind.i64 (rst n (Nat.cast ((packB (mdL s (mdN s))).size) : Int))) [] 0 ∧ SlOK 0 (rst n (Nat.cast ((packB (mdL s (mdN s))).size) : Int)) (Nat.cast ((packB (mdL s (mdN s))).size) : Int) ∧ Le (SV.c (Cp.l (Leaf.v (Value.string ((packB (mdL s (mdN s))).extract (Int.toNat 0) (rst n (Nat.cast ((packB (mdL s (mdN s))).size) : Int)).toNat))))) (SV.c (Cp.l (Leaf.v (Value.string (pfx s n))))) ∧ CallOKd Try.prog 9 [] [SV.c (Cp.l (Leaf.v (Value.string (pfx s n))))] [] 2 (SV.tup [Cp.l (Leaf.v (Value.pointer none)), Cp.l (li (openE (pfx s n)))]) [] 0 ∧ (Nat.cast (((packB (mdL s (mdN s))).size + (ByteArray.mk #[120]).size)) : Int) ≤ IntKind.i64.max ∧ CallOKd Try.prog 9 [] [SV.c (Cp.l (Leaf.v (Value.string (packB (mdL s (mdN s)) ++ ByteArray.mk #[120]))))] [] 2 (SV.tup [Cp.l (Leaf.v (Value.pointer none)), Cp.l (li (openE (packB (mdL s (mdN s)) ++ ByteArray.mk #[120])))]) [] 0 ∧ Le (iv IntKind.i64 (openE (packB (mdL s (mdN s)) ++ ByteArray.mk #[120]))) (iv IntKind.i64 11) ∧ (true = true → true = true ∧ True) ∧ (true = true → true = true ∧ True) ∧ ((true && !openE (pfx s n) == 11) = true → (true && !openE (pfx s n) == 11) = true ∧ True) ∧ (true = true → true = true ∧ ((openE (pfx s n) == 11) = false → (true && !openE (pfx s n) == 11) = true) ∧ True) ∧ (true = true → true = true) ∧ Le (bv (bif true then bif openE (pfx s n) == 11 then true else openE (pfx s n) == 10 else false)) (bv true) ∧ (true = true → true = true ∧ True) ∧ (true = true → true = true) ∧ Le (bv (bif true then 11 == 11 else false)) (bv true) ∧ True) (by kernel_rfl)
  repeat' (first | exact trivial | with_reducible apply And.intro | (with_reducible apply HB.mk) | with_reducible intro _)
  all_goals first
    | (assumption)
    | (with_reducible exact Le.refl _)
    | (with_reducible rfl)
    | ((with_reducible exact C10 _))
    | ((exact pack_any _ (made_good s) _ _ (by omega)))
    | ((exact made_any hx _ (by omega)))
    | ((first | exact ends_1 s n _ | exact ends_2 s _))
    | (((with_reducible refine C14 _ _ ?_ ?_ _) <;> (have := pack_pos (mdL s (mdN s)); have := mp_le s; omega)))
    | ((exact made_any hx _ (by omega)))
    | ((with_reducible exact ends_1 s n _))
    | ((with_reducible exact ends_2 s _))
    | ((refine Le.bool ?_; have := pack_pos (mdL s (mdN s)); simp only [beq_eq_false_iff_ne]; omega))
    | (exact Le.of rfl)
    | ((refine Le.int ?_; exact x_e s))
    | ((refine Le.bool ?_; rcases pfx_e s n with h | h <;> rw [h] <;> rfl))
    | ((have := pack_pos (mdL s (mdN s)); have h2 := mp_le s; have h3 := rest_bd (x := n) (n := ((packB (mdL s (mdN s))).size : Nat)) (by omega) (by omega); unfold SlOK rst; omega))
    | ((have h2 := mp_le s; rw [IntKind.max_i64]; have : (⟨#[120]⟩ : ByteArray).size = 1 := rfl; omega))
    | (omega)
    | (exact okw _ (by omega) (by omega))
    | (exact Le.of rfl)
    | (exact BkR.of rfl)
    | (unfold SlOK; omega)
    | (unfold SlOK; decide)
    | (unfold inByte; decide)
    | (simp only [*, Bool.and_self, Bool.not_false, Bool.not_true]; done)
    | (simp_all [wants]; done)
end Ab
namespace codecEnds
theorem walk (o : Option Addr) (zs : List Int) (n cap : Nat) (k : Int) (w : World) (w0 : n * 8 ≤ 140737488351232) (hn : zs.length = n) (hcap : n ≤ cap)
    (hc : ∀ i (h : i < zs.length), ∃ a, o = some a ∧ a.block < w.heap.size ∧ w.cell? (a.add i) = some (.int .i64 zs[i])) (hwf : ∀ z ∈ zs, (Lit.int .i64 z).wf = true) (wf1 : (Lit.int .i64 k).wf = true) :
    Calls Try.prog 4 #[.slice o n cap, .int .i64 k] w fun e w' => e = .returned (.bool true) ∧ Below w.heap.size w w' :=
  Ab.ints_call (pre := []) (post := [Ab.iv .i64 k]) rfl rfl (fun x p s hx => Ab.W4 x p s k hx) o zs n cap w w0 hn hcap hc
end codecEnds
namespace Ab
end Ab
end Go.Proofs.Ytpdckpifhniioaa
end
section
namespace Go.Proofs.Ytpdckpifhniioaa
open Go.WideShapes
/-- cs are integers of the kinds ks, each fitting its kind. -/
def IsFlat : List IntKind → List Value → Prop
  | [], cs => cs = []
  | k :: ks, cs => ∃ z rest, cs = .int k z :: rest ∧ (Lit.int k z).wf = true ∧ IsFlat ks rest
theorem IsFlat.length : ∀ {ks : List IntKind} {cs : List Value}, IsFlat ks cs → cs.length = ks.length
  | [], cs, h => by rw [show cs = [] from h]; rfl
  | k :: ks, cs, h => by
    obtain ⟨z, rest, rfl, _, h'⟩ := h
    simp [IsFlat.length h']
theorem IsFlat.append : ∀ {ks ks' : List IntKind} {cs cs' : List Value}, IsFlat ks cs → IsFlat ks' cs' → IsFlat (ks ++ ks') (cs ++ cs')
  | [], ks', cs, cs', h, h' => by rw [show cs = [] from h]; exact h'
  | k :: ks, ks', cs, cs', h, h' => by
    obtain ⟨z, rest, rfl, hw, h2⟩ := h
    exact ⟨z, rest ++ cs', rfl, hw, h2.append h'⟩
section
variable {H : Type} {enc : TypeId × Value → H} {P : Program} {w : World} {base : Nat} {spare : Nat → Bool} {held : Bool}
end
end Go.Proofs.Ytpdckpifhniioaa
end
section
namespace Go.Proofs.Ytpdckpifhniioaa
open Go.WideShapes Go.ChangeShapes
section
variable {H : Type} {enc : TypeId × Value → H} {P : Program} {W : World} {base : Nat}
theorem row_lt {p : List MemPlace} {a : Addr} {n i : Nat} (hp : p = MemPlace.row a n) (hi : i < n) (hlt : ∀ x ∈ p, x.block < W.heap.size) : a.block < W.heap.size := by
  obtain ⟨b, off, spot⟩ := a
  exact hlt (.cell b off) (by rw [hp]; exact MemPlace.mem_row.2 ⟨0, by omega, by simp⟩)
/-- A slice of integers that came in. -/
theorem open_int_slice {t e : TypeId} {k : IntKind} {r : Reach} {b0 : Nat} {v : Value} {d : DataW H} {p : List MemPlace} (ht : P.underlying t = some (.slice e)) (he : P.underlying e = some (.int k)) (hc : P.cellsOf e = 1)
    (hv : Value.okWide P W r b0 t v) (h : DataW.Trod enc P W base (fun _ => true) true t v d p) (hlt : ∀ x ∈ p, x.block < W.heap.size) :
    ∃ (o : Option Addr) (n cap : Nat) (zs : List Int), v = .slice o n cap ∧ zs.length = n ∧ n ≤ cap ∧ (∀ z ∈ zs, (Lit.int k z).wf = true) ∧
      (∀ i (h : i < zs.length), ∃ a, o = some a ∧ a.block < W.heap.size ∧ W.cell? (a.add i) = some (.int k zs[i])) ∧ (d = .nil ∧ n = 0 ∨ ∃ elems spare, d = .slice elems spare ∧ elems.length = n) := by
  obtain ⟨o, len, cap, rfl⟩ := okWide_slice ht hv
  obtain ⟨fuel, hf⟩ := h
  rcases open_ints ht he hc hf with ⟨hcs, hx⟩ | ⟨a, len', cap', zs, hcs, _, hl, hm, hz, hx, hcell, hwz⟩
  · simp [Value.cells] at hcs
    obtain ⟨rfl, rfl, rfl⟩ := hcs
    simp only [Prod.mk.injEq] at hx
    obtain ⟨rfl, rfl⟩ := hx
    exact ⟨none, 0, 0, [], rfl, rfl, Nat.le_refl _, by simp, fun i h => by simp at h, Or.inl ⟨rfl, rfl⟩⟩
  · simp [Value.cells] at hcs
    obtain ⟨rfl, rfl, rfl⟩ := hcs
    simp only [Prod.mk.injEq] at hx
    obtain ⟨rfl, hp⟩ := hx
    simp only [if_true] at hz
    refine ⟨some a, len, cap, zs.take len, rfl, by rw [List.length_take]; omega, hl, fun z hzz => hwz z (List.mem_of_mem_take hzz), fun i hi => ?_, Or.inr ⟨_, _, rfl, by simp [lits]; omega⟩⟩
    rw [List.length_take] at hi
    refine ⟨a, rfl, row_lt hp (show i < zs.length by omega) hlt, ?_⟩
    rw [hcell i (by omega), List.getElem_take, List.getD_eq_getElem?_getD, List.getElem?_eq_getElem (by omega)]; rfl
/-- The reach of such a slice. -/
theorem reach_slice {ts : List TypeId} {ds : List (DataW H)} {j : Nat} {t e : TypeId} {d : DataW H} {n : Nat} (h : (DataW.weightsEach P ts ds).all (· ≤ reachBytes) = true) (ht : ts[j]? = some t) (hd : ds[j]? = some d)
    (hu : P.underlying t = some (.slice e)) (hs : d = .nil ∧ n = 0 ∨ ∃ elems spare, d = .slice elems spare ∧ elems.length = n) : n * P.bytesOf e ≤ 140737488351232 := by
  rcases hs with ⟨_, rfl⟩ | ⟨elems, spare, rfl, rfl⟩
  · simp
  · have := sized_slice h ht hd hu
    refine Nat.le_trans (Nat.mul_le_mul_right _ (Nat.le_add_right _ _)) (show _ ≤ 140737488351232 from this)
end
end Go.Proofs.Ytpdckpifhniioaa
end
end
