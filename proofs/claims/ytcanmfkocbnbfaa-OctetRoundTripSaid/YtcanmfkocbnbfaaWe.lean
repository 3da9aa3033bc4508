/- OctetTruncated: the walk. The conditions are the row's own reach. -/
import Derived.Test.YtcanmfkocbnbfaaG
import Derived.Test.YtcanmfkocbnbfaaWd
import Derived.Test.YtcanmfkocbnbfaaWc
import Derived.OpenShut
import Derived.Lib.Strings
set_option linter.unusedVariables false
namespace Go.Proofs.Ytcanmfkocbnbfaa
open Go.RowKit
theorem Try.info3 : (Try.prog.info? 3).map (fun i => (i.zero, i.size, i.bytes)) = some (some (.int .i64 0), 1, 8) := by kernel_rfl
theorem add_block (a : Addr) (k : Nat) : (a.add k).block = a.block := by unfold Addr.add; split <;> rfl
/-- The cells of a slice of integers that came in, as they lie in the world x. -/
def Has (o : Option Addr) (zs : List Int) (w : World) : Prop := ∀ i (h : i < zs.length), ∃ a, o = some a ∧ a.block < w.heap.size ∧ w.cell? (a.add i) = some (.int .i64 zs[i])
theorem Has.keep {o zs w x} (h : Has o zs w) (hb : Below w.heap.size w x) : Has o zs x := by
  intro i hi
  obtain ⟨a, e, hl, hc⟩ := h i hi
  exact ⟨a, e, Nat.lt_of_lt_of_le hl hb.size, by rw [hb.cell (p := a.add i) (by rw [add_block]; exact hl)]; exact hc⟩
theorem own_below {w x : World} {base : Nat} {e : TypeId} {size : Nat} {v : Value} {n : Nat} {xs : List Value} (h : w.ownsRow base e size v n xs) (hb : Below w.heap.size w x) : x.ownsRow base e size v n xs := by
  obtain ⟨h1, h2⟩ := h
  refine ⟨h1, h2.imp id ?_⟩
  rintro ⟨g, cap, cur, e1, e2, e3, e4⟩
  exact ⟨g, cap, cur, e1, e2, by rw [hb.block _ (lt_of_heap e3)]; exact e3, e4⟩
theorem own_grown {w x : World} {base b : Nat} {size : Nat} {v : Value} {n : Nat} {xs : List Value} {s : ByteArray} {p : Nat} {f : Bool} (h : w.ownsRow base 3 size v n xs) (hr : Rd 48 b s p f w) (hg : w.grownBy x (some b)) : x.ownsRow base 3 size v n xs := by
  obtain ⟨h1, h2⟩ := h
  refine ⟨h1, h2.imp id ?_⟩
  rintro ⟨g, cap, cur, e1, e2, e3, e4⟩
  refine ⟨g, cap, cur, e1, e2, ?_, e4⟩
  rw [hg.block _ (lt_of_heap e3) (by intro e; have e := Option.some.inj e; subst e; unfold Rd at hr; rw [hr] at e3; simp at e3)]
  exact e3
theorem Has.grown {o zs w x b} (h : Has o zs w) (hb : w.heap.size ≤ b) (hg : w.grownBy x (some b)) : Has o zs x := by
  refine h.keep (⟨hg.os, hg.tape, hg.output, hg.size, fun i hi => hg.block i hi (by simp; omega)⟩)
namespace octetTruncated
def enc (zs : List Int) (k : Nat) : List UInt8 := (zs.take k).flatMap fun z => M.leb (u64 z)
theorem enc_zero (zs : List Int) : enc zs 0 = [] := rfl
theorem enc_succ (zs : List Int) (k : Nat) (h : k < zs.length) : enc zs (k + 1) = enc zs k ++ M.leb (u64 zs[k]) := by
  unfold enc
  rw [List.take_add_one, List.getElem?_eq_getElem h, List.flatMap_append]
  simp only [Option.toList_some, List.flatMap_cons, List.flatMap_nil, List.append_nil]
theorem enc_split (zs : List Int) (i : Nat) : ∀ m, i ≤ m → m ≤ zs.length → ∃ rest, enc zs m = enc zs i ++ rest
  | m, him, hm => by
    by_cases h : i = m
    · subst h; exact ⟨[], by simp⟩
    · obtain ⟨m', rfl⟩ : ∃ m', m = m' + 1 := ⟨m - 1, by omega⟩
      obtain ⟨rest, hr⟩ := enc_split zs i m' (by omega) (by omega)
      exact ⟨rest ++ M.leb (u64 zs[m']), by rw [enc_succ zs m' (by omega), hr, List.append_assoc]⟩
theorem dec_short (u : Nat) (hu : u < 18446744073709551616) (r : Nat) (hr : r < (M.leb u).length) : M.dec 0 0 ((M.leb u).take r) = none := by
  cases h : M.dec 0 0 ((M.leb u).take r) with
  | none => rfl
  | some x =>
    obtain ⟨v, n⟩ := x
    obtain ⟨h1, h2, rest, h3⟩ := (M.dec_iff _ _ _).1 h
    have h4 : M.leb u = M.leb v ++ (rest ++ (M.leb u).drop r) := by rw [← List.append_assoc, ← h3, List.take_append_drop]
    have h5 := (M.dec_iff (M.leb u) v (M.leb v).length).2 ⟨h1, rfl, _, h4⟩
    have h6 := (M.dec_iff (M.leb u) u (M.leb u).length).2 ⟨hu, rfl, [], by simp⟩
    rw [h5] at h6
    have h7 := congrArg List.length h3
    simp only [List.length_take, List.length_append] at h7
    simp only [Option.some.injEq, Prod.mk.injEq] at h6
    omega
theorem dec_cut (u : Nat) (hu : u < 18446744073709551616) (Y : List UInt8) (d : Nat) :
    M.dec 0 0 ((M.leb u ++ Y).take d) = if (M.leb u).length ≤ d then some (u, (M.leb u).length) else none := by
  split
  · rename_i h
    rw [List.take_append, List.take_of_length_le h]
    exact (M.dec_iff _ _ _).2 ⟨hu, rfl, _, rfl⟩
  · rename_i h
    rw [List.take_append_of_le_length (by omega)]
    exact dec_short u hu d (by omega)
theorem wrap_u64 (z : Int) (h : (Lit.int .i64 z).wf = true) : wrap64 ((u64 z : Nat) : Int) = z := by
  have := bounds_i64 h
  unfold u64 wrap64
  omega
def Cond (zs : List Int) (q i p : Nat) (f : Bool) : Prop := ((enc zs i).length ≤ q ∧ p = (enc zs i).length ∧ f = false) ∨ (q < (enc zs i).length ∧ f = true ∧ p ≤ q)
theorem cut_drop (A B : List UInt8) (q : Nat) : ((A ++ B).take q).drop A.length = B.take (q - A.length) := by
  rw [List.drop_take, List.drop_left]
theorem step (zs : List Int) (m q i p : Nat) (f : Bool) (X : List UInt8) (T : ByteArray) (hT : T.data.toList = (enc zs m ++ X).take q) (hi : i < m) (hm : m ≤ zs.length)
    (hwf : ∀ z ∈ zs, (Lit.int .i64 z).wf = true) (h : Cond zs q i p f) :
    ((enc zs (i + 1)).length ≤ q → varRes T p f = (zs[i], (enc zs (i + 1)).length, false)) ∧ (q < (enc zs (i + 1)).length → varRes T p f = (0, p, true) ∧ p ≤ q) := by
  have hlen : (enc zs (i + 1)).length = (enc zs i).length + (M.leb (u64 zs[i])).length := by rw [enc_succ zs i (by omega), List.length_append]
  rcases h with ⟨h1, rfl, rfl⟩ | ⟨h1, rfl, h2⟩
  · obtain ⟨rest, hr⟩ := enc_split zs (i + 1) m (by omega) hm
    have hd : T.data.toList.drop (enc zs i).length = (M.leb (u64 zs[i]) ++ (rest ++ X)).take (q - (enc zs i).length) := by
      rw [hT, hr, enc_succ zs i (by omega), List.append_assoc, List.append_assoc, cut_drop]
    have hdec := dec_cut (u64 zs[i]) (u64_lt _) (rest ++ X) (q - (enc zs i).length)
    rw [← hd] at hdec
    constructor
    · intro h3
      rw [if_pos (by omega)] at hdec
      unfold varRes
      rw [if_neg (by simp), hdec]
      simp only
      rw [wrap_u64 _ (hwf _ (List.getElem_mem _)), hlen]
    · intro h3
      rw [if_neg (by omega)] at hdec
      unfold varRes
      rw [if_neg (by simp), hdec]
      exact ⟨rfl, h1⟩
  · rw [varRes_true]
    exact ⟨fun h3 => by omega, fun _ => ⟨rfl, h2⟩⟩
theorem last (zs : List Int) (m q p : Nat) (f : Bool) (r : ByteArray) (hr : r.size ≤ 300) (T : ByteArray) (hT : T.data.toList = (enc zs m ++ txt r).take q) (hTs : T.size = q) (hq : q < (enc zs m).length + (txt r).length)
    (h : Cond zs q m p f) : textRes T p f = (⟨#[]⟩, p, true) := by
  rcases h with ⟨h1, rfl, rfl⟩ | ⟨h1, rfl, h2⟩
  · have hd : T.data.toList.drop (enc zs m).length = (M.leb r.size ++ r.data.toList).take (q - (enc zs m).length) := by
      rw [hT, cut_drop]; rfl
    have hdec := dec_cut r.size (by omega) r.data.toList (q - (enc zs m).length)
    rw [← hd] at hdec
    have ht : (txt r).length = (M.leb r.size).length + r.size := by
      unfold txt
      rw [List.length_append, Array.length_toList]; rfl
    have hv : varRes T (enc zs m).length false = match (if (M.leb r.size).length ≤ q - (enc zs m).length then some (r.size, (M.leb r.size).length) else none) with
        | none => (0, (enc zs m).length, true)
        | some (u, n) => (wrap64 (u : Int), (enc zs m).length + n, false) := by
      unfold varRes
      rw [if_neg (by simp), hdec]
      rfl
    by_cases h3 : (M.leb r.size).length ≤ q - (enc zs m).length
    · rw [if_pos h3] at hv
      simp only at hv
      have : takeRes T ((enc zs m).length + (M.leb r.size).length) false (wrap64 (r.size : Int)) = (⟨#[]⟩, (enc zs m).length + (M.leb r.size).length, true) := by
        unfold takeRes
        rw [if_pos (Or.inr (Or.inr (by rw [wrap64_small _ (by omega), hTs]; omega)))]
      unfold textRes
      simp only [hv, this, if_pos]
    · rw [if_neg h3] at hv
      simp only at hv
      unfold textRes
      simp only [hv, takeRes_true, if_pos]
  · exact textRes_true _ _
theorem enc_len (zs : List Int) (k : Nat) : (enc zs k).length ≤ 10 * k := by
  induction k with
  | zero => simp [enc_zero]
  | succ k ih =>
    by_cases h : k < zs.length
    · rw [enc_succ zs k h, List.length_append]
      have := M.leb_le _ (u64_lt zs[k])
      omega
    · have : enc zs (k + 1) = enc zs k := by unfold enc; rw [List.take_of_length_le (by omega), List.take_of_length_le (by omega)]
      rw [this]; omega
def ends (zs : List Int) (k : Nat) : List Value := (List.range k).map fun j => .int .i64 ((enc zs (j + 1)).length : Int)
theorem ends_succ (zs : List Int) (k : Nat) : ends zs (k + 1) = ends zs k ++ [.int .i64 ((enc zs (k + 1)).length : Int)] := by
  simp [ends, List.range_succ]
theorem ends_at (zs : List Int) (k j : Nat) (h : j < k) : (ends zs k)[j]? = some (.int .i64 ((enc zs (j + 1)).length : Int)) := by
  simp [ends, h]
theorem txt_pos (r : ByteArray) : 0 < (txt r).length := by
  unfold txt
  have := M.leb_pos r.size
  rw [List.length_append]; omega
theorem txt_len (r : ByteArray) (h : r.size ≤ 300) : (txt r).length ≤ 310 := by
  unfold txt
  have := M.leb_le r.size (by omega)
  have e1 : r.data.toList.length = r.size := Array.length_toList
  rw [List.length_append]; omega
theorem place (a : Int) (n : Nat) (h0 : 0 < n) (hn : n ≤ 1000) :
    ∃ k : Nat, (wrap64 (a.tmod (n : Int) + (n : Int))).tmod (n : Int) = (k : Int) ∧ k < n := by
  have h1 := Int.tmod_lt_of_pos a (b := (n : Int)) (by omega)
  have h2 := Int.lt_tmod_of_pos a (b := (n : Int)) (by omega)
  generalize a.tmod (n : Int) = t at *
  rw [IntWalk.wrap64_in (t + n) ⟨by omega, by omega⟩, Int.tmod_eq_emod_of_nonneg (by omega)]
  have h3 := Int.emod_nonneg (t + n) (b := (n : Int)) (by omega)
  have h4 := Int.emod_lt_of_pos (t + n) (b := (n : Int)) (by omega)
  exact ⟨((t + n) % (n : Int)).toNat, by omega, by omega⟩
set_option maxRecDepth 100000 in
set_option maxHeartbeats 400000 in
theorem walk (o : Option Addr) (zs : List Int) (n cap : Nat) (t : ByteArray) (a2 : Int) (w : World) (w0 : n * 8 ≤ 140737488351232) (hn : zs.length = n) (hcap : n ≤ cap) 
    (hc : Has o zs w) (hwf : ∀ z ∈ zs, (Lit.int .i64 z).wf = true) (w1 : t.size ≤ 140737488351232) (w2 : (Lit.int .i64 a2).wf = true) :
    Calls Try.prog 9 #[.slice o n cap, .string t, .int .i64 a2] w fun e w' => e = .returned (.bool true) ∧ Below w.heap.size w w' := by
  clear w2
  go_enter Try.func9, Try.ntmps9
  go_wp2_with fail
  refine (sanity_any _).mono ?_
  rintro e x1 ⟨rfl, b1⟩
  go_wp2_with fail
  case' inl =>
    obtain ⟨m, hma, hmb⟩ : ∃ m : Nat, m ≤ 10 ∧ 10 ≤ m := ⟨10, by omega, by omega⟩
    have hmn : m ≤ zs.length := by omega
    have hm10 : m ≤ 10 := by omega
  case' inr =>
    obtain ⟨m, hma, hmb⟩ : ∃ m : Nat, m ≤ n ∧ n ≤ m := ⟨n, by omega, by omega⟩
    have hmn : m ≤ zs.length := by omega
    have hm10 : m ≤ 10 := by omega
  all_goals
    go_loopw [9, 10, 11] (fun s v i wr => ∃ k : Nat, k ≤ m ∧ i = .int .i64 k ∧ s = .string ⟨(enc zs k).toArray⟩ ∧ wr.ownsRow w.heap.size 3 1 v k (ends zs k) ∧ Below w.heap.size w wr) (fun _ _ i _ => m - (intOf i).toNat)
    case atStart =>
      refine ⟨0, Nat.zero_le _, rfl, rfl, ?_, b1.alloc b1.size _⟩
      exact ⟨rfl, Or.inr ⟨_, 0, #[], rfl, b1.size, heap_alloc_new _ _, Nat.le_refl _, by unfold maxLen; omega, rfl, rfl⟩⟩
    case round =>
      obtain ⟨k, hk, rfl, rfl, hown, hb⟩ := hrel
      by_cases hlt : k < m
      · have hi : k < zs.length := by omega
        obtain ⟨a, rfl, hal, hcell⟩ := hc.keep hb k hi
        have hl1 := enc_len zs k
        have hl2 := M.leb_le _ (u64_lt zs[k])
        have hs1 : (⟨(enc zs k).toArray⟩ : ByteArray).size = (enc zs k).length := str_size _
        have hs2 : (⟨(M.leb (u64 zs[k])).toArray⟩ : ByteArray).size = (M.leb (u64 zs[k])).length := str_size _
        go_wp2_with fail
        refine (var_any _ _).mono ?_
        rintro e x2 ⟨rfl, b2⟩
        have hown2 := own_below hown b2
        have hb2 := bt hb b2
        have hsz := hb2.size
        clear hown
        go_wp2_with (at_builtin; refine wp_push _ rfl _ _ 40 3 rfl Try.underlying40 (.int .i64 0) 8 Try.info3 rfl w.heap.size _ _ _ rfl hown2 _ _ rfl rfl (by omega) (by omega) hsz ?_)
        intro v' w' hown3 hne hb3 hsz3
        go_wp2_with fail
        go_roundw
        case rel =>
          refine ⟨k + 1, by omega, by go_num, by rw [str_append, enc_succ zs k hi], ?_, hb2.trans hb3⟩
          rw [ends_succ, enc_succ zs k hi, List.length_append, Int.natCast_add]
          exact hown3
        case measure => simp [intOf]; omega
      · have hkm : k = m := by omega
        subst hkm
        clear hlt hk
        have hl1 := enc_len zs k
        have hs1 : (⟨(enc zs k).toArray⟩ : ByteArray).size = (enc zs k).length := str_size _
        go_wp2_with fail
        case' inl =>
          have hr : (t.extract 0 300).size ≤ 300 := by rw [ByteArray.size_extract]; omega
          generalize t.extract 0 300 = r at hr ⊢
        case' inr =>
          have hr : t.size ≤ 300 := by omega
          obtain ⟨r, hr0⟩ : ∃ r, r = t := ⟨_, rfl⟩
          rw [← hr0] at hr
          rw [← hr0]
          clear hr0
        all_goals
          refine (text_any r _ (by omega)).mono ?_
          rintro e x2 ⟨rfl, b2⟩
          replace hown := own_below hown b2
          replace hb := bt hb b2
          clear b2 b1
          obtain ⟨S, hS⟩ : ∃ S : ByteArray, (⟨(enc zs k).toArray⟩ : ByteArray) ++ ⟨(txt r).toArray⟩ = S := ⟨_, rfl⟩
          have hSl : S.data.toList = enc zs k ++ txt r := by rw [← hS, str_append]
          have hS1 : 0 < S.size := by
            have e1 : S.data.toList.length = S.size := Array.length_toList
            have := txt_pos r
            rw [← e1, hSl, List.length_append]; omega
          have hS2 : S.size ≤ 1000 := by
            have e1 : S.data.toList.length = S.size := Array.length_toList
            have := txt_len r hr
            rw [← e1, hSl, List.length_append]; omega
          have HSL := Lib.hid hSl
          have htl := txt_len r hr
          have hs2 : (⟨(txt r).toArray⟩ : ByteArray).size = (txt r).length := str_size _
          obtain ⟨q, hq, hqn⟩ := place a2 S.size hS1 hS2
          clear hSl
          go_wp2_with fail
          clear hq hS
          obtain ⟨T, hT⟩ : ∃ T : ByteArray, T = S.extract 0 q := ⟨_, rfl⟩
          have hTl : T.data.toList = (enc zs k ++ txt r).take q := by rw [hT, octetLinear.extract_list, HSL.out]
          have hTs : T.size = q := by rw [hT, ByteArray.size_extract]; omega
          have hqe : q < (enc zs k).length + (txt r).length := by
            have e1 : S.data.toList.length = S.size := Array.length_toList
            rw [← e1, HSL.out, List.length_append] at hqn; exact hqn
          have HTL := Lib.hid hTl
          have HTS := Lib.hid hTs
          have hT3 : T.size ≤ 1000 := by omega
          rw [← hT]
          clear hTl hTs hT
          refine (read_any T _).mono ?_
          rintro e x3 ⟨rfl, hx3⟩
          have hSt : St w x2.heap.size T 0 false x3 := by subst hx3; exact St.read hb _
          have hown3 : x3.ownsRow w.heap.size 3 1 u10 k (ends zs k) := by
            subst hx3; exact own_below hown ((Below.refl _ _).alloc (Nat.le_refl _) _)
          clear hx3 hb hown
          go_wp2_with fail
          clear hs1 hs2 hl1 htl hS1 hS2 hqn HSL
          go_loopw [14] (fun i wr => ∃ (j p : Nat) (f : Bool), j ≤ k ∧ i = .int .i64 j ∧ Hid (Cond zs q j p f) ∧ p ≤ T.size ∧ St w x2.heap.size T p f wr ∧ wr.ownsRow w.heap.size 3 1 u10 k (ends zs k)) (fun i _ => k - (intOf i).toNat)
          case atStart => exact ⟨0, 0, false, Nat.zero_le _, rfl, Or.inl ⟨by rw [enc_zero]; exact Nat.zero_le _, rfl, rfl⟩, Nat.zero_le _, hSt, hown3⟩
          case round =>
            obtain ⟨j, p, f, hj, rfl, HC, hp, hS, hown⟩ := hrel
            clear hSt hown3
            by_cases hlt : j < k
            · have hi : j < zs.length := by omega
              have hst := step zs k q j p f (txt r) T HTL.out hlt hmn hwf HC.out
              have hle := varRes_le T p f hp
              go_wp2_with fail
              refine (rvar_any _ T p f _ hS.rd (by omega) hp).mono ?_
              rintro e x4 ⟨rfl, hg, hR⟩
              replace hown := own_grown hown hS.rd hg
              replace hS := hS.step hg hR
              clear hg hR
              obtain ⟨a, rfl, hal, hcell⟩ := hc.keep hS.bl j hi
              rcases hown.2 with ⟨rfl, h0⟩ | ⟨g, cp, cur, rfl, hgb, hgc, hnc, hcm, hsz, htk⟩
              · omega
              have hce := hown.cellAt j (by omega)
              rw [ends_at zs k j hlt] at hce
              by_cases hwh : (enc zs (j + 1)).length ≤ q
              · have hv := hst.1 hwh
                clear hst
                rw [hv] at hS hle ⊢
                clear hv
                go_wp2_with fail
                refine (failed_any _ _ _ _ _ hS.rd).mono ?_
                rintro e x5 ⟨rfl, rfl⟩
                go_wp2_with fail
                go_roundw
                case rel => exact ⟨j + 1, _, _, by omega, by go_num, Or.inl ⟨hwh, rfl, rfl⟩, hle, hS, hown⟩
                case measure => simp [intOf]; omega
              · obtain ⟨hv, hpq⟩ := hst.2 (by omega)
                clear hst
                rw [hv] at hS hle ⊢
                clear hv
                go_wp2_with fail
                refine (failed_any _ _ _ _ _ hS.rd).mono ?_
                rintro e x5 ⟨rfl, rfl⟩
                go_wp2_with fail
                go_roundw
                case rel => exact ⟨j + 1, _, _, by omega, by go_num, Or.inr ⟨by omega, rfl, hpq⟩, hle, hS, hown⟩
                case measure => simp [intOf]; omega
            · have hjk : j = k := by omega
              subst hjk
              have hla := last zs j q p f r hr T HTL.out HTS.out hqe HC.out
              go_wp2_with fail
              refine (rtext_any _ T p f _ hS.rd (by omega) hp).mono ?_
              rintro e x4 ⟨rfl, hg, hR⟩
              rw [hla] at hR ⊢
              clear hla
              replace hS := hS.step hg hR
              clear hg hR
              go_wp2_with fail
              refine (failed_any _ _ _ _ _ hS.rd).mono ?_
              rintro e x5 ⟨rfl, rfl⟩
              go_wp2_with fail
              go_ret
              exact ⟨rfl, hS.bl⟩
end octetTruncated
end Go.Proofs.Ytcanmfkocbnbfaa
