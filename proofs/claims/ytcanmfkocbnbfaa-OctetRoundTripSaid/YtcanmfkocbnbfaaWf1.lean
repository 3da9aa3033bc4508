/- OctetRoundTrip: the walk, way 1 of four (which of the two bounds ends the loops). The conditions are the row's own reach. -/
import Derived.Test.YtcanmfkocbnbfaaWf
set_option linter.unusedVariables false
namespace Go.Proofs.Ytcanmfkocbnbfaa
open Go.RowKit
namespace octetRoundTrip
set_option maxRecDepth 100000 in
set_option maxHeartbeats 20000000 in
theorem walk1 (o : Option Addr) (zs : List Int) (n cap : Nat) (o2 : Option Addr) (ss : List ByteArray) (n2 cap2 : Nat) (w : World) (w0 : n * 8 ≤ 140737488351232) (hn : zs.length = n) (hcap : n ≤ cap) 
    (hc : Has o zs w) (hwf : ∀ z ∈ zs, (Lit.int .i64 z).wf = true) (w1 : n2 * 16 ≤ 140737488351232) (hn2 : ss.length = n2) (hcap2 : n2 ≤ cap2) (hc2 : HasS o2 ss w) (hws : ∀ s ∈ ss, s.size ≤ maxLen)
    (m1 m2 : Nat) (g1 : m1 ≤ n) (g2 : m1 ≤ 30) (g3 : n ≤ m1) (g4 : m2 ≤ n2) (g5 : m2 ≤ 10) (g6 : n2 ≤ m2) :
    Calls Try.prog 11 #[.slice o n cap, .slice o2 n2 cap2] w fun e w' => e = .returned (.bool true) ∧ Below w.heap.size w w' := by
  clear hws
  go_enter Try.func11, Try.ntmps11
  go_wp2_with fail
  refine (sanity_any _).mono ?_
  rintro e x1 ⟨rfl, b1⟩
  go_wp2_with fail
  all_goals
    go_loopw [6, 7] (fun s i wr => ∃ k : Nat, k ≤ m1 ∧ i = .int .i64 k ∧ s = .string ⟨(enc1 zs k).toArray⟩ ∧ Below w.heap.size w wr) (fun _ i _ => m1 - (intOf i).toNat)
    case atStart => exact ⟨0, Nat.zero_le _, rfl, rfl, b1⟩
    case round =>
      obtain ⟨k, hk, rfl, rfl, hb⟩ := hrel
      by_cases hlt : k < m1
      · have hi : k < zs.length := by omega
        obtain ⟨a, rfl⟩ := Has_some hc k hi
        have hl1 := enc1_len zs k
        have hl2 := M.leb_le _ (u64_lt zs[k])
        obtain ⟨r, hr9, hr8, HR⟩ := rem9 k
        have hl3 := M.be_length r (u64 zs[k])
        have hs1 : (⟨(enc1 zs k).toArray⟩ : ByteArray).size = (enc1 zs k).length := str_size _
        have hs2 : (⟨(M.leb (u64 zs[k])).toArray⟩ : ByteArray).size = (M.leb (u64 zs[k])).length := str_size _
        have hs3 : (⟨(M.be r (u64 zs[k])).toArray⟩ : ByteArray).size = r := by rw [str_size, hl3]
        have hsz := sz_nat r (by omega)
        have HZ := Lib.hid hsz
        clear hsz hl3
        go_wp2_with fail
        refine q_region (C := fun x => Has (some a) zs x ∧ Below w.heap.size w x) (by kernel_rfl) (by kernel_rfl) ⟨hc.keep hb.drew, hb.drew⟩ ?_
        repeat (first
          | go_big_quiet_skip
          | (go_big_quiet_want; refine q_val ?_; apply Exists.intro; refine ⟨fun x hx => ?_, ?_⟩; (focus (first | (have hcx := Has_at hx.1 k hi; go_simp <;> with_reducible rfl) | (have hadd : ¬ (9223372036854775807 < (enc1 zs k).length + r) := (by omega); go_simp <;> with_reducible rfl) | (have hadd : ¬ (9223372036854775807 < (enc1 zs k).length + r + (M.leb (u64 zs[k])).length) := (by omega); go_simp <;> with_reducible rfl))); simp only [Act.put, List.setIfInBounds_toArray, List.set_cons_zero, List.set_cons_succ]; go_big_quiet_on)
          | (go_big_quiet_want; refine q_call 14 ?_; apply Exists.intro; refine ⟨fun x hx => ?_, ?_⟩; (focus (go_simp <;> rfl)); apply Exists.intro; refine ⟨fun x hx => ?_, ?_⟩; (focus (exact (put9 _ _ _ hr8).mono fun e y ⟨he, hb⟩ => ⟨he, hx.1.keep hb, bt hx.2 hb⟩)); simp only [Act.put, List.setIfInBounds_toArray, List.set_cons_zero, List.set_cons_succ]; go_big_quiet_on)
          | (go_big_quiet_want; refine q_call 16 ?_; apply Exists.intro; refine ⟨fun x hx => ?_, ?_⟩; (focus (go_simp <;> rfl)); apply Exists.intro; refine ⟨fun x hx => ?_, ?_⟩; (focus (exact (var_any _ _).mono fun e y ⟨he, hb⟩ => ⟨he, hx.1.keep hb, bt hx.2 hb⟩)); simp only [Act.put, List.setIfInBounds_toArray, List.set_cons_zero, List.set_cons_succ]; go_big_quiet_on))
        refine wpQuiet_nil ?_
        intro x4 hS4
        replace hS4 := hS4.2
        go_wp2_with fail
        go_roundw
        case rel =>
          refine ⟨k + 1, by omega, by go_num, ?_, hS4⟩
          rw [enc1_succ zs k r hi HR.out, ← str_append, ← str_append]
        case measure => simp [intOf]; omega
      · have hkm : k = m1 := by omega
        subst hkm
        clear hlt hk b1
        go_wp2_with fail
        go_loopw [6, 8] (fun s i wr => ∃ j : Nat, j ≤ m2 ∧ i = .int .i64 j ∧ s = .string ⟨(enc1 zs k ++ enc2 ss j).toArray⟩ ∧ Below w.heap.size w wr) (fun _ i _ => m2 - (intOf i).toNat)
        case atStart => exact ⟨0, Nat.zero_le _, rfl, by rw [enc2, List.append_nil], hb⟩
        case round =>
          obtain ⟨j, hj, rfl, rfl, hb⟩ := hrel
          by_cases hlt : j < m2
          · have hi : j < ss.length := by omega
            obtain ⟨a, rfl⟩ := HasS_some hc2 j hi
            have hl1 := enc1_len zs k
            have hl2 := enc2_len ss j
            have hs1 : (⟨(enc1 zs k ++ enc2 ss j).toArray⟩ : ByteArray).size = (enc1 zs k).length + (enc2 ss j).length := by rw [str_size, List.length_append]
            have hcs := cutS_size ss[j]
            have HC : Hid (enc2 ss (j + 1) = enc2 ss j ++ txt (cutS ss[j])) := enc2_succ ss j hi
            by_cases hbig : 300 < (ss[j]).size
            case' pos =>
              have hcut : Hid ((ss[j]).extract 0 300 = cutS ss[j]) := by show _ = _; unfold cutS; rw [if_pos hbig]
              have hq : ((ss[j]).extract 0 300).size ≤ 1000000000000000000 := by rw [hcut.out]; omega
              have htl := octetTruncated.txt_len ((ss[j]).extract 0 300) (by rw [hcut.out]; exact hcs)
              have hs2 : (⟨(txt ((ss[j]).extract 0 300)).toArray⟩ : ByteArray).size = (txt ((ss[j]).extract 0 300)).length := str_size _
              have hnb : ¬ (ss[j]).size < 300 := by omega
              have hbi : (300 : Int) < (ss[j]).size := by omega
              have hmin : (if (300 : Int) < ((ss[j]).size : Int) then (300 : Int) else ((ss[j]).size : Int)) = 300 := if_pos hbi
              have hbj : (300 : Int) ≤ (ss[j]).size := by omega
            case' neg =>
              have hcut : Hid (ss[j] = cutS ss[j]) := by show _ = _; unfold cutS; rw [if_neg hbig]
              have hq : (ss[j]).size ≤ 1000000000000000000 := by omega
              have htl := octetTruncated.txt_len (ss[j]) (by omega)
              have hs2 : (⟨(txt (ss[j])).toArray⟩ : ByteArray).size = (txt (ss[j])).length := str_size _
              have hbi : ((ss[j]).size : Int) ≤ 300 := by omega
              have hmin : (if (300 : Int) < ((ss[j]).size : Int) then (300 : Int) else ((ss[j]).size : Int)) = ((ss[j]).size : Int) := if_neg (by omega)
            all_goals
              go_wp2_with fail
              refine q_region (C := fun x => HasS (some a) ss x ∧ Below w.heap.size w x) (by kernel_rfl) (by kernel_rfl) ⟨hc2.keep hb.drew, hb.drew⟩ ?_
              repeat (first
                | go_big_quiet_skip
                | (go_big_quiet_want; refine q_val ?_; apply Exists.intro; refine ⟨fun x hx => ?_, ?_⟩; (focus (first | (have hcx := HasS.at hx.1 j hi; go_simp <;> (try simp only [hmin]) <;> with_reducible rfl) | (have hadd : ¬ (9223372036854775807 < (enc1 zs k).length + (enc2 ss j).length + (txt ((ss[j]).extract 0 300)).length) := (by omega); go_simp <;> with_reducible rfl) | (have hadd : ¬ (9223372036854775807 < (enc1 zs k).length + (enc2 ss j).length + (txt ss[j]).length) := (by omega); go_simp <;> with_reducible rfl))); simp only [Act.put, List.setIfInBounds_toArray, List.set_cons_zero, List.set_cons_succ]; go_big_quiet_on)
                | (go_big_quiet_want; refine q_call 18 ?_; apply Exists.intro; refine ⟨fun x hx => ?_, ?_⟩; (focus (go_simp <;> rfl)); apply Exists.intro; refine ⟨fun x hx => ?_, ?_⟩; (focus (exact (text_any _ _ hq).mono fun e y ⟨he, hb⟩ => ⟨he, hx.1.keep hb, bt hx.2 hb⟩)); simp only [Act.put, List.setIfInBounds_toArray, List.set_cons_zero, List.set_cons_succ]; go_big_quiet_on))
              refine wpQuiet_nil ?_
              intro x4 hS4
              replace hS4 := hS4.2
              clear hmin hbi
              go_wp2_with fail
              go_roundw
              case rel =>
                refine ⟨j + 1, by omega, by go_num, ?_, hS4⟩
                rw [HC.out, ← hcut.out, str_append, List.append_assoc]
              case measure => simp [intOf]; omega
          · have hjm : j = m2 := by omega
            subst hjm
            clear hlt hj
            obtain ⟨S, hS⟩ : ∃ S : ByteArray, S = ⟨(enc1 zs k ++ enc2 ss j).toArray⟩ := ⟨_, rfl⟩
            have hSl : S.data.toList = enc1 zs k ++ enc2 ss j := by rw [hS]
            have hSz : S.size = (enc1 zs k).length + (enc2 ss j).length := by rw [hS, str_size, List.length_append]
            have HSL := Lib.hid hSl
            have HSZ := Lib.hid hSz
            have hS3 : S.size ≤ 5000 := by
              have h1 := enc1_len zs k
              have h2 := enc2_len ss j
              omega
            rw [← hS]
            clear hS hSl hSz
            go_wp2_with fail
            refine (read_any S _).mono ?_
            rintro e x2 ⟨rfl, hx2⟩
            have hSt : St w wr.heap.size S 0 false x2 := by subst hx2; exact St.read hb _
            clear hx2 hb
            generalize wr.heap.size = b at *
            go_wp2_with fail
            go_loopw [10] (fun i wr => ∃ q : Nat, q ≤ k ∧ i = .int .i64 q ∧ (enc1 zs q).length ≤ S.size ∧ St w b S (enc1 zs q).length false wr) (fun i _ => k - (intOf i).toNat)
            case atStart => exact ⟨0, Nat.zero_le _, rfl, Nat.zero_le _, hSt⟩
            case round =>
              obtain ⟨q, hq, rfl, hqS, hS⟩ := hrel
              clear hSt
              by_cases hlt : q < k
              · have hi : q < zs.length := by omega
                obtain ⟨r, hr9, hr8, HR⟩ := rem9 q
                obtain ⟨a, rfl⟩ := Has_some hc q hi
                have hce := Has_at (hc.keep hS.bl) q hi
                obtain ⟨ht, hv⟩ := round1 zs hwf q k hlt (by omega) S _ HSL.out
                rw [← HR.out] at ht hv
                have HT := Lib.hid ht
                have HV := Lib.hid hv
                clear ht hv
                by_cases hr : r < 8
                case' pos =>
                  go_wp2_with fail
                  obtain ⟨M, e5, e6, hM⟩ := mask_at zs[q] r hr
                  have e1 : IntKind.i64.wrap (8 * (r : Int)) = 8 * (r : Int) := IntWalk.i64_in _ (by omega)
                  have e2 : (0 : Int) ≤ 8 * (r : Int) := by omega
                  have e3 : 8 * (r : Int) ≤ 64 := by omega
                  have e4 : (8 * (r : Int)).toNat = 8 * r := by omega
                  refine q_region (C := St w b S (enc1 zs q).length false) (by kernel_rfl) (by kernel_rfl) hS.drew ?_
                  repeat (first
                    | go_big_quiet_skip
                    | (go_big_quiet_want; refine q_val ?_; apply Exists.intro; refine ⟨fun x hx => ?_, ?_⟩; (focus (have hcx := Has_at (hc.keep hx.bl) q hi; go_simp <;> with_reducible rfl)); simp only [Act.put, List.setIfInBounds_toArray, List.set_cons_zero, List.set_cons_succ]; go_big_quiet_on))
                  refine wpQuiet_nil ?_
                  intro x4 hS4
                  skip
                  replace hS := hS4
                  replace hce := Has_at (hc.keep hS.bl) q hi
                  clear e1 e2 e3 e4 e5 e6 hM hS4
                  have HN : Hid (∀ x, Rd 48 b S (enc1 zs q).length false x → Calls Try.prog 27 #[.pointer (some ⟨b, 0, none⟩), .int .i64 (r : Int)] x fun e y => e = .returned (.int .i64 (want zs[q] r)) ∧ x.grownBy y (some b) ∧ Rd 48 b S ((enc1 zs q).length + r) false y) := num_at b S _ r zs[q] (hwf _ (List.getElem_mem _)) hr8 (by omega) hqS HT.out
                case' neg =>
                  go_wp2_with fail
                  have hw8 : want zs[q] r = zs[q] := if_neg hr
                  have HN : Hid (∀ x, Rd 48 b S (enc1 zs q).length false x → Calls Try.prog 27 #[.pointer (some ⟨b, 0, none⟩), .int .i64 (r : Int)] x fun e y => e = .returned (.int .i64 zs[q]) ∧ x.grownBy y (some b) ∧ Rd 48 b S ((enc1 zs q).length + r) false y) := by have h := num_at b S _ r zs[q] (hwf _ (List.getElem_mem _)) hr8 (by omega) hqS HT.out; rw [hw8] at h; exact h
                  clear hw8
                all_goals
                  have HVC : Hid (∀ x, Rd 48 b S ((enc1 zs q).length + r) false x → Calls Try.prog 23 #[.pointer (some ⟨b, 0, none⟩)] x fun e y => e = .returned (.int .i64 zs[q]) ∧ x.grownBy y (some b) ∧ Rd 48 b S (enc1 zs (q + 1)).length false y) := by
                    have hle := takeRes_le S (enc1 zs q).length false (sz (r : Int) : Int) hqS
                    rw [HT.out] at hle
                    have h := fun x hx => rvar_any b S ((enc1 zs q).length + r) false x hx (by omega) hle
                    rw [HV.out] at h
                    exact h
                  have hqS2 : (enc1 zs (q + 1)).length ≤ S.size := by
                    have hle := takeRes_le S (enc1 zs q).length false (sz (r : Int) : Int) hqS
                    rw [HT.out] at hle
                    have h := varRes_le S ((enc1 zs q).length + r) false hle
                    rw [HV.out] at h; exact h
                  have hSd := hS.drew
                  clear HT HV
                  go_wp2_with fail
                  have hced := Has_at (hc.keep hSd.bl) q hi
                  go_region_held3 (fun w' => w'.cell? (a.add q) = some (.int .i64 zs[q])) (first | exact hced | exact hce6 | exact hce5) (first
                    | (go_at_call 27; refine (HN.out _ hSd.rd).mono ?_; rintro e x5 ⟨rfl, hg5, hR5⟩; have hS5 := hSd.step hg5 hR5; have hce5 := Has_at (hc.keep hS5.bl) q hi)
                    | (go_at_call 23; refine (HVC.out _ hS5.rd).mono ?_; rintro e x6 ⟨rfl, hg6, hR6⟩; have hS6 := hS5.step hg6 hR6; have hce6 := Has_at (hc.keep hS6.bl) q hi))
                  all_goals
                    clear HN HVC hSd
                    go_wp2_with fail
                    go_roundw
                    case rel => exact ⟨q + 1, by omega, by go_num, hqS2, hS6⟩
                    case measure => simp [intOf]; omega
              · have hqk : q = k := by omega
                subst hqk
                clear hlt hq
                go_wp2_with fail
                go_loopw [12] (fun i wr => ∃ p : Nat, p ≤ j ∧ i = .int .i64 p ∧ (enc1 zs q).length + (enc2 ss p).length ≤ S.size ∧ St w b S ((enc1 zs q).length + (enc2 ss p).length) false wr) (fun i _ => j - (intOf i).toNat)
                case atStart => exact ⟨0, Nat.zero_le _, rfl, hqS, hS⟩
                case round =>
                  clear hS
                  obtain ⟨p, hp, rfl, hpS, hS⟩ := hrel
                  by_cases hlt : p < j
                  · have hi : p < ss.length := by omega
                    obtain ⟨a, rfl⟩ := HasS_some hc2 p hi
                    have hce := HasS.at (hc2.keep hS.bl) p hi
                    have htx := round2 ss p j hlt (by omega) S _ HSL.out
                    have hcs := cutS_size ss[p]
                    have HT : Hid (∀ x, Rd 48 b S ((enc1 zs q).length + (enc2 ss p).length) false x → Calls Try.prog 26 #[.pointer (some ⟨b, 0, none⟩)] x fun e y => e = .returned (.string (cutS ss[p])) ∧ x.grownBy y (some b) ∧ Rd 48 b S ((enc1 zs q).length + (enc2 ss (p + 1)).length) false y) := by
                      intro x hx
                      have h := rtext_any b S _ false x hx (by omega) hpS
                      rw [htx] at h
                      exact h
                    have hpS2 : (enc1 zs q).length + (enc2 ss (p + 1)).length ≤ S.size := by
                      rw [HSZ.out]
                      obtain ⟨rest, hr⟩ := enc2_split ss p j hlt
                      rw [hr, enc2, List.length_append, List.length_append, List.length_append]; omega
                    have hSd := hS.drew
                    clear htx
                    by_cases hbig : 300 < (ss[p]).size
                    case' pos =>
                      have hcut : cutS ss[p] = (ss[p]).extract 0 300 := by unfold cutS; rw [if_pos hbig]
                      rw [hcut] at HT
                      have hbi : (300 : Int) < (ss[p]).size := by omega
                      have hmin : (if (300 : Int) < ((ss[p]).size : Int) then (300 : Int) else ((ss[p]).size : Int)) = 300 := if_pos hbi
                      have hbj : (300 : Int) ≤ (ss[p]).size := by omega
                      have hbk : ¬ ((ss[p]).size < 300) := by omega
                    case' neg =>
                      have hcut : cutS ss[p] = ss[p] := by unfold cutS; rw [if_neg hbig]
                      rw [hcut] at HT
                      have hbi : ((ss[p]).size : Int) ≤ 300 := by omega
                      have hmin : (if (300 : Int) < ((ss[p]).size : Int) then (300 : Int) else ((ss[p]).size : Int)) = ((ss[p]).size : Int) := if_neg (by omega)
                    all_goals
                      clear hcut hcs
                      go_wp2_with fail
                      have hced := HasS.at (hc2.keep hSd.bl) p hi
                      go_region_held3 (fun w' => w'.cell? (a.add p) = some (.string ss[p])) (first | exact hced | exact hce5) (first
                        | (go_at_call 26; refine (HT.out _ hSd.rd).mono ?_; rintro e x5 ⟨rfl, hg5, hR5⟩; have hS5 := hSd.step hg5 hR5; have hce5 := HasS.at (hc2.keep hS5.bl) p hi))
                      all_goals
                        clear HT hSd
                        go_wp2_with fail
                        go_roundw
                        case rel => exact ⟨p + 1, by omega, by go_num, hpS2, hS5⟩
                        case measure => simp [intOf]; omega
                  · have hpj : p = j := by omega
                    subst hpj
                    have hSe : Hid ((enc1 zs q).length + (enc2 ss p).length = S.size) := HSZ.out.symm
                    rw [hSe.out] at hS
                    clear hSe HSZ hpS hqS
                    go_wp2_with fail
                    refine (failed_any _ _ _ _ _ hS.rd).mono ?_
                    rintro e x5 ⟨rfl, rfl⟩
                    go_wp2_with fail
                    refine (left_any _ _ _ _ _ hS.rd (by omega) (Nat.le_refl _)).mono ?_
                    rintro e x6 ⟨rfl, nq, hw⟩
                    replace hS : St w b S S.size false x6 := by subst hw; exact hS.drewN _
                    clear hw
                    go_wp2_with fail
                    refine (at_any _ _ _ _ _ hS.rd).mono ?_
                    rintro e x7 ⟨rfl, rfl⟩
                    go_wp2_with fail
                    go_ret
                    exact ⟨rfl, hS.bl⟩
end octetRoundTrip
end Go.Proofs.Ytcanmfkocbnbfaa
