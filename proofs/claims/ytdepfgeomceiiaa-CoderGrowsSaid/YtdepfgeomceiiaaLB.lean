/- CoderPrefix: the walk. -/
import Derived.Test.YtdepfgeomceiiaaLA
set_option linter.unusedVariables false
namespace Go.Proofs.Ytdepfgeomceiiaa
open Go.RowKit
theorem enc_app (f g : ByteArray) : (⟨(M.enc f.data.toList).toArray⟩ : ByteArray).size ≤ (⟨(M.enc (f ++ g).data.toList).toArray⟩ : ByteArray).size ∧ 4 ≤ (⟨(M.enc f.data.toList).toArray⟩ : ByteArray).size ∧
    (⟨(M.enc (f ++ g).data.toList).toArray⟩ : ByteArray).extract 0 ((⟨(M.enc f.data.toList).toArray⟩ : ByteArray).size - 4) = (⟨(M.enc f.data.toList).toArray⟩ : ByteArray).extract 0 ((⟨(M.enc f.data.toList).toArray⟩ : ByteArray).size - 4) := by
  have h := M.enc_pre f.data.toList g.data.toList
  have e : (f ++ g).data.toList = f.data.toList ++ g.data.toList := by simp [ByteArray.data_append]
  rw [e]
  have h1 : ∀ l : List UInt8, (⟨l.toArray⟩ : ByteArray).size = l.length := fun l => by show l.toArray.size = _; simp
  rw [h1, h1]
  refine ⟨h.1, M.enc_len _, ?_⟩
  apply ByteArray.ext
  apply Array.toList_inj.1
  have h2 := h.2
  simpa using h2
theorem run_sl {o : Oper} {ρ : Operand → Value} {x : World} {y z : Operand} (a : ByteArray) (n : Nat) (h : n ≤ a.size) (hl : a.size ≤ 9223372036854775807) (ho : o.op = .slice 9 y none (some z) none) (hy : ρ y = .string a) (hz : ρ z = .int .i64 (n : Int)) : (execOp ρ o).run Try.prog x = .ok (.value (.string (a.extract 0 n))) x := by
  have h1 : ¬ (n : Int) > a.size := by omega
  have h2 : (n : Int) ≤ a.size := by omega
  have h3 : ¬ (n : Int) < 0 := by omega
  unfold execOp; rw [ho]; simp only [hy]
  go_simp
namespace coderPrefix
set_option maxRecDepth 100000 in
set_option maxHeartbeats 2000000 in
theorem walk (f g : ByteArray) (w : World) (hf : f.size ≤ 140737488351232) (hg : g.size ≤ 140737488351232) :
    Calls Try.prog 11 #[.string f, .string g] w fun e w' => e = .returned (.bool true) ∧ Below w.heap.size w w' := by
  go_enter Try.func11, Try.ntmps11
  go_wp2_with fail
  refine (sanity_any w).mono ?_
  rintro e x ⟨rfl, g1⟩
  have H1 := Lib.hid (some_any f 200 x (by omega) (by omega))
  rw [show ((200 : Nat) : Int) = 200 from rfl] at H1
  replace g1 := Lib.hid g1
  go_wp2_with fail
  refine H1.out.mono ?_
  rintro e y ⟨rfl, g2⟩
  have hs : (f.extract 0 (min f.size 200)).size ≤ 200 := by rw [ext_size]; omega
  generalize f.extract 0 (min f.size 200) = F at *
  replace g1 := Lib.hid (Below.trans (B := w.heap.size) g1.out (Below.mono g2 g1.out.size))
  have H2 := Lib.hid (some_any g 200 y (by omega) (by omega))
  rw [show ((200 : Nat) : Int) = 200 from rfl] at H2
  clear g2 H1
  go_wp2_with fail
  refine H2.out.mono ?_
  rintro e z ⟨rfl, g2⟩
  have hs2 : (g.extract 0 (min g.size 200)).size ≤ 200 := by rw [ext_size]; omega
  generalize g.extract 0 (min g.size 200) = G at *
  replace g1 := Lib.hid (Below.trans (B := w.heap.size) g1.out (Below.mono g2 g1.out.size))
  have HE := Lib.hid (fun x => encode_any F x (by omega))
  have hfg : (F ++ G).size = F.size + G.size := ByteArray.size_append
  have HE2 := Lib.hid (fun x => encode_any (F ++ G) x (by omega))
  obtain ⟨p1, p2, p3⟩ := enc_app F G
  have p4 := M.enc_bd F.data.toList
  have p5 := M.enc_bd (F ++ G).data.toList
  rw [toList_len] at p4 p5
  have hsz : (⟨(M.enc F.data.toList).toArray⟩ : ByteArray).size = (M.enc F.data.toList).length := by show (M.enc F.data.toList).toArray.size = _; simp
  have hsz2 : (⟨(M.enc (F ++ G).data.toList).toArray⟩ : ByteArray).size = (M.enc (F ++ G).data.toList).length := by show (M.enc (F ++ G).data.toList).toArray.size = _; simp
  rw [← hsz] at p4
  rw [← hsz2] at p5
  have p6 : (⟨(M.enc F.data.toList).toArray⟩ : ByteArray).size ≤ 100000 := by omega
  have p7 : (⟨(M.enc (F ++ G).data.toList).toArray⟩ : ByteArray).size ≤ 100000 := by omega
  clear p4 p5 hsz hsz2 g2 H2
  generalize (⟨(M.enc F.data.toList).toArray⟩ : ByteArray) = a at *
  generalize (⟨(M.enc (F ++ G).data.toList).toArray⟩ : ByteArray) = b at *
  go_wp2_with fail
  refine (HE.out z).mono ?_
  rintro e u ⟨rfl, g2⟩
  replace g1 := Lib.hid (Below.trans (B := w.heap.size) g1.out (Below.mono g2 g1.out.size))
  clear g2
  have hfs : F.size + G.size ≤ 1000000 := by omega
  go_wp2_with fail
  refine (HE2.out u).mono ?_
  rintro e v ⟨rfl, g2⟩
  replace g1 := Lib.hid (Below.trans (B := w.heap.size) g1.out (Below.mono g2 g1.out.size))
  clear g2 HE2 hfs hfg
  obtain ⟨n, hn⟩ : ∃ n, a.size = n + 4 := ⟨a.size - 4, by omega⟩
  have hna : (a.size : Int) - 4 = (n : Int) := by omega
  have hn2 : a.size - 4 = n := by omega
  rw [hn2] at p3
  go_upto_region 7 with fail
  clear hna
  have q1 : decide ((n : Int) + 4 ≤ (b.size : Int)) = true := decide_eq_true (by omega)
  have q2 : (n : Int) ≥ 0 := by omega
  have q3 : n ≤ a.size := by omega
  have q4 : n ≤ b.size := by omega
  have q5 : (b.size : Int) ≤ 100000 := by omega
  have q6 : (a.extract 0 n).toList = (b.extract 0 n).toList := by rw [p3]
  refine q_region (C := fun x => Grow v x) (by kernel_rfl) (by kernel_rfl) (Grow.drew _) ?_
  repeat (first
    | go_big_quiet_skip
    | (go_big_quiet_want; refine q_val ?_; apply Exists.intro; refine ⟨fun x hx => ?_, ?_⟩; (focus (replace hx : Grow v x := hx; first | exact run_sl a n q3 (by omega) rfl rfl rfl | exact run_sl b n q4 (by omega) rfl rfl rfl | (go_simp <;> rfl))); simp only [Act.put, List.setIfInBounds_toArray, List.set_cons_zero, List.set_cons_succ]; go_big_quiet_on)
    | (go_big_quiet_want; refine q_call 15 ?_; apply Exists.intro; refine ⟨fun x hx => ?_, ?_⟩; (focus (go_simp <;> rfl)); apply Exists.intro; refine ⟨fun x hx => ?_, ?_⟩; (focus (exact (HE.out _).mono fun e w' h => ⟨h.1, Grow.trans hx h.2⟩)); simp only [Act.put, List.setIfInBounds_toArray, List.set_cons_zero, List.set_cons_succ]; go_big_quiet_on))
  refine wpQuiet_nil ?_
  rintro y hy
  replace hy : Grow v y := hy
  go_wp2
  go_ret
  exact ⟨rfl, g1.out.trans (Below.mono hy g1.out.size)⟩
end coderPrefix
end Go.Proofs.Ytdepfgeomceiiaa
