/- General lemmas on a byte slice that the run-time made of a string, and on a reader's state during a law. -/
import Derived.Test.YtcanmfkocbnbfaaF
import Derived.BigQuiet
namespace Go.Proofs.Ytcanmfkocbnbfaa
open Go.RowKit

theorem bt {w w1 w2 : World} (h : Below w.heap.size w w1) (k : Below w1.heap.size w1 w2) : Below w.heap.size w w2 := h.trans (k.mono h.size)

/-- A reader at block b, made since w; below w's blocks nothing has turned. -/
def St (w : World) (b : Nat) (s : ByteArray) (p : Nat) (f : Bool) (x : World) : Prop := Rd 48 b s p f x ∧ w.heap.size ≤ b ∧ Below w.heap.size w x
theorem St.rd {w b s p f x} (h : St w b s p f x) : Rd 48 b s p f x := h.1
theorem St.bl {w b s p f x} (h : St w b s p f x) : Below w.heap.size w x := h.2.2
theorem lt_of_heap {w : World} {b : Nat} {o : Obj} (h : w.heap[b]? = some o) : b < w.heap.size := by
  rcases Nat.lt_or_ge b w.heap.size with h' | h'
  · exact h'
  · rw [Array.getElem?_eq_none h'] at h; simp at h
theorem Rd.keep {T b s p f} {w w1 : World} (h : Rd T b s p f w) (hb : Below w.heap.size w w1) : Rd T b s p f w1 := by
  have hl := lt_of_heap h
  unfold Rd at h ⊢
  rw [hb.block _ hl]; exact h
theorem St.keep {w b s p f x y} (h : St w b s p f x) (hb : Below x.heap.size x y) : St w b s p f y := ⟨h.1.keep hb, h.2.1, bt h.2.2 hb⟩
theorem St.alloc {w b s p f x} (h : St w b s p f x) (o : Obj) : St w b s p f (x.alloc o) := h.keep ((Below.refl _ _).alloc (Nat.le_refl _) o)
theorem St.drew {w b s p f x} (h : St w b s p f x) : St w b s p f x.drew := h.keep ((Below.refl _ _).drew)
theorem St.step {w b s p f q g x y} (h : St w b s p f x) (hg : x.grownBy y (some b)) (hr : Rd 48 b s q g y) : St w b s q g y :=
  ⟨hr, h.2.1, h.2.2.grown hg h.2.2.size (fun k hk => by simp at hk; have := h.2.1; omega)⟩
theorem St.read {w x : World} (hb : Below w.heap.size w x) (s : ByteArray) : St w x.heap.size s 0 false (x.alloc (.cells #[.string s, .int .i64 0, .bool false] 48)) :=
  ⟨heap_alloc_new _ _, hb.size, hb.alloc hb.size _⟩

/-- The cells of l lie in block g from its head on. -/
def Lie (g : Nat) (l : List UInt8) (w : World) : Prop := ∀ j (h : j < l.length), w.cell? ⟨g, j, none⟩ = some (.int .u8 (l[j].toNat : Int))

theorem bytes_lie (x : World) (s : ByteArray) (cap : Nat) (fr : Nat × Nat) : Lie x.heap.size s.data.toList (x.alloc (.cells (bytesRow s cap) 5 fr)) := by
  intro j hj
  rw [World.cell?_alloc_mark, bytesRow_at s cap j (by simpa using hj)]
  rfl
theorem bytesRow_size (s : ByteArray) (cap : Nat) (h : s.size ≤ cap) : (bytesRow s cap).size = cap := by
  unfold bytesRow
  rw [Array.size_append, Array.size_map, Array.size_replicate]
  show s.size + _ = _
  omega
theorem bytes_free (x : World) (s : ByteArray) (cap j : Nat) (h : s.size ≤ cap) (hj : j < cap) :
    (x.alloc (.cells (bytesRow s cap) 5 ((bytesRow s cap).size, (bytesRow s cap).size + 1))).frozen? ⟨x.heap.size, j, none⟩ = false := by
  rw [World.frozen?_alloc_mark, bytesRow_size s cap h]
  simp; omega
theorem bytes_some (x : World) (s : ByteArray) (cap j : Nat) (fr : Nat × Nat) (h : s.size ≤ cap) (hj : j < cap) :
    ((x.alloc (.cells (bytesRow s cap) 5 fr)).cell? ⟨x.heap.size, j, none⟩).isSome = true := by
  rw [World.cell?_alloc_mark, Array.getElem?_eq_getElem (by rw [bytesRow_size s cap h]; exact hj)]; rfl

theorem Lie.set {g : Nat} {l : List UInt8} {w : World} (h : Lie g l w) (i : Nat) (hi : i < l.length) (b : UInt8) : Lie g (l.set i b) (w.setCell ⟨g, i, none⟩ (.int .u8 (b.toNat : Int))) := by
  intro j hj
  have hj' : j < l.length := by simpa using hj
  by_cases e : i = j
  · subst e
    rw [World.cell?_setCell_same _ _ _ (h i hi)]
    simp
  · rw [World.cell?_setCell_other _ _ _ _ (by intro e2; injection e2 with _ e3 _; exact e e3), h j hj', List.getElem_set_ne e]
theorem Lie.conv {g : Nat} {l : List UInt8} {w : World} (h : Lie g l w) (cap : Nat) : (convert 35 9 (.slice (some ⟨g, 0, none⟩) l.length cap)).run Try.prog w = .ok (.string ⟨l.toArray⟩) w := by
  refine run_convert_bytes_back (P := Try.prog) w 35 9 5 _ cap l Try.underlying35 Try.underlying5 Try.underlying9 fun j hj => ?_
  have : (⟨g, 0, none⟩ : Addr).add j = ⟨g, j, none⟩ := by unfold Addr.add; split <;> simp_all
  rw [this]; exact h j hj
theorem Lie.snoc {g : Nat} {l : List UInt8} {w : World} (h : Lie g l w) (b : UInt8) (hs : (w.cell? ⟨g, l.length, none⟩).isSome = true) : Lie g (l ++ [b]) (w.setCell ⟨g, l.length, none⟩ (.int .u8 (b.toNat : Int))) := by
  intro j hj
  by_cases e : j = l.length
  · subst e
    obtain ⟨u, hu⟩ := Option.isSome_iff_exists.1 hs
    rw [World.cell?_setCell_same _ _ _ hu]
    simp
  · have hj' : j < l.length := by simp at hj; omega
    rw [World.cell?_setCell_other _ _ _ _ (by intro e2; exact e (by simpa using e2.symm)), h j hj', List.getElem_append_left hj']
theorem Lie.alloc {g : Nat} {l : List UInt8} {w : World} (h : Lie g l w) (o : Obj) (hg : g < w.heap.size) : Lie g l (w.alloc o) := by
  intro j hj
  have hb := (Below.refl w.heap.size w).alloc (Nat.le_refl _) o
  rw [hb.cell (p := ⟨g, j, none⟩) hg]; exact h j hj
theorem Lie.vals {g : Nat} {l : List UInt8} {w : World} (h : Lie g l w) : ∀ j u, (bvals l)[j]? = some u → w.cell? ⟨g, 0 + j, none⟩ = some u := by
  intro j u hu
  have hj : j < l.length := by have := (List.getElem?_eq_some_iff.1 hu).1; simpa [bvals] using this
  rw [Nat.zero_add, h j hj]
  simp [bvals, List.getElem?_eq_getElem hj] at hu
  rw [hu]
/-- '[]byte(s)': what it leaves. -/
theorem conv_bytes (x : World) (s : ByteArray) : ∃ W cap, (convert 9 35 (.string s)).run Try.prog x = .ok (.slice (some ⟨x.heap.size, 0, none⟩) s.size cap) W ∧ s.size ≤ cap ∧ Lie x.heap.size s.data.toList W ∧
    (∀ j, j < cap → W.frozen? ⟨x.heap.size, j, none⟩ = false ∧ (W.cell? ⟨x.heap.size, j, none⟩).isSome = true) ∧ Below x.heap.size x W ∧ x.heap.size < W.heap.size := by
  have hg := grownCap_ge x s.size 0 5
  refine ⟨_, _, run_bytes_of_string (P := Try.prog) x 9 35 5 s Try.underlying9 Try.underlying35 Try.underlying5, hg, bytes_lie x.drew s _ _, fun j hj => ⟨bytes_free x.drew s _ j hg hj, bytes_some x.drew s _ j _ hg hj⟩, ?_, ?_⟩
  · exact ((Below.refl _ _).drew).alloc (Nat.le_refl _) _
  · rw [World.size_alloc]; exact Nat.lt_succ_self _
/-- 'append(v, b)' of one byte, v a byte slice of the call's own that the run-time made (its spare cells free). -/
theorem wp_push_lie {ops : Array Oper} {rest : List Oper} {o : Oper} {a : Act} {Q : Exit → Act → World → Prop} (w : World) (hgd : o.guard = none) (s x : Operand)
    (ho : o.op = .call { callee := .builtin .append, args := #[s, x], argTypes := #[35, 35] })
    (B g n cap : Nat) (l : List UInt8) (b : UInt8) (hs : a.eval s = .slice (some ⟨g, 0, none⟩) n cap) (hn : l.length = n) (hl : Lie g l w) (hfree : ∀ j, j < cap → w.frozen? ⟨g, j, none⟩ = false ∧ (w.cell? ⟨g, j, none⟩).isSome = true)
    (u : Int) (hu : u = (b.toNat : Int)) (fr : Nat × Nat) (gx : Nat) (hgx : gx = w.heap.size) (hx : a.eval x = .slice (some ⟨gx, 0, none⟩) 1 1) (hlen : n + 1 ≤ 140737488355328) (hB : B ≤ g) (hg : g < w.heap.size)
    (h : ∀ v' w', (convert 35 9 v').run Try.prog w' = .ok (.string ⟨(l ++ [b]).toArray⟩) w' → Below B w w' → wpList Try.prog ops Q rest (a.put o.dst v') w') :
    wpList Try.prog ops Q (o :: rest) a (w.alloc (.cells #[.int .u8 u] 5 fr)) := by
  subst hu hn hgx
  obtain ⟨i0, hi, hz0, hz1, hz2⟩ := info_parts Try.info5
  have hal : Below w.heap.size w (w.alloc (.cells #[.int .u8 (b.toNat : Int)] 5 fr)) := (Below.refl _ _).alloc (Nat.le_refl _) _
  have hla : Lie g l (w.alloc (.cells #[.int .u8 (b.toNat : Int)] 5 fr)) := hl.alloc _ hg
  refine wpList_append_arg _ hgd s x 35 ho 5 i0 (.int .u8 0) 1 1 Try.underlying35 hi hz0 hz1 hz2 rfl (by decide) g 0 l.length cap (bvals l) hs (by rw [bvals_length]; omega) hla.vals ⟨w.heap.size, 0, none⟩ 1 1 [.int .u8 (b.toNat : Int)] hx rfl ?_ ?_ ?_ (by unfold maxLen; omega) (by omega) ?_ ?_
  · intro j u' hj
    match j, hj with
    | 0, hj =>
      simp at hj
      subst hj
      have : (⟨w.heap.size, 0, none⟩ : Addr).add 0 = ⟨w.heap.size, 0, none⟩ := by unfold Addr.add; split <;> simp_all
      rw [this, World.cell?_alloc_mark]; rfl
  · intro u' h'
    simp at h'
    subst h'; rfl
  · intro hroom j hj
    have hj0 : j = 0 := by simpa using hj
    subst hj0
    have e : 0 + l.length * 1 + 0 = l.length := by omega
    rw [e, hal.cell (p := ⟨g, l.length, none⟩) hg, hal.frozen (p := ⟨g, l.length, none⟩) hg]
    have := hfree l.length (by omega)
    exact ⟨this.2, this.1⟩
  · intro hroom
    have e : 0 + l.length * 1 = l.length := by omega
    rw [e]
    have hsm : ((w.alloc (.cells #[.int .u8 (b.toNat : Int)] 5 fr)).cell? ⟨g, l.length, none⟩).isSome = true := by
      rw [hal.cell (p := ⟨g, l.length, none⟩) hg]; exact (hfree l.length (by omega)).2
    have hl2 := (hla.snoc b hsm).conv cap
    rw [List.length_append] at hl2
    exact h _ _ hl2 (((hal.mono (by omega)).trans ((Below.refl _ _).setCell (p := ⟨g, l.length, none⟩) hB _)))
  · intro _ v' w' hown hgr
    have hown2 := vown hown rfl rfl
    exact h _ _ (conv_own (P := Try.prog) w' 35 9 5 Try.underlying35 Try.underlying5 Try.underlying9 _ _ _ _ hown2)
      ((hal.mono (by omega)).grown hgr (by rw [World.size_alloc]; omega) (fun k hk => by simp at hk))
theorem grownCap_ge' (w : World) (n old : Nat) (e : TypeId) : n ≤ grownCap w n old e := grownCap_ge w n old e
section
variable {P : Program} {ops : Array Oper} {C : World → Prop} {Q : Act → Prop} {rest : List Oper} {o : Oper} {a : Act}
theorem q_val {K : Act → Prop} (h : ∃ v, (∀ x, C x → (execOp a.eval o).run P x = .ok (.value v) x) ∧ K (a.put o.dst v)) : o.quiet P a C K := by
  obtain ⟨v, h, k⟩ := h
  exact ⟨v, fun x hx => by unfold Oper.quietAt; rw [h x hx]; exact ⟨rfl, rfl⟩, k⟩
theorem q_call {K : Act → Prop} (f : FuncId) (h : ∃ args, (∀ x, C x → (execOp a.eval o).run P x = .ok (.enter f args) x) ∧
    ∃ v, (∀ x, C x → Calls P f args x fun e x' => e = .returned v ∧ C x') ∧ K (a.put o.dst v)) : o.quiet P a C K := by
  obtain ⟨args, h, v, hc, k⟩ := h
  exact ⟨v, fun x hx => by unfold Oper.quietAt; rw [h x hx]; exact ⟨rfl, hc x hx⟩, k⟩
theorem q_region {id : Nat} {Q : Exit → Act → World → Prop} {a : Act} {w : World} {l : List Oper} (hm : P.follows .mixedOrders = true) (hB : Region.lexB .any l.toArray = true) (hC : C w.drew)
    (h : wpQuiet P l.toArray C (fun a' => ∀ w', C w' → Q .normal a' w') l a) : (Code.region id l.toArray true).wp P Q a w :=
  wp_region_quiet hm hB hC (by simpa using h)
end
end Go.Proofs.Ytcanmfkocbnbfaa
