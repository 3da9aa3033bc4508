/- Walks of layer 3 (rect): the law's collection of the first n tiles. -/
import Derived.Maps.AppendAt
import Derived.Test.YtplnhmfkflnhpaaX2
set_option linter.unusedVariables false
namespace Go.Proofs.Ytplnhmfkflnhpaa
open Go.RowKit Go.Shelf
attribute [local go_sem] Oper.semAt_some
theorem wpListIn_append_own_at {F : Fence} {n : Nat} {P : Program} (w : World) {ops : Array Oper} {rest : List Oper} {o : Oper} {a : Act} {Q : Exit → Act → World → Prop}
    (hg : o.guard = none) (s x : Operand) (t : TypeId) (hop : o.op = Op.call { callee := Callee.builtin Builtin.append, args := #[s, x], argTypes := #[t, t] })
    (base : Nat) (e : TypeId) (i : TypeInfo) (z : Value) (size bytes : Nat) (h1 : P.underlying t = some (.slice e)) (h2 : P.info? e = some i) (h3 : i.zero = some z) (h4 : i.size = size) (h5 : i.bytes = bytes) (h6 : z.cells.size = size) (h7 : 0 < size)
    (v : Value) (k : Nat) (xs : List Value) (hs : a.eval s = v) (hown : w.ownsRow base e size v k xs) (ad : Addr) (m c : Nat) (news : List Value) (hx : a.eval x = .slice (some ad) m c) (hn : news.length = m * size)
    (hc : ∀ j u, news[j]? = some u → w.cell? (ad.add j) = some u) (h1c : ∀ u ∈ news, u.oneCell' = true) (b1 : k + m ≤ maxLen) (b2 : (k + m) * bytes ≤ 140737488355328) (b3 : base ≤ w.heap.size)
    (hK : ∀ v' w', w'.ownsRow base e size v' (k + m) (xs ++ news) → w.grownBy w' v.ownBlock → (v'.ownBlock = v.ownBlock ∨ v'.ownBlock = some w.heap.size) → wpListIn F n P ops Q rest (a.put o.dst v') w') :
    wpListIn F n P ops Q (o :: rest) a w := by
  refine wpListIn_plain hg fun K hK' => ?_
  obtain ⟨v', w', hrun, r1, r2, r3, r4⟩ := run_append_own_at (P := P) w base t o.type e i z size bytes h1 h2 h3 h4 h5 h6 h7 v k xs hown ad m c news hn hc h1c b1 b2 b3
  unfold Oper.wpIn
  refine ⟨?_, ?_⟩
  · simp [Oper.about, hop, resolve, Target.leads, Sem.run_pure]
  · rw [Oper.semAt_plain F _ _ (by rw [hop]; intro c hc'; cases hc')]
    simp [execOp, hop, resolve, invoke, builtin, hs, hx, hrun, Result.andThen]
    exact hK' _ _ (hK v' w' r1 r2 r4)
def tcl (x : Int × Int) : List Value := [.int .i64 x.1, .int .i64 x.2]
def tcs (l : List (Int × Int)) : List Value := l.flatMap tcl
theorem tcs_snoc (l : List (Int × Int)) (x : Int × Int) : tcs (l ++ [x]) = tcs l ++ tcl x := by simp [tcs]
theorem infoT : (Try.prog.info? 31).map (fun i => (i.zero, i.size, i.bytes)) = some (some (.agg #[.int .i64 0, .int .i64 0]), 2, 16) := by kernel_rfl
theorem tcl_new (w : World) (x : Int × Int) (t : TypeId) (n : Nat) (hn : w.heap.size = n) : ∀ j u, (tcl x)[j]? = some u → (w.alloc (.cells #[.int .i64 x.1, .int .i64 x.2] t)).cell? ((⟨n, 0, none⟩ : Addr).add j) = some u := by
  subst hn
  intro j u hj
  have : (⟨w.heap.size, 0, none⟩ : Addr).add j = ⟨w.heap.size, j, none⟩ := by unfold Addr.add; split <;> simp_all
  rw [this]
  match j, hj with
  | 0, hj => simpa [tcl] using hj
  | 1, hj => simpa [tcl] using hj
  | j + 2, hj => simp [tcl] at hj
theorem tcl_one (x : Int × Int) : ∀ u ∈ tcl x, u.oneCell' = true := by
  intro u h
  simp [tcl] at h
  rcases h with rfl | rfl <;> rfl
theorem own_boxed {W : World} {B : Nat} {t : TypeId} {v : Value} (h : Boxed W B t v) : own B W = v.ownBlock := by unfold own; rw [h.cell]; rfl
theorem Gro.alloc (BO : Nat) (W : World) (o : Obj) (h : BO < W.heap.size) : Gro BO W (W.alloc o) :=
  ⟨by simp, fun k o' hk _ _ _ => (Below.heap_alloc W o k (Array.getElem?_eq_some_iff.1 hk).1).trans hk, .inl (by unfold own; rw [World.cell?_of_block (a := ⟨BO, 0, none⟩) (Below.heap_alloc W o BO h)])⟩
theorem Gro.appended {BO : Nat} {W w1 : World} {t : TypeId} {v v' : Value} {tmp : Obj} (hv : Boxed W BO t v) (hgrow : (W.alloc tmp).grownBy w1 v.ownBlock) (hat : v'.ownBlock = v.ownBlock ∨ v'.ownBlock = some (W.alloc tmp).heap.size)
    (hv2 : Boxed (w1.setCell ⟨BO, 0, none⟩ v') BO t v') : Gro BO W (w1.setCell ⟨BO, 0, none⟩ v') := by
  have hs : W.heap.size + 1 ≤ w1.heap.size := by have := hgrow.size; simpa using this
  have hs2 : w1.heap.size ≤ (w1.setCell ⟨BO, 0, none⟩ v').heap.size := (grownBy_setCell' w1 BO v').size
  refine ⟨by omega, fun k o hk _ hne hown => ?_, ?_⟩
  · rw [own_boxed hv] at hown
    have hlt := (Array.getElem?_eq_some_iff.1 hk).1
    have e1 := (Below.heap_alloc W tmp k hlt).trans hk
    have e2 := (hgrow.block k (by simp; omega) (fun e => hown e.symm)).trans e1
    exact ((grownBy_setCell' w1 BO v').block k (by omega) (by simpa using hne)).trans e2
  · rw [own_boxed hv2, own_boxed hv]
    rcases hat with h | h
    · exact .inl h
    · exact .inr fun g hg => by rw [h] at hg; simp at hg; omega
set_option maxRecDepth 100000 in
set_option maxHeartbeats 4000000 in
theorem tiles_any (r : R) (nn : Nat) (hnn : nn ≤ 1000) (hok : Okr r) (w : World) :
    Calls Try.prog 20 #[.agg #[.int .i64 r.x0, .int .i64 r.y0, .int .i64 r.x1, .int .i64 r.y1], .int .i64 (nn : Int)] w fun e W' =>
    ∃ v, e = .returned v ∧ W'.ownsRow w.heap.size 31 2 v ((tilesL r).take nn).length (tcs ((tilesL r).take nn)) ∧ Below w.heap.size w W' := by
  obtain ⟨i0, hi, hz0, hz1, hz2⟩ := info_parts infoT
  have hf := eql62
  refine (callsIn_wide (n := 6)).1 ?_
  refine callsIn_of_wp_marks Try.func20 rfl trivial ?_ rfl
  simp only [Try.ntmps20, List.size_toArray, List.length_cons, List.length_nil, Nat.reduceAdd, Nat.reduceSub, Array.replicate_succ, Array.replicate_zero, List.push_toArray, List.append_toArray, List.nil_append, List.cons_append]
  gi_wp2_with (refine ⟨trivial, ?_⟩; gi_at_call 44; refine (Tiles_in Fence.wide _ trivial rfl r _).mono ?_; rintro e w1 ⟨rfl, rfl⟩)
  have bO := (Boxed.new ((w.alloc (.cells #[.int .i64 r.x0, .int .i64 r.y0, .int .i64 r.x1, .int .i64 r.y1] 26)).alloc (.cells #[.int .i64 (nn : Int)] 3)) 28 (.slice none 0 0)).alloc (.cells #[.int .i64 r.x0, .int .i64 r.y0, .int .i64 r.x1, .int .i64 r.y1] 26)
  have bN := ((Boxed.new (w.alloc (.cells #[.int .i64 r.x0, .int .i64 r.y0, .int .i64 r.x1, .int .i64 r.y1] 26)) 3 (.int .i64 (nn : Int))).alloc (.cells #[.slice none 0 0] 28)).alloc (.cells #[.int .i64 r.x0, .int .i64 r.y0, .int .i64 r.x1, .int .i64 r.y1] 26)
  have b1 := BoxR.new (((w.alloc (.cells #[.int .i64 r.x0, .int .i64 r.y0, .int .i64 r.x1, .int .i64 r.y1] 26)).alloc (.cells #[.int .i64 (nn : Int)] 3)).alloc (.cells #[.slice none 0 0] 28)) r
  simp only [World.size_alloc] at b1 bN bO
  have hB0 := ball4 w (.cells #[.int .i64 r.x0, .int .i64 r.y0, .int .i64 r.x1, .int .i64 r.y1] 26) (.cells #[.int .i64 (nn : Int)] 3) (.cells #[.slice none 0 0] 28) (.cells #[.int .i64 r.x0, .int .i64 r.y0, .int .i64 r.x1, .int .i64 r.y1] 26)
  have hsz : ((((w.alloc (.cells #[.int .i64 r.x0, .int .i64 r.y0, .int .i64 r.x1, .int .i64 r.y1] 26)).alloc (.cells #[.int .i64 (nn : Int)] 3)).alloc (.cells #[.slice none 0 0] 28)).alloc (.cells #[.int .i64 r.x0, .int .i64 r.y0, .int .i64 r.x1, .int .i64 r.y1] 26)).heap.size = w.heap.size + 4 := by simp
  obtain ⟨W0, hW0⟩ : ∃ W0, (((w.alloc (.cells #[.int .i64 r.x0, .int .i64 r.y0, .int .i64 r.x1, .int .i64 r.y1] 26)).alloc (.cells #[.int .i64 (nn : Int)] 3)).alloc (.cells #[.slice none 0 0] 28)).alloc (.cells #[.int .i64 r.x0, .int .i64 r.y0, .int .i64 r.x1, .int .i64 r.y1] 26) = W0 := ⟨_, rfl⟩
  rw [hW0] at b1 bN bO hB0 hsz ⊢
  clear hW0
  have hwle := hB0.size
  have hO : own (w.heap.size + 1 + 1) W0 = none := by rw [own_boxed bO]; rfl
  refine wpIn_rangeFunc_ownH rfl (by omega) (gf := 61) (lb := #[.pointer (some ⟨w.heap.size + 1 + 1 + 1, 0, none⟩)]) rfl trivial (enters_of Try.func61 (by kernel_rfl) rfl)
    (tiles_stops _ (by omega) (w.heap.size + 1 + 1 + 1) (w.heap.size + 1 + 1) r hok W0 b1 (by omega) hO) (fun h k => h.trans k) (fun W l o o' hl ho hc hw => Gro.put (B0 := W0.heap.size) (by omega) W l o o' hl ho hc) (Below.refl _ _) (fun _ => rfl)
    (fun pre W => (((∃ v, Boxed W (w.heap.size + 1 + 1) 28 v ∧ W.ownsRow W0.heap.size 31 2 v pre.length (tcs pre) ∧ True) ∧ Boxed W (w.heap.size + 1) 3 (.int .i64 (nn : Int))) ∧ Below w.heap.size w W) ∧ pre.length ≤ nn)
    (fun c pre' W => c = .exit 0 ∧ ∃ pre x, pre' = pre ++ [x] ∧ pre.length = nn ∧ ((∃ v, Boxed W (w.heap.size + 1 + 1) 28 v ∧ W.ownsRow W0.heap.size 31 2 v pre.length (tcs pre) ∧ True) ∧ Below w.heap.size w W))
    (OwnFrom.and (OwnFrom.and (OwnFrom.and (Own.from (holdsRow_own W0.heap.size _ 28 31 2 (fun pre => pre.length) (fun pre => tcs pre) (fun _ _ => True)) _) (Own.from (boxed_own _ _ _) _)) (ownFrom_below (Nat.le_refl _) (by omega))) (ownFrom_pure _ _))
    (fun c => fun s X Y row hs hg hr => by
      obtain ⟨hc, pre, x, h1, h2, h3, h4⟩ := hs
      exact ⟨hc, pre, x, h1, h2, holdsRow_own W0.heap.size _ 28 31 2 (fun pre => pre.length) (fun pre => tcs pre) (fun _ _ => True) pre X Y row h3 hg (fun r e => (hr r e).2), ownFrom_below (β := Unit) (Nat.le_refl _) (by omega) () X Y row h4 hg hr⟩)
    ⟨⟨⟨⟨_, bO, World.ownsRow_nil _ _ _ _, trivial⟩, bN⟩, hB0⟩, by simp⟩
    (fun x a' W => ∃ Bx, W.heap[Bx]? = some (.cells #[.int .i64 x.1, .int .i64 x.2] 31 (0, 0)) ∧ a' = { tmps := #[.agg #[.int .i64 r.x0, .int .i64 r.y0, .int .i64 r.x1, .int .i64 r.y1], .int .i64 (nn : Int), .pointer (some ⟨w.heap.size, 0, none⟩), .pointer (some ⟨w.heap.size + 1, 0, none⟩), .slice none 0 0, .pointer (some ⟨w.heap.size + 1 + 1, 0, none⟩), .func (.func 61) #[] #[.pointer (some ⟨w.heap.size + 1 + 1 + 1, 0, none⟩)], .pointer (some ⟨Bx, 0, none⟩), .agg #[.int .i64 r.x0, .int .i64 r.y0, .int .i64 r.x1, .int .i64 r.y1], .func (.func 61) #[] #[.pointer (some ⟨w.heap.size + 1 + 1 + 1, 0, none⟩)], .func (.func 61) #[] #[.pointer (some ⟨w.heap.size + 1 + 1 + 1, 0, none⟩)], .bool false, undef, undef, .func (.func 61) #[] #[.pointer (some ⟨w.heap.size + 1 + 1 + 1, 0, none⟩)], .agg #[.int .i64 x.1, .int .i64 x.2], undef, undef, undef, undef, undef, undef, undef, undef, undef], defers := [] })
    (fun x a' _ X Y row hs hg hr => by
      obtain ⟨Bx, h1, h3⟩ := hs
      refine ⟨Bx, (hg.block Bx (Array.getElem?_eq_some_iff.1 h1).1 (fun e => ?_)).trans h1, h3⟩
      obtain ⟨_, o, ho, hc⟩ := hr Bx e.symm
      rw [h1] at ho; cases ho; cases hc)
    ?assign ?body ?done ?stop
  case assign =>
    rintro l pre x W K ⟨⟨⟨⟨v, hv, hrow, _⟩, hn⟩, hB1⟩, hlen⟩ hK
    gi_wp2
    exact hK _ _ ((KeepsOthers.alloc _ _).from _) (Gro.alloc _ _ _ hv.lt) ⟨⟨⟨⟨v, hv.alloc _, hrow.alloc _, trivial⟩, hn.alloc _⟩, hB1.alloc hB1.size _⟩, hlen⟩ ⟨W.heap.size, World.alloc_heap_new W _, rfl⟩
  case body =>
    rintro l pre x a' W hl ⟨rr, hrr⟩ ⟨⟨⟨⟨v, hv, hrow, _⟩, hn⟩, hB1⟩, hlen⟩ ⟨Bx, bX, rfl⟩ hlt
    have hWW : W0.heap.size ≤ W.heap.size := by have := (Array.getElem?_eq_some_iff.1 hrr).1; omega
    have x0 : W.cell? ⟨Bx, 0, none⟩ = some (.int .i64 x.1) := by simp [World.cell?, bX]
    have x1 : W.cell? ⟨Bx, 1, none⟩ = some (.int .i64 x.2) := by simp [World.cell?, bX]
    have hc := hv.cell
    have hcn := hn.cell
    have hgap : 31 ≠ 3 := by decide
    have hz : v = .slice none 0 0 → pre.length = 0 := by
      intro hv0
      rcases hrow.2 with ⟨_, hz⟩ | ⟨g, cap, cur, e, _, _⟩
      · exact hz
      · rw [hv0] at e; cases e
    rcases hrow.2 with ⟨rfl, -⟩ | ⟨g, cap, cur, rfl, _, _⟩
    all_goals
      by_cases hk : pre.length < nn
      · have hk' : (pre.length : Int) < (nn : Int) := by omega
        have hk0 : (0 : Int) < (nn : Int) := by omega
        clear hz
        gi_wp2_with (gi_at_builtin; refine wpListIn_append_own_at _ rfl _ _ 28 rfl W0.heap.size 31 i0 _ 2 16 Try.underlying28 hi hz0 hz1 hz2 rfl (by decide) _ _ _ rfl (hrow.alloc _) ⟨W.heap.size, 0, none⟩ 1 1 (tcl x) rfl rfl (tcl_new _ x _ _ rfl) (tcl_one x) (by simp [maxLen]; omega) (by omega) (by simp; omega) ?_; intro v' w5 hown' hgrow hat; obtain ⟨g', cap', rfl⟩ := ownsRow_succ hown'; obtain ⟨hv1, hv2, _, hk2, hb2⟩ := hv.appended (by decide) (row_mono hrow (b' := w.heap.size) (by omega)) (by omega) (by omega) (row_mono hown' (by omega)) hgrow; have hG := Gro.appended hv hgrow hat hv2; have hc1 := hv1.cell; have hf1 := hv1.frozen)
        have hr2 := hown'.kept (grownBy_setCell' w5 (w.heap.size + 1 + 1) (.slice (some ⟨g', 0, none⟩) (pre.length + 1) cap')) (.inr (hv1.not_row (by decide) hown').symm)
        have hn2 := ((hn.alloc (.cells #[.int .i64 x.1, .int .i64 x.2] 31)).kept hgrow (row_ne hrow (by omega))).other (B' := w.heap.size + 1 + 1) (by omega) (.slice (some ⟨g', 0, none⟩) (pre.length + 1) cap')
        exact ⟨hk2.from _, hG, ⟨⟨⟨⟨_, hv2, by rw [tcs_snoc]; simpa using hr2, trivial⟩, hn2⟩, hB1.trans hb2⟩, by simp; omega⟩⟩
      · have hk' : (nn : Int) ≤ (pre.length : Int) := by omega
        try (have hk0 : (nn : Int) ≤ 0 := by (have := hz rfl; omega))
        clear hz
        gi_wp2
        exact ⟨KeepsFrom.refl _ _, rfl, pre, x, rfl, by omega, ⟨_, hv, hrow, trivial⟩, hB1⟩
  case done =>
    rintro D ys W hD rfl ⟨⟨⟨⟨v, hv, hrow, _⟩, hn⟩, hB1⟩, hlen⟩ hK
    have hc := hv.cell
    have ht := List.take_of_length_le hlen
    gi_wp2
    refine ⟨by simp, .inl ⟨_, _, rfl, run_takeDeferred hK, ?_⟩⟩
    exact ⟨_, results_tmp rfl _ _ _, v, rfl, (by rw [ht]; exact ownsRow_putObj (row_mono hrow (by omega)) _ hK rfl), hB1.trans (belowK_b (w := w) (Nat.le_refl _) W D _ _ (by omega) hK rfl rfl)⟩
  case stop =>
    rintro D c pre' W hD hSp ⟨rfl, pre, x, rfl, hpl, ⟨v, hv, hrow, _⟩, hB1⟩ hK
    have hc := hv.cell
    have ht : (tilesL r).take nn = pre := by
      obtain ⟨rest, hr⟩ := hSp
      rw [← hr, ← hpl, List.append_assoc, List.take_left]
    gi_wp2
    refine ⟨by simp, .inl ⟨_, _, rfl, run_takeDeferred hK, ?_⟩⟩
    exact ⟨_, results_tmp rfl _ _ _, v, rfl, (by rw [ht]; exact ownsRow_putObj (row_mono hrow (by omega)) _ hK rfl), hB1.trans (belowK_b (w := w) (Nat.le_refl _) W D _ _ (by omega) hK rfl rfl)⟩
end Go.Proofs.Ytplnhmfkflnhpaa
