/- Chapter 1: Sum itself. -/
import Derived.Test.YtlpkjjeihbdocaaDoorF8
namespace Go.Proofs.YtlpkjjeihbdocaaDoor.G
open Go.RowKit Go.Shelf Go.Proofs.YtlpkjjeihbdocaaDoorW.PrintWords Go.Proofs.YtlpkjjeihbdocaaDoorW.PrintLast Go.Proofs.YtlpkjjeihbdocaaDoorW.PrintMore
attribute [local go_sem] Oper.semAt_some

/-- What the caller's variable holds behind some rounds. -/
def lastS (pre : List (Int × Bool)) : Int := (pre.getLast?.map (·.1)).getD 0
theorem lastS_snoc (pre : List (Int × Bool)) (x : Int × Bool) : lastS (pre ++ [x]) = x.1 := by simp [lastS]
theorem partS_all (l : List Int) (k : Nat) (hk : k ≤ l.length) : (partS l k).all (·.2) = (l.take k).all lenB := by
  induction k with
  | zero => rfl
  | succ k ih => rw [partS, take_rd l k (by omega), List.all_append, List.all_append, ih (by omega)]; simp
theorem sumS_done {l : List Int} {ys : List (Int × Bool)} (h : SumS l ys) (ha : ys.all (·.2) = true) (hl : l.length ≤ 1000) : l.all lenB = true ∧ lastS ys = sumG l := by
  obtain ⟨k, hk, rfl, h1, h2⟩ := h
  rw [partS_all l k hk] at ha
  have e : k = l.length := by
    rcases h2 with h2 | ⟨h2, h3⟩
    · exact h2
    · obtain ⟨j, rfl⟩ : ∃ j, k = j + 1 := ⟨k - 1, by omega⟩
      rw [take_rd l j (by omega), List.all_append] at ha
      simp at ha h3
      rw [h3] at ha
      simp at ha
  subst e
  rw [List.take_length] at ha
  refine ⟨ha, ?_⟩
  cases hn : l.length with
  | zero => obtain rfl := List.length_eq_zero_iff.1 hn; rfl
  | succ j =>
    rw [partS, lastS_snoc]
    have hin := sumG_in l ha
    have ht := take_rd l j (by omega)
    rw [List.take_of_length_le (by omega)] at ht
    show wrap64 (sumG (l.take j) + rd l j) = _
    rw [← sumG_snoc, ← ht]
    exact i64_in (by omega) (by omega)
theorem sumP_stop {l : List Int} {pre : List (Int × Bool)} (h : SumP l pre) (ha : pre.all (·.2) = false) : l.all lenB = false := by
  obtain ⟨k, hk, rfl⟩ := h
  rw [partS_all l _ (by omega)] at ha
  cases hb : l.all lenB with
  | false => rfl
  | true =>
    rw [List.all_eq_false] at ha
    obtain ⟨x, hx, hx2⟩ := ha
    exact absurd (List.all_eq_true.1 hb x (List.mem_of_mem_take hx)) hx2
theorem two_back {w W : World} {R : Ending → World → Prop} (a : Act) (D : Nat) (r1 r2 : Int) (h1 : Boxed W w.heap.size 2 (.int .i64 r1)) (h2 : Boxed W (w.heap.size + 1) 23 (.int .i64 r2)) (hb : Below w.heap.size w W) (hK : W.heap[D]? = some (.deferred (some []))) (hD : w.heap.size + 2 ≤ D) (t0 t1 : Value) (ts : List Value) (ea : a = { tmps := (t0 :: t1 :: .pointer (some ⟨w.heap.size, 0, none⟩) :: .pointer (some ⟨w.heap.size + 1, 0, none⟩) :: ts).toArray, defers := [{ target := Target.collected D, args := #[] }] })
    (hR : ∀ W', Below w.heap.size w W' → R (.returned (.tuple #[.int .i64 r1, .int .i64 r2])) W') : bodyPostM Fence.wide 6 Tryd.prog Tryd.f29 R .ret a W := by
  subst ea
  have g1 := (h1.kept (grownBy_putObj' W D (.deferred none)) (by simp; omega))
  have g2 := (h2.kept (grownBy_putObj' W D (.deferred none)) (by simp; omega))
  have c1 := g1.cell
  have c2 := g2.cell
  refine ⟨by simp, .inl ⟨_, _, rfl, run_takeDeferred hK, ?_⟩⟩
  refine ⟨.tuple #[.int .i64 r1, .int .i64 r2], ?_, hR _ (hb.trans (belowK_b (w := w) (Nat.le_refl _) W D _ _ (by omega) hK rfl rfl))⟩
  simp [results, Tryd.results29, go_sem, c1, c2]
set_option maxRecDepth 100000 in
set_option maxHeartbeats 2000000 in
theorem sum_any (A : Option Addr) (c : Nat) (l : List Int) (w : World) (hr : Kd.C (Kd.int .i64) w A l.length l) (hl : l.length ≤ 1000) (sa sb sc : Addr) (hS : Sent w sa sb sc) (r1 r2 : Int) (HR : Aside0 ((if l.all lenB then resZ (sumG l) else (0, 10)) = (r1, r2))) :
    CallsIn Fence.wide 6 Tryd.prog 29 #[.slice A l.length c] w fun e w' => e = .returned (.tuple #[.int .i64 r1, .int .i64 r2]) ∧ Below w.heap.size w w' := by
  refine callsIn_of_wp_marks Tryd.func29 rfl trivial ?_ rfl
  simp only [Tryd.ntmps29, List.size_toArray, List.length_cons, List.length_nil, Nat.reduceAdd, Nat.reduceSub, Array.replicate_succ, Array.replicate_zero, List.push_toArray, List.append_toArray, List.nil_append, List.cons_append]
  gi_wp2_with fail
  refine ⟨trivial, ?_⟩
  refine (callsIn_wide.2 (sums_any _ ⟨_, _, _, rfl⟩ _)).mono ?_
  rintro e w' ⟨rfl, rfl⟩
  gi_wp2
  have hB : Below w.heap.size w ((((w.alloc (.cells #[.int .i64 0] 2)).alloc (.cells #[.int .i64 0] 23)).alloc (.cells #[.int .i64 0] 2)).alloc (.cells #[.slice A l.length c] 33)) := below_alloc (below_alloc (below_alloc (below_alloc (Below.refl _ _) _) _) _) _
  have e4 : ((((w.alloc (.cells #[.int .i64 0] 2)).alloc (.cells #[.int .i64 0] 23)).alloc (.cells #[.int .i64 0] 2)).alloc (.cells #[.slice A l.length c] 33)).heap.size = w.heap.size + 4 := by simp
  have b1 : Boxed ((((w.alloc (.cells #[.int .i64 0] 2)).alloc (.cells #[.int .i64 0] 23)).alloc (.cells #[.int .i64 0] 2)).alloc (.cells #[.slice A l.length c] 33)) w.heap.size 2 (.int .i64 0) := blk_alloc (blk_alloc (blk_alloc (blk_new w _) _) _) _
  have e1 : (w.alloc (.cells #[.int .i64 0] 2)).heap.size = w.heap.size + 1 := by simp
  have b2 : Boxed ((((w.alloc (.cells #[.int .i64 0] 2)).alloc (.cells #[.int .i64 0] 23)).alloc (.cells #[.int .i64 0] 2)).alloc (.cells #[.slice A l.length c] 33)) (w.heap.size + 1) 23 (.int .i64 0) := blk_alloc (blk_alloc (e1 ▸ blk_new (w.alloc (.cells #[.int .i64 0] 2)) (.cells #[.int .i64 0] 23)) _) _
  have e2 : ((w.alloc (.cells #[.int .i64 0] 2)).alloc (.cells #[.int .i64 0] 23)).heap.size = w.heap.size + 1 + 1 := by simp
  have b3 : Boxed ((((w.alloc (.cells #[.int .i64 0] 2)).alloc (.cells #[.int .i64 0] 23)).alloc (.cells #[.int .i64 0] 2)).alloc (.cells #[.slice A l.length c] 33)) (w.heap.size + 1 + 1) 2 (.int .i64 0) := blk_alloc (e2 ▸ blk_new ((w.alloc (.cells #[.int .i64 0] 2)).alloc (.cells #[.int .i64 0] 23)) (.cells #[.int .i64 0] 2)) _
  have e3 : (((w.alloc (.cells #[.int .i64 0] 2)).alloc (.cells #[.int .i64 0] 23)).alloc (.cells #[.int .i64 0] 2)).heap.size = w.heap.size + 1 + 1 + 1 := by simp
  have b4 : Boxed ((((w.alloc (.cells #[.int .i64 0] 2)).alloc (.cells #[.int .i64 0] 23)).alloc (.cells #[.int .i64 0] 2)).alloc (.cells #[.slice A l.length c] 33)) (w.heap.size + 1 + 1 + 1) 33 (.slice A l.length c) := e3 ▸ blk_new (((w.alloc (.cells #[.int .i64 0] 2)).alloc (.cells #[.int .i64 0] 23)).alloc (.cells #[.int .i64 0] 2)) (.cells #[.slice A l.length c] 33)
  clear e1 e2 e3
  generalize (((w.alloc (.cells #[.int .i64 0] 2)).alloc (.cells #[.int .i64 0] 23)).alloc (.cells #[.int .i64 0] 2)).alloc (.cells #[.slice A l.length c] 33) = W0 at *
  refine wpIn_rangeFunc_ownF rfl (by omega) (gf := 47) (lb := #[.pointer (some ⟨w.heap.size + 1 + 1 + 1, 0, none⟩)]) rfl trivial (enters_of Tryd.func47 (by kernel_rfl) rfl)
    (sums_seq 5 (by omega) (w.heap.size + 1 + 1 + 1) A c l w W0 hr hl hB b4) belowK_t (belowK_b (by omega)) (Below.refl _ _) (fun _ => rfl)
    (fun pre W => ((Boxed W w.heap.size 2 (.int .i64 0) ∧ Boxed W (w.heap.size + 1) 23 (.int .i64 0) ∧ Boxed W (w.heap.size + 1 + 1) 2 (.int .i64 (lastS pre))) ∧ pre.all (·.2) = true) ∧ Below w.heap.size w W)
    (fun c pre W => ((Boxed W w.heap.size 2 (.int .i64 0) ∧ Boxed W (w.heap.size + 1) 23 (.int .i64 10)) ∧ c = .ret ∧ pre.all (·.2) = false) ∧ Below w.heap.size w W)
    ?hI ?hIx ?h0 (fun x => { tmps := #[.slice A l.length c, undef, .pointer (some ⟨w.heap.size, 0, none⟩), .pointer (some ⟨w.heap.size + 1, 0, none⟩), .pointer (some ⟨w.heap.size + 1 + 1, 0, none⟩), .int .i64 x.1, .bool x.2, .slice A l.length c, .func (.func 47) #[] #[.pointer (some ⟨w.heap.size + 1 + 1 + 1, 0, none⟩)], .int .i64 x.1, .bool x.2, undef, undef, undef, undef, undef, undef, undef, undef, undef], defers := [] }) ?assign ?body ?done ?stop
  case hI =>
    rintro s W W' row ⟨⟨⟨h1, h2, h3⟩, h4⟩, h5⟩ hg hr'
    have hn : ∀ r, row = some r → w.heap.size + 4 ≤ r := fun r e => by have := (hr' r e).1; omega
    exact ⟨⟨⟨h1.kept hg (fun e => by have := hn _ e.symm; omega), h2.kept hg (fun e => by have := hn _ e.symm; omega), h3.kept hg (fun e => by have := hn _ e.symm; omega)⟩, h4⟩, h5.grown hg h5.size (fun k e => by have := hn k e; omega)⟩
  case hIx =>
    rintro c s W W' row ⟨⟨⟨h1, h2⟩, h4⟩, h5⟩ hg hr'
    have hn : ∀ r, row = some r → w.heap.size + 4 ≤ r := fun r e => by have := (hr' r e).1; omega
    exact ⟨⟨⟨h1.kept hg (fun e => by have := hn _ e.symm; omega), h2.kept hg (fun e => by have := hn _ e.symm; omega)⟩, h4⟩, h5.grown hg h5.size (fun k e => by have := hn k e; omega)⟩
  case h0 => exact ⟨⟨⟨b1, b2, b3⟩, rfl⟩, hB⟩
  case assign =>
    intro yl x W K hK
    gi_wp2
    exact hK
  case body =>
    rintro yl pre ⟨n, ok⟩ W ⟨⟨⟨h1, h2, h3⟩, h4⟩, h5⟩ _
    have c1 := h1.cell
    have c2 := h2.cell
    have c3 := h3.cell
    have f1 := h1.frozen
    have f2 := h2.frozen
    have f3 := h3.frozen
    have g0 := pw_cell_below h5 hS.1
    cases ok with
    | true =>
      gi_wp2
      refine ⟨KeepsOthers.setCell _ _ _, (Below.refl _ _).setCell (by show w.heap.size ≤ w.heap.size + 1 + 1; omega) _, ⟨⟨h1.other (by omega) _, h2.other (by omega) _, ?_⟩, by simp [h4]⟩, h5.setCell (by show w.heap.size ≤ w.heap.size + 1 + 1; omega) _⟩
      rw [lastS_snoc]
      exact h3.set _
    | false =>
      gi_wp2_with fail
      refine ⟨trivial, (CallsIn.inRound _ (callsIn_wide.2 (told_over sa sb sc _ (hS.below h5)))).mono ?_⟩
      rintro e w' ⟨rfl, rfl⟩
      gi_wp2
      refine ⟨(KeepsOthers.setCell _ _ _).trans (KeepsOthers.setCell _ _ _), ⟨⟨(h1.set _).other (by omega) _, (h2.other (by omega) _).set _⟩, rfl, by simp⟩, (h5.setCell (Nat.le_refl _) _).setCell (by show w.heap.size ≤ w.heap.size + 1; omega) _⟩
  case done =>
    rintro D ys W hD hS1 ⟨⟨⟨h1, h2, h3⟩, h4⟩, h5⟩ hK
    have c1 := h1.cell
    have c2 := h2.cell
    have c3 := h3.cell
    have f1 := h1.frozen
    have f2 := h2.frozen
    have f3 := h3.frozen
    obtain ⟨ha, hs⟩ := sumS_done hS1 h4 hl
    gi_wp2_with fail
    refine ⟨trivial, (callsIn_wide.2 (result_any _ sa sb sc _ (hS.below h5))).mono ?_⟩
    rintro e w' ⟨rfl, rfl⟩
    have e1 : resZ (sumG l) = (r1, r2) := by rw [← HR.out, if_pos ha]
    rw [e1]
    gi_wp2
    have k1 := ((h1.set (.int .i64 r1)).other (B' := w.heap.size + 1) (by omega) (.int .i64 r2))
    have k2 := ((h2.other (B' := w.heap.size) (by omega) (.int .i64 r1)).set (.int .i64 r2))
    have hb : Below w.heap.size w _ := (h5.setCell (p := ⟨w.heap.size, 0, none⟩) (Nat.le_refl _) (.int .i64 r1)).setCell (p := ⟨w.heap.size + 1, 0, none⟩) (by show w.heap.size ≤ w.heap.size + 1; omega) (.int .i64 r2)
    have hK2 := (Below.heap_setCell _ ⟨w.heap.size + 1, 0, none⟩ (.int .i64 r2) D (by show D ≠ w.heap.size + 1; omega)).trans ((Below.heap_setCell W ⟨w.heap.size, 0, none⟩ (.int .i64 r1) D (by show D ≠ w.heap.size; omega)).trans hK)
    exact two_back _ D r1 r2 k1 k2 hb hK2 (by omega) _ _ _ rfl (fun W' hb' => ⟨rfl, hb'⟩)
  case stop =>
    rintro D c1 pre W hD hP ⟨⟨⟨h1, h2⟩, rfl, h4⟩, h5⟩ hK
    have ha := sumP_stop hP h4
    have e1 := HR.out
    rw [if_neg (by rw [ha]; simp), Prod.mk.injEq] at e1
    obtain ⟨rfl, rfl⟩ := e1
    gi_wp2
    exact two_back _ D 0 10 h1 h2 h5 hK (by omega) _ _ _ rfl (fun W' hb' => ⟨rfl, hb'⟩)
def unit_Sum.f (l0 : List Int) : Option (Int × Int) := if l0.length ≤ 1000 then some (if l0.all lenB then resZ (sumG l0) else (0, 10)) else none
theorem unit_Sum.calls (A0 : Option Addr) (c0 : Nat) (l0 : List Int) (r1 : Int) (r2 : Int) (w : World) (hr0 : Kd.C (Kd.int .i64) w A0 l0.length l0) (_ : l0.length ≤ c0) (h : unit_Sum.f l0 = some (r1, r2)) (hG : GOK w) :
    Calls Tryd.prog 29 #[.slice A0 l0.length c0] w fun e w' => e = .returned (.tuple #[.int .i64 r1, .int .i64 r2]) ∧ Below w.heap.size w w' := by
  unfold unit_Sum.f at h
  obtain ⟨sa, sb, sc, hS⟩ := hG
  by_cases hl : l0.length ≤ 1000
  · rw [if_pos hl] at h
    exact callsIn_wide.1 (sum_any A0 c0 l0 w hr0 hl sa sb sc hS r1 r2 ⟨Option.some.inj h⟩)
  · rw [if_neg hl] at h; cases h
end Go.Proofs.YtlpkjjeihbdocaaDoor.G
