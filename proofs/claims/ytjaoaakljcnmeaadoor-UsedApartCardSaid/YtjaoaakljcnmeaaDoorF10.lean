/- Chapter 6: Slack. Written by mkF10.py. -/
import Derived.Test.YtjaoaakljcnmeaaDoorF9
namespace Go.Proofs.YtjaoaakljcnmeaaDoor.G
open Go.RowKit Go.Shelf Go.Proofs.YtjaoaakljcnmeaaDoorW.PrintWords Go.Proofs.YtjaoaakljcnmeaaDoorW.PrintLast Go.Proofs.YtjaoaakljcnmeaaDoorW.PrintMore
attribute [local go_sem] Oper.semAt_some

set_option maxRecDepth 1000000 in
set_option maxHeartbeats 4000000 in
theorem Slack_err (S M : Array Value) (av n wd e : Int) (w : World) (hS : S.size = 16) (hB : Builds S M av) (hU : ∀ w' : World, GOK w' → Calls Tryd.prog 21 #[.agg M] w' fun x w'' => x = .returned (.tuple #[.agg #[.int .i64 n, .int .i64 wd], .iface 54 (.agg #[.int .i64 e])]) ∧ Below w'.heap.size w' w'') (hG : GOK w) :
    Calls Tryd.prog 18 #[.int .i64 av, .agg S] w fun x w' => x = .returned (.tuple #[.int .i64 0, .int .i64 e]) ∧ Below w.heap.size w w' := by
  have HU := Aside0.mk hU
  have HS := Aside0.mk hS
  have HB := Aside0.mk hB
  have HG := Aside0.mk hG
  have e1 : (w.alloc (.cells #[.int .i64 av] 2)).heap.size = w.heap.size + 1 := by simp
  have b1 := Aside0.mk (e1 ▸ blk_new (w.alloc (.cells #[.int .i64 av] 2)) (.cells S 23))
  have B0 := Aside0.mk (below_alloc (below_alloc (Below.refl w.heap.size w) (.cells #[.int .i64 av] 2)) (.cells S 23))
  clear hU hS hG hB e1
  go_enter Tryd.func18, Tryd.ntmps18
  go_wp2_with (first | (refine load23w_at rfl _ rfl (w.heap.size + 1) rfl S HS.out b1.out ?_) | (refine build47_at rfl _ _ rfl S M av rfl rfl HB.out ?_) | (go_at_call 21; refine (HU.out _ (HG.out.below B0.out)).mono ?_; rintro e w2 ⟨rfl, hb⟩; have B2 := Aside0.mk (below_then B0.out B0.out.size hb); have B3 := Aside0.mk (below_then B2.out B2.out.size (below_alloc (Below.refl _ _) (.cells #[.int .i64 n, .int .i64 wd] 41))); clear hb) | (go_at_call 22; refine (told_wrong _ _ (HG.out.below B3.out)).mono ?_; rintro e w4 ⟨rfl, hb⟩; have B4 := Aside0.mk (below_then B3.out B3.out.size hb); clear hb))
  go_ret2
  exact ⟨rfl, B4.out⟩
/-- What is left, behind a column. -/
def stepZ (wd gap a : Int) (x : Int × Int) : Int := if 0 < x.2 ∨ wrap64 (wd + gap) = 0 then wrap64 (wrap64 (a - wd) - gap) else wrap64 (a - wd)
def slackZ (wd gap av : Int) (l : List (Int × Int)) : Int := l.foldl (stepZ wd gap) av
theorem slackZ_snoc (wd gap av : Int) (l : List (Int × Int)) (x : Int × Int) : slackZ wd gap av (l ++ [x]) = stepZ wd gap (slackZ wd gap av l) x := by simp [slackZ]
set_option maxRecDepth 1000000 in
set_option maxHeartbeats 4000000 in
theorem Slack_ok (S M : Array Value) (av wd gap : Int) (n : Nat) (hn : n ≤ 50) (w : World) (hS : S.size = 16) (hgap : S[2]? = some (.int .i64 gap)) (hB : Builds S M av) (hU : ∀ w' : World, GOK w' → Calls Tryd.prog 21 #[.agg M] w' fun x w'' => x = .returned (.tuple #[.agg #[.int .i64 n, .int .i64 wd], .nilIface]) ∧ Below w'.heap.size w' w'') (hG : GOK w) :
    CallsIn Fence.wide 6 Tryd.prog 18 #[.int .i64 av, .agg S] w fun x w' => x = .returned (.tuple #[.int .i64 (slackZ wd gap av (leftsL wd gap n)), .int .i64 0]) ∧ Below w.heap.size w w' := by
  have HU := Aside0.mk hU
  have HS := Aside0.mk hS
  have HB := Aside0.mk hB
  have HG := Aside0.mk hG
  have HL := Aside0.mk hgap
  have e1 : (w.alloc (.cells #[.int .i64 av] 2)).heap.size = w.heap.size + 1 := by simp
  have b0 := Aside0.mk (blk_alloc (blk_new w (.cells #[.int .i64 av] 2)) (.cells S 23))
  have b1 := Aside0.mk (e1 ▸ blk_new (w.alloc (.cells #[.int .i64 av] 2)) (.cells S 23))
  have B0 := Aside0.mk (below_alloc (below_alloc (Below.refl w.heap.size w) (.cells #[.int .i64 av] 2)) (.cells S 23))
  have HZ := Aside0.mk (show w.heap.size + 2 ≤ ((w.alloc (.cells #[.int .i64 av] 2)).alloc (.cells S 23)).heap.size by simp)
  clear hU hS hG hB hgap e1
  refine callsIn_of_wp_marks Tryd.func18 rfl trivial ?_ rfl
  simp only [Tryd.ntmps18, List.size_toArray, List.length_cons, List.length_nil, Nat.reduceAdd, Nat.reduceSub, Array.replicate_succ, Array.replicate_zero, List.push_toArray, List.append_toArray, List.nil_append, List.cons_append]
  refine wpIn_wide.2 ?_
  go_wp2_with (first | (refine load23w_at rfl _ rfl (w.heap.size + 1) rfl S HS.out b1.out ?_) | (refine build47_at rfl _ _ rfl S M av rfl rfl HB.out ?_) | (go_at_call 21; refine (HU.out _ (HG.out.below B0.out)).mono ?_; rintro e w2 ⟨rfl, hb⟩; have HZ2 := Aside0.mk (Nat.le_trans HZ.out hb.size); have B2 := Aside0.mk (below_then B0.out B0.out.size hb); have B3 := Aside0.mk (below_then B2.out B2.out.size (below_alloc (Below.refl _ _) (.cells #[.int .i64 n, .int .i64 wd] 41))); have b12 := Aside0.mk (blk_alloc (blk_below b1.out hb) (.cells #[.int .i64 n, .int .i64 wd] 41)); have b02 := Aside0.mk (blk_alloc (blk_below b0.out hb) (.cells #[.int .i64 n, .int .i64 wd] 41)); have c2 := (blk_cell b12.out 2).trans HL.out; clear hb) | (go_at_call 23; refine (lefts_any n wd gap _).mono ?_; rintro e w3 ⟨rfl, rfl⟩))
  have hz := HZ2.out
  have hB : Below w.heap.size w (((w2.alloc (.cells #[.int .i64 n, .int .i64 wd] 41)).alloc (.cells #[.int .i64 n, .int .i64 wd] 41)).alloc (.cells #[.int .i64 gap] 2)) := below_alloc (below_alloc B3.out _) _
  have e3 : (((w2.alloc (.cells #[.int .i64 n, .int .i64 wd] 41)).alloc (.cells #[.int .i64 n, .int .i64 wd] 41)).alloc (.cells #[.int .i64 gap] 2)).heap.size = w2.heap.size + 3 := by simp
  have a0 : Boxed (((w2.alloc (.cells #[.int .i64 n, .int .i64 wd] 41)).alloc (.cells #[.int .i64 n, .int .i64 wd] 41)).alloc (.cells #[.int .i64 gap] 2)) w.heap.size 2 (.int .i64 av) := blk_alloc (blk_alloc b02.out _) _
  have a1 : (((w2.alloc (.cells #[.int .i64 n, .int .i64 wd] 41)).alloc (.cells #[.int .i64 n, .int .i64 wd] 41)).alloc (.cells #[.int .i64 gap] 2)).heap[w.heap.size + 1]? = some (.cells S 23 (0, 0)) := blk_alloc (blk_alloc b12.out _) _
  have a2 : (((w2.alloc (.cells #[.int .i64 n, .int .i64 wd] 41)).alloc (.cells #[.int .i64 n, .int .i64 wd] 41)).alloc (.cells #[.int .i64 gap] 2)).heap[w2.heap.size]? = some (.cells #[.int .i64 n, .int .i64 wd] 41 (0, 0)) := blk_alloc (blk_alloc (blk_new w2 _) _) _
  have d1 : (w2.alloc (.cells #[.int .i64 n, .int .i64 wd] 41)).heap.size = w2.heap.size + 1 := by simp
  have a3 : (((w2.alloc (.cells #[.int .i64 n, .int .i64 wd] 41)).alloc (.cells #[.int .i64 n, .int .i64 wd] 41)).alloc (.cells #[.int .i64 gap] 2)).heap[w2.heap.size + 1]? = some (.cells #[.int .i64 n, .int .i64 wd] 41 (0, 0)) := blk_alloc (d1 ▸ blk_new (w2.alloc (.cells #[.int .i64 n, .int .i64 wd] 41)) (.cells #[.int .i64 n, .int .i64 wd] 41)) _
  have d2 : ((w2.alloc (.cells #[.int .i64 n, .int .i64 wd] 41)).alloc (.cells #[.int .i64 n, .int .i64 wd] 41)).heap.size = w2.heap.size + 1 + 1 := by simp
  have a4 : Boxed (((w2.alloc (.cells #[.int .i64 n, .int .i64 wd] 41)).alloc (.cells #[.int .i64 n, .int .i64 wd] 41)).alloc (.cells #[.int .i64 gap] 2)) (w2.heap.size + 1 + 1) 2 (.int .i64 gap) := d2 ▸ blk_new ((w2.alloc (.cells #[.int .i64 n, .int .i64 wd] 41)).alloc (.cells #[.int .i64 n, .int .i64 wd] 41)) (.cells #[.int .i64 gap] 2)
  clear HZ HZ2 d1 d2 c2 B0 B2 B3 b0 b1 b02 b12 HU
  generalize ((w2.alloc (.cells #[.int .i64 n, .int .i64 wd] 41)).alloc (.cells #[.int .i64 n, .int .i64 wd] 41)).alloc (.cells #[.int .i64 gap] 2) = W0 at *
  generalize w2.heap.size = z at *
  clear w2
  refine (wpIn_wide (n := 6)).1 ?_
  refine wpIn_rangeFunc_ownF rfl (by omega) (gf := 34) (lb := #[.pointer (some ⟨z + 1, 0, none⟩), .pointer (some ⟨z + 1 + 1, 0, none⟩)]) rfl trivial (enters_of Tryd.func34 (by kernel_rfl) rfl)
    (lefts_seq 5 (by omega) (z + 1) (z + 1 + 1) n wd gap hn W0 a3 a4) Kb.trans (Kb.put (by omega) (by omega)) (Below.refl _ _) (fun _ => rfl)
    (fun pre W => (Boxed W w.heap.size 2 (.int .i64 (slackZ wd gap av pre)) ∧ W.heap[w.heap.size + 1]? = some (.cells S 23 (0, 0)) ∧ W.heap[z]? = some (.cells #[.int .i64 n, .int .i64 wd] 41 (0, 0))) ∧ Below w.heap.size w W)
    (fun _ _ _ => False)
    ?hI (fun _ _ _ _ _ hs _ _ => hs) ⟨⟨a0, a1, a2⟩, hB⟩
    (fun x => { tmps := #[.int .i64 av, .agg S, .pointer (some ⟨w.heap.size, 0, none⟩), .pointer (some ⟨w.heap.size + 1, 0, none⟩), .int .i64 0, .int .i64 0, .pointer (some ⟨z, 0, none⟩), .nilIface, undef, .int .i64 x.2, .tuple #[.agg #[.int .i64 n, .int .i64 wd], .nilIface], .agg S, .int .i64 av, .agg M, .tuple #[.agg #[.int .i64 n, .int .i64 wd], .nilIface], .agg #[.int .i64 n, .int .i64 wd], .nilIface, .nilIface, .bool false, undef, undef, .agg #[.int .i64 n, .int .i64 wd], .pointer (some ⟨w.heap.size + 1, 2, none⟩), .int .i64 gap, .func (.func 34) #[] #[.pointer (some ⟨z + 1, 0, none⟩), .pointer (some ⟨z + 1 + 1, 0, none⟩)], .int .i64 x.1, .int .i64 x.2, undef, undef, undef, undef, undef, undef, undef, undef, undef, undef, undef, undef, undef, undef, undef, undef, undef, undef, undef], defers := [] }) ?assign ?body ?done ?stop
  case hI =>
    rintro s W W' row ⟨⟨h1, h2, h3⟩, h5⟩ hg hr'
    have hn : ∀ r, row = some r → z + 3 ≤ r := fun r e => by have := (hr' r e).1; omega
    exact ⟨⟨h1.kept hg (fun e => by have := hn _ e.symm; omega), (hg.block _ (blk_lt h2) (fun e => by have := hn _ e.symm; omega)).trans h2, (hg.block _ (blk_lt h3) (fun e => by have := hn _ e.symm; omega)).trans h3⟩, h5.grown hg h5.size (fun k e => by have := hn k e; omega)⟩
  case assign =>
    intro yl x W K hK
    gi_wp2
    exact hK
  case body =>
    rintro yl pre ⟨i, lf⟩ W ⟨⟨h1, h2, h3⟩, h5⟩ _
    have c1 := h1.cell
    have f1 := h1.frozen
    have c2 := (blk_cell h2 2).trans HL.out
    have c3 : W.cell? ⟨z, 1, none⟩ = some (.int .i64 wd) := (blk_cell h3 1).trans rfl
    by_cases h0 : 0 < lf
    · have h0' : decide (0 < lf) = true := decide_eq_true h0
      gi_wp2
      refine ⟨(KeepsOthers.setCell _ _ _).trans (KeepsOthers.setCell _ _ _), ⟨(Below.heap_setCell _ _ _ _ (by simp; omega)).trans (Below.heap_setCell _ _ _ _ (by simp; omega)), (Below.heap_setCell _ _ _ _ (by simp; omega)).trans (Below.heap_setCell _ _ _ _ (by simp; omega))⟩, ⟨?_, (Below.heap_setCell _ _ _ _ (by simp)).trans ((Below.heap_setCell _ _ _ _ (by simp)).trans h2), (Below.heap_setCell _ _ _ _ (by simp; omega)).trans ((Below.heap_setCell _ _ _ _ (by simp; omega)).trans h3)⟩, (h5.setCell (Nat.le_refl _) _).setCell (Nat.le_refl _) _⟩
      rw [slackZ_snoc, stepZ, if_pos (.inl h0)]
      exact (h1.set _).set _
    · have h0' : decide (0 < lf) = false := decide_eq_false h0
      by_cases hg : wrap64 (wd + gap) = 0
      · gi_wp2
        refine ⟨(KeepsOthers.setCell _ _ _).trans (KeepsOthers.setCell _ _ _), ⟨(Below.heap_setCell _ _ _ _ (by simp; omega)).trans (Below.heap_setCell _ _ _ _ (by simp; omega)), (Below.heap_setCell _ _ _ _ (by simp; omega)).trans (Below.heap_setCell _ _ _ _ (by simp; omega))⟩, ⟨?_, (Below.heap_setCell _ _ _ _ (by simp)).trans ((Below.heap_setCell _ _ _ _ (by simp)).trans h2), (Below.heap_setCell _ _ _ _ (by simp; omega)).trans ((Below.heap_setCell _ _ _ _ (by simp; omega)).trans h3)⟩, (h5.setCell (Nat.le_refl _) _).setCell (Nat.le_refl _) _⟩
        rw [slackZ_snoc, stepZ, if_pos (.inr hg)]
        exact (h1.set _).set _
      · gi_wp2
        refine ⟨KeepsOthers.setCell _ _ _, ⟨Below.heap_setCell _ _ _ _ (by simp; omega), Below.heap_setCell _ _ _ _ (by simp; omega)⟩, ⟨?_, (Below.heap_setCell _ _ _ _ (by simp)).trans h2, (Below.heap_setCell _ _ _ _ (by simp; omega)).trans h3⟩, h5.setCell (Nat.le_refl _) _⟩
        rw [slackZ_snoc, stepZ, if_neg (by rintro (h | h); exact absurd h (Int.not_lt.2 h0); exact hg h)]
        exact h1.set _
  case done =>
    rintro D ys W hD rfl ⟨⟨h1, _⟩, h5⟩ hK
    have c1 := h1.cell
    go_wp2
    refine ⟨by simp, .inl ⟨_, _, rfl, run_takeDeferred hK, ?_⟩⟩
    refine ⟨.tuple #[.int .i64 (slackZ wd gap av (leftsL wd gap n)), .int .i64 0], ?_, rfl, h5.trans (belowK_b (w := w) (Nat.le_refl _) W D _ _ (by omega) hK rfl rfl)⟩
    simp [results, Tryd.results18, go_sem]
  case stop =>
    rintro D c pre W _ _ h _
    exact h.elim
end Go.Proofs.YtjaoaakljcnmeaaDoor.G
