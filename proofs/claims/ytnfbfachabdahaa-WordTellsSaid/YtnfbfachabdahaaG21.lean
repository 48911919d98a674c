/- Functions of the law and of what it calls as plain Lean functions, and that the calls come to their answers: written by fprint.py. -/
import Derived.Test.YtnfbfachabdahaaF15
import Derived.Test.YtnfbfachabdahaaG0
namespace Go.Proofs.Ytnfbfachabdahaa.G
open Go.RowKit Go.Proofs.YtnfbfachabdahaaW.PrintWords Go.Proofs.YtnfbfachabdahaaW.PrintLast Go.Proofs.YtnfbfachabdahaaW.PrintMore
attribute [local go_sem] max2_int min2_int max_two min_two max_three min_three max_four min_four   -- for this text's walks alone
set_option linter.unusedVariables false
set_option linter.unusedSimpArgs false

/-! ### gutterref07_Least: function 28 -/
def gutterref07_Least.l0 : Nat → List (S34) → Int → Int → Option (Int)
  | 0, _, _, _ => none
  | k + 1, x0, x3, x4 => if x4 < (x0.length : Int) then (if 0 ≤ x4 then (gutterref07_Least.l0 k x0 (mx x3 ((rd_T34 x0 x4).f1)) (wrap64 (x4 + 1))) else (none)) else (some x3)
def gutterref07_Least.f (k : Nat) (l0 : List (S34)) : Option (Int) := if (l0.length : Int) = 0 then (some 0) else (if 0 < (l0.length : Int) then (gutterref07_Least.l0 k l0 ((rd_T34 l0 0).f1) 0) else (none))
theorem gutterref07_Least.mono_l : ∀ k, (∀ y0 y1 y2, LeO (gutterref07_Least.l0 k y0 y1 y2) (gutterref07_Least.l0 (k + 1) y0 y1 y2))
  | 0 => fun _ _ _ r h => by simp [gutterref07_Least.l0] at h
  | k + 1 => by
    have ih0 := gutterref07_Least.mono_l k
    · intro y0 y1 y2
      unfold gutterref07_Least.l0
      repeat' first
      | (with_reducible exact ih0 _ _ _)
      | (with_reducible exact LeO.refl _)
      | (with_reducible exact LeO.none _)
      | (with_reducible refine LeO.ite ?_ ?_)
      | (with_reducible refine LeO.bind ?_ (fun _ => ?_))
      | exact ih0 _ _ _
      | exact LeO.none _
      | refine LeO.ite ?_ ?_
      | refine LeO.bind ?_ (fun _ => ?_)
theorem gutterref07_Least.mono : ∀ a0 k, LeO (gutterref07_Least.f k a0) (gutterref07_Least.f (k + 1) a0) := by
  intro a0 k
  have ih0 := gutterref07_Least.mono_l k
  unfold gutterref07_Least.f
  repeat' first
      | (with_reducible exact ih0 _ _ _)
      | (with_reducible exact LeO.refl _)
      | (with_reducible exact LeO.none _)
      | (with_reducible refine LeO.ite ?_ ?_)
      | (with_reducible refine LeO.bind ?_ (fun _ => ?_))
      | exact ih0 _ _ _
      | exact LeO.none _
      | refine LeO.ite ?_ ?_
      | refine LeO.bind ?_ (fun _ => ?_)
set_option maxHeartbeats 8000000 in
set_option maxRecDepth 100000 in
theorem gutterref07_Least.calls (k : Nat) (A0 : Option Addr) (c0 : Nat) (l0 : List (S34)) (r : Int) (w : World) (hr0 : Kd.C k34 w A0 l0.length l0) (hc0 : l0.length ≤ c0) (h : gutterref07_Least.f k l0 = some r) :
    Calls Try.prog 28 #[.slice A0 l0.length c0] w fun e w' => e = .returned (.int .i64 r) ∧ Below w.heap.size w w' := by
  have HR0 := Aside0.mk hr0
  have HC0 := Aside0.mk hc0
  clear hr0 hc0
  have HB := Aside0.mk (Below.refl w.heap.size w)
  have H : (if (l0.length : Int) = 0 then (some 0) else (if 0 < (l0.length : Int) then (gutterref07_Least.l0 k l0 ((rd_T34 l0 0).f1) 0) else (none))) = some r := h
  clear h
  by_cases c2 : (l0.length : Int) = 0
  · rw [if_pos c2] at H
    have c2b0 : ((l0.length : Int) == 0) = true := beq_iff_eq.mpr c2
    have c2b1 : ((l0.length : Int) != 0) = false := bne_eq_false_iff_eq.mpr c2
    clear c2
    obtain rfl := Option.some.inj H
    go_enter Try.func28, Try.ntmps28
    go_wp2
    go_ret
    exact ⟨by first | rfl | (simp [errW_none, errW_some] <;> rfl) | (simp [*, errW_none, errW_some] <;> rfl), by repeat (first | (with_reducible first | exact HB.out | apply below_alloc | apply pw_below_drewN | apply below_drew1) | exact HB.out)⟩
  · rw [if_neg c2] at H
    have c2b0 : ((l0.length : Int) == 0) = false := beq_eq_false_iff_ne.mpr c2
    have c2b1 : ((l0.length : Int) != 0) = true := bne_iff_ne.mpr c2
    have c2b2 : ¬ (l0 = []) := fun h_ => c2 (by rw [h_]; rfl)
    by_cases c3 : 0 < (l0.length : Int)
    · rw [if_pos c3] at H
      have c3b0 : decide (0 < (l0.length : Int)) = true := decide_eq_true c3
      have c3b1 : decide (0 < l0.length) = true := decide_eq_true (by omega)
      clear c3
      have H' := Aside0.mk H
      clear H
      have p300 : 0 ≤ (0 : Int) := (by omega)
      have q300 : 0 < (l0.length : Int) := of_decide_eq_true (by first | (with_reducible assumption) | assumption)
      obtain ⟨ad300, e300, hx300_0, hx300_1, hx300_2, hx300_3⟩ := at_T34 HR0.out 0 p300 q300
      cases e300
      have qi300 : (0 < l0.length) = True := eq_true (by omega)
      (try rw [show ((0 : Int)).toNat = 0 from rfl] at hx300_0)
      (try rw [show 0 * 4 = 0 from rfl] at hx300_0)
      (try rw [Addr.add_zero'] at hx300_0)
      (try rw [show ((0 : Int)).toNat = 0 from rfl] at hx300_1)
      (try rw [show 0 * 4 = 0 from rfl] at hx300_1)
      (try rw [Addr.add_zero'] at hx300_1)
      (try rw [show ((0 : Int)).toNat = 0 from rfl] at hx300_2)
      (try rw [show 0 * 4 = 0 from rfl] at hx300_2)
      (try rw [Addr.add_zero'] at hx300_2)
      (try rw [show ((0 : Int)).toNat = 0 from rfl] at hx300_3)
      (try rw [show 0 * 4 = 0 from rfl] at hx300_3)
      (try rw [Addr.add_zero'] at hx300_3)
      replace p300 := eq_true p300
      replace q300 := eq_true q300
      go_enter Try.func28, Try.ntmps28
      go_wp2
      go_loopg [3, 4] k (fun kq v3 v4 w' => ∃ (x3_1 : Int) (x4_1 : Int), v3 = .int .i64 x3_1 ∧ v4 = .int .i64 x4_1 ∧ Aside0 (gutterref07_Least.l0 kq l0 x3_1 x4_1 = some r) ∧ Aside0 (kq ≤ k) ∧ Aside0 (Below w.heap.size w w'))
      case atStart => exact ⟨((rd_T34 l0 0).f1), (0), (by first | rfl | (simp; done) | (simp [*]; done)), (by first | rfl | (simp; done) | (simp [*]; done)), H', ⟨Nat.le_refl _⟩, ⟨by repeat (first | (with_reducible first | exact HB.out | apply below_alloc | apply pw_below_drewN | apply below_drew1) | exact HB.out)⟩⟩
      case round =>
        clear H'
        try clear c2
        try clear c2b0
        try clear c2b1
        try clear c2b2
        try clear p2
        try clear c3
        try clear c3b0
        try clear c3b1
        try clear p3
        try clear q3
        try clear hx3
        try clear qi3
        try clear hx300_0
        try clear hx300_1
        try clear hx300_2
        try clear hx300_3
        try clear p300
        try clear q300
        obtain ⟨x3_1, x4_1, rfl, rfl, HA, HK1, HB⟩ := hrel
        cases gk with
        | zero => exact absurd HA.out (by simp [gutterref07_Least.l0])
        | succ k1 =>
          have H := HA.out
          clear HA
          simp only [gutterref07_Least.l0] at H
          by_cases c4 : x4_1 < (l0.length : Int)
          · rw [if_pos c4] at H
            have c4b0 : decide (x4_1 < (l0.length : Int)) = true := decide_eq_true c4
            clear c4
            by_cases c5 : 0 ≤ x4_1
            · rw [if_pos c5] at H
              have c5b0 : decide (0 ≤ x4_1) = true := decide_eq_true c5
              clear c5
              obtain ⟨ji6, hji6⟩ : ∃ j_ : Int, (mx x3_1 ((rd_T34 l0 x4_1).f1)) = j_ := ⟨_, rfl⟩
              replace H : (gutterref07_Least.l0 k1 l0 ji6 (wrap64 (x4_1 + 1))) = some r := by first | (rw [hji6] at H; exact H) | (simp only [hji6] at H ⊢; exact H)
              have hji6_ : (if x3_1 < ((rd_T34 l0 x4_1).f1) then ((rd_T34 l0 x4_1).f1) else x3_1) = ji6 := hji6
              have H' := Aside0.mk H
              clear H
              have p301 : 0 ≤ (x4_1 : Int) := of_decide_eq_true (by first | (with_reducible assumption) | assumption)
              have q301 : x4_1 < (l0.length : Int) := of_decide_eq_true (by first | (with_reducible assumption) | assumption)
              obtain ⟨ad301, e301, hx301_0, hx301_1, hx301_2, hx301_3⟩ := at_T34 HR0.out x4_1 p301 q301
              obtain rfl : ad300 = ad301 := (by injection e301)
              replace hx301_0 := (HB.out.cell (World.block_lt_of_cell? w _ hx301_0)).trans hx301_0
              replace hx301_1 := (HB.out.cell (World.block_lt_of_cell? w _ hx301_1)).trans hx301_1
              replace hx301_2 := (HB.out.cell (World.block_lt_of_cell? w _ hx301_2)).trans hx301_2
              replace hx301_3 := (HB.out.cell (World.block_lt_of_cell? w _ hx301_3)).trans hx301_3
              replace p301 := eq_true p301
              replace q301 := eq_true q301
              go_wp2
              go_roundg k1
              case measure => have := HK1.out; omega
              case rel => exact ⟨(ji6), (wrap64 (x4_1 + 1)), (by first | rfl | (simp; done) | (simp only [← hji6] <;> (first | rfl | simp)) | (simp [*]; done)), (by first | rfl | (simp; done) | (simp [*]; done)), H', ⟨by have := HK1.out; omega⟩, ⟨by repeat (first | (with_reducible first | exact HB.out | apply below_alloc | apply pw_below_drewN | apply below_drew1) | exact HB.out)⟩⟩
            · rw [if_neg c5] at H
              exact absurd H (by simp)
          · rw [if_neg c4] at H
            have c4b0 : decide (x4_1 < (l0.length : Int)) = false := decide_eq_false c4
            clear c4
            obtain rfl := Option.some.inj H
            go_wp2
            go_ret
            exact ⟨by first | rfl | (simp [errW_none, errW_some] <;> rfl) | (simp [*, errW_none, errW_some] <;> rfl), by repeat (first | (with_reducible first | exact HB.out | apply below_alloc | apply pw_below_drewN | apply below_drew1) | exact HB.out)⟩
    · rw [if_neg c3] at H
      exact absurd H (by simp)

end Go.Proofs.Ytnfbfachabdahaa.G
