/- Functions of the law and of what it calls as plain Lean functions, and that the calls come to their answers: written by fprint.py. -/
import Derived.Test.YtkmddhljfjjglaaDoorF17
import Derived.Test.YtkmddhljfjjglaaDoorG0
import Derived.Test.YtkmddhljfjjglaaDoorG4
namespace Go.Proofs.YtkmddhljfjjglaaDoor.G
open Go.RowKit Go.Proofs.YtkmddhljfjjglaaDoorW.PrintWords Go.Proofs.YtkmddhljfjjglaaDoorW.PrintLast Go.Proofs.YtkmddhljfjjglaaDoorW.PrintMore
attribute [local go_sem] max2_int min2_int max_two min_two max_three min_three max_four min_four   -- for this text's walks alone
set_option linter.unusedVariables false
set_option linter.unusedSimpArgs false

/-! ### gutterlaw18_PaintGaps: function 4 -/
mutual
def gutterlaw18_PaintGaps.j0 : Nat → Int → Int → Int → Int → Int → Bool → List (S30) → Int → Bool → Option (Bool)
  | 0, _, _, _, _, _, _, _, _, _ => none
  | k + 1, x0, x1, x2, x3, x4, x11, x12, x13, x34 => if x34 = true then (if x11 = true then (if x13 = 0 then (some true) else (some ((x12.length : Int) == 0))) else (some false)) else (if x3 > 0 then (gutterlaw18_PaintGaps.j1 k x1 x2 x3 x4 x11 x12 (mx 0 (wrap64 (x0 - 1)))) else (gutterlaw18_PaintGaps.j1 k x1 x2 x3 x4 x11 x12 0))
def gutterlaw18_PaintGaps.j1 : Nat → Int → Int → Int → Int → Bool → List (S30) → Int → Option (Bool)
  | 0, _, _, _, _, _, _, _ => none
  | k + 1, x1, x2, x3, x4, x11, x12, x14 => if (x12.length : Int) = x14 then (gutterlaw18_PaintGaps.l0 k x1 x2 x3 x4 x11 x12 0) else (some false)
def gutterlaw18_PaintGaps.l0 : Nat → Int → Int → Int → Int → Bool → List (S30) → Int → Option (Bool)
  | 0, _, _, _, _, _, _, _ => none
  | k + 1, x1, x2, x3, x4, x11, x12, x15 => if x15 < (x12.length : Int) then (if 0 ≤ x15 then (if (wrap64 ((wrap64 (((rd_T30 x12 x15).f0) - (wrap64 (x15 * (wrap64 (x1 + x2)))))) - x1)) < 0 then (some false) else (if (wrap64 ((wrap64 ((wrap64 ((wrap64 (x15 + 1)) * (wrap64 (x1 + x2)))) - ((rd_T30 x12 x15).f0))) - ((rd_T30 x12 x15).f2))) < (wrap64 ((wrap64 (((rd_T30 x12 x15).f0) - (wrap64 (x15 * (wrap64 (x1 + x2)))))) - x1)) then (some false) else (if (wrap64 ((wrap64 ((wrap64 ((wrap64 (x15 + 1)) * (wrap64 (x1 + x2)))) - ((rd_T30 x12 x15).f0))) - ((rd_T30 x12 x15).f2))) > (wrap64 ((wrap64 ((wrap64 (((rd_T30 x12 x15).f0) - (wrap64 (x15 * (wrap64 (x1 + x2)))))) - x1)) + 1)) then (some false) else (if ((rd_T30 x12 x15).f2) = x3 then (if ((rd_T30 x12 x15).f3) = x4 then (if ((rd_T30 x12 x15).f1) = 0 then (gutterlaw18_PaintGaps.l0 k x1 x2 x3 x4 x11 x12 (wrap64 (x15 + 1))) else (some false)) else (some false)) else (some false))))) else (none)) else (some x11)
end
def gutterlaw18_PaintGaps.f (k : Nat) (a0 : Int) (a1 : Int) (a2 : Int) (a3 : Int) (a4 : Int) : Option (Bool) := (gutterlaw18_shown.f k).bind fun t144 => ((paint_Rules.f a0 a1 a2 a3 0 a4).bind fun bt145 => (if bt145.2 = 0 then (gutterlaw18_PaintGaps.j0 k a0 a1 a2 a3 a4 t144 bt145.1 bt145.2 (decide (a2 < a3))) else (gutterlaw18_PaintGaps.j0 k a0 a1 a2 a3 a4 t144 bt145.1 bt145.2 true)))
theorem gutterlaw18_PaintGaps.mono_l : ∀ k, (∀ y0 y1 y2 y3 y4 y5 y6 y7 y8, LeO (gutterlaw18_PaintGaps.j0 k y0 y1 y2 y3 y4 y5 y6 y7 y8) (gutterlaw18_PaintGaps.j0 (k + 1) y0 y1 y2 y3 y4 y5 y6 y7 y8)) ∧ (∀ y0 y1 y2 y3 y4 y5 y6, LeO (gutterlaw18_PaintGaps.j1 k y0 y1 y2 y3 y4 y5 y6) (gutterlaw18_PaintGaps.j1 (k + 1) y0 y1 y2 y3 y4 y5 y6)) ∧ (∀ y0 y1 y2 y3 y4 y5 y6, LeO (gutterlaw18_PaintGaps.l0 k y0 y1 y2 y3 y4 y5 y6) (gutterlaw18_PaintGaps.l0 (k + 1) y0 y1 y2 y3 y4 y5 y6))
  | 0 => ⟨fun _ _ _ _ _ _ _ _ _ r h => by simp [gutterlaw18_PaintGaps.j0] at h, fun _ _ _ _ _ _ _ r h => by simp [gutterlaw18_PaintGaps.j1] at h, fun _ _ _ _ _ _ _ r h => by simp [gutterlaw18_PaintGaps.l0] at h⟩
  | k + 1 => by
    obtain ⟨ih0, ih1, ih2⟩ := gutterlaw18_PaintGaps.mono_l k
    refine ⟨?_, ?_, ?_⟩
    · intro y0 y1 y2 y3 y4 y5 y6 y7 y8
      unfold gutterlaw18_PaintGaps.j0
      repeat' first
      | (with_reducible exact ih0 _ _ _ _ _ _ _ _ _)
      | (with_reducible exact ih1 _ _ _ _ _ _ _)
      | (with_reducible exact ih2 _ _ _ _ _ _ _)
      | (with_reducible exact gutterlaw18_shown.mono _)
      | (with_reducible exact LeO.refl _)
      | (with_reducible exact LeO.none _)
      | (with_reducible refine LeO.ite ?_ ?_)
      | (with_reducible refine LeO.bind ?_ (fun _ => ?_))
      | exact ih0 _ _ _ _ _ _ _ _ _
      | exact ih1 _ _ _ _ _ _ _
      | exact ih2 _ _ _ _ _ _ _
      | exact gutterlaw18_shown.mono _
      | exact LeO.none _
      | refine LeO.ite ?_ ?_
      | refine LeO.bind ?_ (fun _ => ?_)
    · intro y0 y1 y2 y3 y4 y5 y6
      unfold gutterlaw18_PaintGaps.j1
      repeat' first
      | (with_reducible exact ih0 _ _ _ _ _ _ _ _ _)
      | (with_reducible exact ih1 _ _ _ _ _ _ _)
      | (with_reducible exact ih2 _ _ _ _ _ _ _)
      | (with_reducible exact gutterlaw18_shown.mono _)
      | (with_reducible exact LeO.refl _)
      | (with_reducible exact LeO.none _)
      | (with_reducible refine LeO.ite ?_ ?_)
      | (with_reducible refine LeO.bind ?_ (fun _ => ?_))
      | exact ih0 _ _ _ _ _ _ _ _ _
      | exact ih1 _ _ _ _ _ _ _
      | exact ih2 _ _ _ _ _ _ _
      | exact gutterlaw18_shown.mono _
      | exact LeO.none _
      | refine LeO.ite ?_ ?_
      | refine LeO.bind ?_ (fun _ => ?_)
    · intro y0 y1 y2 y3 y4 y5 y6
      unfold gutterlaw18_PaintGaps.l0
      repeat' first
      | (with_reducible exact ih0 _ _ _ _ _ _ _ _ _)
      | (with_reducible exact ih1 _ _ _ _ _ _ _)
      | (with_reducible exact ih2 _ _ _ _ _ _ _)
      | (with_reducible exact gutterlaw18_shown.mono _)
      | (with_reducible exact LeO.refl _)
      | (with_reducible exact LeO.none _)
      | (with_reducible refine LeO.ite ?_ ?_)
      | (with_reducible refine LeO.bind ?_ (fun _ => ?_))
      | exact ih0 _ _ _ _ _ _ _ _ _
      | exact ih1 _ _ _ _ _ _ _
      | exact ih2 _ _ _ _ _ _ _
      | exact gutterlaw18_shown.mono _
      | exact LeO.none _
      | refine LeO.ite ?_ ?_
      | refine LeO.bind ?_ (fun _ => ?_)
theorem gutterlaw18_PaintGaps.mono : ∀ a0 a1 a2 a3 a4 k, LeO (gutterlaw18_PaintGaps.f k a0 a1 a2 a3 a4) (gutterlaw18_PaintGaps.f (k + 1) a0 a1 a2 a3 a4) := by
  intro a0 a1 a2 a3 a4 k
  obtain ⟨ih0, ih1, ih2⟩ := gutterlaw18_PaintGaps.mono_l k
  unfold gutterlaw18_PaintGaps.f
  repeat' first
      | (with_reducible exact ih0 _ _ _ _ _ _ _ _ _)
      | (with_reducible exact ih1 _ _ _ _ _ _ _)
      | (with_reducible exact ih2 _ _ _ _ _ _ _)
      | (with_reducible exact gutterlaw18_shown.mono _)
      | (with_reducible exact LeO.refl _)
      | (with_reducible exact LeO.none _)
      | (with_reducible refine LeO.ite ?_ ?_)
      | (with_reducible refine LeO.bind ?_ (fun _ => ?_))
      | exact ih0 _ _ _ _ _ _ _ _ _
      | exact ih1 _ _ _ _ _ _ _
      | exact ih2 _ _ _ _ _ _ _
      | exact gutterlaw18_shown.mono _
      | exact LeO.none _
      | refine LeO.ite ?_ ?_
      | refine LeO.bind ?_ (fun _ => ?_)
set_option maxHeartbeats 8000000 in
set_option maxRecDepth 100000 in
theorem gutterlaw18_PaintGaps.calls (k : Nat) (a0 : Int) (a1 : Int) (a2 : Int) (a3 : Int) (a4 : Int) (r : Bool) (w : World) (h : gutterlaw18_PaintGaps.f k a0 a1 a2 a3 a4 = some r) (hG : GOK w) :
    Calls Tryd.prog 4 #[.int .i64 a0, .int .i64 a1, .int .i64 a2, .int .i64 a3, .int .i64 a4] w fun e w' => e = .returned (.bool r) ∧ Below w.heap.size w w' := by
  have HG := Aside0.mk hG
  clear hG
  have HB := Aside0.mk (Below.refl w.heap.size w)
  have H : ((gutterlaw18_shown.f k).bind fun t144 => ((paint_Rules.f a0 a1 a2 a3 0 a4).bind fun bt145 => (if bt145.2 = 0 then (gutterlaw18_PaintGaps.j0 k a0 a1 a2 a3 a4 t144 bt145.1 bt145.2 (decide (a2 < a3))) else (gutterlaw18_PaintGaps.j0 k a0 a1 a2 a3 a4 t144 bt145.1 bt145.2 true)))) = some r := h
  clear h
  replace H := Option.bind_eq_some_iff.mp H
  obtain ⟨t144, A60, H⟩ := H
  replace H : ((paint_Rules.f a0 a1 a2 a3 0 a4).bind fun bt145 => (if bt145.2 = 0 then (gutterlaw18_PaintGaps.j0 k a0 a1 a2 a3 a4 t144 bt145.1 bt145.2 (decide (a2 < a3))) else (gutterlaw18_PaintGaps.j0 k a0 a1 a2 a3 a4 t144 bt145.1 bt145.2 true))) = some r := H
  have A6 := Aside0.mk A60
  clear A60
  replace H := Option.bind_eq_some_iff.mp H
  obtain ⟨⟨t145, t146⟩, A70, H⟩ := H
  replace H : (if t146 = 0 then (gutterlaw18_PaintGaps.j0 k a0 a1 a2 a3 a4 t144 t145 t146 (decide (a2 < a3))) else (gutterlaw18_PaintGaps.j0 k a0 a1 a2 a3 a4 t144 t145 t146 true)) = some r := H
  have A7 := Aside0.mk A70
  clear A70
  have HC8 := Aside0.mk H
  clear H
  go_enter Tryd.func4, Tryd.ntmps4
  go_upto_region 3 with (first | (go_at_call 9; (with_reducible refine (gutterlaw18_shown.calls k  t144 _ A6.out (GOK.below HG.out (by repeat (first | (with_reducible first | exact HB.out | apply below_alloc | apply pw_below_drewN | apply below_drew1) | exact HB.out)))).mono ?_); rintro e w9 ⟨rfl, hb⟩; have n0_ := Aside0.mk (below_step (by repeat (first | (with_reducible first | exact HB.out | apply below_alloc | apply pw_below_drewN | apply below_drew1) | exact HB.out)) hb); clear HB; have HB := n0_; clear n0_; (try clear hb); (try clear hb2); (try clear hk); (try clear hi)) | (go_at_call 10; (with_reducible refine (paint_Rules.calls a0 a1 a2 a3 0 a4 t145 t146 _ A7.out (GOK.below HG.out (by repeat (first | (with_reducible first | exact HB.out | apply below_alloc | apply pw_below_drewN | apply below_drew1) | exact HB.out)))).mono ?_); rintro e w10 ⟨v147, rfl, ho0, hb⟩; have n0_ := Aside0.mk (Kd.R_lower ho0 (below_size (by repeat (first | (with_reducible first | exact HB.out | apply below_alloc | apply pw_below_drewN | apply below_drew1) | exact HB.out)))); have n1_ := Aside0.mk (below_step (by repeat (first | (with_reducible first | exact HB.out | apply below_alloc | apply pw_below_drewN | apply below_drew1) | exact HB.out)) hb); clear HB; have HO148 := n0_; have HB := n1_; clear n0_ n1_; (try clear hb); (try clear hb2); (try clear hk); (try clear hi); (try clear ho0)))
  repeat (go_quiet (first | (go_at_call 9; (with_reducible refine (gutterlaw18_shown.calls k  t144 _ A6.out (GOK.below HG.out (by repeat (first | (with_reducible first | exact HB.out | apply below_alloc | apply pw_below_drewN | apply below_drew1) | exact HB.out)))).mono ?_); rintro e w9 ⟨rfl, hb⟩; have n0_ := Aside0.mk (below_step (by repeat (first | (with_reducible first | exact HB.out | apply below_alloc | apply pw_below_drewN | apply below_drew1) | exact HB.out)) hb); clear HB; have HB := n0_; clear n0_; (try clear hb); (try clear hb2); (try clear hk); (try clear hi)) | (go_at_call 10; (with_reducible refine (paint_Rules.calls a0 a1 a2 a3 0 a4 t145 t146 _ A7.out (GOK.below HG.out (by repeat (first | (with_reducible first | exact HB.out | apply below_alloc | apply pw_below_drewN | apply below_drew1) | exact HB.out)))).mono ?_); rintro e w10 ⟨v147, rfl, ho0, hb⟩; have n0_ := Aside0.mk (Kd.R_lower ho0 (below_size (by repeat (first | (with_reducible first | exact HB.out | apply below_alloc | apply pw_below_drewN | apply below_drew1) | exact HB.out)))); have n1_ := Aside0.mk (below_step (by repeat (first | (with_reducible first | exact HB.out | apply below_alloc | apply pw_below_drewN | apply below_drew1) | exact HB.out)) hb); clear HB; have HO148 := n0_; have HB := n1_; clear n0_ n1_; (try clear hb); (try clear hb2); (try clear hk); (try clear hi); (try clear ho0))); go_upto_region 3 with (first | (go_at_call 9; (with_reducible refine (gutterlaw18_shown.calls k  t144 _ A6.out (GOK.below HG.out (by repeat (first | (with_reducible first | exact HB.out | apply below_alloc | apply pw_below_drewN | apply below_drew1) | exact HB.out)))).mono ?_); rintro e w9 ⟨rfl, hb⟩; have n0_ := Aside0.mk (below_step (by repeat (first | (with_reducible first | exact HB.out | apply below_alloc | apply pw_below_drewN | apply below_drew1) | exact HB.out)) hb); clear HB; have HB := n0_; clear n0_; (try clear hb); (try clear hb2); (try clear hk); (try clear hi)) | (go_at_call 10; (with_reducible refine (paint_Rules.calls a0 a1 a2 a3 0 a4 t145 t146 _ A7.out (GOK.below HG.out (by repeat (first | (with_reducible first | exact HB.out | apply below_alloc | apply pw_below_drewN | apply below_drew1) | exact HB.out)))).mono ?_); rintro e w10 ⟨v147, rfl, ho0, hb⟩; have n0_ := Aside0.mk (Kd.R_lower ho0 (below_size (by repeat (first | (with_reducible first | exact HB.out | apply below_alloc | apply pw_below_drewN | apply below_drew1) | exact HB.out)))); have n1_ := Aside0.mk (below_step (by repeat (first | (with_reducible first | exact HB.out | apply below_alloc | apply pw_below_drewN | apply below_drew1) | exact HB.out)) hb); clear HB; have HO148 := n0_; have HB := n1_; clear n0_ n1_; (try clear hb); (try clear hb2); (try clear hk); (try clear hi); (try clear ho0))))
  (try simp only [Act.put, List.setIfInBounds_toArray, List.set_cons_zero, List.set_cons_succ])
  go_cut [34] (fun v34 wc => ∃ (kq : Nat) (x34_7 : Bool), v34 = .bool x34_7 ∧ Aside0 (gutterlaw18_PaintGaps.j0 kq a0 a1 a2 a3 a4 t144 t145 t146 x34_7 = some r) ∧ Aside0 (kq ≤ k) ∧ Aside0 (Kd.R k30 30 wc w.heap.size (fun _ => True) v147 t145) ∧ Aside0 (Below w.heap.size w wc))
  case first =>
    have H := HC8.out
    clear HC8
    by_cases c11 : t146 = 0
    · rw [if_pos c11] at H
      have c11b0 : (t146 == 0) = true := beq_iff_eq.mpr c11
      have c11b1 : (t146 != 0) = false := bne_eq_false_iff_eq.mpr c11
      clear c11
      (first | rw [c11b0] | (simp only [i64_w, i32_w]; rw [c11b0]) | skip)
      have H' := Aside0.mk H
      clear H
      go_wp2
      repeat (go_quiet (fail); try go_wp2)
      go_meet
      case rel => exact ⟨_, (decide (a2 < a3)), (by first | rfl | (simp; done) | (simp [*]; done)), H', ⟨by first | omega | exact Nat.le_refl _⟩, ⟨by (with_reducible repeat (first | apply Kd.R_alloc | apply Kd.R_drewN | apply Kd.R_drew)); exact HO148.out⟩, ⟨by repeat (first | (with_reducible first | exact HB.out | apply below_alloc | apply pw_below_drewN | apply below_drew1) | exact HB.out)⟩⟩
    · rw [if_neg c11] at H
      have c11b0 : (t146 == 0) = false := beq_eq_false_iff_ne.mpr c11
      have c11b1 : (t146 != 0) = true := bne_iff_ne.mpr c11
      (first | rw [c11b0] | (simp only [i64_w, i32_w]; rw [c11b0]) | skip)
      have H' := Aside0.mk H
      clear H
      go_wp2
      repeat (go_quiet (fail); try go_wp2)
      go_meet
      case rel => exact ⟨_, (true), (by first | rfl | (simp; done) | (simp [*]; done)), H', ⟨by first | omega | exact Nat.le_refl _⟩, ⟨by (with_reducible repeat (first | apply Kd.R_alloc | apply Kd.R_drewN | apply Kd.R_drew)); exact HO148.out⟩, ⟨by repeat (first | (with_reducible first | exact HB.out | apply below_alloc | apply pw_below_drewN | apply below_drew1) | exact HB.out)⟩⟩
  case rest =>
    clear HC8
    try clear c1
    try clear p2
    try clear c4
    try clear c11
    try clear c11b0
    try clear c11b1
    obtain ⟨kq, x34_7, rfl, HA, HJ7, HO_12, HB⟩ := hcut
    cases kq with
    | zero => exact absurd HA.out (by simp [gutterlaw18_PaintGaps.j0])
    | succ kj7 =>
      have H := HA.out
      clear HA
      simp only [gutterlaw18_PaintGaps.j0] at H
      by_cases c12 : x34_7 = true
      · subst c12
        have H1 : (if t144 = true then (if t146 = 0 then (some true) else (some ((t145.length : Int) == 0))) else (some false)) = some r := by rw [if_pos rfl] at H; exact H
        clear H
        have H := H1
        clear H1
        by_cases c13 : t144 = true
        · subst c13
          have H1 : (if t146 = 0 then (some true) else (some ((t145.length : Int) == 0))) = some r := by rw [if_pos rfl] at H; exact H
          clear H
          have H := H1
          clear H1
          by_cases c14 : t146 = 0
          · rw [if_pos c14] at H
            have c14b0 : (t146 == 0) = true := beq_iff_eq.mpr c14
            have c14b1 : (t146 != 0) = false := bne_eq_false_iff_eq.mpr c14
            clear c14
            obtain rfl := Option.some.inj H
            go_wp2
            repeat (go_quiet (fail); try go_wp2)
            go_ret
            exact ⟨by first | rfl | (simp [errW_none, errW_some] <;> rfl) | (simp [*, errW_none, errW_some] <;> rfl), by repeat (first | (with_reducible first | exact HB.out | apply below_alloc | apply pw_below_drewN | apply below_drew1) | exact HB.out)⟩
          · rw [if_neg c14] at H
            have c14b0 : (t146 == 0) = false := beq_eq_false_iff_ne.mpr c14
            have c14b1 : (t146 != 0) = true := bne_iff_ne.mpr c14
            obtain rfl := Option.some.inj H
            obtain ⟨Ao15, co15, eo15⟩ := Kd.R_slice HO_12.out
            subst eo15
            go_wp2
            repeat (go_quiet (fail); try go_wp2)
            go_ret
            exact ⟨by first | rfl | (simp [errW_none, errW_some] <;> rfl) | (simp [*, errW_none, errW_some] <;> rfl), by repeat (first | (with_reducible first | exact HB.out | apply below_alloc | apply pw_below_drewN | apply below_drew1) | exact HB.out)⟩
        · replace c13 := Bool.eq_false_iff.mpr c13
          subst c13
          have H1 : (some false) = some r := by rw [if_neg (show ¬ (false = true) by decide)] at H; exact H
          clear H
          have H := H1
          clear H1
          obtain rfl := Option.some.inj H
          go_wp2
          repeat (go_quiet (fail); try go_wp2)
          go_ret
          exact ⟨by first | rfl | (simp [errW_none, errW_some] <;> rfl) | (simp [*, errW_none, errW_some] <;> rfl), by repeat (first | (with_reducible first | exact HB.out | apply below_alloc | apply pw_below_drewN | apply below_drew1) | exact HB.out)⟩
      · replace c12 := Bool.eq_false_iff.mpr c12
        subst c12
        have H1 : (if a3 > 0 then (gutterlaw18_PaintGaps.j1 kj7 a1 a2 a3 a4 t144 t145 (mx 0 (wrap64 (a0 - 1)))) else (gutterlaw18_PaintGaps.j1 kj7 a1 a2 a3 a4 t144 t145 0)) = some r := by rw [if_neg (show ¬ (false = true) by decide)] at H; exact H
        clear H
        have H := H1
        clear H1
        have HC16 := Aside0.mk H
        clear H
        go_upto_if 46 with (fail)
        repeat (go_quiet (fail); go_upto_if 46 with (fail))
        go_cut [14] (fun v14 wc => ∃ (kq : Nat) (x14_15 : Int), v14 = .int .i64 x14_15 ∧ Aside0 (gutterlaw18_PaintGaps.j1 kq a1 a2 a3 a4 t144 t145 x14_15 = some r) ∧ Aside0 (kq ≤ kj7) ∧ Aside0 (Kd.R k30 30 wc w.heap.size (fun _ => True) v147 t145) ∧ Aside0 (Below w.heap.size w wc))
        case first =>
          have H := HC16.out
          clear HC16
          by_cases c17 : a3 > 0
          · rw [if_pos c17] at H
            have c17b0 : decide (0 < a3) = true := decide_eq_true c17
            clear c17
            (first | rw [c17b0] | (simp only [i64_w, i32_w]; rw [c17b0]) | skip)
            obtain ⟨ji18, hji18⟩ : ∃ j_ : Int, (mx 0 (wrap64 (a0 - 1))) = j_ := ⟨_, rfl⟩
            replace H : (gutterlaw18_PaintGaps.j1 kj7 a1 a2 a3 a4 t144 t145 ji18) = some r := by first | (rw [hji18] at H; exact H) | (simp only [hji18] at H ⊢; exact H)
            have hji18_ : (if 0 < (wrap64 (a0 - 1)) then (wrap64 (a0 - 1)) else 0) = ji18 := hji18
            have H' := Aside0.mk H
            clear H
            go_wp2
            repeat (go_quiet (fail); try go_wp2)
            go_meet
            case rel => exact ⟨_, (ji18), (by first | rfl | (simp; done) | (simp only [← hji18] <;> (first | rfl | simp)) | (simp [*]; done)), H', ⟨by have := HJ7.out; first | omega | exact Nat.le_refl _⟩, ⟨by (with_reducible repeat (first | apply Kd.R_alloc | apply Kd.R_drewN | apply Kd.R_drew)); exact HO_12.out⟩, ⟨by repeat (first | (with_reducible first | exact HB.out | apply below_alloc | apply pw_below_drewN | apply below_drew1) | exact HB.out)⟩⟩
          · rw [if_neg c17] at H
            have c17b0 : decide (0 < a3) = false := decide_eq_false c17
            clear c17
            (first | rw [c17b0] | (simp only [i64_w, i32_w]; rw [c17b0]) | skip)
            have H' := Aside0.mk H
            clear H
            go_wp2
            repeat (go_quiet (fail); try go_wp2)
            go_meet
            case rel => exact ⟨_, (0), (by first | rfl | (simp; done) | (simp [*]; done)), H', ⟨by have := HJ7.out; first | omega | exact Nat.le_refl _⟩, ⟨by (with_reducible repeat (first | apply Kd.R_alloc | apply Kd.R_drewN | apply Kd.R_drew)); exact HO_12.out⟩, ⟨by repeat (first | (with_reducible first | exact HB.out | apply below_alloc | apply pw_below_drewN | apply below_drew1) | exact HB.out)⟩⟩
        case rest =>
          clear HC16
          try clear c1
          try clear p2
          try clear c4
          try clear p6
          try clear c11
          try clear c11b0
          try clear c11b1
          try clear c12
          try clear c13
          try clear c14
          try clear c14b0
          try clear c14b1
          try clear c17
          try clear c17b0
          try clear p2
          obtain ⟨kq, x14_15, rfl, HA, HJ15, HO_12, HB⟩ := hcut
          cases kq with
          | zero => exact absurd HA.out (by simp [gutterlaw18_PaintGaps.j1])
          | succ kj15 =>
            have H := HA.out
            clear HA
            simp only [gutterlaw18_PaintGaps.j1] at H
            by_cases c19 : (t145.length : Int) = x14_15
            · rw [if_pos c19] at H
              have c19b0 : ((t145.length : Int) == x14_15) = true := beq_iff_eq.mpr c19
              have c19b1 : ((t145.length : Int) != x14_15) = false := bne_eq_false_iff_eq.mpr c19
              clear c19
              have H' := Aside0.mk H
              clear H
              obtain ⟨Ao20, co20, eo20⟩ := Kd.R_slice HO_12.out
              subst eo20
              go_wp2
              repeat (go_quiet (fail); try go_wp2)
              go_loopg [15] kj15 (fun kq v15 w' => ∃ (x15_3 : Int), v15 = .int .i64 x15_3 ∧ Aside0 (gutterlaw18_PaintGaps.l0 kq a1 a2 a3 a4 t144 t145 x15_3 = some r) ∧ Aside0 (kq ≤ kj15) ∧ Aside0 (Kd.R k30 30 w' w.heap.size (fun _ => True) (.slice Ao20 t145.length co20) t145) ∧ Aside0 (Below w.heap.size w w'))
              case atStart => exact ⟨(0), (by first | rfl | (simp; done) | (simp [*]; done)), H', ⟨Nat.le_refl _⟩, ⟨by (with_reducible repeat (first | apply Kd.R_alloc | apply Kd.R_drewN | apply Kd.R_drew)); exact HO_12.out⟩, ⟨by repeat (first | (with_reducible first | exact HB.out | apply below_alloc | apply pw_below_drewN | apply below_drew1) | exact HB.out)⟩⟩
              case round =>
                clear H'
                try clear c1
                try clear p2
                try clear c4
                try clear p6
                try clear c11
                try clear c11b0
                try clear c11b1
                try clear c12
                try clear c13
                try clear c14
                try clear c14b0
                try clear c14b1
                try clear c17
                try clear c17b0
                try clear c19
                try clear c19b0
                try clear c19b1
                try clear p2
                try clear p6
                obtain ⟨x15_3, rfl, HA, HK3, HO_12, HB⟩ := hrel
                cases gk with
                | zero => exact absurd HA.out (by simp [gutterlaw18_PaintGaps.l0])
                | succ k3 =>
                  have H := HA.out
                  clear HA
                  simp only [gutterlaw18_PaintGaps.l0] at H
                  by_cases c21 : x15_3 < (t145.length : Int)
                  · rw [if_pos c21] at H
                    have c21b0 : decide (x15_3 < (t145.length : Int)) = true := decide_eq_true c21
                    clear c21
                    by_cases c22 : 0 ≤ x15_3
                    · rw [if_pos c22] at H
                      have c22b0 : decide (0 ≤ x15_3) = true := decide_eq_true c22
                      clear c22
                      by_cases c23 : (wrap64 ((wrap64 (((rd_T30 t145 x15_3).f0) - (wrap64 (x15_3 * (wrap64 (a1 + a2)))))) - a1)) < 0
                      · rw [if_pos c23] at H
                        have c23b0 : decide ((wrap64 ((wrap64 (((rd_T30 t145 x15_3).f0) - (wrap64 (x15_3 * (wrap64 (a1 + a2)))))) - a1)) < 0) = true := decide_eq_true c23
                        clear c23
                        obtain rfl := Option.some.inj H
                        have p149 : 0 ≤ (x15_3 : Int) := of_decide_eq_true (by first | (with_reducible assumption) | assumption)
                        have q149 : x15_3 < (t145.length : Int) := of_decide_eq_true (by first | (with_reducible assumption) | assumption)
                        obtain ⟨ad149, e149, hx149_0, hx149_1, hx149_2, hx149_3⟩ := at_T30 (Kd.R_reads' HO_12.out).2.2 x15_3 p149 q149
                        cases e149
                        replace p149 := eq_true p149
                        replace q149 := eq_true q149
                        have p150 : 0 ≤ (x15_3 : Int) := of_decide_eq_true (by first | (with_reducible assumption) | assumption)
                        have q150 : x15_3 < (t145.length : Int) := of_decide_eq_true (by first | (with_reducible assumption) | assumption)
                        obtain ⟨ad150, e150, hx150_0, hx150_1, hx150_2, hx150_3⟩ := at_T30 (Kd.R_reads' HO_12.out).2.2 x15_3 p150 q150
                        obtain rfl : ad149 = ad150 := (by injection e150)
                        replace p150 := eq_true p150
                        replace q150 := eq_true q150
                        have p151 : 0 ≤ (x15_3 : Int) := of_decide_eq_true (by first | (with_reducible assumption) | assumption)
                        have q151 : x15_3 < (t145.length : Int) := of_decide_eq_true (by first | (with_reducible assumption) | assumption)
                        obtain ⟨ad151, e151, hx151_0, hx151_1, hx151_2, hx151_3⟩ := at_T30 (Kd.R_reads' HO_12.out).2.2 x15_3 p151 q151
                        obtain rfl : ad149 = ad151 := (by injection e151)
                        replace p151 := eq_true p151
                        replace q151 := eq_true q151
                        go_wp2
                        repeat (go_quiet (fail); try go_wp2)
                        go_ret
                        exact ⟨by first | rfl | (simp [errW_none, errW_some] <;> rfl) | (simp [*, errW_none, errW_some] <;> rfl), by repeat (first | (with_reducible first | exact HB.out | apply below_alloc | apply pw_below_drewN | apply below_drew1) | exact HB.out)⟩
                      · rw [if_neg c23] at H
                        have c23b0 : decide ((wrap64 ((wrap64 (((rd_T30 t145 x15_3).f0) - (wrap64 (x15_3 * (wrap64 (a1 + a2)))))) - a1)) < 0) = false := decide_eq_false c23
                        clear c23
                        by_cases c24 : (wrap64 ((wrap64 ((wrap64 ((wrap64 (x15_3 + 1)) * (wrap64 (a1 + a2)))) - ((rd_T30 t145 x15_3).f0))) - ((rd_T30 t145 x15_3).f2))) < (wrap64 ((wrap64 (((rd_T30 t145 x15_3).f0) - (wrap64 (x15_3 * (wrap64 (a1 + a2)))))) - a1))
                        · rw [if_pos c24] at H
                          have c24b0 : decide ((wrap64 ((wrap64 ((wrap64 ((wrap64 (x15_3 + 1)) * (wrap64 (a1 + a2)))) - ((rd_T30 t145 x15_3).f0))) - ((rd_T30 t145 x15_3).f2))) < (wrap64 ((wrap64 (((rd_T30 t145 x15_3).f0) - (wrap64 (x15_3 * (wrap64 (a1 + a2)))))) - a1))) = true := decide_eq_true c24
                          clear c24
                          obtain rfl := Option.some.inj H
                          have p149 : 0 ≤ (x15_3 : Int) := of_decide_eq_true (by first | (with_reducible assumption) | assumption)
                          have q149 : x15_3 < (t145.length : Int) := of_decide_eq_true (by first | (with_reducible assumption) | assumption)
                          obtain ⟨ad149, e149, hx149_0, hx149_1, hx149_2, hx149_3⟩ := at_T30 (Kd.R_reads' HO_12.out).2.2 x15_3 p149 q149
                          cases e149
                          replace p149 := eq_true p149
                          replace q149 := eq_true q149
                          have p150 : 0 ≤ (x15_3 : Int) := of_decide_eq_true (by first | (with_reducible assumption) | assumption)
                          have q150 : x15_3 < (t145.length : Int) := of_decide_eq_true (by first | (with_reducible assumption) | assumption)
                          obtain ⟨ad150, e150, hx150_0, hx150_1, hx150_2, hx150_3⟩ := at_T30 (Kd.R_reads' HO_12.out).2.2 x15_3 p150 q150
                          obtain rfl : ad149 = ad150 := (by injection e150)
                          replace p150 := eq_true p150
                          replace q150 := eq_true q150
                          have p151 : 0 ≤ (x15_3 : Int) := of_decide_eq_true (by first | (with_reducible assumption) | assumption)
                          have q151 : x15_3 < (t145.length : Int) := of_decide_eq_true (by first | (with_reducible assumption) | assumption)
                          obtain ⟨ad151, e151, hx151_0, hx151_1, hx151_2, hx151_3⟩ := at_T30 (Kd.R_reads' HO_12.out).2.2 x15_3 p151 q151
                          obtain rfl : ad149 = ad151 := (by injection e151)
                          replace p151 := eq_true p151
                          replace q151 := eq_true q151
                          go_wp2
                          repeat (go_quiet (fail); try go_wp2)
                          go_ret
                          exact ⟨by first | rfl | (simp [errW_none, errW_some] <;> rfl) | (simp [*, errW_none, errW_some] <;> rfl), by repeat (first | (with_reducible first | exact HB.out | apply below_alloc | apply pw_below_drewN | apply below_drew1) | exact HB.out)⟩
                        · rw [if_neg c24] at H
                          have c24b0 : decide ((wrap64 ((wrap64 ((wrap64 ((wrap64 (x15_3 + 1)) * (wrap64 (a1 + a2)))) - ((rd_T30 t145 x15_3).f0))) - ((rd_T30 t145 x15_3).f2))) < (wrap64 ((wrap64 (((rd_T30 t145 x15_3).f0) - (wrap64 (x15_3 * (wrap64 (a1 + a2)))))) - a1))) = false := decide_eq_false c24
                          clear c24
                          by_cases c25 : (wrap64 ((wrap64 ((wrap64 ((wrap64 (x15_3 + 1)) * (wrap64 (a1 + a2)))) - ((rd_T30 t145 x15_3).f0))) - ((rd_T30 t145 x15_3).f2))) > (wrap64 ((wrap64 ((wrap64 (((rd_T30 t145 x15_3).f0) - (wrap64 (x15_3 * (wrap64 (a1 + a2)))))) - a1)) + 1))
                          · rw [if_pos c25] at H
                            have c25b0 : decide ((wrap64 ((wrap64 ((wrap64 (((rd_T30 t145 x15_3).f0) - (wrap64 (x15_3 * (wrap64 (a1 + a2)))))) - a1)) + 1)) < (wrap64 ((wrap64 ((wrap64 ((wrap64 (x15_3 + 1)) * (wrap64 (a1 + a2)))) - ((rd_T30 t145 x15_3).f0))) - ((rd_T30 t145 x15_3).f2)))) = true := decide_eq_true c25
                            clear c25
                            obtain rfl := Option.some.inj H
                            have p149 : 0 ≤ (x15_3 : Int) := of_decide_eq_true (by first | (with_reducible assumption) | assumption)
                            have q149 : x15_3 < (t145.length : Int) := of_decide_eq_true (by first | (with_reducible assumption) | assumption)
                            obtain ⟨ad149, e149, hx149_0, hx149_1, hx149_2, hx149_3⟩ := at_T30 (Kd.R_reads' HO_12.out).2.2 x15_3 p149 q149
                            cases e149
                            replace p149 := eq_true p149
                            replace q149 := eq_true q149
                            have p150 : 0 ≤ (x15_3 : Int) := of_decide_eq_true (by first | (with_reducible assumption) | assumption)
                            have q150 : x15_3 < (t145.length : Int) := of_decide_eq_true (by first | (with_reducible assumption) | assumption)
                            obtain ⟨ad150, e150, hx150_0, hx150_1, hx150_2, hx150_3⟩ := at_T30 (Kd.R_reads' HO_12.out).2.2 x15_3 p150 q150
                            obtain rfl : ad149 = ad150 := (by injection e150)
                            replace p150 := eq_true p150
                            replace q150 := eq_true q150
                            have p151 : 0 ≤ (x15_3 : Int) := of_decide_eq_true (by first | (with_reducible assumption) | assumption)
                            have q151 : x15_3 < (t145.length : Int) := of_decide_eq_true (by first | (with_reducible assumption) | assumption)
                            obtain ⟨ad151, e151, hx151_0, hx151_1, hx151_2, hx151_3⟩ := at_T30 (Kd.R_reads' HO_12.out).2.2 x15_3 p151 q151
                            obtain rfl : ad149 = ad151 := (by injection e151)
                            replace p151 := eq_true p151
                            replace q151 := eq_true q151
                            go_wp2
                            repeat (go_quiet (fail); try go_wp2)
                            go_ret
                            exact ⟨by first | rfl | (simp [errW_none, errW_some] <;> rfl) | (simp [*, errW_none, errW_some] <;> rfl), by repeat (first | (with_reducible first | exact HB.out | apply below_alloc | apply pw_below_drewN | apply below_drew1) | exact HB.out)⟩
                          · rw [if_neg c25] at H
                            have c25b0 : decide ((wrap64 ((wrap64 ((wrap64 (((rd_T30 t145 x15_3).f0) - (wrap64 (x15_3 * (wrap64 (a1 + a2)))))) - a1)) + 1)) < (wrap64 ((wrap64 ((wrap64 ((wrap64 (x15_3 + 1)) * (wrap64 (a1 + a2)))) - ((rd_T30 t145 x15_3).f0))) - ((rd_T30 t145 x15_3).f2)))) = false := decide_eq_false c25
                            clear c25
                            by_cases c26 : ((rd_T30 t145 x15_3).f2) = a3
                            · rw [if_pos c26] at H
                              have c26b0 : (((rd_T30 t145 x15_3).f2) == a3) = true := beq_iff_eq.mpr c26
                              have c26b1 : (((rd_T30 t145 x15_3).f2) != a3) = false := bne_eq_false_iff_eq.mpr c26
                              clear c26
                              by_cases c27 : ((rd_T30 t145 x15_3).f3) = a4
                              · rw [if_pos c27] at H
                                have c27b0 : (((rd_T30 t145 x15_3).f3) == a4) = true := beq_iff_eq.mpr c27
                                have c27b1 : (((rd_T30 t145 x15_3).f3) != a4) = false := bne_eq_false_iff_eq.mpr c27
                                clear c27
                                by_cases c28 : ((rd_T30 t145 x15_3).f1) = 0
                                · rw [if_pos c28] at H
                                  have c28b0 : (((rd_T30 t145 x15_3).f1) == 0) = true := beq_iff_eq.mpr c28
                                  have c28b1 : (((rd_T30 t145 x15_3).f1) != 0) = false := bne_eq_false_iff_eq.mpr c28
                                  clear c28
                                  have H' := Aside0.mk H
                                  clear H
                                  have p149 : 0 ≤ (x15_3 : Int) := of_decide_eq_true (by first | (with_reducible assumption) | assumption)
                                  have q149 : x15_3 < (t145.length : Int) := of_decide_eq_true (by first | (with_reducible assumption) | assumption)
                                  obtain ⟨ad149, e149, hx149_0, hx149_1, hx149_2, hx149_3⟩ := at_T30 (Kd.R_reads' HO_12.out).2.2 x15_3 p149 q149
                                  cases e149
                                  replace p149 := eq_true p149
                                  replace q149 := eq_true q149
                                  have p150 : 0 ≤ (x15_3 : Int) := of_decide_eq_true (by first | (with_reducible assumption) | assumption)
                                  have q150 : x15_3 < (t145.length : Int) := of_decide_eq_true (by first | (with_reducible assumption) | assumption)
                                  obtain ⟨ad150, e150, hx150_0, hx150_1, hx150_2, hx150_3⟩ := at_T30 (Kd.R_reads' HO_12.out).2.2 x15_3 p150 q150
                                  obtain rfl : ad149 = ad150 := (by injection e150)
                                  replace p150 := eq_true p150
                                  replace q150 := eq_true q150
                                  have p151 : 0 ≤ (x15_3 : Int) := of_decide_eq_true (by first | (with_reducible assumption) | assumption)
                                  have q151 : x15_3 < (t145.length : Int) := of_decide_eq_true (by first | (with_reducible assumption) | assumption)
                                  obtain ⟨ad151, e151, hx151_0, hx151_1, hx151_2, hx151_3⟩ := at_T30 (Kd.R_reads' HO_12.out).2.2 x15_3 p151 q151
                                  obtain rfl : ad149 = ad151 := (by injection e151)
                                  replace p151 := eq_true p151
                                  replace q151 := eq_true q151
                                  have p152 : 0 ≤ (x15_3 : Int) := of_decide_eq_true (by first | (with_reducible assumption) | assumption)
                                  have q152 : x15_3 < (t145.length : Int) := of_decide_eq_true (by first | (with_reducible assumption) | assumption)
                                  obtain ⟨ad152, e152, hx152_0, hx152_1, hx152_2, hx152_3⟩ := at_T30 (Kd.R_reads' HO_12.out).2.2 x15_3 p152 q152
                                  obtain rfl : ad149 = ad152 := (by injection e152)
                                  replace p152 := eq_true p152
                                  replace q152 := eq_true q152
                                  have p153 : 0 ≤ (x15_3 : Int) := of_decide_eq_true (by first | (with_reducible assumption) | assumption)
                                  have q153 : x15_3 < (t145.length : Int) := of_decide_eq_true (by first | (with_reducible assumption) | assumption)
                                  obtain ⟨ad153, e153, hx153_0, hx153_1, hx153_2, hx153_3⟩ := at_T30 (Kd.R_reads' HO_12.out).2.2 x15_3 p153 q153
                                  obtain rfl : ad149 = ad153 := (by injection e153)
                                  replace p153 := eq_true p153
                                  replace q153 := eq_true q153
                                  have p154 : 0 ≤ (x15_3 : Int) := of_decide_eq_true (by first | (with_reducible assumption) | assumption)
                                  have q154 : x15_3 < (t145.length : Int) := of_decide_eq_true (by first | (with_reducible assumption) | assumption)
                                  obtain ⟨ad154, e154, hx154_0, hx154_1, hx154_2, hx154_3⟩ := at_T30 (Kd.R_reads' HO_12.out).2.2 x15_3 p154 q154
                                  obtain rfl : ad149 = ad154 := (by injection e154)
                                  replace p154 := eq_true p154
                                  replace q154 := eq_true q154
                                  go_wp2
                                  repeat (go_quiet (fail); try go_wp2)
                                  go_roundg k3
                                  case measure => have := HJ7.out; have := HJ15.out; have := HK3.out; omega
                                  case rel => exact ⟨(wrap64 (x15_3 + 1)), (by first | rfl | (simp; done) | (simp [*]; done)), H', ⟨by have := HJ7.out; have := HJ15.out; have := HK3.out; omega⟩, ⟨by (with_reducible repeat (first | apply Kd.R_alloc | apply Kd.R_drewN | apply Kd.R_drew)); exact HO_12.out⟩, ⟨by repeat (first | (with_reducible first | exact HB.out | apply below_alloc | apply pw_below_drewN | apply below_drew1) | exact HB.out)⟩⟩
                                · rw [if_neg c28] at H
                                  have c28b0 : (((rd_T30 t145 x15_3).f1) == 0) = false := beq_eq_false_iff_ne.mpr c28
                                  have c28b1 : (((rd_T30 t145 x15_3).f1) != 0) = true := bne_iff_ne.mpr c28
                                  obtain rfl := Option.some.inj H
                                  have p149 : 0 ≤ (x15_3 : Int) := of_decide_eq_true (by first | (with_reducible assumption) | assumption)
                                  have q149 : x15_3 < (t145.length : Int) := of_decide_eq_true (by first | (with_reducible assumption) | assumption)
                                  obtain ⟨ad149, e149, hx149_0, hx149_1, hx149_2, hx149_3⟩ := at_T30 (Kd.R_reads' HO_12.out).2.2 x15_3 p149 q149
                                  cases e149
                                  replace p149 := eq_true p149
                                  replace q149 := eq_true q149
                                  have p150 : 0 ≤ (x15_3 : Int) := of_decide_eq_true (by first | (with_reducible assumption) | assumption)
                                  have q150 : x15_3 < (t145.length : Int) := of_decide_eq_true (by first | (with_reducible assumption) | assumption)
                                  obtain ⟨ad150, e150, hx150_0, hx150_1, hx150_2, hx150_3⟩ := at_T30 (Kd.R_reads' HO_12.out).2.2 x15_3 p150 q150
                                  obtain rfl : ad149 = ad150 := (by injection e150)
                                  replace p150 := eq_true p150
                                  replace q150 := eq_true q150
                                  have p151 : 0 ≤ (x15_3 : Int) := of_decide_eq_true (by first | (with_reducible assumption) | assumption)
                                  have q151 : x15_3 < (t145.length : Int) := of_decide_eq_true (by first | (with_reducible assumption) | assumption)
                                  obtain ⟨ad151, e151, hx151_0, hx151_1, hx151_2, hx151_3⟩ := at_T30 (Kd.R_reads' HO_12.out).2.2 x15_3 p151 q151
                                  obtain rfl : ad149 = ad151 := (by injection e151)
                                  replace p151 := eq_true p151
                                  replace q151 := eq_true q151
                                  have p152 : 0 ≤ (x15_3 : Int) := of_decide_eq_true (by first | (with_reducible assumption) | assumption)
                                  have q152 : x15_3 < (t145.length : Int) := of_decide_eq_true (by first | (with_reducible assumption) | assumption)
                                  obtain ⟨ad152, e152, hx152_0, hx152_1, hx152_2, hx152_3⟩ := at_T30 (Kd.R_reads' HO_12.out).2.2 x15_3 p152 q152
                                  obtain rfl : ad149 = ad152 := (by injection e152)
                                  replace p152 := eq_true p152
                                  replace q152 := eq_true q152
                                  have p153 : 0 ≤ (x15_3 : Int) := of_decide_eq_true (by first | (with_reducible assumption) | assumption)
                                  have q153 : x15_3 < (t145.length : Int) := of_decide_eq_true (by first | (with_reducible assumption) | assumption)
                                  obtain ⟨ad153, e153, hx153_0, hx153_1, hx153_2, hx153_3⟩ := at_T30 (Kd.R_reads' HO_12.out).2.2 x15_3 p153 q153
                                  obtain rfl : ad149 = ad153 := (by injection e153)
                                  replace p153 := eq_true p153
                                  replace q153 := eq_true q153
                                  have p154 : 0 ≤ (x15_3 : Int) := of_decide_eq_true (by first | (with_reducible assumption) | assumption)
                                  have q154 : x15_3 < (t145.length : Int) := of_decide_eq_true (by first | (with_reducible assumption) | assumption)
                                  obtain ⟨ad154, e154, hx154_0, hx154_1, hx154_2, hx154_3⟩ := at_T30 (Kd.R_reads' HO_12.out).2.2 x15_3 p154 q154
                                  obtain rfl : ad149 = ad154 := (by injection e154)
                                  replace p154 := eq_true p154
                                  replace q154 := eq_true q154
                                  go_wp2
                                  repeat (go_quiet (fail); try go_wp2)
                                  go_ret
                                  exact ⟨by first | rfl | (simp [errW_none, errW_some] <;> rfl) | (simp [*, errW_none, errW_some] <;> rfl), by repeat (first | (with_reducible first | exact HB.out | apply below_alloc | apply pw_below_drewN | apply below_drew1) | exact HB.out)⟩
                              · rw [if_neg c27] at H
                                have c27b0 : (((rd_T30 t145 x15_3).f3) == a4) = false := beq_eq_false_iff_ne.mpr c27
                                have c27b1 : (((rd_T30 t145 x15_3).f3) != a4) = true := bne_iff_ne.mpr c27
                                obtain rfl := Option.some.inj H
                                have p149 : 0 ≤ (x15_3 : Int) := of_decide_eq_true (by first | (with_reducible assumption) | assumption)
                                have q149 : x15_3 < (t145.length : Int) := of_decide_eq_true (by first | (with_reducible assumption) | assumption)
                                obtain ⟨ad149, e149, hx149_0, hx149_1, hx149_2, hx149_3⟩ := at_T30 (Kd.R_reads' HO_12.out).2.2 x15_3 p149 q149
                                cases e149
                                replace p149 := eq_true p149
                                replace q149 := eq_true q149
                                have p150 : 0 ≤ (x15_3 : Int) := of_decide_eq_true (by first | (with_reducible assumption) | assumption)
                                have q150 : x15_3 < (t145.length : Int) := of_decide_eq_true (by first | (with_reducible assumption) | assumption)
                                obtain ⟨ad150, e150, hx150_0, hx150_1, hx150_2, hx150_3⟩ := at_T30 (Kd.R_reads' HO_12.out).2.2 x15_3 p150 q150
                                obtain rfl : ad149 = ad150 := (by injection e150)
                                replace p150 := eq_true p150
                                replace q150 := eq_true q150
                                have p151 : 0 ≤ (x15_3 : Int) := of_decide_eq_true (by first | (with_reducible assumption) | assumption)
                                have q151 : x15_3 < (t145.length : Int) := of_decide_eq_true (by first | (with_reducible assumption) | assumption)
                                obtain ⟨ad151, e151, hx151_0, hx151_1, hx151_2, hx151_3⟩ := at_T30 (Kd.R_reads' HO_12.out).2.2 x15_3 p151 q151
                                obtain rfl : ad149 = ad151 := (by injection e151)
                                replace p151 := eq_true p151
                                replace q151 := eq_true q151
                                have p152 : 0 ≤ (x15_3 : Int) := of_decide_eq_true (by first | (with_reducible assumption) | assumption)
                                have q152 : x15_3 < (t145.length : Int) := of_decide_eq_true (by first | (with_reducible assumption) | assumption)
                                obtain ⟨ad152, e152, hx152_0, hx152_1, hx152_2, hx152_3⟩ := at_T30 (Kd.R_reads' HO_12.out).2.2 x15_3 p152 q152
                                obtain rfl : ad149 = ad152 := (by injection e152)
                                replace p152 := eq_true p152
                                replace q152 := eq_true q152
                                have p153 : 0 ≤ (x15_3 : Int) := of_decide_eq_true (by first | (with_reducible assumption) | assumption)
                                have q153 : x15_3 < (t145.length : Int) := of_decide_eq_true (by first | (with_reducible assumption) | assumption)
                                obtain ⟨ad153, e153, hx153_0, hx153_1, hx153_2, hx153_3⟩ := at_T30 (Kd.R_reads' HO_12.out).2.2 x15_3 p153 q153
                                obtain rfl : ad149 = ad153 := (by injection e153)
                                replace p153 := eq_true p153
                                replace q153 := eq_true q153
                                go_wp2
                                repeat (go_quiet (fail); try go_wp2)
                                go_ret
                                exact ⟨by first | rfl | (simp [errW_none, errW_some] <;> rfl) | (simp [*, errW_none, errW_some] <;> rfl), by repeat (first | (with_reducible first | exact HB.out | apply below_alloc | apply pw_below_drewN | apply below_drew1) | exact HB.out)⟩
                            · rw [if_neg c26] at H
                              have c26b0 : (((rd_T30 t145 x15_3).f2) == a3) = false := beq_eq_false_iff_ne.mpr c26
                              have c26b1 : (((rd_T30 t145 x15_3).f2) != a3) = true := bne_iff_ne.mpr c26
                              obtain rfl := Option.some.inj H
                              have p149 : 0 ≤ (x15_3 : Int) := of_decide_eq_true (by first | (with_reducible assumption) | assumption)
                              have q149 : x15_3 < (t145.length : Int) := of_decide_eq_true (by first | (with_reducible assumption) | assumption)
                              obtain ⟨ad149, e149, hx149_0, hx149_1, hx149_2, hx149_3⟩ := at_T30 (Kd.R_reads' HO_12.out).2.2 x15_3 p149 q149
                              cases e149
                              replace p149 := eq_true p149
                              replace q149 := eq_true q149
                              have p150 : 0 ≤ (x15_3 : Int) := of_decide_eq_true (by first | (with_reducible assumption) | assumption)
                              have q150 : x15_3 < (t145.length : Int) := of_decide_eq_true (by first | (with_reducible assumption) | assumption)
                              obtain ⟨ad150, e150, hx150_0, hx150_1, hx150_2, hx150_3⟩ := at_T30 (Kd.R_reads' HO_12.out).2.2 x15_3 p150 q150
                              obtain rfl : ad149 = ad150 := (by injection e150)
                              replace p150 := eq_true p150
                              replace q150 := eq_true q150
                              have p151 : 0 ≤ (x15_3 : Int) := of_decide_eq_true (by first | (with_reducible assumption) | assumption)
                              have q151 : x15_3 < (t145.length : Int) := of_decide_eq_true (by first | (with_reducible assumption) | assumption)
                              obtain ⟨ad151, e151, hx151_0, hx151_1, hx151_2, hx151_3⟩ := at_T30 (Kd.R_reads' HO_12.out).2.2 x15_3 p151 q151
                              obtain rfl : ad149 = ad151 := (by injection e151)
                              replace p151 := eq_true p151
                              replace q151 := eq_true q151
                              have p152 : 0 ≤ (x15_3 : Int) := of_decide_eq_true (by first | (with_reducible assumption) | assumption)
                              have q152 : x15_3 < (t145.length : Int) := of_decide_eq_true (by first | (with_reducible assumption) | assumption)
                              obtain ⟨ad152, e152, hx152_0, hx152_1, hx152_2, hx152_3⟩ := at_T30 (Kd.R_reads' HO_12.out).2.2 x15_3 p152 q152
                              obtain rfl : ad149 = ad152 := (by injection e152)
                              replace p152 := eq_true p152
                              replace q152 := eq_true q152
                              go_wp2
                              repeat (go_quiet (fail); try go_wp2)
                              go_ret
                              exact ⟨by first | rfl | (simp [errW_none, errW_some] <;> rfl) | (simp [*, errW_none, errW_some] <;> rfl), by repeat (first | (with_reducible first | exact HB.out | apply below_alloc | apply pw_below_drewN | apply below_drew1) | exact HB.out)⟩
                    · rw [if_neg c22] at H
                      exact absurd H (by simp)
                  · rw [if_neg c21] at H
                    have c21b0 : decide (x15_3 < (t145.length : Int)) = false := decide_eq_false c21
                    clear c21
                    obtain rfl := Option.some.inj H
                    go_wp2
                    repeat (go_quiet (fail); try go_wp2)
                    go_ret
                    exact ⟨by first | rfl | (simp [errW_none, errW_some] <;> rfl) | (simp [*, errW_none, errW_some] <;> rfl), by repeat (first | (with_reducible first | exact HB.out | apply below_alloc | apply pw_below_drewN | apply below_drew1) | exact HB.out)⟩
            · rw [if_neg c19] at H
              have c19b0 : ((t145.length : Int) == x14_15) = false := beq_eq_false_iff_ne.mpr c19
              have c19b1 : ((t145.length : Int) != x14_15) = true := bne_iff_ne.mpr c19
              obtain rfl := Option.some.inj H
              obtain ⟨Ao29, co29, eo29⟩ := Kd.R_slice HO_12.out
              subst eo29
              go_wp2
              repeat (go_quiet (fail); try go_wp2)
              go_ret
              exact ⟨by first | rfl | (simp [errW_none, errW_some] <;> rfl) | (simp [*, errW_none, errW_some] <;> rfl), by repeat (first | (with_reducible first | exact HB.out | apply below_alloc | apply pw_below_drewN | apply below_drew1) | exact HB.out)⟩

/-- THE ONE PURE STATEMENT of gutterlaw18_PaintGaps: yours. -/
def gutterlaw18_PaintGaps.Pure : Prop := ∀ (a0 : Int) (a1 : Int) (a2 : Int) (a3 : Int) (a4 : Int), (Lit.int .i64 a0).wf = true → (Lit.int .i64 a1).wf = true → (Lit.int .i64 a2).wf = true → (Lit.int .i64 a3).wf = true → (Lit.int .i64 a4).wf = true → ∃ k, gutterlaw18_PaintGaps.f k a0 a1 a2 a3 a4 = some true
theorem gutterlaw18_PaintGaps.walk (P : gutterlaw18_PaintGaps.Pure) (a0 : Int) (a1 : Int) (a2 : Int) (a3 : Int) (a4 : Int) (w : World) (w0 : (Lit.int .i64 a0).wf = true) (w1 : (Lit.int .i64 a1).wf = true) (w2 : (Lit.int .i64 a2).wf = true) (w3 : (Lit.int .i64 a3).wf = true) (w4 : (Lit.int .i64 a4).wf = true) (hG : GOK w) :
    Calls Tryd.prog 4 #[.int .i64 a0, .int .i64 a1, .int .i64 a2, .int .i64 a3, .int .i64 a4] w fun e w' => e = .returned (.bool true) ∧ Below w.heap.size w w' := by
  obtain ⟨k, h⟩ := P a0 a1 a2 a3 a4 w0 w1 w2 w3 w4
  refine (gutterlaw18_PaintGaps.calls k a0 a1 a2 a3 a4 true w h hG).mono ?_
  rintro e w' ⟨rfl, hd⟩
  exact ⟨rfl, hd⟩

end Go.Proofs.YtkmddhljfjjglaaDoor.G
