/- Functions of the law and of what it calls as plain Lean functions, and that the calls come to their answers: written by fprint.py. -/
import Derived.Test.YtnfbfachabdahaaP0
namespace Go.Proofs.Ytnfbfachabdahaa.P
open Go.RowKit Go.Proofs.YtnfbfachabdahaaW.PrintWords Go.Proofs.YtnfbfachabdahaaW.PrintLast Go.Proofs.YtnfbfachabdahaaW.PrintMore
attribute [local go_sem] max2_int min2_int max_two min_two max_three min_three max_four min_four   -- for this text's walks alone
set_option linter.unusedVariables false
set_option linter.unusedSimpArgs false

/-! ### gutterref07_Wide: function 16 -/
def gutterref07_Wide.j0 : Nat → Int → Int → Bool → Option (Int)
  | 0, _, _, _ => none
  | k + 1, x0, x3, x6 => if x6 = true then (some 192) else (if x3 = 109 then (some 576) else (if x3 = 119 then (some 576) else (if x3 = 77 then (some 576) else (if x3 = 87 then (some 576) else (if x0 ≥ 192 then (some 640) else (if x0 ≥ 128 then (some 0) else (if x0 < 32 then (some 0) else (some 384))))))))
def gutterref07_Wide.f (k : Nat) (a0 : Int) : Option (Int) := if a0 = 32 then (some 256) else (if a0 = 105 then (gutterref07_Wide.j0 k a0 a0 (a0 == 105)) else (if a0 = 106 then (gutterref07_Wide.j0 k a0 a0 (a0 == 106)) else (if a0 = 108 then (gutterref07_Wide.j0 k a0 a0 (a0 == 108)) else (if a0 = 46 then (gutterref07_Wide.j0 k a0 a0 (a0 == 46)) else (if a0 = 44 then (gutterref07_Wide.j0 k a0 a0 (a0 == 44)) else (if a0 = 39 then (gutterref07_Wide.j0 k a0 a0 (a0 == 39)) else (if a0 = 33 then (gutterref07_Wide.j0 k a0 a0 (a0 == 33)) else (gutterref07_Wide.j0 k a0 a0 (a0 == 124)))))))))
theorem gutterref07_Wide.mono_l : ∀ k, (∀ y0 y1 y2, LeO (gutterref07_Wide.j0 k y0 y1 y2) (gutterref07_Wide.j0 (k + 1) y0 y1 y2))
  | 0 => fun _ _ _ r h => by simp [gutterref07_Wide.j0] at h
  | k + 1 => by
    have ih0 := gutterref07_Wide.mono_l k
    · intro y0 y1 y2
      unfold gutterref07_Wide.j0
      repeat' first
      | (with_reducible exact ih0 _ _ _)
      | (with_reducible exact LeO.refl _)
      | (with_reducible exact LeO.none _)
      | (with_reducible refine LeO.ite ?_ ?_)
      | (with_reducible refine LeO.bind ?_ (fun _ => ?_))
      | exact ih0 _ _ _
      | exact LeO.none _
      | refine LeO.ite ?_ ?_
      | refine LeO.bind ?_ (fun _ => ?_)
theorem gutterref07_Wide.mono : ∀ a0 k, LeO (gutterref07_Wide.f k a0) (gutterref07_Wide.f (k + 1) a0) := by
  intro a0 k
  have ih0 := gutterref07_Wide.mono_l k
  unfold gutterref07_Wide.f
  repeat' first
      | (with_reducible exact ih0 _ _ _)
      | (with_reducible exact LeO.refl _)
      | (with_reducible exact LeO.none _)
      | (with_reducible refine LeO.ite ?_ ?_)
      | (with_reducible refine LeO.bind ?_ (fun _ => ?_))
      | exact ih0 _ _ _
      | exact LeO.none _
      | refine LeO.ite ?_ ?_
      | refine LeO.bind ?_ (fun _ => ?_)
set_option maxHeartbeats 8000000 in
set_option maxRecDepth 100000 in
theorem gutterref07_Wide.calls (k : Nat) (a0 : Int) (r : Int) (w : World) (h : gutterref07_Wide.f k a0 = some r) :
    Calls Try.prog 16 #[.int .u8 a0] w fun e w' => e = .returned (.int .i64 r) ∧ Drawn0 w w' := by
  have H : (if a0 = 32 then (some 256) else (if a0 = 105 then (gutterref07_Wide.j0 k a0 a0 (a0 == 105)) else (if a0 = 106 then (gutterref07_Wide.j0 k a0 a0 (a0 == 106)) else (if a0 = 108 then (gutterref07_Wide.j0 k a0 a0 (a0 == 108)) else (if a0 = 46 then (gutterref07_Wide.j0 k a0 a0 (a0 == 46)) else (if a0 = 44 then (gutterref07_Wide.j0 k a0 a0 (a0 == 44)) else (if a0 = 39 then (gutterref07_Wide.j0 k a0 a0 (a0 == 39)) else (if a0 = 33 then (gutterref07_Wide.j0 k a0 a0 (a0 == 33)) else (gutterref07_Wide.j0 k a0 a0 (a0 == 124)))))))))) = some r := h
  clear h
  by_cases c2 : a0 = 32
  · rw [if_pos c2] at H
    have c2b0 : (a0 == 32) = true := beq_iff_eq.mpr c2
    have c2b1 : (a0 != 32) = false := bne_eq_false_iff_eq.mpr c2
    clear c2
    obtain rfl := Option.some.inj H
    go_enter Try.func16, Try.ntmps16
    go_wp2
    go_ret
    exact ⟨by first | rfl | (simp; done) | (simp [*]; done), by repeat (first | exact Drawn0.refl _ | apply Drawn0.step)⟩
  · rw [if_neg c2] at H
    have c2b0 : (a0 == 32) = false := beq_eq_false_iff_ne.mpr c2
    have c2b1 : (a0 != 32) = true := bne_iff_ne.mpr c2
    have HC3 := Aside0.mk H
    clear H
    go_enter Try.func16, Try.ntmps16
    go_upto_if 6 with (fail)
    go_cut [6] (fun v6 wc => ∃ (kq : Nat) (x6_2 : Bool), v6 = .bool x6_2 ∧ Aside0 (gutterref07_Wide.j0 kq a0 a0 x6_2 = some r) ∧ Aside0 (kq ≤ k) ∧ Drawn0 w wc)
    case first =>
      have H := HC3.out
      clear HC3
      by_cases c4 : a0 = 105
      · rw [if_pos c4] at H
        have c4b0 : (a0 == 105) = true := beq_iff_eq.mpr c4
        have c4b1 : (a0 != 105) = false := bne_eq_false_iff_eq.mpr c4
        clear c4
        (first | rw [c4b0] | (simp only [i64_w, i32_w]; rw [c4b0]) | skip)
        have H' := Aside0.mk H
        clear H
        go_wp2
        go_meet
        case rel => exact ⟨_, ((a0 == 105)), (by first | rfl | (simp; done) | (simp [*]; done)), H', ⟨by first | omega | exact Nat.le_refl _⟩, by repeat (first | exact Drawn0.refl _ | apply Drawn0.step)⟩
      · rw [if_neg c4] at H
        have c4b0 : (a0 == 105) = false := beq_eq_false_iff_ne.mpr c4
        have c4b1 : (a0 != 105) = true := bne_iff_ne.mpr c4
        (first | rw [c4b0] | (simp only [i64_w, i32_w]; rw [c4b0]) | skip)
        by_cases c5 : a0 = 106
        · rw [if_pos c5] at H
          have c5b0 : (a0 == 106) = true := beq_iff_eq.mpr c5
          have c5b1 : (a0 != 106) = false := bne_eq_false_iff_eq.mpr c5
          clear c5
          have H' := Aside0.mk H
          clear H
          go_wp2
          go_meet
          case rel => exact ⟨_, ((a0 == 106)), (by first | rfl | (simp; done) | (simp [*]; done)), H', ⟨by first | omega | exact Nat.le_refl _⟩, by repeat (first | exact Drawn0.refl _ | apply Drawn0.step)⟩
        · rw [if_neg c5] at H
          have c5b0 : (a0 == 106) = false := beq_eq_false_iff_ne.mpr c5
          have c5b1 : (a0 != 106) = true := bne_iff_ne.mpr c5
          by_cases c6 : a0 = 108
          · rw [if_pos c6] at H
            have c6b0 : (a0 == 108) = true := beq_iff_eq.mpr c6
            have c6b1 : (a0 != 108) = false := bne_eq_false_iff_eq.mpr c6
            clear c6
            have H' := Aside0.mk H
            clear H
            go_wp2
            go_meet
            case rel => exact ⟨_, ((a0 == 108)), (by first | rfl | (simp; done) | (simp [*]; done)), H', ⟨by first | omega | exact Nat.le_refl _⟩, by repeat (first | exact Drawn0.refl _ | apply Drawn0.step)⟩
          · rw [if_neg c6] at H
            have c6b0 : (a0 == 108) = false := beq_eq_false_iff_ne.mpr c6
            have c6b1 : (a0 != 108) = true := bne_iff_ne.mpr c6
            by_cases c7 : a0 = 46
            · rw [if_pos c7] at H
              have c7b0 : (a0 == 46) = true := beq_iff_eq.mpr c7
              have c7b1 : (a0 != 46) = false := bne_eq_false_iff_eq.mpr c7
              clear c7
              have H' := Aside0.mk H
              clear H
              go_wp2
              go_meet
              case rel => exact ⟨_, ((a0 == 46)), (by first | rfl | (simp; done) | (simp [*]; done)), H', ⟨by first | omega | exact Nat.le_refl _⟩, by repeat (first | exact Drawn0.refl _ | apply Drawn0.step)⟩
            · rw [if_neg c7] at H
              have c7b0 : (a0 == 46) = false := beq_eq_false_iff_ne.mpr c7
              have c7b1 : (a0 != 46) = true := bne_iff_ne.mpr c7
              by_cases c8 : a0 = 44
              · rw [if_pos c8] at H
                have c8b0 : (a0 == 44) = true := beq_iff_eq.mpr c8
                have c8b1 : (a0 != 44) = false := bne_eq_false_iff_eq.mpr c8
                clear c8
                have H' := Aside0.mk H
                clear H
                go_wp2
                go_meet
                case rel => exact ⟨_, ((a0 == 44)), (by first | rfl | (simp; done) | (simp [*]; done)), H', ⟨by first | omega | exact Nat.le_refl _⟩, by repeat (first | exact Drawn0.refl _ | apply Drawn0.step)⟩
              · rw [if_neg c8] at H
                have c8b0 : (a0 == 44) = false := beq_eq_false_iff_ne.mpr c8
                have c8b1 : (a0 != 44) = true := bne_iff_ne.mpr c8
                by_cases c9 : a0 = 39
                · rw [if_pos c9] at H
                  have c9b0 : (a0 == 39) = true := beq_iff_eq.mpr c9
                  have c9b1 : (a0 != 39) = false := bne_eq_false_iff_eq.mpr c9
                  clear c9
                  have H' := Aside0.mk H
                  clear H
                  go_wp2
                  go_meet
                  case rel => exact ⟨_, ((a0 == 39)), (by first | rfl | (simp; done) | (simp [*]; done)), H', ⟨by first | omega | exact Nat.le_refl _⟩, by repeat (first | exact Drawn0.refl _ | apply Drawn0.step)⟩
                · rw [if_neg c9] at H
                  have c9b0 : (a0 == 39) = false := beq_eq_false_iff_ne.mpr c9
                  have c9b1 : (a0 != 39) = true := bne_iff_ne.mpr c9
                  by_cases c10 : a0 = 33
                  · rw [if_pos c10] at H
                    have c10b0 : (a0 == 33) = true := beq_iff_eq.mpr c10
                    have c10b1 : (a0 != 33) = false := bne_eq_false_iff_eq.mpr c10
                    clear c10
                    have H' := Aside0.mk H
                    clear H
                    go_wp2
                    go_meet
                    case rel => exact ⟨_, ((a0 == 33)), (by first | rfl | (simp; done) | (simp [*]; done)), H', ⟨by first | omega | exact Nat.le_refl _⟩, by repeat (first | exact Drawn0.refl _ | apply Drawn0.step)⟩
                  · rw [if_neg c10] at H
                    have c10b0 : (a0 == 33) = false := beq_eq_false_iff_ne.mpr c10
                    have c10b1 : (a0 != 33) = true := bne_iff_ne.mpr c10
                    have H' := Aside0.mk H
                    clear H
                    go_wp2
                    go_meet
                    case rel => exact ⟨_, ((a0 == 124)), (by first | rfl | (simp; done) | (simp [*]; done)), H', ⟨by first | omega | exact Nat.le_refl _⟩, by repeat (first | exact Drawn0.refl _ | apply Drawn0.step)⟩
    case rest =>
      clear HC3
      try clear c1
      try clear c2
      try clear c2b0
      try clear c2b1
      try clear p2
      try clear c4
      try clear c4b0
      try clear c4b1
      try clear c5
      try clear c5b0
      try clear c5b1
      try clear c6
      try clear c6b0
      try clear c6b1
      try clear c7
      try clear c7b0
      try clear c7b1
      try clear c8
      try clear c8b0
      try clear c8b1
      try clear c9
      try clear c9b0
      try clear c9b1
      try clear c10
      try clear c10b0
      try clear c10b1
      obtain ⟨kq, x6_2, rfl, HA, HJ2, ⟨mc2, rfl⟩⟩ := hcut
      cases kq with
      | zero => exact absurd HA.out (by simp [gutterref07_Wide.j0])
      | succ kj2 =>
        have H := HA.out
        clear HA
        simp only [gutterref07_Wide.j0] at H
        by_cases c11 : x6_2 = true
        · subst c11
          have H1 : (some 192) = some r := by rw [if_pos rfl] at H; exact H
          clear H
          have H := H1
          clear H1
          obtain rfl := Option.some.inj H
          go_wp2
          go_ret
          exact ⟨by first | rfl | (simp; done) | (simp [*]; done), by repeat (first | exact Drawn0.refl _ | apply Drawn0.step)⟩
        · replace c11 := Bool.eq_false_iff.mpr c11
          subst c11
          have H1 : (if a0 = 109 then (some 576) else (if a0 = 119 then (some 576) else (if a0 = 77 then (some 576) else (if a0 = 87 then (some 576) else (if a0 ≥ 192 then (some 640) else (if a0 ≥ 128 then (some 0) else (if a0 < 32 then (some 0) else (some 384)))))))) = some r := by rw [if_neg (show ¬ (false = true) by decide)] at H; exact H
          clear H
          have H := H1
          clear H1
          by_cases c12 : a0 = 109
          · rw [if_pos c12] at H
            have c12b0 : (a0 == 109) = true := beq_iff_eq.mpr c12
            have c12b1 : (a0 != 109) = false := bne_eq_false_iff_eq.mpr c12
            clear c12
            obtain rfl := Option.some.inj H
            go_wp2
            go_ret
            exact ⟨by first | rfl | (simp; done) | (simp [*]; done), by repeat (first | exact Drawn0.refl _ | apply Drawn0.step)⟩
          · rw [if_neg c12] at H
            have c12b0 : (a0 == 109) = false := beq_eq_false_iff_ne.mpr c12
            have c12b1 : (a0 != 109) = true := bne_iff_ne.mpr c12
            by_cases c13 : a0 = 119
            · rw [if_pos c13] at H
              have c13b0 : (a0 == 119) = true := beq_iff_eq.mpr c13
              have c13b1 : (a0 != 119) = false := bne_eq_false_iff_eq.mpr c13
              clear c13
              obtain rfl := Option.some.inj H
              go_wp2
              go_ret
              exact ⟨by first | rfl | (simp; done) | (simp [*]; done), by repeat (first | exact Drawn0.refl _ | apply Drawn0.step)⟩
            · rw [if_neg c13] at H
              have c13b0 : (a0 == 119) = false := beq_eq_false_iff_ne.mpr c13
              have c13b1 : (a0 != 119) = true := bne_iff_ne.mpr c13
              by_cases c14 : a0 = 77
              · rw [if_pos c14] at H
                have c14b0 : (a0 == 77) = true := beq_iff_eq.mpr c14
                have c14b1 : (a0 != 77) = false := bne_eq_false_iff_eq.mpr c14
                clear c14
                obtain rfl := Option.some.inj H
                go_wp2
                go_ret
                exact ⟨by first | rfl | (simp; done) | (simp [*]; done), by repeat (first | exact Drawn0.refl _ | apply Drawn0.step)⟩
              · rw [if_neg c14] at H
                have c14b0 : (a0 == 77) = false := beq_eq_false_iff_ne.mpr c14
                have c14b1 : (a0 != 77) = true := bne_iff_ne.mpr c14
                by_cases c15 : a0 = 87
                · rw [if_pos c15] at H
                  have c15b0 : (a0 == 87) = true := beq_iff_eq.mpr c15
                  have c15b1 : (a0 != 87) = false := bne_eq_false_iff_eq.mpr c15
                  clear c15
                  obtain rfl := Option.some.inj H
                  go_wp2
                  go_ret
                  exact ⟨by first | rfl | (simp; done) | (simp [*]; done), by repeat (first | exact Drawn0.refl _ | apply Drawn0.step)⟩
                · rw [if_neg c15] at H
                  have c15b0 : (a0 == 87) = false := beq_eq_false_iff_ne.mpr c15
                  have c15b1 : (a0 != 87) = true := bne_iff_ne.mpr c15
                  by_cases c16 : a0 ≥ 192
                  · rw [if_pos c16] at H
                    have c16b0 : decide (192 ≤ a0) = true := decide_eq_true c16
                    clear c16
                    obtain rfl := Option.some.inj H
                    go_wp2
                    go_ret
                    exact ⟨by first | rfl | (simp; done) | (simp [*]; done), by repeat (first | exact Drawn0.refl _ | apply Drawn0.step)⟩
                  · rw [if_neg c16] at H
                    have c16b0 : decide (192 ≤ a0) = false := decide_eq_false c16
                    clear c16
                    by_cases c17 : a0 ≥ 128
                    · rw [if_pos c17] at H
                      have c17b0 : decide (128 ≤ a0) = true := decide_eq_true c17
                      clear c17
                      obtain rfl := Option.some.inj H
                      go_wp2
                      go_ret
                      exact ⟨by first | rfl | (simp; done) | (simp [*]; done), by repeat (first | exact Drawn0.refl _ | apply Drawn0.step)⟩
                    · rw [if_neg c17] at H
                      have c17b0 : decide (128 ≤ a0) = false := decide_eq_false c17
                      clear c17
                      by_cases c18 : a0 < 32
                      · rw [if_pos c18] at H
                        have c18b0 : decide (a0 < 32) = true := decide_eq_true c18
                        clear c18
                        obtain rfl := Option.some.inj H
                        go_wp2
                        go_ret
                        exact ⟨by first | rfl | (simp; done) | (simp [*]; done), by repeat (first | exact Drawn0.refl _ | apply Drawn0.step)⟩
                      · rw [if_neg c18] at H
                        have c18b0 : decide (a0 < 32) = false := decide_eq_false c18
                        clear c18
                        obtain rfl := Option.some.inj H
                        go_wp2
                        go_ret
                        exact ⟨by first | rfl | (simp; done) | (simp [*]; done), by repeat (first | exact Drawn0.refl _ | apply Drawn0.step)⟩

end Go.Proofs.Ytnfbfachabdahaa.P
