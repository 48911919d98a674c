/- Functions of the law and of what it calls as plain Lean functions, and that the calls come to their answers: written by fprint.py. -/
import Derived.Test.YtkmddhljfjjglaaDoorF17
import Derived.Test.YtkmddhljfjjglaaDoorG0
import Derived.Test.YtkmddhljfjjglaaDoorG5
import Derived.Test.YtkmddhljfjjglaaDoorG6
namespace Go.Proofs.YtkmddhljfjjglaaDoor.G
open Go.RowKit Go.Proofs.YtkmddhljfjjglaaDoorW.PrintWords Go.Proofs.YtkmddhljfjjglaaDoorW.PrintLast Go.Proofs.YtkmddhljfjjglaaDoorW.PrintMore
attribute [local go_sem] max2_int min2_int max_two min_two max_three min_three max_four min_four   -- for this text's walks alone
set_option linter.unusedVariables false
set_option linter.unusedSimpArgs false

/-! ### gutterref18_Rules: function 11 -/
mutual
def gutterref18_Rules.j0 : Nat → Int → Int → Int → Int → Int → Int → Bool → Option ((List (S30)) × Int)
  | 0, _, _, _, _, _, _, _ => none
  | k + 1, x0, x1, x2, x3, x4, x5, x49 => if x49 = true then (some (([] : List (S30)), 170)) else (if x2 < x3 then (gutterref18_Rules.j1 k x0 x1 x2 x3 x4 x5 (wrap64 (Int.tdiv (wrap64 (x2 - x3)) 2)) ((Int.tmod (wrap64 (x3 - x2)) 2) != 0)) else (gutterref18_Rules.j1 k x0 x1 x2 x3 x4 x5 (wrap64 (Int.tdiv (wrap64 (x2 - x3)) 2)) false))
def gutterref18_Rules.j1 : Nat → Int → Int → Int → Int → Int → Int → Int → Bool → Option ((List (S30)) × Int)
  | 0, _, _, _, _, _, _, _, _ => none
  | k + 1, x0, x1, x2, x3, x4, x5, x14, x63 => if x63 = true then (gutterref18_Rules.j2 k x0 x1 x2 x3 x4 x5 (wrap64 (x14 - 1))) else (gutterref18_Rules.j2 k x0 x1 x2 x3 x4 x5 x14)
def gutterref18_Rules.j2 : Nat → Int → Int → Int → Int → Int → Int → Int → Option ((List (S30)) × Int)
  | 0, _, _, _, _, _, _, _ => none
  | k + 1, x0, x1, x2, x3, x4, x5, x14 => gutterref18_Rules.l0 k x0 x1 x2 x3 x4 x5 x14 ([] : List (S30)) 0
def gutterref18_Rules.l0 : Nat → Int → Int → Int → Int → Int → Int → Int → List (S30) → Int → Option ((List (S30)) × Int)
  | 0, _, _, _, _, _, _, _, _, _ => none
  | k + 1, x0, x1, x2, x3, x4, x5, x14, x15, x16 => if (wrap64 (x16 + 1)) < x0 then (if x3 > 0 then (if x15.length < 4398046511104 then (gutterref18_Rules.l0 k x0 x1 x2 x3 x4 x5 x14 (x15 ++ [(⟨wrap64 ((wrap64 ((wrap64 (x16 * (wrap64 (x1 + x2)))) + x1)) + x14), x4, x3, x5⟩ : S30)]) (wrap64 (x16 + 1))) else (none)) else (some (x15, 0))) else (some (x15, 0))
end
def gutterref18_Rules.f (k : Nat) (a0 : Int) (a1 : Int) (a2 : Int) (a3 : Int) (a4 : Int) (a5 : Int) : Option ((List (S30)) × Int) := if a0 < 0 then (gutterref18_Rules.j0 k a0 a1 a2 a3 a4 a5 true) else (if a0 > 2000 then (gutterref18_Rules.j0 k a0 a1 a2 a3 a4 a5 true) else ((gutterref18_within.f 0 a1 1048576).bind fun t125 => (if t125 = true then ((gutterref18_within.f 0 a2 1048576).bind fun t126 => (if t126 = true then ((gutterref18_within.f 0 a3 1048576).bind fun t127 => (if t127 = true then ((gutterref18_far.f).bind fun t128 => ((gutterref18_within.f 0 a4 t128).bind fun t129 => (if t129 = true then ((gutterref18_within.f 0 a5 t128).bind fun t130 => (gutterref18_Rules.j0 k a0 a1 a2 a3 a4 a5 (!t130))) else (gutterref18_Rules.j0 k a0 a1 a2 a3 a4 a5 true)))) else (gutterref18_Rules.j0 k a0 a1 a2 a3 a4 a5 true))) else (gutterref18_Rules.j0 k a0 a1 a2 a3 a4 a5 true))) else (gutterref18_Rules.j0 k a0 a1 a2 a3 a4 a5 true))))
theorem gutterref18_Rules.mono_l : ∀ k, (∀ y0 y1 y2 y3 y4 y5 y6, LeO (gutterref18_Rules.j0 k y0 y1 y2 y3 y4 y5 y6) (gutterref18_Rules.j0 (k + 1) y0 y1 y2 y3 y4 y5 y6)) ∧ (∀ y0 y1 y2 y3 y4 y5 y6 y7, LeO (gutterref18_Rules.j1 k y0 y1 y2 y3 y4 y5 y6 y7) (gutterref18_Rules.j1 (k + 1) y0 y1 y2 y3 y4 y5 y6 y7)) ∧ (∀ y0 y1 y2 y3 y4 y5 y6, LeO (gutterref18_Rules.j2 k y0 y1 y2 y3 y4 y5 y6) (gutterref18_Rules.j2 (k + 1) y0 y1 y2 y3 y4 y5 y6)) ∧ (∀ y0 y1 y2 y3 y4 y5 y6 y7 y8, LeO (gutterref18_Rules.l0 k y0 y1 y2 y3 y4 y5 y6 y7 y8) (gutterref18_Rules.l0 (k + 1) y0 y1 y2 y3 y4 y5 y6 y7 y8))
  | 0 => ⟨fun _ _ _ _ _ _ _ r h => by simp [gutterref18_Rules.j0] at h, fun _ _ _ _ _ _ _ _ r h => by simp [gutterref18_Rules.j1] at h, fun _ _ _ _ _ _ _ r h => by simp [gutterref18_Rules.j2] at h, fun _ _ _ _ _ _ _ _ _ r h => by simp [gutterref18_Rules.l0] at h⟩
  | k + 1 => by
    obtain ⟨ih0, ih1, ih2, ih3⟩ := gutterref18_Rules.mono_l k
    refine ⟨?_, ?_, ?_, ?_⟩
    · intro y0 y1 y2 y3 y4 y5 y6
      unfold gutterref18_Rules.j0
      repeat' first
      | (with_reducible exact ih0 _ _ _ _ _ _ _)
      | (with_reducible exact ih1 _ _ _ _ _ _ _ _)
      | (with_reducible exact ih2 _ _ _ _ _ _ _)
      | (with_reducible exact ih3 _ _ _ _ _ _ _ _ _)
      | (with_reducible exact LeO.refl _)
      | (with_reducible exact LeO.none _)
      | (with_reducible refine LeO.ite ?_ ?_)
      | (with_reducible refine LeO.bind ?_ (fun _ => ?_))
      | exact ih0 _ _ _ _ _ _ _
      | exact ih1 _ _ _ _ _ _ _ _
      | exact ih2 _ _ _ _ _ _ _
      | exact ih3 _ _ _ _ _ _ _ _ _
      | exact LeO.none _
      | refine LeO.ite ?_ ?_
      | refine LeO.bind ?_ (fun _ => ?_)
    · intro y0 y1 y2 y3 y4 y5 y6 y7
      unfold gutterref18_Rules.j1
      repeat' first
      | (with_reducible exact ih0 _ _ _ _ _ _ _)
      | (with_reducible exact ih1 _ _ _ _ _ _ _ _)
      | (with_reducible exact ih2 _ _ _ _ _ _ _)
      | (with_reducible exact ih3 _ _ _ _ _ _ _ _ _)
      | (with_reducible exact LeO.refl _)
      | (with_reducible exact LeO.none _)
      | (with_reducible refine LeO.ite ?_ ?_)
      | (with_reducible refine LeO.bind ?_ (fun _ => ?_))
      | exact ih0 _ _ _ _ _ _ _
      | exact ih1 _ _ _ _ _ _ _ _
      | exact ih2 _ _ _ _ _ _ _
      | exact ih3 _ _ _ _ _ _ _ _ _
      | exact LeO.none _
      | refine LeO.ite ?_ ?_
      | refine LeO.bind ?_ (fun _ => ?_)
    · intro y0 y1 y2 y3 y4 y5 y6
      unfold gutterref18_Rules.j2
      repeat' first
      | (with_reducible exact ih0 _ _ _ _ _ _ _)
      | (with_reducible exact ih1 _ _ _ _ _ _ _ _)
      | (with_reducible exact ih2 _ _ _ _ _ _ _)
      | (with_reducible exact ih3 _ _ _ _ _ _ _ _ _)
      | (with_reducible exact LeO.refl _)
      | (with_reducible exact LeO.none _)
      | (with_reducible refine LeO.ite ?_ ?_)
      | (with_reducible refine LeO.bind ?_ (fun _ => ?_))
      | exact ih0 _ _ _ _ _ _ _
      | exact ih1 _ _ _ _ _ _ _ _
      | exact ih2 _ _ _ _ _ _ _
      | exact ih3 _ _ _ _ _ _ _ _ _
      | exact LeO.none _
      | refine LeO.ite ?_ ?_
      | refine LeO.bind ?_ (fun _ => ?_)
    · intro y0 y1 y2 y3 y4 y5 y6 y7 y8
      unfold gutterref18_Rules.l0
      repeat' first
      | (with_reducible exact ih0 _ _ _ _ _ _ _)
      | (with_reducible exact ih1 _ _ _ _ _ _ _ _)
      | (with_reducible exact ih2 _ _ _ _ _ _ _)
      | (with_reducible exact ih3 _ _ _ _ _ _ _ _ _)
      | (with_reducible exact LeO.refl _)
      | (with_reducible exact LeO.none _)
      | (with_reducible refine LeO.ite ?_ ?_)
      | (with_reducible refine LeO.bind ?_ (fun _ => ?_))
      | exact ih0 _ _ _ _ _ _ _
      | exact ih1 _ _ _ _ _ _ _ _
      | exact ih2 _ _ _ _ _ _ _
      | exact ih3 _ _ _ _ _ _ _ _ _
      | exact LeO.none _
      | refine LeO.ite ?_ ?_
      | refine LeO.bind ?_ (fun _ => ?_)
theorem gutterref18_Rules.mono : ∀ a0 a1 a2 a3 a4 a5 k, LeO (gutterref18_Rules.f k a0 a1 a2 a3 a4 a5) (gutterref18_Rules.f (k + 1) a0 a1 a2 a3 a4 a5) := by
  intro a0 a1 a2 a3 a4 a5 k
  obtain ⟨ih0, ih1, ih2, ih3⟩ := gutterref18_Rules.mono_l k
  unfold gutterref18_Rules.f
  repeat' first
      | (with_reducible exact ih0 _ _ _ _ _ _ _)
      | (with_reducible exact ih1 _ _ _ _ _ _ _ _)
      | (with_reducible exact ih2 _ _ _ _ _ _ _)
      | (with_reducible exact ih3 _ _ _ _ _ _ _ _ _)
      | (with_reducible exact LeO.refl _)
      | (with_reducible exact LeO.none _)
      | (with_reducible refine LeO.ite ?_ ?_)
      | (with_reducible refine LeO.bind ?_ (fun _ => ?_))
      | exact ih0 _ _ _ _ _ _ _
      | exact ih1 _ _ _ _ _ _ _ _
      | exact ih2 _ _ _ _ _ _ _
      | exact ih3 _ _ _ _ _ _ _ _ _
      | exact LeO.none _
      | refine LeO.ite ?_ ?_
      | refine LeO.bind ?_ (fun _ => ?_)
set_option maxHeartbeats 8000000 in
set_option maxRecDepth 100000 in
theorem gutterref18_Rules.calls (k : Nat) (a0 : Int) (a1 : Int) (a2 : Int) (a3 : Int) (a4 : Int) (a5 : Int) (r1 : List (S30)) (r2 : Int) (w : World) (h : gutterref18_Rules.f k a0 a1 a2 a3 a4 a5 = some (r1, r2)) :
    Calls Tryd.prog 11 #[.int .i64 a0, .int .i64 a1, .int .i64 a2, .int .i64 a3, .int .i64 a4, .int .i64 a5] w fun e w' => ∃ v0_ : Value, e = .returned (.tuple #[v0_, .int .i64 r2]) ∧ Kd.R k30 30 w' w.heap.size (fun _ => True) v0_ r1 ∧ Below w.heap.size w w' := by
  have hu30 := Tryd.underlying30
  have HB := Aside0.mk (Below.refl w.heap.size w)
  have H : (if a0 < 0 then (gutterref18_Rules.j0 k a0 a1 a2 a3 a4 a5 true) else (if a0 > 2000 then (gutterref18_Rules.j0 k a0 a1 a2 a3 a4 a5 true) else ((gutterref18_within.f 0 a1 1048576).bind fun t125 => (if t125 = true then ((gutterref18_within.f 0 a2 1048576).bind fun t126 => (if t126 = true then ((gutterref18_within.f 0 a3 1048576).bind fun t127 => (if t127 = true then ((gutterref18_far.f).bind fun t128 => ((gutterref18_within.f 0 a4 t128).bind fun t129 => (if t129 = true then ((gutterref18_within.f 0 a5 t128).bind fun t130 => (gutterref18_Rules.j0 k a0 a1 a2 a3 a4 a5 (!t130))) else (gutterref18_Rules.j0 k a0 a1 a2 a3 a4 a5 true)))) else (gutterref18_Rules.j0 k a0 a1 a2 a3 a4 a5 true))) else (gutterref18_Rules.j0 k a0 a1 a2 a3 a4 a5 true))) else (gutterref18_Rules.j0 k a0 a1 a2 a3 a4 a5 true))))) = some (r1, r2) := h
  clear h
  have HC7 := Aside0.mk H
  clear H
  go_enter Tryd.func11, Tryd.ntmps11
  go_upto_region 1 with (fail)
  go_cut [49] (fun v49 wc => ∃ (kq : Nat) (x49_6 : Bool), v49 = .bool x49_6 ∧ Aside0 (gutterref18_Rules.j0 kq a0 a1 a2 a3 a4 a5 x49_6 = some (r1, r2)) ∧ Aside0 (kq ≤ k) ∧ Aside0 (Below w.heap.size w wc))
  case first =>
    have H := HC7.out
    clear HC7
    by_cases c8 : a0 < 0
    · rw [if_pos c8] at H
      have c8b0 : decide (a0 < 0) = true := decide_eq_true c8
      clear c8
      (first | rw [c8b0] | (simp only [i64_w, i32_w]; rw [c8b0]) | skip)
      have H' := Aside0.mk H
      clear H
      go_wp2
      go_meet
      case rel => exact ⟨_, (true), (by first | rfl | (simp; done) | (simp [*]; done)), H', ⟨by first | omega | exact Nat.le_refl _⟩, ⟨by repeat (first | (with_reducible first | exact HB.out | apply below_alloc | apply pw_below_drewN | apply below_drew1) | exact HB.out)⟩⟩
    · rw [if_neg c8] at H
      have c8b0 : decide (a0 < 0) = false := decide_eq_false c8
      clear c8
      (first | rw [c8b0] | (simp only [i64_w, i32_w]; rw [c8b0]) | skip)
      by_cases c9 : a0 > 2000
      · rw [if_pos c9] at H
        have c9b0 : decide (2000 < a0) = true := decide_eq_true c9
        clear c9
        have H' := Aside0.mk H
        clear H
        go_wp2
        go_meet
        case rel => exact ⟨_, (true), (by first | rfl | (simp; done) | (simp [*]; done)), H', ⟨by first | omega | exact Nat.le_refl _⟩, ⟨by repeat (first | (with_reducible first | exact HB.out | apply below_alloc | apply pw_below_drewN | apply below_drew1) | exact HB.out)⟩⟩
      · rw [if_neg c9] at H
        have c9b0 : decide (2000 < a0) = false := decide_eq_false c9
        clear c9
        replace H := Option.bind_eq_some_iff.mp H
        obtain ⟨t125, A100, H⟩ := H
        replace H : (if t125 = true then ((gutterref18_within.f 0 a2 1048576).bind fun t126 => (if t126 = true then ((gutterref18_within.f 0 a3 1048576).bind fun t127 => (if t127 = true then ((gutterref18_far.f).bind fun t128 => ((gutterref18_within.f 0 a4 t128).bind fun t129 => (if t129 = true then ((gutterref18_within.f 0 a5 t128).bind fun t130 => (gutterref18_Rules.j0 k a0 a1 a2 a3 a4 a5 (!t130))) else (gutterref18_Rules.j0 k a0 a1 a2 a3 a4 a5 true)))) else (gutterref18_Rules.j0 k a0 a1 a2 a3 a4 a5 true))) else (gutterref18_Rules.j0 k a0 a1 a2 a3 a4 a5 true))) else (gutterref18_Rules.j0 k a0 a1 a2 a3 a4 a5 true)) = some (r1, r2) := H
        have A10 := Aside0.mk A100
        clear A100
        by_cases c11 : t125 = true
        · subst c11
          have H1 : ((gutterref18_within.f 0 a2 1048576).bind fun t126 => (if t126 = true then ((gutterref18_within.f 0 a3 1048576).bind fun t127 => (if t127 = true then ((gutterref18_far.f).bind fun t128 => ((gutterref18_within.f 0 a4 t128).bind fun t129 => (if t129 = true then ((gutterref18_within.f 0 a5 t128).bind fun t130 => (gutterref18_Rules.j0 k a0 a1 a2 a3 a4 a5 (!t130))) else (gutterref18_Rules.j0 k a0 a1 a2 a3 a4 a5 true)))) else (gutterref18_Rules.j0 k a0 a1 a2 a3 a4 a5 true))) else (gutterref18_Rules.j0 k a0 a1 a2 a3 a4 a5 true))) = some (r1, r2) := by rw [if_pos rfl] at H; exact H
          clear H
          have H := H1
          clear H1
          replace H := Option.bind_eq_some_iff.mp H
          obtain ⟨t126, A120, H⟩ := H
          replace H : (if t126 = true then ((gutterref18_within.f 0 a3 1048576).bind fun t127 => (if t127 = true then ((gutterref18_far.f).bind fun t128 => ((gutterref18_within.f 0 a4 t128).bind fun t129 => (if t129 = true then ((gutterref18_within.f 0 a5 t128).bind fun t130 => (gutterref18_Rules.j0 k a0 a1 a2 a3 a4 a5 (!t130))) else (gutterref18_Rules.j0 k a0 a1 a2 a3 a4 a5 true)))) else (gutterref18_Rules.j0 k a0 a1 a2 a3 a4 a5 true))) else (gutterref18_Rules.j0 k a0 a1 a2 a3 a4 a5 true)) = some (r1, r2) := H
          have A12 := Aside0.mk A120
          clear A120
          by_cases c13 : t126 = true
          · subst c13
            have H1 : ((gutterref18_within.f 0 a3 1048576).bind fun t127 => (if t127 = true then ((gutterref18_far.f).bind fun t128 => ((gutterref18_within.f 0 a4 t128).bind fun t129 => (if t129 = true then ((gutterref18_within.f 0 a5 t128).bind fun t130 => (gutterref18_Rules.j0 k a0 a1 a2 a3 a4 a5 (!t130))) else (gutterref18_Rules.j0 k a0 a1 a2 a3 a4 a5 true)))) else (gutterref18_Rules.j0 k a0 a1 a2 a3 a4 a5 true))) = some (r1, r2) := by rw [if_pos rfl] at H; exact H
            clear H
            have H := H1
            clear H1
            replace H := Option.bind_eq_some_iff.mp H
            obtain ⟨t127, A140, H⟩ := H
            replace H : (if t127 = true then ((gutterref18_far.f).bind fun t128 => ((gutterref18_within.f 0 a4 t128).bind fun t129 => (if t129 = true then ((gutterref18_within.f 0 a5 t128).bind fun t130 => (gutterref18_Rules.j0 k a0 a1 a2 a3 a4 a5 (!t130))) else (gutterref18_Rules.j0 k a0 a1 a2 a3 a4 a5 true)))) else (gutterref18_Rules.j0 k a0 a1 a2 a3 a4 a5 true)) = some (r1, r2) := H
            have A14 := Aside0.mk A140
            clear A140
            by_cases c15 : t127 = true
            · subst c15
              have H1 : ((gutterref18_far.f).bind fun t128 => ((gutterref18_within.f 0 a4 t128).bind fun t129 => (if t129 = true then ((gutterref18_within.f 0 a5 t128).bind fun t130 => (gutterref18_Rules.j0 k a0 a1 a2 a3 a4 a5 (!t130))) else (gutterref18_Rules.j0 k a0 a1 a2 a3 a4 a5 true)))) = some (r1, r2) := by rw [if_pos rfl] at H; exact H
              clear H
              have H := H1
              clear H1
              replace H := Option.bind_eq_some_iff.mp H
              obtain ⟨t128, A160, H⟩ := H
              replace H : ((gutterref18_within.f 0 a4 t128).bind fun t129 => (if t129 = true then ((gutterref18_within.f 0 a5 t128).bind fun t130 => (gutterref18_Rules.j0 k a0 a1 a2 a3 a4 a5 (!t130))) else (gutterref18_Rules.j0 k a0 a1 a2 a3 a4 a5 true))) = some (r1, r2) := H
              have A16 := Aside0.mk A160
              clear A160
              replace H := Option.bind_eq_some_iff.mp H
              obtain ⟨t129, A170, H⟩ := H
              replace H : (if t129 = true then ((gutterref18_within.f 0 a5 t128).bind fun t130 => (gutterref18_Rules.j0 k a0 a1 a2 a3 a4 a5 (!t130))) else (gutterref18_Rules.j0 k a0 a1 a2 a3 a4 a5 true)) = some (r1, r2) := H
              have A17 := Aside0.mk A170
              clear A170
              by_cases c18 : t129 = true
              · subst c18
                have H1 : ((gutterref18_within.f 0 a5 t128).bind fun t130 => (gutterref18_Rules.j0 k a0 a1 a2 a3 a4 a5 (!t130))) = some (r1, r2) := by rw [if_pos rfl] at H; exact H
                clear H
                have H := H1
                clear H1
                replace H := Option.bind_eq_some_iff.mp H
                obtain ⟨t130, A190, H⟩ := H
                replace H : (gutterref18_Rules.j0 k a0 a1 a2 a3 a4 a5 (!t130)) = some (r1, r2) := H
                have A19 := Aside0.mk A190
                clear A190
                have H' := Aside0.mk H
                clear H
                go_wp2_with (first | (go_at_call 30; (with_reducible refine (gutterref18_within.calls 0 a1 1048576 true _ A10.out).mono ?_); rintro e w' ⟨rfl, ⟨nd, rfl⟩⟩) | (go_at_call 30; (with_reducible refine (gutterref18_within.calls 0 a2 1048576 true _ A12.out).mono ?_); rintro e w' ⟨rfl, ⟨nd, rfl⟩⟩) | (go_at_call 30; (with_reducible refine (gutterref18_within.calls 0 a3 1048576 true _ A14.out).mono ?_); rintro e w' ⟨rfl, ⟨nd, rfl⟩⟩) | (go_at_call 31; (with_reducible refine (gutterref18_far.calls  t128 _ A16.out).mono ?_); rintro e w' ⟨rfl, ⟨nd, rfl⟩⟩) | (go_at_call 30; (with_reducible refine (gutterref18_within.calls 0 a4 t128 true _ A17.out).mono ?_); rintro e w' ⟨rfl, ⟨nd, rfl⟩⟩) | (go_at_call 30; (with_reducible refine (gutterref18_within.calls 0 a5 t128 t130 _ A19.out).mono ?_); rintro e w' ⟨rfl, ⟨nd, rfl⟩⟩))
                go_meet
                case rel => exact ⟨_, (!t130), (by first | rfl | (simp; done) | (simp [*]; done)), H', ⟨by first | omega | exact Nat.le_refl _⟩, ⟨by repeat (first | (with_reducible first | exact HB.out | apply below_alloc | apply pw_below_drewN | apply below_drew1) | exact HB.out)⟩⟩
              · replace c18 := Bool.eq_false_iff.mpr c18
                subst c18
                have H1 : (gutterref18_Rules.j0 k a0 a1 a2 a3 a4 a5 true) = some (r1, r2) := by rw [if_neg (show ¬ (false = true) by decide)] at H; exact H
                clear H
                have H := H1
                clear H1
                have H' := Aside0.mk H
                clear H
                go_wp2_with (first | (go_at_call 30; (with_reducible refine (gutterref18_within.calls 0 a1 1048576 true _ A10.out).mono ?_); rintro e w' ⟨rfl, ⟨nd, rfl⟩⟩) | (go_at_call 30; (with_reducible refine (gutterref18_within.calls 0 a2 1048576 true _ A12.out).mono ?_); rintro e w' ⟨rfl, ⟨nd, rfl⟩⟩) | (go_at_call 30; (with_reducible refine (gutterref18_within.calls 0 a3 1048576 true _ A14.out).mono ?_); rintro e w' ⟨rfl, ⟨nd, rfl⟩⟩) | (go_at_call 31; (with_reducible refine (gutterref18_far.calls  t128 _ A16.out).mono ?_); rintro e w' ⟨rfl, ⟨nd, rfl⟩⟩) | (go_at_call 30; (with_reducible refine (gutterref18_within.calls 0 a4 t128 false _ A17.out).mono ?_); rintro e w' ⟨rfl, ⟨nd, rfl⟩⟩))
                go_meet
                case rel => exact ⟨_, (true), (by first | rfl | (simp; done) | (simp [*]; done)), H', ⟨by first | omega | exact Nat.le_refl _⟩, ⟨by repeat (first | (with_reducible first | exact HB.out | apply below_alloc | apply pw_below_drewN | apply below_drew1) | exact HB.out)⟩⟩
            · replace c15 := Bool.eq_false_iff.mpr c15
              subst c15
              have H1 : (gutterref18_Rules.j0 k a0 a1 a2 a3 a4 a5 true) = some (r1, r2) := by rw [if_neg (show ¬ (false = true) by decide)] at H; exact H
              clear H
              have H := H1
              clear H1
              have H' := Aside0.mk H
              clear H
              go_wp2_with (first | (go_at_call 30; (with_reducible refine (gutterref18_within.calls 0 a1 1048576 true _ A10.out).mono ?_); rintro e w' ⟨rfl, ⟨nd, rfl⟩⟩) | (go_at_call 30; (with_reducible refine (gutterref18_within.calls 0 a2 1048576 true _ A12.out).mono ?_); rintro e w' ⟨rfl, ⟨nd, rfl⟩⟩) | (go_at_call 30; (with_reducible refine (gutterref18_within.calls 0 a3 1048576 false _ A14.out).mono ?_); rintro e w' ⟨rfl, ⟨nd, rfl⟩⟩))
              go_meet
              case rel => exact ⟨_, (true), (by first | rfl | (simp; done) | (simp [*]; done)), H', ⟨by first | omega | exact Nat.le_refl _⟩, ⟨by repeat (first | (with_reducible first | exact HB.out | apply below_alloc | apply pw_below_drewN | apply below_drew1) | exact HB.out)⟩⟩
          · replace c13 := Bool.eq_false_iff.mpr c13
            subst c13
            have H1 : (gutterref18_Rules.j0 k a0 a1 a2 a3 a4 a5 true) = some (r1, r2) := by rw [if_neg (show ¬ (false = true) by decide)] at H; exact H
            clear H
            have H := H1
            clear H1
            have H' := Aside0.mk H
            clear H
            go_wp2_with (first | (go_at_call 30; (with_reducible refine (gutterref18_within.calls 0 a1 1048576 true _ A10.out).mono ?_); rintro e w' ⟨rfl, ⟨nd, rfl⟩⟩) | (go_at_call 30; (with_reducible refine (gutterref18_within.calls 0 a2 1048576 false _ A12.out).mono ?_); rintro e w' ⟨rfl, ⟨nd, rfl⟩⟩))
            go_meet
            case rel => exact ⟨_, (true), (by first | rfl | (simp; done) | (simp [*]; done)), H', ⟨by first | omega | exact Nat.le_refl _⟩, ⟨by repeat (first | (with_reducible first | exact HB.out | apply below_alloc | apply pw_below_drewN | apply below_drew1) | exact HB.out)⟩⟩
        · replace c11 := Bool.eq_false_iff.mpr c11
          subst c11
          have H1 : (gutterref18_Rules.j0 k a0 a1 a2 a3 a4 a5 true) = some (r1, r2) := by rw [if_neg (show ¬ (false = true) by decide)] at H; exact H
          clear H
          have H := H1
          clear H1
          have H' := Aside0.mk H
          clear H
          go_wp2_with (first | (go_at_call 30; (with_reducible refine (gutterref18_within.calls 0 a1 1048576 false _ A10.out).mono ?_); rintro e w' ⟨rfl, ⟨nd, rfl⟩⟩))
          go_meet
          case rel => exact ⟨_, (true), (by first | rfl | (simp; done) | (simp [*]; done)), H', ⟨by first | omega | exact Nat.le_refl _⟩, ⟨by repeat (first | (with_reducible first | exact HB.out | apply below_alloc | apply pw_below_drewN | apply below_drew1) | exact HB.out)⟩⟩
  case rest =>
    clear HC7
    try clear c1
    try clear p2
    try clear c8
    try clear c8b0
    try clear c9
    try clear c9b0
    try clear c11
    try clear c13
    try clear c15
    try clear c18
    obtain ⟨kq, x49_6, rfl, HA, HJ6, HB⟩ := hcut
    cases kq with
    | zero => exact absurd HA.out (by simp [gutterref18_Rules.j0])
    | succ kj6 =>
      have H := HA.out
      clear HA
      simp only [gutterref18_Rules.j0] at H
      by_cases c20 : x49_6 = true
      · subst c20
        have H1 : (some (([] : List (S30)), 170)) = some (r1, r2) := by rw [if_pos rfl] at H; exact H
        clear H
        have H := H1
        clear H1
        simp only [Option.some.injEq, Prod.mk.injEq] at H
        obtain ⟨rfl, rfl⟩ := H
        go_wp2
        go_ret2
        exact ⟨_, by first | rfl | (simp [errW_none, errW_some] <;> rfl) | (simp [*, errW_none, errW_some] <;> rfl), by first | exact Kd.R_nil _ _ _ _ _ | exact Kd.N_nil _ _ _ _ _ | exact Kd.V_nil _ _ _ _ _ | exact Kd.Q_nil _ _ _ _ _ | exact Kd.S_nil _ _ _ _ _, by repeat (first | (with_reducible first | exact HB.out | apply below_alloc | apply pw_below_drewN | apply below_drew1) | exact HB.out)⟩
      · replace c20 := Bool.eq_false_iff.mpr c20
        subst c20
        have H1 : (if a2 < a3 then (gutterref18_Rules.j1 kj6 a0 a1 a2 a3 a4 a5 (wrap64 (Int.tdiv (wrap64 (a2 - a3)) 2)) ((Int.tmod (wrap64 (a3 - a2)) 2) != 0)) else (gutterref18_Rules.j1 kj6 a0 a1 a2 a3 a4 a5 (wrap64 (Int.tdiv (wrap64 (a2 - a3)) 2)) false)) = some (r1, r2) := by rw [if_neg (show ¬ (false = true) by decide)] at H; exact H
        clear H
        have H := H1
        clear H1
        have HC21 := Aside0.mk H
        clear H
        go_upto_region 4 with (fail)
        go_cut [63] (fun v63 wc => ∃ (kq : Nat) (x63_20 : Bool), v63 = .bool x63_20 ∧ Aside0 (gutterref18_Rules.j1 kq a0 a1 a2 a3 a4 a5 (wrap64 (Int.tdiv (wrap64 (a2 - a3)) 2)) x63_20 = some (r1, r2)) ∧ Aside0 (kq ≤ kj6) ∧ Aside0 (Below w.heap.size w wc))
        case first =>
          have H := HC21.out
          clear HC21
          by_cases c22 : a2 < a3
          · rw [if_pos c22] at H
            have c22b0 : decide (a2 < a3) = true := decide_eq_true c22
            clear c22
            (first | rw [c22b0] | (simp only [i64_w, i32_w]; rw [c22b0]) | skip)
            have H' := Aside0.mk H
            clear H
            go_wp2
            go_meet
            case rel => exact ⟨_, (((Int.tmod (wrap64 (a3 - a2)) 2) != 0)), (by first | rfl | (simp; done) | (simp [*]; done)), H', ⟨by have := HJ6.out; first | omega | exact Nat.le_refl _⟩, ⟨by repeat (first | (with_reducible first | exact HB.out | apply below_alloc | apply pw_below_drewN | apply below_drew1) | exact HB.out)⟩⟩
          · rw [if_neg c22] at H
            have c22b0 : decide (a2 < a3) = false := decide_eq_false c22
            clear c22
            (first | rw [c22b0] | (simp only [i64_w, i32_w]; rw [c22b0]) | skip)
            have H' := Aside0.mk H
            clear H
            go_wp2
            go_meet
            case rel => exact ⟨_, (false), (by first | rfl | (simp; done) | (simp [*]; done)), H', ⟨by have := HJ6.out; first | omega | exact Nat.le_refl _⟩, ⟨by repeat (first | (with_reducible first | exact HB.out | apply below_alloc | apply pw_below_drewN | apply below_drew1) | exact HB.out)⟩⟩
        case rest =>
          clear HC21
          try clear c1
          try clear c2
          try clear p2
          try clear p6
          try clear c8
          try clear c8b0
          try clear c9
          try clear c9b0
          try clear c11
          try clear c13
          try clear c15
          try clear c18
          try clear c20
          try clear c22
          try clear c22b0
          try clear p2
          obtain ⟨kq, x63_20, rfl, HA, HJ20, HB⟩ := hcut
          cases kq with
          | zero => exact absurd HA.out (by simp [gutterref18_Rules.j1])
          | succ kj20 =>
            have H := HA.out
            clear HA
            simp only [gutterref18_Rules.j1] at H
            have HC23 := Aside0.mk H
            clear H
            go_upto_if 63 with (fail)
            go_cut [14] (fun v14 wc => ∃ (kq : Nat) (x14_22 : Int), v14 = .int .i64 x14_22 ∧ Aside0 (gutterref18_Rules.j2 kq a0 a1 a2 a3 a4 a5 x14_22 = some (r1, r2)) ∧ Aside0 (kq ≤ kj20) ∧ Aside0 (Below w.heap.size w wc))
            case first =>
              have H := HC23.out
              clear HC23
              by_cases c24 : x63_20 = true
              · subst c24
                have H1 : (gutterref18_Rules.j2 kj20 a0 a1 a2 a3 a4 a5 (wrap64 ((wrap64 (Int.tdiv (wrap64 (a2 - a3)) 2)) - 1))) = some (r1, r2) := by rw [if_pos rfl] at H; exact H
                clear H
                have H := H1
                clear H1
                have H' := Aside0.mk H
                clear H
                go_wp2
                go_meet
                case rel => exact ⟨_, (wrap64 ((wrap64 (Int.tdiv (wrap64 (a2 - a3)) 2)) - 1)), (by first | rfl | (simp; done) | (simp [*]; done)), H', ⟨by have := HJ6.out; have := HJ20.out; first | omega | exact Nat.le_refl _⟩, ⟨by repeat (first | (with_reducible first | exact HB.out | apply below_alloc | apply pw_below_drewN | apply below_drew1) | exact HB.out)⟩⟩
              · replace c24 := Bool.eq_false_iff.mpr c24
                subst c24
                have H1 : (gutterref18_Rules.j2 kj20 a0 a1 a2 a3 a4 a5 (wrap64 (Int.tdiv (wrap64 (a2 - a3)) 2))) = some (r1, r2) := by rw [if_neg (show ¬ (false = true) by decide)] at H; exact H
                clear H
                have H := H1
                clear H1
                have H' := Aside0.mk H
                clear H
                go_wp2
                go_meet
                case rel => exact ⟨_, ((wrap64 (Int.tdiv (wrap64 (a2 - a3)) 2))), (by first | rfl | (simp; done) | (simp [*]; done)), H', ⟨by have := HJ6.out; have := HJ20.out; first | omega | exact Nat.le_refl _⟩, ⟨by repeat (first | (with_reducible first | exact HB.out | apply below_alloc | apply pw_below_drewN | apply below_drew1) | exact HB.out)⟩⟩
            case rest =>
              clear HC23
              try clear c1
              try clear c2
              try clear p2
              try clear p6
              try clear c8
              try clear c8b0
              try clear c9
              try clear c9b0
              try clear c11
              try clear c13
              try clear c15
              try clear c18
              try clear c20
              try clear c22
              try clear c22b0
              try clear c24
              try clear p2
              try clear p6
              obtain ⟨kq, x14_22, rfl, HA, HJ22, HB⟩ := hcut
              cases kq with
              | zero => exact absurd HA.out (by simp [gutterref18_Rules.j2])
              | succ kj22 =>
                have H := HA.out
                clear HA
                simp only [gutterref18_Rules.j2] at H
                have H' := Aside0.mk H
                clear H
                go_wp2
                go_loopg [15, 16] kj22 (fun kq v15 v16 w' => ∃ (x15_4 : List (S30)) (x16_4 : Int), v16 = .int .i64 x16_4 ∧ Aside0 (gutterref18_Rules.l0 kq a0 a1 a2 a3 a4 a5 x14_22 x15_4 x16_4 = some (r1, r2)) ∧ Aside0 (kq ≤ kj22) ∧ Aside0 (Kd.R k30 30 w' w.heap.size (fun _ => True) v15 x15_4) ∧ Aside0 (Below w.heap.size w w'))
                case atStart => exact ⟨(([] : List (S30))), (0), (by first | rfl | (simp; done) | (simp [*]; done)), H', ⟨Nat.le_refl _⟩, ⟨by first | exact Kd.R_nil _ _ _ _ _ | exact Kd.N_nil _ _ _ _ _ | exact Kd.V_nil _ _ _ _ _ | exact Kd.Q_nil _ _ _ _ _ | exact Kd.S_nil _ _ _ _ _⟩, ⟨by repeat (first | (with_reducible first | exact HB.out | apply below_alloc | apply pw_below_drewN | apply below_drew1) | exact HB.out)⟩⟩
                case round =>
                  clear H'
                  try clear c1
                  try clear c2
                  try clear p2
                  try clear p6
                  try clear c8
                  try clear c8b0
                  try clear c9
                  try clear c9b0
                  try clear c11
                  try clear c13
                  try clear c15
                  try clear c18
                  try clear c20
                  try clear c22
                  try clear c22b0
                  try clear c24
                  try clear p2
                  try clear p6
                  obtain ⟨x15_4, x16_4, rfl, HA, HK4, HO_15, HB⟩ := hrel
                  cases gk with
                  | zero => exact absurd HA.out (by simp [gutterref18_Rules.l0])
                  | succ k4 =>
                    have H := HA.out
                    clear HA
                    simp only [gutterref18_Rules.l0] at H
                    by_cases c25 : (wrap64 (x16_4 + 1)) < a0
                    · rw [if_pos c25] at H
                      have c25b0 : decide ((wrap64 (x16_4 + 1)) < a0) = true := decide_eq_true c25
                      clear c25
                      by_cases c26 : a3 > 0
                      · rw [if_pos c26] at H
                        have c26b0 : decide (0 < a3) = true := decide_eq_true c26
                        clear c26
                        by_cases c27 : x15_4.length < 4398046511104
                        · rw [if_pos c27] at H
                          have LMc27 := Aside0.mk c27
                          clear c27
                          obtain ⟨y131, hy131⟩ : ∃ y_ : List (S30), y_ = (x15_4 ++ [(⟨wrap64 ((wrap64 ((wrap64 (x16_4 * (wrap64 (a1 + a2)))) + a1)) + x14_22), a4, a3, a5⟩ : S30)]) := ⟨_, rfl⟩
                          replace H : (gutterref18_Rules.l0 k4 a0 a1 a2 a3 a4 a5 x14_22 y131 (wrap64 (x16_4 + 1))) = some (r1, r2) := by first | (rw [hy131]; with_reducible exact H) | (have H2_ := (Option.bind_some _ _).symm.trans H; rw [hy131]; with_reducible exact H2_) | (have H2_ := (Option.bind_some _ _).symm.trans H; with_reducible exact H2_) | with_reducible exact H | (rw [hy131]; exact H) | exact H
                          have Ny131 := Aside0.mk hy131
                          clear hy131
                          have H' := Aside0.mk H
                          clear H
                          go_wp2_with (first | ((with_reducible refine gate_builtin (b := .append) (xs := #[.tmp 76, .tmp 90]) rfl ?_); at_builtin; refine Kd.R_append k30 (w0 := w) w.heap.size rfl (.tmp 76) (.tmp 90) 23 30 (.agg #[(.int .i64 0), (.int .i64 0), (.int .i64 0), (.int .i64 0)]) 32 rfl Tryd.underlying23 info30 rfl (by decide) (by omega) u15 x15_4 (⟨wrap64 ((wrap64 ((wrap64 (x16_4 * (wrap64 (a1 + a2)))) + a1)) + x14_22), a4, a3, a5⟩ : S30) [.int .i64 (wrap64 ((wrap64 ((wrap64 (x16_4 * (wrap64 (a1 + a2)))) + a1)) + x14_22)), .int .i64 a4, .int .i64 a3, .int .i64 a5] (fun _ => True) (fun _ => False) rfl rfl ?aP (fun _ hk => hk.elim) ?aF ?aO ?aB ?aS ?aL ?_; (case aP => exact k30_mkM _ _ _ (⟨wrap64 ((wrap64 ((wrap64 (x16_4 * (wrap64 (a1 + a2)))) + a1)) + x14_22), a4, a3, a5⟩ : S30)); (case aB => exact (by repeat (first | (with_reducible first | exact HB.out | apply below_alloc | apply pw_below_drewN | apply below_drew1) | exact HB.out))); (case aF => exact (fun _ _ => trivial)); (case aO => exact (by (with_reducible repeat (first | apply Kd.R_alloc | apply Kd.R_drewN | apply Kd.R_drew)); exact HO_15.out)); (case aS => exact (below_size (by repeat (first | (with_reducible first | exact HB.out | apply below_alloc | apply pw_below_drewN | apply below_drew1) | exact HB.out)))); (case aL => have := LMc27.out; omega); intro v132 w28 ho hb hg hat; rw [← Ny131.out] at ho; have n0_ := Aside0.mk (hb); have n1_ := Aside0.mk (ho); clear HB; clear HO_15; have HB := n0_; have HO133 := n1_; clear n0_ n1_; clear ho hb hg hat))
                          go_roundg k4
                          case measure => have := HJ6.out; have := HJ20.out; have := HJ22.out; have := HK4.out; omega
                          case rel => exact ⟨(y131), (wrap64 (x16_4 + 1)), (by first | rfl | (simp; done) | (simp [*]; done)), H', ⟨by have := HJ6.out; have := HJ20.out; have := HJ22.out; have := HK4.out; omega⟩, ⟨by (with_reducible repeat (first | apply Kd.R_alloc | apply Kd.R_drewN | apply Kd.R_drew)); exact HO133.out⟩, ⟨by repeat (first | (with_reducible first | exact HB.out | apply below_alloc | apply pw_below_drewN | apply below_drew1) | exact HB.out)⟩⟩
                        · rw [if_neg c27] at H
                          exact absurd H (by simp)
                      · rw [if_neg c26] at H
                        have c26b0 : decide (0 < a3) = false := decide_eq_false c26
                        clear c26
                        simp only [Option.some.injEq, Prod.mk.injEq] at H
                        obtain ⟨rfl, rfl⟩ := H
                        go_wp2
                        go_ret2
                        exact ⟨_, by first | rfl | (simp [errW_none, errW_some] <;> rfl) | (simp [*, errW_none, errW_some] <;> rfl), by (with_reducible repeat (first | apply Kd.R_alloc | apply Kd.R_drewN | apply Kd.R_drew)); exact HO_15.out, by repeat (first | (with_reducible first | exact HB.out | apply below_alloc | apply pw_below_drewN | apply below_drew1) | exact HB.out)⟩
                    · rw [if_neg c25] at H
                      have c25b0 : decide ((wrap64 (x16_4 + 1)) < a0) = false := decide_eq_false c25
                      clear c25
                      simp only [Option.some.injEq, Prod.mk.injEq] at H
                      obtain ⟨rfl, rfl⟩ := H
                      go_wp2
                      go_ret2
                      exact ⟨_, by first | rfl | (simp [errW_none, errW_some] <;> rfl) | (simp [*, errW_none, errW_some] <;> rfl), by (with_reducible repeat (first | apply Kd.R_alloc | apply Kd.R_drewN | apply Kd.R_drew)); exact HO_15.out, by repeat (first | (with_reducible first | exact HB.out | apply below_alloc | apply pw_below_drewN | apply below_drew1) | exact HB.out)⟩

end Go.Proofs.YtkmddhljfjjglaaDoor.G
