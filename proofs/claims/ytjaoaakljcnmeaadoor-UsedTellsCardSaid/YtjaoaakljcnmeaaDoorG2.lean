/- Functions of the law and of what it calls as plain Lean functions, and that the calls come to their answers: written by fprint.py. -/
import Derived.Test.YtjaoaakljcnmeaaDoorF14
import Derived.Test.YtjaoaakljcnmeaaDoorG0
import Derived.Test.YtjaoaakljcnmeaaDoorG1
namespace Go.Proofs.YtjaoaakljcnmeaaDoor.G
open Go.RowKit Go.Proofs.YtjaoaakljcnmeaaDoorW.PrintWords Go.Proofs.YtjaoaakljcnmeaaDoorW.PrintLast Go.Proofs.YtjaoaakljcnmeaaDoorW.PrintMore
attribute [local go_sem] max2_int min2_int max_two min_two max_three min_three max_four min_four   -- for this text's walks alone
set_option linter.unusedVariables false
set_option linter.unusedSimpArgs false

/-! ### gutterref06_Fits: function 15 -/
def gutterref06_Fits.f (a0 : Int) (a1 : Int) (a2 : Int) : Option (Int × Int) := (gutterref06_size.f a0).bind fun t101 => (if t101 = true then ((gutterref06_size.f a1).bind fun t102 => (if t102 = true then ((gutterref06_size.f a2).bind fun t103 => (if t103 = true then (if (wrap64 (a1 + a2)) = 0 then (some (0, 60)) else (some (mn (mx (wrap64 (Int.tdiv (wrap64 (a0 + a2)) (wrap64 (a1 + a2)))) 1) 50, 0))) else (some (0, 60)))) else (some (0, 60)))) else (some (0, 60)))
set_option maxHeartbeats 8000000 in
set_option maxRecDepth 100000 in
theorem gutterref06_Fits.calls (a0 : Int) (a1 : Int) (a2 : Int) (r1 : Int) (r2 : Int) (w : World) (h : gutterref06_Fits.f a0 a1 a2 = some (r1, r2)) :
    Calls Tryd.prog 15 #[.int .i64 a0, .int .i64 a1, .int .i64 a2] w fun e w' => e = .returned (.tuple #[.int .i64 r1, .int .i64 r2]) ∧ Below w.heap.size w w' := by
  have HB := Aside0.mk (Below.refl w.heap.size w)
  have H : ((gutterref06_size.f a0).bind fun t101 => (if t101 = true then ((gutterref06_size.f a1).bind fun t102 => (if t102 = true then ((gutterref06_size.f a2).bind fun t103 => (if t103 = true then (if (wrap64 (a1 + a2)) = 0 then (some (0, 60)) else (some (mn (mx (wrap64 (Int.tdiv (wrap64 (a0 + a2)) (wrap64 (a1 + a2)))) 1) 50, 0))) else (some (0, 60)))) else (some (0, 60)))) else (some (0, 60)))) = some (r1, r2) := h
  clear h
  replace H := Option.bind_eq_some_iff.mp H
  obtain ⟨t101, A40, H⟩ := H
  replace H : (if t101 = true then ((gutterref06_size.f a1).bind fun t102 => (if t102 = true then ((gutterref06_size.f a2).bind fun t103 => (if t103 = true then (if (wrap64 (a1 + a2)) = 0 then (some (0, 60)) else (some (mn (mx (wrap64 (Int.tdiv (wrap64 (a0 + a2)) (wrap64 (a1 + a2)))) 1) 50, 0))) else (some (0, 60)))) else (some (0, 60)))) else (some (0, 60))) = some (r1, r2) := H
  have A4 := Aside0.mk A40
  clear A40
  by_cases c5 : t101 = true
  · subst c5
    have H1 : ((gutterref06_size.f a1).bind fun t102 => (if t102 = true then ((gutterref06_size.f a2).bind fun t103 => (if t103 = true then (if (wrap64 (a1 + a2)) = 0 then (some (0, 60)) else (some (mn (mx (wrap64 (Int.tdiv (wrap64 (a0 + a2)) (wrap64 (a1 + a2)))) 1) 50, 0))) else (some (0, 60)))) else (some (0, 60)))) = some (r1, r2) := by rw [if_pos rfl] at H; exact H
    clear H
    have H := H1
    clear H1
    replace H := Option.bind_eq_some_iff.mp H
    obtain ⟨t102, A60, H⟩ := H
    replace H : (if t102 = true then ((gutterref06_size.f a2).bind fun t103 => (if t103 = true then (if (wrap64 (a1 + a2)) = 0 then (some (0, 60)) else (some (mn (mx (wrap64 (Int.tdiv (wrap64 (a0 + a2)) (wrap64 (a1 + a2)))) 1) 50, 0))) else (some (0, 60)))) else (some (0, 60))) = some (r1, r2) := H
    have A6 := Aside0.mk A60
    clear A60
    by_cases c7 : t102 = true
    · subst c7
      have H1 : ((gutterref06_size.f a2).bind fun t103 => (if t103 = true then (if (wrap64 (a1 + a2)) = 0 then (some (0, 60)) else (some (mn (mx (wrap64 (Int.tdiv (wrap64 (a0 + a2)) (wrap64 (a1 + a2)))) 1) 50, 0))) else (some (0, 60)))) = some (r1, r2) := by rw [if_pos rfl] at H; exact H
      clear H
      have H := H1
      clear H1
      replace H := Option.bind_eq_some_iff.mp H
      obtain ⟨t103, A80, H⟩ := H
      replace H : (if t103 = true then (if (wrap64 (a1 + a2)) = 0 then (some (0, 60)) else (some (mn (mx (wrap64 (Int.tdiv (wrap64 (a0 + a2)) (wrap64 (a1 + a2)))) 1) 50, 0))) else (some (0, 60))) = some (r1, r2) := H
      have A8 := Aside0.mk A80
      clear A80
      by_cases c9 : t103 = true
      · subst c9
        have H1 : (if (wrap64 (a1 + a2)) = 0 then (some (0, 60)) else (some (mn (mx (wrap64 (Int.tdiv (wrap64 (a0 + a2)) (wrap64 (a1 + a2)))) 1) 50, 0))) = some (r1, r2) := by rw [if_pos rfl] at H; exact H
        clear H
        have H := H1
        clear H1
        by_cases c10 : (wrap64 (a1 + a2)) = 0
        · rw [if_pos c10] at H
          have c10b0 : ((wrap64 (a1 + a2)) == 0) = true := beq_iff_eq.mpr c10
          have c10b1 : ((wrap64 (a1 + a2)) != 0) = false := bne_eq_false_iff_eq.mpr c10
          clear c10
          simp only [Option.some.injEq, Prod.mk.injEq] at H
          obtain ⟨rfl, rfl⟩ := H
          go_enter Tryd.func15, Tryd.ntmps15
          go_wp2_with (first | ((with_reducible refine gate_callee (f := 26) rfl ?_); refine goesL_ (some 9) rfl rfl Tryd.func26 (by kernel_rfl) rfl #[.int .i64 a0] rfl (by (try simp only [List.map_toArray, List.map_cons, List.map_nil]); first | done | rfl | (simp only [List.length_drop, List.length_take]; rfl)) ?_; (with_reducible refine (gutterref06_size.calls a0 true _ A4.out).mono ?_); rintro e w' ⟨rfl, ⟨nd, rfl⟩⟩; refine ⟨_, rfl, ?_⟩) | (go_at_call 26; (with_reducible refine (gutterref06_size.calls a1 true _ A6.out).mono ?_); rintro e w' ⟨rfl, ⟨nd, rfl⟩⟩) | (go_at_call 26; (with_reducible refine (gutterref06_size.calls a2 true _ A8.out).mono ?_); rintro e w' ⟨rfl, ⟨nd, rfl⟩⟩))
          go_ret2
          exact ⟨by first | rfl | (simp [errW_none, errW_some] <;> rfl) | (simp [*, errW_none, errW_some] <;> rfl), by repeat (first | (with_reducible first | exact HB.out | apply below_alloc | apply pw_below_drewN | apply below_drew1) | exact HB.out)⟩
        · rw [if_neg c10] at H
          have c10b0 : ((wrap64 (a1 + a2)) == 0) = false := beq_eq_false_iff_ne.mpr c10
          have c10b1 : ((wrap64 (a1 + a2)) != 0) = true := bne_iff_ne.mpr c10
          obtain ⟨ji11, hji11⟩ : ∃ j_ : Int, (mx (wrap64 (Int.tdiv (wrap64 (a0 + a2)) (wrap64 (a1 + a2)))) 1) = j_ := ⟨_, rfl⟩
          replace H : (some (mn (ji11) 50, 0)) = some (r1, r2) := by first | (rw [hji11] at H; exact H) | (simp only [hji11] at H ⊢; exact H)
          (try rw [hji11] at A4)
          (try rw [hji11] at A6)
          (try rw [hji11] at A8)
          (try (have hji11l : 1 ≤ ji11 := by (rw [← hji11]; unfold mx; (repeat' split) <;> omega)))
          (try (have hji11m : 0 ≤ ji11 := by omega))
          have hji11_ : (if (wrap64 (Int.tdiv (wrap64 (a0 + a2)) (wrap64 (a1 + a2)))) < 1 then 1 else (wrap64 (Int.tdiv (wrap64 (a0 + a2)) (wrap64 (a1 + a2))))) = ji11 := hji11
          obtain ⟨ji12, hji12⟩ : ∃ j_ : Int, (mn (ji11) 50) = j_ := ⟨_, rfl⟩
          replace H : (some (ji12, 0)) = some (r1, r2) := by first | (rw [hji12] at H; exact H) | (simp only [hji12] at H ⊢; exact H)
          (try rw [hji12] at A4)
          (try rw [hji12] at A6)
          (try rw [hji12] at A8)
          have hji12_ : (if 50 < (ji11) then 50 else (ji11)) = ji12 := hji12
          simp only [Option.some.injEq, Prod.mk.injEq] at H
          obtain ⟨rfl, rfl⟩ := H
          go_enter Tryd.func15, Tryd.ntmps15
          go_wp2_with (first | ((with_reducible refine gate_callee (f := 26) rfl ?_); refine goesL_ (some 9) rfl rfl Tryd.func26 (by kernel_rfl) rfl #[.int .i64 a0] rfl (by (try simp only [List.map_toArray, List.map_cons, List.map_nil]); first | done | rfl | (simp only [List.length_drop, List.length_take]; rfl)) ?_; (with_reducible refine (gutterref06_size.calls a0 true _ A4.out).mono ?_); rintro e w' ⟨rfl, ⟨nd, rfl⟩⟩; refine ⟨_, rfl, ?_⟩) | (go_at_call 26; (with_reducible refine (gutterref06_size.calls a1 true _ A6.out).mono ?_); rintro e w' ⟨rfl, ⟨nd, rfl⟩⟩) | (go_at_call 26; (with_reducible refine (gutterref06_size.calls a2 true _ A8.out).mono ?_); rintro e w' ⟨rfl, ⟨nd, rfl⟩⟩))
          go_ret2
          exact ⟨by first | rfl | (simp [errW_none, errW_some] <;> rfl) | (simp only [← hji11, ← hji12]; first | rfl | (simp [errW_none, errW_some] <;> rfl)) | (simp [*, errW_none, errW_some] <;> rfl), by repeat (first | (with_reducible first | exact HB.out | apply below_alloc | apply pw_below_drewN | apply below_drew1) | exact HB.out)⟩
      · replace c9 := Bool.eq_false_iff.mpr c9
        subst c9
        have H1 : (some (0, 60)) = some (r1, r2) := by rw [if_neg (show ¬ (false = true) by decide)] at H; exact H
        clear H
        have H := H1
        clear H1
        simp only [Option.some.injEq, Prod.mk.injEq] at H
        obtain ⟨rfl, rfl⟩ := H
        go_enter Tryd.func15, Tryd.ntmps15
        go_wp2_with (first | ((with_reducible refine gate_callee (f := 26) rfl ?_); refine goesL_ (some 9) rfl rfl Tryd.func26 (by kernel_rfl) rfl #[.int .i64 a0] rfl (by (try simp only [List.map_toArray, List.map_cons, List.map_nil]); first | done | rfl | (simp only [List.length_drop, List.length_take]; rfl)) ?_; (with_reducible refine (gutterref06_size.calls a0 true _ A4.out).mono ?_); rintro e w' ⟨rfl, ⟨nd, rfl⟩⟩; refine ⟨_, rfl, ?_⟩) | (go_at_call 26; (with_reducible refine (gutterref06_size.calls a1 true _ A6.out).mono ?_); rintro e w' ⟨rfl, ⟨nd, rfl⟩⟩) | (go_at_call 26; (with_reducible refine (gutterref06_size.calls a2 false _ A8.out).mono ?_); rintro e w' ⟨rfl, ⟨nd, rfl⟩⟩))
        go_ret2
        exact ⟨by first | rfl | (simp [errW_none, errW_some] <;> rfl) | (simp [*, errW_none, errW_some] <;> rfl), by repeat (first | (with_reducible first | exact HB.out | apply below_alloc | apply pw_below_drewN | apply below_drew1) | exact HB.out)⟩
    · replace c7 := Bool.eq_false_iff.mpr c7
      subst c7
      have H1 : (some (0, 60)) = some (r1, r2) := by rw [if_neg (show ¬ (false = true) by decide)] at H; exact H
      clear H
      have H := H1
      clear H1
      simp only [Option.some.injEq, Prod.mk.injEq] at H
      obtain ⟨rfl, rfl⟩ := H
      go_enter Tryd.func15, Tryd.ntmps15
      go_wp2_with (first | ((with_reducible refine gate_callee (f := 26) rfl ?_); refine goesL_ (some 9) rfl rfl Tryd.func26 (by kernel_rfl) rfl #[.int .i64 a0] rfl (by (try simp only [List.map_toArray, List.map_cons, List.map_nil]); first | done | rfl | (simp only [List.length_drop, List.length_take]; rfl)) ?_; (with_reducible refine (gutterref06_size.calls a0 true _ A4.out).mono ?_); rintro e w' ⟨rfl, ⟨nd, rfl⟩⟩; refine ⟨_, rfl, ?_⟩) | (go_at_call 26; (with_reducible refine (gutterref06_size.calls a1 false _ A6.out).mono ?_); rintro e w' ⟨rfl, ⟨nd, rfl⟩⟩))
      go_ret2
      exact ⟨by first | rfl | (simp [errW_none, errW_some] <;> rfl) | (simp [*, errW_none, errW_some] <;> rfl), by repeat (first | (with_reducible first | exact HB.out | apply below_alloc | apply pw_below_drewN | apply below_drew1) | exact HB.out)⟩
  · replace c5 := Bool.eq_false_iff.mpr c5
    subst c5
    have H1 : (some (0, 60)) = some (r1, r2) := by rw [if_neg (show ¬ (false = true) by decide)] at H; exact H
    clear H
    have H := H1
    clear H1
    simp only [Option.some.injEq, Prod.mk.injEq] at H
    obtain ⟨rfl, rfl⟩ := H
    go_enter Tryd.func15, Tryd.ntmps15
    go_wp2_with (first | ((with_reducible refine gate_callee (f := 26) rfl ?_); refine goesL_ (some 9) rfl rfl Tryd.func26 (by kernel_rfl) rfl #[.int .i64 a0] rfl (by (try simp only [List.map_toArray, List.map_cons, List.map_nil]); first | done | rfl | (simp only [List.length_drop, List.length_take]; rfl)) ?_; (with_reducible refine (gutterref06_size.calls a0 false _ A4.out).mono ?_); rintro e w' ⟨rfl, ⟨nd, rfl⟩⟩; refine ⟨_, rfl, ?_⟩))
    go_ret2
    exact ⟨by first | rfl | (simp [errW_none, errW_some] <;> rfl) | (simp [*, errW_none, errW_some] <;> rfl), by repeat (first | (with_reducible first | exact HB.out | apply below_alloc | apply pw_below_drewN | apply below_drew1) | exact HB.out)⟩

end Go.Proofs.YtjaoaakljcnmeaaDoor.G
