/- Functions of the law and of what it calls as plain Lean functions, and that the calls come to their answers: written by fprint.py. -/
import Derived.Test.YtlpkjjeihbdocaaDoorF16
import Derived.Test.YtlpkjjeihbdocaaDoorG0
import Derived.Test.YtlpkjjeihbdocaaDoorG2
import Derived.Test.YtlpkjjeihbdocaaDoorG12
namespace Go.Proofs.YtlpkjjeihbdocaaDoor.G
open Go.RowKit Go.Proofs.YtlpkjjeihbdocaaDoorW.PrintWords Go.Proofs.YtlpkjjeihbdocaaDoorW.PrintLast Go.Proofs.YtlpkjjeihbdocaaDoorW.PrintMore
attribute [local go_sem] max2_int min2_int max_two min_two max_three min_three max_four min_four   -- for this text's walks alone
set_option linter.unusedVariables false
set_option linter.unusedSimpArgs false

/-! ### gutterref01_Add: function 23 -/
def gutterref01_Add.f (a0 : Int) (a1 : Int) : Option (Int × Int) := (gutterref01_Right.f a0).bind fun t185 => (if t185 = true then ((gutterref01_Right.f a1).bind fun t186 => (if t186 = true then ((gutterref01_checked.f (wrap64 (a0 + a1))).bind fun bt187 => (some (bt187.1, bt187.2))) else (some (0, 10)))) else (some (0, 10)))
set_option maxHeartbeats 8000000 in
set_option maxRecDepth 100000 in
theorem gutterref01_Add.calls (a0 : Int) (a1 : Int) (r1 : Int) (r2 : Int) (w : World) (h : gutterref01_Add.f a0 a1 = some (r1, r2)) :
    Calls Tryd.prog 23 #[.int .i64 a0, .int .i64 a1] w fun e w' => e = .returned (.tuple #[.int .i64 r1, .int .i64 r2]) ∧ Drawn0 w w' := by
  have H : ((gutterref01_Right.f a0).bind fun t185 => (if t185 = true then ((gutterref01_Right.f a1).bind fun t186 => (if t186 = true then ((gutterref01_checked.f (wrap64 (a0 + a1))).bind fun bt187 => (some (bt187.1, bt187.2))) else (some (0, 10)))) else (some (0, 10)))) = some (r1, r2) := h
  clear h
  replace H := Option.bind_eq_some_iff.mp H
  obtain ⟨t185, A30, H⟩ := H
  replace H : (if t185 = true then ((gutterref01_Right.f a1).bind fun t186 => (if t186 = true then ((gutterref01_checked.f (wrap64 (a0 + a1))).bind fun bt187 => (some (bt187.1, bt187.2))) else (some (0, 10)))) else (some (0, 10))) = some (r1, r2) := H
  have A3 := Aside0.mk A30
  clear A30
  by_cases c4 : t185 = true
  · subst c4
    have H1 : ((gutterref01_Right.f a1).bind fun t186 => (if t186 = true then ((gutterref01_checked.f (wrap64 (a0 + a1))).bind fun bt187 => (some (bt187.1, bt187.2))) else (some (0, 10)))) = some (r1, r2) := by rw [if_pos rfl] at H; exact H
    clear H
    have H := H1
    clear H1
    replace H := Option.bind_eq_some_iff.mp H
    obtain ⟨t186, A50, H⟩ := H
    replace H : (if t186 = true then ((gutterref01_checked.f (wrap64 (a0 + a1))).bind fun bt187 => (some (bt187.1, bt187.2))) else (some (0, 10))) = some (r1, r2) := H
    have A5 := Aside0.mk A50
    clear A50
    by_cases c6 : t186 = true
    · subst c6
      have H1 : ((gutterref01_checked.f (wrap64 (a0 + a1))).bind fun bt187 => (some (bt187.1, bt187.2))) = some (r1, r2) := by rw [if_pos rfl] at H; exact H
      clear H
      have H := H1
      clear H1
      replace H := Option.bind_eq_some_iff.mp H
      obtain ⟨⟨t187, t188⟩, A70, H⟩ := H
      replace H : (some (t187, t188)) = some (r1, r2) := H
      have A7 := Aside0.mk A70
      clear A70
      simp only [Option.some.injEq, Prod.mk.injEq] at H
      obtain ⟨rfl, rfl⟩ := H
      go_enter Tryd.func23, Tryd.ntmps23
      go_wp2_with (first | ((with_reducible refine gate_callee (f := 28) rfl ?_); refine goesL_ (some 7) rfl rfl Tryd.func28 (by kernel_rfl) rfl #[.int .i64 a0] rfl (by (try simp only [List.map_toArray, List.map_cons, List.map_nil]); first | done | rfl | (simp only [List.length_drop, List.length_take]; rfl)) ?_; (with_reducible refine (gutterref01_Right.calls a0 true _ A3.out).mono ?_); rintro e w' ⟨rfl, ⟨nd, rfl⟩⟩; refine ⟨_, rfl, ?_⟩) | (go_at_call 28; (with_reducible refine (gutterref01_Right.calls a1 true _ A5.out).mono ?_); rintro e w' ⟨rfl, ⟨nd, rfl⟩⟩) | ((with_reducible refine gate_callee (f := 42) rfl ?_); refine goesL_ (some 17) rfl rfl Tryd.func42 (by kernel_rfl) rfl #[.int .i64 (wrap64 (a0 + a1))] rfl (by (try simp only [List.map_toArray, List.map_cons, List.map_nil]); first | done | rfl | (simp only [List.length_drop, List.length_take]; rfl)) ?_; (with_reducible refine (gutterref01_checked.calls (wrap64 (a0 + a1)) t187 t188 _ A7.out).mono ?_); rintro e w' ⟨rfl, ⟨nd, rfl⟩⟩; refine ⟨_, rfl, ?_⟩))
      go_ret2
      exact ⟨by first | rfl | (simp; done) | (simp [*]; done), by repeat (first | exact Drawn0.refl _ | apply Drawn0.step)⟩
    · replace c6 := Bool.eq_false_iff.mpr c6
      subst c6
      have H1 : (some (0, 10)) = some (r1, r2) := by rw [if_neg (show ¬ (false = true) by decide)] at H; exact H
      clear H
      have H := H1
      clear H1
      simp only [Option.some.injEq, Prod.mk.injEq] at H
      obtain ⟨rfl, rfl⟩ := H
      go_enter Tryd.func23, Tryd.ntmps23
      go_wp2_with (first | ((with_reducible refine gate_callee (f := 28) rfl ?_); refine goesL_ (some 7) rfl rfl Tryd.func28 (by kernel_rfl) rfl #[.int .i64 a0] rfl (by (try simp only [List.map_toArray, List.map_cons, List.map_nil]); first | done | rfl | (simp only [List.length_drop, List.length_take]; rfl)) ?_; (with_reducible refine (gutterref01_Right.calls a0 true _ A3.out).mono ?_); rintro e w' ⟨rfl, ⟨nd, rfl⟩⟩; refine ⟨_, rfl, ?_⟩) | (go_at_call 28; (with_reducible refine (gutterref01_Right.calls a1 false _ A5.out).mono ?_); rintro e w' ⟨rfl, ⟨nd, rfl⟩⟩))
      go_ret2
      exact ⟨by first | rfl | (simp; done) | (simp [*]; done), by repeat (first | exact Drawn0.refl _ | apply Drawn0.step)⟩
  · replace c4 := Bool.eq_false_iff.mpr c4
    subst c4
    have H1 : (some (0, 10)) = some (r1, r2) := by rw [if_neg (show ¬ (false = true) by decide)] at H; exact H
    clear H
    have H := H1
    clear H1
    simp only [Option.some.injEq, Prod.mk.injEq] at H
    obtain ⟨rfl, rfl⟩ := H
    go_enter Tryd.func23, Tryd.ntmps23
    go_wp2_with (first | ((with_reducible refine gate_callee (f := 28) rfl ?_); refine goesL_ (some 7) rfl rfl Tryd.func28 (by kernel_rfl) rfl #[.int .i64 a0] rfl (by (try simp only [List.map_toArray, List.map_cons, List.map_nil]); first | done | rfl | (simp only [List.length_drop, List.length_take]; rfl)) ?_; (with_reducible refine (gutterref01_Right.calls a0 false _ A3.out).mono ?_); rintro e w' ⟨rfl, ⟨nd, rfl⟩⟩; refine ⟨_, rfl, ?_⟩))
    go_ret2
    exact ⟨by first | rfl | (simp; done) | (simp [*]; done), by repeat (first | exact Drawn0.refl _ | apply Drawn0.step)⟩

end Go.Proofs.YtlpkjjeihbdocaaDoor.G
