/- Functions of the law and of what it calls as plain Lean functions, and that the calls come to their answers: written by fprint.py. -/
import Derived.Test.YtkmddhljfjjglaaDoorF17
import Derived.Test.YtkmddhljfjjglaaDoorG0
import Derived.Test.YtkmddhljfjjglaaDoorG21
namespace Go.Proofs.YtkmddhljfjjglaaDoor.G
open Go.RowKit Go.Proofs.YtkmddhljfjjglaaDoorW.PrintWords Go.Proofs.YtkmddhljfjjglaaDoorW.PrintLast Go.Proofs.YtkmddhljfjjglaaDoorW.PrintMore
attribute [local go_sem] max2_int min2_int max_two min_two max_three min_three max_four min_four   -- for this text's walks alone
set_option linter.unusedVariables false
set_option linter.unusedSimpArgs false

/-! ### gutterref18_number: function 51 -/
def gutterref18_number.f (k : Nat) (a0 : Int) : Option (ByteArray) := if a0 ≥ 0 then ((gutterref01_Digits.f k a0).bind fun t239 => (some t239)) else ((gutterref01_Digits.f k (wrap64 (-(Int.tmod a0 10)))).bind fun t240 => (if (wrap64 (Int.tdiv a0 10)) = 0 then (if 1 + t240.size ≤ 9223372036854775807 then (some ((⟨#[45]⟩ : ByteArray) ++ t240)) else (none)) else ((gutterref01_Digits.f k (wrap64 (-(wrap64 (Int.tdiv a0 10))))).bind fun t241 => (if 1 + t241.size ≤ 9223372036854775807 then (if ((⟨#[45]⟩ : ByteArray) ++ t241).size + t240.size ≤ 9223372036854775807 then (some (((⟨#[45]⟩ : ByteArray) ++ t241) ++ t240)) else (none)) else (none)))))
theorem gutterref18_number.mono : ∀ a0 k, LeO (gutterref18_number.f k a0) (gutterref18_number.f (k + 1) a0) := by
  intro a0 k
  unfold gutterref18_number.f
  repeat' first
      | (with_reducible exact gutterref01_Digits.mono _ _)
      | (with_reducible exact LeO.refl _)
      | (with_reducible exact LeO.none _)
      | (with_reducible refine LeO.ite ?_ ?_)
      | (with_reducible refine LeO.bind ?_ (fun _ => ?_))
      | exact gutterref01_Digits.mono _ _
      | exact LeO.none _
      | refine LeO.ite ?_ ?_
      | refine LeO.bind ?_ (fun _ => ?_)
set_option maxHeartbeats 8000000 in
set_option maxRecDepth 100000 in
theorem gutterref18_number.calls (k : Nat) (a0 : Int) (r : ByteArray) (w : World) (h : gutterref18_number.f k a0 = some r) :
    Calls Tryd.prog 51 #[.int .i64 a0] w fun e w' => e = .returned (.string r) ∧ Below w.heap.size w w' := by
  have HB := Aside0.mk (Below.refl w.heap.size w)
  have H : (if a0 ≥ 0 then ((gutterref01_Digits.f k a0).bind fun t239 => (some t239)) else ((gutterref01_Digits.f k (wrap64 (-(Int.tmod a0 10)))).bind fun t240 => (if (wrap64 (Int.tdiv a0 10)) = 0 then (if 1 + t240.size ≤ 9223372036854775807 then (some ((⟨#[45]⟩ : ByteArray) ++ t240)) else (none)) else ((gutterref01_Digits.f k (wrap64 (-(wrap64 (Int.tdiv a0 10))))).bind fun t241 => (if 1 + t241.size ≤ 9223372036854775807 then (if ((⟨#[45]⟩ : ByteArray) ++ t241).size + t240.size ≤ 9223372036854775807 then (some (((⟨#[45]⟩ : ByteArray) ++ t241) ++ t240)) else (none)) else (none)))))) = some r := h
  clear h
  by_cases c2 : a0 ≥ 0
  · rw [if_pos c2] at H
    have c2b0 : decide (0 ≤ a0) = true := decide_eq_true c2
    clear c2
    replace H := Option.bind_eq_some_iff.mp H
    obtain ⟨t239, A30, H⟩ := H
    replace H : (some t239) = some r := H
    have A3 := Aside0.mk A30
    clear A30
    obtain rfl := Option.some.inj H
    go_enter Tryd.func51, Tryd.ntmps51
    go_wp2_with (first | ((with_reducible refine gate_callee (f := 63) rfl ?_); refine goesL_ (some 8) rfl rfl Tryd.func63 (by kernel_rfl) rfl #[.int .i64 a0] rfl (by (try simp only [List.map_toArray, List.map_cons, List.map_nil]); first | done | rfl | (simp only [List.length_drop, List.length_take]; rfl)) ?_; (with_reducible refine (gutterref01_Digits.calls k a0 t239 _ A3.out).mono ?_); rintro e w4 ⟨rfl, hb⟩; refine ⟨_, rfl, ?_⟩; have n0_ := Aside0.mk (below_step (by repeat (first | (with_reducible first | exact HB.out | apply below_alloc | apply pw_below_drewN | apply below_drew1) | exact HB.out)) hb); clear HB; have HB := n0_; clear n0_; (try clear hb); (try clear hb2); (try clear hk); (try clear hi)))
    go_ret
    exact ⟨by first | rfl | (simp [errW_none, errW_some] <;> rfl) | (simp [*, errW_none, errW_some] <;> rfl), by repeat (first | (with_reducible first | exact HB.out | apply below_alloc | apply pw_below_drewN | apply below_drew1) | exact HB.out)⟩
  · rw [if_neg c2] at H
    have c2b0 : decide (0 ≤ a0) = false := decide_eq_false c2
    clear c2
    replace H := Option.bind_eq_some_iff.mp H
    obtain ⟨t240, A50, H⟩ := H
    replace H : (if (wrap64 (Int.tdiv a0 10)) = 0 then (if 1 + t240.size ≤ 9223372036854775807 then (some ((⟨#[45]⟩ : ByteArray) ++ t240)) else (none)) else ((gutterref01_Digits.f k (wrap64 (-(wrap64 (Int.tdiv a0 10))))).bind fun t241 => (if 1 + t241.size ≤ 9223372036854775807 then (if ((⟨#[45]⟩ : ByteArray) ++ t241).size + t240.size ≤ 9223372036854775807 then (some (((⟨#[45]⟩ : ByteArray) ++ t241) ++ t240)) else (none)) else (none)))) = some r := H
    have A5 := Aside0.mk A50
    clear A50
    by_cases c6 : (wrap64 (Int.tdiv a0 10)) = 0
    · rw [if_pos c6] at H
      have c6b0 : ((wrap64 (Int.tdiv a0 10)) == 0) = true := beq_iff_eq.mpr c6
      have c6b1 : ((wrap64 (Int.tdiv a0 10)) != 0) = false := bne_eq_false_iff_eq.mpr c6
      clear c6
      by_cases c7 : 1 + t240.size ≤ 9223372036854775807
      · rw [if_pos c7] at H
        have c7b0 := eq_true c7
        have c7b1 : decide (1 + t240.size ≤ 9223372036854775807) = true := decide_eq_true c7
        try have c7b2 : (9223372036854775807 < 1 + t240.size) = False := eq_false (Nat.not_lt.2 c7)
        obtain rfl := Option.some.inj H
        go_enter Tryd.func51, Tryd.ntmps51
        go_wp2_with (first | ((with_reducible refine gate_callee (f := 63) rfl ?_); refine goesL_ (some 13) rfl rfl Tryd.func63 (by kernel_rfl) rfl #[.int .i64 (wrap64 (-(Int.tmod a0 10)))] rfl (by (try simp only [List.map_toArray, List.map_cons, List.map_nil]); first | done | rfl | (simp only [List.length_drop, List.length_take]; rfl)) ?_; (with_reducible refine (gutterref01_Digits.calls k (wrap64 (-(Int.tmod a0 10))) t240 _ A5.out).mono ?_); rintro e w8 ⟨rfl, hb⟩; refine ⟨_, rfl, ?_⟩; have n0_ := Aside0.mk (below_step (by repeat (first | (with_reducible first | exact HB.out | apply below_alloc | apply pw_below_drewN | apply below_drew1) | exact HB.out)) hb); clear HB; have HB := n0_; clear n0_; (try clear hb); (try clear hb2); (try clear hk); (try clear hi)))
        go_ret
        exact ⟨by first | rfl | (simp [errW_none, errW_some] <;> rfl) | (simp [*, errW_none, errW_some] <;> rfl), by repeat (first | (with_reducible first | exact HB.out | apply below_alloc | apply pw_below_drewN | apply below_drew1) | exact HB.out)⟩
      · rw [if_neg c7] at H
        exact absurd H (by simp)
    · rw [if_neg c6] at H
      have c6b0 : ((wrap64 (Int.tdiv a0 10)) == 0) = false := beq_eq_false_iff_ne.mpr c6
      have c6b1 : ((wrap64 (Int.tdiv a0 10)) != 0) = true := bne_iff_ne.mpr c6
      replace H := Option.bind_eq_some_iff.mp H
      obtain ⟨t241, A90, H⟩ := H
      replace H : (if 1 + t241.size ≤ 9223372036854775807 then (if ((⟨#[45]⟩ : ByteArray) ++ t241).size + t240.size ≤ 9223372036854775807 then (some (((⟨#[45]⟩ : ByteArray) ++ t241) ++ t240)) else (none)) else (none)) = some r := H
      have A9 := Aside0.mk A90
      clear A90
      by_cases c10 : 1 + t241.size ≤ 9223372036854775807
      · rw [if_pos c10] at H
        have c10b0 := eq_true c10
        have c10b1 : decide (1 + t241.size ≤ 9223372036854775807) = true := decide_eq_true c10
        try have c10b2 : (9223372036854775807 < 1 + t241.size) = False := eq_false (Nat.not_lt.2 c10)
        by_cases c11 : ((⟨#[45]⟩ : ByteArray) ++ t241).size + t240.size ≤ 9223372036854775807
        · rw [if_pos c11] at H
          have c11b0 := eq_true c11
          have c11b1 : decide (((⟨#[45]⟩ : ByteArray) ++ t241).size + t240.size ≤ 9223372036854775807) = true := decide_eq_true c11
          try have c11b2 : (9223372036854775807 < ((⟨#[45]⟩ : ByteArray) ++ t241).size + t240.size) = False := eq_false (Nat.not_lt.2 c11)
          obtain rfl := Option.some.inj H
          go_enter Tryd.func51, Tryd.ntmps51
          go_wp2_with (first | ((with_reducible refine gate_callee (f := 63) rfl ?_); refine goesL_ (some 13) rfl rfl Tryd.func63 (by kernel_rfl) rfl #[.int .i64 (wrap64 (-(Int.tmod a0 10)))] rfl (by (try simp only [List.map_toArray, List.map_cons, List.map_nil]); first | done | rfl | (simp only [List.length_drop, List.length_take]; rfl)) ?_; (with_reducible refine (gutterref01_Digits.calls k (wrap64 (-(Int.tmod a0 10))) t240 _ A5.out).mono ?_); rintro e w12 ⟨rfl, hb⟩; refine ⟨_, rfl, ?_⟩; have n0_ := Aside0.mk (below_step (by repeat (first | (with_reducible first | exact HB.out | apply below_alloc | apply pw_below_drewN | apply below_drew1) | exact HB.out)) hb); clear HB; have HB := n0_; clear n0_; (try clear hb); (try clear hb2); (try clear hk); (try clear hi)) | ((with_reducible refine gate_callee (f := 63) rfl ?_); refine goesL_ (some 22) rfl rfl Tryd.func63 (by kernel_rfl) rfl #[.int .i64 (wrap64 (-(wrap64 (Int.tdiv a0 10))))] rfl (by (try simp only [List.map_toArray, List.map_cons, List.map_nil]); first | done | rfl | (simp only [List.length_drop, List.length_take]; rfl)) ?_; (with_reducible refine (gutterref01_Digits.calls k (wrap64 (-(wrap64 (Int.tdiv a0 10)))) t241 _ A9.out).mono ?_); rintro e w13 ⟨rfl, hb⟩; refine ⟨_, rfl, ?_⟩; have n0_ := Aside0.mk (below_step (by repeat (first | (with_reducible first | exact HB.out | apply below_alloc | apply pw_below_drewN | apply below_drew1) | exact HB.out)) hb); clear HB; have HB := n0_; clear n0_; (try clear hb); (try clear hb2); (try clear hk); (try clear hi)))
          go_ret
          exact ⟨by first | rfl | (simp [errW_none, errW_some] <;> rfl) | (simp [*, errW_none, errW_some] <;> rfl), by repeat (first | (with_reducible first | exact HB.out | apply below_alloc | apply pw_below_drewN | apply below_drew1) | exact HB.out)⟩
        · rw [if_neg c11] at H
          exact absurd H (by simp)
      · rw [if_neg c10] at H
        exact absurd H (by simp)

end Go.Proofs.YtkmddhljfjjglaaDoor.G
