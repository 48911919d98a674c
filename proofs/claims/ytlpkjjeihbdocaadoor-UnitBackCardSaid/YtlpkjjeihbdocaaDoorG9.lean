/- Functions of the law and of what it calls as plain Lean functions, and that the calls come to their answers: written by fprint.py. -/
import Derived.Test.YtlpkjjeihbdocaaDoorF16
import Derived.Test.YtlpkjjeihbdocaaDoorG0
import Derived.Test.YtlpkjjeihbdocaaDoorG1
namespace Go.Proofs.YtlpkjjeihbdocaaDoor.G
open Go.RowKit Go.Proofs.YtlpkjjeihbdocaaDoorW.PrintWords Go.Proofs.YtlpkjjeihbdocaaDoorW.PrintLast Go.Proofs.YtlpkjjeihbdocaaDoorW.PrintMore
attribute [local go_sem] max2_int min2_int max_two min_two max_three min_three max_four min_four   -- for this text's walks alone
set_option linter.unusedVariables false
set_option linter.unusedSimpArgs false

/-! ### gutterlaw01_UnitBack: function 5 -/
def gutterlaw01_UnitBack.j0 : Nat → Int → Int → Bool → Int → Int → Int → Int → Bool → Option (Bool)
  | 0, _, _, _, _, _, _, _, _ => none
  | k + 1, x0, x1, x5, x10, x11, x12, x13, x51 => if x51 = true then (some false) else (if x11 = 0 then (if x1 > 1000 then (if x5 = true then (if x13 = 0 then (if x12 = x10 then (some true) else (some (x12 == (wrap64 (x10 + 1))))) else (some false)) else (some false)) else (if x1 < (-1000) then (if x5 = true then (if x13 = 0 then (if x12 = x10 then (some true) else (some (x12 == (wrap64 (x10 + 1))))) else (some false)) else (some false)) else (if x5 = true then (if x13 = 0 then (if x1 > 0 then (if (wrap64 (x0 - (wrap64 (x10 * x1)))) ≥ 0 then (if (wrap64 (x0 - (wrap64 (x10 * x1)))) < x1 then (if (wrap64 ((wrap64 (x12 * x1)) - x0)) ≥ 0 then (if (wrap64 ((wrap64 (x12 * x1)) - x0)) < x1 then (some true) else (if x1 < 0 then (if (wrap64 (x0 - (wrap64 (x10 * x1)))) ≤ 0 then (if (wrap64 (x0 - (wrap64 (x10 * x1)))) > x1 then (if (wrap64 ((wrap64 (x12 * x1)) - x0)) ≤ 0 then (some (decide ((wrap64 ((wrap64 (x12 * x1)) - x0)) > x1))) else (some false)) else (some false)) else (some false)) else (some false))) else (if x1 < 0 then (if (wrap64 (x0 - (wrap64 (x10 * x1)))) ≤ 0 then (if (wrap64 (x0 - (wrap64 (x10 * x1)))) > x1 then (if (wrap64 ((wrap64 (x12 * x1)) - x0)) ≤ 0 then (some (decide ((wrap64 ((wrap64 (x12 * x1)) - x0)) > x1))) else (some false)) else (some false)) else (some false)) else (some false))) else (if x1 < 0 then (if (wrap64 (x0 - (wrap64 (x10 * x1)))) ≤ 0 then (if (wrap64 (x0 - (wrap64 (x10 * x1)))) > x1 then (if (wrap64 ((wrap64 (x12 * x1)) - x0)) ≤ 0 then (some (decide ((wrap64 ((wrap64 (x12 * x1)) - x0)) > x1))) else (some false)) else (some false)) else (some false)) else (some false))) else (if x1 < 0 then (if (wrap64 (x0 - (wrap64 (x10 * x1)))) ≤ 0 then (if (wrap64 (x0 - (wrap64 (x10 * x1)))) > x1 then (if (wrap64 ((wrap64 (x12 * x1)) - x0)) ≤ 0 then (some (decide ((wrap64 ((wrap64 (x12 * x1)) - x0)) > x1))) else (some false)) else (some false)) else (some false)) else (some false))) else (if x1 < 0 then (if (wrap64 (x0 - (wrap64 (x10 * x1)))) ≤ 0 then (if (wrap64 (x0 - (wrap64 (x10 * x1)))) > x1 then (if (wrap64 ((wrap64 (x12 * x1)) - x0)) ≤ 0 then (some (decide ((wrap64 ((wrap64 (x12 * x1)) - x0)) > x1))) else (some false)) else (some false)) else (some false)) else (some false))) else (some false)) else (some false)))) else (if x5 = true then (if x13 = x11 then (if x1 = 0 then (some true) else ((unit_Right.f x0).bind fun t164 => (some (!t164)))) else (some false)) else (some false)))
def gutterlaw01_UnitBack.f (k : Nat) (a0 : Int) (a1 : Int) : Option (Bool) := (gutterlaw01_shown.f).bind fun t155 => ((unit_Add.f a0 a1).bind fun bt156 => ((unit_Sub.f bt156.1 a1).bind fun bt158 => ((unit_Div.f a0 a1).bind fun bt160 => ((unit_Up.f a0 a1).bind fun bt162 => (if bt156.2 = 0 then (if bt158.2 = 0 then (gutterlaw01_UnitBack.j0 k a0 a1 t155 bt160.1 bt160.2 bt162.1 bt162.2 (bt158.1 != a0)) else (gutterlaw01_UnitBack.j0 k a0 a1 t155 bt160.1 bt160.2 bt162.1 bt162.2 true)) else (gutterlaw01_UnitBack.j0 k a0 a1 t155 bt160.1 bt160.2 bt162.1 bt162.2 false))))))
theorem gutterlaw01_UnitBack.mono_l : ∀ k, (∀ y0 y1 y2 y3 y4 y5 y6 y7, LeO (gutterlaw01_UnitBack.j0 k y0 y1 y2 y3 y4 y5 y6 y7) (gutterlaw01_UnitBack.j0 (k + 1) y0 y1 y2 y3 y4 y5 y6 y7))
  | 0 => fun _ _ _ _ _ _ _ _ r h => by simp [gutterlaw01_UnitBack.j0] at h
  | k + 1 => by
    have ih0 := gutterlaw01_UnitBack.mono_l k
    · intro y0 y1 y2 y3 y4 y5 y6 y7
      unfold gutterlaw01_UnitBack.j0
      repeat' first
      | (with_reducible exact ih0 _ _ _ _ _ _ _ _)
      | (with_reducible exact LeO.refl _)
      | (with_reducible exact LeO.none _)
      | (with_reducible refine LeO.ite ?_ ?_)
      | (with_reducible refine LeO.bind ?_ (fun _ => ?_))
      | exact ih0 _ _ _ _ _ _ _ _
      | exact LeO.none _
      | refine LeO.ite ?_ ?_
      | refine LeO.bind ?_ (fun _ => ?_)
theorem gutterlaw01_UnitBack.mono : ∀ a0 a1 k, LeO (gutterlaw01_UnitBack.f k a0 a1) (gutterlaw01_UnitBack.f (k + 1) a0 a1) := by
  intro a0 a1 k
  have ih0 := gutterlaw01_UnitBack.mono_l k
  unfold gutterlaw01_UnitBack.f
  repeat' first
      | (with_reducible exact ih0 _ _ _ _ _ _ _ _)
      | (with_reducible exact LeO.refl _)
      | (with_reducible exact LeO.none _)
      | (with_reducible refine LeO.ite ?_ ?_)
      | (with_reducible refine LeO.bind ?_ (fun _ => ?_))
      | exact ih0 _ _ _ _ _ _ _ _
      | exact LeO.none _
      | refine LeO.ite ?_ ?_
      | refine LeO.bind ?_ (fun _ => ?_)
set_option maxHeartbeats 8000000 in
set_option maxRecDepth 100000 in
theorem gutterlaw01_UnitBack.calls (k : Nat) (a0 : Int) (a1 : Int) (r : Bool) (w : World) (h : gutterlaw01_UnitBack.f k a0 a1 = some r) (hG : GOK w) :
    Calls Tryd.prog 5 #[.int .i64 a0, .int .i64 a1] w fun e w' => e = .returned (.bool r) ∧ Below w.heap.size w w' := by
  have HG := Aside0.mk hG
  clear hG
  have HB := Aside0.mk (Below.refl w.heap.size w)
  have H : ((gutterlaw01_shown.f).bind fun t155 => ((unit_Add.f a0 a1).bind fun bt156 => ((unit_Sub.f bt156.1 a1).bind fun bt158 => ((unit_Div.f a0 a1).bind fun bt160 => ((unit_Up.f a0 a1).bind fun bt162 => (if bt156.2 = 0 then (if bt158.2 = 0 then (gutterlaw01_UnitBack.j0 k a0 a1 t155 bt160.1 bt160.2 bt162.1 bt162.2 (bt158.1 != a0)) else (gutterlaw01_UnitBack.j0 k a0 a1 t155 bt160.1 bt160.2 bt162.1 bt162.2 true)) else (gutterlaw01_UnitBack.j0 k a0 a1 t155 bt160.1 bt160.2 bt162.1 bt162.2 false))))))) = some r := h
  clear h
  replace H := Option.bind_eq_some_iff.mp H
  obtain ⟨t155, A30, H⟩ := H
  replace H : ((unit_Add.f a0 a1).bind fun bt156 => ((unit_Sub.f bt156.1 a1).bind fun bt158 => ((unit_Div.f a0 a1).bind fun bt160 => ((unit_Up.f a0 a1).bind fun bt162 => (if bt156.2 = 0 then (if bt158.2 = 0 then (gutterlaw01_UnitBack.j0 k a0 a1 t155 bt160.1 bt160.2 bt162.1 bt162.2 (bt158.1 != a0)) else (gutterlaw01_UnitBack.j0 k a0 a1 t155 bt160.1 bt160.2 bt162.1 bt162.2 true)) else (gutterlaw01_UnitBack.j0 k a0 a1 t155 bt160.1 bt160.2 bt162.1 bt162.2 false)))))) = some r := H
  have A3 := Aside0.mk A30
  clear A30
  replace H := Option.bind_eq_some_iff.mp H
  obtain ⟨⟨t156, t157⟩, A40, H⟩ := H
  replace H : ((unit_Sub.f t156 a1).bind fun bt158 => ((unit_Div.f a0 a1).bind fun bt160 => ((unit_Up.f a0 a1).bind fun bt162 => (if t157 = 0 then (if bt158.2 = 0 then (gutterlaw01_UnitBack.j0 k a0 a1 t155 bt160.1 bt160.2 bt162.1 bt162.2 (bt158.1 != a0)) else (gutterlaw01_UnitBack.j0 k a0 a1 t155 bt160.1 bt160.2 bt162.1 bt162.2 true)) else (gutterlaw01_UnitBack.j0 k a0 a1 t155 bt160.1 bt160.2 bt162.1 bt162.2 false))))) = some r := H
  have A4 := Aside0.mk A40
  clear A40
  replace H := Option.bind_eq_some_iff.mp H
  obtain ⟨⟨t158, t159⟩, A50, H⟩ := H
  replace H : ((unit_Div.f a0 a1).bind fun bt160 => ((unit_Up.f a0 a1).bind fun bt162 => (if t157 = 0 then (if t159 = 0 then (gutterlaw01_UnitBack.j0 k a0 a1 t155 bt160.1 bt160.2 bt162.1 bt162.2 (t158 != a0)) else (gutterlaw01_UnitBack.j0 k a0 a1 t155 bt160.1 bt160.2 bt162.1 bt162.2 true)) else (gutterlaw01_UnitBack.j0 k a0 a1 t155 bt160.1 bt160.2 bt162.1 bt162.2 false)))) = some r := H
  have A5 := Aside0.mk A50
  clear A50
  replace H := Option.bind_eq_some_iff.mp H
  obtain ⟨⟨t160, t161⟩, A60, H⟩ := H
  replace H : ((unit_Up.f a0 a1).bind fun bt162 => (if t157 = 0 then (if t159 = 0 then (gutterlaw01_UnitBack.j0 k a0 a1 t155 t160 t161 bt162.1 bt162.2 (t158 != a0)) else (gutterlaw01_UnitBack.j0 k a0 a1 t155 t160 t161 bt162.1 bt162.2 true)) else (gutterlaw01_UnitBack.j0 k a0 a1 t155 t160 t161 bt162.1 bt162.2 false))) = some r := H
  have A6 := Aside0.mk A60
  clear A60
  replace H := Option.bind_eq_some_iff.mp H
  obtain ⟨⟨t162, t163⟩, A70, H⟩ := H
  replace H : (if t157 = 0 then (if t159 = 0 then (gutterlaw01_UnitBack.j0 k a0 a1 t155 t160 t161 t162 t163 (t158 != a0)) else (gutterlaw01_UnitBack.j0 k a0 a1 t155 t160 t161 t162 t163 true)) else (gutterlaw01_UnitBack.j0 k a0 a1 t155 t160 t161 t162 t163 false)) = some r := H
  have A7 := Aside0.mk A70
  clear A70
  have HC8 := Aside0.mk H
  clear H
  go_enter Tryd.func5, Tryd.ntmps5
  go_upto_region 6 with (first | ((with_reducible refine gate_callee (f := 11) rfl ?_); refine goesL_ (some 16) rfl rfl Tryd.func11 (by kernel_rfl) rfl #[] rfl (by (try simp only [List.map_toArray, List.map_cons, List.map_nil]); first | done | rfl | (simp only [List.length_drop, List.length_take]; rfl)) ?_; (with_reducible refine (gutterlaw01_shown.calls  t155 _ A3.out (GOK.below HG.out (by repeat (first | (with_reducible first | exact HB.out | apply below_alloc | apply pw_below_drewN | apply below_drew1) | exact HB.out)))).mono ?_); rintro e w9 ⟨rfl, hb⟩; refine ⟨_, rfl, ?_⟩; have n0_ := Aside0.mk (below_step (by repeat (first | (with_reducible first | exact HB.out | apply below_alloc | apply pw_below_drewN | apply below_drew1) | exact HB.out)) hb); clear HB; have HB := n0_; clear n0_; (try clear hb); (try clear hb2); (try clear hk); (try clear hi)) | ((with_reducible refine gate_callee (f := 18) rfl ?_); refine goesL_ (some 20) rfl rfl Tryd.func18 (by kernel_rfl) rfl #[.int .i64 a0, .int .i64 a1] rfl (by (try simp only [List.map_toArray, List.map_cons, List.map_nil]); first | done | rfl | (simp only [List.length_drop, List.length_take]; rfl)) ?_; (with_reducible refine (unit_Add.calls a0 a1 t156 t157 _ A4.out (GOK.below HG.out (by repeat (first | (with_reducible first | exact HB.out | apply below_alloc | apply pw_below_drewN | apply below_drew1) | exact HB.out)))).mono ?_); rintro e w10 ⟨rfl, hb⟩; refine ⟨_, rfl, ?_⟩; have n0_ := Aside0.mk (below_step (by repeat (first | (with_reducible first | exact HB.out | apply below_alloc | apply pw_below_drewN | apply below_drew1) | exact HB.out)) hb); clear HB; have HB := n0_; clear n0_; (try clear hb); (try clear hb2); (try clear hk); (try clear hi)) | ((with_reducible refine gate_callee (f := 19) rfl ?_); refine goesL_ (some 26) rfl rfl Tryd.func19 (by kernel_rfl) rfl #[.int .i64 t156, .int .i64 a1] rfl (by (try simp only [List.map_toArray, List.map_cons, List.map_nil]); first | done | rfl | (simp only [List.length_drop, List.length_take]; rfl)) ?_; (with_reducible refine (unit_Sub.calls t156 a1 t158 t159 _ A5.out (GOK.below HG.out (by repeat (first | (with_reducible first | exact HB.out | apply below_alloc | apply pw_below_drewN | apply below_drew1) | exact HB.out)))).mono ?_); rintro e w11 ⟨rfl, hb⟩; refine ⟨_, rfl, ?_⟩; have n0_ := Aside0.mk (below_step (by repeat (first | (with_reducible first | exact HB.out | apply below_alloc | apply pw_below_drewN | apply below_drew1) | exact HB.out)) hb); clear HB; have HB := n0_; clear n0_; (try clear hb); (try clear hb2); (try clear hk); (try clear hi)) | ((with_reducible refine gate_callee (f := 20) rfl ?_); refine goesL_ (some 32) rfl rfl Tryd.func20 (by kernel_rfl) rfl #[.int .i64 a0, .int .i64 a1] rfl (by (try simp only [List.map_toArray, List.map_cons, List.map_nil]); first | done | rfl | (simp only [List.length_drop, List.length_take]; rfl)) ?_; (with_reducible refine (unit_Div.calls a0 a1 t160 t161 _ A6.out (GOK.below HG.out (by repeat (first | (with_reducible first | exact HB.out | apply below_alloc | apply pw_below_drewN | apply below_drew1) | exact HB.out)))).mono ?_); rintro e w12 ⟨rfl, hb⟩; refine ⟨_, rfl, ?_⟩; have n0_ := Aside0.mk (below_step (by repeat (first | (with_reducible first | exact HB.out | apply below_alloc | apply pw_below_drewN | apply below_drew1) | exact HB.out)) hb); clear HB; have HB := n0_; clear n0_; (try clear hb); (try clear hb2); (try clear hk); (try clear hi)) | ((with_reducible refine gate_callee (f := 21) rfl ?_); refine goesL_ (some 38) rfl rfl Tryd.func21 (by kernel_rfl) rfl #[.int .i64 a0, .int .i64 a1] rfl (by (try simp only [List.map_toArray, List.map_cons, List.map_nil]); first | done | rfl | (simp only [List.length_drop, List.length_take]; rfl)) ?_; (with_reducible refine (unit_Up.calls a0 a1 t162 t163 _ A7.out (GOK.below HG.out (by repeat (first | (with_reducible first | exact HB.out | apply below_alloc | apply pw_below_drewN | apply below_drew1) | exact HB.out)))).mono ?_); rintro e w13 ⟨rfl, hb⟩; refine ⟨_, rfl, ?_⟩; have n0_ := Aside0.mk (below_step (by repeat (first | (with_reducible first | exact HB.out | apply below_alloc | apply pw_below_drewN | apply below_drew1) | exact HB.out)) hb); clear HB; have HB := n0_; clear n0_; (try clear hb); (try clear hb2); (try clear hk); (try clear hi)))
  (try simp only [Act.put, List.setIfInBounds_toArray, List.set_cons_zero, List.set_cons_succ])
  go_cut [51] (fun v51 wc => ∃ (kq : Nat) (x51_7 : Bool), v51 = .bool x51_7 ∧ Aside0 (gutterlaw01_UnitBack.j0 kq a0 a1 t155 t160 t161 t162 t163 x51_7 = some r) ∧ Aside0 (kq ≤ k) ∧ Aside0 (Below w.heap.size w wc))
  case first =>
    have H := HC8.out
    clear HC8
    by_cases c14 : t157 = 0
    · rw [if_pos c14] at H
      have c14b0 : (t157 == 0) = true := beq_iff_eq.mpr c14
      have c14b1 : (t157 != 0) = false := bne_eq_false_iff_eq.mpr c14
      clear c14
      (first | rw [c14b0] | (simp only [i64_w, i32_w]; rw [c14b0]) | skip)
      by_cases c15 : t159 = 0
      · rw [if_pos c15] at H
        have c15b0 : (t159 == 0) = true := beq_iff_eq.mpr c15
        have c15b1 : (t159 != 0) = false := bne_eq_false_iff_eq.mpr c15
        clear c15
        have H' := Aside0.mk H
        clear H
        go_wp2
        go_meet
        case rel => exact ⟨_, ((t158 != a0)), (by first | rfl | (simp; done) | (simp [*]; done)), H', ⟨by first | omega | exact Nat.le_refl _⟩, ⟨by repeat (first | (with_reducible first | exact HB.out | apply below_alloc | apply pw_below_drewN | apply below_drew1) | exact HB.out)⟩⟩
      · rw [if_neg c15] at H
        have c15b0 : (t159 == 0) = false := beq_eq_false_iff_ne.mpr c15
        have c15b1 : (t159 != 0) = true := bne_iff_ne.mpr c15
        have H' := Aside0.mk H
        clear H
        go_wp2
        go_meet
        case rel => exact ⟨_, (true), (by first | rfl | (simp; done) | (simp [*]; done)), H', ⟨by first | omega | exact Nat.le_refl _⟩, ⟨by repeat (first | (with_reducible first | exact HB.out | apply below_alloc | apply pw_below_drewN | apply below_drew1) | exact HB.out)⟩⟩
    · rw [if_neg c14] at H
      have c14b0 : (t157 == 0) = false := beq_eq_false_iff_ne.mpr c14
      have c14b1 : (t157 != 0) = true := bne_iff_ne.mpr c14
      (first | rw [c14b0] | (simp only [i64_w, i32_w]; rw [c14b0]) | skip)
      have H' := Aside0.mk H
      clear H
      go_wp2
      go_meet
      case rel => exact ⟨_, (false), (by first | rfl | (simp; done) | (simp [*]; done)), H', ⟨by first | omega | exact Nat.le_refl _⟩, ⟨by repeat (first | (with_reducible first | exact HB.out | apply below_alloc | apply pw_below_drewN | apply below_drew1) | exact HB.out)⟩⟩
  case rest =>
    clear HC8
    try clear c1
    try clear c2
    try clear p2
    try clear c5
    try clear c11
    try clear c14
    try clear c14b0
    try clear c14b1
    try clear c15
    try clear c15b0
    try clear c15b1
    obtain ⟨kq, x51_7, rfl, HA, HJ7, HB⟩ := hcut
    cases kq with
    | zero => exact absurd HA.out (by simp [gutterlaw01_UnitBack.j0])
    | succ kj7 =>
      have H := HA.out
      clear HA
      simp only [gutterlaw01_UnitBack.j0] at H
      by_cases c16 : x51_7 = true
      · subst c16
        have H1 : (some false) = some r := by rw [if_pos rfl] at H; exact H
        clear H
        have H := H1
        clear H1
        obtain rfl := Option.some.inj H
        go_wp2
        go_ret
        exact ⟨by first | rfl | (simp [errW_none, errW_some] <;> rfl) | (simp [*, errW_none, errW_some] <;> rfl), by repeat (first | (with_reducible first | exact HB.out | apply below_alloc | apply pw_below_drewN | apply below_drew1) | exact HB.out)⟩
      · replace c16 := Bool.eq_false_iff.mpr c16
        subst c16
        have H1 : (if t161 = 0 then (if a1 > 1000 then (if t155 = true then (if t163 = 0 then (if t162 = t160 then (some true) else (some (t162 == (wrap64 (t160 + 1))))) else (some false)) else (some false)) else (if a1 < (-1000) then (if t155 = true then (if t163 = 0 then (if t162 = t160 then (some true) else (some (t162 == (wrap64 (t160 + 1))))) else (some false)) else (some false)) else (if t155 = true then (if t163 = 0 then (if a1 > 0 then (if (wrap64 (a0 - (wrap64 (t160 * a1)))) ≥ 0 then (if (wrap64 (a0 - (wrap64 (t160 * a1)))) < a1 then (if (wrap64 ((wrap64 (t162 * a1)) - a0)) ≥ 0 then (if (wrap64 ((wrap64 (t162 * a1)) - a0)) < a1 then (some true) else (if a1 < 0 then (if (wrap64 (a0 - (wrap64 (t160 * a1)))) ≤ 0 then (if (wrap64 (a0 - (wrap64 (t160 * a1)))) > a1 then (if (wrap64 ((wrap64 (t162 * a1)) - a0)) ≤ 0 then (some (decide ((wrap64 ((wrap64 (t162 * a1)) - a0)) > a1))) else (some false)) else (some false)) else (some false)) else (some false))) else (if a1 < 0 then (if (wrap64 (a0 - (wrap64 (t160 * a1)))) ≤ 0 then (if (wrap64 (a0 - (wrap64 (t160 * a1)))) > a1 then (if (wrap64 ((wrap64 (t162 * a1)) - a0)) ≤ 0 then (some (decide ((wrap64 ((wrap64 (t162 * a1)) - a0)) > a1))) else (some false)) else (some false)) else (some false)) else (some false))) else (if a1 < 0 then (if (wrap64 (a0 - (wrap64 (t160 * a1)))) ≤ 0 then (if (wrap64 (a0 - (wrap64 (t160 * a1)))) > a1 then (if (wrap64 ((wrap64 (t162 * a1)) - a0)) ≤ 0 then (some (decide ((wrap64 ((wrap64 (t162 * a1)) - a0)) > a1))) else (some false)) else (some false)) else (some false)) else (some false))) else (if a1 < 0 then (if (wrap64 (a0 - (wrap64 (t160 * a1)))) ≤ 0 then (if (wrap64 (a0 - (wrap64 (t160 * a1)))) > a1 then (if (wrap64 ((wrap64 (t162 * a1)) - a0)) ≤ 0 then (some (decide ((wrap64 ((wrap64 (t162 * a1)) - a0)) > a1))) else (some false)) else (some false)) else (some false)) else (some false))) else (if a1 < 0 then (if (wrap64 (a0 - (wrap64 (t160 * a1)))) ≤ 0 then (if (wrap64 (a0 - (wrap64 (t160 * a1)))) > a1 then (if (wrap64 ((wrap64 (t162 * a1)) - a0)) ≤ 0 then (some (decide ((wrap64 ((wrap64 (t162 * a1)) - a0)) > a1))) else (some false)) else (some false)) else (some false)) else (some false))) else (some false)) else (some false)))) else (if t155 = true then (if t163 = t161 then (if a1 = 0 then (some true) else ((unit_Right.f a0).bind fun t164 => (some (!t164)))) else (some false)) else (some false))) = some r := by rw [if_neg (show ¬ (false = true) by decide)] at H; exact H
        clear H
        have H := H1
        clear H1
        by_cases c17 : t161 = 0
        · rw [if_pos c17] at H
          have c17b0 : (t161 == 0) = true := beq_iff_eq.mpr c17
          have c17b1 : (t161 != 0) = false := bne_eq_false_iff_eq.mpr c17
          clear c17
          by_cases c18 : a1 > 1000
          · rw [if_pos c18] at H
            have c18b0 : decide (1000 < a1) = true := decide_eq_true c18
            clear c18
            by_cases c19 : t155 = true
            · subst c19
              have H1 : (if t163 = 0 then (if t162 = t160 then (some true) else (some (t162 == (wrap64 (t160 + 1))))) else (some false)) = some r := by rw [if_pos rfl] at H; exact H
              clear H
              have H := H1
              clear H1
              by_cases c20 : t163 = 0
              · rw [if_pos c20] at H
                have c20b0 : (t163 == 0) = true := beq_iff_eq.mpr c20
                have c20b1 : (t163 != 0) = false := bne_eq_false_iff_eq.mpr c20
                clear c20
                by_cases c21 : t162 = t160
                · rw [if_pos c21] at H
                  have c21b0 : (t162 == t160) = true := beq_iff_eq.mpr c21
                  have c21b1 : (t162 != t160) = false := bne_eq_false_iff_eq.mpr c21
                  clear c21
                  obtain rfl := Option.some.inj H
                  go_wp2
                  go_ret
                  exact ⟨by first | rfl | (simp [errW_none, errW_some] <;> rfl) | (simp [*, errW_none, errW_some] <;> rfl), by repeat (first | (with_reducible first | exact HB.out | apply below_alloc | apply pw_below_drewN | apply below_drew1) | exact HB.out)⟩
                · rw [if_neg c21] at H
                  have c21b0 : (t162 == t160) = false := beq_eq_false_iff_ne.mpr c21
                  have c21b1 : (t162 != t160) = true := bne_iff_ne.mpr c21
                  obtain rfl := Option.some.inj H
                  go_wp2
                  go_ret
                  exact ⟨by first | rfl | (simp [errW_none, errW_some] <;> rfl) | (simp [*, errW_none, errW_some] <;> rfl), by repeat (first | (with_reducible first | exact HB.out | apply below_alloc | apply pw_below_drewN | apply below_drew1) | exact HB.out)⟩
              · rw [if_neg c20] at H
                have c20b0 : (t163 == 0) = false := beq_eq_false_iff_ne.mpr c20
                have c20b1 : (t163 != 0) = true := bne_iff_ne.mpr c20
                obtain rfl := Option.some.inj H
                go_wp2
                go_ret
                exact ⟨by first | rfl | (simp [errW_none, errW_some] <;> rfl) | (simp [*, errW_none, errW_some] <;> rfl), by repeat (first | (with_reducible first | exact HB.out | apply below_alloc | apply pw_below_drewN | apply below_drew1) | exact HB.out)⟩
            · replace c19 := Bool.eq_false_iff.mpr c19
              subst c19
              have H1 : (some false) = some r := by rw [if_neg (show ¬ (false = true) by decide)] at H; exact H
              clear H
              have H := H1
              clear H1
              obtain rfl := Option.some.inj H
              go_wp2
              go_ret
              exact ⟨by first | rfl | (simp [errW_none, errW_some] <;> rfl) | (simp [*, errW_none, errW_some] <;> rfl), by repeat (first | (with_reducible first | exact HB.out | apply below_alloc | apply pw_below_drewN | apply below_drew1) | exact HB.out)⟩
          · rw [if_neg c18] at H
            have c18b0 : decide (1000 < a1) = false := decide_eq_false c18
            clear c18
            by_cases c22 : a1 < (-1000)
            · rw [if_pos c22] at H
              have c22b0 : decide (a1 < (-1000)) = true := decide_eq_true c22
              clear c22
              by_cases c23 : t155 = true
              · subst c23
                have H1 : (if t163 = 0 then (if t162 = t160 then (some true) else (some (t162 == (wrap64 (t160 + 1))))) else (some false)) = some r := by rw [if_pos rfl] at H; exact H
                clear H
                have H := H1
                clear H1
                by_cases c24 : t163 = 0
                · rw [if_pos c24] at H
                  have c24b0 : (t163 == 0) = true := beq_iff_eq.mpr c24
                  have c24b1 : (t163 != 0) = false := bne_eq_false_iff_eq.mpr c24
                  clear c24
                  by_cases c25 : t162 = t160
                  · rw [if_pos c25] at H
                    have c25b0 : (t162 == t160) = true := beq_iff_eq.mpr c25
                    have c25b1 : (t162 != t160) = false := bne_eq_false_iff_eq.mpr c25
                    clear c25
                    obtain rfl := Option.some.inj H
                    go_wp2
                    go_ret
                    exact ⟨by first | rfl | (simp [errW_none, errW_some] <;> rfl) | (simp [*, errW_none, errW_some] <;> rfl), by repeat (first | (with_reducible first | exact HB.out | apply below_alloc | apply pw_below_drewN | apply below_drew1) | exact HB.out)⟩
                  · rw [if_neg c25] at H
                    have c25b0 : (t162 == t160) = false := beq_eq_false_iff_ne.mpr c25
                    have c25b1 : (t162 != t160) = true := bne_iff_ne.mpr c25
                    obtain rfl := Option.some.inj H
                    go_wp2
                    go_ret
                    exact ⟨by first | rfl | (simp [errW_none, errW_some] <;> rfl) | (simp [*, errW_none, errW_some] <;> rfl), by repeat (first | (with_reducible first | exact HB.out | apply below_alloc | apply pw_below_drewN | apply below_drew1) | exact HB.out)⟩
                · rw [if_neg c24] at H
                  have c24b0 : (t163 == 0) = false := beq_eq_false_iff_ne.mpr c24
                  have c24b1 : (t163 != 0) = true := bne_iff_ne.mpr c24
                  obtain rfl := Option.some.inj H
                  go_wp2
                  go_ret
                  exact ⟨by first | rfl | (simp [errW_none, errW_some] <;> rfl) | (simp [*, errW_none, errW_some] <;> rfl), by repeat (first | (with_reducible first | exact HB.out | apply below_alloc | apply pw_below_drewN | apply below_drew1) | exact HB.out)⟩
              · replace c23 := Bool.eq_false_iff.mpr c23
                subst c23
                have H1 : (some false) = some r := by rw [if_neg (show ¬ (false = true) by decide)] at H; exact H
                clear H
                have H := H1
                clear H1
                obtain rfl := Option.some.inj H
                go_wp2
                go_ret
                exact ⟨by first | rfl | (simp [errW_none, errW_some] <;> rfl) | (simp [*, errW_none, errW_some] <;> rfl), by repeat (first | (with_reducible first | exact HB.out | apply below_alloc | apply pw_below_drewN | apply below_drew1) | exact HB.out)⟩
            · rw [if_neg c22] at H
              have c22b0 : decide (a1 < (-1000)) = false := decide_eq_false c22
              clear c22
              by_cases c26 : t155 = true
              · subst c26
                have H1 : (if t163 = 0 then (if a1 > 0 then (if (wrap64 (a0 - (wrap64 (t160 * a1)))) ≥ 0 then (if (wrap64 (a0 - (wrap64 (t160 * a1)))) < a1 then (if (wrap64 ((wrap64 (t162 * a1)) - a0)) ≥ 0 then (if (wrap64 ((wrap64 (t162 * a1)) - a0)) < a1 then (some true) else (if a1 < 0 then (if (wrap64 (a0 - (wrap64 (t160 * a1)))) ≤ 0 then (if (wrap64 (a0 - (wrap64 (t160 * a1)))) > a1 then (if (wrap64 ((wrap64 (t162 * a1)) - a0)) ≤ 0 then (some (decide ((wrap64 ((wrap64 (t162 * a1)) - a0)) > a1))) else (some false)) else (some false)) else (some false)) else (some false))) else (if a1 < 0 then (if (wrap64 (a0 - (wrap64 (t160 * a1)))) ≤ 0 then (if (wrap64 (a0 - (wrap64 (t160 * a1)))) > a1 then (if (wrap64 ((wrap64 (t162 * a1)) - a0)) ≤ 0 then (some (decide ((wrap64 ((wrap64 (t162 * a1)) - a0)) > a1))) else (some false)) else (some false)) else (some false)) else (some false))) else (if a1 < 0 then (if (wrap64 (a0 - (wrap64 (t160 * a1)))) ≤ 0 then (if (wrap64 (a0 - (wrap64 (t160 * a1)))) > a1 then (if (wrap64 ((wrap64 (t162 * a1)) - a0)) ≤ 0 then (some (decide ((wrap64 ((wrap64 (t162 * a1)) - a0)) > a1))) else (some false)) else (some false)) else (some false)) else (some false))) else (if a1 < 0 then (if (wrap64 (a0 - (wrap64 (t160 * a1)))) ≤ 0 then (if (wrap64 (a0 - (wrap64 (t160 * a1)))) > a1 then (if (wrap64 ((wrap64 (t162 * a1)) - a0)) ≤ 0 then (some (decide ((wrap64 ((wrap64 (t162 * a1)) - a0)) > a1))) else (some false)) else (some false)) else (some false)) else (some false))) else (if a1 < 0 then (if (wrap64 (a0 - (wrap64 (t160 * a1)))) ≤ 0 then (if (wrap64 (a0 - (wrap64 (t160 * a1)))) > a1 then (if (wrap64 ((wrap64 (t162 * a1)) - a0)) ≤ 0 then (some (decide ((wrap64 ((wrap64 (t162 * a1)) - a0)) > a1))) else (some false)) else (some false)) else (some false)) else (some false))) else (some false)) = some r := by rw [if_pos rfl] at H; exact H
                clear H
                have H := H1
                clear H1
                by_cases c27 : t163 = 0
                · rw [if_pos c27] at H
                  have c27b0 : (t163 == 0) = true := beq_iff_eq.mpr c27
                  have c27b1 : (t163 != 0) = false := bne_eq_false_iff_eq.mpr c27
                  clear c27
                  by_cases c28 : a1 > 0
                  · rw [if_pos c28] at H
                    have c28b0 : decide (0 < a1) = true := decide_eq_true c28
                    clear c28
                    by_cases c29 : (wrap64 (a0 - (wrap64 (t160 * a1)))) ≥ 0
                    · rw [if_pos c29] at H
                      have c29b0 : decide (0 ≤ (wrap64 (a0 - (wrap64 (t160 * a1))))) = true := decide_eq_true c29
                      clear c29
                      by_cases c30 : (wrap64 (a0 - (wrap64 (t160 * a1)))) < a1
                      · rw [if_pos c30] at H
                        have c30b0 : decide ((wrap64 (a0 - (wrap64 (t160 * a1)))) < a1) = true := decide_eq_true c30
                        clear c30
                        by_cases c31 : (wrap64 ((wrap64 (t162 * a1)) - a0)) ≥ 0
                        · rw [if_pos c31] at H
                          have c31b0 : decide (0 ≤ (wrap64 ((wrap64 (t162 * a1)) - a0))) = true := decide_eq_true c31
                          clear c31
                          by_cases c32 : (wrap64 ((wrap64 (t162 * a1)) - a0)) < a1
                          · rw [if_pos c32] at H
                            have c32b0 : decide ((wrap64 ((wrap64 (t162 * a1)) - a0)) < a1) = true := decide_eq_true c32
                            clear c32
                            obtain rfl := Option.some.inj H
                            go_wp2
                            go_ret
                            exact ⟨by first | rfl | (simp [errW_none, errW_some] <;> rfl) | (simp [*, errW_none, errW_some] <;> rfl), by repeat (first | (with_reducible first | exact HB.out | apply below_alloc | apply pw_below_drewN | apply below_drew1) | exact HB.out)⟩
                          · rw [if_neg c32] at H
                            have c32b0 : decide ((wrap64 ((wrap64 (t162 * a1)) - a0)) < a1) = false := decide_eq_false c32
                            clear c32
                            by_cases c33 : a1 < 0
                            · rw [if_pos c33] at H
                              have c33b0 : decide (a1 < 0) = true := decide_eq_true c33
                              clear c33
                              by_cases c34 : (wrap64 (a0 - (wrap64 (t160 * a1)))) ≤ 0
                              · rw [if_pos c34] at H
                                have c34b0 : decide ((wrap64 (a0 - (wrap64 (t160 * a1)))) ≤ 0) = true := decide_eq_true c34
                                clear c34
                                by_cases c35 : (wrap64 (a0 - (wrap64 (t160 * a1)))) > a1
                                · rw [if_pos c35] at H
                                  have c35b0 : decide (a1 < (wrap64 (a0 - (wrap64 (t160 * a1))))) = true := decide_eq_true c35
                                  clear c35
                                  by_cases c36 : (wrap64 ((wrap64 (t162 * a1)) - a0)) ≤ 0
                                  · rw [if_pos c36] at H
                                    have c36b0 : decide ((wrap64 ((wrap64 (t162 * a1)) - a0)) ≤ 0) = true := decide_eq_true c36
                                    clear c36
                                    obtain rfl := Option.some.inj H
                                    go_wp2
                                    go_ret
                                    exact ⟨by first | rfl | (simp [errW_none, errW_some] <;> rfl) | (simp [*, errW_none, errW_some] <;> rfl), by repeat (first | (with_reducible first | exact HB.out | apply below_alloc | apply pw_below_drewN | apply below_drew1) | exact HB.out)⟩
                                  · rw [if_neg c36] at H
                                    have c36b0 : decide ((wrap64 ((wrap64 (t162 * a1)) - a0)) ≤ 0) = false := decide_eq_false c36
                                    clear c36
                                    obtain rfl := Option.some.inj H
                                    go_wp2
                                    go_ret
                                    exact ⟨by first | rfl | (simp [errW_none, errW_some] <;> rfl) | (simp [*, errW_none, errW_some] <;> rfl), by repeat (first | (with_reducible first | exact HB.out | apply below_alloc | apply pw_below_drewN | apply below_drew1) | exact HB.out)⟩
                                · rw [if_neg c35] at H
                                  have c35b0 : decide (a1 < (wrap64 (a0 - (wrap64 (t160 * a1))))) = false := decide_eq_false c35
                                  clear c35
                                  obtain rfl := Option.some.inj H
                                  go_wp2
                                  go_ret
                                  exact ⟨by first | rfl | (simp [errW_none, errW_some] <;> rfl) | (simp [*, errW_none, errW_some] <;> rfl), by repeat (first | (with_reducible first | exact HB.out | apply below_alloc | apply pw_below_drewN | apply below_drew1) | exact HB.out)⟩
                              · rw [if_neg c34] at H
                                have c34b0 : decide ((wrap64 (a0 - (wrap64 (t160 * a1)))) ≤ 0) = false := decide_eq_false c34
                                clear c34
                                obtain rfl := Option.some.inj H
                                go_wp2
                                go_ret
                                exact ⟨by first | rfl | (simp [errW_none, errW_some] <;> rfl) | (simp [*, errW_none, errW_some] <;> rfl), by repeat (first | (with_reducible first | exact HB.out | apply below_alloc | apply pw_below_drewN | apply below_drew1) | exact HB.out)⟩
                            · rw [if_neg c33] at H
                              have c33b0 : decide (a1 < 0) = false := decide_eq_false c33
                              clear c33
                              obtain rfl := Option.some.inj H
                              go_wp2
                              go_ret
                              exact ⟨by first | rfl | (simp [errW_none, errW_some] <;> rfl) | (simp [*, errW_none, errW_some] <;> rfl), by repeat (first | (with_reducible first | exact HB.out | apply below_alloc | apply pw_below_drewN | apply below_drew1) | exact HB.out)⟩
                        · rw [if_neg c31] at H
                          have c31b0 : decide (0 ≤ (wrap64 ((wrap64 (t162 * a1)) - a0))) = false := decide_eq_false c31
                          clear c31
                          by_cases c37 : a1 < 0
                          · rw [if_pos c37] at H
                            have c37b0 : decide (a1 < 0) = true := decide_eq_true c37
                            clear c37
                            by_cases c38 : (wrap64 (a0 - (wrap64 (t160 * a1)))) ≤ 0
                            · rw [if_pos c38] at H
                              have c38b0 : decide ((wrap64 (a0 - (wrap64 (t160 * a1)))) ≤ 0) = true := decide_eq_true c38
                              clear c38
                              by_cases c39 : (wrap64 (a0 - (wrap64 (t160 * a1)))) > a1
                              · rw [if_pos c39] at H
                                have c39b0 : decide (a1 < (wrap64 (a0 - (wrap64 (t160 * a1))))) = true := decide_eq_true c39
                                clear c39
                                by_cases c40 : (wrap64 ((wrap64 (t162 * a1)) - a0)) ≤ 0
                                · rw [if_pos c40] at H
                                  have c40b0 : decide ((wrap64 ((wrap64 (t162 * a1)) - a0)) ≤ 0) = true := decide_eq_true c40
                                  clear c40
                                  obtain rfl := Option.some.inj H
                                  go_wp2
                                  go_ret
                                  exact ⟨by first | rfl | (simp [errW_none, errW_some] <;> rfl) | (simp [*, errW_none, errW_some] <;> rfl), by repeat (first | (with_reducible first | exact HB.out | apply below_alloc | apply pw_below_drewN | apply below_drew1) | exact HB.out)⟩
                                · rw [if_neg c40] at H
                                  have c40b0 : decide ((wrap64 ((wrap64 (t162 * a1)) - a0)) ≤ 0) = false := decide_eq_false c40
                                  clear c40
                                  obtain rfl := Option.some.inj H
                                  go_wp2
                                  go_ret
                                  exact ⟨by first | rfl | (simp [errW_none, errW_some] <;> rfl) | (simp [*, errW_none, errW_some] <;> rfl), by repeat (first | (with_reducible first | exact HB.out | apply below_alloc | apply pw_below_drewN | apply below_drew1) | exact HB.out)⟩
                              · rw [if_neg c39] at H
                                have c39b0 : decide (a1 < (wrap64 (a0 - (wrap64 (t160 * a1))))) = false := decide_eq_false c39
                                clear c39
                                obtain rfl := Option.some.inj H
                                go_wp2
                                go_ret
                                exact ⟨by first | rfl | (simp [errW_none, errW_some] <;> rfl) | (simp [*, errW_none, errW_some] <;> rfl), by repeat (first | (with_reducible first | exact HB.out | apply below_alloc | apply pw_below_drewN | apply below_drew1) | exact HB.out)⟩
                            · rw [if_neg c38] at H
                              have c38b0 : decide ((wrap64 (a0 - (wrap64 (t160 * a1)))) ≤ 0) = false := decide_eq_false c38
                              clear c38
                              obtain rfl := Option.some.inj H
                              go_wp2
                              go_ret
                              exact ⟨by first | rfl | (simp [errW_none, errW_some] <;> rfl) | (simp [*, errW_none, errW_some] <;> rfl), by repeat (first | (with_reducible first | exact HB.out | apply below_alloc | apply pw_below_drewN | apply below_drew1) | exact HB.out)⟩
                          · rw [if_neg c37] at H
                            have c37b0 : decide (a1 < 0) = false := decide_eq_false c37
                            clear c37
                            obtain rfl := Option.some.inj H
                            go_wp2
                            go_ret
                            exact ⟨by first | rfl | (simp [errW_none, errW_some] <;> rfl) | (simp [*, errW_none, errW_some] <;> rfl), by repeat (first | (with_reducible first | exact HB.out | apply below_alloc | apply pw_below_drewN | apply below_drew1) | exact HB.out)⟩
                      · rw [if_neg c30] at H
                        have c30b0 : decide ((wrap64 (a0 - (wrap64 (t160 * a1)))) < a1) = false := decide_eq_false c30
                        clear c30
                        by_cases c41 : a1 < 0
                        · rw [if_pos c41] at H
                          have c41b0 : decide (a1 < 0) = true := decide_eq_true c41
                          clear c41
                          by_cases c42 : (wrap64 (a0 - (wrap64 (t160 * a1)))) ≤ 0
                          · rw [if_pos c42] at H
                            have c42b0 : decide ((wrap64 (a0 - (wrap64 (t160 * a1)))) ≤ 0) = true := decide_eq_true c42
                            clear c42
                            by_cases c43 : (wrap64 (a0 - (wrap64 (t160 * a1)))) > a1
                            · rw [if_pos c43] at H
                              have c43b0 : decide (a1 < (wrap64 (a0 - (wrap64 (t160 * a1))))) = true := decide_eq_true c43
                              clear c43
                              by_cases c44 : (wrap64 ((wrap64 (t162 * a1)) - a0)) ≤ 0
                              · rw [if_pos c44] at H
                                have c44b0 : decide ((wrap64 ((wrap64 (t162 * a1)) - a0)) ≤ 0) = true := decide_eq_true c44
                                clear c44
                                obtain rfl := Option.some.inj H
                                go_wp2
                                go_ret
                                exact ⟨by first | rfl | (simp [errW_none, errW_some] <;> rfl) | (simp [*, errW_none, errW_some] <;> rfl), by repeat (first | (with_reducible first | exact HB.out | apply below_alloc | apply pw_below_drewN | apply below_drew1) | exact HB.out)⟩
                              · rw [if_neg c44] at H
                                have c44b0 : decide ((wrap64 ((wrap64 (t162 * a1)) - a0)) ≤ 0) = false := decide_eq_false c44
                                clear c44
                                obtain rfl := Option.some.inj H
                                go_wp2
                                go_ret
                                exact ⟨by first | rfl | (simp [errW_none, errW_some] <;> rfl) | (simp [*, errW_none, errW_some] <;> rfl), by repeat (first | (with_reducible first | exact HB.out | apply below_alloc | apply pw_below_drewN | apply below_drew1) | exact HB.out)⟩
                            · rw [if_neg c43] at H
                              have c43b0 : decide (a1 < (wrap64 (a0 - (wrap64 (t160 * a1))))) = false := decide_eq_false c43
                              clear c43
                              obtain rfl := Option.some.inj H
                              go_wp2
                              go_ret
                              exact ⟨by first | rfl | (simp [errW_none, errW_some] <;> rfl) | (simp [*, errW_none, errW_some] <;> rfl), by repeat (first | (with_reducible first | exact HB.out | apply below_alloc | apply pw_below_drewN | apply below_drew1) | exact HB.out)⟩
                          · rw [if_neg c42] at H
                            have c42b0 : decide ((wrap64 (a0 - (wrap64 (t160 * a1)))) ≤ 0) = false := decide_eq_false c42
                            clear c42
                            obtain rfl := Option.some.inj H
                            go_wp2
                            go_ret
                            exact ⟨by first | rfl | (simp [errW_none, errW_some] <;> rfl) | (simp [*, errW_none, errW_some] <;> rfl), by repeat (first | (with_reducible first | exact HB.out | apply below_alloc | apply pw_below_drewN | apply below_drew1) | exact HB.out)⟩
                        · rw [if_neg c41] at H
                          have c41b0 : decide (a1 < 0) = false := decide_eq_false c41
                          clear c41
                          obtain rfl := Option.some.inj H
                          go_wp2
                          go_ret
                          exact ⟨by first | rfl | (simp [errW_none, errW_some] <;> rfl) | (simp [*, errW_none, errW_some] <;> rfl), by repeat (first | (with_reducible first | exact HB.out | apply below_alloc | apply pw_below_drewN | apply below_drew1) | exact HB.out)⟩
                    · rw [if_neg c29] at H
                      have c29b0 : decide (0 ≤ (wrap64 (a0 - (wrap64 (t160 * a1))))) = false := decide_eq_false c29
                      clear c29
                      by_cases c45 : a1 < 0
                      · rw [if_pos c45] at H
                        have c45b0 : decide (a1 < 0) = true := decide_eq_true c45
                        clear c45
                        by_cases c46 : (wrap64 (a0 - (wrap64 (t160 * a1)))) ≤ 0
                        · rw [if_pos c46] at H
                          have c46b0 : decide ((wrap64 (a0 - (wrap64 (t160 * a1)))) ≤ 0) = true := decide_eq_true c46
                          clear c46
                          by_cases c47 : (wrap64 (a0 - (wrap64 (t160 * a1)))) > a1
                          · rw [if_pos c47] at H
                            have c47b0 : decide (a1 < (wrap64 (a0 - (wrap64 (t160 * a1))))) = true := decide_eq_true c47
                            clear c47
                            by_cases c48 : (wrap64 ((wrap64 (t162 * a1)) - a0)) ≤ 0
                            · rw [if_pos c48] at H
                              have c48b0 : decide ((wrap64 ((wrap64 (t162 * a1)) - a0)) ≤ 0) = true := decide_eq_true c48
                              clear c48
                              obtain rfl := Option.some.inj H
                              go_wp2
                              go_ret
                              exact ⟨by first | rfl | (simp [errW_none, errW_some] <;> rfl) | (simp [*, errW_none, errW_some] <;> rfl), by repeat (first | (with_reducible first | exact HB.out | apply below_alloc | apply pw_below_drewN | apply below_drew1) | exact HB.out)⟩
                            · rw [if_neg c48] at H
                              have c48b0 : decide ((wrap64 ((wrap64 (t162 * a1)) - a0)) ≤ 0) = false := decide_eq_false c48
                              clear c48
                              obtain rfl := Option.some.inj H
                              go_wp2
                              go_ret
                              exact ⟨by first | rfl | (simp [errW_none, errW_some] <;> rfl) | (simp [*, errW_none, errW_some] <;> rfl), by repeat (first | (with_reducible first | exact HB.out | apply below_alloc | apply pw_below_drewN | apply below_drew1) | exact HB.out)⟩
                          · rw [if_neg c47] at H
                            have c47b0 : decide (a1 < (wrap64 (a0 - (wrap64 (t160 * a1))))) = false := decide_eq_false c47
                            clear c47
                            obtain rfl := Option.some.inj H
                            go_wp2
                            go_ret
                            exact ⟨by first | rfl | (simp [errW_none, errW_some] <;> rfl) | (simp [*, errW_none, errW_some] <;> rfl), by repeat (first | (with_reducible first | exact HB.out | apply below_alloc | apply pw_below_drewN | apply below_drew1) | exact HB.out)⟩
                        · rw [if_neg c46] at H
                          have c46b0 : decide ((wrap64 (a0 - (wrap64 (t160 * a1)))) ≤ 0) = false := decide_eq_false c46
                          clear c46
                          obtain rfl := Option.some.inj H
                          go_wp2
                          go_ret
                          exact ⟨by first | rfl | (simp [errW_none, errW_some] <;> rfl) | (simp [*, errW_none, errW_some] <;> rfl), by repeat (first | (with_reducible first | exact HB.out | apply below_alloc | apply pw_below_drewN | apply below_drew1) | exact HB.out)⟩
                      · rw [if_neg c45] at H
                        have c45b0 : decide (a1 < 0) = false := decide_eq_false c45
                        clear c45
                        obtain rfl := Option.some.inj H
                        go_wp2
                        go_ret
                        exact ⟨by first | rfl | (simp [errW_none, errW_some] <;> rfl) | (simp [*, errW_none, errW_some] <;> rfl), by repeat (first | (with_reducible first | exact HB.out | apply below_alloc | apply pw_below_drewN | apply below_drew1) | exact HB.out)⟩
                  · rw [if_neg c28] at H
                    have c28b0 : decide (0 < a1) = false := decide_eq_false c28
                    clear c28
                    by_cases c49 : a1 < 0
                    · rw [if_pos c49] at H
                      have c49b0 : decide (a1 < 0) = true := decide_eq_true c49
                      clear c49
                      by_cases c50 : (wrap64 (a0 - (wrap64 (t160 * a1)))) ≤ 0
                      · rw [if_pos c50] at H
                        have c50b0 : decide ((wrap64 (a0 - (wrap64 (t160 * a1)))) ≤ 0) = true := decide_eq_true c50
                        clear c50
                        by_cases c51 : (wrap64 (a0 - (wrap64 (t160 * a1)))) > a1
                        · rw [if_pos c51] at H
                          have c51b0 : decide (a1 < (wrap64 (a0 - (wrap64 (t160 * a1))))) = true := decide_eq_true c51
                          clear c51
                          by_cases c52 : (wrap64 ((wrap64 (t162 * a1)) - a0)) ≤ 0
                          · rw [if_pos c52] at H
                            have c52b0 : decide ((wrap64 ((wrap64 (t162 * a1)) - a0)) ≤ 0) = true := decide_eq_true c52
                            clear c52
                            obtain rfl := Option.some.inj H
                            go_wp2
                            go_ret
                            exact ⟨by first | rfl | (simp [errW_none, errW_some] <;> rfl) | (simp [*, errW_none, errW_some] <;> rfl), by repeat (first | (with_reducible first | exact HB.out | apply below_alloc | apply pw_below_drewN | apply below_drew1) | exact HB.out)⟩
                          · rw [if_neg c52] at H
                            have c52b0 : decide ((wrap64 ((wrap64 (t162 * a1)) - a0)) ≤ 0) = false := decide_eq_false c52
                            clear c52
                            obtain rfl := Option.some.inj H
                            go_wp2
                            go_ret
                            exact ⟨by first | rfl | (simp [errW_none, errW_some] <;> rfl) | (simp [*, errW_none, errW_some] <;> rfl), by repeat (first | (with_reducible first | exact HB.out | apply below_alloc | apply pw_below_drewN | apply below_drew1) | exact HB.out)⟩
                        · rw [if_neg c51] at H
                          have c51b0 : decide (a1 < (wrap64 (a0 - (wrap64 (t160 * a1))))) = false := decide_eq_false c51
                          clear c51
                          obtain rfl := Option.some.inj H
                          go_wp2
                          go_ret
                          exact ⟨by first | rfl | (simp [errW_none, errW_some] <;> rfl) | (simp [*, errW_none, errW_some] <;> rfl), by repeat (first | (with_reducible first | exact HB.out | apply below_alloc | apply pw_below_drewN | apply below_drew1) | exact HB.out)⟩
                      · rw [if_neg c50] at H
                        have c50b0 : decide ((wrap64 (a0 - (wrap64 (t160 * a1)))) ≤ 0) = false := decide_eq_false c50
                        clear c50
                        obtain rfl := Option.some.inj H
                        go_wp2
                        go_ret
                        exact ⟨by first | rfl | (simp [errW_none, errW_some] <;> rfl) | (simp [*, errW_none, errW_some] <;> rfl), by repeat (first | (with_reducible first | exact HB.out | apply below_alloc | apply pw_below_drewN | apply below_drew1) | exact HB.out)⟩
                    · rw [if_neg c49] at H
                      have c49b0 : decide (a1 < 0) = false := decide_eq_false c49
                      clear c49
                      obtain rfl := Option.some.inj H
                      go_wp2
                      go_ret
                      exact ⟨by first | rfl | (simp [errW_none, errW_some] <;> rfl) | (simp [*, errW_none, errW_some] <;> rfl), by repeat (first | (with_reducible first | exact HB.out | apply below_alloc | apply pw_below_drewN | apply below_drew1) | exact HB.out)⟩
                · rw [if_neg c27] at H
                  have c27b0 : (t163 == 0) = false := beq_eq_false_iff_ne.mpr c27
                  have c27b1 : (t163 != 0) = true := bne_iff_ne.mpr c27
                  obtain rfl := Option.some.inj H
                  go_wp2
                  go_ret
                  exact ⟨by first | rfl | (simp [errW_none, errW_some] <;> rfl) | (simp [*, errW_none, errW_some] <;> rfl), by repeat (first | (with_reducible first | exact HB.out | apply below_alloc | apply pw_below_drewN | apply below_drew1) | exact HB.out)⟩
              · replace c26 := Bool.eq_false_iff.mpr c26
                subst c26
                have H1 : (some false) = some r := by rw [if_neg (show ¬ (false = true) by decide)] at H; exact H
                clear H
                have H := H1
                clear H1
                obtain rfl := Option.some.inj H
                go_wp2
                go_ret
                exact ⟨by first | rfl | (simp [errW_none, errW_some] <;> rfl) | (simp [*, errW_none, errW_some] <;> rfl), by repeat (first | (with_reducible first | exact HB.out | apply below_alloc | apply pw_below_drewN | apply below_drew1) | exact HB.out)⟩
        · rw [if_neg c17] at H
          have c17b0 : (t161 == 0) = false := beq_eq_false_iff_ne.mpr c17
          have c17b1 : (t161 != 0) = true := bne_iff_ne.mpr c17
          by_cases c53 : t155 = true
          · subst c53
            have H1 : (if t163 = t161 then (if a1 = 0 then (some true) else ((unit_Right.f a0).bind fun t164 => (some (!t164)))) else (some false)) = some r := by rw [if_pos rfl] at H; exact H
            clear H
            have H := H1
            clear H1
            by_cases c54 : t163 = t161
            · rw [if_pos c54] at H
              have c54b0 : (t163 == t161) = true := beq_iff_eq.mpr c54
              have c54b1 : (t163 != t161) = false := bne_eq_false_iff_eq.mpr c54
              clear c54
              by_cases c55 : a1 = 0
              · rw [if_pos c55] at H
                have c55b0 : (a1 == 0) = true := beq_iff_eq.mpr c55
                have c55b1 : (a1 != 0) = false := bne_eq_false_iff_eq.mpr c55
                clear c55
                obtain rfl := Option.some.inj H
                go_wp2
                go_ret
                exact ⟨by first | rfl | (simp [errW_none, errW_some] <;> rfl) | (simp [*, errW_none, errW_some] <;> rfl), by repeat (first | (with_reducible first | exact HB.out | apply below_alloc | apply pw_below_drewN | apply below_drew1) | exact HB.out)⟩
              · rw [if_neg c55] at H
                have c55b0 : (a1 == 0) = false := beq_eq_false_iff_ne.mpr c55
                have c55b1 : (a1 != 0) = true := bne_iff_ne.mpr c55
                replace H := Option.bind_eq_some_iff.mp H
                obtain ⟨t164, A560, H⟩ := H
                replace H : (some (!t164)) = some r := H
                have A56 := Aside0.mk A560
                clear A560
                obtain rfl := Option.some.inj H
                go_wp2_with (first | (go_at_call 17; (with_reducible refine (unit_Right.calls a0 t164 _ A56.out).mono ?_); rintro e w57 ⟨rfl, hb⟩; have n0_ := Aside0.mk (below_step (by repeat (first | (with_reducible first | exact HB.out | apply below_alloc | apply pw_below_drewN | apply below_drew1) | exact HB.out)) hb); clear HB; have HB := n0_; clear n0_; (try clear hb); (try clear hb2); (try clear hk); (try clear hi)))
                go_ret
                exact ⟨by first | rfl | (simp [errW_none, errW_some] <;> rfl) | (simp [*, errW_none, errW_some] <;> rfl), by repeat (first | (with_reducible first | exact HB.out | apply below_alloc | apply pw_below_drewN | apply below_drew1) | exact HB.out)⟩
            · rw [if_neg c54] at H
              have c54b0 : (t163 == t161) = false := beq_eq_false_iff_ne.mpr c54
              have c54b1 : (t163 != t161) = true := bne_iff_ne.mpr c54
              obtain rfl := Option.some.inj H
              go_wp2
              go_ret
              exact ⟨by first | rfl | (simp [errW_none, errW_some] <;> rfl) | (simp [*, errW_none, errW_some] <;> rfl), by repeat (first | (with_reducible first | exact HB.out | apply below_alloc | apply pw_below_drewN | apply below_drew1) | exact HB.out)⟩
          · replace c53 := Bool.eq_false_iff.mpr c53
            subst c53
            have H1 : (some false) = some r := by rw [if_neg (show ¬ (false = true) by decide)] at H; exact H
            clear H
            have H := H1
            clear H1
            obtain rfl := Option.some.inj H
            go_wp2
            go_ret
            exact ⟨by first | rfl | (simp [errW_none, errW_some] <;> rfl) | (simp [*, errW_none, errW_some] <;> rfl), by repeat (first | (with_reducible first | exact HB.out | apply below_alloc | apply pw_below_drewN | apply below_drew1) | exact HB.out)⟩

/-- THE ONE PURE STATEMENT of gutterlaw01_UnitBack: yours. -/
def gutterlaw01_UnitBack.Pure : Prop := ∀ (a0 : Int) (a1 : Int), (Lit.int .i64 a0).wf = true → (Lit.int .i64 a1).wf = true → ∃ k, gutterlaw01_UnitBack.f k a0 a1 = some true
theorem gutterlaw01_UnitBack.walk (P : gutterlaw01_UnitBack.Pure) (a0 : Int) (a1 : Int) (w : World) (w0 : (Lit.int .i64 a0).wf = true) (w1 : (Lit.int .i64 a1).wf = true) (hG : GOK w) :
    Calls Tryd.prog 5 #[.int .i64 a0, .int .i64 a1] w fun e w' => e = .returned (.bool true) ∧ Below w.heap.size w w' := by
  obtain ⟨k, h⟩ := P a0 a1 w0 w1
  refine (gutterlaw01_UnitBack.calls k a0 a1 true w h hG).mono ?_
  rintro e w' ⟨rfl, hd⟩
  exact ⟨rfl, hd⟩

end Go.Proofs.YtlpkjjeihbdocaaDoor.G
