/- Functions of the law and of what it calls as plain Lean functions, and that the calls come to their answers: written by fprint.py. -/
import Derived.Test.YtnfbfachabdahaaF15
import Derived.Test.YtnfbfachabdahaaG0
import Derived.Test.YtnfbfachabdahaaG4
import Derived.Test.YtnfbfachabdahaaG5
namespace Go.Proofs.Ytnfbfachabdahaa.G
open Go.RowKit Go.Proofs.YtnfbfachabdahaaW.PrintWords Go.Proofs.YtnfbfachabdahaaW.PrintLast Go.Proofs.YtnfbfachabdahaaW.PrintMore
attribute [local go_sem] max2_int min2_int max_two min_two max_three min_three max_four min_four   -- for this text's walks alone
set_option linter.unusedVariables false
set_option linter.unusedSimpArgs false

/-! ### gutterlaw07_WordEnds: function 5 -/
mutual
def gutterlaw07_WordEnds.l0 : Nat → Bool → List (S34) → Int → Option (Bool)
  | 0, _, _, _ => none
  | k + 1, x3, x4, x6 => if x6 < (x4.length : Int) then (if 0 ≤ x6 then (if ((rd_T34 x4 x6).f0).toList = ([] : List UInt8) then (some false) else (gutterlaw07_WordEnds.l1 k x3 x4 x6 ((rd_T34 x4 x6).f0) 0)) else (none)) else (some x3)
def gutterlaw07_WordEnds.l1 : Nat → Bool → List (S34) → Int → ByteArray → Int → Option (Bool)
  | 0, _, _, _, _, _ => none
  | k + 1, x3, x4, x6, x7, x8 => if x8 < (x7.size : Int) then (if 0 ≤ x8 then (if (bt x7 x8) = 32 then (some false) else (if (bt x7 x8) = 10 then (some false) else (gutterlaw07_WordEnds.l1 k x3 x4 x6 x7 (wrap64 (x8 + 1))))) else (none)) else (if x6 > 0 then (if 0 ≤ x6 then (if x6 < (x4.length : Int) then (if ((rd_T34 x4 x6).f2) = 0 then (if ((rd_T34 x4 x6).f3) = 0 then (if 0 ≤ (wrap64 (x6 - 1)) then (if (wrap64 (x6 - 1)) < (x4.length : Int) then (if ((rd_T34 x4 (wrap64 (x6 - 1))).f0).toList = ([] : List UInt8) then (some false) else (if 0 ≤ (wrap64 ((((rd_T34 x4 (wrap64 (x6 - 1))).f0).size : Int) - 1)) then (if (wrap64 ((((rd_T34 x4 (wrap64 (x6 - 1))).f0).size : Int) - 1)) < (((rd_T34 x4 (wrap64 (x6 - 1))).f0).size : Int) then (if (bt ((rd_T34 x4 (wrap64 (x6 - 1))).f0) (wrap64 ((((rd_T34 x4 (wrap64 (x6 - 1))).f0).size : Int) - 1))) = 45 then (gutterlaw07_WordEnds.l0 k x3 x4 (wrap64 (x6 + 1))) else (some false)) else (none)) else (none))) else (none)) else (none)) else (gutterlaw07_WordEnds.l0 k x3 x4 (wrap64 (x6 + 1)))) else (gutterlaw07_WordEnds.l0 k x3 x4 (wrap64 (x6 + 1)))) else (none)) else (none)) else (gutterlaw07_WordEnds.l0 k x3 x4 (wrap64 (x6 + 1))))
end
def gutterlaw07_WordEnds.f (k : Nat) (a0 : ByteArray) : Option (Bool) := (gutterlaw07_shown.f k).bind fun t169 => ((gutterlaw07_cut.f a0).bind fun t170 => ((word_Words.f t170).bind fun bt171 => (if bt171.2 = 0 then (gutterlaw07_WordEnds.l0 k t169 bt171.1 0) else (some t169))))
theorem gutterlaw07_WordEnds.mono_l : ∀ k, (∀ y0 y1 y2, LeO (gutterlaw07_WordEnds.l0 k y0 y1 y2) (gutterlaw07_WordEnds.l0 (k + 1) y0 y1 y2)) ∧ (∀ y0 y1 y2 y3 y4, LeO (gutterlaw07_WordEnds.l1 k y0 y1 y2 y3 y4) (gutterlaw07_WordEnds.l1 (k + 1) y0 y1 y2 y3 y4))
  | 0 => ⟨fun _ _ _ r h => by simp [gutterlaw07_WordEnds.l0] at h, fun _ _ _ _ _ r h => by simp [gutterlaw07_WordEnds.l1] at h⟩
  | k + 1 => by
    obtain ⟨ih0, ih1⟩ := gutterlaw07_WordEnds.mono_l k
    refine ⟨?_, ?_⟩
    · intro y0 y1 y2
      unfold gutterlaw07_WordEnds.l0
      repeat' first
      | (with_reducible exact ih0 _ _ _)
      | (with_reducible exact ih1 _ _ _ _ _)
      | (with_reducible exact gutterlaw07_shown.mono _)
      | (with_reducible exact LeO.refl _)
      | (with_reducible exact LeO.none _)
      | (with_reducible refine LeO.ite ?_ ?_)
      | (with_reducible refine LeO.bind ?_ (fun _ => ?_))
      | exact ih0 _ _ _
      | exact ih1 _ _ _ _ _
      | exact gutterlaw07_shown.mono _
      | exact LeO.none _
      | refine LeO.ite ?_ ?_
      | refine LeO.bind ?_ (fun _ => ?_)
    · intro y0 y1 y2 y3 y4
      unfold gutterlaw07_WordEnds.l1
      repeat' first
      | (with_reducible exact ih0 _ _ _)
      | (with_reducible exact ih1 _ _ _ _ _)
      | (with_reducible exact gutterlaw07_shown.mono _)
      | (with_reducible exact LeO.refl _)
      | (with_reducible exact LeO.none _)
      | (with_reducible refine LeO.ite ?_ ?_)
      | (with_reducible refine LeO.bind ?_ (fun _ => ?_))
      | exact ih0 _ _ _
      | exact ih1 _ _ _ _ _
      | exact gutterlaw07_shown.mono _
      | exact LeO.none _
      | refine LeO.ite ?_ ?_
      | refine LeO.bind ?_ (fun _ => ?_)
theorem gutterlaw07_WordEnds.mono : ∀ a0 k, LeO (gutterlaw07_WordEnds.f k a0) (gutterlaw07_WordEnds.f (k + 1) a0) := by
  intro a0 k
  obtain ⟨ih0, ih1⟩ := gutterlaw07_WordEnds.mono_l k
  unfold gutterlaw07_WordEnds.f
  repeat' first
      | (with_reducible exact ih0 _ _ _)
      | (with_reducible exact ih1 _ _ _ _ _)
      | (with_reducible exact gutterlaw07_shown.mono _)
      | (with_reducible exact LeO.refl _)
      | (with_reducible exact LeO.none _)
      | (with_reducible refine LeO.ite ?_ ?_)
      | (with_reducible refine LeO.bind ?_ (fun _ => ?_))
      | exact ih0 _ _ _
      | exact ih1 _ _ _ _ _
      | exact gutterlaw07_shown.mono _
      | exact LeO.none _
      | refine LeO.ite ?_ ?_
      | refine LeO.bind ?_ (fun _ => ?_)
set_option maxHeartbeats 8000000 in
set_option maxRecDepth 100000 in
theorem gutterlaw07_WordEnds.calls (k : Nat) (a0 : ByteArray) (r : Bool) (w : World) (h : gutterlaw07_WordEnds.f k a0 = some r) (hG : GOK w) :
    Calls Try.prog 5 #[.string a0] w fun e w' => e = .returned (.bool r) ∧ Below w.heap.size w w' := by
  have HG := Aside0.mk hG
  clear hG
  have HB := Aside0.mk (Below.refl w.heap.size w)
  have H : ((gutterlaw07_shown.f k).bind fun t169 => ((gutterlaw07_cut.f a0).bind fun t170 => ((word_Words.f t170).bind fun bt171 => (if bt171.2 = 0 then (gutterlaw07_WordEnds.l0 k t169 bt171.1 0) else (some t169))))) = some r := h
  clear h
  replace H := Option.bind_eq_some_iff.mp H
  obtain ⟨t169, A20, H⟩ := H
  replace H : ((gutterlaw07_cut.f a0).bind fun t170 => ((word_Words.f t170).bind fun bt171 => (if bt171.2 = 0 then (gutterlaw07_WordEnds.l0 k t169 bt171.1 0) else (some t169)))) = some r := H
  have A2 := Aside0.mk A20
  clear A20
  replace H := Option.bind_eq_some_iff.mp H
  obtain ⟨t170, A30, H⟩ := H
  replace H : ((word_Words.f t170).bind fun bt171 => (if bt171.2 = 0 then (gutterlaw07_WordEnds.l0 k t169 bt171.1 0) else (some t169))) = some r := H
  have A3 := Aside0.mk A30
  clear A30
  replace H := Option.bind_eq_some_iff.mp H
  obtain ⟨⟨t171, t172⟩, A40, H⟩ := H
  replace H : (if t172 = 0 then (gutterlaw07_WordEnds.l0 k t169 t171 0) else (some t169)) = some r := H
  have A4 := Aside0.mk A40
  clear A40
  by_cases c5 : t172 = 0
  · rw [if_pos c5] at H
    have c5b0 : (t172 == 0) = true := beq_iff_eq.mpr c5
    have c5b1 : (t172 != 0) = false := bne_eq_false_iff_eq.mpr c5
    clear c5
    have H' := Aside0.mk H
    clear H
    go_enter Try.func5, Try.ntmps5
    go_wp2_with (first | (go_at_call 11; (with_reducible refine (gutterlaw07_shown.calls k  t169 _ A2.out (GOK.below HG.out (by repeat (first | (with_reducible first | exact HB.out | apply below_alloc | apply pw_below_drewN | apply below_drew1) | exact HB.out)))).mono ?_); rintro e w6 ⟨rfl, hb⟩; have n0_ := Aside0.mk (below_step (by repeat (first | (with_reducible first | exact HB.out | apply below_alloc | apply pw_below_drewN | apply below_drew1) | exact HB.out)) hb); clear HB; have HB := n0_; clear n0_; (try clear hb); (try clear hb2); (try clear hk); (try clear hi)) | (go_at_call 13; (with_reducible refine (gutterlaw07_cut.calls a0 t170 _ A3.out).mono ?_); rintro e w7 ⟨rfl, hb⟩; have n0_ := Aside0.mk (below_step (by repeat (first | (with_reducible first | exact HB.out | apply below_alloc | apply pw_below_drewN | apply below_drew1) | exact HB.out)) hb); clear HB; have HB := n0_; clear n0_; (try clear hb); (try clear hb2); (try clear hk); (try clear hi)) | (go_at_call 12; (with_reducible refine (word_Words.calls t170 t171 t172 _ A4.out (GOK.below HG.out (by repeat (first | (with_reducible first | exact HB.out | apply below_alloc | apply pw_below_drewN | apply below_drew1) | exact HB.out)))).mono ?_); rintro e w8 ⟨v173, rfl, ho0, hb⟩; have n0_ := Aside0.mk (Kd.R_lower ho0 (below_size (by repeat (first | (with_reducible first | exact HB.out | apply below_alloc | apply pw_below_drewN | apply below_drew1) | exact HB.out)))); have n1_ := Aside0.mk (below_step (by repeat (first | (with_reducible first | exact HB.out | apply below_alloc | apply pw_below_drewN | apply below_drew1) | exact HB.out)) hb); clear HB; have HO174 := n0_; have HB := n1_; clear n0_ n1_; (try clear hb); (try clear hb2); (try clear hk); (try clear hi); (try clear ho0)))
    repeat (go_quiet (first | (go_at_call 11; (with_reducible refine (gutterlaw07_shown.calls k  t169 _ A2.out (GOK.below HG.out (by repeat (first | (with_reducible first | exact HB.out | apply below_alloc | apply pw_below_drewN | apply below_drew1) | exact HB.out)))).mono ?_); rintro e w6 ⟨rfl, hb⟩; have n0_ := Aside0.mk (below_step (by repeat (first | (with_reducible first | exact HB.out | apply below_alloc | apply pw_below_drewN | apply below_drew1) | exact HB.out)) hb); clear HB; have HB := n0_; clear n0_; (try clear hb); (try clear hb2); (try clear hk); (try clear hi)) | (go_at_call 13; (with_reducible refine (gutterlaw07_cut.calls a0 t170 _ A3.out).mono ?_); rintro e w7 ⟨rfl, hb⟩; have n0_ := Aside0.mk (below_step (by repeat (first | (with_reducible first | exact HB.out | apply below_alloc | apply pw_below_drewN | apply below_drew1) | exact HB.out)) hb); clear HB; have HB := n0_; clear n0_; (try clear hb); (try clear hb2); (try clear hk); (try clear hi)) | (go_at_call 12; (with_reducible refine (word_Words.calls t170 t171 t172 _ A4.out (GOK.below HG.out (by repeat (first | (with_reducible first | exact HB.out | apply below_alloc | apply pw_below_drewN | apply below_drew1) | exact HB.out)))).mono ?_); rintro e w8 ⟨v173, rfl, ho0, hb⟩; have n0_ := Aside0.mk (Kd.R_lower ho0 (below_size (by repeat (first | (with_reducible first | exact HB.out | apply below_alloc | apply pw_below_drewN | apply below_drew1) | exact HB.out)))); have n1_ := Aside0.mk (below_step (by repeat (first | (with_reducible first | exact HB.out | apply below_alloc | apply pw_below_drewN | apply below_drew1) | exact HB.out)) hb); clear HB; have HO174 := n0_; have HB := n1_; clear n0_ n1_; (try clear hb); (try clear hb2); (try clear hk); (try clear hi); (try clear ho0))); try go_wp2_with (first | (go_at_call 11; (with_reducible refine (gutterlaw07_shown.calls k  t169 _ A2.out (GOK.below HG.out (by repeat (first | (with_reducible first | exact HB.out | apply below_alloc | apply pw_below_drewN | apply below_drew1) | exact HB.out)))).mono ?_); rintro e w6 ⟨rfl, hb⟩; have n0_ := Aside0.mk (below_step (by repeat (first | (with_reducible first | exact HB.out | apply below_alloc | apply pw_below_drewN | apply below_drew1) | exact HB.out)) hb); clear HB; have HB := n0_; clear n0_; (try clear hb); (try clear hb2); (try clear hk); (try clear hi)) | (go_at_call 13; (with_reducible refine (gutterlaw07_cut.calls a0 t170 _ A3.out).mono ?_); rintro e w7 ⟨rfl, hb⟩; have n0_ := Aside0.mk (below_step (by repeat (first | (with_reducible first | exact HB.out | apply below_alloc | apply pw_below_drewN | apply below_drew1) | exact HB.out)) hb); clear HB; have HB := n0_; clear n0_; (try clear hb); (try clear hb2); (try clear hk); (try clear hi)) | (go_at_call 12; (with_reducible refine (word_Words.calls t170 t171 t172 _ A4.out (GOK.below HG.out (by repeat (first | (with_reducible first | exact HB.out | apply below_alloc | apply pw_below_drewN | apply below_drew1) | exact HB.out)))).mono ?_); rintro e w8 ⟨v173, rfl, ho0, hb⟩; have n0_ := Aside0.mk (Kd.R_lower ho0 (below_size (by repeat (first | (with_reducible first | exact HB.out | apply below_alloc | apply pw_below_drewN | apply below_drew1) | exact HB.out)))); have n1_ := Aside0.mk (below_step (by repeat (first | (with_reducible first | exact HB.out | apply below_alloc | apply pw_below_drewN | apply below_drew1) | exact HB.out)) hb); clear HB; have HO174 := n0_; have HB := n1_; clear n0_ n1_; (try clear hb); (try clear hb2); (try clear hk); (try clear hi); (try clear ho0))))
    go_loopg [6] k (fun kq v6 w' => ∃ (x6_1 : Int), v6 = .int .i64 x6_1 ∧ Aside0 (gutterlaw07_WordEnds.l0 kq t169 t171 x6_1 = some r) ∧ Aside0 (kq ≤ k) ∧ Aside0 (Kd.R k34 34 w' w.heap.size (fun _ => True) v173 t171) ∧ Aside0 (Below w.heap.size w w'))
    case atStart => exact ⟨(0), (by first | rfl | (simp; done) | (simp [*]; done)), H', ⟨Nat.le_refl _⟩, ⟨by (with_reducible repeat (first | apply Kd.R_alloc | apply Kd.R_drewN | apply Kd.R_drew)); exact HO174.out⟩, ⟨by repeat (first | (with_reducible first | exact HB.out | apply below_alloc | apply pw_below_drewN | apply below_drew1) | exact HB.out)⟩⟩
    case round =>
      clear H'
      try clear p2
      try clear c5
      try clear c5b0
      try clear c5b1
      obtain ⟨x6_1, rfl, HA, HK1, HO_4, HB⟩ := hrel
      cases gk with
      | zero => exact absurd HA.out (by simp [gutterlaw07_WordEnds.l0])
      | succ k1 =>
        have H := HA.out
        clear HA
        simp only [gutterlaw07_WordEnds.l0] at H
        by_cases c9 : x6_1 < (t171.length : Int)
        · rw [if_pos c9] at H
          have c9b0 : decide (x6_1 < (t171.length : Int)) = true := decide_eq_true c9
          clear c9
          by_cases c10 : 0 ≤ x6_1
          · rw [if_pos c10] at H
            have c10b0 : decide (0 ≤ x6_1) = true := decide_eq_true c10
            clear c10
            by_cases c11 : ((rd_T34 t171 x6_1).f0).toList = ([] : List UInt8)
            · rw [if_pos c11] at H
              have c11b0 : (((rd_T34 t171 x6_1).f0).toList == ([] : List UInt8)) = true := beq_iff_eq.mpr c11
              have c11b1 : (((rd_T34 t171 x6_1).f0).toList != ([] : List UInt8)) = false := bne_eq_false_iff_eq.mpr c11
              clear c11
              obtain rfl := Option.some.inj H
              obtain ⟨Ao12, co12, eo12⟩ := Kd.R_slice HO_4.out
              subst eo12
              have p175 : 0 ≤ (x6_1 : Int) := of_decide_eq_true (by first | (with_reducible assumption) | assumption)
              have q175 : x6_1 < (t171.length : Int) := of_decide_eq_true (by first | (with_reducible assumption) | assumption)
              obtain ⟨ad175, e175, hx175_0, hx175_1, hx175_2, hx175_3⟩ := at_T34 (Kd.R_reads' HO_4.out).2.2 x6_1 p175 q175
              cases e175
              replace p175 := eq_true p175
              replace q175 := eq_true q175
              go_wp2
              repeat (go_quiet (fail); try go_wp2)
              go_ret
              exact ⟨by first | rfl | (simp [errW_none, errW_some] <;> rfl) | (simp [*, errW_none, errW_some] <;> rfl), by repeat (first | (with_reducible first | exact HB.out | apply below_alloc | apply pw_below_drewN | apply below_drew1) | exact HB.out)⟩
            · rw [if_neg c11] at H
              have c11b0 : (((rd_T34 t171 x6_1).f0).toList == ([] : List UInt8)) = false := beq_eq_false_iff_ne.mpr c11
              have c11b1 : (((rd_T34 t171 x6_1).f0).toList != ([] : List UInt8)) = true := bne_iff_ne.mpr c11
              have H' := Aside0.mk H
              clear H
              obtain ⟨Ao13, co13, eo13⟩ := Kd.R_slice HO_4.out
              subst eo13
              have p175 : 0 ≤ (x6_1 : Int) := of_decide_eq_true (by first | (with_reducible assumption) | assumption)
              have q175 : x6_1 < (t171.length : Int) := of_decide_eq_true (by first | (with_reducible assumption) | assumption)
              obtain ⟨ad175, e175, hx175_0, hx175_1, hx175_2, hx175_3⟩ := at_T34 (Kd.R_reads' HO_4.out).2.2 x6_1 p175 q175
              cases e175
              replace p175 := eq_true p175
              replace q175 := eq_true q175
              go_wp2
              repeat (go_quiet (fail); try go_wp2)
              go_loopg [8] k1 (fun kq v8 w' => ∃ (x8_2 : Int), v8 = .int .i64 x8_2 ∧ Aside0 (gutterlaw07_WordEnds.l1 kq t169 t171 x6_1 ((rd_T34 t171 x6_1).f0) x8_2 = some r) ∧ Aside0 (kq ≤ k1) ∧ Aside0 (Kd.R k34 34 w' w.heap.size (fun _ => True) (.slice (some ad175) t171.length co13) t171) ∧ Aside0 (Below w.heap.size w w'))
              case atStart => exact ⟨(0), (by first | rfl | (simp; done) | (simp [*]; done)), H', ⟨Nat.le_refl _⟩, ⟨by (with_reducible repeat (first | apply Kd.R_alloc | apply Kd.R_drewN | apply Kd.R_drew)); exact HO_4.out⟩, ⟨by repeat (first | (with_reducible first | exact HB.out | apply below_alloc | apply pw_below_drewN | apply below_drew1) | exact HB.out)⟩⟩
              case round =>
                clear H'
                try clear c1
                try clear p1
                try clear q1
                try clear hx1
                try clear p2
                try clear c5
                try clear c5b0
                try clear c5b1
                try clear c9
                try clear c9b0
                try clear c10
                try clear c10b0
                try clear c11
                try clear c11b0
                try clear c11b1
                try clear hx175_0
                try clear hx175_1
                try clear hx175_2
                try clear hx175_3
                try clear p175
                try clear p2
                try clear q175
                obtain ⟨x8_2, rfl, HA, HK2, HO_4, HB⟩ := hrel
                cases gk with
                | zero => exact absurd HA.out (by simp [gutterlaw07_WordEnds.l1])
                | succ k2 =>
                  have H := HA.out
                  clear HA
                  simp only [gutterlaw07_WordEnds.l1] at H
                  by_cases c14 : x8_2 < (((rd_T34 t171 x6_1).f0).size : Int)
                  · rw [if_pos c14] at H
                    have c14b0 : decide (x8_2 < (((rd_T34 t171 x6_1).f0).size : Int)) = true := decide_eq_true c14
                    clear c14
                    by_cases c15 : 0 ≤ x8_2
                    · rw [if_pos c15] at H
                      have c15b0 : decide (0 ≤ x8_2) = true := decide_eq_true c15
                      clear c15
                      by_cases c17 : (bt ((rd_T34 t171 x6_1).f0) x8_2) = 32
                      · rw [if_pos c17] at H
                        have c17b0 : ((bt ((rd_T34 t171 x6_1).f0) x8_2) == 32) = true := beq_iff_eq.mpr c17
                        have c17b1 : ((bt ((rd_T34 t171 x6_1).f0) x8_2) != 32) = false := bne_eq_false_iff_eq.mpr c17
                        clear c17
                        obtain rfl := Option.some.inj H
                        have p16 : 0 ≤ (x8_2 : Int) := of_decide_eq_true (by first | (with_reducible assumption) | assumption)
                        have q16 : x8_2 < (((rd_T34 t171 x6_1).f0).size : Int) := of_decide_eq_true (by first | (with_reducible assumption) | assumption)
                        have hx16 := bt_at ((rd_T34 t171 x6_1).f0) x8_2
                        replace p16 := eq_true p16
                        replace q16 := eq_true q16
                        go_wp2
                        repeat (go_quiet (fail); try go_wp2)
                        go_ret
                        exact ⟨by first | rfl | (simp [errW_none, errW_some] <;> rfl) | (simp [*, errW_none, errW_some] <;> rfl), by repeat (first | (with_reducible first | exact HB.out | apply below_alloc | apply pw_below_drewN | apply below_drew1) | exact HB.out)⟩
                      · rw [if_neg c17] at H
                        have c17b0 : ((bt ((rd_T34 t171 x6_1).f0) x8_2) == 32) = false := beq_eq_false_iff_ne.mpr c17
                        have c17b1 : ((bt ((rd_T34 t171 x6_1).f0) x8_2) != 32) = true := bne_iff_ne.mpr c17
                        by_cases c19 : (bt ((rd_T34 t171 x6_1).f0) x8_2) = 10
                        · rw [if_pos c19] at H
                          have c19b0 : ((bt ((rd_T34 t171 x6_1).f0) x8_2) == 10) = true := beq_iff_eq.mpr c19
                          have c19b1 : ((bt ((rd_T34 t171 x6_1).f0) x8_2) != 10) = false := bne_eq_false_iff_eq.mpr c19
                          clear c19
                          obtain rfl := Option.some.inj H
                          have p16 : 0 ≤ (x8_2 : Int) := of_decide_eq_true (by first | (with_reducible assumption) | assumption)
                          have q16 : x8_2 < (((rd_T34 t171 x6_1).f0).size : Int) := of_decide_eq_true (by first | (with_reducible assumption) | assumption)
                          have hx16 := bt_at ((rd_T34 t171 x6_1).f0) x8_2
                          replace p16 := eq_true p16
                          replace q16 := eq_true q16
                          have p18 : 0 ≤ (x8_2 : Int) := of_decide_eq_true (by first | (with_reducible assumption) | assumption)
                          have q18 : x8_2 < (((rd_T34 t171 x6_1).f0).size : Int) := of_decide_eq_true (by first | (with_reducible assumption) | assumption)
                          have hx18 := bt_at ((rd_T34 t171 x6_1).f0) x8_2
                          replace p18 := eq_true p18
                          replace q18 := eq_true q18
                          go_wp2
                          repeat (go_quiet (fail); try go_wp2)
                          go_ret
                          exact ⟨by first | rfl | (simp [errW_none, errW_some] <;> rfl) | (simp [*, errW_none, errW_some] <;> rfl), by repeat (first | (with_reducible first | exact HB.out | apply below_alloc | apply pw_below_drewN | apply below_drew1) | exact HB.out)⟩
                        · rw [if_neg c19] at H
                          have c19b0 : ((bt ((rd_T34 t171 x6_1).f0) x8_2) == 10) = false := beq_eq_false_iff_ne.mpr c19
                          have c19b1 : ((bt ((rd_T34 t171 x6_1).f0) x8_2) != 10) = true := bne_iff_ne.mpr c19
                          have H' := Aside0.mk H
                          clear H
                          have p16 : 0 ≤ (x8_2 : Int) := of_decide_eq_true (by first | (with_reducible assumption) | assumption)
                          have q16 : x8_2 < (((rd_T34 t171 x6_1).f0).size : Int) := of_decide_eq_true (by first | (with_reducible assumption) | assumption)
                          have hx16 := bt_at ((rd_T34 t171 x6_1).f0) x8_2
                          replace p16 := eq_true p16
                          replace q16 := eq_true q16
                          have p18 : 0 ≤ (x8_2 : Int) := of_decide_eq_true (by first | (with_reducible assumption) | assumption)
                          have q18 : x8_2 < (((rd_T34 t171 x6_1).f0).size : Int) := of_decide_eq_true (by first | (with_reducible assumption) | assumption)
                          have hx18 := bt_at ((rd_T34 t171 x6_1).f0) x8_2
                          replace p18 := eq_true p18
                          replace q18 := eq_true q18
                          go_wp2
                          repeat (go_quiet (fail); try go_wp2)
                          go_roundg k2
                          case measure => have := HK1.out; have := HK2.out; omega
                          case rel => exact ⟨(wrap64 (x8_2 + 1)), (by first | rfl | (simp; done) | (simp [*]; done)), H', ⟨by have := HK1.out; have := HK2.out; omega⟩, ⟨by (with_reducible repeat (first | apply Kd.R_alloc | apply Kd.R_drewN | apply Kd.R_drew)); exact HO_4.out⟩, ⟨by repeat (first | (with_reducible first | exact HB.out | apply below_alloc | apply pw_below_drewN | apply below_drew1) | exact HB.out)⟩⟩
                    · rw [if_neg c15] at H
                      exact absurd H (by simp)
                  · rw [if_neg c14] at H
                    have c14b0 : decide (x8_2 < (((rd_T34 t171 x6_1).f0).size : Int)) = false := decide_eq_false c14
                    clear c14
                    by_cases c20 : x6_1 > 0
                    · rw [if_pos c20] at H
                      have c20b0 : decide (0 < x6_1) = true := decide_eq_true c20
                      clear c20
                      by_cases c21 : 0 ≤ x6_1
                      · rw [if_pos c21] at H
                        have c21b0 : decide (0 ≤ x6_1) = true := decide_eq_true c21
                        clear c21
                        by_cases c22 : x6_1 < (t171.length : Int)
                        · rw [if_pos c22] at H
                          have c22b0 : decide (x6_1 < (t171.length : Int)) = true := decide_eq_true c22
                          clear c22
                          by_cases c23 : ((rd_T34 t171 x6_1).f2) = 0
                          · rw [if_pos c23] at H
                            have c23b0 : (((rd_T34 t171 x6_1).f2) == 0) = true := beq_iff_eq.mpr c23
                            have c23b1 : (((rd_T34 t171 x6_1).f2) != 0) = false := bne_eq_false_iff_eq.mpr c23
                            clear c23
                            by_cases c24 : ((rd_T34 t171 x6_1).f3) = 0
                            · rw [if_pos c24] at H
                              have c24b0 : (((rd_T34 t171 x6_1).f3) == 0) = true := beq_iff_eq.mpr c24
                              have c24b1 : (((rd_T34 t171 x6_1).f3) != 0) = false := bne_eq_false_iff_eq.mpr c24
                              clear c24
                              obtain ⟨ji25, hji25⟩ : ∃ j_ : Int, (wrap64 (x6_1 - 1)) = j_ := ⟨_, rfl⟩
                              replace H : (if 0 ≤ (ji25) then (if (ji25) < (t171.length : Int) then (if ((rd_T34 t171 (ji25)).f0).toList = ([] : List UInt8) then (some false) else (if 0 ≤ (wrap64 ((((rd_T34 t171 (ji25)).f0).size : Int) - 1)) then (if (wrap64 ((((rd_T34 t171 (ji25)).f0).size : Int) - 1)) < (((rd_T34 t171 (ji25)).f0).size : Int) then (if (bt ((rd_T34 t171 (ji25)).f0) (wrap64 ((((rd_T34 t171 (ji25)).f0).size : Int) - 1))) = 45 then (gutterlaw07_WordEnds.l0 k2 t169 t171 (wrap64 (x6_1 + 1))) else (some false)) else (none)) else (none))) else (none)) else (none)) = some r := by first | (rw [hji25] at H; exact H) | (simp only [hji25] at H ⊢; exact H)
                              have hji25w : (IntKind.i64.wrap (x6_1 - 1)) = ji25 := (i64_w _).trans hji25
                              by_cases c26 : 0 ≤ (ji25)
                              · rw [if_pos c26] at H
                                have c26b0 : decide (0 ≤ (ji25)) = true := decide_eq_true c26
                                clear c26
                                by_cases c27 : (ji25) < (t171.length : Int)
                                · rw [if_pos c27] at H
                                  have c27b0 : decide ((ji25) < (t171.length : Int)) = true := decide_eq_true c27
                                  clear c27
                                  by_cases c28 : ((rd_T34 t171 (ji25)).f0).toList = ([] : List UInt8)
                                  · rw [if_pos c28] at H
                                    have c28b0 : (((rd_T34 t171 (ji25)).f0).toList == ([] : List UInt8)) = true := beq_iff_eq.mpr c28
                                    have c28b1 : (((rd_T34 t171 (ji25)).f0).toList != ([] : List UInt8)) = false := bne_eq_false_iff_eq.mpr c28
                                    clear c28
                                    obtain rfl := Option.some.inj H
                                    have p176 : 0 ≤ (x6_1 : Int) := of_decide_eq_true (by first | (with_reducible assumption) | assumption)
                                    have q176 : x6_1 < (t171.length : Int) := of_decide_eq_true (by first | (with_reducible assumption) | assumption)
                                    obtain ⟨ad176, e176, hx176_0, hx176_1, hx176_2, hx176_3⟩ := at_T34 (Kd.R_reads' HO_4.out).2.2 x6_1 p176 q176
                                    obtain rfl : ad175 = ad176 := (by injection e176)
                                    replace p176 := eq_true p176
                                    replace q176 := eq_true q176
                                    have p177 : 0 ≤ (x6_1 : Int) := of_decide_eq_true (by first | (with_reducible assumption) | assumption)
                                    have q177 : x6_1 < (t171.length : Int) := of_decide_eq_true (by first | (with_reducible assumption) | assumption)
                                    obtain ⟨ad177, e177, hx177_0, hx177_1, hx177_2, hx177_3⟩ := at_T34 (Kd.R_reads' HO_4.out).2.2 x6_1 p177 q177
                                    obtain rfl : ad175 = ad177 := (by injection e177)
                                    replace p177 := eq_true p177
                                    replace q177 := eq_true q177
                                    have p178 : 0 ≤ ((ji25) : Int) := of_decide_eq_true (by first | (with_reducible assumption) | assumption)
                                    have q178 : (ji25) < (t171.length : Int) := of_decide_eq_true (by first | (with_reducible assumption) | assumption)
                                    obtain ⟨ad178, e178, hx178_0, hx178_1, hx178_2, hx178_3⟩ := at_T34 (Kd.R_reads' HO_4.out).2.2 (ji25) p178 q178
                                    obtain rfl : ad175 = ad178 := (by injection e178)
                                    replace p178 := eq_true p178
                                    replace q178 := eq_true q178
                                    go_wp2
                                    repeat (go_quiet (fail); try go_wp2)
                                    go_ret
                                    exact ⟨by first | rfl | (simp [errW_none, errW_some] <;> rfl) | (simp only [← hji25]; first | rfl | (simp [errW_none, errW_some] <;> rfl)) | (simp [*, errW_none, errW_some] <;> rfl), by repeat (first | (with_reducible first | exact HB.out | apply below_alloc | apply pw_below_drewN | apply below_drew1) | exact HB.out)⟩
                                  · rw [if_neg c28] at H
                                    have c28b0 : (((rd_T34 t171 (ji25)).f0).toList == ([] : List UInt8)) = false := beq_eq_false_iff_ne.mpr c28
                                    have c28b1 : (((rd_T34 t171 (ji25)).f0).toList != ([] : List UInt8)) = true := bne_iff_ne.mpr c28
                                    obtain ⟨ji29, hji29⟩ : ∃ j_ : Int, (wrap64 ((((rd_T34 t171 (ji25)).f0).size : Int) - 1)) = j_ := ⟨_, rfl⟩
                                    replace H : (if 0 ≤ (ji29) then (if (ji29) < (((rd_T34 t171 (ji25)).f0).size : Int) then (if (bt ((rd_T34 t171 (ji25)).f0) (ji29)) = 45 then (gutterlaw07_WordEnds.l0 k2 t169 t171 (wrap64 (x6_1 + 1))) else (some false)) else (none)) else (none)) = some r := by first | (rw [hji29] at H; exact H) | (simp only [hji29] at H ⊢; exact H)
                                    have hji29w : (IntKind.i64.wrap ((((rd_T34 t171 (ji25)).f0).size : Int) - 1)) = ji29 := (i64_w _).trans hji29
                                    by_cases c30 : 0 ≤ (ji29)
                                    · rw [if_pos c30] at H
                                      have c30b0 : decide (0 ≤ (ji29)) = true := decide_eq_true c30
                                      clear c30
                                      by_cases c31 : (ji29) < (((rd_T34 t171 (ji25)).f0).size : Int)
                                      · rw [if_pos c31] at H
                                        have c31b0 : decide ((ji29) < (((rd_T34 t171 (ji25)).f0).size : Int)) = true := decide_eq_true c31
                                        clear c31
                                        by_cases c33 : (bt ((rd_T34 t171 (ji25)).f0) (ji29)) = 45
                                        · rw [if_pos c33] at H
                                          have c33b0 : ((bt ((rd_T34 t171 (ji25)).f0) (ji29)) == 45) = true := beq_iff_eq.mpr c33
                                          have c33b1 : ((bt ((rd_T34 t171 (ji25)).f0) (ji29)) != 45) = false := bne_eq_false_iff_eq.mpr c33
                                          clear c33
                                          have H' := Aside0.mk H
                                          clear H
                                          have p176 : 0 ≤ (x6_1 : Int) := of_decide_eq_true (by first | (with_reducible assumption) | assumption)
                                          have q176 : x6_1 < (t171.length : Int) := of_decide_eq_true (by first | (with_reducible assumption) | assumption)
                                          obtain ⟨ad176, e176, hx176_0, hx176_1, hx176_2, hx176_3⟩ := at_T34 (Kd.R_reads' HO_4.out).2.2 x6_1 p176 q176
                                          obtain rfl : ad175 = ad176 := (by injection e176)
                                          replace p176 := eq_true p176
                                          replace q176 := eq_true q176
                                          have p177 : 0 ≤ (x6_1 : Int) := of_decide_eq_true (by first | (with_reducible assumption) | assumption)
                                          have q177 : x6_1 < (t171.length : Int) := of_decide_eq_true (by first | (with_reducible assumption) | assumption)
                                          obtain ⟨ad177, e177, hx177_0, hx177_1, hx177_2, hx177_3⟩ := at_T34 (Kd.R_reads' HO_4.out).2.2 x6_1 p177 q177
                                          obtain rfl : ad175 = ad177 := (by injection e177)
                                          replace p177 := eq_true p177
                                          replace q177 := eq_true q177
                                          have p178 : 0 ≤ ((ji25) : Int) := of_decide_eq_true (by first | (with_reducible assumption) | assumption)
                                          have q178 : (ji25) < (t171.length : Int) := of_decide_eq_true (by first | (with_reducible assumption) | assumption)
                                          obtain ⟨ad178, e178, hx178_0, hx178_1, hx178_2, hx178_3⟩ := at_T34 (Kd.R_reads' HO_4.out).2.2 (ji25) p178 q178
                                          obtain rfl : ad175 = ad178 := (by injection e178)
                                          replace p178 := eq_true p178
                                          replace q178 := eq_true q178
                                          have p179 : 0 ≤ ((ji25) : Int) := of_decide_eq_true (by first | (with_reducible assumption) | assumption)
                                          have q179 : (ji25) < (t171.length : Int) := of_decide_eq_true (by first | (with_reducible assumption) | assumption)
                                          obtain ⟨ad179, e179, hx179_0, hx179_1, hx179_2, hx179_3⟩ := at_T34 (Kd.R_reads' HO_4.out).2.2 (ji25) p179 q179
                                          obtain rfl : ad175 = ad179 := (by injection e179)
                                          replace p179 := eq_true p179
                                          replace q179 := eq_true q179
                                          have p180 : 0 ≤ ((ji25) : Int) := of_decide_eq_true (by first | (with_reducible assumption) | assumption)
                                          have q180 : (ji25) < (t171.length : Int) := of_decide_eq_true (by first | (with_reducible assumption) | assumption)
                                          obtain ⟨ad180, e180, hx180_0, hx180_1, hx180_2, hx180_3⟩ := at_T34 (Kd.R_reads' HO_4.out).2.2 (ji25) p180 q180
                                          obtain rfl : ad175 = ad180 := (by injection e180)
                                          replace p180 := eq_true p180
                                          replace q180 := eq_true q180
                                          have p32 : 0 ≤ ((ji29) : Int) := of_decide_eq_true (by first | (with_reducible assumption) | assumption)
                                          have q32 : (ji29) < (((rd_T34 t171 (ji25)).f0).size : Int) := of_decide_eq_true (by first | (with_reducible assumption) | assumption)
                                          have hx32 := bt_at ((rd_T34 t171 (ji25)).f0) (ji29)
                                          replace p32 := eq_true p32
                                          replace q32 := eq_true q32
                                          go_wp2
                                          repeat (go_quiet (fail); try go_wp2)
                                          go_roundg k2
                                          case measure => have := HK1.out; have := HK2.out; omega
                                          case rel => exact ⟨(wrap64 (x6_1 + 1)), (by first | rfl | (simp; done) | (simp [*]; done)), H', ⟨by have := HK1.out; have := HK2.out; omega⟩, ⟨by (with_reducible repeat (first | apply Kd.R_alloc | apply Kd.R_drewN | apply Kd.R_drew)); exact HO_4.out⟩, ⟨by repeat (first | (with_reducible first | exact HB.out | apply below_alloc | apply pw_below_drewN | apply below_drew1) | exact HB.out)⟩⟩
                                        · rw [if_neg c33] at H
                                          have c33b0 : ((bt ((rd_T34 t171 (ji25)).f0) (ji29)) == 45) = false := beq_eq_false_iff_ne.mpr c33
                                          have c33b1 : ((bt ((rd_T34 t171 (ji25)).f0) (ji29)) != 45) = true := bne_iff_ne.mpr c33
                                          obtain rfl := Option.some.inj H
                                          have p176 : 0 ≤ (x6_1 : Int) := of_decide_eq_true (by first | (with_reducible assumption) | assumption)
                                          have q176 : x6_1 < (t171.length : Int) := of_decide_eq_true (by first | (with_reducible assumption) | assumption)
                                          obtain ⟨ad176, e176, hx176_0, hx176_1, hx176_2, hx176_3⟩ := at_T34 (Kd.R_reads' HO_4.out).2.2 x6_1 p176 q176
                                          obtain rfl : ad175 = ad176 := (by injection e176)
                                          replace p176 := eq_true p176
                                          replace q176 := eq_true q176
                                          have p177 : 0 ≤ (x6_1 : Int) := of_decide_eq_true (by first | (with_reducible assumption) | assumption)
                                          have q177 : x6_1 < (t171.length : Int) := of_decide_eq_true (by first | (with_reducible assumption) | assumption)
                                          obtain ⟨ad177, e177, hx177_0, hx177_1, hx177_2, hx177_3⟩ := at_T34 (Kd.R_reads' HO_4.out).2.2 x6_1 p177 q177
                                          obtain rfl : ad175 = ad177 := (by injection e177)
                                          replace p177 := eq_true p177
                                          replace q177 := eq_true q177
                                          have p178 : 0 ≤ ((ji25) : Int) := of_decide_eq_true (by first | (with_reducible assumption) | assumption)
                                          have q178 : (ji25) < (t171.length : Int) := of_decide_eq_true (by first | (with_reducible assumption) | assumption)
                                          obtain ⟨ad178, e178, hx178_0, hx178_1, hx178_2, hx178_3⟩ := at_T34 (Kd.R_reads' HO_4.out).2.2 (ji25) p178 q178
                                          obtain rfl : ad175 = ad178 := (by injection e178)
                                          replace p178 := eq_true p178
                                          replace q178 := eq_true q178
                                          have p179 : 0 ≤ ((ji25) : Int) := of_decide_eq_true (by first | (with_reducible assumption) | assumption)
                                          have q179 : (ji25) < (t171.length : Int) := of_decide_eq_true (by first | (with_reducible assumption) | assumption)
                                          obtain ⟨ad179, e179, hx179_0, hx179_1, hx179_2, hx179_3⟩ := at_T34 (Kd.R_reads' HO_4.out).2.2 (ji25) p179 q179
                                          obtain rfl : ad175 = ad179 := (by injection e179)
                                          replace p179 := eq_true p179
                                          replace q179 := eq_true q179
                                          have p180 : 0 ≤ ((ji25) : Int) := of_decide_eq_true (by first | (with_reducible assumption) | assumption)
                                          have q180 : (ji25) < (t171.length : Int) := of_decide_eq_true (by first | (with_reducible assumption) | assumption)
                                          obtain ⟨ad180, e180, hx180_0, hx180_1, hx180_2, hx180_3⟩ := at_T34 (Kd.R_reads' HO_4.out).2.2 (ji25) p180 q180
                                          obtain rfl : ad175 = ad180 := (by injection e180)
                                          replace p180 := eq_true p180
                                          replace q180 := eq_true q180
                                          have p32 : 0 ≤ ((ji29) : Int) := of_decide_eq_true (by first | (with_reducible assumption) | assumption)
                                          have q32 : (ji29) < (((rd_T34 t171 (ji25)).f0).size : Int) := of_decide_eq_true (by first | (with_reducible assumption) | assumption)
                                          have hx32 := bt_at ((rd_T34 t171 (ji25)).f0) (ji29)
                                          replace p32 := eq_true p32
                                          replace q32 := eq_true q32
                                          go_wp2
                                          repeat (go_quiet (fail); try go_wp2)
                                          go_ret
                                          exact ⟨by first | rfl | (simp [errW_none, errW_some] <;> rfl) | (simp only [← hji25, ← hji29]; first | rfl | (simp [errW_none, errW_some] <;> rfl)) | (simp [*, errW_none, errW_some] <;> rfl), by repeat (first | (with_reducible first | exact HB.out | apply below_alloc | apply pw_below_drewN | apply below_drew1) | exact HB.out)⟩
                                      · rw [if_neg c31] at H
                                        exact absurd H (by simp)
                                    · rw [if_neg c30] at H
                                      exact absurd H (by simp)
                                · rw [if_neg c27] at H
                                  exact absurd H (by simp)
                              · rw [if_neg c26] at H
                                exact absurd H (by simp)
                            · rw [if_neg c24] at H
                              have c24b0 : (((rd_T34 t171 x6_1).f3) == 0) = false := beq_eq_false_iff_ne.mpr c24
                              have c24b1 : (((rd_T34 t171 x6_1).f3) != 0) = true := bne_iff_ne.mpr c24
                              have H' := Aside0.mk H
                              clear H
                              have p176 : 0 ≤ (x6_1 : Int) := of_decide_eq_true (by first | (with_reducible assumption) | assumption)
                              have q176 : x6_1 < (t171.length : Int) := of_decide_eq_true (by first | (with_reducible assumption) | assumption)
                              obtain ⟨ad176, e176, hx176_0, hx176_1, hx176_2, hx176_3⟩ := at_T34 (Kd.R_reads' HO_4.out).2.2 x6_1 p176 q176
                              obtain rfl : ad175 = ad176 := (by injection e176)
                              replace p176 := eq_true p176
                              replace q176 := eq_true q176
                              have p177 : 0 ≤ (x6_1 : Int) := of_decide_eq_true (by first | (with_reducible assumption) | assumption)
                              have q177 : x6_1 < (t171.length : Int) := of_decide_eq_true (by first | (with_reducible assumption) | assumption)
                              obtain ⟨ad177, e177, hx177_0, hx177_1, hx177_2, hx177_3⟩ := at_T34 (Kd.R_reads' HO_4.out).2.2 x6_1 p177 q177
                              obtain rfl : ad175 = ad177 := (by injection e177)
                              replace p177 := eq_true p177
                              replace q177 := eq_true q177
                              go_wp2
                              repeat (go_quiet (fail); try go_wp2)
                              go_roundg k2
                              case measure => have := HK1.out; have := HK2.out; omega
                              case rel => exact ⟨(wrap64 (x6_1 + 1)), (by first | rfl | (simp; done) | (simp [*]; done)), H', ⟨by have := HK1.out; have := HK2.out; omega⟩, ⟨by (with_reducible repeat (first | apply Kd.R_alloc | apply Kd.R_drewN | apply Kd.R_drew)); exact HO_4.out⟩, ⟨by repeat (first | (with_reducible first | exact HB.out | apply below_alloc | apply pw_below_drewN | apply below_drew1) | exact HB.out)⟩⟩
                          · rw [if_neg c23] at H
                            have c23b0 : (((rd_T34 t171 x6_1).f2) == 0) = false := beq_eq_false_iff_ne.mpr c23
                            have c23b1 : (((rd_T34 t171 x6_1).f2) != 0) = true := bne_iff_ne.mpr c23
                            have H' := Aside0.mk H
                            clear H
                            have p176 : 0 ≤ (x6_1 : Int) := of_decide_eq_true (by first | (with_reducible assumption) | assumption)
                            have q176 : x6_1 < (t171.length : Int) := of_decide_eq_true (by first | (with_reducible assumption) | assumption)
                            obtain ⟨ad176, e176, hx176_0, hx176_1, hx176_2, hx176_3⟩ := at_T34 (Kd.R_reads' HO_4.out).2.2 x6_1 p176 q176
                            obtain rfl : ad175 = ad176 := (by injection e176)
                            replace p176 := eq_true p176
                            replace q176 := eq_true q176
                            go_wp2
                            repeat (go_quiet (fail); try go_wp2)
                            go_roundg k2
                            case measure => have := HK1.out; have := HK2.out; omega
                            case rel => exact ⟨(wrap64 (x6_1 + 1)), (by first | rfl | (simp; done) | (simp [*]; done)), H', ⟨by have := HK1.out; have := HK2.out; omega⟩, ⟨by (with_reducible repeat (first | apply Kd.R_alloc | apply Kd.R_drewN | apply Kd.R_drew)); exact HO_4.out⟩, ⟨by repeat (first | (with_reducible first | exact HB.out | apply below_alloc | apply pw_below_drewN | apply below_drew1) | exact HB.out)⟩⟩
                        · rw [if_neg c22] at H
                          exact absurd H (by simp)
                      · rw [if_neg c21] at H
                        exact absurd H (by simp)
                    · rw [if_neg c20] at H
                      have c20b0 : decide (0 < x6_1) = false := decide_eq_false c20
                      clear c20
                      have H' := Aside0.mk H
                      clear H
                      go_wp2
                      repeat (go_quiet (fail); try go_wp2)
                      go_roundg k2
                      case measure => have := HK1.out; have := HK2.out; omega
                      case rel => exact ⟨(wrap64 (x6_1 + 1)), (by first | rfl | (simp; done) | (simp [*]; done)), H', ⟨by have := HK1.out; have := HK2.out; omega⟩, ⟨by (with_reducible repeat (first | apply Kd.R_alloc | apply Kd.R_drewN | apply Kd.R_drew)); exact HO_4.out⟩, ⟨by repeat (first | (with_reducible first | exact HB.out | apply below_alloc | apply pw_below_drewN | apply below_drew1) | exact HB.out)⟩⟩
          · rw [if_neg c10] at H
            exact absurd H (by simp)
        · rw [if_neg c9] at H
          have c9b0 : decide (x6_1 < (t171.length : Int)) = false := decide_eq_false c9
          clear c9
          obtain rfl := Option.some.inj H
          obtain ⟨Ao34, co34, eo34⟩ := Kd.R_slice HO_4.out
          subst eo34
          go_wp2
          repeat (go_quiet (fail); try go_wp2)
          go_ret
          exact ⟨by first | rfl | (simp [errW_none, errW_some] <;> rfl) | (simp [*, errW_none, errW_some] <;> rfl), by repeat (first | (with_reducible first | exact HB.out | apply below_alloc | apply pw_below_drewN | apply below_drew1) | exact HB.out)⟩
  · rw [if_neg c5] at H
    have c5b0 : (t172 == 0) = false := beq_eq_false_iff_ne.mpr c5
    have c5b1 : (t172 != 0) = true := bne_iff_ne.mpr c5
    obtain rfl := Option.some.inj H
    go_enter Try.func5, Try.ntmps5
    go_wp2_with (first | (go_at_call 11; (with_reducible refine (gutterlaw07_shown.calls k  t169 _ A2.out (GOK.below HG.out (by repeat (first | (with_reducible first | exact HB.out | apply below_alloc | apply pw_below_drewN | apply below_drew1) | exact HB.out)))).mono ?_); rintro e w35 ⟨rfl, hb⟩; have n0_ := Aside0.mk (below_step (by repeat (first | (with_reducible first | exact HB.out | apply below_alloc | apply pw_below_drewN | apply below_drew1) | exact HB.out)) hb); clear HB; have HB := n0_; clear n0_; (try clear hb); (try clear hb2); (try clear hk); (try clear hi)) | (go_at_call 13; (with_reducible refine (gutterlaw07_cut.calls a0 t170 _ A3.out).mono ?_); rintro e w36 ⟨rfl, hb⟩; have n0_ := Aside0.mk (below_step (by repeat (first | (with_reducible first | exact HB.out | apply below_alloc | apply pw_below_drewN | apply below_drew1) | exact HB.out)) hb); clear HB; have HB := n0_; clear n0_; (try clear hb); (try clear hb2); (try clear hk); (try clear hi)) | (go_at_call 12; (with_reducible refine (word_Words.calls t170 t171 t172 _ A4.out (GOK.below HG.out (by repeat (first | (with_reducible first | exact HB.out | apply below_alloc | apply pw_below_drewN | apply below_drew1) | exact HB.out)))).mono ?_); rintro e w37 ⟨v173, rfl, ho0, hb⟩; have n0_ := Aside0.mk (Kd.R_lower ho0 (below_size (by repeat (first | (with_reducible first | exact HB.out | apply below_alloc | apply pw_below_drewN | apply below_drew1) | exact HB.out)))); have n1_ := Aside0.mk (below_step (by repeat (first | (with_reducible first | exact HB.out | apply below_alloc | apply pw_below_drewN | apply below_drew1) | exact HB.out)) hb); clear HB; have HO174 := n0_; have HB := n1_; clear n0_ n1_; (try clear hb); (try clear hb2); (try clear hk); (try clear hi); (try clear ho0)))
    repeat (go_quiet (first | (go_at_call 11; (with_reducible refine (gutterlaw07_shown.calls k  t169 _ A2.out (GOK.below HG.out (by repeat (first | (with_reducible first | exact HB.out | apply below_alloc | apply pw_below_drewN | apply below_drew1) | exact HB.out)))).mono ?_); rintro e w35 ⟨rfl, hb⟩; have n0_ := Aside0.mk (below_step (by repeat (first | (with_reducible first | exact HB.out | apply below_alloc | apply pw_below_drewN | apply below_drew1) | exact HB.out)) hb); clear HB; have HB := n0_; clear n0_; (try clear hb); (try clear hb2); (try clear hk); (try clear hi)) | (go_at_call 13; (with_reducible refine (gutterlaw07_cut.calls a0 t170 _ A3.out).mono ?_); rintro e w36 ⟨rfl, hb⟩; have n0_ := Aside0.mk (below_step (by repeat (first | (with_reducible first | exact HB.out | apply below_alloc | apply pw_below_drewN | apply below_drew1) | exact HB.out)) hb); clear HB; have HB := n0_; clear n0_; (try clear hb); (try clear hb2); (try clear hk); (try clear hi)) | (go_at_call 12; (with_reducible refine (word_Words.calls t170 t171 t172 _ A4.out (GOK.below HG.out (by repeat (first | (with_reducible first | exact HB.out | apply below_alloc | apply pw_below_drewN | apply below_drew1) | exact HB.out)))).mono ?_); rintro e w37 ⟨v173, rfl, ho0, hb⟩; have n0_ := Aside0.mk (Kd.R_lower ho0 (below_size (by repeat (first | (with_reducible first | exact HB.out | apply below_alloc | apply pw_below_drewN | apply below_drew1) | exact HB.out)))); have n1_ := Aside0.mk (below_step (by repeat (first | (with_reducible first | exact HB.out | apply below_alloc | apply pw_below_drewN | apply below_drew1) | exact HB.out)) hb); clear HB; have HO174 := n0_; have HB := n1_; clear n0_ n1_; (try clear hb); (try clear hb2); (try clear hk); (try clear hi); (try clear ho0))); try go_wp2_with (first | (go_at_call 11; (with_reducible refine (gutterlaw07_shown.calls k  t169 _ A2.out (GOK.below HG.out (by repeat (first | (with_reducible first | exact HB.out | apply below_alloc | apply pw_below_drewN | apply below_drew1) | exact HB.out)))).mono ?_); rintro e w35 ⟨rfl, hb⟩; have n0_ := Aside0.mk (below_step (by repeat (first | (with_reducible first | exact HB.out | apply below_alloc | apply pw_below_drewN | apply below_drew1) | exact HB.out)) hb); clear HB; have HB := n0_; clear n0_; (try clear hb); (try clear hb2); (try clear hk); (try clear hi)) | (go_at_call 13; (with_reducible refine (gutterlaw07_cut.calls a0 t170 _ A3.out).mono ?_); rintro e w36 ⟨rfl, hb⟩; have n0_ := Aside0.mk (below_step (by repeat (first | (with_reducible first | exact HB.out | apply below_alloc | apply pw_below_drewN | apply below_drew1) | exact HB.out)) hb); clear HB; have HB := n0_; clear n0_; (try clear hb); (try clear hb2); (try clear hk); (try clear hi)) | (go_at_call 12; (with_reducible refine (word_Words.calls t170 t171 t172 _ A4.out (GOK.below HG.out (by repeat (first | (with_reducible first | exact HB.out | apply below_alloc | apply pw_below_drewN | apply below_drew1) | exact HB.out)))).mono ?_); rintro e w37 ⟨v173, rfl, ho0, hb⟩; have n0_ := Aside0.mk (Kd.R_lower ho0 (below_size (by repeat (first | (with_reducible first | exact HB.out | apply below_alloc | apply pw_below_drewN | apply below_drew1) | exact HB.out)))); have n1_ := Aside0.mk (below_step (by repeat (first | (with_reducible first | exact HB.out | apply below_alloc | apply pw_below_drewN | apply below_drew1) | exact HB.out)) hb); clear HB; have HO174 := n0_; have HB := n1_; clear n0_ n1_; (try clear hb); (try clear hb2); (try clear hk); (try clear hi); (try clear ho0))))
    go_ret
    exact ⟨by first | rfl | (simp [errW_none, errW_some] <;> rfl) | (simp [*, errW_none, errW_some] <;> rfl), by repeat (first | (with_reducible first | exact HB.out | apply below_alloc | apply pw_below_drewN | apply below_drew1) | exact HB.out)⟩

/-- THE ONE PURE STATEMENT of gutterlaw07_WordEnds: yours. -/
def gutterlaw07_WordEnds.Pure : Prop := ∀ (a0 : ByteArray), a0.size ≤ 140737488351232 → ∃ k, gutterlaw07_WordEnds.f k a0 = some true
theorem gutterlaw07_WordEnds.walk (P : gutterlaw07_WordEnds.Pure) (a0 : ByteArray) (w : World) (w0 : a0.size ≤ 140737488351232) (hG : GOK w) :
    Calls Try.prog 5 #[.string a0] w fun e w' => e = .returned (.bool true) ∧ Below w.heap.size w w' := by
  obtain ⟨k, h⟩ := P a0 w0
  refine (gutterlaw07_WordEnds.calls k a0 true w h hG).mono ?_
  rintro e w' ⟨rfl, hd⟩
  exact ⟨rfl, hd⟩

end Go.Proofs.Ytnfbfachabdahaa.G
