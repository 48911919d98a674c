/- Functions of the law and of what it calls as plain Lean functions, and that the calls come to their answers: written by fprint.py. -/
import Derived.Test.YtfamkadpncbmlaaDoorF8
import Derived.Test.YtfamkadpncbmlaaDoorG0
import Derived.Test.YtfamkadpncbmlaaDoorG2
namespace Go.Proofs.YtfamkadpncbmlaaDoor.G
open Go.RowKit Go.Proofs.YtfamkadpncbmlaaDoorW.PrintWords Go.Proofs.YtfamkadpncbmlaaDoorW.PrintLast Go.Proofs.YtfamkadpncbmlaaDoorW.PrintMore
attribute [local go_sem] max2_int min2_int max_two min_two max_three min_three max_four min_four   -- for this text's walks alone
set_option linter.unusedVariables false
set_option linter.unusedSimpArgs false

/-! ### gutterlaw09_ParaSums: function 4 -/
mutual
def gutterlaw09_ParaSums.l0 : Nat → Int → Int → Int → List Int → Bool → List Int → Int → Int → Int → Option (Bool)
  | 0, _, _, _, _, _, _, _, _, _ => none
  | k + 1, x0, x1, x2, x3, x9, x10, x11, x13, x14 => if x14 < (x10.length : Int) then (if x14 ≥ (x3.length : Int) then (gutterlaw09_ParaSums.j1 k x0 x1 x2 x3 x9 x10 x11 x13 x14 true) else (if 0 ≤ x14 then (if (rd x10 x14) < 0 then (gutterlaw09_ParaSums.j1 k x0 x1 x2 x3 x9 x10 x11 x13 x14 true) else (if x14 < (x3.length : Int) then (gutterlaw09_ParaSums.j1 k x0 x1 x2 x3 x9 x10 x11 x13 x14 (decide ((rd x10 x14) > (rd x3 x14)))) else (none))) else (none))) else (if x9 = true then (if x13 = x0 then (some (decide (x11 ≥ 0))) else (some false)) else (some false))
def gutterlaw09_ParaSums.j1 : Nat → Int → Int → Int → List Int → Bool → List Int → Int → Int → Int → Bool → Option (Bool)
  | 0, _, _, _, _, _, _, _, _, _, _ => none
  | k + 1, x0, x1, x2, x3, x9, x10, x11, x13, x14, x71 => if x71 = true then (some false) else (if 0 ≤ x14 then (if x14 < (x10.length : Int) then (if (rd x10 x14) > 0 then (if (wrap64 ((wrap64 (x0 - (wrap64 (x13 + (rd x10 x14))))) + x11)) > 0 then (if (rd x10 x14) < x1 then (some false) else (if (wrap64 ((wrap64 (x0 - (wrap64 (x13 + (rd x10 x14))))) + x11)) < x2 then (some false) else (gutterlaw09_ParaSums.l0 k x0 x1 x2 x3 x9 x10 x11 (wrap64 (x13 + (rd x10 x14))) (wrap64 (x14 + 1))))) else (gutterlaw09_ParaSums.l0 k x0 x1 x2 x3 x9 x10 x11 (wrap64 (x13 + (rd x10 x14))) (wrap64 (x14 + 1)))) else (gutterlaw09_ParaSums.l0 k x0 x1 x2 x3 x9 x10 x11 (wrap64 (x13 + (rd x10 x14))) (wrap64 (x14 + 1)))) else (none)) else (none))
end
def gutterlaw09_ParaSums.f (k : Nat) (a0 : Int) (a1 : Int) (a2 : Int) (l3 : List Int) : Option (Bool) := (gutterlaw09_shown.f k).bind fun t156 => (if 0 ≤ (mn (l3.length : Int) 30) then (if (mn (l3.length : Int) 30) ≤ (l3.length : Int) then ((some (l3.take ((mn (l3.length : Int) 30) : Int).toNat : List Int)).bind fun y157 => ((para_Deal.f a0 a1 a2 y157).bind fun bt161 => (if bt161.2.2 = 0 then (gutterlaw09_ParaSums.l0 k a0 a1 a2 y157 t156 bt161.1 bt161.2.1 bt161.2.1 0) else (if t156 = true then (if (bt161.1.length : Int) = 0 then (some (bt161.2.1 == 0)) else (some false)) else (some false))))) else (none)) else (none))
theorem gutterlaw09_ParaSums.mono_l : ∀ k, (∀ y0 y1 y2 y3 y4 y5 y6 y7 y8, LeO (gutterlaw09_ParaSums.l0 k y0 y1 y2 y3 y4 y5 y6 y7 y8) (gutterlaw09_ParaSums.l0 (k + 1) y0 y1 y2 y3 y4 y5 y6 y7 y8)) ∧ (∀ y0 y1 y2 y3 y4 y5 y6 y7 y8 y9, LeO (gutterlaw09_ParaSums.j1 k y0 y1 y2 y3 y4 y5 y6 y7 y8 y9) (gutterlaw09_ParaSums.j1 (k + 1) y0 y1 y2 y3 y4 y5 y6 y7 y8 y9))
  | 0 => ⟨fun _ _ _ _ _ _ _ _ _ r h => by simp [gutterlaw09_ParaSums.l0] at h, fun _ _ _ _ _ _ _ _ _ _ r h => by simp [gutterlaw09_ParaSums.j1] at h⟩
  | k + 1 => by
    obtain ⟨ih0, ih1⟩ := gutterlaw09_ParaSums.mono_l k
    refine ⟨?_, ?_⟩
    · intro y0 y1 y2 y3 y4 y5 y6 y7 y8
      unfold gutterlaw09_ParaSums.l0
      repeat' first
      | (with_reducible exact ih0 _ _ _ _ _ _ _ _ _)
      | (with_reducible exact ih1 _ _ _ _ _ _ _ _ _ _)
      | (with_reducible exact gutterlaw09_shown.mono _)
      | (with_reducible exact LeO.refl _)
      | (with_reducible exact LeO.none _)
      | (with_reducible refine LeO.ite ?_ ?_)
      | (with_reducible refine LeO.bind ?_ (fun _ => ?_))
      | exact ih0 _ _ _ _ _ _ _ _ _
      | exact ih1 _ _ _ _ _ _ _ _ _ _
      | exact gutterlaw09_shown.mono _
      | exact LeO.none _
      | refine LeO.ite ?_ ?_
      | refine LeO.bind ?_ (fun _ => ?_)
    · intro y0 y1 y2 y3 y4 y5 y6 y7 y8 y9
      unfold gutterlaw09_ParaSums.j1
      repeat' first
      | (with_reducible exact ih0 _ _ _ _ _ _ _ _ _)
      | (with_reducible exact ih1 _ _ _ _ _ _ _ _ _ _)
      | (with_reducible exact gutterlaw09_shown.mono _)
      | (with_reducible exact LeO.refl _)
      | (with_reducible exact LeO.none _)
      | (with_reducible refine LeO.ite ?_ ?_)
      | (with_reducible refine LeO.bind ?_ (fun _ => ?_))
      | exact ih0 _ _ _ _ _ _ _ _ _
      | exact ih1 _ _ _ _ _ _ _ _ _ _
      | exact gutterlaw09_shown.mono _
      | exact LeO.none _
      | refine LeO.ite ?_ ?_
      | refine LeO.bind ?_ (fun _ => ?_)
theorem gutterlaw09_ParaSums.mono : ∀ a0 a1 a2 a3 k, LeO (gutterlaw09_ParaSums.f k a0 a1 a2 a3) (gutterlaw09_ParaSums.f (k + 1) a0 a1 a2 a3) := by
  intro a0 a1 a2 a3 k
  obtain ⟨ih0, ih1⟩ := gutterlaw09_ParaSums.mono_l k
  unfold gutterlaw09_ParaSums.f
  repeat' first
      | (with_reducible exact ih0 _ _ _ _ _ _ _ _ _)
      | (with_reducible exact ih1 _ _ _ _ _ _ _ _ _ _)
      | (with_reducible exact gutterlaw09_shown.mono _)
      | (with_reducible exact LeO.refl _)
      | (with_reducible exact LeO.none _)
      | (with_reducible refine LeO.ite ?_ ?_)
      | (with_reducible refine LeO.bind ?_ (fun _ => ?_))
      | exact ih0 _ _ _ _ _ _ _ _ _
      | exact ih1 _ _ _ _ _ _ _ _ _ _
      | exact gutterlaw09_shown.mono _
      | exact LeO.none _
      | refine LeO.ite ?_ ?_
      | refine LeO.bind ?_ (fun _ => ?_)
set_option maxHeartbeats 8000000 in
set_option maxRecDepth 100000 in
theorem gutterlaw09_ParaSums.calls (k : Nat) (a0 : Int) (a1 : Int) (a2 : Int) (A3 : Option Addr) (c3 : Nat) (l3 : List Int) (r : Bool) (w : World) (hr3 : Kd.C (Kd.int .i64) w A3 l3.length l3) (hc3 : l3.length ≤ c3) (h : gutterlaw09_ParaSums.f k a0 a1 a2 l3 = some r) (hG : GOK w) :
    Calls Tryd.prog 4 #[.int .i64 a0, .int .i64 a1, .int .i64 a2, .slice A3 l3.length c3] w fun e w' => e = .returned (.bool r) ∧ Below w.heap.size w w' := by
  have HG := Aside0.mk hG
  clear hG
  have HR3 := Aside0.mk hr3
  have HC3 := Aside0.mk hc3
  clear hr3 hc3
  have HB := Aside0.mk (Below.refl w.heap.size w)
  have H : ((gutterlaw09_shown.f k).bind fun t156 => (if 0 ≤ (mn (l3.length : Int) 30) then (if (mn (l3.length : Int) 30) ≤ (l3.length : Int) then ((some (l3.take ((mn (l3.length : Int) 30) : Int).toNat : List Int)).bind fun y157 => ((para_Deal.f a0 a1 a2 y157).bind fun bt161 => (if bt161.2.2 = 0 then (gutterlaw09_ParaSums.l0 k a0 a1 a2 y157 t156 bt161.1 bt161.2.1 bt161.2.1 0) else (if t156 = true then (if (bt161.1.length : Int) = 0 then (some (bt161.2.1 == 0)) else (some false)) else (some false))))) else (none)) else (none))) = some r := h
  clear h
  replace H := Option.bind_eq_some_iff.mp H
  obtain ⟨t156, A50, H⟩ := H
  replace H : (if 0 ≤ (mn (l3.length : Int) 30) then (if (mn (l3.length : Int) 30) ≤ (l3.length : Int) then ((some (l3.take ((mn (l3.length : Int) 30) : Int).toNat : List Int)).bind fun y157 => ((para_Deal.f a0 a1 a2 y157).bind fun bt161 => (if bt161.2.2 = 0 then (gutterlaw09_ParaSums.l0 k a0 a1 a2 y157 t156 bt161.1 bt161.2.1 bt161.2.1 0) else (if t156 = true then (if (bt161.1.length : Int) = 0 then (some (bt161.2.1 == 0)) else (some false)) else (some false))))) else (none)) else (none)) = some r := H
  have A5 := Aside0.mk A50
  clear A50
  obtain ⟨ji6, hji6⟩ : ∃ j_ : Int, (mn (l3.length : Int) 30) = j_ := ⟨_, rfl⟩
  replace H : (if 0 ≤ (ji6) then (if (ji6) ≤ (l3.length : Int) then ((some (l3.take ((ji6) : Int).toNat : List Int)).bind fun y157 => ((para_Deal.f a0 a1 a2 y157).bind fun bt161 => (if bt161.2.2 = 0 then (gutterlaw09_ParaSums.l0 k a0 a1 a2 y157 t156 bt161.1 bt161.2.1 bt161.2.1 0) else (if t156 = true then (if (bt161.1.length : Int) = 0 then (some (bt161.2.1 == 0)) else (some false)) else (some false))))) else (none)) else (none)) = some r := by first | (rw [hji6] at H; exact H) | (simp only [hji6] at H ⊢; exact H)
  (try rw [hji6] at A5)
  (try (have hji6h : ji6 ≤ 30 := by (rw [← hji6]; unfold mn; (repeat' split) <;> omega)))
  (try (have hji6g : ji6 ≤ 64 := by omega))
  (try (have hji6l : 0 ≤ ji6 := by (rw [← hji6]; unfold mn; (repeat' split) <;> omega)))
  (try (have hji6m : 0 ≤ ji6 := by omega))
  have hji6_ : (if 30 < (l3.length : Int) then 30 else (l3.length : Int)) = ji6 := hji6
  by_cases c7 : 0 ≤ (ji6)
  · rw [if_pos c7] at H
    have c7b0 := eq_true c7
    have c7b1 : decide (0 ≤ (ji6)) = true := decide_eq_true c7
    clear c7
    by_cases c8 : (ji6) ≤ (l3.length : Int)
    · rw [if_pos c8] at H
      have c8b0 := eq_true c8
      have c8b1 : decide ((ji6) ≤ (l3.length : Int)) = true := decide_eq_true c8
      clear c8
      obtain ⟨y157, hy157⟩ : ∃ y_ : List Int, y_ = (l3.take ((ji6) : Int).toNat) := ⟨_, rfl⟩
      replace H : ((para_Deal.f a0 a1 a2 y157).bind fun bt161 => (if bt161.2.2 = 0 then (gutterlaw09_ParaSums.l0 k a0 a1 a2 y157 t156 bt161.1 bt161.2.1 bt161.2.1 0) else (if t156 = true then (if (bt161.1.length : Int) = 0 then (some (bt161.2.1 == 0)) else (some false)) else (some false)))) = some r := by first | (rw [hy157]; with_reducible exact H) | (have H2_ := (Option.bind_some _ _).symm.trans H; rw [hy157]; with_reducible exact H2_) | (have H2_ := (Option.bind_some _ _).symm.trans H; with_reducible exact H2_) | with_reducible exact H | (rw [hy157]; exact H) | exact H
      have Ny157 := Aside0.mk hy157
      clear hy157
      replace H := Option.bind_eq_some_iff.mp H
      obtain ⟨⟨t161, t162, t163⟩, A90, H⟩ := H
      replace H : (if t163 = 0 then (gutterlaw09_ParaSums.l0 k a0 a1 a2 y157 t156 t161 t162 t162 0) else (if t156 = true then (if (t161.length : Int) = 0 then (some (t162 == 0)) else (some false)) else (some false))) = some r := H
      have A9 := Aside0.mk A90
      clear A90
      by_cases c10 : t163 = 0
      · rw [if_pos c10] at H
        have c10b0 : (t163 == 0) = true := beq_iff_eq.mpr c10
        have c10b1 : (t163 != 0) = false := bne_eq_false_iff_eq.mpr c10
        clear c10
        have H' := Aside0.mk H
        clear H
        go_enter Tryd.func4, Tryd.ntmps4
        go_wp2_with (first | (go_at_call 10; (with_reducible refine (gutterlaw09_shown.calls k  t156 _ A5.out (GOK.below HG.out (by repeat (first | (with_reducible first | exact HB.out | apply below_alloc | apply pw_below_drewN | apply below_drew1) | exact HB.out)))).mono ?_); rintro e w11 ⟨rfl, hb⟩; have n0_ := Aside0.mk (below_step (by repeat (first | (with_reducible first | exact HB.out | apply below_alloc | apply pw_below_drewN | apply below_drew1) | exact HB.out)) hb); clear HB; have HB := n0_; clear n0_; (try clear hb); (try clear hb2); (try clear hk); (try clear hi); have q12 : ((ji6) : Int) ≤ ((l3.length : Int) : Int) := of_decide_eq_true (by first | (with_reducible assumption) | assumption); obtain ⟨i012, hi012, _, hsz12, _⟩ := info_parts info3; have hroom12 : l3.length ≤ c3 := HC3.out; have hC12 : Kd.C (Kd.int .i64) _ A3 l3.length l3 := HR3.out; have hcut12 := cut_to (P := Tryd.prog) 22 3 .i64 Tryd.underlying22 hi012 A3 l3.length c3 (ji6) (of_decide_eq_true (by first | (with_reducible assumption) | assumption)) q12 hroom12; have hr12 := Kd.C_take (m := ((ji6) : Int).toNat) hC12 (by omega); have hy12 : y157.length = ((ji6) : Int).toNat := (by rw [Ny157.out, List.length_take]; omega); rw [← Ny157.out] at hr12; rw [← hy12] at hcut12; have HR160 := Aside0.mk hr12; have HC160 := Aside0.mk (show y157.length ≤ c3 from by omega); clear hr12 hC12 hroom12 hi012 hsz12; have KY12 := Aside0.mk hy12; clear hy12; replace q12 := eq_true q12) | (go_at_call 13; refine calls_of_args (args' := #[.int .i64 a0, .int .i64 a1, .int .i64 a2, .slice A3 y157.length c3]) (by (try simp only [List.map_toArray, List.map_cons, List.map_nil]); first | done | rfl | (simp only [List.length_drop, List.length_take]; rfl)) ?_; (with_reducible refine (para_Deal.calls a0 a1 a2 _ _ y157 t161 t162 t163 _ ?side1 ?side2 A9.out (GOK.below HG.out (by repeat (first | (with_reducible first | exact HB.out | apply below_alloc | apply pw_below_drewN | apply below_drew1) | exact HB.out)))).mono ?_); (case side1 => repeat (first | exact (Kd.C_below HR160.out HB.out) | (with_reducible refine Kd.C_alloc ?_ _) | (with_reducible refine Kd.C_drewN ?_ _) | (with_reducible refine Kd.C_drew ?_))); (case side2 => exact HC160.out); rintro e w13 ⟨v164, rfl, ho0, hb⟩; have n0_ := Aside0.mk (Kd.R_lower ho0 (below_size (by repeat (first | (with_reducible first | exact HB.out | apply below_alloc | apply pw_below_drewN | apply below_drew1) | exact HB.out)))); have n1_ := Aside0.mk (below_step (by repeat (first | (with_reducible first | exact HB.out | apply below_alloc | apply pw_below_drewN | apply below_drew1) | exact HB.out)) hb); clear HB; have HO165 := n0_; have HB := n1_; clear n0_ n1_; (try clear hb); (try clear hb2); (try clear hk); (try clear hi); (try clear ho0)))
        repeat (go_quiet (first | (go_at_call 10; (with_reducible refine (gutterlaw09_shown.calls k  t156 _ A5.out (GOK.below HG.out (by repeat (first | (with_reducible first | exact HB.out | apply below_alloc | apply pw_below_drewN | apply below_drew1) | exact HB.out)))).mono ?_); rintro e w11 ⟨rfl, hb⟩; have n0_ := Aside0.mk (below_step (by repeat (first | (with_reducible first | exact HB.out | apply below_alloc | apply pw_below_drewN | apply below_drew1) | exact HB.out)) hb); clear HB; have HB := n0_; clear n0_; (try clear hb); (try clear hb2); (try clear hk); (try clear hi); have q12 : ((ji6) : Int) ≤ ((l3.length : Int) : Int) := of_decide_eq_true (by first | (with_reducible assumption) | assumption); obtain ⟨i012, hi012, _, hsz12, _⟩ := info_parts info3; have hroom12 : l3.length ≤ c3 := HC3.out; have hC12 : Kd.C (Kd.int .i64) _ A3 l3.length l3 := HR3.out; have hcut12 := cut_to (P := Tryd.prog) 22 3 .i64 Tryd.underlying22 hi012 A3 l3.length c3 (ji6) (of_decide_eq_true (by first | (with_reducible assumption) | assumption)) q12 hroom12; have hr12 := Kd.C_take (m := ((ji6) : Int).toNat) hC12 (by omega); have hy12 : y157.length = ((ji6) : Int).toNat := (by rw [Ny157.out, List.length_take]; omega); rw [← Ny157.out] at hr12; rw [← hy12] at hcut12; have HR160 := Aside0.mk hr12; have HC160 := Aside0.mk (show y157.length ≤ c3 from by omega); clear hr12 hC12 hroom12 hi012 hsz12; have KY12 := Aside0.mk hy12; clear hy12; replace q12 := eq_true q12) | (go_at_call 13; refine calls_of_args (args' := #[.int .i64 a0, .int .i64 a1, .int .i64 a2, .slice A3 y157.length c3]) (by (try simp only [List.map_toArray, List.map_cons, List.map_nil]); first | done | rfl | (simp only [List.length_drop, List.length_take]; rfl)) ?_; (with_reducible refine (para_Deal.calls a0 a1 a2 _ _ y157 t161 t162 t163 _ ?side1 ?side2 A9.out (GOK.below HG.out (by repeat (first | (with_reducible first | exact HB.out | apply below_alloc | apply pw_below_drewN | apply below_drew1) | exact HB.out)))).mono ?_); (case side1 => repeat (first | exact (Kd.C_below HR160.out HB.out) | (with_reducible refine Kd.C_alloc ?_ _) | (with_reducible refine Kd.C_drewN ?_ _) | (with_reducible refine Kd.C_drew ?_))); (case side2 => exact HC160.out); rintro e w13 ⟨v164, rfl, ho0, hb⟩; have n0_ := Aside0.mk (Kd.R_lower ho0 (below_size (by repeat (first | (with_reducible first | exact HB.out | apply below_alloc | apply pw_below_drewN | apply below_drew1) | exact HB.out)))); have n1_ := Aside0.mk (below_step (by repeat (first | (with_reducible first | exact HB.out | apply below_alloc | apply pw_below_drewN | apply below_drew1) | exact HB.out)) hb); clear HB; have HO165 := n0_; have HB := n1_; clear n0_ n1_; (try clear hb); (try clear hb2); (try clear hk); (try clear hi); (try clear ho0))); try go_wp2_with (first | (go_at_call 10; (with_reducible refine (gutterlaw09_shown.calls k  t156 _ A5.out (GOK.below HG.out (by repeat (first | (with_reducible first | exact HB.out | apply below_alloc | apply pw_below_drewN | apply below_drew1) | exact HB.out)))).mono ?_); rintro e w11 ⟨rfl, hb⟩; have n0_ := Aside0.mk (below_step (by repeat (first | (with_reducible first | exact HB.out | apply below_alloc | apply pw_below_drewN | apply below_drew1) | exact HB.out)) hb); clear HB; have HB := n0_; clear n0_; (try clear hb); (try clear hb2); (try clear hk); (try clear hi); have q12 : ((ji6) : Int) ≤ ((l3.length : Int) : Int) := of_decide_eq_true (by first | (with_reducible assumption) | assumption); obtain ⟨i012, hi012, _, hsz12, _⟩ := info_parts info3; have hroom12 : l3.length ≤ c3 := HC3.out; have hC12 : Kd.C (Kd.int .i64) _ A3 l3.length l3 := HR3.out; have hcut12 := cut_to (P := Tryd.prog) 22 3 .i64 Tryd.underlying22 hi012 A3 l3.length c3 (ji6) (of_decide_eq_true (by first | (with_reducible assumption) | assumption)) q12 hroom12; have hr12 := Kd.C_take (m := ((ji6) : Int).toNat) hC12 (by omega); have hy12 : y157.length = ((ji6) : Int).toNat := (by rw [Ny157.out, List.length_take]; omega); rw [← Ny157.out] at hr12; rw [← hy12] at hcut12; have HR160 := Aside0.mk hr12; have HC160 := Aside0.mk (show y157.length ≤ c3 from by omega); clear hr12 hC12 hroom12 hi012 hsz12; have KY12 := Aside0.mk hy12; clear hy12; replace q12 := eq_true q12) | (go_at_call 13; refine calls_of_args (args' := #[.int .i64 a0, .int .i64 a1, .int .i64 a2, .slice A3 y157.length c3]) (by (try simp only [List.map_toArray, List.map_cons, List.map_nil]); first | done | rfl | (simp only [List.length_drop, List.length_take]; rfl)) ?_; (with_reducible refine (para_Deal.calls a0 a1 a2 _ _ y157 t161 t162 t163 _ ?side1 ?side2 A9.out (GOK.below HG.out (by repeat (first | (with_reducible first | exact HB.out | apply below_alloc | apply pw_below_drewN | apply below_drew1) | exact HB.out)))).mono ?_); (case side1 => repeat (first | exact (Kd.C_below HR160.out HB.out) | (with_reducible refine Kd.C_alloc ?_ _) | (with_reducible refine Kd.C_drewN ?_ _) | (with_reducible refine Kd.C_drew ?_))); (case side2 => exact HC160.out); rintro e w13 ⟨v164, rfl, ho0, hb⟩; have n0_ := Aside0.mk (Kd.R_lower ho0 (below_size (by repeat (first | (with_reducible first | exact HB.out | apply below_alloc | apply pw_below_drewN | apply below_drew1) | exact HB.out)))); have n1_ := Aside0.mk (below_step (by repeat (first | (with_reducible first | exact HB.out | apply below_alloc | apply pw_below_drewN | apply below_drew1) | exact HB.out)) hb); clear HB; have HO165 := n0_; have HB := n1_; clear n0_ n1_; (try clear hb); (try clear hb2); (try clear hk); (try clear hi); (try clear ho0))))
        go_loopg [13, 14] k (fun kq v13 v14 w' => ∃ (x13_1 : Int) (x14_1 : Int), v13 = .int .i64 x13_1 ∧ v14 = .int .i64 x14_1 ∧ Aside0 (gutterlaw09_ParaSums.l0 kq a0 a1 a2 y157 t156 t161 t162 x13_1 x14_1 = some r) ∧ Aside0 (kq ≤ k) ∧ Aside0 (Kd.R (Kd.int .i64) 3 w' w.heap.size (fun _ => True) v164 t161) ∧ Aside0 (Below w.heap.size w w'))
        case atStart => exact ⟨(t162), (0), (by first | rfl | (simp; done) | (simp [*]; done)), (by first | rfl | (simp; done) | (simp [*]; done)), H', ⟨Nat.le_refl _⟩, ⟨by (with_reducible repeat (first | apply Kd.R_alloc | apply Kd.R_drewN | apply Kd.R_drew)); exact HO165.out⟩, ⟨by repeat (first | (with_reducible first | exact HB.out | apply below_alloc | apply pw_below_drewN | apply below_drew1) | exact HB.out)⟩⟩
        case round =>
          clear H'
          try clear c1
          try clear q1
          try clear p2
          try clear c3
          try clear c4
          try clear c7
          try clear c7b0
          try clear c7b1
          try clear c8
          try clear c8b0
          try clear c8b1
          try clear c10
          try clear c10b0
          try clear c10b1
          try clear q12
          try clear q12
          obtain ⟨x13_1, x14_1, rfl, rfl, HA, HK1, HO_10, HB⟩ := hrel
          cases gk with
          | zero => exact absurd HA.out (by simp [gutterlaw09_ParaSums.l0])
          | succ k1 =>
            have H := HA.out
            clear HA
            simp only [gutterlaw09_ParaSums.l0] at H
            by_cases c14 : x14_1 < (t161.length : Int)
            · rw [if_pos c14] at H
              have c14b0 : decide (x14_1 < (t161.length : Int)) = true := decide_eq_true c14
              clear c14
              have HC15 := Aside0.mk H
              clear H
              obtain ⟨Ao16, co16, eo16⟩ := Kd.R_slice HO_10.out
              subst eo16
              go_upto_region 10 with (fail)
              repeat (go_quiet (fail); go_upto_region 10 with (fail))
              go_cut [71] (fun v71 wc => ∃ (kq : Nat) (x71_14 : Bool), v71 = .bool x71_14 ∧ Aside0 (gutterlaw09_ParaSums.j1 kq a0 a1 a2 y157 t156 t161 t162 x13_1 x14_1 x71_14 = some r) ∧ Aside0 (kq ≤ k1) ∧ Aside0 (Kd.R (Kd.int .i64) 3 wc w.heap.size (fun _ => True) (.slice Ao16 t161.length co16) t161) ∧ Aside0 (Below w.heap.size w wc))
              case first =>
                have H := HC15.out
                clear HC15
                by_cases c17 : x14_1 ≥ (y157.length : Int)
                · rw [if_pos c17] at H
                  have c17b0 : decide ((y157.length : Int) ≤ x14_1) = true := decide_eq_true c17
                  clear c17
                  (first | rw [c17b0] | (simp only [i64_w, i32_w]; rw [c17b0]) | skip)
                  have H' := Aside0.mk H
                  clear H
                  go_wp2
                  repeat (go_quiet (fail); try go_wp2)
                  go_meet
                  case rel => exact ⟨_, (true), (by first | rfl | (simp; done) | (simp [*]; done)), H', ⟨by have := HK1.out; first | omega | exact Nat.le_refl _⟩, ⟨by (with_reducible repeat (first | apply Kd.R_alloc | apply Kd.R_drewN | apply Kd.R_drew)); exact HO_10.out⟩, ⟨by repeat (first | (with_reducible first | exact HB.out | apply below_alloc | apply pw_below_drewN | apply below_drew1) | exact HB.out)⟩⟩
                · rw [if_neg c17] at H
                  have c17b0 : decide ((y157.length : Int) ≤ x14_1) = false := decide_eq_false c17
                  clear c17
                  (first | rw [c17b0] | (simp only [i64_w, i32_w]; rw [c17b0]) | skip)
                  by_cases c18 : 0 ≤ x14_1
                  · rw [if_pos c18] at H
                    have c18b0 : decide (0 ≤ x14_1) = true := decide_eq_true c18
                    clear c18
                    by_cases c19 : (rd t161 x14_1) < 0
                    · rw [if_pos c19] at H
                      have c19b0 : decide ((rd t161 x14_1) < 0) = true := decide_eq_true c19
                      clear c19
                      have H' := Aside0.mk H
                      clear H
                      have p166 : 0 ≤ (x14_1 : Int) := of_decide_eq_true (by first | (with_reducible assumption) | assumption)
                      have q166 : x14_1 < (t161.length : Int) := of_decide_eq_true (by first | (with_reducible assumption) | assumption)
                      obtain ⟨ad166, e166, hx166_0⟩ := Kd.at_int (Kd.R_reads' HO_10.out).2.2 x14_1 p166 q166
                      cases e166
                      replace p166 := eq_true p166
                      replace q166 := eq_true q166
                      go_wp2
                      repeat (go_quiet (fail); try go_wp2)
                      go_meet
                      case rel => exact ⟨_, (true), (by first | rfl | (simp; done) | (simp [*]; done)), H', ⟨by have := HK1.out; first | omega | exact Nat.le_refl _⟩, ⟨by (with_reducible repeat (first | apply Kd.R_alloc | apply Kd.R_drewN | apply Kd.R_drew)); exact HO_10.out⟩, ⟨by repeat (first | (with_reducible first | exact HB.out | apply below_alloc | apply pw_below_drewN | apply below_drew1) | exact HB.out)⟩⟩
                    · rw [if_neg c19] at H
                      have c19b0 : decide ((rd t161 x14_1) < 0) = false := decide_eq_false c19
                      clear c19
                      by_cases c20 : x14_1 < (y157.length : Int)
                      · rw [if_pos c20] at H
                        have c20b0 : decide (x14_1 < (y157.length : Int)) = true := decide_eq_true c20
                        clear c20
                        have H' := Aside0.mk H
                        clear H
                        have p166 : 0 ≤ (x14_1 : Int) := of_decide_eq_true (by first | (with_reducible assumption) | assumption)
                        have q166 : x14_1 < (t161.length : Int) := of_decide_eq_true (by first | (with_reducible assumption) | assumption)
                        obtain ⟨ad166, e166, hx166_0⟩ := Kd.at_int (Kd.R_reads' HO_10.out).2.2 x14_1 p166 q166
                        cases e166
                        replace p166 := eq_true p166
                        replace q166 := eq_true q166
                        have p167 : 0 ≤ (x14_1 : Int) := of_decide_eq_true (by first | (with_reducible assumption) | assumption)
                        have q167 : x14_1 < (t161.length : Int) := of_decide_eq_true (by first | (with_reducible assumption) | assumption)
                        obtain ⟨ad167, e167, hx167_0⟩ := Kd.at_int (Kd.R_reads' HO_10.out).2.2 x14_1 p167 q167
                        obtain rfl : ad166 = ad167 := (by injection e167)
                        replace p167 := eq_true p167
                        replace q167 := eq_true q167
                        have p168 : 0 ≤ (x14_1 : Int) := of_decide_eq_true (by first | (with_reducible assumption) | assumption)
                        have q168 : x14_1 < (y157.length : Int) := of_decide_eq_true (by first | (with_reducible assumption) | assumption)
                        obtain ⟨ad168, e168, hx168_0⟩ := Kd.at_int HR160.out x14_1 p168 q168
                        cases e168
                        replace hx168_0 := (HB.out.cell (World.block_lt_of_cell? w _ hx168_0)).trans hx168_0
                        replace p168 := eq_true p168
                        replace q168 := eq_true q168
                        go_wp2
                        repeat (go_quiet (fail); try go_wp2)
                        go_meet
                        case rel => exact ⟨_, (decide ((rd t161 x14_1) > (rd y157 x14_1))), (by first | rfl | (simp; done) | (simp [*]; done)), H', ⟨by have := HK1.out; first | omega | exact Nat.le_refl _⟩, ⟨by (with_reducible repeat (first | apply Kd.R_alloc | apply Kd.R_drewN | apply Kd.R_drew)); exact HO_10.out⟩, ⟨by repeat (first | (with_reducible first | exact HB.out | apply below_alloc | apply pw_below_drewN | apply below_drew1) | exact HB.out)⟩⟩
                      · rw [if_neg c20] at H
                        exact absurd H (by simp)
                  · rw [if_neg c18] at H
                    exact absurd H (by simp)
              case rest =>
                clear HC15
                try clear c1
                try clear p1
                try clear q1
                try clear hx1
                try clear c2
                try clear p2
                try clear c3
                try clear c4
                try clear c7
                try clear c7b0
                try clear c7b1
                try clear c8
                try clear c8b0
                try clear c8b1
                try clear c10
                try clear c10b0
                try clear c10b1
                try clear q12
                try clear c14
                try clear c14b0
                try clear p16
                try clear q16
                try clear hx16
                try clear c17
                try clear c17b0
                try clear c18
                try clear c18b0
                try clear c19
                try clear c19b0
                try clear c20
                try clear c20b0
                try clear hx166_0
                try clear hx167_0
                try clear hx168_0
                try clear p166
                try clear p167
                try clear p168
                try clear p2
                try clear q1
                try clear q12
                try clear q166
                try clear q167
                try clear q168
                obtain ⟨kq, x71_14, rfl, HA, HJ14, HO_10, HB⟩ := hcut
                cases kq with
                | zero => exact absurd HA.out (by simp [gutterlaw09_ParaSums.j1])
                | succ kj14 =>
                  have H := HA.out
                  clear HA
                  simp only [gutterlaw09_ParaSums.j1] at H
                  by_cases c21 : x71_14 = true
                  · subst c21
                    have H1 : (some false) = some r := by rw [if_pos rfl] at H; exact H
                    clear H
                    have H := H1
                    clear H1
                    obtain rfl := Option.some.inj H
                    go_wp2
                    repeat (go_quiet (fail); try go_wp2)
                    go_ret
                    exact ⟨by first | rfl | (simp [errW_none, errW_some] <;> rfl) | (simp only [← hji6]; first | rfl | (simp [errW_none, errW_some] <;> rfl)) | (simp [*, errW_none, errW_some] <;> rfl), by repeat (first | (with_reducible first | exact HB.out | apply below_alloc | apply pw_below_drewN | apply below_drew1) | exact HB.out)⟩
                  · replace c21 := Bool.eq_false_iff.mpr c21
                    subst c21
                    have H1 : (if 0 ≤ x14_1 then (if x14_1 < (t161.length : Int) then (if (rd t161 x14_1) > 0 then (if (wrap64 ((wrap64 (a0 - (wrap64 (x13_1 + (rd t161 x14_1))))) + t162)) > 0 then (if (rd t161 x14_1) < a1 then (some false) else (if (wrap64 ((wrap64 (a0 - (wrap64 (x13_1 + (rd t161 x14_1))))) + t162)) < a2 then (some false) else (gutterlaw09_ParaSums.l0 kj14 a0 a1 a2 y157 t156 t161 t162 (wrap64 (x13_1 + (rd t161 x14_1))) (wrap64 (x14_1 + 1))))) else (gutterlaw09_ParaSums.l0 kj14 a0 a1 a2 y157 t156 t161 t162 (wrap64 (x13_1 + (rd t161 x14_1))) (wrap64 (x14_1 + 1)))) else (gutterlaw09_ParaSums.l0 kj14 a0 a1 a2 y157 t156 t161 t162 (wrap64 (x13_1 + (rd t161 x14_1))) (wrap64 (x14_1 + 1)))) else (none)) else (none)) = some r := by rw [if_neg (show ¬ (false = true) by decide)] at H; exact H
                    clear H
                    have H := H1
                    clear H1
                    by_cases c22 : 0 ≤ x14_1
                    · rw [if_pos c22] at H
                      have c22b0 : decide (0 ≤ x14_1) = true := decide_eq_true c22
                      clear c22
                      by_cases c23 : x14_1 < (t161.length : Int)
                      · rw [if_pos c23] at H
                        have c23b0 : decide (x14_1 < (t161.length : Int)) = true := decide_eq_true c23
                        clear c23
                        by_cases c24 : (rd t161 x14_1) > 0
                        · rw [if_pos c24] at H
                          have c24b0 : decide (0 < (rd t161 x14_1)) = true := decide_eq_true c24
                          clear c24
                          by_cases c25 : (wrap64 ((wrap64 (a0 - (wrap64 (x13_1 + (rd t161 x14_1))))) + t162)) > 0
                          · rw [if_pos c25] at H
                            have c25b0 : decide (0 < (wrap64 ((wrap64 (a0 - (wrap64 (x13_1 + (rd t161 x14_1))))) + t162))) = true := decide_eq_true c25
                            clear c25
                            by_cases c26 : (rd t161 x14_1) < a1
                            · rw [if_pos c26] at H
                              have c26b0 : decide ((rd t161 x14_1) < a1) = true := decide_eq_true c26
                              clear c26
                              obtain rfl := Option.some.inj H
                              have p169 : 0 ≤ (x14_1 : Int) := of_decide_eq_true (by first | (with_reducible assumption) | assumption)
                              have q169 : x14_1 < (t161.length : Int) := of_decide_eq_true (by first | (with_reducible assumption) | assumption)
                              obtain ⟨ad169, e169, hx169_0⟩ := Kd.at_int (Kd.R_reads' HO_10.out).2.2 x14_1 p169 q169
                              cases e169
                              replace p169 := eq_true p169
                              replace q169 := eq_true q169
                              have p170 : 0 ≤ (x14_1 : Int) := of_decide_eq_true (by first | (with_reducible assumption) | assumption)
                              have q170 : x14_1 < (t161.length : Int) := of_decide_eq_true (by first | (with_reducible assumption) | assumption)
                              obtain ⟨ad170, e170, hx170_0⟩ := Kd.at_int (Kd.R_reads' HO_10.out).2.2 x14_1 p170 q170
                              obtain rfl : ad169 = ad170 := (by injection e170)
                              replace p170 := eq_true p170
                              replace q170 := eq_true q170
                              have p171 : 0 ≤ (x14_1 : Int) := of_decide_eq_true (by first | (with_reducible assumption) | assumption)
                              have q171 : x14_1 < (t161.length : Int) := of_decide_eq_true (by first | (with_reducible assumption) | assumption)
                              obtain ⟨ad171, e171, hx171_0⟩ := Kd.at_int (Kd.R_reads' HO_10.out).2.2 x14_1 p171 q171
                              obtain rfl : ad169 = ad171 := (by injection e171)
                              replace p171 := eq_true p171
                              replace q171 := eq_true q171
                              go_wp2
                              repeat (go_quiet (fail); try go_wp2)
                              go_ret
                              exact ⟨by first | rfl | (simp [errW_none, errW_some] <;> rfl) | (simp only [← hji6]; first | rfl | (simp [errW_none, errW_some] <;> rfl)) | (simp [*, errW_none, errW_some] <;> rfl), by repeat (first | (with_reducible first | exact HB.out | apply below_alloc | apply pw_below_drewN | apply below_drew1) | exact HB.out)⟩
                            · rw [if_neg c26] at H
                              have c26b0 : decide ((rd t161 x14_1) < a1) = false := decide_eq_false c26
                              clear c26
                              by_cases c27 : (wrap64 ((wrap64 (a0 - (wrap64 (x13_1 + (rd t161 x14_1))))) + t162)) < a2
                              · rw [if_pos c27] at H
                                have c27b0 : decide ((wrap64 ((wrap64 (a0 - (wrap64 (x13_1 + (rd t161 x14_1))))) + t162)) < a2) = true := decide_eq_true c27
                                clear c27
                                obtain rfl := Option.some.inj H
                                have p169 : 0 ≤ (x14_1 : Int) := of_decide_eq_true (by first | (with_reducible assumption) | assumption)
                                have q169 : x14_1 < (t161.length : Int) := of_decide_eq_true (by first | (with_reducible assumption) | assumption)
                                obtain ⟨ad169, e169, hx169_0⟩ := Kd.at_int (Kd.R_reads' HO_10.out).2.2 x14_1 p169 q169
                                cases e169
                                replace p169 := eq_true p169
                                replace q169 := eq_true q169
                                have p170 : 0 ≤ (x14_1 : Int) := of_decide_eq_true (by first | (with_reducible assumption) | assumption)
                                have q170 : x14_1 < (t161.length : Int) := of_decide_eq_true (by first | (with_reducible assumption) | assumption)
                                obtain ⟨ad170, e170, hx170_0⟩ := Kd.at_int (Kd.R_reads' HO_10.out).2.2 x14_1 p170 q170
                                obtain rfl : ad169 = ad170 := (by injection e170)
                                replace p170 := eq_true p170
                                replace q170 := eq_true q170
                                have p171 : 0 ≤ (x14_1 : Int) := of_decide_eq_true (by first | (with_reducible assumption) | assumption)
                                have q171 : x14_1 < (t161.length : Int) := of_decide_eq_true (by first | (with_reducible assumption) | assumption)
                                obtain ⟨ad171, e171, hx171_0⟩ := Kd.at_int (Kd.R_reads' HO_10.out).2.2 x14_1 p171 q171
                                obtain rfl : ad169 = ad171 := (by injection e171)
                                replace p171 := eq_true p171
                                replace q171 := eq_true q171
                                go_wp2
                                repeat (go_quiet (fail); try go_wp2)
                                go_ret
                                exact ⟨by first | rfl | (simp [errW_none, errW_some] <;> rfl) | (simp only [← hji6]; first | rfl | (simp [errW_none, errW_some] <;> rfl)) | (simp [*, errW_none, errW_some] <;> rfl), by repeat (first | (with_reducible first | exact HB.out | apply below_alloc | apply pw_below_drewN | apply below_drew1) | exact HB.out)⟩
                              · rw [if_neg c27] at H
                                have c27b0 : decide ((wrap64 ((wrap64 (a0 - (wrap64 (x13_1 + (rd t161 x14_1))))) + t162)) < a2) = false := decide_eq_false c27
                                clear c27
                                have H' := Aside0.mk H
                                clear H
                                have p169 : 0 ≤ (x14_1 : Int) := of_decide_eq_true (by first | (with_reducible assumption) | assumption)
                                have q169 : x14_1 < (t161.length : Int) := of_decide_eq_true (by first | (with_reducible assumption) | assumption)
                                obtain ⟨ad169, e169, hx169_0⟩ := Kd.at_int (Kd.R_reads' HO_10.out).2.2 x14_1 p169 q169
                                cases e169
                                replace p169 := eq_true p169
                                replace q169 := eq_true q169
                                have p170 : 0 ≤ (x14_1 : Int) := of_decide_eq_true (by first | (with_reducible assumption) | assumption)
                                have q170 : x14_1 < (t161.length : Int) := of_decide_eq_true (by first | (with_reducible assumption) | assumption)
                                obtain ⟨ad170, e170, hx170_0⟩ := Kd.at_int (Kd.R_reads' HO_10.out).2.2 x14_1 p170 q170
                                obtain rfl : ad169 = ad170 := (by injection e170)
                                replace p170 := eq_true p170
                                replace q170 := eq_true q170
                                have p171 : 0 ≤ (x14_1 : Int) := of_decide_eq_true (by first | (with_reducible assumption) | assumption)
                                have q171 : x14_1 < (t161.length : Int) := of_decide_eq_true (by first | (with_reducible assumption) | assumption)
                                obtain ⟨ad171, e171, hx171_0⟩ := Kd.at_int (Kd.R_reads' HO_10.out).2.2 x14_1 p171 q171
                                obtain rfl : ad169 = ad171 := (by injection e171)
                                replace p171 := eq_true p171
                                replace q171 := eq_true q171
                                go_wp2
                                repeat (go_quiet (fail); try go_wp2)
                                go_roundg kj14
                                case measure => have := HK1.out; have := HJ14.out; omega
                                case rel => exact ⟨(wrap64 (x13_1 + (rd t161 x14_1))), (wrap64 (x14_1 + 1)), (by first | rfl | (simp; done) | (simp [*]; done)), (by first | rfl | (simp; done) | (simp [*]; done)), H', ⟨by have := HK1.out; have := HJ14.out; omega⟩, ⟨by (with_reducible repeat (first | apply Kd.R_alloc | apply Kd.R_drewN | apply Kd.R_drew)); exact HO_10.out⟩, ⟨by repeat (first | (with_reducible first | exact HB.out | apply below_alloc | apply pw_below_drewN | apply below_drew1) | exact HB.out)⟩⟩
                          · rw [if_neg c25] at H
                            have c25b0 : decide (0 < (wrap64 ((wrap64 (a0 - (wrap64 (x13_1 + (rd t161 x14_1))))) + t162))) = false := decide_eq_false c25
                            clear c25
                            have H' := Aside0.mk H
                            clear H
                            have p169 : 0 ≤ (x14_1 : Int) := of_decide_eq_true (by first | (with_reducible assumption) | assumption)
                            have q169 : x14_1 < (t161.length : Int) := of_decide_eq_true (by first | (with_reducible assumption) | assumption)
                            obtain ⟨ad169, e169, hx169_0⟩ := Kd.at_int (Kd.R_reads' HO_10.out).2.2 x14_1 p169 q169
                            cases e169
                            replace p169 := eq_true p169
                            replace q169 := eq_true q169
                            have p170 : 0 ≤ (x14_1 : Int) := of_decide_eq_true (by first | (with_reducible assumption) | assumption)
                            have q170 : x14_1 < (t161.length : Int) := of_decide_eq_true (by first | (with_reducible assumption) | assumption)
                            obtain ⟨ad170, e170, hx170_0⟩ := Kd.at_int (Kd.R_reads' HO_10.out).2.2 x14_1 p170 q170
                            obtain rfl : ad169 = ad170 := (by injection e170)
                            replace p170 := eq_true p170
                            replace q170 := eq_true q170
                            go_wp2
                            repeat (go_quiet (fail); try go_wp2)
                            go_roundg kj14
                            case measure => have := HK1.out; have := HJ14.out; omega
                            case rel => exact ⟨(wrap64 (x13_1 + (rd t161 x14_1))), (wrap64 (x14_1 + 1)), (by first | rfl | (simp; done) | (simp [*]; done)), (by first | rfl | (simp; done) | (simp [*]; done)), H', ⟨by have := HK1.out; have := HJ14.out; omega⟩, ⟨by (with_reducible repeat (first | apply Kd.R_alloc | apply Kd.R_drewN | apply Kd.R_drew)); exact HO_10.out⟩, ⟨by repeat (first | (with_reducible first | exact HB.out | apply below_alloc | apply pw_below_drewN | apply below_drew1) | exact HB.out)⟩⟩
                        · rw [if_neg c24] at H
                          have c24b0 : decide (0 < (rd t161 x14_1)) = false := decide_eq_false c24
                          clear c24
                          have H' := Aside0.mk H
                          clear H
                          have p169 : 0 ≤ (x14_1 : Int) := of_decide_eq_true (by first | (with_reducible assumption) | assumption)
                          have q169 : x14_1 < (t161.length : Int) := of_decide_eq_true (by first | (with_reducible assumption) | assumption)
                          obtain ⟨ad169, e169, hx169_0⟩ := Kd.at_int (Kd.R_reads' HO_10.out).2.2 x14_1 p169 q169
                          cases e169
                          replace p169 := eq_true p169
                          replace q169 := eq_true q169
                          have p170 : 0 ≤ (x14_1 : Int) := of_decide_eq_true (by first | (with_reducible assumption) | assumption)
                          have q170 : x14_1 < (t161.length : Int) := of_decide_eq_true (by first | (with_reducible assumption) | assumption)
                          obtain ⟨ad170, e170, hx170_0⟩ := Kd.at_int (Kd.R_reads' HO_10.out).2.2 x14_1 p170 q170
                          obtain rfl : ad169 = ad170 := (by injection e170)
                          replace p170 := eq_true p170
                          replace q170 := eq_true q170
                          go_wp2
                          repeat (go_quiet (fail); try go_wp2)
                          go_roundg kj14
                          case measure => have := HK1.out; have := HJ14.out; omega
                          case rel => exact ⟨(wrap64 (x13_1 + (rd t161 x14_1))), (wrap64 (x14_1 + 1)), (by first | rfl | (simp; done) | (simp [*]; done)), (by first | rfl | (simp; done) | (simp [*]; done)), H', ⟨by have := HK1.out; have := HJ14.out; omega⟩, ⟨by (with_reducible repeat (first | apply Kd.R_alloc | apply Kd.R_drewN | apply Kd.R_drew)); exact HO_10.out⟩, ⟨by repeat (first | (with_reducible first | exact HB.out | apply below_alloc | apply pw_below_drewN | apply below_drew1) | exact HB.out)⟩⟩
                      · rw [if_neg c23] at H
                        exact absurd H (by simp)
                    · rw [if_neg c22] at H
                      exact absurd H (by simp)
            · rw [if_neg c14] at H
              have c14b0 : decide (x14_1 < (t161.length : Int)) = false := decide_eq_false c14
              clear c14
              by_cases c28 : t156 = true
              · subst c28
                have H1 : (if x13_1 = a0 then (some (decide (t162 ≥ 0))) else (some false)) = some r := by rw [if_pos rfl] at H; exact H
                clear H
                have H := H1
                clear H1
                by_cases c29 : x13_1 = a0
                · rw [if_pos c29] at H
                  have c29b0 : (x13_1 == a0) = true := beq_iff_eq.mpr c29
                  have c29b1 : (x13_1 != a0) = false := bne_eq_false_iff_eq.mpr c29
                  clear c29
                  obtain rfl := Option.some.inj H
                  obtain ⟨Ao30, co30, eo30⟩ := Kd.R_slice HO_10.out
                  subst eo30
                  go_wp2
                  repeat (go_quiet (fail); try go_wp2)
                  go_ret
                  exact ⟨by first | rfl | (simp [errW_none, errW_some] <;> rfl) | (simp only [← hji6]; first | rfl | (simp [errW_none, errW_some] <;> rfl)) | (simp [*, errW_none, errW_some] <;> rfl), by repeat (first | (with_reducible first | exact HB.out | apply below_alloc | apply pw_below_drewN | apply below_drew1) | exact HB.out)⟩
                · rw [if_neg c29] at H
                  have c29b0 : (x13_1 == a0) = false := beq_eq_false_iff_ne.mpr c29
                  have c29b1 : (x13_1 != a0) = true := bne_iff_ne.mpr c29
                  obtain rfl := Option.some.inj H
                  obtain ⟨Ao31, co31, eo31⟩ := Kd.R_slice HO_10.out
                  subst eo31
                  go_wp2
                  repeat (go_quiet (fail); try go_wp2)
                  go_ret
                  exact ⟨by first | rfl | (simp [errW_none, errW_some] <;> rfl) | (simp only [← hji6]; first | rfl | (simp [errW_none, errW_some] <;> rfl)) | (simp [*, errW_none, errW_some] <;> rfl), by repeat (first | (with_reducible first | exact HB.out | apply below_alloc | apply pw_below_drewN | apply below_drew1) | exact HB.out)⟩
              · replace c28 := Bool.eq_false_iff.mpr c28
                subst c28
                have H1 : (some false) = some r := by rw [if_neg (show ¬ (false = true) by decide)] at H; exact H
                clear H
                have H := H1
                clear H1
                obtain rfl := Option.some.inj H
                obtain ⟨Ao32, co32, eo32⟩ := Kd.R_slice HO_10.out
                subst eo32
                go_wp2
                repeat (go_quiet (fail); try go_wp2)
                go_ret
                exact ⟨by first | rfl | (simp [errW_none, errW_some] <;> rfl) | (simp only [← hji6]; first | rfl | (simp [errW_none, errW_some] <;> rfl)) | (simp [*, errW_none, errW_some] <;> rfl), by repeat (first | (with_reducible first | exact HB.out | apply below_alloc | apply pw_below_drewN | apply below_drew1) | exact HB.out)⟩
      · rw [if_neg c10] at H
        have c10b0 : (t163 == 0) = false := beq_eq_false_iff_ne.mpr c10
        have c10b1 : (t163 != 0) = true := bne_iff_ne.mpr c10
        by_cases c33 : t156 = true
        · subst c33
          have H1 : (if (t161.length : Int) = 0 then (some (t162 == 0)) else (some false)) = some r := by rw [if_pos rfl] at H; exact H
          clear H
          have H := H1
          clear H1
          by_cases c34 : (t161.length : Int) = 0
          · rw [if_pos c34] at H
            have c34b0 : ((t161.length : Int) == 0) = true := beq_iff_eq.mpr c34
            have c34b1 : ((t161.length : Int) != 0) = false := bne_eq_false_iff_eq.mpr c34
            clear c34
            obtain rfl := Option.some.inj H
            go_enter Tryd.func4, Tryd.ntmps4
            go_wp2_with (first | (go_at_call 10; (with_reducible refine (gutterlaw09_shown.calls k  true _ A5.out (GOK.below HG.out (by repeat (first | (with_reducible first | exact HB.out | apply below_alloc | apply pw_below_drewN | apply below_drew1) | exact HB.out)))).mono ?_); rintro e w35 ⟨rfl, hb⟩; have n0_ := Aside0.mk (below_step (by repeat (first | (with_reducible first | exact HB.out | apply below_alloc | apply pw_below_drewN | apply below_drew1) | exact HB.out)) hb); clear HB; have HB := n0_; clear n0_; (try clear hb); (try clear hb2); (try clear hk); (try clear hi); have q36 : ((ji6) : Int) ≤ ((l3.length : Int) : Int) := of_decide_eq_true (by first | (with_reducible assumption) | assumption); obtain ⟨i036, hi036, _, hsz36, _⟩ := info_parts info3; have hroom36 : l3.length ≤ c3 := HC3.out; have hC36 : Kd.C (Kd.int .i64) _ A3 l3.length l3 := HR3.out; have hcut36 := cut_to (P := Tryd.prog) 22 3 .i64 Tryd.underlying22 hi036 A3 l3.length c3 (ji6) (of_decide_eq_true (by first | (with_reducible assumption) | assumption)) q36 hroom36; have hr36 := Kd.C_take (m := ((ji6) : Int).toNat) hC36 (by omega); have hy36 : y157.length = ((ji6) : Int).toNat := (by rw [Ny157.out, List.length_take]; omega); rw [← Ny157.out] at hr36; rw [← hy36] at hcut36; have HR160 := Aside0.mk hr36; have HC160 := Aside0.mk (show y157.length ≤ c3 from by omega); clear hr36 hC36 hroom36 hi036 hsz36; have KY36 := Aside0.mk hy36; clear hy36; replace q36 := eq_true q36) | (go_at_call 13; refine calls_of_args (args' := #[.int .i64 a0, .int .i64 a1, .int .i64 a2, .slice A3 y157.length c3]) (by (try simp only [List.map_toArray, List.map_cons, List.map_nil]); first | done | rfl | (simp only [List.length_drop, List.length_take]; rfl)) ?_; (with_reducible refine (para_Deal.calls a0 a1 a2 _ _ y157 t161 t162 t163 _ ?side1 ?side2 A9.out (GOK.below HG.out (by repeat (first | (with_reducible first | exact HB.out | apply below_alloc | apply pw_below_drewN | apply below_drew1) | exact HB.out)))).mono ?_); (case side1 => repeat (first | exact (Kd.C_below HR160.out HB.out) | (with_reducible refine Kd.C_alloc ?_ _) | (with_reducible refine Kd.C_drewN ?_ _) | (with_reducible refine Kd.C_drew ?_))); (case side2 => exact HC160.out); rintro e w37 ⟨v164, rfl, ho0, hb⟩; have n0_ := Aside0.mk (Kd.R_lower ho0 (below_size (by repeat (first | (with_reducible first | exact HB.out | apply below_alloc | apply pw_below_drewN | apply below_drew1) | exact HB.out)))); have n1_ := Aside0.mk (below_step (by repeat (first | (with_reducible first | exact HB.out | apply below_alloc | apply pw_below_drewN | apply below_drew1) | exact HB.out)) hb); clear HB; have HO165 := n0_; have HB := n1_; clear n0_ n1_; (try clear hb); (try clear hb2); (try clear hk); (try clear hi); (try clear ho0); obtain ⟨Ao38, co38, eo38⟩ := Kd.R_slice HO165.out; subst eo38))
            repeat (go_quiet (first | (go_at_call 10; (with_reducible refine (gutterlaw09_shown.calls k  true _ A5.out (GOK.below HG.out (by repeat (first | (with_reducible first | exact HB.out | apply below_alloc | apply pw_below_drewN | apply below_drew1) | exact HB.out)))).mono ?_); rintro e w35 ⟨rfl, hb⟩; have n0_ := Aside0.mk (below_step (by repeat (first | (with_reducible first | exact HB.out | apply below_alloc | apply pw_below_drewN | apply below_drew1) | exact HB.out)) hb); clear HB; have HB := n0_; clear n0_; (try clear hb); (try clear hb2); (try clear hk); (try clear hi); have q36 : ((ji6) : Int) ≤ ((l3.length : Int) : Int) := of_decide_eq_true (by first | (with_reducible assumption) | assumption); obtain ⟨i036, hi036, _, hsz36, _⟩ := info_parts info3; have hroom36 : l3.length ≤ c3 := HC3.out; have hC36 : Kd.C (Kd.int .i64) _ A3 l3.length l3 := HR3.out; have hcut36 := cut_to (P := Tryd.prog) 22 3 .i64 Tryd.underlying22 hi036 A3 l3.length c3 (ji6) (of_decide_eq_true (by first | (with_reducible assumption) | assumption)) q36 hroom36; have hr36 := Kd.C_take (m := ((ji6) : Int).toNat) hC36 (by omega); have hy36 : y157.length = ((ji6) : Int).toNat := (by rw [Ny157.out, List.length_take]; omega); rw [← Ny157.out] at hr36; rw [← hy36] at hcut36; have HR160 := Aside0.mk hr36; have HC160 := Aside0.mk (show y157.length ≤ c3 from by omega); clear hr36 hC36 hroom36 hi036 hsz36; have KY36 := Aside0.mk hy36; clear hy36; replace q36 := eq_true q36) | (go_at_call 13; refine calls_of_args (args' := #[.int .i64 a0, .int .i64 a1, .int .i64 a2, .slice A3 y157.length c3]) (by (try simp only [List.map_toArray, List.map_cons, List.map_nil]); first | done | rfl | (simp only [List.length_drop, List.length_take]; rfl)) ?_; (with_reducible refine (para_Deal.calls a0 a1 a2 _ _ y157 t161 t162 t163 _ ?side1 ?side2 A9.out (GOK.below HG.out (by repeat (first | (with_reducible first | exact HB.out | apply below_alloc | apply pw_below_drewN | apply below_drew1) | exact HB.out)))).mono ?_); (case side1 => repeat (first | exact (Kd.C_below HR160.out HB.out) | (with_reducible refine Kd.C_alloc ?_ _) | (with_reducible refine Kd.C_drewN ?_ _) | (with_reducible refine Kd.C_drew ?_))); (case side2 => exact HC160.out); rintro e w37 ⟨v164, rfl, ho0, hb⟩; have n0_ := Aside0.mk (Kd.R_lower ho0 (below_size (by repeat (first | (with_reducible first | exact HB.out | apply below_alloc | apply pw_below_drewN | apply below_drew1) | exact HB.out)))); have n1_ := Aside0.mk (below_step (by repeat (first | (with_reducible first | exact HB.out | apply below_alloc | apply pw_below_drewN | apply below_drew1) | exact HB.out)) hb); clear HB; have HO165 := n0_; have HB := n1_; clear n0_ n1_; (try clear hb); (try clear hb2); (try clear hk); (try clear hi); (try clear ho0); obtain ⟨Ao38, co38, eo38⟩ := Kd.R_slice HO165.out; subst eo38)); try go_wp2_with (first | (go_at_call 10; (with_reducible refine (gutterlaw09_shown.calls k  true _ A5.out (GOK.below HG.out (by repeat (first | (with_reducible first | exact HB.out | apply below_alloc | apply pw_below_drewN | apply below_drew1) | exact HB.out)))).mono ?_); rintro e w35 ⟨rfl, hb⟩; have n0_ := Aside0.mk (below_step (by repeat (first | (with_reducible first | exact HB.out | apply below_alloc | apply pw_below_drewN | apply below_drew1) | exact HB.out)) hb); clear HB; have HB := n0_; clear n0_; (try clear hb); (try clear hb2); (try clear hk); (try clear hi); have q36 : ((ji6) : Int) ≤ ((l3.length : Int) : Int) := of_decide_eq_true (by first | (with_reducible assumption) | assumption); obtain ⟨i036, hi036, _, hsz36, _⟩ := info_parts info3; have hroom36 : l3.length ≤ c3 := HC3.out; have hC36 : Kd.C (Kd.int .i64) _ A3 l3.length l3 := HR3.out; have hcut36 := cut_to (P := Tryd.prog) 22 3 .i64 Tryd.underlying22 hi036 A3 l3.length c3 (ji6) (of_decide_eq_true (by first | (with_reducible assumption) | assumption)) q36 hroom36; have hr36 := Kd.C_take (m := ((ji6) : Int).toNat) hC36 (by omega); have hy36 : y157.length = ((ji6) : Int).toNat := (by rw [Ny157.out, List.length_take]; omega); rw [← Ny157.out] at hr36; rw [← hy36] at hcut36; have HR160 := Aside0.mk hr36; have HC160 := Aside0.mk (show y157.length ≤ c3 from by omega); clear hr36 hC36 hroom36 hi036 hsz36; have KY36 := Aside0.mk hy36; clear hy36; replace q36 := eq_true q36) | (go_at_call 13; refine calls_of_args (args' := #[.int .i64 a0, .int .i64 a1, .int .i64 a2, .slice A3 y157.length c3]) (by (try simp only [List.map_toArray, List.map_cons, List.map_nil]); first | done | rfl | (simp only [List.length_drop, List.length_take]; rfl)) ?_; (with_reducible refine (para_Deal.calls a0 a1 a2 _ _ y157 t161 t162 t163 _ ?side1 ?side2 A9.out (GOK.below HG.out (by repeat (first | (with_reducible first | exact HB.out | apply below_alloc | apply pw_below_drewN | apply below_drew1) | exact HB.out)))).mono ?_); (case side1 => repeat (first | exact (Kd.C_below HR160.out HB.out) | (with_reducible refine Kd.C_alloc ?_ _) | (with_reducible refine Kd.C_drewN ?_ _) | (with_reducible refine Kd.C_drew ?_))); (case side2 => exact HC160.out); rintro e w37 ⟨v164, rfl, ho0, hb⟩; have n0_ := Aside0.mk (Kd.R_lower ho0 (below_size (by repeat (first | (with_reducible first | exact HB.out | apply below_alloc | apply pw_below_drewN | apply below_drew1) | exact HB.out)))); have n1_ := Aside0.mk (below_step (by repeat (first | (with_reducible first | exact HB.out | apply below_alloc | apply pw_below_drewN | apply below_drew1) | exact HB.out)) hb); clear HB; have HO165 := n0_; have HB := n1_; clear n0_ n1_; (try clear hb); (try clear hb2); (try clear hk); (try clear hi); (try clear ho0); obtain ⟨Ao38, co38, eo38⟩ := Kd.R_slice HO165.out; subst eo38)))
            go_ret
            exact ⟨by first | rfl | (simp [errW_none, errW_some] <;> rfl) | (simp only [← hji6]; first | rfl | (simp [errW_none, errW_some] <;> rfl)) | (simp [*, errW_none, errW_some] <;> rfl), by repeat (first | (with_reducible first | exact HB.out | apply below_alloc | apply pw_below_drewN | apply below_drew1) | exact HB.out)⟩
          · rw [if_neg c34] at H
            have c34b0 : ((t161.length : Int) == 0) = false := beq_eq_false_iff_ne.mpr c34
            have c34b1 : ((t161.length : Int) != 0) = true := bne_iff_ne.mpr c34
            have c34b2 : ¬ (t161 = []) := fun h_ => c34 (by rw [h_]; rfl)
            obtain rfl := Option.some.inj H
            go_enter Tryd.func4, Tryd.ntmps4
            go_wp2_with (first | (go_at_call 10; (with_reducible refine (gutterlaw09_shown.calls k  true _ A5.out (GOK.below HG.out (by repeat (first | (with_reducible first | exact HB.out | apply below_alloc | apply pw_below_drewN | apply below_drew1) | exact HB.out)))).mono ?_); rintro e w39 ⟨rfl, hb⟩; have n0_ := Aside0.mk (below_step (by repeat (first | (with_reducible first | exact HB.out | apply below_alloc | apply pw_below_drewN | apply below_drew1) | exact HB.out)) hb); clear HB; have HB := n0_; clear n0_; (try clear hb); (try clear hb2); (try clear hk); (try clear hi); have q40 : ((ji6) : Int) ≤ ((l3.length : Int) : Int) := of_decide_eq_true (by first | (with_reducible assumption) | assumption); obtain ⟨i040, hi040, _, hsz40, _⟩ := info_parts info3; have hroom40 : l3.length ≤ c3 := HC3.out; have hC40 : Kd.C (Kd.int .i64) _ A3 l3.length l3 := HR3.out; have hcut40 := cut_to (P := Tryd.prog) 22 3 .i64 Tryd.underlying22 hi040 A3 l3.length c3 (ji6) (of_decide_eq_true (by first | (with_reducible assumption) | assumption)) q40 hroom40; have hr40 := Kd.C_take (m := ((ji6) : Int).toNat) hC40 (by omega); have hy40 : y157.length = ((ji6) : Int).toNat := (by rw [Ny157.out, List.length_take]; omega); rw [← Ny157.out] at hr40; rw [← hy40] at hcut40; have HR160 := Aside0.mk hr40; have HC160 := Aside0.mk (show y157.length ≤ c3 from by omega); clear hr40 hC40 hroom40 hi040 hsz40; have KY40 := Aside0.mk hy40; clear hy40; replace q40 := eq_true q40) | (go_at_call 13; refine calls_of_args (args' := #[.int .i64 a0, .int .i64 a1, .int .i64 a2, .slice A3 y157.length c3]) (by (try simp only [List.map_toArray, List.map_cons, List.map_nil]); first | done | rfl | (simp only [List.length_drop, List.length_take]; rfl)) ?_; (with_reducible refine (para_Deal.calls a0 a1 a2 _ _ y157 t161 t162 t163 _ ?side1 ?side2 A9.out (GOK.below HG.out (by repeat (first | (with_reducible first | exact HB.out | apply below_alloc | apply pw_below_drewN | apply below_drew1) | exact HB.out)))).mono ?_); (case side1 => repeat (first | exact (Kd.C_below HR160.out HB.out) | (with_reducible refine Kd.C_alloc ?_ _) | (with_reducible refine Kd.C_drewN ?_ _) | (with_reducible refine Kd.C_drew ?_))); (case side2 => exact HC160.out); rintro e w41 ⟨v164, rfl, ho0, hb⟩; have n0_ := Aside0.mk (Kd.R_lower ho0 (below_size (by repeat (first | (with_reducible first | exact HB.out | apply below_alloc | apply pw_below_drewN | apply below_drew1) | exact HB.out)))); have n1_ := Aside0.mk (below_step (by repeat (first | (with_reducible first | exact HB.out | apply below_alloc | apply pw_below_drewN | apply below_drew1) | exact HB.out)) hb); clear HB; have HO165 := n0_; have HB := n1_; clear n0_ n1_; (try clear hb); (try clear hb2); (try clear hk); (try clear hi); (try clear ho0); obtain ⟨Ao42, co42, eo42⟩ := Kd.R_slice HO165.out; subst eo42))
            repeat (go_quiet (first | (go_at_call 10; (with_reducible refine (gutterlaw09_shown.calls k  true _ A5.out (GOK.below HG.out (by repeat (first | (with_reducible first | exact HB.out | apply below_alloc | apply pw_below_drewN | apply below_drew1) | exact HB.out)))).mono ?_); rintro e w39 ⟨rfl, hb⟩; have n0_ := Aside0.mk (below_step (by repeat (first | (with_reducible first | exact HB.out | apply below_alloc | apply pw_below_drewN | apply below_drew1) | exact HB.out)) hb); clear HB; have HB := n0_; clear n0_; (try clear hb); (try clear hb2); (try clear hk); (try clear hi); have q40 : ((ji6) : Int) ≤ ((l3.length : Int) : Int) := of_decide_eq_true (by first | (with_reducible assumption) | assumption); obtain ⟨i040, hi040, _, hsz40, _⟩ := info_parts info3; have hroom40 : l3.length ≤ c3 := HC3.out; have hC40 : Kd.C (Kd.int .i64) _ A3 l3.length l3 := HR3.out; have hcut40 := cut_to (P := Tryd.prog) 22 3 .i64 Tryd.underlying22 hi040 A3 l3.length c3 (ji6) (of_decide_eq_true (by first | (with_reducible assumption) | assumption)) q40 hroom40; have hr40 := Kd.C_take (m := ((ji6) : Int).toNat) hC40 (by omega); have hy40 : y157.length = ((ji6) : Int).toNat := (by rw [Ny157.out, List.length_take]; omega); rw [← Ny157.out] at hr40; rw [← hy40] at hcut40; have HR160 := Aside0.mk hr40; have HC160 := Aside0.mk (show y157.length ≤ c3 from by omega); clear hr40 hC40 hroom40 hi040 hsz40; have KY40 := Aside0.mk hy40; clear hy40; replace q40 := eq_true q40) | (go_at_call 13; refine calls_of_args (args' := #[.int .i64 a0, .int .i64 a1, .int .i64 a2, .slice A3 y157.length c3]) (by (try simp only [List.map_toArray, List.map_cons, List.map_nil]); first | done | rfl | (simp only [List.length_drop, List.length_take]; rfl)) ?_; (with_reducible refine (para_Deal.calls a0 a1 a2 _ _ y157 t161 t162 t163 _ ?side1 ?side2 A9.out (GOK.below HG.out (by repeat (first | (with_reducible first | exact HB.out | apply below_alloc | apply pw_below_drewN | apply below_drew1) | exact HB.out)))).mono ?_); (case side1 => repeat (first | exact (Kd.C_below HR160.out HB.out) | (with_reducible refine Kd.C_alloc ?_ _) | (with_reducible refine Kd.C_drewN ?_ _) | (with_reducible refine Kd.C_drew ?_))); (case side2 => exact HC160.out); rintro e w41 ⟨v164, rfl, ho0, hb⟩; have n0_ := Aside0.mk (Kd.R_lower ho0 (below_size (by repeat (first | (with_reducible first | exact HB.out | apply below_alloc | apply pw_below_drewN | apply below_drew1) | exact HB.out)))); have n1_ := Aside0.mk (below_step (by repeat (first | (with_reducible first | exact HB.out | apply below_alloc | apply pw_below_drewN | apply below_drew1) | exact HB.out)) hb); clear HB; have HO165 := n0_; have HB := n1_; clear n0_ n1_; (try clear hb); (try clear hb2); (try clear hk); (try clear hi); (try clear ho0); obtain ⟨Ao42, co42, eo42⟩ := Kd.R_slice HO165.out; subst eo42)); try go_wp2_with (first | (go_at_call 10; (with_reducible refine (gutterlaw09_shown.calls k  true _ A5.out (GOK.below HG.out (by repeat (first | (with_reducible first | exact HB.out | apply below_alloc | apply pw_below_drewN | apply below_drew1) | exact HB.out)))).mono ?_); rintro e w39 ⟨rfl, hb⟩; have n0_ := Aside0.mk (below_step (by repeat (first | (with_reducible first | exact HB.out | apply below_alloc | apply pw_below_drewN | apply below_drew1) | exact HB.out)) hb); clear HB; have HB := n0_; clear n0_; (try clear hb); (try clear hb2); (try clear hk); (try clear hi); have q40 : ((ji6) : Int) ≤ ((l3.length : Int) : Int) := of_decide_eq_true (by first | (with_reducible assumption) | assumption); obtain ⟨i040, hi040, _, hsz40, _⟩ := info_parts info3; have hroom40 : l3.length ≤ c3 := HC3.out; have hC40 : Kd.C (Kd.int .i64) _ A3 l3.length l3 := HR3.out; have hcut40 := cut_to (P := Tryd.prog) 22 3 .i64 Tryd.underlying22 hi040 A3 l3.length c3 (ji6) (of_decide_eq_true (by first | (with_reducible assumption) | assumption)) q40 hroom40; have hr40 := Kd.C_take (m := ((ji6) : Int).toNat) hC40 (by omega); have hy40 : y157.length = ((ji6) : Int).toNat := (by rw [Ny157.out, List.length_take]; omega); rw [← Ny157.out] at hr40; rw [← hy40] at hcut40; have HR160 := Aside0.mk hr40; have HC160 := Aside0.mk (show y157.length ≤ c3 from by omega); clear hr40 hC40 hroom40 hi040 hsz40; have KY40 := Aside0.mk hy40; clear hy40; replace q40 := eq_true q40) | (go_at_call 13; refine calls_of_args (args' := #[.int .i64 a0, .int .i64 a1, .int .i64 a2, .slice A3 y157.length c3]) (by (try simp only [List.map_toArray, List.map_cons, List.map_nil]); first | done | rfl | (simp only [List.length_drop, List.length_take]; rfl)) ?_; (with_reducible refine (para_Deal.calls a0 a1 a2 _ _ y157 t161 t162 t163 _ ?side1 ?side2 A9.out (GOK.below HG.out (by repeat (first | (with_reducible first | exact HB.out | apply below_alloc | apply pw_below_drewN | apply below_drew1) | exact HB.out)))).mono ?_); (case side1 => repeat (first | exact (Kd.C_below HR160.out HB.out) | (with_reducible refine Kd.C_alloc ?_ _) | (with_reducible refine Kd.C_drewN ?_ _) | (with_reducible refine Kd.C_drew ?_))); (case side2 => exact HC160.out); rintro e w41 ⟨v164, rfl, ho0, hb⟩; have n0_ := Aside0.mk (Kd.R_lower ho0 (below_size (by repeat (first | (with_reducible first | exact HB.out | apply below_alloc | apply pw_below_drewN | apply below_drew1) | exact HB.out)))); have n1_ := Aside0.mk (below_step (by repeat (first | (with_reducible first | exact HB.out | apply below_alloc | apply pw_below_drewN | apply below_drew1) | exact HB.out)) hb); clear HB; have HO165 := n0_; have HB := n1_; clear n0_ n1_; (try clear hb); (try clear hb2); (try clear hk); (try clear hi); (try clear ho0); obtain ⟨Ao42, co42, eo42⟩ := Kd.R_slice HO165.out; subst eo42)))
            go_ret
            exact ⟨by first | rfl | (simp [errW_none, errW_some] <;> rfl) | (simp only [← hji6]; first | rfl | (simp [errW_none, errW_some] <;> rfl)) | (simp [*, errW_none, errW_some] <;> rfl), by repeat (first | (with_reducible first | exact HB.out | apply below_alloc | apply pw_below_drewN | apply below_drew1) | exact HB.out)⟩
        · replace c33 := Bool.eq_false_iff.mpr c33
          subst c33
          have H1 : (some false) = some r := by rw [if_neg (show ¬ (false = true) by decide)] at H; exact H
          clear H
          have H := H1
          clear H1
          obtain rfl := Option.some.inj H
          go_enter Tryd.func4, Tryd.ntmps4
          go_wp2_with (first | (go_at_call 10; (with_reducible refine (gutterlaw09_shown.calls k  false _ A5.out (GOK.below HG.out (by repeat (first | (with_reducible first | exact HB.out | apply below_alloc | apply pw_below_drewN | apply below_drew1) | exact HB.out)))).mono ?_); rintro e w43 ⟨rfl, hb⟩; have n0_ := Aside0.mk (below_step (by repeat (first | (with_reducible first | exact HB.out | apply below_alloc | apply pw_below_drewN | apply below_drew1) | exact HB.out)) hb); clear HB; have HB := n0_; clear n0_; (try clear hb); (try clear hb2); (try clear hk); (try clear hi); have q44 : ((ji6) : Int) ≤ ((l3.length : Int) : Int) := of_decide_eq_true (by first | (with_reducible assumption) | assumption); obtain ⟨i044, hi044, _, hsz44, _⟩ := info_parts info3; have hroom44 : l3.length ≤ c3 := HC3.out; have hC44 : Kd.C (Kd.int .i64) _ A3 l3.length l3 := HR3.out; have hcut44 := cut_to (P := Tryd.prog) 22 3 .i64 Tryd.underlying22 hi044 A3 l3.length c3 (ji6) (of_decide_eq_true (by first | (with_reducible assumption) | assumption)) q44 hroom44; have hr44 := Kd.C_take (m := ((ji6) : Int).toNat) hC44 (by omega); have hy44 : y157.length = ((ji6) : Int).toNat := (by rw [Ny157.out, List.length_take]; omega); rw [← Ny157.out] at hr44; rw [← hy44] at hcut44; have HR160 := Aside0.mk hr44; have HC160 := Aside0.mk (show y157.length ≤ c3 from by omega); clear hr44 hC44 hroom44 hi044 hsz44; have KY44 := Aside0.mk hy44; clear hy44; replace q44 := eq_true q44) | (go_at_call 13; refine calls_of_args (args' := #[.int .i64 a0, .int .i64 a1, .int .i64 a2, .slice A3 y157.length c3]) (by (try simp only [List.map_toArray, List.map_cons, List.map_nil]); first | done | rfl | (simp only [List.length_drop, List.length_take]; rfl)) ?_; (with_reducible refine (para_Deal.calls a0 a1 a2 _ _ y157 t161 t162 t163 _ ?side1 ?side2 A9.out (GOK.below HG.out (by repeat (first | (with_reducible first | exact HB.out | apply below_alloc | apply pw_below_drewN | apply below_drew1) | exact HB.out)))).mono ?_); (case side1 => repeat (first | exact (Kd.C_below HR160.out HB.out) | (with_reducible refine Kd.C_alloc ?_ _) | (with_reducible refine Kd.C_drewN ?_ _) | (with_reducible refine Kd.C_drew ?_))); (case side2 => exact HC160.out); rintro e w45 ⟨v164, rfl, ho0, hb⟩; have n0_ := Aside0.mk (Kd.R_lower ho0 (below_size (by repeat (first | (with_reducible first | exact HB.out | apply below_alloc | apply pw_below_drewN | apply below_drew1) | exact HB.out)))); have n1_ := Aside0.mk (below_step (by repeat (first | (with_reducible first | exact HB.out | apply below_alloc | apply pw_below_drewN | apply below_drew1) | exact HB.out)) hb); clear HB; have HO165 := n0_; have HB := n1_; clear n0_ n1_; (try clear hb); (try clear hb2); (try clear hk); (try clear hi); (try clear ho0)))
          repeat (go_quiet (first | (go_at_call 10; (with_reducible refine (gutterlaw09_shown.calls k  false _ A5.out (GOK.below HG.out (by repeat (first | (with_reducible first | exact HB.out | apply below_alloc | apply pw_below_drewN | apply below_drew1) | exact HB.out)))).mono ?_); rintro e w43 ⟨rfl, hb⟩; have n0_ := Aside0.mk (below_step (by repeat (first | (with_reducible first | exact HB.out | apply below_alloc | apply pw_below_drewN | apply below_drew1) | exact HB.out)) hb); clear HB; have HB := n0_; clear n0_; (try clear hb); (try clear hb2); (try clear hk); (try clear hi); have q44 : ((ji6) : Int) ≤ ((l3.length : Int) : Int) := of_decide_eq_true (by first | (with_reducible assumption) | assumption); obtain ⟨i044, hi044, _, hsz44, _⟩ := info_parts info3; have hroom44 : l3.length ≤ c3 := HC3.out; have hC44 : Kd.C (Kd.int .i64) _ A3 l3.length l3 := HR3.out; have hcut44 := cut_to (P := Tryd.prog) 22 3 .i64 Tryd.underlying22 hi044 A3 l3.length c3 (ji6) (of_decide_eq_true (by first | (with_reducible assumption) | assumption)) q44 hroom44; have hr44 := Kd.C_take (m := ((ji6) : Int).toNat) hC44 (by omega); have hy44 : y157.length = ((ji6) : Int).toNat := (by rw [Ny157.out, List.length_take]; omega); rw [← Ny157.out] at hr44; rw [← hy44] at hcut44; have HR160 := Aside0.mk hr44; have HC160 := Aside0.mk (show y157.length ≤ c3 from by omega); clear hr44 hC44 hroom44 hi044 hsz44; have KY44 := Aside0.mk hy44; clear hy44; replace q44 := eq_true q44) | (go_at_call 13; refine calls_of_args (args' := #[.int .i64 a0, .int .i64 a1, .int .i64 a2, .slice A3 y157.length c3]) (by (try simp only [List.map_toArray, List.map_cons, List.map_nil]); first | done | rfl | (simp only [List.length_drop, List.length_take]; rfl)) ?_; (with_reducible refine (para_Deal.calls a0 a1 a2 _ _ y157 t161 t162 t163 _ ?side1 ?side2 A9.out (GOK.below HG.out (by repeat (first | (with_reducible first | exact HB.out | apply below_alloc | apply pw_below_drewN | apply below_drew1) | exact HB.out)))).mono ?_); (case side1 => repeat (first | exact (Kd.C_below HR160.out HB.out) | (with_reducible refine Kd.C_alloc ?_ _) | (with_reducible refine Kd.C_drewN ?_ _) | (with_reducible refine Kd.C_drew ?_))); (case side2 => exact HC160.out); rintro e w45 ⟨v164, rfl, ho0, hb⟩; have n0_ := Aside0.mk (Kd.R_lower ho0 (below_size (by repeat (first | (with_reducible first | exact HB.out | apply below_alloc | apply pw_below_drewN | apply below_drew1) | exact HB.out)))); have n1_ := Aside0.mk (below_step (by repeat (first | (with_reducible first | exact HB.out | apply below_alloc | apply pw_below_drewN | apply below_drew1) | exact HB.out)) hb); clear HB; have HO165 := n0_; have HB := n1_; clear n0_ n1_; (try clear hb); (try clear hb2); (try clear hk); (try clear hi); (try clear ho0))); try go_wp2_with (first | (go_at_call 10; (with_reducible refine (gutterlaw09_shown.calls k  false _ A5.out (GOK.below HG.out (by repeat (first | (with_reducible first | exact HB.out | apply below_alloc | apply pw_below_drewN | apply below_drew1) | exact HB.out)))).mono ?_); rintro e w43 ⟨rfl, hb⟩; have n0_ := Aside0.mk (below_step (by repeat (first | (with_reducible first | exact HB.out | apply below_alloc | apply pw_below_drewN | apply below_drew1) | exact HB.out)) hb); clear HB; have HB := n0_; clear n0_; (try clear hb); (try clear hb2); (try clear hk); (try clear hi); have q44 : ((ji6) : Int) ≤ ((l3.length : Int) : Int) := of_decide_eq_true (by first | (with_reducible assumption) | assumption); obtain ⟨i044, hi044, _, hsz44, _⟩ := info_parts info3; have hroom44 : l3.length ≤ c3 := HC3.out; have hC44 : Kd.C (Kd.int .i64) _ A3 l3.length l3 := HR3.out; have hcut44 := cut_to (P := Tryd.prog) 22 3 .i64 Tryd.underlying22 hi044 A3 l3.length c3 (ji6) (of_decide_eq_true (by first | (with_reducible assumption) | assumption)) q44 hroom44; have hr44 := Kd.C_take (m := ((ji6) : Int).toNat) hC44 (by omega); have hy44 : y157.length = ((ji6) : Int).toNat := (by rw [Ny157.out, List.length_take]; omega); rw [← Ny157.out] at hr44; rw [← hy44] at hcut44; have HR160 := Aside0.mk hr44; have HC160 := Aside0.mk (show y157.length ≤ c3 from by omega); clear hr44 hC44 hroom44 hi044 hsz44; have KY44 := Aside0.mk hy44; clear hy44; replace q44 := eq_true q44) | (go_at_call 13; refine calls_of_args (args' := #[.int .i64 a0, .int .i64 a1, .int .i64 a2, .slice A3 y157.length c3]) (by (try simp only [List.map_toArray, List.map_cons, List.map_nil]); first | done | rfl | (simp only [List.length_drop, List.length_take]; rfl)) ?_; (with_reducible refine (para_Deal.calls a0 a1 a2 _ _ y157 t161 t162 t163 _ ?side1 ?side2 A9.out (GOK.below HG.out (by repeat (first | (with_reducible first | exact HB.out | apply below_alloc | apply pw_below_drewN | apply below_drew1) | exact HB.out)))).mono ?_); (case side1 => repeat (first | exact (Kd.C_below HR160.out HB.out) | (with_reducible refine Kd.C_alloc ?_ _) | (with_reducible refine Kd.C_drewN ?_ _) | (with_reducible refine Kd.C_drew ?_))); (case side2 => exact HC160.out); rintro e w45 ⟨v164, rfl, ho0, hb⟩; have n0_ := Aside0.mk (Kd.R_lower ho0 (below_size (by repeat (first | (with_reducible first | exact HB.out | apply below_alloc | apply pw_below_drewN | apply below_drew1) | exact HB.out)))); have n1_ := Aside0.mk (below_step (by repeat (first | (with_reducible first | exact HB.out | apply below_alloc | apply pw_below_drewN | apply below_drew1) | exact HB.out)) hb); clear HB; have HO165 := n0_; have HB := n1_; clear n0_ n1_; (try clear hb); (try clear hb2); (try clear hk); (try clear hi); (try clear ho0))))
          go_ret
          exact ⟨by first | rfl | (simp [errW_none, errW_some] <;> rfl) | (simp only [← hji6]; first | rfl | (simp [errW_none, errW_some] <;> rfl)) | (simp [*, errW_none, errW_some] <;> rfl), by repeat (first | (with_reducible first | exact HB.out | apply below_alloc | apply pw_below_drewN | apply below_drew1) | exact HB.out)⟩
    · rw [if_neg c8] at H
      exact absurd H (by simp)
  · rw [if_neg c7] at H
    exact absurd H (by simp)

/-- THE ONE PURE STATEMENT of gutterlaw09_ParaSums: yours. -/
def gutterlaw09_ParaSums.Pure : Prop := ∀ (a0 : Int) (a1 : Int) (a2 : Int) (l3 : List Int), (Lit.int .i64 a0).wf = true → (Lit.int .i64 a1).wf = true → (Lit.int .i64 a2).wf = true → l3.length ≤ maxLen → l3.length * 8 ≤ 140737488351232 → (∀ x ∈ l3, (Lit.int .i64 x).wf = true) → ∃ k, gutterlaw09_ParaSums.f k a0 a1 a2 l3 = some true
theorem gutterlaw09_ParaSums.walk (P : gutterlaw09_ParaSums.Pure) (a0 : Int) (a1 : Int) (a2 : Int) (a3 : Option Addr) (len3 cap3 : Nat) (z3 : List Int) (w : World) (w0 : (Lit.int .i64 a0).wf = true) (w1 : (Lit.int .i64 a1).wf = true) (w2 : (Lit.int .i64 a2).wf = true) (w3 : (a3 = none ∧ len3 = 0 ∧ cap3 = 0 ∧ z3 = []) ∨ ∃ x, a3 = some x ∧ len3 ≤ cap3 ∧ cap3 ≤ maxLen ∧ z3.length = cap3 ∧ (∀ i, i < z3.length → w.cell? (x.add i) = some (.int .i64 (z3.getD i 0))) ∧ ∀ n ∈ z3, (Lit.int .i64 n).wf = true) (y3 : len3 * 8 ≤ 140737488351232) (hG : GOK w) :
    Calls Tryd.prog 4 #[.int .i64 a0, .int .i64 a1, .int .i64 a2, .slice a3 len3 cap3] w fun e w' => e = .returned (.bool true) ∧ Below w.heap.size w w' := by
  obtain ⟨l3, rfl, hr3, hm3, hw3, hc3⟩ := ReadsInt.ofRowC w3
  obtain ⟨k, h⟩ := P a0 a1 a2 l3 w0 w1 w2 hm3 y3 hw3
  refine (gutterlaw09_ParaSums.calls k a0 a1 a2 _ _ l3 true w (Kd.C_of_reads (d := (0 : Int)) (h1 := fun _ => rfl) hr3) hc3 h hG).mono ?_
  rintro e w' ⟨rfl, hd⟩
  exact ⟨rfl, hd⟩

end Go.Proofs.YtfamkadpncbmlaaDoor.G
