/- Functions of the law and of what it calls as plain Lean functions, and that the calls come to their answers: written by fprint.py. -/
import Derived.Test.YtjafcgemgghbiaaDoorF21
import Derived.Test.YtjafcgemgghbiaaDoorG0
import Derived.Test.YtjafcgemgghbiaaDoorG2
namespace Go.Proofs.YtjafcgemgghbiaaDoor.G
open Go.RowKit Go.Proofs.YtjafcgemgghbiaaDoorW.PrintWords Go.Proofs.YtjafcgemgghbiaaDoorW.PrintLast Go.Proofs.YtjafcgemgghbiaaDoorW.PrintMore
attribute [local go_sem] max2_int min2_int max_two min_two max_three min_three max_four min_four   -- for this text's walks alone
set_option linter.unusedVariables false
set_option linter.unusedSimpArgs false

/-! ### gutterlaw05_TreeKids: function 7 -/
mutual
def gutterlaw05_TreeKids.j0 : Nat → List (S32) → Int → Int → Bool → List Int → Int → Bool → Option (Bool)
  | 0, _, _, _, _, _, _, _ => none
  | k + 1, x0, x1, x2, x7, x8, x9, x32 => if x32 = true then (if x7 = true then (if x9 = 0 then (some true) else (some ((x8.length : Int) == 0))) else (some false)) else (gutterlaw05_TreeKids.l0 k x0 x1 x2 x7 x8 false 0)
def gutterlaw05_TreeKids.l0 : Nat → List (S32) → Int → Int → Bool → List Int → Bool → Int → Option (Bool)
  | 0, _, _, _, _, _, _, _ => none
  | k + 1, x0, x1, x2, x7, x8, x10, x11 => if x11 < (x8.length : Int) then (if x10 = true then (if x11 > 0 then (if 0 ≤ x11 then (if 0 ≤ (wrap64 (x11 - 1)) then (if (wrap64 (x11 - 1)) < (x8.length : Int) then (if (rd x8 x11) ≤ (rd x8 (wrap64 (x11 - 1))) then (some false) else (gutterlaw05_TreeKids.l0 k x0 x1 x2 x7 x8 true (wrap64 (x11 + 1)))) else (none)) else (none)) else (none)) else (gutterlaw05_TreeKids.l0 k x0 x1 x2 x7 x8 true (wrap64 (x11 + 1)))) else (if 0 ≤ x11 then (if x11 > 0 then (if 0 ≤ (wrap64 (x11 - 1)) then (if (wrap64 (x11 - 1)) < (x8.length : Int) then (if (rd x8 x11) ≤ (rd x8 (wrap64 (x11 - 1))) then (some false) else (gutterlaw05_TreeKids.l0 k x0 x1 x2 x7 x8 ((rd x8 x11) == x2) (wrap64 (x11 + 1)))) else (none)) else (none)) else (gutterlaw05_TreeKids.l0 k x0 x1 x2 x7 x8 ((rd x8 x11) == x2) (wrap64 (x11 + 1)))) else (none))) else (if x7 = true then (if 0 ≤ x2 then (if x2 < (x0.length : Int) then (some (x10 == (((rd_T32 x0 x2).f0) == x1))) else (none)) else (none)) else (some false))
end
def gutterlaw05_TreeKids.f (k : Nat) (l0 : List (S32)) (a1 : Int) (a2 : Int) : Option (Bool) := (gutterlaw05_shown.f k).bind fun t347 => ((gutterlaw05_Few.f l0).bind fun t348 => ((tree_Kids.f t348 a1).bind fun bt351 => (if bt351.2 = 0 then (if a2 < 0 then (gutterlaw05_TreeKids.j0 k t348 a1 a2 t347 bt351.1 bt351.2 true) else (gutterlaw05_TreeKids.j0 k t348 a1 a2 t347 bt351.1 bt351.2 (decide (a2 ≥ (t348.length : Int))))) else (gutterlaw05_TreeKids.j0 k t348 a1 a2 t347 bt351.1 bt351.2 true))))
theorem gutterlaw05_TreeKids.mono_l : ∀ k, (∀ y0 y1 y2 y3 y4 y5 y6, LeO (gutterlaw05_TreeKids.j0 k y0 y1 y2 y3 y4 y5 y6) (gutterlaw05_TreeKids.j0 (k + 1) y0 y1 y2 y3 y4 y5 y6)) ∧ (∀ y0 y1 y2 y3 y4 y5 y6, LeO (gutterlaw05_TreeKids.l0 k y0 y1 y2 y3 y4 y5 y6) (gutterlaw05_TreeKids.l0 (k + 1) y0 y1 y2 y3 y4 y5 y6))
  | 0 => ⟨fun _ _ _ _ _ _ _ r h => by simp [gutterlaw05_TreeKids.j0] at h, fun _ _ _ _ _ _ _ r h => by simp [gutterlaw05_TreeKids.l0] at h⟩
  | k + 1 => by
    obtain ⟨ih0, ih1⟩ := gutterlaw05_TreeKids.mono_l k
    refine ⟨?_, ?_⟩
    · intro y0 y1 y2 y3 y4 y5 y6
      unfold gutterlaw05_TreeKids.j0
      repeat' first
      | (with_reducible exact ih0 _ _ _ _ _ _ _)
      | (with_reducible exact ih1 _ _ _ _ _ _ _)
      | (with_reducible exact gutterlaw05_shown.mono _)
      | (with_reducible exact LeO.refl _)
      | (with_reducible exact LeO.none _)
      | (with_reducible refine LeO.ite ?_ ?_)
      | (with_reducible refine LeO.bind ?_ (fun _ => ?_))
      | exact ih0 _ _ _ _ _ _ _
      | exact ih1 _ _ _ _ _ _ _
      | exact gutterlaw05_shown.mono _
      | exact LeO.none _
      | refine LeO.ite ?_ ?_
      | refine LeO.bind ?_ (fun _ => ?_)
    · intro y0 y1 y2 y3 y4 y5 y6
      unfold gutterlaw05_TreeKids.l0
      repeat' first
      | (with_reducible exact ih0 _ _ _ _ _ _ _)
      | (with_reducible exact ih1 _ _ _ _ _ _ _)
      | (with_reducible exact gutterlaw05_shown.mono _)
      | (with_reducible exact LeO.refl _)
      | (with_reducible exact LeO.none _)
      | (with_reducible refine LeO.ite ?_ ?_)
      | (with_reducible refine LeO.bind ?_ (fun _ => ?_))
      | exact ih0 _ _ _ _ _ _ _
      | exact ih1 _ _ _ _ _ _ _
      | exact gutterlaw05_shown.mono _
      | exact LeO.none _
      | refine LeO.ite ?_ ?_
      | refine LeO.bind ?_ (fun _ => ?_)
theorem gutterlaw05_TreeKids.mono : ∀ a0 a1 a2 k, LeO (gutterlaw05_TreeKids.f k a0 a1 a2) (gutterlaw05_TreeKids.f (k + 1) a0 a1 a2) := by
  intro a0 a1 a2 k
  obtain ⟨ih0, ih1⟩ := gutterlaw05_TreeKids.mono_l k
  unfold gutterlaw05_TreeKids.f
  repeat' first
      | (with_reducible exact ih0 _ _ _ _ _ _ _)
      | (with_reducible exact ih1 _ _ _ _ _ _ _)
      | (with_reducible exact gutterlaw05_shown.mono _)
      | (with_reducible exact LeO.refl _)
      | (with_reducible exact LeO.none _)
      | (with_reducible refine LeO.ite ?_ ?_)
      | (with_reducible refine LeO.bind ?_ (fun _ => ?_))
      | exact ih0 _ _ _ _ _ _ _
      | exact ih1 _ _ _ _ _ _ _
      | exact gutterlaw05_shown.mono _
      | exact LeO.none _
      | refine LeO.ite ?_ ?_
      | refine LeO.bind ?_ (fun _ => ?_)
set_option maxHeartbeats 8000000 in
set_option maxRecDepth 100000 in
theorem gutterlaw05_TreeKids.calls (k : Nat) (A0 : Option Addr) (c0 : Nat) (l0 : List (S32)) (a1 : Int) (a2 : Int) (r : Bool) (w : World) (hr0 : Kd.C k32 w A0 l0.length l0) (hc0 : l0.length ≤ c0) (h : gutterlaw05_TreeKids.f k l0 a1 a2 = some r) (hG : GOK w) :
    Calls Tryd.prog 7 #[.slice A0 l0.length c0, .int .i64 a1, .int .i64 a2] w fun e w' => e = .returned (.bool r) ∧ Below w.heap.size w w' := by
  have HG := Aside0.mk hG
  clear hG
  have HR0 := Aside0.mk hr0
  have HC0 := Aside0.mk hc0
  clear hr0 hc0
  have HB := Aside0.mk (Below.refl w.heap.size w)
  have H : ((gutterlaw05_shown.f k).bind fun t347 => ((gutterlaw05_Few.f l0).bind fun t348 => ((tree_Kids.f t348 a1).bind fun bt351 => (if bt351.2 = 0 then (if a2 < 0 then (gutterlaw05_TreeKids.j0 k t348 a1 a2 t347 bt351.1 bt351.2 true) else (gutterlaw05_TreeKids.j0 k t348 a1 a2 t347 bt351.1 bt351.2 (decide (a2 ≥ (t348.length : Int))))) else (gutterlaw05_TreeKids.j0 k t348 a1 a2 t347 bt351.1 bt351.2 true))))) = some r := h
  clear h
  replace H := Option.bind_eq_some_iff.mp H
  obtain ⟨t347, A40, H⟩ := H
  replace H : ((gutterlaw05_Few.f l0).bind fun t348 => ((tree_Kids.f t348 a1).bind fun bt351 => (if bt351.2 = 0 then (if a2 < 0 then (gutterlaw05_TreeKids.j0 k t348 a1 a2 t347 bt351.1 bt351.2 true) else (gutterlaw05_TreeKids.j0 k t348 a1 a2 t347 bt351.1 bt351.2 (decide (a2 ≥ (t348.length : Int))))) else (gutterlaw05_TreeKids.j0 k t348 a1 a2 t347 bt351.1 bt351.2 true)))) = some r := H
  have A4 := Aside0.mk A40
  clear A40
  replace H := Option.bind_eq_some_iff.mp H
  obtain ⟨t348, A50, H⟩ := H
  replace H : ((tree_Kids.f t348 a1).bind fun bt351 => (if bt351.2 = 0 then (if a2 < 0 then (gutterlaw05_TreeKids.j0 k t348 a1 a2 t347 bt351.1 bt351.2 true) else (gutterlaw05_TreeKids.j0 k t348 a1 a2 t347 bt351.1 bt351.2 (decide (a2 ≥ (t348.length : Int))))) else (gutterlaw05_TreeKids.j0 k t348 a1 a2 t347 bt351.1 bt351.2 true))) = some r := H
  have A5 := Aside0.mk A50
  clear A50
  replace H := Option.bind_eq_some_iff.mp H
  obtain ⟨⟨t351, t352⟩, A60, H⟩ := H
  replace H : (if t352 = 0 then (if a2 < 0 then (gutterlaw05_TreeKids.j0 k t348 a1 a2 t347 t351 t352 true) else (gutterlaw05_TreeKids.j0 k t348 a1 a2 t347 t351 t352 (decide (a2 ≥ (t348.length : Int))))) else (gutterlaw05_TreeKids.j0 k t348 a1 a2 t347 t351 t352 true)) = some r := H
  have A6 := Aside0.mk A60
  clear A60
  have HC7 := Aside0.mk H
  clear H
  go_enter Tryd.func7, Tryd.ntmps7
  go_upto_region 4 with (first | (go_at_call 10; (with_reducible refine (gutterlaw05_shown.calls k  t347 _ A4.out (GOK.below HG.out (by repeat (first | (with_reducible first | exact HB.out | apply below_alloc | apply pw_below_drewN | apply below_drew1) | exact HB.out)))).mono ?_); rintro e w8 ⟨rfl, hb⟩; have n0_ := Aside0.mk (below_step (by repeat (first | (with_reducible first | exact HB.out | apply below_alloc | apply pw_below_drewN | apply below_drew1) | exact HB.out)) hb); clear HB; have HB := n0_; clear n0_; (try clear hb); (try clear hb2); (try clear hk); (try clear hi)) | (go_at_call 11; refine calls_of_args (args' := #[.slice A0 l0.length c0]) (by (try simp only [List.map_toArray, List.map_cons, List.map_nil]); first | done | rfl | (simp only [List.length_drop, List.length_take]; rfl)) ?_; (with_reducible refine (gutterlaw05_Few.calls _ _ l0 t348 _ ?side1 ?side2 A5.out).mono ?_); (case side1 => repeat (first | exact (Kd.C_below HR0.out HB.out) | (with_reducible refine Kd.C_alloc ?_ _) | (with_reducible refine Kd.C_drewN ?_ _) | (with_reducible refine Kd.C_drew ?_))); (case side2 => exact HC0.out); rintro e w9 ⟨v349, rfl, ho0, hb⟩; have n0_ := Aside0.mk (Kd.R_lower ho0 (below_size (by repeat (first | (with_reducible first | exact HB.out | apply below_alloc | apply pw_below_drewN | apply below_drew1) | exact HB.out)))); have n1_ := Aside0.mk (below_step (by repeat (first | (with_reducible first | exact HB.out | apply below_alloc | apply pw_below_drewN | apply below_drew1) | exact HB.out)) hb); clear HB; have HO350 := n0_; have HB := n1_; clear n0_ n1_; (try clear hb); (try clear hb2); (try clear hk); (try clear hi); (try clear ho0); obtain ⟨Ao10, co10, eo10⟩ := Kd.R_slice HO350.out; subst eo10) | (go_at_call 14; refine calls_of_args (args' := #[.slice Ao10 t348.length co10, .int .i64 a1]) (by (try simp only [List.map_toArray, List.map_cons, List.map_nil]); first | done | rfl | (simp only [List.length_drop, List.length_take]; rfl)) ?_; (with_reducible refine (tree_Kids.calls _ _ t348 a1 t351 t352 _ ?side1 ?side2 A6.out (GOK.below HG.out (by repeat (first | (with_reducible first | exact HB.out | apply below_alloc | apply pw_below_drewN | apply below_drew1) | exact HB.out)))).mono ?_); (case side1 => repeat (first | exact (Kd.R_reads' HO350.out).2.2 | (with_reducible refine Kd.C_alloc ?_ _) | (with_reducible refine Kd.C_drewN ?_ _) | (with_reducible refine Kd.C_drew ?_))); (case side2 => exact (Kd.R_reads' HO350.out).2.1); rintro e w11 ⟨v353, rfl, ho0, hb⟩; have n0_ := Aside0.mk (Kd.R_below (by (with_reducible repeat (first | apply Kd.R_alloc | apply Kd.R_drewN | apply Kd.R_drew)); exact HO350.out) hb); have n1_ := Aside0.mk (Kd.R_lower ho0 (below_size (by repeat (first | (with_reducible first | exact HB.out | apply below_alloc | apply pw_below_drewN | apply below_drew1) | exact HB.out)))); have n2_ := Aside0.mk (below_step (by repeat (first | (with_reducible first | exact HB.out | apply below_alloc | apply pw_below_drewN | apply below_drew1) | exact HB.out)) hb); clear HO350; clear HB; have HO350 := n0_; have HO354 := n1_; have HB := n2_; clear n0_ n1_ n2_; (try clear hb); (try clear hb2); (try clear hk); (try clear hi); (try clear ho0)))
  repeat (go_quiet (first | (go_at_call 10; (with_reducible refine (gutterlaw05_shown.calls k  t347 _ A4.out (GOK.below HG.out (by repeat (first | (with_reducible first | exact HB.out | apply below_alloc | apply pw_below_drewN | apply below_drew1) | exact HB.out)))).mono ?_); rintro e w8 ⟨rfl, hb⟩; have n0_ := Aside0.mk (below_step (by repeat (first | (with_reducible first | exact HB.out | apply below_alloc | apply pw_below_drewN | apply below_drew1) | exact HB.out)) hb); clear HB; have HB := n0_; clear n0_; (try clear hb); (try clear hb2); (try clear hk); (try clear hi)) | (go_at_call 11; refine calls_of_args (args' := #[.slice A0 l0.length c0]) (by (try simp only [List.map_toArray, List.map_cons, List.map_nil]); first | done | rfl | (simp only [List.length_drop, List.length_take]; rfl)) ?_; (with_reducible refine (gutterlaw05_Few.calls _ _ l0 t348 _ ?side1 ?side2 A5.out).mono ?_); (case side1 => repeat (first | exact (Kd.C_below HR0.out HB.out) | (with_reducible refine Kd.C_alloc ?_ _) | (with_reducible refine Kd.C_drewN ?_ _) | (with_reducible refine Kd.C_drew ?_))); (case side2 => exact HC0.out); rintro e w9 ⟨v349, rfl, ho0, hb⟩; have n0_ := Aside0.mk (Kd.R_lower ho0 (below_size (by repeat (first | (with_reducible first | exact HB.out | apply below_alloc | apply pw_below_drewN | apply below_drew1) | exact HB.out)))); have n1_ := Aside0.mk (below_step (by repeat (first | (with_reducible first | exact HB.out | apply below_alloc | apply pw_below_drewN | apply below_drew1) | exact HB.out)) hb); clear HB; have HO350 := n0_; have HB := n1_; clear n0_ n1_; (try clear hb); (try clear hb2); (try clear hk); (try clear hi); (try clear ho0); obtain ⟨Ao10, co10, eo10⟩ := Kd.R_slice HO350.out; subst eo10) | (go_at_call 14; refine calls_of_args (args' := #[.slice Ao10 t348.length co10, .int .i64 a1]) (by (try simp only [List.map_toArray, List.map_cons, List.map_nil]); first | done | rfl | (simp only [List.length_drop, List.length_take]; rfl)) ?_; (with_reducible refine (tree_Kids.calls _ _ t348 a1 t351 t352 _ ?side1 ?side2 A6.out (GOK.below HG.out (by repeat (first | (with_reducible first | exact HB.out | apply below_alloc | apply pw_below_drewN | apply below_drew1) | exact HB.out)))).mono ?_); (case side1 => repeat (first | exact (Kd.R_reads' HO350.out).2.2 | (with_reducible refine Kd.C_alloc ?_ _) | (with_reducible refine Kd.C_drewN ?_ _) | (with_reducible refine Kd.C_drew ?_))); (case side2 => exact (Kd.R_reads' HO350.out).2.1); rintro e w11 ⟨v353, rfl, ho0, hb⟩; have n0_ := Aside0.mk (Kd.R_below (by (with_reducible repeat (first | apply Kd.R_alloc | apply Kd.R_drewN | apply Kd.R_drew)); exact HO350.out) hb); have n1_ := Aside0.mk (Kd.R_lower ho0 (below_size (by repeat (first | (with_reducible first | exact HB.out | apply below_alloc | apply pw_below_drewN | apply below_drew1) | exact HB.out)))); have n2_ := Aside0.mk (below_step (by repeat (first | (with_reducible first | exact HB.out | apply below_alloc | apply pw_below_drewN | apply below_drew1) | exact HB.out)) hb); clear HO350; clear HB; have HO350 := n0_; have HO354 := n1_; have HB := n2_; clear n0_ n1_ n2_; (try clear hb); (try clear hb2); (try clear hk); (try clear hi); (try clear ho0))); go_upto_region 4 with (first | (go_at_call 10; (with_reducible refine (gutterlaw05_shown.calls k  t347 _ A4.out (GOK.below HG.out (by repeat (first | (with_reducible first | exact HB.out | apply below_alloc | apply pw_below_drewN | apply below_drew1) | exact HB.out)))).mono ?_); rintro e w8 ⟨rfl, hb⟩; have n0_ := Aside0.mk (below_step (by repeat (first | (with_reducible first | exact HB.out | apply below_alloc | apply pw_below_drewN | apply below_drew1) | exact HB.out)) hb); clear HB; have HB := n0_; clear n0_; (try clear hb); (try clear hb2); (try clear hk); (try clear hi)) | (go_at_call 11; refine calls_of_args (args' := #[.slice A0 l0.length c0]) (by (try simp only [List.map_toArray, List.map_cons, List.map_nil]); first | done | rfl | (simp only [List.length_drop, List.length_take]; rfl)) ?_; (with_reducible refine (gutterlaw05_Few.calls _ _ l0 t348 _ ?side1 ?side2 A5.out).mono ?_); (case side1 => repeat (first | exact (Kd.C_below HR0.out HB.out) | (with_reducible refine Kd.C_alloc ?_ _) | (with_reducible refine Kd.C_drewN ?_ _) | (with_reducible refine Kd.C_drew ?_))); (case side2 => exact HC0.out); rintro e w9 ⟨v349, rfl, ho0, hb⟩; have n0_ := Aside0.mk (Kd.R_lower ho0 (below_size (by repeat (first | (with_reducible first | exact HB.out | apply below_alloc | apply pw_below_drewN | apply below_drew1) | exact HB.out)))); have n1_ := Aside0.mk (below_step (by repeat (first | (with_reducible first | exact HB.out | apply below_alloc | apply pw_below_drewN | apply below_drew1) | exact HB.out)) hb); clear HB; have HO350 := n0_; have HB := n1_; clear n0_ n1_; (try clear hb); (try clear hb2); (try clear hk); (try clear hi); (try clear ho0); obtain ⟨Ao10, co10, eo10⟩ := Kd.R_slice HO350.out; subst eo10) | (go_at_call 14; refine calls_of_args (args' := #[.slice Ao10 t348.length co10, .int .i64 a1]) (by (try simp only [List.map_toArray, List.map_cons, List.map_nil]); first | done | rfl | (simp only [List.length_drop, List.length_take]; rfl)) ?_; (with_reducible refine (tree_Kids.calls _ _ t348 a1 t351 t352 _ ?side1 ?side2 A6.out (GOK.below HG.out (by repeat (first | (with_reducible first | exact HB.out | apply below_alloc | apply pw_below_drewN | apply below_drew1) | exact HB.out)))).mono ?_); (case side1 => repeat (first | exact (Kd.R_reads' HO350.out).2.2 | (with_reducible refine Kd.C_alloc ?_ _) | (with_reducible refine Kd.C_drewN ?_ _) | (with_reducible refine Kd.C_drew ?_))); (case side2 => exact (Kd.R_reads' HO350.out).2.1); rintro e w11 ⟨v353, rfl, ho0, hb⟩; have n0_ := Aside0.mk (Kd.R_below (by (with_reducible repeat (first | apply Kd.R_alloc | apply Kd.R_drewN | apply Kd.R_drew)); exact HO350.out) hb); have n1_ := Aside0.mk (Kd.R_lower ho0 (below_size (by repeat (first | (with_reducible first | exact HB.out | apply below_alloc | apply pw_below_drewN | apply below_drew1) | exact HB.out)))); have n2_ := Aside0.mk (below_step (by repeat (first | (with_reducible first | exact HB.out | apply below_alloc | apply pw_below_drewN | apply below_drew1) | exact HB.out)) hb); clear HO350; clear HB; have HO350 := n0_; have HO354 := n1_; have HB := n2_; clear n0_ n1_ n2_; (try clear hb); (try clear hb2); (try clear hk); (try clear hi); (try clear ho0))))
  (try simp only [Act.put, List.setIfInBounds_toArray, List.set_cons_zero, List.set_cons_succ])
  go_cut [32] (fun v32 wc => ∃ (kq : Nat) (x32_6 : Bool), v32 = .bool x32_6 ∧ Aside0 (gutterlaw05_TreeKids.j0 kq t348 a1 a2 t347 t351 t352 x32_6 = some r) ∧ Aside0 (kq ≤ k) ∧ Aside0 (Kd.R k32 32 wc w.heap.size (fun _ => True) (.slice Ao10 t348.length co10) t348) ∧ Aside0 (Kd.R (Kd.int .i64) 3 wc w.heap.size (fun _ => True) v353 t351) ∧ Aside0 (Below w.heap.size w wc))
  case first =>
    have H := HC7.out
    clear HC7
    by_cases c12 : t352 = 0
    · rw [if_pos c12] at H
      have c12b0 : (t352 == 0) = true := beq_iff_eq.mpr c12
      have c12b1 : (t352 != 0) = false := bne_eq_false_iff_eq.mpr c12
      clear c12
      (first | rw [c12b0] | (simp only [i64_w, i32_w]; rw [c12b0]) | skip)
      by_cases c13 : a2 < 0
      · rw [if_pos c13] at H
        have c13b0 : decide (a2 < 0) = true := decide_eq_true c13
        clear c13
        have H' := Aside0.mk H
        clear H
        go_wp2
        repeat (go_quiet (fail); try go_wp2)
        go_meet
        case rel => exact ⟨_, (true), (by first | rfl | (simp; done) | (simp [*]; done)), H', ⟨by first | omega | exact Nat.le_refl _⟩, ⟨by (with_reducible repeat (first | apply Kd.R_alloc | apply Kd.R_drewN | apply Kd.R_drew)); exact HO350.out⟩, ⟨by (with_reducible repeat (first | apply Kd.R_alloc | apply Kd.R_drewN | apply Kd.R_drew)); exact HO354.out⟩, ⟨by repeat (first | (with_reducible first | exact HB.out | apply below_alloc | apply pw_below_drewN | apply below_drew1) | exact HB.out)⟩⟩
      · rw [if_neg c13] at H
        have c13b0 : decide (a2 < 0) = false := decide_eq_false c13
        clear c13
        have H' := Aside0.mk H
        clear H
        go_wp2
        repeat (go_quiet (fail); try go_wp2)
        go_meet
        case rel => exact ⟨_, (decide (a2 ≥ (t348.length : Int))), (by first | rfl | (simp; done) | (simp [*]; done)), H', ⟨by first | omega | exact Nat.le_refl _⟩, ⟨by (with_reducible repeat (first | apply Kd.R_alloc | apply Kd.R_drewN | apply Kd.R_drew)); exact HO350.out⟩, ⟨by (with_reducible repeat (first | apply Kd.R_alloc | apply Kd.R_drewN | apply Kd.R_drew)); exact HO354.out⟩, ⟨by repeat (first | (with_reducible first | exact HB.out | apply below_alloc | apply pw_below_drewN | apply below_drew1) | exact HB.out)⟩⟩
    · rw [if_neg c12] at H
      have c12b0 : (t352 == 0) = false := beq_eq_false_iff_ne.mpr c12
      have c12b1 : (t352 != 0) = true := bne_iff_ne.mpr c12
      (first | rw [c12b0] | (simp only [i64_w, i32_w]; rw [c12b0]) | skip)
      have H' := Aside0.mk H
      clear H
      go_wp2
      repeat (go_quiet (fail); try go_wp2)
      go_meet
      case rel => exact ⟨_, (true), (by first | rfl | (simp; done) | (simp [*]; done)), H', ⟨by first | omega | exact Nat.le_refl _⟩, ⟨by (with_reducible repeat (first | apply Kd.R_alloc | apply Kd.R_drewN | apply Kd.R_drew)); exact HO350.out⟩, ⟨by (with_reducible repeat (first | apply Kd.R_alloc | apply Kd.R_drewN | apply Kd.R_drew)); exact HO354.out⟩, ⟨by repeat (first | (with_reducible first | exact HB.out | apply below_alloc | apply pw_below_drewN | apply below_drew1) | exact HB.out)⟩⟩
  case rest =>
    clear HC7
    try clear c1
    try clear p2
    try clear c7
    try clear c12
    try clear c12b0
    try clear c12b1
    try clear c13
    try clear c13b0
    obtain ⟨kq, x32_6, rfl, HA, HJ6, HO_0, HO_8, HB⟩ := hcut
    cases kq with
    | zero => exact absurd HA.out (by simp [gutterlaw05_TreeKids.j0])
    | succ kj6 =>
      have H := HA.out
      clear HA
      simp only [gutterlaw05_TreeKids.j0] at H
      by_cases c14 : x32_6 = true
      · subst c14
        have H1 : (if t347 = true then (if t352 = 0 then (some true) else (some ((t351.length : Int) == 0))) else (some false)) = some r := by rw [if_pos rfl] at H; exact H
        clear H
        have H := H1
        clear H1
        by_cases c15 : t347 = true
        · subst c15
          have H1 : (if t352 = 0 then (some true) else (some ((t351.length : Int) == 0))) = some r := by rw [if_pos rfl] at H; exact H
          clear H
          have H := H1
          clear H1
          by_cases c16 : t352 = 0
          · rw [if_pos c16] at H
            have c16b0 : (t352 == 0) = true := beq_iff_eq.mpr c16
            have c16b1 : (t352 != 0) = false := bne_eq_false_iff_eq.mpr c16
            clear c16
            obtain rfl := Option.some.inj H
            go_wp2
            repeat (go_quiet (fail); try go_wp2)
            go_ret
            exact ⟨by first | rfl | (simp [errW_none, errW_some] <;> rfl) | (simp [*, errW_none, errW_some] <;> rfl), by repeat (first | (with_reducible first | exact HB.out | apply below_alloc | apply pw_below_drewN | apply below_drew1) | exact HB.out)⟩
          · rw [if_neg c16] at H
            have c16b0 : (t352 == 0) = false := beq_eq_false_iff_ne.mpr c16
            have c16b1 : (t352 != 0) = true := bne_iff_ne.mpr c16
            obtain rfl := Option.some.inj H
            obtain ⟨Ao17, co17, eo17⟩ := Kd.R_slice HO_8.out
            subst eo17
            go_wp2
            repeat (go_quiet (fail); try go_wp2)
            go_ret
            exact ⟨by first | rfl | (simp [errW_none, errW_some] <;> rfl) | (simp [*, errW_none, errW_some] <;> rfl), by repeat (first | (with_reducible first | exact HB.out | apply below_alloc | apply pw_below_drewN | apply below_drew1) | exact HB.out)⟩
        · replace c15 := Bool.eq_false_iff.mpr c15
          subst c15
          have H1 : (some false) = some r := by rw [if_neg (show ¬ (false = true) by decide)] at H; exact H
          clear H
          have H := H1
          clear H1
          obtain rfl := Option.some.inj H
          go_wp2
          repeat (go_quiet (fail); try go_wp2)
          go_ret
          exact ⟨by first | rfl | (simp [errW_none, errW_some] <;> rfl) | (simp [*, errW_none, errW_some] <;> rfl), by repeat (first | (with_reducible first | exact HB.out | apply below_alloc | apply pw_below_drewN | apply below_drew1) | exact HB.out)⟩
      · replace c14 := Bool.eq_false_iff.mpr c14
        subst c14
        have H1 : (gutterlaw05_TreeKids.l0 kj6 t348 a1 a2 t347 t351 false 0) = some r := by rw [if_neg (show ¬ (false = true) by decide)] at H; exact H
        clear H
        have H := H1
        clear H1
        have H' := Aside0.mk H
        clear H
        go_wp2
        repeat (go_quiet (fail); try go_wp2)
        go_loopg [10, 11] kj6 (fun kq v10 v11 w' => ∃ (x10_2 : Bool) (x11_2 : Int), v10 = .bool x10_2 ∧ v11 = .int .i64 x11_2 ∧ Aside0 (gutterlaw05_TreeKids.l0 kq t348 a1 a2 t347 t351 x10_2 x11_2 = some r) ∧ Aside0 (kq ≤ kj6) ∧ Aside0 (Kd.R k32 32 w' w.heap.size (fun _ => True) (.slice Ao10 t348.length co10) t348) ∧ Aside0 (Kd.R (Kd.int .i64) 3 w' w.heap.size (fun _ => True) v353 t351) ∧ Aside0 (Below w.heap.size w w'))
        case atStart => exact ⟨(false), (0), (by first | rfl | (simp; done) | (simp [*]; done)), (by first | rfl | (simp; done) | (simp [*]; done)), H', ⟨Nat.le_refl _⟩, ⟨by (with_reducible repeat (first | apply Kd.R_alloc | apply Kd.R_drewN | apply Kd.R_drew)); exact HO_0.out⟩, ⟨by (with_reducible repeat (first | apply Kd.R_alloc | apply Kd.R_drewN | apply Kd.R_drew)); exact HO_8.out⟩, ⟨by repeat (first | (with_reducible first | exact HB.out | apply below_alloc | apply pw_below_drewN | apply below_drew1) | exact HB.out)⟩⟩
        case round =>
          clear H'
          try clear c1
          try clear p2
          try clear c7
          try clear c12
          try clear c12b0
          try clear c12b1
          try clear c13
          try clear c13b0
          try clear c14
          try clear c15
          try clear c16
          try clear c16b0
          try clear c16b1
          try clear p2
          obtain ⟨x10_2, x11_2, rfl, rfl, HA, HK2, HO_0, HO_8, HB⟩ := hrel
          cases gk with
          | zero => exact absurd HA.out (by simp [gutterlaw05_TreeKids.l0])
          | succ k2 =>
            have H := HA.out
            clear HA
            simp only [gutterlaw05_TreeKids.l0] at H
            by_cases c18 : x11_2 < (t351.length : Int)
            · rw [if_pos c18] at H
              have c18b0 : decide (x11_2 < (t351.length : Int)) = true := decide_eq_true c18
              clear c18
              by_cases c19 : x10_2 = true
              · subst c19
                have H1 : (if x11_2 > 0 then (if 0 ≤ x11_2 then (if 0 ≤ (wrap64 (x11_2 - 1)) then (if (wrap64 (x11_2 - 1)) < (t351.length : Int) then (if (rd t351 x11_2) ≤ (rd t351 (wrap64 (x11_2 - 1))) then (some false) else (gutterlaw05_TreeKids.l0 k2 t348 a1 a2 t347 t351 true (wrap64 (x11_2 + 1)))) else (none)) else (none)) else (none)) else (gutterlaw05_TreeKids.l0 k2 t348 a1 a2 t347 t351 true (wrap64 (x11_2 + 1)))) = some r := by rw [if_pos rfl] at H; exact H
                clear H
                have H := H1
                clear H1
                by_cases c20 : x11_2 > 0
                · rw [if_pos c20] at H
                  have c20b0 : decide (0 < x11_2) = true := decide_eq_true c20
                  clear c20
                  by_cases c21 : 0 ≤ x11_2
                  · rw [if_pos c21] at H
                    have c21b0 : decide (0 ≤ x11_2) = true := decide_eq_true c21
                    clear c21
                    obtain ⟨ji22, hji22⟩ : ∃ j_ : Int, (wrap64 (x11_2 - 1)) = j_ := ⟨_, rfl⟩
                    replace H : (if 0 ≤ (ji22) then (if (ji22) < (t351.length : Int) then (if (rd t351 x11_2) ≤ (rd t351 (ji22)) then (some false) else (gutterlaw05_TreeKids.l0 k2 t348 a1 a2 t347 t351 true (wrap64 (x11_2 + 1)))) else (none)) else (none)) = some r := by first | (rw [hji22] at H; exact H) | (simp only [hji22] at H ⊢; exact H)
                    have hji22w : (IntKind.i64.wrap (x11_2 - 1)) = ji22 := (i64_w _).trans hji22
                    by_cases c23 : 0 ≤ (ji22)
                    · rw [if_pos c23] at H
                      have c23b0 : decide (0 ≤ (ji22)) = true := decide_eq_true c23
                      clear c23
                      by_cases c24 : (ji22) < (t351.length : Int)
                      · rw [if_pos c24] at H
                        have c24b0 : decide ((ji22) < (t351.length : Int)) = true := decide_eq_true c24
                        clear c24
                        by_cases c25 : (rd t351 x11_2) ≤ (rd t351 (ji22))
                        · rw [if_pos c25] at H
                          have c25b0 : decide ((rd t351 x11_2) ≤ (rd t351 (ji22))) = true := decide_eq_true c25
                          clear c25
                          obtain rfl := Option.some.inj H
                          obtain ⟨Ao26, co26, eo26⟩ := Kd.R_slice HO_8.out
                          subst eo26
                          have p355 : 0 ≤ (x11_2 : Int) := of_decide_eq_true (by first | (with_reducible assumption) | assumption)
                          have q355 : x11_2 < (t351.length : Int) := of_decide_eq_true (by first | (with_reducible assumption) | assumption)
                          obtain ⟨ad355, e355, hx355_0⟩ := Kd.at_int (Kd.R_reads' HO_8.out).2.2 x11_2 p355 q355
                          cases e355
                          replace p355 := eq_true p355
                          replace q355 := eq_true q355
                          have p356 : 0 ≤ ((ji22) : Int) := of_decide_eq_true (by first | (with_reducible assumption) | assumption)
                          have q356 : (ji22) < (t351.length : Int) := of_decide_eq_true (by first | (with_reducible assumption) | assumption)
                          obtain ⟨ad356, e356, hx356_0⟩ := Kd.at_int (Kd.R_reads' HO_8.out).2.2 (ji22) p356 q356
                          obtain rfl : ad355 = ad356 := (by injection e356)
                          replace p356 := eq_true p356
                          replace q356 := eq_true q356
                          go_wp2
                          repeat (go_quiet (fail); try go_wp2)
                          go_ret
                          exact ⟨by first | rfl | (simp [errW_none, errW_some] <;> rfl) | (simp only [← hji22]; first | rfl | (simp [errW_none, errW_some] <;> rfl)) | (simp [*, errW_none, errW_some] <;> rfl), by repeat (first | (with_reducible first | exact HB.out | apply below_alloc | apply pw_below_drewN | apply below_drew1) | exact HB.out)⟩
                        · rw [if_neg c25] at H
                          have c25b0 : decide ((rd t351 x11_2) ≤ (rd t351 (ji22))) = false := decide_eq_false c25
                          clear c25
                          have H' := Aside0.mk H
                          clear H
                          obtain ⟨Ao27, co27, eo27⟩ := Kd.R_slice HO_8.out
                          subst eo27
                          have p355 : 0 ≤ (x11_2 : Int) := of_decide_eq_true (by first | (with_reducible assumption) | assumption)
                          have q355 : x11_2 < (t351.length : Int) := of_decide_eq_true (by first | (with_reducible assumption) | assumption)
                          obtain ⟨ad355, e355, hx355_0⟩ := Kd.at_int (Kd.R_reads' HO_8.out).2.2 x11_2 p355 q355
                          cases e355
                          replace p355 := eq_true p355
                          replace q355 := eq_true q355
                          have p356 : 0 ≤ ((ji22) : Int) := of_decide_eq_true (by first | (with_reducible assumption) | assumption)
                          have q356 : (ji22) < (t351.length : Int) := of_decide_eq_true (by first | (with_reducible assumption) | assumption)
                          obtain ⟨ad356, e356, hx356_0⟩ := Kd.at_int (Kd.R_reads' HO_8.out).2.2 (ji22) p356 q356
                          obtain rfl : ad355 = ad356 := (by injection e356)
                          replace p356 := eq_true p356
                          replace q356 := eq_true q356
                          go_wp2
                          repeat (go_quiet (fail); try go_wp2)
                          go_roundg k2
                          case measure => have := HJ6.out; have := HK2.out; omega
                          case rel => exact ⟨(true), (wrap64 (x11_2 + 1)), (by first | rfl | (simp; done) | (simp [*]; done)), (by first | rfl | (simp; done) | (simp [*]; done)), H', ⟨by have := HJ6.out; have := HK2.out; omega⟩, ⟨by (with_reducible repeat (first | apply Kd.R_alloc | apply Kd.R_drewN | apply Kd.R_drew)); exact HO_0.out⟩, ⟨by (with_reducible repeat (first | apply Kd.R_alloc | apply Kd.R_drewN | apply Kd.R_drew)); exact HO_8.out⟩, ⟨by repeat (first | (with_reducible first | exact HB.out | apply below_alloc | apply pw_below_drewN | apply below_drew1) | exact HB.out)⟩⟩
                      · rw [if_neg c24] at H
                        exact absurd H (by simp)
                    · rw [if_neg c23] at H
                      exact absurd H (by simp)
                  · rw [if_neg c21] at H
                    exact absurd H (by simp)
                · rw [if_neg c20] at H
                  have c20b0 : decide (0 < x11_2) = false := decide_eq_false c20
                  clear c20
                  have H' := Aside0.mk H
                  clear H
                  obtain ⟨Ao28, co28, eo28⟩ := Kd.R_slice HO_8.out
                  subst eo28
                  go_wp2
                  repeat (go_quiet (fail); try go_wp2)
                  go_roundg k2
                  case measure => have := HJ6.out; have := HK2.out; omega
                  case rel => exact ⟨(true), (wrap64 (x11_2 + 1)), (by first | rfl | (simp; done) | (simp [*]; done)), (by first | rfl | (simp; done) | (simp [*]; done)), H', ⟨by have := HJ6.out; have := HK2.out; omega⟩, ⟨by (with_reducible repeat (first | apply Kd.R_alloc | apply Kd.R_drewN | apply Kd.R_drew)); exact HO_0.out⟩, ⟨by (with_reducible repeat (first | apply Kd.R_alloc | apply Kd.R_drewN | apply Kd.R_drew)); exact HO_8.out⟩, ⟨by repeat (first | (with_reducible first | exact HB.out | apply below_alloc | apply pw_below_drewN | apply below_drew1) | exact HB.out)⟩⟩
              · replace c19 := Bool.eq_false_iff.mpr c19
                subst c19
                have H1 : (if 0 ≤ x11_2 then (if x11_2 > 0 then (if 0 ≤ (wrap64 (x11_2 - 1)) then (if (wrap64 (x11_2 - 1)) < (t351.length : Int) then (if (rd t351 x11_2) ≤ (rd t351 (wrap64 (x11_2 - 1))) then (some false) else (gutterlaw05_TreeKids.l0 k2 t348 a1 a2 t347 t351 ((rd t351 x11_2) == a2) (wrap64 (x11_2 + 1)))) else (none)) else (none)) else (gutterlaw05_TreeKids.l0 k2 t348 a1 a2 t347 t351 ((rd t351 x11_2) == a2) (wrap64 (x11_2 + 1)))) else (none)) = some r := by rw [if_neg (show ¬ (false = true) by decide)] at H; exact H
                clear H
                have H := H1
                clear H1
                by_cases c29 : 0 ≤ x11_2
                · rw [if_pos c29] at H
                  have c29b0 : decide (0 ≤ x11_2) = true := decide_eq_true c29
                  clear c29
                  by_cases c30 : x11_2 > 0
                  · rw [if_pos c30] at H
                    have c30b0 : decide (0 < x11_2) = true := decide_eq_true c30
                    clear c30
                    obtain ⟨ji31, hji31⟩ : ∃ j_ : Int, (wrap64 (x11_2 - 1)) = j_ := ⟨_, rfl⟩
                    replace H : (if 0 ≤ (ji31) then (if (ji31) < (t351.length : Int) then (if (rd t351 x11_2) ≤ (rd t351 (ji31)) then (some false) else (gutterlaw05_TreeKids.l0 k2 t348 a1 a2 t347 t351 ((rd t351 x11_2) == a2) (wrap64 (x11_2 + 1)))) else (none)) else (none)) = some r := by first | (rw [hji31] at H; exact H) | (simp only [hji31] at H ⊢; exact H)
                    have hji31w : (IntKind.i64.wrap (x11_2 - 1)) = ji31 := (i64_w _).trans hji31
                    by_cases c32 : 0 ≤ (ji31)
                    · rw [if_pos c32] at H
                      have c32b0 : decide (0 ≤ (ji31)) = true := decide_eq_true c32
                      clear c32
                      by_cases c33 : (ji31) < (t351.length : Int)
                      · rw [if_pos c33] at H
                        have c33b0 : decide ((ji31) < (t351.length : Int)) = true := decide_eq_true c33
                        clear c33
                        by_cases c34 : (rd t351 x11_2) ≤ (rd t351 (ji31))
                        · rw [if_pos c34] at H
                          have c34b0 : decide ((rd t351 x11_2) ≤ (rd t351 (ji31))) = true := decide_eq_true c34
                          clear c34
                          obtain rfl := Option.some.inj H
                          obtain ⟨Ao35, co35, eo35⟩ := Kd.R_slice HO_8.out
                          subst eo35
                          have p357 : 0 ≤ (x11_2 : Int) := of_decide_eq_true (by first | (with_reducible assumption) | assumption)
                          have q357 : x11_2 < (t351.length : Int) := of_decide_eq_true (by first | (with_reducible assumption) | assumption)
                          obtain ⟨ad357, e357, hx357_0⟩ := Kd.at_int (Kd.R_reads' HO_8.out).2.2 x11_2 p357 q357
                          cases e357
                          replace p357 := eq_true p357
                          replace q357 := eq_true q357
                          have p358 : 0 ≤ (x11_2 : Int) := of_decide_eq_true (by first | (with_reducible assumption) | assumption)
                          have q358 : x11_2 < (t351.length : Int) := of_decide_eq_true (by first | (with_reducible assumption) | assumption)
                          obtain ⟨ad358, e358, hx358_0⟩ := Kd.at_int (Kd.R_reads' HO_8.out).2.2 x11_2 p358 q358
                          obtain rfl : ad357 = ad358 := (by injection e358)
                          replace p358 := eq_true p358
                          replace q358 := eq_true q358
                          have p359 : 0 ≤ ((ji31) : Int) := of_decide_eq_true (by first | (with_reducible assumption) | assumption)
                          have q359 : (ji31) < (t351.length : Int) := of_decide_eq_true (by first | (with_reducible assumption) | assumption)
                          obtain ⟨ad359, e359, hx359_0⟩ := Kd.at_int (Kd.R_reads' HO_8.out).2.2 (ji31) p359 q359
                          obtain rfl : ad357 = ad359 := (by injection e359)
                          replace p359 := eq_true p359
                          replace q359 := eq_true q359
                          go_wp2
                          repeat (go_quiet (fail); try go_wp2)
                          go_ret
                          exact ⟨by first | rfl | (simp [errW_none, errW_some] <;> rfl) | (simp only [← hji31]; first | rfl | (simp [errW_none, errW_some] <;> rfl)) | (simp [*, errW_none, errW_some] <;> rfl), by repeat (first | (with_reducible first | exact HB.out | apply below_alloc | apply pw_below_drewN | apply below_drew1) | exact HB.out)⟩
                        · rw [if_neg c34] at H
                          have c34b0 : decide ((rd t351 x11_2) ≤ (rd t351 (ji31))) = false := decide_eq_false c34
                          clear c34
                          have H' := Aside0.mk H
                          clear H
                          obtain ⟨Ao36, co36, eo36⟩ := Kd.R_slice HO_8.out
                          subst eo36
                          have p357 : 0 ≤ (x11_2 : Int) := of_decide_eq_true (by first | (with_reducible assumption) | assumption)
                          have q357 : x11_2 < (t351.length : Int) := of_decide_eq_true (by first | (with_reducible assumption) | assumption)
                          obtain ⟨ad357, e357, hx357_0⟩ := Kd.at_int (Kd.R_reads' HO_8.out).2.2 x11_2 p357 q357
                          cases e357
                          replace p357 := eq_true p357
                          replace q357 := eq_true q357
                          have p358 : 0 ≤ (x11_2 : Int) := of_decide_eq_true (by first | (with_reducible assumption) | assumption)
                          have q358 : x11_2 < (t351.length : Int) := of_decide_eq_true (by first | (with_reducible assumption) | assumption)
                          obtain ⟨ad358, e358, hx358_0⟩ := Kd.at_int (Kd.R_reads' HO_8.out).2.2 x11_2 p358 q358
                          obtain rfl : ad357 = ad358 := (by injection e358)
                          replace p358 := eq_true p358
                          replace q358 := eq_true q358
                          have p359 : 0 ≤ ((ji31) : Int) := of_decide_eq_true (by first | (with_reducible assumption) | assumption)
                          have q359 : (ji31) < (t351.length : Int) := of_decide_eq_true (by first | (with_reducible assumption) | assumption)
                          obtain ⟨ad359, e359, hx359_0⟩ := Kd.at_int (Kd.R_reads' HO_8.out).2.2 (ji31) p359 q359
                          obtain rfl : ad357 = ad359 := (by injection e359)
                          replace p359 := eq_true p359
                          replace q359 := eq_true q359
                          go_wp2
                          repeat (go_quiet (fail); try go_wp2)
                          go_roundg k2
                          case measure => have := HJ6.out; have := HK2.out; omega
                          case rel => exact ⟨(((rd t351 x11_2) == a2)), (wrap64 (x11_2 + 1)), (by first | rfl | (simp; done) | (simp [*]; done)), (by first | rfl | (simp; done) | (simp [*]; done)), H', ⟨by have := HJ6.out; have := HK2.out; omega⟩, ⟨by (with_reducible repeat (first | apply Kd.R_alloc | apply Kd.R_drewN | apply Kd.R_drew)); exact HO_0.out⟩, ⟨by (with_reducible repeat (first | apply Kd.R_alloc | apply Kd.R_drewN | apply Kd.R_drew)); exact HO_8.out⟩, ⟨by repeat (first | (with_reducible first | exact HB.out | apply below_alloc | apply pw_below_drewN | apply below_drew1) | exact HB.out)⟩⟩
                      · rw [if_neg c33] at H
                        exact absurd H (by simp)
                    · rw [if_neg c32] at H
                      exact absurd H (by simp)
                  · rw [if_neg c30] at H
                    have c30b0 : decide (0 < x11_2) = false := decide_eq_false c30
                    clear c30
                    have H' := Aside0.mk H
                    clear H
                    obtain ⟨Ao37, co37, eo37⟩ := Kd.R_slice HO_8.out
                    subst eo37
                    have p357 : 0 ≤ (x11_2 : Int) := of_decide_eq_true (by first | (with_reducible assumption) | assumption)
                    have q357 : x11_2 < (t351.length : Int) := of_decide_eq_true (by first | (with_reducible assumption) | assumption)
                    obtain ⟨ad357, e357, hx357_0⟩ := Kd.at_int (Kd.R_reads' HO_8.out).2.2 x11_2 p357 q357
                    cases e357
                    replace p357 := eq_true p357
                    replace q357 := eq_true q357
                    go_wp2
                    repeat (go_quiet (fail); try go_wp2)
                    go_roundg k2
                    case measure => have := HJ6.out; have := HK2.out; omega
                    case rel => exact ⟨(((rd t351 x11_2) == a2)), (wrap64 (x11_2 + 1)), (by first | rfl | (simp; done) | (simp [*]; done)), (by first | rfl | (simp; done) | (simp [*]; done)), H', ⟨by have := HJ6.out; have := HK2.out; omega⟩, ⟨by (with_reducible repeat (first | apply Kd.R_alloc | apply Kd.R_drewN | apply Kd.R_drew)); exact HO_0.out⟩, ⟨by (with_reducible repeat (first | apply Kd.R_alloc | apply Kd.R_drewN | apply Kd.R_drew)); exact HO_8.out⟩, ⟨by repeat (first | (with_reducible first | exact HB.out | apply below_alloc | apply pw_below_drewN | apply below_drew1) | exact HB.out)⟩⟩
                · rw [if_neg c29] at H
                  exact absurd H (by simp)
            · rw [if_neg c18] at H
              have c18b0 : decide (x11_2 < (t351.length : Int)) = false := decide_eq_false c18
              clear c18
              by_cases c38 : t347 = true
              · subst c38
                have H1 : (if 0 ≤ a2 then (if a2 < (t348.length : Int) then (some (x10_2 == (((rd_T32 t348 a2).f0) == a1))) else (none)) else (none)) = some r := by rw [if_pos rfl] at H; exact H
                clear H
                have H := H1
                clear H1
                by_cases c39 : 0 ≤ a2
                · rw [if_pos c39] at H
                  have c39b0 : decide (0 ≤ a2) = true := decide_eq_true c39
                  clear c39
                  by_cases c40 : a2 < (t348.length : Int)
                  · rw [if_pos c40] at H
                    have c40b0 : decide (a2 < (t348.length : Int)) = true := decide_eq_true c40
                    clear c40
                    obtain rfl := Option.some.inj H
                    obtain ⟨Ao41, co41, eo41⟩ := Kd.R_slice HO_8.out
                    subst eo41
                    have p360 : 0 ≤ (a2 : Int) := of_decide_eq_true (by first | (with_reducible assumption) | assumption)
                    have q360 : a2 < (t348.length : Int) := of_decide_eq_true (by first | (with_reducible assumption) | assumption)
                    obtain ⟨ad360, e360, hx360_0, hx360_1, hx360_2, hx360_3, hx360_4, hx360_5, hx360_6, hx360_7, hx360_8, hx360_9, hx360_10, hx360_11, hx360_12, hx360_13, hx360_14, hx360_15, hx360_16, hx360_17, hx360_18, hx360_19, hx360_20⟩ := at_T32 (Kd.R_reads' HO_0.out).2.2 a2 p360 q360
                    cases e360
                    replace p360 := eq_true p360
                    replace q360 := eq_true q360
                    go_wp2
                    repeat (go_quiet (fail); try go_wp2)
                    go_ret
                    exact ⟨by first | rfl | (simp [errW_none, errW_some] <;> rfl) | (simp [*, errW_none, errW_some] <;> rfl), by repeat (first | (with_reducible first | exact HB.out | apply below_alloc | apply pw_below_drewN | apply below_drew1) | exact HB.out)⟩
                  · rw [if_neg c40] at H
                    exact absurd H (by simp)
                · rw [if_neg c39] at H
                  exact absurd H (by simp)
              · replace c38 := Bool.eq_false_iff.mpr c38
                subst c38
                have H1 : (some false) = some r := by rw [if_neg (show ¬ (false = true) by decide)] at H; exact H
                clear H
                have H := H1
                clear H1
                obtain rfl := Option.some.inj H
                obtain ⟨Ao42, co42, eo42⟩ := Kd.R_slice HO_8.out
                subst eo42
                go_wp2
                repeat (go_quiet (fail); try go_wp2)
                go_ret
                exact ⟨by first | rfl | (simp [errW_none, errW_some] <;> rfl) | (simp [*, errW_none, errW_some] <;> rfl), by repeat (first | (with_reducible first | exact HB.out | apply below_alloc | apply pw_below_drewN | apply below_drew1) | exact HB.out)⟩

end Go.Proofs.YtjafcgemgghbiaaDoor.G
