/- Functions of the law and of what it calls as plain Lean functions, and that the calls come to their answers: written by fprint.py. -/
import Derived.Test.YtkmddhljfjjglaaDoorF17
import Derived.Test.YtkmddhljfjjglaaDoorG0
import Derived.Test.YtkmddhljfjjglaaDoorG2
import Derived.Test.YtkmddhljfjjglaaDoorG4
import Derived.Test.YtkmddhljfjjglaaDoorG11
namespace Go.Proofs.YtkmddhljfjjglaaDoor.G
open Go.RowKit Go.Proofs.YtkmddhljfjjglaaDoorW.PrintWords Go.Proofs.YtkmddhljfjjglaaDoorW.PrintLast Go.Proofs.YtkmddhljfjjglaaDoorW.PrintMore
attribute [local go_sem] max2_int min2_int max_two min_two max_three min_three max_four min_four   -- for this text's walks alone
set_option linter.unusedVariables false
set_option linter.unusedSimpArgs false

attribute [local go_sem high] eqA39
/-! ### gutterlaw18_PaintOrder: function 5 -/
mutual
def gutterlaw18_PaintOrder.l0 : Nat → List (S30) → List (S41) → Bool → List (S39) → Int → Option (Bool)
  | 0, _, _, _, _, _ => none
  | k + 1, x0, x1, x5, x6, x8 => if x8 < (x0.length : Int) then (if x8 ≥ (x6.length : Int) then (some false) else (if 0 ≤ x8 then (if x8 < (x6.length : Int) then (if (!((rd_T39 x6 x8).f0) || (!(((rd_T39 x6 x8).f1) == 0) || ((!(((rd_T39 x6 x8).f2.f0) == ((rd_T30 x0 x8).f0)) || (!(((rd_T39 x6 x8).f2.f1) == ((rd_T30 x0 x8).f1)) || (!(((rd_T39 x6 x8).f2.f2) == ((rd_T30 x0 x8).f2)) || (!(((rd_T39 x6 x8).f2.f3) == ((rd_T30 x0 x8).f3))))))))) = true then (some false) else (gutterlaw18_PaintOrder.l0 k x0 x1 x5 x6 (wrap64 (x8 + 1)))) else (none)) else (none))) else (gutterlaw18_PaintOrder.l1 k x1 x5 x6 (x0.length : Int) 0)
def gutterlaw18_PaintOrder.l1 : Nat → List (S41) → Bool → List (S39) → Int → Int → Option (Bool)
  | 0, _, _, _, _, _ => none
  | k + 1, x1, x5, x6, x9, x10 => if x10 < (x1.length : Int) then (if 0 ≤ x10 then (if ((rd_T41 x1 x10).f3.f2) = 0 then (gutterlaw18_PaintOrder.j2 k x1 x5 x6 x9 x10 true) else (gutterlaw18_PaintOrder.j2 k x1 x5 x6 x9 x10 (((rd_T41 x1 x10).f3.f3) == 0))) else (none)) else (if x5 = true then (some (x9 == (x6.length : Int))) else (some false))
def gutterlaw18_PaintOrder.j2 : Nat → List (S41) → Bool → List (S39) → Int → Int → Bool → Option (Bool)
  | 0, _, _, _, _, _, _ => none
  | k + 1, x1, x5, x6, x9, x10, x75 => if x75 = true then (gutterlaw18_PaintOrder.l1 k x1 x5 x6 x9 (wrap64 (x10 + 1))) else (if x9 ≥ (x6.length : Int) then (some false) else (if 0 ≤ x9 then (if x9 < (x6.length : Int) then (if 0 ≤ x10 then (if x10 < (x1.length : Int) then (if (((rd_T39 x6 x9).f0) || (!(((rd_T39 x6 x9).f1) == ((rd_T41 x1 x10).f0)) || ((!(((rd_T39 x6 x9).f2.f0) == ((rd_T41 x1 x10).f3.f0)) || (!(((rd_T39 x6 x9).f2.f1) == ((rd_T41 x1 x10).f3.f1)) || (!(((rd_T39 x6 x9).f2.f2) == ((rd_T41 x1 x10).f3.f2)) || (!(((rd_T39 x6 x9).f2.f3) == ((rd_T41 x1 x10).f3.f3))))))))) = true then (some false) else (gutterlaw18_PaintOrder.l1 k x1 x5 x6 (wrap64 (x9 + 1)) (wrap64 (x10 + 1)))) else (none)) else (none)) else (none)) else (none)))
end
def gutterlaw18_PaintOrder.f (k : Nat) (l0 : List (S30)) (l1 : List (S41)) : Option (Bool) := (gutterlaw18_shown.f k).bind fun t164 => ((some (l0.take 60 : List (S30))).bind fun y165 => ((gutterlaw17_Pieces.f k l1).bind fun t169 => ((paint_Draws.f y165 t169).bind fun bt172 => (if bt172.2 = 0 then (gutterlaw18_PaintOrder.l0 k y165 t169 t164 bt172.1 0) else (if t164 = true then (some ((bt172.1.length : Int) == 0)) else (some false))))))
theorem gutterlaw18_PaintOrder.mono_l : ∀ k, (∀ y0 y1 y2 y3 y4, LeO (gutterlaw18_PaintOrder.l0 k y0 y1 y2 y3 y4) (gutterlaw18_PaintOrder.l0 (k + 1) y0 y1 y2 y3 y4)) ∧ (∀ y0 y1 y2 y3 y4, LeO (gutterlaw18_PaintOrder.l1 k y0 y1 y2 y3 y4) (gutterlaw18_PaintOrder.l1 (k + 1) y0 y1 y2 y3 y4)) ∧ (∀ y0 y1 y2 y3 y4 y5, LeO (gutterlaw18_PaintOrder.j2 k y0 y1 y2 y3 y4 y5) (gutterlaw18_PaintOrder.j2 (k + 1) y0 y1 y2 y3 y4 y5))
  | 0 => ⟨fun _ _ _ _ _ r h => by simp [gutterlaw18_PaintOrder.l0] at h, fun _ _ _ _ _ r h => by simp [gutterlaw18_PaintOrder.l1] at h, fun _ _ _ _ _ _ r h => by simp [gutterlaw18_PaintOrder.j2] at h⟩
  | k + 1 => by
    obtain ⟨ih0, ih1, ih2⟩ := gutterlaw18_PaintOrder.mono_l k
    refine ⟨?_, ?_, ?_⟩
    · intro y0 y1 y2 y3 y4
      unfold gutterlaw18_PaintOrder.l0
      repeat' first
      | (with_reducible exact ih0 _ _ _ _ _)
      | (with_reducible exact ih1 _ _ _ _ _)
      | (with_reducible exact ih2 _ _ _ _ _ _)
      | (with_reducible exact gutterlaw17_Pieces.mono _ _)
      | (with_reducible exact gutterlaw18_shown.mono _)
      | (with_reducible exact LeO.refl _)
      | (with_reducible exact LeO.none _)
      | (with_reducible refine LeO.ite ?_ ?_)
      | (with_reducible refine LeO.bind ?_ (fun _ => ?_))
      | exact ih0 _ _ _ _ _
      | exact ih1 _ _ _ _ _
      | exact ih2 _ _ _ _ _ _
      | exact gutterlaw17_Pieces.mono _ _
      | exact gutterlaw18_shown.mono _
      | exact LeO.none _
      | refine LeO.ite ?_ ?_
      | refine LeO.bind ?_ (fun _ => ?_)
    · intro y0 y1 y2 y3 y4
      unfold gutterlaw18_PaintOrder.l1
      repeat' first
      | (with_reducible exact ih0 _ _ _ _ _)
      | (with_reducible exact ih1 _ _ _ _ _)
      | (with_reducible exact ih2 _ _ _ _ _ _)
      | (with_reducible exact gutterlaw17_Pieces.mono _ _)
      | (with_reducible exact gutterlaw18_shown.mono _)
      | (with_reducible exact LeO.refl _)
      | (with_reducible exact LeO.none _)
      | (with_reducible refine LeO.ite ?_ ?_)
      | (with_reducible refine LeO.bind ?_ (fun _ => ?_))
      | exact ih0 _ _ _ _ _
      | exact ih1 _ _ _ _ _
      | exact ih2 _ _ _ _ _ _
      | exact gutterlaw17_Pieces.mono _ _
      | exact gutterlaw18_shown.mono _
      | exact LeO.none _
      | refine LeO.ite ?_ ?_
      | refine LeO.bind ?_ (fun _ => ?_)
    · intro y0 y1 y2 y3 y4 y5
      unfold gutterlaw18_PaintOrder.j2
      repeat' first
      | (with_reducible exact ih0 _ _ _ _ _)
      | (with_reducible exact ih1 _ _ _ _ _)
      | (with_reducible exact ih2 _ _ _ _ _ _)
      | (with_reducible exact gutterlaw17_Pieces.mono _ _)
      | (with_reducible exact gutterlaw18_shown.mono _)
      | (with_reducible exact LeO.refl _)
      | (with_reducible exact LeO.none _)
      | (with_reducible refine LeO.ite ?_ ?_)
      | (with_reducible refine LeO.bind ?_ (fun _ => ?_))
      | exact ih0 _ _ _ _ _
      | exact ih1 _ _ _ _ _
      | exact ih2 _ _ _ _ _ _
      | exact gutterlaw17_Pieces.mono _ _
      | exact gutterlaw18_shown.mono _
      | exact LeO.none _
      | refine LeO.ite ?_ ?_
      | refine LeO.bind ?_ (fun _ => ?_)
theorem gutterlaw18_PaintOrder.mono : ∀ a0 a1 k, LeO (gutterlaw18_PaintOrder.f k a0 a1) (gutterlaw18_PaintOrder.f (k + 1) a0 a1) := by
  intro a0 a1 k
  obtain ⟨ih0, ih1, ih2⟩ := gutterlaw18_PaintOrder.mono_l k
  unfold gutterlaw18_PaintOrder.f
  repeat' first
      | (with_reducible exact ih0 _ _ _ _ _)
      | (with_reducible exact ih1 _ _ _ _ _)
      | (with_reducible exact ih2 _ _ _ _ _ _)
      | (with_reducible exact gutterlaw17_Pieces.mono _ _)
      | (with_reducible exact gutterlaw18_shown.mono _)
      | (with_reducible exact LeO.refl _)
      | (with_reducible exact LeO.none _)
      | (with_reducible refine LeO.ite ?_ ?_)
      | (with_reducible refine LeO.bind ?_ (fun _ => ?_))
      | exact ih0 _ _ _ _ _
      | exact ih1 _ _ _ _ _
      | exact ih2 _ _ _ _ _ _
      | exact gutterlaw17_Pieces.mono _ _
      | exact gutterlaw18_shown.mono _
      | exact LeO.none _
      | refine LeO.ite ?_ ?_
      | refine LeO.bind ?_ (fun _ => ?_)
set_option maxHeartbeats 8000000 in
set_option maxRecDepth 100000 in
theorem gutterlaw18_PaintOrder.calls (k : Nat) (A0 : Option Addr) (c0 : Nat) (l0 : List (S30)) (A1 : Option Addr) (c1 : Nat) (l1 : List (S41)) (r : Bool) (w : World) (hr0 : Kd.C k30 w A0 l0.length l0) (hc0 : l0.length ≤ c0) (hr1 : Kd.C k41 w A1 l1.length l1) (hc1 : l1.length ≤ c1) (h : gutterlaw18_PaintOrder.f k l0 l1 = some r) (hG : GOK w) :
    Calls Tryd.prog 5 #[.slice A0 l0.length c0, .slice A1 l1.length c1] w fun e w' => e = .returned (.bool r) ∧ Below w.heap.size w w' := by
  have HG := Aside0.mk hG
  clear hG
  have hu39 := Tryd.underlying39
  have hu30 := Tryd.underlying30
  have HR0 := Aside0.mk hr0
  have HC0 := Aside0.mk hc0
  clear hr0 hc0
  have HR1 := Aside0.mk hr1
  have HC1 := Aside0.mk hc1
  clear hr1 hc1
  have HB := Aside0.mk (Below.refl w.heap.size w)
  have H : ((gutterlaw18_shown.f k).bind fun t164 => ((some (l0.take 60 : List (S30))).bind fun y165 => ((gutterlaw17_Pieces.f k l1).bind fun t169 => ((paint_Draws.f y165 t169).bind fun bt172 => (if bt172.2 = 0 then (gutterlaw18_PaintOrder.l0 k y165 t169 t164 bt172.1 0) else (if t164 = true then (some ((bt172.1.length : Int) == 0)) else (some false))))))) = some r := h
  clear h
  replace H := Option.bind_eq_some_iff.mp H
  obtain ⟨t164, A30, H⟩ := H
  replace H : ((some (l0.take 60 : List (S30))).bind fun y165 => ((gutterlaw17_Pieces.f k l1).bind fun t169 => ((paint_Draws.f y165 t169).bind fun bt172 => (if bt172.2 = 0 then (gutterlaw18_PaintOrder.l0 k y165 t169 t164 bt172.1 0) else (if t164 = true then (some ((bt172.1.length : Int) == 0)) else (some false)))))) = some r := H
  have A3 := Aside0.mk A30
  clear A30
  obtain ⟨y165, hy165⟩ : ∃ y_ : List (S30), y_ = (l0.take 60) := ⟨_, rfl⟩
  replace H : ((gutterlaw17_Pieces.f k l1).bind fun t169 => ((paint_Draws.f y165 t169).bind fun bt172 => (if bt172.2 = 0 then (gutterlaw18_PaintOrder.l0 k y165 t169 t164 bt172.1 0) else (if t164 = true then (some ((bt172.1.length : Int) == 0)) else (some false))))) = some r := by first | (rw [hy165]; with_reducible exact H) | (have H2_ := (Option.bind_some _ _).symm.trans H; rw [hy165]; with_reducible exact H2_) | (have H2_ := (Option.bind_some _ _).symm.trans H; with_reducible exact H2_) | with_reducible exact H | (rw [hy165]; exact H) | exact H
  have Ny165 := Aside0.mk hy165
  clear hy165
  replace H := Option.bind_eq_some_iff.mp H
  obtain ⟨t169, A40, H⟩ := H
  replace H : ((paint_Draws.f y165 t169).bind fun bt172 => (if bt172.2 = 0 then (gutterlaw18_PaintOrder.l0 k y165 t169 t164 bt172.1 0) else (if t164 = true then (some ((bt172.1.length : Int) == 0)) else (some false)))) = some r := H
  have A4 := Aside0.mk A40
  clear A40
  replace H := Option.bind_eq_some_iff.mp H
  obtain ⟨⟨t172, t173⟩, A50, H⟩ := H
  replace H : (if t173 = 0 then (gutterlaw18_PaintOrder.l0 k y165 t169 t164 t172 0) else (if t164 = true then (some ((t172.length : Int) == 0)) else (some false))) = some r := H
  have A5 := Aside0.mk A50
  clear A50
  by_cases c6 : t173 = 0
  · rw [if_pos c6] at H
    have c6b0 : (t173 == 0) = true := beq_iff_eq.mpr c6
    have c6b1 : (t173 != 0) = false := bne_eq_false_iff_eq.mpr c6
    clear c6
    have H' := Aside0.mk H
    clear H
    go_enter Tryd.func5, Tryd.ntmps5
    go_wp2_with (first | (go_at_call 9; (with_reducible refine (gutterlaw18_shown.calls k  t164 _ A3.out (GOK.below HG.out (by repeat (first | (with_reducible first | exact HB.out | apply below_alloc | apply pw_below_drewN | apply below_drew1) | exact HB.out)))).mono ?_); rintro e w7 ⟨rfl, hb⟩; have n0_ := Aside0.mk (below_step (by repeat (first | (with_reducible first | exact HB.out | apply below_alloc | apply pw_below_drewN | apply below_drew1) | exact HB.out)) hb); clear HB; have HB := n0_; clear n0_; (try clear hb); (try clear hb2); (try clear hk); (try clear hi); have hroom8 : l0.length ≤ c0 := HC0.out; have hr8 := C_takeN 60 HR0.out; rw [← Ny165.out] at hr8; have hy8 : y165.length ≤ l0.length := (by rw [Ny165.out, List.length_take]; omega); have HR168 := Aside0.mk hr8; have HC168 := Aside0.mk (show y165.length ≤ c0 from by omega); have KR8 := Aside0.mk hroom8; clear hr8 hroom8; have KY8 := Aside0.mk hy8; clear hy8) | (go_at_call 13; refine calls_of_args (args' := #[.slice A0 l0.length c0]) (by (try simp only [List.map_toArray, List.map_cons, List.map_nil]); first | done | rfl) ?_; refine (cut_13 A0 c0 l0 y165 _ KR8.out Ny165.out).mono ?_; rintro e w' ⟨rfl, rfl⟩) | (go_at_call 14; refine calls_of_args (args' := #[.slice A1 l1.length c1]) (by (try simp only [List.map_toArray, List.map_cons, List.map_nil]); first | done | rfl | (simp only [List.length_drop, List.length_take]; rfl)) ?_; (with_reducible refine (gutterlaw17_Pieces.calls k _ _ l1 t169 _ ?side1 ?side2 A4.out).mono ?_); (case side1 => repeat (first | exact (Kd.C_below HR1.out HB.out) | (with_reducible refine Kd.C_alloc ?_ _) | (with_reducible refine Kd.C_drewN ?_ _) | (with_reducible refine Kd.C_drew ?_))); (case side2 => exact HC1.out); rintro e w9 ⟨v170, rfl, ho0, hb⟩; have n0_ := Aside0.mk (Kd.R_lower ho0 (below_size (by repeat (first | (with_reducible first | exact HB.out | apply below_alloc | apply pw_below_drewN | apply below_drew1) | exact HB.out)))); have n1_ := Aside0.mk (below_step (by repeat (first | (with_reducible first | exact HB.out | apply below_alloc | apply pw_below_drewN | apply below_drew1) | exact HB.out)) hb); clear HB; have HO171 := n0_; have HB := n1_; clear n0_ n1_; (try clear hb); (try clear hb2); (try clear hk); (try clear hi); (try clear ho0); obtain ⟨Ao10, co10, eo10⟩ := Kd.R_slice HO171.out; subst eo10) | (go_at_call 15; refine calls_of_args (args' := #[.slice A0 y165.length c0, .slice Ao10 t169.length co10]) (by (try simp only [List.map_toArray, List.map_cons, List.map_nil]); first | done | rfl | (simp only [List.length_drop, List.length_take]; rfl)) ?_; (with_reducible refine (paint_Draws.calls _ _ y165 _ _ t169 t172 t173 _ ?side1 ?side2 ?side3 ?side4 A5.out (GOK.below HG.out (by repeat (first | (with_reducible first | exact HB.out | apply below_alloc | apply pw_below_drewN | apply below_drew1) | exact HB.out)))).mono ?_); (case side1 => repeat (first | exact (Kd.C_below HR168.out HB.out) | (with_reducible refine Kd.C_alloc ?_ _) | (with_reducible refine Kd.C_drewN ?_ _) | (with_reducible refine Kd.C_drew ?_))); (case side2 => exact HC168.out); (case side3 => repeat (first | exact (Kd.R_reads' HO171.out).2.2 | (with_reducible refine Kd.C_alloc ?_ _) | (with_reducible refine Kd.C_drewN ?_ _) | (with_reducible refine Kd.C_drew ?_))); (case side4 => exact (Kd.R_reads' HO171.out).2.1); rintro e w11 ⟨v174, rfl, ho0, hb⟩; have n0_ := Aside0.mk (Kd.R_below (by (with_reducible repeat (first | apply Kd.R_alloc | apply Kd.R_drewN | apply Kd.R_drew)); exact HO171.out) hb); have n1_ := Aside0.mk (Kd.R_lower ho0 (below_size (by repeat (first | (with_reducible first | exact HB.out | apply below_alloc | apply pw_below_drewN | apply below_drew1) | exact HB.out)))); have n2_ := Aside0.mk (below_step (by repeat (first | (with_reducible first | exact HB.out | apply below_alloc | apply pw_below_drewN | apply below_drew1) | exact HB.out)) hb); clear HO171; clear HB; have HO171 := n0_; have HO175 := n1_; have HB := n2_; clear n0_ n1_ n2_; (try clear hb); (try clear hb2); (try clear hk); (try clear hi); (try clear ho0)))
    repeat (go_quiet (first | (go_at_call 9; (with_reducible refine (gutterlaw18_shown.calls k  t164 _ A3.out (GOK.below HG.out (by repeat (first | (with_reducible first | exact HB.out | apply below_alloc | apply pw_below_drewN | apply below_drew1) | exact HB.out)))).mono ?_); rintro e w7 ⟨rfl, hb⟩; have n0_ := Aside0.mk (below_step (by repeat (first | (with_reducible first | exact HB.out | apply below_alloc | apply pw_below_drewN | apply below_drew1) | exact HB.out)) hb); clear HB; have HB := n0_; clear n0_; (try clear hb); (try clear hb2); (try clear hk); (try clear hi); have hroom8 : l0.length ≤ c0 := HC0.out; have hr8 := C_takeN 60 HR0.out; rw [← Ny165.out] at hr8; have hy8 : y165.length ≤ l0.length := (by rw [Ny165.out, List.length_take]; omega); have HR168 := Aside0.mk hr8; have HC168 := Aside0.mk (show y165.length ≤ c0 from by omega); have KR8 := Aside0.mk hroom8; clear hr8 hroom8; have KY8 := Aside0.mk hy8; clear hy8) | (go_at_call 13; refine calls_of_args (args' := #[.slice A0 l0.length c0]) (by (try simp only [List.map_toArray, List.map_cons, List.map_nil]); first | done | rfl) ?_; refine (cut_13 A0 c0 l0 y165 _ KR8.out Ny165.out).mono ?_; rintro e w' ⟨rfl, rfl⟩) | (go_at_call 14; refine calls_of_args (args' := #[.slice A1 l1.length c1]) (by (try simp only [List.map_toArray, List.map_cons, List.map_nil]); first | done | rfl | (simp only [List.length_drop, List.length_take]; rfl)) ?_; (with_reducible refine (gutterlaw17_Pieces.calls k _ _ l1 t169 _ ?side1 ?side2 A4.out).mono ?_); (case side1 => repeat (first | exact (Kd.C_below HR1.out HB.out) | (with_reducible refine Kd.C_alloc ?_ _) | (with_reducible refine Kd.C_drewN ?_ _) | (with_reducible refine Kd.C_drew ?_))); (case side2 => exact HC1.out); rintro e w9 ⟨v170, rfl, ho0, hb⟩; have n0_ := Aside0.mk (Kd.R_lower ho0 (below_size (by repeat (first | (with_reducible first | exact HB.out | apply below_alloc | apply pw_below_drewN | apply below_drew1) | exact HB.out)))); have n1_ := Aside0.mk (below_step (by repeat (first | (with_reducible first | exact HB.out | apply below_alloc | apply pw_below_drewN | apply below_drew1) | exact HB.out)) hb); clear HB; have HO171 := n0_; have HB := n1_; clear n0_ n1_; (try clear hb); (try clear hb2); (try clear hk); (try clear hi); (try clear ho0); obtain ⟨Ao10, co10, eo10⟩ := Kd.R_slice HO171.out; subst eo10) | (go_at_call 15; refine calls_of_args (args' := #[.slice A0 y165.length c0, .slice Ao10 t169.length co10]) (by (try simp only [List.map_toArray, List.map_cons, List.map_nil]); first | done | rfl | (simp only [List.length_drop, List.length_take]; rfl)) ?_; (with_reducible refine (paint_Draws.calls _ _ y165 _ _ t169 t172 t173 _ ?side1 ?side2 ?side3 ?side4 A5.out (GOK.below HG.out (by repeat (first | (with_reducible first | exact HB.out | apply below_alloc | apply pw_below_drewN | apply below_drew1) | exact HB.out)))).mono ?_); (case side1 => repeat (first | exact (Kd.C_below HR168.out HB.out) | (with_reducible refine Kd.C_alloc ?_ _) | (with_reducible refine Kd.C_drewN ?_ _) | (with_reducible refine Kd.C_drew ?_))); (case side2 => exact HC168.out); (case side3 => repeat (first | exact (Kd.R_reads' HO171.out).2.2 | (with_reducible refine Kd.C_alloc ?_ _) | (with_reducible refine Kd.C_drewN ?_ _) | (with_reducible refine Kd.C_drew ?_))); (case side4 => exact (Kd.R_reads' HO171.out).2.1); rintro e w11 ⟨v174, rfl, ho0, hb⟩; have n0_ := Aside0.mk (Kd.R_below (by (with_reducible repeat (first | apply Kd.R_alloc | apply Kd.R_drewN | apply Kd.R_drew)); exact HO171.out) hb); have n1_ := Aside0.mk (Kd.R_lower ho0 (below_size (by repeat (first | (with_reducible first | exact HB.out | apply below_alloc | apply pw_below_drewN | apply below_drew1) | exact HB.out)))); have n2_ := Aside0.mk (below_step (by repeat (first | (with_reducible first | exact HB.out | apply below_alloc | apply pw_below_drewN | apply below_drew1) | exact HB.out)) hb); clear HO171; clear HB; have HO171 := n0_; have HO175 := n1_; have HB := n2_; clear n0_ n1_ n2_; (try clear hb); (try clear hb2); (try clear hk); (try clear hi); (try clear ho0))); try go_wp2_with (first | (go_at_call 9; (with_reducible refine (gutterlaw18_shown.calls k  t164 _ A3.out (GOK.below HG.out (by repeat (first | (with_reducible first | exact HB.out | apply below_alloc | apply pw_below_drewN | apply below_drew1) | exact HB.out)))).mono ?_); rintro e w7 ⟨rfl, hb⟩; have n0_ := Aside0.mk (below_step (by repeat (first | (with_reducible first | exact HB.out | apply below_alloc | apply pw_below_drewN | apply below_drew1) | exact HB.out)) hb); clear HB; have HB := n0_; clear n0_; (try clear hb); (try clear hb2); (try clear hk); (try clear hi); have hroom8 : l0.length ≤ c0 := HC0.out; have hr8 := C_takeN 60 HR0.out; rw [← Ny165.out] at hr8; have hy8 : y165.length ≤ l0.length := (by rw [Ny165.out, List.length_take]; omega); have HR168 := Aside0.mk hr8; have HC168 := Aside0.mk (show y165.length ≤ c0 from by omega); have KR8 := Aside0.mk hroom8; clear hr8 hroom8; have KY8 := Aside0.mk hy8; clear hy8) | (go_at_call 13; refine calls_of_args (args' := #[.slice A0 l0.length c0]) (by (try simp only [List.map_toArray, List.map_cons, List.map_nil]); first | done | rfl) ?_; refine (cut_13 A0 c0 l0 y165 _ KR8.out Ny165.out).mono ?_; rintro e w' ⟨rfl, rfl⟩) | (go_at_call 14; refine calls_of_args (args' := #[.slice A1 l1.length c1]) (by (try simp only [List.map_toArray, List.map_cons, List.map_nil]); first | done | rfl | (simp only [List.length_drop, List.length_take]; rfl)) ?_; (with_reducible refine (gutterlaw17_Pieces.calls k _ _ l1 t169 _ ?side1 ?side2 A4.out).mono ?_); (case side1 => repeat (first | exact (Kd.C_below HR1.out HB.out) | (with_reducible refine Kd.C_alloc ?_ _) | (with_reducible refine Kd.C_drewN ?_ _) | (with_reducible refine Kd.C_drew ?_))); (case side2 => exact HC1.out); rintro e w9 ⟨v170, rfl, ho0, hb⟩; have n0_ := Aside0.mk (Kd.R_lower ho0 (below_size (by repeat (first | (with_reducible first | exact HB.out | apply below_alloc | apply pw_below_drewN | apply below_drew1) | exact HB.out)))); have n1_ := Aside0.mk (below_step (by repeat (first | (with_reducible first | exact HB.out | apply below_alloc | apply pw_below_drewN | apply below_drew1) | exact HB.out)) hb); clear HB; have HO171 := n0_; have HB := n1_; clear n0_ n1_; (try clear hb); (try clear hb2); (try clear hk); (try clear hi); (try clear ho0); obtain ⟨Ao10, co10, eo10⟩ := Kd.R_slice HO171.out; subst eo10) | (go_at_call 15; refine calls_of_args (args' := #[.slice A0 y165.length c0, .slice Ao10 t169.length co10]) (by (try simp only [List.map_toArray, List.map_cons, List.map_nil]); first | done | rfl | (simp only [List.length_drop, List.length_take]; rfl)) ?_; (with_reducible refine (paint_Draws.calls _ _ y165 _ _ t169 t172 t173 _ ?side1 ?side2 ?side3 ?side4 A5.out (GOK.below HG.out (by repeat (first | (with_reducible first | exact HB.out | apply below_alloc | apply pw_below_drewN | apply below_drew1) | exact HB.out)))).mono ?_); (case side1 => repeat (first | exact (Kd.C_below HR168.out HB.out) | (with_reducible refine Kd.C_alloc ?_ _) | (with_reducible refine Kd.C_drewN ?_ _) | (with_reducible refine Kd.C_drew ?_))); (case side2 => exact HC168.out); (case side3 => repeat (first | exact (Kd.R_reads' HO171.out).2.2 | (with_reducible refine Kd.C_alloc ?_ _) | (with_reducible refine Kd.C_drewN ?_ _) | (with_reducible refine Kd.C_drew ?_))); (case side4 => exact (Kd.R_reads' HO171.out).2.1); rintro e w11 ⟨v174, rfl, ho0, hb⟩; have n0_ := Aside0.mk (Kd.R_below (by (with_reducible repeat (first | apply Kd.R_alloc | apply Kd.R_drewN | apply Kd.R_drew)); exact HO171.out) hb); have n1_ := Aside0.mk (Kd.R_lower ho0 (below_size (by repeat (first | (with_reducible first | exact HB.out | apply below_alloc | apply pw_below_drewN | apply below_drew1) | exact HB.out)))); have n2_ := Aside0.mk (below_step (by repeat (first | (with_reducible first | exact HB.out | apply below_alloc | apply pw_below_drewN | apply below_drew1) | exact HB.out)) hb); clear HO171; clear HB; have HO171 := n0_; have HO175 := n1_; have HB := n2_; clear n0_ n1_ n2_; (try clear hb); (try clear hb2); (try clear hk); (try clear hi); (try clear ho0))))
    go_loopg [8] k (fun kq v8 w' => ∃ (x8_1 : Int), v8 = .int .i64 x8_1 ∧ Aside0 (gutterlaw18_PaintOrder.l0 kq y165 t169 t164 t172 x8_1 = some r) ∧ Aside0 (kq ≤ k) ∧ Aside0 (Kd.R k41 41 w' w.heap.size (fun _ => True) (.slice Ao10 t169.length co10) t169) ∧ Aside0 (Kd.R k39 39 w' w.heap.size (fun _ => True) v174 t172) ∧ Aside0 (Below w.heap.size w w'))
    case atStart => exact ⟨(0), (by first | rfl | (simp; done) | (simp [*]; done)), H', ⟨Nat.le_refl _⟩, ⟨by (with_reducible repeat (first | apply Kd.R_alloc | apply Kd.R_drewN | apply Kd.R_drew)); exact HO171.out⟩, ⟨by (with_reducible repeat (first | apply Kd.R_alloc | apply Kd.R_drewN | apply Kd.R_drew)); exact HO175.out⟩, ⟨by repeat (first | (with_reducible first | exact HB.out | apply below_alloc | apply pw_below_drewN | apply below_drew1) | exact HB.out)⟩⟩
    case round =>
      clear H'
      try clear c1
      try clear p2
      try clear c5
      try clear c6
      try clear c6b0
      try clear c6b1
      obtain ⟨x8_1, rfl, HA, HK1, HO_1, HO_6, HB⟩ := hrel
      cases gk with
      | zero => exact absurd HA.out (by simp [gutterlaw18_PaintOrder.l0])
      | succ k1 =>
        have H := HA.out
        clear HA
        simp only [gutterlaw18_PaintOrder.l0] at H
        by_cases c12 : x8_1 < (y165.length : Int)
        · rw [if_pos c12] at H
          have c12b0 : decide (x8_1 < (y165.length : Int)) = true := decide_eq_true c12
          clear c12
          by_cases c13 : x8_1 ≥ (t172.length : Int)
          · rw [if_pos c13] at H
            have c13b0 : decide ((t172.length : Int) ≤ x8_1) = true := decide_eq_true c13
            clear c13
            obtain rfl := Option.some.inj H
            obtain ⟨Ao14, co14, eo14⟩ := Kd.R_slice HO_6.out
            subst eo14
            go_wp2
            repeat (go_quiet (fail); try go_wp2)
            go_ret
            exact ⟨by first | rfl | (simp [errW_none, errW_some] <;> rfl) | (simp [*, errW_none, errW_some] <;> rfl), by repeat (first | (with_reducible first | exact HB.out | apply below_alloc | apply pw_below_drewN | apply below_drew1) | exact HB.out)⟩
          · rw [if_neg c13] at H
            have c13b0 : decide ((t172.length : Int) ≤ x8_1) = false := decide_eq_false c13
            clear c13
            by_cases c15 : 0 ≤ x8_1
            · rw [if_pos c15] at H
              have c15b0 : decide (0 ≤ x8_1) = true := decide_eq_true c15
              clear c15
              by_cases c16 : x8_1 < (t172.length : Int)
              · rw [if_pos c16] at H
                have c16b0 : decide (x8_1 < (t172.length : Int)) = true := decide_eq_true c16
                clear c16
                by_cases c17 : (!((rd_T39 t172 x8_1).f0) || (!(((rd_T39 t172 x8_1).f1) == 0) || ((!(((rd_T39 t172 x8_1).f2.f0) == ((rd_T30 y165 x8_1).f0)) || (!(((rd_T39 t172 x8_1).f2.f1) == ((rd_T30 y165 x8_1).f1)) || (!(((rd_T39 t172 x8_1).f2.f2) == ((rd_T30 y165 x8_1).f2)) || (!(((rd_T39 t172 x8_1).f2.f3) == ((rd_T30 y165 x8_1).f3))))))))) = true
                · rw [if_pos c17] at H
                  have c17b0 : (!((rd_T39 t172 x8_1).f0) || (!(((rd_T39 t172 x8_1).f1) == 0) || ((!(((rd_T39 t172 x8_1).f2.f0) == ((rd_T30 y165 x8_1).f0)) || (!(((rd_T39 t172 x8_1).f2.f1) == ((rd_T30 y165 x8_1).f1)) || (!(((rd_T39 t172 x8_1).f2.f2) == ((rd_T30 y165 x8_1).f2)) || (!(((rd_T39 t172 x8_1).f2.f3) == ((rd_T30 y165 x8_1).f3))))))))) = true := c17
                  clear c17
                  obtain rfl := Option.some.inj H
                  obtain ⟨Ao18, co18, eo18⟩ := Kd.R_slice HO_6.out
                  subst eo18
                  have p176 : 0 ≤ (x8_1 : Int) := of_decide_eq_true (by first | (with_reducible assumption) | assumption)
                  have q176 : x8_1 < (t172.length : Int) := of_decide_eq_true (by first | (with_reducible assumption) | assumption)
                  obtain ⟨ad176, e176, hx176_0, hx176_1, hx176_2, hx176_3, hx176_4, hx176_5⟩ := at_T39 (Kd.R_reads' HO_6.out).2.2 x8_1 p176 q176
                  cases e176
                  replace p176 := eq_true p176
                  replace q176 := eq_true q176
                  have p177 : 0 ≤ (x8_1 : Int) := of_decide_eq_true (by first | (with_reducible assumption) | assumption)
                  have q177 : x8_1 < (y165.length : Int) := of_decide_eq_true (by first | (with_reducible assumption) | assumption)
                  obtain ⟨ad177, e177, hx177_0, hx177_1, hx177_2, hx177_3⟩ := at_T30 HR168.out x8_1 p177 q177
                  cases e177
                  replace hx177_0 := (HB.out.cell (World.block_lt_of_cell? w _ hx177_0)).trans hx177_0
                  replace hx177_1 := (HB.out.cell (World.block_lt_of_cell? w _ hx177_1)).trans hx177_1
                  replace hx177_2 := (HB.out.cell (World.block_lt_of_cell? w _ hx177_2)).trans hx177_2
                  replace hx177_3 := (HB.out.cell (World.block_lt_of_cell? w _ hx177_3)).trans hx177_3
                  replace p177 := eq_true p177
                  replace q177 := eq_true q177
                  go_wp2
                  repeat (go_quiet (fail); try go_wp2)
                  go_ret
                  exact ⟨by first | rfl | (simp [errW_none, errW_some] <;> rfl) | (simp [*, errW_none, errW_some] <;> rfl), by repeat (first | (with_reducible first | exact HB.out | apply below_alloc | apply pw_below_drewN | apply below_drew1) | exact HB.out)⟩
                · rw [if_neg c17] at H
                  have c17b0 : (!((rd_T39 t172 x8_1).f0) || (!(((rd_T39 t172 x8_1).f1) == 0) || ((!(((rd_T39 t172 x8_1).f2.f0) == ((rd_T30 y165 x8_1).f0)) || (!(((rd_T39 t172 x8_1).f2.f1) == ((rd_T30 y165 x8_1).f1)) || (!(((rd_T39 t172 x8_1).f2.f2) == ((rd_T30 y165 x8_1).f2)) || (!(((rd_T39 t172 x8_1).f2.f3) == ((rd_T30 y165 x8_1).f3))))))))) = false := by simpa using c17
                  clear c17
                  have H' := Aside0.mk H
                  clear H
                  obtain ⟨Ao19, co19, eo19⟩ := Kd.R_slice HO_6.out
                  subst eo19
                  have p176 : 0 ≤ (x8_1 : Int) := of_decide_eq_true (by first | (with_reducible assumption) | assumption)
                  have q176 : x8_1 < (t172.length : Int) := of_decide_eq_true (by first | (with_reducible assumption) | assumption)
                  obtain ⟨ad176, e176, hx176_0, hx176_1, hx176_2, hx176_3, hx176_4, hx176_5⟩ := at_T39 (Kd.R_reads' HO_6.out).2.2 x8_1 p176 q176
                  cases e176
                  replace p176 := eq_true p176
                  replace q176 := eq_true q176
                  have p177 : 0 ≤ (x8_1 : Int) := of_decide_eq_true (by first | (with_reducible assumption) | assumption)
                  have q177 : x8_1 < (y165.length : Int) := of_decide_eq_true (by first | (with_reducible assumption) | assumption)
                  obtain ⟨ad177, e177, hx177_0, hx177_1, hx177_2, hx177_3⟩ := at_T30 HR168.out x8_1 p177 q177
                  cases e177
                  replace hx177_0 := (HB.out.cell (World.block_lt_of_cell? w _ hx177_0)).trans hx177_0
                  replace hx177_1 := (HB.out.cell (World.block_lt_of_cell? w _ hx177_1)).trans hx177_1
                  replace hx177_2 := (HB.out.cell (World.block_lt_of_cell? w _ hx177_2)).trans hx177_2
                  replace hx177_3 := (HB.out.cell (World.block_lt_of_cell? w _ hx177_3)).trans hx177_3
                  replace p177 := eq_true p177
                  replace q177 := eq_true q177
                  go_wp2
                  repeat (go_quiet (fail); try go_wp2)
                  go_roundg k1
                  case measure => have := HK1.out; omega
                  case rel => exact ⟨(wrap64 (x8_1 + 1)), (by first | rfl | (simp; done) | (simp [*]; done)), H', ⟨by have := HK1.out; omega⟩, ⟨by (with_reducible repeat (first | apply Kd.R_alloc | apply Kd.R_drewN | apply Kd.R_drew)); exact HO_1.out⟩, ⟨by (with_reducible repeat (first | apply Kd.R_alloc | apply Kd.R_drewN | apply Kd.R_drew)); exact HO_6.out⟩, ⟨by repeat (first | (with_reducible first | exact HB.out | apply below_alloc | apply pw_below_drewN | apply below_drew1) | exact HB.out)⟩⟩
              · rw [if_neg c16] at H
                exact absurd H (by simp)
            · rw [if_neg c15] at H
              exact absurd H (by simp)
        · rw [if_neg c12] at H
          have c12b0 : decide (x8_1 < (y165.length : Int)) = false := decide_eq_false c12
          clear c12
          have H' := Aside0.mk H
          clear H
          go_wp2
          repeat (go_quiet (fail); try go_wp2)
          go_loopg [9, 10] k1 (fun kq v9 v10 w' => ∃ (x9_2 : Int) (x10_2 : Int), v9 = .int .i64 x9_2 ∧ v10 = .int .i64 x10_2 ∧ Aside0 (gutterlaw18_PaintOrder.l1 kq t169 t164 t172 x9_2 x10_2 = some r) ∧ Aside0 (kq ≤ k1) ∧ Aside0 (Kd.R k41 41 w' w.heap.size (fun _ => True) (.slice Ao10 t169.length co10) t169) ∧ Aside0 (Kd.R k39 39 w' w.heap.size (fun _ => True) v174 t172) ∧ Aside0 (Below w.heap.size w w'))
          case atStart => exact ⟨((y165.length : Int)), (0), (by first | rfl | (simp; done) | (simp [*]; done)), (by first | rfl | (simp; done) | (simp [*]; done)), H', ⟨Nat.le_refl _⟩, ⟨by (with_reducible repeat (first | apply Kd.R_alloc | apply Kd.R_drewN | apply Kd.R_drew)); exact HO_1.out⟩, ⟨by (with_reducible repeat (first | apply Kd.R_alloc | apply Kd.R_drewN | apply Kd.R_drew)); exact HO_6.out⟩, ⟨by repeat (first | (with_reducible first | exact HB.out | apply below_alloc | apply pw_below_drewN | apply below_drew1) | exact HB.out)⟩⟩
          case round =>
            clear H'
            try clear c1
            try clear p1
            try clear q1
            try clear hx1
            try clear p2
            try clear c5
            try clear c6
            try clear c6b0
            try clear c6b1
            try clear p6
            try clear c12
            try clear c12b0
            try clear c13
            try clear c13b0
            try clear c15
            try clear c15b0
            try clear c16
            try clear c16b0
            try clear c17
            try clear c17b0
            try clear p17
            try clear q17
            try clear hx17
            try clear hx176_0
            try clear hx176_1
            try clear hx176_2
            try clear hx176_3
            try clear hx176_4
            try clear hx176_5
            try clear hx177_0
            try clear hx177_1
            try clear hx177_2
            try clear hx177_3
            try clear p176
            try clear p177
            try clear p2
            try clear q176
            try clear q177
            obtain ⟨x9_2, x10_2, rfl, rfl, HA, HK2, HO_1, HO_6, HB⟩ := hrel
            cases gk with
            | zero => exact absurd HA.out (by simp [gutterlaw18_PaintOrder.l1])
            | succ k2 =>
              have H := HA.out
              clear HA
              simp only [gutterlaw18_PaintOrder.l1] at H
              by_cases c20 : x10_2 < (t169.length : Int)
              · rw [if_pos c20] at H
                have c20b0 : decide (x10_2 < (t169.length : Int)) = true := decide_eq_true c20
                clear c20
                have HC21 := Aside0.mk H
                clear H
                go_upto_region 16 with (fail)
                repeat (go_quiet (fail); go_upto_region 16 with (fail))
                go_cut [75] (fun v75 wc => ∃ (kq : Nat) (x75_20 : Bool), v75 = .bool x75_20 ∧ Aside0 (gutterlaw18_PaintOrder.j2 kq t169 t164 t172 x9_2 x10_2 x75_20 = some r) ∧ Aside0 (kq ≤ k2) ∧ Aside0 (Kd.R k41 41 wc w.heap.size (fun _ => True) (.slice Ao10 t169.length co10) t169) ∧ Aside0 (Kd.R k39 39 wc w.heap.size (fun _ => True) v174 t172) ∧ Aside0 (Below w.heap.size w wc))
                case first =>
                  have H := HC21.out
                  clear HC21
                  by_cases c22 : 0 ≤ x10_2
                  · rw [if_pos c22] at H
                    have c22b0 : decide (0 ≤ x10_2) = true := decide_eq_true c22
                    clear c22
                    (first | rw [c22b0] | (simp only [i64_w, i32_w]; rw [c22b0]) | skip)
                    by_cases c23 : ((rd_T41 t169 x10_2).f3.f2) = 0
                    · rw [if_pos c23] at H
                      have c23b0 : (((rd_T41 t169 x10_2).f3.f2) == 0) = true := beq_iff_eq.mpr c23
                      have c23b1 : (((rd_T41 t169 x10_2).f3.f2) != 0) = false := bne_eq_false_iff_eq.mpr c23
                      clear c23
                      have H' := Aside0.mk H
                      clear H
                      have p178 : 0 ≤ (x10_2 : Int) := of_decide_eq_true (by first | (with_reducible assumption) | assumption)
                      have q178 : x10_2 < (t169.length : Int) := of_decide_eq_true (by first | (with_reducible assumption) | assumption)
                      obtain ⟨ad178, e178, hx178_0, hx178_1, hx178_2, hx178_3, hx178_4, hx178_5, hx178_6⟩ := at_T41 (Kd.R_reads' HO_1.out).2.2 x10_2 p178 q178
                      cases e178
                      replace p178 := eq_true p178
                      replace q178 := eq_true q178
                      go_wp2
                      repeat (go_quiet (fail); try go_wp2)
                      go_meet
                      case rel => exact ⟨_, (true), (by first | rfl | (simp; done) | (simp [*]; done)), H', ⟨by have := HK1.out; have := HK2.out; first | omega | exact Nat.le_refl _⟩, ⟨by (with_reducible repeat (first | apply Kd.R_alloc | apply Kd.R_drewN | apply Kd.R_drew)); exact HO_1.out⟩, ⟨by (with_reducible repeat (first | apply Kd.R_alloc | apply Kd.R_drewN | apply Kd.R_drew)); exact HO_6.out⟩, ⟨by repeat (first | (with_reducible first | exact HB.out | apply below_alloc | apply pw_below_drewN | apply below_drew1) | exact HB.out)⟩⟩
                    · rw [if_neg c23] at H
                      have c23b0 : (((rd_T41 t169 x10_2).f3.f2) == 0) = false := beq_eq_false_iff_ne.mpr c23
                      have c23b1 : (((rd_T41 t169 x10_2).f3.f2) != 0) = true := bne_iff_ne.mpr c23
                      have H' := Aside0.mk H
                      clear H
                      have p178 : 0 ≤ (x10_2 : Int) := of_decide_eq_true (by first | (with_reducible assumption) | assumption)
                      have q178 : x10_2 < (t169.length : Int) := of_decide_eq_true (by first | (with_reducible assumption) | assumption)
                      obtain ⟨ad178, e178, hx178_0, hx178_1, hx178_2, hx178_3, hx178_4, hx178_5, hx178_6⟩ := at_T41 (Kd.R_reads' HO_1.out).2.2 x10_2 p178 q178
                      cases e178
                      replace p178 := eq_true p178
                      replace q178 := eq_true q178
                      have p179 : 0 ≤ (x10_2 : Int) := of_decide_eq_true (by first | (with_reducible assumption) | assumption)
                      have q179 : x10_2 < (t169.length : Int) := of_decide_eq_true (by first | (with_reducible assumption) | assumption)
                      obtain ⟨ad179, e179, hx179_0, hx179_1, hx179_2, hx179_3, hx179_4, hx179_5, hx179_6⟩ := at_T41 (Kd.R_reads' HO_1.out).2.2 x10_2 p179 q179
                      obtain rfl : ad178 = ad179 := (by injection e179)
                      replace p179 := eq_true p179
                      replace q179 := eq_true q179
                      go_wp2
                      repeat (go_quiet (fail); try go_wp2)
                      go_meet
                      case rel => exact ⟨_, ((((rd_T41 t169 x10_2).f3.f3) == 0)), (by first | rfl | (simp; done) | (simp [*]; done)), H', ⟨by have := HK1.out; have := HK2.out; first | omega | exact Nat.le_refl _⟩, ⟨by (with_reducible repeat (first | apply Kd.R_alloc | apply Kd.R_drewN | apply Kd.R_drew)); exact HO_1.out⟩, ⟨by (with_reducible repeat (first | apply Kd.R_alloc | apply Kd.R_drewN | apply Kd.R_drew)); exact HO_6.out⟩, ⟨by repeat (first | (with_reducible first | exact HB.out | apply below_alloc | apply pw_below_drewN | apply below_drew1) | exact HB.out)⟩⟩
                  · rw [if_neg c22] at H
                    exact absurd H (by simp)
                case rest =>
                  clear HC21
                  try clear c1
                  try clear p1
                  try clear q1
                  try clear hx1
                  try clear c2
                  try clear p2
                  try clear c5
                  try clear c6
                  try clear c6b0
                  try clear c6b1
                  try clear p6
                  try clear c12
                  try clear c12b0
                  try clear c13
                  try clear c13b0
                  try clear c15
                  try clear c15b0
                  try clear c16
                  try clear c16b0
                  try clear c17
                  try clear c17b0
                  try clear p17
                  try clear q17
                  try clear hx17
                  try clear c20
                  try clear c20b0
                  try clear c22
                  try clear c22b0
                  try clear c23
                  try clear c23b0
                  try clear c23b1
                  try clear hx176_0
                  try clear hx176_1
                  try clear hx176_2
                  try clear hx176_3
                  try clear hx176_4
                  try clear hx176_5
                  try clear hx177_0
                  try clear hx177_1
                  try clear hx177_2
                  try clear hx177_3
                  try clear hx178_0
                  try clear hx178_1
                  try clear hx178_2
                  try clear hx178_3
                  try clear hx178_4
                  try clear hx178_5
                  try clear hx178_6
                  try clear hx179_0
                  try clear hx179_1
                  try clear hx179_2
                  try clear hx179_3
                  try clear hx179_4
                  try clear hx179_5
                  try clear hx179_6
                  try clear p1
                  try clear p17
                  try clear p176
                  try clear p177
                  try clear p178
                  try clear p179
                  try clear p2
                  try clear p6
                  try clear q1
                  try clear q17
                  try clear q176
                  try clear q177
                  try clear q178
                  try clear q179
                  obtain ⟨kq, x75_20, rfl, HA, HJ20, HO_1, HO_6, HB⟩ := hcut
                  cases kq with
                  | zero => exact absurd HA.out (by simp [gutterlaw18_PaintOrder.j2])
                  | succ kj20 =>
                    have H := HA.out
                    clear HA
                    simp only [gutterlaw18_PaintOrder.j2] at H
                    by_cases c24 : x75_20 = true
                    · subst c24
                      have H1 : (gutterlaw18_PaintOrder.l1 kj20 t169 t164 t172 x9_2 (wrap64 (x10_2 + 1))) = some r := by rw [if_pos rfl] at H; exact H
                      clear H
                      have H := H1
                      clear H1
                      have H' := Aside0.mk H
                      clear H
                      go_wp2
                      repeat (go_quiet (fail); try go_wp2)
                      go_roundg kj20
                      case measure => have := HK1.out; have := HK2.out; have := HJ20.out; omega
                      case rel => exact ⟨(x9_2), (wrap64 (x10_2 + 1)), (by first | rfl | (simp; done) | (simp [*]; done)), (by first | rfl | (simp; done) | (simp [*]; done)), H', ⟨by have := HK1.out; have := HK2.out; have := HJ20.out; omega⟩, ⟨by (with_reducible repeat (first | apply Kd.R_alloc | apply Kd.R_drewN | apply Kd.R_drew)); exact HO_1.out⟩, ⟨by (with_reducible repeat (first | apply Kd.R_alloc | apply Kd.R_drewN | apply Kd.R_drew)); exact HO_6.out⟩, ⟨by repeat (first | (with_reducible first | exact HB.out | apply below_alloc | apply pw_below_drewN | apply below_drew1) | exact HB.out)⟩⟩
                    · replace c24 := Bool.eq_false_iff.mpr c24
                      subst c24
                      have H1 : (if x9_2 ≥ (t172.length : Int) then (some false) else (if 0 ≤ x9_2 then (if x9_2 < (t172.length : Int) then (if 0 ≤ x10_2 then (if x10_2 < (t169.length : Int) then (if (((rd_T39 t172 x9_2).f0) || (!(((rd_T39 t172 x9_2).f1) == ((rd_T41 t169 x10_2).f0)) || ((!(((rd_T39 t172 x9_2).f2.f0) == ((rd_T41 t169 x10_2).f3.f0)) || (!(((rd_T39 t172 x9_2).f2.f1) == ((rd_T41 t169 x10_2).f3.f1)) || (!(((rd_T39 t172 x9_2).f2.f2) == ((rd_T41 t169 x10_2).f3.f2)) || (!(((rd_T39 t172 x9_2).f2.f3) == ((rd_T41 t169 x10_2).f3.f3))))))))) = true then (some false) else (gutterlaw18_PaintOrder.l1 kj20 t169 t164 t172 (wrap64 (x9_2 + 1)) (wrap64 (x10_2 + 1)))) else (none)) else (none)) else (none)) else (none))) = some r := by rw [if_neg (show ¬ (false = true) by decide)] at H; exact H
                      clear H
                      have H := H1
                      clear H1
                      by_cases c25 : x9_2 ≥ (t172.length : Int)
                      · rw [if_pos c25] at H
                        have c25b0 : decide ((t172.length : Int) ≤ x9_2) = true := decide_eq_true c25
                        clear c25
                        obtain rfl := Option.some.inj H
                        obtain ⟨Ao26, co26, eo26⟩ := Kd.R_slice HO_6.out
                        subst eo26
                        go_wp2
                        repeat (go_quiet (fail); try go_wp2)
                        go_ret
                        exact ⟨by first | rfl | (simp [errW_none, errW_some] <;> rfl) | (simp [*, errW_none, errW_some] <;> rfl), by repeat (first | (with_reducible first | exact HB.out | apply below_alloc | apply pw_below_drewN | apply below_drew1) | exact HB.out)⟩
                      · rw [if_neg c25] at H
                        have c25b0 : decide ((t172.length : Int) ≤ x9_2) = false := decide_eq_false c25
                        clear c25
                        by_cases c27 : 0 ≤ x9_2
                        · rw [if_pos c27] at H
                          have c27b0 : decide (0 ≤ x9_2) = true := decide_eq_true c27
                          clear c27
                          by_cases c28 : x9_2 < (t172.length : Int)
                          · rw [if_pos c28] at H
                            have c28b0 : decide (x9_2 < (t172.length : Int)) = true := decide_eq_true c28
                            clear c28
                            by_cases c29 : 0 ≤ x10_2
                            · rw [if_pos c29] at H
                              have c29b0 : decide (0 ≤ x10_2) = true := decide_eq_true c29
                              clear c29
                              by_cases c30 : x10_2 < (t169.length : Int)
                              · rw [if_pos c30] at H
                                have c30b0 : decide (x10_2 < (t169.length : Int)) = true := decide_eq_true c30
                                clear c30
                                by_cases c31 : (((rd_T39 t172 x9_2).f0) || (!(((rd_T39 t172 x9_2).f1) == ((rd_T41 t169 x10_2).f0)) || ((!(((rd_T39 t172 x9_2).f2.f0) == ((rd_T41 t169 x10_2).f3.f0)) || (!(((rd_T39 t172 x9_2).f2.f1) == ((rd_T41 t169 x10_2).f3.f1)) || (!(((rd_T39 t172 x9_2).f2.f2) == ((rd_T41 t169 x10_2).f3.f2)) || (!(((rd_T39 t172 x9_2).f2.f3) == ((rd_T41 t169 x10_2).f3.f3))))))))) = true
                                · rw [if_pos c31] at H
                                  have c31b0 : (((rd_T39 t172 x9_2).f0) || (!(((rd_T39 t172 x9_2).f1) == ((rd_T41 t169 x10_2).f0)) || ((!(((rd_T39 t172 x9_2).f2.f0) == ((rd_T41 t169 x10_2).f3.f0)) || (!(((rd_T39 t172 x9_2).f2.f1) == ((rd_T41 t169 x10_2).f3.f1)) || (!(((rd_T39 t172 x9_2).f2.f2) == ((rd_T41 t169 x10_2).f3.f2)) || (!(((rd_T39 t172 x9_2).f2.f3) == ((rd_T41 t169 x10_2).f3.f3))))))))) = true := c31
                                  clear c31
                                  obtain rfl := Option.some.inj H
                                  obtain ⟨Ao32, co32, eo32⟩ := Kd.R_slice HO_6.out
                                  subst eo32
                                  have p180 : 0 ≤ (x9_2 : Int) := of_decide_eq_true (by first | (with_reducible assumption) | assumption)
                                  have q180 : x9_2 < (t172.length : Int) := of_decide_eq_true (by first | (with_reducible assumption) | assumption)
                                  obtain ⟨ad180, e180, hx180_0, hx180_1, hx180_2, hx180_3, hx180_4, hx180_5⟩ := at_T39 (Kd.R_reads' HO_6.out).2.2 x9_2 p180 q180
                                  cases e180
                                  replace p180 := eq_true p180
                                  replace q180 := eq_true q180
                                  have p181 : 0 ≤ (x10_2 : Int) := of_decide_eq_true (by first | (with_reducible assumption) | assumption)
                                  have q181 : x10_2 < (t169.length : Int) := of_decide_eq_true (by first | (with_reducible assumption) | assumption)
                                  obtain ⟨ad181, e181, hx181_0, hx181_1, hx181_2, hx181_3, hx181_4, hx181_5, hx181_6⟩ := at_T41 (Kd.R_reads' HO_1.out).2.2 x10_2 p181 q181
                                  cases e181
                                  replace p181 := eq_true p181
                                  replace q181 := eq_true q181
                                  have p182 : 0 ≤ (x10_2 : Int) := of_decide_eq_true (by first | (with_reducible assumption) | assumption)
                                  have q182 : x10_2 < (t169.length : Int) := of_decide_eq_true (by first | (with_reducible assumption) | assumption)
                                  obtain ⟨ad182, e182, hx182_0, hx182_1, hx182_2, hx182_3, hx182_4, hx182_5, hx182_6⟩ := at_T41 (Kd.R_reads' HO_1.out).2.2 x10_2 p182 q182
                                  obtain rfl : ad181 = ad182 := (by injection e182)
                                  replace p182 := eq_true p182
                                  replace q182 := eq_true q182
                                  go_wp2
                                  repeat (go_quiet (fail); try go_wp2)
                                  go_ret
                                  exact ⟨by first | rfl | (simp [errW_none, errW_some] <;> rfl) | (simp [*, errW_none, errW_some] <;> rfl), by repeat (first | (with_reducible first | exact HB.out | apply below_alloc | apply pw_below_drewN | apply below_drew1) | exact HB.out)⟩
                                · rw [if_neg c31] at H
                                  have c31b0 : (((rd_T39 t172 x9_2).f0) || (!(((rd_T39 t172 x9_2).f1) == ((rd_T41 t169 x10_2).f0)) || ((!(((rd_T39 t172 x9_2).f2.f0) == ((rd_T41 t169 x10_2).f3.f0)) || (!(((rd_T39 t172 x9_2).f2.f1) == ((rd_T41 t169 x10_2).f3.f1)) || (!(((rd_T39 t172 x9_2).f2.f2) == ((rd_T41 t169 x10_2).f3.f2)) || (!(((rd_T39 t172 x9_2).f2.f3) == ((rd_T41 t169 x10_2).f3.f3))))))))) = false := by simpa using c31
                                  clear c31
                                  have H' := Aside0.mk H
                                  clear H
                                  obtain ⟨Ao33, co33, eo33⟩ := Kd.R_slice HO_6.out
                                  subst eo33
                                  have p180 : 0 ≤ (x9_2 : Int) := of_decide_eq_true (by first | (with_reducible assumption) | assumption)
                                  have q180 : x9_2 < (t172.length : Int) := of_decide_eq_true (by first | (with_reducible assumption) | assumption)
                                  obtain ⟨ad180, e180, hx180_0, hx180_1, hx180_2, hx180_3, hx180_4, hx180_5⟩ := at_T39 (Kd.R_reads' HO_6.out).2.2 x9_2 p180 q180
                                  cases e180
                                  replace p180 := eq_true p180
                                  replace q180 := eq_true q180
                                  have p181 : 0 ≤ (x10_2 : Int) := of_decide_eq_true (by first | (with_reducible assumption) | assumption)
                                  have q181 : x10_2 < (t169.length : Int) := of_decide_eq_true (by first | (with_reducible assumption) | assumption)
                                  obtain ⟨ad181, e181, hx181_0, hx181_1, hx181_2, hx181_3, hx181_4, hx181_5, hx181_6⟩ := at_T41 (Kd.R_reads' HO_1.out).2.2 x10_2 p181 q181
                                  cases e181
                                  replace p181 := eq_true p181
                                  replace q181 := eq_true q181
                                  have p182 : 0 ≤ (x10_2 : Int) := of_decide_eq_true (by first | (with_reducible assumption) | assumption)
                                  have q182 : x10_2 < (t169.length : Int) := of_decide_eq_true (by first | (with_reducible assumption) | assumption)
                                  obtain ⟨ad182, e182, hx182_0, hx182_1, hx182_2, hx182_3, hx182_4, hx182_5, hx182_6⟩ := at_T41 (Kd.R_reads' HO_1.out).2.2 x10_2 p182 q182
                                  obtain rfl : ad181 = ad182 := (by injection e182)
                                  replace p182 := eq_true p182
                                  replace q182 := eq_true q182
                                  go_wp2
                                  repeat (go_quiet (fail); try go_wp2)
                                  go_roundg kj20
                                  case measure => have := HK1.out; have := HK2.out; have := HJ20.out; omega
                                  case rel => exact ⟨(wrap64 (x9_2 + 1)), (wrap64 (x10_2 + 1)), (by first | rfl | (simp; done) | (simp [*]; done)), (by first | rfl | (simp; done) | (simp [*]; done)), H', ⟨by have := HK1.out; have := HK2.out; have := HJ20.out; omega⟩, ⟨by (with_reducible repeat (first | apply Kd.R_alloc | apply Kd.R_drewN | apply Kd.R_drew)); exact HO_1.out⟩, ⟨by (with_reducible repeat (first | apply Kd.R_alloc | apply Kd.R_drewN | apply Kd.R_drew)); exact HO_6.out⟩, ⟨by repeat (first | (with_reducible first | exact HB.out | apply below_alloc | apply pw_below_drewN | apply below_drew1) | exact HB.out)⟩⟩
                              · rw [if_neg c30] at H
                                exact absurd H (by simp)
                            · rw [if_neg c29] at H
                              exact absurd H (by simp)
                          · rw [if_neg c28] at H
                            exact absurd H (by simp)
                        · rw [if_neg c27] at H
                          exact absurd H (by simp)
              · rw [if_neg c20] at H
                have c20b0 : decide (x10_2 < (t169.length : Int)) = false := decide_eq_false c20
                clear c20
                by_cases c34 : t164 = true
                · subst c34
                  have H1 : (some (x9_2 == (t172.length : Int))) = some r := by rw [if_pos rfl] at H; exact H
                  clear H
                  have H := H1
                  clear H1
                  obtain rfl := Option.some.inj H
                  obtain ⟨Ao35, co35, eo35⟩ := Kd.R_slice HO_6.out
                  subst eo35
                  go_wp2
                  repeat (go_quiet (fail); try go_wp2)
                  go_ret
                  exact ⟨by first | rfl | (simp [errW_none, errW_some] <;> rfl) | (simp [*, errW_none, errW_some] <;> rfl), by repeat (first | (with_reducible first | exact HB.out | apply below_alloc | apply pw_below_drewN | apply below_drew1) | exact HB.out)⟩
                · replace c34 := Bool.eq_false_iff.mpr c34
                  subst c34
                  have H1 : (some false) = some r := by rw [if_neg (show ¬ (false = true) by decide)] at H; exact H
                  clear H
                  have H := H1
                  clear H1
                  obtain rfl := Option.some.inj H
                  go_wp2
                  repeat (go_quiet (fail); try go_wp2)
                  go_ret
                  exact ⟨by first | rfl | (simp [errW_none, errW_some] <;> rfl) | (simp [*, errW_none, errW_some] <;> rfl), by repeat (first | (with_reducible first | exact HB.out | apply below_alloc | apply pw_below_drewN | apply below_drew1) | exact HB.out)⟩
  · rw [if_neg c6] at H
    have c6b0 : (t173 == 0) = false := beq_eq_false_iff_ne.mpr c6
    have c6b1 : (t173 != 0) = true := bne_iff_ne.mpr c6
    by_cases c36 : t164 = true
    · subst c36
      have H1 : (some ((t172.length : Int) == 0)) = some r := by rw [if_pos rfl] at H; exact H
      clear H
      have H := H1
      clear H1
      obtain rfl := Option.some.inj H
      go_enter Tryd.func5, Tryd.ntmps5
      go_wp2_with (first | (go_at_call 9; (with_reducible refine (gutterlaw18_shown.calls k  true _ A3.out (GOK.below HG.out (by repeat (first | (with_reducible first | exact HB.out | apply below_alloc | apply pw_below_drewN | apply below_drew1) | exact HB.out)))).mono ?_); rintro e w37 ⟨rfl, hb⟩; have n0_ := Aside0.mk (below_step (by repeat (first | (with_reducible first | exact HB.out | apply below_alloc | apply pw_below_drewN | apply below_drew1) | exact HB.out)) hb); clear HB; have HB := n0_; clear n0_; (try clear hb); (try clear hb2); (try clear hk); (try clear hi); have hroom38 : l0.length ≤ c0 := HC0.out; have hr38 := C_takeN 60 HR0.out; rw [← Ny165.out] at hr38; have hy38 : y165.length ≤ l0.length := (by rw [Ny165.out, List.length_take]; omega); have HR168 := Aside0.mk hr38; have HC168 := Aside0.mk (show y165.length ≤ c0 from by omega); have KR38 := Aside0.mk hroom38; clear hr38 hroom38; have KY38 := Aside0.mk hy38; clear hy38) | (go_at_call 13; refine calls_of_args (args' := #[.slice A0 l0.length c0]) (by (try simp only [List.map_toArray, List.map_cons, List.map_nil]); first | done | rfl) ?_; refine (cut_13 A0 c0 l0 y165 _ KR38.out Ny165.out).mono ?_; rintro e w' ⟨rfl, rfl⟩) | (go_at_call 14; refine calls_of_args (args' := #[.slice A1 l1.length c1]) (by (try simp only [List.map_toArray, List.map_cons, List.map_nil]); first | done | rfl | (simp only [List.length_drop, List.length_take]; rfl)) ?_; (with_reducible refine (gutterlaw17_Pieces.calls k _ _ l1 t169 _ ?side1 ?side2 A4.out).mono ?_); (case side1 => repeat (first | exact (Kd.C_below HR1.out HB.out) | (with_reducible refine Kd.C_alloc ?_ _) | (with_reducible refine Kd.C_drewN ?_ _) | (with_reducible refine Kd.C_drew ?_))); (case side2 => exact HC1.out); rintro e w39 ⟨v170, rfl, ho0, hb⟩; have n0_ := Aside0.mk (Kd.R_lower ho0 (below_size (by repeat (first | (with_reducible first | exact HB.out | apply below_alloc | apply pw_below_drewN | apply below_drew1) | exact HB.out)))); have n1_ := Aside0.mk (below_step (by repeat (first | (with_reducible first | exact HB.out | apply below_alloc | apply pw_below_drewN | apply below_drew1) | exact HB.out)) hb); clear HB; have HO171 := n0_; have HB := n1_; clear n0_ n1_; (try clear hb); (try clear hb2); (try clear hk); (try clear hi); (try clear ho0); obtain ⟨Ao40, co40, eo40⟩ := Kd.R_slice HO171.out; subst eo40) | (go_at_call 15; refine calls_of_args (args' := #[.slice A0 y165.length c0, .slice Ao40 t169.length co40]) (by (try simp only [List.map_toArray, List.map_cons, List.map_nil]); first | done | rfl | (simp only [List.length_drop, List.length_take]; rfl)) ?_; (with_reducible refine (paint_Draws.calls _ _ y165 _ _ t169 t172 t173 _ ?side1 ?side2 ?side3 ?side4 A5.out (GOK.below HG.out (by repeat (first | (with_reducible first | exact HB.out | apply below_alloc | apply pw_below_drewN | apply below_drew1) | exact HB.out)))).mono ?_); (case side1 => repeat (first | exact (Kd.C_below HR168.out HB.out) | (with_reducible refine Kd.C_alloc ?_ _) | (with_reducible refine Kd.C_drewN ?_ _) | (with_reducible refine Kd.C_drew ?_))); (case side2 => exact HC168.out); (case side3 => repeat (first | exact (Kd.R_reads' HO171.out).2.2 | (with_reducible refine Kd.C_alloc ?_ _) | (with_reducible refine Kd.C_drewN ?_ _) | (with_reducible refine Kd.C_drew ?_))); (case side4 => exact (Kd.R_reads' HO171.out).2.1); rintro e w41 ⟨v174, rfl, ho0, hb⟩; have n0_ := Aside0.mk (Kd.R_below (by (with_reducible repeat (first | apply Kd.R_alloc | apply Kd.R_drewN | apply Kd.R_drew)); exact HO171.out) hb); have n1_ := Aside0.mk (Kd.R_lower ho0 (below_size (by repeat (first | (with_reducible first | exact HB.out | apply below_alloc | apply pw_below_drewN | apply below_drew1) | exact HB.out)))); have n2_ := Aside0.mk (below_step (by repeat (first | (with_reducible first | exact HB.out | apply below_alloc | apply pw_below_drewN | apply below_drew1) | exact HB.out)) hb); clear HO171; clear HB; have HO171 := n0_; have HO175 := n1_; have HB := n2_; clear n0_ n1_ n2_; (try clear hb); (try clear hb2); (try clear hk); (try clear hi); (try clear ho0); obtain ⟨Ao42, co42, eo42⟩ := Kd.R_slice HO175.out; subst eo42))
      repeat (go_quiet (first | (go_at_call 9; (with_reducible refine (gutterlaw18_shown.calls k  true _ A3.out (GOK.below HG.out (by repeat (first | (with_reducible first | exact HB.out | apply below_alloc | apply pw_below_drewN | apply below_drew1) | exact HB.out)))).mono ?_); rintro e w37 ⟨rfl, hb⟩; have n0_ := Aside0.mk (below_step (by repeat (first | (with_reducible first | exact HB.out | apply below_alloc | apply pw_below_drewN | apply below_drew1) | exact HB.out)) hb); clear HB; have HB := n0_; clear n0_; (try clear hb); (try clear hb2); (try clear hk); (try clear hi); have hroom38 : l0.length ≤ c0 := HC0.out; have hr38 := C_takeN 60 HR0.out; rw [← Ny165.out] at hr38; have hy38 : y165.length ≤ l0.length := (by rw [Ny165.out, List.length_take]; omega); have HR168 := Aside0.mk hr38; have HC168 := Aside0.mk (show y165.length ≤ c0 from by omega); have KR38 := Aside0.mk hroom38; clear hr38 hroom38; have KY38 := Aside0.mk hy38; clear hy38) | (go_at_call 13; refine calls_of_args (args' := #[.slice A0 l0.length c0]) (by (try simp only [List.map_toArray, List.map_cons, List.map_nil]); first | done | rfl) ?_; refine (cut_13 A0 c0 l0 y165 _ KR38.out Ny165.out).mono ?_; rintro e w' ⟨rfl, rfl⟩) | (go_at_call 14; refine calls_of_args (args' := #[.slice A1 l1.length c1]) (by (try simp only [List.map_toArray, List.map_cons, List.map_nil]); first | done | rfl | (simp only [List.length_drop, List.length_take]; rfl)) ?_; (with_reducible refine (gutterlaw17_Pieces.calls k _ _ l1 t169 _ ?side1 ?side2 A4.out).mono ?_); (case side1 => repeat (first | exact (Kd.C_below HR1.out HB.out) | (with_reducible refine Kd.C_alloc ?_ _) | (with_reducible refine Kd.C_drewN ?_ _) | (with_reducible refine Kd.C_drew ?_))); (case side2 => exact HC1.out); rintro e w39 ⟨v170, rfl, ho0, hb⟩; have n0_ := Aside0.mk (Kd.R_lower ho0 (below_size (by repeat (first | (with_reducible first | exact HB.out | apply below_alloc | apply pw_below_drewN | apply below_drew1) | exact HB.out)))); have n1_ := Aside0.mk (below_step (by repeat (first | (with_reducible first | exact HB.out | apply below_alloc | apply pw_below_drewN | apply below_drew1) | exact HB.out)) hb); clear HB; have HO171 := n0_; have HB := n1_; clear n0_ n1_; (try clear hb); (try clear hb2); (try clear hk); (try clear hi); (try clear ho0); obtain ⟨Ao40, co40, eo40⟩ := Kd.R_slice HO171.out; subst eo40) | (go_at_call 15; refine calls_of_args (args' := #[.slice A0 y165.length c0, .slice Ao40 t169.length co40]) (by (try simp only [List.map_toArray, List.map_cons, List.map_nil]); first | done | rfl | (simp only [List.length_drop, List.length_take]; rfl)) ?_; (with_reducible refine (paint_Draws.calls _ _ y165 _ _ t169 t172 t173 _ ?side1 ?side2 ?side3 ?side4 A5.out (GOK.below HG.out (by repeat (first | (with_reducible first | exact HB.out | apply below_alloc | apply pw_below_drewN | apply below_drew1) | exact HB.out)))).mono ?_); (case side1 => repeat (first | exact (Kd.C_below HR168.out HB.out) | (with_reducible refine Kd.C_alloc ?_ _) | (with_reducible refine Kd.C_drewN ?_ _) | (with_reducible refine Kd.C_drew ?_))); (case side2 => exact HC168.out); (case side3 => repeat (first | exact (Kd.R_reads' HO171.out).2.2 | (with_reducible refine Kd.C_alloc ?_ _) | (with_reducible refine Kd.C_drewN ?_ _) | (with_reducible refine Kd.C_drew ?_))); (case side4 => exact (Kd.R_reads' HO171.out).2.1); rintro e w41 ⟨v174, rfl, ho0, hb⟩; have n0_ := Aside0.mk (Kd.R_below (by (with_reducible repeat (first | apply Kd.R_alloc | apply Kd.R_drewN | apply Kd.R_drew)); exact HO171.out) hb); have n1_ := Aside0.mk (Kd.R_lower ho0 (below_size (by repeat (first | (with_reducible first | exact HB.out | apply below_alloc | apply pw_below_drewN | apply below_drew1) | exact HB.out)))); have n2_ := Aside0.mk (below_step (by repeat (first | (with_reducible first | exact HB.out | apply below_alloc | apply pw_below_drewN | apply below_drew1) | exact HB.out)) hb); clear HO171; clear HB; have HO171 := n0_; have HO175 := n1_; have HB := n2_; clear n0_ n1_ n2_; (try clear hb); (try clear hb2); (try clear hk); (try clear hi); (try clear ho0); obtain ⟨Ao42, co42, eo42⟩ := Kd.R_slice HO175.out; subst eo42)); try go_wp2_with (first | (go_at_call 9; (with_reducible refine (gutterlaw18_shown.calls k  true _ A3.out (GOK.below HG.out (by repeat (first | (with_reducible first | exact HB.out | apply below_alloc | apply pw_below_drewN | apply below_drew1) | exact HB.out)))).mono ?_); rintro e w37 ⟨rfl, hb⟩; have n0_ := Aside0.mk (below_step (by repeat (first | (with_reducible first | exact HB.out | apply below_alloc | apply pw_below_drewN | apply below_drew1) | exact HB.out)) hb); clear HB; have HB := n0_; clear n0_; (try clear hb); (try clear hb2); (try clear hk); (try clear hi); have hroom38 : l0.length ≤ c0 := HC0.out; have hr38 := C_takeN 60 HR0.out; rw [← Ny165.out] at hr38; have hy38 : y165.length ≤ l0.length := (by rw [Ny165.out, List.length_take]; omega); have HR168 := Aside0.mk hr38; have HC168 := Aside0.mk (show y165.length ≤ c0 from by omega); have KR38 := Aside0.mk hroom38; clear hr38 hroom38; have KY38 := Aside0.mk hy38; clear hy38) | (go_at_call 13; refine calls_of_args (args' := #[.slice A0 l0.length c0]) (by (try simp only [List.map_toArray, List.map_cons, List.map_nil]); first | done | rfl) ?_; refine (cut_13 A0 c0 l0 y165 _ KR38.out Ny165.out).mono ?_; rintro e w' ⟨rfl, rfl⟩) | (go_at_call 14; refine calls_of_args (args' := #[.slice A1 l1.length c1]) (by (try simp only [List.map_toArray, List.map_cons, List.map_nil]); first | done | rfl | (simp only [List.length_drop, List.length_take]; rfl)) ?_; (with_reducible refine (gutterlaw17_Pieces.calls k _ _ l1 t169 _ ?side1 ?side2 A4.out).mono ?_); (case side1 => repeat (first | exact (Kd.C_below HR1.out HB.out) | (with_reducible refine Kd.C_alloc ?_ _) | (with_reducible refine Kd.C_drewN ?_ _) | (with_reducible refine Kd.C_drew ?_))); (case side2 => exact HC1.out); rintro e w39 ⟨v170, rfl, ho0, hb⟩; have n0_ := Aside0.mk (Kd.R_lower ho0 (below_size (by repeat (first | (with_reducible first | exact HB.out | apply below_alloc | apply pw_below_drewN | apply below_drew1) | exact HB.out)))); have n1_ := Aside0.mk (below_step (by repeat (first | (with_reducible first | exact HB.out | apply below_alloc | apply pw_below_drewN | apply below_drew1) | exact HB.out)) hb); clear HB; have HO171 := n0_; have HB := n1_; clear n0_ n1_; (try clear hb); (try clear hb2); (try clear hk); (try clear hi); (try clear ho0); obtain ⟨Ao40, co40, eo40⟩ := Kd.R_slice HO171.out; subst eo40) | (go_at_call 15; refine calls_of_args (args' := #[.slice A0 y165.length c0, .slice Ao40 t169.length co40]) (by (try simp only [List.map_toArray, List.map_cons, List.map_nil]); first | done | rfl | (simp only [List.length_drop, List.length_take]; rfl)) ?_; (with_reducible refine (paint_Draws.calls _ _ y165 _ _ t169 t172 t173 _ ?side1 ?side2 ?side3 ?side4 A5.out (GOK.below HG.out (by repeat (first | (with_reducible first | exact HB.out | apply below_alloc | apply pw_below_drewN | apply below_drew1) | exact HB.out)))).mono ?_); (case side1 => repeat (first | exact (Kd.C_below HR168.out HB.out) | (with_reducible refine Kd.C_alloc ?_ _) | (with_reducible refine Kd.C_drewN ?_ _) | (with_reducible refine Kd.C_drew ?_))); (case side2 => exact HC168.out); (case side3 => repeat (first | exact (Kd.R_reads' HO171.out).2.2 | (with_reducible refine Kd.C_alloc ?_ _) | (with_reducible refine Kd.C_drewN ?_ _) | (with_reducible refine Kd.C_drew ?_))); (case side4 => exact (Kd.R_reads' HO171.out).2.1); rintro e w41 ⟨v174, rfl, ho0, hb⟩; have n0_ := Aside0.mk (Kd.R_below (by (with_reducible repeat (first | apply Kd.R_alloc | apply Kd.R_drewN | apply Kd.R_drew)); exact HO171.out) hb); have n1_ := Aside0.mk (Kd.R_lower ho0 (below_size (by repeat (first | (with_reducible first | exact HB.out | apply below_alloc | apply pw_below_drewN | apply below_drew1) | exact HB.out)))); have n2_ := Aside0.mk (below_step (by repeat (first | (with_reducible first | exact HB.out | apply below_alloc | apply pw_below_drewN | apply below_drew1) | exact HB.out)) hb); clear HO171; clear HB; have HO171 := n0_; have HO175 := n1_; have HB := n2_; clear n0_ n1_ n2_; (try clear hb); (try clear hb2); (try clear hk); (try clear hi); (try clear ho0); obtain ⟨Ao42, co42, eo42⟩ := Kd.R_slice HO175.out; subst eo42)))
      go_ret
      exact ⟨by first | rfl | (simp [errW_none, errW_some] <;> rfl) | (simp [*, errW_none, errW_some] <;> rfl), by repeat (first | (with_reducible first | exact HB.out | apply below_alloc | apply pw_below_drewN | apply below_drew1) | exact HB.out)⟩
    · replace c36 := Bool.eq_false_iff.mpr c36
      subst c36
      have H1 : (some false) = some r := by rw [if_neg (show ¬ (false = true) by decide)] at H; exact H
      clear H
      have H := H1
      clear H1
      obtain rfl := Option.some.inj H
      go_enter Tryd.func5, Tryd.ntmps5
      go_wp2_with (first | (go_at_call 9; (with_reducible refine (gutterlaw18_shown.calls k  false _ A3.out (GOK.below HG.out (by repeat (first | (with_reducible first | exact HB.out | apply below_alloc | apply pw_below_drewN | apply below_drew1) | exact HB.out)))).mono ?_); rintro e w43 ⟨rfl, hb⟩; have n0_ := Aside0.mk (below_step (by repeat (first | (with_reducible first | exact HB.out | apply below_alloc | apply pw_below_drewN | apply below_drew1) | exact HB.out)) hb); clear HB; have HB := n0_; clear n0_; (try clear hb); (try clear hb2); (try clear hk); (try clear hi); have hroom44 : l0.length ≤ c0 := HC0.out; have hr44 := C_takeN 60 HR0.out; rw [← Ny165.out] at hr44; have hy44 : y165.length ≤ l0.length := (by rw [Ny165.out, List.length_take]; omega); have HR168 := Aside0.mk hr44; have HC168 := Aside0.mk (show y165.length ≤ c0 from by omega); have KR44 := Aside0.mk hroom44; clear hr44 hroom44; have KY44 := Aside0.mk hy44; clear hy44) | (go_at_call 13; refine calls_of_args (args' := #[.slice A0 l0.length c0]) (by (try simp only [List.map_toArray, List.map_cons, List.map_nil]); first | done | rfl) ?_; refine (cut_13 A0 c0 l0 y165 _ KR44.out Ny165.out).mono ?_; rintro e w' ⟨rfl, rfl⟩) | (go_at_call 14; refine calls_of_args (args' := #[.slice A1 l1.length c1]) (by (try simp only [List.map_toArray, List.map_cons, List.map_nil]); first | done | rfl | (simp only [List.length_drop, List.length_take]; rfl)) ?_; (with_reducible refine (gutterlaw17_Pieces.calls k _ _ l1 t169 _ ?side1 ?side2 A4.out).mono ?_); (case side1 => repeat (first | exact (Kd.C_below HR1.out HB.out) | (with_reducible refine Kd.C_alloc ?_ _) | (with_reducible refine Kd.C_drewN ?_ _) | (with_reducible refine Kd.C_drew ?_))); (case side2 => exact HC1.out); rintro e w45 ⟨v170, rfl, ho0, hb⟩; have n0_ := Aside0.mk (Kd.R_lower ho0 (below_size (by repeat (first | (with_reducible first | exact HB.out | apply below_alloc | apply pw_below_drewN | apply below_drew1) | exact HB.out)))); have n1_ := Aside0.mk (below_step (by repeat (first | (with_reducible first | exact HB.out | apply below_alloc | apply pw_below_drewN | apply below_drew1) | exact HB.out)) hb); clear HB; have HO171 := n0_; have HB := n1_; clear n0_ n1_; (try clear hb); (try clear hb2); (try clear hk); (try clear hi); (try clear ho0); obtain ⟨Ao46, co46, eo46⟩ := Kd.R_slice HO171.out; subst eo46) | (go_at_call 15; refine calls_of_args (args' := #[.slice A0 y165.length c0, .slice Ao46 t169.length co46]) (by (try simp only [List.map_toArray, List.map_cons, List.map_nil]); first | done | rfl | (simp only [List.length_drop, List.length_take]; rfl)) ?_; (with_reducible refine (paint_Draws.calls _ _ y165 _ _ t169 t172 t173 _ ?side1 ?side2 ?side3 ?side4 A5.out (GOK.below HG.out (by repeat (first | (with_reducible first | exact HB.out | apply below_alloc | apply pw_below_drewN | apply below_drew1) | exact HB.out)))).mono ?_); (case side1 => repeat (first | exact (Kd.C_below HR168.out HB.out) | (with_reducible refine Kd.C_alloc ?_ _) | (with_reducible refine Kd.C_drewN ?_ _) | (with_reducible refine Kd.C_drew ?_))); (case side2 => exact HC168.out); (case side3 => repeat (first | exact (Kd.R_reads' HO171.out).2.2 | (with_reducible refine Kd.C_alloc ?_ _) | (with_reducible refine Kd.C_drewN ?_ _) | (with_reducible refine Kd.C_drew ?_))); (case side4 => exact (Kd.R_reads' HO171.out).2.1); rintro e w47 ⟨v174, rfl, ho0, hb⟩; have n0_ := Aside0.mk (Kd.R_below (by (with_reducible repeat (first | apply Kd.R_alloc | apply Kd.R_drewN | apply Kd.R_drew)); exact HO171.out) hb); have n1_ := Aside0.mk (Kd.R_lower ho0 (below_size (by repeat (first | (with_reducible first | exact HB.out | apply below_alloc | apply pw_below_drewN | apply below_drew1) | exact HB.out)))); have n2_ := Aside0.mk (below_step (by repeat (first | (with_reducible first | exact HB.out | apply below_alloc | apply pw_below_drewN | apply below_drew1) | exact HB.out)) hb); clear HO171; clear HB; have HO171 := n0_; have HO175 := n1_; have HB := n2_; clear n0_ n1_ n2_; (try clear hb); (try clear hb2); (try clear hk); (try clear hi); (try clear ho0)))
      repeat (go_quiet (first | (go_at_call 9; (with_reducible refine (gutterlaw18_shown.calls k  false _ A3.out (GOK.below HG.out (by repeat (first | (with_reducible first | exact HB.out | apply below_alloc | apply pw_below_drewN | apply below_drew1) | exact HB.out)))).mono ?_); rintro e w43 ⟨rfl, hb⟩; have n0_ := Aside0.mk (below_step (by repeat (first | (with_reducible first | exact HB.out | apply below_alloc | apply pw_below_drewN | apply below_drew1) | exact HB.out)) hb); clear HB; have HB := n0_; clear n0_; (try clear hb); (try clear hb2); (try clear hk); (try clear hi); have hroom44 : l0.length ≤ c0 := HC0.out; have hr44 := C_takeN 60 HR0.out; rw [← Ny165.out] at hr44; have hy44 : y165.length ≤ l0.length := (by rw [Ny165.out, List.length_take]; omega); have HR168 := Aside0.mk hr44; have HC168 := Aside0.mk (show y165.length ≤ c0 from by omega); have KR44 := Aside0.mk hroom44; clear hr44 hroom44; have KY44 := Aside0.mk hy44; clear hy44) | (go_at_call 13; refine calls_of_args (args' := #[.slice A0 l0.length c0]) (by (try simp only [List.map_toArray, List.map_cons, List.map_nil]); first | done | rfl) ?_; refine (cut_13 A0 c0 l0 y165 _ KR44.out Ny165.out).mono ?_; rintro e w' ⟨rfl, rfl⟩) | (go_at_call 14; refine calls_of_args (args' := #[.slice A1 l1.length c1]) (by (try simp only [List.map_toArray, List.map_cons, List.map_nil]); first | done | rfl | (simp only [List.length_drop, List.length_take]; rfl)) ?_; (with_reducible refine (gutterlaw17_Pieces.calls k _ _ l1 t169 _ ?side1 ?side2 A4.out).mono ?_); (case side1 => repeat (first | exact (Kd.C_below HR1.out HB.out) | (with_reducible refine Kd.C_alloc ?_ _) | (with_reducible refine Kd.C_drewN ?_ _) | (with_reducible refine Kd.C_drew ?_))); (case side2 => exact HC1.out); rintro e w45 ⟨v170, rfl, ho0, hb⟩; have n0_ := Aside0.mk (Kd.R_lower ho0 (below_size (by repeat (first | (with_reducible first | exact HB.out | apply below_alloc | apply pw_below_drewN | apply below_drew1) | exact HB.out)))); have n1_ := Aside0.mk (below_step (by repeat (first | (with_reducible first | exact HB.out | apply below_alloc | apply pw_below_drewN | apply below_drew1) | exact HB.out)) hb); clear HB; have HO171 := n0_; have HB := n1_; clear n0_ n1_; (try clear hb); (try clear hb2); (try clear hk); (try clear hi); (try clear ho0); obtain ⟨Ao46, co46, eo46⟩ := Kd.R_slice HO171.out; subst eo46) | (go_at_call 15; refine calls_of_args (args' := #[.slice A0 y165.length c0, .slice Ao46 t169.length co46]) (by (try simp only [List.map_toArray, List.map_cons, List.map_nil]); first | done | rfl | (simp only [List.length_drop, List.length_take]; rfl)) ?_; (with_reducible refine (paint_Draws.calls _ _ y165 _ _ t169 t172 t173 _ ?side1 ?side2 ?side3 ?side4 A5.out (GOK.below HG.out (by repeat (first | (with_reducible first | exact HB.out | apply below_alloc | apply pw_below_drewN | apply below_drew1) | exact HB.out)))).mono ?_); (case side1 => repeat (first | exact (Kd.C_below HR168.out HB.out) | (with_reducible refine Kd.C_alloc ?_ _) | (with_reducible refine Kd.C_drewN ?_ _) | (with_reducible refine Kd.C_drew ?_))); (case side2 => exact HC168.out); (case side3 => repeat (first | exact (Kd.R_reads' HO171.out).2.2 | (with_reducible refine Kd.C_alloc ?_ _) | (with_reducible refine Kd.C_drewN ?_ _) | (with_reducible refine Kd.C_drew ?_))); (case side4 => exact (Kd.R_reads' HO171.out).2.1); rintro e w47 ⟨v174, rfl, ho0, hb⟩; have n0_ := Aside0.mk (Kd.R_below (by (with_reducible repeat (first | apply Kd.R_alloc | apply Kd.R_drewN | apply Kd.R_drew)); exact HO171.out) hb); have n1_ := Aside0.mk (Kd.R_lower ho0 (below_size (by repeat (first | (with_reducible first | exact HB.out | apply below_alloc | apply pw_below_drewN | apply below_drew1) | exact HB.out)))); have n2_ := Aside0.mk (below_step (by repeat (first | (with_reducible first | exact HB.out | apply below_alloc | apply pw_below_drewN | apply below_drew1) | exact HB.out)) hb); clear HO171; clear HB; have HO171 := n0_; have HO175 := n1_; have HB := n2_; clear n0_ n1_ n2_; (try clear hb); (try clear hb2); (try clear hk); (try clear hi); (try clear ho0))); try go_wp2_with (first | (go_at_call 9; (with_reducible refine (gutterlaw18_shown.calls k  false _ A3.out (GOK.below HG.out (by repeat (first | (with_reducible first | exact HB.out | apply below_alloc | apply pw_below_drewN | apply below_drew1) | exact HB.out)))).mono ?_); rintro e w43 ⟨rfl, hb⟩; have n0_ := Aside0.mk (below_step (by repeat (first | (with_reducible first | exact HB.out | apply below_alloc | apply pw_below_drewN | apply below_drew1) | exact HB.out)) hb); clear HB; have HB := n0_; clear n0_; (try clear hb); (try clear hb2); (try clear hk); (try clear hi); have hroom44 : l0.length ≤ c0 := HC0.out; have hr44 := C_takeN 60 HR0.out; rw [← Ny165.out] at hr44; have hy44 : y165.length ≤ l0.length := (by rw [Ny165.out, List.length_take]; omega); have HR168 := Aside0.mk hr44; have HC168 := Aside0.mk (show y165.length ≤ c0 from by omega); have KR44 := Aside0.mk hroom44; clear hr44 hroom44; have KY44 := Aside0.mk hy44; clear hy44) | (go_at_call 13; refine calls_of_args (args' := #[.slice A0 l0.length c0]) (by (try simp only [List.map_toArray, List.map_cons, List.map_nil]); first | done | rfl) ?_; refine (cut_13 A0 c0 l0 y165 _ KR44.out Ny165.out).mono ?_; rintro e w' ⟨rfl, rfl⟩) | (go_at_call 14; refine calls_of_args (args' := #[.slice A1 l1.length c1]) (by (try simp only [List.map_toArray, List.map_cons, List.map_nil]); first | done | rfl | (simp only [List.length_drop, List.length_take]; rfl)) ?_; (with_reducible refine (gutterlaw17_Pieces.calls k _ _ l1 t169 _ ?side1 ?side2 A4.out).mono ?_); (case side1 => repeat (first | exact (Kd.C_below HR1.out HB.out) | (with_reducible refine Kd.C_alloc ?_ _) | (with_reducible refine Kd.C_drewN ?_ _) | (with_reducible refine Kd.C_drew ?_))); (case side2 => exact HC1.out); rintro e w45 ⟨v170, rfl, ho0, hb⟩; have n0_ := Aside0.mk (Kd.R_lower ho0 (below_size (by repeat (first | (with_reducible first | exact HB.out | apply below_alloc | apply pw_below_drewN | apply below_drew1) | exact HB.out)))); have n1_ := Aside0.mk (below_step (by repeat (first | (with_reducible first | exact HB.out | apply below_alloc | apply pw_below_drewN | apply below_drew1) | exact HB.out)) hb); clear HB; have HO171 := n0_; have HB := n1_; clear n0_ n1_; (try clear hb); (try clear hb2); (try clear hk); (try clear hi); (try clear ho0); obtain ⟨Ao46, co46, eo46⟩ := Kd.R_slice HO171.out; subst eo46) | (go_at_call 15; refine calls_of_args (args' := #[.slice A0 y165.length c0, .slice Ao46 t169.length co46]) (by (try simp only [List.map_toArray, List.map_cons, List.map_nil]); first | done | rfl | (simp only [List.length_drop, List.length_take]; rfl)) ?_; (with_reducible refine (paint_Draws.calls _ _ y165 _ _ t169 t172 t173 _ ?side1 ?side2 ?side3 ?side4 A5.out (GOK.below HG.out (by repeat (first | (with_reducible first | exact HB.out | apply below_alloc | apply pw_below_drewN | apply below_drew1) | exact HB.out)))).mono ?_); (case side1 => repeat (first | exact (Kd.C_below HR168.out HB.out) | (with_reducible refine Kd.C_alloc ?_ _) | (with_reducible refine Kd.C_drewN ?_ _) | (with_reducible refine Kd.C_drew ?_))); (case side2 => exact HC168.out); (case side3 => repeat (first | exact (Kd.R_reads' HO171.out).2.2 | (with_reducible refine Kd.C_alloc ?_ _) | (with_reducible refine Kd.C_drewN ?_ _) | (with_reducible refine Kd.C_drew ?_))); (case side4 => exact (Kd.R_reads' HO171.out).2.1); rintro e w47 ⟨v174, rfl, ho0, hb⟩; have n0_ := Aside0.mk (Kd.R_below (by (with_reducible repeat (first | apply Kd.R_alloc | apply Kd.R_drewN | apply Kd.R_drew)); exact HO171.out) hb); have n1_ := Aside0.mk (Kd.R_lower ho0 (below_size (by repeat (first | (with_reducible first | exact HB.out | apply below_alloc | apply pw_below_drewN | apply below_drew1) | exact HB.out)))); have n2_ := Aside0.mk (below_step (by repeat (first | (with_reducible first | exact HB.out | apply below_alloc | apply pw_below_drewN | apply below_drew1) | exact HB.out)) hb); clear HO171; clear HB; have HO171 := n0_; have HO175 := n1_; have HB := n2_; clear n0_ n1_ n2_; (try clear hb); (try clear hb2); (try clear hk); (try clear hi); (try clear ho0))))
      go_ret
      exact ⟨by first | rfl | (simp [errW_none, errW_some] <;> rfl) | (simp [*, errW_none, errW_some] <;> rfl), by repeat (first | (with_reducible first | exact HB.out | apply below_alloc | apply pw_below_drewN | apply below_drew1) | exact HB.out)⟩

end Go.Proofs.YtkmddhljfjjglaaDoor.G
