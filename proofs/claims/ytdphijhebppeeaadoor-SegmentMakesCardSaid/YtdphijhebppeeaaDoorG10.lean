/- Functions of the law and of what it calls as plain Lean functions, and that the calls come to their answers: written by fprint.py. -/
import Derived.Test.YtdphijhebppeeaaDoorF34
import Derived.Test.YtdphijhebppeeaaDoorF27
import Derived.Test.YtdphijhebppeeaaDoorG0
namespace Go.Proofs.YtdphijhebppeeaaDoor.G
open Go.RowKit Go.Proofs.YtdphijhebppeeaaDoorW.PrintWords Go.Proofs.YtdphijhebppeeaaDoorW.PrintLast Go.Proofs.YtdphijhebppeeaaDoorW.PrintMore
attribute [local go_sem] max2_int min2_int max_two min_two max_three min_three max_four min_four   -- for this text's walks alone
set_option linter.unusedVariables false
set_option linter.unusedSimpArgs false

/-! ### gutterref16_Segs: function 21 -/
mutual
def gutterref16_Segs.j0 : Nat → List (S31) → Int → Bool → Option ((List (S40)) × Int)
 | 0, _, _, _ => none
 | k + 1, x0, x1, x37 => if x37 = true then (some (([] : List (S40)), 150)) else ((gutterref05_Kids.f x0 x1).bind fun bt225 => (gutterref16_Segs.l0 k x0 bt225.1 ([] : List (S40)) false 0))
def gutterref16_Segs.l0 : Nat → List (S31) → List Int → List (S40) → Bool → Int → Option ((List (S40)) × Int)
 | 0, _, _, _, _, _ => none
 | k + 1, x0, x8, x10, x11, x12 => if x12 < (x8.length : Int) then (if 0 ≤ x12 then (if 0 ≤ (rd x8 x12) then (if (rd x8 x12) < (x0.length : Int) then (if (rd_T31 x0 (rd x8 x12)).f5.f11 = true then (if x10.length < 4398046511104 then (gutterref16_Segs.l0 k x0 x8 (x10 ++ [(⟨true, (([rd x8 x12] : List Int))⟩ : S40)]) false (wrap64 (x12 + 1))) else (none)) else (if x11 = true then (if 0 ≤ (wrap64 ((x10.length : Int) - 1)) then (if (wrap64 ((x10.length : Int) - 1)) < (x10.length : Int) then (if ((rd_T40 x10 (wrap64 ((x10.length : Int) - 1))).f1).length < 17592186044416 then (gutterref16_Segs.l0 k x0 x8 (x10.set ((wrap64 ((x10.length : Int) - 1)) : Int).toNat (⟨(rd_T40 x10 (wrap64 ((x10.length : Int) - 1))).f0, (((rd_T40 x10 (wrap64 ((x10.length : Int) - 1))).f1) ++ [rd x8 x12])⟩ : S40)) x11 (wrap64 (x12 + 1))) else (none)) else (none)) else (none)) else (if x10.length < 4398046511104 then ((some (x10 ++ [(⟨false, ([] : List Int)⟩ : S40)] : List (S40))).bind fun y242 => (if 0 ≤ (wrap64 ((y242.length : Int) - 1)) then (if (wrap64 ((y242.length : Int) - 1)) < (y242.length : Int) then (if ((rd_T40 y242 (wrap64 ((y242.length : Int) - 1))).f1).length < 17592186044416 then (gutterref16_Segs.l0 k x0 x8 (y242.set ((wrap64 ((y242.length : Int) - 1)) : Int).toNat (⟨(rd_T40 y242 (wrap64 ((y242.length : Int) - 1))).f0, (((rd_T40 y242 (wrap64 ((y242.length : Int) - 1))).f1) ++ [rd x8 x12])⟩ : S40)) true (wrap64 (x12 + 1))) else (none)) else (none)) else (none))) else (none)))) else (none)) else (none)) else (none)) else (some (x10, 0))
end
def gutterref16_Segs.f (k : Nat) (l0 : List (S31)) (a1 : Int) : Option ((List (S40)) × Int) := (gutterref05_Check.f l0).bind fun bt222 => (if bt222.2 = 0 then (if a1 < 0 then (gutterref16_Segs.j0 k l0 a1 true) else (if a1 ≥ (l0.length : Int) then (gutterref16_Segs.j0 k l0 a1 true) else (if 0 ≤ a1 then (if a1 < (l0.length : Int) then (gutterref16_Segs.j0 k l0 a1 (((rd_T31 l0 a1).f1) != 4)) else (none)) else (none)))) else (some (([] : List (S40)), bt222.2)))
theorem gutterref16_Segs.mono_l : ∀ k, (∀ y0 y1 y2, LeO (gutterref16_Segs.j0 k y0 y1 y2) (gutterref16_Segs.j0 (k + 1) y0 y1 y2)) ∧ (∀ y0 y1 y2 y3 y4, LeO (gutterref16_Segs.l0 k y0 y1 y2 y3 y4) (gutterref16_Segs.l0 (k + 1) y0 y1 y2 y3 y4))
 | 0 => ⟨fun _ _ _ r h => by simp [gutterref16_Segs.j0] at h, fun _ _ _ _ _ r h => by simp [gutterref16_Segs.l0] at h⟩
 | k + 1 => by
  obtain ⟨ih0, ih1⟩ := gutterref16_Segs.mono_l k
  refine ⟨?_, ?_⟩
  ·
   intro y0 y1 y2
   unfold gutterref16_Segs.j0
   repeat' first
   | (with_reducible exact ih0 _ _ _)
   | (with_reducible exact ih1 _ _ _ _ _)
   | (with_reducible exact LeO.refl _)
   | (with_reducible exact LeO.none _)
   | (with_reducible refine LeO.ite ?_ ?_)
   | (with_reducible refine LeO.bind ?_ (fun _ => ?_))
   | exact ih0 _ _ _
   | exact ih1 _ _ _ _ _
   | exact LeO.none _
   | refine LeO.ite ?_ ?_
   | refine LeO.bind ?_ (fun _ => ?_)
  ·
   intro y0 y1 y2 y3 y4
   unfold gutterref16_Segs.l0
   repeat' first
   | (with_reducible exact ih0 _ _ _)
   | (with_reducible exact ih1 _ _ _ _ _)
   | (with_reducible exact LeO.refl _)
   | (with_reducible exact LeO.none _)
   | (with_reducible refine LeO.ite ?_ ?_)
   | (with_reducible refine LeO.bind ?_ (fun _ => ?_))
   | exact ih0 _ _ _
   | exact ih1 _ _ _ _ _
   | exact LeO.none _
   | refine LeO.ite ?_ ?_
   | refine LeO.bind ?_ (fun _ => ?_)
theorem gutterref16_Segs.mono : ∀ a0 a1 k, LeO (gutterref16_Segs.f k a0 a1) (gutterref16_Segs.f (k + 1) a0 a1) := by
 intro a0 a1 k
 obtain ⟨ih0, ih1⟩ := gutterref16_Segs.mono_l k
 unfold gutterref16_Segs.f
 repeat' first
   | (with_reducible exact ih0 _ _ _)
   | (with_reducible exact ih1 _ _ _ _ _)
   | (with_reducible exact LeO.refl _)
   | (with_reducible exact LeO.none _)
   | (with_reducible refine LeO.ite ?_ ?_)
   | (with_reducible refine LeO.bind ?_ (fun _ => ?_))
   | exact ih0 _ _ _
   | exact ih1 _ _ _ _ _
   | exact LeO.none _
   | refine LeO.ite ?_ ?_
   | refine LeO.bind ?_ (fun _ => ?_)
set_option maxHeartbeats 8000000 in
set_option maxRecDepth 100000 in
theorem gutterref16_Segs.calls (k : Nat) (A0 : Option Addr) (c0 : Nat) (l0 : List (S31)) (a1 : Int) (r1 : List (S40)) (r2 : Int) (w : World) (hr0 : Kd.C k31 w A0 l0.length l0) (hc0 : l0.length ≤ c0) (h : gutterref16_Segs.f k l0 a1 = some (r1, r2)) :
  Calls Tryd.prog 21 #[.slice A0 l0.length c0, .int .i64 a1] w fun e w' => ∃ v0_ : Value, e = .returned (.tuple #[v0_, .int .i64 r2]) ∧ Kd.S k40 40 w' w.heap.size (fun _ => True) v0_ r1 ∧ Below w.heap.size w w' := by
 have hu40 := Tryd.underlying40
 have HR0 := Aside0.mk hr0
 have HC0 := Aside0.mk hc0
 clear hr0 hc0
 have HB := Aside0.mk (Below.refl w.heap.size w)
 have H : ((gutterref05_Check.f l0).bind fun bt222 => (if bt222.2 = 0 then (if a1 < 0 then (gutterref16_Segs.j0 k l0 a1 true) else (if a1 ≥ (l0.length : Int) then (gutterref16_Segs.j0 k l0 a1 true) else (if 0 ≤ a1 then (if a1 < (l0.length : Int) then (gutterref16_Segs.j0 k l0 a1 (((rd_T31 l0 a1).f1) != 4)) else (none)) else (none)))) else (some (([] : List (S40)), bt222.2)))) = some (r1, r2) := h
 clear h
 replace H := Option.bind_eq_some_iff.mp H
 obtain ⟨⟨t222, t223⟩, A30, H⟩ := H
 replace H : (if t223 = 0 then (if a1 < 0 then (gutterref16_Segs.j0 k l0 a1 true) else (if a1 ≥ (l0.length : Int) then (gutterref16_Segs.j0 k l0 a1 true) else (if 0 ≤ a1 then (if a1 < (l0.length : Int) then (gutterref16_Segs.j0 k l0 a1 (((rd_T31 l0 a1).f1) != 4)) else (none)) else (none)))) else (some (([] : List (S40)), t223))) = some (r1, r2) := H
 have A3 := Aside0.mk A30
 clear A30
 by_cases c4 : t223 = 0
 ·
  rw [if_pos c4] at H
  have c4b0 : (t223 == 0) = true := beq_iff_eq.mpr c4
  have c4b1 : (t223 != 0) = false := bne_eq_false_iff_eq.mpr c4
  clear c4
  have HC5 := Aside0.mk H
  clear H
  go_enter Tryd.func21, Tryd.ntmps21
  go_upto_region 4 with (first | ((with_reducible refine gate_callee (f := 39) rfl ?_); refine goesL_ (some 16) rfl rfl Tryd.func39 (by kernel_rfl) rfl #[.slice A0 l0.length c0] rfl (by (try simp only [List.map_toArray, List.map_cons, List.map_nil]); first | done | rfl | (simp only [List.length_drop, List.length_take]; rfl)) ?_; (with_reducible refine (gutterref05_Check.calls _ _ l0 t222 t223 _ ?side1 ?side2 A3.out).mono ?_); (case side1 => repeat (first | exact HR0.out | (with_reducible refine Kd.C_alloc ?_ _) | (with_reducible refine Kd.C_drewN ?_ _) | (with_reducible refine Kd.C_drew ?_))); (case side2 => exact HC0.out); rintro e w6 ⟨rfl, hb⟩; refine ⟨_, rfl, ?_⟩; have n0_ := Aside0.mk (below_step (by repeat (first | (with_reducible first | exact HB.out | apply below_alloc | apply pw_below_drewN | apply below_drew1) | exact HB.out)) hb); clear HB; have HB := n0_; clear n0_; (try clear hb); (try clear hb2); (try clear hk); (try clear hi)))
  (try simp only [Act.put, List.setIfInBounds_toArray, List.set_cons_zero, List.set_cons_succ])
  go_cut [37] (fun v37 wc => ∃ (kq : Nat) (x37_4 : Bool), v37 = .bool x37_4 ∧ Aside0 (gutterref16_Segs.j0 kq l0 a1 x37_4 = some (r1, r2)) ∧ Aside0 (kq ≤ k) ∧ Aside0 (Below w.heap.size w wc))
  case first =>
   have H := HC5.out
   clear HC5
   by_cases c7 : a1 < 0
   ·
    rw [if_pos c7] at H
    have c7b0 : decide (a1 < 0) = true := decide_eq_true c7
    clear c7
    (first | rw [c7b0] | (simp only [i64_w, i32_w]; rw [c7b0]) | skip)
    have H' := Aside0.mk H
    clear H
    go_wp2
    go_meet
    case rel => exact ⟨_, (true), (by first | rfl | (simp; done) | (simp [*]; done)), H', ⟨by first | omega | exact Nat.le_refl _⟩, ⟨by repeat (first | (with_reducible first | exact HB.out | apply below_alloc | apply pw_below_drewN | apply below_drew1) | exact HB.out)⟩⟩
   ·
    rw [if_neg c7] at H
    have c7b0 : decide (a1 < 0) = false := decide_eq_false c7
    clear c7
    (first | rw [c7b0] | (simp only [i64_w, i32_w]; rw [c7b0]) | skip)
    by_cases c8 : a1 ≥ (l0.length : Int)
    ·
     rw [if_pos c8] at H
     have c8b0 : decide ((l0.length : Int) ≤ a1) = true := decide_eq_true c8
     clear c8
     have H' := Aside0.mk H
     clear H
     go_wp2
     go_meet
     case rel => exact ⟨_, (true), (by first | rfl | (simp; done) | (simp [*]; done)), H', ⟨by first | omega | exact Nat.le_refl _⟩, ⟨by repeat (first | (with_reducible first | exact HB.out | apply below_alloc | apply pw_below_drewN | apply below_drew1) | exact HB.out)⟩⟩
    ·
     rw [if_neg c8] at H
     have c8b0 : decide ((l0.length : Int) ≤ a1) = false := decide_eq_false c8
     clear c8
     by_cases c9 : 0 ≤ a1
     ·
      rw [if_pos c9] at H
      have c9b0 : decide (0 ≤ a1) = true := decide_eq_true c9
      clear c9
      by_cases c10 : a1 < (l0.length : Int)
      ·
       rw [if_pos c10] at H
       have c10b0 : decide (a1 < (l0.length : Int)) = true := decide_eq_true c10
       clear c10
       have H' := Aside0.mk H
       clear H
       have p224 : 0 ≤ (a1 : Int) := of_decide_eq_true (by first | (with_reducible assumption) | assumption)
       have q224 : a1 < (l0.length : Int) := of_decide_eq_true (by first | (with_reducible assumption) | assumption)
       obtain ⟨ad224, e224, hx224_0, hx224_1, hx224_2, hx224_3, hx224_4, hx224_5, hx224_6, hx224_7, hx224_8, hx224_9, hx224_10, hx224_11, hx224_12, hx224_13, hx224_14, hx224_15, hx224_16, hx224_17, hx224_18, hx224_19, hx224_20⟩ := at_T31 HR0.out a1 p224 q224
       cases e224
       replace hx224_0 := (HB.out.cell (World.block_lt_of_cell? w _ hx224_0)).trans hx224_0
       replace hx224_1 := (HB.out.cell (World.block_lt_of_cell? w _ hx224_1)).trans hx224_1
       replace hx224_2 := (HB.out.cell (World.block_lt_of_cell? w _ hx224_2)).trans hx224_2
       replace hx224_3 := (HB.out.cell (World.block_lt_of_cell? w _ hx224_3)).trans hx224_3
       replace hx224_4 := (HB.out.cell (World.block_lt_of_cell? w _ hx224_4)).trans hx224_4
       replace hx224_5 := (HB.out.cell (World.block_lt_of_cell? w _ hx224_5)).trans hx224_5
       replace hx224_6 := (HB.out.cell (World.block_lt_of_cell? w _ hx224_6)).trans hx224_6
       replace hx224_7 := (HB.out.cell (World.block_lt_of_cell? w _ hx224_7)).trans hx224_7
       replace hx224_8 := (HB.out.cell (World.block_lt_of_cell? w _ hx224_8)).trans hx224_8
       replace hx224_9 := (HB.out.cell (World.block_lt_of_cell? w _ hx224_9)).trans hx224_9
       replace hx224_10 := (HB.out.cell (World.block_lt_of_cell? w _ hx224_10)).trans hx224_10
       replace hx224_11 := (HB.out.cell (World.block_lt_of_cell? w _ hx224_11)).trans hx224_11
       replace hx224_12 := (HB.out.cell (World.block_lt_of_cell? w _ hx224_12)).trans hx224_12
       replace hx224_13 := (HB.out.cell (World.block_lt_of_cell? w _ hx224_13)).trans hx224_13
       replace hx224_14 := (HB.out.cell (World.block_lt_of_cell? w _ hx224_14)).trans hx224_14
       replace hx224_15 := (HB.out.cell (World.block_lt_of_cell? w _ hx224_15)).trans hx224_15
       replace hx224_16 := (HB.out.cell (World.block_lt_of_cell? w _ hx224_16)).trans hx224_16
       replace hx224_17 := (HB.out.cell (World.block_lt_of_cell? w _ hx224_17)).trans hx224_17
       replace hx224_18 := (HB.out.cell (World.block_lt_of_cell? w _ hx224_18)).trans hx224_18
       replace hx224_19 := (HB.out.cell (World.block_lt_of_cell? w _ hx224_19)).trans hx224_19
       replace hx224_20 := (HB.out.cell (World.block_lt_of_cell? w _ hx224_20)).trans hx224_20
       replace p224 := eq_true p224
       replace q224 := eq_true q224
       go_wp2
       go_meet
       case rel => exact ⟨_, ((((rd_T31 l0 a1).f1) != 4)), (by first | rfl | (simp; done) | (simp [*]; done)), H', ⟨by first | omega | exact Nat.le_refl _⟩, ⟨by repeat (first | (with_reducible first | exact HB.out | apply below_alloc | apply pw_below_drewN | apply below_drew1) | exact HB.out)⟩⟩
      ·
       rw [if_neg c10] at H
       exact absurd H (by simp)
     ·
      rw [if_neg c9] at H
      exact absurd H (by simp)
  case rest =>
   clear HC5
   try clear c1
   try clear c2
   try clear p2
   try clear q2
   try clear hx2
   try clear c3
   try clear c4
   try clear c4b0
   try clear c4b1
   try clear c7
   try clear c7b0
   try clear c8
   try clear c8b0
   try clear c9
   try clear c9b0
   try clear c10
   try clear c10b0
   try clear hx224_0
   try clear hx224_1
   try clear hx224_10
   try clear hx224_11
   try clear hx224_12
   try clear hx224_13
   try clear hx224_14
   try clear hx224_15
   try clear hx224_16
   try clear hx224_17
   try clear hx224_18
   try clear hx224_19
   try clear hx224_2
   try clear hx224_20
   try clear hx224_3
   try clear hx224_4
   try clear hx224_5
   try clear hx224_6
   try clear hx224_7
   try clear hx224_8
   try clear hx224_9
   try clear p224
   try clear q224
   obtain ⟨kq, x37_4, rfl, HA, HJ4, HB⟩ := hcut
   cases kq with
   | zero => exact absurd HA.out (by simp [gutterref16_Segs.j0])
   | succ kj4 =>
    have H := HA.out
    clear HA
    simp only [gutterref16_Segs.j0] at H
    by_cases c11 : x37_4 = true
    ·
     subst c11
     have H1 : (some (([] : List (S40)), 150)) = some (r1, r2) := by rw [if_pos rfl] at H; exact H
     clear H
     have H := H1
     clear H1
     simp only [Option.some.injEq, Prod.mk.injEq] at H
     obtain ⟨rfl, rfl⟩ := H
     go_wp2
     go_ret2
     exact ⟨_, by first | rfl | (simp [errW_none, errW_some] <;> rfl) | (simp [*, errW_none, errW_some] <;> rfl), by first | exact Kd.S_nil _ _ _ _ _ | exact Kd.N_nil _ _ _ _ _ | exact Kd.V_nil _ _ _ _ _ | exact Kd.Q_nil _ _ _ _ _ | exact Kd.R_nil _ _ _ _ _, by repeat (first | (with_reducible first | exact HB.out | apply below_alloc | apply pw_below_drewN | apply below_drew1) | exact HB.out)⟩
    ·
     replace c11 := Bool.eq_false_iff.mpr c11
     subst c11
     have H1 : ((gutterref05_Kids.f l0 a1).bind fun bt225 => (gutterref16_Segs.l0 kj4 l0 bt225.1 ([] : List (S40)) false 0)) = some (r1, r2) := by rw [if_neg (show ¬ (false = true) by decide)] at H; exact H
     clear H
     have H := H1
     clear H1
     replace H := Option.bind_eq_some_iff.mp H
     obtain ⟨⟨t225, t226⟩, A120, H⟩ := H
     replace H : (gutterref16_Segs.l0 kj4 l0 t225 ([] : List (S40)) false 0) = some (r1, r2) := H
     have A12 := Aside0.mk A120
     clear A120
     have H' := Aside0.mk H
     clear H
     go_wp2_with (first | ((with_reducible refine gate_callee (f := 40) rfl ?_); refine goesL_ (some 41) rfl rfl Tryd.func40 (by kernel_rfl) rfl #[.slice A0 l0.length c0, .int .i64 a1] rfl (by (try simp only [List.map_toArray, List.map_cons, List.map_nil]); first | done | rfl | (simp only [List.length_drop, List.length_take]; rfl)) ?_; (with_reducible refine (gutterref05_Kids.calls _ _ l0 a1 t225 t226 _ ?side1 ?side2 A12.out).mono ?_); (case side1 => repeat (first | exact (Kd.C_below HR0.out HB.out) | (with_reducible refine Kd.C_alloc ?_ _) | (with_reducible refine Kd.C_drewN ?_ _) | (with_reducible refine Kd.C_drew ?_))); (case side2 => exact HC0.out); rintro e w13 ⟨v227, rfl, ho0, hb⟩; refine ⟨_, rfl, ?_⟩; have n0_ := Aside0.mk (Kd.R_lower ho0 (below_size (by repeat (first | (with_reducible first | exact HB.out | apply below_alloc | apply pw_below_drewN | apply below_drew1) | exact HB.out)))); have n1_ := Aside0.mk (below_step (by repeat (first | (with_reducible first | exact HB.out | apply below_alloc | apply pw_below_drewN | apply below_drew1) | exact HB.out)) hb); clear HB; have HO228 := n0_; have HB := n1_; clear n0_ n1_; (try clear hb); (try clear hb2); (try clear hk); (try clear hi); (try clear ho0)))
     go_loopg [10, 11, 12] kj4 (fun kq v10 v11 v12 w' => ∃ (x10_2 : List (S40)) (x11_2 : Bool) (x12_2 : Int), v11 = .bool x11_2 ∧ v12 = .int .i64 x12_2 ∧ Aside0 (gutterref16_Segs.l0 kq l0 t225 x10_2 x11_2 x12_2 = some (r1, r2)) ∧ Aside0 (kq ≤ kj4) ∧ Aside0 (Kd.R (Kd.int .i64) 3 w' w.heap.size (fun _ => True) v227 t225) ∧ Aside0 (Kd.S k40 40 w' w.heap.size (fun k_ => some k_ ≠ (v227 : Value).ownBlock) v10 x10_2) ∧ Aside0 (Below w.heap.size w w'))
     case atStart => exact ⟨(([] : List (S40))), (false), (0), (by first | rfl | (simp; done) | (simp [*]; done)), (by first | rfl | (simp; done) | (simp [*]; done)), H', ⟨Nat.le_refl _⟩, ⟨by (with_reducible repeat (first | apply Kd.R_alloc | apply Kd.R_drewN | apply Kd.R_drew)); exact HO228.out⟩, ⟨by first | exact Kd.S_nil _ _ _ _ _ | exact Kd.N_nil _ _ _ _ _ | exact Kd.V_nil _ _ _ _ _ | exact Kd.Q_nil _ _ _ _ _ | exact Kd.R_nil _ _ _ _ _⟩, ⟨by repeat (first | (with_reducible first | exact HB.out | apply below_alloc | apply pw_below_drewN | apply below_drew1) | exact HB.out)⟩⟩
     case round =>
      clear H'
      try clear c1
      try clear c2
      try clear p2
      try clear q2
      try clear hx2
      try clear c3
      try clear c4
      try clear c4b0
      try clear c4b1
      try clear c7
      try clear c7b0
      try clear c8
      try clear c8b0
      try clear c9
      try clear c9b0
      try clear c10
      try clear c10b0
      try clear c11
      try clear hx224_0
      try clear hx224_1
      try clear hx224_10
      try clear hx224_11
      try clear hx224_12
      try clear hx224_13
      try clear hx224_14
      try clear hx224_15
      try clear hx224_16
      try clear hx224_17
      try clear hx224_18
      try clear hx224_19
      try clear hx224_2
      try clear hx224_20
      try clear hx224_3
      try clear hx224_4
      try clear hx224_5
      try clear hx224_6
      try clear hx224_7
      try clear hx224_8
      try clear hx224_9
      try clear p2
      try clear p224
      try clear q2
      try clear q224
      obtain ⟨x10_2, x11_2, x12_2, rfl, rfl, HA, HK2, HO_8, HO_10, HB⟩ := hrel
      cases gk with
      | zero => exact absurd HA.out (by simp [gutterref16_Segs.l0])
      | succ k2 =>
       have H := HA.out
       clear HA
       simp only [gutterref16_Segs.l0] at H
       by_cases c14 : x12_2 < (t225.length : Int)
       ·
        rw [if_pos c14] at H
        have c14b0 : decide (x12_2 < (t225.length : Int)) = true := decide_eq_true c14
        clear c14
        by_cases c15 : 0 ≤ x12_2
        ·
         rw [if_pos c15] at H
         have c15b0 : decide (0 ≤ x12_2) = true := decide_eq_true c15
         clear c15
         by_cases c16 : 0 ≤ (rd t225 x12_2)
         ·
          rw [if_pos c16] at H
          have c16b0 : decide (0 ≤ (rd t225 x12_2)) = true := decide_eq_true c16
          clear c16
          by_cases c17 : (rd t225 x12_2) < (l0.length : Int)
          ·
           rw [if_pos c17] at H
           have c17b0 : decide ((rd t225 x12_2) < (l0.length : Int)) = true := decide_eq_true c17
           clear c17
           obtain ⟨bq18, hbq18⟩ : ∃ b_ : Bool, b_ = ((rd_T31 l0 (rd t225 x12_2)).f5.f11) := ⟨_, rfl⟩
           replace H : (if bq18 = true then (if x10_2.length < 4398046511104 then (gutterref16_Segs.l0 k2 l0 t225 (x10_2 ++ [(⟨true, (([rd t225 x12_2] : List Int))⟩ : S40)]) false (wrap64 (x12_2 + 1))) else (none)) else (if x11_2 = true then (if 0 ≤ (wrap64 ((x10_2.length : Int) - 1)) then (if (wrap64 ((x10_2.length : Int) - 1)) < (x10_2.length : Int) then (if ((rd_T40 x10_2 (wrap64 ((x10_2.length : Int) - 1))).f1).length < 17592186044416 then (gutterref16_Segs.l0 k2 l0 t225 (x10_2.set ((wrap64 ((x10_2.length : Int) - 1)) : Int).toNat (⟨(rd_T40 x10_2 (wrap64 ((x10_2.length : Int) - 1))).f0, (((rd_T40 x10_2 (wrap64 ((x10_2.length : Int) - 1))).f1) ++ [rd t225 x12_2])⟩ : S40)) x11_2 (wrap64 (x12_2 + 1))) else (none)) else (none)) else (none)) else (if x10_2.length < 4398046511104 then ((some (x10_2 ++ [(⟨false, ([] : List Int)⟩ : S40)] : List (S40))).bind fun y242 => (if 0 ≤ (wrap64 ((y242.length : Int) - 1)) then (if (wrap64 ((y242.length : Int) - 1)) < (y242.length : Int) then (if ((rd_T40 y242 (wrap64 ((y242.length : Int) - 1))).f1).length < 17592186044416 then (gutterref16_Segs.l0 k2 l0 t225 (y242.set ((wrap64 ((y242.length : Int) - 1)) : Int).toNat (⟨(rd_T40 y242 (wrap64 ((y242.length : Int) - 1))).f0, (((rd_T40 y242 (wrap64 ((y242.length : Int) - 1))).f1) ++ [rd t225 x12_2])⟩ : S40)) true (wrap64 (x12_2 + 1))) else (none)) else (none)) else (none))) else (none)))) = some (r1, r2) := by rw [← hbq18] at H; exact H
           have Nbq18 := Aside0.mk hbq18
           clear hbq18
           by_cases c19 : bq18 = true
           ·
            subst c19
            have H1 : (if x10_2.length < 4398046511104 then (gutterref16_Segs.l0 k2 l0 t225 (x10_2 ++ [(⟨true, (([rd t225 x12_2] : List Int))⟩ : S40)]) false (wrap64 (x12_2 + 1))) else (none)) = some (r1, r2) := by rw [if_pos rfl] at H; exact H
            clear H
            have H := H1
            clear H1
            obtain ⟨y231, hy231⟩ : ∃ y_ : List Int, y_ = (([rd t225 x12_2] : List Int)) := ⟨_, rfl⟩
            replace H : (if x10_2.length < 4398046511104 then (gutterref16_Segs.l0 k2 l0 t225 (x10_2 ++ [(⟨true, y231⟩ : S40)]) false (wrap64 (x12_2 + 1))) else (none)) = some (r1, r2) := by first | (rw [hy231]; with_reducible exact H) | (have H2_ := (Option.bind_some _ _).symm.trans H; rw [hy231]; with_reducible exact H2_) | (have H2_ := (Option.bind_some _ _).symm.trans H; with_reducible exact H2_) | with_reducible exact H | (rw [hy231]; exact H) | exact H
            have Ny231 := Aside0.mk hy231
            clear hy231
            by_cases c20 : x10_2.length < 4398046511104
            ·
             rw [if_pos c20] at H
             have LMc20 := Aside0.mk c20
             clear c20
             obtain ⟨y234, hy234⟩ : ∃ y_ : List (S40), y_ = (x10_2 ++ [(⟨true, y231⟩ : S40)]) := ⟨_, rfl⟩
             replace H : (gutterref16_Segs.l0 k2 l0 t225 y234 false (wrap64 (x12_2 + 1))) = some (r1, r2) := by first | (rw [hy234]; with_reducible exact H) | (have H2_ := (Option.bind_some _ _).symm.trans H; rw [hy234]; with_reducible exact H2_) | (have H2_ := (Option.bind_some _ _).symm.trans H; with_reducible exact H2_) | with_reducible exact H | (rw [hy234]; exact H) | exact H
             have Ny234 := Aside0.mk hy234
             clear hy234
             have H' := Aside0.mk H
             clear H
             obtain ⟨Ao21, co21, eo21⟩ := Kd.R_slice HO_8.out
             subst eo21
             have p229 : 0 ≤ (x12_2 : Int) := of_decide_eq_true (by first | (with_reducible assumption) | assumption)
             have q229 : x12_2 < (t225.length : Int) := of_decide_eq_true (by first | (with_reducible assumption) | assumption)
             obtain ⟨ad229, e229, hx229_0⟩ := Kd.at_int (Kd.R_reads' HO_8.out).2.2 x12_2 p229 q229
             cases e229
             replace p229 := eq_true p229
             replace q229 := eq_true q229
             have p230 : 0 ≤ ((rd t225 x12_2) : Int) := of_decide_eq_true (by first | (with_reducible assumption) | assumption)
             have q230 : (rd t225 x12_2) < (l0.length : Int) := of_decide_eq_true (by first | (with_reducible assumption) | assumption)
             obtain ⟨ad230, e230, hx230_0, hx230_1, hx230_2, hx230_3, hx230_4, hx230_5, hx230_6, hx230_7, hx230_8, hx230_9, hx230_10, hx230_11, hx230_12, hx230_13, hx230_14, hx230_15, hx230_16, hx230_17, hx230_18, hx230_19, hx230_20⟩ := at_T31 HR0.out (rd t225 x12_2) p230 q230
             (try rw [← Nbq18.out] at hx230_9)
             (try rw [← Nbq18.out] at hx230_13)
             (try rw [← Nbq18.out] at hx230_16)
             (try rw [← Nbq18.out] at hx230_18)
             cases e230
             replace hx230_0 := (HB.out.cell (World.block_lt_of_cell? w _ hx230_0)).trans hx230_0
             replace hx230_1 := (HB.out.cell (World.block_lt_of_cell? w _ hx230_1)).trans hx230_1
             replace hx230_2 := (HB.out.cell (World.block_lt_of_cell? w _ hx230_2)).trans hx230_2
             replace hx230_3 := (HB.out.cell (World.block_lt_of_cell? w _ hx230_3)).trans hx230_3
             replace hx230_4 := (HB.out.cell (World.block_lt_of_cell? w _ hx230_4)).trans hx230_4
             replace hx230_5 := (HB.out.cell (World.block_lt_of_cell? w _ hx230_5)).trans hx230_5
             replace hx230_6 := (HB.out.cell (World.block_lt_of_cell? w _ hx230_6)).trans hx230_6
             replace hx230_7 := (HB.out.cell (World.block_lt_of_cell? w _ hx230_7)).trans hx230_7
             replace hx230_8 := (HB.out.cell (World.block_lt_of_cell? w _ hx230_8)).trans hx230_8
             replace hx230_9 := (HB.out.cell (World.block_lt_of_cell? w _ hx230_9)).trans hx230_9
             replace hx230_10 := (HB.out.cell (World.block_lt_of_cell? w _ hx230_10)).trans hx230_10
             replace hx230_11 := (HB.out.cell (World.block_lt_of_cell? w _ hx230_11)).trans hx230_11
             replace hx230_12 := (HB.out.cell (World.block_lt_of_cell? w _ hx230_12)).trans hx230_12
             replace hx230_13 := (HB.out.cell (World.block_lt_of_cell? w _ hx230_13)).trans hx230_13
             replace hx230_14 := (HB.out.cell (World.block_lt_of_cell? w _ hx230_14)).trans hx230_14
             replace hx230_15 := (HB.out.cell (World.block_lt_of_cell? w _ hx230_15)).trans hx230_15
             replace hx230_16 := (HB.out.cell (World.block_lt_of_cell? w _ hx230_16)).trans hx230_16
             replace hx230_17 := (HB.out.cell (World.block_lt_of_cell? w _ hx230_17)).trans hx230_17
             replace hx230_18 := (HB.out.cell (World.block_lt_of_cell? w _ hx230_18)).trans hx230_18
             replace hx230_19 := (HB.out.cell (World.block_lt_of_cell? w _ hx230_19)).trans hx230_19
             replace hx230_20 := (HB.out.cell (World.block_lt_of_cell? w _ hx230_20)).trans hx230_20
             replace p230 := eq_true p230
             replace q230 := eq_true q230
             go_wp2_with (first | ((with_reducible refine gate_dst (N := 62) rfl ?_); (try (refine gate_guard (by rfl) ?_; dsimp only)); refine Kd.R_lit (Kd.int .i64) _ 3 ?hg (N := 62) ?hd (xs := ([rd t225 x12_2] : List Int)) (inner := [.int .i64 (rd t225 x12_2)]) (ok := fun _ => True) (okp := fun _ => True) ?hr ?hp (fun _ hk => hk) trivial (Below.refl _ _) (Nat.le_refl _) (by simp) ?_; (case hd => rfl); (case hg => rfl); (case hr => first | (go_simp; done) | (go_simp; rfl)); (case hp => exact (Reps.one (show Kd.M (Kd.int .i64) _ _ _ (rd t225 x12_2) [.int .i64 (rd t225 x12_2)] from rfl) (Reps.none _ _))); intro v232 w22 ho23 hb hg_ hnew_; clear hg_ hnew_; (first | rw [← Ny231.out] at ho23 | (simp only [Int.reduceToNat] at ho23; rw [← Ny231.out] at ho23)); have n0_ := Aside0.mk (Kd.R_elder' (by (with_reducible repeat (first | apply Kd.R_alloc | apply Kd.R_drewN | apply Kd.R_drew)); exact HO_8.out) (Kd.R_base ho23) hb); have n1_ := Aside0.mk (Kd.S_elder' (by (with_reducible repeat (first | apply Kd.S_alloc | apply Kd.S_drewN | apply Kd.S_drew)); exact HO_10.out) (Kd.R_base ho23) hb); have n2_ := Aside0.mk (Kd.R_lower (Kd.R_new' ho23 (Kd.R_lt (by (with_reducible repeat (first | apply Kd.R_alloc | apply Kd.R_drewN | apply Kd.R_drew)); exact HO_8.out))) (below_size (by repeat (first | (with_reducible first | exact HB.out | apply below_alloc | apply pw_below_drewN | apply below_drew1) | exact HB.out)))); have n3_ := Aside0.mk (below_step (by repeat (first | (with_reducible first | exact HB.out | apply below_alloc | apply pw_below_drewN | apply below_drew1) | exact HB.out)) hb); clear HO_8; clear HO_10; clear HB; have HO_8 := n0_; have HO_10 := n1_; have HO233 := n2_; have HB := n3_; clear n0_ n1_ n2_ n3_; clear hb ho23; obtain ⟨Ao24, co24, eo24⟩ := Kd.R_slice HO233.out; subst eo24) | ((with_reducible refine gate_builtin (b := .append) (xs := #[.tmp 60, .tmp 64]) rfl ?_); (try (refine gate_guard (by rfl) ?_; dsimp only)); at_builtin; refine Kd.S_append k40 (w0 := w) w.heap.size rfl (.tmp 60) (.tmp 64) 33 40 (.agg #[(.bool false), (.slice none 0 0)]) 32 rfl Tryd.underlying33 info40 rfl (by decide) (by omega) u10 x10_2 (⟨true, y231⟩ : S40) [.bool true, .slice Ao24 y231.length co24] (fun k_ => some k_ ≠ (.slice (some ad229) t225.length co21 : Value).ownBlock) (fun k_ => some k_ = (.slice Ao24 y231.length co24 : Value).ownBlock) rfl rfl ?aP (fun k_ hk_ => ((Kd.R_mono (ok' := fun k_ => ((fun k_ => some k_ ≠ (.slice (some ad229) t225.length co21 : Value).ownBlock)) k_ ∧ some k_ ≠ (u10 : Value).ownBlock) (Kd.R_apart' (HO233.out) (Kd.S_typed HO_10.out) (by decide)) (fun k_ hk => ⟨hk.1.2, hk.2⟩))).1 k_ hk_.symm) ?aF ?aO ?aB ?aS ?aL ?_; (case aP => exact k40_mkM _ _ _ (⟨true, y231⟩ : S40) (Kd.R_mono (Kd.R_tight rfl (Kd.R_mono (ok' := fun k_ => ((fun k_ => some k_ ≠ (.slice (some ad229) t225.length co21 : Value).ownBlock)) k_ ∧ some k_ ≠ (u10 : Value).ownBlock) (Kd.R_apart' (HO233.out) (Kd.S_typed HO_10.out) (by decide)) (fun k_ hk => ⟨hk.1.2, hk.2⟩))) (fun _ h_ => h_))); (case aB => exact (by repeat (first | (with_reducible first | exact HB.out | apply below_alloc | apply pw_below_drewN | apply below_drew1) | exact HB.out))); (case aF => exact (fun k_ hk => Kd.fresh' (Kd.R_lt (by (with_reducible repeat (first | apply Kd.R_alloc | apply Kd.R_drewN | apply Kd.R_drew)); exact HO_8.out)) k_ hk)); (case aO => exact (by (with_reducible repeat (first | apply Kd.S_alloc | apply Kd.S_drewN | apply Kd.S_drew)); exact Kd.S_mono HO_10.out (fun k_ hk => ⟨hk.1, fun e_ => hk.2 e_⟩))); (case aS => exact (below_size (by repeat (first | (with_reducible first | exact HB.out | apply below_alloc | apply pw_below_drewN | apply below_drew1) | exact HB.out)))); (case aL => have := LMc20.out; omega); intro v235 w25 ho hb hg hat; rw [← Ny234.out] at ho; have n0_ := Aside0.mk (Kd.R_over' (by (with_reducible repeat (first | apply Kd.R_alloc | apply Kd.R_drewN | apply Kd.R_drew)); exact HO_8.out) (Kd.S_typed (by (with_reducible repeat (first | apply Kd.S_alloc | apply Kd.S_drewN | apply Kd.S_drew)); exact HO_10.out)) (by decide) hg); have n1_ := Aside0.mk (hb); have n2_ := Aside0.mk (ho); clear HO_8; clear HB; clear HO_10; clear HO233; have HO_8 := n0_; have HB := n1_; have HO236 := n2_; clear n0_ n1_ n2_; clear ho hb hg hat))
             go_roundg k2
             case measure => have := HJ4.out; have := HK2.out; omega
             case rel => exact ⟨(y234), (false), (wrap64 (x12_2 + 1)), (by first | rfl | (simp; done) | (simp [*]; done)), (by first | rfl | (simp; done) | (simp [*]; done)), H', ⟨by have := HJ4.out; have := HK2.out; omega⟩, ⟨by (with_reducible repeat (first | apply Kd.R_alloc | apply Kd.R_drewN | apply Kd.R_drew)); exact Kd.R_mono HO_8.out (fun _ hk => trivial)⟩, ⟨by (with_reducible repeat (first | apply Kd.S_alloc | apply Kd.S_drewN | apply Kd.S_drew)); exact HO236.out⟩, ⟨by repeat (first | (with_reducible first | exact HB.out | apply below_alloc | apply pw_below_drewN | apply below_drew1) | exact HB.out)⟩⟩
            ·
             rw [if_neg c20] at H
             exact absurd H (by simp)
           ·
            replace c19 := Bool.eq_false_iff.mpr c19
            subst c19
            have H1 : (if x11_2 = true then (if 0 ≤ (wrap64 ((x10_2.length : Int) - 1)) then (if (wrap64 ((x10_2.length : Int) - 1)) < (x10_2.length : Int) then (if ((rd_T40 x10_2 (wrap64 ((x10_2.length : Int) - 1))).f1).length < 17592186044416 then (gutterref16_Segs.l0 k2 l0 t225 (x10_2.set ((wrap64 ((x10_2.length : Int) - 1)) : Int).toNat (⟨(rd_T40 x10_2 (wrap64 ((x10_2.length : Int) - 1))).f0, (((rd_T40 x10_2 (wrap64 ((x10_2.length : Int) - 1))).f1) ++ [rd t225 x12_2])⟩ : S40)) x11_2 (wrap64 (x12_2 + 1))) else (none)) else (none)) else (none)) else (if x10_2.length < 4398046511104 then ((some (x10_2 ++ [(⟨false, ([] : List Int)⟩ : S40)] : List (S40))).bind fun y242 => (if 0 ≤ (wrap64 ((y242.length : Int) - 1)) then (if (wrap64 ((y242.length : Int) - 1)) < (y242.length : Int) then (if ((rd_T40 y242 (wrap64 ((y242.length : Int) - 1))).f1).length < 17592186044416 then (gutterref16_Segs.l0 k2 l0 t225 (y242.set ((wrap64 ((y242.length : Int) - 1)) : Int).toNat (⟨(rd_T40 y242 (wrap64 ((y242.length : Int) - 1))).f0, (((rd_T40 y242 (wrap64 ((y242.length : Int) - 1))).f1) ++ [rd t225 x12_2])⟩ : S40)) true (wrap64 (x12_2 + 1))) else (none)) else (none)) else (none))) else (none))) = some (r1, r2) := by rw [if_neg (show ¬ (false = true) by decide)] at H; exact H
            clear H
            have H := H1
            clear H1
            by_cases c26 : x11_2 = true
            ·
             subst c26
             have H1 : (if 0 ≤ (wrap64 ((x10_2.length : Int) - 1)) then (if (wrap64 ((x10_2.length : Int) - 1)) < (x10_2.length : Int) then (if ((rd_T40 x10_2 (wrap64 ((x10_2.length : Int) - 1))).f1).length < 17592186044416 then (gutterref16_Segs.l0 k2 l0 t225 (x10_2.set ((wrap64 ((x10_2.length : Int) - 1)) : Int).toNat (⟨(rd_T40 x10_2 (wrap64 ((x10_2.length : Int) - 1))).f0, (((rd_T40 x10_2 (wrap64 ((x10_2.length : Int) - 1))).f1) ++ [rd t225 x12_2])⟩ : S40)) true (wrap64 (x12_2 + 1))) else (none)) else (none)) else (none)) = some (r1, r2) := by rw [if_pos rfl] at H; exact H
             clear H
             have H := H1
             clear H1
             obtain ⟨ji27, hji27⟩ : ∃ j_ : Int, (wrap64 ((x10_2.length : Int) - 1)) = j_ := ⟨_, rfl⟩
             replace H : (if 0 ≤ (ji27) then (if (ji27) < (x10_2.length : Int) then (if ((rd_T40 x10_2 (ji27)).f1).length < 17592186044416 then (gutterref16_Segs.l0 k2 l0 t225 (x10_2.set ((ji27) : Int).toNat (⟨(rd_T40 x10_2 (ji27)).f0, (((rd_T40 x10_2 (ji27)).f1) ++ [rd t225 x12_2])⟩ : S40)) true (wrap64 (x12_2 + 1))) else (none)) else (none)) else (none)) = some (r1, r2) := by first | (rw [hji27] at H; exact H) | (simp only [hji27] at H ⊢; exact H)
             have hji27w : (IntKind.i64.wrap ((x10_2.length : Int) - 1)) = ji27 := (i64_w _).trans hji27
             by_cases c28 : 0 ≤ (ji27)
             ·
              rw [if_pos c28] at H
              have c28b0 : decide (0 ≤ (ji27)) = true := decide_eq_true c28
              clear c28
              by_cases c29 : (ji27) < (x10_2.length : Int)
              ·
               rw [if_pos c29] at H
               have c29b0 : decide ((ji27) < (x10_2.length : Int)) = true := decide_eq_true c29
               clear c29
               by_cases c30 : ((rd_T40 x10_2 (ji27)).f1).length < 17592186044416
               ·
                rw [if_pos c30] at H
                have LMc30 := Aside0.mk c30
                clear c30
                obtain ⟨y238, hy238⟩ : ∃ y_ : List Int, y_ = (((rd_T40 x10_2 (ji27)).f1) ++ [rd t225 x12_2]) := ⟨_, rfl⟩
                replace H : (gutterref16_Segs.l0 k2 l0 t225 (x10_2.set ((ji27) : Int).toNat (⟨(rd_T40 x10_2 (ji27)).f0, y238⟩ : S40)) true (wrap64 (x12_2 + 1))) = some (r1, r2) := by first | (rw [hy238]; with_reducible exact H) | (have H2_ := (Option.bind_some _ _).symm.trans H; rw [hy238]; with_reducible exact H2_) | (have H2_ := (Option.bind_some _ _).symm.trans H; with_reducible exact H2_) | with_reducible exact H | (rw [hy238]; exact H) | exact H
                have Ny238 := Aside0.mk hy238
                clear hy238
                obtain ⟨y241, hy241⟩ : ∃ y_ : List (S40), y_ = (x10_2.set ((ji27) : Int).toNat (⟨(rd_T40 x10_2 (ji27)).f0, y238⟩ : S40)) := ⟨_, rfl⟩
                replace H : (gutterref16_Segs.l0 k2 l0 t225 y241 true (wrap64 (x12_2 + 1))) = some (r1, r2) := by first | (rw [hy241]; with_reducible exact H) | (have H2_ := (Option.bind_some _ _).symm.trans H; rw [hy241]; with_reducible exact H2_) | (have H2_ := (Option.bind_some _ _).symm.trans H; with_reducible exact H2_) | with_reducible exact H | (rw [hy241]; exact H) | exact H
                have Ny241 := Aside0.mk hy241
                clear hy241
                have H' := Aside0.mk H
                clear H
                obtain ⟨Ao32, co32, eo32⟩ := Kd.R_slice HO_8.out
                subst eo32
                have p229 : 0 ≤ (x12_2 : Int) := of_decide_eq_true (by first | (with_reducible assumption) | assumption)
                have q229 : x12_2 < (t225.length : Int) := of_decide_eq_true (by first | (with_reducible assumption) | assumption)
                obtain ⟨ad229, e229, hx229_0⟩ := Kd.at_int (Kd.R_reads' HO_8.out).2.2 x12_2 p229 q229
                cases e229
                replace p229 := eq_true p229
                replace q229 := eq_true q229
                have p230 : 0 ≤ ((rd t225 x12_2) : Int) := of_decide_eq_true (by first | (with_reducible assumption) | assumption)
                have q230 : (rd t225 x12_2) < (l0.length : Int) := of_decide_eq_true (by first | (with_reducible assumption) | assumption)
                obtain ⟨ad230, e230, hx230_0, hx230_1, hx230_2, hx230_3, hx230_4, hx230_5, hx230_6, hx230_7, hx230_8, hx230_9, hx230_10, hx230_11, hx230_12, hx230_13, hx230_14, hx230_15, hx230_16, hx230_17, hx230_18, hx230_19, hx230_20⟩ := at_T31 HR0.out (rd t225 x12_2) p230 q230
                (try rw [← Nbq18.out] at hx230_9)
                (try rw [← Nbq18.out] at hx230_13)
                (try rw [← Nbq18.out] at hx230_16)
                (try rw [← Nbq18.out] at hx230_18)
                cases e230
                replace hx230_0 := (HB.out.cell (World.block_lt_of_cell? w _ hx230_0)).trans hx230_0
                replace hx230_1 := (HB.out.cell (World.block_lt_of_cell? w _ hx230_1)).trans hx230_1
                replace hx230_2 := (HB.out.cell (World.block_lt_of_cell? w _ hx230_2)).trans hx230_2
                replace hx230_3 := (HB.out.cell (World.block_lt_of_cell? w _ hx230_3)).trans hx230_3
                replace hx230_4 := (HB.out.cell (World.block_lt_of_cell? w _ hx230_4)).trans hx230_4
                replace hx230_5 := (HB.out.cell (World.block_lt_of_cell? w _ hx230_5)).trans hx230_5
                replace hx230_6 := (HB.out.cell (World.block_lt_of_cell? w _ hx230_6)).trans hx230_6
                replace hx230_7 := (HB.out.cell (World.block_lt_of_cell? w _ hx230_7)).trans hx230_7
                replace hx230_8 := (HB.out.cell (World.block_lt_of_cell? w _ hx230_8)).trans hx230_8
                replace hx230_9 := (HB.out.cell (World.block_lt_of_cell? w _ hx230_9)).trans hx230_9
                replace hx230_10 := (HB.out.cell (World.block_lt_of_cell? w _ hx230_10)).trans hx230_10
                replace hx230_11 := (HB.out.cell (World.block_lt_of_cell? w _ hx230_11)).trans hx230_11
                replace hx230_12 := (HB.out.cell (World.block_lt_of_cell? w _ hx230_12)).trans hx230_12
                replace hx230_13 := (HB.out.cell (World.block_lt_of_cell? w _ hx230_13)).trans hx230_13
                replace hx230_14 := (HB.out.cell (World.block_lt_of_cell? w _ hx230_14)).trans hx230_14
                replace hx230_15 := (HB.out.cell (World.block_lt_of_cell? w _ hx230_15)).trans hx230_15
                replace hx230_16 := (HB.out.cell (World.block_lt_of_cell? w _ hx230_16)).trans hx230_16
                replace hx230_17 := (HB.out.cell (World.block_lt_of_cell? w _ hx230_17)).trans hx230_17
                replace hx230_18 := (HB.out.cell (World.block_lt_of_cell? w _ hx230_18)).trans hx230_18
                replace hx230_19 := (HB.out.cell (World.block_lt_of_cell? w _ hx230_19)).trans hx230_19
                replace hx230_20 := (HB.out.cell (World.block_lt_of_cell? w _ hx230_20)).trans hx230_20
                replace p230 := eq_true p230
                replace q230 := eq_true q230
                obtain ⟨Ao33, co33, eo33⟩ := Kd.S_slice HO_10.out
                subst eo33
                have p237 : 0 ≤ ((ji27) : Int) := of_decide_eq_true (by first | (with_reducible assumption) | assumption)
                have q237 : (ji27) < (x10_2.length : Int) := of_decide_eq_true (by first | (with_reducible assumption) | assumption)
                obtain ⟨ad237, A237_1, c237_1, e237, hx237_0, hx237_1, hl237_1, hi237_1⟩ := at_T40 (Kd.S_reads' HO_10.out).2.2 (ji27) p237 q237
                (try rw [← Nbq18.out] at hx237_0)
                cases e237
                obtain ⟨ce237, hce237, hMe237, hcc237⟩ := Kd.S_get HO_10.out z40 (ji27) p237 (by first | exact q237 | exact of_decide_eq_true (by first | (with_reducible assumption) | assumption) | (have e_ := (Kd.S_reads' HO_10.out).1; omega))
                obtain ⟨ve237_1, rfl, ge237_1⟩ := k40_openM hMe237
                have hv237_1 := hcc237 1 _ rfl
                rw [add_field _ _ 1 (by omega)] at hv237_1
                replace hv237_1 := Option.some.inj (hv237_1.symm.trans hx237_1)
                rw [hv237_1] at ge237_1
                have HL237_1 := Aside0.mk (show Kd.R (Kd.int .i64) 3 _ _ _ _ ((rd_T40 x10_2 (ji27)).f1) from ge237_1)
                clear hv237_1 ge237_1
                have HX237_1 := Aside0.mk hx237_1
                clear hcc237 hce237
                have HR237_1 := Aside0.mk hi237_1
                have HC237_1 := Aside0.mk hl237_1
                clear hi237_1 hl237_1
                replace p237 := eq_true p237
                replace q237 := eq_true q237
                obtain ⟨go34, co34, eo34, gb34, gl34, cl34, HG34⟩ := Kd.S_form HO_10.out (by have h_ : ((ji27) : Int) < ((x10_2.length : Int) : Int) := of_decide_eq_true (by first | (with_reducible assumption) | assumption); have h2_ : 0 ≤ ((ji27) : Int) := (of_decide_eq_true (by first | (with_reducible assumption) | assumption)); omega)
                (first | cases eo34 | (injection eo34 with ea_ en_ ec_; (first | subst ea_ | (injection ea_ with ea_; subst ea_)); subst ec_; clear en_))
                have GB34 := Aside0.mk gb34
                have GG34 := Aside0.mk HG34
                clear gb34 gl34 HG34
                (first | simp only [add_plain] at hx237_0 | skip)
                (first | simp only [add_plain] at hx237_1 | skip)
                obtain ⟨oki34, ce34, hcl34, hM34, hcc34, _, _, hH34⟩ := Kd.S_elem HO_10.out z40 ((ji27) : Int) (of_decide_eq_true (by first | (with_reducible assumption) | assumption)) (by have h_ : ((ji27) : Int) < ((x10_2.length : Int) : Int) := of_decide_eq_true (by first | (with_reducible assumption) | assumption); first | exact h_ | (have e_ := (Kd.S_reads' HO_10.out).1; omega) | simpa using h_)
                obtain ⟨ve34_1, rfl, ge34_1⟩ := k40_openM hM34
                have hv34 := hcc34 1 _ rfl
                have hX34 := HX237_1.out
                (try simp only [add_plain] at hX34)
                (try simp only [Nat.add_zero] at hv34)
                replace hv34 := Option.some.inj (hv34.symm.trans hX34)
                subst hv34
                clear hX34 hcc34 hcl34
                have UU34 := Aside0.mk (show Kd.R (Kd.int .i64) 3 _ w.heap.size oki34 (.slice A237_1 ((rd_T40 x10_2 (ji27)).f1).length c237_1) ((rd_T40 x10_2 (ji27)).f1) from ge34_1)
                have HH34 := Aside0.mk hH34
                have HN34 := Aside0.mk (Kd.S_reads' HO_10.out).1
                clear hH34 ge34_1
                go_wp2_with (first | ((with_reducible refine gate_builtin (b := .append) (xs := #[.tmp 82, .tmp 84]) rfl ?_); (try (refine gate_guard (by rfl) ?_; dsimp only)); at_builtin; refine Kd.R_append (Kd.int .i64) (w0 := w) w.heap.size rfl (.tmp 82) (.tmp 84) 36 3 (.int .i64 0) 8 rfl Tryd.underlying36 info3 rfl (by decide) (by omega) (.slice A237_1 ((rd_T40 x10_2 (ji27)).f1).length c237_1) ((rd_T40 x10_2 (ji27)).f1) (rd t225 x12_2) [.int .i64 (rd t225 x12_2)] (fun k_ => oki34 k_ ∨ ((fun k_ => some k_ ≠ (.slice (some ad229) t225.length co32 : Value).ownBlock)) k_ ∧ wr.heap.size ≤ k_) (fun _ => False) rfl rfl ?aP (fun _ hk => hk.elim) ?aF ?aO ?aB ?aS ?aL ?_; (case aP => exact rfl); (case aB => exact (by repeat (first | (with_reducible first | exact HB.out | apply below_alloc | apply pw_below_drewN | apply below_drew1) | exact HB.out))); (case aF => exact (fun k_ hk => .inr ⟨Kd.fresh' (Kd.R_lt (by (with_reducible repeat (first | apply Kd.R_alloc | apply Kd.R_drewN | apply Kd.R_drew)); exact HO_8.out)) k_ hk, hk⟩)); (case aO => exact (by (with_reducible repeat (first | apply Kd.R_alloc | apply Kd.R_drewN | apply Kd.R_drew)); exact Kd.R_mono UU34.out (fun _ hk => .inl hk))); (case aS => exact (below_size (by repeat (first | (with_reducible first | exact HB.out | apply below_alloc | apply pw_below_drewN | apply below_drew1) | exact HB.out)))); (case aL => have := LMc30.out; omega); intro v239 w35 ho hb hg hat; rw [← Ny238.out] at ho; have n0_ := Aside0.mk (Kd.R_grown2 (by (with_reducible repeat (first | apply Kd.R_alloc | apply Kd.R_drewN | apply Kd.R_drew)); exact HO_8.out) rfl hg (fun k_ e_ => (HL237_1.out.1 k_ e_).1)); have n1_ := Aside0.mk (hb); have n2_ := Aside0.mk (Kd.H_grown (Kd.H_widen (by repeat (first | exact HH34.out | refine Kd.H_alloc ?_ _ | refine Kd.H_drewN ?_ _ | refine Kd.H_drew ?_))) hg (fun k_ e_ => .inl (UU34.out.1 k_ e_))); have n3_ := Aside0.mk (ho); clear HO_8; clear HB; clear HH34; clear HO_10; clear UU34; clear HL237_1; have HO_8 := n0_; have HB := n1_; have HH34 := n2_; have HO240 := n3_; clear n0_ n1_ n2_ n3_; clear ho hb hg hat; have p31 : 0 ≤ ((ji27) : Int) := of_decide_eq_true (by first | (with_reducible assumption) | assumption); have q31 : ((ji27) : Int) < ((x10_2.length : Int) : Int) := of_decide_eq_true (by first | (with_reducible assumption) | assumption); replace p31 := eq_true p31; replace q31 := eq_true q31; obtain ⟨Ao38, co38, eo38⟩ := Kd.R_slice HO240.out; subst eo38; obtain ⟨_, _, hraw36, _, _, hcc36, _⟩ := Kd.H_raw HH34.out (of_decide_eq_true (by first | (with_reducible assumption) | assumption)) (by have h_ : ((ji27) : Int) < ((x10_2.length : Int) : Int) := of_decide_eq_true (by first | (with_reducible assumption) | assumption); first | exact h_ | (have e_ := (HN34.out); omega) | simpa using h_); obtain ⟨_, hfr36⟩ := Kd.H_at HH34.out (of_decide_eq_true (by first | (with_reducible assumption) | assumption)) (by have h_ : ((ji27) : Int) < ((x10_2.length : Int) : Int) := of_decide_eq_true (by first | (with_reducible assumption) | assumption); first | exact h_ | (have e_ := (HN34.out); omega) | simpa using h_); have hx36_0 := hcc36 1 _ rfl; have hf36_0 := hfr36 1; (try rw [show (k40).sz = 2 from rfl] at hx36_0); (try rw [show (k40).sz = 2 from rfl] at hf36_0); have HP36 := Kd.S_seg0 HH34.out (of_decide_eq_true (by first | (with_reducible assumption) | assumption)) (by have h_ : ((ji27) : Int) < ((x10_2.length : Int) : Int) := of_decide_eq_true (by first | (with_reducible assumption) | assumption); first | exact h_ | (have e_ := (HN34.out); omega) | simpa using h_) (seg := [.slice Ao38 y238.length co38]) (j := 1) (show 2 ≤ 2 from by decide) (x' := (⟨(rd_T40 x10_2 (ji27)).f0, y238⟩ : S40)) (k40_mkM _ _ _ (⟨(rd_T40 x10_2 (ji27)).f0, y238⟩ : S40) HO240.out) (fun _ hk => hk); clear hcc36 hfr36) | ((with_reducible refine gate_store (t := 36) (p := 87) rfl ?_); refine store_event (t := 36) (p := 87) (v := ?vo_w37) (w1 := (w35.setCell ⟨go34, ((ji27) : Int).toNat * 2 + 1, none⟩ (.slice Ao38 y238.length co38))) ?hg ?ho ?hn ?hr ?_; (case ho => rfl); (case hg => rfl); (case hn => rfl); (case hr => first | (go_simp; done) | (go_simp; rfl)); intro w37 hw; have hg : w35.grownBy w37 (some go34) := (by rw [hw]; exact HP36.2); have hp_ : Kd.S k40 40 w37 w.heap.size (fun k_ => some k_ ≠ (.slice (some ad229) t225.length co32 : Value).ownBlock) (.slice (some ⟨go34, 0, none⟩) x10_2.length co33) y241 := (by rw [hw, Ny241.out]; exact HP36.1); clear HP36; have n0_ := Aside0.mk (Kd.R_over' (v := (.slice (some ⟨go34, 0, none⟩) x10_2.length co33)) (by (with_reducible repeat (first | apply Kd.R_alloc | apply Kd.R_drewN | apply Kd.R_drew)); exact HO_8.out) (Kd.R_typed hraw36) (by decide) hg); have n1_ := Aside0.mk ((by rw [hw]; exact below_set HB.out GB34.out : Below w.heap.size w w37)); have n2_ := Aside0.mk (hp_); clear HO_8; clear HB; clear HO240; clear HH34; have HO_8 := n0_; have HB := n1_; have HO_10 := n2_; clear n0_ n1_ n2_; clear hg hw hp_ hraw36))
                go_roundg k2
                case measure => have := HJ4.out; have := HK2.out; omega
                case rel => exact ⟨(y241), (true), (wrap64 (x12_2 + 1)), (by first | rfl | (simp; done) | (simp [*]; done)), (by first | rfl | (simp; done) | (simp [*]; done)), H', ⟨by have := HJ4.out; have := HK2.out; omega⟩, ⟨by (with_reducible repeat (first | apply Kd.R_alloc | apply Kd.R_drewN | apply Kd.R_drew)); exact HO_8.out⟩, ⟨by (with_reducible repeat (first | apply Kd.S_alloc | apply Kd.S_drewN | apply Kd.S_drew)); exact HO_10.out⟩, ⟨by repeat (first | (with_reducible first | exact HB.out | apply below_alloc | apply pw_below_drewN | apply below_drew1) | exact HB.out)⟩⟩
               ·
                rw [if_neg c30] at H
                exact absurd H (by simp)
              ·
               rw [if_neg c29] at H
               exact absurd H (by simp)
             ·
              rw [if_neg c28] at H
              exact absurd H (by simp)
            ·
             replace c26 := Bool.eq_false_iff.mpr c26
             subst c26
             have H1 : (if x10_2.length < 4398046511104 then ((some (x10_2 ++ [(⟨false, ([] : List Int)⟩ : S40)] : List (S40))).bind fun y242 => (if 0 ≤ (wrap64 ((y242.length : Int) - 1)) then (if (wrap64 ((y242.length : Int) - 1)) < (y242.length : Int) then (if ((rd_T40 y242 (wrap64 ((y242.length : Int) - 1))).f1).length < 17592186044416 then (gutterref16_Segs.l0 k2 l0 t225 (y242.set ((wrap64 ((y242.length : Int) - 1)) : Int).toNat (⟨(rd_T40 y242 (wrap64 ((y242.length : Int) - 1))).f0, (((rd_T40 y242 (wrap64 ((y242.length : Int) - 1))).f1) ++ [rd t225 x12_2])⟩ : S40)) true (wrap64 (x12_2 + 1))) else (none)) else (none)) else (none))) else (none)) = some (r1, r2) := by rw [if_neg (show ¬ (false = true) by decide)] at H; exact H
             clear H
             have H := H1
             clear H1
             by_cases c39 : x10_2.length < 4398046511104
             ·
              rw [if_pos c39] at H
              have LMc39 := Aside0.mk c39
              clear c39
              obtain ⟨y242, hy242⟩ : ∃ y_ : List (S40), y_ = (x10_2 ++ [(⟨false, ([] : List Int)⟩ : S40)]) := ⟨_, rfl⟩
              replace H : (if 0 ≤ (wrap64 ((y242.length : Int) - 1)) then (if (wrap64 ((y242.length : Int) - 1)) < (y242.length : Int) then (if ((rd_T40 y242 (wrap64 ((y242.length : Int) - 1))).f1).length < 17592186044416 then (gutterref16_Segs.l0 k2 l0 t225 (y242.set ((wrap64 ((y242.length : Int) - 1)) : Int).toNat (⟨(rd_T40 y242 (wrap64 ((y242.length : Int) - 1))).f0, (((rd_T40 y242 (wrap64 ((y242.length : Int) - 1))).f1) ++ [rd t225 x12_2])⟩ : S40)) true (wrap64 (x12_2 + 1))) else (none)) else (none)) else (none)) = some (r1, r2) := by first | (rw [hy242]; with_reducible exact H) | (have H2_ := (Option.bind_some _ _).symm.trans H; rw [hy242]; with_reducible exact H2_) | (have H2_ := (Option.bind_some _ _).symm.trans H; with_reducible exact H2_) | with_reducible exact H | (rw [hy242]; exact H) | exact H
              have Ny242 := Aside0.mk hy242
              clear hy242
              obtain ⟨ji40, hji40⟩ : ∃ j_ : Int, (wrap64 ((y242.length : Int) - 1)) = j_ := ⟨_, rfl⟩
              replace H : (if 0 ≤ (ji40) then (if (ji40) < (y242.length : Int) then (if ((rd_T40 y242 (ji40)).f1).length < 17592186044416 then (gutterref16_Segs.l0 k2 l0 t225 (y242.set ((ji40) : Int).toNat (⟨(rd_T40 y242 (ji40)).f0, (((rd_T40 y242 (ji40)).f1) ++ [rd t225 x12_2])⟩ : S40)) true (wrap64 (x12_2 + 1))) else (none)) else (none)) else (none)) = some (r1, r2) := by first | (rw [hji40] at H; exact H) | (simp only [hji40] at H ⊢; exact H)
              have hji40w : (IntKind.i64.wrap ((y242.length : Int) - 1)) = ji40 := (i64_w _).trans hji40
              by_cases c41 : 0 ≤ (ji40)
              ·
               rw [if_pos c41] at H
               have c41b0 : decide (0 ≤ (ji40)) = true := decide_eq_true c41
               clear c41
               by_cases c42 : (ji40) < (y242.length : Int)
               ·
                rw [if_pos c42] at H
                have c42b0 : decide ((ji40) < (y242.length : Int)) = true := decide_eq_true c42
                clear c42
                by_cases c43 : ((rd_T40 y242 (ji40)).f1).length < 17592186044416
                ·
                 rw [if_pos c43] at H
                 have LMc43 := Aside0.mk c43
                 clear c43
                 obtain ⟨y246, hy246⟩ : ∃ y_ : List Int, y_ = (((rd_T40 y242 (ji40)).f1) ++ [rd t225 x12_2]) := ⟨_, rfl⟩
                 replace H : (gutterref16_Segs.l0 k2 l0 t225 (y242.set ((ji40) : Int).toNat (⟨(rd_T40 y242 (ji40)).f0, y246⟩ : S40)) true (wrap64 (x12_2 + 1))) = some (r1, r2) := by first | (rw [hy246]; with_reducible exact H) | (have H2_ := (Option.bind_some _ _).symm.trans H; rw [hy246]; with_reducible exact H2_) | (have H2_ := (Option.bind_some _ _).symm.trans H; with_reducible exact H2_) | with_reducible exact H | (rw [hy246]; exact H) | exact H
                 have Ny246 := Aside0.mk hy246
                 clear hy246
                 obtain ⟨y249, hy249⟩ : ∃ y_ : List (S40), y_ = (y242.set ((ji40) : Int).toNat (⟨(rd_T40 y242 (ji40)).f0, y246⟩ : S40)) := ⟨_, rfl⟩
                 replace H : (gutterref16_Segs.l0 k2 l0 t225 y249 true (wrap64 (x12_2 + 1))) = some (r1, r2) := by first | (rw [hy249]; with_reducible exact H) | (have H2_ := (Option.bind_some _ _).symm.trans H; rw [hy249]; with_reducible exact H2_) | (have H2_ := (Option.bind_some _ _).symm.trans H; with_reducible exact H2_) | with_reducible exact H | (rw [hy249]; exact H) | exact H
                 have Ny249 := Aside0.mk hy249
                 clear hy249
                 have H' := Aside0.mk H
                 clear H
                 obtain ⟨Ao45, co45, eo45⟩ := Kd.R_slice HO_8.out
                 subst eo45
                 have p229 : 0 ≤ (x12_2 : Int) := of_decide_eq_true (by first | (with_reducible assumption) | assumption)
                 have q229 : x12_2 < (t225.length : Int) := of_decide_eq_true (by first | (with_reducible assumption) | assumption)
                 obtain ⟨ad229, e229, hx229_0⟩ := Kd.at_int (Kd.R_reads' HO_8.out).2.2 x12_2 p229 q229
                 cases e229
                 replace p229 := eq_true p229
                 replace q229 := eq_true q229
                 have p230 : 0 ≤ ((rd t225 x12_2) : Int) := of_decide_eq_true (by first | (with_reducible assumption) | assumption)
                 have q230 : (rd t225 x12_2) < (l0.length : Int) := of_decide_eq_true (by first | (with_reducible assumption) | assumption)
                 obtain ⟨ad230, e230, hx230_0, hx230_1, hx230_2, hx230_3, hx230_4, hx230_5, hx230_6, hx230_7, hx230_8, hx230_9, hx230_10, hx230_11, hx230_12, hx230_13, hx230_14, hx230_15, hx230_16, hx230_17, hx230_18, hx230_19, hx230_20⟩ := at_T31 HR0.out (rd t225 x12_2) p230 q230
                 (try rw [← Nbq18.out] at hx230_9)
                 (try rw [← Nbq18.out] at hx230_13)
                 (try rw [← Nbq18.out] at hx230_16)
                 (try rw [← Nbq18.out] at hx230_18)
                 cases e230
                 replace hx230_0 := (HB.out.cell (World.block_lt_of_cell? w _ hx230_0)).trans hx230_0
                 replace hx230_1 := (HB.out.cell (World.block_lt_of_cell? w _ hx230_1)).trans hx230_1
                 replace hx230_2 := (HB.out.cell (World.block_lt_of_cell? w _ hx230_2)).trans hx230_2
                 replace hx230_3 := (HB.out.cell (World.block_lt_of_cell? w _ hx230_3)).trans hx230_3
                 replace hx230_4 := (HB.out.cell (World.block_lt_of_cell? w _ hx230_4)).trans hx230_4
                 replace hx230_5 := (HB.out.cell (World.block_lt_of_cell? w _ hx230_5)).trans hx230_5
                 replace hx230_6 := (HB.out.cell (World.block_lt_of_cell? w _ hx230_6)).trans hx230_6
                 replace hx230_7 := (HB.out.cell (World.block_lt_of_cell? w _ hx230_7)).trans hx230_7
                 replace hx230_8 := (HB.out.cell (World.block_lt_of_cell? w _ hx230_8)).trans hx230_8
                 replace hx230_9 := (HB.out.cell (World.block_lt_of_cell? w _ hx230_9)).trans hx230_9
                 replace hx230_10 := (HB.out.cell (World.block_lt_of_cell? w _ hx230_10)).trans hx230_10
                 replace hx230_11 := (HB.out.cell (World.block_lt_of_cell? w _ hx230_11)).trans hx230_11
                 replace hx230_12 := (HB.out.cell (World.block_lt_of_cell? w _ hx230_12)).trans hx230_12
                 replace hx230_13 := (HB.out.cell (World.block_lt_of_cell? w _ hx230_13)).trans hx230_13
                 replace hx230_14 := (HB.out.cell (World.block_lt_of_cell? w _ hx230_14)).trans hx230_14
                 replace hx230_15 := (HB.out.cell (World.block_lt_of_cell? w _ hx230_15)).trans hx230_15
                 replace hx230_16 := (HB.out.cell (World.block_lt_of_cell? w _ hx230_16)).trans hx230_16
                 replace hx230_17 := (HB.out.cell (World.block_lt_of_cell? w _ hx230_17)).trans hx230_17
                 replace hx230_18 := (HB.out.cell (World.block_lt_of_cell? w _ hx230_18)).trans hx230_18
                 replace hx230_19 := (HB.out.cell (World.block_lt_of_cell? w _ hx230_19)).trans hx230_19
                 replace hx230_20 := (HB.out.cell (World.block_lt_of_cell? w _ hx230_20)).trans hx230_20
                 replace p230 := eq_true p230
                 replace q230 := eq_true q230
                 go_wp2_with (first | ((with_reducible refine gate_builtin (b := .append) (xs := #[.tmp 68, .tmp 70]) rfl ?_); (try (refine gate_guard (by rfl) ?_; dsimp only)); at_builtin; refine Kd.S_append k40 (w0 := w) w.heap.size rfl (.tmp 68) (.tmp 70) 33 40 (.agg #[(.bool false), (.slice none 0 0)]) 32 rfl Tryd.underlying33 info40 rfl (by decide) (by omega) u10 x10_2 (⟨false, ([] : List Int)⟩ : S40) [.bool false, .slice none 0 0] (fun k_ => some k_ ≠ (.slice (some ad229) t225.length co45 : Value).ownBlock) (fun _ => False) rfl rfl ?aP (fun k_ hk_ => hk_.elim) ?aF ?aO ?aB ?aS ?aL ?_; (case aP => exact k40_mkM _ _ _ (⟨false, ([] : List Int)⟩ : S40) (Kd.R_nil _ _ _ _ _)); (case aB => exact (by repeat (first | (with_reducible first | exact HB.out | apply below_alloc | apply pw_below_drewN | apply below_drew1) | exact HB.out))); (case aF => exact (fun k_ hk => Kd.fresh' (Kd.R_lt (by (with_reducible repeat (first | apply Kd.R_alloc | apply Kd.R_drewN | apply Kd.R_drew)); exact HO_8.out)) k_ hk)); (case aO => exact (by (with_reducible repeat (first | apply Kd.S_alloc | apply Kd.S_drewN | apply Kd.S_drew)); exact Kd.S_mono HO_10.out (fun k_ hk => ⟨hk, fun e_ => e_⟩))); (case aS => exact (below_size (by repeat (first | (with_reducible first | exact HB.out | apply below_alloc | apply pw_below_drewN | apply below_drew1) | exact HB.out)))); (case aL => have := LMc39.out; omega); intro v243 w46 ho hb hg hat; rw [← Ny242.out] at ho; have n0_ := Aside0.mk (Kd.R_over' (by (with_reducible repeat (first | apply Kd.R_alloc | apply Kd.R_drewN | apply Kd.R_drew)); exact HO_8.out) (Kd.S_typed (by (with_reducible repeat (first | apply Kd.S_alloc | apply Kd.S_drewN | apply Kd.S_drew)); exact HO_10.out)) (by decide) hg); have n1_ := Aside0.mk (hb); have n2_ := Aside0.mk (ho); clear HO_8; clear HB; clear HO_10; have HO_8 := n0_; have HB := n1_; have HO244 := n2_; clear n0_ n1_ n2_; clear ho hb hg hat; obtain ⟨Ao47, co47, eo47⟩ := Kd.S_slice HO244.out; subst eo47; have p245 : 0 ≤ ((ji40) : Int) := of_decide_eq_true (by first | (with_reducible assumption) | assumption); have q245 : (ji40) < (y242.length : Int) := of_decide_eq_true (by first | (with_reducible assumption) | assumption); obtain ⟨ad245, A245_1, c245_1, e245, hx245_0, hx245_1, hl245_1, hi245_1⟩ := at_T40 (Kd.S_reads' HO244.out).2.2 (ji40) p245 q245; (try rw [← Nbq18.out] at hx245_0); cases e245; obtain ⟨ce245, hce245, hMe245, hcc245⟩ := Kd.S_get HO244.out z40 (ji40) p245 (by first | exact q245 | exact of_decide_eq_true (by first | (with_reducible assumption) | assumption) | (have e_ := (Kd.S_reads' HO244.out).1; omega)); obtain ⟨ve245_1, rfl, ge245_1⟩ := k40_openM hMe245; have hv245_1 := hcc245 1 _ rfl; rw [add_field _ _ 1 (by omega)] at hv245_1; replace hv245_1 := Option.some.inj (hv245_1.symm.trans hx245_1); rw [hv245_1] at ge245_1; have HL245_1 := Aside0.mk (show Kd.R (Kd.int .i64) 3 _ _ _ _ ((rd_T40 y242 (ji40)).f1) from ge245_1); clear hv245_1 ge245_1; have HX245_1 := Aside0.mk hx245_1; clear hcc245 hce245; have HR245_1 := Aside0.mk hi245_1; have HC245_1 := Aside0.mk hl245_1; clear hi245_1 hl245_1; replace p245 := eq_true p245; replace q245 := eq_true q245; obtain ⟨go48, co48, eo48, gb48, gl48, cl48, HG48⟩ := Kd.S_form HO244.out (by have h_ : ((ji40) : Int) < ((y242.length : Int) : Int) := of_decide_eq_true (by first | (with_reducible assumption) | assumption); have h2_ : 0 ≤ ((ji40) : Int) := (of_decide_eq_true (by first | (with_reducible assumption) | assumption)); omega); (first | cases eo48 | (injection eo48 with ea_ en_ ec_; (first | subst ea_ | (injection ea_ with ea_; subst ea_)); subst ec_; clear en_)); have GB48 := Aside0.mk gb48; have GG48 := Aside0.mk HG48; clear gb48 gl48 HG48; (first | simp only [add_plain] at hx245_0 | skip); (first | simp only [add_plain] at hx245_1 | skip); obtain ⟨oki48, ce48, hcl48, hM48, hcc48, _, _, hH48⟩ := Kd.S_elem HO244.out z40 ((ji40) : Int) (of_decide_eq_true (by first | (with_reducible assumption) | assumption)) (by have h_ : ((ji40) : Int) < ((y242.length : Int) : Int) := of_decide_eq_true (by first | (with_reducible assumption) | assumption); first | exact h_ | (have e_ := (Kd.S_reads' HO244.out).1; omega) | simpa using h_); obtain ⟨ve48_1, rfl, ge48_1⟩ := k40_openM hM48; have hv48 := hcc48 1 _ rfl; have hX48 := HX245_1.out; (try simp only [add_plain] at hX48); (try simp only [Nat.add_zero] at hv48); replace hv48 := Option.some.inj (hv48.symm.trans hX48); subst hv48; clear hX48 hcc48 hcl48; have UU48 := Aside0.mk (show Kd.R (Kd.int .i64) 3 _ w.heap.size oki48 (.slice A245_1 ((rd_T40 y242 (ji40)).f1).length c245_1) ((rd_T40 y242 (ji40)).f1) from ge48_1); have HH48 := Aside0.mk hH48; have HN48 := Aside0.mk (Kd.S_reads' HO244.out).1; clear hH48 ge48_1) | ((with_reducible refine gate_builtin (b := .append) (xs := #[.tmp 82, .tmp 84]) rfl ?_); (try (refine gate_guard (by rfl) ?_; dsimp only)); at_builtin; refine Kd.R_append (Kd.int .i64) (w0 := w) w.heap.size rfl (.tmp 82) (.tmp 84) 36 3 (.int .i64 0) 8 rfl Tryd.underlying36 info3 rfl (by decide) (by omega) (.slice A245_1 ((rd_T40 y242 (ji40)).f1).length c245_1) ((rd_T40 y242 (ji40)).f1) (rd t225 x12_2) [.int .i64 (rd t225 x12_2)] (fun k_ => oki48 k_ ∨ ((fun k_ => some k_ ≠ (.slice (some ad229) t225.length co45 : Value).ownBlock)) k_ ∧ w46.heap.size ≤ k_) (fun _ => False) rfl rfl ?aP (fun _ hk => hk.elim) ?aF ?aO ?aB ?aS ?aL ?_; (case aP => exact rfl); (case aB => exact (by repeat (first | (with_reducible first | exact HB.out | apply below_alloc | apply pw_below_drewN | apply below_drew1) | exact HB.out))); (case aF => exact (fun k_ hk => .inr ⟨Kd.fresh' (Kd.R_lt (by (with_reducible repeat (first | apply Kd.R_alloc | apply Kd.R_drewN | apply Kd.R_drew)); exact HO_8.out)) k_ hk, hk⟩)); (case aO => exact (by (with_reducible repeat (first | apply Kd.R_alloc | apply Kd.R_drewN | apply Kd.R_drew)); exact Kd.R_mono UU48.out (fun _ hk => .inl hk))); (case aS => exact (below_size (by repeat (first | (with_reducible first | exact HB.out | apply below_alloc | apply pw_below_drewN | apply below_drew1) | exact HB.out)))); (case aL => have := LMc43.out; omega); intro v247 w49 ho hb hg hat; rw [← Ny246.out] at ho; have n0_ := Aside0.mk (Kd.R_grown2 (by (with_reducible repeat (first | apply Kd.R_alloc | apply Kd.R_drewN | apply Kd.R_drew)); exact HO_8.out) rfl hg (fun k_ e_ => (HL245_1.out.1 k_ e_).1)); have n1_ := Aside0.mk (hb); have n2_ := Aside0.mk (Kd.H_grown (Kd.H_widen (by repeat (first | exact HH48.out | refine Kd.H_alloc ?_ _ | refine Kd.H_drewN ?_ _ | refine Kd.H_drew ?_))) hg (fun k_ e_ => .inl (UU48.out.1 k_ e_))); have n3_ := Aside0.mk (ho); clear HO_8; clear HB; clear HH48; clear HO244; clear UU48; clear HL245_1; have HO_8 := n0_; have HB := n1_; have HH48 := n2_; have HO248 := n3_; clear n0_ n1_ n2_ n3_; clear ho hb hg hat; have p44 : 0 ≤ ((ji40) : Int) := of_decide_eq_true (by first | (with_reducible assumption) | assumption); have q44 : ((ji40) : Int) < ((y242.length : Int) : Int) := of_decide_eq_true (by first | (with_reducible assumption) | assumption); replace p44 := eq_true p44; replace q44 := eq_true q44; obtain ⟨Ao52, co52, eo52⟩ := Kd.R_slice HO248.out; subst eo52; obtain ⟨_, _, hraw50, _, _, hcc50, _⟩ := Kd.H_raw HH48.out (of_decide_eq_true (by first | (with_reducible assumption) | assumption)) (by have h_ : ((ji40) : Int) < ((y242.length : Int) : Int) := of_decide_eq_true (by first | (with_reducible assumption) | assumption); first | exact h_ | (have e_ := (HN48.out); omega) | simpa using h_); obtain ⟨_, hfr50⟩ := Kd.H_at HH48.out (of_decide_eq_true (by first | (with_reducible assumption) | assumption)) (by have h_ : ((ji40) : Int) < ((y242.length : Int) : Int) := of_decide_eq_true (by first | (with_reducible assumption) | assumption); first | exact h_ | (have e_ := (HN48.out); omega) | simpa using h_); have hx50_0 := hcc50 1 _ rfl; have hf50_0 := hfr50 1; (try rw [show (k40).sz = 2 from rfl] at hx50_0); (try rw [show (k40).sz = 2 from rfl] at hf50_0); have HP50 := Kd.S_seg0 HH48.out (of_decide_eq_true (by first | (with_reducible assumption) | assumption)) (by have h_ : ((ji40) : Int) < ((y242.length : Int) : Int) := of_decide_eq_true (by first | (with_reducible assumption) | assumption); first | exact h_ | (have e_ := (HN48.out); omega) | simpa using h_) (seg := [.slice Ao52 y246.length co52]) (j := 1) (show 2 ≤ 2 from by decide) (x' := (⟨(rd_T40 y242 (ji40)).f0, y246⟩ : S40)) (k40_mkM _ _ _ (⟨(rd_T40 y242 (ji40)).f0, y246⟩ : S40) HO248.out) (fun _ hk => hk); clear hcc50 hfr50) | ((with_reducible refine gate_store (t := 36) (p := 87) rfl ?_); refine store_event (t := 36) (p := 87) (v := ?vo_w51) (w1 := (w49.setCell ⟨go48, ((ji40) : Int).toNat * 2 + 1, none⟩ (.slice Ao52 y246.length co52))) ?hg ?ho ?hn ?hr ?_; (case ho => rfl); (case hg => rfl); (case hn => rfl); (case hr => first | (go_simp; done) | (go_simp; rfl)); intro w51 hw; have hg : w49.grownBy w51 (some go48) := (by rw [hw]; exact HP50.2); have hp_ : Kd.S k40 40 w51 w.heap.size (fun k_ => some k_ ≠ (.slice (some ad229) t225.length co45 : Value).ownBlock) (.slice (some ⟨go48, 0, none⟩) y242.length co47) y249 := (by rw [hw, Ny249.out]; exact HP50.1); clear HP50; have n0_ := Aside0.mk (Kd.R_over' (v := (.slice (some ⟨go48, 0, none⟩) y242.length co47)) (by (with_reducible repeat (first | apply Kd.R_alloc | apply Kd.R_drewN | apply Kd.R_drew)); exact HO_8.out) (Kd.R_typed hraw50) (by decide) hg); have n1_ := Aside0.mk ((by rw [hw]; exact below_set HB.out GB48.out : Below w.heap.size w w51)); have n2_ := Aside0.mk (hp_); clear HO_8; clear HB; clear HO248; clear HH48; have HO_8 := n0_; have HB := n1_; have HO244 := n2_; clear n0_ n1_ n2_; clear hg hw hp_ hraw50))
                 go_roundg k2
                 case measure => have := HJ4.out; have := HK2.out; omega
                 case rel => exact ⟨(y249), (true), (wrap64 (x12_2 + 1)), (by first | rfl | (simp; done) | (simp [*]; done)), (by first | rfl | (simp; done) | (simp [*]; done)), H', ⟨by have := HJ4.out; have := HK2.out; omega⟩, ⟨by (with_reducible repeat (first | apply Kd.R_alloc | apply Kd.R_drewN | apply Kd.R_drew)); exact HO_8.out⟩, ⟨by (with_reducible repeat (first | apply Kd.S_alloc | apply Kd.S_drewN | apply Kd.S_drew)); exact HO244.out⟩, ⟨by repeat (first | (with_reducible first | exact HB.out | apply below_alloc | apply pw_below_drewN | apply below_drew1) | exact HB.out)⟩⟩
                ·
                 rw [if_neg c43] at H
                 exact absurd H (by simp)
               ·
                rw [if_neg c42] at H
                exact absurd H (by simp)
              ·
               rw [if_neg c41] at H
               exact absurd H (by simp)
             ·
              rw [if_neg c39] at H
              exact absurd H (by simp)
          ·
           rw [if_neg c17] at H
           exact absurd H (by simp)
         ·
          rw [if_neg c16] at H
          exact absurd H (by simp)
        ·
         rw [if_neg c15] at H
         exact absurd H (by simp)
       ·
        rw [if_neg c14] at H
        have c14b0 : decide (x12_2 < (t225.length : Int)) = false := decide_eq_false c14
        clear c14
        simp only [Option.some.injEq, Prod.mk.injEq] at H
        obtain ⟨rfl, rfl⟩ := H
        obtain ⟨Ao53, co53, eo53⟩ := Kd.R_slice HO_8.out
        subst eo53
        go_wp2
        go_ret2
        exact ⟨_, by first | rfl | (simp [errW_none, errW_some] <;> rfl) | (simp [*, errW_none, errW_some] <;> rfl), by (with_reducible repeat (first | apply Kd.S_alloc | apply Kd.S_drewN | apply Kd.S_drew)); exact Kd.S_mono HO_10.out (fun _ hk => trivial), by repeat (first | (with_reducible first | exact HB.out | apply below_alloc | apply pw_below_drewN | apply below_drew1) | exact HB.out)⟩
 ·
  rw [if_neg c4] at H
  have c4b0 : (t223 == 0) = false := beq_eq_false_iff_ne.mpr c4
  have c4b1 : (t223 != 0) = true := bne_iff_ne.mpr c4
  simp only [Option.some.injEq, Prod.mk.injEq] at H
  obtain ⟨rfl, rfl⟩ := H
  go_enter Tryd.func21, Tryd.ntmps21
  go_wp2_with (first | ((with_reducible refine gate_callee (f := 39) rfl ?_); refine goesL_ (some 16) rfl rfl Tryd.func39 (by kernel_rfl) rfl #[.slice A0 l0.length c0] rfl (by (try simp only [List.map_toArray, List.map_cons, List.map_nil]); first | done | rfl | (simp only [List.length_drop, List.length_take]; rfl)) ?_; (with_reducible refine (gutterref05_Check.calls _ _ l0 t222 t223 _ ?side1 ?side2 A3.out).mono ?_); (case side1 => repeat (first | exact HR0.out | (with_reducible refine Kd.C_alloc ?_ _) | (with_reducible refine Kd.C_drewN ?_ _) | (with_reducible refine Kd.C_drew ?_))); (case side2 => exact HC0.out); rintro e w54 ⟨rfl, hb⟩; refine ⟨_, rfl, ?_⟩; have n0_ := Aside0.mk (below_step (by repeat (first | (with_reducible first | exact HB.out | apply below_alloc | apply pw_below_drewN | apply below_drew1) | exact HB.out)) hb); clear HB; have HB := n0_; clear n0_; (try clear hb); (try clear hb2); (try clear hk); (try clear hi)))
  go_ret2
  exact ⟨_, by first | rfl | (simp [errW_none, errW_some] <;> rfl) | (simp [*, errW_none, errW_some] <;> rfl), by first | exact Kd.S_nil _ _ _ _ _ | exact Kd.N_nil _ _ _ _ _ | exact Kd.V_nil _ _ _ _ _ | exact Kd.Q_nil _ _ _ _ _ | exact Kd.R_nil _ _ _ _ _, by repeat (first | (with_reducible first | exact HB.out | apply below_alloc | apply pw_below_drewN | apply below_drew1) | exact HB.out)⟩

end Go.Proofs.YtdphijhebppeeaaDoor.G
