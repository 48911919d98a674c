/- Functions of the law and of what it calls as plain Lean functions, and that the calls come to their answers: written by fprint.py. -/
import Derived.Test.YtkmddhljfjjglaaDoorF17
import Derived.Test.YtkmddhljfjjglaaDoorG0
import Derived.Test.YtkmddhljfjjglaaDoorG10
namespace Go.Proofs.YtkmddhljfjjglaaDoor.G
open Go.RowKit Go.Proofs.YtkmddhljfjjglaaDoorW.PrintWords Go.Proofs.YtkmddhljfjjglaaDoorW.PrintLast Go.Proofs.YtkmddhljfjjglaaDoorW.PrintMore
attribute [local go_sem] max2_int min2_int max_two min_two max_three min_three max_four min_four   -- for this text's walks alone
set_option linter.unusedVariables false
set_option linter.unusedSimpArgs false

/-! ### gutterlaw17_Pieces: function 14 -/
mutual
def gutterlaw17_Pieces.l0 : Nat → List (S41) → List (S41) → Int → Option ((List (S41)))
  | 0, _, _, _ => none
  | k + 1, x0, x3, x4 => if x4 < (x0.length : Int) then (gutterlaw17_Pieces.j1 k x0 x3 x4 (decide (x4 < 100))) else (gutterlaw17_Pieces.j1 k x0 x3 x4 false)
def gutterlaw17_Pieces.j1 : Nat → List (S41) → List (S41) → Int → Bool → Option ((List (S41)))
  | 0, _, _, _, _ => none
  | k + 1, x0, x3, x4, x13 => if x13 = true then (if 0 ≤ x4 then (if x4 < (x0.length : Int) then ((gutterlaw17_near.f ((rd_T41 x0 x4).f3.f0)).bind fun t157 => ((gutterlaw17_near.f ((rd_T41 x0 x4).f3.f1)).bind fun t158 => ((gutterlaw17_near.f ((rd_T41 x0 x4).f3.f2)).bind fun t159 => ((gutterlaw17_near.f ((rd_T41 x0 x4).f3.f3)).bind fun t160 => (if x3.length < 2513169434916 then (gutterlaw17_Pieces.l0 k x0 (x3 ++ [(⟨(rd_T41 x0 x4).f0, (rd_T41 x0 x4).f1, (rd_T41 x0 x4).f2, (⟨t157, t158, t159, t160⟩ : S30)⟩ : S41)]) (wrap64 (x4 + 1))) else (none)))))) else (none)) else (none)) else (some x3)
end
def gutterlaw17_Pieces.f (k : Nat) (l0 : List (S41)) : Option ((List (S41))) := gutterlaw17_Pieces.l0 k l0 ([] : List (S41)) 0
theorem gutterlaw17_Pieces.mono_l : ∀ k, (∀ y0 y1 y2, LeO (gutterlaw17_Pieces.l0 k y0 y1 y2) (gutterlaw17_Pieces.l0 (k + 1) y0 y1 y2)) ∧ (∀ y0 y1 y2 y3, LeO (gutterlaw17_Pieces.j1 k y0 y1 y2 y3) (gutterlaw17_Pieces.j1 (k + 1) y0 y1 y2 y3))
  | 0 => ⟨fun _ _ _ r h => by simp [gutterlaw17_Pieces.l0] at h, fun _ _ _ _ r h => by simp [gutterlaw17_Pieces.j1] at h⟩
  | k + 1 => by
    obtain ⟨ih0, ih1⟩ := gutterlaw17_Pieces.mono_l k
    refine ⟨?_, ?_⟩
    · intro y0 y1 y2
      unfold gutterlaw17_Pieces.l0
      repeat' first
      | (with_reducible exact ih0 _ _ _)
      | (with_reducible exact ih1 _ _ _ _)
      | (with_reducible exact LeO.refl _)
      | (with_reducible exact LeO.none _)
      | (with_reducible refine LeO.ite ?_ ?_)
      | (with_reducible refine LeO.bind ?_ (fun _ => ?_))
      | exact ih0 _ _ _
      | exact ih1 _ _ _ _
      | exact LeO.none _
      | refine LeO.ite ?_ ?_
      | refine LeO.bind ?_ (fun _ => ?_)
    · intro y0 y1 y2 y3
      unfold gutterlaw17_Pieces.j1
      repeat' first
      | (with_reducible exact ih0 _ _ _)
      | (with_reducible exact ih1 _ _ _ _)
      | (with_reducible exact LeO.refl _)
      | (with_reducible exact LeO.none _)
      | (with_reducible refine LeO.ite ?_ ?_)
      | (with_reducible refine LeO.bind ?_ (fun _ => ?_))
      | exact ih0 _ _ _
      | exact ih1 _ _ _ _
      | exact LeO.none _
      | refine LeO.ite ?_ ?_
      | refine LeO.bind ?_ (fun _ => ?_)
theorem gutterlaw17_Pieces.mono : ∀ a0 k, LeO (gutterlaw17_Pieces.f k a0) (gutterlaw17_Pieces.f (k + 1) a0) := by
  intro a0 k
  obtain ⟨ih0, ih1⟩ := gutterlaw17_Pieces.mono_l k
  unfold gutterlaw17_Pieces.f
  repeat' first
      | (with_reducible exact ih0 _ _ _)
      | (with_reducible exact ih1 _ _ _ _)
      | (with_reducible exact LeO.refl _)
      | (with_reducible exact LeO.none _)
      | (with_reducible refine LeO.ite ?_ ?_)
      | (with_reducible refine LeO.bind ?_ (fun _ => ?_))
      | exact ih0 _ _ _
      | exact ih1 _ _ _ _
      | exact LeO.none _
      | refine LeO.ite ?_ ?_
      | refine LeO.bind ?_ (fun _ => ?_)
def gutterlaw17_Pieces.T6 : Bool × List (List Nat × List Nat) := (true, [([], []), ([0], [0]), ([1], [1]), ([2], [2]), ([], []), ([4], [4]), ([5], [5]), ([6, 3], [6]), ([], []), ([8], [8]), ([9], [9]), ([10, 7], [10]), ([], []), ([12], [12]), ([13], [13]), ([14, 11], [14]), ([3, 7, 11, 15], [3, 7, 11, 15]), ([0, 1, 2, 3, 4, 5, 6, 7, 8, 9, 10, 11, 12, 13, 14, 15, 16], []), ([17, 16, 15, 0, 1, 2, 3, 4, 5, 6, 7, 8, 9, 10, 11, 12, 13, 14, 15, 16], [16, 17])])
def gutterlaw17_Pieces.B6 : List Nat := [0, 1, 3, 7, 0, 16, 48, 127, 0, 256, 768, 2047, 0, 4096, 12288, 32767, 65535, 131071, 262143]
theorem gutterlaw17_Pieces.tab6 : rtab .any (opsOf Tryd.f14 6) = gutterlaw17_Pieces.T6 := by kernel_rfl
theorem gutterlaw17_Pieces.bits6 : waitsOk gutterlaw17_Pieces.T6.2 gutterlaw17_Pieces.B6 = true := by kernel_rfl
set_option maxHeartbeats 8000000 in
set_option maxRecDepth 100000 in
theorem gutterlaw17_Pieces.calls (k : Nat) (A0 : Option Addr) (c0 : Nat) (l0 : List (S41)) (r : List (S41)) (w : World) (hr0 : Kd.C k41 w A0 l0.length l0) (hc0 : l0.length ≤ c0) (h : gutterlaw17_Pieces.f k l0 = some r) :
    Calls Tryd.prog 14 #[.slice A0 l0.length c0] w fun e w' => ∃ v0_ : Value, e = .returned (v0_) ∧ Kd.R k41 41 w' w.heap.size (fun _ => True) v0_ r ∧ Below w.heap.size w w' := by
  have hu41 := Tryd.underlying41
  have hu30 := Tryd.underlying30
  have HR0 := Aside0.mk hr0
  have HC0 := Aside0.mk hc0
  clear hr0 hc0
  have HB := Aside0.mk (Below.refl w.heap.size w)
  have H : (gutterlaw17_Pieces.l0 k l0 ([] : List (S41)) 0) = some r := h
  clear h
  have H' := Aside0.mk H
  clear H
  go_enter Tryd.func14, Tryd.ntmps14
  go_wp2
  go_loopg [3, 4] k (fun kq v3 v4 w' => ∃ (x3_1 : List (S41)) (x4_1 : Int), v4 = .int .i64 x4_1 ∧ Aside0 (gutterlaw17_Pieces.l0 kq l0 x3_1 x4_1 = some r) ∧ Aside0 (kq ≤ k) ∧ Aside0 (Kd.R k41 41 w' w.heap.size (fun _ => True) v3 x3_1) ∧ Aside0 (Below w.heap.size w w'))
  case atStart => exact ⟨(([] : List (S41))), (0), (by first | rfl | (simp; done) | (simp [*]; done)), H', ⟨Nat.le_refl _⟩, ⟨by first | exact Kd.R_nil _ _ _ _ _ | exact Kd.N_nil _ _ _ _ _ | exact Kd.V_nil _ _ _ _ _ | exact Kd.Q_nil _ _ _ _ _ | exact Kd.S_nil _ _ _ _ _⟩, ⟨by repeat (first | (with_reducible first | exact HB.out | apply below_alloc | apply pw_below_drewN | apply below_drew1) | exact HB.out)⟩⟩
  case round =>
    clear H'
    try clear c1
    obtain ⟨x3_1, x4_1, rfl, HA, HK1, HO_3, HB⟩ := hrel
    cases gk with
    | zero => exact absurd HA.out (by simp [gutterlaw17_Pieces.l0])
    | succ k1 =>
      have H := HA.out
      clear HA
      simp only [gutterlaw17_Pieces.l0] at H
      have HC2 := Aside0.mk H
      clear H
      go_upto_region 3 with (fail)
      go_cut [13] (fun v13 wc => ∃ (kq : Nat) (x13_1 : Bool), v13 = .bool x13_1 ∧ Aside0 (gutterlaw17_Pieces.j1 kq l0 x3_1 x4_1 x13_1 = some r) ∧ Aside0 (kq ≤ k1) ∧ Aside0 (Kd.R k41 41 wc w.heap.size (fun _ => True) u3 x3_1) ∧ Aside0 (Below w.heap.size w wc))
      case first =>
        have H := HC2.out
        clear HC2
        by_cases c3 : x4_1 < (l0.length : Int)
        · rw [if_pos c3] at H
          have c3b0 : decide (x4_1 < (l0.length : Int)) = true := decide_eq_true c3
          clear c3
          (first | rw [c3b0] | (simp only [i64_w, i32_w]; rw [c3b0]) | skip)
          have H' := Aside0.mk H
          clear H
          go_wp2
          go_meet
          case rel => exact ⟨_, (decide (x4_1 < 100)), (by first | rfl | (simp; done) | (simp [*]; done)), H', ⟨by have := HK1.out; first | omega | exact Nat.le_refl _⟩, ⟨by (with_reducible repeat (first | apply Kd.R_alloc | apply Kd.R_drewN | apply Kd.R_drew)); exact HO_3.out⟩, ⟨by repeat (first | (with_reducible first | exact HB.out | apply below_alloc | apply pw_below_drewN | apply below_drew1) | exact HB.out)⟩⟩
        · rw [if_neg c3] at H
          have c3b0 : decide (x4_1 < (l0.length : Int)) = false := decide_eq_false c3
          clear c3
          (first | rw [c3b0] | (simp only [i64_w, i32_w]; rw [c3b0]) | skip)
          have H' := Aside0.mk H
          clear H
          go_wp2
          go_meet
          case rel => exact ⟨_, (false), (by first | rfl | (simp; done) | (simp [*]; done)), H', ⟨by have := HK1.out; first | omega | exact Nat.le_refl _⟩, ⟨by (with_reducible repeat (first | apply Kd.R_alloc | apply Kd.R_drewN | apply Kd.R_drew)); exact HO_3.out⟩, ⟨by repeat (first | (with_reducible first | exact HB.out | apply below_alloc | apply pw_below_drewN | apply below_drew1) | exact HB.out)⟩⟩
      case rest =>
        clear HC2
        try clear c1
        try clear p2
        try clear c3
        try clear c3b0
        obtain ⟨kq, x13_1, rfl, HA, HJ1, HO_3, HB⟩ := hcut
        cases kq with
        | zero => exact absurd HA.out (by simp [gutterlaw17_Pieces.j1])
        | succ kj1 =>
          have H := HA.out
          clear HA
          simp only [gutterlaw17_Pieces.j1] at H
          by_cases c4 : x13_1 = true
          · subst c4
            have H1 : (if 0 ≤ x4_1 then (if x4_1 < (l0.length : Int) then ((gutterlaw17_near.f ((rd_T41 l0 x4_1).f3.f0)).bind fun t157 => ((gutterlaw17_near.f ((rd_T41 l0 x4_1).f3.f1)).bind fun t158 => ((gutterlaw17_near.f ((rd_T41 l0 x4_1).f3.f2)).bind fun t159 => ((gutterlaw17_near.f ((rd_T41 l0 x4_1).f3.f3)).bind fun t160 => (if x3_1.length < 2513169434916 then (gutterlaw17_Pieces.l0 kj1 l0 (x3_1 ++ [(⟨(rd_T41 l0 x4_1).f0, (rd_T41 l0 x4_1).f1, (rd_T41 l0 x4_1).f2, (⟨t157, t158, t159, t160⟩ : S30)⟩ : S41)]) (wrap64 (x4_1 + 1))) else (none)))))) else (none)) else (none)) = some r := by rw [if_pos rfl] at H; exact H
            clear H
            have H := H1
            clear H1
            by_cases c5 : 0 ≤ x4_1
            · rw [if_pos c5] at H
              have c5b0 : decide (0 ≤ x4_1) = true := decide_eq_true c5
              clear c5
              by_cases c6 : x4_1 < (l0.length : Int)
              · rw [if_pos c6] at H
                have c6b0 : decide (x4_1 < (l0.length : Int)) = true := decide_eq_true c6
                clear c6
                replace H := Option.bind_eq_some_iff.mp H
                obtain ⟨t157, A70, H⟩ := H
                replace H : ((gutterlaw17_near.f ((rd_T41 l0 x4_1).f3.f1)).bind fun t158 => ((gutterlaw17_near.f ((rd_T41 l0 x4_1).f3.f2)).bind fun t159 => ((gutterlaw17_near.f ((rd_T41 l0 x4_1).f3.f3)).bind fun t160 => (if x3_1.length < 2513169434916 then (gutterlaw17_Pieces.l0 kj1 l0 (x3_1 ++ [(⟨(rd_T41 l0 x4_1).f0, (rd_T41 l0 x4_1).f1, (rd_T41 l0 x4_1).f2, (⟨t157, t158, t159, t160⟩ : S30)⟩ : S41)]) (wrap64 (x4_1 + 1))) else (none))))) = some r := H
                have A7 := Aside0.mk A70
                clear A70
                replace H := Option.bind_eq_some_iff.mp H
                obtain ⟨t158, A80, H⟩ := H
                replace H : ((gutterlaw17_near.f ((rd_T41 l0 x4_1).f3.f2)).bind fun t159 => ((gutterlaw17_near.f ((rd_T41 l0 x4_1).f3.f3)).bind fun t160 => (if x3_1.length < 2513169434916 then (gutterlaw17_Pieces.l0 kj1 l0 (x3_1 ++ [(⟨(rd_T41 l0 x4_1).f0, (rd_T41 l0 x4_1).f1, (rd_T41 l0 x4_1).f2, (⟨t157, t158, t159, t160⟩ : S30)⟩ : S41)]) (wrap64 (x4_1 + 1))) else (none)))) = some r := H
                have A8 := Aside0.mk A80
                clear A80
                replace H := Option.bind_eq_some_iff.mp H
                obtain ⟨t159, A90, H⟩ := H
                replace H : ((gutterlaw17_near.f ((rd_T41 l0 x4_1).f3.f3)).bind fun t160 => (if x3_1.length < 2513169434916 then (gutterlaw17_Pieces.l0 kj1 l0 (x3_1 ++ [(⟨(rd_T41 l0 x4_1).f0, (rd_T41 l0 x4_1).f1, (rd_T41 l0 x4_1).f2, (⟨t157, t158, t159, t160⟩ : S30)⟩ : S41)]) (wrap64 (x4_1 + 1))) else (none))) = some r := H
                have A9 := Aside0.mk A90
                clear A90
                replace H := Option.bind_eq_some_iff.mp H
                obtain ⟨t160, A100, H⟩ := H
                replace H : (if x3_1.length < 2513169434916 then (gutterlaw17_Pieces.l0 kj1 l0 (x3_1 ++ [(⟨(rd_T41 l0 x4_1).f0, (rd_T41 l0 x4_1).f1, (rd_T41 l0 x4_1).f2, (⟨t157, t158, t159, t160⟩ : S30)⟩ : S41)]) (wrap64 (x4_1 + 1))) else (none)) = some r := H
                have A10 := Aside0.mk A100
                clear A100
                by_cases c11 : x3_1.length < 2513169434916
                · rw [if_pos c11] at H
                  have LMc11 := Aside0.mk c11
                  clear c11
                  obtain ⟨y161, hy161⟩ : ∃ y_ : List (S41), y_ = (x3_1 ++ [(⟨(rd_T41 l0 x4_1).f0, (rd_T41 l0 x4_1).f1, (rd_T41 l0 x4_1).f2, (⟨t157, t158, t159, t160⟩ : S30)⟩ : S41)]) := ⟨_, rfl⟩
                  replace H : (gutterlaw17_Pieces.l0 kj1 l0 y161 (wrap64 (x4_1 + 1))) = some r := by first | (rw [hy161]; with_reducible exact H) | (have H2_ := (Option.bind_some _ _).symm.trans H; rw [hy161]; with_reducible exact H2_) | (have H2_ := (Option.bind_some _ _).symm.trans H; with_reducible exact H2_) | with_reducible exact H | (rw [hy161]; exact H) | exact H
                  have Ny161 := Aside0.mk hy161
                  clear hy161
                  have H' := Aside0.mk H
                  clear H
                  have p155 : 0 ≤ (x4_1 : Int) := of_decide_eq_true (by first | (with_reducible assumption) | assumption)
                  have q155 : x4_1 < (l0.length : Int) := of_decide_eq_true (by first | (with_reducible assumption) | assumption)
                  obtain ⟨ad155, e155, hx155_0, hx155_1, hx155_2, hx155_3, hx155_4, hx155_5, hx155_6⟩ := at_T41 HR0.out x4_1 p155 q155
                  cases e155
                  replace hx155_0 := (HB.out.cell (World.block_lt_of_cell? w _ hx155_0)).trans hx155_0
                  replace hx155_1 := (HB.out.cell (World.block_lt_of_cell? w _ hx155_1)).trans hx155_1
                  replace hx155_2 := (HB.out.cell (World.block_lt_of_cell? w _ hx155_2)).trans hx155_2
                  replace hx155_3 := (HB.out.cell (World.block_lt_of_cell? w _ hx155_3)).trans hx155_3
                  replace hx155_4 := (HB.out.cell (World.block_lt_of_cell? w _ hx155_4)).trans hx155_4
                  replace hx155_5 := (HB.out.cell (World.block_lt_of_cell? w _ hx155_5)).trans hx155_5
                  replace hx155_6 := (HB.out.cell (World.block_lt_of_cell? w _ hx155_6)).trans hx155_6
                  replace p155 := eq_true p155
                  replace q155 := eq_true q155
                  try go_wp2_with (first | ((with_reducible refine gate_dst (N := 5) rfl ?_); refine box_event ?hg (N := 5) ?hd (cs := #[.int .i64 0, .int .i64 0, .int .i64 0, .int .i64 0, .int .i64 0, .int .i64 0, .int .i64 0]) (t := 41) ?hr ?_; (case hd => rfl); (case hg => rfl); (case hr => first | (go_simp; done) | (go_simp; rfl)); intro gb156 hg w12 hbox hb; have n0_ := Aside0.mk (Kd.R_below (Kd.R_elderB (by (with_reducible repeat (first | apply Kd.R_alloc | apply Kd.R_drewN | apply Kd.R_drew)); exact HO_3.out) gb156 (Nat.le_of_eq hg.symm)) hb); have n1_ := Aside0.mk (below_step (by repeat (first | (with_reducible first | exact HB.out | apply below_alloc | apply pw_below_drewN | apply below_drew1) | exact HB.out)) hb); have n2_ := Aside0.mk (hbox); have n3_ := Aside0.mk ((by rw [hg]; exact (below_size (by repeat (first | (with_reducible first | exact HB.out | apply below_alloc | apply pw_below_drewN | apply below_drew1) | exact HB.out))) : w.heap.size ≤ gb156)); have n4_ := Aside0.mk ((by rw [hg]; exact (below_size (by repeat (first | (with_reducible first | exact HB.out | apply below_alloc | apply pw_below_drewN | apply below_drew1) | exact HB.out))) : w.heap.size ≤ gb156)); clear HO_3; clear HB; have HO_3 := n0_; have HB := n1_; have BK156 := n2_; have GW156 := n3_; have GE156 := n4_; clear n0_ n1_ n2_ n3_ n4_; clear hb hbox hg; have hcz13_0 : w12.cell? ⟨gb156, 0, none⟩ = some (.int .i64 0) := (blk_cell BK156.out 0).trans rfl; have hcz13_1 : w12.cell? ⟨gb156, 1, none⟩ = some (.int .i64 0) := (blk_cell BK156.out 1).trans rfl; have hcz13_2 : w12.cell? ⟨gb156, 2, none⟩ = some (.int .i64 0) := (blk_cell BK156.out 2).trans rfl; have hcz13_3 : w12.cell? ⟨gb156, 3, none⟩ = some (.int .i64 0) := (blk_cell BK156.out 3).trans rfl; have hcz13_4 : w12.cell? ⟨gb156, 4, none⟩ = some (.int .i64 0) := (blk_cell BK156.out 4).trans rfl; have hcz13_5 : w12.cell? ⟨gb156, 5, none⟩ = some (.int .i64 0) := (blk_cell BK156.out 5).trans rfl; have hcz13_6 : w12.cell? ⟨gb156, 6, none⟩ = some (.int .i64 0) := (blk_cell BK156.out 6).trans rfl; have hfz13_0 := blk_frozen BK156.out 0; have hfz13_1 := blk_frozen BK156.out 1; have hfz13_2 := blk_frozen BK156.out 2; have hfz13_3 := blk_frozen BK156.out 3; have hfz13_4 := blk_frozen BK156.out 4; have hfz13_5 := blk_frozen BK156.out 5; have hfz13_6 := blk_frozen BK156.out 6))
                  have n0_ : Aside0 (Kd.R k41 41 (((((((w12.setCell ⟨gb156, 0, none⟩ (.int .i64 ((rd_T41 l0 x4_1).f0))).setCell ⟨gb156, 1, none⟩ (.int .i64 ((rd_T41 l0 x4_1).f1))).setCell ⟨gb156, 2, none⟩ (.int .i64 ((rd_T41 l0 x4_1).f2))).setCell ⟨gb156, 3, none⟩ (.int .i64 ((rd_T41 l0 x4_1).f3.f0))).setCell ⟨gb156, 4, none⟩ (.int .i64 ((rd_T41 l0 x4_1).f3.f1))).setCell ⟨gb156, 5, none⟩ (.int .i64 ((rd_T41 l0 x4_1).f3.f2))).setCell ⟨gb156, 6, none⟩ (.int .i64 ((rd_T41 l0 x4_1).f3.f3))) w.heap.size (fun k_ => k_ ≠ gb156) u3 x3_1) := ⟨by (with_reducible repeat (first | apply Kd.R_alloc | apply Kd.R_drewN | apply Kd.R_drew)); exact Kd.R_mono (Kd.R_far (p := ⟨gb156, 6, none⟩) (Kd.R_far (p := ⟨gb156, 5, none⟩) (Kd.R_far (p := ⟨gb156, 4, none⟩) (Kd.R_far (p := ⟨gb156, 3, none⟩) (Kd.R_far (p := ⟨gb156, 2, none⟩) (Kd.R_far (p := ⟨gb156, 1, none⟩) (Kd.R_far (p := ⟨gb156, 0, none⟩) (Kd.R_mono HO_3.out (fun k_ hk => (⟨hk, hk.2⟩ : _ ∧ k_ ≠ gb156))) (fun _ hk => hk.2) (.int .i64 ((rd_T41 l0 x4_1).f0))) (fun _ hk => hk.2) (.int .i64 ((rd_T41 l0 x4_1).f1))) (fun _ hk => hk.2) (.int .i64 ((rd_T41 l0 x4_1).f2))) (fun _ hk => hk.2) (.int .i64 ((rd_T41 l0 x4_1).f3.f0))) (fun _ hk => hk.2) (.int .i64 ((rd_T41 l0 x4_1).f3.f1))) (fun _ hk => hk.2) (.int .i64 ((rd_T41 l0 x4_1).f3.f2))) (fun _ hk => hk.2) (.int .i64 ((rd_T41 l0 x4_1).f3.f3))) (fun _ hk => hk.1.2)⟩
                  have n1_ : Aside0 ((((((((w12.setCell ⟨gb156, 0, none⟩ (.int .i64 ((rd_T41 l0 x4_1).f0))).setCell ⟨gb156, 1, none⟩ (.int .i64 ((rd_T41 l0 x4_1).f1))).setCell ⟨gb156, 2, none⟩ (.int .i64 ((rd_T41 l0 x4_1).f2))).setCell ⟨gb156, 3, none⟩ (.int .i64 ((rd_T41 l0 x4_1).f3.f0))).setCell ⟨gb156, 4, none⟩ (.int .i64 ((rd_T41 l0 x4_1).f3.f1))).setCell ⟨gb156, 5, none⟩ (.int .i64 ((rd_T41 l0 x4_1).f3.f2))).setCell ⟨gb156, 6, none⟩ (.int .i64 ((rd_T41 l0 x4_1).f3.f3))).heap[gb156]? = some (.cells #[.int .i64 ((rd_T41 l0 x4_1).f0), .int .i64 ((rd_T41 l0 x4_1).f1), .int .i64 ((rd_T41 l0 x4_1).f2), .int .i64 ((rd_T41 l0 x4_1).f3.f0), .int .i64 ((rd_T41 l0 x4_1).f3.f1), .int .i64 ((rd_T41 l0 x4_1).f3.f2), .int .i64 ((rd_T41 l0 x4_1).f3.f3)] 41 (0, 0))) := ⟨by (with_reducible repeat (first | refine blk_drewN ?_ _ | refine blk_drew ?_ | refine blk_alloc ?_ _)); refine blk_put (cs := #[.int .i64 ((rd_T41 l0 x4_1).f0), .int .i64 ((rd_T41 l0 x4_1).f1), .int .i64 ((rd_T41 l0 x4_1).f2), .int .i64 ((rd_T41 l0 x4_1).f3.f0), .int .i64 ((rd_T41 l0 x4_1).f3.f1), .int .i64 ((rd_T41 l0 x4_1).f3.f2), .int .i64 0]) ?_ 6 _ rfl; (with_reducible repeat (first | refine blk_drewN ?_ _ | refine blk_drew ?_ | refine blk_alloc ?_ _)); refine blk_put (cs := #[.int .i64 ((rd_T41 l0 x4_1).f0), .int .i64 ((rd_T41 l0 x4_1).f1), .int .i64 ((rd_T41 l0 x4_1).f2), .int .i64 ((rd_T41 l0 x4_1).f3.f0), .int .i64 ((rd_T41 l0 x4_1).f3.f1), .int .i64 0, .int .i64 0]) ?_ 5 _ rfl; (with_reducible repeat (first | refine blk_drewN ?_ _ | refine blk_drew ?_ | refine blk_alloc ?_ _)); refine blk_put (cs := #[.int .i64 ((rd_T41 l0 x4_1).f0), .int .i64 ((rd_T41 l0 x4_1).f1), .int .i64 ((rd_T41 l0 x4_1).f2), .int .i64 ((rd_T41 l0 x4_1).f3.f0), .int .i64 0, .int .i64 0, .int .i64 0]) ?_ 4 _ rfl; (with_reducible repeat (first | refine blk_drewN ?_ _ | refine blk_drew ?_ | refine blk_alloc ?_ _)); refine blk_put (cs := #[.int .i64 ((rd_T41 l0 x4_1).f0), .int .i64 ((rd_T41 l0 x4_1).f1), .int .i64 ((rd_T41 l0 x4_1).f2), .int .i64 0, .int .i64 0, .int .i64 0, .int .i64 0]) ?_ 3 _ rfl; (with_reducible repeat (first | refine blk_drewN ?_ _ | refine blk_drew ?_ | refine blk_alloc ?_ _)); refine blk_put (cs := #[.int .i64 ((rd_T41 l0 x4_1).f0), .int .i64 ((rd_T41 l0 x4_1).f1), .int .i64 0, .int .i64 0, .int .i64 0, .int .i64 0, .int .i64 0]) ?_ 2 _ rfl; (with_reducible repeat (first | refine blk_drewN ?_ _ | refine blk_drew ?_ | refine blk_alloc ?_ _)); refine blk_put (cs := #[.int .i64 ((rd_T41 l0 x4_1).f0), .int .i64 0, .int .i64 0, .int .i64 0, .int .i64 0, .int .i64 0, .int .i64 0]) ?_ 1 _ rfl; (with_reducible repeat (first | refine blk_drewN ?_ _ | refine blk_drew ?_ | refine blk_alloc ?_ _)); refine blk_put (cs := #[.int .i64 0, .int .i64 0, .int .i64 0, .int .i64 0, .int .i64 0, .int .i64 0, .int .i64 0]) ?_ 0 _ rfl; (with_reducible repeat (first | refine blk_drewN ?_ _ | refine blk_drew ?_ | refine blk_alloc ?_ _)); exact BK156.out⟩
                  have n2_ : Aside0 (Below w.heap.size w (((((((w12.setCell ⟨gb156, 0, none⟩ (.int .i64 ((rd_T41 l0 x4_1).f0))).setCell ⟨gb156, 1, none⟩ (.int .i64 ((rd_T41 l0 x4_1).f1))).setCell ⟨gb156, 2, none⟩ (.int .i64 ((rd_T41 l0 x4_1).f2))).setCell ⟨gb156, 3, none⟩ (.int .i64 ((rd_T41 l0 x4_1).f3.f0))).setCell ⟨gb156, 4, none⟩ (.int .i64 ((rd_T41 l0 x4_1).f3.f1))).setCell ⟨gb156, 5, none⟩ (.int .i64 ((rd_T41 l0 x4_1).f3.f2))).setCell ⟨gb156, 6, none⟩ (.int .i64 ((rd_T41 l0 x4_1).f3.f3)))) := ⟨by repeat (first | (with_reducible first | exact HB.out | apply below_alloc | apply pw_below_drewN | apply below_drew1 | refine below_set ?_ GE156.out) | exact HB.out)⟩
                  (try clear HO_3)
                  (try clear BK156)
                  (try clear HB)
                  generalize (((((((w12.setCell ⟨gb156, 0, none⟩ (.int .i64 ((rd_T41 l0 x4_1).f0))).setCell ⟨gb156, 1, none⟩ (.int .i64 ((rd_T41 l0 x4_1).f1))).setCell ⟨gb156, 2, none⟩ (.int .i64 ((rd_T41 l0 x4_1).f2))).setCell ⟨gb156, 3, none⟩ (.int .i64 ((rd_T41 l0 x4_1).f3.f0))).setCell ⟨gb156, 4, none⟩ (.int .i64 ((rd_T41 l0 x4_1).f3.f1))).setCell ⟨gb156, 5, none⟩ (.int .i64 ((rd_T41 l0 x4_1).f3.f2))).setCell ⟨gb156, 6, none⟩ (.int .i64 ((rd_T41 l0 x4_1).f3.f3))) = w14 at n0_ n1_ n2_ ⊢
                  have HO_3 := n0_
                  have BK156 := n1_
                  have HB := n2_
                  clear n0_ n1_ n2_
                  have n0_ := Aside0.mk (Kd.R_drew HO_3.out)
                  have n1_ := Aside0.mk (blk_drew BK156.out)
                  have n2_ := Aside0.mk (below_drew1 HB.out)
                  clear HO_3
                  clear BK156
                  clear HB
                  have HO_3 := n0_
                  have BK156 := n1_
                  have HB := n2_
                  clear n0_ n1_ n2_
                  refine start_ (n := 19) (S := fun w' => w'.cell? ⟨gb156, 0, none⟩ = some (.int .i64 ((rd_T41 l0 x4_1).f0)) ∧ w'.cell? ⟨gb156, 1, none⟩ = some (.int .i64 ((rd_T41 l0 x4_1).f1)) ∧ w'.cell? ⟨gb156, 2, none⟩ = some (.int .i64 ((rd_T41 l0 x4_1).f2)) ∧ w'.cell? ⟨gb156, 3, none⟩ = some (.int .i64 ((rd_T41 l0 x4_1).f3.f0)) ∧ w'.cell? ⟨gb156, 4, none⟩ = some (.int .i64 ((rd_T41 l0 x4_1).f3.f1)) ∧ w'.cell? ⟨gb156, 5, none⟩ = some (.int .i64 ((rd_T41 l0 x4_1).f3.f2)) ∧ w'.cell? ⟨gb156, 6, none⟩ = some (.int .i64 ((rd_T41 l0 x4_1).f3.f3))) (ds := [18]) #[false, false, false, false, false, false, false, false, false, false, false, false, false, false, false, false, false, false, false] (by kernel_rfl) rfl rfl ⟨(blk_cell BK156.out 0).trans rfl, (blk_cell BK156.out 1).trans rfl, (blk_cell BK156.out 2).trans rfl, (blk_cell BK156.out 3).trans rfl, (blk_cell BK156.out 4).trans rfl, (blk_cell BK156.out 5).trans rfl, (blk_cell BK156.out 6).trans rfl⟩ (fun hHeld => ?_); refine with_tabW gutterlaw17_Pieces.tab6 gutterlaw17_Pieces.bits6 (fun HT_ HW_ => ?_)
                  generalize w14.drew = w15 at HO_3 BK156 HB hHeld ⊢
                  refine pure_ (i := 0) (N := some 20) (v := ?_) (a' := ?_) #[true, false, false, false, false, false, false, false, false, false, false, false, false, false, false, false, false, false, false] rfl rfl (any_of HT_.out (by kernel_rfl)) (fun _ _ _ h => h) (Or.inl ⟨by rfl, ?_⟩) ?_ ?_
                  rotate_left
                  · intro w'
                    go_simp
                    with_reducible rfl
                  rotate_left
                  · simp only [Act.put, List.setIfInBounds_toArray, List.set_cons_zero, List.set_cons_succ, i64_w, i32_w]
                    rfl
                  refine pure_ (i := 1) (N := some 21) (v := ?_) (a' := ?_) #[true, true, false, false, false, false, false, false, false, false, false, false, false, false, false, false, false, false, false] rfl rfl (any_of HT_.out (by kernel_rfl)) (fun _ _ _ h => h) (Or.inl ⟨by rfl, ?_⟩) ?_ ?_
                  rotate_left
                  · intro w'
                    go_simp
                    with_reducible rfl
                  rotate_left
                  · simp only [Act.put, List.setIfInBounds_toArray, List.set_cons_zero, List.set_cons_succ, i64_w, i32_w]
                    rfl
                  refine pure_ (i := 4) (N := some 24) (v := ?_) (a' := ?_) #[true, true, false, false, true, false, false, false, false, false, false, false, false, false, false, false, false, false, false] rfl rfl (any_of HT_.out (by kernel_rfl)) (fun _ _ _ h => h) (Or.inl ⟨by rfl, ?_⟩) ?_ ?_
                  rotate_left
                  · intro w'
                    go_simp
                    with_reducible rfl
                  rotate_left
                  · simp only [Act.put, List.setIfInBounds_toArray, List.set_cons_zero, List.set_cons_succ, i64_w, i32_w]
                    rfl
                  refine pure_ (i := 5) (N := some 25) (v := ?_) (a' := ?_) #[true, true, false, false, true, true, false, false, false, false, false, false, false, false, false, false, false, false, false] rfl rfl (any_of HT_.out (by kernel_rfl)) (fun _ _ _ h => h) (Or.inl ⟨by rfl, ?_⟩) ?_ ?_
                  rotate_left
                  · intro w'
                    go_simp
                    with_reducible rfl
                  rotate_left
                  · simp only [Act.put, List.setIfInBounds_toArray, List.set_cons_zero, List.set_cons_succ, i64_w, i32_w]
                    rfl
                  refine pure_ (i := 8) (N := some 28) (v := ?_) (a' := ?_) #[true, true, false, false, true, true, false, false, true, false, false, false, false, false, false, false, false, false, false] rfl rfl (any_of HT_.out (by kernel_rfl)) (fun _ _ _ h => h) (Or.inl ⟨by rfl, ?_⟩) ?_ ?_
                  rotate_left
                  · intro w'
                    go_simp
                    with_reducible rfl
                  rotate_left
                  · simp only [Act.put, List.setIfInBounds_toArray, List.set_cons_zero, List.set_cons_succ, i64_w, i32_w]
                    rfl
                  refine pure_ (i := 9) (N := some 29) (v := ?_) (a' := ?_) #[true, true, false, false, true, true, false, false, true, true, false, false, false, false, false, false, false, false, false] rfl rfl (any_of HT_.out (by kernel_rfl)) (fun _ _ _ h => h) (Or.inl ⟨by rfl, ?_⟩) ?_ ?_
                  rotate_left
                  · intro w'
                    go_simp
                    with_reducible rfl
                  rotate_left
                  · simp only [Act.put, List.setIfInBounds_toArray, List.set_cons_zero, List.set_cons_succ, i64_w, i32_w]
                    rfl
                  refine pure_ (i := 12) (N := some 32) (v := ?_) (a' := ?_) #[true, true, false, false, true, true, false, false, true, true, false, false, true, false, false, false, false, false, false] rfl rfl (any_of HT_.out (by kernel_rfl)) (fun _ _ _ h => h) (Or.inl ⟨by rfl, ?_⟩) ?_ ?_
                  rotate_left
                  · intro w'
                    go_simp
                    with_reducible rfl
                  rotate_left
                  · simp only [Act.put, List.setIfInBounds_toArray, List.set_cons_zero, List.set_cons_succ, i64_w, i32_w]
                    rfl
                  refine pure_ (i := 13) (N := some 33) (v := ?_) (a' := ?_) #[true, true, false, false, true, true, false, false, true, true, false, false, true, true, false, false, false, false, false] rfl rfl (any_of HT_.out (by kernel_rfl)) (fun _ _ _ h => h) (Or.inl ⟨by rfl, ?_⟩) ?_ ?_
                  rotate_left
                  · intro w'
                    go_simp
                    with_reducible rfl
                  rotate_left
                  · simp only [Act.put, List.setIfInBounds_toArray, List.set_cons_zero, List.set_cons_succ, i64_w, i32_w]
                    rfl
                  refine take_ (i := 2) (N := some 22) (v := ?_) (a' := ?_) #[true, true, true, false, true, true, false, false, true, true, false, false, true, true, false, false, false, false, false] rfl rfl (take_ofW HT_.out HW_.out (by kernel_rfl)) (fun _ _ _ h => h) (Or.inl ⟨by rfl, ?_⟩) hHeld ?_ ?_
                  rotate_left
                  · rintro w' ⟨s0, s1, s2, s3, s4, s5, s6⟩
                    go_simp
                    with_reducible rfl
                  rotate_left
                  · simp only [Act.put, List.setIfInBounds_toArray, List.set_cons_zero, List.set_cons_succ, i64_w, i32_w]
                    rfl
                  refine take_ (i := 6) (N := some 26) (v := ?_) (a' := ?_) #[true, true, true, false, true, true, true, false, true, true, false, false, true, true, false, false, false, false, false] rfl rfl (take_ofW HT_.out HW_.out (by kernel_rfl)) (fun _ _ _ h => h) (Or.inl ⟨by rfl, ?_⟩) hHeld ?_ ?_
                  rotate_left
                  · rintro w' ⟨s0, s1, s2, s3, s4, s5, s6⟩
                    go_simp
                    with_reducible rfl
                  rotate_left
                  · simp only [Act.put, List.setIfInBounds_toArray, List.set_cons_zero, List.set_cons_succ, i64_w, i32_w]
                    rfl
                  refine take_ (i := 10) (N := some 30) (v := ?_) (a' := ?_) #[true, true, true, false, true, true, true, false, true, true, true, false, true, true, false, false, false, false, false] rfl rfl (take_ofW HT_.out HW_.out (by kernel_rfl)) (fun _ _ _ h => h) (Or.inl ⟨by rfl, ?_⟩) hHeld ?_ ?_
                  rotate_left
                  · rintro w' ⟨s0, s1, s2, s3, s4, s5, s6⟩
                    go_simp
                    with_reducible rfl
                  rotate_left
                  · simp only [Act.put, List.setIfInBounds_toArray, List.set_cons_zero, List.set_cons_succ, i64_w, i32_w]
                    rfl
                  refine take_ (i := 14) (N := some 34) (v := ?_) (a' := ?_) #[true, true, true, false, true, true, true, false, true, true, true, false, true, true, true, false, false, false, false] rfl rfl (take_ofW HT_.out HW_.out (by kernel_rfl)) (fun _ _ _ h => h) (Or.inl ⟨by rfl, ?_⟩) hHeld ?_ ?_
                  rotate_left
                  · rintro w' ⟨s0, s1, s2, s3, s4, s5, s6⟩
                    go_simp
                    with_reducible rfl
                  rotate_left
                  · simp only [Act.put, List.setIfInBounds_toArray, List.set_cons_zero, List.set_cons_succ, i64_w, i32_w]
                    rfl
                  refine one_ (i := 3) (N := some 23) #[true, true, true, true, true, true, true, false, true, true, true, false, true, true, true, false, false, false, false] rfl rfl (one_of HT_.out (by kernel_rfl)) (by decide) (fun K hK => ?_)
                  refine goes_ Tryd.func32 (by kernel_rfl) rfl #[.int .i64 ((rd_T41 l0 x4_1).f3.f0)] (by rfl) rfl rfl (by (try simp only [List.map_toArray, List.map_cons, List.map_nil]); first | done | rfl | (simp only [List.length_drop, List.length_take]; rfl)) ?_
                  with_reducible refine (gutterlaw17_near.calls ((rd_T41 l0 x4_1).f3.f0) t157 _ A7.out).mono ?_
                  rintro e w16 ⟨rfl, hb⟩
                  refine ⟨_, rfl, ?_⟩
                  have n0_ := Aside0.mk (Kd.R_below (by (with_reducible repeat (first | apply Kd.R_alloc | apply Kd.R_drewN | apply Kd.R_drew)); exact HO_3.out) hb)
                  have n1_ := Aside0.mk (blk_below (g := gb156) (o := .cells #[.int .i64 ((rd_T41 l0 x4_1).f0), .int .i64 ((rd_T41 l0 x4_1).f1), .int .i64 ((rd_T41 l0 x4_1).f2), .int .i64 ((rd_T41 l0 x4_1).f3.f0), .int .i64 ((rd_T41 l0 x4_1).f3.f1), .int .i64 ((rd_T41 l0 x4_1).f3.f2), .int .i64 ((rd_T41 l0 x4_1).f3.f3)] 41 (0, 0)) (by (with_reducible repeat (first | refine blk_drewN ?_ _ | refine blk_drew ?_ | refine blk_alloc ?_ _)); exact BK156.out) hb)
                  have n2_ := Aside0.mk (below_step (by repeat (first | (with_reducible first | exact HB.out | apply below_alloc | apply pw_below_drewN | apply below_drew1 | refine below_set ?_ GE156.out) | exact HB.out)) hb)
                  clear HO_3
                  clear BK156
                  clear HB
                  have HO_3 := n0_
                  have BK156 := n1_
                  have HB := n2_
                  clear n0_ n1_ n2_
                  (try clear hb)
                  (try clear hb2)
                  (try clear hk)
                  (try clear hi)
                  refine hK.out _ _ ⟨(blk_cell BK156.out 0).trans rfl, (blk_cell BK156.out 1).trans rfl, (blk_cell BK156.out 2).trans rfl, (blk_cell BK156.out 3).trans rfl, (blk_cell BK156.out 4).trans rfl, (blk_cell BK156.out 5).trans rfl, (blk_cell BK156.out 6).trans rfl⟩ (fun hHeld => ?_)
                  clear hK K
                  refine norm_ (a' := ?_) ?_ ?_
                  rotate_left
                  · show Act.put _ (some 23) _ = _
                    simp only [Act.put, List.setIfInBounds_toArray, List.set_cons_zero, List.set_cons_succ, i64_w, i32_w]
                    rfl
                  refine one_ (i := 7) (N := some 27) #[true, true, true, true, true, true, true, true, true, true, true, false, true, true, true, false, false, false, false] rfl rfl (one_of HT_.out (by kernel_rfl)) (by decide) (fun K hK => ?_)
                  refine goes_ Tryd.func32 (by kernel_rfl) rfl #[.int .i64 ((rd_T41 l0 x4_1).f3.f1)] (by rfl) rfl rfl (by (try simp only [List.map_toArray, List.map_cons, List.map_nil]); first | done | rfl | (simp only [List.length_drop, List.length_take]; rfl)) ?_
                  with_reducible refine (gutterlaw17_near.calls ((rd_T41 l0 x4_1).f3.f1) t158 _ A8.out).mono ?_
                  rintro e w17 ⟨rfl, hb⟩
                  refine ⟨_, rfl, ?_⟩
                  have n0_ := Aside0.mk (Kd.R_below (by (with_reducible repeat (first | apply Kd.R_alloc | apply Kd.R_drewN | apply Kd.R_drew)); exact HO_3.out) hb)
                  have n1_ := Aside0.mk (blk_below (g := gb156) (o := .cells #[.int .i64 ((rd_T41 l0 x4_1).f0), .int .i64 ((rd_T41 l0 x4_1).f1), .int .i64 ((rd_T41 l0 x4_1).f2), .int .i64 ((rd_T41 l0 x4_1).f3.f0), .int .i64 ((rd_T41 l0 x4_1).f3.f1), .int .i64 ((rd_T41 l0 x4_1).f3.f2), .int .i64 ((rd_T41 l0 x4_1).f3.f3)] 41 (0, 0)) (by (with_reducible repeat (first | refine blk_drewN ?_ _ | refine blk_drew ?_ | refine blk_alloc ?_ _)); exact BK156.out) hb)
                  have n2_ := Aside0.mk (below_step (by repeat (first | (with_reducible first | exact HB.out | apply below_alloc | apply pw_below_drewN | apply below_drew1 | refine below_set ?_ GE156.out) | exact HB.out)) hb)
                  clear HO_3
                  clear BK156
                  clear HB
                  have HO_3 := n0_
                  have BK156 := n1_
                  have HB := n2_
                  clear n0_ n1_ n2_
                  (try clear hb)
                  (try clear hb2)
                  (try clear hk)
                  (try clear hi)
                  refine hK.out _ _ ⟨(blk_cell BK156.out 0).trans rfl, (blk_cell BK156.out 1).trans rfl, (blk_cell BK156.out 2).trans rfl, (blk_cell BK156.out 3).trans rfl, (blk_cell BK156.out 4).trans rfl, (blk_cell BK156.out 5).trans rfl, (blk_cell BK156.out 6).trans rfl⟩ (fun hHeld => ?_)
                  clear hK K
                  refine norm_ (a' := ?_) ?_ ?_
                  rotate_left
                  · show Act.put _ (some 27) _ = _
                    simp only [Act.put, List.setIfInBounds_toArray, List.set_cons_zero, List.set_cons_succ, i64_w, i32_w]
                    rfl
                  refine one_ (i := 11) (N := some 31) #[true, true, true, true, true, true, true, true, true, true, true, true, true, true, true, false, false, false, false] rfl rfl (one_of HT_.out (by kernel_rfl)) (by decide) (fun K hK => ?_)
                  refine goes_ Tryd.func32 (by kernel_rfl) rfl #[.int .i64 ((rd_T41 l0 x4_1).f3.f2)] (by rfl) rfl rfl (by (try simp only [List.map_toArray, List.map_cons, List.map_nil]); first | done | rfl | (simp only [List.length_drop, List.length_take]; rfl)) ?_
                  with_reducible refine (gutterlaw17_near.calls ((rd_T41 l0 x4_1).f3.f2) t159 _ A9.out).mono ?_
                  rintro e w18 ⟨rfl, hb⟩
                  refine ⟨_, rfl, ?_⟩
                  have n0_ := Aside0.mk (Kd.R_below (by (with_reducible repeat (first | apply Kd.R_alloc | apply Kd.R_drewN | apply Kd.R_drew)); exact HO_3.out) hb)
                  have n1_ := Aside0.mk (blk_below (g := gb156) (o := .cells #[.int .i64 ((rd_T41 l0 x4_1).f0), .int .i64 ((rd_T41 l0 x4_1).f1), .int .i64 ((rd_T41 l0 x4_1).f2), .int .i64 ((rd_T41 l0 x4_1).f3.f0), .int .i64 ((rd_T41 l0 x4_1).f3.f1), .int .i64 ((rd_T41 l0 x4_1).f3.f2), .int .i64 ((rd_T41 l0 x4_1).f3.f3)] 41 (0, 0)) (by (with_reducible repeat (first | refine blk_drewN ?_ _ | refine blk_drew ?_ | refine blk_alloc ?_ _)); exact BK156.out) hb)
                  have n2_ := Aside0.mk (below_step (by repeat (first | (with_reducible first | exact HB.out | apply below_alloc | apply pw_below_drewN | apply below_drew1 | refine below_set ?_ GE156.out) | exact HB.out)) hb)
                  clear HO_3
                  clear BK156
                  clear HB
                  have HO_3 := n0_
                  have BK156 := n1_
                  have HB := n2_
                  clear n0_ n1_ n2_
                  (try clear hb)
                  (try clear hb2)
                  (try clear hk)
                  (try clear hi)
                  refine hK.out _ _ ⟨(blk_cell BK156.out 0).trans rfl, (blk_cell BK156.out 1).trans rfl, (blk_cell BK156.out 2).trans rfl, (blk_cell BK156.out 3).trans rfl, (blk_cell BK156.out 4).trans rfl, (blk_cell BK156.out 5).trans rfl, (blk_cell BK156.out 6).trans rfl⟩ (fun hHeld => ?_)
                  clear hK K
                  refine norm_ (a' := ?_) ?_ ?_
                  rotate_left
                  · show Act.put _ (some 31) _ = _
                    simp only [Act.put, List.setIfInBounds_toArray, List.set_cons_zero, List.set_cons_succ, i64_w, i32_w]
                    rfl
                  refine one_ (i := 15) (N := some 35) #[true, true, true, true, true, true, true, true, true, true, true, true, true, true, true, true, false, false, false] rfl rfl (one_of HT_.out (by kernel_rfl)) (by decide) (fun K hK => ?_)
                  refine goes_ Tryd.func32 (by kernel_rfl) rfl #[.int .i64 ((rd_T41 l0 x4_1).f3.f3)] (by rfl) rfl rfl (by (try simp only [List.map_toArray, List.map_cons, List.map_nil]); first | done | rfl | (simp only [List.length_drop, List.length_take]; rfl)) ?_
                  with_reducible refine (gutterlaw17_near.calls ((rd_T41 l0 x4_1).f3.f3) t160 _ A10.out).mono ?_
                  rintro e w19 ⟨rfl, hb⟩
                  refine ⟨_, rfl, ?_⟩
                  have n0_ := Aside0.mk (Kd.R_below (by (with_reducible repeat (first | apply Kd.R_alloc | apply Kd.R_drewN | apply Kd.R_drew)); exact HO_3.out) hb)
                  have n1_ := Aside0.mk (blk_below (g := gb156) (o := .cells #[.int .i64 ((rd_T41 l0 x4_1).f0), .int .i64 ((rd_T41 l0 x4_1).f1), .int .i64 ((rd_T41 l0 x4_1).f2), .int .i64 ((rd_T41 l0 x4_1).f3.f0), .int .i64 ((rd_T41 l0 x4_1).f3.f1), .int .i64 ((rd_T41 l0 x4_1).f3.f2), .int .i64 ((rd_T41 l0 x4_1).f3.f3)] 41 (0, 0)) (by (with_reducible repeat (first | refine blk_drewN ?_ _ | refine blk_drew ?_ | refine blk_alloc ?_ _)); exact BK156.out) hb)
                  have n2_ := Aside0.mk (below_step (by repeat (first | (with_reducible first | exact HB.out | apply below_alloc | apply pw_below_drewN | apply below_drew1 | refine below_set ?_ GE156.out) | exact HB.out)) hb)
                  clear HO_3
                  clear BK156
                  clear HB
                  have HO_3 := n0_
                  have BK156 := n1_
                  have HB := n2_
                  clear n0_ n1_ n2_
                  (try clear hb)
                  (try clear hb2)
                  (try clear hk)
                  (try clear hi)
                  refine hK.out _ _ ⟨(blk_cell BK156.out 0).trans rfl, (blk_cell BK156.out 1).trans rfl, (blk_cell BK156.out 2).trans rfl, (blk_cell BK156.out 3).trans rfl, (blk_cell BK156.out 4).trans rfl, (blk_cell BK156.out 5).trans rfl, (blk_cell BK156.out 6).trans rfl⟩ (fun hHeld => ?_)
                  clear hK K
                  refine norm_ (a' := ?_) ?_ ?_
                  rotate_left
                  · show Act.put _ (some 35) _ = _
                    simp only [Act.put, List.setIfInBounds_toArray, List.set_cons_zero, List.set_cons_succ, i64_w, i32_w]
                    rfl
                  refine pure_ (i := 16) (N := some 36) (v := ?_) (a' := ?_) #[true, true, true, true, true, true, true, true, true, true, true, true, true, true, true, true, true, false, false] rfl rfl (any_of HT_.out (by kernel_rfl)) (fun _ _ _ h => h) (Or.inl ⟨by rfl, ?_⟩) ?_ ?_
                  rotate_left
                  · intro w'
                    go_simp
                    with_reducible rfl
                  rotate_left
                  · simp only [Act.put, List.setIfInBounds_toArray, List.set_cons_zero, List.set_cons_succ, i64_w, i32_w]
                    rfl
                  refine pure_ (i := 17) (N := some 37) (v := ?_) (a' := ?_) #[true, true, true, true, true, true, true, true, true, true, true, true, true, true, true, true, true, true, false] rfl rfl (any_of HT_.out (by kernel_rfl)) (fun _ _ _ h => h) (Or.inl ⟨by rfl, ?_⟩) ?_ ?_
                  rotate_left
                  · intro w'
                    go_simp
                    with_reducible rfl
                  rotate_left
                  · simp only [Act.put, List.setIfInBounds_toArray, List.set_cons_zero, List.set_cons_succ, i64_w, i32_w]
                    rfl
                  refine last_ (i := 18) (N := none) #[true, true, true, true, true, true, true, true, true, true, true, true, true, true, true, true, true, true, true] rfl rfl (one_of HT_.out (by kernel_rfl)) (by decide) (fun K hK => ?_)
                  have hs20 : w19.cell? ⟨gb156, 3, none⟩ = some (.int .i64 ((rd_T41 l0 x4_1).f3.f0)) := (blk_cell BK156.out 3).trans rfl
                  have hfs20 := blk_frozen BK156.out 3
                  have hs21 : w19.cell? ⟨gb156, 4, none⟩ = some (.int .i64 ((rd_T41 l0 x4_1).f3.f1)) := (blk_cell BK156.out 4).trans rfl
                  have hfs21 := blk_frozen BK156.out 4
                  have hs22 : w19.cell? ⟨gb156, 5, none⟩ = some (.int .i64 ((rd_T41 l0 x4_1).f3.f2)) := (blk_cell BK156.out 5).trans rfl
                  have hfs22 := blk_frozen BK156.out 5
                  have hs23 : w19.cell? ⟨gb156, 6, none⟩ = some (.int .i64 ((rd_T41 l0 x4_1).f3.f3)) := (blk_cell BK156.out 6).trans rfl
                  have hfs23 := blk_frozen BK156.out 6
                  refine skip_ (w1 := ?_) (by rfl) rfl ?_ ?_
                  rotate_left
                  · go_simp
                    rfl
                  refine hK.out _ _ ?_
                  clear hK K
                  refine done_ (done_of HT_.out (by kernel_rfl)) ?_
                  have hcz24_0 : w19.cell? ⟨gb156, 0, none⟩ = some (.int .i64 ((rd_T41 l0 x4_1).f0)) := (blk_cell BK156.out 0).trans rfl
                  have hcz24_1 : w19.cell? ⟨gb156, 1, none⟩ = some (.int .i64 ((rd_T41 l0 x4_1).f1)) := (blk_cell BK156.out 1).trans rfl
                  have hcz24_2 : w19.cell? ⟨gb156, 2, none⟩ = some (.int .i64 ((rd_T41 l0 x4_1).f2)) := (blk_cell BK156.out 2).trans rfl
                  have hcz24_3 : w19.cell? ⟨gb156, 3, none⟩ = some (.int .i64 ((rd_T41 l0 x4_1).f3.f0)) := (blk_cell BK156.out 3).trans rfl
                  have hcz24_4 : w19.cell? ⟨gb156, 4, none⟩ = some (.int .i64 ((rd_T41 l0 x4_1).f3.f1)) := (blk_cell BK156.out 4).trans rfl
                  have hcz24_5 : w19.cell? ⟨gb156, 5, none⟩ = some (.int .i64 ((rd_T41 l0 x4_1).f3.f2)) := (blk_cell BK156.out 5).trans rfl
                  have hcz24_6 : w19.cell? ⟨gb156, 6, none⟩ = some (.int .i64 ((rd_T41 l0 x4_1).f3.f3)) := (blk_cell BK156.out 6).trans rfl
                  have hfz24_0 := blk_frozen BK156.out 0
                  have hfz24_1 := blk_frozen BK156.out 1
                  have hfz24_2 := blk_frozen BK156.out 2
                  have hfz24_3 := blk_frozen BK156.out 3
                  have hfz24_4 := blk_frozen BK156.out 4
                  have hfz24_5 := blk_frozen BK156.out 5
                  have hfz24_6 := blk_frozen BK156.out 6
                  try go_wp2_with (first | ((with_reducible refine gate_builtin (b := .append) (xs := #[.tmp 38, .tmp 40]) rfl ?_); at_builtin; refine Kd.R_append k41 (w0 := w) w.heap.size rfl (.tmp 38) (.tmp 40) 32 41 (.agg #[(.int .i64 0), (.int .i64 0), (.int .i64 0), (.int .i64 0), (.int .i64 0), (.int .i64 0), (.int .i64 0)]) 56 rfl Tryd.underlying32 info41 rfl (by decide) (by omega) u3 x3_1 (⟨(rd_T41 l0 x4_1).f0, (rd_T41 l0 x4_1).f1, (rd_T41 l0 x4_1).f2, (⟨t157, t158, t159, t160⟩ : S30)⟩ : S41) [.int .i64 ((rd_T41 l0 x4_1).f0), .int .i64 ((rd_T41 l0 x4_1).f1), .int .i64 ((rd_T41 l0 x4_1).f2), .int .i64 t157, .int .i64 t158, .int .i64 t159, .int .i64 t160] (fun k_ => k_ ≠ gb156) (fun _ => False) rfl (by first | (go_simp; done) | (go_simp; rfl)) ?aP (fun _ hk => hk.elim) ?aF ?aO ?aB ?aS ?aL ?_; (case aP => exact k41_mkM _ _ _ (⟨(rd_T41 l0 x4_1).f0, (rd_T41 l0 x4_1).f1, (rd_T41 l0 x4_1).f2, (⟨t157, t158, t159, t160⟩ : S30)⟩ : S41)); (case aB => exact (by repeat (first | (with_reducible first | exact HB.out | apply below_alloc | apply pw_below_drewN | apply below_drew1 | refine below_set ?_ GE156.out) | exact HB.out))); (case aF => exact (fun k_ hk => Kd.freshB (g := gb156) (o := .cells #[.int .i64 ((rd_T41 l0 x4_1).f0), .int .i64 ((rd_T41 l0 x4_1).f1), .int .i64 ((rd_T41 l0 x4_1).f2), .int .i64 t157, .int .i64 t158, .int .i64 t159, .int .i64 t160] 41 (0, 0)) (by (with_reducible repeat (first | refine blk_drewN ?_ _ | refine blk_drew ?_ | refine blk_alloc ?_ _)); refine blk_put (cs := #[.int .i64 ((rd_T41 l0 x4_1).f0), .int .i64 ((rd_T41 l0 x4_1).f1), .int .i64 ((rd_T41 l0 x4_1).f2), .int .i64 t157, .int .i64 t158, .int .i64 t159, .int .i64 ((rd_T41 l0 x4_1).f3.f3)]) ?_ 6 _ rfl; (with_reducible repeat (first | refine blk_drewN ?_ _ | refine blk_drew ?_ | refine blk_alloc ?_ _)); refine blk_put (cs := #[.int .i64 ((rd_T41 l0 x4_1).f0), .int .i64 ((rd_T41 l0 x4_1).f1), .int .i64 ((rd_T41 l0 x4_1).f2), .int .i64 t157, .int .i64 t158, .int .i64 ((rd_T41 l0 x4_1).f3.f2), .int .i64 ((rd_T41 l0 x4_1).f3.f3)]) ?_ 5 _ rfl; (with_reducible repeat (first | refine blk_drewN ?_ _ | refine blk_drew ?_ | refine blk_alloc ?_ _)); refine blk_put (cs := #[.int .i64 ((rd_T41 l0 x4_1).f0), .int .i64 ((rd_T41 l0 x4_1).f1), .int .i64 ((rd_T41 l0 x4_1).f2), .int .i64 t157, .int .i64 ((rd_T41 l0 x4_1).f3.f1), .int .i64 ((rd_T41 l0 x4_1).f3.f2), .int .i64 ((rd_T41 l0 x4_1).f3.f3)]) ?_ 4 _ rfl; (with_reducible repeat (first | refine blk_drewN ?_ _ | refine blk_drew ?_ | refine blk_alloc ?_ _)); refine blk_put (cs := #[.int .i64 ((rd_T41 l0 x4_1).f0), .int .i64 ((rd_T41 l0 x4_1).f1), .int .i64 ((rd_T41 l0 x4_1).f2), .int .i64 ((rd_T41 l0 x4_1).f3.f0), .int .i64 ((rd_T41 l0 x4_1).f3.f1), .int .i64 ((rd_T41 l0 x4_1).f3.f2), .int .i64 ((rd_T41 l0 x4_1).f3.f3)]) ?_ 3 _ rfl; (with_reducible repeat (first | refine blk_drewN ?_ _ | refine blk_drew ?_ | refine blk_alloc ?_ _)); exact BK156.out) k_ hk)); (case aO => exact (by (with_reducible repeat (first | apply Kd.R_alloc | apply Kd.R_drewN | apply Kd.R_drew)); exact Kd.R_mono (Kd.R_far (p := ⟨gb156, 6, none⟩) (Kd.R_far (p := ⟨gb156, 5, none⟩) (Kd.R_far (p := ⟨gb156, 4, none⟩) (Kd.R_far (p := ⟨gb156, 3, none⟩) (Kd.R_mono HO_3.out (fun k_ hk => (⟨hk, hk⟩ : _ ∧ k_ ≠ gb156))) (fun _ hk => hk.2) (.int .i64 t157)) (fun _ hk => hk.2) (.int .i64 t158)) (fun _ hk => hk.2) (.int .i64 t159)) (fun _ hk => hk.2) (.int .i64 t160)) (fun _ hk => hk.1))); (case aS => exact (below_size (by repeat (first | (with_reducible first | exact HB.out | apply below_alloc | apply pw_below_drewN | apply below_drew1 | refine below_set ?_ GE156.out) | exact HB.out)))); (case aL => have := LMc11.out; omega); intro v162 w25 ho hb hg hat; rw [← Ny161.out] at ho; have n0_ := Aside0.mk (blk_grown (g := gb156) (o := .cells #[.int .i64 ((rd_T41 l0 x4_1).f0), .int .i64 ((rd_T41 l0 x4_1).f1), .int .i64 ((rd_T41 l0 x4_1).f2), .int .i64 t157, .int .i64 t158, .int .i64 t159, .int .i64 t160] 41 (0, 0)) (by (with_reducible repeat (first | refine blk_drewN ?_ _ | refine blk_drew ?_ | refine blk_alloc ?_ _)); refine blk_put (cs := #[.int .i64 ((rd_T41 l0 x4_1).f0), .int .i64 ((rd_T41 l0 x4_1).f1), .int .i64 ((rd_T41 l0 x4_1).f2), .int .i64 t157, .int .i64 t158, .int .i64 t159, .int .i64 ((rd_T41 l0 x4_1).f3.f3)]) ?_ 6 _ rfl; (with_reducible repeat (first | refine blk_drewN ?_ _ | refine blk_drew ?_ | refine blk_alloc ?_ _)); refine blk_put (cs := #[.int .i64 ((rd_T41 l0 x4_1).f0), .int .i64 ((rd_T41 l0 x4_1).f1), .int .i64 ((rd_T41 l0 x4_1).f2), .int .i64 t157, .int .i64 t158, .int .i64 ((rd_T41 l0 x4_1).f3.f2), .int .i64 ((rd_T41 l0 x4_1).f3.f3)]) ?_ 5 _ rfl; (with_reducible repeat (first | refine blk_drewN ?_ _ | refine blk_drew ?_ | refine blk_alloc ?_ _)); refine blk_put (cs := #[.int .i64 ((rd_T41 l0 x4_1).f0), .int .i64 ((rd_T41 l0 x4_1).f1), .int .i64 ((rd_T41 l0 x4_1).f2), .int .i64 t157, .int .i64 ((rd_T41 l0 x4_1).f3.f1), .int .i64 ((rd_T41 l0 x4_1).f3.f2), .int .i64 ((rd_T41 l0 x4_1).f3.f3)]) ?_ 4 _ rfl; (with_reducible repeat (first | refine blk_drewN ?_ _ | refine blk_drew ?_ | refine blk_alloc ?_ _)); refine blk_put (cs := #[.int .i64 ((rd_T41 l0 x4_1).f0), .int .i64 ((rd_T41 l0 x4_1).f1), .int .i64 ((rd_T41 l0 x4_1).f2), .int .i64 ((rd_T41 l0 x4_1).f3.f0), .int .i64 ((rd_T41 l0 x4_1).f3.f1), .int .i64 ((rd_T41 l0 x4_1).f3.f2), .int .i64 ((rd_T41 l0 x4_1).f3.f3)]) ?_ 3 _ rfl; (with_reducible repeat (first | refine blk_drewN ?_ _ | refine blk_drew ?_ | refine blk_alloc ?_ _)); exact BK156.out) hg (Kd.R_away HO_3.out (fun _ hk => hk))); have n1_ := Aside0.mk (hb); have n2_ := Aside0.mk (ho); clear BK156; clear HB; clear HO_3; have BK156 := n0_; have HB := n1_; have HO163 := n2_; clear n0_ n1_ n2_; clear ho hb hg hat))
                  go_roundg kj1
                  case measure => have := HK1.out; have := HJ1.out; omega
                  case rel => exact ⟨(y161), (wrap64 (x4_1 + 1)), (by first | rfl | (simp; done) | (simp [*]; done)), H', ⟨by have := HK1.out; have := HJ1.out; omega⟩, ⟨by (with_reducible repeat (first | apply Kd.R_alloc | apply Kd.R_drewN | apply Kd.R_drew)); exact Kd.R_mono HO163.out (fun _ hk => trivial)⟩, ⟨by repeat (first | (with_reducible first | exact HB.out | apply below_alloc | apply pw_below_drewN | apply below_drew1 | refine below_set ?_ GE156.out) | exact HB.out)⟩⟩
                · rw [if_neg c11] at H
                  exact absurd H (by simp)
              · rw [if_neg c6] at H
                exact absurd H (by simp)
            · rw [if_neg c5] at H
              exact absurd H (by simp)
          · replace c4 := Bool.eq_false_iff.mpr c4
            subst c4
            have H1 : (some x3_1) = some r := by rw [if_neg (show ¬ (false = true) by decide)] at H; exact H
            clear H
            have H := H1
            clear H1
            obtain rfl := Option.some.inj H
            go_wp2
            go_ret
            exact ⟨_, by first | rfl | (simp [errW_none, errW_some] <;> rfl) | (simp [*, errW_none, errW_some] <;> rfl), by (with_reducible repeat (first | apply Kd.R_alloc | apply Kd.R_drewN | apply Kd.R_drew)); exact HO_3.out, by repeat (first | (with_reducible first | exact HB.out | apply below_alloc | apply pw_below_drewN | apply below_drew1) | exact HB.out)⟩

end Go.Proofs.YtkmddhljfjjglaaDoor.G
