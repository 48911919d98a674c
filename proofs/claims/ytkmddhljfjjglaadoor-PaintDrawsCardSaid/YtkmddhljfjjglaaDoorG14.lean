/- Functions of the law and of what it calls as plain Lean functions, and that the calls come to their answers: written by fprint.py. -/
import Derived.Test.YtkmddhljfjjglaaDoorF17
import Derived.Test.YtkmddhljfjjglaaDoorG0
namespace Go.Proofs.YtkmddhljfjjglaaDoor.G
open Go.RowKit Go.Proofs.YtkmddhljfjjglaaDoorW.PrintWords Go.Proofs.YtkmddhljfjjglaaDoorW.PrintLast Go.Proofs.YtkmddhljfjjglaaDoorW.PrintMore
attribute [local go_sem] max2_int min2_int max_two min_two max_three min_three max_four min_four   -- for this text's walks alone
set_option linter.unusedVariables false
set_option linter.unusedSimpArgs false

/-! ### gutterref18_Draws: function 18 -/
mutual
def gutterref18_Draws.l0 : Nat → List (S30) → List (S41) → List (S39) → Int → Option ((List (S39)) × Int)
 | 0, _, _, _, _ => none
 | k + 1, x0, x1, x6, x7 => if x7 < (x0.length : Int) then (if 0 ≤ x7 then ((gutterref18_Is.f ((rd_T30 x0 x7).f0) ((rd_T30 x0 x7).f1) ((rd_T30 x0 x7).f2) ((rd_T30 x0 x7).f3)).bind fun t197 => (if t197 = true then (if x6.length < 2932031007402 then (gutterref18_Draws.l0 k x0 x1 (x6 ++ [(⟨true, 0, (⟨(rd_T30 x0 x7).f0, (rd_T30 x0 x7).f1, (rd_T30 x0 x7).f2, (rd_T30 x0 x7).f3⟩ : S30)⟩ : S39)]) (wrap64 (x7 + 1))) else (none)) else (some (([] : List (S39)), 170)))) else (none)) else (gutterref18_Draws.l1 k x1 x6 0)
def gutterref18_Draws.l1 : Nat → List (S41) → List (S39) → Int → Option ((List (S39)) × Int)
 | 0, _, _, _ => none
 | k + 1, x1, x6, x8 => if x8 < (x1.length : Int) then (if 0 ≤ x8 then ((gutterref18_Is.f ((rd_T41 x1 x8).f3.f0) ((rd_T41 x1 x8).f3.f1) ((rd_T41 x1 x8).f3.f2) ((rd_T41 x1 x8).f3.f3)).bind fun t204 => (if t204 = true then (if ((rd_T41 x1 x8).f3.f2) > 0 then (if ((rd_T41 x1 x8).f3.f3) > 0 then (if x6.length < 2932031007402 then (gutterref18_Draws.l1 k x1 (x6 ++ [(⟨false, (rd_T41 x1 x8).f0, (⟨(rd_T41 x1 x8).f3.f0, (rd_T41 x1 x8).f3.f1, (rd_T41 x1 x8).f3.f2, (rd_T41 x1 x8).f3.f3⟩ : S30)⟩ : S39)]) (wrap64 (x8 + 1))) else (none)) else (gutterref18_Draws.l1 k x1 x6 (wrap64 (x8 + 1)))) else (gutterref18_Draws.l1 k x1 x6 (wrap64 (x8 + 1)))) else (some (([] : List (S39)), 170)))) else (none)) else (some (x6, 0))
end
def gutterref18_Draws.f (k : Nat) (l0 : List (S30)) (l1 : List (S41)) : Option ((List (S39)) × Int) := gutterref18_Draws.l0 k l0 l1 ([] : List (S39)) 0
theorem gutterref18_Draws.mono_l : ∀ k, (∀ y0 y1 y2 y3, LeO (gutterref18_Draws.l0 k y0 y1 y2 y3) (gutterref18_Draws.l0 (k + 1) y0 y1 y2 y3)) ∧ (∀ y0 y1 y2, LeO (gutterref18_Draws.l1 k y0 y1 y2) (gutterref18_Draws.l1 (k + 1) y0 y1 y2))
 | 0 => ⟨fun _ _ _ _ r h => by simp [gutterref18_Draws.l0] at h, fun _ _ _ r h => by simp [gutterref18_Draws.l1] at h⟩
 | k + 1 => by
  obtain ⟨ih0, ih1⟩ := gutterref18_Draws.mono_l k
  refine ⟨?_, ?_⟩
  ·
   intro y0 y1 y2 y3
   unfold gutterref18_Draws.l0
   repeat' first
   | (with_reducible exact ih0 _ _ _ _)
   | (with_reducible exact ih1 _ _ _)
   | (with_reducible exact LeO.refl _)
   | (with_reducible exact LeO.none _)
   | (with_reducible refine LeO.ite ?_ ?_)
   | (with_reducible refine LeO.bind ?_ (fun _ => ?_))
   | exact ih0 _ _ _ _
   | exact ih1 _ _ _
   | exact LeO.none _
   | refine LeO.ite ?_ ?_
   | refine LeO.bind ?_ (fun _ => ?_)
  ·
   intro y0 y1 y2
   unfold gutterref18_Draws.l1
   repeat' first
   | (with_reducible exact ih0 _ _ _ _)
   | (with_reducible exact ih1 _ _ _)
   | (with_reducible exact LeO.refl _)
   | (with_reducible exact LeO.none _)
   | (with_reducible refine LeO.ite ?_ ?_)
   | (with_reducible refine LeO.bind ?_ (fun _ => ?_))
   | exact ih0 _ _ _ _
   | exact ih1 _ _ _
   | exact LeO.none _
   | refine LeO.ite ?_ ?_
   | refine LeO.bind ?_ (fun _ => ?_)
theorem gutterref18_Draws.mono : ∀ a0 a1 k, LeO (gutterref18_Draws.f k a0 a1) (gutterref18_Draws.f (k + 1) a0 a1) := by
 intro a0 a1 k
 obtain ⟨ih0, ih1⟩ := gutterref18_Draws.mono_l k
 unfold gutterref18_Draws.f
 repeat' first
   | (with_reducible exact ih0 _ _ _ _)
   | (with_reducible exact ih1 _ _ _)
   | (with_reducible exact LeO.refl _)
   | (with_reducible exact LeO.none _)
   | (with_reducible refine LeO.ite ?_ ?_)
   | (with_reducible refine LeO.bind ?_ (fun _ => ?_))
   | exact ih0 _ _ _ _
   | exact ih1 _ _ _
   | exact LeO.none _
   | refine LeO.ite ?_ ?_
   | refine LeO.bind ?_ (fun _ => ?_)
def gutterref18_Draws.T15 : Bool × List (List Nat × List Nat) := (true, [([], []), ([], []), ([], []), ([1, 2], [1, 2]), ([3], [3]), ([4], [4]), ([], []), ([5, 6], [5, 6]), ([7], [7]), ([0, 8], [0, 8]), ([9, 9, 0, 1, 2, 3, 4, 5, 6, 7, 8, 9], [0, 9])])
def gutterref18_Draws.B15 : List Nat := [0, 0, 0, 6, 14, 30, 0, 126, 254, 511, 1023]
theorem gutterref18_Draws.tab15 : rtab .any (opsOf Tryd.f18 15) = gutterref18_Draws.T15 := by kernel_rfl
theorem gutterref18_Draws.bits15 : waitsOk gutterref18_Draws.T15.2 gutterref18_Draws.B15 = true := by kernel_rfl
set_option maxHeartbeats 8000000 in
set_option maxRecDepth 100000 in
theorem gutterref18_Draws.calls (k : Nat) (A0 : Option Addr) (c0 : Nat) (l0 : List (S30)) (A1 : Option Addr) (c1 : Nat) (l1 : List (S41)) (r1 : List (S39)) (r2 : Int) (w : World) (hr0 : Kd.C k30 w A0 l0.length l0) (hc0 : l0.length ≤ c0) (hr1 : Kd.C k41 w A1 l1.length l1) (hc1 : l1.length ≤ c1) (h : gutterref18_Draws.f k l0 l1 = some (r1, r2)) :
  Calls Tryd.prog 18 #[.slice A0 l0.length c0, .slice A1 l1.length c1] w fun e w' => ∃ v0_ : Value, e = .returned (.tuple #[v0_, .int .i64 r2]) ∧ Kd.R k39 39 w' w.heap.size (fun _ => True) v0_ r1 ∧ Below w.heap.size w w' := by
 have hu30 := Tryd.underlying30
 have hu39 := Tryd.underlying39
 have HR0 := Aside0.mk hr0
 have HC0 := Aside0.mk hc0
 clear hr0 hc0
 have HR1 := Aside0.mk hr1
 have HC1 := Aside0.mk hc1
 clear hr1 hc1
 have HB := Aside0.mk (Below.refl w.heap.size w)
 have H : (gutterref18_Draws.l0 k l0 l1 ([] : List (S39)) 0) = some (r1, r2) := h
 clear h
 have H' := Aside0.mk H
 clear H
 go_enter Tryd.func18, Tryd.ntmps18
 go_wp2
 go_loopg [6, 7] k (fun kq v6 v7 w' => ∃ (x6_1 : List (S39)) (x7_1 : Int), v7 = .int .i64 x7_1 ∧ Aside0 (gutterref18_Draws.l0 kq l0 l1 x6_1 x7_1 = some (r1, r2)) ∧ Aside0 (kq ≤ k) ∧ Aside0 (Kd.R k39 39 w' w.heap.size (fun _ => True) v6 x6_1) ∧ Aside0 (Below w.heap.size w w'))
 case atStart => exact ⟨(([] : List (S39))), (0), (by first | rfl | (simp; done) | (simp [*]; done)), H', ⟨Nat.le_refl _⟩, ⟨by first | exact Kd.R_nil _ _ _ _ _ | exact Kd.N_nil _ _ _ _ _ | exact Kd.V_nil _ _ _ _ _ | exact Kd.Q_nil _ _ _ _ _ | exact Kd.S_nil _ _ _ _ _⟩, ⟨by repeat (first | (with_reducible first | exact HB.out | apply below_alloc | apply pw_below_drewN | apply below_drew1) | exact HB.out)⟩⟩
 case round =>
  clear H'
  try clear c1
  try clear p2
  obtain ⟨x6_1, x7_1, rfl, HA, HK1, HO_6, HB⟩ := hrel
  cases gk with
  | zero => exact absurd HA.out (by simp [gutterref18_Draws.l0])
  | succ k1 =>
   have H := HA.out
   clear HA
   simp only [gutterref18_Draws.l0] at H
   by_cases c3 : x7_1 < (l0.length : Int)
   ·
    rw [if_pos c3] at H
    have c3b0 : decide (x7_1 < (l0.length : Int)) = true := decide_eq_true c3
    clear c3
    by_cases c4 : 0 ≤ x7_1
    ·
     rw [if_pos c4] at H
     have c4b0 : decide (0 ≤ x7_1) = true := decide_eq_true c4
     clear c4
     replace H := Option.bind_eq_some_iff.mp H
     obtain ⟨t197, A50, H⟩ := H
     replace H : (if t197 = true then (if x6_1.length < 2932031007402 then (gutterref18_Draws.l0 k1 l0 l1 (x6_1 ++ [(⟨true, 0, (⟨(rd_T30 l0 x7_1).f0, (rd_T30 l0 x7_1).f1, (rd_T30 l0 x7_1).f2, (rd_T30 l0 x7_1).f3⟩ : S30)⟩ : S39)]) (wrap64 (x7_1 + 1))) else (none)) else (some (([] : List (S39)), 170))) = some (r1, r2) := H
     have A5 := Aside0.mk A50
     clear A50
     by_cases c6 : t197 = true
     ·
      subst c6
      have H1 : (if x6_1.length < 2932031007402 then (gutterref18_Draws.l0 k1 l0 l1 (x6_1 ++ [(⟨true, 0, (⟨(rd_T30 l0 x7_1).f0, (rd_T30 l0 x7_1).f1, (rd_T30 l0 x7_1).f2, (rd_T30 l0 x7_1).f3⟩ : S30)⟩ : S39)]) (wrap64 (x7_1 + 1))) else (none)) = some (r1, r2) := by rw [if_pos rfl] at H; exact H
      clear H
      have H := H1
      clear H1
      by_cases c7 : x6_1.length < 2932031007402
      ·
       rw [if_pos c7] at H
       have LMc7 := Aside0.mk c7
       clear c7
       obtain ⟨y199, hy199⟩ : ∃ y_ : List (S39), y_ = (x6_1 ++ [(⟨true, 0, (⟨(rd_T30 l0 x7_1).f0, (rd_T30 l0 x7_1).f1, (rd_T30 l0 x7_1).f2, (rd_T30 l0 x7_1).f3⟩ : S30)⟩ : S39)]) := ⟨_, rfl⟩
       replace H : (gutterref18_Draws.l0 k1 l0 l1 y199 (wrap64 (x7_1 + 1))) = some (r1, r2) := by first | (rw [hy199]; with_reducible exact H) | (have H2_ := (Option.bind_some _ _).symm.trans H; rw [hy199]; with_reducible exact H2_) | (have H2_ := (Option.bind_some _ _).symm.trans H; with_reducible exact H2_) | with_reducible exact H | (rw [hy199]; exact H) | exact H
       have Ny199 := Aside0.mk hy199
       clear hy199
       have H' := Aside0.mk H
       clear H
       have p196 : 0 ≤ (x7_1 : Int) := of_decide_eq_true (by first | (with_reducible assumption) | assumption)
       have q196 : x7_1 < (l0.length : Int) := of_decide_eq_true (by first | (with_reducible assumption) | assumption)
       obtain ⟨ad196, e196, hx196_0, hx196_1, hx196_2, hx196_3⟩ := at_T30 HR0.out x7_1 p196 q196
       cases e196
       replace hx196_0 := (HB.out.cell (World.block_lt_of_cell? w _ hx196_0)).trans hx196_0
       replace hx196_1 := (HB.out.cell (World.block_lt_of_cell? w _ hx196_1)).trans hx196_1
       replace hx196_2 := (HB.out.cell (World.block_lt_of_cell? w _ hx196_2)).trans hx196_2
       replace hx196_3 := (HB.out.cell (World.block_lt_of_cell? w _ hx196_3)).trans hx196_3
       replace p196 := eq_true p196
       replace q196 := eq_true q196
       go_wp2_with (first | ((with_reducible refine gate_callee (f := 39) rfl ?_); refine goesL_ (some 20) rfl rfl Tryd.func39 (by kernel_rfl) rfl #[.agg #[.int .i64 ((rd_T30 l0 x7_1).f0), .int .i64 ((rd_T30 l0 x7_1).f1), .int .i64 ((rd_T30 l0 x7_1).f2), .int .i64 ((rd_T30 l0 x7_1).f3)]] rfl (by (try simp only [List.map_toArray, List.map_cons, List.map_nil]); first | done | rfl | (simp only [List.length_drop, List.length_take]; rfl)) ?_; (with_reducible refine (gutterref18_Is.calls ((rd_T30 l0 x7_1).f0) ((rd_T30 l0 x7_1).f1) ((rd_T30 l0 x7_1).f2) ((rd_T30 l0 x7_1).f3) true _ A5.out).mono ?_); rintro e w8 ⟨rfl, hb⟩; refine ⟨_, rfl, ?_⟩; have n0_ := Aside0.mk (Kd.R_below (by (with_reducible repeat (first | apply Kd.R_alloc | apply Kd.R_drewN | apply Kd.R_drew)); exact HO_6.out) hb); have n1_ := Aside0.mk (below_step (by repeat (first | (with_reducible first | exact HB.out | apply below_alloc | apply pw_below_drewN | apply below_drew1) | exact HB.out)) hb); clear HO_6; clear HB; have HO_6 := n0_; have HB := n1_; clear n0_ n1_; (try clear hb); (try clear hb2); (try clear hk); (try clear hi); have p198 : 0 ≤ (x7_1 : Int) := of_decide_eq_true (by first | (with_reducible assumption) | assumption); have q198 : x7_1 < (l0.length : Int) := of_decide_eq_true (by first | (with_reducible assumption) | assumption); obtain ⟨ad198, e198, hx198_0, hx198_1, hx198_2, hx198_3⟩ := at_T30 HR0.out x7_1 p198 q198; obtain rfl : ad196 = ad198 := (by injection e198); replace hx198_0 := (HB.out.cell (World.block_lt_of_cell? w _ hx198_0)).trans hx198_0; replace hx198_1 := (HB.out.cell (World.block_lt_of_cell? w _ hx198_1)).trans hx198_1; replace hx198_2 := (HB.out.cell (World.block_lt_of_cell? w _ hx198_2)).trans hx198_2; replace hx198_3 := (HB.out.cell (World.block_lt_of_cell? w _ hx198_3)).trans hx198_3; replace p198 := eq_true p198; replace q198 := eq_true q198) | ((with_reducible refine gate_builtin (b := .append) (xs := #[.tmp 22, .tmp 28]) rfl ?_); at_builtin; refine Kd.R_append k39 (w0 := w) w.heap.size rfl (.tmp 22) (.tmp 28) 35 39 (.agg #[(.bool false), (.int .i64 0), (.int .i64 0), (.int .i64 0), (.int .i64 0), (.int .i64 0)]) 48 rfl Tryd.underlying35 info39 rfl (by decide) (by omega) u6 x6_1 (⟨true, 0, (⟨(rd_T30 l0 x7_1).f0, (rd_T30 l0 x7_1).f1, (rd_T30 l0 x7_1).f2, (rd_T30 l0 x7_1).f3⟩ : S30)⟩ : S39) [.bool true, .int .i64 0, .int .i64 ((rd_T30 l0 x7_1).f0), .int .i64 ((rd_T30 l0 x7_1).f1), .int .i64 ((rd_T30 l0 x7_1).f2), .int .i64 ((rd_T30 l0 x7_1).f3)] (fun _ => True) (fun _ => False) rfl rfl ?aP (fun _ hk => hk.elim) ?aF ?aO ?aB ?aS ?aL ?_; (case aP => exact k39_mkM _ _ _ (⟨true, 0, (⟨(rd_T30 l0 x7_1).f0, (rd_T30 l0 x7_1).f1, (rd_T30 l0 x7_1).f2, (rd_T30 l0 x7_1).f3⟩ : S30)⟩ : S39)); (case aB => exact (by repeat (first | (with_reducible first | exact HB.out | apply below_alloc | apply pw_below_drewN | apply below_drew1) | exact HB.out))); (case aF => exact (fun _ _ => trivial)); (case aO => exact (by (with_reducible repeat (first | apply Kd.R_alloc | apply Kd.R_drewN | apply Kd.R_drew)); exact HO_6.out)); (case aS => exact (below_size (by repeat (first | (with_reducible first | exact HB.out | apply below_alloc | apply pw_below_drewN | apply below_drew1) | exact HB.out)))); (case aL => have := LMc7.out; omega); intro v200 w9 ho hb hg hat; rw [← Ny199.out] at ho; have n0_ := Aside0.mk (hb); have n1_ := Aside0.mk (ho); clear HB; clear HO_6; have HB := n0_; have HO201 := n1_; clear n0_ n1_; clear ho hb hg hat))
       go_roundg k1
       case measure => have := HK1.out; omega
       case rel => exact ⟨(y199), (wrap64 (x7_1 + 1)), (by first | rfl | (simp; done) | (simp [*]; done)), H', ⟨by have := HK1.out; omega⟩, ⟨by (with_reducible repeat (first | apply Kd.R_alloc | apply Kd.R_drewN | apply Kd.R_drew)); exact HO201.out⟩, ⟨by repeat (first | (with_reducible first | exact HB.out | apply below_alloc | apply pw_below_drewN | apply below_drew1) | exact HB.out)⟩⟩
      ·
       rw [if_neg c7] at H
       exact absurd H (by simp)
     ·
      replace c6 := Bool.eq_false_iff.mpr c6
      subst c6
      have H1 : (some (([] : List (S39)), 170)) = some (r1, r2) := by rw [if_neg (show ¬ (false = true) by decide)] at H; exact H
      clear H
      have H := H1
      clear H1
      simp only [Option.some.injEq, Prod.mk.injEq] at H
      obtain ⟨rfl, rfl⟩ := H
      have p196 : 0 ≤ (x7_1 : Int) := of_decide_eq_true (by first | (with_reducible assumption) | assumption)
      have q196 : x7_1 < (l0.length : Int) := of_decide_eq_true (by first | (with_reducible assumption) | assumption)
      obtain ⟨ad196, e196, hx196_0, hx196_1, hx196_2, hx196_3⟩ := at_T30 HR0.out x7_1 p196 q196
      cases e196
      replace hx196_0 := (HB.out.cell (World.block_lt_of_cell? w _ hx196_0)).trans hx196_0
      replace hx196_1 := (HB.out.cell (World.block_lt_of_cell? w _ hx196_1)).trans hx196_1
      replace hx196_2 := (HB.out.cell (World.block_lt_of_cell? w _ hx196_2)).trans hx196_2
      replace hx196_3 := (HB.out.cell (World.block_lt_of_cell? w _ hx196_3)).trans hx196_3
      replace p196 := eq_true p196
      replace q196 := eq_true q196
      go_wp2_with (first | ((with_reducible refine gate_callee (f := 39) rfl ?_); refine goesL_ (some 20) rfl rfl Tryd.func39 (by kernel_rfl) rfl #[.agg #[.int .i64 ((rd_T30 l0 x7_1).f0), .int .i64 ((rd_T30 l0 x7_1).f1), .int .i64 ((rd_T30 l0 x7_1).f2), .int .i64 ((rd_T30 l0 x7_1).f3)]] rfl (by (try simp only [List.map_toArray, List.map_cons, List.map_nil]); first | done | rfl | (simp only [List.length_drop, List.length_take]; rfl)) ?_; (with_reducible refine (gutterref18_Is.calls ((rd_T30 l0 x7_1).f0) ((rd_T30 l0 x7_1).f1) ((rd_T30 l0 x7_1).f2) ((rd_T30 l0 x7_1).f3) false _ A5.out).mono ?_); rintro e w10 ⟨rfl, hb⟩; refine ⟨_, rfl, ?_⟩; have n0_ := Aside0.mk (Kd.R_below (by (with_reducible repeat (first | apply Kd.R_alloc | apply Kd.R_drewN | apply Kd.R_drew)); exact HO_6.out) hb); have n1_ := Aside0.mk (below_step (by repeat (first | (with_reducible first | exact HB.out | apply below_alloc | apply pw_below_drewN | apply below_drew1) | exact HB.out)) hb); clear HO_6; clear HB; have HO_6 := n0_; have HB := n1_; clear n0_ n1_; (try clear hb); (try clear hb2); (try clear hk); (try clear hi)))
      go_ret2
      exact ⟨_, by first | rfl | (simp [errW_none, errW_some] <;> rfl) | (simp [*, errW_none, errW_some] <;> rfl), by first | exact Kd.R_nil _ _ _ _ _ | exact Kd.N_nil _ _ _ _ _ | exact Kd.V_nil _ _ _ _ _ | exact Kd.Q_nil _ _ _ _ _ | exact Kd.S_nil _ _ _ _ _, by repeat (first | (with_reducible first | exact HB.out | apply below_alloc | apply pw_below_drewN | apply below_drew1) | exact HB.out)⟩
    ·
     rw [if_neg c4] at H
     exact absurd H (by simp)
   ·
    rw [if_neg c3] at H
    have c3b0 : decide (x7_1 < (l0.length : Int)) = false := decide_eq_false c3
    clear c3
    have H' := Aside0.mk H
    clear H
    go_wp2
    go_loopg [6, 8] k1 (fun kq v6 v8 w' => ∃ (x6_2 : List (S39)) (x8_2 : Int), v8 = .int .i64 x8_2 ∧ Aside0 (gutterref18_Draws.l1 kq l1 x6_2 x8_2 = some (r1, r2)) ∧ Aside0 (kq ≤ k1) ∧ Aside0 (Kd.R k39 39 w' w.heap.size (fun _ => True) v6 x6_2) ∧ Aside0 (Below w.heap.size w w'))
    case atStart => exact ⟨(x6_1), (0), (by first | rfl | (simp; done) | (simp [*]; done)), H', ⟨Nat.le_refl _⟩, ⟨by (with_reducible repeat (first | apply Kd.R_alloc | apply Kd.R_drewN | apply Kd.R_drew)); exact HO_6.out⟩, ⟨by repeat (first | (with_reducible first | exact HB.out | apply below_alloc | apply pw_below_drewN | apply below_drew1) | exact HB.out)⟩⟩
    case round =>
     clear H'
     try clear c1
     try clear p1
     try clear q1
     try clear hx1
     try clear p2
     try clear c3
     try clear c3b0
     try clear c4
     try clear c4b0
     try clear c6
     try clear p6
     try clear c7
     try clear hx196_0
     try clear hx196_1
     try clear hx196_2
     try clear hx196_3
     try clear hx198_0
     try clear hx198_1
     try clear hx198_2
     try clear hx198_3
     try clear p196
     try clear p198
     try clear p2
     try clear q196
     try clear q198
     obtain ⟨x6_2, x8_2, rfl, HA, HK2, HO_6, HB⟩ := hrel
     cases gk with
     | zero => exact absurd HA.out (by simp [gutterref18_Draws.l1])
     | succ k2 =>
      have H := HA.out
      clear HA
      simp only [gutterref18_Draws.l1] at H
      by_cases c11 : x8_2 < (l1.length : Int)
      ·
       rw [if_pos c11] at H
       have c11b0 : decide (x8_2 < (l1.length : Int)) = true := decide_eq_true c11
       clear c11
       by_cases c12 : 0 ≤ x8_2
       ·
        rw [if_pos c12] at H
        have c12b0 : decide (0 ≤ x8_2) = true := decide_eq_true c12
        clear c12
        replace H := Option.bind_eq_some_iff.mp H
        obtain ⟨t204, A130, H⟩ := H
        replace H : (if t204 = true then (if ((rd_T41 l1 x8_2).f3.f2) > 0 then (if ((rd_T41 l1 x8_2).f3.f3) > 0 then (if x6_2.length < 2932031007402 then (gutterref18_Draws.l1 k2 l1 (x6_2 ++ [(⟨false, (rd_T41 l1 x8_2).f0, (⟨(rd_T41 l1 x8_2).f3.f0, (rd_T41 l1 x8_2).f3.f1, (rd_T41 l1 x8_2).f3.f2, (rd_T41 l1 x8_2).f3.f3⟩ : S30)⟩ : S39)]) (wrap64 (x8_2 + 1))) else (none)) else (gutterref18_Draws.l1 k2 l1 x6_2 (wrap64 (x8_2 + 1)))) else (gutterref18_Draws.l1 k2 l1 x6_2 (wrap64 (x8_2 + 1)))) else (some (([] : List (S39)), 170))) = some (r1, r2) := H
        have A13 := Aside0.mk A130
        clear A130
        by_cases c14 : t204 = true
        ·
         subst c14
         have H1 : (if ((rd_T41 l1 x8_2).f3.f2) > 0 then (if ((rd_T41 l1 x8_2).f3.f3) > 0 then (if x6_2.length < 2932031007402 then (gutterref18_Draws.l1 k2 l1 (x6_2 ++ [(⟨false, (rd_T41 l1 x8_2).f0, (⟨(rd_T41 l1 x8_2).f3.f0, (rd_T41 l1 x8_2).f3.f1, (rd_T41 l1 x8_2).f3.f2, (rd_T41 l1 x8_2).f3.f3⟩ : S30)⟩ : S39)]) (wrap64 (x8_2 + 1))) else (none)) else (gutterref18_Draws.l1 k2 l1 x6_2 (wrap64 (x8_2 + 1)))) else (gutterref18_Draws.l1 k2 l1 x6_2 (wrap64 (x8_2 + 1)))) = some (r1, r2) := by rw [if_pos rfl] at H; exact H
         clear H
         have H := H1
         clear H1
         by_cases c15 : ((rd_T41 l1 x8_2).f3.f2) > 0
         ·
          rw [if_pos c15] at H
          have c15b0 : decide (0 < ((rd_T41 l1 x8_2).f3.f2)) = true := decide_eq_true c15
          clear c15
          by_cases c16 : ((rd_T41 l1 x8_2).f3.f3) > 0
          ·
           rw [if_pos c16] at H
           have c16b0 : decide (0 < ((rd_T41 l1 x8_2).f3.f3)) = true := decide_eq_true c16
           clear c16
           by_cases c17 : x6_2.length < 2932031007402
           ·
            rw [if_pos c17] at H
            have LMc17 := Aside0.mk c17
            clear c17
            obtain ⟨y206, hy206⟩ : ∃ y_ : List (S39), y_ = (x6_2 ++ [(⟨false, (rd_T41 l1 x8_2).f0, (⟨(rd_T41 l1 x8_2).f3.f0, (rd_T41 l1 x8_2).f3.f1, (rd_T41 l1 x8_2).f3.f2, (rd_T41 l1 x8_2).f3.f3⟩ : S30)⟩ : S39)]) := ⟨_, rfl⟩
            replace H : (gutterref18_Draws.l1 k2 l1 y206 (wrap64 (x8_2 + 1))) = some (r1, r2) := by first | (rw [hy206]; with_reducible exact H) | (have H2_ := (Option.bind_some _ _).symm.trans H; rw [hy206]; with_reducible exact H2_) | (have H2_ := (Option.bind_some _ _).symm.trans H; with_reducible exact H2_) | with_reducible exact H | (rw [hy206]; exact H) | exact H
            have Ny206 := Aside0.mk hy206
            clear hy206
            have H' := Aside0.mk H
            clear H
            have p202 : 0 ≤ (x8_2 : Int) := of_decide_eq_true (by first | (with_reducible assumption) | assumption)
            have q202 : x8_2 < (l1.length : Int) := of_decide_eq_true (by first | (with_reducible assumption) | assumption)
            obtain ⟨ad202, e202, hx202_0, hx202_1, hx202_2, hx202_3, hx202_4, hx202_5, hx202_6⟩ := at_T41 HR1.out x8_2 p202 q202
            cases e202
            replace hx202_0 := (HB.out.cell (World.block_lt_of_cell? w _ hx202_0)).trans hx202_0
            replace hx202_1 := (HB.out.cell (World.block_lt_of_cell? w _ hx202_1)).trans hx202_1
            replace hx202_2 := (HB.out.cell (World.block_lt_of_cell? w _ hx202_2)).trans hx202_2
            replace hx202_3 := (HB.out.cell (World.block_lt_of_cell? w _ hx202_3)).trans hx202_3
            replace hx202_4 := (HB.out.cell (World.block_lt_of_cell? w _ hx202_4)).trans hx202_4
            replace hx202_5 := (HB.out.cell (World.block_lt_of_cell? w _ hx202_5)).trans hx202_5
            replace hx202_6 := (HB.out.cell (World.block_lt_of_cell? w _ hx202_6)).trans hx202_6
            replace p202 := eq_true p202
            replace q202 := eq_true q202
            try go_wp2_with (first | ((with_reducible refine gate_dst (N := 9) rfl ?_); refine box_event ?hg (N := 9) ?hd (cs := #[.int .i64 0, .int .i64 0, .int .i64 0, .int .i64 0]) (t := 30) ?hr ?_; (case hd => rfl); (case hg => rfl); (case hr => first | (go_simp; done) | (go_simp; rfl)); intro gb203 hg w18 hbox hb; have n0_ := Aside0.mk (Kd.R_below (by (with_reducible repeat (first | apply Kd.R_alloc | apply Kd.R_drewN | apply Kd.R_drew)); exact HO_6.out) hb); have n1_ := Aside0.mk (below_step (by repeat (first | (with_reducible first | exact HB.out | apply below_alloc | apply pw_below_drewN | apply below_drew1) | exact HB.out)) hb); have n2_ := Aside0.mk (hbox); have n3_ := Aside0.mk ((by rw [hg]; exact (below_size (by repeat (first | (with_reducible first | exact HB.out | apply below_alloc | apply pw_below_drewN | apply below_drew1) | exact HB.out))) : w.heap.size ≤ gb203)); have n4_ := Aside0.mk ((by rw [hg]; exact (below_size (by repeat (first | (with_reducible first | exact HB.out | apply below_alloc | apply pw_below_drewN | apply below_drew1) | exact HB.out))) : w.heap.size ≤ gb203)); clear HO_6; clear HB; have HO_6 := n0_; have HB := n1_; have BK203 := n2_; have GW203 := n3_; have GE203 := n4_; clear n0_ n1_ n2_ n3_ n4_; clear hb hbox hg; have hcz19_0 : w18.cell? ⟨gb203, 0, none⟩ = some (.int .i64 0) := (blk_cell BK203.out 0).trans rfl; have hcz19_1 : w18.cell? ⟨gb203, 1, none⟩ = some (.int .i64 0) := (blk_cell BK203.out 1).trans rfl; have hcz19_2 : w18.cell? ⟨gb203, 2, none⟩ = some (.int .i64 0) := (blk_cell BK203.out 2).trans rfl; have hcz19_3 : w18.cell? ⟨gb203, 3, none⟩ = some (.int .i64 0) := (blk_cell BK203.out 3).trans rfl; have hfz19_0 := blk_frozen BK203.out 0; have hfz19_1 := blk_frozen BK203.out 1; have hfz19_2 := blk_frozen BK203.out 2; have hfz19_3 := blk_frozen BK203.out 3) | ((with_reducible refine gate_callee (f := 39) rfl ?_); refine goesL_ (some 42) rfl rfl Tryd.func39 (by kernel_rfl) rfl #[.agg #[.int .i64 ((rd_T41 l1 x8_2).f3.f0), .int .i64 ((rd_T41 l1 x8_2).f3.f1), .int .i64 ((rd_T41 l1 x8_2).f3.f2), .int .i64 ((rd_T41 l1 x8_2).f3.f3)]] rfl (by (try simp only [List.map_toArray, List.map_cons, List.map_nil]); first | done | rfl | (simp only [List.length_drop, List.length_take]; rfl)) ?_; (with_reducible refine (gutterref18_Is.calls ((rd_T41 l1 x8_2).f3.f0) ((rd_T41 l1 x8_2).f3.f1) ((rd_T41 l1 x8_2).f3.f2) ((rd_T41 l1 x8_2).f3.f3) true _ A13.out).mono ?_); rintro e w20 ⟨rfl, hb⟩; refine ⟨_, rfl, ?_⟩; have n0_ := Aside0.mk (Kd.R_below (by (with_reducible repeat (first | apply Kd.R_alloc | apply Kd.R_drewN | apply Kd.R_drew)); exact (Kd.R_mono (Kd.R_far (p := ⟨gb203, 3, none⟩) (Kd.R_far (p := ⟨gb203, 2, none⟩) (Kd.R_far (p := ⟨gb203, 1, none⟩) (Kd.R_far (p := ⟨gb203, 0, none⟩) (Kd.R_types HO_6.out BK203.out (by decide)) (fun _ hk => hk.2) (.int .i64 ((rd_T41 l1 x8_2).f3.f0))) (fun _ hk => hk.2) (.int .i64 ((rd_T41 l1 x8_2).f3.f1))) (fun _ hk => hk.2) (.int .i64 ((rd_T41 l1 x8_2).f3.f2))) (fun _ hk => hk.2) (.int .i64 ((rd_T41 l1 x8_2).f3.f3))) (fun _ h_ => h_.1))) hb); have n1_ := Aside0.mk (blk_below (g := gb203) (o := .cells #[.int .i64 ((rd_T41 l1 x8_2).f3.f0), .int .i64 ((rd_T41 l1 x8_2).f3.f1), .int .i64 ((rd_T41 l1 x8_2).f3.f2), .int .i64 ((rd_T41 l1 x8_2).f3.f3)] 30 (0, 0)) (by (with_reducible repeat (first | refine blk_drewN ?_ _ | refine blk_drew ?_ | refine blk_alloc ?_ _)); refine blk_put (cs := #[.int .i64 ((rd_T41 l1 x8_2).f3.f0), .int .i64 ((rd_T41 l1 x8_2).f3.f1), .int .i64 ((rd_T41 l1 x8_2).f3.f2), .int .i64 0]) ?_ 3 _ rfl; (with_reducible repeat (first | refine blk_drewN ?_ _ | refine blk_drew ?_ | refine blk_alloc ?_ _)); refine blk_put (cs := #[.int .i64 ((rd_T41 l1 x8_2).f3.f0), .int .i64 ((rd_T41 l1 x8_2).f3.f1), .int .i64 0, .int .i64 0]) ?_ 2 _ rfl; (with_reducible repeat (first | refine blk_drewN ?_ _ | refine blk_drew ?_ | refine blk_alloc ?_ _)); refine blk_put (cs := #[.int .i64 ((rd_T41 l1 x8_2).f3.f0), .int .i64 0, .int .i64 0, .int .i64 0]) ?_ 1 _ rfl; (with_reducible repeat (first | refine blk_drewN ?_ _ | refine blk_drew ?_ | refine blk_alloc ?_ _)); refine blk_put (cs := #[.int .i64 0, .int .i64 0, .int .i64 0, .int .i64 0]) ?_ 0 _ rfl; (with_reducible repeat (first | refine blk_drewN ?_ _ | refine blk_drew ?_ | refine blk_alloc ?_ _)); exact BK203.out) hb); have n2_ := Aside0.mk (below_step (by repeat (first | (with_reducible first | exact HB.out | apply below_alloc | apply pw_below_drewN | apply below_drew1 | refine below_set ?_ GE203.out) | exact HB.out)) hb); clear HO_6; clear BK203; clear HB; have HO_6 := n0_; have BK203 := n1_; have HB := n2_; clear n0_ n1_ n2_; (try clear hb); (try clear hb2); (try clear hk); (try clear hi); have hcz21_0 : w20.cell? ⟨gb203, 0, none⟩ = some (.int .i64 ((rd_T41 l1 x8_2).f3.f0)) := (blk_cell BK203.out 0).trans rfl; have hcz21_1 : w20.cell? ⟨gb203, 1, none⟩ = some (.int .i64 ((rd_T41 l1 x8_2).f3.f1)) := (blk_cell BK203.out 1).trans rfl; have hcz21_2 : w20.cell? ⟨gb203, 2, none⟩ = some (.int .i64 ((rd_T41 l1 x8_2).f3.f2)) := (blk_cell BK203.out 2).trans rfl; have hcz21_3 : w20.cell? ⟨gb203, 3, none⟩ = some (.int .i64 ((rd_T41 l1 x8_2).f3.f3)) := (blk_cell BK203.out 3).trans rfl; have hfz21_0 := blk_frozen BK203.out 0; have hfz21_1 := blk_frozen BK203.out 1; have hfz21_2 := blk_frozen BK203.out 2; have hfz21_3 := blk_frozen BK203.out 3))
            have n0_ := Aside0.mk (Kd.R_drew HO_6.out)
            have n1_ := Aside0.mk (blk_drew BK203.out)
            have n2_ := Aside0.mk (below_drew1 HB.out)
            clear HO_6
            clear BK203
            clear HB
            have HO_6 := n0_
            have BK203 := n1_
            have HB := n2_
            clear n0_ n1_ n2_
            have p205 : 0 ≤ (x8_2 : Int) := of_decide_eq_true (by first | (with_reducible assumption) | assumption)
            have q205 : x8_2 < (l1.length : Int) := of_decide_eq_true (by first | (with_reducible assumption) | assumption)
            obtain ⟨ad205, e205, hx205_0, hx205_1, hx205_2, hx205_3, hx205_4, hx205_5, hx205_6⟩ := at_T41 HR1.out x8_2 p205 q205
            have hw205_6 := hx205_6
            have hw205_5 := hx205_5
            have hw205_4 := hx205_4
            have hw205_3 := hx205_3
            have hw205_2 := hx205_2
            have hw205_1 := hx205_1
            have hw205_0 := hx205_0
            obtain rfl : ad202 = ad205 := (by injection e205)
            replace hx205_0 := (HB.out.cell (World.block_lt_of_cell? w _ hx205_0)).trans hx205_0
            replace hx205_1 := (HB.out.cell (World.block_lt_of_cell? w _ hx205_1)).trans hx205_1
            replace hx205_2 := (HB.out.cell (World.block_lt_of_cell? w _ hx205_2)).trans hx205_2
            replace hx205_3 := (HB.out.cell (World.block_lt_of_cell? w _ hx205_3)).trans hx205_3
            replace hx205_4 := (HB.out.cell (World.block_lt_of_cell? w _ hx205_4)).trans hx205_4
            replace hx205_5 := (HB.out.cell (World.block_lt_of_cell? w _ hx205_5)).trans hx205_5
            replace hx205_6 := (HB.out.cell (World.block_lt_of_cell? w _ hx205_6)).trans hx205_6
            replace p205 := eq_true p205
            replace q205 := eq_true q205
            refine start_ (n := 11) (S := fun w' => w'.cell? ⟨gb203, 0, none⟩ = some (.int .i64 ((rd_T41 l1 x8_2).f3.f0)) ∧ w'.cell? ⟨gb203, 1, none⟩ = some (.int .i64 ((rd_T41 l1 x8_2).f3.f1)) ∧ w'.cell? ⟨gb203, 2, none⟩ = some (.int .i64 ((rd_T41 l1 x8_2).f3.f2)) ∧ w'.cell? ⟨gb203, 3, none⟩ = some (.int .i64 ((rd_T41 l1 x8_2).f3.f3)) ∧ w'.cell? (ad202.add ((x8_2).toNat * 7)) = some (.int .i64 ((rd_T41 l1 x8_2).f0)) ∧ w'.cell? ⟨(ad202.add ((x8_2).toNat * 7)).block, (ad202.add ((x8_2).toNat * 7)).off + 1, none⟩ = some (.int .i64 ((rd_T41 l1 x8_2).f1)) ∧ w'.cell? ⟨(ad202.add ((x8_2).toNat * 7)).block, (ad202.add ((x8_2).toNat * 7)).off + 2, none⟩ = some (.int .i64 ((rd_T41 l1 x8_2).f2)) ∧ w'.cell? ⟨(ad202.add ((x8_2).toNat * 7)).block, (ad202.add ((x8_2).toNat * 7)).off + 3, none⟩ = some (.int .i64 ((rd_T41 l1 x8_2).f3.f0)) ∧ w'.cell? ⟨(ad202.add ((x8_2).toNat * 7)).block, (ad202.add ((x8_2).toNat * 7)).off + 4, none⟩ = some (.int .i64 ((rd_T41 l1 x8_2).f3.f1)) ∧ w'.cell? ⟨(ad202.add ((x8_2).toNat * 7)).block, (ad202.add ((x8_2).toNat * 7)).off + 5, none⟩ = some (.int .i64 ((rd_T41 l1 x8_2).f3.f2)) ∧ w'.cell? ⟨(ad202.add ((x8_2).toNat * 7)).block, (ad202.add ((x8_2).toNat * 7)).off + 6, none⟩ = some (.int .i64 ((rd_T41 l1 x8_2).f3.f3))) (ds := []) #[false, false, false, false, false, false, false, false, false, false, false] (by kernel_rfl) rfl rfl ⟨(blk_cell BK203.out 0).trans rfl, (blk_cell BK203.out 1).trans rfl, (blk_cell BK203.out 2).trans rfl, (blk_cell BK203.out 3).trans rfl, ((HB.out.cell (World.block_lt_of_cell? w _ hw205_0)).trans hw205_0), ((HB.out.cell (World.block_lt_of_cell? w _ hw205_1)).trans hw205_1), ((HB.out.cell (World.block_lt_of_cell? w _ hw205_2)).trans hw205_2), ((HB.out.cell (World.block_lt_of_cell? w _ hw205_3)).trans hw205_3), ((HB.out.cell (World.block_lt_of_cell? w _ hw205_4)).trans hw205_4), ((HB.out.cell (World.block_lt_of_cell? w _ hw205_5)).trans hw205_5), ((HB.out.cell (World.block_lt_of_cell? w _ hw205_6)).trans hw205_6)⟩ (fun hHeld => ?_); refine with_tabW gutterref18_Draws.tab15 gutterref18_Draws.bits15 (fun HT_ HW_ => ?_)
            generalize w20.drew = w22 at HO_6 BK203 HB hx205_0 hx205_1 hx205_2 hx205_3 hx205_4 hx205_5 hx205_6 hHeld ⊢
            refine pure_ (i := 0) (N := some 52) (v := ?_) (a' := ?_) #[true, false, false, false, false, false, false, false, false, false, false] rfl rfl (any_of HT_.out (by kernel_rfl)) (fun _ _ _ h => h) (Or.inl ⟨by rfl, ?_⟩) ?_ ?_
            rotate_left
            ·
             intro w'
             go_simp
             with_reducible rfl
            rotate_left
            ·
             simp only [Act.put, List.setIfInBounds_toArray, List.set_cons_zero, List.set_cons_succ, i64_w, i32_w]
             rfl
            refine pure_ (i := 1) (N := some 53) (v := ?_) (a' := ?_) #[true, true, false, false, false, false, false, false, false, false, false] rfl rfl (any_of HT_.out (by kernel_rfl)) (fun _ _ _ h => h) (Or.inl ⟨by rfl, ?_⟩) ?_ ?_
            rotate_left
            ·
             intro w'
             go_simp
             with_reducible rfl
            rotate_left
            ·
             simp only [Act.put, List.setIfInBounds_toArray, List.set_cons_zero, List.set_cons_succ, i64_w, i32_w]
             rfl
            refine pure_ (i := 2) (N := some 54) (v := ?_) (a' := ?_) #[true, true, true, false, false, false, false, false, false, false, false] rfl rfl (any_of HT_.out (by kernel_rfl)) (fun _ _ _ h => h) (Or.inl ⟨by rfl, ?_⟩) ?_ ?_
            rotate_left
            ·
             intro w'
             go_simp
             with_reducible rfl
            rotate_left
            ·
             simp only [Act.put, List.setIfInBounds_toArray, List.set_cons_zero, List.set_cons_succ, i64_w, i32_w]
             rfl
            refine pure_ (i := 3) (N := some 55) (v := ?_) (a' := ?_) #[true, true, true, true, false, false, false, false, false, false, false] rfl rfl (any_of HT_.out (by kernel_rfl)) (fun _ _ _ h => h) (Or.inl ⟨by rfl, ?_⟩) ?_ ?_
            rotate_left
            ·
             intro w'
             go_simp
             with_reducible rfl
            rotate_left
            ·
             simp only [Act.put, List.setIfInBounds_toArray, List.set_cons_zero, List.set_cons_succ, i64_w, i32_w]
             rfl
            refine pure_ (i := 4) (N := some 56) (v := ?_) (a' := ?_) #[true, true, true, true, true, false, false, false, false, false, false] rfl rfl (any_of HT_.out (by kernel_rfl)) (fun _ _ _ h => h) (Or.inl ⟨by rfl, ?_⟩) ?_ ?_
            rotate_left
            ·
             intro w'
             go_simp
             with_reducible rfl
            rotate_left
            ·
             simp only [Act.put, List.setIfInBounds_toArray, List.set_cons_zero, List.set_cons_succ, i64_w, i32_w]
             rfl
            refine take_ (i := 5) (N := some 57) (v := ?_) (a' := ?_) #[true, true, true, true, true, true, false, false, false, false, false] rfl rfl (take_ofW HT_.out HW_.out (by kernel_rfl)) (fun _ _ _ h => h) (Or.inl ⟨by rfl, ?_⟩) hHeld ?_ ?_
            rotate_left
            ·
             rintro w' ⟨s0, s1, s2, s3, s4, s5, s6, s7, s8, s9, s10⟩
             go_simp
             with_reducible rfl
            rotate_left
            ·
             simp only [Act.put, List.setIfInBounds_toArray, List.set_cons_zero, List.set_cons_succ, i64_w, i32_w]
             rfl
            refine take_ (i := 6) (N := some 58) (v := ?_) (a' := ?_) #[true, true, true, true, true, true, true, false, false, false, false] rfl rfl (take_ofW HT_.out HW_.out (by kernel_rfl)) (fun _ _ _ h => h) (Or.inl ⟨by rfl, ?_⟩) hHeld ?_ ?_
            rotate_left
            ·
             rintro w' ⟨s0, s1, s2, s3, s4, s5, s6, s7, s8, s9, s10⟩
             go_simp
             with_reducible rfl
            rotate_left
            ·
             simp only [Act.put, List.setIfInBounds_toArray, List.set_cons_zero, List.set_cons_succ, i64_w, i32_w]
             rfl
            refine pure_ (i := 7) (N := some 59) (v := ?_) (a' := ?_) #[true, true, true, true, true, true, true, true, false, false, false] rfl rfl (any_of HT_.out (by kernel_rfl)) (fun _ _ _ h => h) (Or.inl ⟨by rfl, ?_⟩) ?_ ?_
            rotate_left
            ·
             intro w'
             go_simp
             with_reducible rfl
            rotate_left
            ·
             simp only [Act.put, List.setIfInBounds_toArray, List.set_cons_zero, List.set_cons_succ, i64_w, i32_w]
             rfl
            refine one_ (i := 8) (N := some 60) #[true, true, true, true, true, true, true, true, true, false, false] rfl rfl (one_of HT_.out (by kernel_rfl)) (by decide) (fun K hK => ?_)
            refine value_ (w1 := ?_) (v := ?_) (by rfl) rfl ?_ ?_
            rotate_left 2
            ·
             go_simp
             constructor
             ·
              rfl
             ·
              rfl
            refine hK.out _ _ ⟨(blk_cell (blk_alloc BK203.out _) 0).trans rfl, (blk_cell (blk_alloc BK203.out _) 1).trans rfl, (blk_cell (blk_alloc BK203.out _) 2).trans rfl, (blk_cell (blk_alloc BK203.out _) 3).trans rfl, (World.cell?_alloc_lt _ _ _ (World.block_lt_of_cell? _ _ (((HB.out.cell (World.block_lt_of_cell? w _ hw205_0)).trans hw205_0)))).trans (((HB.out.cell (World.block_lt_of_cell? w _ hw205_0)).trans hw205_0)), (World.cell?_alloc_lt _ _ _ (World.block_lt_of_cell? _ _ (((HB.out.cell (World.block_lt_of_cell? w _ hw205_1)).trans hw205_1)))).trans (((HB.out.cell (World.block_lt_of_cell? w _ hw205_1)).trans hw205_1)), (World.cell?_alloc_lt _ _ _ (World.block_lt_of_cell? _ _ (((HB.out.cell (World.block_lt_of_cell? w _ hw205_2)).trans hw205_2)))).trans (((HB.out.cell (World.block_lt_of_cell? w _ hw205_2)).trans hw205_2)), (World.cell?_alloc_lt _ _ _ (World.block_lt_of_cell? _ _ (((HB.out.cell (World.block_lt_of_cell? w _ hw205_3)).trans hw205_3)))).trans (((HB.out.cell (World.block_lt_of_cell? w _ hw205_3)).trans hw205_3)), (World.cell?_alloc_lt _ _ _ (World.block_lt_of_cell? _ _ (((HB.out.cell (World.block_lt_of_cell? w _ hw205_4)).trans hw205_4)))).trans (((HB.out.cell (World.block_lt_of_cell? w _ hw205_4)).trans hw205_4)), (World.cell?_alloc_lt _ _ _ (World.block_lt_of_cell? _ _ (((HB.out.cell (World.block_lt_of_cell? w _ hw205_5)).trans hw205_5)))).trans (((HB.out.cell (World.block_lt_of_cell? w _ hw205_5)).trans hw205_5)), (World.cell?_alloc_lt _ _ _ (World.block_lt_of_cell? _ _ (((HB.out.cell (World.block_lt_of_cell? w _ hw205_6)).trans hw205_6)))).trans (((HB.out.cell (World.block_lt_of_cell? w _ hw205_6)).trans hw205_6))⟩ (fun hHeld => ?_)
            clear hK K
            refine norm_ (a' := ?_) ?_ ?_
            rotate_left
            ·
             show Act.put _ (some 60) _ = _
             simp only [Act.put, List.setIfInBounds_toArray, List.set_cons_zero, List.set_cons_succ, i64_w, i32_w]
             rfl
            refine one_ (i := 9) (N := some 61) #[true, true, true, true, true, true, true, true, true, true, false] rfl rfl (one_of HT_.out (by kernel_rfl)) (by decide) (fun K hK => ?_)
            refine Kd.R_append_step k39 (w0 := w) w.heap.size (by rfl) (.tmp 52) (.tmp 60) 35 39 (.agg #[(.bool false), (.int .i64 0), (.int .i64 0), (.int .i64 0), (.int .i64 0), (.int .i64 0)]) 48 rfl Tryd.underlying35 info39 rfl (by decide) (by omega) u6 x6_2 (⟨false, (rd_T41 l1 x8_2).f0, (⟨(rd_T41 l1 x8_2).f3.f0, (rd_T41 l1 x8_2).f3.f1, (rd_T41 l1 x8_2).f3.f2, (rd_T41 l1 x8_2).f3.f3⟩ : S30)⟩ : S39) [.bool false, .int .i64 ((rd_T41 l1 x8_2).f0), .int .i64 ((rd_T41 l1 x8_2).f3.f0), .int .i64 ((rd_T41 l1 x8_2).f3.f1), .int .i64 ((rd_T41 l1 x8_2).f3.f2), .int .i64 ((rd_T41 l1 x8_2).f3.f3)] (fun _ => True) (fun _ => False) rfl rfl ?aP (fun _ hk => hk.elim) ?aF ?aO ?aB ?aS ?aL ?_
            (case aP => exact k39_mkM _ _ _ (⟨false, (rd_T41 l1 x8_2).f0, (⟨(rd_T41 l1 x8_2).f3.f0, (rd_T41 l1 x8_2).f3.f1, (rd_T41 l1 x8_2).f3.f2, (rd_T41 l1 x8_2).f3.f3⟩ : S30)⟩ : S39))
            (case aB => exact (by repeat (first | (with_reducible first | exact HB.out | apply below_alloc | apply pw_below_drewN | apply below_drew1 | refine below_set ?_ GE203.out) | exact HB.out)))
            (case aF => exact (fun _ _ => trivial))
            (case aO => exact (by (with_reducible repeat (first | apply Kd.R_alloc | apply Kd.R_drewN | apply Kd.R_drew)); exact HO_6.out))
            (case aS => exact (below_size (by repeat (first | (with_reducible first | exact HB.out | apply below_alloc | apply pw_below_drewN | apply below_drew1 | refine below_set ?_ GE203.out) | exact HB.out))))
            (case aL => have := LMc17.out; omega)
            intro v207 w23 ho hb hg hat
            rw [← Ny206.out] at ho
            have n0_ := Aside0.mk (blk_grown (g := gb203) (o := .cells #[.int .i64 ((rd_T41 l1 x8_2).f3.f0), .int .i64 ((rd_T41 l1 x8_2).f3.f1), .int .i64 ((rd_T41 l1 x8_2).f3.f2), .int .i64 ((rd_T41 l1 x8_2).f3.f3)] 30 (0, 0)) (by (with_reducible repeat (first | refine blk_drewN ?_ _ | refine blk_drew ?_ | refine blk_alloc ?_ _)); exact BK203.out) hg (Kd.R_ne HO_6.out BK203.out (by decide)))
            have n1_ := Aside0.mk (hb)
            have n2_ := Aside0.mk (ho)
            clear BK203
            clear HB
            clear HO_6
            have BK203 := n0_
            have HB := n1_
            have HO208 := n2_
            clear n0_ n1_ n2_
            clear ho hb hg hat
            refine hK.out _ _ ⟨(blk_cell BK203.out 0).trans rfl, (blk_cell BK203.out 1).trans rfl, (blk_cell BK203.out 2).trans rfl, (blk_cell BK203.out 3).trans rfl, ((HB.out.cell (World.block_lt_of_cell? w _ hw205_0)).trans hw205_0), ((HB.out.cell (World.block_lt_of_cell? w _ hw205_1)).trans hw205_1), ((HB.out.cell (World.block_lt_of_cell? w _ hw205_2)).trans hw205_2), ((HB.out.cell (World.block_lt_of_cell? w _ hw205_3)).trans hw205_3), ((HB.out.cell (World.block_lt_of_cell? w _ hw205_4)).trans hw205_4), ((HB.out.cell (World.block_lt_of_cell? w _ hw205_5)).trans hw205_5), ((HB.out.cell (World.block_lt_of_cell? w _ hw205_6)).trans hw205_6)⟩ (fun hHeld => ?_)
            clear hK K
            refine norm_ (a' := ?_) ?_ ?_
            rotate_left
            ·
             show Act.put _ (some 61) _ = _
             simp only [Act.put, List.setIfInBounds_toArray, List.set_cons_zero, List.set_cons_succ, i64_w, i32_w]
             rfl
            refine pure_ (i := 10) (N := some 6) (v := ?_) (a' := ?_) #[true, true, true, true, true, true, true, true, true, true, true] rfl rfl (any_of HT_.out (by kernel_rfl)) (fun _ _ _ h => h) (Or.inl ⟨by rfl, ?_⟩) ?_ ?_
            rotate_left
            ·
             intro w'
             go_simp
             with_reducible rfl
            rotate_left
            ·
             simp only [Act.put, List.setIfInBounds_toArray, List.set_cons_zero, List.set_cons_succ, i64_w, i32_w]
             rfl
            refine done_ (done_of HT_.out (by kernel_rfl)) ?_
            try go_wp2
            go_roundg k2
            case measure => have := HK1.out; have := HK2.out; omega
            case rel => exact ⟨(y206), (wrap64 (x8_2 + 1)), (by first | rfl | (simp; done) | (simp [*]; done)), H', ⟨by have := HK1.out; have := HK2.out; omega⟩, ⟨by (with_reducible repeat (first | apply Kd.R_alloc | apply Kd.R_drewN | apply Kd.R_drew)); exact HO208.out⟩, ⟨by repeat (first | (with_reducible first | exact HB.out | apply below_alloc | apply pw_below_drewN | apply below_drew1 | refine below_set ?_ GE203.out) | exact HB.out)⟩⟩
           ·
            rw [if_neg c17] at H
            exact absurd H (by simp)
          ·
           rw [if_neg c16] at H
           have c16b0 : decide (0 < ((rd_T41 l1 x8_2).f3.f3)) = false := decide_eq_false c16
           clear c16
           have H' := Aside0.mk H
           clear H
           have p202 : 0 ≤ (x8_2 : Int) := of_decide_eq_true (by first | (with_reducible assumption) | assumption)
           have q202 : x8_2 < (l1.length : Int) := of_decide_eq_true (by first | (with_reducible assumption) | assumption)
           obtain ⟨ad202, e202, hx202_0, hx202_1, hx202_2, hx202_3, hx202_4, hx202_5, hx202_6⟩ := at_T41 HR1.out x8_2 p202 q202
           cases e202
           replace hx202_0 := (HB.out.cell (World.block_lt_of_cell? w _ hx202_0)).trans hx202_0
           replace hx202_1 := (HB.out.cell (World.block_lt_of_cell? w _ hx202_1)).trans hx202_1
           replace hx202_2 := (HB.out.cell (World.block_lt_of_cell? w _ hx202_2)).trans hx202_2
           replace hx202_3 := (HB.out.cell (World.block_lt_of_cell? w _ hx202_3)).trans hx202_3
           replace hx202_4 := (HB.out.cell (World.block_lt_of_cell? w _ hx202_4)).trans hx202_4
           replace hx202_5 := (HB.out.cell (World.block_lt_of_cell? w _ hx202_5)).trans hx202_5
           replace hx202_6 := (HB.out.cell (World.block_lt_of_cell? w _ hx202_6)).trans hx202_6
           replace p202 := eq_true p202
           replace q202 := eq_true q202
           go_wp2_with (first | ((with_reducible refine gate_dst (N := 9) rfl ?_); refine box_event ?hg (N := 9) ?hd (cs := #[.int .i64 0, .int .i64 0, .int .i64 0, .int .i64 0]) (t := 30) ?hr ?_; (case hd => rfl); (case hg => rfl); (case hr => first | (go_simp; done) | (go_simp; rfl)); intro gb203 hg w24 hbox hb; have n0_ := Aside0.mk (Kd.R_below (by (with_reducible repeat (first | apply Kd.R_alloc | apply Kd.R_drewN | apply Kd.R_drew)); exact HO_6.out) hb); have n1_ := Aside0.mk (below_step (by repeat (first | (with_reducible first | exact HB.out | apply below_alloc | apply pw_below_drewN | apply below_drew1) | exact HB.out)) hb); have n2_ := Aside0.mk (hbox); have n3_ := Aside0.mk ((by rw [hg]; exact (below_size (by repeat (first | (with_reducible first | exact HB.out | apply below_alloc | apply pw_below_drewN | apply below_drew1) | exact HB.out))) : w.heap.size ≤ gb203)); have n4_ := Aside0.mk ((by rw [hg]; exact (below_size (by repeat (first | (with_reducible first | exact HB.out | apply below_alloc | apply pw_below_drewN | apply below_drew1) | exact HB.out))) : w.heap.size ≤ gb203)); clear HO_6; clear HB; have HO_6 := n0_; have HB := n1_; have BK203 := n2_; have GW203 := n3_; have GE203 := n4_; clear n0_ n1_ n2_ n3_ n4_; clear hb hbox hg; have hcz25_0 : w24.cell? ⟨gb203, 0, none⟩ = some (.int .i64 0) := (blk_cell BK203.out 0).trans rfl; have hcz25_1 : w24.cell? ⟨gb203, 1, none⟩ = some (.int .i64 0) := (blk_cell BK203.out 1).trans rfl; have hcz25_2 : w24.cell? ⟨gb203, 2, none⟩ = some (.int .i64 0) := (blk_cell BK203.out 2).trans rfl; have hcz25_3 : w24.cell? ⟨gb203, 3, none⟩ = some (.int .i64 0) := (blk_cell BK203.out 3).trans rfl; have hfz25_0 := blk_frozen BK203.out 0; have hfz25_1 := blk_frozen BK203.out 1; have hfz25_2 := blk_frozen BK203.out 2; have hfz25_3 := blk_frozen BK203.out 3) | ((with_reducible refine gate_callee (f := 39) rfl ?_); refine goesL_ (some 42) rfl rfl Tryd.func39 (by kernel_rfl) rfl #[.agg #[.int .i64 ((rd_T41 l1 x8_2).f3.f0), .int .i64 ((rd_T41 l1 x8_2).f3.f1), .int .i64 ((rd_T41 l1 x8_2).f3.f2), .int .i64 ((rd_T41 l1 x8_2).f3.f3)]] rfl (by (try simp only [List.map_toArray, List.map_cons, List.map_nil]); first | done | rfl | (simp only [List.length_drop, List.length_take]; rfl)) ?_; (with_reducible refine (gutterref18_Is.calls ((rd_T41 l1 x8_2).f3.f0) ((rd_T41 l1 x8_2).f3.f1) ((rd_T41 l1 x8_2).f3.f2) ((rd_T41 l1 x8_2).f3.f3) true _ A13.out).mono ?_); rintro e w26 ⟨rfl, hb⟩; refine ⟨_, rfl, ?_⟩; have n0_ := Aside0.mk (Kd.R_below (by (with_reducible repeat (first | apply Kd.R_alloc | apply Kd.R_drewN | apply Kd.R_drew)); exact (Kd.R_mono (Kd.R_far (p := ⟨gb203, 3, none⟩) (Kd.R_far (p := ⟨gb203, 2, none⟩) (Kd.R_far (p := ⟨gb203, 1, none⟩) (Kd.R_far (p := ⟨gb203, 0, none⟩) (Kd.R_types HO_6.out BK203.out (by decide)) (fun _ hk => hk.2) (.int .i64 ((rd_T41 l1 x8_2).f3.f0))) (fun _ hk => hk.2) (.int .i64 ((rd_T41 l1 x8_2).f3.f1))) (fun _ hk => hk.2) (.int .i64 ((rd_T41 l1 x8_2).f3.f2))) (fun _ hk => hk.2) (.int .i64 ((rd_T41 l1 x8_2).f3.f3))) (fun _ h_ => h_.1))) hb); have n1_ := Aside0.mk (blk_below (g := gb203) (o := .cells #[.int .i64 ((rd_T41 l1 x8_2).f3.f0), .int .i64 ((rd_T41 l1 x8_2).f3.f1), .int .i64 ((rd_T41 l1 x8_2).f3.f2), .int .i64 ((rd_T41 l1 x8_2).f3.f3)] 30 (0, 0)) (by (with_reducible repeat (first | refine blk_drewN ?_ _ | refine blk_drew ?_ | refine blk_alloc ?_ _)); refine blk_put (cs := #[.int .i64 ((rd_T41 l1 x8_2).f3.f0), .int .i64 ((rd_T41 l1 x8_2).f3.f1), .int .i64 ((rd_T41 l1 x8_2).f3.f2), .int .i64 0]) ?_ 3 _ rfl; (with_reducible repeat (first | refine blk_drewN ?_ _ | refine blk_drew ?_ | refine blk_alloc ?_ _)); refine blk_put (cs := #[.int .i64 ((rd_T41 l1 x8_2).f3.f0), .int .i64 ((rd_T41 l1 x8_2).f3.f1), .int .i64 0, .int .i64 0]) ?_ 2 _ rfl; (with_reducible repeat (first | refine blk_drewN ?_ _ | refine blk_drew ?_ | refine blk_alloc ?_ _)); refine blk_put (cs := #[.int .i64 ((rd_T41 l1 x8_2).f3.f0), .int .i64 0, .int .i64 0, .int .i64 0]) ?_ 1 _ rfl; (with_reducible repeat (first | refine blk_drewN ?_ _ | refine blk_drew ?_ | refine blk_alloc ?_ _)); refine blk_put (cs := #[.int .i64 0, .int .i64 0, .int .i64 0, .int .i64 0]) ?_ 0 _ rfl; (with_reducible repeat (first | refine blk_drewN ?_ _ | refine blk_drew ?_ | refine blk_alloc ?_ _)); exact BK203.out) hb); have n2_ := Aside0.mk (below_step (by repeat (first | (with_reducible first | exact HB.out | apply below_alloc | apply pw_below_drewN | apply below_drew1 | refine below_set ?_ GE203.out) | exact HB.out)) hb); clear HO_6; clear BK203; clear HB; have HO_6 := n0_; have BK203 := n1_; have HB := n2_; clear n0_ n1_ n2_; (try clear hb); (try clear hb2); (try clear hk); (try clear hi); have hcz27_0 : w26.cell? ⟨gb203, 0, none⟩ = some (.int .i64 ((rd_T41 l1 x8_2).f3.f0)) := (blk_cell BK203.out 0).trans rfl; have hcz27_1 : w26.cell? ⟨gb203, 1, none⟩ = some (.int .i64 ((rd_T41 l1 x8_2).f3.f1)) := (blk_cell BK203.out 1).trans rfl; have hcz27_2 : w26.cell? ⟨gb203, 2, none⟩ = some (.int .i64 ((rd_T41 l1 x8_2).f3.f2)) := (blk_cell BK203.out 2).trans rfl; have hcz27_3 : w26.cell? ⟨gb203, 3, none⟩ = some (.int .i64 ((rd_T41 l1 x8_2).f3.f3)) := (blk_cell BK203.out 3).trans rfl; have hfz27_0 := blk_frozen BK203.out 0; have hfz27_1 := blk_frozen BK203.out 1; have hfz27_2 := blk_frozen BK203.out 2; have hfz27_3 := blk_frozen BK203.out 3))
           go_roundg k2
           case measure => have := HK1.out; have := HK2.out; omega
           case rel => exact ⟨(x6_2), (wrap64 (x8_2 + 1)), (by first | rfl | (simp; done) | (simp [*]; done)), H', ⟨by have := HK1.out; have := HK2.out; omega⟩, ⟨by (with_reducible repeat (first | apply Kd.R_alloc | apply Kd.R_drewN | apply Kd.R_drew)); exact HO_6.out⟩, ⟨by repeat (first | (with_reducible first | exact HB.out | apply below_alloc | apply pw_below_drewN | apply below_drew1 | refine below_set ?_ GE203.out) | exact HB.out)⟩⟩
         ·
          rw [if_neg c15] at H
          have c15b0 : decide (0 < ((rd_T41 l1 x8_2).f3.f2)) = false := decide_eq_false c15
          clear c15
          have H' := Aside0.mk H
          clear H
          have p202 : 0 ≤ (x8_2 : Int) := of_decide_eq_true (by first | (with_reducible assumption) | assumption)
          have q202 : x8_2 < (l1.length : Int) := of_decide_eq_true (by first | (with_reducible assumption) | assumption)
          obtain ⟨ad202, e202, hx202_0, hx202_1, hx202_2, hx202_3, hx202_4, hx202_5, hx202_6⟩ := at_T41 HR1.out x8_2 p202 q202
          cases e202
          replace hx202_0 := (HB.out.cell (World.block_lt_of_cell? w _ hx202_0)).trans hx202_0
          replace hx202_1 := (HB.out.cell (World.block_lt_of_cell? w _ hx202_1)).trans hx202_1
          replace hx202_2 := (HB.out.cell (World.block_lt_of_cell? w _ hx202_2)).trans hx202_2
          replace hx202_3 := (HB.out.cell (World.block_lt_of_cell? w _ hx202_3)).trans hx202_3
          replace hx202_4 := (HB.out.cell (World.block_lt_of_cell? w _ hx202_4)).trans hx202_4
          replace hx202_5 := (HB.out.cell (World.block_lt_of_cell? w _ hx202_5)).trans hx202_5
          replace hx202_6 := (HB.out.cell (World.block_lt_of_cell? w _ hx202_6)).trans hx202_6
          replace p202 := eq_true p202
          replace q202 := eq_true q202
          go_wp2_with (first | ((with_reducible refine gate_dst (N := 9) rfl ?_); refine box_event ?hg (N := 9) ?hd (cs := #[.int .i64 0, .int .i64 0, .int .i64 0, .int .i64 0]) (t := 30) ?hr ?_; (case hd => rfl); (case hg => rfl); (case hr => first | (go_simp; done) | (go_simp; rfl)); intro gb203 hg w28 hbox hb; have n0_ := Aside0.mk (Kd.R_below (by (with_reducible repeat (first | apply Kd.R_alloc | apply Kd.R_drewN | apply Kd.R_drew)); exact HO_6.out) hb); have n1_ := Aside0.mk (below_step (by repeat (first | (with_reducible first | exact HB.out | apply below_alloc | apply pw_below_drewN | apply below_drew1) | exact HB.out)) hb); have n2_ := Aside0.mk (hbox); have n3_ := Aside0.mk ((by rw [hg]; exact (below_size (by repeat (first | (with_reducible first | exact HB.out | apply below_alloc | apply pw_below_drewN | apply below_drew1) | exact HB.out))) : w.heap.size ≤ gb203)); have n4_ := Aside0.mk ((by rw [hg]; exact (below_size (by repeat (first | (with_reducible first | exact HB.out | apply below_alloc | apply pw_below_drewN | apply below_drew1) | exact HB.out))) : w.heap.size ≤ gb203)); clear HO_6; clear HB; have HO_6 := n0_; have HB := n1_; have BK203 := n2_; have GW203 := n3_; have GE203 := n4_; clear n0_ n1_ n2_ n3_ n4_; clear hb hbox hg; have hcz29_0 : w28.cell? ⟨gb203, 0, none⟩ = some (.int .i64 0) := (blk_cell BK203.out 0).trans rfl; have hcz29_1 : w28.cell? ⟨gb203, 1, none⟩ = some (.int .i64 0) := (blk_cell BK203.out 1).trans rfl; have hcz29_2 : w28.cell? ⟨gb203, 2, none⟩ = some (.int .i64 0) := (blk_cell BK203.out 2).trans rfl; have hcz29_3 : w28.cell? ⟨gb203, 3, none⟩ = some (.int .i64 0) := (blk_cell BK203.out 3).trans rfl; have hfz29_0 := blk_frozen BK203.out 0; have hfz29_1 := blk_frozen BK203.out 1; have hfz29_2 := blk_frozen BK203.out 2; have hfz29_3 := blk_frozen BK203.out 3) | ((with_reducible refine gate_callee (f := 39) rfl ?_); refine goesL_ (some 42) rfl rfl Tryd.func39 (by kernel_rfl) rfl #[.agg #[.int .i64 ((rd_T41 l1 x8_2).f3.f0), .int .i64 ((rd_T41 l1 x8_2).f3.f1), .int .i64 ((rd_T41 l1 x8_2).f3.f2), .int .i64 ((rd_T41 l1 x8_2).f3.f3)]] rfl (by (try simp only [List.map_toArray, List.map_cons, List.map_nil]); first | done | rfl | (simp only [List.length_drop, List.length_take]; rfl)) ?_; (with_reducible refine (gutterref18_Is.calls ((rd_T41 l1 x8_2).f3.f0) ((rd_T41 l1 x8_2).f3.f1) ((rd_T41 l1 x8_2).f3.f2) ((rd_T41 l1 x8_2).f3.f3) true _ A13.out).mono ?_); rintro e w30 ⟨rfl, hb⟩; refine ⟨_, rfl, ?_⟩; have n0_ := Aside0.mk (Kd.R_below (by (with_reducible repeat (first | apply Kd.R_alloc | apply Kd.R_drewN | apply Kd.R_drew)); exact (Kd.R_mono (Kd.R_far (p := ⟨gb203, 3, none⟩) (Kd.R_far (p := ⟨gb203, 2, none⟩) (Kd.R_far (p := ⟨gb203, 1, none⟩) (Kd.R_far (p := ⟨gb203, 0, none⟩) (Kd.R_types HO_6.out BK203.out (by decide)) (fun _ hk => hk.2) (.int .i64 ((rd_T41 l1 x8_2).f3.f0))) (fun _ hk => hk.2) (.int .i64 ((rd_T41 l1 x8_2).f3.f1))) (fun _ hk => hk.2) (.int .i64 ((rd_T41 l1 x8_2).f3.f2))) (fun _ hk => hk.2) (.int .i64 ((rd_T41 l1 x8_2).f3.f3))) (fun _ h_ => h_.1))) hb); have n1_ := Aside0.mk (blk_below (g := gb203) (o := .cells #[.int .i64 ((rd_T41 l1 x8_2).f3.f0), .int .i64 ((rd_T41 l1 x8_2).f3.f1), .int .i64 ((rd_T41 l1 x8_2).f3.f2), .int .i64 ((rd_T41 l1 x8_2).f3.f3)] 30 (0, 0)) (by (with_reducible repeat (first | refine blk_drewN ?_ _ | refine blk_drew ?_ | refine blk_alloc ?_ _)); refine blk_put (cs := #[.int .i64 ((rd_T41 l1 x8_2).f3.f0), .int .i64 ((rd_T41 l1 x8_2).f3.f1), .int .i64 ((rd_T41 l1 x8_2).f3.f2), .int .i64 0]) ?_ 3 _ rfl; (with_reducible repeat (first | refine blk_drewN ?_ _ | refine blk_drew ?_ | refine blk_alloc ?_ _)); refine blk_put (cs := #[.int .i64 ((rd_T41 l1 x8_2).f3.f0), .int .i64 ((rd_T41 l1 x8_2).f3.f1), .int .i64 0, .int .i64 0]) ?_ 2 _ rfl; (with_reducible repeat (first | refine blk_drewN ?_ _ | refine blk_drew ?_ | refine blk_alloc ?_ _)); refine blk_put (cs := #[.int .i64 ((rd_T41 l1 x8_2).f3.f0), .int .i64 0, .int .i64 0, .int .i64 0]) ?_ 1 _ rfl; (with_reducible repeat (first | refine blk_drewN ?_ _ | refine blk_drew ?_ | refine blk_alloc ?_ _)); refine blk_put (cs := #[.int .i64 0, .int .i64 0, .int .i64 0, .int .i64 0]) ?_ 0 _ rfl; (with_reducible repeat (first | refine blk_drewN ?_ _ | refine blk_drew ?_ | refine blk_alloc ?_ _)); exact BK203.out) hb); have n2_ := Aside0.mk (below_step (by repeat (first | (with_reducible first | exact HB.out | apply below_alloc | apply pw_below_drewN | apply below_drew1 | refine below_set ?_ GE203.out) | exact HB.out)) hb); clear HO_6; clear BK203; clear HB; have HO_6 := n0_; have BK203 := n1_; have HB := n2_; clear n0_ n1_ n2_; (try clear hb); (try clear hb2); (try clear hk); (try clear hi); have hcz31_0 : w30.cell? ⟨gb203, 0, none⟩ = some (.int .i64 ((rd_T41 l1 x8_2).f3.f0)) := (blk_cell BK203.out 0).trans rfl; have hcz31_1 : w30.cell? ⟨gb203, 1, none⟩ = some (.int .i64 ((rd_T41 l1 x8_2).f3.f1)) := (blk_cell BK203.out 1).trans rfl; have hcz31_2 : w30.cell? ⟨gb203, 2, none⟩ = some (.int .i64 ((rd_T41 l1 x8_2).f3.f2)) := (blk_cell BK203.out 2).trans rfl; have hcz31_3 : w30.cell? ⟨gb203, 3, none⟩ = some (.int .i64 ((rd_T41 l1 x8_2).f3.f3)) := (blk_cell BK203.out 3).trans rfl; have hfz31_0 := blk_frozen BK203.out 0; have hfz31_1 := blk_frozen BK203.out 1; have hfz31_2 := blk_frozen BK203.out 2; have hfz31_3 := blk_frozen BK203.out 3))
          go_roundg k2
          case measure => have := HK1.out; have := HK2.out; omega
          case rel => exact ⟨(x6_2), (wrap64 (x8_2 + 1)), (by first | rfl | (simp; done) | (simp [*]; done)), H', ⟨by have := HK1.out; have := HK2.out; omega⟩, ⟨by (with_reducible repeat (first | apply Kd.R_alloc | apply Kd.R_drewN | apply Kd.R_drew)); exact HO_6.out⟩, ⟨by repeat (first | (with_reducible first | exact HB.out | apply below_alloc | apply pw_below_drewN | apply below_drew1 | refine below_set ?_ GE203.out) | exact HB.out)⟩⟩
        ·
         replace c14 := Bool.eq_false_iff.mpr c14
         subst c14
         have H1 : (some (([] : List (S39)), 170)) = some (r1, r2) := by rw [if_neg (show ¬ (false = true) by decide)] at H; exact H
         clear H
         have H := H1
         clear H1
         simp only [Option.some.injEq, Prod.mk.injEq] at H
         obtain ⟨rfl, rfl⟩ := H
         have p202 : 0 ≤ (x8_2 : Int) := of_decide_eq_true (by first | (with_reducible assumption) | assumption)
         have q202 : x8_2 < (l1.length : Int) := of_decide_eq_true (by first | (with_reducible assumption) | assumption)
         obtain ⟨ad202, e202, hx202_0, hx202_1, hx202_2, hx202_3, hx202_4, hx202_5, hx202_6⟩ := at_T41 HR1.out x8_2 p202 q202
         cases e202
         replace hx202_0 := (HB.out.cell (World.block_lt_of_cell? w _ hx202_0)).trans hx202_0
         replace hx202_1 := (HB.out.cell (World.block_lt_of_cell? w _ hx202_1)).trans hx202_1
         replace hx202_2 := (HB.out.cell (World.block_lt_of_cell? w _ hx202_2)).trans hx202_2
         replace hx202_3 := (HB.out.cell (World.block_lt_of_cell? w _ hx202_3)).trans hx202_3
         replace hx202_4 := (HB.out.cell (World.block_lt_of_cell? w _ hx202_4)).trans hx202_4
         replace hx202_5 := (HB.out.cell (World.block_lt_of_cell? w _ hx202_5)).trans hx202_5
         replace hx202_6 := (HB.out.cell (World.block_lt_of_cell? w _ hx202_6)).trans hx202_6
         replace p202 := eq_true p202
         replace q202 := eq_true q202
         go_wp2_with (first | ((with_reducible refine gate_dst (N := 9) rfl ?_); refine box_event ?hg (N := 9) ?hd (cs := #[.int .i64 0, .int .i64 0, .int .i64 0, .int .i64 0]) (t := 30) ?hr ?_; (case hd => rfl); (case hg => rfl); (case hr => first | (go_simp; done) | (go_simp; rfl)); intro gb203 hg w32 hbox hb; have n0_ := Aside0.mk (Kd.R_below (by (with_reducible repeat (first | apply Kd.R_alloc | apply Kd.R_drewN | apply Kd.R_drew)); exact HO_6.out) hb); have n1_ := Aside0.mk (below_step (by repeat (first | (with_reducible first | exact HB.out | apply below_alloc | apply pw_below_drewN | apply below_drew1) | exact HB.out)) hb); have n2_ := Aside0.mk (hbox); have n3_ := Aside0.mk ((by rw [hg]; exact (below_size (by repeat (first | (with_reducible first | exact HB.out | apply below_alloc | apply pw_below_drewN | apply below_drew1) | exact HB.out))) : w.heap.size ≤ gb203)); have n4_ := Aside0.mk ((by rw [hg]; exact (below_size (by repeat (first | (with_reducible first | exact HB.out | apply below_alloc | apply pw_below_drewN | apply below_drew1) | exact HB.out))) : w.heap.size ≤ gb203)); clear HO_6; clear HB; have HO_6 := n0_; have HB := n1_; have BK203 := n2_; have GW203 := n3_; have GE203 := n4_; clear n0_ n1_ n2_ n3_ n4_; clear hb hbox hg; have hcz33_0 : w32.cell? ⟨gb203, 0, none⟩ = some (.int .i64 0) := (blk_cell BK203.out 0).trans rfl; have hcz33_1 : w32.cell? ⟨gb203, 1, none⟩ = some (.int .i64 0) := (blk_cell BK203.out 1).trans rfl; have hcz33_2 : w32.cell? ⟨gb203, 2, none⟩ = some (.int .i64 0) := (blk_cell BK203.out 2).trans rfl; have hcz33_3 : w32.cell? ⟨gb203, 3, none⟩ = some (.int .i64 0) := (blk_cell BK203.out 3).trans rfl; have hfz33_0 := blk_frozen BK203.out 0; have hfz33_1 := blk_frozen BK203.out 1; have hfz33_2 := blk_frozen BK203.out 2; have hfz33_3 := blk_frozen BK203.out 3) | ((with_reducible refine gate_callee (f := 39) rfl ?_); refine goesL_ (some 42) rfl rfl Tryd.func39 (by kernel_rfl) rfl #[.agg #[.int .i64 ((rd_T41 l1 x8_2).f3.f0), .int .i64 ((rd_T41 l1 x8_2).f3.f1), .int .i64 ((rd_T41 l1 x8_2).f3.f2), .int .i64 ((rd_T41 l1 x8_2).f3.f3)]] rfl (by (try simp only [List.map_toArray, List.map_cons, List.map_nil]); first | done | rfl | (simp only [List.length_drop, List.length_take]; rfl)) ?_; (with_reducible refine (gutterref18_Is.calls ((rd_T41 l1 x8_2).f3.f0) ((rd_T41 l1 x8_2).f3.f1) ((rd_T41 l1 x8_2).f3.f2) ((rd_T41 l1 x8_2).f3.f3) false _ A13.out).mono ?_); rintro e w34 ⟨rfl, hb⟩; refine ⟨_, rfl, ?_⟩; have n0_ := Aside0.mk (Kd.R_below (by (with_reducible repeat (first | apply Kd.R_alloc | apply Kd.R_drewN | apply Kd.R_drew)); exact (Kd.R_mono (Kd.R_far (p := ⟨gb203, 3, none⟩) (Kd.R_far (p := ⟨gb203, 2, none⟩) (Kd.R_far (p := ⟨gb203, 1, none⟩) (Kd.R_far (p := ⟨gb203, 0, none⟩) (Kd.R_types HO_6.out BK203.out (by decide)) (fun _ hk => hk.2) (.int .i64 ((rd_T41 l1 x8_2).f3.f0))) (fun _ hk => hk.2) (.int .i64 ((rd_T41 l1 x8_2).f3.f1))) (fun _ hk => hk.2) (.int .i64 ((rd_T41 l1 x8_2).f3.f2))) (fun _ hk => hk.2) (.int .i64 ((rd_T41 l1 x8_2).f3.f3))) (fun _ h_ => h_.1))) hb); have n1_ := Aside0.mk (blk_below (g := gb203) (o := .cells #[.int .i64 ((rd_T41 l1 x8_2).f3.f0), .int .i64 ((rd_T41 l1 x8_2).f3.f1), .int .i64 ((rd_T41 l1 x8_2).f3.f2), .int .i64 ((rd_T41 l1 x8_2).f3.f3)] 30 (0, 0)) (by (with_reducible repeat (first | refine blk_drewN ?_ _ | refine blk_drew ?_ | refine blk_alloc ?_ _)); refine blk_put (cs := #[.int .i64 ((rd_T41 l1 x8_2).f3.f0), .int .i64 ((rd_T41 l1 x8_2).f3.f1), .int .i64 ((rd_T41 l1 x8_2).f3.f2), .int .i64 0]) ?_ 3 _ rfl; (with_reducible repeat (first | refine blk_drewN ?_ _ | refine blk_drew ?_ | refine blk_alloc ?_ _)); refine blk_put (cs := #[.int .i64 ((rd_T41 l1 x8_2).f3.f0), .int .i64 ((rd_T41 l1 x8_2).f3.f1), .int .i64 0, .int .i64 0]) ?_ 2 _ rfl; (with_reducible repeat (first | refine blk_drewN ?_ _ | refine blk_drew ?_ | refine blk_alloc ?_ _)); refine blk_put (cs := #[.int .i64 ((rd_T41 l1 x8_2).f3.f0), .int .i64 0, .int .i64 0, .int .i64 0]) ?_ 1 _ rfl; (with_reducible repeat (first | refine blk_drewN ?_ _ | refine blk_drew ?_ | refine blk_alloc ?_ _)); refine blk_put (cs := #[.int .i64 0, .int .i64 0, .int .i64 0, .int .i64 0]) ?_ 0 _ rfl; (with_reducible repeat (first | refine blk_drewN ?_ _ | refine blk_drew ?_ | refine blk_alloc ?_ _)); exact BK203.out) hb); have n2_ := Aside0.mk (below_step (by repeat (first | (with_reducible first | exact HB.out | apply below_alloc | apply pw_below_drewN | apply below_drew1 | refine below_set ?_ GE203.out) | exact HB.out)) hb); clear HO_6; clear BK203; clear HB; have HO_6 := n0_; have BK203 := n1_; have HB := n2_; clear n0_ n1_ n2_; (try clear hb); (try clear hb2); (try clear hk); (try clear hi)))
         go_ret2
         exact ⟨_, by first | rfl | (simp [errW_none, errW_some] <;> rfl) | (simp [*, errW_none, errW_some] <;> rfl), by first | exact Kd.R_nil _ _ _ _ _ | exact Kd.N_nil _ _ _ _ _ | exact Kd.V_nil _ _ _ _ _ | exact Kd.Q_nil _ _ _ _ _ | exact Kd.S_nil _ _ _ _ _, by repeat (first | (with_reducible first | exact HB.out | apply below_alloc | apply pw_below_drewN | apply below_drew1 | refine below_set ?_ GE203.out) | exact HB.out)⟩
       ·
        rw [if_neg c12] at H
        exact absurd H (by simp)
      ·
       rw [if_neg c11] at H
       have c11b0 : decide (x8_2 < (l1.length : Int)) = false := decide_eq_false c11
       clear c11
       simp only [Option.some.injEq, Prod.mk.injEq] at H
       obtain ⟨rfl, rfl⟩ := H
       go_wp2
       go_ret2
       exact ⟨_, by first | rfl | (simp [errW_none, errW_some] <;> rfl) | (simp [*, errW_none, errW_some] <;> rfl), by (with_reducible repeat (first | apply Kd.R_alloc | apply Kd.R_drewN | apply Kd.R_drew)); exact HO_6.out, by repeat (first | (with_reducible first | exact HB.out | apply below_alloc | apply pw_below_drewN | apply below_drew1) | exact HB.out)⟩

end Go.Proofs.YtkmddhljfjjglaaDoor.G
