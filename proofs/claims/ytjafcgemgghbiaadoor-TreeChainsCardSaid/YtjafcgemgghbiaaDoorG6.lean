/- Functions of the law and of what it calls as plain Lean functions, and that the calls come to their answers: written by fprint.py. -/
import Derived.Test.YtjafcgemgghbiaaDoorF21
import Derived.Test.YtjafcgemgghbiaaDoorG0
import Derived.Test.YtjafcgemgghbiaaDoorG2
namespace Go.Proofs.YtjafcgemgghbiaaDoor.G
open Go.RowKit Go.Proofs.YtjafcgemgghbiaaDoorW.PrintWords Go.Proofs.YtjafcgemgghbiaaDoorW.PrintLast Go.Proofs.YtjafcgemgghbiaaDoorW.PrintMore
attribute [local go_sem] max2_int min2_int max_two min_two max_three min_three max_four min_four   -- for this text's walks alone
set_option linter.unusedVariables false
set_option linter.unusedSimpArgs false

/-! ### gutterlaw05_TreeChains: function 6 -/
mutual
def gutterlaw05_TreeChains.j0 : Nat → Int → Bool → Bool → Option (Bool)
  | 0, _, _, _ => none
  | k + 1, x0, x3, x16 => if x16 = true then (some x3) else (gutterlaw05_TreeChains.l0 k x0 x3 ([] : List (S32)) 0)
def gutterlaw05_TreeChains.l0 : Nat → Int → Bool → List (S32) → Int → Option (Bool)
  | 0, _, _, _, _ => none
  | k + 1, x0, x3, x4, x5 => if x5 < x0 then ((gutterlaw05_block.f (wrap64 (x5 - 1))).bind fun bt317 => (if x4.length < 799644820200 then (gutterlaw05_TreeChains.l0 k x0 x3 (x4 ++ [(⟨bt317.1, bt317.2.1, bt317.2.2.1, bt317.2.2.2.1, bt317.2.2.2.2.1, (⟨bt317.2.2.2.2.2.1, bt317.2.2.2.2.2.2.1, bt317.2.2.2.2.2.2.2.1, bt317.2.2.2.2.2.2.2.2.1, bt317.2.2.2.2.2.2.2.2.2.1, bt317.2.2.2.2.2.2.2.2.2.2.1, bt317.2.2.2.2.2.2.2.2.2.2.2.1, bt317.2.2.2.2.2.2.2.2.2.2.2.2.1, bt317.2.2.2.2.2.2.2.2.2.2.2.2.2.1, bt317.2.2.2.2.2.2.2.2.2.2.2.2.2.2.1, bt317.2.2.2.2.2.2.2.2.2.2.2.2.2.2.2.1, bt317.2.2.2.2.2.2.2.2.2.2.2.2.2.2.2.2.1, bt317.2.2.2.2.2.2.2.2.2.2.2.2.2.2.2.2.2.1, bt317.2.2.2.2.2.2.2.2.2.2.2.2.2.2.2.2.2.2.1, bt317.2.2.2.2.2.2.2.2.2.2.2.2.2.2.2.2.2.2.2.1, bt317.2.2.2.2.2.2.2.2.2.2.2.2.2.2.2.2.2.2.2.2⟩ : S30)⟩ : S32)]) (wrap64 (x5 + 1))) else (none))) else ((tree_Check.f x4).bind fun bt341 => ((tree_Deep.f x4 (wrap64 (x0 - 1))).bind fun bt343 => (if x0 > 64 then (if x3 = true then (if bt341.1 = 64 then (if bt341.2 = 51 then (if bt343.2 = bt341.2 then (some (bt343.1 == 0)) else (some false)) else (some false)) else (some false)) else (some false)) else (if x3 = true then (if bt341.1 = 0 then (if bt341.2 = 0 then (if bt343.2 = 0 then (if bt343.1 = x0 then (if 0 < (x4.length : Int) then ((style_Right.f ((rd_T32 x4 0).f5.f0) ((rd_T32 x4 0).f5.f1) ((rd_T32 x4 0).f5.f2) ((rd_T32 x4 0).f5.f3) ((rd_T32 x4 0).f5.f4) ((rd_T32 x4 0).f5.f5) ((rd_T32 x4 0).f5.f6) ((rd_T32 x4 0).f5.f7) ((rd_T32 x4 0).f5.f8) ((rd_T32 x4 0).f5.f9) ((rd_T32 x4 0).f5.f10) ((rd_T32 x4 0).f5.f11) ((rd_T32 x4 0).f5.f12) ((rd_T32 x4 0).f5.f13) ((rd_T32 x4 0).f5.f14) ((rd_T32 x4 0).f5.f15)).bind fun t346 => (some t346)) else (none)) else (some false)) else (some false)) else (some false)) else (some false)) else (some false)))))
end
def gutterlaw05_TreeChains.f (k : Nat) (a0 : Int) : Option (Bool) := (gutterlaw05_shown.f k).bind fun t316 => (if a0 < 1 then (gutterlaw05_TreeChains.j0 k a0 t316 true) else (gutterlaw05_TreeChains.j0 k a0 t316 (decide (a0 > 80))))
theorem gutterlaw05_TreeChains.mono_l : ∀ k, (∀ y0 y1 y2, LeO (gutterlaw05_TreeChains.j0 k y0 y1 y2) (gutterlaw05_TreeChains.j0 (k + 1) y0 y1 y2)) ∧ (∀ y0 y1 y2 y3, LeO (gutterlaw05_TreeChains.l0 k y0 y1 y2 y3) (gutterlaw05_TreeChains.l0 (k + 1) y0 y1 y2 y3))
  | 0 => ⟨fun _ _ _ r h => by simp [gutterlaw05_TreeChains.j0] at h, fun _ _ _ _ r h => by simp [gutterlaw05_TreeChains.l0] at h⟩
  | k + 1 => by
    obtain ⟨ih0, ih1⟩ := gutterlaw05_TreeChains.mono_l k
    refine ⟨?_, ?_⟩
    · intro y0 y1 y2
      unfold gutterlaw05_TreeChains.j0
      repeat' first
      | (with_reducible exact ih0 _ _ _)
      | (with_reducible exact ih1 _ _ _ _)
      | (with_reducible exact gutterlaw05_shown.mono _)
      | (with_reducible exact LeO.refl _)
      | (with_reducible exact LeO.none _)
      | (with_reducible refine LeO.ite ?_ ?_)
      | (with_reducible refine LeO.bind ?_ (fun _ => ?_))
      | exact ih0 _ _ _
      | exact ih1 _ _ _ _
      | exact gutterlaw05_shown.mono _
      | exact LeO.none _
      | refine LeO.ite ?_ ?_
      | refine LeO.bind ?_ (fun _ => ?_)
    · intro y0 y1 y2 y3
      unfold gutterlaw05_TreeChains.l0
      repeat' first
      | (with_reducible exact ih0 _ _ _)
      | (with_reducible exact ih1 _ _ _ _)
      | (with_reducible exact gutterlaw05_shown.mono _)
      | (with_reducible exact LeO.refl _)
      | (with_reducible exact LeO.none _)
      | (with_reducible refine LeO.ite ?_ ?_)
      | (with_reducible refine LeO.bind ?_ (fun _ => ?_))
      | exact ih0 _ _ _
      | exact ih1 _ _ _ _
      | exact gutterlaw05_shown.mono _
      | exact LeO.none _
      | refine LeO.ite ?_ ?_
      | refine LeO.bind ?_ (fun _ => ?_)
theorem gutterlaw05_TreeChains.mono : ∀ a0 k, LeO (gutterlaw05_TreeChains.f k a0) (gutterlaw05_TreeChains.f (k + 1) a0) := by
  intro a0 k
  obtain ⟨ih0, ih1⟩ := gutterlaw05_TreeChains.mono_l k
  unfold gutterlaw05_TreeChains.f
  repeat' first
      | (with_reducible exact ih0 _ _ _)
      | (with_reducible exact ih1 _ _ _ _)
      | (with_reducible exact gutterlaw05_shown.mono _)
      | (with_reducible exact LeO.refl _)
      | (with_reducible exact LeO.none _)
      | (with_reducible refine LeO.ite ?_ ?_)
      | (with_reducible refine LeO.bind ?_ (fun _ => ?_))
      | exact ih0 _ _ _
      | exact ih1 _ _ _ _
      | exact gutterlaw05_shown.mono _
      | exact LeO.none _
      | refine LeO.ite ?_ ?_
      | refine LeO.bind ?_ (fun _ => ?_)
set_option maxHeartbeats 8000000 in
set_option maxRecDepth 100000 in
theorem gutterlaw05_TreeChains.calls (k : Nat) (a0 : Int) (r : Bool) (w : World) (h : gutterlaw05_TreeChains.f k a0 = some r) (hG : GOK w) :
    Calls Tryd.prog 6 #[.int .i64 a0] w fun e w' => e = .returned (.bool r) ∧ Below w.heap.size w w' := by
  have HG := Aside0.mk hG
  clear hG
  have hu30 := Tryd.underlying30
  have HB := Aside0.mk (Below.refl w.heap.size w)
  have H : ((gutterlaw05_shown.f k).bind fun t316 => (if a0 < 1 then (gutterlaw05_TreeChains.j0 k a0 t316 true) else (gutterlaw05_TreeChains.j0 k a0 t316 (decide (a0 > 80))))) = some r := h
  clear h
  replace H := Option.bind_eq_some_iff.mp H
  obtain ⟨t316, A20, H⟩ := H
  replace H : (if a0 < 1 then (gutterlaw05_TreeChains.j0 k a0 t316 true) else (gutterlaw05_TreeChains.j0 k a0 t316 (decide (a0 > 80)))) = some r := H
  have A2 := Aside0.mk A20
  clear A20
  have HC3 := Aside0.mk H
  clear H
  go_enter Tryd.func6, Tryd.ntmps6
  go_upto_region 2 with (first | ((with_reducible refine gate_callee (f := 10) rfl ?_); refine goesL_ (some 10) rfl rfl Tryd.func10 (by kernel_rfl) rfl #[] rfl (by (try simp only [List.map_toArray, List.map_cons, List.map_nil]); first | done | rfl | (simp only [List.length_drop, List.length_take]; rfl)) ?_; (with_reducible refine (gutterlaw05_shown.calls k  t316 _ A2.out (GOK.below HG.out (by repeat (first | (with_reducible first | exact HB.out | apply below_alloc | apply pw_below_drewN | apply below_drew1) | exact HB.out)))).mono ?_); rintro e w4 ⟨rfl, hb⟩; refine ⟨_, rfl, ?_⟩; have n0_ := Aside0.mk (below_step (by repeat (first | (with_reducible first | exact HB.out | apply below_alloc | apply pw_below_drewN | apply below_drew1) | exact HB.out)) hb); clear HB; have HB := n0_; clear n0_; (try clear hb); (try clear hb2); (try clear hk); (try clear hi)))
  (try simp only [Act.put, List.setIfInBounds_toArray, List.set_cons_zero, List.set_cons_succ])
  go_cut [16] (fun v16 wc => ∃ (kq : Nat) (x16_2 : Bool), v16 = .bool x16_2 ∧ Aside0 (gutterlaw05_TreeChains.j0 kq a0 t316 x16_2 = some r) ∧ Aside0 (kq ≤ k) ∧ Aside0 (Below w.heap.size w wc))
  case first =>
    have H := HC3.out
    clear HC3
    by_cases c5 : a0 < 1
    · rw [if_pos c5] at H
      have c5b0 : decide (a0 < 1) = true := decide_eq_true c5
      clear c5
      (first | rw [c5b0] | (simp only [i64_w, i32_w]; rw [c5b0]) | skip)
      have H' := Aside0.mk H
      clear H
      go_wp2
      go_meet
      case rel => exact ⟨_, (true), (by first | rfl | (simp; done) | (simp [*]; done)), H', ⟨by first | omega | exact Nat.le_refl _⟩, ⟨by repeat (first | (with_reducible first | exact HB.out | apply below_alloc | apply pw_below_drewN | apply below_drew1) | exact HB.out)⟩⟩
    · rw [if_neg c5] at H
      have c5b0 : decide (a0 < 1) = false := decide_eq_false c5
      clear c5
      (first | rw [c5b0] | (simp only [i64_w, i32_w]; rw [c5b0]) | skip)
      have H' := Aside0.mk H
      clear H
      go_wp2
      go_meet
      case rel => exact ⟨_, (decide (a0 > 80)), (by first | rfl | (simp; done) | (simp [*]; done)), H', ⟨by first | omega | exact Nat.le_refl _⟩, ⟨by repeat (first | (with_reducible first | exact HB.out | apply below_alloc | apply pw_below_drewN | apply below_drew1) | exact HB.out)⟩⟩
  case rest =>
    clear HC3
    try clear c1
    try clear p2
    try clear c5
    try clear c5b0
    obtain ⟨kq, x16_2, rfl, HA, HJ2, HB⟩ := hcut
    cases kq with
    | zero => exact absurd HA.out (by simp [gutterlaw05_TreeChains.j0])
    | succ kj2 =>
      have H := HA.out
      clear HA
      simp only [gutterlaw05_TreeChains.j0] at H
      by_cases c6 : x16_2 = true
      · subst c6
        have H1 : (some t316) = some r := by rw [if_pos rfl] at H; exact H
        clear H
        have H := H1
        clear H1
        obtain rfl := Option.some.inj H
        go_wp2
        go_ret
        exact ⟨by first | rfl | (simp [errW_none, errW_some] <;> rfl) | (simp [*, errW_none, errW_some] <;> rfl), by repeat (first | (with_reducible first | exact HB.out | apply below_alloc | apply pw_below_drewN | apply below_drew1) | exact HB.out)⟩
      · replace c6 := Bool.eq_false_iff.mpr c6
        subst c6
        have H1 : (gutterlaw05_TreeChains.l0 kj2 a0 t316 ([] : List (S32)) 0) = some r := by rw [if_neg (show ¬ (false = true) by decide)] at H; exact H
        clear H
        have H := H1
        clear H1
        have H' := Aside0.mk H
        clear H
        go_wp2
        go_loopg [4, 5] kj2 (fun kq v4 v5 w' => ∃ (x4_2 : List (S32)) (x5_2 : Int), v5 = .int .i64 x5_2 ∧ Aside0 (gutterlaw05_TreeChains.l0 kq a0 t316 x4_2 x5_2 = some r) ∧ Aside0 (kq ≤ kj2) ∧ Aside0 (Kd.R k32 32 w' w.heap.size (fun _ => True) v4 x4_2) ∧ Aside0 (Below w.heap.size w w'))
        case atStart => exact ⟨(([] : List (S32))), (0), (by first | rfl | (simp; done) | (simp [*]; done)), H', ⟨Nat.le_refl _⟩, ⟨by first | exact Kd.R_nil _ _ _ _ _ | exact Kd.N_nil _ _ _ _ _ | exact Kd.V_nil _ _ _ _ _ | exact Kd.Q_nil _ _ _ _ _ | exact Kd.S_nil _ _ _ _ _⟩, ⟨by repeat (first | (with_reducible first | exact HB.out | apply below_alloc | apply pw_below_drewN | apply below_drew1) | exact HB.out)⟩⟩
        case round =>
          clear H'
          try clear c1
          try clear p2
          try clear c5
          try clear c5b0
          try clear c6
          try clear p2
          obtain ⟨x4_2, x5_2, rfl, HA, HK2, HO_4, HB⟩ := hrel
          cases gk with
          | zero => exact absurd HA.out (by simp [gutterlaw05_TreeChains.l0])
          | succ k2 =>
            have H := HA.out
            clear HA
            simp only [gutterlaw05_TreeChains.l0] at H
            by_cases c7 : x5_2 < a0
            · rw [if_pos c7] at H
              have c7b0 : decide (x5_2 < a0) = true := decide_eq_true c7
              clear c7
              replace H := Option.bind_eq_some_iff.mp H
              obtain ⟨⟨t317, t318, t319, t320, t321, t322, t323, t324, t325, t326, t327, t328, t329, t330, t331, t332, t333, t334, t335, t336, t337⟩, A80, H⟩ := H
              replace H : (if x4_2.length < 799644820200 then (gutterlaw05_TreeChains.l0 k2 a0 t316 (x4_2 ++ [(⟨t317, t318, t319, t320, t321, (⟨t322, t323, t324, t325, t326, t327, t328, t329, t330, t331, t332, t333, t334, t335, t336, t337⟩ : S30)⟩ : S32)]) (wrap64 (x5_2 + 1))) else (none)) = some r := H
              have A8 := Aside0.mk A80
              clear A80
              by_cases c9 : x4_2.length < 799644820200
              · rw [if_pos c9] at H
                have LMc9 := Aside0.mk c9
                clear c9
                obtain ⟨y338, hy338⟩ : ∃ y_ : List (S32), y_ = (x4_2 ++ [(⟨t317, t318, t319, t320, t321, (⟨t322, t323, t324, t325, t326, t327, t328, t329, t330, t331, t332, t333, t334, t335, t336, t337⟩ : S30)⟩ : S32)]) := ⟨_, rfl⟩
                replace H : (gutterlaw05_TreeChains.l0 k2 a0 t316 y338 (wrap64 (x5_2 + 1))) = some r := by first | (rw [hy338]; with_reducible exact H) | (have H2_ := (Option.bind_some _ _).symm.trans H; rw [hy338]; with_reducible exact H2_) | (have H2_ := (Option.bind_some _ _).symm.trans H; with_reducible exact H2_) | with_reducible exact H | (rw [hy338]; exact H) | exact H
                have Ny338 := Aside0.mk hy338
                clear hy338
                have H' := Aside0.mk H
                clear H
                go_wp2_with (first | ((with_reducible refine gate_callee (f := 17) rfl ?_); refine goesL_ (some 26) rfl rfl Tryd.func17 (by kernel_rfl) rfl #[.int .i64 (wrap64 (x5_2 - 1))] rfl (by (try simp only [List.map_toArray, List.map_cons, List.map_nil]); first | done | rfl | (simp only [List.length_drop, List.length_take]; rfl)) ?_; (with_reducible refine (gutterlaw05_block.calls (wrap64 (x5_2 - 1)) t317 t318 t319 t320 t321 t322 t323 t324 t325 t326 t327 t328 t329 t330 t331 t332 t333 t334 t335 t336 t337 _ A8.out).mono ?_); rintro e w10 ⟨rfl, hb⟩; refine ⟨_, rfl, ?_⟩; have n0_ := Aside0.mk (Kd.R_below (by (with_reducible repeat (first | apply Kd.R_alloc | apply Kd.R_drewN | apply Kd.R_drew)); exact HO_4.out) hb); have n1_ := Aside0.mk (below_step (by repeat (first | (with_reducible first | exact HB.out | apply below_alloc | apply pw_below_drewN | apply below_drew1) | exact HB.out)) hb); clear HO_4; clear HB; have HO_4 := n0_; have HB := n1_; clear n0_ n1_; (try clear hb); (try clear hb2); (try clear hk); (try clear hi)) | ((with_reducible refine gate_builtin (b := .append) (xs := #[.tmp 23, .tmp 27]) rfl ?_); at_builtin; refine Kd.R_append k32 (w0 := w) w.heap.size rfl (.tmp 23) (.tmp 27) 22 32 (.agg #[(.int .i64 0), (.int .i64 0), (.string ⟨#[]⟩), (.int .i64 0), (.int .i64 0), (.int .i64 0), (.int .i64 0), (.int .i64 0), (.int .i64 0), (.bool false), (.int .i64 0), (.int .i64 0), (.int .i64 0), (.bool false), (.int .i64 0), (.int .i64 0), (.bool false), (.int .i64 0), (.bool false), (.int .i64 0), (.int .i64 0)]) 176 rfl Tryd.underlying22 info32 rfl (by decide) (by omega) u4 x4_2 (⟨t317, t318, t319, t320, t321, (⟨t322, t323, t324, t325, t326, t327, t328, t329, t330, t331, t332, t333, t334, t335, t336, t337⟩ : S30)⟩ : S32) [.int .i64 t317, .int .i64 t318, .string t319, .int .i64 t320, .int .i64 t321, .int .i64 t322, .int .i64 t323, .int .i64 t324, .int .i64 t325, .bool t326, .int .i64 t327, .int .i64 t328, .int .i64 t329, .bool t330, .int .i64 t331, .int .i64 t332, .bool t333, .int .i64 t334, .bool t335, .int .i64 t336, .int .i64 t337] (fun _ => True) (fun _ => False) rfl rfl ?aP (fun _ hk => hk.elim) ?aF ?aO ?aB ?aS ?aL ?_; (case aP => exact k32_mkM _ _ _ (⟨t317, t318, t319, t320, t321, (⟨t322, t323, t324, t325, t326, t327, t328, t329, t330, t331, t332, t333, t334, t335, t336, t337⟩ : S30)⟩ : S32)); (case aB => exact (by repeat (first | (with_reducible first | exact HB.out | apply below_alloc | apply pw_below_drewN | apply below_drew1) | exact HB.out))); (case aF => exact (fun _ _ => trivial)); (case aO => exact (by (with_reducible repeat (first | apply Kd.R_alloc | apply Kd.R_drewN | apply Kd.R_drew)); exact HO_4.out)); (case aS => exact (below_size (by repeat (first | (with_reducible first | exact HB.out | apply below_alloc | apply pw_below_drewN | apply below_drew1) | exact HB.out)))); (case aL => have := LMc9.out; omega); intro v339 w11 ho hb hg hat; rw [← Ny338.out] at ho; have n0_ := Aside0.mk (hb); have n1_ := Aside0.mk (ho); clear HB; clear HO_4; have HB := n0_; have HO340 := n1_; clear n0_ n1_; clear ho hb hg hat))
                go_roundg k2
                case measure => have := HJ2.out; have := HK2.out; omega
                case rel => exact ⟨(y338), (wrap64 (x5_2 + 1)), (by first | rfl | (simp; done) | (simp [*]; done)), H', ⟨by have := HJ2.out; have := HK2.out; omega⟩, ⟨by (with_reducible repeat (first | apply Kd.R_alloc | apply Kd.R_drewN | apply Kd.R_drew)); exact HO340.out⟩, ⟨by repeat (first | (with_reducible first | exact HB.out | apply below_alloc | apply pw_below_drewN | apply below_drew1) | exact HB.out)⟩⟩
              · rw [if_neg c9] at H
                exact absurd H (by simp)
            · rw [if_neg c7] at H
              have c7b0 : decide (x5_2 < a0) = false := decide_eq_false c7
              clear c7
              replace H := Option.bind_eq_some_iff.mp H
              obtain ⟨⟨t341, t342⟩, A120, H⟩ := H
              replace H : ((tree_Deep.f x4_2 (wrap64 (a0 - 1))).bind fun bt343 => (if a0 > 64 then (if t316 = true then (if t341 = 64 then (if t342 = 51 then (if bt343.2 = t342 then (some (bt343.1 == 0)) else (some false)) else (some false)) else (some false)) else (some false)) else (if t316 = true then (if t341 = 0 then (if t342 = 0 then (if bt343.2 = 0 then (if bt343.1 = a0 then (if 0 < (x4_2.length : Int) then ((style_Right.f ((rd_T32 x4_2 0).f5.f0) ((rd_T32 x4_2 0).f5.f1) ((rd_T32 x4_2 0).f5.f2) ((rd_T32 x4_2 0).f5.f3) ((rd_T32 x4_2 0).f5.f4) ((rd_T32 x4_2 0).f5.f5) ((rd_T32 x4_2 0).f5.f6) ((rd_T32 x4_2 0).f5.f7) ((rd_T32 x4_2 0).f5.f8) ((rd_T32 x4_2 0).f5.f9) ((rd_T32 x4_2 0).f5.f10) ((rd_T32 x4_2 0).f5.f11) ((rd_T32 x4_2 0).f5.f12) ((rd_T32 x4_2 0).f5.f13) ((rd_T32 x4_2 0).f5.f14) ((rd_T32 x4_2 0).f5.f15)).bind fun t346 => (some t346)) else (none)) else (some false)) else (some false)) else (some false)) else (some false)) else (some false)))) = some r := H
              have A12 := Aside0.mk A120
              clear A120
              replace H := Option.bind_eq_some_iff.mp H
              obtain ⟨⟨t343, t344⟩, A130, H⟩ := H
              replace H : (if a0 > 64 then (if t316 = true then (if t341 = 64 then (if t342 = 51 then (if t344 = t342 then (some (t343 == 0)) else (some false)) else (some false)) else (some false)) else (some false)) else (if t316 = true then (if t341 = 0 then (if t342 = 0 then (if t344 = 0 then (if t343 = a0 then (if 0 < (x4_2.length : Int) then ((style_Right.f ((rd_T32 x4_2 0).f5.f0) ((rd_T32 x4_2 0).f5.f1) ((rd_T32 x4_2 0).f5.f2) ((rd_T32 x4_2 0).f5.f3) ((rd_T32 x4_2 0).f5.f4) ((rd_T32 x4_2 0).f5.f5) ((rd_T32 x4_2 0).f5.f6) ((rd_T32 x4_2 0).f5.f7) ((rd_T32 x4_2 0).f5.f8) ((rd_T32 x4_2 0).f5.f9) ((rd_T32 x4_2 0).f5.f10) ((rd_T32 x4_2 0).f5.f11) ((rd_T32 x4_2 0).f5.f12) ((rd_T32 x4_2 0).f5.f13) ((rd_T32 x4_2 0).f5.f14) ((rd_T32 x4_2 0).f5.f15)).bind fun t346 => (some t346)) else (none)) else (some false)) else (some false)) else (some false)) else (some false)) else (some false))) = some r := H
              have A13 := Aside0.mk A130
              clear A130
              by_cases c14 : a0 > 64
              · rw [if_pos c14] at H
                have c14b0 : decide (64 < a0) = true := decide_eq_true c14
                clear c14
                by_cases c15 : t316 = true
                · subst c15
                  have H1 : (if t341 = 64 then (if t342 = 51 then (if t344 = t342 then (some (t343 == 0)) else (some false)) else (some false)) else (some false)) = some r := by rw [if_pos rfl] at H; exact H
                  clear H
                  have H := H1
                  clear H1
                  by_cases c16 : t341 = 64
                  · rw [if_pos c16] at H
                    have c16b0 : (t341 == 64) = true := beq_iff_eq.mpr c16
                    have c16b1 : (t341 != 64) = false := bne_eq_false_iff_eq.mpr c16
                    clear c16
                    by_cases c17 : t342 = 51
                    · rw [if_pos c17] at H
                      have c17b0 : (t342 == 51) = true := beq_iff_eq.mpr c17
                      have c17b1 : (t342 != 51) = false := bne_eq_false_iff_eq.mpr c17
                      clear c17
                      by_cases c18 : t344 = t342
                      · rw [if_pos c18] at H
                        have c18b0 : (t344 == t342) = true := beq_iff_eq.mpr c18
                        have c18b1 : (t344 != t342) = false := bne_eq_false_iff_eq.mpr c18
                        clear c18
                        obtain rfl := Option.some.inj H
                        obtain ⟨Ao19, co19, eo19⟩ := Kd.R_slice HO_4.out
                        subst eo19
                        go_wp2_with (first | ((with_reducible refine gate_callee (f := 18) rfl ?_); refine goesL_ (some 31) rfl rfl Tryd.func18 (by kernel_rfl) rfl #[.slice Ao19 x4_2.length co19] rfl (by (try simp only [List.map_toArray, List.map_cons, List.map_nil]); first | done | rfl | (simp only [List.length_drop, List.length_take]; rfl)) ?_; (with_reducible refine (tree_Check.calls _ _ x4_2 t341 t342 _ ?side1 ?side2 A12.out (GOK.below HG.out (by repeat (first | (with_reducible first | exact HB.out | apply below_alloc | apply pw_below_drewN | apply below_drew1) | exact HB.out)))).mono ?_); (case side1 => repeat (first | exact (Kd.R_reads' HO_4.out).2.2 | (with_reducible refine Kd.C_alloc ?_ _) | (with_reducible refine Kd.C_drewN ?_ _) | (with_reducible refine Kd.C_drew ?_))); (case side2 => exact (Kd.R_reads' HO_4.out).2.1); rintro e w20 ⟨rfl, hb⟩; refine ⟨_, rfl, ?_⟩; have n0_ := Aside0.mk (Kd.R_below (by (with_reducible repeat (first | apply Kd.R_alloc | apply Kd.R_drewN | apply Kd.R_drew)); exact HO_4.out) hb); have n1_ := Aside0.mk (below_step (by repeat (first | (with_reducible first | exact HB.out | apply below_alloc | apply pw_below_drewN | apply below_drew1) | exact HB.out)) hb); clear HO_4; clear HB; have HO_4 := n0_; have HB := n1_; clear n0_ n1_; (try clear hb); (try clear hb2); (try clear hk); (try clear hi)) | ((with_reducible refine gate_callee (f := 16) rfl ?_); refine goesL_ (some 38) rfl rfl Tryd.func16 (by kernel_rfl) rfl #[.slice Ao19 x4_2.length co19, .int .i64 (wrap64 (a0 - 1))] rfl (by (try simp only [List.map_toArray, List.map_cons, List.map_nil]); first | done | rfl | (simp only [List.length_drop, List.length_take]; rfl)) ?_; (with_reducible refine (tree_Deep.calls _ _ x4_2 (wrap64 (a0 - 1)) t343 t344 _ ?side1 ?side2 A13.out (GOK.below HG.out (by repeat (first | (with_reducible first | exact HB.out | apply below_alloc | apply pw_below_drewN | apply below_drew1) | exact HB.out)))).mono ?_); (case side1 => repeat (first | exact (Kd.R_reads' HO_4.out).2.2 | (with_reducible refine Kd.C_alloc ?_ _) | (with_reducible refine Kd.C_drewN ?_ _) | (with_reducible refine Kd.C_drew ?_))); (case side2 => exact (Kd.R_reads' HO_4.out).2.1); rintro e w21 ⟨rfl, hb⟩; refine ⟨_, rfl, ?_⟩; have n0_ := Aside0.mk (Kd.R_below (by (with_reducible repeat (first | apply Kd.R_alloc | apply Kd.R_drewN | apply Kd.R_drew)); exact HO_4.out) hb); have n1_ := Aside0.mk (below_step (by repeat (first | (with_reducible first | exact HB.out | apply below_alloc | apply pw_below_drewN | apply below_drew1) | exact HB.out)) hb); clear HO_4; clear HB; have HO_4 := n0_; have HB := n1_; clear n0_ n1_; (try clear hb); (try clear hb2); (try clear hk); (try clear hi)))
                        go_ret
                        exact ⟨by first | rfl | (simp [errW_none, errW_some] <;> rfl) | (simp [*, errW_none, errW_some] <;> rfl), by repeat (first | (with_reducible first | exact HB.out | apply below_alloc | apply pw_below_drewN | apply below_drew1) | exact HB.out)⟩
                      · rw [if_neg c18] at H
                        have c18b0 : (t344 == t342) = false := beq_eq_false_iff_ne.mpr c18
                        have c18b1 : (t344 != t342) = true := bne_iff_ne.mpr c18
                        obtain rfl := Option.some.inj H
                        obtain ⟨Ao22, co22, eo22⟩ := Kd.R_slice HO_4.out
                        subst eo22
                        go_wp2_with (first | ((with_reducible refine gate_callee (f := 18) rfl ?_); refine goesL_ (some 31) rfl rfl Tryd.func18 (by kernel_rfl) rfl #[.slice Ao22 x4_2.length co22] rfl (by (try simp only [List.map_toArray, List.map_cons, List.map_nil]); first | done | rfl | (simp only [List.length_drop, List.length_take]; rfl)) ?_; (with_reducible refine (tree_Check.calls _ _ x4_2 t341 t342 _ ?side1 ?side2 A12.out (GOK.below HG.out (by repeat (first | (with_reducible first | exact HB.out | apply below_alloc | apply pw_below_drewN | apply below_drew1) | exact HB.out)))).mono ?_); (case side1 => repeat (first | exact (Kd.R_reads' HO_4.out).2.2 | (with_reducible refine Kd.C_alloc ?_ _) | (with_reducible refine Kd.C_drewN ?_ _) | (with_reducible refine Kd.C_drew ?_))); (case side2 => exact (Kd.R_reads' HO_4.out).2.1); rintro e w23 ⟨rfl, hb⟩; refine ⟨_, rfl, ?_⟩; have n0_ := Aside0.mk (Kd.R_below (by (with_reducible repeat (first | apply Kd.R_alloc | apply Kd.R_drewN | apply Kd.R_drew)); exact HO_4.out) hb); have n1_ := Aside0.mk (below_step (by repeat (first | (with_reducible first | exact HB.out | apply below_alloc | apply pw_below_drewN | apply below_drew1) | exact HB.out)) hb); clear HO_4; clear HB; have HO_4 := n0_; have HB := n1_; clear n0_ n1_; (try clear hb); (try clear hb2); (try clear hk); (try clear hi)) | ((with_reducible refine gate_callee (f := 16) rfl ?_); refine goesL_ (some 38) rfl rfl Tryd.func16 (by kernel_rfl) rfl #[.slice Ao22 x4_2.length co22, .int .i64 (wrap64 (a0 - 1))] rfl (by (try simp only [List.map_toArray, List.map_cons, List.map_nil]); first | done | rfl | (simp only [List.length_drop, List.length_take]; rfl)) ?_; (with_reducible refine (tree_Deep.calls _ _ x4_2 (wrap64 (a0 - 1)) t343 t344 _ ?side1 ?side2 A13.out (GOK.below HG.out (by repeat (first | (with_reducible first | exact HB.out | apply below_alloc | apply pw_below_drewN | apply below_drew1) | exact HB.out)))).mono ?_); (case side1 => repeat (first | exact (Kd.R_reads' HO_4.out).2.2 | (with_reducible refine Kd.C_alloc ?_ _) | (with_reducible refine Kd.C_drewN ?_ _) | (with_reducible refine Kd.C_drew ?_))); (case side2 => exact (Kd.R_reads' HO_4.out).2.1); rintro e w24 ⟨rfl, hb⟩; refine ⟨_, rfl, ?_⟩; have n0_ := Aside0.mk (Kd.R_below (by (with_reducible repeat (first | apply Kd.R_alloc | apply Kd.R_drewN | apply Kd.R_drew)); exact HO_4.out) hb); have n1_ := Aside0.mk (below_step (by repeat (first | (with_reducible first | exact HB.out | apply below_alloc | apply pw_below_drewN | apply below_drew1) | exact HB.out)) hb); clear HO_4; clear HB; have HO_4 := n0_; have HB := n1_; clear n0_ n1_; (try clear hb); (try clear hb2); (try clear hk); (try clear hi)))
                        go_ret
                        exact ⟨by first | rfl | (simp [errW_none, errW_some] <;> rfl) | (simp [*, errW_none, errW_some] <;> rfl), by repeat (first | (with_reducible first | exact HB.out | apply below_alloc | apply pw_below_drewN | apply below_drew1) | exact HB.out)⟩
                    · rw [if_neg c17] at H
                      have c17b0 : (t342 == 51) = false := beq_eq_false_iff_ne.mpr c17
                      have c17b1 : (t342 != 51) = true := bne_iff_ne.mpr c17
                      obtain rfl := Option.some.inj H
                      obtain ⟨Ao25, co25, eo25⟩ := Kd.R_slice HO_4.out
                      subst eo25
                      go_wp2_with (first | ((with_reducible refine gate_callee (f := 18) rfl ?_); refine goesL_ (some 31) rfl rfl Tryd.func18 (by kernel_rfl) rfl #[.slice Ao25 x4_2.length co25] rfl (by (try simp only [List.map_toArray, List.map_cons, List.map_nil]); first | done | rfl | (simp only [List.length_drop, List.length_take]; rfl)) ?_; (with_reducible refine (tree_Check.calls _ _ x4_2 t341 t342 _ ?side1 ?side2 A12.out (GOK.below HG.out (by repeat (first | (with_reducible first | exact HB.out | apply below_alloc | apply pw_below_drewN | apply below_drew1) | exact HB.out)))).mono ?_); (case side1 => repeat (first | exact (Kd.R_reads' HO_4.out).2.2 | (with_reducible refine Kd.C_alloc ?_ _) | (with_reducible refine Kd.C_drewN ?_ _) | (with_reducible refine Kd.C_drew ?_))); (case side2 => exact (Kd.R_reads' HO_4.out).2.1); rintro e w26 ⟨rfl, hb⟩; refine ⟨_, rfl, ?_⟩; have n0_ := Aside0.mk (Kd.R_below (by (with_reducible repeat (first | apply Kd.R_alloc | apply Kd.R_drewN | apply Kd.R_drew)); exact HO_4.out) hb); have n1_ := Aside0.mk (below_step (by repeat (first | (with_reducible first | exact HB.out | apply below_alloc | apply pw_below_drewN | apply below_drew1) | exact HB.out)) hb); clear HO_4; clear HB; have HO_4 := n0_; have HB := n1_; clear n0_ n1_; (try clear hb); (try clear hb2); (try clear hk); (try clear hi)) | ((with_reducible refine gate_callee (f := 16) rfl ?_); refine goesL_ (some 38) rfl rfl Tryd.func16 (by kernel_rfl) rfl #[.slice Ao25 x4_2.length co25, .int .i64 (wrap64 (a0 - 1))] rfl (by (try simp only [List.map_toArray, List.map_cons, List.map_nil]); first | done | rfl | (simp only [List.length_drop, List.length_take]; rfl)) ?_; (with_reducible refine (tree_Deep.calls _ _ x4_2 (wrap64 (a0 - 1)) t343 t344 _ ?side1 ?side2 A13.out (GOK.below HG.out (by repeat (first | (with_reducible first | exact HB.out | apply below_alloc | apply pw_below_drewN | apply below_drew1) | exact HB.out)))).mono ?_); (case side1 => repeat (first | exact (Kd.R_reads' HO_4.out).2.2 | (with_reducible refine Kd.C_alloc ?_ _) | (with_reducible refine Kd.C_drewN ?_ _) | (with_reducible refine Kd.C_drew ?_))); (case side2 => exact (Kd.R_reads' HO_4.out).2.1); rintro e w27 ⟨rfl, hb⟩; refine ⟨_, rfl, ?_⟩; have n0_ := Aside0.mk (Kd.R_below (by (with_reducible repeat (first | apply Kd.R_alloc | apply Kd.R_drewN | apply Kd.R_drew)); exact HO_4.out) hb); have n1_ := Aside0.mk (below_step (by repeat (first | (with_reducible first | exact HB.out | apply below_alloc | apply pw_below_drewN | apply below_drew1) | exact HB.out)) hb); clear HO_4; clear HB; have HO_4 := n0_; have HB := n1_; clear n0_ n1_; (try clear hb); (try clear hb2); (try clear hk); (try clear hi)))
                      go_ret
                      exact ⟨by first | rfl | (simp [errW_none, errW_some] <;> rfl) | (simp [*, errW_none, errW_some] <;> rfl), by repeat (first | (with_reducible first | exact HB.out | apply below_alloc | apply pw_below_drewN | apply below_drew1) | exact HB.out)⟩
                  · rw [if_neg c16] at H
                    have c16b0 : (t341 == 64) = false := beq_eq_false_iff_ne.mpr c16
                    have c16b1 : (t341 != 64) = true := bne_iff_ne.mpr c16
                    obtain rfl := Option.some.inj H
                    obtain ⟨Ao28, co28, eo28⟩ := Kd.R_slice HO_4.out
                    subst eo28
                    go_wp2_with (first | ((with_reducible refine gate_callee (f := 18) rfl ?_); refine goesL_ (some 31) rfl rfl Tryd.func18 (by kernel_rfl) rfl #[.slice Ao28 x4_2.length co28] rfl (by (try simp only [List.map_toArray, List.map_cons, List.map_nil]); first | done | rfl | (simp only [List.length_drop, List.length_take]; rfl)) ?_; (with_reducible refine (tree_Check.calls _ _ x4_2 t341 t342 _ ?side1 ?side2 A12.out (GOK.below HG.out (by repeat (first | (with_reducible first | exact HB.out | apply below_alloc | apply pw_below_drewN | apply below_drew1) | exact HB.out)))).mono ?_); (case side1 => repeat (first | exact (Kd.R_reads' HO_4.out).2.2 | (with_reducible refine Kd.C_alloc ?_ _) | (with_reducible refine Kd.C_drewN ?_ _) | (with_reducible refine Kd.C_drew ?_))); (case side2 => exact (Kd.R_reads' HO_4.out).2.1); rintro e w29 ⟨rfl, hb⟩; refine ⟨_, rfl, ?_⟩; have n0_ := Aside0.mk (Kd.R_below (by (with_reducible repeat (first | apply Kd.R_alloc | apply Kd.R_drewN | apply Kd.R_drew)); exact HO_4.out) hb); have n1_ := Aside0.mk (below_step (by repeat (first | (with_reducible first | exact HB.out | apply below_alloc | apply pw_below_drewN | apply below_drew1) | exact HB.out)) hb); clear HO_4; clear HB; have HO_4 := n0_; have HB := n1_; clear n0_ n1_; (try clear hb); (try clear hb2); (try clear hk); (try clear hi)) | ((with_reducible refine gate_callee (f := 16) rfl ?_); refine goesL_ (some 38) rfl rfl Tryd.func16 (by kernel_rfl) rfl #[.slice Ao28 x4_2.length co28, .int .i64 (wrap64 (a0 - 1))] rfl (by (try simp only [List.map_toArray, List.map_cons, List.map_nil]); first | done | rfl | (simp only [List.length_drop, List.length_take]; rfl)) ?_; (with_reducible refine (tree_Deep.calls _ _ x4_2 (wrap64 (a0 - 1)) t343 t344 _ ?side1 ?side2 A13.out (GOK.below HG.out (by repeat (first | (with_reducible first | exact HB.out | apply below_alloc | apply pw_below_drewN | apply below_drew1) | exact HB.out)))).mono ?_); (case side1 => repeat (first | exact (Kd.R_reads' HO_4.out).2.2 | (with_reducible refine Kd.C_alloc ?_ _) | (with_reducible refine Kd.C_drewN ?_ _) | (with_reducible refine Kd.C_drew ?_))); (case side2 => exact (Kd.R_reads' HO_4.out).2.1); rintro e w30 ⟨rfl, hb⟩; refine ⟨_, rfl, ?_⟩; have n0_ := Aside0.mk (Kd.R_below (by (with_reducible repeat (first | apply Kd.R_alloc | apply Kd.R_drewN | apply Kd.R_drew)); exact HO_4.out) hb); have n1_ := Aside0.mk (below_step (by repeat (first | (with_reducible first | exact HB.out | apply below_alloc | apply pw_below_drewN | apply below_drew1) | exact HB.out)) hb); clear HO_4; clear HB; have HO_4 := n0_; have HB := n1_; clear n0_ n1_; (try clear hb); (try clear hb2); (try clear hk); (try clear hi)))
                    go_ret
                    exact ⟨by first | rfl | (simp [errW_none, errW_some] <;> rfl) | (simp [*, errW_none, errW_some] <;> rfl), by repeat (first | (with_reducible first | exact HB.out | apply below_alloc | apply pw_below_drewN | apply below_drew1) | exact HB.out)⟩
                · replace c15 := Bool.eq_false_iff.mpr c15
                  subst c15
                  have H1 : (some false) = some r := by rw [if_neg (show ¬ (false = true) by decide)] at H; exact H
                  clear H
                  have H := H1
                  clear H1
                  obtain rfl := Option.some.inj H
                  obtain ⟨Ao31, co31, eo31⟩ := Kd.R_slice HO_4.out
                  subst eo31
                  go_wp2_with (first | ((with_reducible refine gate_callee (f := 18) rfl ?_); refine goesL_ (some 31) rfl rfl Tryd.func18 (by kernel_rfl) rfl #[.slice Ao31 x4_2.length co31] rfl (by (try simp only [List.map_toArray, List.map_cons, List.map_nil]); first | done | rfl | (simp only [List.length_drop, List.length_take]; rfl)) ?_; (with_reducible refine (tree_Check.calls _ _ x4_2 t341 t342 _ ?side1 ?side2 A12.out (GOK.below HG.out (by repeat (first | (with_reducible first | exact HB.out | apply below_alloc | apply pw_below_drewN | apply below_drew1) | exact HB.out)))).mono ?_); (case side1 => repeat (first | exact (Kd.R_reads' HO_4.out).2.2 | (with_reducible refine Kd.C_alloc ?_ _) | (with_reducible refine Kd.C_drewN ?_ _) | (with_reducible refine Kd.C_drew ?_))); (case side2 => exact (Kd.R_reads' HO_4.out).2.1); rintro e w32 ⟨rfl, hb⟩; refine ⟨_, rfl, ?_⟩; have n0_ := Aside0.mk (Kd.R_below (by (with_reducible repeat (first | apply Kd.R_alloc | apply Kd.R_drewN | apply Kd.R_drew)); exact HO_4.out) hb); have n1_ := Aside0.mk (below_step (by repeat (first | (with_reducible first | exact HB.out | apply below_alloc | apply pw_below_drewN | apply below_drew1) | exact HB.out)) hb); clear HO_4; clear HB; have HO_4 := n0_; have HB := n1_; clear n0_ n1_; (try clear hb); (try clear hb2); (try clear hk); (try clear hi)) | ((with_reducible refine gate_callee (f := 16) rfl ?_); refine goesL_ (some 38) rfl rfl Tryd.func16 (by kernel_rfl) rfl #[.slice Ao31 x4_2.length co31, .int .i64 (wrap64 (a0 - 1))] rfl (by (try simp only [List.map_toArray, List.map_cons, List.map_nil]); first | done | rfl | (simp only [List.length_drop, List.length_take]; rfl)) ?_; (with_reducible refine (tree_Deep.calls _ _ x4_2 (wrap64 (a0 - 1)) t343 t344 _ ?side1 ?side2 A13.out (GOK.below HG.out (by repeat (first | (with_reducible first | exact HB.out | apply below_alloc | apply pw_below_drewN | apply below_drew1) | exact HB.out)))).mono ?_); (case side1 => repeat (first | exact (Kd.R_reads' HO_4.out).2.2 | (with_reducible refine Kd.C_alloc ?_ _) | (with_reducible refine Kd.C_drewN ?_ _) | (with_reducible refine Kd.C_drew ?_))); (case side2 => exact (Kd.R_reads' HO_4.out).2.1); rintro e w33 ⟨rfl, hb⟩; refine ⟨_, rfl, ?_⟩; have n0_ := Aside0.mk (Kd.R_below (by (with_reducible repeat (first | apply Kd.R_alloc | apply Kd.R_drewN | apply Kd.R_drew)); exact HO_4.out) hb); have n1_ := Aside0.mk (below_step (by repeat (first | (with_reducible first | exact HB.out | apply below_alloc | apply pw_below_drewN | apply below_drew1) | exact HB.out)) hb); clear HO_4; clear HB; have HO_4 := n0_; have HB := n1_; clear n0_ n1_; (try clear hb); (try clear hb2); (try clear hk); (try clear hi)))
                  go_ret
                  exact ⟨by first | rfl | (simp [errW_none, errW_some] <;> rfl) | (simp [*, errW_none, errW_some] <;> rfl), by repeat (first | (with_reducible first | exact HB.out | apply below_alloc | apply pw_below_drewN | apply below_drew1) | exact HB.out)⟩
              · rw [if_neg c14] at H
                have c14b0 : decide (64 < a0) = false := decide_eq_false c14
                clear c14
                by_cases c34 : t316 = true
                · subst c34
                  have H1 : (if t341 = 0 then (if t342 = 0 then (if t344 = 0 then (if t343 = a0 then (if 0 < (x4_2.length : Int) then ((style_Right.f ((rd_T32 x4_2 0).f5.f0) ((rd_T32 x4_2 0).f5.f1) ((rd_T32 x4_2 0).f5.f2) ((rd_T32 x4_2 0).f5.f3) ((rd_T32 x4_2 0).f5.f4) ((rd_T32 x4_2 0).f5.f5) ((rd_T32 x4_2 0).f5.f6) ((rd_T32 x4_2 0).f5.f7) ((rd_T32 x4_2 0).f5.f8) ((rd_T32 x4_2 0).f5.f9) ((rd_T32 x4_2 0).f5.f10) ((rd_T32 x4_2 0).f5.f11) ((rd_T32 x4_2 0).f5.f12) ((rd_T32 x4_2 0).f5.f13) ((rd_T32 x4_2 0).f5.f14) ((rd_T32 x4_2 0).f5.f15)).bind fun t346 => (some t346)) else (none)) else (some false)) else (some false)) else (some false)) else (some false)) = some r := by rw [if_pos rfl] at H; exact H
                  clear H
                  have H := H1
                  clear H1
                  by_cases c35 : t341 = 0
                  · rw [if_pos c35] at H
                    have c35b0 : (t341 == 0) = true := beq_iff_eq.mpr c35
                    have c35b1 : (t341 != 0) = false := bne_eq_false_iff_eq.mpr c35
                    clear c35
                    by_cases c36 : t342 = 0
                    · rw [if_pos c36] at H
                      have c36b0 : (t342 == 0) = true := beq_iff_eq.mpr c36
                      have c36b1 : (t342 != 0) = false := bne_eq_false_iff_eq.mpr c36
                      clear c36
                      by_cases c37 : t344 = 0
                      · rw [if_pos c37] at H
                        have c37b0 : (t344 == 0) = true := beq_iff_eq.mpr c37
                        have c37b1 : (t344 != 0) = false := bne_eq_false_iff_eq.mpr c37
                        clear c37
                        by_cases c38 : t343 = a0
                        · rw [if_pos c38] at H
                          have c38b0 : (t343 == a0) = true := beq_iff_eq.mpr c38
                          have c38b1 : (t343 != a0) = false := bne_eq_false_iff_eq.mpr c38
                          clear c38
                          by_cases c39 : 0 < (x4_2.length : Int)
                          · rw [if_pos c39] at H
                            have c39b0 : decide (0 < (x4_2.length : Int)) = true := decide_eq_true c39
                            have c39b1 : decide (0 < x4_2.length) = true := decide_eq_true (by omega)
                            clear c39
                            replace H := Option.bind_eq_some_iff.mp H
                            obtain ⟨t346, A400, H⟩ := H
                            replace H : (some t346) = some r := H
                            have A40 := Aside0.mk A400
                            clear A400
                            obtain rfl := Option.some.inj H
                            obtain ⟨Ao41, co41, eo41⟩ := Kd.R_slice HO_4.out
                            subst eo41
                            go_wp2_with (first | ((with_reducible refine gate_callee (f := 18) rfl ?_); refine goesL_ (some 31) rfl rfl Tryd.func18 (by kernel_rfl) rfl #[.slice Ao41 x4_2.length co41] rfl (by (try simp only [List.map_toArray, List.map_cons, List.map_nil]); first | done | rfl | (simp only [List.length_drop, List.length_take]; rfl)) ?_; (with_reducible refine (tree_Check.calls _ _ x4_2 t341 t342 _ ?side1 ?side2 A12.out (GOK.below HG.out (by repeat (first | (with_reducible first | exact HB.out | apply below_alloc | apply pw_below_drewN | apply below_drew1) | exact HB.out)))).mono ?_); (case side1 => repeat (first | exact (Kd.R_reads' HO_4.out).2.2 | (with_reducible refine Kd.C_alloc ?_ _) | (with_reducible refine Kd.C_drewN ?_ _) | (with_reducible refine Kd.C_drew ?_))); (case side2 => exact (Kd.R_reads' HO_4.out).2.1); rintro e w42 ⟨rfl, hb⟩; refine ⟨_, rfl, ?_⟩; have n0_ := Aside0.mk (Kd.R_below (by (with_reducible repeat (first | apply Kd.R_alloc | apply Kd.R_drewN | apply Kd.R_drew)); exact HO_4.out) hb); have n1_ := Aside0.mk (below_step (by repeat (first | (with_reducible first | exact HB.out | apply below_alloc | apply pw_below_drewN | apply below_drew1) | exact HB.out)) hb); clear HO_4; clear HB; have HO_4 := n0_; have HB := n1_; clear n0_ n1_; (try clear hb); (try clear hb2); (try clear hk); (try clear hi)) | ((with_reducible refine gate_callee (f := 16) rfl ?_); refine goesL_ (some 38) rfl rfl Tryd.func16 (by kernel_rfl) rfl #[.slice Ao41 x4_2.length co41, .int .i64 (wrap64 (a0 - 1))] rfl (by (try simp only [List.map_toArray, List.map_cons, List.map_nil]); first | done | rfl | (simp only [List.length_drop, List.length_take]; rfl)) ?_; (with_reducible refine (tree_Deep.calls _ _ x4_2 (wrap64 (a0 - 1)) t343 t344 _ ?side1 ?side2 A13.out (GOK.below HG.out (by repeat (first | (with_reducible first | exact HB.out | apply below_alloc | apply pw_below_drewN | apply below_drew1) | exact HB.out)))).mono ?_); (case side1 => repeat (first | exact (Kd.R_reads' HO_4.out).2.2 | (with_reducible refine Kd.C_alloc ?_ _) | (with_reducible refine Kd.C_drewN ?_ _) | (with_reducible refine Kd.C_drew ?_))); (case side2 => exact (Kd.R_reads' HO_4.out).2.1); rintro e w43 ⟨rfl, hb⟩; refine ⟨_, rfl, ?_⟩; have n0_ := Aside0.mk (Kd.R_below (by (with_reducible repeat (first | apply Kd.R_alloc | apply Kd.R_drewN | apply Kd.R_drew)); exact HO_4.out) hb); have n1_ := Aside0.mk (below_step (by repeat (first | (with_reducible first | exact HB.out | apply below_alloc | apply pw_below_drewN | apply below_drew1) | exact HB.out)) hb); clear HO_4; clear HB; have HO_4 := n0_; have HB := n1_; clear n0_ n1_; (try clear hb); (try clear hb2); (try clear hk); (try clear hi); have p345 : 0 ≤ (0 : Int) := (by omega); have q345 : 0 < (x4_2.length : Int) := of_decide_eq_true (by first | (with_reducible assumption) | assumption); obtain ⟨ad345, e345, hx345_0, hx345_1, hx345_2, hx345_3, hx345_4, hx345_5, hx345_6, hx345_7, hx345_8, hx345_9, hx345_10, hx345_11, hx345_12, hx345_13, hx345_14, hx345_15, hx345_16, hx345_17, hx345_18, hx345_19, hx345_20⟩ := at_T32 (Kd.R_reads' HO_4.out).2.2 0 p345 q345; cases e345; have qi345 : (0 < x4_2.length) = True := eq_true (by omega); (try rw [show ((0 : Int)).toNat = 0 from rfl] at hx345_0); (try rw [show 0 * 21 = 0 from rfl] at hx345_0); (try rw [Addr.add_zero'] at hx345_0); (try rw [show ((0 : Int)).toNat = 0 from rfl] at hx345_1); (try rw [show 0 * 21 = 0 from rfl] at hx345_1); (try rw [Addr.add_zero'] at hx345_1); (try rw [show ((0 : Int)).toNat = 0 from rfl] at hx345_2); (try rw [show 0 * 21 = 0 from rfl] at hx345_2); (try rw [Addr.add_zero'] at hx345_2); (try rw [show ((0 : Int)).toNat = 0 from rfl] at hx345_3); (try rw [show 0 * 21 = 0 from rfl] at hx345_3); (try rw [Addr.add_zero'] at hx345_3); (try rw [show ((0 : Int)).toNat = 0 from rfl] at hx345_4); (try rw [show 0 * 21 = 0 from rfl] at hx345_4); (try rw [Addr.add_zero'] at hx345_4); (try rw [show ((0 : Int)).toNat = 0 from rfl] at hx345_5); (try rw [show 0 * 21 = 0 from rfl] at hx345_5); (try rw [Addr.add_zero'] at hx345_5); (try rw [show ((0 : Int)).toNat = 0 from rfl] at hx345_6); (try rw [show 0 * 21 = 0 from rfl] at hx345_6); (try rw [Addr.add_zero'] at hx345_6); (try rw [show ((0 : Int)).toNat = 0 from rfl] at hx345_7); (try rw [show 0 * 21 = 0 from rfl] at hx345_7); (try rw [Addr.add_zero'] at hx345_7); (try rw [show ((0 : Int)).toNat = 0 from rfl] at hx345_8); (try rw [show 0 * 21 = 0 from rfl] at hx345_8); (try rw [Addr.add_zero'] at hx345_8); (try rw [show ((0 : Int)).toNat = 0 from rfl] at hx345_9); (try rw [show 0 * 21 = 0 from rfl] at hx345_9); (try rw [Addr.add_zero'] at hx345_9); (try rw [show ((0 : Int)).toNat = 0 from rfl] at hx345_10); (try rw [show 0 * 21 = 0 from rfl] at hx345_10); (try rw [Addr.add_zero'] at hx345_10); (try rw [show ((0 : Int)).toNat = 0 from rfl] at hx345_11); (try rw [show 0 * 21 = 0 from rfl] at hx345_11); (try rw [Addr.add_zero'] at hx345_11); (try rw [show ((0 : Int)).toNat = 0 from rfl] at hx345_12); (try rw [show 0 * 21 = 0 from rfl] at hx345_12); (try rw [Addr.add_zero'] at hx345_12); (try rw [show ((0 : Int)).toNat = 0 from rfl] at hx345_13); (try rw [show 0 * 21 = 0 from rfl] at hx345_13); (try rw [Addr.add_zero'] at hx345_13); (try rw [show ((0 : Int)).toNat = 0 from rfl] at hx345_14); (try rw [show 0 * 21 = 0 from rfl] at hx345_14); (try rw [Addr.add_zero'] at hx345_14); (try rw [show ((0 : Int)).toNat = 0 from rfl] at hx345_15); (try rw [show 0 * 21 = 0 from rfl] at hx345_15); (try rw [Addr.add_zero'] at hx345_15); (try rw [show ((0 : Int)).toNat = 0 from rfl] at hx345_16); (try rw [show 0 * 21 = 0 from rfl] at hx345_16); (try rw [Addr.add_zero'] at hx345_16); (try rw [show ((0 : Int)).toNat = 0 from rfl] at hx345_17); (try rw [show 0 * 21 = 0 from rfl] at hx345_17); (try rw [Addr.add_zero'] at hx345_17); (try rw [show ((0 : Int)).toNat = 0 from rfl] at hx345_18); (try rw [show 0 * 21 = 0 from rfl] at hx345_18); (try rw [Addr.add_zero'] at hx345_18); (try rw [show ((0 : Int)).toNat = 0 from rfl] at hx345_19); (try rw [show 0 * 21 = 0 from rfl] at hx345_19); (try rw [Addr.add_zero'] at hx345_19); (try rw [show ((0 : Int)).toNat = 0 from rfl] at hx345_20); (try rw [show 0 * 21 = 0 from rfl] at hx345_20); (try rw [Addr.add_zero'] at hx345_20); replace p345 := eq_true p345; replace q345 := eq_true q345) | (go_at_call 19; (with_reducible refine (style_Right.calls ((rd_T32 x4_2 0).f5.f0) ((rd_T32 x4_2 0).f5.f1) ((rd_T32 x4_2 0).f5.f2) ((rd_T32 x4_2 0).f5.f3) ((rd_T32 x4_2 0).f5.f4) ((rd_T32 x4_2 0).f5.f5) ((rd_T32 x4_2 0).f5.f6) ((rd_T32 x4_2 0).f5.f7) ((rd_T32 x4_2 0).f5.f8) ((rd_T32 x4_2 0).f5.f9) ((rd_T32 x4_2 0).f5.f10) ((rd_T32 x4_2 0).f5.f11) ((rd_T32 x4_2 0).f5.f12) ((rd_T32 x4_2 0).f5.f13) ((rd_T32 x4_2 0).f5.f14) ((rd_T32 x4_2 0).f5.f15) t346 _ A40.out).mono ?_); rintro e w44 ⟨rfl, hb⟩; have n0_ := Aside0.mk (Kd.R_below (by (with_reducible repeat (first | apply Kd.R_alloc | apply Kd.R_drewN | apply Kd.R_drew)); exact HO_4.out) hb); have n1_ := Aside0.mk (below_step (by repeat (first | (with_reducible first | exact HB.out | apply below_alloc | apply pw_below_drewN | apply below_drew1) | exact HB.out)) hb); clear HO_4; clear HB; have HO_4 := n0_; have HB := n1_; clear n0_ n1_; (try clear hb); (try clear hb2); (try clear hk); (try clear hi)))
                            go_ret
                            exact ⟨by first | rfl | (simp [errW_none, errW_some] <;> rfl) | (simp [*, errW_none, errW_some] <;> rfl), by repeat (first | (with_reducible first | exact HB.out | apply below_alloc | apply pw_below_drewN | apply below_drew1) | exact HB.out)⟩
                          · rw [if_neg c39] at H
                            exact absurd H (by simp)
                        · rw [if_neg c38] at H
                          have c38b0 : (t343 == a0) = false := beq_eq_false_iff_ne.mpr c38
                          have c38b1 : (t343 != a0) = true := bne_iff_ne.mpr c38
                          obtain rfl := Option.some.inj H
                          obtain ⟨Ao45, co45, eo45⟩ := Kd.R_slice HO_4.out
                          subst eo45
                          go_wp2_with (first | ((with_reducible refine gate_callee (f := 18) rfl ?_); refine goesL_ (some 31) rfl rfl Tryd.func18 (by kernel_rfl) rfl #[.slice Ao45 x4_2.length co45] rfl (by (try simp only [List.map_toArray, List.map_cons, List.map_nil]); first | done | rfl | (simp only [List.length_drop, List.length_take]; rfl)) ?_; (with_reducible refine (tree_Check.calls _ _ x4_2 t341 t342 _ ?side1 ?side2 A12.out (GOK.below HG.out (by repeat (first | (with_reducible first | exact HB.out | apply below_alloc | apply pw_below_drewN | apply below_drew1) | exact HB.out)))).mono ?_); (case side1 => repeat (first | exact (Kd.R_reads' HO_4.out).2.2 | (with_reducible refine Kd.C_alloc ?_ _) | (with_reducible refine Kd.C_drewN ?_ _) | (with_reducible refine Kd.C_drew ?_))); (case side2 => exact (Kd.R_reads' HO_4.out).2.1); rintro e w46 ⟨rfl, hb⟩; refine ⟨_, rfl, ?_⟩; have n0_ := Aside0.mk (Kd.R_below (by (with_reducible repeat (first | apply Kd.R_alloc | apply Kd.R_drewN | apply Kd.R_drew)); exact HO_4.out) hb); have n1_ := Aside0.mk (below_step (by repeat (first | (with_reducible first | exact HB.out | apply below_alloc | apply pw_below_drewN | apply below_drew1) | exact HB.out)) hb); clear HO_4; clear HB; have HO_4 := n0_; have HB := n1_; clear n0_ n1_; (try clear hb); (try clear hb2); (try clear hk); (try clear hi)) | ((with_reducible refine gate_callee (f := 16) rfl ?_); refine goesL_ (some 38) rfl rfl Tryd.func16 (by kernel_rfl) rfl #[.slice Ao45 x4_2.length co45, .int .i64 (wrap64 (a0 - 1))] rfl (by (try simp only [List.map_toArray, List.map_cons, List.map_nil]); first | done | rfl | (simp only [List.length_drop, List.length_take]; rfl)) ?_; (with_reducible refine (tree_Deep.calls _ _ x4_2 (wrap64 (a0 - 1)) t343 t344 _ ?side1 ?side2 A13.out (GOK.below HG.out (by repeat (first | (with_reducible first | exact HB.out | apply below_alloc | apply pw_below_drewN | apply below_drew1) | exact HB.out)))).mono ?_); (case side1 => repeat (first | exact (Kd.R_reads' HO_4.out).2.2 | (with_reducible refine Kd.C_alloc ?_ _) | (with_reducible refine Kd.C_drewN ?_ _) | (with_reducible refine Kd.C_drew ?_))); (case side2 => exact (Kd.R_reads' HO_4.out).2.1); rintro e w47 ⟨rfl, hb⟩; refine ⟨_, rfl, ?_⟩; have n0_ := Aside0.mk (Kd.R_below (by (with_reducible repeat (first | apply Kd.R_alloc | apply Kd.R_drewN | apply Kd.R_drew)); exact HO_4.out) hb); have n1_ := Aside0.mk (below_step (by repeat (first | (with_reducible first | exact HB.out | apply below_alloc | apply pw_below_drewN | apply below_drew1) | exact HB.out)) hb); clear HO_4; clear HB; have HO_4 := n0_; have HB := n1_; clear n0_ n1_; (try clear hb); (try clear hb2); (try clear hk); (try clear hi)))
                          go_ret
                          exact ⟨by first | rfl | (simp [errW_none, errW_some] <;> rfl) | (simp [*, errW_none, errW_some] <;> rfl), by repeat (first | (with_reducible first | exact HB.out | apply below_alloc | apply pw_below_drewN | apply below_drew1) | exact HB.out)⟩
                      · rw [if_neg c37] at H
                        have c37b0 : (t344 == 0) = false := beq_eq_false_iff_ne.mpr c37
                        have c37b1 : (t344 != 0) = true := bne_iff_ne.mpr c37
                        obtain rfl := Option.some.inj H
                        obtain ⟨Ao48, co48, eo48⟩ := Kd.R_slice HO_4.out
                        subst eo48
                        go_wp2_with (first | ((with_reducible refine gate_callee (f := 18) rfl ?_); refine goesL_ (some 31) rfl rfl Tryd.func18 (by kernel_rfl) rfl #[.slice Ao48 x4_2.length co48] rfl (by (try simp only [List.map_toArray, List.map_cons, List.map_nil]); first | done | rfl | (simp only [List.length_drop, List.length_take]; rfl)) ?_; (with_reducible refine (tree_Check.calls _ _ x4_2 t341 t342 _ ?side1 ?side2 A12.out (GOK.below HG.out (by repeat (first | (with_reducible first | exact HB.out | apply below_alloc | apply pw_below_drewN | apply below_drew1) | exact HB.out)))).mono ?_); (case side1 => repeat (first | exact (Kd.R_reads' HO_4.out).2.2 | (with_reducible refine Kd.C_alloc ?_ _) | (with_reducible refine Kd.C_drewN ?_ _) | (with_reducible refine Kd.C_drew ?_))); (case side2 => exact (Kd.R_reads' HO_4.out).2.1); rintro e w49 ⟨rfl, hb⟩; refine ⟨_, rfl, ?_⟩; have n0_ := Aside0.mk (Kd.R_below (by (with_reducible repeat (first | apply Kd.R_alloc | apply Kd.R_drewN | apply Kd.R_drew)); exact HO_4.out) hb); have n1_ := Aside0.mk (below_step (by repeat (first | (with_reducible first | exact HB.out | apply below_alloc | apply pw_below_drewN | apply below_drew1) | exact HB.out)) hb); clear HO_4; clear HB; have HO_4 := n0_; have HB := n1_; clear n0_ n1_; (try clear hb); (try clear hb2); (try clear hk); (try clear hi)) | ((with_reducible refine gate_callee (f := 16) rfl ?_); refine goesL_ (some 38) rfl rfl Tryd.func16 (by kernel_rfl) rfl #[.slice Ao48 x4_2.length co48, .int .i64 (wrap64 (a0 - 1))] rfl (by (try simp only [List.map_toArray, List.map_cons, List.map_nil]); first | done | rfl | (simp only [List.length_drop, List.length_take]; rfl)) ?_; (with_reducible refine (tree_Deep.calls _ _ x4_2 (wrap64 (a0 - 1)) t343 t344 _ ?side1 ?side2 A13.out (GOK.below HG.out (by repeat (first | (with_reducible first | exact HB.out | apply below_alloc | apply pw_below_drewN | apply below_drew1) | exact HB.out)))).mono ?_); (case side1 => repeat (first | exact (Kd.R_reads' HO_4.out).2.2 | (with_reducible refine Kd.C_alloc ?_ _) | (with_reducible refine Kd.C_drewN ?_ _) | (with_reducible refine Kd.C_drew ?_))); (case side2 => exact (Kd.R_reads' HO_4.out).2.1); rintro e w50 ⟨rfl, hb⟩; refine ⟨_, rfl, ?_⟩; have n0_ := Aside0.mk (Kd.R_below (by (with_reducible repeat (first | apply Kd.R_alloc | apply Kd.R_drewN | apply Kd.R_drew)); exact HO_4.out) hb); have n1_ := Aside0.mk (below_step (by repeat (first | (with_reducible first | exact HB.out | apply below_alloc | apply pw_below_drewN | apply below_drew1) | exact HB.out)) hb); clear HO_4; clear HB; have HO_4 := n0_; have HB := n1_; clear n0_ n1_; (try clear hb); (try clear hb2); (try clear hk); (try clear hi)))
                        go_ret
                        exact ⟨by first | rfl | (simp [errW_none, errW_some] <;> rfl) | (simp [*, errW_none, errW_some] <;> rfl), by repeat (first | (with_reducible first | exact HB.out | apply below_alloc | apply pw_below_drewN | apply below_drew1) | exact HB.out)⟩
                    · rw [if_neg c36] at H
                      have c36b0 : (t342 == 0) = false := beq_eq_false_iff_ne.mpr c36
                      have c36b1 : (t342 != 0) = true := bne_iff_ne.mpr c36
                      obtain rfl := Option.some.inj H
                      obtain ⟨Ao51, co51, eo51⟩ := Kd.R_slice HO_4.out
                      subst eo51
                      go_wp2_with (first | ((with_reducible refine gate_callee (f := 18) rfl ?_); refine goesL_ (some 31) rfl rfl Tryd.func18 (by kernel_rfl) rfl #[.slice Ao51 x4_2.length co51] rfl (by (try simp only [List.map_toArray, List.map_cons, List.map_nil]); first | done | rfl | (simp only [List.length_drop, List.length_take]; rfl)) ?_; (with_reducible refine (tree_Check.calls _ _ x4_2 t341 t342 _ ?side1 ?side2 A12.out (GOK.below HG.out (by repeat (first | (with_reducible first | exact HB.out | apply below_alloc | apply pw_below_drewN | apply below_drew1) | exact HB.out)))).mono ?_); (case side1 => repeat (first | exact (Kd.R_reads' HO_4.out).2.2 | (with_reducible refine Kd.C_alloc ?_ _) | (with_reducible refine Kd.C_drewN ?_ _) | (with_reducible refine Kd.C_drew ?_))); (case side2 => exact (Kd.R_reads' HO_4.out).2.1); rintro e w52 ⟨rfl, hb⟩; refine ⟨_, rfl, ?_⟩; have n0_ := Aside0.mk (Kd.R_below (by (with_reducible repeat (first | apply Kd.R_alloc | apply Kd.R_drewN | apply Kd.R_drew)); exact HO_4.out) hb); have n1_ := Aside0.mk (below_step (by repeat (first | (with_reducible first | exact HB.out | apply below_alloc | apply pw_below_drewN | apply below_drew1) | exact HB.out)) hb); clear HO_4; clear HB; have HO_4 := n0_; have HB := n1_; clear n0_ n1_; (try clear hb); (try clear hb2); (try clear hk); (try clear hi)) | ((with_reducible refine gate_callee (f := 16) rfl ?_); refine goesL_ (some 38) rfl rfl Tryd.func16 (by kernel_rfl) rfl #[.slice Ao51 x4_2.length co51, .int .i64 (wrap64 (a0 - 1))] rfl (by (try simp only [List.map_toArray, List.map_cons, List.map_nil]); first | done | rfl | (simp only [List.length_drop, List.length_take]; rfl)) ?_; (with_reducible refine (tree_Deep.calls _ _ x4_2 (wrap64 (a0 - 1)) t343 t344 _ ?side1 ?side2 A13.out (GOK.below HG.out (by repeat (first | (with_reducible first | exact HB.out | apply below_alloc | apply pw_below_drewN | apply below_drew1) | exact HB.out)))).mono ?_); (case side1 => repeat (first | exact (Kd.R_reads' HO_4.out).2.2 | (with_reducible refine Kd.C_alloc ?_ _) | (with_reducible refine Kd.C_drewN ?_ _) | (with_reducible refine Kd.C_drew ?_))); (case side2 => exact (Kd.R_reads' HO_4.out).2.1); rintro e w53 ⟨rfl, hb⟩; refine ⟨_, rfl, ?_⟩; have n0_ := Aside0.mk (Kd.R_below (by (with_reducible repeat (first | apply Kd.R_alloc | apply Kd.R_drewN | apply Kd.R_drew)); exact HO_4.out) hb); have n1_ := Aside0.mk (below_step (by repeat (first | (with_reducible first | exact HB.out | apply below_alloc | apply pw_below_drewN | apply below_drew1) | exact HB.out)) hb); clear HO_4; clear HB; have HO_4 := n0_; have HB := n1_; clear n0_ n1_; (try clear hb); (try clear hb2); (try clear hk); (try clear hi)))
                      go_ret
                      exact ⟨by first | rfl | (simp [errW_none, errW_some] <;> rfl) | (simp [*, errW_none, errW_some] <;> rfl), by repeat (first | (with_reducible first | exact HB.out | apply below_alloc | apply pw_below_drewN | apply below_drew1) | exact HB.out)⟩
                  · rw [if_neg c35] at H
                    have c35b0 : (t341 == 0) = false := beq_eq_false_iff_ne.mpr c35
                    have c35b1 : (t341 != 0) = true := bne_iff_ne.mpr c35
                    obtain rfl := Option.some.inj H
                    obtain ⟨Ao54, co54, eo54⟩ := Kd.R_slice HO_4.out
                    subst eo54
                    go_wp2_with (first | ((with_reducible refine gate_callee (f := 18) rfl ?_); refine goesL_ (some 31) rfl rfl Tryd.func18 (by kernel_rfl) rfl #[.slice Ao54 x4_2.length co54] rfl (by (try simp only [List.map_toArray, List.map_cons, List.map_nil]); first | done | rfl | (simp only [List.length_drop, List.length_take]; rfl)) ?_; (with_reducible refine (tree_Check.calls _ _ x4_2 t341 t342 _ ?side1 ?side2 A12.out (GOK.below HG.out (by repeat (first | (with_reducible first | exact HB.out | apply below_alloc | apply pw_below_drewN | apply below_drew1) | exact HB.out)))).mono ?_); (case side1 => repeat (first | exact (Kd.R_reads' HO_4.out).2.2 | (with_reducible refine Kd.C_alloc ?_ _) | (with_reducible refine Kd.C_drewN ?_ _) | (with_reducible refine Kd.C_drew ?_))); (case side2 => exact (Kd.R_reads' HO_4.out).2.1); rintro e w55 ⟨rfl, hb⟩; refine ⟨_, rfl, ?_⟩; have n0_ := Aside0.mk (Kd.R_below (by (with_reducible repeat (first | apply Kd.R_alloc | apply Kd.R_drewN | apply Kd.R_drew)); exact HO_4.out) hb); have n1_ := Aside0.mk (below_step (by repeat (first | (with_reducible first | exact HB.out | apply below_alloc | apply pw_below_drewN | apply below_drew1) | exact HB.out)) hb); clear HO_4; clear HB; have HO_4 := n0_; have HB := n1_; clear n0_ n1_; (try clear hb); (try clear hb2); (try clear hk); (try clear hi)) | ((with_reducible refine gate_callee (f := 16) rfl ?_); refine goesL_ (some 38) rfl rfl Tryd.func16 (by kernel_rfl) rfl #[.slice Ao54 x4_2.length co54, .int .i64 (wrap64 (a0 - 1))] rfl (by (try simp only [List.map_toArray, List.map_cons, List.map_nil]); first | done | rfl | (simp only [List.length_drop, List.length_take]; rfl)) ?_; (with_reducible refine (tree_Deep.calls _ _ x4_2 (wrap64 (a0 - 1)) t343 t344 _ ?side1 ?side2 A13.out (GOK.below HG.out (by repeat (first | (with_reducible first | exact HB.out | apply below_alloc | apply pw_below_drewN | apply below_drew1) | exact HB.out)))).mono ?_); (case side1 => repeat (first | exact (Kd.R_reads' HO_4.out).2.2 | (with_reducible refine Kd.C_alloc ?_ _) | (with_reducible refine Kd.C_drewN ?_ _) | (with_reducible refine Kd.C_drew ?_))); (case side2 => exact (Kd.R_reads' HO_4.out).2.1); rintro e w56 ⟨rfl, hb⟩; refine ⟨_, rfl, ?_⟩; have n0_ := Aside0.mk (Kd.R_below (by (with_reducible repeat (first | apply Kd.R_alloc | apply Kd.R_drewN | apply Kd.R_drew)); exact HO_4.out) hb); have n1_ := Aside0.mk (below_step (by repeat (first | (with_reducible first | exact HB.out | apply below_alloc | apply pw_below_drewN | apply below_drew1) | exact HB.out)) hb); clear HO_4; clear HB; have HO_4 := n0_; have HB := n1_; clear n0_ n1_; (try clear hb); (try clear hb2); (try clear hk); (try clear hi)))
                    go_ret
                    exact ⟨by first | rfl | (simp [errW_none, errW_some] <;> rfl) | (simp [*, errW_none, errW_some] <;> rfl), by repeat (first | (with_reducible first | exact HB.out | apply below_alloc | apply pw_below_drewN | apply below_drew1) | exact HB.out)⟩
                · replace c34 := Bool.eq_false_iff.mpr c34
                  subst c34
                  have H1 : (some false) = some r := by rw [if_neg (show ¬ (false = true) by decide)] at H; exact H
                  clear H
                  have H := H1
                  clear H1
                  obtain rfl := Option.some.inj H
                  obtain ⟨Ao57, co57, eo57⟩ := Kd.R_slice HO_4.out
                  subst eo57
                  go_wp2_with (first | ((with_reducible refine gate_callee (f := 18) rfl ?_); refine goesL_ (some 31) rfl rfl Tryd.func18 (by kernel_rfl) rfl #[.slice Ao57 x4_2.length co57] rfl (by (try simp only [List.map_toArray, List.map_cons, List.map_nil]); first | done | rfl | (simp only [List.length_drop, List.length_take]; rfl)) ?_; (with_reducible refine (tree_Check.calls _ _ x4_2 t341 t342 _ ?side1 ?side2 A12.out (GOK.below HG.out (by repeat (first | (with_reducible first | exact HB.out | apply below_alloc | apply pw_below_drewN | apply below_drew1) | exact HB.out)))).mono ?_); (case side1 => repeat (first | exact (Kd.R_reads' HO_4.out).2.2 | (with_reducible refine Kd.C_alloc ?_ _) | (with_reducible refine Kd.C_drewN ?_ _) | (with_reducible refine Kd.C_drew ?_))); (case side2 => exact (Kd.R_reads' HO_4.out).2.1); rintro e w58 ⟨rfl, hb⟩; refine ⟨_, rfl, ?_⟩; have n0_ := Aside0.mk (Kd.R_below (by (with_reducible repeat (first | apply Kd.R_alloc | apply Kd.R_drewN | apply Kd.R_drew)); exact HO_4.out) hb); have n1_ := Aside0.mk (below_step (by repeat (first | (with_reducible first | exact HB.out | apply below_alloc | apply pw_below_drewN | apply below_drew1) | exact HB.out)) hb); clear HO_4; clear HB; have HO_4 := n0_; have HB := n1_; clear n0_ n1_; (try clear hb); (try clear hb2); (try clear hk); (try clear hi)) | ((with_reducible refine gate_callee (f := 16) rfl ?_); refine goesL_ (some 38) rfl rfl Tryd.func16 (by kernel_rfl) rfl #[.slice Ao57 x4_2.length co57, .int .i64 (wrap64 (a0 - 1))] rfl (by (try simp only [List.map_toArray, List.map_cons, List.map_nil]); first | done | rfl | (simp only [List.length_drop, List.length_take]; rfl)) ?_; (with_reducible refine (tree_Deep.calls _ _ x4_2 (wrap64 (a0 - 1)) t343 t344 _ ?side1 ?side2 A13.out (GOK.below HG.out (by repeat (first | (with_reducible first | exact HB.out | apply below_alloc | apply pw_below_drewN | apply below_drew1) | exact HB.out)))).mono ?_); (case side1 => repeat (first | exact (Kd.R_reads' HO_4.out).2.2 | (with_reducible refine Kd.C_alloc ?_ _) | (with_reducible refine Kd.C_drewN ?_ _) | (with_reducible refine Kd.C_drew ?_))); (case side2 => exact (Kd.R_reads' HO_4.out).2.1); rintro e w59 ⟨rfl, hb⟩; refine ⟨_, rfl, ?_⟩; have n0_ := Aside0.mk (Kd.R_below (by (with_reducible repeat (first | apply Kd.R_alloc | apply Kd.R_drewN | apply Kd.R_drew)); exact HO_4.out) hb); have n1_ := Aside0.mk (below_step (by repeat (first | (with_reducible first | exact HB.out | apply below_alloc | apply pw_below_drewN | apply below_drew1) | exact HB.out)) hb); clear HO_4; clear HB; have HO_4 := n0_; have HB := n1_; clear n0_ n1_; (try clear hb); (try clear hb2); (try clear hk); (try clear hi)))
                  go_ret
                  exact ⟨by first | rfl | (simp [errW_none, errW_some] <;> rfl) | (simp [*, errW_none, errW_some] <;> rfl), by repeat (first | (with_reducible first | exact HB.out | apply below_alloc | apply pw_below_drewN | apply below_drew1) | exact HB.out)⟩

/-- THE ONE PURE STATEMENT of gutterlaw05_TreeChains: yours. -/
def gutterlaw05_TreeChains.Pure : Prop := ∀ (a0 : Int), (Lit.int .i64 a0).wf = true → ∃ k, gutterlaw05_TreeChains.f k a0 = some true
theorem gutterlaw05_TreeChains.walk (P : gutterlaw05_TreeChains.Pure) (a0 : Int) (w : World) (w0 : (Lit.int .i64 a0).wf = true) (hG : GOK w) :
    Calls Tryd.prog 6 #[.int .i64 a0] w fun e w' => e = .returned (.bool true) ∧ Below w.heap.size w w' := by
  obtain ⟨k, h⟩ := P a0 w0
  refine (gutterlaw05_TreeChains.calls k a0 true w h hG).mono ?_
  rintro e w' ⟨rfl, hd⟩
  exact ⟨rfl, hd⟩

end Go.Proofs.YtjafcgemgghbiaaDoor.G
