/- Functions of the law and of what it calls as plain Lean functions, and that the calls come to their answers: written by fprint.py. -/
import Derived.Test.YtkmddhljfjjglaaDoorF17
import Derived.Test.YtkmddhljfjjglaaDoorG0
import Derived.Test.YtkmddhljfjjglaaDoorG4
import Derived.Test.YtkmddhljfjjglaaDoorG25
namespace Go.Proofs.YtkmddhljfjjglaaDoor.G
open Go.RowKit Go.Proofs.YtkmddhljfjjglaaDoorW.PrintWords Go.Proofs.YtkmddhljfjjglaaDoorW.PrintLast Go.Proofs.YtkmddhljfjjglaaDoorW.PrintMore
attribute [local go_sem] max2_int min2_int max_two min_two max_three min_three max_four min_four   -- for this text's walks alone
set_option linter.unusedVariables false
set_option linter.unusedSimpArgs false

/-! ### gutterlaw18_PaintSeen: function 8 -/
mutual
def gutterlaw18_PaintSeen.j0 : Nat → List (S39) → Int → Int → Bool → Bool → Int → Int → Int → Int → Option (Bool)
  | 0, _, _, _, _, _, _, _, _, _ => none
  | k + 1, x0, x1, x2, x7, x55, x317000, x317001, x317002, x317003 => if x55 = true then (some x7) else (gutterlaw18_PaintSeen.l0 k x0 x1 x2 x7 ([] : List (S39)) 0 x317000 x317001 x317002 x317003)
def gutterlaw18_PaintSeen.l0 : Nat → List (S39) → Int → Int → Bool → List (S39) → Int → Int → Int → Int → Int → Option (Bool)
  | 0, _, _, _, _, _, _, _, _, _, _ => none
  | k + 1, x0, x1, x2, x7, x10, x11, x317000, x317001, x317002, x317003 => if x11 < (x0.length : Int) then (if 0 ≤ x11 then (if ((rd_T39 x0 x11).f2.f2) > 0 then (if ((rd_T39 x0 x11).f2.f3) > 0 then (if x10.length < 2932031007402 then (gutterlaw18_PaintSeen.l0 k x0 x1 x2 x7 (x10 ++ [(⟨(rd_T39 x0 x11).f0, (rd_T39 x0 x11).f1, (⟨(rd_T39 x0 x11).f2.f0, (rd_T39 x0 x11).f2.f1, (rd_T39 x0 x11).f2.f2, (rd_T39 x0 x11).f2.f3⟩ : S30)⟩ : S39)]) (wrap64 (x11 + 1)) x317000 x317001 x317002 x317003) else (none)) else (gutterlaw18_PaintSeen.l0 k x0 x1 x2 x7 x10 (wrap64 (x11 + 1)) x317000 x317001 x317002 x317003)) else (gutterlaw18_PaintSeen.l0 k x0 x1 x2 x7 x10 (wrap64 (x11 + 1)) x317000 x317001 x317002 x317003)) else (none)) else ((paint_Seen.f x0 x317000 x317001 x317002 x317003).bind fun bt323 => ((paint_Seen.f x0 x1 x2 1 1).bind fun bt327 => ((paint_Hit.f x0 x1 x2).bind fun bt331 => ((paint_Hit.f bt327.1 x1 x2).bind fun bt333 => (if x7 = true then (if bt323.2 = 0 then (if bt327.2 = 0 then ((paint_Same.f k bt323.1 x10).bind fun t335 => (if t335 = true then (if bt331.1 = bt333.1 then (some (bt331.2 == bt333.2)) else (some false)) else (some false))) else (some false)) else (some false)) else (some false))))))
end
def gutterlaw18_PaintSeen.f (k : Nat) (l0 : List (S39)) (a1 : Int) (a2 : Int) : Option (Bool) := (gutterlaw18_shown.f k).bind fun t306 => ((some (l0.take 60 : List (S39))).bind fun y307 => ((paint_Bounds.f y307).bind fun bt311 => (if bt311.2.2.2.2 = 0 then (if a1 < (-1000000) then (gutterlaw18_PaintSeen.j0 k y307 a1 a2 t306 true bt311.1 bt311.2.1 bt311.2.2.1 bt311.2.2.2.1) else (if a1 > 1000000 then (gutterlaw18_PaintSeen.j0 k y307 a1 a2 t306 true bt311.1 bt311.2.1 bt311.2.2.1 bt311.2.2.2.1) else (if a2 < (-1000000) then (gutterlaw18_PaintSeen.j0 k y307 a1 a2 t306 true bt311.1 bt311.2.1 bt311.2.2.1 bt311.2.2.2.1) else (if a2 > 1000000 then (gutterlaw18_PaintSeen.j0 k y307 a1 a2 t306 true bt311.1 bt311.2.1 bt311.2.2.1 bt311.2.2.2.1) else (if bt311.2.2.1 > 1099511627776 then (gutterlaw18_PaintSeen.j0 k y307 a1 a2 t306 true bt311.1 bt311.2.1 bt311.2.2.1 bt311.2.2.2.1) else (gutterlaw18_PaintSeen.j0 k y307 a1 a2 t306 (decide (bt311.2.2.2.1 > 1099511627776)) bt311.1 bt311.2.1 bt311.2.2.1 bt311.2.2.2.1)))))) else (gutterlaw18_PaintSeen.j0 k y307 a1 a2 t306 true bt311.1 bt311.2.1 bt311.2.2.1 bt311.2.2.2.1))))
theorem gutterlaw18_PaintSeen.mono_l : ∀ k, (∀ y0 y1 y2 y3 y4 y5 y6 y7 y8, LeO (gutterlaw18_PaintSeen.j0 k y0 y1 y2 y3 y4 y5 y6 y7 y8) (gutterlaw18_PaintSeen.j0 (k + 1) y0 y1 y2 y3 y4 y5 y6 y7 y8)) ∧ (∀ y0 y1 y2 y3 y4 y5 y6 y7 y8 y9, LeO (gutterlaw18_PaintSeen.l0 k y0 y1 y2 y3 y4 y5 y6 y7 y8 y9) (gutterlaw18_PaintSeen.l0 (k + 1) y0 y1 y2 y3 y4 y5 y6 y7 y8 y9))
  | 0 => ⟨fun _ _ _ _ _ _ _ _ _ r h => by simp [gutterlaw18_PaintSeen.j0] at h, fun _ _ _ _ _ _ _ _ _ _ r h => by simp [gutterlaw18_PaintSeen.l0] at h⟩
  | k + 1 => by
    obtain ⟨ih0, ih1⟩ := gutterlaw18_PaintSeen.mono_l k
    refine ⟨?_, ?_⟩
    · intro y0 y1 y2 y3 y4 y5 y6 y7 y8
      unfold gutterlaw18_PaintSeen.j0
      repeat' first
      | (with_reducible exact ih0 _ _ _ _ _ _ _ _ _)
      | (with_reducible exact ih1 _ _ _ _ _ _ _ _ _ _)
      | (with_reducible exact gutterlaw18_shown.mono _)
      | (with_reducible exact paint_Same.mono _ _ _)
      | (with_reducible exact LeO.refl _)
      | (with_reducible exact LeO.none _)
      | (with_reducible refine LeO.ite ?_ ?_)
      | (with_reducible refine LeO.bind ?_ (fun _ => ?_))
      | exact ih0 _ _ _ _ _ _ _ _ _
      | exact ih1 _ _ _ _ _ _ _ _ _ _
      | exact gutterlaw18_shown.mono _
      | exact paint_Same.mono _ _ _
      | exact LeO.none _
      | refine LeO.ite ?_ ?_
      | refine LeO.bind ?_ (fun _ => ?_)
    · intro y0 y1 y2 y3 y4 y5 y6 y7 y8 y9
      unfold gutterlaw18_PaintSeen.l0
      repeat' first
      | (with_reducible exact ih0 _ _ _ _ _ _ _ _ _)
      | (with_reducible exact ih1 _ _ _ _ _ _ _ _ _ _)
      | (with_reducible exact gutterlaw18_shown.mono _)
      | (with_reducible exact paint_Same.mono _ _ _)
      | (with_reducible exact LeO.refl _)
      | (with_reducible exact LeO.none _)
      | (with_reducible refine LeO.ite ?_ ?_)
      | (with_reducible refine LeO.bind ?_ (fun _ => ?_))
      | exact ih0 _ _ _ _ _ _ _ _ _
      | exact ih1 _ _ _ _ _ _ _ _ _ _
      | exact gutterlaw18_shown.mono _
      | exact paint_Same.mono _ _ _
      | exact LeO.none _
      | refine LeO.ite ?_ ?_
      | refine LeO.bind ?_ (fun _ => ?_)
theorem gutterlaw18_PaintSeen.mono : ∀ a0 a1 a2 k, LeO (gutterlaw18_PaintSeen.f k a0 a1 a2) (gutterlaw18_PaintSeen.f (k + 1) a0 a1 a2) := by
  intro a0 a1 a2 k
  obtain ⟨ih0, ih1⟩ := gutterlaw18_PaintSeen.mono_l k
  unfold gutterlaw18_PaintSeen.f
  repeat' first
      | (with_reducible exact ih0 _ _ _ _ _ _ _ _ _)
      | (with_reducible exact ih1 _ _ _ _ _ _ _ _ _ _)
      | (with_reducible exact gutterlaw18_shown.mono _)
      | (with_reducible exact paint_Same.mono _ _ _)
      | (with_reducible exact LeO.refl _)
      | (with_reducible exact LeO.none _)
      | (with_reducible refine LeO.ite ?_ ?_)
      | (with_reducible refine LeO.bind ?_ (fun _ => ?_))
      | exact ih0 _ _ _ _ _ _ _ _ _
      | exact ih1 _ _ _ _ _ _ _ _ _ _
      | exact gutterlaw18_shown.mono _
      | exact paint_Same.mono _ _ _
      | exact LeO.none _
      | refine LeO.ite ?_ ?_
      | refine LeO.bind ?_ (fun _ => ?_)
set_option maxHeartbeats 8000000 in
set_option maxRecDepth 100000 in
theorem gutterlaw18_PaintSeen.calls (k : Nat) (A0 : Option Addr) (c0 : Nat) (l0 : List (S39)) (a1 : Int) (a2 : Int) (r : Bool) (w : World) (hr0 : Kd.C k39 w A0 l0.length l0) (hc0 : l0.length ≤ c0) (h : gutterlaw18_PaintSeen.f k l0 a1 a2 = some r) (hG : GOK w) :
    Calls Tryd.prog 8 #[.slice A0 l0.length c0, .int .i64 a1, .int .i64 a2] w fun e w' => e = .returned (.bool r) ∧ Below w.heap.size w w' := by
  have HG := Aside0.mk hG
  clear hG
  have hu30 := Tryd.underlying30
  have hu39 := Tryd.underlying39
  have HR0 := Aside0.mk hr0
  have HC0 := Aside0.mk hc0
  clear hr0 hc0
  have HB := Aside0.mk (Below.refl w.heap.size w)
  have H : ((gutterlaw18_shown.f k).bind fun t306 => ((some (l0.take 60 : List (S39))).bind fun y307 => ((paint_Bounds.f y307).bind fun bt311 => (if bt311.2.2.2.2 = 0 then (if a1 < (-1000000) then (gutterlaw18_PaintSeen.j0 k y307 a1 a2 t306 true bt311.1 bt311.2.1 bt311.2.2.1 bt311.2.2.2.1) else (if a1 > 1000000 then (gutterlaw18_PaintSeen.j0 k y307 a1 a2 t306 true bt311.1 bt311.2.1 bt311.2.2.1 bt311.2.2.2.1) else (if a2 < (-1000000) then (gutterlaw18_PaintSeen.j0 k y307 a1 a2 t306 true bt311.1 bt311.2.1 bt311.2.2.1 bt311.2.2.2.1) else (if a2 > 1000000 then (gutterlaw18_PaintSeen.j0 k y307 a1 a2 t306 true bt311.1 bt311.2.1 bt311.2.2.1 bt311.2.2.2.1) else (if bt311.2.2.1 > 1099511627776 then (gutterlaw18_PaintSeen.j0 k y307 a1 a2 t306 true bt311.1 bt311.2.1 bt311.2.2.1 bt311.2.2.2.1) else (gutterlaw18_PaintSeen.j0 k y307 a1 a2 t306 (decide (bt311.2.2.2.1 > 1099511627776)) bt311.1 bt311.2.1 bt311.2.2.1 bt311.2.2.2.1)))))) else (gutterlaw18_PaintSeen.j0 k y307 a1 a2 t306 true bt311.1 bt311.2.1 bt311.2.2.1 bt311.2.2.2.1))))) = some r := h
  clear h
  replace H := Option.bind_eq_some_iff.mp H
  obtain ⟨t306, A40, H⟩ := H
  replace H : ((some (l0.take 60 : List (S39))).bind fun y307 => ((paint_Bounds.f y307).bind fun bt311 => (if bt311.2.2.2.2 = 0 then (if a1 < (-1000000) then (gutterlaw18_PaintSeen.j0 k y307 a1 a2 t306 true bt311.1 bt311.2.1 bt311.2.2.1 bt311.2.2.2.1) else (if a1 > 1000000 then (gutterlaw18_PaintSeen.j0 k y307 a1 a2 t306 true bt311.1 bt311.2.1 bt311.2.2.1 bt311.2.2.2.1) else (if a2 < (-1000000) then (gutterlaw18_PaintSeen.j0 k y307 a1 a2 t306 true bt311.1 bt311.2.1 bt311.2.2.1 bt311.2.2.2.1) else (if a2 > 1000000 then (gutterlaw18_PaintSeen.j0 k y307 a1 a2 t306 true bt311.1 bt311.2.1 bt311.2.2.1 bt311.2.2.2.1) else (if bt311.2.2.1 > 1099511627776 then (gutterlaw18_PaintSeen.j0 k y307 a1 a2 t306 true bt311.1 bt311.2.1 bt311.2.2.1 bt311.2.2.2.1) else (gutterlaw18_PaintSeen.j0 k y307 a1 a2 t306 (decide (bt311.2.2.2.1 > 1099511627776)) bt311.1 bt311.2.1 bt311.2.2.1 bt311.2.2.2.1)))))) else (gutterlaw18_PaintSeen.j0 k y307 a1 a2 t306 true bt311.1 bt311.2.1 bt311.2.2.1 bt311.2.2.2.1)))) = some r := H
  have A4 := Aside0.mk A40
  clear A40
  obtain ⟨y307, hy307⟩ : ∃ y_ : List (S39), y_ = (l0.take 60) := ⟨_, rfl⟩
  replace H : ((paint_Bounds.f y307).bind fun bt311 => (if bt311.2.2.2.2 = 0 then (if a1 < (-1000000) then (gutterlaw18_PaintSeen.j0 k y307 a1 a2 t306 true bt311.1 bt311.2.1 bt311.2.2.1 bt311.2.2.2.1) else (if a1 > 1000000 then (gutterlaw18_PaintSeen.j0 k y307 a1 a2 t306 true bt311.1 bt311.2.1 bt311.2.2.1 bt311.2.2.2.1) else (if a2 < (-1000000) then (gutterlaw18_PaintSeen.j0 k y307 a1 a2 t306 true bt311.1 bt311.2.1 bt311.2.2.1 bt311.2.2.2.1) else (if a2 > 1000000 then (gutterlaw18_PaintSeen.j0 k y307 a1 a2 t306 true bt311.1 bt311.2.1 bt311.2.2.1 bt311.2.2.2.1) else (if bt311.2.2.1 > 1099511627776 then (gutterlaw18_PaintSeen.j0 k y307 a1 a2 t306 true bt311.1 bt311.2.1 bt311.2.2.1 bt311.2.2.2.1) else (gutterlaw18_PaintSeen.j0 k y307 a1 a2 t306 (decide (bt311.2.2.2.1 > 1099511627776)) bt311.1 bt311.2.1 bt311.2.2.1 bt311.2.2.2.1)))))) else (gutterlaw18_PaintSeen.j0 k y307 a1 a2 t306 true bt311.1 bt311.2.1 bt311.2.2.1 bt311.2.2.2.1))) = some r := by first | (rw [hy307]; with_reducible exact H) | (have H2_ := (Option.bind_some _ _).symm.trans H; rw [hy307]; with_reducible exact H2_) | (have H2_ := (Option.bind_some _ _).symm.trans H; with_reducible exact H2_) | with_reducible exact H | (rw [hy307]; exact H) | exact H
  have Ny307 := Aside0.mk hy307
  clear hy307
  replace H := Option.bind_eq_some_iff.mp H
  obtain ⟨⟨t311, t312, t313, t314, t315⟩, A50, H⟩ := H
  replace H : (if t315 = 0 then (if a1 < (-1000000) then (gutterlaw18_PaintSeen.j0 k y307 a1 a2 t306 true t311 t312 t313 t314) else (if a1 > 1000000 then (gutterlaw18_PaintSeen.j0 k y307 a1 a2 t306 true t311 t312 t313 t314) else (if a2 < (-1000000) then (gutterlaw18_PaintSeen.j0 k y307 a1 a2 t306 true t311 t312 t313 t314) else (if a2 > 1000000 then (gutterlaw18_PaintSeen.j0 k y307 a1 a2 t306 true t311 t312 t313 t314) else (if t313 > 1099511627776 then (gutterlaw18_PaintSeen.j0 k y307 a1 a2 t306 true t311 t312 t313 t314) else (gutterlaw18_PaintSeen.j0 k y307 a1 a2 t306 (decide (t314 > 1099511627776)) t311 t312 t313 t314)))))) else (gutterlaw18_PaintSeen.j0 k y307 a1 a2 t306 true t311 t312 t313 t314)) = some r := H
  have A5 := Aside0.mk A50
  clear A50
  have HC6 := Aside0.mk H
  clear H
  go_enter Tryd.func8, Tryd.ntmps8
  go_upto_region 4 with (first | ((with_reducible refine gate_callee (f := 9) rfl ?_); refine goesL_ (some 20) rfl rfl Tryd.func9 (by kernel_rfl) rfl #[] rfl (by (try simp only [List.map_toArray, List.map_cons, List.map_nil]); first | done | rfl | (simp only [List.length_drop, List.length_take]; rfl)) ?_; (with_reducible refine (gutterlaw18_shown.calls k  t306 _ A4.out (GOK.below HG.out (by repeat (first | (with_reducible first | exact HB.out | apply below_alloc | apply pw_below_drewN | apply below_drew1) | exact HB.out)))).mono ?_); rintro e w7 ⟨rfl, hb⟩; refine ⟨_, rfl, ?_⟩; have n0_ := Aside0.mk (below_step (by repeat (first | (with_reducible first | exact HB.out | apply below_alloc | apply pw_below_drewN | apply below_drew1) | exact HB.out)) hb); clear HB; have HB := n0_; clear n0_; (try clear hb); (try clear hb2); (try clear hk); (try clear hi); have hroom8 : l0.length ≤ c0 := HC0.out; have hr8 := C_takeN 60 HR0.out; rw [← Ny307.out] at hr8; have hy8 : y307.length ≤ l0.length := (by rw [Ny307.out, List.length_take]; omega); have HR310 := Aside0.mk hr8; have HC310 := Aside0.mk (show y307.length ≤ c0 from by omega); have KR8 := Aside0.mk hroom8; clear hr8 hroom8; have KY8 := Aside0.mk hy8; clear hy8) | (go_at_call 16; refine calls_of_args (args' := #[.slice A0 l0.length c0]) (by (try simp only [List.map_toArray, List.map_cons, List.map_nil]); first | done | rfl) ?_; refine (cut_16 A0 c0 l0 y307 _ KR8.out Ny307.out).mono ?_; rintro e w' ⟨rfl, rfl⟩) | ((with_reducible refine gate_callee (f := 17) rfl ?_); refine goesL_ (some 25) rfl rfl Tryd.func17 (by kernel_rfl) rfl #[.slice A0 y307.length c0] rfl (by (try simp only [List.map_toArray, List.map_cons, List.map_nil]); first | done | rfl | (simp only [List.length_drop, List.length_take]; rfl)) ?_; (with_reducible refine (paint_Bounds.calls _ _ y307 t311 t312 t313 t314 t315 _ ?side1 ?side2 A5.out (GOK.below HG.out (by repeat (first | (with_reducible first | exact HB.out | apply below_alloc | apply pw_below_drewN | apply below_drew1) | exact HB.out)))).mono ?_); (case side1 => repeat (first | exact (Kd.C_below HR310.out HB.out) | (with_reducible refine Kd.C_alloc ?_ _) | (with_reducible refine Kd.C_drewN ?_ _) | (with_reducible refine Kd.C_drew ?_))); (case side2 => exact HC310.out); rintro e w9 ⟨rfl, hb⟩; refine ⟨_, rfl, ?_⟩; have n0_ := Aside0.mk (below_step (by repeat (first | (with_reducible first | exact HB.out | apply below_alloc | apply pw_below_drewN | apply below_drew1) | exact HB.out)) hb); clear HB; have HB := n0_; clear n0_; (try clear hb); (try clear hb2); (try clear hk); (try clear hi)) | ((with_reducible refine gate_dst (N := 8) rfl ?_); refine box_event ?hg (N := 8) ?hd (cs := #[.int .i64 0, .int .i64 0, .int .i64 0, .int .i64 0]) (t := 30) ?hr ?_; (case hd => rfl); (case hg => rfl); (case hr => first | (go_simp; done) | (go_simp; rfl)); intro gb316 hg w10 hbox hb; have n0_ := Aside0.mk (below_step (by repeat (first | (with_reducible first | exact HB.out | apply below_alloc | apply pw_below_drewN | apply below_drew1) | exact HB.out)) hb); have n1_ := Aside0.mk (hbox); have n2_ := Aside0.mk ((by rw [hg]; exact (below_size (by repeat (first | (with_reducible first | exact HB.out | apply below_alloc | apply pw_below_drewN | apply below_drew1) | exact HB.out))) : w.heap.size ≤ gb316)); have n3_ := Aside0.mk ((by rw [hg]; exact (below_size (by repeat (first | (with_reducible first | exact HB.out | apply below_alloc | apply pw_below_drewN | apply below_drew1) | exact HB.out))) : w.heap.size ≤ gb316)); clear HB; have HB := n0_; have BK316 := n1_; have GW316 := n2_; have GE316 := n3_; clear n0_ n1_ n2_ n3_; clear hb hbox hg; have hcz11_0 : w10.cell? ⟨gb316, 0, none⟩ = some (.int .i64 0) := (blk_cell BK316.out 0).trans rfl; have hcz11_1 : w10.cell? ⟨gb316, 1, none⟩ = some (.int .i64 0) := (blk_cell BK316.out 1).trans rfl; have hcz11_2 : w10.cell? ⟨gb316, 2, none⟩ = some (.int .i64 0) := (blk_cell BK316.out 2).trans rfl; have hcz11_3 : w10.cell? ⟨gb316, 3, none⟩ = some (.int .i64 0) := (blk_cell BK316.out 3).trans rfl; have hfz11_0 := blk_frozen BK316.out 0; have hfz11_1 := blk_frozen BK316.out 1; have hfz11_2 := blk_frozen BK316.out 2; have hfz11_3 := blk_frozen BK316.out 3))
  (try simp only [Act.put, List.setIfInBounds_toArray, List.set_cons_zero, List.set_cons_succ])
  go_cut [55] (fun v55 wc => ∃ (kq : Nat) (x55_5 : Bool), v55 = .bool x55_5 ∧ Aside0 (gutterlaw18_PaintSeen.j0 kq y307 a1 a2 t306 x55_5 t311 t312 t313 t314 = some r) ∧ Aside0 (kq ≤ k) ∧ Aside0 (wc.heap[gb316]? = some (.cells #[.int .i64 t311, .int .i64 t312, .int .i64 t313, .int .i64 t314] 30 (0, 0))) ∧ Aside0 (Below w.heap.size w wc))
  case first =>
    have H := HC6.out
    clear HC6
    by_cases c12 : t315 = 0
    · rw [if_pos c12] at H
      have c12b0 : (t315 == 0) = true := beq_iff_eq.mpr c12
      have c12b1 : (t315 != 0) = false := bne_eq_false_iff_eq.mpr c12
      clear c12
      (first | rw [c12b0] | (simp only [i64_w, i32_w]; rw [c12b0]) | skip)
      by_cases c13 : a1 < (-1000000)
      · rw [if_pos c13] at H
        have c13b0 : decide (a1 < (-1000000)) = true := decide_eq_true c13
        clear c13
        have H' := Aside0.mk H
        clear H
        go_wp2
        go_meet
        case rel => exact ⟨_, (true), (by first | rfl | (simp; done) | (simp [*]; done)), H', ⟨by first | omega | exact Nat.le_refl _⟩, ⟨by (with_reducible repeat (first | refine blk_drewN ?_ _ | refine blk_drew ?_ | refine blk_alloc ?_ _)); refine blk_put (cs := #[.int .i64 t311, .int .i64 t312, .int .i64 t313, .int .i64 0]) ?_ 3 _ rfl; (with_reducible repeat (first | refine blk_drewN ?_ _ | refine blk_drew ?_ | refine blk_alloc ?_ _)); refine blk_put (cs := #[.int .i64 t311, .int .i64 t312, .int .i64 0, .int .i64 0]) ?_ 2 _ rfl; (with_reducible repeat (first | refine blk_drewN ?_ _ | refine blk_drew ?_ | refine blk_alloc ?_ _)); refine blk_put (cs := #[.int .i64 t311, .int .i64 0, .int .i64 0, .int .i64 0]) ?_ 1 _ rfl; (with_reducible repeat (first | refine blk_drewN ?_ _ | refine blk_drew ?_ | refine blk_alloc ?_ _)); refine blk_put (cs := #[.int .i64 0, .int .i64 0, .int .i64 0, .int .i64 0]) ?_ 0 _ rfl; (with_reducible repeat (first | refine blk_drewN ?_ _ | refine blk_drew ?_ | refine blk_alloc ?_ _)); exact BK316.out⟩, ⟨by repeat (first | (with_reducible first | exact HB.out | apply below_alloc | apply pw_below_drewN | apply below_drew1 | refine below_set ?_ GE316.out) | exact HB.out)⟩⟩
      · rw [if_neg c13] at H
        have c13b0 : decide (a1 < (-1000000)) = false := decide_eq_false c13
        clear c13
        by_cases c14 : a1 > 1000000
        · rw [if_pos c14] at H
          have c14b0 : decide (1000000 < a1) = true := decide_eq_true c14
          clear c14
          have H' := Aside0.mk H
          clear H
          go_wp2
          go_meet
          case rel => exact ⟨_, (true), (by first | rfl | (simp; done) | (simp [*]; done)), H', ⟨by first | omega | exact Nat.le_refl _⟩, ⟨by (with_reducible repeat (first | refine blk_drewN ?_ _ | refine blk_drew ?_ | refine blk_alloc ?_ _)); refine blk_put (cs := #[.int .i64 t311, .int .i64 t312, .int .i64 t313, .int .i64 0]) ?_ 3 _ rfl; (with_reducible repeat (first | refine blk_drewN ?_ _ | refine blk_drew ?_ | refine blk_alloc ?_ _)); refine blk_put (cs := #[.int .i64 t311, .int .i64 t312, .int .i64 0, .int .i64 0]) ?_ 2 _ rfl; (with_reducible repeat (first | refine blk_drewN ?_ _ | refine blk_drew ?_ | refine blk_alloc ?_ _)); refine blk_put (cs := #[.int .i64 t311, .int .i64 0, .int .i64 0, .int .i64 0]) ?_ 1 _ rfl; (with_reducible repeat (first | refine blk_drewN ?_ _ | refine blk_drew ?_ | refine blk_alloc ?_ _)); refine blk_put (cs := #[.int .i64 0, .int .i64 0, .int .i64 0, .int .i64 0]) ?_ 0 _ rfl; (with_reducible repeat (first | refine blk_drewN ?_ _ | refine blk_drew ?_ | refine blk_alloc ?_ _)); exact BK316.out⟩, ⟨by repeat (first | (with_reducible first | exact HB.out | apply below_alloc | apply pw_below_drewN | apply below_drew1 | refine below_set ?_ GE316.out) | exact HB.out)⟩⟩
        · rw [if_neg c14] at H
          have c14b0 : decide (1000000 < a1) = false := decide_eq_false c14
          clear c14
          by_cases c15 : a2 < (-1000000)
          · rw [if_pos c15] at H
            have c15b0 : decide (a2 < (-1000000)) = true := decide_eq_true c15
            clear c15
            have H' := Aside0.mk H
            clear H
            go_wp2
            go_meet
            case rel => exact ⟨_, (true), (by first | rfl | (simp; done) | (simp [*]; done)), H', ⟨by first | omega | exact Nat.le_refl _⟩, ⟨by (with_reducible repeat (first | refine blk_drewN ?_ _ | refine blk_drew ?_ | refine blk_alloc ?_ _)); refine blk_put (cs := #[.int .i64 t311, .int .i64 t312, .int .i64 t313, .int .i64 0]) ?_ 3 _ rfl; (with_reducible repeat (first | refine blk_drewN ?_ _ | refine blk_drew ?_ | refine blk_alloc ?_ _)); refine blk_put (cs := #[.int .i64 t311, .int .i64 t312, .int .i64 0, .int .i64 0]) ?_ 2 _ rfl; (with_reducible repeat (first | refine blk_drewN ?_ _ | refine blk_drew ?_ | refine blk_alloc ?_ _)); refine blk_put (cs := #[.int .i64 t311, .int .i64 0, .int .i64 0, .int .i64 0]) ?_ 1 _ rfl; (with_reducible repeat (first | refine blk_drewN ?_ _ | refine blk_drew ?_ | refine blk_alloc ?_ _)); refine blk_put (cs := #[.int .i64 0, .int .i64 0, .int .i64 0, .int .i64 0]) ?_ 0 _ rfl; (with_reducible repeat (first | refine blk_drewN ?_ _ | refine blk_drew ?_ | refine blk_alloc ?_ _)); exact BK316.out⟩, ⟨by repeat (first | (with_reducible first | exact HB.out | apply below_alloc | apply pw_below_drewN | apply below_drew1 | refine below_set ?_ GE316.out) | exact HB.out)⟩⟩
          · rw [if_neg c15] at H
            have c15b0 : decide (a2 < (-1000000)) = false := decide_eq_false c15
            clear c15
            by_cases c16 : a2 > 1000000
            · rw [if_pos c16] at H
              have c16b0 : decide (1000000 < a2) = true := decide_eq_true c16
              clear c16
              have H' := Aside0.mk H
              clear H
              go_wp2
              go_meet
              case rel => exact ⟨_, (true), (by first | rfl | (simp; done) | (simp [*]; done)), H', ⟨by first | omega | exact Nat.le_refl _⟩, ⟨by (with_reducible repeat (first | refine blk_drewN ?_ _ | refine blk_drew ?_ | refine blk_alloc ?_ _)); refine blk_put (cs := #[.int .i64 t311, .int .i64 t312, .int .i64 t313, .int .i64 0]) ?_ 3 _ rfl; (with_reducible repeat (first | refine blk_drewN ?_ _ | refine blk_drew ?_ | refine blk_alloc ?_ _)); refine blk_put (cs := #[.int .i64 t311, .int .i64 t312, .int .i64 0, .int .i64 0]) ?_ 2 _ rfl; (with_reducible repeat (first | refine blk_drewN ?_ _ | refine blk_drew ?_ | refine blk_alloc ?_ _)); refine blk_put (cs := #[.int .i64 t311, .int .i64 0, .int .i64 0, .int .i64 0]) ?_ 1 _ rfl; (with_reducible repeat (first | refine blk_drewN ?_ _ | refine blk_drew ?_ | refine blk_alloc ?_ _)); refine blk_put (cs := #[.int .i64 0, .int .i64 0, .int .i64 0, .int .i64 0]) ?_ 0 _ rfl; (with_reducible repeat (first | refine blk_drewN ?_ _ | refine blk_drew ?_ | refine blk_alloc ?_ _)); exact BK316.out⟩, ⟨by repeat (first | (with_reducible first | exact HB.out | apply below_alloc | apply pw_below_drewN | apply below_drew1 | refine below_set ?_ GE316.out) | exact HB.out)⟩⟩
            · rw [if_neg c16] at H
              have c16b0 : decide (1000000 < a2) = false := decide_eq_false c16
              clear c16
              by_cases c17 : t313 > 1099511627776
              · rw [if_pos c17] at H
                have c17b0 : decide (1099511627776 < t313) = true := decide_eq_true c17
                clear c17
                have H' := Aside0.mk H
                clear H
                have hcz18_0 : w10.cell? ⟨gb316, 0, none⟩ = some (.int .i64 0) := (blk_cell BK316.out 0).trans rfl
                have hcz18_1 : w10.cell? ⟨gb316, 1, none⟩ = some (.int .i64 0) := (blk_cell BK316.out 1).trans rfl
                have hcz18_2 : w10.cell? ⟨gb316, 2, none⟩ = some (.int .i64 0) := (blk_cell BK316.out 2).trans rfl
                have hcz18_3 : w10.cell? ⟨gb316, 3, none⟩ = some (.int .i64 0) := (blk_cell BK316.out 3).trans rfl
                have hfz18_0 := blk_frozen BK316.out 0
                have hfz18_1 := blk_frozen BK316.out 1
                have hfz18_2 := blk_frozen BK316.out 2
                have hfz18_3 := blk_frozen BK316.out 3
                go_wp2
                go_meet
                case rel => exact ⟨_, (true), (by first | rfl | (simp; done) | (simp [*]; done)), H', ⟨by first | omega | exact Nat.le_refl _⟩, ⟨by (with_reducible repeat (first | refine blk_drewN ?_ _ | refine blk_drew ?_ | refine blk_alloc ?_ _)); refine blk_put (cs := #[.int .i64 t311, .int .i64 t312, .int .i64 t313, .int .i64 0]) ?_ 3 _ rfl; (with_reducible repeat (first | refine blk_drewN ?_ _ | refine blk_drew ?_ | refine blk_alloc ?_ _)); refine blk_put (cs := #[.int .i64 t311, .int .i64 t312, .int .i64 0, .int .i64 0]) ?_ 2 _ rfl; (with_reducible repeat (first | refine blk_drewN ?_ _ | refine blk_drew ?_ | refine blk_alloc ?_ _)); refine blk_put (cs := #[.int .i64 t311, .int .i64 0, .int .i64 0, .int .i64 0]) ?_ 1 _ rfl; (with_reducible repeat (first | refine blk_drewN ?_ _ | refine blk_drew ?_ | refine blk_alloc ?_ _)); refine blk_put (cs := #[.int .i64 0, .int .i64 0, .int .i64 0, .int .i64 0]) ?_ 0 _ rfl; (with_reducible repeat (first | refine blk_drewN ?_ _ | refine blk_drew ?_ | refine blk_alloc ?_ _)); exact BK316.out⟩, ⟨by repeat (first | (with_reducible first | exact HB.out | apply below_alloc | apply pw_below_drewN | apply below_drew1 | refine below_set ?_ GE316.out) | exact HB.out)⟩⟩
              · rw [if_neg c17] at H
                have c17b0 : decide (1099511627776 < t313) = false := decide_eq_false c17
                clear c17
                have H' := Aside0.mk H
                clear H
                have hcz19_0 : w10.cell? ⟨gb316, 0, none⟩ = some (.int .i64 0) := (blk_cell BK316.out 0).trans rfl
                have hcz19_1 : w10.cell? ⟨gb316, 1, none⟩ = some (.int .i64 0) := (blk_cell BK316.out 1).trans rfl
                have hcz19_2 : w10.cell? ⟨gb316, 2, none⟩ = some (.int .i64 0) := (blk_cell BK316.out 2).trans rfl
                have hcz19_3 : w10.cell? ⟨gb316, 3, none⟩ = some (.int .i64 0) := (blk_cell BK316.out 3).trans rfl
                have hfz19_0 := blk_frozen BK316.out 0
                have hfz19_1 := blk_frozen BK316.out 1
                have hfz19_2 := blk_frozen BK316.out 2
                have hfz19_3 := blk_frozen BK316.out 3
                go_wp2
                go_meet
                case rel => exact ⟨_, (decide (t314 > 1099511627776)), (by first | rfl | (simp; done) | (simp [*]; done)), H', ⟨by first | omega | exact Nat.le_refl _⟩, ⟨by (with_reducible repeat (first | refine blk_drewN ?_ _ | refine blk_drew ?_ | refine blk_alloc ?_ _)); refine blk_put (cs := #[.int .i64 t311, .int .i64 t312, .int .i64 t313, .int .i64 0]) ?_ 3 _ rfl; (with_reducible repeat (first | refine blk_drewN ?_ _ | refine blk_drew ?_ | refine blk_alloc ?_ _)); refine blk_put (cs := #[.int .i64 t311, .int .i64 t312, .int .i64 0, .int .i64 0]) ?_ 2 _ rfl; (with_reducible repeat (first | refine blk_drewN ?_ _ | refine blk_drew ?_ | refine blk_alloc ?_ _)); refine blk_put (cs := #[.int .i64 t311, .int .i64 0, .int .i64 0, .int .i64 0]) ?_ 1 _ rfl; (with_reducible repeat (first | refine blk_drewN ?_ _ | refine blk_drew ?_ | refine blk_alloc ?_ _)); refine blk_put (cs := #[.int .i64 0, .int .i64 0, .int .i64 0, .int .i64 0]) ?_ 0 _ rfl; (with_reducible repeat (first | refine blk_drewN ?_ _ | refine blk_drew ?_ | refine blk_alloc ?_ _)); exact BK316.out⟩, ⟨by repeat (first | (with_reducible first | exact HB.out | apply below_alloc | apply pw_below_drewN | apply below_drew1 | refine below_set ?_ GE316.out) | exact HB.out)⟩⟩
    · rw [if_neg c12] at H
      have c12b0 : (t315 == 0) = false := beq_eq_false_iff_ne.mpr c12
      have c12b1 : (t315 != 0) = true := bne_iff_ne.mpr c12
      (first | rw [c12b0] | (simp only [i64_w, i32_w]; rw [c12b0]) | skip)
      have H' := Aside0.mk H
      clear H
      go_wp2
      go_meet
      case rel => exact ⟨_, (true), (by first | rfl | (simp; done) | (simp [*]; done)), H', ⟨by first | omega | exact Nat.le_refl _⟩, ⟨by (with_reducible repeat (first | refine blk_drewN ?_ _ | refine blk_drew ?_ | refine blk_alloc ?_ _)); refine blk_put (cs := #[.int .i64 t311, .int .i64 t312, .int .i64 t313, .int .i64 0]) ?_ 3 _ rfl; (with_reducible repeat (first | refine blk_drewN ?_ _ | refine blk_drew ?_ | refine blk_alloc ?_ _)); refine blk_put (cs := #[.int .i64 t311, .int .i64 t312, .int .i64 0, .int .i64 0]) ?_ 2 _ rfl; (with_reducible repeat (first | refine blk_drewN ?_ _ | refine blk_drew ?_ | refine blk_alloc ?_ _)); refine blk_put (cs := #[.int .i64 t311, .int .i64 0, .int .i64 0, .int .i64 0]) ?_ 1 _ rfl; (with_reducible repeat (first | refine blk_drewN ?_ _ | refine blk_drew ?_ | refine blk_alloc ?_ _)); refine blk_put (cs := #[.int .i64 0, .int .i64 0, .int .i64 0, .int .i64 0]) ?_ 0 _ rfl; (with_reducible repeat (first | refine blk_drewN ?_ _ | refine blk_drew ?_ | refine blk_alloc ?_ _)); exact BK316.out⟩, ⟨by repeat (first | (with_reducible first | exact HB.out | apply below_alloc | apply pw_below_drewN | apply below_drew1 | refine below_set ?_ GE316.out) | exact HB.out)⟩⟩
  case rest =>
    clear HC6
    try clear c1
    try clear p2
    try clear c8
    try clear c9
    try clear c12
    try clear c12b0
    try clear c12b1
    try clear c13
    try clear c13b0
    try clear c14
    try clear c14b0
    try clear c15
    try clear c15b0
    try clear c16
    try clear c16b0
    try clear c17
    try clear c17b0
    try clear hcz11_0
    try clear hcz11_1
    try clear hcz11_2
    try clear hcz11_3
    try clear hcz18_0
    try clear hcz18_1
    try clear hcz18_2
    try clear hcz18_3
    try clear hcz19_0
    try clear hcz19_1
    try clear hcz19_2
    try clear hcz19_3
    try clear hfz11_0
    try clear hfz11_1
    try clear hfz11_2
    try clear hfz11_3
    try clear hfz18_0
    try clear hfz18_1
    try clear hfz18_2
    try clear hfz18_3
    try clear hfz19_0
    try clear hfz19_1
    try clear hfz19_2
    try clear hfz19_3
    obtain ⟨kq, x55_5, rfl, HA, HJ5, BK316, HB⟩ := hcut
    cases kq with
    | zero => exact absurd HA.out (by simp [gutterlaw18_PaintSeen.j0])
    | succ kj5 =>
      have H := HA.out
      clear HA
      simp only [gutterlaw18_PaintSeen.j0] at H
      by_cases c20 : x55_5 = true
      · subst c20
        have H1 : (some t306) = some r := by rw [if_pos rfl] at H; exact H
        clear H
        have H := H1
        clear H1
        obtain rfl := Option.some.inj H
        go_wp2
        go_ret
        exact ⟨by first | rfl | (simp [errW_none, errW_some] <;> rfl) | (simp [*, errW_none, errW_some] <;> rfl), by repeat (first | (with_reducible first | exact HB.out | apply below_alloc | apply pw_below_drewN | apply below_drew1 | refine below_set ?_ GE316.out) | exact HB.out)⟩
      · replace c20 := Bool.eq_false_iff.mpr c20
        subst c20
        have H1 : (gutterlaw18_PaintSeen.l0 kj5 y307 a1 a2 t306 ([] : List (S39)) 0 t311 t312 t313 t314) = some r := by rw [if_neg (show ¬ (false = true) by decide)] at H; exact H
        clear H
        have H := H1
        clear H1
        have H' := Aside0.mk H
        clear H
        go_wp2
        go_loopg [10, 11] kj5 (fun kq v10 v11 w' => ∃ (x10_2 : List (S39)) (x11_2 : Int), v11 = .int .i64 x11_2 ∧ Aside0 (gutterlaw18_PaintSeen.l0 kq y307 a1 a2 t306 x10_2 x11_2 t311 t312 t313 t314 = some r) ∧ Aside0 (kq ≤ kj5) ∧ Aside0 (Kd.R k39 39 w' w.heap.size (fun _ => True) v10 x10_2) ∧ Aside0 (w'.heap[gb316]? = some (.cells #[.int .i64 t311, .int .i64 t312, .int .i64 t313, .int .i64 t314] 30 (0, 0))) ∧ Aside0 (Below w.heap.size w w'))
        case atStart => exact ⟨(([] : List (S39))), (0), (by first | rfl | (simp; done) | (simp [*]; done)), H', ⟨Nat.le_refl _⟩, ⟨by first | exact Kd.R_nil _ _ _ _ _ | exact Kd.N_nil _ _ _ _ _ | exact Kd.V_nil _ _ _ _ _ | exact Kd.Q_nil _ _ _ _ _ | exact Kd.S_nil _ _ _ _ _⟩, ⟨by (with_reducible repeat (first | refine blk_drewN ?_ _ | refine blk_drew ?_ | refine blk_alloc ?_ _)); exact BK316.out⟩, ⟨by repeat (first | (with_reducible first | exact HB.out | apply below_alloc | apply pw_below_drewN | apply below_drew1 | refine below_set ?_ GE316.out) | exact HB.out)⟩⟩
        case round =>
          clear H'
          try clear c1
          try clear c2
          try clear p2
          try clear c8
          try clear c9
          try clear c12
          try clear c12b0
          try clear c12b1
          try clear c13
          try clear c13b0
          try clear c14
          try clear c14b0
          try clear c15
          try clear c15b0
          try clear c16
          try clear c16b0
          try clear c17
          try clear c17b0
          try clear c20
          try clear hcz11_0
          try clear hcz11_1
          try clear hcz11_2
          try clear hcz11_3
          try clear hcz18_0
          try clear hcz18_1
          try clear hcz18_2
          try clear hcz18_3
          try clear hcz19_0
          try clear hcz19_1
          try clear hcz19_2
          try clear hcz19_3
          try clear hfz11_0
          try clear hfz11_1
          try clear hfz11_2
          try clear hfz11_3
          try clear hfz18_0
          try clear hfz18_1
          try clear hfz18_2
          try clear hfz18_3
          try clear hfz19_0
          try clear hfz19_1
          try clear hfz19_2
          try clear hfz19_3
          try clear p2
          obtain ⟨x10_2, x11_2, rfl, HA, HK2, HO_10, BK316, HB⟩ := hrel
          cases gk with
          | zero => exact absurd HA.out (by simp [gutterlaw18_PaintSeen.l0])
          | succ k2 =>
            have H := HA.out
            clear HA
            simp only [gutterlaw18_PaintSeen.l0] at H
            by_cases c21 : x11_2 < (y307.length : Int)
            · rw [if_pos c21] at H
              have c21b0 : decide (x11_2 < (y307.length : Int)) = true := decide_eq_true c21
              clear c21
              by_cases c22 : 0 ≤ x11_2
              · rw [if_pos c22] at H
                have c22b0 : decide (0 ≤ x11_2) = true := decide_eq_true c22
                clear c22
                by_cases c23 : ((rd_T39 y307 x11_2).f2.f2) > 0
                · rw [if_pos c23] at H
                  have c23b0 : decide (0 < ((rd_T39 y307 x11_2).f2.f2)) = true := decide_eq_true c23
                  clear c23
                  by_cases c24 : ((rd_T39 y307 x11_2).f2.f3) > 0
                  · rw [if_pos c24] at H
                    have c24b0 : decide (0 < ((rd_T39 y307 x11_2).f2.f3)) = true := decide_eq_true c24
                    clear c24
                    by_cases c25 : x10_2.length < 2932031007402
                    · rw [if_pos c25] at H
                      have LMc25 := Aside0.mk c25
                      clear c25
                      obtain ⟨y320, hy320⟩ : ∃ y_ : List (S39), y_ = (x10_2 ++ [(⟨(rd_T39 y307 x11_2).f0, (rd_T39 y307 x11_2).f1, (⟨(rd_T39 y307 x11_2).f2.f0, (rd_T39 y307 x11_2).f2.f1, (rd_T39 y307 x11_2).f2.f2, (rd_T39 y307 x11_2).f2.f3⟩ : S30)⟩ : S39)]) := ⟨_, rfl⟩
                      replace H : (gutterlaw18_PaintSeen.l0 k2 y307 a1 a2 t306 y320 (wrap64 (x11_2 + 1)) t311 t312 t313 t314) = some r := by first | (rw [hy320]; with_reducible exact H) | (have H2_ := (Option.bind_some _ _).symm.trans H; rw [hy320]; with_reducible exact H2_) | (have H2_ := (Option.bind_some _ _).symm.trans H; with_reducible exact H2_) | with_reducible exact H | (rw [hy320]; exact H) | exact H
                      have Ny320 := Aside0.mk hy320
                      clear hy320
                      have H' := Aside0.mk H
                      clear H
                      have p317 : 0 ≤ (x11_2 : Int) := of_decide_eq_true (by first | (with_reducible assumption) | assumption)
                      have q317 : x11_2 < (y307.length : Int) := of_decide_eq_true (by first | (with_reducible assumption) | assumption)
                      obtain ⟨ad317, e317, hx317_0, hx317_1, hx317_2, hx317_3, hx317_4, hx317_5⟩ := at_T39 HR310.out x11_2 p317 q317
                      cases e317
                      replace hx317_0 := (HB.out.cell (World.block_lt_of_cell? w _ hx317_0)).trans hx317_0
                      replace hx317_1 := (HB.out.cell (World.block_lt_of_cell? w _ hx317_1)).trans hx317_1
                      replace hx317_2 := (HB.out.cell (World.block_lt_of_cell? w _ hx317_2)).trans hx317_2
                      replace hx317_3 := (HB.out.cell (World.block_lt_of_cell? w _ hx317_3)).trans hx317_3
                      replace hx317_4 := (HB.out.cell (World.block_lt_of_cell? w _ hx317_4)).trans hx317_4
                      replace hx317_5 := (HB.out.cell (World.block_lt_of_cell? w _ hx317_5)).trans hx317_5
                      replace p317 := eq_true p317
                      replace q317 := eq_true q317
                      have p318 : 0 ≤ (x11_2 : Int) := of_decide_eq_true (by first | (with_reducible assumption) | assumption)
                      have q318 : x11_2 < (y307.length : Int) := of_decide_eq_true (by first | (with_reducible assumption) | assumption)
                      obtain ⟨ad318, e318, hx318_0, hx318_1, hx318_2, hx318_3, hx318_4, hx318_5⟩ := at_T39 HR310.out x11_2 p318 q318
                      obtain rfl : ad317 = ad318 := (by injection e318)
                      replace hx318_0 := (HB.out.cell (World.block_lt_of_cell? w _ hx318_0)).trans hx318_0
                      replace hx318_1 := (HB.out.cell (World.block_lt_of_cell? w _ hx318_1)).trans hx318_1
                      replace hx318_2 := (HB.out.cell (World.block_lt_of_cell? w _ hx318_2)).trans hx318_2
                      replace hx318_3 := (HB.out.cell (World.block_lt_of_cell? w _ hx318_3)).trans hx318_3
                      replace hx318_4 := (HB.out.cell (World.block_lt_of_cell? w _ hx318_4)).trans hx318_4
                      replace hx318_5 := (HB.out.cell (World.block_lt_of_cell? w _ hx318_5)).trans hx318_5
                      replace p318 := eq_true p318
                      replace q318 := eq_true q318
                      have p319 : 0 ≤ (x11_2 : Int) := of_decide_eq_true (by first | (with_reducible assumption) | assumption)
                      have q319 : x11_2 < (y307.length : Int) := of_decide_eq_true (by first | (with_reducible assumption) | assumption)
                      obtain ⟨ad319, e319, hx319_0, hx319_1, hx319_2, hx319_3, hx319_4, hx319_5⟩ := at_T39 HR310.out x11_2 p319 q319
                      obtain rfl : ad317 = ad319 := (by injection e319)
                      replace hx319_0 := (HB.out.cell (World.block_lt_of_cell? w _ hx319_0)).trans hx319_0
                      replace hx319_1 := (HB.out.cell (World.block_lt_of_cell? w _ hx319_1)).trans hx319_1
                      replace hx319_2 := (HB.out.cell (World.block_lt_of_cell? w _ hx319_2)).trans hx319_2
                      replace hx319_3 := (HB.out.cell (World.block_lt_of_cell? w _ hx319_3)).trans hx319_3
                      replace hx319_4 := (HB.out.cell (World.block_lt_of_cell? w _ hx319_4)).trans hx319_4
                      replace hx319_5 := (HB.out.cell (World.block_lt_of_cell? w _ hx319_5)).trans hx319_5
                      replace p319 := eq_true p319
                      replace q319 := eq_true q319
                      go_wp2_with (first | ((with_reducible refine gate_builtin (b := .append) (xs := #[.tmp 79, .tmp 84]) rfl ?_); at_builtin; refine Kd.R_append k39 (w0 := w) w.heap.size rfl (.tmp 79) (.tmp 84) 35 39 (.agg #[(.bool false), (.int .i64 0), (.int .i64 0), (.int .i64 0), (.int .i64 0), (.int .i64 0)]) 48 rfl Tryd.underlying35 info39 rfl (by decide) (by omega) u10 x10_2 (⟨(rd_T39 y307 x11_2).f0, (rd_T39 y307 x11_2).f1, (⟨(rd_T39 y307 x11_2).f2.f0, (rd_T39 y307 x11_2).f2.f1, (rd_T39 y307 x11_2).f2.f2, (rd_T39 y307 x11_2).f2.f3⟩ : S30)⟩ : S39) [.bool ((rd_T39 y307 x11_2).f0), .int .i64 ((rd_T39 y307 x11_2).f1), .int .i64 ((rd_T39 y307 x11_2).f2.f0), .int .i64 ((rd_T39 y307 x11_2).f2.f1), .int .i64 ((rd_T39 y307 x11_2).f2.f2), .int .i64 ((rd_T39 y307 x11_2).f2.f3)] (fun _ => True) (fun _ => False) rfl rfl ?aP (fun _ hk => hk.elim) ?aF ?aO ?aB ?aS ?aL ?_; (case aP => exact k39_mkM _ _ _ (⟨(rd_T39 y307 x11_2).f0, (rd_T39 y307 x11_2).f1, (⟨(rd_T39 y307 x11_2).f2.f0, (rd_T39 y307 x11_2).f2.f1, (rd_T39 y307 x11_2).f2.f2, (rd_T39 y307 x11_2).f2.f3⟩ : S30)⟩ : S39)); (case aB => exact (by repeat (first | (with_reducible first | exact HB.out | apply below_alloc | apply pw_below_drewN | apply below_drew1 | refine below_set ?_ GE316.out) | exact HB.out))); (case aF => exact (fun _ _ => trivial)); (case aO => exact (by (with_reducible repeat (first | apply Kd.R_alloc | apply Kd.R_drewN | apply Kd.R_drew)); exact HO_10.out)); (case aS => exact (below_size (by repeat (first | (with_reducible first | exact HB.out | apply below_alloc | apply pw_below_drewN | apply below_drew1 | refine below_set ?_ GE316.out) | exact HB.out)))); (case aL => have := LMc25.out; omega); intro v321 w26 ho hb hg hat; rw [← Ny320.out] at ho; have n0_ := Aside0.mk (blk_grown (g := gb316) (o := .cells #[.int .i64 t311, .int .i64 t312, .int .i64 t313, .int .i64 t314] 30 (0, 0)) (by (with_reducible repeat (first | refine blk_drewN ?_ _ | refine blk_drew ?_ | refine blk_alloc ?_ _)); exact BK316.out) hg (Kd.R_ne HO_10.out BK316.out (by decide))); have n1_ := Aside0.mk (hb); have n2_ := Aside0.mk (ho); clear BK316; clear HB; clear HO_10; have BK316 := n0_; have HB := n1_; have HO322 := n2_; clear n0_ n1_ n2_; clear ho hb hg hat))
                      go_roundg k2
                      case measure => have := HJ5.out; have := HK2.out; omega
                      case rel => exact ⟨(y320), (wrap64 (x11_2 + 1)), (by first | rfl | (simp; done) | (simp [*]; done)), H', ⟨by have := HJ5.out; have := HK2.out; omega⟩, ⟨by (with_reducible repeat (first | apply Kd.R_alloc | apply Kd.R_drewN | apply Kd.R_drew)); exact HO322.out⟩, ⟨by (with_reducible repeat (first | refine blk_drewN ?_ _ | refine blk_drew ?_ | refine blk_alloc ?_ _)); exact BK316.out⟩, ⟨by repeat (first | (with_reducible first | exact HB.out | apply below_alloc | apply pw_below_drewN | apply below_drew1 | refine below_set ?_ GE316.out) | exact HB.out)⟩⟩
                    · rw [if_neg c25] at H
                      exact absurd H (by simp)
                  · rw [if_neg c24] at H
                    have c24b0 : decide (0 < ((rd_T39 y307 x11_2).f2.f3)) = false := decide_eq_false c24
                    clear c24
                    have H' := Aside0.mk H
                    clear H
                    have p317 : 0 ≤ (x11_2 : Int) := of_decide_eq_true (by first | (with_reducible assumption) | assumption)
                    have q317 : x11_2 < (y307.length : Int) := of_decide_eq_true (by first | (with_reducible assumption) | assumption)
                    obtain ⟨ad317, e317, hx317_0, hx317_1, hx317_2, hx317_3, hx317_4, hx317_5⟩ := at_T39 HR310.out x11_2 p317 q317
                    cases e317
                    replace hx317_0 := (HB.out.cell (World.block_lt_of_cell? w _ hx317_0)).trans hx317_0
                    replace hx317_1 := (HB.out.cell (World.block_lt_of_cell? w _ hx317_1)).trans hx317_1
                    replace hx317_2 := (HB.out.cell (World.block_lt_of_cell? w _ hx317_2)).trans hx317_2
                    replace hx317_3 := (HB.out.cell (World.block_lt_of_cell? w _ hx317_3)).trans hx317_3
                    replace hx317_4 := (HB.out.cell (World.block_lt_of_cell? w _ hx317_4)).trans hx317_4
                    replace hx317_5 := (HB.out.cell (World.block_lt_of_cell? w _ hx317_5)).trans hx317_5
                    replace p317 := eq_true p317
                    replace q317 := eq_true q317
                    have p318 : 0 ≤ (x11_2 : Int) := of_decide_eq_true (by first | (with_reducible assumption) | assumption)
                    have q318 : x11_2 < (y307.length : Int) := of_decide_eq_true (by first | (with_reducible assumption) | assumption)
                    obtain ⟨ad318, e318, hx318_0, hx318_1, hx318_2, hx318_3, hx318_4, hx318_5⟩ := at_T39 HR310.out x11_2 p318 q318
                    obtain rfl : ad317 = ad318 := (by injection e318)
                    replace hx318_0 := (HB.out.cell (World.block_lt_of_cell? w _ hx318_0)).trans hx318_0
                    replace hx318_1 := (HB.out.cell (World.block_lt_of_cell? w _ hx318_1)).trans hx318_1
                    replace hx318_2 := (HB.out.cell (World.block_lt_of_cell? w _ hx318_2)).trans hx318_2
                    replace hx318_3 := (HB.out.cell (World.block_lt_of_cell? w _ hx318_3)).trans hx318_3
                    replace hx318_4 := (HB.out.cell (World.block_lt_of_cell? w _ hx318_4)).trans hx318_4
                    replace hx318_5 := (HB.out.cell (World.block_lt_of_cell? w _ hx318_5)).trans hx318_5
                    replace p318 := eq_true p318
                    replace q318 := eq_true q318
                    go_wp2
                    go_roundg k2
                    case measure => have := HJ5.out; have := HK2.out; omega
                    case rel => exact ⟨(x10_2), (wrap64 (x11_2 + 1)), (by first | rfl | (simp; done) | (simp [*]; done)), H', ⟨by have := HJ5.out; have := HK2.out; omega⟩, ⟨by (with_reducible repeat (first | apply Kd.R_alloc | apply Kd.R_drewN | apply Kd.R_drew)); exact HO_10.out⟩, ⟨by (with_reducible repeat (first | refine blk_drewN ?_ _ | refine blk_drew ?_ | refine blk_alloc ?_ _)); exact BK316.out⟩, ⟨by repeat (first | (with_reducible first | exact HB.out | apply below_alloc | apply pw_below_drewN | apply below_drew1 | refine below_set ?_ GE316.out) | exact HB.out)⟩⟩
                · rw [if_neg c23] at H
                  have c23b0 : decide (0 < ((rd_T39 y307 x11_2).f2.f2)) = false := decide_eq_false c23
                  clear c23
                  have H' := Aside0.mk H
                  clear H
                  have p317 : 0 ≤ (x11_2 : Int) := of_decide_eq_true (by first | (with_reducible assumption) | assumption)
                  have q317 : x11_2 < (y307.length : Int) := of_decide_eq_true (by first | (with_reducible assumption) | assumption)
                  obtain ⟨ad317, e317, hx317_0, hx317_1, hx317_2, hx317_3, hx317_4, hx317_5⟩ := at_T39 HR310.out x11_2 p317 q317
                  cases e317
                  replace hx317_0 := (HB.out.cell (World.block_lt_of_cell? w _ hx317_0)).trans hx317_0
                  replace hx317_1 := (HB.out.cell (World.block_lt_of_cell? w _ hx317_1)).trans hx317_1
                  replace hx317_2 := (HB.out.cell (World.block_lt_of_cell? w _ hx317_2)).trans hx317_2
                  replace hx317_3 := (HB.out.cell (World.block_lt_of_cell? w _ hx317_3)).trans hx317_3
                  replace hx317_4 := (HB.out.cell (World.block_lt_of_cell? w _ hx317_4)).trans hx317_4
                  replace hx317_5 := (HB.out.cell (World.block_lt_of_cell? w _ hx317_5)).trans hx317_5
                  replace p317 := eq_true p317
                  replace q317 := eq_true q317
                  go_wp2
                  go_roundg k2
                  case measure => have := HJ5.out; have := HK2.out; omega
                  case rel => exact ⟨(x10_2), (wrap64 (x11_2 + 1)), (by first | rfl | (simp; done) | (simp [*]; done)), H', ⟨by have := HJ5.out; have := HK2.out; omega⟩, ⟨by (with_reducible repeat (first | apply Kd.R_alloc | apply Kd.R_drewN | apply Kd.R_drew)); exact HO_10.out⟩, ⟨by (with_reducible repeat (first | refine blk_drewN ?_ _ | refine blk_drew ?_ | refine blk_alloc ?_ _)); exact BK316.out⟩, ⟨by repeat (first | (with_reducible first | exact HB.out | apply below_alloc | apply pw_below_drewN | apply below_drew1 | refine below_set ?_ GE316.out) | exact HB.out)⟩⟩
              · rw [if_neg c22] at H
                exact absurd H (by simp)
            · rw [if_neg c21] at H
              have c21b0 : decide (x11_2 < (y307.length : Int)) = false := decide_eq_false c21
              clear c21
              replace H := Option.bind_eq_some_iff.mp H
              obtain ⟨⟨t323, t326⟩, A270, H⟩ := H
              replace H : ((paint_Seen.f y307 a1 a2 1 1).bind fun bt327 => ((paint_Hit.f y307 a1 a2).bind fun bt331 => ((paint_Hit.f bt327.1 a1 a2).bind fun bt333 => (if t306 = true then (if t326 = 0 then (if bt327.2 = 0 then ((paint_Same.f k2 t323 x10_2).bind fun t335 => (if t335 = true then (if bt331.1 = bt333.1 then (some (bt331.2 == bt333.2)) else (some false)) else (some false))) else (some false)) else (some false)) else (some false))))) = some r := H
              have A27 := Aside0.mk A270
              clear A270
              replace H := Option.bind_eq_some_iff.mp H
              obtain ⟨⟨t327, t330⟩, A280, H⟩ := H
              replace H : ((paint_Hit.f y307 a1 a2).bind fun bt331 => ((paint_Hit.f t327 a1 a2).bind fun bt333 => (if t306 = true then (if t326 = 0 then (if t330 = 0 then ((paint_Same.f k2 t323 x10_2).bind fun t335 => (if t335 = true then (if bt331.1 = bt333.1 then (some (bt331.2 == bt333.2)) else (some false)) else (some false))) else (some false)) else (some false)) else (some false)))) = some r := H
              have A28 := Aside0.mk A280
              clear A280
              replace H := Option.bind_eq_some_iff.mp H
              obtain ⟨⟨t331, t332⟩, A290, H⟩ := H
              replace H : ((paint_Hit.f t327 a1 a2).bind fun bt333 => (if t306 = true then (if t326 = 0 then (if t330 = 0 then ((paint_Same.f k2 t323 x10_2).bind fun t335 => (if t335 = true then (if t331 = bt333.1 then (some (t332 == bt333.2)) else (some false)) else (some false))) else (some false)) else (some false)) else (some false))) = some r := H
              have A29 := Aside0.mk A290
              clear A290
              replace H := Option.bind_eq_some_iff.mp H
              obtain ⟨⟨t333, t334⟩, A300, H⟩ := H
              replace H : (if t306 = true then (if t326 = 0 then (if t330 = 0 then ((paint_Same.f k2 t323 x10_2).bind fun t335 => (if t335 = true then (if t331 = t333 then (some (t332 == t334)) else (some false)) else (some false))) else (some false)) else (some false)) else (some false)) = some r := H
              have A30 := Aside0.mk A300
              clear A300
              by_cases c31 : t306 = true
              · subst c31
                have H1 : (if t326 = 0 then (if t330 = 0 then ((paint_Same.f k2 t323 x10_2).bind fun t335 => (if t335 = true then (if t331 = t333 then (some (t332 == t334)) else (some false)) else (some false))) else (some false)) else (some false)) = some r := by rw [if_pos rfl] at H; exact H
                clear H
                have H := H1
                clear H1
                by_cases c32 : t326 = 0
                · rw [if_pos c32] at H
                  have c32b0 : (t326 == 0) = true := beq_iff_eq.mpr c32
                  have c32b1 : (t326 != 0) = false := bne_eq_false_iff_eq.mpr c32
                  clear c32
                  by_cases c33 : t330 = 0
                  · rw [if_pos c33] at H
                    have c33b0 : (t330 == 0) = true := beq_iff_eq.mpr c33
                    have c33b1 : (t330 != 0) = false := bne_eq_false_iff_eq.mpr c33
                    clear c33
                    replace H := Option.bind_eq_some_iff.mp H
                    obtain ⟨t335, A340, H⟩ := H
                    replace H : (if t335 = true then (if t331 = t333 then (some (t332 == t334)) else (some false)) else (some false)) = some r := H
                    have A34 := Aside0.mk A340
                    clear A340
                    by_cases c35 : t335 = true
                    · subst c35
                      have H1 : (if t331 = t333 then (some (t332 == t334)) else (some false)) = some r := by rw [if_pos rfl] at H; exact H
                      clear H
                      have H := H1
                      clear H1
                      by_cases c36 : t331 = t333
                      · rw [if_pos c36] at H
                        have c36b0 : (t331 == t333) = true := beq_iff_eq.mpr c36
                        have c36b1 : (t331 != t333) = false := bne_eq_false_iff_eq.mpr c36
                        clear c36
                        obtain rfl := Option.some.inj H
                        have hcz37_0 : wr.cell? ⟨gb316, 0, none⟩ = some (.int .i64 t311) := (blk_cell BK316.out 0).trans rfl
                        have hcz37_1 : wr.cell? ⟨gb316, 1, none⟩ = some (.int .i64 t312) := (blk_cell BK316.out 1).trans rfl
                        have hcz37_2 : wr.cell? ⟨gb316, 2, none⟩ = some (.int .i64 t313) := (blk_cell BK316.out 2).trans rfl
                        have hcz37_3 : wr.cell? ⟨gb316, 3, none⟩ = some (.int .i64 t314) := (blk_cell BK316.out 3).trans rfl
                        have hfz37_0 := blk_frozen BK316.out 0
                        have hfz37_1 := blk_frozen BK316.out 1
                        have hfz37_2 := blk_frozen BK316.out 2
                        have hfz37_3 := blk_frozen BK316.out 3
                        go_wp2_with (first | ((with_reducible refine gate_callee (f := 21) rfl ?_); refine goesL_ (some 89) rfl rfl Tryd.func21 (by kernel_rfl) rfl #[.slice A0 y307.length c0, .agg #[.int .i64 t311, .int .i64 t312, .int .i64 t313, .int .i64 t314]] rfl (by (try simp only [List.map_toArray, List.map_cons, List.map_nil]); first | done | rfl | (simp only [List.length_drop, List.length_take]; rfl)) ?_; (with_reducible refine (paint_Seen.calls _ _ y307 t311 t312 t313 t314 t323 t326 _ ?side1 ?side2 A27.out (GOK.below HG.out (by repeat (first | (with_reducible first | exact HB.out | apply below_alloc | apply pw_below_drewN | apply below_drew1 | refine below_set ?_ GE316.out) | exact HB.out)))).mono ?_); (case side1 => repeat (first | exact (Kd.C_below HR310.out HB.out) | (with_reducible refine Kd.C_alloc ?_ _) | (with_reducible refine Kd.C_drewN ?_ _) | (with_reducible refine Kd.C_drew ?_))); (case side2 => exact HC310.out); rintro e w38 ⟨v324, rfl, ho0, hb⟩; refine ⟨_, rfl, ?_⟩; have n0_ := Aside0.mk (Kd.R_elder' (by (with_reducible repeat (first | apply Kd.R_alloc | apply Kd.R_drewN | apply Kd.R_drew)); exact HO_10.out) (Kd.R_base ho0) hb); have n1_ := Aside0.mk (Kd.R_lower (Kd.R_new' ho0 (Kd.R_lt (by (with_reducible repeat (first | apply Kd.R_alloc | apply Kd.R_drewN | apply Kd.R_drew)); exact HO_10.out))) (below_size (by repeat (first | (with_reducible first | exact HB.out | apply below_alloc | apply pw_below_drewN | apply below_drew1 | refine below_set ?_ GE316.out) | exact HB.out)))); have n2_ := Aside0.mk (blk_below (g := gb316) (o := .cells #[.int .i64 t311, .int .i64 t312, .int .i64 t313, .int .i64 t314] 30 (0, 0)) (by (with_reducible repeat (first | refine blk_drewN ?_ _ | refine blk_drew ?_ | refine blk_alloc ?_ _)); exact BK316.out) hb); have n3_ := Aside0.mk (below_step (by repeat (first | (with_reducible first | exact HB.out | apply below_alloc | apply pw_below_drewN | apply below_drew1 | refine below_set ?_ GE316.out) | exact HB.out)) hb); clear HO_10; clear BK316; clear HB; have HO_10 := n0_; have HO325 := n1_; have BK316 := n2_; have HB := n3_; clear n0_ n1_ n2_ n3_; (try clear hb); (try clear hb2); (try clear hk); (try clear hi); (try clear ho0)) | ((with_reducible refine gate_callee (f := 21) rfl ?_); refine goesL_ (some 97) rfl rfl Tryd.func21 (by kernel_rfl) rfl #[.slice A0 y307.length c0, .agg #[.int .i64 a1, .int .i64 a2, .int .i64 1, .int .i64 1]] rfl (by (try simp only [List.map_toArray, List.map_cons, List.map_nil]); first | done | rfl | (simp only [List.length_drop, List.length_take]; rfl)) ?_; (with_reducible refine (paint_Seen.calls _ _ y307 a1 a2 1 1 t327 t330 _ ?side1 ?side2 A28.out (GOK.below HG.out (by repeat (first | (with_reducible first | exact HB.out | apply below_alloc | apply pw_below_drewN | apply below_drew1 | refine below_set ?_ GE316.out) | exact HB.out)))).mono ?_); (case side1 => repeat (first | exact (Kd.C_below HR310.out HB.out) | (with_reducible refine Kd.C_alloc ?_ _) | (with_reducible refine Kd.C_drewN ?_ _) | (with_reducible refine Kd.C_drew ?_))); (case side2 => exact HC310.out); rintro e w39 ⟨v328, rfl, ho0, hb⟩; refine ⟨_, rfl, ?_⟩; have n0_ := Aside0.mk (Kd.R_elder' (by (with_reducible repeat (first | apply Kd.R_alloc | apply Kd.R_drewN | apply Kd.R_drew)); exact HO_10.out) (Kd.R_base ho0) hb); have n1_ := Aside0.mk (Kd.R_elder' (by (with_reducible repeat (first | apply Kd.R_alloc | apply Kd.R_drewN | apply Kd.R_drew)); exact HO325.out) (Kd.R_base ho0) hb); have n2_ := Aside0.mk (Kd.R_lower (Kd.R_new' (Kd.R_new' ho0 (Kd.R_lt (by (with_reducible repeat (first | apply Kd.R_alloc | apply Kd.R_drewN | apply Kd.R_drew)); exact HO_10.out))) (Kd.R_lt (by (with_reducible repeat (first | apply Kd.R_alloc | apply Kd.R_drewN | apply Kd.R_drew)); exact HO325.out))) (below_size (by repeat (first | (with_reducible first | exact HB.out | apply below_alloc | apply pw_below_drewN | apply below_drew1 | refine below_set ?_ GE316.out) | exact HB.out)))); have n3_ := Aside0.mk (blk_below (g := gb316) (o := .cells #[.int .i64 t311, .int .i64 t312, .int .i64 t313, .int .i64 t314] 30 (0, 0)) (by (with_reducible repeat (first | refine blk_drewN ?_ _ | refine blk_drew ?_ | refine blk_alloc ?_ _)); exact BK316.out) hb); have n4_ := Aside0.mk (below_step (by repeat (first | (with_reducible first | exact HB.out | apply below_alloc | apply pw_below_drewN | apply below_drew1 | refine below_set ?_ GE316.out) | exact HB.out)) hb); clear HO_10; clear HO325; clear BK316; clear HB; have HO_10 := n0_; have HO325 := n1_; have HO329 := n2_; have BK316 := n3_; have HB := n4_; clear n0_ n1_ n2_ n3_ n4_; (try clear hb); (try clear hb2); (try clear hk); (try clear hi); (try clear ho0)) | ((with_reducible refine gate_callee (f := 19) rfl ?_); refine goesL_ (some 104) rfl rfl Tryd.func19 (by kernel_rfl) rfl #[.slice A0 y307.length c0, .int .i64 a1, .int .i64 a2] rfl (by (try simp only [List.map_toArray, List.map_cons, List.map_nil]); first | done | rfl | (simp only [List.length_drop, List.length_take]; rfl)) ?_; (with_reducible refine (paint_Hit.calls _ _ y307 a1 a2 t331 t332 _ ?side1 ?side2 A29.out (GOK.below HG.out (by repeat (first | (with_reducible first | exact HB.out | apply below_alloc | apply pw_below_drewN | apply below_drew1 | refine below_set ?_ GE316.out) | exact HB.out)))).mono ?_); (case side1 => repeat (first | exact (Kd.C_below HR310.out HB.out) | (with_reducible refine Kd.C_alloc ?_ _) | (with_reducible refine Kd.C_drewN ?_ _) | (with_reducible refine Kd.C_drew ?_))); (case side2 => exact HC310.out); rintro e w40 ⟨rfl, hb⟩; refine ⟨_, rfl, ?_⟩; have n0_ := Aside0.mk (Kd.R_below (by (with_reducible repeat (first | apply Kd.R_alloc | apply Kd.R_drewN | apply Kd.R_drew)); exact HO_10.out) hb); have n1_ := Aside0.mk (Kd.R_below (by (with_reducible repeat (first | apply Kd.R_alloc | apply Kd.R_drewN | apply Kd.R_drew)); exact HO325.out) hb); have n2_ := Aside0.mk (Kd.R_below (by (with_reducible repeat (first | apply Kd.R_alloc | apply Kd.R_drewN | apply Kd.R_drew)); exact HO329.out) hb); have n3_ := Aside0.mk (blk_below (g := gb316) (o := .cells #[.int .i64 t311, .int .i64 t312, .int .i64 t313, .int .i64 t314] 30 (0, 0)) (by (with_reducible repeat (first | refine blk_drewN ?_ _ | refine blk_drew ?_ | refine blk_alloc ?_ _)); exact BK316.out) hb); have n4_ := Aside0.mk (below_step (by repeat (first | (with_reducible first | exact HB.out | apply below_alloc | apply pw_below_drewN | apply below_drew1 | refine below_set ?_ GE316.out) | exact HB.out)) hb); clear HO_10; clear HO325; clear HO329; clear BK316; clear HB; have HO_10 := n0_; have HO325 := n1_; have HO329 := n2_; have BK316 := n3_; have HB := n4_; clear n0_ n1_ n2_ n3_ n4_; (try clear hb); (try clear hb2); (try clear hk); (try clear hi); obtain ⟨Ao41, co41, eo41⟩ := Kd.R_slice HO329.out; subst eo41) | ((with_reducible refine gate_callee (f := 19) rfl ?_); refine goesL_ (some 111) rfl rfl Tryd.func19 (by kernel_rfl) rfl #[.slice Ao41 t327.length co41, .int .i64 a1, .int .i64 a2] rfl (by (try simp only [List.map_toArray, List.map_cons, List.map_nil]); first | done | rfl | (simp only [List.length_drop, List.length_take]; rfl)) ?_; (with_reducible refine (paint_Hit.calls _ _ t327 a1 a2 t333 t334 _ ?side1 ?side2 A30.out (GOK.below HG.out (by repeat (first | (with_reducible first | exact HB.out | apply below_alloc | apply pw_below_drewN | apply below_drew1 | refine below_set ?_ GE316.out) | exact HB.out)))).mono ?_); (case side1 => repeat (first | exact (Kd.R_reads' HO329.out).2.2 | (with_reducible refine Kd.C_alloc ?_ _) | (with_reducible refine Kd.C_drewN ?_ _) | (with_reducible refine Kd.C_drew ?_))); (case side2 => exact (Kd.R_reads' HO329.out).2.1); rintro e w42 ⟨rfl, hb⟩; refine ⟨_, rfl, ?_⟩; have n0_ := Aside0.mk (Kd.R_below (by (with_reducible repeat (first | apply Kd.R_alloc | apply Kd.R_drewN | apply Kd.R_drew)); exact HO_10.out) hb); have n1_ := Aside0.mk (Kd.R_below (by (with_reducible repeat (first | apply Kd.R_alloc | apply Kd.R_drewN | apply Kd.R_drew)); exact HO325.out) hb); have n2_ := Aside0.mk (Kd.R_below (by (with_reducible repeat (first | apply Kd.R_alloc | apply Kd.R_drewN | apply Kd.R_drew)); exact HO329.out) hb); have n3_ := Aside0.mk (blk_below (g := gb316) (o := .cells #[.int .i64 t311, .int .i64 t312, .int .i64 t313, .int .i64 t314] 30 (0, 0)) (by (with_reducible repeat (first | refine blk_drewN ?_ _ | refine blk_drew ?_ | refine blk_alloc ?_ _)); exact BK316.out) hb); have n4_ := Aside0.mk (below_step (by repeat (first | (with_reducible first | exact HB.out | apply below_alloc | apply pw_below_drewN | apply below_drew1 | refine below_set ?_ GE316.out) | exact HB.out)) hb); clear HO_10; clear HO325; clear HO329; clear BK316; clear HB; have HO_10 := n0_; have HO325 := n1_; have HO329 := n2_; have BK316 := n3_; have HB := n4_; clear n0_ n1_ n2_ n3_ n4_; (try clear hb); (try clear hb2); (try clear hk); (try clear hi); obtain ⟨Ao43, co43, eo43⟩ := Kd.R_slice HO325.out; subst eo43; obtain ⟨Ao44, co44, eo44⟩ := Kd.R_slice HO_10.out; subst eo44) | (go_at_call 27; refine calls_of_args (args' := #[.slice Ao43 t323.length co43, .slice Ao44 x10_2.length co44]) (by (try simp only [List.map_toArray, List.map_cons, List.map_nil]); first | done | rfl | (simp only [List.length_drop, List.length_take]; rfl)) ?_; (with_reducible refine (paint_Same.calls k2 _ _ t323 _ _ x10_2 true _ ?side1 ?side2 ?side3 ?side4 A34.out).mono ?_); (case side1 => repeat (first | exact (Kd.R_reads' HO325.out).2.2 | (with_reducible refine Kd.C_alloc ?_ _) | (with_reducible refine Kd.C_drewN ?_ _) | (with_reducible refine Kd.C_drew ?_))); (case side2 => exact (Kd.R_reads' HO325.out).2.1); (case side3 => repeat (first | exact (Kd.R_reads' HO_10.out).2.2 | (with_reducible refine Kd.C_alloc ?_ _) | (with_reducible refine Kd.C_drewN ?_ _) | (with_reducible refine Kd.C_drew ?_))); (case side4 => exact (Kd.R_reads' HO_10.out).2.1); rintro e w' ⟨rfl, ⟨nd, rfl⟩⟩))
                        go_ret
                        exact ⟨by first | rfl | (simp [errW_none, errW_some] <;> rfl) | (simp [*, errW_none, errW_some] <;> rfl), by repeat (first | (with_reducible first | exact HB.out | apply below_alloc | apply pw_below_drewN | apply below_drew1 | refine below_set ?_ GE316.out) | exact HB.out)⟩
                      · rw [if_neg c36] at H
                        have c36b0 : (t331 == t333) = false := beq_eq_false_iff_ne.mpr c36
                        have c36b1 : (t331 != t333) = true := bne_iff_ne.mpr c36
                        obtain rfl := Option.some.inj H
                        have hcz45_0 : wr.cell? ⟨gb316, 0, none⟩ = some (.int .i64 t311) := (blk_cell BK316.out 0).trans rfl
                        have hcz45_1 : wr.cell? ⟨gb316, 1, none⟩ = some (.int .i64 t312) := (blk_cell BK316.out 1).trans rfl
                        have hcz45_2 : wr.cell? ⟨gb316, 2, none⟩ = some (.int .i64 t313) := (blk_cell BK316.out 2).trans rfl
                        have hcz45_3 : wr.cell? ⟨gb316, 3, none⟩ = some (.int .i64 t314) := (blk_cell BK316.out 3).trans rfl
                        have hfz45_0 := blk_frozen BK316.out 0
                        have hfz45_1 := blk_frozen BK316.out 1
                        have hfz45_2 := blk_frozen BK316.out 2
                        have hfz45_3 := blk_frozen BK316.out 3
                        go_wp2_with (first | ((with_reducible refine gate_callee (f := 21) rfl ?_); refine goesL_ (some 89) rfl rfl Tryd.func21 (by kernel_rfl) rfl #[.slice A0 y307.length c0, .agg #[.int .i64 t311, .int .i64 t312, .int .i64 t313, .int .i64 t314]] rfl (by (try simp only [List.map_toArray, List.map_cons, List.map_nil]); first | done | rfl | (simp only [List.length_drop, List.length_take]; rfl)) ?_; (with_reducible refine (paint_Seen.calls _ _ y307 t311 t312 t313 t314 t323 t326 _ ?side1 ?side2 A27.out (GOK.below HG.out (by repeat (first | (with_reducible first | exact HB.out | apply below_alloc | apply pw_below_drewN | apply below_drew1 | refine below_set ?_ GE316.out) | exact HB.out)))).mono ?_); (case side1 => repeat (first | exact (Kd.C_below HR310.out HB.out) | (with_reducible refine Kd.C_alloc ?_ _) | (with_reducible refine Kd.C_drewN ?_ _) | (with_reducible refine Kd.C_drew ?_))); (case side2 => exact HC310.out); rintro e w46 ⟨v324, rfl, ho0, hb⟩; refine ⟨_, rfl, ?_⟩; have n0_ := Aside0.mk (Kd.R_elder' (by (with_reducible repeat (first | apply Kd.R_alloc | apply Kd.R_drewN | apply Kd.R_drew)); exact HO_10.out) (Kd.R_base ho0) hb); have n1_ := Aside0.mk (Kd.R_lower (Kd.R_new' ho0 (Kd.R_lt (by (with_reducible repeat (first | apply Kd.R_alloc | apply Kd.R_drewN | apply Kd.R_drew)); exact HO_10.out))) (below_size (by repeat (first | (with_reducible first | exact HB.out | apply below_alloc | apply pw_below_drewN | apply below_drew1 | refine below_set ?_ GE316.out) | exact HB.out)))); have n2_ := Aside0.mk (blk_below (g := gb316) (o := .cells #[.int .i64 t311, .int .i64 t312, .int .i64 t313, .int .i64 t314] 30 (0, 0)) (by (with_reducible repeat (first | refine blk_drewN ?_ _ | refine blk_drew ?_ | refine blk_alloc ?_ _)); exact BK316.out) hb); have n3_ := Aside0.mk (below_step (by repeat (first | (with_reducible first | exact HB.out | apply below_alloc | apply pw_below_drewN | apply below_drew1 | refine below_set ?_ GE316.out) | exact HB.out)) hb); clear HO_10; clear BK316; clear HB; have HO_10 := n0_; have HO325 := n1_; have BK316 := n2_; have HB := n3_; clear n0_ n1_ n2_ n3_; (try clear hb); (try clear hb2); (try clear hk); (try clear hi); (try clear ho0)) | ((with_reducible refine gate_callee (f := 21) rfl ?_); refine goesL_ (some 97) rfl rfl Tryd.func21 (by kernel_rfl) rfl #[.slice A0 y307.length c0, .agg #[.int .i64 a1, .int .i64 a2, .int .i64 1, .int .i64 1]] rfl (by (try simp only [List.map_toArray, List.map_cons, List.map_nil]); first | done | rfl | (simp only [List.length_drop, List.length_take]; rfl)) ?_; (with_reducible refine (paint_Seen.calls _ _ y307 a1 a2 1 1 t327 t330 _ ?side1 ?side2 A28.out (GOK.below HG.out (by repeat (first | (with_reducible first | exact HB.out | apply below_alloc | apply pw_below_drewN | apply below_drew1 | refine below_set ?_ GE316.out) | exact HB.out)))).mono ?_); (case side1 => repeat (first | exact (Kd.C_below HR310.out HB.out) | (with_reducible refine Kd.C_alloc ?_ _) | (with_reducible refine Kd.C_drewN ?_ _) | (with_reducible refine Kd.C_drew ?_))); (case side2 => exact HC310.out); rintro e w47 ⟨v328, rfl, ho0, hb⟩; refine ⟨_, rfl, ?_⟩; have n0_ := Aside0.mk (Kd.R_elder' (by (with_reducible repeat (first | apply Kd.R_alloc | apply Kd.R_drewN | apply Kd.R_drew)); exact HO_10.out) (Kd.R_base ho0) hb); have n1_ := Aside0.mk (Kd.R_elder' (by (with_reducible repeat (first | apply Kd.R_alloc | apply Kd.R_drewN | apply Kd.R_drew)); exact HO325.out) (Kd.R_base ho0) hb); have n2_ := Aside0.mk (Kd.R_lower (Kd.R_new' (Kd.R_new' ho0 (Kd.R_lt (by (with_reducible repeat (first | apply Kd.R_alloc | apply Kd.R_drewN | apply Kd.R_drew)); exact HO_10.out))) (Kd.R_lt (by (with_reducible repeat (first | apply Kd.R_alloc | apply Kd.R_drewN | apply Kd.R_drew)); exact HO325.out))) (below_size (by repeat (first | (with_reducible first | exact HB.out | apply below_alloc | apply pw_below_drewN | apply below_drew1 | refine below_set ?_ GE316.out) | exact HB.out)))); have n3_ := Aside0.mk (blk_below (g := gb316) (o := .cells #[.int .i64 t311, .int .i64 t312, .int .i64 t313, .int .i64 t314] 30 (0, 0)) (by (with_reducible repeat (first | refine blk_drewN ?_ _ | refine blk_drew ?_ | refine blk_alloc ?_ _)); exact BK316.out) hb); have n4_ := Aside0.mk (below_step (by repeat (first | (with_reducible first | exact HB.out | apply below_alloc | apply pw_below_drewN | apply below_drew1 | refine below_set ?_ GE316.out) | exact HB.out)) hb); clear HO_10; clear HO325; clear BK316; clear HB; have HO_10 := n0_; have HO325 := n1_; have HO329 := n2_; have BK316 := n3_; have HB := n4_; clear n0_ n1_ n2_ n3_ n4_; (try clear hb); (try clear hb2); (try clear hk); (try clear hi); (try clear ho0)) | ((with_reducible refine gate_callee (f := 19) rfl ?_); refine goesL_ (some 104) rfl rfl Tryd.func19 (by kernel_rfl) rfl #[.slice A0 y307.length c0, .int .i64 a1, .int .i64 a2] rfl (by (try simp only [List.map_toArray, List.map_cons, List.map_nil]); first | done | rfl | (simp only [List.length_drop, List.length_take]; rfl)) ?_; (with_reducible refine (paint_Hit.calls _ _ y307 a1 a2 t331 t332 _ ?side1 ?side2 A29.out (GOK.below HG.out (by repeat (first | (with_reducible first | exact HB.out | apply below_alloc | apply pw_below_drewN | apply below_drew1 | refine below_set ?_ GE316.out) | exact HB.out)))).mono ?_); (case side1 => repeat (first | exact (Kd.C_below HR310.out HB.out) | (with_reducible refine Kd.C_alloc ?_ _) | (with_reducible refine Kd.C_drewN ?_ _) | (with_reducible refine Kd.C_drew ?_))); (case side2 => exact HC310.out); rintro e w48 ⟨rfl, hb⟩; refine ⟨_, rfl, ?_⟩; have n0_ := Aside0.mk (Kd.R_below (by (with_reducible repeat (first | apply Kd.R_alloc | apply Kd.R_drewN | apply Kd.R_drew)); exact HO_10.out) hb); have n1_ := Aside0.mk (Kd.R_below (by (with_reducible repeat (first | apply Kd.R_alloc | apply Kd.R_drewN | apply Kd.R_drew)); exact HO325.out) hb); have n2_ := Aside0.mk (Kd.R_below (by (with_reducible repeat (first | apply Kd.R_alloc | apply Kd.R_drewN | apply Kd.R_drew)); exact HO329.out) hb); have n3_ := Aside0.mk (blk_below (g := gb316) (o := .cells #[.int .i64 t311, .int .i64 t312, .int .i64 t313, .int .i64 t314] 30 (0, 0)) (by (with_reducible repeat (first | refine blk_drewN ?_ _ | refine blk_drew ?_ | refine blk_alloc ?_ _)); exact BK316.out) hb); have n4_ := Aside0.mk (below_step (by repeat (first | (with_reducible first | exact HB.out | apply below_alloc | apply pw_below_drewN | apply below_drew1 | refine below_set ?_ GE316.out) | exact HB.out)) hb); clear HO_10; clear HO325; clear HO329; clear BK316; clear HB; have HO_10 := n0_; have HO325 := n1_; have HO329 := n2_; have BK316 := n3_; have HB := n4_; clear n0_ n1_ n2_ n3_ n4_; (try clear hb); (try clear hb2); (try clear hk); (try clear hi); obtain ⟨Ao49, co49, eo49⟩ := Kd.R_slice HO329.out; subst eo49) | ((with_reducible refine gate_callee (f := 19) rfl ?_); refine goesL_ (some 111) rfl rfl Tryd.func19 (by kernel_rfl) rfl #[.slice Ao49 t327.length co49, .int .i64 a1, .int .i64 a2] rfl (by (try simp only [List.map_toArray, List.map_cons, List.map_nil]); first | done | rfl | (simp only [List.length_drop, List.length_take]; rfl)) ?_; (with_reducible refine (paint_Hit.calls _ _ t327 a1 a2 t333 t334 _ ?side1 ?side2 A30.out (GOK.below HG.out (by repeat (first | (with_reducible first | exact HB.out | apply below_alloc | apply pw_below_drewN | apply below_drew1 | refine below_set ?_ GE316.out) | exact HB.out)))).mono ?_); (case side1 => repeat (first | exact (Kd.R_reads' HO329.out).2.2 | (with_reducible refine Kd.C_alloc ?_ _) | (with_reducible refine Kd.C_drewN ?_ _) | (with_reducible refine Kd.C_drew ?_))); (case side2 => exact (Kd.R_reads' HO329.out).2.1); rintro e w50 ⟨rfl, hb⟩; refine ⟨_, rfl, ?_⟩; have n0_ := Aside0.mk (Kd.R_below (by (with_reducible repeat (first | apply Kd.R_alloc | apply Kd.R_drewN | apply Kd.R_drew)); exact HO_10.out) hb); have n1_ := Aside0.mk (Kd.R_below (by (with_reducible repeat (first | apply Kd.R_alloc | apply Kd.R_drewN | apply Kd.R_drew)); exact HO325.out) hb); have n2_ := Aside0.mk (Kd.R_below (by (with_reducible repeat (first | apply Kd.R_alloc | apply Kd.R_drewN | apply Kd.R_drew)); exact HO329.out) hb); have n3_ := Aside0.mk (blk_below (g := gb316) (o := .cells #[.int .i64 t311, .int .i64 t312, .int .i64 t313, .int .i64 t314] 30 (0, 0)) (by (with_reducible repeat (first | refine blk_drewN ?_ _ | refine blk_drew ?_ | refine blk_alloc ?_ _)); exact BK316.out) hb); have n4_ := Aside0.mk (below_step (by repeat (first | (with_reducible first | exact HB.out | apply below_alloc | apply pw_below_drewN | apply below_drew1 | refine below_set ?_ GE316.out) | exact HB.out)) hb); clear HO_10; clear HO325; clear HO329; clear BK316; clear HB; have HO_10 := n0_; have HO325 := n1_; have HO329 := n2_; have BK316 := n3_; have HB := n4_; clear n0_ n1_ n2_ n3_ n4_; (try clear hb); (try clear hb2); (try clear hk); (try clear hi); obtain ⟨Ao51, co51, eo51⟩ := Kd.R_slice HO325.out; subst eo51; obtain ⟨Ao52, co52, eo52⟩ := Kd.R_slice HO_10.out; subst eo52) | (go_at_call 27; refine calls_of_args (args' := #[.slice Ao51 t323.length co51, .slice Ao52 x10_2.length co52]) (by (try simp only [List.map_toArray, List.map_cons, List.map_nil]); first | done | rfl | (simp only [List.length_drop, List.length_take]; rfl)) ?_; (with_reducible refine (paint_Same.calls k2 _ _ t323 _ _ x10_2 true _ ?side1 ?side2 ?side3 ?side4 A34.out).mono ?_); (case side1 => repeat (first | exact (Kd.R_reads' HO325.out).2.2 | (with_reducible refine Kd.C_alloc ?_ _) | (with_reducible refine Kd.C_drewN ?_ _) | (with_reducible refine Kd.C_drew ?_))); (case side2 => exact (Kd.R_reads' HO325.out).2.1); (case side3 => repeat (first | exact (Kd.R_reads' HO_10.out).2.2 | (with_reducible refine Kd.C_alloc ?_ _) | (with_reducible refine Kd.C_drewN ?_ _) | (with_reducible refine Kd.C_drew ?_))); (case side4 => exact (Kd.R_reads' HO_10.out).2.1); rintro e w' ⟨rfl, ⟨nd, rfl⟩⟩))
                        go_ret
                        exact ⟨by first | rfl | (simp [errW_none, errW_some] <;> rfl) | (simp [*, errW_none, errW_some] <;> rfl), by repeat (first | (with_reducible first | exact HB.out | apply below_alloc | apply pw_below_drewN | apply below_drew1 | refine below_set ?_ GE316.out) | exact HB.out)⟩
                    · replace c35 := Bool.eq_false_iff.mpr c35
                      subst c35
                      have H1 : (some false) = some r := by rw [if_neg (show ¬ (false = true) by decide)] at H; exact H
                      clear H
                      have H := H1
                      clear H1
                      obtain rfl := Option.some.inj H
                      have hcz53_0 : wr.cell? ⟨gb316, 0, none⟩ = some (.int .i64 t311) := (blk_cell BK316.out 0).trans rfl
                      have hcz53_1 : wr.cell? ⟨gb316, 1, none⟩ = some (.int .i64 t312) := (blk_cell BK316.out 1).trans rfl
                      have hcz53_2 : wr.cell? ⟨gb316, 2, none⟩ = some (.int .i64 t313) := (blk_cell BK316.out 2).trans rfl
                      have hcz53_3 : wr.cell? ⟨gb316, 3, none⟩ = some (.int .i64 t314) := (blk_cell BK316.out 3).trans rfl
                      have hfz53_0 := blk_frozen BK316.out 0
                      have hfz53_1 := blk_frozen BK316.out 1
                      have hfz53_2 := blk_frozen BK316.out 2
                      have hfz53_3 := blk_frozen BK316.out 3
                      go_wp2_with (first | ((with_reducible refine gate_callee (f := 21) rfl ?_); refine goesL_ (some 89) rfl rfl Tryd.func21 (by kernel_rfl) rfl #[.slice A0 y307.length c0, .agg #[.int .i64 t311, .int .i64 t312, .int .i64 t313, .int .i64 t314]] rfl (by (try simp only [List.map_toArray, List.map_cons, List.map_nil]); first | done | rfl | (simp only [List.length_drop, List.length_take]; rfl)) ?_; (with_reducible refine (paint_Seen.calls _ _ y307 t311 t312 t313 t314 t323 t326 _ ?side1 ?side2 A27.out (GOK.below HG.out (by repeat (first | (with_reducible first | exact HB.out | apply below_alloc | apply pw_below_drewN | apply below_drew1 | refine below_set ?_ GE316.out) | exact HB.out)))).mono ?_); (case side1 => repeat (first | exact (Kd.C_below HR310.out HB.out) | (with_reducible refine Kd.C_alloc ?_ _) | (with_reducible refine Kd.C_drewN ?_ _) | (with_reducible refine Kd.C_drew ?_))); (case side2 => exact HC310.out); rintro e w54 ⟨v324, rfl, ho0, hb⟩; refine ⟨_, rfl, ?_⟩; have n0_ := Aside0.mk (Kd.R_elder' (by (with_reducible repeat (first | apply Kd.R_alloc | apply Kd.R_drewN | apply Kd.R_drew)); exact HO_10.out) (Kd.R_base ho0) hb); have n1_ := Aside0.mk (Kd.R_lower (Kd.R_new' ho0 (Kd.R_lt (by (with_reducible repeat (first | apply Kd.R_alloc | apply Kd.R_drewN | apply Kd.R_drew)); exact HO_10.out))) (below_size (by repeat (first | (with_reducible first | exact HB.out | apply below_alloc | apply pw_below_drewN | apply below_drew1 | refine below_set ?_ GE316.out) | exact HB.out)))); have n2_ := Aside0.mk (blk_below (g := gb316) (o := .cells #[.int .i64 t311, .int .i64 t312, .int .i64 t313, .int .i64 t314] 30 (0, 0)) (by (with_reducible repeat (first | refine blk_drewN ?_ _ | refine blk_drew ?_ | refine blk_alloc ?_ _)); exact BK316.out) hb); have n3_ := Aside0.mk (below_step (by repeat (first | (with_reducible first | exact HB.out | apply below_alloc | apply pw_below_drewN | apply below_drew1 | refine below_set ?_ GE316.out) | exact HB.out)) hb); clear HO_10; clear BK316; clear HB; have HO_10 := n0_; have HO325 := n1_; have BK316 := n2_; have HB := n3_; clear n0_ n1_ n2_ n3_; (try clear hb); (try clear hb2); (try clear hk); (try clear hi); (try clear ho0)) | ((with_reducible refine gate_callee (f := 21) rfl ?_); refine goesL_ (some 97) rfl rfl Tryd.func21 (by kernel_rfl) rfl #[.slice A0 y307.length c0, .agg #[.int .i64 a1, .int .i64 a2, .int .i64 1, .int .i64 1]] rfl (by (try simp only [List.map_toArray, List.map_cons, List.map_nil]); first | done | rfl | (simp only [List.length_drop, List.length_take]; rfl)) ?_; (with_reducible refine (paint_Seen.calls _ _ y307 a1 a2 1 1 t327 t330 _ ?side1 ?side2 A28.out (GOK.below HG.out (by repeat (first | (with_reducible first | exact HB.out | apply below_alloc | apply pw_below_drewN | apply below_drew1 | refine below_set ?_ GE316.out) | exact HB.out)))).mono ?_); (case side1 => repeat (first | exact (Kd.C_below HR310.out HB.out) | (with_reducible refine Kd.C_alloc ?_ _) | (with_reducible refine Kd.C_drewN ?_ _) | (with_reducible refine Kd.C_drew ?_))); (case side2 => exact HC310.out); rintro e w55 ⟨v328, rfl, ho0, hb⟩; refine ⟨_, rfl, ?_⟩; have n0_ := Aside0.mk (Kd.R_elder' (by (with_reducible repeat (first | apply Kd.R_alloc | apply Kd.R_drewN | apply Kd.R_drew)); exact HO_10.out) (Kd.R_base ho0) hb); have n1_ := Aside0.mk (Kd.R_elder' (by (with_reducible repeat (first | apply Kd.R_alloc | apply Kd.R_drewN | apply Kd.R_drew)); exact HO325.out) (Kd.R_base ho0) hb); have n2_ := Aside0.mk (Kd.R_lower (Kd.R_new' (Kd.R_new' ho0 (Kd.R_lt (by (with_reducible repeat (first | apply Kd.R_alloc | apply Kd.R_drewN | apply Kd.R_drew)); exact HO_10.out))) (Kd.R_lt (by (with_reducible repeat (first | apply Kd.R_alloc | apply Kd.R_drewN | apply Kd.R_drew)); exact HO325.out))) (below_size (by repeat (first | (with_reducible first | exact HB.out | apply below_alloc | apply pw_below_drewN | apply below_drew1 | refine below_set ?_ GE316.out) | exact HB.out)))); have n3_ := Aside0.mk (blk_below (g := gb316) (o := .cells #[.int .i64 t311, .int .i64 t312, .int .i64 t313, .int .i64 t314] 30 (0, 0)) (by (with_reducible repeat (first | refine blk_drewN ?_ _ | refine blk_drew ?_ | refine blk_alloc ?_ _)); exact BK316.out) hb); have n4_ := Aside0.mk (below_step (by repeat (first | (with_reducible first | exact HB.out | apply below_alloc | apply pw_below_drewN | apply below_drew1 | refine below_set ?_ GE316.out) | exact HB.out)) hb); clear HO_10; clear HO325; clear BK316; clear HB; have HO_10 := n0_; have HO325 := n1_; have HO329 := n2_; have BK316 := n3_; have HB := n4_; clear n0_ n1_ n2_ n3_ n4_; (try clear hb); (try clear hb2); (try clear hk); (try clear hi); (try clear ho0)) | ((with_reducible refine gate_callee (f := 19) rfl ?_); refine goesL_ (some 104) rfl rfl Tryd.func19 (by kernel_rfl) rfl #[.slice A0 y307.length c0, .int .i64 a1, .int .i64 a2] rfl (by (try simp only [List.map_toArray, List.map_cons, List.map_nil]); first | done | rfl | (simp only [List.length_drop, List.length_take]; rfl)) ?_; (with_reducible refine (paint_Hit.calls _ _ y307 a1 a2 t331 t332 _ ?side1 ?side2 A29.out (GOK.below HG.out (by repeat (first | (with_reducible first | exact HB.out | apply below_alloc | apply pw_below_drewN | apply below_drew1 | refine below_set ?_ GE316.out) | exact HB.out)))).mono ?_); (case side1 => repeat (first | exact (Kd.C_below HR310.out HB.out) | (with_reducible refine Kd.C_alloc ?_ _) | (with_reducible refine Kd.C_drewN ?_ _) | (with_reducible refine Kd.C_drew ?_))); (case side2 => exact HC310.out); rintro e w56 ⟨rfl, hb⟩; refine ⟨_, rfl, ?_⟩; have n0_ := Aside0.mk (Kd.R_below (by (with_reducible repeat (first | apply Kd.R_alloc | apply Kd.R_drewN | apply Kd.R_drew)); exact HO_10.out) hb); have n1_ := Aside0.mk (Kd.R_below (by (with_reducible repeat (first | apply Kd.R_alloc | apply Kd.R_drewN | apply Kd.R_drew)); exact HO325.out) hb); have n2_ := Aside0.mk (Kd.R_below (by (with_reducible repeat (first | apply Kd.R_alloc | apply Kd.R_drewN | apply Kd.R_drew)); exact HO329.out) hb); have n3_ := Aside0.mk (blk_below (g := gb316) (o := .cells #[.int .i64 t311, .int .i64 t312, .int .i64 t313, .int .i64 t314] 30 (0, 0)) (by (with_reducible repeat (first | refine blk_drewN ?_ _ | refine blk_drew ?_ | refine blk_alloc ?_ _)); exact BK316.out) hb); have n4_ := Aside0.mk (below_step (by repeat (first | (with_reducible first | exact HB.out | apply below_alloc | apply pw_below_drewN | apply below_drew1 | refine below_set ?_ GE316.out) | exact HB.out)) hb); clear HO_10; clear HO325; clear HO329; clear BK316; clear HB; have HO_10 := n0_; have HO325 := n1_; have HO329 := n2_; have BK316 := n3_; have HB := n4_; clear n0_ n1_ n2_ n3_ n4_; (try clear hb); (try clear hb2); (try clear hk); (try clear hi); obtain ⟨Ao57, co57, eo57⟩ := Kd.R_slice HO329.out; subst eo57) | ((with_reducible refine gate_callee (f := 19) rfl ?_); refine goesL_ (some 111) rfl rfl Tryd.func19 (by kernel_rfl) rfl #[.slice Ao57 t327.length co57, .int .i64 a1, .int .i64 a2] rfl (by (try simp only [List.map_toArray, List.map_cons, List.map_nil]); first | done | rfl | (simp only [List.length_drop, List.length_take]; rfl)) ?_; (with_reducible refine (paint_Hit.calls _ _ t327 a1 a2 t333 t334 _ ?side1 ?side2 A30.out (GOK.below HG.out (by repeat (first | (with_reducible first | exact HB.out | apply below_alloc | apply pw_below_drewN | apply below_drew1 | refine below_set ?_ GE316.out) | exact HB.out)))).mono ?_); (case side1 => repeat (first | exact (Kd.R_reads' HO329.out).2.2 | (with_reducible refine Kd.C_alloc ?_ _) | (with_reducible refine Kd.C_drewN ?_ _) | (with_reducible refine Kd.C_drew ?_))); (case side2 => exact (Kd.R_reads' HO329.out).2.1); rintro e w58 ⟨rfl, hb⟩; refine ⟨_, rfl, ?_⟩; have n0_ := Aside0.mk (Kd.R_below (by (with_reducible repeat (first | apply Kd.R_alloc | apply Kd.R_drewN | apply Kd.R_drew)); exact HO_10.out) hb); have n1_ := Aside0.mk (Kd.R_below (by (with_reducible repeat (first | apply Kd.R_alloc | apply Kd.R_drewN | apply Kd.R_drew)); exact HO325.out) hb); have n2_ := Aside0.mk (Kd.R_below (by (with_reducible repeat (first | apply Kd.R_alloc | apply Kd.R_drewN | apply Kd.R_drew)); exact HO329.out) hb); have n3_ := Aside0.mk (blk_below (g := gb316) (o := .cells #[.int .i64 t311, .int .i64 t312, .int .i64 t313, .int .i64 t314] 30 (0, 0)) (by (with_reducible repeat (first | refine blk_drewN ?_ _ | refine blk_drew ?_ | refine blk_alloc ?_ _)); exact BK316.out) hb); have n4_ := Aside0.mk (below_step (by repeat (first | (with_reducible first | exact HB.out | apply below_alloc | apply pw_below_drewN | apply below_drew1 | refine below_set ?_ GE316.out) | exact HB.out)) hb); clear HO_10; clear HO325; clear HO329; clear BK316; clear HB; have HO_10 := n0_; have HO325 := n1_; have HO329 := n2_; have BK316 := n3_; have HB := n4_; clear n0_ n1_ n2_ n3_ n4_; (try clear hb); (try clear hb2); (try clear hk); (try clear hi); obtain ⟨Ao59, co59, eo59⟩ := Kd.R_slice HO325.out; subst eo59; obtain ⟨Ao60, co60, eo60⟩ := Kd.R_slice HO_10.out; subst eo60) | (go_at_call 27; refine calls_of_args (args' := #[.slice Ao59 t323.length co59, .slice Ao60 x10_2.length co60]) (by (try simp only [List.map_toArray, List.map_cons, List.map_nil]); first | done | rfl | (simp only [List.length_drop, List.length_take]; rfl)) ?_; (with_reducible refine (paint_Same.calls k2 _ _ t323 _ _ x10_2 false _ ?side1 ?side2 ?side3 ?side4 A34.out).mono ?_); (case side1 => repeat (first | exact (Kd.R_reads' HO325.out).2.2 | (with_reducible refine Kd.C_alloc ?_ _) | (with_reducible refine Kd.C_drewN ?_ _) | (with_reducible refine Kd.C_drew ?_))); (case side2 => exact (Kd.R_reads' HO325.out).2.1); (case side3 => repeat (first | exact (Kd.R_reads' HO_10.out).2.2 | (with_reducible refine Kd.C_alloc ?_ _) | (with_reducible refine Kd.C_drewN ?_ _) | (with_reducible refine Kd.C_drew ?_))); (case side4 => exact (Kd.R_reads' HO_10.out).2.1); rintro e w' ⟨rfl, ⟨nd, rfl⟩⟩))
                      go_ret
                      exact ⟨by first | rfl | (simp [errW_none, errW_some] <;> rfl) | (simp [*, errW_none, errW_some] <;> rfl), by repeat (first | (with_reducible first | exact HB.out | apply below_alloc | apply pw_below_drewN | apply below_drew1 | refine below_set ?_ GE316.out) | exact HB.out)⟩
                  · rw [if_neg c33] at H
                    have c33b0 : (t330 == 0) = false := beq_eq_false_iff_ne.mpr c33
                    have c33b1 : (t330 != 0) = true := bne_iff_ne.mpr c33
                    obtain rfl := Option.some.inj H
                    have hcz61_0 : wr.cell? ⟨gb316, 0, none⟩ = some (.int .i64 t311) := (blk_cell BK316.out 0).trans rfl
                    have hcz61_1 : wr.cell? ⟨gb316, 1, none⟩ = some (.int .i64 t312) := (blk_cell BK316.out 1).trans rfl
                    have hcz61_2 : wr.cell? ⟨gb316, 2, none⟩ = some (.int .i64 t313) := (blk_cell BK316.out 2).trans rfl
                    have hcz61_3 : wr.cell? ⟨gb316, 3, none⟩ = some (.int .i64 t314) := (blk_cell BK316.out 3).trans rfl
                    have hfz61_0 := blk_frozen BK316.out 0
                    have hfz61_1 := blk_frozen BK316.out 1
                    have hfz61_2 := blk_frozen BK316.out 2
                    have hfz61_3 := blk_frozen BK316.out 3
                    go_wp2_with (first | ((with_reducible refine gate_callee (f := 21) rfl ?_); refine goesL_ (some 89) rfl rfl Tryd.func21 (by kernel_rfl) rfl #[.slice A0 y307.length c0, .agg #[.int .i64 t311, .int .i64 t312, .int .i64 t313, .int .i64 t314]] rfl (by (try simp only [List.map_toArray, List.map_cons, List.map_nil]); first | done | rfl | (simp only [List.length_drop, List.length_take]; rfl)) ?_; (with_reducible refine (paint_Seen.calls _ _ y307 t311 t312 t313 t314 t323 t326 _ ?side1 ?side2 A27.out (GOK.below HG.out (by repeat (first | (with_reducible first | exact HB.out | apply below_alloc | apply pw_below_drewN | apply below_drew1 | refine below_set ?_ GE316.out) | exact HB.out)))).mono ?_); (case side1 => repeat (first | exact (Kd.C_below HR310.out HB.out) | (with_reducible refine Kd.C_alloc ?_ _) | (with_reducible refine Kd.C_drewN ?_ _) | (with_reducible refine Kd.C_drew ?_))); (case side2 => exact HC310.out); rintro e w62 ⟨v324, rfl, ho0, hb⟩; refine ⟨_, rfl, ?_⟩; have n0_ := Aside0.mk (Kd.R_elder' (by (with_reducible repeat (first | apply Kd.R_alloc | apply Kd.R_drewN | apply Kd.R_drew)); exact HO_10.out) (Kd.R_base ho0) hb); have n1_ := Aside0.mk (Kd.R_lower (Kd.R_new' ho0 (Kd.R_lt (by (with_reducible repeat (first | apply Kd.R_alloc | apply Kd.R_drewN | apply Kd.R_drew)); exact HO_10.out))) (below_size (by repeat (first | (with_reducible first | exact HB.out | apply below_alloc | apply pw_below_drewN | apply below_drew1 | refine below_set ?_ GE316.out) | exact HB.out)))); have n2_ := Aside0.mk (blk_below (g := gb316) (o := .cells #[.int .i64 t311, .int .i64 t312, .int .i64 t313, .int .i64 t314] 30 (0, 0)) (by (with_reducible repeat (first | refine blk_drewN ?_ _ | refine blk_drew ?_ | refine blk_alloc ?_ _)); exact BK316.out) hb); have n3_ := Aside0.mk (below_step (by repeat (first | (with_reducible first | exact HB.out | apply below_alloc | apply pw_below_drewN | apply below_drew1 | refine below_set ?_ GE316.out) | exact HB.out)) hb); clear HO_10; clear BK316; clear HB; have HO_10 := n0_; have HO325 := n1_; have BK316 := n2_; have HB := n3_; clear n0_ n1_ n2_ n3_; (try clear hb); (try clear hb2); (try clear hk); (try clear hi); (try clear ho0)) | ((with_reducible refine gate_callee (f := 21) rfl ?_); refine goesL_ (some 97) rfl rfl Tryd.func21 (by kernel_rfl) rfl #[.slice A0 y307.length c0, .agg #[.int .i64 a1, .int .i64 a2, .int .i64 1, .int .i64 1]] rfl (by (try simp only [List.map_toArray, List.map_cons, List.map_nil]); first | done | rfl | (simp only [List.length_drop, List.length_take]; rfl)) ?_; (with_reducible refine (paint_Seen.calls _ _ y307 a1 a2 1 1 t327 t330 _ ?side1 ?side2 A28.out (GOK.below HG.out (by repeat (first | (with_reducible first | exact HB.out | apply below_alloc | apply pw_below_drewN | apply below_drew1 | refine below_set ?_ GE316.out) | exact HB.out)))).mono ?_); (case side1 => repeat (first | exact (Kd.C_below HR310.out HB.out) | (with_reducible refine Kd.C_alloc ?_ _) | (with_reducible refine Kd.C_drewN ?_ _) | (with_reducible refine Kd.C_drew ?_))); (case side2 => exact HC310.out); rintro e w63 ⟨v328, rfl, ho0, hb⟩; refine ⟨_, rfl, ?_⟩; have n0_ := Aside0.mk (Kd.R_elder' (by (with_reducible repeat (first | apply Kd.R_alloc | apply Kd.R_drewN | apply Kd.R_drew)); exact HO_10.out) (Kd.R_base ho0) hb); have n1_ := Aside0.mk (Kd.R_elder' (by (with_reducible repeat (first | apply Kd.R_alloc | apply Kd.R_drewN | apply Kd.R_drew)); exact HO325.out) (Kd.R_base ho0) hb); have n2_ := Aside0.mk (Kd.R_lower (Kd.R_new' (Kd.R_new' ho0 (Kd.R_lt (by (with_reducible repeat (first | apply Kd.R_alloc | apply Kd.R_drewN | apply Kd.R_drew)); exact HO_10.out))) (Kd.R_lt (by (with_reducible repeat (first | apply Kd.R_alloc | apply Kd.R_drewN | apply Kd.R_drew)); exact HO325.out))) (below_size (by repeat (first | (with_reducible first | exact HB.out | apply below_alloc | apply pw_below_drewN | apply below_drew1 | refine below_set ?_ GE316.out) | exact HB.out)))); have n3_ := Aside0.mk (blk_below (g := gb316) (o := .cells #[.int .i64 t311, .int .i64 t312, .int .i64 t313, .int .i64 t314] 30 (0, 0)) (by (with_reducible repeat (first | refine blk_drewN ?_ _ | refine blk_drew ?_ | refine blk_alloc ?_ _)); exact BK316.out) hb); have n4_ := Aside0.mk (below_step (by repeat (first | (with_reducible first | exact HB.out | apply below_alloc | apply pw_below_drewN | apply below_drew1 | refine below_set ?_ GE316.out) | exact HB.out)) hb); clear HO_10; clear HO325; clear BK316; clear HB; have HO_10 := n0_; have HO325 := n1_; have HO329 := n2_; have BK316 := n3_; have HB := n4_; clear n0_ n1_ n2_ n3_ n4_; (try clear hb); (try clear hb2); (try clear hk); (try clear hi); (try clear ho0)) | ((with_reducible refine gate_callee (f := 19) rfl ?_); refine goesL_ (some 104) rfl rfl Tryd.func19 (by kernel_rfl) rfl #[.slice A0 y307.length c0, .int .i64 a1, .int .i64 a2] rfl (by (try simp only [List.map_toArray, List.map_cons, List.map_nil]); first | done | rfl | (simp only [List.length_drop, List.length_take]; rfl)) ?_; (with_reducible refine (paint_Hit.calls _ _ y307 a1 a2 t331 t332 _ ?side1 ?side2 A29.out (GOK.below HG.out (by repeat (first | (with_reducible first | exact HB.out | apply below_alloc | apply pw_below_drewN | apply below_drew1 | refine below_set ?_ GE316.out) | exact HB.out)))).mono ?_); (case side1 => repeat (first | exact (Kd.C_below HR310.out HB.out) | (with_reducible refine Kd.C_alloc ?_ _) | (with_reducible refine Kd.C_drewN ?_ _) | (with_reducible refine Kd.C_drew ?_))); (case side2 => exact HC310.out); rintro e w64 ⟨rfl, hb⟩; refine ⟨_, rfl, ?_⟩; have n0_ := Aside0.mk (Kd.R_below (by (with_reducible repeat (first | apply Kd.R_alloc | apply Kd.R_drewN | apply Kd.R_drew)); exact HO_10.out) hb); have n1_ := Aside0.mk (Kd.R_below (by (with_reducible repeat (first | apply Kd.R_alloc | apply Kd.R_drewN | apply Kd.R_drew)); exact HO325.out) hb); have n2_ := Aside0.mk (Kd.R_below (by (with_reducible repeat (first | apply Kd.R_alloc | apply Kd.R_drewN | apply Kd.R_drew)); exact HO329.out) hb); have n3_ := Aside0.mk (blk_below (g := gb316) (o := .cells #[.int .i64 t311, .int .i64 t312, .int .i64 t313, .int .i64 t314] 30 (0, 0)) (by (with_reducible repeat (first | refine blk_drewN ?_ _ | refine blk_drew ?_ | refine blk_alloc ?_ _)); exact BK316.out) hb); have n4_ := Aside0.mk (below_step (by repeat (first | (with_reducible first | exact HB.out | apply below_alloc | apply pw_below_drewN | apply below_drew1 | refine below_set ?_ GE316.out) | exact HB.out)) hb); clear HO_10; clear HO325; clear HO329; clear BK316; clear HB; have HO_10 := n0_; have HO325 := n1_; have HO329 := n2_; have BK316 := n3_; have HB := n4_; clear n0_ n1_ n2_ n3_ n4_; (try clear hb); (try clear hb2); (try clear hk); (try clear hi); obtain ⟨Ao65, co65, eo65⟩ := Kd.R_slice HO329.out; subst eo65) | ((with_reducible refine gate_callee (f := 19) rfl ?_); refine goesL_ (some 111) rfl rfl Tryd.func19 (by kernel_rfl) rfl #[.slice Ao65 t327.length co65, .int .i64 a1, .int .i64 a2] rfl (by (try simp only [List.map_toArray, List.map_cons, List.map_nil]); first | done | rfl | (simp only [List.length_drop, List.length_take]; rfl)) ?_; (with_reducible refine (paint_Hit.calls _ _ t327 a1 a2 t333 t334 _ ?side1 ?side2 A30.out (GOK.below HG.out (by repeat (first | (with_reducible first | exact HB.out | apply below_alloc | apply pw_below_drewN | apply below_drew1 | refine below_set ?_ GE316.out) | exact HB.out)))).mono ?_); (case side1 => repeat (first | exact (Kd.R_reads' HO329.out).2.2 | (with_reducible refine Kd.C_alloc ?_ _) | (with_reducible refine Kd.C_drewN ?_ _) | (with_reducible refine Kd.C_drew ?_))); (case side2 => exact (Kd.R_reads' HO329.out).2.1); rintro e w66 ⟨rfl, hb⟩; refine ⟨_, rfl, ?_⟩; have n0_ := Aside0.mk (Kd.R_below (by (with_reducible repeat (first | apply Kd.R_alloc | apply Kd.R_drewN | apply Kd.R_drew)); exact HO_10.out) hb); have n1_ := Aside0.mk (Kd.R_below (by (with_reducible repeat (first | apply Kd.R_alloc | apply Kd.R_drewN | apply Kd.R_drew)); exact HO325.out) hb); have n2_ := Aside0.mk (Kd.R_below (by (with_reducible repeat (first | apply Kd.R_alloc | apply Kd.R_drewN | apply Kd.R_drew)); exact HO329.out) hb); have n3_ := Aside0.mk (blk_below (g := gb316) (o := .cells #[.int .i64 t311, .int .i64 t312, .int .i64 t313, .int .i64 t314] 30 (0, 0)) (by (with_reducible repeat (first | refine blk_drewN ?_ _ | refine blk_drew ?_ | refine blk_alloc ?_ _)); exact BK316.out) hb); have n4_ := Aside0.mk (below_step (by repeat (first | (with_reducible first | exact HB.out | apply below_alloc | apply pw_below_drewN | apply below_drew1 | refine below_set ?_ GE316.out) | exact HB.out)) hb); clear HO_10; clear HO325; clear HO329; clear BK316; clear HB; have HO_10 := n0_; have HO325 := n1_; have HO329 := n2_; have BK316 := n3_; have HB := n4_; clear n0_ n1_ n2_ n3_ n4_; (try clear hb); (try clear hb2); (try clear hk); (try clear hi)))
                    go_ret
                    exact ⟨by first | rfl | (simp [errW_none, errW_some] <;> rfl) | (simp [*, errW_none, errW_some] <;> rfl), by repeat (first | (with_reducible first | exact HB.out | apply below_alloc | apply pw_below_drewN | apply below_drew1 | refine below_set ?_ GE316.out) | exact HB.out)⟩
                · rw [if_neg c32] at H
                  have c32b0 : (t326 == 0) = false := beq_eq_false_iff_ne.mpr c32
                  have c32b1 : (t326 != 0) = true := bne_iff_ne.mpr c32
                  obtain rfl := Option.some.inj H
                  have hcz67_0 : wr.cell? ⟨gb316, 0, none⟩ = some (.int .i64 t311) := (blk_cell BK316.out 0).trans rfl
                  have hcz67_1 : wr.cell? ⟨gb316, 1, none⟩ = some (.int .i64 t312) := (blk_cell BK316.out 1).trans rfl
                  have hcz67_2 : wr.cell? ⟨gb316, 2, none⟩ = some (.int .i64 t313) := (blk_cell BK316.out 2).trans rfl
                  have hcz67_3 : wr.cell? ⟨gb316, 3, none⟩ = some (.int .i64 t314) := (blk_cell BK316.out 3).trans rfl
                  have hfz67_0 := blk_frozen BK316.out 0
                  have hfz67_1 := blk_frozen BK316.out 1
                  have hfz67_2 := blk_frozen BK316.out 2
                  have hfz67_3 := blk_frozen BK316.out 3
                  go_wp2_with (first | ((with_reducible refine gate_callee (f := 21) rfl ?_); refine goesL_ (some 89) rfl rfl Tryd.func21 (by kernel_rfl) rfl #[.slice A0 y307.length c0, .agg #[.int .i64 t311, .int .i64 t312, .int .i64 t313, .int .i64 t314]] rfl (by (try simp only [List.map_toArray, List.map_cons, List.map_nil]); first | done | rfl | (simp only [List.length_drop, List.length_take]; rfl)) ?_; (with_reducible refine (paint_Seen.calls _ _ y307 t311 t312 t313 t314 t323 t326 _ ?side1 ?side2 A27.out (GOK.below HG.out (by repeat (first | (with_reducible first | exact HB.out | apply below_alloc | apply pw_below_drewN | apply below_drew1 | refine below_set ?_ GE316.out) | exact HB.out)))).mono ?_); (case side1 => repeat (first | exact (Kd.C_below HR310.out HB.out) | (with_reducible refine Kd.C_alloc ?_ _) | (with_reducible refine Kd.C_drewN ?_ _) | (with_reducible refine Kd.C_drew ?_))); (case side2 => exact HC310.out); rintro e w68 ⟨v324, rfl, ho0, hb⟩; refine ⟨_, rfl, ?_⟩; have n0_ := Aside0.mk (Kd.R_elder' (by (with_reducible repeat (first | apply Kd.R_alloc | apply Kd.R_drewN | apply Kd.R_drew)); exact HO_10.out) (Kd.R_base ho0) hb); have n1_ := Aside0.mk (Kd.R_lower (Kd.R_new' ho0 (Kd.R_lt (by (with_reducible repeat (first | apply Kd.R_alloc | apply Kd.R_drewN | apply Kd.R_drew)); exact HO_10.out))) (below_size (by repeat (first | (with_reducible first | exact HB.out | apply below_alloc | apply pw_below_drewN | apply below_drew1 | refine below_set ?_ GE316.out) | exact HB.out)))); have n2_ := Aside0.mk (blk_below (g := gb316) (o := .cells #[.int .i64 t311, .int .i64 t312, .int .i64 t313, .int .i64 t314] 30 (0, 0)) (by (with_reducible repeat (first | refine blk_drewN ?_ _ | refine blk_drew ?_ | refine blk_alloc ?_ _)); exact BK316.out) hb); have n3_ := Aside0.mk (below_step (by repeat (first | (with_reducible first | exact HB.out | apply below_alloc | apply pw_below_drewN | apply below_drew1 | refine below_set ?_ GE316.out) | exact HB.out)) hb); clear HO_10; clear BK316; clear HB; have HO_10 := n0_; have HO325 := n1_; have BK316 := n2_; have HB := n3_; clear n0_ n1_ n2_ n3_; (try clear hb); (try clear hb2); (try clear hk); (try clear hi); (try clear ho0)) | ((with_reducible refine gate_callee (f := 21) rfl ?_); refine goesL_ (some 97) rfl rfl Tryd.func21 (by kernel_rfl) rfl #[.slice A0 y307.length c0, .agg #[.int .i64 a1, .int .i64 a2, .int .i64 1, .int .i64 1]] rfl (by (try simp only [List.map_toArray, List.map_cons, List.map_nil]); first | done | rfl | (simp only [List.length_drop, List.length_take]; rfl)) ?_; (with_reducible refine (paint_Seen.calls _ _ y307 a1 a2 1 1 t327 t330 _ ?side1 ?side2 A28.out (GOK.below HG.out (by repeat (first | (with_reducible first | exact HB.out | apply below_alloc | apply pw_below_drewN | apply below_drew1 | refine below_set ?_ GE316.out) | exact HB.out)))).mono ?_); (case side1 => repeat (first | exact (Kd.C_below HR310.out HB.out) | (with_reducible refine Kd.C_alloc ?_ _) | (with_reducible refine Kd.C_drewN ?_ _) | (with_reducible refine Kd.C_drew ?_))); (case side2 => exact HC310.out); rintro e w69 ⟨v328, rfl, ho0, hb⟩; refine ⟨_, rfl, ?_⟩; have n0_ := Aside0.mk (Kd.R_elder' (by (with_reducible repeat (first | apply Kd.R_alloc | apply Kd.R_drewN | apply Kd.R_drew)); exact HO_10.out) (Kd.R_base ho0) hb); have n1_ := Aside0.mk (Kd.R_elder' (by (with_reducible repeat (first | apply Kd.R_alloc | apply Kd.R_drewN | apply Kd.R_drew)); exact HO325.out) (Kd.R_base ho0) hb); have n2_ := Aside0.mk (Kd.R_lower (Kd.R_new' (Kd.R_new' ho0 (Kd.R_lt (by (with_reducible repeat (first | apply Kd.R_alloc | apply Kd.R_drewN | apply Kd.R_drew)); exact HO_10.out))) (Kd.R_lt (by (with_reducible repeat (first | apply Kd.R_alloc | apply Kd.R_drewN | apply Kd.R_drew)); exact HO325.out))) (below_size (by repeat (first | (with_reducible first | exact HB.out | apply below_alloc | apply pw_below_drewN | apply below_drew1 | refine below_set ?_ GE316.out) | exact HB.out)))); have n3_ := Aside0.mk (blk_below (g := gb316) (o := .cells #[.int .i64 t311, .int .i64 t312, .int .i64 t313, .int .i64 t314] 30 (0, 0)) (by (with_reducible repeat (first | refine blk_drewN ?_ _ | refine blk_drew ?_ | refine blk_alloc ?_ _)); exact BK316.out) hb); have n4_ := Aside0.mk (below_step (by repeat (first | (with_reducible first | exact HB.out | apply below_alloc | apply pw_below_drewN | apply below_drew1 | refine below_set ?_ GE316.out) | exact HB.out)) hb); clear HO_10; clear HO325; clear BK316; clear HB; have HO_10 := n0_; have HO325 := n1_; have HO329 := n2_; have BK316 := n3_; have HB := n4_; clear n0_ n1_ n2_ n3_ n4_; (try clear hb); (try clear hb2); (try clear hk); (try clear hi); (try clear ho0)) | ((with_reducible refine gate_callee (f := 19) rfl ?_); refine goesL_ (some 104) rfl rfl Tryd.func19 (by kernel_rfl) rfl #[.slice A0 y307.length c0, .int .i64 a1, .int .i64 a2] rfl (by (try simp only [List.map_toArray, List.map_cons, List.map_nil]); first | done | rfl | (simp only [List.length_drop, List.length_take]; rfl)) ?_; (with_reducible refine (paint_Hit.calls _ _ y307 a1 a2 t331 t332 _ ?side1 ?side2 A29.out (GOK.below HG.out (by repeat (first | (with_reducible first | exact HB.out | apply below_alloc | apply pw_below_drewN | apply below_drew1 | refine below_set ?_ GE316.out) | exact HB.out)))).mono ?_); (case side1 => repeat (first | exact (Kd.C_below HR310.out HB.out) | (with_reducible refine Kd.C_alloc ?_ _) | (with_reducible refine Kd.C_drewN ?_ _) | (with_reducible refine Kd.C_drew ?_))); (case side2 => exact HC310.out); rintro e w70 ⟨rfl, hb⟩; refine ⟨_, rfl, ?_⟩; have n0_ := Aside0.mk (Kd.R_below (by (with_reducible repeat (first | apply Kd.R_alloc | apply Kd.R_drewN | apply Kd.R_drew)); exact HO_10.out) hb); have n1_ := Aside0.mk (Kd.R_below (by (with_reducible repeat (first | apply Kd.R_alloc | apply Kd.R_drewN | apply Kd.R_drew)); exact HO325.out) hb); have n2_ := Aside0.mk (Kd.R_below (by (with_reducible repeat (first | apply Kd.R_alloc | apply Kd.R_drewN | apply Kd.R_drew)); exact HO329.out) hb); have n3_ := Aside0.mk (blk_below (g := gb316) (o := .cells #[.int .i64 t311, .int .i64 t312, .int .i64 t313, .int .i64 t314] 30 (0, 0)) (by (with_reducible repeat (first | refine blk_drewN ?_ _ | refine blk_drew ?_ | refine blk_alloc ?_ _)); exact BK316.out) hb); have n4_ := Aside0.mk (below_step (by repeat (first | (with_reducible first | exact HB.out | apply below_alloc | apply pw_below_drewN | apply below_drew1 | refine below_set ?_ GE316.out) | exact HB.out)) hb); clear HO_10; clear HO325; clear HO329; clear BK316; clear HB; have HO_10 := n0_; have HO325 := n1_; have HO329 := n2_; have BK316 := n3_; have HB := n4_; clear n0_ n1_ n2_ n3_ n4_; (try clear hb); (try clear hb2); (try clear hk); (try clear hi); obtain ⟨Ao71, co71, eo71⟩ := Kd.R_slice HO329.out; subst eo71) | ((with_reducible refine gate_callee (f := 19) rfl ?_); refine goesL_ (some 111) rfl rfl Tryd.func19 (by kernel_rfl) rfl #[.slice Ao71 t327.length co71, .int .i64 a1, .int .i64 a2] rfl (by (try simp only [List.map_toArray, List.map_cons, List.map_nil]); first | done | rfl | (simp only [List.length_drop, List.length_take]; rfl)) ?_; (with_reducible refine (paint_Hit.calls _ _ t327 a1 a2 t333 t334 _ ?side1 ?side2 A30.out (GOK.below HG.out (by repeat (first | (with_reducible first | exact HB.out | apply below_alloc | apply pw_below_drewN | apply below_drew1 | refine below_set ?_ GE316.out) | exact HB.out)))).mono ?_); (case side1 => repeat (first | exact (Kd.R_reads' HO329.out).2.2 | (with_reducible refine Kd.C_alloc ?_ _) | (with_reducible refine Kd.C_drewN ?_ _) | (with_reducible refine Kd.C_drew ?_))); (case side2 => exact (Kd.R_reads' HO329.out).2.1); rintro e w72 ⟨rfl, hb⟩; refine ⟨_, rfl, ?_⟩; have n0_ := Aside0.mk (Kd.R_below (by (with_reducible repeat (first | apply Kd.R_alloc | apply Kd.R_drewN | apply Kd.R_drew)); exact HO_10.out) hb); have n1_ := Aside0.mk (Kd.R_below (by (with_reducible repeat (first | apply Kd.R_alloc | apply Kd.R_drewN | apply Kd.R_drew)); exact HO325.out) hb); have n2_ := Aside0.mk (Kd.R_below (by (with_reducible repeat (first | apply Kd.R_alloc | apply Kd.R_drewN | apply Kd.R_drew)); exact HO329.out) hb); have n3_ := Aside0.mk (blk_below (g := gb316) (o := .cells #[.int .i64 t311, .int .i64 t312, .int .i64 t313, .int .i64 t314] 30 (0, 0)) (by (with_reducible repeat (first | refine blk_drewN ?_ _ | refine blk_drew ?_ | refine blk_alloc ?_ _)); exact BK316.out) hb); have n4_ := Aside0.mk (below_step (by repeat (first | (with_reducible first | exact HB.out | apply below_alloc | apply pw_below_drewN | apply below_drew1 | refine below_set ?_ GE316.out) | exact HB.out)) hb); clear HO_10; clear HO325; clear HO329; clear BK316; clear HB; have HO_10 := n0_; have HO325 := n1_; have HO329 := n2_; have BK316 := n3_; have HB := n4_; clear n0_ n1_ n2_ n3_ n4_; (try clear hb); (try clear hb2); (try clear hk); (try clear hi)))
                  go_ret
                  exact ⟨by first | rfl | (simp [errW_none, errW_some] <;> rfl) | (simp [*, errW_none, errW_some] <;> rfl), by repeat (first | (with_reducible first | exact HB.out | apply below_alloc | apply pw_below_drewN | apply below_drew1 | refine below_set ?_ GE316.out) | exact HB.out)⟩
              · replace c31 := Bool.eq_false_iff.mpr c31
                subst c31
                have H1 : (some false) = some r := by rw [if_neg (show ¬ (false = true) by decide)] at H; exact H
                clear H
                have H := H1
                clear H1
                obtain rfl := Option.some.inj H
                have hcz73_0 : wr.cell? ⟨gb316, 0, none⟩ = some (.int .i64 t311) := (blk_cell BK316.out 0).trans rfl
                have hcz73_1 : wr.cell? ⟨gb316, 1, none⟩ = some (.int .i64 t312) := (blk_cell BK316.out 1).trans rfl
                have hcz73_2 : wr.cell? ⟨gb316, 2, none⟩ = some (.int .i64 t313) := (blk_cell BK316.out 2).trans rfl
                have hcz73_3 : wr.cell? ⟨gb316, 3, none⟩ = some (.int .i64 t314) := (blk_cell BK316.out 3).trans rfl
                have hfz73_0 := blk_frozen BK316.out 0
                have hfz73_1 := blk_frozen BK316.out 1
                have hfz73_2 := blk_frozen BK316.out 2
                have hfz73_3 := blk_frozen BK316.out 3
                go_wp2_with (first | ((with_reducible refine gate_callee (f := 21) rfl ?_); refine goesL_ (some 89) rfl rfl Tryd.func21 (by kernel_rfl) rfl #[.slice A0 y307.length c0, .agg #[.int .i64 t311, .int .i64 t312, .int .i64 t313, .int .i64 t314]] rfl (by (try simp only [List.map_toArray, List.map_cons, List.map_nil]); first | done | rfl | (simp only [List.length_drop, List.length_take]; rfl)) ?_; (with_reducible refine (paint_Seen.calls _ _ y307 t311 t312 t313 t314 t323 t326 _ ?side1 ?side2 A27.out (GOK.below HG.out (by repeat (first | (with_reducible first | exact HB.out | apply below_alloc | apply pw_below_drewN | apply below_drew1 | refine below_set ?_ GE316.out) | exact HB.out)))).mono ?_); (case side1 => repeat (first | exact (Kd.C_below HR310.out HB.out) | (with_reducible refine Kd.C_alloc ?_ _) | (with_reducible refine Kd.C_drewN ?_ _) | (with_reducible refine Kd.C_drew ?_))); (case side2 => exact HC310.out); rintro e w74 ⟨v324, rfl, ho0, hb⟩; refine ⟨_, rfl, ?_⟩; have n0_ := Aside0.mk (Kd.R_elder' (by (with_reducible repeat (first | apply Kd.R_alloc | apply Kd.R_drewN | apply Kd.R_drew)); exact HO_10.out) (Kd.R_base ho0) hb); have n1_ := Aside0.mk (Kd.R_lower (Kd.R_new' ho0 (Kd.R_lt (by (with_reducible repeat (first | apply Kd.R_alloc | apply Kd.R_drewN | apply Kd.R_drew)); exact HO_10.out))) (below_size (by repeat (first | (with_reducible first | exact HB.out | apply below_alloc | apply pw_below_drewN | apply below_drew1 | refine below_set ?_ GE316.out) | exact HB.out)))); have n2_ := Aside0.mk (blk_below (g := gb316) (o := .cells #[.int .i64 t311, .int .i64 t312, .int .i64 t313, .int .i64 t314] 30 (0, 0)) (by (with_reducible repeat (first | refine blk_drewN ?_ _ | refine blk_drew ?_ | refine blk_alloc ?_ _)); exact BK316.out) hb); have n3_ := Aside0.mk (below_step (by repeat (first | (with_reducible first | exact HB.out | apply below_alloc | apply pw_below_drewN | apply below_drew1 | refine below_set ?_ GE316.out) | exact HB.out)) hb); clear HO_10; clear BK316; clear HB; have HO_10 := n0_; have HO325 := n1_; have BK316 := n2_; have HB := n3_; clear n0_ n1_ n2_ n3_; (try clear hb); (try clear hb2); (try clear hk); (try clear hi); (try clear ho0)) | ((with_reducible refine gate_callee (f := 21) rfl ?_); refine goesL_ (some 97) rfl rfl Tryd.func21 (by kernel_rfl) rfl #[.slice A0 y307.length c0, .agg #[.int .i64 a1, .int .i64 a2, .int .i64 1, .int .i64 1]] rfl (by (try simp only [List.map_toArray, List.map_cons, List.map_nil]); first | done | rfl | (simp only [List.length_drop, List.length_take]; rfl)) ?_; (with_reducible refine (paint_Seen.calls _ _ y307 a1 a2 1 1 t327 t330 _ ?side1 ?side2 A28.out (GOK.below HG.out (by repeat (first | (with_reducible first | exact HB.out | apply below_alloc | apply pw_below_drewN | apply below_drew1 | refine below_set ?_ GE316.out) | exact HB.out)))).mono ?_); (case side1 => repeat (first | exact (Kd.C_below HR310.out HB.out) | (with_reducible refine Kd.C_alloc ?_ _) | (with_reducible refine Kd.C_drewN ?_ _) | (with_reducible refine Kd.C_drew ?_))); (case side2 => exact HC310.out); rintro e w75 ⟨v328, rfl, ho0, hb⟩; refine ⟨_, rfl, ?_⟩; have n0_ := Aside0.mk (Kd.R_elder' (by (with_reducible repeat (first | apply Kd.R_alloc | apply Kd.R_drewN | apply Kd.R_drew)); exact HO_10.out) (Kd.R_base ho0) hb); have n1_ := Aside0.mk (Kd.R_elder' (by (with_reducible repeat (first | apply Kd.R_alloc | apply Kd.R_drewN | apply Kd.R_drew)); exact HO325.out) (Kd.R_base ho0) hb); have n2_ := Aside0.mk (Kd.R_lower (Kd.R_new' (Kd.R_new' ho0 (Kd.R_lt (by (with_reducible repeat (first | apply Kd.R_alloc | apply Kd.R_drewN | apply Kd.R_drew)); exact HO_10.out))) (Kd.R_lt (by (with_reducible repeat (first | apply Kd.R_alloc | apply Kd.R_drewN | apply Kd.R_drew)); exact HO325.out))) (below_size (by repeat (first | (with_reducible first | exact HB.out | apply below_alloc | apply pw_below_drewN | apply below_drew1 | refine below_set ?_ GE316.out) | exact HB.out)))); have n3_ := Aside0.mk (blk_below (g := gb316) (o := .cells #[.int .i64 t311, .int .i64 t312, .int .i64 t313, .int .i64 t314] 30 (0, 0)) (by (with_reducible repeat (first | refine blk_drewN ?_ _ | refine blk_drew ?_ | refine blk_alloc ?_ _)); exact BK316.out) hb); have n4_ := Aside0.mk (below_step (by repeat (first | (with_reducible first | exact HB.out | apply below_alloc | apply pw_below_drewN | apply below_drew1 | refine below_set ?_ GE316.out) | exact HB.out)) hb); clear HO_10; clear HO325; clear BK316; clear HB; have HO_10 := n0_; have HO325 := n1_; have HO329 := n2_; have BK316 := n3_; have HB := n4_; clear n0_ n1_ n2_ n3_ n4_; (try clear hb); (try clear hb2); (try clear hk); (try clear hi); (try clear ho0)) | ((with_reducible refine gate_callee (f := 19) rfl ?_); refine goesL_ (some 104) rfl rfl Tryd.func19 (by kernel_rfl) rfl #[.slice A0 y307.length c0, .int .i64 a1, .int .i64 a2] rfl (by (try simp only [List.map_toArray, List.map_cons, List.map_nil]); first | done | rfl | (simp only [List.length_drop, List.length_take]; rfl)) ?_; (with_reducible refine (paint_Hit.calls _ _ y307 a1 a2 t331 t332 _ ?side1 ?side2 A29.out (GOK.below HG.out (by repeat (first | (with_reducible first | exact HB.out | apply below_alloc | apply pw_below_drewN | apply below_drew1 | refine below_set ?_ GE316.out) | exact HB.out)))).mono ?_); (case side1 => repeat (first | exact (Kd.C_below HR310.out HB.out) | (with_reducible refine Kd.C_alloc ?_ _) | (with_reducible refine Kd.C_drewN ?_ _) | (with_reducible refine Kd.C_drew ?_))); (case side2 => exact HC310.out); rintro e w76 ⟨rfl, hb⟩; refine ⟨_, rfl, ?_⟩; have n0_ := Aside0.mk (Kd.R_below (by (with_reducible repeat (first | apply Kd.R_alloc | apply Kd.R_drewN | apply Kd.R_drew)); exact HO_10.out) hb); have n1_ := Aside0.mk (Kd.R_below (by (with_reducible repeat (first | apply Kd.R_alloc | apply Kd.R_drewN | apply Kd.R_drew)); exact HO325.out) hb); have n2_ := Aside0.mk (Kd.R_below (by (with_reducible repeat (first | apply Kd.R_alloc | apply Kd.R_drewN | apply Kd.R_drew)); exact HO329.out) hb); have n3_ := Aside0.mk (blk_below (g := gb316) (o := .cells #[.int .i64 t311, .int .i64 t312, .int .i64 t313, .int .i64 t314] 30 (0, 0)) (by (with_reducible repeat (first | refine blk_drewN ?_ _ | refine blk_drew ?_ | refine blk_alloc ?_ _)); exact BK316.out) hb); have n4_ := Aside0.mk (below_step (by repeat (first | (with_reducible first | exact HB.out | apply below_alloc | apply pw_below_drewN | apply below_drew1 | refine below_set ?_ GE316.out) | exact HB.out)) hb); clear HO_10; clear HO325; clear HO329; clear BK316; clear HB; have HO_10 := n0_; have HO325 := n1_; have HO329 := n2_; have BK316 := n3_; have HB := n4_; clear n0_ n1_ n2_ n3_ n4_; (try clear hb); (try clear hb2); (try clear hk); (try clear hi); obtain ⟨Ao77, co77, eo77⟩ := Kd.R_slice HO329.out; subst eo77) | ((with_reducible refine gate_callee (f := 19) rfl ?_); refine goesL_ (some 111) rfl rfl Tryd.func19 (by kernel_rfl) rfl #[.slice Ao77 t327.length co77, .int .i64 a1, .int .i64 a2] rfl (by (try simp only [List.map_toArray, List.map_cons, List.map_nil]); first | done | rfl | (simp only [List.length_drop, List.length_take]; rfl)) ?_; (with_reducible refine (paint_Hit.calls _ _ t327 a1 a2 t333 t334 _ ?side1 ?side2 A30.out (GOK.below HG.out (by repeat (first | (with_reducible first | exact HB.out | apply below_alloc | apply pw_below_drewN | apply below_drew1 | refine below_set ?_ GE316.out) | exact HB.out)))).mono ?_); (case side1 => repeat (first | exact (Kd.R_reads' HO329.out).2.2 | (with_reducible refine Kd.C_alloc ?_ _) | (with_reducible refine Kd.C_drewN ?_ _) | (with_reducible refine Kd.C_drew ?_))); (case side2 => exact (Kd.R_reads' HO329.out).2.1); rintro e w78 ⟨rfl, hb⟩; refine ⟨_, rfl, ?_⟩; have n0_ := Aside0.mk (Kd.R_below (by (with_reducible repeat (first | apply Kd.R_alloc | apply Kd.R_drewN | apply Kd.R_drew)); exact HO_10.out) hb); have n1_ := Aside0.mk (Kd.R_below (by (with_reducible repeat (first | apply Kd.R_alloc | apply Kd.R_drewN | apply Kd.R_drew)); exact HO325.out) hb); have n2_ := Aside0.mk (Kd.R_below (by (with_reducible repeat (first | apply Kd.R_alloc | apply Kd.R_drewN | apply Kd.R_drew)); exact HO329.out) hb); have n3_ := Aside0.mk (blk_below (g := gb316) (o := .cells #[.int .i64 t311, .int .i64 t312, .int .i64 t313, .int .i64 t314] 30 (0, 0)) (by (with_reducible repeat (first | refine blk_drewN ?_ _ | refine blk_drew ?_ | refine blk_alloc ?_ _)); exact BK316.out) hb); have n4_ := Aside0.mk (below_step (by repeat (first | (with_reducible first | exact HB.out | apply below_alloc | apply pw_below_drewN | apply below_drew1 | refine below_set ?_ GE316.out) | exact HB.out)) hb); clear HO_10; clear HO325; clear HO329; clear BK316; clear HB; have HO_10 := n0_; have HO325 := n1_; have HO329 := n2_; have BK316 := n3_; have HB := n4_; clear n0_ n1_ n2_ n3_ n4_; (try clear hb); (try clear hb2); (try clear hk); (try clear hi)))
                go_ret
                exact ⟨by first | rfl | (simp [errW_none, errW_some] <;> rfl) | (simp [*, errW_none, errW_some] <;> rfl), by repeat (first | (with_reducible first | exact HB.out | apply below_alloc | apply pw_below_drewN | apply below_drew1 | refine below_set ?_ GE316.out) | exact HB.out)⟩

end Go.Proofs.YtkmddhljfjjglaaDoor.G
