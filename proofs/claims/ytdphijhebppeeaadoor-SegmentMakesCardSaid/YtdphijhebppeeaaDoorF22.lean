/- Chapter 5: the reference's small functions. Written by tmpl.py out of F22.tl. -/
import Derived.Test.YtdphijhebppeeaaDoorF21
namespace Go.Proofs.YtdphijhebppeeaaDoor.G
open Go.RowKit Go.Shelf Go.Maps Go.MapKept Go.ChangeMaps Go.ChangeShapes Go.Proofs.YtdphijhebppeeaaDoorW.PrintWords Go.Proofs.YtdphijhebppeeaaDoorW.PrintLast Go.Proofs.YtdphijhebppeeaaDoorW.PrintMore
attribute [local irreducible] cN
set_option linter.unusedSimpArgs false
theorem rholds_any (x : Node) (M : Array Value) (hM : NodeC x M) (w : World) : Calls Tryd.prog 68 #[.agg M] w fun e w' => e = .returned (.bool (holdB x)) ∧ Below w.heap.size w w' := by
  have HB := Aside0.mk (below_alloc (Below.refl w.heap.size w) (.cells M 31))
  have hb := blk_new w (.cells M 31)
  have h1 := cell_at hb 1 hM.c1
  unfold holdB
  generalize x.f1 = k at *
  clear hb hM
  by_cases hk : k = 1
  · have hk' : (k == 1) = true := by simp [hk]
    go_enter Tryd.func68, Tryd.ntmps68
    go_wp2
    go_ret
    exact ⟨by simp [hk], HB.out⟩
  · have hk' : (k == 1) = false := by simp [hk]
    go_enter Tryd.func68, Tryd.ntmps68
    go_wp2
    go_ret
    exact ⟨by simp [hk]; rfl, HB.out⟩
theorem rsize_any (a : Int) (w : World) : Calls Tryd.prog 83 #[.int .i64 a] w fun e w' => e = .returned (.bool (sizB a)) ∧ w = w' := by
  unfold sizB
  go_enter Tryd.func83, Tryd.ntmps83
  by_cases h1 : 0 ≤ a
  · by_cases h2 : a ≤ 1048576
    · go_wp2
      go_ret
      simp [h1, h2]
    · go_wp2
      go_ret
      simp [h2]
  · go_wp2
    go_ret
    simp only [and_true, Ending.returned.injEq]
    rw [decide_eq_false (show ¬ 0 ≤ a by omega)]
    rfl
theorem beq0 (x : Int) : (x == 0) = decide (x = 0) := by rw [Bool.eq_iff_iff]; simp
theorem noText (s : ByteArray) : (s.toList == ByteArray.toList ⟨#[]⟩) = decide (s.toList = []) := by
  rw [show ByteArray.toList ⟨#[]⟩ = [] by unfold ByteArray.toList ByteArray.toList.loop; rfl, Bool.eq_iff_iff]
  simp
theorem eqN_bare (x : Node) : eqN x (bareN x) = (decide (x.f2.toList = []) && (decide (x.f3 = 0) && decide (x.f4 = 0))) := by
  have e3 : (bareN x).f3 = 0 := rfl
  have e4 : (bareN x).f4 = 0 := rfl
  have e2 : (bareN x).f2 = ⟨#[]⟩ := rfl
  have e0 : (bareN x).f0 = x.f0 := rfl
  have e1 : (bareN x).f1 = x.f1 := rfl
  have e5 : (bareN x).f5 = x.f5 := rfl
  unfold eqN
  rw [e0, e1, e2, e3, e4, e5, noText]
  simp [beq0]
theorem eqN_box (x : Node) : eqN x (boxN x) = decide (x.f2.toList = []) := by
  have e3 : (boxN x).f3 = x.f3 := rfl
  have e4 : (boxN x).f4 = x.f4 := rfl
  have e2 : (boxN x).f2 = ⟨#[]⟩ := rfl
  have e0 : (boxN x).f0 = x.f0 := rfl
  have e1 : (boxN x).f1 = x.f1 := rfl
  have e5 : (boxN x).f5 = x.f5 := rfl
  unfold eqN
  rw [e0, e1, e2, e3, e4, e5, noText]
  simp
set_option maxHeartbeats 4000000 in
set_option maxRecDepth 100000 in
theorem rform_any (x : Node) (M : Array Value) (hM : NodeC x M) (w : World) : Calls Tryd.prog 69 #[.agg M] w fun e w' => e = .returned (.bool (formB x)) ∧ Below w.heap.size w w' := by
  have hB1 := Aside0.mk (below_alloc (Below.refl w.heap.size w) (.cells M 31))
  have hK := blk_new w (.cells M 31)
  have q1 := cell_at hK 1 hM.c1
  have q2 := cell_at hK 2 hM.c2
  have q3 := cell_at hK 3 hM.c3
  have q4 := cell_at hK 4 hM.c4
  obtain ⟨r, hr⟩ : ∃ r, formB x = r := ⟨_, rfl⟩
  rw [hr]
  unfold formB at hr
  rw [eqN_bare, eqN_box] at hr
  unfold holdB at hr
  replace hr := Aside0.mk hr
  generalize x.f1 = k at *
  generalize x.f2 = s at *
  generalize x.f3 = wd at *
  generalize x.f4 = ht at *
  clear hM hK
  by_cases k1 : k = 1
  · subst k1
    go_enter Tryd.func69, Tryd.ntmps69
    go_wp2
    all_goals
      go_ret
      refine ⟨?_, hB1.out⟩
      rw [← hr.out]
      simp [*, beq0]
  · by_cases k4 : k = 4
    · subst k4
      go_enter Tryd.func69, Tryd.ntmps69
      go_wp2
      all_goals
        go_ret
        refine ⟨?_, hB1.out⟩
        rw [← hr.out]
        simp [*, beq0]
    · have k1' : (k == 1) = false := by simp [k1]
      have k4' : (k == 4) = false := by simp [k4]
      by_cases k2 : k = 2
      · subst k2
        go_enter Tryd.func69, Tryd.ntmps69
        clear k1 k4 k1' k4'
        go_wp2
        all_goals
          go_ret
          refine ⟨?_, hB1.out⟩
          rw [← hr.out]
          simp [*, sizB, beq0] <;> (intros; omega)
      · by_cases k3 : k = 3
        · subst k3
          clear k1 k4 k1' k4' k2
          go_enter Tryd.func69, Tryd.ntmps69
          cases h1 : sizB wd
          all_goals
            cases h2 : sizB ht
            all_goals
              go_wp2_with (first | (go_at_call_of 83 (Value.int .i64 wd); refine (rsize_any wd _).mono ?_; rintro e w' ⟨rfl, rfl⟩; rw [h1]) | (go_at_call_of 83 (Value.int .i64 ht); refine (rsize_any ht _).mono ?_; rintro e w' ⟨rfl, rfl⟩; rw [h2]))
              all_goals
                go_ret
                refine ⟨?_, hB1.out⟩
                rw [← hr.out]
                simp [*, beq0]
        · have k2' : (k == 2) = false := by simp [k2]
          have k3' : (k == 3) = false := by simp [k3]
          go_enter Tryd.func69, Tryd.ntmps69
          go_wp2
          go_ret
          refine ⟨?_, hB1.out⟩
          rw [← hr.out]
          simp [*, beq0]
end Go.Proofs.YtdphijhebppeeaaDoor.G
