/- Chapter 1: Add, Sub, Mul. Written by mkF3.py. -/
import Derived.Test.YtlpkjjeihbdocaaDoorF2
namespace Go.Proofs.YtlpkjjeihbdocaaDoor.G
open Go.RowKit Go.Proofs.YtlpkjjeihbdocaaDoorW.PrintWords Go.Proofs.YtlpkjjeihbdocaaDoorW.PrintLast Go.Proofs.YtlpkjjeihbdocaaDoorW.PrintMore

set_option maxRecDepth 100000 in
theorem of_any (a b : Int) (w : World) : Calls Tryd.prog 39 #[.int .i64 a, .int .i64 b] w fun e w' => e = .returned (.tuple #[.agg #[.int .i64 a, .int .i64 b], .bool (lenB a && lenB b)]) ∧ Below w.heap.size w w' := by
  by_cases h : lenB a = true
  · have H := Aside0.mk h
    rw [h, Bool.true_and]
    clear h
    go_enter Tryd.func39, Tryd.ntmps39
    go_wp2_with (first | (go_at_call 17; with_reducible refine (right_any a _).mono ?_; rintro e w' ⟨rfl, rfl⟩; rw [H.out]) | (go_at_call 17; with_reducible refine (right_any b _).mono ?_; rintro e w' ⟨rfl, rfl⟩))
    refine bodyPost_ret (results_ct rfl _ _ w.heap.size 56 #[.int .i64 a, .int .i64 b] (0, 0) _ rfl (blk_new _ _) Tryd.underlying56 rfl (by kernel_rfl)) rfl ?_
    exact ⟨rfl, below_alloc (Below.refl _ _) _⟩
  · have h' := Bool.eq_false_iff.mpr h
    have H := Aside0.mk h'
    rw [h', Bool.false_and]
    clear h h'
    go_enter Tryd.func39, Tryd.ntmps39
    go_wp2_with (go_at_call 17; with_reducible refine (right_any a _).mono ?_; rintro e w' ⟨rfl, rfl⟩; rw [H.out])
    refine bodyPost_ret (results_ct rfl _ _ w.heap.size 56 #[.int .i64 a, .int .i64 b] (0, 0) _ rfl (blk_new _ _) Tryd.underlying56 rfl (by kernel_rfl)) rfl ?_
    exact ⟨rfl, below_alloc (Below.refl _ _) _⟩

def unit_Add.f (a0 : Int) (a1 : Int) : Option (Int × Int) := some (if lenB a0 && lenB a1 then resZ (a0 + a1) else (0, 10))
set_option maxRecDepth 100000 in
set_option maxHeartbeats 1000000 in
theorem unit_Add.calls (a0 : Int) (a1 : Int) (r1 : Int) (r2 : Int) (w : World) (h : unit_Add.f a0 a1 = some (r1, r2)) (hG : GOK w) :
    Calls Tryd.prog 18 #[.int .i64 a0, .int .i64 a1] w fun e w' => e = .returned (.tuple #[.int .i64 r1, .int .i64 r2]) ∧ Below w.heap.size w w' := by
  have hr := Option.some.inj h
  clear h
  obtain ⟨sa, sb, sc, hS⟩ := hG
  have HS := Aside0.mk hS
  clear hS
  by_cases hl : (lenB a0 && lenB a1) = true
  · rw [if_pos hl] at hr
    have HL := Aside0.mk hl
    have hb := hl
    simp only [lenB, Bool.and_eq_true, decide_eq_true_eq] at hb
    obtain ⟨⟨b1, b2⟩, b3, b4⟩ := hb
    have HR := Aside0.mk hr
    clear hl hr
    go_enter Tryd.func18, Tryd.ntmps18
    go_wp2_with (first | (go_at_call 39; with_reducible refine (of_any a0 a1 _).mono ?_; rintro e w1 ⟨rfl, hb⟩; rw [HL.out]; have HB1 := Aside0.mk (below_alloc hb (.cells #[.int .i64 a0, .int .i64 a1] 56)); clear hb) | (go_at_call 40; refine (result_any _ sa sb sc _ (HS.out.below HB1.out)).mono ?_; rintro e w2 ⟨rfl, rfl⟩))
    go_ret2
    have e1 : (resZ (a0 + a1)).1 = r1 := by rw [HR.out]
    have e2 : (resZ (a0 + a1)).2 = r2 := by rw [HR.out]
    rw [← e1, ← e2]
    exact ⟨rfl, HB1.out⟩
  · rw [if_neg hl, Prod.mk.injEq] at hr
    obtain ⟨rfl, rfl⟩ := hr
    have HL := Aside0.mk (Bool.eq_false_iff.mpr hl)
    have g0 := HS.out.1
    clear hl
    go_enter Tryd.func18, Tryd.ntmps18
    go_wp2_with (first | (go_at_call 39; with_reducible refine (of_any a0 a1 _).mono ?_; rintro e w1 ⟨rfl, hb⟩; rw [HL.out]; have HB1 := Aside0.mk (below_alloc hb (.cells #[.int .i64 a0, .int .i64 a1] 56)); have g1 := pw_cell_below HB1.out g0; have g2 := pw_cell_below hb g0; clear hb) | (go_at_call 31; refine (told_over sa sb sc _ (HS.out.below HB1.out)).mono ?_; rintro e w2 ⟨rfl, rfl⟩))
    go_ret2
    exact ⟨rfl, HB1.out⟩

def unit_Sub.f (a0 : Int) (a1 : Int) : Option (Int × Int) := some (if lenB a0 && lenB a1 then resZ (a0 - a1) else (0, 10))
set_option maxRecDepth 100000 in
set_option maxHeartbeats 1000000 in
theorem unit_Sub.calls (a0 : Int) (a1 : Int) (r1 : Int) (r2 : Int) (w : World) (h : unit_Sub.f a0 a1 = some (r1, r2)) (hG : GOK w) :
    Calls Tryd.prog 19 #[.int .i64 a0, .int .i64 a1] w fun e w' => e = .returned (.tuple #[.int .i64 r1, .int .i64 r2]) ∧ Below w.heap.size w w' := by
  have hr := Option.some.inj h
  clear h
  obtain ⟨sa, sb, sc, hS⟩ := hG
  have HS := Aside0.mk hS
  clear hS
  by_cases hl : (lenB a0 && lenB a1) = true
  · rw [if_pos hl] at hr
    have HL := Aside0.mk hl
    have hb := hl
    simp only [lenB, Bool.and_eq_true, decide_eq_true_eq] at hb
    obtain ⟨⟨b1, b2⟩, b3, b4⟩ := hb
    have HR := Aside0.mk hr
    clear hl hr
    go_enter Tryd.func19, Tryd.ntmps19
    go_wp2_with (first | (go_at_call 39; with_reducible refine (of_any a0 a1 _).mono ?_; rintro e w1 ⟨rfl, hb⟩; rw [HL.out]; have HB1 := Aside0.mk (below_alloc hb (.cells #[.int .i64 a0, .int .i64 a1] 56)); clear hb) | (go_at_call 40; refine (result_any _ sa sb sc _ (HS.out.below HB1.out)).mono ?_; rintro e w2 ⟨rfl, rfl⟩))
    go_ret2
    have e1 : (resZ (a0 - a1)).1 = r1 := by rw [HR.out]
    have e2 : (resZ (a0 - a1)).2 = r2 := by rw [HR.out]
    rw [← e1, ← e2]
    exact ⟨rfl, HB1.out⟩
  · rw [if_neg hl, Prod.mk.injEq] at hr
    obtain ⟨rfl, rfl⟩ := hr
    have HL := Aside0.mk (Bool.eq_false_iff.mpr hl)
    have g0 := HS.out.1
    clear hl
    go_enter Tryd.func19, Tryd.ntmps19
    go_wp2_with (first | (go_at_call 39; with_reducible refine (of_any a0 a1 _).mono ?_; rintro e w1 ⟨rfl, hb⟩; rw [HL.out]; have HB1 := Aside0.mk (below_alloc hb (.cells #[.int .i64 a0, .int .i64 a1] 56)); have g1 := pw_cell_below HB1.out g0; have g2 := pw_cell_below hb g0; clear hb) | (go_at_call 31; refine (told_over sa sb sc _ (HS.out.below HB1.out)).mono ?_; rintro e w2 ⟨rfl, rfl⟩))
    go_ret2
    exact ⟨rfl, HB1.out⟩
end Go.Proofs.YtlpkjjeihbdocaaDoor.G
