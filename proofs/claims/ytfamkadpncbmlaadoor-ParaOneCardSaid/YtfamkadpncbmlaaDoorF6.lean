/- Chapter 9: Splits, Best, Breaks. -/
import Derived.Test.YtfamkadpncbmlaaDoorF5
namespace Go.Proofs.YtfamkadpncbmlaaDoor.G
open Go.RowKit Go.Shelf Go.Proofs.YtfamkadpncbmlaaDoorW.PrintWords Go.Proofs.YtfamkadpncbmlaaDoorW.PrintLast Go.Proofs.YtfamkadpncbmlaaDoorW.PrintMore

theorem R_of_row {w : World} {base : Nat} {v : Value} {l : List Int} (h : w.ownsRow base 3 1 v l.length (l.map (Value.int .i64))) : Kd.R (Kd.int .i64) 3 w base (fun _ => True) v l :=
  Kd.R_of_own (enc := Value.int .i64) (h1 := fun _ => rfl) h (fun _ _ => trivial)
theorem isB_n {n o d : Int} (h : isB n o d = true) : 0 ≤ n ∧ n ≤ 500 := by
  simp only [isB, roomB, Bool.and_eq_true, decide_eq_true_eq] at h
  exact h.1
theorem one_C (w : World) (x : Int) : Kd.C (Kd.int .i64) (w.alloc (.cells #[.int .i64 x] 3)) (some ⟨w.heap.size, 0, none⟩) ([x] : List Int).length [x] := by
  have h := Kd.R_reads (R_of_row (l := [x]) (w := w.alloc (.cells #[.int .i64 x] 3)) (base := 0) (v := .slice (some ⟨w.heap.size, 0, none⟩) 1 1) (own_lit_of (enc := Value.int .i64) w 0 3 [x] (Nat.zero_le _) (by simp)))
  obtain ⟨A, c, e, _, h⟩ := h
  cases e
  exact h

set_option maxHeartbeats 1000000 in
theorem para_Splits.calls (a0 : Int) (a1 : Int) (a2 : Int) (r1 : List Int) (r2 : Int) (w : World) (h : para_Splits.f a0 a1 a2 = some (r1, r2)) (hG : GOK w) :
    Calls Tryd.prog 18 #[.int .i64 a0, .int .i64 a1, .int .i64 a2] w fun e w' => ∃ v0_ : Value, e = .returned (.tuple #[v0_, .int .i64 r2]) ∧ Kd.R (Kd.int .i64) 3 w' w.heap.size (fun _ => True) v0_ r1 ∧ Below w.heap.size w w' := by
  obtain ⟨a, hg⟩ := hG
  have hB0 := Aside0.mk (below_alloc (Below.refl w.heap.size w) (.cells #[.int .i64 a0, .int .i64 a1, .int .i64 a2] 43))
  by_cases hok : isB a0 a1 a2 = true
  · have hr := Option.some.inj h
    rw [if_pos hok, Prod.mk.injEq] at hr
    obtain ⟨rfl, rfl⟩ := hr
    clear h
    obtain ⟨hn1, hn2⟩ := isB_n hok
    have HO := Aside0.mk hok
    clear hok
    go_enter Tryd.func18, Tryd.ntmps18
    go_wp2_with (first | (go_at_call 22; refine (checked_yes a0 a1 a2 none 0 [] _ (nil_C _) (by simp) (by rw [chk_nil]; exact HO.out)).mono ?_; rintro e w1 ⟨rfl, hb⟩; obtain ⟨c0, c1, c2⟩ := blk3 (blk_below (blk_new _ _) hb); have hB1 := Aside0.mk (below_then hB0.out hB0.out.size hb); clear hb) | (go_at_call 32; refine (splits_any _ _ _ _).mono ?_; rintro e w2 ⟨rfl, rfl⟩) | (go_at_call 31; refine (collect_any 38 _ w1.heap.size 500 (upTo a0 a1 a2 (a0.toNat - 1)) _ (enters_of Tryd.func38 (by kernel_rfl) rfl) (splits_seq 5 (by omega) _ a0 a1 a2 hn1 hn2 _ (blk_new _ _)) (by simp) (by omega)).mono ?_; rintro e w3 ⟨v, rfl, ho, hb⟩; have hB3 := Aside0.mk (below_then (below_alloc hB1.out (.cells #[.int .i64 a0, .int .i64 a1, .int .i64 a2] 43)) (by have := hB1.out.size; simp; omega) hb); have hO := Aside0.mk (own_weaken ho (base' := w.heap.size) (by have := hB1.out.size; simp; omega)); clear hb ho))
    go_ret2
    exact ⟨v, rfl, R_of_row hO.out, hB3.out⟩
  · have hr := Option.some.inj h
    rw [if_neg hok, Prod.mk.injEq] at hr
    obtain ⟨rfl, rfl⟩ := hr
    clear h
    have HO := Aside0.mk (Bool.eq_false_iff.mpr hok)
    have hg0 := Aside0.mk (pw_cell_below hB0.out hg)
    clear hok hg
    go_enter Tryd.func18, Tryd.ntmps18
    go_wp2_with (first | (go_at_call 22; refine (checked_no a0 a1 a2 none 0 [] _ a (nil_C _) (by simp) (by rw [chk_nil]; exact HO.out) hg0.out).mono ?_; rintro e w1 ⟨rfl, hb⟩; have hg1 := Aside0.mk (pw_cell_below hb hg0.out); have hB1 := Aside0.mk (below_then hB0.out hB0.out.size hb); clear hb) | (go_at_call 23; refine (told_some a _ hg1.out).mono ?_; rintro e w2 ⟨rfl, rfl⟩))
    go_ret2
    exact ⟨_, rfl, Kd.R_nil _ _ _ _ _, hB1.out⟩

def para_Best.f (a0 a1 a2 a3 : Int) : Option (Int × Int) := some (if chkB a0 a1 a2 [a3] then (bestZ a0 a1 a2 a3, 0) else (0, 90))
theorem chk_n {n o d : Int} {rs : List Int} (h : chkB n o d rs = true) : 0 ≤ n ∧ n ≤ 500 := by
  simp only [chkB, Bool.and_eq_true] at h
  exact isB_n h.1
theorem chk_r {n o d r : Int} (h : chkB n o d [r] = true) : 0 ≤ r := by
  simp [chkB, roomB] at h
  exact h.2.1
set_option maxHeartbeats 1000000 in
theorem para_Best.calls (a0 : Int) (a1 : Int) (a2 : Int) (a3 : Int) (r1 : Int) (r2 : Int) (w : World) (h : para_Best.f a0 a1 a2 a3 = some (r1, r2)) (hG : GOK w) :
    Calls Tryd.prog 11 #[.int .i64 a0, .int .i64 a1, .int .i64 a2, .int .i64 a3] w fun e w' => e = .returned (.tuple #[.int .i64 r1, .int .i64 r2]) ∧ Below w.heap.size w w' := by
  obtain ⟨a, hg⟩ := hG
  have hB0 := Aside0.mk (below_alloc (below_alloc (Below.refl w.heap.size w) (.cells #[.int .i64 a0, .int .i64 a1, .int .i64 a2] 43)) (.cells #[.int .i64 a3] 3))
  by_cases hok : chkB a0 a1 a2 [a3] = true
  · have hr := Option.some.inj h
    rw [if_pos hok, Prod.mk.injEq] at hr
    obtain ⟨rfl, rfl⟩ := hr
    clear h
    obtain ⟨hn1, hn2⟩ := chk_n hok
    have hr0 := chk_r hok
    have HO := Aside0.mk hok
    clear hok
    go_enter Tryd.func11, Tryd.ntmps11
    go_wp2_with (first | (go_at_call 22; refine (checked_yes a0 a1 a2 _ 1 [a3] _ (by have := one_C (w.alloc (.cells #[.int .i64 a0, .int .i64 a1, .int .i64 a2] 43)) a3; simpa using this) (by simp) HO.out).mono ?_; rintro e w1 ⟨rfl, hb⟩; obtain ⟨c0, c1, c2⟩ := blk3 (blk_below (blk_alloc (blk_new _ _) _) hb); have hB1 := Aside0.mk (below_then hB0.out hB0.out.size hb); clear hb) | (go_at_call 24; refine (best_any _ _ _ _ _ hr0 hn2).mono ?_; rintro e w2 ⟨rfl, hb⟩; have hB2 := Aside0.mk (below_then hB1.out hB1.out.size hb); clear hb))
    go_ret2
    exact ⟨rfl, hB2.out⟩
  · have hr := Option.some.inj h
    rw [if_neg hok, Prod.mk.injEq] at hr
    obtain ⟨rfl, rfl⟩ := hr
    clear h
    have HO := Aside0.mk (Bool.eq_false_iff.mpr hok)
    have hg0 := Aside0.mk (pw_cell_below hB0.out hg)
    clear hok hg
    go_enter Tryd.func11, Tryd.ntmps11
    go_wp2_with (first | (go_at_call 22; refine (checked_no a0 a1 a2 _ 1 [a3] _ a (by have := one_C (w.alloc (.cells #[.int .i64 a0, .int .i64 a1, .int .i64 a2] 43)) a3; simpa using this) (by simp) HO.out hg0.out).mono ?_; rintro e w1 ⟨rfl, hb⟩; have hg1 := Aside0.mk (pw_cell_below hb hg0.out); have hB1 := Aside0.mk (below_then hB0.out hB0.out.size hb); clear hb) | (go_at_call 23; refine (told_some a _ hg1.out).mono ?_; rintro e w2 ⟨rfl, rfl⟩))
    go_ret2
    exact ⟨rfl, hB1.out⟩
end Go.Proofs.YtfamkadpncbmlaaDoor.G
