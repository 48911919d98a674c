/- Chapter 10: End. -/
import Derived.Test.YtiodlbfdfnideaaDoorF9
namespace Go.Proofs.YtiodlbfdfnideaaDoor.G
open Go.RowKit Go.Shelf Go.Proofs.YtiodlbfdfnideaaDoorW.PrintWords Go.Proofs.YtiodlbfdfnideaaDoorW.PrintLast Go.Proofs.YtiodlbfdfnideaaDoorW.PrintMore

theorem end1_any (i a b : Int) (w : World) : Calls Tryd.prog 34 #[.int .i64 i, .agg #[.int .i64 a, .int .i64 b]] w fun e w' => e = .returned (.tuple #[]) ∧ w' = w.alloc (.cells #[.int .i64 a, .int .i64 b] 60) := by
  go_enter Tryd.func34, Tryd.ntmps34
  go_wp2
  go_end0
  exact ⟨rfl, rfl⟩
theorem KE_ab (w : World) : AbL w.heap.size (fun (_ : List (Int × Int)) W => Below w.heap.size w W) := by
  rintro s W W' row hB hg hr
  exact hB.grown hg hB.size (fun k e => (hr k e).1)

set_option maxRecDepth 100000 in
set_option maxHeartbeats 2000000 in
theorem end_yes (A : Option Addr) (c : Nat) (its : List S42) (w : World) (hr : Kd.C k42 w A its.length its) (hc : its.length ≤ c) (hok : stackB its = true) :
    Calls Tryd.prog 17 #[.slice A its.length c] w fun e w' => e = .returned (.tuple #[.int .i64 (runL its).1.1, .int .i64 ((runL its).1.2.1 + (runL its).1.2.2), .int .i64 0]) ∧ Below w.heap.size w w' := by
  have hL := lay_yes w A c its 34 #[] (fun _ W => Below w.heap.size w W) w hr hc hok (Below.refl _ _) (fun _ _ h => h) (KE_ab w) (enters_of Tryd.func34 (by kernel_rfl) rfl)
    (by
      rintro pre x W hB hlen
      refine (end1_any _ _ _ W).mono ?_
      rintro e W' ⟨rfl, rfl⟩
      exact ⟨rfl, below_alloc hB _, by simp, fun _ _ _ h _ => blk_alloc h _⟩)
  have HL := Aside0.mk (callsIn_wide.1 hL)
  have hin := runL_in its (by simp only [stackB, Bool.and_eq_true] at hok; exact hok.1)
  generalize runL its = s at *
  obtain ⟨⟨e0, u, d⟩, pl⟩ := s
  have HIN := Aside0.mk hin
  clear hL hr hok hin
  go_enter Tryd.func17, Tryd.ntmps17
  go_wp2_with (go_at_call 31; refine HL.out.mono ?_; rintro e w2 ⟨Bs, rfl, hB, ⟨n, hb⟩⟩; have HB2 := Aside0.mk hB; have c1 : w2.cell? ⟨Bs, 1, none⟩ = some (.int .i64 e0) := (blk_cell hb 1).trans rfl; have HV := Aside0.mk hb; clear hb hB)
  go_region_held3 (fun w' => w'.cell? ⟨Bs, 1, none⟩ = some (.int .i64 e0)) (go_keep) (first | (go_at_call 28; refine (one_2 Bs (.slice A its.length its.length) e0 u d n _ ?hb ?h1 ?h2).mono ?_; (case hb => repeat (first | exact HV.out | refine blk_drew ?_ | refine blk_drewN ?_ _)); (case h1 => have := HIN.out; omega); (case h2 => have := HIN.out; omega); rintro e w3 ⟨rfl, nq, rfl⟩))
  all_goals
    go_wp2_with fail
    go_ret3
    exact ⟨rfl, pw_below_drewN HB2.out _⟩

set_option maxRecDepth 100000 in
set_option maxHeartbeats 2000000 in
theorem end_no (A : Option Addr) (c : Nat) (its : List S42) (w : World) (hr : Kd.C k42 w A its.length its) (hc : its.length ≤ c) (hl : its.length ≤ 1000) (hok : stackB its = false) (hG : GOK w) :
    Calls Tryd.prog 17 #[.slice A its.length c] w fun e w' => e = .returned (.tuple #[.int .i64 0, .int .i64 0, .int .i64 100]) ∧ Below w.heap.size w w' := by
  have HL := Aside0.mk (lay_no A c its 34 #[] w hr hc hl hok)
  have HG := Aside0.mk hG
  clear hr hok hG
  go_enter Tryd.func17, Tryd.ntmps17
  go_wp2_with (first | (go_at_call 31; refine HL.out.mono ?_; rintro e w2 ⟨rfl, hb⟩; have HB2 := Aside0.mk hb; have HG2 := Aside0.mk (GOK.below HG.out hb); clear hb) | (go_at_call 25; refine (told_none _ HG2.out).mono ?_; rintro e w3 ⟨rfl, hb⟩; have HB3 := Aside0.mk (below_then HB2.out HB2.out.size hb); clear hb))
  go_ret3
  exact ⟨rfl, HB3.out⟩

def margin_End.f (l0 : List (S42)) : Option (Int × Int × Int) := if l0.length ≤ 1000 then some (if stackB l0 then ((runL l0).1.1, (runL l0).1.2.1 + (runL l0).1.2.2, 0) else (0, 0, 100)) else none
theorem margin_End.calls (A0 : Option Addr) (c0 : Nat) (l0 : List (S42)) (r1 : Int) (r2 : Int) (r3 : Int) (w : World) (hr0 : Kd.C k42 w A0 l0.length l0) (hc0 : l0.length ≤ c0) (h : margin_End.f l0 = some (r1, r2, r3)) (hG : GOK w) :
    Calls Tryd.prog 17 #[.slice A0 l0.length c0] w fun e w' => e = .returned (.tuple #[.int .i64 r1, .int .i64 r2, .int .i64 r3]) ∧ Below w.heap.size w w' := by
  unfold margin_End.f at h
  by_cases hl : l0.length ≤ 1000
  · rw [if_pos hl] at h
    have hr := Option.some.inj h
    by_cases hok : stackB l0 = true
    · rw [if_pos hok, Prod.mk.injEq, Prod.mk.injEq] at hr
      obtain ⟨rfl, rfl, rfl⟩ := hr
      exact end_yes A0 c0 l0 w hr0 hc0 hok
    · rw [if_neg hok, Prod.mk.injEq, Prod.mk.injEq] at hr
      obtain ⟨rfl, rfl, rfl⟩ := hr
      exact end_no A0 c0 l0 w hr0 hc0 hl (Bool.eq_false_iff.mpr hok) hG
  · rw [if_neg hl] at h
    cases h
end Go.Proofs.YtiodlbfdfnideaaDoor.G
