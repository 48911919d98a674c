/- Chapter 9: is it a paragraph, in some rooms? -/
import Derived.Test.YtfamkadpncbmlaaDoorF1
namespace Go.Proofs.YtfamkadpncbmlaaDoor.G
open Go.RowKit Go.Proofs.YtfamkadpncbmlaaDoorW.PrintWords Go.Proofs.YtfamkadpncbmlaaDoorW.PrintLast Go.Proofs.YtfamkadpncbmlaaDoorW.PrintMore
open Go.Extern.Stop Go.Stop Go.Extern
attribute [local go_sem] max2_int min2_int

/-- Is it a paragraph? -/
def isB (n o d : Int) : Bool := roomB n && (decide (1 ≤ o) && (decide (o ≤ 20) && (decide (1 ≤ d) && decide (d ≤ 20))))
def chkB (n o d : Int) (rs : List Int) : Bool := isB n o d && rs.all roomB
def chkV (n o d : Int) (rs : List Int) (a : Addr) : Value := if chkB n o d rs then .nilIface else .iface 79 (.pointer (some a))

set_option maxHeartbeats 1000000 in
theorem checked_yes (n o d : Int) (A : Option Addr) (c : Nat) (rs : List Int) (w : World) (hr : Kd.C (Kd.int .i64) w A rs.length rs) (hn : rs.length ≤ 9223372036854775807) (hok : chkB n o d rs = true) :
    Calls Tryd.prog 22 #[.agg #[.int .i64 n, .int .i64 o, .int .i64 d], .slice A rs.length c] w fun e w' => e = .returned .nilIface ∧ Below w.heap.size w w' := by
  have HR := Aside0.mk hr
  clear hr
  have hB := Aside0.mk (below_alloc (Below.refl w.heap.size w) (.cells #[.int .i64 n, .int .i64 o, .int .i64 d] 43))
  have hok' := hok
  simp only [chkB, isB, Bool.and_eq_true, decide_eq_true_eq] at hok'
  obtain ⟨⟨h0, h1, h2, h3, h4⟩, h5⟩ := hok'
  have H0 := Aside0.mk h0
  have H5 := Aside0.mk h5
  clear hok h0 h5
  go_enter Tryd.func22, Tryd.ntmps22
  go_wp2_with (first | (go_at_call 33; refine (isRoom_any _ _).mono ?_; rintro e w' ⟨rfl, rfl⟩; rw [H0.out]) | (go_at_call 34; refine (contains_any _ _ rs _ (Kd.C_below HR.out hB.out) hn).mono ?_; rintro e w' ⟨rfl, rfl⟩; rw [← List.not_all_eq_any_not, H5.out]))
  go_ret
  exact ⟨rfl, hB.out⟩

set_option maxHeartbeats 1000000 in
theorem checked_no (n o d : Int) (A : Option Addr) (c : Nat) (rs : List Int) (w : World) (a : Addr) (hr : Kd.C (Kd.int .i64) w A rs.length rs) (hn : rs.length ≤ 9223372036854775807) (hok : chkB n o d rs = false)
    (hg : w.cell? ⟨0, 0, none⟩ = some (.iface 79 (.pointer (some a)))) :
    Calls Tryd.prog 22 #[.agg #[.int .i64 n, .int .i64 o, .int .i64 d], .slice A rs.length c] w fun e w' => e = .returned (.iface 79 (.pointer (some a))) ∧ Below w.heap.size w w' := by
  have HR := Aside0.mk hr
  clear hr
  have hB := Aside0.mk (below_alloc (Below.refl w.heap.size w) (.cells #[.int .i64 n, .int .i64 o, .int .i64 d] 43))
  have hg2 := pw_cell_below hB.out hg
  by_cases ho : 1 ≤ o ∧ o ≤ 20
  · by_cases hd : 1 ≤ d ∧ d ≤ 20
    · obtain ⟨h1, h2⟩ := ho
      obtain ⟨h3, h4⟩ := hd
      by_cases h0 : roomB n = true
      · have h5 : rs.all roomB = false := by simpa [chkB, isB, h0, h1, h2, h3, h4] using hok
        have H0 := Aside0.mk h0
        have H5 := Aside0.mk h5
        clear hok h0 h5
        go_enter Tryd.func22, Tryd.ntmps22
        go_wp2_with (first | (go_at_call 33; refine (isRoom_any _ _).mono ?_; rintro e w' ⟨rfl, rfl⟩; rw [H0.out]) | (go_at_call 34; refine (contains_any _ _ rs _ (Kd.C_below HR.out hB.out) hn).mono ?_; rintro e w' ⟨rfl, rfl⟩; rw [← List.not_all_eq_any_not, H5.out]))
        go_ret
        exact ⟨rfl, hB.out⟩
      · have H0 := Aside0.mk (Bool.eq_false_iff.mpr h0)
        clear hok h0
        go_enter Tryd.func22, Tryd.ntmps22
        go_wp2_with (first | (go_at_call 33; refine (isRoom_any _ _).mono ?_; rintro e w' ⟨rfl, rfl⟩; rw [H0.out]))
        go_ret
        exact ⟨rfl, hB.out⟩
    · obtain ⟨h1, h2⟩ := ho
      have hd' : d < 1 ∨ 20 < d := by omega
      clear hok hd
      rcases hd' with hd | hd
      all_goals
        go_enter Tryd.func22, Tryd.ntmps22
        go_wp2
      all_goals
        go_ret
        exact ⟨rfl, hB.out⟩
  · have ho' : o < 1 ∨ 20 < o := by omega
    clear hok ho
    rcases ho' with ho | ho
    all_goals
      go_enter Tryd.func22, Tryd.ntmps22
      go_wp2
    all_goals
      go_ret
      exact ⟨rfl, hB.out⟩

theorem blk3 {W : World} {g : Nat} {t : TypeId} {x y z : Value} (h : W.heap[g]? = some (.cells #[x, y, z] t (0, 0))) : W.cell? ⟨g, 0, none⟩ = some x ∧ W.cell? ⟨g, 1, none⟩ = some y ∧ W.cell? ⟨g, 2, none⟩ = some z :=
  ⟨(blk_cell h 0).trans rfl, (blk_cell h 1).trans rfl, (blk_cell h 2).trans rfl⟩
theorem nil_C (w : World) : Kd.C (Kd.int .i64) w none ([] : List Int).length [] := by
  have := (Kd.R_reads (Kd.R_nil (Kd.int .i64) 3 w 0 (fun _ => True)))
  obtain ⟨A, c, e, _, h⟩ := this
  cases e
  exact h

def para_May.f (a0 a1 a2 a3 : Int) : Option (Bool × Int) := some (if isB a0 a1 a2 then (mayB a0 a1 a2 a3, 0) else (false, 90))
theorem chk_nil (n o d : Int) : chkB n o d [] = isB n o d := by simp [chkB]
set_option maxHeartbeats 1000000 in
theorem para_May.calls (a0 : Int) (a1 : Int) (a2 : Int) (a3 : Int) (r1 : Bool) (r2 : Int) (w : World) (h : para_May.f a0 a1 a2 a3 = some (r1, r2)) (hG : GOK w) :
    Calls Tryd.prog 16 #[.int .i64 a0, .int .i64 a1, .int .i64 a2, .int .i64 a3] w fun e w' => e = .returned (.tuple #[.bool r1, .int .i64 r2]) ∧ Below w.heap.size w w' := by
  obtain ⟨a, hg⟩ := hG
  have hB0 := Aside0.mk (below_alloc (Below.refl w.heap.size w) (.cells #[.int .i64 a0, .int .i64 a1, .int .i64 a2] 43))
  by_cases hok : isB a0 a1 a2 = true
  · have hr := Option.some.inj h
    rw [if_pos hok, Prod.mk.injEq] at hr
    obtain ⟨rfl, rfl⟩ := hr
    clear h
    have HO := Aside0.mk hok
    clear hok
    go_enter Tryd.func16, Tryd.ntmps16
    go_wp2_with (first | (go_at_call 22; refine (checked_yes a0 a1 a2 none 0 [] _ (nil_C _) (by simp) (by rw [chk_nil]; exact HO.out)).mono ?_; rintro e w1 ⟨rfl, hb⟩; obtain ⟨c0, c1, c2⟩ := blk3 (blk_below (blk_new _ _) hb); have hB1 := Aside0.mk (below_then hB0.out hB0.out.size hb); clear hb) | (go_at_call 29; refine (may_any _ _ _ _ _).mono ?_; rintro e w2 ⟨rfl, hb⟩; have hB2 := Aside0.mk (below_then hB1.out hB1.out.size hb); clear hb))
    go_ret2
    exact ⟨rfl, hB2.out⟩
  · have hr := Option.some.inj h
    rw [if_neg hok, Prod.mk.injEq] at hr
    obtain ⟨rfl, rfl⟩ := hr
    clear h
    have HO := Aside0.mk (Bool.eq_false_iff.mpr hok)
    have hg0 := Aside0.mk (pw_cell_below hB0.out hg)
    clear hok hg
    go_enter Tryd.func16, Tryd.ntmps16
    go_wp2_with (first | (go_at_call 22; refine (checked_no a0 a1 a2 none 0 [] _ a (nil_C _) (by simp) (by rw [chk_nil]; exact HO.out) hg0.out).mono ?_; rintro e w1 ⟨rfl, hb⟩; have hg1 := Aside0.mk (pw_cell_below hb hg0.out); have hB1 := Aside0.mk (below_then hB0.out hB0.out.size hb); clear hb) | (go_at_call 23; refine (told_some a _ hg1.out).mono ?_; rintro e w2 ⟨rfl, rfl⟩))
    go_ret2
    exact ⟨rfl, hB1.out⟩
end Go.Proofs.YtfamkadpncbmlaaDoor.G
