/- Chapter 1: what is told; lengths; sums, differences, products, quotients. -/
import Derived.Test.YtlpkjjeihbdocaaDoorF1
namespace Go.Proofs.YtlpkjjeihbdocaaDoor.G
open Go.RowKit Go.Proofs.YtlpkjjeihbdocaaDoorW.PrintWords Go.Proofs.YtlpkjjeihbdocaaDoorW.PrintLast Go.Proofs.YtlpkjjeihbdocaaDoorW.PrintMore

/-- The three sentinels: too great, no length, by nothing. -/
def Sent (w : World) (a b c : Addr) : Prop :=
  w.cell? ⟨0, 0, none⟩ = some (.iface 90 (.pointer (some a))) ∧ w.cell? ⟨1, 0, none⟩ = some (.iface 90 (.pointer (some b))) ∧ w.cell? ⟨2, 0, none⟩ = some (.iface 90 (.pointer (some c))) ∧ a ≠ b ∧ a ≠ c ∧ b ≠ c ∧
  (∃ cs t, w.heap[a.block]? = some (.cells cs t (0, 0))) ∧ (∃ cs t, w.heap[b.block]? = some (.cells cs t (0, 0))) ∧ (∃ cs t, w.heap[c.block]? = some (.cells cs t (0, 0)))
theorem Sent.below {w w1 : World} {a b c : Addr} (h : Sent w a b c) (hb : Below w.heap.size w w1) : Sent w1 a b c := by
  obtain ⟨h1, h2, h3, h4, h5, h6, ⟨c1, t1, b1⟩, ⟨c2, t2, b2⟩, ⟨c3, t3, b3⟩⟩ := h
  exact ⟨pw_cell_below hb h1, pw_cell_below hb h2, pw_cell_below hb h3, h4, h5, h6, ⟨_, _, blk_below b1 hb⟩, ⟨_, _, blk_below b2 hb⟩, ⟨_, _, blk_below b3 hb⟩⟩
def GOK (w : World) : Prop := ∃ a b c, Sent w a b c
theorem GOK.below {w w1 : World} (h : GOK w) (hb : Below w.heap.size w w1) : GOK w1 := by
  obtain ⟨a, b, c, h⟩ := h
  exact ⟨a, b, c, h.below hb⟩

theorem told_nil (a b c : Addr) (w : World) (h : Sent w a b c) : Calls Tryd.prog 31 #[.nilIface] w fun e w' => e = .returned (.int .i64 0) ∧ w = w' := by
  obtain ⟨h1, h2, h3, _⟩ := h
  go_enter Tryd.func31, Tryd.ntmps31
  go_wp2_with (go_at_call 44; refine (is_nil _ _).mono ?_; rintro e w' ⟨rfl, rfl⟩)
  go_ret
  exact ⟨rfl, rfl⟩
theorem told_over (a b c : Addr) (w : World) (h : Sent w a b c) : Calls Tryd.prog 31 #[.iface 90 (.pointer (some a))] w fun e w' => e = .returned (.int .i64 10) ∧ w = w' := by
  obtain ⟨h1, _⟩ := h
  go_enter Tryd.func31, Tryd.ntmps31
  go_wp2_with (go_at_call 44; refine (is_same _ _).mono ?_; rintro e w' ⟨rfl, rfl⟩)
  go_ret
  exact ⟨rfl, rfl⟩
theorem told_zero (a b c : Addr) (w : World) (h : Sent w a b c) : Calls Tryd.prog 31 #[.iface 90 (.pointer (some c))] w fun e w' => e = .returned (.int .i64 11) ∧ w = w' := by
  have hs := h
  obtain ⟨h1, h2, h3, h4, h5, h6, ⟨c1, t1, b1⟩, ⟨c2, t2, b2⟩, ⟨c3, t3, b3⟩⟩ := h
  have HO := Aside0.mk (is_other c a w (Ne.symm h5) b3 b1)
  clear hs h4 h5 h6 b1 b2 b3
  go_enter Tryd.func31, Tryd.ntmps31
  go_wp2_with (first | (go_at_call 44; with_reducible refine HO.out.mono ?_; rintro e w' ⟨rfl, rfl⟩) | (go_at_call 44; with_reducible refine (is_same c _).mono ?_; rintro e w' ⟨rfl, rfl⟩))
  go_ret
  exact ⟨rfl, rfl⟩
theorem told_text (a b c : Addr) (w : World) (h : Sent w a b c) : Calls Tryd.prog 31 #[.iface 90 (.pointer (some b))] w fun e w' => e = .returned (.int .i64 12) ∧ w = w' := by
  obtain ⟨h1, h2, h3, h4, h5, h6, ⟨c1, t1, b1⟩, ⟨c2, t2, b2⟩, ⟨c3, t3, b3⟩⟩ := h
  have HO := Aside0.mk (is_other b a w (Ne.symm h4) b2 b1)
  have HO2 := Aside0.mk (is_other b c w h6 b2 b3)
  clear h4 h5 h6 b1 b2 b3
  go_enter Tryd.func31, Tryd.ntmps31
  go_wp2_with (first | (go_at_call 44; with_reducible refine HO.out.mono ?_; rintro e w' ⟨rfl, rfl⟩) | (go_at_call 44; with_reducible refine HO2.out.mono ?_; rintro e w' ⟨rfl, rfl⟩) | (go_at_call 44; with_reducible refine (is_same b _).mono ?_; rintro e w' ⟨rfl, rfl⟩))
  go_ret
  exact ⟨rfl, rfl⟩

/-- Is a number a length? -/
def lenB (a : Int) : Bool := decide (-1073741824 ≤ a) && decide (a ≤ 1073741824)
theorem right_any (a : Int) (w : World) : Calls Tryd.prog 17 #[.int .i64 a] w fun e w' => e = .returned (.bool (lenB a)) ∧ w = w' := by
  unfold lenB
  by_cases h : -1073741824 ≤ a
  · go_enter Tryd.func17, Tryd.ntmps17
    go_wp2
    go_ret
    exact ⟨by simp [h], rfl⟩
  · go_enter Tryd.func17, Tryd.ntmps17
    go_wp2
    go_ret
    exact ⟨by simp; intro; omega, rfl⟩
def unit_Right.f (a0 : Int) : Option (Bool) := some (lenB a0)
theorem unit_Right.calls (a0 : Int) (r : Bool) (w : World) (h : unit_Right.f a0 = some r) :
    Calls Tryd.prog 17 #[.int .i64 a0] w fun e w' => e = .returned (.bool r) ∧ Below w.heap.size w w' := by
  obtain rfl := Option.some.inj h
  refine (right_any a0 w).mono ?_
  rintro e w' ⟨rfl, rfl⟩
  exact ⟨rfl, Below.refl _ _⟩
/-- What a result is: the number, and how it went. -/
def resZ (x : Int) : Int × Int := if lenB x then (x, 0) else (0, 10)
theorem result_any (x : Int) (a b c : Addr) (w : World) (h : Sent w a b c) : Calls Tryd.prog 40 #[.int .i64 x] w fun e w' => e = .returned (.tuple #[.int .i64 (resZ x).1, .int .i64 (resZ x).2]) ∧ w = w' := by
  have HS := Aside0.mk h
  have h1 := h.1
  clear h
  unfold resZ
  by_cases hl : lenB x = true
  · rw [if_pos hl]
    have HL := Aside0.mk hl
    clear hl
    go_enter Tryd.func40, Tryd.ntmps40
    go_wp2_with (go_at_call 17; refine (right_any _ _).mono ?_; rintro e w' ⟨rfl, rfl⟩; rw [HL.out])
    go_ret2
    exact ⟨rfl, rfl⟩
  · rw [if_neg hl]
    have HL := Aside0.mk (Bool.eq_false_iff.mpr hl)
    clear hl
    go_enter Tryd.func40, Tryd.ntmps40
    go_wp2_with (first | (go_at_call 17; refine (right_any _ _).mono ?_; rintro e w' ⟨rfl, rfl⟩; rw [HL.out]) | (go_at_call 31; refine (told_over _ _ _ _ HS.out).mono ?_; rintro e w' ⟨rfl, rfl⟩))
    go_ret2
    exact ⟨rfl, rfl⟩
end Go.Proofs.YtlpkjjeihbdocaaDoor.G
