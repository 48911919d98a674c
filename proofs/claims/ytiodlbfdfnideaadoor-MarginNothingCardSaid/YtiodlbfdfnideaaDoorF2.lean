/- Chapter 10: the law's cuts; what a margin is; a heap of margins. -/
import Derived.Test.YtiodlbfdfnideaaDoorF1
namespace Go.Proofs.YtiodlbfdfnideaaDoor.G
open Go.RowKit Go.Proofs.YtiodlbfdfnideaaDoorW.PrintWords Go.Proofs.YtiodlbfdfnideaaDoorW.PrintLast Go.Proofs.YtiodlbfdfnideaaDoorW.PrintMore
attribute [local go_sem] max2_int min2_int max_two min_two

theorem C_takeN {α : Type} {k : Kd α} {w : World} {A : Option Addr} {xs : List α} (m : Nat) (h : Kd.C k w A xs.length xs) : Kd.C k w A (xs.take m).length (xs.take m) := by
  by_cases hm : m ≤ xs.length
  · exact Kd.C_take h hm
  · rw [List.take_of_length_le (by omega)]; exact h

set_option maxRecDepth 100000 in
theorem cut_11 (A : Option Addr) (c : Nat) (l y : List Int) (w : World) (hc : l.length ≤ c) (hy : y = l.take 100) :
    Calls Tryd.prog 11 #[.slice A l.length c] w fun e w' => e = .returned (.slice A y.length c) ∧ w = w' := by
  obtain ⟨i0, hi, _, _, _⟩ := info_parts info2
  have hly : y.length = min 100 l.length := by rw [hy, List.length_take]
  by_cases h : (100 : Int) < l.length
  · have hcut := cut_to (P := Tryd.prog) 22 2 .i64 Tryd.underlying22 hi A l.length c 100 (by omega) (by omega) hc
    have e : y.length = 100 := by omega
    clear hy hly
    go_enter Tryd.func11, Tryd.ntmps11
    go_wp2
    go_ret
    exact ⟨by rw [e]; rfl, rfl⟩
  · have hcut := cut_to (P := Tryd.prog) 22 2 .i64 Tryd.underlying22 hi A l.length c l.length (by omega) (by omega) hc
    have e : y.length = l.length := by omega
    clear hy hly
    go_enter Tryd.func11, Tryd.ntmps11
    go_wp2
    go_ret
    exact ⟨rfl, rfl⟩
set_option maxRecDepth 100000 in
theorem cut_14 {α : Type} (A : Option Addr) (c : Nat) (l y : List α) (w : World) (hc : l.length ≤ c) (hy : y = l.take 40) :
    Calls Tryd.prog 14 #[.slice A l.length c] w fun e w' => e = .returned (.slice A y.length c) ∧ w = w' := by
  obtain ⟨i0, hi, _, _, _⟩ := info_parts info42
  have hly : y.length = min 40 l.length := by rw [hy, List.length_take]
  by_cases h : (40 : Int) < l.length
  · have hcut := cut_to (P := Tryd.prog) 30 42 .i64 Tryd.underlying30 hi A l.length c 40 (by omega) (by omega) hc
    have e : y.length = 40 := by omega
    clear hy hly
    go_enter Tryd.func14, Tryd.ntmps14
    go_wp2
    go_ret
    exact ⟨by rw [e]; rfl, rfl⟩
  · have hcut := cut_to (P := Tryd.prog) 30 42 .i64 Tryd.underlying30 hi A l.length c l.length (by omega) (by omega) hc
    have e : y.length = l.length := by omega
    clear hy hly
    go_enter Tryd.func14, Tryd.ntmps14
    go_wp2
    go_ret
    exact ⟨rfl, rfl⟩

/-- Is a length one? -/
def lenB (a : Int) : Bool := decide (-1073741824 ≤ a) && decide (a ≤ 1073741824)
theorem right_any (a : Int) (w : World) : Calls Tryd.prog 37 #[.int .i64 a] w fun e w' => e = .returned (.bool (lenB a)) ∧ w = w' := by
  unfold lenB
  by_cases h : -1073741824 ≤ a
  · go_enter Tryd.func37, Tryd.ntmps37
    go_wp2
    go_ret
    exact ⟨by simp [h], rfl⟩
  · go_enter Tryd.func37, Tryd.ntmps37
    go_wp2
    go_ret
    exact ⟨by simp; intro; omega, rfl⟩
/-- Is a length a margin? -/
def marB (a : Int) : Bool := decide (-1048576 ≤ a) && decide (a ≤ 1048576)
theorem marB_len {a : Int} (h : -1048576 ≤ a ∧ a ≤ 1048576) : lenB a = true := by simp [lenB]; omega
set_option maxRecDepth 100000 in
theorem isMargin_any (a : Int) (w : World) : Calls Tryd.prog 24 #[.int .i64 a] w fun e w' => e = .returned (.bool (marB a)) ∧ w = w' := by
  unfold marB
  by_cases hl : lenB a = true
  · have HL := Aside0.mk hl
    clear hl
    by_cases h : -1048576 ≤ a
    · go_enter Tryd.func24, Tryd.ntmps24
      go_wp2_with (go_at_call 37; refine (right_any _ _).mono ?_; rintro e w' ⟨rfl, rfl⟩; rw [HL.out])
      go_ret
      exact ⟨by simp [h], rfl⟩
    · go_enter Tryd.func24, Tryd.ntmps24
      go_wp2_with (go_at_call 37; refine (right_any _ _).mono ?_; rintro e w' ⟨rfl, rfl⟩; rw [HL.out])
      go_ret
      exact ⟨by simp; intro; omega, rfl⟩
  · have HL := Aside0.mk (Bool.eq_false_iff.mpr hl)
    have hm : (decide (-1048576 ≤ a) && decide (a ≤ 1048576)) = false := by
      cases hb : decide (-1048576 ≤ a) && decide (a ≤ 1048576)
      · rfl
      · exact absurd (marB_len (by simpa using hb)) hl
    rw [hm]
    clear hl hm
    go_enter Tryd.func24, Tryd.ntmps24
    go_wp2_with (go_at_call 37; refine (right_any _ _).mono ?_; rintro e w' ⟨rfl, rfl⟩; rw [HL.out])
    go_ret
    exact ⟨rfl, rfl⟩

/-- A heap's cells, at an offset inside a block. -/
def HeapAt (w : World) (b o : Nat) (u d n : Int) : Prop := w.cell? ⟨b, o, none⟩ = some (.int .i64 u) ∧ w.cell? ⟨b, o + 1, none⟩ = some (.int .i64 d) ∧ w.cell? ⟨b, o + 2, none⟩ = some (.int .i64 n)
theorem one_any (b o : Nat) (u d n : Int) (w : World) (h : HeapAt w b o u d n) (hu : -1048576 ≤ u ∧ u ≤ 1048576) (hd : -1048576 ≤ d ∧ d ≤ 1048576) :
    Calls Tryd.prog 28 #[.pointer (some ⟨b, o, none⟩)] w fun e w' => e = .returned (.int .i64 (u + d)) ∧ Below w.heap.size w w' := by
  obtain ⟨h1, h2, _⟩ := h
  go_enter Tryd.func28, Tryd.ntmps28
  go_wp2
  go_quiet (fail)
  go_wp2
  go_ret
  exact ⟨rfl, pw_below_drewN (Below.refl _ _) _⟩
end Go.Proofs.YtiodlbfdfnideaaDoor.G
