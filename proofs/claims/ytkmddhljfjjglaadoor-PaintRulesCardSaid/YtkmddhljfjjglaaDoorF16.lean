/- Chapter 18: the law's cuts. Written by mkF16.py. -/
import Derived.Test.YtkmddhljfjjglaaDoorF15
namespace Go.Proofs.YtkmddhljfjjglaaDoor.G
open Go.RowKit Go.Shelf Go.Proofs.YtkmddhljfjjglaaDoorW.PrintWords Go.Proofs.YtkmddhljfjjglaaDoorW.PrintLast Go.Proofs.YtkmddhljfjjglaaDoorW.PrintMore
attribute [local go_sem] max2_int min2_int max_two min_two

theorem C_takeN {α : Type} {k : Kd α} {w : World} {A : Option Addr} {xs : List α} (m : Nat) (h : Kd.C k w A xs.length xs) : Kd.C k w A (xs.take m).length (xs.take m) := by
  by_cases hm : m ≤ xs.length
  · exact Kd.C_take h hm
  · rw [List.take_of_length_le (by omega)]; exact h
set_option maxRecDepth 100000 in
theorem cut_13 {α : Type} (A : Option Addr) (c : Nat) (l y : List α) (w : World) (hc : l.length ≤ c) (hy : y = l.take 60) :
    Calls Tryd.prog 13 #[.slice A l.length c] w fun e w' => e = .returned (.slice A y.length c) ∧ w = w' := by
  obtain ⟨i0, hi, _, _, _⟩ := info_parts info30
  have hly : y.length = min 60 l.length := by rw [hy, List.length_take]
  by_cases h : (60 : Int) < l.length
  · have hcut := cut_to (P := Tryd.prog) 23 30 .i64 Tryd.underlying23 hi A l.length c 60 (by omega) (by omega) hc
    have e : y.length = 60 := by omega
    clear hy hly
    go_enter Tryd.func13, Tryd.ntmps13
    go_wp2
    go_ret
    exact ⟨by rw [e]; rfl, rfl⟩
  · have hcut := cut_to (P := Tryd.prog) 23 30 .i64 Tryd.underlying23 hi A l.length c l.length (by omega) (by omega) hc
    have e : y.length = l.length := by omega
    clear hy hly
    go_enter Tryd.func13, Tryd.ntmps13
    go_wp2
    go_ret
    exact ⟨rfl, rfl⟩
set_option maxRecDepth 100000 in
theorem cut_16 {α : Type} (A : Option Addr) (c : Nat) (l y : List α) (w : World) (hc : l.length ≤ c) (hy : y = l.take 60) :
    Calls Tryd.prog 16 #[.slice A l.length c] w fun e w' => e = .returned (.slice A y.length c) ∧ w = w' := by
  obtain ⟨i0, hi, _, _, _⟩ := info_parts info39
  have hly : y.length = min 60 l.length := by rw [hy, List.length_take]
  by_cases h : (60 : Int) < l.length
  · have hcut := cut_to (P := Tryd.prog) 35 39 .i64 Tryd.underlying35 hi A l.length c 60 (by omega) (by omega) hc
    have e : y.length = 60 := by omega
    clear hy hly
    go_enter Tryd.func16, Tryd.ntmps16
    go_wp2
    go_ret
    exact ⟨by rw [e]; rfl, rfl⟩
  · have hcut := cut_to (P := Tryd.prog) 35 39 .i64 Tryd.underlying35 hi A l.length c l.length (by omega) (by omega) hc
    have e : y.length = l.length := by omega
    clear hy hly
    go_enter Tryd.func16, Tryd.ntmps16
    go_wp2
    go_ret
    exact ⟨rfl, rfl⟩
end Go.Proofs.YtkmddhljfjjglaaDoor.G
