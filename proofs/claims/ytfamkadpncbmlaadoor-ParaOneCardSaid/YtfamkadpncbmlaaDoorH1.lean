/- Chapter 9, plain: the document's answers are the program's. -/
import Derived.Test.YtfamkadpncbmlaaDoorG1
import Derived.Test.YtfamkadpncbmlaaDoorG2
import Derived.Test.YtfamkadpncbmlaaDoorG7
namespace Go.Proofs.YtfamkadpncbmlaaDoor.G
open Go.RowKit Go.Proofs.YtfamkadpncbmlaaDoorW.PrintWords Go.Proofs.YtfamkadpncbmlaaDoorW.PrintLast Go.Proofs.YtfamkadpncbmlaaDoorW.PrintMore

theorem wrap_in {x : Int} (h1 : -9223372036854775808 ≤ x) (h2 : x ≤ 9223372036854775807) : wrap64 x = x := by unfold wrap64; omega

theorem ints_l0 (l : List Int) (hl : l.length ≤ 1000000) (d : Nat) : ∀ (k : Nat) (i : Int), 0 ≤ i → i ≤ l.length → (l.length : Int) - i = d → d < k → gutterref05_Ints.l0 k l l i = some true := by
  induction d with
  | zero =>
    intro k i h0 h1 hd hk
    obtain ⟨k, rfl⟩ : ∃ m, k = m + 1 := ⟨k - 1, by omega⟩
    simp only [gutterref05_Ints.l0]; rw [if_neg (by omega)]
  | succ d ih =>
    intro k i h0 h1 hd hk
    obtain ⟨k, rfl⟩ : ∃ m, k = m + 1 := ⟨k - 1, by omega⟩
    simp only [gutterref05_Ints.l0]
    rw [if_pos (by omega), if_pos h0, if_pos (by omega), if_true, wrap_in (by omega) (by omega)]
    exact ih k (i + 1) (by omega) (by omega) (by omega) (by omega)
theorem ints_same (k : Nat) (l : List Int) (hl : l.length ≤ 1000000) (hk : l.length < k) : gutterref05_Ints.f k l l = some true := by
  unfold gutterref05_Ints.f
  rw [if_pos rfl]
  exact ints_l0 l hl l.length k 0 (by omega) (by omega) (by omega) hk

theorem ite_and (c : Prop) [Decidable c] (a : Bool) : (if c then some a else some false) = some (decide c && a) := by by_cases h : c <;> simp [h]
theorem ref_is (n o d : Int) : gutterref09_is.f n o d = some (isB n o d) := by
  unfold gutterref09_is.f isB roomB
  simp only [ite_and, ge_iff_le, Bool.and_assoc]
theorem ref_room (n : Int) : gutterref09_room.f n = some (roomB n) := by
  unfold gutterref09_room.f roomB
  simp only [ite_and, ge_iff_le]
theorem ref_may (n o d k : Int) : gutterref09_may.f n o d k = some (mayB n o d k) := by
  unfold gutterref09_may.f mayB
  simp only [ite_and, ge_iff_le]

theorem bestL_upTo_succ (n o d r : Int) (m : Nat) : bestL r (upTo n o d (m + 1)) = if mayB n o d ((m : Int) + 1) = true ∧ (m : Int) + 1 ≤ r then (m : Int) + 1 else bestL r (upTo n o d m) := by
  rw [upTo_succ]
  by_cases h : mayB n o d ((m : Int) + 1) = true
  · rw [if_pos h, bestL_snoc]
    by_cases h2 : (m : Int) + 1 ≤ r
    · rw [if_pos h2, if_pos ⟨h, h2⟩]
    · rw [if_neg h2, if_neg (fun z => h2 z.2)]
  · rw [if_neg h, List.append_nil, if_neg (fun z => h z.1)]
/-- What is above r does not count. -/
theorem bestL_cut (n o d r : Int) (m : Nat) (j : Nat) (h : r ≤ m) : bestL r (upTo n o d (m + j)) = bestL r (upTo n o d m) := by
  induction j with
  | zero => rfl
  | succ j ih => rw [← Nat.add_assoc, bestL_upTo_succ, if_neg (fun z => by omega)]; exact ih
theorem bestL_all (n o d r : Int) (m : Nat) (h : (m : Int) ≤ r) : bestL r (upTo n o d m) = bestL m (upTo n o d m) := by
  have : ∀ j : Nat, j ≤ m → bestL r (upTo n o d j) = bestL m (upTo n o d j) := by
    intro j hj
    induction j with
    | zero => rfl
    | succ j ih =>
      rw [bestL_upTo_succ, bestL_upTo_succ, ih (by omega)]
      by_cases h1 : mayB n o d ((j : Int) + 1) = true
      · rw [if_pos ⟨h1, by omega⟩, if_pos ⟨h1, by omega⟩]
      · rw [if_neg (fun z => h1 z.1), if_neg (fun z => h1 z.1)]
  exact this m (Nat.le_refl _)
theorem best_l0 (n o d : Int) (m : Nat) : ∀ k : Nat, m < k → m ≤ 500 → gutterref09_best.l0 k n o d m = some (bestL m (upTo n o d m)) := by
  induction m with
  | zero =>
    intro k hk _
    obtain ⟨k, rfl⟩ : ∃ m, k = m + 1 := ⟨k - 1, by omega⟩
    simp only [gutterref09_best.l0]; rw [if_neg (by omega)]; rfl
  | succ m ih =>
    intro k hk hm
    obtain ⟨k, rfl⟩ : ∃ m, k = m + 1 := ⟨k - 1, by omega⟩
    simp only [gutterref09_best.l0]
    rw [if_pos (by omega), ref_may, Option.bind_some, bestL_upTo_succ]
    have e : ((m + 1 : Nat) : Int) = (m : Int) + 1 := by omega
    rw [e]
    by_cases h : mayB n o d ((m : Int) + 1) = true
    · rw [if_pos h, if_pos ⟨h, by omega⟩]
    · rw [if_neg h, if_neg (fun z => h z.1), wrap_in (by omega) (by omega), bestL_all n o d ((m : Int) + 1) m (by omega)]
      have e2 : (m : Int) + 1 - 1 = m := by omega
      rw [e2]
      exact ih k (by omega) (by omega)
theorem ref_best (k : Nat) (n o d r : Int) (hk : 600 < k) (hn0 : 0 ≤ n) (hn : n ≤ 500) (hr0 : 0 ≤ r) (hr : r ≤ 500) : gutterref09_best.f k n o d r = some (bestZ n o d r) := by
  unfold gutterref09_best.f bestZ
  by_cases h : n ≤ r
  · rw [if_pos h, if_pos h]
  · rw [if_neg h, if_neg h]
    obtain ⟨m, rfl⟩ := Int.eq_ofNat_of_zero_le hr0
    have e : n.toNat - 1 = m + (n.toNat - 1 - m) := by omega
    rw [e, bestL_cut n o d m m _ (by omega)]
    exact best_l0 n o d m k (by omega) (by omega)

theorem shown_ok : gutterlaw09_shown.f 10 = some true := by kernel_rfl
theorem shown_k (k : Nat) (hk : 10 ≤ k) : gutterlaw09_shown.f k = some true := at_rounds (fun k => gutterlaw09_shown.mono k) hk shown_ok
theorem ref_Best (k : Nat) (n o d r : Int) (hk : 600 < k) : gutterref09_Best.f k n o d r = para_Best.f n o d r := by
  unfold gutterref09_Best.f para_Best.f
  rw [ref_is, Option.bind_some, ref_room]
  unfold chkB
  cases h : isB n o d
  · simp
  · cases h2 : roomB r
    · simp [h2]
    · have := isB_n h
      have h3 := h2
      simp only [roomB, Bool.and_eq_true, decide_eq_true_eq] at h3
      simp [h2, ref_best k n o d r hk this.1 this.2 h3.1 h3.2]

/-- How many of the rooms are taken. -/
theorem mn_take (l : List Int) : 0 ≤ mn (l.length : Int) 30 ∧ mn (l.length : Int) 30 ≤ l.length ∧ (l.take (mn (l.length : Int) 30).toNat).length ≤ 30 := by
  unfold mn
  split <;> simp <;> omega
end Go.Proofs.YtfamkadpncbmlaaDoor.G
