/- Chapter 9, plain: ParaSplits, ParaKeep. -/
import Derived.Test.YtfamkadpncbmlaaDoorH1
import Derived.Test.YtfamkadpncbmlaaDoorG17
import Derived.Test.YtfamkadpncbmlaaDoorG18
namespace Go.Proofs.YtfamkadpncbmlaaDoor.G
open Go.RowKit Go.Proofs.YtfamkadpncbmlaaDoorW.PrintWords Go.Proofs.YtfamkadpncbmlaaDoorW.PrintLast Go.Proofs.YtfamkadpncbmlaaDoorW.PrintMore

theorem mem_of_may {n o d x : Int} {k : Nat} (h1 : 1 ≤ x) (h2 : x ≤ k) (h : mayB n o d x = true) : x ∈ upTo n o d k := by
  unfold upTo
  rw [List.mem_filter, List.mem_map]
  refine ⟨⟨x.toNat - 1, List.mem_range.2 (by omega), by omega⟩, h⟩
theorem mem_iff (n o d x : Int) (ho : 1 ≤ o) : (upTo n o d (n.toNat - 1)).contains x = mayB n o d x := by
  rw [Bool.eq_iff_iff, List.contains_iff_mem]
  constructor
  · intro h; exact (mem_upTo h).2.2
  · intro h
    have h2 := h
    simp only [mayB, Bool.and_eq_true, decide_eq_true_eq] at h2
    exact mem_of_may (by omega) (by omega) h
theorem mx_len (n : Int) (h : n ≤ 500) (h0 : 0 ≤ n) : ((n.toNat - 1 : Nat) : Int) = mx 0 (wrap64 (n - 1)) := by
  rw [wrap_in (by omega) (by omega)]
  unfold mx
  split <;> omega
theorem splits_loop (n x : Int) (l b : List Int) (hl : l.length ≤ 1000) (may : Bool) (r : Option Bool) (hr : ∀ k, 0 < k → gutterlaw09_ParaSplits.l0 k n x true l b 0 may 0 (l.contains x) l.length = r) (j : Nat) :
    ∀ (k : Nat) (i : Nat), i + j = l.length → j < k → gutterlaw09_ParaSplits.l0 k n x true l b 0 may 0 ((l.take i).contains x) i = r := by
  induction j with
  | zero =>
    intro k i hi hk
    obtain rfl : i = l.length := by omega
    rw [List.take_length]
    exact hr k hk
  | succ j ih =>
    intro k i hi hk
    obtain ⟨k, rfl⟩ : ∃ m, k = m + 1 := ⟨k - 1, by omega⟩
    have hlt : i < l.length := by omega
    have ht : (l.take (i + 1)).contains x = ((l.take i).contains x || (rd l i == x)) := by
      have e : l.take (i + 1) = l.take i ++ [rd l i] := by rw [List.take_succ_eq_append_getElem hlt]; simp [rd, hlt]
      rw [e, List.contains_append]
      congr 1
      simp only [List.contains_cons, List.contains_nil, Bool.or_false]
      rw [Bool.eq_iff_iff, beq_iff_eq, beq_iff_eq]; exact eq_comm
    have h2 := ih k (i + 1) (by omega) (by omega)
    rw [ht] at h2
    have e : ((i + 1 : Nat) : Int) = (i : Int) + 1 := by omega
    rw [e] at h2
    simp only [gutterlaw09_ParaSplits.l0]
    rw [if_pos (by omega), wrap_in (by omega) (by omega)]
    cases h : (l.take i).contains x
    · rw [h, Bool.false_or] at h2
      rw [if_neg (by decide), if_pos (by omega)]; exact h2
    · rw [h, Bool.true_or] at h2
      rw [if_pos rfl]; exact h2
theorem brk_at (n o d : Int) (keep : Bool) (m : Nat) (i : Nat) (h : i < m) : rd (brk n o d keep m) i = if (mayB n o d ((i : Int) + 1) && !keep) = true then 0 else 1 := by
  simp [rd, brk, h]
theorem ParaSplits : gutterlaw09_ParaSplits.Pure := by
  intro n o d x _ _ _ _
  refine ⟨2000, ?_⟩
  unfold gutterlaw09_ParaSplits.f
  rw [shown_k 2000 (by omega), Option.bind_some]
  unfold para_Splits.f para_Breaks.f para_May.f
  simp only [Option.bind_some]
  by_cases h : isB n o d = true
  · simp only [if_pos h]
    rw [if_pos trivial]
    have hn := isB_n h
    have ho : 1 ≤ o := by simp only [isB, Bool.and_eq_true, decide_eq_true_eq] at h; exact h.2.1
    have hl := upTo_len n o d (n.toNat - 1)
    refine splits_loop n x _ _ (by omega) _ (some true) ?_ (upTo n o d (n.toNat - 1)).length 2000 0 (by omega) (by omega)
    intro k hk
    obtain ⟨k, rfl⟩ : ∃ m, k = m + 1 := ⟨k - 1, by omega⟩
    simp only [gutterlaw09_ParaSplits.l0]
    rw [if_neg (by omega), if_pos trivial, if_pos trivial, mem_iff n o d x ho, if_neg (by simp), brk_len, if_pos (mx_len n hn.2 hn.1), if_pos trivial]
    by_cases h1 : x < 1
    · rw [if_pos h1]
    · rw [if_neg h1]
      by_cases h2 : x ≥ n
      · rw [if_pos h2]
      · rw [if_neg h2, wrap_in (by omega) (by omega), if_pos (by omega), if_pos (by omega)]
        obtain ⟨i, hi⟩ : ∃ i : Nat, x - 1 = i := ⟨(x - 1).toNat, by omega⟩
        rw [hi, brk_at n o d false _ i (by omega)]
        have e : (i : Int) + 1 = x := by omega
        rw [e]
        cases mayB n o d x <;> rfl
  · simp only [if_neg h]
    simp
theorem keep_loop (n : Int) (l : List Int) (hl : l.length ≤ 1000) (hall : ∀ i : Nat, i < l.length → rd l i = 1) (hx : (l.length : Int) = mx 0 (wrap64 (n - 1))) (j : Nat) :
    ∀ (k : Nat) (i : Nat), i + j = l.length → j < k → gutterlaw09_ParaKeep.l0 k n true l i = some true := by
  induction j with
  | zero =>
    intro k i hi hk
    obtain ⟨k, rfl⟩ : ∃ m, k = m + 1 := ⟨k - 1, by omega⟩
    simp only [gutterlaw09_ParaKeep.l0]
    rw [if_neg (by omega), if_pos trivial, hx]; simp
  | succ j ih =>
    intro k i hi hk
    obtain ⟨k, rfl⟩ : ∃ m, k = m + 1 := ⟨k - 1, by omega⟩
    have h2 := ih k (i + 1) (by omega) (by omega)
    have e : ((i + 1 : Nat) : Int) = (i : Int) + 1 := by omega
    rw [e] at h2
    simp only [gutterlaw09_ParaKeep.l0]
    rw [if_pos (by omega), if_pos (by omega), hall i (by omega), if_pos rfl, wrap_in (by omega) (by omega)]
    exact h2
theorem ParaKeep : gutterlaw09_ParaKeep.Pure := by
  intro n o d _ _ _
  refine ⟨2000, ?_⟩
  unfold gutterlaw09_ParaKeep.f
  rw [shown_k 2000 (by omega), Option.bind_some]
  unfold para_Breaks.f
  simp only [Option.bind_some]
  by_cases h : isB n o d = true
  · simp only [if_pos h]
    rw [if_pos trivial]
    have hn := isB_n h
    refine keep_loop n _ (by rw [brk_len]; omega) ?_ (by rw [brk_len]; exact mx_len n hn.2 hn.1) (brk n o d true (n.toNat - 1)).length 2000 0 (by omega) (by rw [brk_len]; omega)
    intro i hi
    rw [brk_len] at hi
    rw [brk_at n o d true _ i hi]
    simp
  · simp only [if_neg h]
    simp
end Go.Proofs.YtfamkadpncbmlaaDoor.G
