/- Chapter 9, plain: ParaDeals. -/
import Derived.Test.YtfamkadpncbmlaaDoorH1
import Derived.Test.YtfamkadpncbmlaaDoorG9
namespace Go.Proofs.YtfamkadpncbmlaaDoor.G
open Go.RowKit Go.Proofs.YtfamkadpncbmlaaDoorW.PrintWords Go.Proofs.YtfamkadpncbmlaaDoorW.PrintLast Go.Proofs.YtfamkadpncbmlaaDoorW.PrintMore

theorem deal_l0 (n o d : Int) (l : List Int) (hl : l.length ≤ 30) (j : Nat) : ∀ (k : Nat) (ok : Bool) (i : Int), 0 ≤ i → i ≤ l.length → (l.length : Int) - i = j → j + 700 < k →
    ∃ k', 699 < k' ∧ gutterref09_Deal.l0 k n o d l ok i = if (ok && (l.drop i.toNat).all roomB) = true then gutterref09_Deal.l1 k' n o d l [] 0 else some ([], 0, 90) := by
  induction j with
  | zero =>
    intro k ok i h0 h1 hd hk
    obtain ⟨k, rfl⟩ : ∃ m, k = m + 1 := ⟨k - 1, by omega⟩
    refine ⟨k, by omega, ?_⟩
    simp only [gutterref09_Deal.l0]; rw [if_neg (by omega)]
    have e : l.drop i.toNat = [] := List.drop_of_length_le (by omega)
    rw [e]
    simp
  | succ j ih =>
    intro k ok i h0 h1 hd hk
    obtain ⟨k, rfl⟩ : ∃ m, k = m + 1 := ⟨k - 1, by omega⟩
    have hi : i.toNat < l.length := by omega
    have e : l.drop i.toNat = rd l i :: l.drop (i + 1).toNat := by
      have e1 : (i + 1).toNat = i.toNat + 1 := by omega
      rw [e1, List.drop_eq_getElem_cons hi]
      simp [rd, hi]
    simp only [gutterref09_Deal.l0]
    rw [if_pos (by omega), if_pos h0, ref_room, Option.bind_some, wrap_in (by omega) (by omega), e, List.all_cons]
    cases ok
    · obtain ⟨k', hk', hr⟩ := ih k false (i + 1) (by omega) (by omega) (by omega) (by omega)
      exact ⟨k', hk', by simpa using hr⟩
    · obtain ⟨k', hk', hr⟩ := ih k (roomB (rd l i)) (i + 1) (by omega) (by omega) (by omega) (by omega)
      exact ⟨k', hk', by simpa using hr⟩

theorem dealS_zero (o d : Int) (s : Int × List Int) (h : s.1 = 0) (rs : List Int) : rs.foldl (dealS o d) s = s := by
  induction rs with
  | nil => rfl
  | cons r rs ih => rw [List.foldl_cons, dealS, if_pos h]; exact ih

theorem deal_l1 (o d : Int) (l : List Int) (hl : l.length ≤ 30) (hok : l.all roomB = true) (j : Nat) : ∀ (k : Nat) (n : Int) (out : List Int) (i : Int), 0 ≤ n → n ≤ 500 → out.length ≤ i.toNat → 0 ≤ i → i ≤ l.length → (l.length : Int) - i = j → j + 601 < k →
    gutterref09_Deal.l1 k n o d l out i = some (((l.drop i.toNat).foldl (dealS o d) (n, out)).2, ((l.drop i.toNat).foldl (dealS o d) (n, out)).1, 0) := by
  induction j with
  | zero =>
    intro k n out i hn hn5 ho h0 h1 hd hk
    obtain ⟨k, rfl⟩ : ∃ m, k = m + 1 := ⟨k - 1, by omega⟩
    simp only [gutterref09_Deal.l1]; rw [if_neg (by omega), List.drop_of_length_le (by omega)]
    rfl
  | succ j ih =>
    intro k n out i hn hn5 ho h0 h1 hd hk
    obtain ⟨k, rfl⟩ : ∃ m, k = m + 1 := ⟨k - 1, by omega⟩
    have hi : i.toNat < l.length := by omega
    have hr := List.all_eq_true.1 hok l[i.toNat] (List.getElem_mem hi)
    have er : rd l i = l[i.toNat] := by simp [rd, hi]
    have e : l.drop i.toNat = rd l i :: l.drop (i + 1).toNat := by
      have e1 : (i + 1).toNat = i.toNat + 1 := by omega
      rw [e1, List.drop_eq_getElem_cons hi, er]
    rw [← er] at hr
    simp only [roomB, Bool.and_eq_true, decide_eq_true_eq] at hr
    simp only [gutterref09_Deal.l1]
    rw [if_pos (by omega)]
    by_cases hz : n > 0
    · have hb := bestZ_range (n := n) (o := o) (d := d) (r := rd l i) hn
      rw [if_pos hz, if_pos h0, ref_best k n o d (rd l i) (by omega) hn hn5 hr.1 hr.2, Option.bind_some, if_pos (by omega), wrap_in (by omega) (by omega), wrap_in (by omega) (by omega), e, List.foldl_cons]
      rw [ih k (n - bestZ n o d (rd l i)) (out ++ [bestZ n o d (rd l i)]) (i + 1) (by omega) (by omega) (by simp; omega) (by omega) (by omega) (by omega) (by omega)]
      simp only [dealS]
      rw [if_neg (by omega)]
    · have hn0 : n = 0 := by omega
      rw [if_neg hz, dealS_zero o d (n, out) hn0]
theorem ref_Deal (k : Nat) (n o d : Int) (l : List Int) (hl : l.length ≤ 30) (hk : 800 < k) : gutterref09_Deal.f k n o d l = para_Deal.f n o d l := by
  unfold gutterref09_Deal.f para_Deal.f
  rw [ref_is, Option.bind_some, if_pos (by omega)]
  obtain ⟨k', hk', hr⟩ := deal_l0 n o d l hl l.length k (isB n o d) 0 (by omega) (by omega) (by omega) (by omega)
  rw [hr, Int.toNat_zero, List.drop_zero]
  unfold chkB
  cases h : (isB n o d && l.all roomB)
  · simp
  · rw [if_pos rfl, if_pos rfl]
    simp only [Bool.and_eq_true] at h
    have hn := isB_n h.1
    rw [deal_l1 o d l hl h.2 l.length k' n [] 0 hn.1 hn.2 (by simp) (by omega) (by omega) (by omega) (by omega)]
    rfl

theorem Best_some (n o d r : Int) : ∃ p, para_Best.f n o d r = some p := ⟨_, rfl⟩
theorem Deal_some (n o d : Int) (l : List Int) (hl : l.length ≤ 1000) : ∃ p, para_Deal.f n o d l = some p ∧ p.1.length ≤ l.length := by
  unfold para_Deal.f
  rw [if_pos hl]
  refine ⟨_, rfl, ?_⟩
  split
  · exact dealL_len n o d l
  · simp

theorem ParaDeals : gutterlaw09_ParaDeals.Pure := by
  intro n o d r l _ _ _ _ _ _ _
  obtain ⟨h1, h2, h3⟩ := mn_take l
  refine ⟨2000, ?_⟩
  unfold gutterlaw09_ParaDeals.f
  rw [shown_k 2000 (by omega), Option.bind_some, if_pos h1, if_pos h2, ref_Best 2000 n o d r (by omega), ref_Deal 2000 n o d _ h3 (by omega)]
  obtain ⟨p, hp⟩ := Best_some n o d r
  obtain ⟨q, hq, hl⟩ := Deal_some n o d (l.take (mn (l.length : Int) 30).toNat) (by omega)
  rw [hp, hq]
  simp only [Option.bind_some, if_true]
  rw [ints_same 2000 q.1 (by omega) (by omega)]
  simp
end Go.Proofs.YtfamkadpncbmlaaDoor.G
