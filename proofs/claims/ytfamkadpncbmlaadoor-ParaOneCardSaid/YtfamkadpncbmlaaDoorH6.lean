/- Chapter 9, plain: ParaSums, ParaOne. -/
import Derived.Test.YtfamkadpncbmlaaDoorH1
import Derived.Test.YtfamkadpncbmlaaDoorG10
import Derived.Test.YtfamkadpncbmlaaDoorG12
namespace Go.Proofs.YtfamkadpncbmlaaDoor.G
open Go.RowKit Go.Proofs.YtfamkadpncbmlaaDoorW.PrintWords Go.Proofs.YtfamkadpncbmlaaDoorW.PrintLast Go.Proofs.YtfamkadpncbmlaaDoorW.PrintMore

@[irreducible] def sm (l : List Int) : Int := l.foldl (· + ·) 0
theorem sm_snoc (l : List Int) (x : Int) : sm (l ++ [x]) = sm l + x := by simp [sm]
theorem bestZ_le (n o d r : Int) (hr : 0 ≤ r) : bestZ n o d r ≤ r := by
  unfold bestZ
  split
  · assumption
  · rcases bestL_mem r (upTo n o d (n.toNat - 1)) with h2 | ⟨_, h2⟩
    · omega
    · exact h2
theorem bestZ_in (n o d r : Int) : bestZ n o d r = n ∨ bestZ n o d r = 0 ∨ mayB n o d (bestZ n o d r) = true := by
  unfold bestZ
  split
  · exact .inl rfl
  · rcases bestL_mem r (upTo n o d (n.toNat - 1)) with h2 | ⟨h2, _⟩
    · exact .inr (.inl h2)
    · exact .inr (.inr (mem_upTo h2).2.2)
theorem rd_lt (l m : List Int) (i : Nat) (h : i < l.length) : rd (l ++ m) i = rd l i := by
  simp [rd, List.getElem?_append_left h]
theorem rd_last (l : List Int) (x : Int) : rd (l ++ [x]) l.length = x := by simp [rd]
theorem deal_inv (n o d : Int) (hn : 0 ≤ n) (rs : List Int) : (dealL n o d rs).2.length ≤ rs.length ∧ ((dealL n o d rs).1 = 0 ∨ (dealL n o d rs).2.length = rs.length) ∧ (dealL n o d rs).1 + sm (dealL n o d rs).2 = n ∧ 0 ≤ (dealL n o d rs).1 ∧
    ∀ i : Nat, i < (dealL n o d rs).2.length → rd (dealL n o d rs).2 i = bestZ (n - sm ((dealL n o d rs).2.take i)) o d (rd rs i) ∧ 0 ≤ n - sm ((dealL n o d rs).2.take i) := by
  induction rs using snoc_ind with
  | h0 => exact ⟨Nat.le_refl _, .inr rfl, by simp [dealL, sm], hn, fun i h => by simp [dealL] at h⟩
  | h1 l x ih =>
    obtain ⟨h1, h2, h3, h4, h5⟩ := ih
    rw [dealL_snoc, dealS]
    by_cases h0 : (dealL n o d l).1 = 0
    · rw [if_pos h0]
      refine ⟨by simp; omega, .inl h0, h3, h4, fun i hi => ?_⟩
      rw [rd_lt l [x] i (by omega)]
      exact h5 i hi
    · rw [if_neg h0]
      have h2' : (dealL n o d l).2.length = l.length := h2.resolve_left h0
      generalize dealL n o d l = s at *
      dsimp only
      have hb := bestZ_range (n := s.1) (o := o) (d := d) (r := x) h4
      refine ⟨by simp; omega, .inr (by simp; omega), by rw [sm_snoc]; omega, by omega, fun i hi => ?_⟩
      rw [List.length_append, List.length_singleton] at hi
      by_cases hlt : i < s.2.length
      · rw [rd_lt _ _ i hlt, rd_lt l _ i (by omega), List.take_append_of_le_length (by omega)]
        exact h5 i hlt
      · have e : i = s.2.length := by omega
        subst e
        rw [rd_last, List.take_left, h2', rd_last]
        have e2 : n - sm s.2 = s.1 := by omega
        rw [e2]
        exact ⟨rfl, h4⟩

theorem sums_l0 (n o d : Int) (rs : List Int) (out : List Int) (left : Int) (hrs : rs.all roomB = true) (hn : 0 ≤ n) (hn5 : n ≤ 500) (hl30 : rs.length ≤ 30)
    (h1 : out.length ≤ rs.length) (h3 : left + sm out = n) (h4 : 0 ≤ left) (h4' : left ≤ n)
    (h5 : ∀ i : Nat, i < out.length → rd out i = bestZ (n - sm (out.take i)) o d (rd rs i) ∧ 0 ≤ n - sm (out.take i)) (hq : ∀ i : Nat, i ≤ out.length → 0 ≤ sm (out.take i) ∧ sm (out.take i) ≤ n) (m : Nat) :
    ∀ (k : Nat) (i : Nat), i ≤ out.length → out.length - i = m → 2 * m + 1 < k → gutterlaw09_ParaSums.l0 k n o d rs true out left (left + sm (out.take i)) i = some true := by
  induction m with
  | zero =>
    intro k i hi hm hk
    obtain ⟨k, rfl⟩ : ∃ m, k = m + 1 := ⟨k - 1, by omega⟩
    have e : i = out.length := by omega
    subst e
    simp only [gutterlaw09_ParaSums.l0]
    rw [if_neg (by omega), if_pos trivial, List.take_length, if_pos h3, decide_eq_true h4]
  | succ m ih =>
    intro k i hi hm hk
    obtain ⟨k, rfl⟩ : ∃ m, k = m + 2 := ⟨k - 2, by omega⟩
    have hlt : i < out.length := by omega
    have p1 : (i : Int) < (out.length : Int) := by omega
    have p2 : ¬ (i : Int) ≥ (rs.length : Int) := by omega
    have p3 : (0 : Int) ≤ (i : Int) := by omega
    have p4 : (i : Int) < (rs.length : Int) := by omega
    have hw2 : wrap64 ((i : Int) + 1) = ((i + 1 : Nat) : Int) := by rw [wrap_in (by omega) (by omega)]; omega
    obtain ⟨e1, e2⟩ := h5 i hlt
    have hq1 := hq i hi
    have hq2 := hq (i + 1) (by omega)
    have hr0 := room_at hrs i (by omega)
    have hb := bestZ_range (n := n - sm (out.take i)) (o := o) (d := d) (r := rd rs i) e2
    have hb2 := bestZ_le (n - sm (out.take i)) o d (rd rs i) hr0
    have hin := bestZ_in (n - sm (out.take i)) o d (rd rs i)
    rw [← e1] at hb hb2 hin
    have ht := take_rd out i hlt
    have hs : sm (out.take (i + 1)) = sm (out.take i) + rd out i := by rw [ht, sm_snoc]
    have hnext := ih k (i + 1) (by omega) (by omega) (by omega)
    have hw : wrap64 (left + sm (out.take i) + rd out i) = left + sm (out.take (i + 1)) := by rw [wrap_in (by omega) (by omega)]; omega
    have p5 : ¬ rd out i < 0 := by omega
    have p6 : ¬ rd out i > rd rs i := by omega
    have hw3 : wrap64 (n - (left + sm (out.take (i + 1)))) = n - (left + sm (out.take (i + 1))) := wrap_in (by omega) (by omega)
    have hw4 : wrap64 (n - (left + sm (out.take (i + 1))) + left) = n - sm (out.take (i + 1)) := by rw [wrap_in (by omega) (by omega)]; omega
    simp only [gutterlaw09_ParaSums.l0, gutterlaw09_ParaSums.j1]
    rw [if_pos p1, if_neg p2, if_pos p3, if_neg p5, if_pos p4, decide_eq_false p6, if_neg Bool.false_ne_true, if_pos p3, if_pos p1, hw, hw2, hw3, hw4]
    by_cases c1 : rd out i > 0
    · rw [if_pos c1]
      by_cases c2 : n - sm (out.take (i + 1)) > 0
      · have hmay : mayB (n - sm (out.take i)) o d (rd out i) = true := by
          rcases hin with h | h | h
          · omega
          · omega
          · exact h
        simp only [mayB, Bool.and_eq_true, decide_eq_true_eq] at hmay
        rw [wrap_in (x := n - sm (out.take i) - rd out i) (by omega) (by omega)] at hmay
        rw [if_pos c2, if_neg (by omega), if_neg (by omega)]
        exact hnext
      · rw [if_neg c2]; exact hnext
    · rw [if_neg c1]; exact hnext

theorem sm_range (n o d : Int) (out rs : List Int) (hn : 0 ≤ n) (h5 : ∀ i : Nat, i < out.length → rd out i = bestZ (n - sm (out.take i)) o d (rd rs i) ∧ 0 ≤ n - sm (out.take i)) (i : Nat) (hi : i ≤ out.length) : 0 ≤ sm (out.take i) ∧ sm (out.take i) ≤ n := by
  induction i with
  | zero => simp [sm]; exact hn
  | succ i ih =>
    obtain ⟨e1, e2⟩ := h5 i (by omega)
    have hb := bestZ_range (n := n - sm (out.take i)) (o := o) (d := d) (r := rd rs i) e2
    have := ih (by omega)
    rw [take_rd out i (by omega), sm_snoc]
    omega

theorem ParaSums : gutterlaw09_ParaSums.Pure := by
  intro n o d rs0 _ _ _ _ _ _
  refine ⟨2000, ?_⟩
  unfold gutterlaw09_ParaSums.f
  rw [shown_k 2000 (by omega), Option.bind_some]
  obtain ⟨m1, m2, m3⟩ := mn_take rs0
  rw [if_pos m1, if_pos m2, Option.bind_some]
  generalize rs0.take (mn (rs0.length : Int) 30).toNat = rs at m3 ⊢
  unfold para_Deal.f
  rw [if_pos (by omega), Option.bind_some]
  by_cases h1 : chkB n o d rs = true
  · have hn := chk_n h1
    have hall : rs.all roomB = true := by simp only [chkB, Bool.and_eq_true] at h1; exact h1.2
    rw [if_pos h1]
    obtain ⟨g1, g2, g3, g4, g5⟩ := deal_inv n o d hn.1 rs
    have g6 := dealL_n n o d hn.1 rs
    generalize dealL n o d rs = s at *
    dsimp only
    rw [if_pos rfl]
    have h := sums_l0 n o d rs s.2 s.1 hall hn.1 hn.2 m3 g1 g3 g4 g6.2 g5 (fun i hi => sm_range n o d s.2 rs hn.1 g5 i hi) s.2.length 2000 0 (by omega) (by omega) (by omega)
    simpa [sm] using h
  · rw [if_neg h1]
    simp

theorem best11 (n r : Int) (hn : 0 ≤ n) (hn5 : n ≤ 500) (hr : 0 ≤ r) : bestZ n 1 1 r = mn n r := by
  unfold bestZ mn
  by_cases h : n ≤ r
  · rw [if_pos h]
    split <;> omega
  · rw [if_neg h]
    obtain ⟨m, rfl⟩ := Int.eq_ofNat_of_zero_le hr
    have e : n.toNat - 1 = m + (n.toNat - 1 - m) := by omega
    rw [e, bestL_cut n 1 1 m m _ (by omega)]
    have : bestL m (upTo n 1 1 m) = m := by
      cases m with
      | zero => rfl
      | succ m =>
        rw [bestL_upTo_succ, if_pos ⟨by rw [mayB, wrap_in (by omega) (by omega)]; simp; omega, by omega⟩]
        omega
    rw [this]
    split <;> omega

theorem one_l0 (n : Int) (rs out : List Int) (left : Int) (hrs : rs.all roomB = true) (hn : 0 ≤ n) (hn5 : n ≤ 500) (hl30 : rs.length ≤ 30)
    (h1 : out.length ≤ rs.length) (h2 : left = 0 ∨ out.length = rs.length) (h3 : left + sm out = n)
    (h5 : ∀ i : Nat, i < out.length → rd out i = bestZ (n - sm (out.take i)) 1 1 (rd rs i) ∧ 0 ≤ n - sm (out.take i)) (hq : ∀ i : Nat, i ≤ out.length → 0 ≤ sm (out.take i) ∧ sm (out.take i) ≤ n) (m : Nat) :
    ∀ (k : Nat) (i : Nat), i ≤ out.length → out.length - i = m → m < k → gutterlaw09_ParaOne.l0 k n rs true out left (n - sm (out.take i)) i = some true := by
  induction m with
  | zero =>
    intro k i hi hm hk
    obtain ⟨k, rfl⟩ : ∃ m, k = m + 1 := ⟨k - 1, by omega⟩
    have e : i = out.length := by omega
    subst e
    have hc : chkB n 1 1 [n] = true := by simp [chkB, isB, roomB]; omega
    have hb : bestZ n 1 1 n = n := by unfold bestZ; rw [if_pos (Int.le_refl _)]
    simp only [gutterlaw09_ParaOne.l0]
    rw [if_neg (by omega)]
    unfold para_Best.f
    rw [if_pos hc, Option.bind_some, List.take_length, hb]
    dsimp only
    rw [if_pos trivial, if_pos (by omega), if_pos rfl, if_pos rfl]
    rcases h2 with h | h
    · rw [if_pos (by omega)]
    · rw [h]
      simp
  | succ m ih =>
    intro k i hi hm hk
    obtain ⟨k, rfl⟩ : ∃ m, k = m + 1 := ⟨k - 1, by omega⟩
    have hlt : i < out.length := by omega
    have p1 : (i : Int) < (out.length : Int) := by omega
    have p2 : ¬ (i : Int) ≥ (rs.length : Int) := by omega
    have p3 : (0 : Int) ≤ (i : Int) := by omega
    have p4 : (i : Int) < (rs.length : Int) := by omega
    have hw2 : wrap64 ((i : Int) + 1) = ((i + 1 : Nat) : Int) := by rw [wrap_in (by omega) (by omega)]; omega
    obtain ⟨e1, e2⟩ := h5 i hlt
    have hq1 := hq i hi
    have hq2 := hq (i + 1) (by omega)
    have hr0 := room_at hrs i (by omega)
    rw [best11 _ _ e2 (by omega) hr0] at e1
    have ht := take_rd out i hlt
    have hs : sm (out.take (i + 1)) = sm (out.take i) + rd out i := by rw [ht, sm_snoc]
    have hnext := ih k (i + 1) (by omega) (by omega) (by omega)
    have hw : wrap64 (n - sm (out.take i) - rd out i) = n - sm (out.take (i + 1)) := by rw [wrap_in (by omega) (by omega)]; omega
    simp only [gutterlaw09_ParaOne.l0]
    rw [if_pos p1, if_neg p2, if_pos p3, if_pos p4, if_pos e1, hw, hw2]
    exact hnext

theorem ParaOne : gutterlaw09_ParaOne.Pure := by
  intro n rs0 _ _ _ _
  refine ⟨2000, ?_⟩
  unfold gutterlaw09_ParaOne.f
  rw [shown_k 2000 (by omega), Option.bind_some]
  obtain ⟨m1, m2, m3⟩ := mn_take rs0
  rw [if_pos m1, if_pos m2, Option.bind_some]
  generalize rs0.take (mn (rs0.length : Int) 30).toNat = rs at m3 ⊢
  unfold para_Deal.f
  rw [if_pos (by omega), Option.bind_some]
  by_cases h1 : chkB n 1 1 rs = true
  · have hn := chk_n h1
    have hall : rs.all roomB = true := by simp only [chkB, Bool.and_eq_true] at h1; exact h1.2
    rw [if_pos h1]
    obtain ⟨g1, g2, g3, g4, g5⟩ := deal_inv n 1 1 hn.1 rs
    generalize dealL n 1 1 rs = s at *
    dsimp only
    rw [if_pos rfl]
    have h := one_l0 n rs s.2 s.1 hall hn.1 hn.2 m3 g1 g2 g3 g5 (fun i hi => sm_range n 1 1 s.2 rs hn.1 g5 i hi) s.2.length 2000 0 (by omega) (by omega) (by omega)
    simpa [sm] using h
  · rw [if_neg h1]
    simp
end Go.Proofs.YtfamkadpncbmlaaDoor.G
