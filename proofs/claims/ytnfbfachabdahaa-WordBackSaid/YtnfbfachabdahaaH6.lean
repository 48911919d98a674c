/- Chapter 7, plain: WordEnds. -/
import Derived.Test.YtnfbfachabdahaaH3
import Derived.Test.YtnfbfachabdahaaG12
namespace Go.Proofs.Ytnfbfachabdahaa.G
open Go.RowKit Go.Shelf Go.Proofs.YtnfbfachabdahaaW.PrintWords Go.Proofs.YtnfbfachabdahaaW.PrintLast Go.Proofs.YtnfbfachabdahaaW.PrintMore

/-- What the last byte was, behind some that were taken. -/
def aftS (s : UInt8 × Bool) (t : List UInt8) : UInt8 × Bool := match t.getLast? with
  | some c => (c, true)
  | none => s
theorem aftS_cons (s : UInt8 × Bool) (c : UInt8) (t : List UInt8) : aftS s (c :: t) = aftS (c, true) t := by
  unfold aftS
  cases t with
  | nil => rfl
  | cons d t => rw [List.getLast?_cons_cons]; simp [List.getLast?_cons]
theorem runW_stop : ∀ (l : List UInt8) (s : UInt8 × Bool) (t r : List UInt8) (c : UInt8), runW s l = (t, c :: r) → stW (aftS s t) c = none
  | [], s, t, r, c, h => by
    have := congrArg Prod.snd h
    cases this
  | d :: l, s, t, r, c, h => by
    cases hs : stW s d with
    | none =>
      rw [runW_none hs] at h
      obtain ⟨rfl, h2⟩ := Prod.mk.inj h
      injection h2 with h2 _
      rw [← h2]
      exact hs
    | some s' =>
      rw [runW_some hs] at h
      obtain ⟨rfl, h2⟩ := Prod.mk.inj h
      have hs' : s' = (d, true) := by
        unfold stW at hs
        split at hs
        · cases hs
        · exact (Option.some.inj hs).symm
      rw [aftS_cons, ← hs']
      exact runW_stop l s' _ r c (Prod.ext rfl h2)
/-- A byte that follows upon a word without a gap: the word ends with a dash. -/
theorem stop_dash {s : UInt8 × Bool} {c : UInt8} (h : stW s c = none) (hg : gapB c = false) : s.2 = true ∧ (s.1.toNat : Int) = 45 := by
  unfold stW at h
  split at h
  · rename_i hq
    rw [hg, Bool.false_or, Bool.and_eq_true, Bool.and_eq_true] at hq
    exact ⟨hq.1, beq_iff_eq.1 hq.2.1⟩
  · cases h
theorem after_nogap (l : List UInt8) (c : UInt8) (r : List UInt8) (h : afterL l = c :: r) : gapB c = false := by
  unfold afterL at h
  have := List.head?_dropWhile_not gapB l
  rw [h] at this
  simpa using this
theorem ahead_gap (l : List UInt8) : ∀ c ∈ aheadL l, gapB c = true := fun c hc => by
  have := List.all_takeWhile (p := gapB) (l := l)
  exact List.all_eq_true.1 this c hc
theorem gap_cases {c : UInt8} (h : gapB c = true) : c = 32 ∨ c = 10 := by
  unfold gapB at h
  rw [Bool.or_eq_true] at h
  rcases h with h | h
  · exact .inl ((toNat_eq c 32 (by decide)).1 (beq_iff_eq.1 h))
  · exact .inr ((toNat_eq c 10 (by decide)).1 (beq_iff_eq.1 h))
/-- No blank and no line end ahead: nothing ahead. -/
theorem none_ahead (l : List UInt8) (h2 : spaceL l = 0) (h3 : hardL l = 0) : aheadL l = [] := by
  cases hg : aheadL l with
  | nil => rfl
  | cons c t =>
    exfalso
    have hgap := ahead_gap l
    unfold hardL Lib.countByte at h3
    have hno : ∀ d ∈ aheadL l, d ≠ 10 := fun d hd e => by
      have h0 : 0 < (aheadL l).count 10 := List.count_pos_iff.2 (e ▸ hd)
      omega
    obtain ⟨u, d, hud⟩ : ∃ u d, aheadL l = u ++ [d] := ⟨_, _, (List.dropLast_concat_getLast (by rw [hg]; simp)).symm⟩
    have hd := gap_cases (hgap d (by rw [hud]; simp))
    rcases hd with rfl | rfl
    · unfold spaceL at h2
      rw [if_pos (show Lib.hasSuffix (aheadL l) [32] = true from List.isSuffixOf_iff_suffix.2 ⟨u, hud.symm⟩)] at h2
      cases h2
    · exact hno 10 (by rw [hud]; simp) rfl
/-- A word, and what the next one says of it. -/
def dashEnd (x y : S34) : Prop := y.f2 = 0 → y.f3 = 0 → ∃ t : List UInt8, x.f0 = bstr t ∧ ∃ u, t = u ++ [45]
def chainD : List S34 → Prop
  | x :: y :: l => dashEnd x y ∧ chainD (y :: l)
  | _ => True
theorem chain_words (l : List UInt8) : chainD (wordsL l) := by
  refine words_ind (Q := fun _ ws => chainD ws) (fun _ _ => trivial) (fun l ht ih => ?_) l
  cases hr : (tokL (restL l)).isEmpty with
  | true => rw [wordsL_nil hr]; trivial
  | false =>
    rw [wordsL_cons hr] at ih ⊢
    refine ⟨fun h2 h3 => ⟨tokL l, rfl, ?_⟩, ih⟩
    have ha := none_ahead _ h2 h3
    have happ := ahead_app (restL l)
    rw [ha, List.nil_append] at happ
    cases he : afterL (restL l) with
    | nil =>
      have hq : tokL (restL l) = [] := by unfold tokL; rw [he]; rfl
      rw [hq] at hr
      cases hr
    | cons c r =>
      have hng := after_nogap _ c r he
      rw [he] at happ
      have hrun : runW (0, false) (afterL l) = (tokL l, c :: r) := Prod.ext rfl (show restL l = c :: r from happ.symm)
      obtain ⟨s2, s1⟩ := stop_dash (runW_stop _ _ _ _ _ hrun) hng
      unfold aftS at s1 s2
      cases hl : (tokL l).getLast? with
      | none => rw [hl] at s2; cases s2
      | some d =>
        rw [hl] at s1
        have hd : d = 45 := (toNat_eq d 45 (by decide)).1 s1
        subst hd
        obtain ⟨u, hu⟩ := List.getLast?_eq_some_iff.1 hl
        exact ⟨u, hu⟩
theorem chain_head {l : List S34} (h : chainD l) : chainD (headL l) := by
  match l with
  | [] => trivial
  | [x] => trivial
  | x :: y :: l => exact ⟨h.1, h.2⟩
theorem rd_succ (x : S34) (l : List S34) (i : Nat) : rd_T34 (x :: l) ((i + 1 : Nat) : Int) = rd_T34 l (i : Int) := by
  unfold rd_T34
  rw [Int.toNat_natCast, Int.toNat_natCast]
  rfl
theorem chain_at : ∀ (l : List S34), chainD l → ∀ i, i + 1 < l.length → dashEnd (rd_T34 l i) (rd_T34 l ((i + 1 : Nat) : Int))
  | [], _, i, h => by simp at h
  | [x], _, i, h => by simp at h
  | x :: y :: l, hc, 0, h => hc.1
  | x :: y :: l, hc, i + 1, h => by
    have := chain_at (y :: l) hc.2 i (by simpa using h)
    rw [rd_succ, rd_succ]
    exact this
theorem wrap_succ (i : Nat) (h : i < 1000000) : wrap64 ((i : Int) + 1) = ((i + 1 : Nat) : Int) := wrap_nat i 1 (by omega)
theorem wrap_pred (i : Nat) (h : i < 1000000) : wrap64 (((i + 1 : Nat) : Int) - 1) = (i : Int) := by rw [wrap_in (by omega) (by omega)]; omega
theorem ends_dash (ws : List S34) (hok : ∀ x ∈ ws, wordOK 400 x) (hch : chainD ws) (p0 : Nat) (hp : p0 + 1 < ws.length) (h2 : (rd_T34 ws ((p0 + 1 : Nat) : Int)).f2 = 0) (h3 : (rd_T34 ws ((p0 + 1 : Nat) : Int)).f3 = 0) :
    ¬ (rd_T34 ws (p0 : Int)).f0.toList = ([] : List UInt8) ∧ 0 ≤ wrap64 (((rd_T34 ws (p0 : Int)).f0.size : Int) - 1) ∧ wrap64 (((rd_T34 ws (p0 : Int)).f0.size : Int) - 1) < ((rd_T34 ws (p0 : Int)).f0.size : Int) ∧ bt (rd_T34 ws (p0 : Int)).f0 (wrap64 (((rd_T34 ws (p0 : Int)).f0.size : Int) - 1)) = 45 := by
  obtain ⟨t', e1, u, e2⟩ := chain_at ws hch p0 hp h2 h3
  obtain ⟨t2, q1, _, q3, _⟩ := hok _ (mem34_rd ws p0 (by omega))
  have hs' : (bstr t').size = u.length + 1 := by rw [bstr_size, e2, List.length_append]; rfl
  have hs2 : (bstr t').size ≤ 400 := by rw [← e1, q1, bstr_size]; exact q3
  have hwl : wrap64 (((bstr t').size : Int) - 1) = (u.length : Int) := by rw [hs', wrap_in (by omega) (by omega)]; omega
  have hul : u.length < (bstr t').data.toList.length := by show u.length < t'.length; rw [e2, List.length_append]; simp
  have hlast : bt (bstr t') (u.length : Int) = 45 := by
    rw [bt_bstr (bstr t') u.length hul]
    have : (bstr t').data.toList[u.length]'hul = 45 := by
      show t'[u.length]'hul = 45
      simp [e2]
    rw [this]
    rfl
  rw [e1, hwl]
  refine ⟨?_, by omega, by omega, hlast⟩
  rw [Lib.toList_data]
  intro h
  have h' : t' = [] := h
  rw [e2] at h'
  simp at h'
theorem ends_inner (ws : List S34) (hlen : ws.length ≤ 400) (hok : ∀ x ∈ ws, wordOK 400 x) (hch : chainD ws) (i M : Nat) (hi : i < ws.length) (hnext : ∀ k, M ≤ k → gutterlaw07_WordEnds.l0 k true ws ((i + 1 : Nat) : Int) = some true)
    (t : List UInt8) (ht : t.length ≤ 400) (h4 : ∀ c ∈ t, gapB c = false) : ∀ (n k p : Nat), p ≤ t.length → t.length - p = n → n + M + 2 ≤ k → gutterlaw07_WordEnds.l1 k true ws i (bstr t) p = some true := by
  intro n
  have hbs := bstr_size t
  have hi1 : i < 1000000 := by omega
  induction n with
  | zero =>
    intro k p hp hpn hkn
    obtain ⟨k, rfl⟩ : ∃ m, k = m + 1 := ⟨k - 1, by omega⟩
    have hn := hnext k (by omega)
    simp only [gutterlaw07_WordEnds.l1]
    rw [if_neg (by omega), wrap_succ i hi1, hn]
    cases i with
    | zero => rw [if_neg (by decide)]
    | succ p0 =>
      have hp1 : p0 < 1000000 := by omega
      have hd := ends_dash ws hok hch p0 hi
      rw [if_pos (by omega), if_pos (by omega), if_pos (by omega)]
      by_cases hf2 : (rd_T34 ws ((p0 + 1 : Nat) : Int)).f2 = 0
      · rw [if_pos hf2]
        by_cases hf3 : (rd_T34 ws ((p0 + 1 : Nat) : Int)).f3 = 0
        · obtain ⟨d1, d2, d3, d4⟩ := hd hf2 hf3
          rw [if_pos hf3, wrap_pred p0 hp1, if_pos (by omega), if_pos (by omega), if_neg d1, if_pos d2, if_pos d3, if_pos d4]
        · rw [if_neg hf3]
      · rw [if_neg hf2]
  | succ n ihn =>
    intro k p hp hpn hkn
    obtain ⟨k, rfl⟩ : ∃ m, k = m + 1 := ⟨k - 1, by omega⟩
    have hp1 : p < 1000000 := by omega
    have hpt : p < t.length := by omega
    have hbt : bt (bstr t) p = ((t[p]'hpt).toNat : Int) := bt_bstr (bstr t) p hpt
    have hg := h4 (t[p]'hpt) (List.getElem_mem _)
    unfold gapB at hg
    rw [Bool.or_eq_false_iff] at hg
    simp only [gutterlaw07_WordEnds.l1]
    rw [if_pos (by omega), if_pos (by omega), hbt, if_neg (show ¬ ((t[p]'hpt).toNat : Int) = 32 from beq_eq_false_iff_ne.1 hg.1), if_neg (show ¬ ((t[p]'hpt).toNat : Int) = 10 from beq_eq_false_iff_ne.1 hg.2), wrap_succ p hp1]
    exact ihn k (p + 1) (by omega) (by omega) (by omega)
theorem ends_l (ws : List S34) (hlen : ws.length ≤ 400) (hok : ∀ x ∈ ws, wordOK 400 x) (hch : chainD ws) (j : Nat) : ∀ (k i : Nat), i ≤ ws.length → ws.length - i = j → j * 500 + 10 ≤ k →
    gutterlaw07_WordEnds.l0 k true ws i = some true := by
  induction j with
  | zero =>
    intro k i hi hj hk
    obtain ⟨k, rfl⟩ : ∃ m, k = m + 1 := ⟨k - 1, by omega⟩
    simp only [gutterlaw07_WordEnds.l0]
    rw [if_neg (by omega)]
  | succ j ih =>
    intro k i hi hj hk
    obtain ⟨k, rfl⟩ : ∃ m, k = m + 1 := ⟨k - 1, by omega⟩
    obtain ⟨t, h1, h2, h3, h4, _⟩ := hok _ (mem34_rd ws i (by omega))
    have hne : ¬ ((rd_T34 ws i).f0).toList = ([] : List UInt8) := by rw [h1, Lib.toList_data]; exact h2
    simp only [gutterlaw07_WordEnds.l0]
    rw [if_pos (by omega), if_pos (by omega), if_neg hne, h1]
    exact ends_inner ws hlen hok hch i (j * 500 + 10) (by omega) (fun k hk => ih k (i + 1) (by omega) (by omega) hk) t h3 h4 t.length k 0 (Nat.zero_le _) rfl (by omega)
theorem WordEnds : gutterlaw07_WordEnds.Pure := by
  intro a0 _
  obtain ⟨k, hk⟩ : ∃ k, 300000 ≤ k := ⟨300000, Nat.le_refl _⟩
  refine ⟨k, ?_⟩
  have hl := wordsR_len (cutL a0)
  unfold gutterlaw07_WordEnds.f
  rw [shown_k k (by omega), Option.bind_some, cut_is, Option.bind_some, words_is _ (cutL_in a0), Option.bind_some]
  by_cases h4 : (cutL a0).size ≤ 400
  · have hle : (cutL a0).data.toList.length ≤ 400 := by rw [Array.length_toList]; exact h4
    have hr : wordsR (cutL a0) = (headL (wordsL (cutL a0).data.toList), 0) := by unfold wordsR; rw [if_pos h4]
    have hlen : (headL (wordsL (cutL a0).data.toList)).length ≤ 400 := by rw [hr] at hl; exact hl
    rw [hr]
    dsimp only
    rw [if_pos rfl]
    exact ends_l _ hlen (fun x hx => wordOK_mono (words_ok1 _ x hx) hle) (chain_head (chain_words _)) _ k 0 (Nat.zero_le _) rfl (by omega)
  · have hr : wordsR (cutL a0) = ([], 70) := by unfold wordsR; rw [if_neg h4]
    rw [hr, if_neg (by decide)]
end Go.Proofs.Ytnfbfachabdahaa.G
