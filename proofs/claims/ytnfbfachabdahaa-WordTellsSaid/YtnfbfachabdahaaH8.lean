/- Chapter 7, plain: WordTells. -/
import Derived.Test.YtnfbfachabdahaaH3
import Derived.Test.YtnfbfachabdahaaG23
namespace Go.Proofs.Ytnfbfachabdahaa.G
open Go.RowKit Go.Shelf Go.Proofs.YtnfbfachabdahaaW.PrintWords Go.Proofs.YtnfbfachabdahaaW.PrintLast Go.Proofs.YtnfbfachabdahaaW.PrintMore

theorem wrap_up (i : Nat) (h : i < 1000000) : wrap64 ((i : Int) + 1) = ((i + 1 : Nat) : Int) := wrap_nat i 1 (by omega)
/-- The first sixty words, within bounds. -/
def fewS (x : S34) : S34 := ⟨cutL x.f0, mx (-10000000) (mn x.f1 10000000), mx (-10000000) (mn x.f2 10000000), mn x.f3 500⟩
theorem few_l0 (l : List S34) (j : Nat) : ∀ (k i : Nat) (out : List S34), i ≤ l.length → i ≤ 60 → min l.length 60 - i = j → j < k → out.length = i →
    gutterlaw07_Few.l0 k l out i = some (out ++ ((l.drop i).take j).map fewS) := by
  induction j with
  | zero =>
    intro k i out hi h60 hj hk ho
    obtain ⟨k, rfl⟩ : ∃ m, k = m + 1 := ⟨k - 1, by omega⟩
    simp only [gutterlaw07_Few.l0]
    by_cases h : (i : Int) < (l.length : Int)
    · rw [if_pos h, if_neg (by omega)]
      simp
    · rw [if_neg h]
      simp
  | succ j ih =>
    intro k i out hi h60 hj hk ho
    obtain ⟨k, rfl⟩ : ∃ m, k = m + 1 := ⟨k - 1, by omega⟩
    have hi2 : i < l.length := by omega
    have hi3 : i < 1000000 := by omega
    have hx := ih k (i + 1) (out ++ [fewS (rd_T34 l i)]) (by omega) (by omega) (by omega) (by omega) (by rw [List.length_append, ho]; rfl)
    simp only [gutterlaw07_Few.l0]
    rw [if_pos (by omega), if_pos (by omega), if_pos (by omega), cut_is, Option.bind_some, if_pos (by omega), wrap_up i hi3]
    refine hx.trans ?_
    rw [drop34 l i hi2, List.take_succ_cons, List.map_cons, List.append_assoc]
    rfl
def fewL (l : List S34) : List S34 := (l.take (min l.length 60)).map fewS
theorem few_is (l : List S34) (k : Nat) (hk : 60 < k) : gutterlaw07_Few.f k l = some (fewL l) := by
  have h := few_l0 l (min l.length 60) k 0 [] (Nat.zero_le _) (Nat.zero_le _) (Nat.sub_zero _) (by omega) rfl
  rw [List.drop_zero, List.nil_append] at h
  exact h
theorem fewL_len (l : List S34) : (fewL l).length ≤ 60 := by
  unfold fewL
  rw [List.length_map, List.length_take]
  omega
theorem fewL_wf (l : List S34) : ∀ x ∈ fewL l, wfT x = true := by
  intro x hx
  unfold fewL at hx
  obtain ⟨y, _, rfl⟩ := List.mem_map.1 hx
  have := cutL_size y.f0
  exact decide_eq_true (show (cutL y.f0).size ≤ 1000 by omega)

/-! the text -/
def tI (t : List UInt8) : List Int := t.map fun b => (b.toNat : Int)
theorem tI_app (s t : List UInt8) : tI (s ++ t) = tI s ++ tI t := List.map_append
theorem bytes_tI (a : ByteArray) : bytesOf a = tI a.data.toList := rfl
theorem tI_len (t : List UInt8) : (tI t).length = t.length := List.length_map _
theorem str_tI (t : List UInt8) : strOfNums (tI t) = bstr t := by
  unfold strOfNums tI bstr
  congr 2
  rw [List.map_map]
  conv => rhs; rw [← List.map_id t]
  apply List.map_congr_left
  intro c _
  simp
theorem drop_pad (n p : Nat) (h : p < n) : List.replicate (n - p) (10 : UInt8) = 10 :: List.replicate (n - (p + 1)) 10 := by
  rw [show n - p = (n - (p + 1)) + 1 by omega, List.replicate_succ]
theorem refText_l1 (l : List S34) (i : Nat) (hi : i < l.length) (M : Nat) (u : List UInt8) (x : S34) (hx : rd_T34 l i = x) (hxs : x.f0.size ≤ 1000) (hu : u.length ≤ 1000000)
    (hnext : ∀ k, M ≤ k → gutterref07_Text.l0 k l (tI (u ++ wordT x)) (wrap64 ((i : Int) + 1)) = some (bstr ((u ++ wordT x) ++ textL (l.drop (i + 1))))) (j : Nat) :
    ∀ (k p : Nat), p ≤ padN x.f3 → padN x.f3 - p = j → j + M < k → gutterref07_Text.l1 k l (tI (u ++ List.replicate p 10)) i p = some (bstr ((u ++ wordT x) ++ textL (l.drop (i + 1)))) := by
  have hpad := padN_le x.f3
  induction j with
  | zero =>
    intro k p hp hj hk
    obtain ⟨k, rfl⟩ : ∃ m, k = m + 1 := ⟨k - 1, by omega⟩
    have hpp : p = padN x.f3 := by omega
    subst hpp
    have hn := hnext k (by omega)
    have hl1 : (tI (u ++ List.replicate (padN x.f3) 10)).length ≤ 1000400 := by rw [tI_len, List.length_append, List.length_replicate]; omega
    have hbl : (tI (u ++ List.replicate (padN x.f3) 10)).length + x.f0.size < 140737488355328 := by omega
    have hbl2 : (tI (u ++ List.replicate (padN x.f3) 10) ++ [32]).length + x.f0.size < 140737488355328 := by rw [List.length_append, List.length_singleton]; omega
    have e0 : x.f2 = 0 → tI (u ++ List.replicate (padN x.f3) 10) ++ bytesOf x.f0 = tI (u ++ wordT x) := by
      intro h
      rw [bytes_tI, ← tI_app]
      unfold wordT
      rw [if_pos h]
      simp
    have e1 : x.f2 ≠ 0 → tI (u ++ List.replicate (padN x.f3) 10) ++ [32] ++ bytesOf x.f0 = tI (u ++ wordT x) := by
      intro h
      rw [bytes_tI, show ([32] : List Int) = tI [32] from rfl, ← tI_app, ← tI_app]
      unfold wordT
      rw [if_neg h]
      simp
    simp only [gutterref07_Text.l1]
    rw [if_pos (by omega), if_pos (by omega), hx]
    have fin : (if x.f2 = 0 then (if (tI (u ++ List.replicate (padN x.f3) 10)).length + x.f0.size < 140737488355328 then gutterref07_Text.l0 k l (tI (u ++ List.replicate (padN x.f3) 10) ++ bytesOf x.f0) (wrap64 ((i : Int) + 1)) else none)
        else (if (tI (u ++ List.replicate (padN x.f3) 10)).length < 140737488355328 then (some (tI (u ++ List.replicate (padN x.f3) 10) ++ [32])).bind fun y => (if y.length + x.f0.size < 140737488355328 then gutterref07_Text.l0 k l (y ++ bytesOf x.f0) (wrap64 ((i : Int) + 1)) else none) else none)) = some (bstr ((u ++ wordT x) ++ textL (l.drop (i + 1)))) := by
      by_cases h : x.f2 = 0
      · rw [if_pos h, if_pos hbl, e0 h, hn]
      · rw [if_neg h, if_pos (by omega), Option.bind_some, if_pos hbl2, e1 h, hn]
    by_cases h3 : ((padN x.f3 : Nat) : Int) < x.f3
    · rw [if_pos h3, if_neg (by unfold padN at h3 ⊢; omega)]
      exact fin
    · rw [if_neg h3]
      exact fin
  | succ j ih =>
    intro k p hp hj hk
    obtain ⟨k, rfl⟩ : ∃ m, k = m + 1 := ⟨k - 1, by omega⟩
    have hpl : p < 1000000 := by omega
    have hp3 : (p : Int) < x.f3 := by unfold padN at hj hp; omega
    have hl1 : (tI (u ++ List.replicate p 10)).length < 140737488355328 := by rw [tI_len, List.length_append, List.length_replicate]; omega
    have hs : tI (u ++ List.replicate p 10) ++ [10] = tI (u ++ List.replicate (p + 1) 10) := by
      rw [show ([10] : List Int) = tI [10] from rfl, ← tI_app, List.append_assoc, ← List.replicate_succ']
    have h := ih k (p + 1) (by omega) (by omega) (by omega)
    simp only [gutterref07_Text.l1]
    rw [if_pos (by omega), if_pos (by omega), hx, if_pos hp3, if_pos (by omega), if_pos hl1, hs, wrap_up p hpl, h]
theorem refText_l0 (l : List S34) (hl : l.length ≤ 60) (hw : ∀ x ∈ l, wfT x = true) (j : Nat) : ∀ (k i : Nat) (u : List UInt8), i ≤ l.length → l.length - i = j → j * 500 + 10 ≤ k → u.length ≤ 1401 * i →
    gutterref07_Text.l0 k l (tI u) i = some (bstr (u ++ textL (l.drop i))) := by
  induction j with
  | zero =>
    intro k i u hi hj hk hu
    obtain ⟨k, rfl⟩ : ∃ m, k = m + 1 := ⟨k - 1, by omega⟩
    simp only [gutterref07_Text.l0]
    rw [if_neg (by omega), List.drop_of_length_le (by omega), str_tI]
    simp [textL]
  | succ j ih =>
    intro k i u hi hj hk hu
    obtain ⟨k, rfl⟩ : ∃ m, k = m + 1 := ⟨k - 1, by omega⟩
    have hi2 : i < l.length := by omega
    have hi3 : i < 1000000 := by omega
    have hwx := hw _ (mem34_rd l i hi2)
    have hlen := wordT_len hwx
    have hxs : (rd_T34 l i).f0.size ≤ 1000 := of_decide_eq_true hwx
    have hpad := padN_le (rd_T34 l i).f3
    have hu2 : u.length ≤ 1000000 := by omega
    have hu3 : (u ++ wordT (rd_T34 l i)).length ≤ 1401 * (i + 1) := by rw [List.length_append]; omega
    have hk2 : padN (rd_T34 l i).f3 - 0 + (j * 500 + 10) < k := by omega
    have hj1 : l.length - (i + 1) = j := by omega
    have hn : ∀ k, j * 500 + 10 ≤ k → gutterref07_Text.l0 k l (tI (u ++ wordT (rd_T34 l i))) (wrap64 ((i : Int) + 1)) = some (bstr ((u ++ wordT (rd_T34 l i)) ++ textL (l.drop (i + 1)))) := by
      intro k hk
      rw [wrap_up i hi3]
      exact ih k (i + 1) _ hi2 hj1 hk hu3
    have h := refText_l1 l i hi2 (j * 500 + 10) u _ rfl hxs hu2 hn (padN (rd_T34 l i).f3 - 0) k 0 (Nat.zero_le _) rfl hk2
    rw [List.replicate_zero, List.append_nil] at h
    simp only [gutterref07_Text.l0]
    rw [if_pos (by omega), drop34 l i hi2, textL_cons', ← List.append_assoc]
    exact h
where
  textL_cons' {x : S34} {l : List S34} : textL (x :: l) = wordT x ++ textL l := rfl
theorem refText_is (l : List S34) (hl : l.length ≤ 60) (hw : ∀ x ∈ l, wfT x = true) (k : Nat) (hk : 30010 ≤ k) : gutterref07_Text.f k l = some (bstr (textL l)) := by
  have h := refText_l0 l hl hw l.length k 0 [] (Nat.zero_le _) rfl (by omega) (Nat.zero_le _)
  rw [List.drop_zero, List.nil_append] at h
  exact h

/-! at least, at most -/
theorem refLeast_l0 (l : List S34) (hl : l.length ≤ 1000) (j : Nat) : ∀ (k i : Nat) (a : Int), i ≤ l.length → l.length - i = j → j < k → gutterref07_Least.l0 k l a i = some (mxL a ((l.drop i).map S34.f1)) := by
  induction j with
  | zero =>
    intro k i a hi hj hk
    obtain ⟨k, rfl⟩ : ∃ m, k = m + 1 := ⟨k - 1, by omega⟩
    simp only [gutterref07_Least.l0]
    rw [if_neg (by omega), List.drop_of_length_le (by omega)]
    rfl
  | succ j ih =>
    intro k i a hi hj hk
    obtain ⟨k, rfl⟩ : ∃ m, k = m + 1 := ⟨k - 1, by omega⟩
    have hi3 : i < 1000000 := by omega
    simp only [gutterref07_Least.l0]
    rw [if_pos (by omega), if_pos (by omega), wrap_up i hi3, ih k (i + 1) _ (by omega) (by omega) (by omega), drop34 l i (by omega), List.map_cons]
    rfl
theorem refLeast_is (l : List S34) (hl : l.length ≤ 1000) (k : Nat) (hk : l.length < k) : gutterref07_Least.f k l = some (leastL l) := by
  unfold gutterref07_Least.f
  cases l with
  | nil => rfl
  | cons x l =>
    have h := refLeast_l0 (x :: l) hl (x :: l).length k 0 x.f1 (Nat.zero_le _) rfl hk
    rw [if_neg (by first | (simp; done) | (simp; omega)), if_pos (by first | (simp; done) | (simp; omega))]
    exact h
/-- The sums that begin with a word, no break between. -/
def runS : Int → List S34 → List Int
  | _, [] => []
  | n, x :: l => if x.f3 ≤ 0 then (n + x.f2 + x.f1) :: runS (n + x.f2 + x.f1) l else []
theorem runS_cons (n : Int) (x : S34) (l : List S34) : runS n (x :: l) = if x.f3 ≤ 0 then (n + x.f2 + x.f1) :: runS (n + x.f2 + x.f1) l else [] := rfl
def refBest : Int → List S34 → Int
  | b, [] => b
  | b, x :: l => refBest (mxL (mx b x.f1) (runS x.f1 l)) l
theorem mx_le (a b c : Int) : mx a b ≤ c ↔ a ≤ c ∧ b ≤ c := by unfold mx; split <;> omega
theorem runS_ends : ∀ (l : List S34) (n m : Int), (∀ x ∈ l, smallS x) → 0 ≤ n → n ≤ m → ∀ y ∈ runS n l, ∃ e ∈ endsL m l, y ≤ e
  | [], _, _, _, _, _, y, h => by cases h
  | x :: l, n, m, hs, hn, hm, y, h => by
    obtain ⟨h1, h2⟩ := hs x (by simp)
    unfold runS at h
    split at h
    · rename_i h3
      have hst : n + x.f2 + x.f1 ≤ stepE m x := by
        unfold stepE mx
        rw [if_neg (by omega)]
        split <;> omega
      rcases List.mem_cons.1 h with rfl | h
      · exact ⟨stepE m x, by simp [endsL], hst⟩
      · obtain ⟨e, he, hy⟩ := runS_ends l (n + x.f2 + x.f1) (stepE m x) (fun z hz => hs z (by simp [hz])) (by omega) hst y h
        exact ⟨e, by simp [endsL, he], hy⟩
    · cases h
theorem best_le : ∀ (l : List S34) (b m c : Int), (∀ x ∈ l, smallS x) → 0 ≤ m → b ≤ c → (∀ e ∈ endsL m l, e ≤ c) → refBest b l ≤ c
  | [], _, _, _, _, _, hb, _ => hb
  | x :: l, b, m, c, hs, hm, hb, he => by
    obtain ⟨h1, h2⟩ := hs x (by simp)
    have hst := stepE_in (hs x (by simp)) hm
    have hse : stepE m x ≤ c := he _ (by simp [endsL])
    have hx : x.f1 ≤ stepE m x := by
      unfold stepE mx
      split
      · omega
      · split <;> omega
    refine best_le l _ (stepE m x) c (fun z hz => hs z (by simp [hz])) hst.1 ((mxL_le _ _ _).2 ⟨(mx_le _ _ _).2 ⟨hb, by omega⟩, fun y hy => ?_⟩) (fun e h => he e (by simp [endsL, h]))
    obtain ⟨e, h, hy⟩ := runS_ends l x.f1 (stepE m x) (fun z hz => hs z (by simp [hz])) h1.1 hx y hy
    exact Int.le_trans hy (he e (by simp [endsL, h]))
theorem best_ge : ∀ (l : List S34) (b : Int), b ≤ refBest b l
  | [], _ => Int.le_refl _
  | x :: l, b => by
    have h1 := best_ge l (mxL (mx b x.f1) (runS x.f1 l))
    have h2 : mx b x.f1 ≤ mxL (mx b x.f1) (runS x.f1 l) := mxL_self
    have h3 := ((mx_le b x.f1 _).1 (Int.le_refl _)).1
    show b ≤ refBest (mxL (mx b x.f1) (runS x.f1 l)) l
    omega
theorem best_all : ∀ (l : List S34) (n b : Int), (∀ x ∈ l, smallS x) → 0 ≤ n → ∀ c, (∀ y ∈ runS n l, y ≤ c) → refBest b l ≤ c → ∀ e ∈ endsL n l, e ≤ c
  | [], _, _, _, _, _, _, _, e, h => by cases h
  | x :: l, n, b, hs, hn, c, hr, hb, e, h => by
    obtain ⟨h1, h2⟩ := hs x (by simp)
    have hst := stepE_in (hs x (by simp)) hn
    have hb' : refBest (mxL (mx b x.f1) (runS x.f1 l)) l ≤ c := hb
    have hb2 := best_ge l (mxL (mx b x.f1) (runS x.f1 l))
    have hb3 := (mxL_le (runS x.f1 l) (mx b x.f1) c).1 (by omega)
    have hb4 := ((mx_le b x.f1 c).1 hb3.1).2
    unfold runS at hr
    by_cases h3 : x.f3 ≤ 0
    · rw [if_pos h3] at hr
      have hse : stepE n x = n + x.f2 + x.f1 := by
        unfold stepE mx
        rw [if_neg (by omega)]
        split <;> omega
      unfold endsL at h
      rcases List.mem_cons.1 h with rfl | h
      · rw [hse]; exact hr _ (by simp)
      · rw [hse] at h
        exact best_all l _ _ (fun z hz => hs z (by simp [hz])) (by omega) c (fun y hy => hr y (by simp [hy])) hb' e h
    · have hse : stepE n x = x.f1 := by
        unfold stepE
        rw [if_pos (by omega)]
      unfold endsL at h
      rcases List.mem_cons.1 h with rfl | h
      · rw [hse]; exact hb4
      · rw [hse] at h
        exact best_all l _ _ (fun z hz => hs z (by simp [hz])) h1.1 c hb3.2 hb' e h
theorem best_most (x : S34) (l : List S34) (hs : ∀ y ∈ x :: l, smallS y) : refBest x.f1 (x :: l) = mxL x.f1 (x.f1 :: endsL x.f1 l) := by
  have h1 := (hs x (by simp)).1
  have hs' : ∀ y ∈ l, smallS y := fun y hy => hs y (by simp [hy])
  have le1 : refBest x.f1 (x :: l) ≤ mxL x.f1 (x.f1 :: endsL x.f1 l) := by
    refine best_le l _ x.f1 _ hs' h1.1 ((mxL_le _ _ _).2 ⟨(mx_le _ _ _).2 ⟨mxL_self, mxL_self⟩, fun y hy => ?_⟩) (fun e he => mxL_mem (by simp [he]))
    obtain ⟨e, he, hy⟩ := runS_ends l x.f1 x.f1 hs' h1.1 (Int.le_refl _) y hy
    exact Int.le_trans hy (mxL_mem (by simp [he]))
  have le2 : mxL x.f1 (x.f1 :: endsL x.f1 l) ≤ refBest x.f1 (x :: l) := by
    have hb := best_ge l (mxL (mx x.f1 x.f1) (runS x.f1 l))
    have hm := (mxL_le (runS x.f1 l) (mx x.f1 x.f1) _).1 hb
    have h0 := ((mx_le x.f1 x.f1 _).1 hm.1).1
    refine (mxL_le _ _ _).2 ⟨h0, fun e he => ?_⟩
    rcases List.mem_cons.1 he with rfl | he
    · exact h0
    · exact best_all l x.f1 (mxL (mx x.f1 x.f1) (runS x.f1 l)) hs' h1.1 _ hm.2 (Int.le_refl _) e he
  omega
theorem refMost_l1 (l : List S34) (hl : l.length ≤ 1000) (hs : ∀ x ∈ l, smallS x) (M : Nat) (i : Nat) (r : Int → Option Int) (hnext : ∀ k b, M ≤ k → gutterref07_Most.l0 k l b (wrap64 ((i : Int) + 1)) = r b) (j : Nat) :
    ∀ (k p : Nat) (b n : Int), p ≤ l.length → l.length - p = j → j + M < k → 0 ≤ n → n ≤ 1001000 * (p : Int) → gutterref07_Most.l1 k l b i n p = r (mxL b (runS n (l.drop p))) := by
  induction j with
  | zero =>
    intro k p b n hp hj hk hn hn2
    obtain ⟨k, rfl⟩ : ∃ m, k = m + 1 := ⟨k - 1, by omega⟩
    have h := hnext k b (by omega)
    simp only [gutterref07_Most.l1]
    rw [if_neg (by omega), List.drop_of_length_le (by omega), h]
    rfl
  | succ j ih =>
    intro k p b n hp hj hk hn hn2
    obtain ⟨k, rfl⟩ : ∃ m, k = m + 1 := ⟨k - 1, by omega⟩
    have hp2 : p < l.length := by omega
    have hp3 : p < 1000000 := by omega
    obtain ⟨h1, h2⟩ := hs _ (mem34_rd l p hp2)
    have h := hnext k b (by omega)
    have hi := ih k (p + 1) (mx b (n + (rd_T34 l p).f2 + (rd_T34 l p).f1)) (n + (rd_T34 l p).f2 + (rd_T34 l p).f1) (by omega) (by omega) (by omega) (by omega) (by omega)
    have w1 : wrap64 (n + (rd_T34 l p).f2) = n + (rd_T34 l p).f2 := wrap_in (by omega) (by omega)
    have w2 : wrap64 (n + (rd_T34 l p).f2 + (rd_T34 l p).f1) = n + (rd_T34 l p).f2 + (rd_T34 l p).f1 := wrap_in (by clear w1; omega) (by clear w1; omega)
    simp only [gutterref07_Most.l1]
    rw [if_pos (by clear w1 w2; omega), if_pos (by clear w1 w2; omega), w1, w2, wrap_up p hp3, hi, h, drop34 l p hp2, runS_cons]
    by_cases h3 : (rd_T34 l p).f3 ≤ 0
    · rw [if_pos h3, if_pos h3]
      rfl
    · rw [if_neg h3, if_neg h3]
      rfl
theorem refMost_l0 (l : List S34) (hl : l.length ≤ 1000) (hs : ∀ x ∈ l, smallS x) (j : Nat) : ∀ (k i : Nat) (b : Int), i ≤ l.length → l.length - i = j → j * 1100 + 10 ≤ k → gutterref07_Most.l0 k l b i = some (refBest b (l.drop i)) := by
  induction j with
  | zero =>
    intro k i b hi hj hk
    obtain ⟨k, rfl⟩ : ∃ m, k = m + 1 := ⟨k - 1, by omega⟩
    simp only [gutterref07_Most.l0]
    rw [if_neg (by omega), List.drop_of_length_le (by omega)]
    rfl
  | succ j ih =>
    intro k i b hi hj hk
    obtain ⟨k, rfl⟩ : ∃ m, k = m + 1 := ⟨k - 1, by omega⟩
    have hi2 : i < l.length := by omega
    have hi3 : i < 1000000 := by omega
    obtain ⟨h1, h2⟩ := hs _ (mem34_rd l i hi2)
    have hj1 : l.length - (i + 1) = j := by omega
    have h := refMost_l1 l hl hs (j * 1100 + 10) i (fun b => some (refBest b (l.drop (i + 1)))) (fun k b hk => by rw [wrap_up i hi3]; exact ih k (i + 1) b hi2 hj1 hk) j k (i + 1) (mx b (rd_T34 l i).f1) (rd_T34 l i).f1 hi2 hj1 (by omega) h1.1 (by omega)
    simp only [gutterref07_Most.l0]
    rw [if_pos (by omega), if_pos (by omega), wrap_up i hi3, h, drop34 l i hi2]
    rfl
theorem refMost_is (l : List S34) (hl : l.length ≤ 60) (hw : ∀ x ∈ l, wfT x = true) (k : Nat) (hk : 70000 ≤ k) : gutterref07_Most.f k l = some (mostL l) := by
  obtain ⟨k, rfl⟩ : ∃ m, k = m + 1 := ⟨k - 1, by omega⟩
  have hr1 : gutterref07_Right.f l = some (rightL l) := by
    unfold gutterref07_Right.f
    rw [if_pos ⟨by omega, List.all_eq_true.2 hw⟩]
  unfold gutterref07_Most.f
  cases l with
  | nil => rfl
  | cons x l =>
    rw [if_neg (by first | (simp; done) | (simp; omega)), hr1, Option.bind_some]
    simp only [gutterref07_Most.j0]
    show _ = some (if rightL (x :: l) then mxL x.f1 (x.f1 :: endsL x.f1 l) else 0)
    cases hr : rightL (x :: l) with
    | false => rfl
    | true =>
      have hs : ∀ y ∈ x :: l, smallS y := fun y hy => okB_small (by
        unfold rightL at hr
        rw [Bool.and_eq_true] at hr
        exact List.all_eq_true.1 hr.1 y hy) (hw y hy)
      have h := refMost_l0 (x :: l) (by omega) hs (x :: l).length k 0 x.f1 (Nat.zero_le _) rfl (by omega)
      rw [if_neg (by decide), if_pos (by first | (simp; done) | (simp; omega)), if_pos rfl, ← best_most x l hs]
      exact h
theorem WordTells (l0 l1 : List S34) : ∃ k, gutterlaw07_WordTells.f k l0 l1 = some true := by
  obtain ⟨k, hk⟩ : ∃ k, 70000 ≤ k := ⟨70000, Nat.le_refl _⟩
  refine ⟨k, ?_⟩
  have hl := fewL_len l0
  have hw := fewL_wf l0
  have hr1 : gutterref07_Right.f (fewL l0) = some (rightL (fewL l0)) := by
    unfold gutterref07_Right.f
    rw [if_pos ⟨by omega, List.all_eq_true.2 hw⟩]
  unfold gutterlaw07_WordTells.f
  rw [shown_k k (by omega), Option.bind_some, few_is _ k (by omega), Option.bind_some, few_is _ k (by omega), Option.bind_some, if_pos rfl, Right_is _ (by omega) hw, Option.bind_some, hr1, Option.bind_some, if_pos (beq_self_eq_true _),
    text_is _ (by omega) hw, Option.bind_some, refText_is _ hl hw k (by omega), Option.bind_some, if_pos rfl, Least_is _ (by omega) k (by omega), Option.bind_some, refLeast_is _ (by omega) k (by omega), Option.bind_some, if_pos rfl,
    Most_is _ (by omega) hw k (by omega), Option.bind_some, refMost_is _ hl hw k hk, Option.bind_some, if_pos rfl, Same_is _ _ (by omega) k (by omega), Option.bind_some, refSame_is _ _ (by omega) k (by omega), Option.bind_some, if_pos (beq_self_eq_true _), Same_is _ _ (by omega) k (by omega), Option.bind_some, sameW_refl]
end Go.Proofs.Ytnfbfachabdahaa.G
