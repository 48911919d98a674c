/- Chapter 1, plain: a sum, from both ends and in parts. -/
import Derived.Test.YtlpkjjeihbdocaaDoorH2
import Derived.Test.YtlpkjjeihbdocaaDoorG21
namespace Go.Proofs.YtlpkjjeihbdocaaDoor.G
open Go.RowKit Go.Proofs.YtlpkjjeihbdocaaDoorW.PrintWords Go.Proofs.YtlpkjjeihbdocaaDoorW.PrintLast Go.Proofs.YtlpkjjeihbdocaaDoorW.PrintMore

/-- What some are together. -/
def sumT (l : List Int) : Int × Int := if l.all lenB then resZ (sumG l) else (0, 10)
theorem sumT_f {l : List Int} (h : l.length ≤ 1000) : unit_Sum.f l = some (sumT l) := by rw [unit_Sum.f, if_pos h]; rfl
theorem sumG_foldr (l : List Int) : ∀ a, l.foldl (· + ·) a = a + sumG l := by
  induction l with
  | nil => intro a; simp [sumG]
  | cons x l ih =>
    intro a
    have h := ih (0 + x)
    rw [List.foldl_cons, ih (a + x)]
    show _ = a + List.foldl (· + ·) (0 + x) l
    rw [h]; omega
theorem sumG_app (l m : List Int) : sumG (l ++ m) = sumG l + sumG m := by
  rw [sumG, List.foldl_append, sumG_foldr]; rfl
theorem sumG_cons (x : Int) (l : List Int) : sumG (x :: l) = x + sumG l := by
  rw [sumG, List.foldl_cons, sumG_foldr]; omega
theorem sumG_rev (l : List Int) : sumG l.reverse = sumG l := by
  induction l with
  | nil => rfl
  | cons x l ih => rw [List.reverse_cons, sumG_snoc, ih, sumG_cons]; omega
theorem sumT_rev (l : List Int) : sumT l.reverse = sumT l := by
  unfold sumT
  rw [List.all_reverse, sumG_rev]
theorem resZ_ok {x : Int} (h : (resZ x).2 = 0) : lenB x = true ∧ (resZ x).1 = x := by
  unfold resZ at h ⊢
  by_cases hl : lenB x = true
  · rw [if_pos hl]; exact ⟨hl, rfl⟩
  · rw [if_neg hl] at h; exact absurd h (by decide)
theorem sumT_ok {l : List Int} (h : (sumT l).2 = 0) : l.all lenB = true ∧ lenB (sumG l) = true ∧ (sumT l).1 = sumG l := by
  unfold sumT at h ⊢
  by_cases hl : l.all lenB = true
  · rw [if_pos hl] at h ⊢
    exact ⟨hl, resZ_ok h⟩
  · rw [if_neg hl] at h; exact absurd h (by decide)
theorem sum_parts {l m : List Int} (h1 : (sumT l).2 = 0) (h2 : (sumT m).2 = 0) : unit_Add.f (sumT l).1 (sumT m).1 = some (sumT (l ++ m)) := by
  obtain ⟨a1, a2, a3⟩ := sumT_ok h1
  obtain ⟨b1, b2, b3⟩ := sumT_ok h2
  rw [unit_Add.f, a3, b3, a2, b2]
  unfold sumT
  rw [List.all_append, a1, b1, sumG_app]

theorem turns_l0 (l : List Int) (hl : l.length ≤ 100) (n : Int) (h0 : 0 ≤ n) (h1 : n ≤ l.length) (d : Nat) : ∀ (k : Nat), d ≤ l.length → d < k → gutterlaw01_UnitTurns.l0 k l n true (l.reverse.take (l.length - d)) ((d : Int) - 1) = some true := by
  induction d with
  | zero =>
    intro k _ hk
    obtain ⟨k, rfl⟩ : ∃ m, k = m + 1 := ⟨k - 1, by omega⟩
    simp only [gutterlaw01_UnitTurns.l0]
    rw [if_neg (by omega), Nat.sub_zero, List.take_of_length_le (by simp), sumT_f (by omega), sumT_f (by rw [List.length_reverse]; omega), Option.bind_some, Option.bind_some, if_pos h0, if_pos h1, sumT_f (by rw [List.length_take]; omega), sumT_f (by rw [List.length_drop]; omega), Option.bind_some, Option.bind_some, sumT_rev]
    obtain ⟨r, hr⟩ : ∃ r, unit_Add.f (sumT (l.take n.toNat)).1 (sumT (l.drop n.toNat)).1 = some r := ⟨_, rfl⟩
    rw [hr, Option.bind_some]
    by_cases g1 : (sumT (l.take n.toNat)).2 = 0
    · by_cases g2 : (sumT (l.drop n.toNat)).2 = 0
      · rw [sum_parts g1 g2, List.take_append_drop] at hr
        obtain rfl := Option.some.inj hr
        simp
      · simp [g1, g2]
    · simp [g1]
  | succ d ih =>
    intro k hd hk
    obtain ⟨k, rfl⟩ : ∃ m, k = m + 1 := ⟨k - 1, by omega⟩
    have e : ((d + 1 : Nat) : Int) - 1 = (d : Int) := by omega
    rw [e]
    simp only [gutterlaw01_UnitTurns.l0]
    have ht : l.reverse.take (l.length - d) = l.reverse.take (l.length - (d + 1)) ++ [rd l d] := by
      have e2 : l.length - d = l.length - (d + 1) + 1 := by omega
      rw [e2, List.take_succ_eq_append_getElem (by rw [List.length_reverse]; omega)]
      congr 1
      rw [List.getElem_reverse]
      simp [rd]
      congr 2
      all_goals first | omega | (rw [List.getElem?_eq_getElem (by omega)]; simp; congr 1; omega)
    rw [if_pos (by omega), if_pos (by omega), if_pos (by omega), if_pos (by rw [List.length_take]; omega), ← ht, i64_in (x := (d : Int) - 1) (by omega) (by omega)]
    exact ih k (by omega) (by omega)
theorem UnitTurns : gutterlaw01_UnitTurns.Pure := by
  intro l a _ _ _ _
  refine ⟨102, ?_⟩
  have hm : 0 ≤ mn (l.length : Int) 100 ∧ mn (l.length : Int) 100 ≤ l.length ∧ mn (l.length : Int) 100 ≤ 100 := by unfold mn; split <;> omega
  unfold gutterlaw01_UnitTurns.f
  rw [shown_ok, Option.bind_some, if_pos hm.1, if_pos hm.2.1, Option.bind_some]
  have hle : (l.take (mn (l.length : Int) 100).toNat).length ≤ 100 := by rw [List.length_take]; omega
  generalize l.take (mn (l.length : Int) 100).toNat = m at *
  have hn : 0 ≤ mn (mx a 0) (m.length : Int) ∧ mn (mx a 0) (m.length : Int) ≤ m.length := by unfold mn mx; split <;> split <;> omega
  rw [i64_in (x := (m.length : Int) - 1) (by omega) (by omega)]
  have h := turns_l0 m hle _ hn.1 hn.2 m.length 102 (Nat.le_refl _) (by omega)
  rw [Nat.sub_self, List.take_zero] at h
  exact h
end Go.Proofs.YtlpkjjeihbdocaaDoor.G
