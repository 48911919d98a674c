/- Chapter 10, plain: MarginTurns. -/
import Derived.Test.YtiodlbfdfnideaaDoorH1
import Derived.Test.YtiodlbfdfnideaaDoorG14
namespace Go.Proofs.YtiodlbfdfnideaaDoor.G
open Go.RowKit Go.Proofs.YtiodlbfdfnideaaDoorW.PrintWords Go.Proofs.YtiodlbfdfnideaaDoorW.PrintLast Go.Proofs.YtiodlbfdfnideaaDoorW.PrintMore

theorem colL_up (l : List Int) : 0 ≤ (colL l).1 ∧ (∀ x ∈ l, x ≤ (colL l).1) ∧ ((colL l).1 = 0 ∨ (colL l).1 ∈ l) := by
  induction l using snoc_ind with
  | h0 => simp [colL]
  | h1 l x ih =>
    obtain ⟨h1, h2, h3⟩ := ih
    rw [colL_snoc, colS]
    dsimp only
    unfold mx
    refine ⟨by split <;> omega, fun y hy => ?_, ?_⟩
    · rw [List.mem_append, List.mem_singleton] at hy
      rcases hy with hy | rfl
      · have := h2 y hy
        split <;> omega
      · split <;> omega
    · split
      · exact .inr (by simp)
      · rcases h3 with h | h
        · exact .inl h
        · exact .inr (by simp [h])
theorem colL_down (l : List Int) : (colL l).2 ≤ 0 ∧ (∀ x ∈ l, (colL l).2 ≤ x) ∧ ((colL l).2 = 0 ∨ (colL l).2 ∈ l) := by
  induction l using snoc_ind with
  | h0 => simp [colL]
  | h1 l x ih =>
    obtain ⟨h1, h2, h3⟩ := ih
    rw [colL_snoc, colS]
    dsimp only
    unfold mn
    refine ⟨by split <;> omega, fun y hy => ?_, ?_⟩
    · rw [List.mem_append, List.mem_singleton] at hy
      rcases hy with hy | rfl
      · have := h2 y hy
        split <;> omega
      · split <;> omega
    · split
      · exact .inr (by simp)
      · rcases h3 with h | h
        · exact .inl h
        · exact .inr (by simp [h])
theorem colL_same (l m : List Int) (h : ∀ x, x ∈ l ↔ x ∈ m) : colL l = colL m := by
  obtain ⟨a1, a2, a3⟩ := colL_up l
  obtain ⟨b1, b2, b3⟩ := colL_up m
  obtain ⟨c1, c2, c3⟩ := colL_down l
  obtain ⟨d1, d2, d3⟩ := colL_down m
  have e1 : (colL l).1 = (colL m).1 := by
    have p : (colL l).1 ≤ (colL m).1 := by
      rcases a3 with h3 | h3
      · omega
      · exact b2 _ ((h _).1 h3)
    have q : (colL m).1 ≤ (colL l).1 := by
      rcases b3 with h3 | h3
      · omega
      · exact a2 _ ((h _).2 h3)
    omega
  have e2 : (colL l).2 = (colL m).2 := by
    have p : (colL m).2 ≤ (colL l).2 := by
      rcases c3 with h3 | h3
      · omega
      · exact d2 _ ((h _).1 h3)
    have q : (colL l).2 ≤ (colL m).2 := by
      rcases d3 with h3 | h3
      · omega
      · exact c2 _ ((h _).2 h3)
    omega
  exact Prod.ext e1 e2
theorem all_same (l m : List Int) (h : ∀ x, x ∈ l ↔ x ∈ m) : l.all marB = m.all marB := by
  rw [Bool.eq_iff_iff, List.all_eq_true, List.all_eq_true]
  exact ⟨fun g x hx => g x ((h x).2 hx), fun g x hx => g x ((h x).1 hx)⟩
theorem Collapse_same (l m : List Int) (hl : l.length ≤ 1000) (hm : m.length ≤ 1000) (h : ∀ x, x ∈ l ↔ x ∈ m) : margin_Collapse.f l = margin_Collapse.f m := by
  unfold margin_Collapse.f
  rw [if_pos hl, if_pos hm, all_same l m h, colL_same l m h]

theorem turns_l0 (y t : List Int) (hy : y.length ≤ 100) (ht : t.length ≤ 100) (hm : ∀ x, x ∈ t ↔ x ∈ y) (j : Nat) : ∀ (k : Nat), j ≤ y.length → j < k →
    gutterlaw10_MarginTurns.l0 k y true t (y.drop j).reverse ((j : Int) - 1) = some true := by
  induction j with
  | zero =>
    intro k hj hk
    obtain ⟨k, rfl⟩ : ∃ m, k = m + 1 := ⟨k - 1, by omega⟩
    simp only [gutterlaw10_MarginTurns.l0]
    rw [if_neg (by omega), List.drop_zero]
    have e1 : margin_Collapse.f t = margin_Collapse.f y := Collapse_same t y (by omega) (by omega) hm
    have e2 : margin_Collapse.f y.reverse = margin_Collapse.f y := Collapse_same _ y (by simp; omega) (by omega) (by simp)
    have e3 : margin_Collapse.f (y.reverse ++ y) = margin_Collapse.f y := Collapse_same _ y (by simp; omega) (by omega) (by simp)
    rw [e1, e2, e3]
    have hv : ∃ v, margin_Collapse.f y = some v := by unfold margin_Collapse.f; rw [if_pos (by omega)]; exact ⟨_, rfl⟩
    obtain ⟨v, hv⟩ := hv
    rw [hv]
    simp only [Option.bind_some]
    rw [if_pos (by simp; omega)]
    simp
  | succ j ih =>
    intro k hj hk
    obtain ⟨k, rfl⟩ : ∃ m, k = m + 1 := ⟨k - 1, by omega⟩
    have ei : ((j + 1 : Nat) : Int) - 1 = (j : Int) := by omega
    have hw : wrap64 ((j : Int) - 1) = (j : Int) - 1 := wrap_in (by omega) (by omega)
    have hlen : (y.drop (j + 1)).reverse.length < 17592186044416 := by simp; omega
    simp only [gutterlaw10_MarginTurns.l0]
    rw [ei, if_pos (by omega), if_pos (by omega), if_pos (by omega), if_pos hlen, hw]
    have := ih k (by omega) (by omega)
    rw [drop_rd y j (by omega), List.reverse_cons] at this
    exact this

theorem MarginTurns : gutterlaw10_MarginTurns.Pure := by
  intro l0 a1 _ _ _ _
  refine ⟨2000, ?_⟩
  unfold gutterlaw10_MarginTurns.f
  have hl : (l0.take 100).length ≤ 100 := by simp; omega
  rw [shown_k 2000 (by omega), Option.bind_some, Option.bind_some]
  generalize l0.take 100 = y at hl ⊢
  have hn : 0 ≤ mn (mx a1 0) (y.length : Int) ∧ mn (mx a1 0) (y.length : Int) ≤ y.length := by unfold mn mx; split <;> split <;> omega
  generalize mn (mx a1 0) (y.length : Int) = n at hn ⊢
  rw [if_pos hn.1, if_pos hn.2, Option.bind_some, if_pos (by simp; omega), Option.bind_some, Option.bind_some, if_pos (by simp; omega)]
  have ht := turns_l0 y ([] ++ y.drop n.toNat ++ y.take n.toNat) hl (by simp; omega) (fun x => by
    rw [List.nil_append, List.mem_append, Or.comm, ← List.mem_append, List.take_append_drop]) y.length 2000 (Nat.le_refl _) (by omega)
  rw [List.drop_length] at ht
  rw [wrap_in (by omega) (by omega)]
  exact ht
end Go.Proofs.YtiodlbfdfnideaaDoor.G
