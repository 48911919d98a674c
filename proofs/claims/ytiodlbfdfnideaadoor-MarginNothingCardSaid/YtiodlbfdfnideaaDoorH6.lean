/- Chapter 10, plain: MarginNothing. -/
import Derived.Test.YtiodlbfdfnideaaDoorH8
import Derived.Test.YtiodlbfdfnideaaDoorG15
namespace Go.Proofs.YtiodlbfdfnideaaDoor.G
open Go.RowKit Go.Proofs.YtiodlbfdfnideaaDoorW.PrintWords Go.Proofs.YtiodlbfdfnideaaDoorW.PrintLast Go.Proofs.YtiodlbfdfnideaaDoorW.PrintMore

def stepL (s : (Int × Int × Int) × List (Int × Int)) (x : S42) : (Int × Int × Int) × List (Int × Int) := (stS s.1 x, s.2 ++ [plS s.1 x])
theorem runL_step (l : List S42) : runL l = l.foldl stepL ((0, 0, 0), []) := rfl
theorem run_from (l : List S42) : ∀ (s : Int × Int × Int) (o : List (Int × Int)), l.foldl stepL (s, o) = ((l.foldl stepL (s, [])).1, o ++ (l.foldl stepL (s, [])).2) := by
  induction l with
  | nil => intro s o; simp
  | cons x l ih =>
    intro s o
    rw [List.foldl_cons, List.foldl_cons, stepL, stepL]
    dsimp only
    rw [ih _ (o ++ _), ih _ ([] ++ _)]
    simp
theorem run_split (l1 l2 : List S42) : runL (l1 ++ l2) = ((l2.foldl stepL ((runL l1).1, [])).1, (runL l1).2 ++ (l2.foldl stepL ((runL l1).1, [])).2) := by
  rw [runL_step (l1 ++ l2), List.foldl_append, ← runL_step l1, show runL l1 = ((runL l1).1, (runL l1).2) from rfl]
  exact run_from l2 _ _
theorem stS_zero (s : Int × Int × Int) (hu : 0 ≤ s.2.1) (hd : s.2.2 ≤ 0) : stS s ⟨0, 0, 0⟩ = s := by
  obtain ⟨e, u, d⟩ := s
  dsimp only at hu hd
  unfold stS
  rw [if_neg (by dsimp only; omega)]
  have h1 : mx u 0 = u := by unfold mx; split <;> omega
  have h2 : mn d 0 = d := by unfold mn; split <;> omega
  dsimp only
  rw [h1, h2, h1, h2]
/-- An item without H and margins changes nothing but the list of places. -/
theorem run_nothing (y : List S42) (h : y.all itemB = true) (n : Nat) : ∃ A B : List (Int × Int), ∃ p, A.length = (y.take n).length ∧ (runL y).2 = A ++ B ∧ (runL (y.take n ++ [⟨0, 0, 0⟩] ++ y.drop n)).2 = A ++ [p] ++ B ∧ (runL (y.take n ++ [⟨0, 0, 0⟩] ++ y.drop n)).1 = (runL y).1 := by
  have hin := runL_in (y.take n) (items_take h n)
  have hz := stS_zero (runL (y.take n)).1 hin.2.1.1 hin.2.2.2
  have e1 := run_split (y.take n) (y.drop n)
  rw [List.take_append_drop] at e1
  have e2 := run_split (y.take n ++ [⟨0, 0, 0⟩]) (y.drop n)
  rw [runL_snoc, hz] at e2
  dsimp only at e2
  exact ⟨(runL (y.take n)).2, _, _, runL_len _, by rw [e1], by rw [e2], by rw [e1, e2]⟩
theorem stack_nothing (y : List S42) (hy : y.length ≤ 40) (n : Nat) : stackB (y.take n ++ [(⟨0, 0, 0⟩ : S42)] ++ y.drop n) = stackB y := by
  have hz : itemB ⟨0, 0, 0⟩ = true := by decide
  have hl : (y.take n ++ [(⟨0, 0, 0⟩ : S42)] ++ y.drop n).length ≤ 200 := by simp; omega
  have ha : (y.take n ++ [(⟨0, 0, 0⟩ : S42)] ++ y.drop n).all itemB = y.all itemB := by
    rw [List.all_append, List.all_append]
    conv => rhs; rw [← List.take_append_drop n y, List.all_append]
    simp [hz]
  rw [stackB, stackB, ha, decide_eq_true hl, decide_eq_true (show y.length ≤ 200 by omega)]

theorem nothing_j0 (k : Nat) (hk : 200 < k) (A B : List Int) (p : Int) (n : Nat) (hA : A.length = n) (hB : B.length ≤ 100) (hn : n ≤ 40) (e l : Int) :
    gutterlaw10_MarginNothing.j0 k n true (A ++ B) (A ++ [p] ++ B) e l 0 e l 0 false = some true := by
  obtain ⟨k, rfl⟩ : ∃ m, k = m + 1 := ⟨k - 1, by omega⟩
  have hlen : ((A ++ [p] ++ B).length : Int) = (n : Int) + 1 + B.length := by simp [hA]; omega
  have hw : wrap64 ((n : Int) + 1) = ((n + 1 : Nat) : Int) := by rw [wrap_in (by omega) (by omega)]; omega
  have t1 : (A ++ [p] ++ B).take n = A := by rw [List.append_assoc, ← hA, List.take_left]
  have t2 : (A ++ [p] ++ B).drop (n + 1) = B := by rw [show n + 1 = (A ++ [p]).length by simp [hA], List.drop_left]
  simp only [gutterlaw10_MarginNothing.j0]
  rw [if_neg Bool.false_ne_true, if_pos (by omega), if_pos (by omega), hw, Int.toNat_natCast, Int.toNat_natCast, t1, t2, Option.bind_some, if_pos (by simp; omega), Option.bind_some, if_pos (by omega), if_pos (by omega), Option.bind_some, if_pos (by simp; omega), if_pos trivial, List.nil_append,
    nums_same (A ++ B) (by simp; omega) k (by simp; omega), Option.bind_some, if_pos trivial, if_pos trivial, if_pos trivial, if_pos rfl]
  simp

/-- MarginNothing, plain. -/
theorem MarginNothing (l0 : List S42) (a1 : Int) : ∃ k, gutterlaw10_MarginNothing.f k l0 a1 = some true := by
  refine ⟨2000, ?_⟩
  unfold gutterlaw10_MarginNothing.f
  rw [shown_k 2000 (by omega), Option.bind_some, Option.bind_some]
  have hl : (l0.take 40).length ≤ 40 := by simp; omega
  generalize l0.take 40 = y at hl ⊢
  have hn : 0 ≤ mn (mx a1 0) (y.length : Int) ∧ mn (mx a1 0) (y.length : Int) ≤ y.length := by unfold mn mx; split <;> split <;> omega
  generalize mn (mx a1 0) (y.length : Int) = N at hn ⊢
  obtain ⟨n, rfl⟩ := Int.eq_ofNat_of_zero_le hn.1
  rw [if_pos hn.1, if_pos hn.2, Int.toNat_natCast]
  simp only [Option.bind_some, List.nil_append]
  have hm : (y.take n ++ [(⟨0, 0, 0⟩ : S42)] ++ y.drop n).length = y.length + 1 := by simp; omega
  rw [if_pos (by simp; omega), if_pos (by simp; omega), if_pos (by simp; omega)]
  have hs := stack_nothing y hl n
  generalize hM : y.take n ++ [(⟨0, 0, 0⟩ : S42)] ++ y.drop n = m at *
  unfold margin_Tops.f margin_End.f
  rw [if_pos (show y.length ≤ 1000 by omega), if_pos (show y.length ≤ 1000 by omega), if_pos (show m.length ≤ 1000 by omega), if_pos (show m.length ≤ 1000 by omega), hs]
  simp only [Option.bind_some]
  by_cases h : stackB y = true
  · rw [if_pos h, if_pos h, if_pos h, if_pos h]
    dsimp only
    have hall : y.all itemB = true := by simp only [stackB, Bool.and_eq_true] at h; exact h.1
    obtain ⟨A, B, p, hA, e1, e2, e3⟩ := run_nothing y hall n
    rw [hM] at e2 e3
    have hlenY := runL_len y
    have hlenM := runL_len m
    rw [e1, List.length_append] at hlenY
    rw [e2] at hlenM
    have hAn : A.length = n := by rw [hA, List.length_take]; omega
    rw [if_pos rfl, if_pos rfl, if_pos (by rw [List.length_map, e1, List.length_append]; omega), e1, e2, e3]
    have hne : ((((A ++ [p] ++ B).map (·.1)).length : Int) != (m.length : Int)) = false := by rw [List.length_map, hlenM]; simp
    rw [hne]
    have := nothing_j0 2000 (by omega) (A.map (·.1)) (B.map (·.1)) p.1 n (by simpa using hAn) (by simp; omega) (by omega) (runL y).1.1 ((runL y).1.2.1 + (runL y).1.2.2)
    simpa using this
  · rw [if_neg h, if_neg h, if_neg h, if_neg h]
    simp
end Go.Proofs.YtiodlbfdfnideaaDoor.G
