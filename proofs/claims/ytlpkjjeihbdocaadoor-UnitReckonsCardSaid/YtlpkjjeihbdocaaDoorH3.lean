/- Chapter 1, plain: sums, differences, products, quotients are the document's. -/
import Derived.Test.YtlpkjjeihbdocaaDoorH12
import Derived.Test.YtlpkjjeihbdocaaDoorG18
namespace Go.Proofs.YtlpkjjeihbdocaaDoor.G
open Go.RowKit Go.Proofs.YtlpkjjeihbdocaaDoorW.PrintWords Go.Proofs.YtlpkjjeihbdocaaDoorW.PrintLast Go.Proofs.YtlpkjjeihbdocaaDoorW.PrintMore

theorem ref_add (a b : Int) : gutterref01_Add.f a b = unit_Add.f a b := by
  unfold gutterref01_Add.f unit_Add.f
  rw [ref_right, ref_right]
  simp only [Option.bind_some]
  cases ha : lenB a
  · simp
  · cases hb : lenB b
    · simp
    · rw [lenB_iff] at ha hb
      simp only [if_true, Bool.and_self, ref_checked, i64_in (x := a + b) (by omega) (by omega), Option.bind_some]
theorem ref_sub (a b : Int) : gutterref01_Sub.f a b = unit_Sub.f a b := by
  unfold gutterref01_Sub.f unit_Sub.f
  rw [ref_right, ref_right]
  simp only [Option.bind_some]
  cases ha : lenB a
  · simp
  · cases hb : lenB b
    · simp
    · rw [lenB_iff] at ha hb
      simp only [if_true, Bool.and_self, ref_checked, i64_in (x := a - b) (by omega) (by omega), Option.bind_some]
theorem ref_mul (k : Nat) (a b : Int) : gutterref01_Mul.f (k + 1) a b = unit_Mul.f a b := by
  unfold gutterref01_Mul.f unit_Mul.f
  rw [ref_right, Option.bind_some]
  cases ha : lenB a
  · simp
  · simp only [if_true]
    by_cases h0 : a = 0
    · simp [h0, gutterref01_Mul.j0]
    · rw [if_neg h0, if_neg h0]
      by_cases hb0 : b = 0
      · subst hb0
        have e : lenB 0 = true := by decide
        simp [gutterref01_Mul.j0, e, resZ]
      · have e : (b == 0) = false := by simp [hb0]
        simp only [gutterref01_Mul.j0, e]
        rw [if_neg (by simp), ref_right, Option.bind_some]
        cases hb : lenB b
        · simp
        · have hm := mul_in a b ((lenB_iff a).1 ha) ((lenB_iff b).1 hb)
          rw [ref_checked, i64_in (x := a * b) (by omega) (by omega)]
          simp
theorem ref_div (a n : Int) (hn : r64 n) : gutterref01_Div.f a n = unit_Div.f a n := by
  rw [div_f hn]
  unfold gutterref01_Div.f
  rw [ref_right, Option.bind_some]
  cases ha : lenB a
  · simp
  · simp only [if_true]
    by_cases h0 : n = 0
    · simp [h0]
    · rw [if_neg h0, if_neg h0]
      have ht := tdiv_in n ha
      unfold divZ
      by_cases hm : a.tmod n = 0
      · rw [if_pos hm, i64_in (x := a.tdiv n) (by omega) (by omega)]
        simp [hm]
      · rw [if_neg hm, i64_in (x := a.tdiv n) (by omega) (by omega), i64_in (x := a.tdiv n - 1) (by omega) (by omega)]
        have e : (a.tmod n != 0) = true := by simp [hm]
        have e2 : decide (a.tmod n < 0) = decide (a < 0) := by simp only [tmod_sign hm]
        rw [e, e2, Bool.true_and]
        split <;> rfl
theorem ref_up (a n : Int) (hn : r64 n) : gutterref01_Up.f a n = unit_Up.f a n := by
  unfold gutterref01_Up.f
  rw [ref_div a n hn, div_f hn, up_f hn, Option.bind_some]
  cases ha : lenB a
  · simp
  · simp only [if_true]
    by_cases h0 : n = 0
    · simp [h0]
    · have hd := divZ_in (n := n) ha
      simp only [if_neg h0]
      unfold upZ
      by_cases hm : a.tmod n = 0
      · simp [hm]
      · simp [hm, i64_in (x := divZ a n + 1) (by omega) (by omega)]
theorem ite_beq (c : Prop) [Decidable c] (x : Option Bool) (h : c) (h2 : x = some true) : (if c then x else some false) = some true := by rw [if_pos h, h2]
theorem UnitReckons : gutterlaw01_UnitReckons.Pure := by
  intro a n _ w1
  refine ⟨1, ?_⟩
  have hn := wf64 w1
  unfold gutterlaw01_UnitReckons.f
  rw [shown_ok, ref_add, ref_sub, ref_mul, ref_div a n hn, ref_up a n hn, ref_right]
  obtain ⟨r1, h1⟩ : ∃ r, unit_Add.f a n = some r := ⟨_, rfl⟩
  obtain ⟨r2, h2⟩ : ∃ r, unit_Sub.f a n = some r := ⟨_, rfl⟩
  obtain ⟨r3, h3⟩ : ∃ r, unit_Mul.f a n = some r := ⟨_, rfl⟩
  obtain ⟨r4, h4⟩ : ∃ r, unit_Div.f a n = some r := ⟨_, div_f hn⟩
  obtain ⟨r5, h5⟩ : ∃ r, unit_Up.f a n = some r := ⟨_, up_f hn⟩
  rw [h1, h2, h3, h4, h5]
  simp [unit_Right.f]
end Go.Proofs.YtlpkjjeihbdocaaDoor.G
