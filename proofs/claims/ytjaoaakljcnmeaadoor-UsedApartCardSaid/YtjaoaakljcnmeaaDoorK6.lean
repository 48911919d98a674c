/- Chapter 6: UsedApart. Written by mkK6.py. -/
import Derived.Test.YtjaoaakljcnmeaaDoorK2
import Derived.Test.YtjaoaakljcnmeaaDoorH1
namespace Go.Proofs.YtjaoaakljcnmeaaDoor.G
open Go.RowKit

theorem left_ok (s0 : Int) (s1 : Int) (s2 : Int) (s3 : Int) (s4 : Bool) (s5 : Int) (s6 : Int) (s7 : Int) (s8 : Bool) (s9 : Int) (s10 : Int) (s11 : Bool) (s12 : Int) (s13 : Bool) (s14 : Int) (s15 : Int) (av i : Int) (he : (usedZ s0 s1 s2 s3 s4 s5 s6 s7 s8 s9 s10 s11 s12 s13 s14 s15 av).2.2 = 0) (hi : 0 ≤ i ∧ i ≤ 1000) : used_Left.f av s0 s1 s2 s3 s4 s5 s6 s7 s8 s9 s10 s11 s12 s13 s14 s15 i = some (i * ((usedZ s0 s1 s2 s3 s4 s5 s6 s7 s8 s9 s10 s11 s12 s13 s14 s15 av).2.1 + s2), 0) := by
  have hc := (usedZ_ok s0 s1 s2 s3 s4 s5 s6 s7 s8 s9 s10 s11 s12 s13 s14 s15 av he).2.2.2
  rw [used_Left.f, if_pos he, leftZ, if_neg (by omega), (left_in hc.wd_in hc.g2 hi).1]
theorem at_ok (s0 : Int) (s1 : Int) (s2 : Int) (s3 : Int) (s4 : Bool) (s5 : Int) (s6 : Int) (s7 : Int) (s8 : Bool) (s9 : Int) (s10 : Int) (s11 : Bool) (s12 : Int) (s13 : Bool) (s14 : Int) (s15 : Int) (av x : Int) (he : (usedZ s0 s1 s2 s3 s4 s5 s6 s7 s8 s9 s10 s11 s12 s13 s14 s15 av).2.2 = 0) {r : Int × Bool} (h : atZ (usedZ s0 s1 s2 s3 s4 s5 s6 s7 s8 s9 s10 s11 s12 s13 s14 s15 av).2.1 s2 x (usedZ s0 s1 s2 s3 s4 s5 s6 s7 s8 s9 s10 s11 s12 s13 s14 s15 av).1.toNat = r) : used_At.f av s0 s1 s2 s3 s4 s5 s6 s7 s8 s9 s10 s11 s12 s13 s14 s15 x = some (r.1, r.2, 0) := by
  rw [used_At.f, if_pos he, h]
theorem UsedApart (av : Int) (s0 : Int) (s1 : Int) (s2 : Int) (s3 : Int) (s4 : Bool) (s5 : Int) (s6 : Int) (s7 : Int) (s8 : Bool) (s9 : Int) (s10 : Int) (s11 : Bool) (s12 : Int) (s13 : Bool) (s14 : Int) (s15 : Int) (i : Int) (w : World) (_ : (Lit.int .i64 av).wf = true) (_ : (Lit.int .i64 i).wf = true) (hG : GOK w) : Calls Tryd.prog 3 #[.int .i64 av, .agg (stV s0 s1 s2 s3 s4 s5 s6 s7 s8 s9 s10 s11 s12 s13 s14 s15), .int .i64 i] w fun x w' => x = .returned (.bool true) ∧ Below w.heap.size w w' := by
  by_cases he : (usedZ s0 s1 s2 s3 s4 s5 s6 s7 s8 s9 s10 s11 s12 s13 s14 s15 av).2.2 = 0
  · by_cases h1 : i < 0
    · exact UsedApart_early (stV s0 s1 s2 s3 s4 s5 s6 s7 s8 s9 s10 s11 s12 s13 s14 s15) av i _ _ _ w rfl (fun w' hG' => used_Used.calls av s0 s1 s2 s3 s4 s5 s6 s7 s8 s9 s10 s11 s12 s13 s14 s15 _ _ _ w' rfl hG') (.inr (.inl ⟨he, h1⟩)) hG
    · by_cases h2 : (usedZ s0 s1 s2 s3 s4 s5 s6 s7 s8 s9 s10 s11 s12 s13 s14 s15 av).1 ≤ i
      · exact UsedApart_early (stV s0 s1 s2 s3 s4 s5 s6 s7 s8 s9 s10 s11 s12 s13 s14 s15) av i _ _ _ w rfl (fun w' hG' => used_Used.calls av s0 s1 s2 s3 s4 s5 s6 s7 s8 s9 s10 s11 s12 s13 s14 s15 _ _ _ w' rfl hG') (.inr (.inr ⟨he, by omega, h2⟩)) hG
      · have hc := (usedZ_ok s0 s1 s2 s3 s4 s5 s6 s7 s8 s9 s10 s11 s12 s13 s14 s15 av he).2.2.2
        have hn := hc.gn
        have hw := hc.wd_in
        have hg := hc.g2
        have hu : ∀ w', GOK w' → Calls Tryd.prog 11 #[.int .i64 av, .agg (stV s0 s1 s2 s3 s4 s5 s6 s7 s8 s9 s10 s11 s12 s13 s14 s15)] w' fun x w'' => x = .returned (.tuple #[.int .i64 (usedZ s0 s1 s2 s3 s4 s5 s6 s7 s8 s9 s10 s11 s12 s13 s14 s15 av).1, .int .i64 (usedZ s0 s1 s2 s3 s4 s5 s6 s7 s8 s9 s10 s11 s12 s13 s14 s15 av).2.1, .int .i64 0]) ∧ Below w'.heap.size w' w'' := fun w' hG' => by
          have h := used_Used.calls av s0 s1 s2 s3 s4 s5 s6 s7 s8 s9 s10 s11 s12 s13 s14 s15 _ _ _ w' (show used_Used.f av s0 s1 s2 s3 s4 s5 s6 s7 s8 s9 s10 s11 s12 s13 s14 s15 = some ((usedZ s0 s1 s2 s3 s4 s5 s6 s7 s8 s9 s10 s11 s12 s13 s14 s15 av).1, (usedZ s0 s1 s2 s3 s4 s5 s6 s7 s8 s9 s10 s11 s12 s13 s14 s15 av).2.1, (usedZ s0 s1 s2 s3 s4 s5 s6 s7 s8 s9 s10 s11 s12 s13 s14 s15 av).2.2) from rfl) hG'
          rw [he] at h
          exact h
        have ha := left_ok s0 s1 s2 s3 s4 s5 s6 s7 s8 s9 s10 s11 s12 s13 s14 s15 av i he (by omega)
        have hb : used_Left.f av s0 s1 s2 s3 s4 s5 s6 s7 s8 s9 s10 s11 s12 s13 s14 s15 (wrap64 (i + 1)) = some (i * ((usedZ s0 s1 s2 s3 s4 s5 s6 s7 s8 s9 s10 s11 s12 s13 s14 s15 av).2.1 + s2) + ((usedZ s0 s1 s2 s3 s4 s5 s6 s7 s8 s9 s10 s11 s12 s13 s14 s15 av).2.1 + s2), 0) := by
          rw [i64_in (by omega) (by omega), left_ok s0 s1 s2 s3 s4 s5 s6 s7 s8 s9 s10 s11 s12 s13 s14 s15 av (i + 1) he (by omega), Int.add_mul, Int.one_mul]
        have hl := left_in hw hg (i := i) (by omega)
        obtain ⟨j, hj⟩ : ∃ j : Nat, (j : Int) = i := ⟨i.toNat, by omega⟩
        have at1 := fun x (r : Int × Bool) h => at_ok s0 s1 s2 s3 s4 s5 s6 s7 s8 s9 s10 s11 s12 s13 s14 s15 av x he (r := r) h
        generalize (usedZ s0 s1 s2 s3 s4 s5 s6 s7 s8 s9 s10 s11 s12 s13 s14 s15 av).1 = n at *
        generalize (usedZ s0 s1 s2 s3 s4 s5 s6 s7 s8 s9 s10 s11 s12 s13 s14 s15 av).2.1 = wd at *
        have hp := hl.2
        obtain ⟨p, hpe⟩ : ∃ p, i * (wd + s2) = p := ⟨_, rfl⟩
        rw [hpe] at ha hb hp
        by_cases h3 : wd = 0
        · subst h3
          have e := fun x => at_none (gap := s2) (x := x) (n := n.toNat) hg (by omega)
          exact UsedApart_walk (stV s0 s1 s2 s3 s4 s5 s6 s7 s8 s9 s10 s11 s12 s13 s14 s15) av i n 0 p _ 0 0 s2 false false w rfl rfl hu (fun w' hG' => used_Left.calls av s0 s1 s2 s3 s4 s5 s6 s7 s8 s9 s10 s11 s12 s13 s14 s15 i _ _ w' ha hG') (fun w' hG' => used_Left.calls av s0 s1 s2 s3 s4 s5 s6 s7 s8 s9 s10 s11 s12 s13 s14 s15 _ _ _ w' hb hG') (fun w' hG' => used_At.calls av s0 s1 s2 s3 s4 s5 s6 s7 s8 s9 s10 s11 s12 s13 s14 s15 _ _ _ _ w' (at1 p _ (e p)) hG') (fun w' hG' => used_At.calls av s0 s1 s2 s3 s4 s5 s6 s7 s8 s9 s10 s11 s12 s13 s14 s15 _ _ _ _ w' (at1 _ _ (e _)) hG')
            (by omega) (.inl ⟨rfl, rfl, by rw [show p + (0 + s2) - p = s2 by omega]; exact i64_in (by omega) (by omega)⟩) hG
        · have e : ∀ x, p ≤ x → x < p + wd → atZ wd s2 x n.toNat = (i, true) := fun x k1 k2 => by
            rw [← hj]
            exact at_hit hw hg (by omega) (by omega) (by rw [hj, hpe]; exact k1) (by rw [hj, hpe]; exact k2)
          exact UsedApart_walk (stV s0 s1 s2 s3 s4 s5 s6 s7 s8 s9 s10 s11 s12 s13 s14 s15) av i n wd p _ i i s2 true true w rfl rfl hu (fun w' hG' => used_Left.calls av s0 s1 s2 s3 s4 s5 s6 s7 s8 s9 s10 s11 s12 s13 s14 s15 i _ _ w' ha hG') (fun w' hG' => used_Left.calls av s0 s1 s2 s3 s4 s5 s6 s7 s8 s9 s10 s11 s12 s13 s14 s15 _ _ _ w' hb hG') (fun w' hG' => used_At.calls av s0 s1 s2 s3 s4 s5 s6 s7 s8 s9 s10 s11 s12 s13 s14 s15 _ _ _ _ w' (at1 p _ (e p (by omega) (by omega))) hG')
            (fun w' hG' => used_At.calls av s0 s1 s2 s3 s4 s5 s6 s7 s8 s9 s10 s11 s12 s13 s14 s15 _ _ _ _ w' (at1 (wrap64 (wrap64 (p + wd) - 1)) (i, true) (by rw [i64_in (x := p + wd) (by omega) (by omega), i64_in (x := p + wd - 1) (by omega) (by omega)]; exact e _ (by omega) (by omega))) hG')
            (by omega) (.inr ⟨h3, rfl, rfl, rfl, rfl, by rw [show p + (wd + s2) - p = wd + s2 by omega]⟩) hG
  · exact UsedApart_early (stV s0 s1 s2 s3 s4 s5 s6 s7 s8 s9 s10 s11 s12 s13 s14 s15) av i _ _ _ w rfl (fun w' hG' => used_Used.calls av s0 s1 s2 s3 s4 s5 s6 s7 s8 s9 s10 s11 s12 s13 s14 s15 _ _ _ w' rfl hG') (.inl he) hG
end Go.Proofs.YtjaoaakljcnmeaaDoor.G
