/- Chapter 18, plainly: PaintBounds' loop. Written by mkH4.py. -/
import Derived.Test.YtkmddhljfjjglaaDoorH4
namespace Go.Proofs.YtkmddhljfjjglaaDoor.G
open Go.RowKit Go.Proofs.YtkmddhljfjjglaaDoorW.PrintWords Go.Proofs.YtkmddhljfjjglaaDoorW.PrintLast Go.Proofs.YtkmddhljfjjglaaDoorW.PrintMore
theorem pb_step (k : Nat) (L : List S39) (x3 b6 b7 b8 b9 : Bool) (i o0 o1 o2 o3 : Int) (h1 : i < (L.length : Int)) (h2 : 0 ≤ i) (h3 : o0 ≤ (rd_T39 L i).f2.f0) (h4 : o1 ≤ (rd_T39 L i).f2.f1) (h5 : wrap64 ((rd_T39 L i).f2.f0 + (rd_T39 L i).f2.f2) ≤ wrap64 (o0 + o2)) (h6 : wrap64 ((rd_T39 L i).f2.f1 + (rd_T39 L i).f2.f3) ≤ wrap64 (o1 + o3)) :
    gutterlaw18_PaintBounds.l0 (k + 1) L x3 b6 b7 b8 b9 i o0 o1 o2 o3 = gutterlaw18_PaintBounds.l0 k L x3 (b6 || ((rd_T39 L i).f2.f0 == o0)) (b7 || ((rd_T39 L i).f2.f1 == o1)) (b8 || (wrap64 ((rd_T39 L i).f2.f0 + (rd_T39 L i).f2.f2) == wrap64 (o0 + o2))) (b9 || (wrap64 ((rd_T39 L i).f2.f1 + (rd_T39 L i).f2.f3) == wrap64 (o1 + o3))) (wrap64 (i + 1)) o0 o1 o2 o3 := by
  conv => lhs; unfold gutterlaw18_PaintBounds.l0
  rw [if_pos h1, if_pos h2, if_neg (by omega), if_neg (by omega), if_neg (by omega), if_neg (by omega)]
  cases b6 <;> cases b7 <;> cases b8 <;> cases b9 <;> rfl
theorem pb_loop (L : List S39) (o : S30) (hL : L.length ≤ 60) (hok : ∀ y ∈ L, okH y.f2) (ho : okH o) (hall : ∀ y ∈ L, o.f0 ≤ y.f2.f0 ∧ o.f1 ≤ y.f2.f1 ∧ y.f2.f0 + y.f2.f2 ≤ o.f0 + o.f2 ∧ y.f2.f1 + y.f2.f3 ≤ o.f1 + o.f3) (d : Nat) :
    ∀ (k i : Nat) (b6 b7 b8 b9 : Bool), i ≤ L.length → L.length - i = d → d < k →
      (b6 = true ∨ ∃ j : Nat, i ≤ j ∧ j < L.length ∧ (rd_T39 L j).f2.f0 = o.f0) → (b7 = true ∨ ∃ j : Nat, i ≤ j ∧ j < L.length ∧ (rd_T39 L j).f2.f1 = o.f1) →
      (b8 = true ∨ ∃ j : Nat, i ≤ j ∧ j < L.length ∧ (rd_T39 L j).f2.f0 + (rd_T39 L j).f2.f2 = o.f0 + o.f2) → (b9 = true ∨ ∃ j : Nat, i ≤ j ∧ j < L.length ∧ (rd_T39 L j).f2.f1 + (rd_T39 L j).f2.f3 = o.f1 + o.f3) →
      gutterlaw18_PaintBounds.l0 k L true b6 b7 b8 b9 i o.f0 o.f1 o.f2 o.f3 = some true := by
  induction d with
  | zero =>
    intro k i b6 b7 b8 b9 hi hd hk h6 h7 h8 h9
    obtain ⟨k, rfl⟩ : ∃ m, k = m + 1 := ⟨k - 1, by omega⟩
    have e6 : b6 = true := by rcases h6 with h | ⟨j, h1, h2, _⟩; exact h; omega
    have e7 : b7 = true := by rcases h7 with h | ⟨j, h1, h2, _⟩; exact h; omega
    have e8 : b8 = true := by rcases h8 with h | ⟨j, h1, h2, _⟩; exact h; omega
    have e9 : b9 = true := by rcases h9 with h | ⟨j, h1, h2, _⟩; exact h; omega
    subst e6 e7 e8 e9
    unfold gutterlaw18_PaintBounds.l0
    rw [if_neg (by omega)]
    rfl
  | succ d ih =>
    intro k i b6 b7 b8 b9 hi hd hk h6 h7 h8 h9
    obtain ⟨k, rfl⟩ : ∃ m, k = m + 1 := ⟨k - 1, by omega⟩
    have hlt : i < L.length := by omega
    have hm := rd_mem L i hlt
    have ha := hall _ hm
    have hk0 := hok _ hm
    simp only [okH] at hk0 ho
    have e1 := Aside0.mk (show wrap64 ((rd_T39 L i).f2.f0 + (rd_T39 L i).f2.f2) = (rd_T39 L i).f2.f0 + (rd_T39 L i).f2.f2 from i64w (by omega) (by omega))
    have e2 := Aside0.mk (show wrap64 ((rd_T39 L i).f2.f1 + (rd_T39 L i).f2.f3) = (rd_T39 L i).f2.f1 + (rd_T39 L i).f2.f3 from i64w (by omega) (by omega))
    have e3 := Aside0.mk (show wrap64 (o.f0 + o.f2) = o.f0 + o.f2 from i64w (by omega) (by omega))
    have e4 := Aside0.mk (show wrap64 (o.f1 + o.f3) = o.f1 + o.f3 from i64w (by omega) (by omega))
    have e5 := Aside0.mk (show wrap64 ((i : Int) + 1) = ((i + 1 : Nat) : Int) from by rw [i64w (by omega) (by omega)]; omega)
    rw [pb_step k L true b6 b7 b8 b9 i o.f0 o.f1 o.f2 o.f3 (by omega) (by omega) ha.1 ha.2.1 (by rw [e1.out, e3.out]; exact ha.2.2.1) (by rw [e2.out, e4.out]; exact ha.2.2.2), e1.out, e2.out, e3.out, e4.out, e5.out]
    refine ih k (i + 1) _ _ _ _ (by omega) (by omega) (by omega) ?_ ?_ ?_ ?_
    · rcases h6 with h | ⟨j, h1, h2, h3⟩
      · exact .inl (by simp [h])
      · by_cases hj : j = i
        · subst hj; exact .inl (by simp [h3])
        · exact .inr ⟨j, by omega, h2, h3⟩
    · rcases h7 with h | ⟨j, h1, h2, h3⟩
      · exact .inl (by simp [h])
      · by_cases hj : j = i
        · subst hj; exact .inl (by simp [h3])
        · exact .inr ⟨j, by omega, h2, h3⟩
    · rcases h8 with h | ⟨j, h1, h2, h3⟩
      · exact .inl (by simp [h])
      · by_cases hj : j = i
        · subst hj; exact .inl (by simp [h3])
        · exact .inr ⟨j, by omega, h2, h3⟩
    · rcases h9 with h | ⟨j, h1, h2, h3⟩
      · exact .inl (by simp [h])
      · by_cases hj : j = i
        · subst hj; exact .inl (by simp [h3])
        · exact .inr ⟨j, by omega, h2, h3⟩
theorem PaintBounds (l0 : List S39) (h : l0.all wfX = true) : ∃ k, gutterlaw18_PaintBounds.f k l0 = some true := by
  refine ⟨100, ?_⟩
  unfold gutterlaw18_PaintBounds.f
  rw [shown_ge (by omega)]
  simp only [Option.bind_some]
  have hlen : (l0.take 60).length ≤ 60 := by rw [List.length_take]; omega
  have hw : wfD (l0.take 60) = true := wfX_D (all_take h 60)
  generalize l0.take 60 = L at *
  rw [bounds_ok L (by omega) hw]
  simp only [Option.bind_some]
  by_cases hB : areB L = true ∧ 0 < L.length
  · rw [if_pos hB]
    dsimp only
    rw [if_pos rfl]
    have hok := okH_mem hw hB.1
    obtain ⟨h1, h2, ⟨a, ha, ea⟩, ⟨b, hb, eb⟩, ⟨c, hc, ec⟩, ⟨d, hd, ed⟩⟩ := bd_list L hB.2 hok
    obtain ⟨ja, la, rfl⟩ := mem_at ha
    obtain ⟨jb, lb, rfl⟩ := mem_at hb
    obtain ⟨jc, lc, rfl⟩ := mem_at hc
    obtain ⟨jd, ld, rfl⟩ := mem_at hd
    exact pb_loop L (boundsL L) hlen hok h1 h2 L.length 100 0 false false false false (by omega) rfl (by omega) (.inr ⟨ja, by omega, la, ea⟩) (.inr ⟨jb, by omega, lb, eb⟩) (.inr ⟨jc, by omega, lc, ec⟩) (.inr ⟨jd, by omega, ld, ed⟩)
  · rw [if_neg hB]
    rfl
end Go.Proofs.YtkmddhljfjjglaaDoor.G
