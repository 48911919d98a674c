/- Chapter 18, plainly: PaintBounds. Written by mkH4.py. -/
import Derived.Test.YtkmddhljfjjglaaDoorH0
namespace Go.Proofs.YtkmddhljfjjglaaDoor.G
open Go.RowKit Go.Proofs.YtkmddhljfjjglaaDoorW.PrintWords Go.Proofs.YtkmddhljfjjglaaDoorW.PrintLast Go.Proofs.YtkmddhljfjjglaaDoorW.PrintMore

def okH (r : S30) : Prop := (-1099511627776 ≤ r.f0 ∧ r.f0 ≤ 1099511627776) ∧ (-1099511627776 ≤ r.f1 ∧ r.f1 ≤ 1099511627776) ∧ (0 ≤ r.f2 ∧ r.f0 + r.f2 ≤ 2199023255552) ∧ (0 ≤ r.f3 ∧ r.f1 + r.f3 ≤ 2199023255552)
theorem okH_of {r : S30} (h : RectP r) : okH r := by
  simp only [RectP] at h
  simp only [okH]
  omega
theorem hull_plain (a b : S30) (ha : okH a) (hb : okH b) : hullS a b = ⟨min a.f0 b.f0, min a.f1 b.f1, max (a.f0 + a.f2) (b.f0 + b.f2) - min a.f0 b.f0, max (a.f1 + a.f3) (b.f1 + b.f3) - min a.f1 b.f1⟩ := by
  obtain ⟨a0, a1, a2, a3⟩ := a
  obtain ⟨b0, b1, b2, b3⟩ := b
  simp only [okH] at ha hb
  unfold hullS
  split
  · rename_i h
    simp only [Bool.and_eq_true, beq_iff_eq] at h
    obtain ⟨rfl, rfl, rfl, rfl⟩ := h
    simp only [S30.mk.injEq]
    omega
  · have e1 : wrap64 (a0 + a2) = a0 + a2 := i64w (by omega) (by omega)
    have e2 : wrap64 (b0 + b2) = b0 + b2 := i64w (by omega) (by omega)
    have e3 : wrap64 (a1 + a3) = a1 + a3 := i64w (by omega) (by omega)
    have e4 : wrap64 (b1 + b3) = b1 + b3 := i64w (by omega) (by omega)
    have e5 : wrap64 (max (a0 + a2) (b0 + b2) - min a0 b0) = max (a0 + a2) (b0 + b2) - min a0 b0 := i64w (by omega) (by omega)
    have e6 : wrap64 (max (a1 + a3) (b1 + b3) - min a1 b1) = max (a1 + a3) (b1 + b3) - min a1 b1 := i64w (by omega) (by omega)
    simp only [e1, e2, e3, e4, e5, e6]
/-- What the bounds of a list are. -/
def BdL (o : S30) (l : List S39) : Prop := okH o ∧ (∀ y ∈ l, o.f0 ≤ y.f2.f0 ∧ o.f1 ≤ y.f2.f1 ∧ y.f2.f0 + y.f2.f2 ≤ o.f0 + o.f2 ∧ y.f2.f1 + y.f2.f3 ≤ o.f1 + o.f3) ∧
  (∃ y ∈ l, y.f2.f0 = o.f0) ∧ (∃ y ∈ l, y.f2.f1 = o.f1) ∧ (∃ y ∈ l, y.f2.f0 + y.f2.f2 = o.f0 + o.f2) ∧ ∃ y ∈ l, y.f2.f1 + y.f2.f3 = o.f1 + o.f3
theorem bd_step (o : S30) (l : List S39) (y : S39) (h : BdL o l) (hy : okH y.f2) : BdL (hullS o y.f2) (l ++ [y]) := by
  obtain ⟨ho, hall, ⟨a, ha, ea⟩, ⟨b, hb, eb⟩, ⟨c, hc, ec⟩, ⟨d, hd, ed⟩⟩ := h
  rw [hull_plain _ _ ho hy]
  have mem : ∀ z, z ∈ l → z ∈ l ++ [y] := fun z hz => List.mem_append_left _ hz
  have my : y ∈ l ++ [y] := by simp
  simp only [okH] at ho hy
  refine ⟨?_, ?_, ?_, ?_, ?_, ?_⟩
  · simp only [okH]
    omega
  · intro z hz
    simp only [List.mem_append, List.mem_singleton] at hz
    rcases hz with hz | rfl
    · have := hall z hz
      dsimp only
      omega
    · dsimp only
      omega
  · dsimp only
    rcases Int.le_total o.f0 y.f2.f0 with h | h
    · exact ⟨a, mem a ha, by omega⟩
    · exact ⟨y, my, by omega⟩
  · dsimp only
    rcases Int.le_total o.f1 y.f2.f1 with h | h
    · exact ⟨b, mem b hb, by omega⟩
    · exact ⟨y, my, by omega⟩
  · dsimp only
    rcases Int.le_total (o.f0 + o.f2) (y.f2.f0 + y.f2.f2) with h | h
    · exact ⟨y, my, by omega⟩
    · exact ⟨c, mem c hc, by omega⟩
  · dsimp only
    rcases Int.le_total (o.f1 + o.f3) (y.f2.f1 + y.f2.f3) with h | h
    · exact ⟨y, my, by omega⟩
    · exact ⟨d, mem d hd, by omega⟩
theorem bd_all (y0 : S39) (l : List S39) : (∀ y ∈ y0 :: l, okH y.f2) → BdL (boundF y0.f2 l) (y0 :: l) := by
  induction l using snoc_ind with
  | h0 =>
    intro h
    have h0 := h y0 (by simp)
    refine ⟨h0, fun y hy => ?_, ⟨y0, by simp, rfl⟩, ⟨y0, by simp, rfl⟩, ⟨y0, by simp, rfl⟩, ⟨y0, by simp, rfl⟩⟩
    obtain rfl : y = y0 := by simpa using hy
    simp [boundF]
  | h1 l y ih =>
    intro h
    have h1 := ih (fun z hz => h z (by simp only [List.mem_cons, List.mem_append] at hz ⊢; exact hz.imp id .inl))
    rw [boundF_snoc]
    exact bd_step _ _ _ h1 (h y (by simp))
theorem rd_mem (l : List S39) (k : Nat) (hk : k < l.length) : rd_T39 l k ∈ l := by
  have : rd_T39 l k = l[k] := by simp [rd_T39, hk]
  rw [this]
  exact List.getElem_mem hk
theorem bd_list (l : List S39) (hl : 0 < l.length) (h : ∀ y ∈ l, okH y.f2) : BdL (boundsL l) l := by
  have hm := rd_mem l 0 hl
  obtain ⟨h1, h2, ⟨a, ha, ea⟩, ⟨b, hb, eb⟩, ⟨c, hc, ec⟩, ⟨d, hd, ed⟩⟩ := bd_all (rd_T39 l 0) l (fun y hy => by
    rcases List.mem_cons.1 hy with rfl | hy
    · exact h _ hm
    · exact h _ hy)
  have sub : ∀ z, z ∈ rd_T39 l 0 :: l → z ∈ l := fun z hz => by
    rcases List.mem_cons.1 hz with rfl | hz
    · exact hm
    · exact hz
  exact ⟨h1, fun y hy => h2 y (List.mem_cons_of_mem _ hy), ⟨a, sub a ha, ea⟩, ⟨b, sub b hb, eb⟩, ⟨c, sub c hc, ec⟩, ⟨d, sub d hd, ed⟩⟩
theorem mem_at {l : List S39} {y : S39} (h : y ∈ l) : ∃ j : Nat, j < l.length ∧ rd_T39 l j = y := by
  obtain ⟨j, hj, e⟩ := List.getElem_of_mem h
  exact ⟨j, hj, by simp [rd_T39, hj, e]⟩
theorem bounds_ok (l : List S39) (hl : l.length ≤ 200) (hw : wfD l = true) : paint_Bounds.f l = some (if areB l = true ∧ 0 < l.length then ((boundsL l).f0, (boundsL l).f1, (boundsL l).f2, (boundsL l).f3, 0) else (0, 0, 0, 0, 170)) := by
  unfold paint_Bounds.f
  rw [if_pos ⟨hl, hw⟩]
theorem wfX_D {l : List S39} (h : l.all wfX = true) : wfD l = true := by
  rw [List.all_eq_true] at h
  rw [wfD, List.all_eq_true]
  intro x hx
  have := h x hx
  simp only [wfX, Bool.and_eq_true] at this
  exact this.2
theorem okH_mem {l : List S39} (hw : wfD l = true) (hB : areB l = true) : ∀ y ∈ l, okH y.f2 := fun y hy => okH_of ((isB_iff (wfD_mem hw y hy)).1 (areB_mem hB y hy))
end Go.Proofs.YtkmddhljfjjglaaDoor.G
