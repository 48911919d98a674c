/- Chapter 18, plainly: the cut pieces; rectangles; what is drawn. Written by mkH3.py. -/
import Derived.Test.YtkmddhljfjjglaaDoorH00
import Derived.Test.YtkmddhljfjjglaaDoorG11
import Derived.Test.YtkmddhljfjjglaaDoorR
namespace Go.Proofs.YtkmddhljfjjglaaDoor.G
open Go.RowKit Go.Proofs.YtkmddhljfjjglaaDoorW.PrintWords Go.Proofs.YtkmddhljfjjglaaDoorW.PrintLast Go.Proofs.YtkmddhljfjjglaaDoorW.PrintMore

theorem all_take {α : Type} {p : α → Bool} {l : List α} (h : l.all p = true) (n : Nat) : (l.take n).all p = true := by
  rw [List.all_eq_true] at h ⊢
  exact fun x hx => h x (List.mem_of_mem_take hx)
def nearZ (n : Int) : Int := mx (-1099511627776) (mn n 1099511627776)
theorem nearZ_in (n : Int) : -1099511627776 ≤ nearZ n ∧ nearZ n ≤ 1099511627776 := by unfold nearZ mx mn; split <;> split <;> omega
def nearF (f : S41) : S41 := ⟨f.f0, f.f1, f.f2, ⟨nearZ f.f3.f0, nearZ f.f3.f1, nearZ f.f3.f2, nearZ f.f3.f3⟩⟩
def piecesL (l : List S41) : List S41 := (l.take 100).map nearF
theorem piecesL_len (l : List S41) : (piecesL l).length ≤ 100 := by simp [piecesL, List.length_take]; omega
def nearB (f : S41) : Prop := (-1099511627776 ≤ f.f3.f0 ∧ f.f3.f0 ≤ 1099511627776) ∧ (-1099511627776 ≤ f.f3.f1 ∧ f.f3.f1 ≤ 1099511627776) ∧ (-1099511627776 ≤ f.f3.f2 ∧ f.f3.f2 ≤ 1099511627776) ∧ (-1099511627776 ≤ f.f3.f3 ∧ f.f3.f3 ≤ 1099511627776)
theorem piecesL_near (l : List S41) : ∀ f ∈ piecesL l, nearB f := by
  intro f hf
  simp only [piecesL, List.mem_map] at hf
  obtain ⟨g, _, rfl⟩ := hf
  exact ⟨nearZ_in _, nearZ_in _, nearZ_in _, nearZ_in _⟩
theorem pieces_snoc (l : List S41) (i : Nat) (hi : i < l.length) : (l.take (i + 1)).map nearF = (l.take i).map nearF ++ [nearF (rd_T41 l i)] := by
  rw [List.take_succ_eq_append_getElem hi, List.map_append]
  simp [rd_T41, hi]
theorem pieces_loop (l : List S41) (d : Nat) : ∀ (k i : Nat), i ≤ 100 → i ≤ l.length → 100 - i = d → 2 * d + 2 < k → gutterlaw17_Pieces.l0 k l ((l.take i).map nearF) i = some (piecesL l) := by
  induction d with
  | zero =>
    intro k i hi hil hd hk
    obtain ⟨k, rfl⟩ : ∃ m, k = m + 2 := ⟨k - 2, by omega⟩
    obtain rfl : i = 100 := by omega
    simp only [gutterlaw17_Pieces.l0, gutterlaw17_Pieces.j1]
    split <;> simp [piecesL]
  | succ d ih =>
    intro k i hi hil hd hk
    obtain ⟨k, rfl⟩ : ∃ m, k = m + 2 := ⟨k - 2, by omega⟩
    simp only [gutterlaw17_Pieces.l0, gutterlaw17_Pieces.j1]
    by_cases hlt : i < l.length
    · have hlen : ((l.take i).map nearF).length < 2513169434916 := by simp [List.length_take]; omega
      rw [if_pos (by omega), if_pos (by simp; omega), if_pos (by omega), if_pos (by omega)]
      simp only [gutterlaw17_near.f, Option.bind_some]
      rw [if_pos hlen, i64w (x := (i : Int) + 1) (by omega) (by omega)]
      have hs := pieces_snoc l i hlt
      rw [nearF] at hs
      simp only [nearZ] at hs
      rw [← hs]
      exact ih k (i + 1) (by omega) (by omega) (by omega) (by omega)
    · rw [if_neg (by omega), if_neg (by simp)]
      have e : l.take i = l.take 100 := by rw [List.take_of_length_le (by omega), List.take_of_length_le (by omega)]
      rw [e, piecesL]
theorem pieces_eq (k : Nat) (hk : 203 ≤ k) (l : List S41) : gutterlaw17_Pieces.f k l = some (piecesL l) :=
  pieces_loop l 100 k 0 (by omega) (by omega) rfl (by omega)
theorem near_wf {f : S41} (h : nearB f) : wfR f.f3 = true := by
  simp only [nearB] at h
  simp only [wfR, r64B, Bool.and_eq_true, decide_eq_true_eq]
  omega
theorem isB_in {r : S30} (h : isB r = true) : (True ∧ True) ∧ True ∧ (0 ≤ r.f2 ∧ r.f2 ≤ 1099511627776) ∧ (0 ≤ r.f3 ∧ r.f3 ≤ 1099511627776) := by
  simp only [isB, Bool.and_eq_true, Bool.not_eq_true'] at h
  exact ⟨⟨trivial, trivial⟩, trivial, inZ h.2.1, inZ h.2.2⟩
theorem far_in {x : Int} (hw : r64B x = true) : (outB 2199023255552 (wrap64 (x + 1099511627776)) = false) ↔ (-1099511627776 ≤ x ∧ x ≤ 1099511627776) := by
  simp only [r64B, Bool.and_eq_true, decide_eq_true_eq] at hw
  simp only [outB, Bool.or_eq_false_iff, decide_eq_false_iff_not]
  unfold wrap64
  omega
/-- What a rectangle is, in numbers. -/
def RectP (r : S30) : Prop := (-1099511627776 ≤ r.f0 ∧ r.f0 ≤ 1099511627776) ∧ (-1099511627776 ≤ r.f1 ∧ r.f1 ≤ 1099511627776) ∧ (0 ≤ r.f2 ∧ r.f2 ≤ 1099511627776) ∧ (0 ≤ r.f3 ∧ r.f3 ≤ 1099511627776)
theorem isB_iff {r : S30} (hw : wfR r = true) : isB r = true ↔ RectP r := by
  simp only [wfR, Bool.and_eq_true] at hw
  simp only [isB, RectP, Bool.and_eq_true, Bool.not_eq_true', far_in hw.1, far_in hw.2.1]
  simp only [outB, Bool.or_eq_false_iff, decide_eq_false_iff_not]
  omega
theorem areB_mem {l : List S39} (h : areB l = true) : ∀ x ∈ l, isB x.f2 = true := List.all_eq_true.1 h
theorem wfD_draws {rs : List S30} {fs : List S41} (h0 : rs.all wfR = true) (h1 : ∀ f ∈ fs, nearB f) : wfD (drawsL rs fs) = true := by
  rw [wfD, List.all_eq_true]
  intro x hx
  simp only [drawsL, List.mem_append, List.mem_map] at hx
  rcases hx with ⟨r, hr, rfl⟩ | ⟨f, hf, rfl⟩
  · exact List.all_eq_true.1 h0 r hr
  · exact near_wf (h1 f hf)
theorem draws_eq (rs : List S30) (fs : List S41) (h0 : rs.length ≤ 60) (h1 : fs.length ≤ 100) (h2 : rs.all wfR = true) (h3 : ∀ f ∈ fs, nearB f) :
    paint_Draws.f rs fs = some (if areB (drawsL rs fs) then ((drawsL rs fs).filter drawnB, 0) else ([], 170)) := by
  unfold paint_Draws.f
  rw [if_pos ⟨by omega, by omega, wfD_draws h2 h3⟩]
def keptL (fs : List S41) : List S39 := (fs.map mkF).filter drawnB
theorem keptL_len (fs : List S41) : (keptL fs).length ≤ fs.length := by
  have := List.length_filter_le drawnB (fs.map mkF)
  simpa [keptL] using this
theorem drawn_split (rs : List S30) (fs : List S41) : (drawsL rs fs).filter drawnB = rs.map mkR ++ keptL fs := by
  rw [drawsL, List.filter_append, keptL]
  congr 1
  rw [List.filter_eq_self]
  intro x hx
  simp only [List.mem_map] at hx
  obtain ⟨r, _, rfl⟩ := hx
  rfl
end Go.Proofs.YtkmddhljfjjglaaDoor.G
