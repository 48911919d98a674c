/- Chapter 18, plainly: the reference's print of draws; PaintDraws. Written by mkH9.py. -/
import Derived.Test.YtkmddhljfjjglaaDoorH8
import Derived.Test.YtkmddhljfjjglaaDoorK7
namespace Go.Proofs.YtkmddhljfjjglaaDoor.G
open Go.RowKit Go.Proofs.YtkmddhljfjjglaaDoorW.PrintWords Go.Proofs.YtkmddhljfjjglaaDoorW.PrintLast Go.Proofs.YtkmddhljfjjglaaDoorW.PrintMore

def numbsL (x : S39) : List UInt8 := 32 :: Lib.itoa x.f2.f0 ++ (32 :: Lib.itoa x.f2.f1 ++ (32 :: Lib.itoa x.f2.f2 ++ (32 :: Lib.itoa x.f2.f3 ++ [10])))
theorem lineL_eq (x : S39) : lineL x = wordL x ++ numbsL x := by
  simp [lineL, spL, numsL, numbsL]
theorem b32 : (⟨#[32]⟩ : ByteArray) = bstr [32] := rfl
theorem b10 : (⟨#[10]⟩ : ByteArray) = bstr [10] := rfl
theorem b110 : (⟨#[110, 111, 100, 101, 32]⟩ : ByteArray) = bstr [110, 111, 100, 101, 32] := rfl
theorem b114 : (⟨#[114, 117, 108, 101]⟩ : ByteArray) = bstr [114, 117, 108, 101] := rfl
theorem ref_line (L : List S39) (i : Nat) (hi : i < L.length) (hw : wfX L[i] = true) (k : Nat) (hk : 20 ≤ k) (acc : List UInt8) (ha : acc.length ≤ 100000) (hL : L.length ≤ 200) :
    gutterref18_Print.j1 (k + 1) L (bstr acc) i = gutterref18_Print.l0 k L (bstr (acc ++ numbsL L[i])) ((i + 1 : Nat) : Int) := by
  have hn := nums_wf hw
  have h0 := hn L[i].f2.f0 (by simp [numsL])
  have h1 := hn L[i].f2.f1 (by simp [numsL])
  have h2 := hn L[i].f2.f2 (by simp [numsL])
  have h3 := hn L[i].f2.f3 (by simp [numsL])
  have z0 := itoa_len h0
  have z1 := itoa_len h1
  have z2 := itoa_len h2
  have z3 := itoa_len h3
  rw [gutterref18_Print.j1, if_pos (by omega), if_pos (by omega), rd39 L i hi, i1w i (by omega)]
  unfold numbsL
  generalize L[i] = z at *
  rw [number_eq k hk _ h0, number_eq k hk _ h1, number_eq k hk _ h2, number_eq k hk _ h3]
  generalize Lib.itoa z.f2.f0 = t0 at *
  generalize Lib.itoa z.f2.f1 = t1 at *
  generalize Lib.itoa z.f2.f2 = t2 at *
  generalize Lib.itoa z.f2.f3 = t3 at *
  simp only [Option.bind_some, b32, b10, bstr_app, bstr_size]
  rw [if_pos (by omega), if_pos (by simp only [List.length_append, List.length_cons, List.length_nil]; omega), if_pos (by simp only [List.length_append, List.length_cons, List.length_nil]; omega), if_pos (by simp only [List.length_append, List.length_cons, List.length_nil]; omega), if_pos (by simp only [List.length_append, List.length_cons, List.length_nil]; omega), if_pos (by simp only [List.length_append, List.length_cons, List.length_nil]; omega), if_pos (by simp only [List.length_append, List.length_cons, List.length_nil]; omega), if_pos (by simp only [List.length_append, List.length_cons, List.length_nil]; omega), if_pos (by simp only [List.length_append, List.length_cons, List.length_nil]; omega)]
  simp [List.append_assoc]
theorem ref_print_loop (L : List S39) (hL : L.length ≤ 200) (hw : ∀ x ∈ L, wfX x = true) (d : Nat) : ∀ (k i : Nat), i ≤ L.length → L.length - i = d → 2 * d + 22 < k → gutterref18_Print.l0 k L (bstr (printL (L.take i))) i = some (bstr (printL L)) := by
  induction d with
  | zero =>
    intro k i hi hd hk
    obtain ⟨k, rfl⟩ : ∃ m, k = m + 1 := ⟨k - 1, by omega⟩
    obtain rfl : i = L.length := by omega
    rw [gutterref18_Print.l0, if_neg (by omega), List.take_length]
  | succ d ih =>
    intro k i hi hd hk
    obtain ⟨k, rfl⟩ : ∃ m, k = m + 2 := ⟨k - 2, by omega⟩
    have hlt : i < L.length := by omega
    have h := ih k (i + 1) (by omega) (by omega) (by omega)
    have hz := hw _ (List.getElem_mem hlt)
    have hz1 : r64B L[i].f1 = true := by
      have := hz
      simp only [wfX, Bool.and_eq_true] at this
      exact this.1
    have hp := printL_len (L.take i) (fun x hx => hw x (List.mem_of_mem_take hx))
    rw [List.length_take] at hp
    have hl := wordL_len hz
    rw [List.take_succ_eq_append_getElem hlt, printL_snoc, lineL_eq, ← List.append_assoc] at h
    rw [← h, ← ref_line L i hlt hz k (by omega) (printL (L.take i) ++ wordL L[i]) (by rw [List.length_append]; omega) hL]
    rw [gutterref18_Print.l0, if_pos (by omega), if_pos (by omega), rd39 L i hlt]
    generalize printL (L.take i) = acc at *
    unfold wordL at *
    cases hr : L[i].f0
    · rw [hr] at hl
      have z1 := itoa_len hz1
      rw [if_neg (by decide), bstr_size, if_pos (by omega), number_eq (k + 1) (by omega) _ hz1, Option.bind_some, b110, bstr_app, bstr_size, bstr_size, if_pos (by simp only [List.length_append, List.length_cons, List.length_nil]; omega), bstr_app, if_neg (by decide), List.append_assoc]
    · rw [if_pos rfl, bstr_size, if_pos (by omega), b114, bstr_app, if_pos rfl]
theorem ref_print (k : Nat) (hk : 500 ≤ k) (L : List S39) (hL : L.length ≤ 200) (hw : L.all wfX = true) : gutterref18_Print.f k L = paint_Print.f L := by
  unfold paint_Print.f gutterref18_Print.f
  rw [if_pos ⟨hL, hw⟩]
  exact ref_print_loop L hL (List.all_eq_true.1 hw) L.length k 0 (by omega) rfl (by omega)
theorem PaintDraws_f (l0 : List S30) (l1 : List S41) (l2 : List S39) (o : S30) (x y : Int) (h0 : l0.all wfR = true) (h2 : l2.all wfX = true) (ho : wfR o = true) : gutterlaw18_PaintDraws.f 2000 l0 l1 l2 o.f0 o.f1 o.f2 o.f3 x y = some true := by
  unfold gutterlaw18_PaintDraws.f
  rw [shown_ge (by omega), pieces_eq 2000 (by omega) l1]
  simp only [Option.bind_some]
  have hr : (l0.take 60).all wfR = true := all_take h0 60
  have hrl : (l0.take 60).length ≤ 60 := by rw [List.length_take]; omega
  have hfl := piecesL_len l1
  have hfw := piecesL_near l1
  have hLl : (l2.take 60).length ≤ 60 := by rw [List.length_take]; omega
  have hLx : (l2.take 60).all wfX = true := all_take h2 60
  generalize l0.take 60 = rs at *
  generalize piecesL l1 = fs at *
  generalize l2.take 60 = L at *
  have hLw : wfD L = true := wfX_D hLx
  have hfw' : ∀ f ∈ fs, wfR f.f3 = true := fun f hf => near_wf (hfw f hf)
  rw [draws_eq rs fs hrl hfl hr hfw, ref_draws 2000 (by omega) rs fs (by omega) (by omega) hr hfw', ref_hit 2000 (by omega) L x y (by omega) hLw, ref_seen 2000 (by omega) L o (by omega) hLw ho, ref_bounds 2000 (by omega) L (by omega) hLw, ref_print 2000 (by omega) L (by omega) hLx]
  have hh : paint_Hit.f L x y = some (hitP (hitL x y L)) := by
    unfold paint_Hit.f
    rw [if_pos (by omega)]
  have hdl : ((if areB (drawsL rs fs) then ((drawsL rs fs).filter drawnB, 0) else (([] : List S39), (170 : Int))).1).length ≤ 1000 := by
    split
    · have := List.length_filter_le drawnB (drawsL rs fs)
      rw [drawsL, List.length_append, List.length_map, List.length_map] at this
      exact Nat.le_trans this (by omega)
    · simp
  obtain ⟨D, hD⟩ : ∃ D : List S39 × Int, D = (if areB (drawsL rs fs) then ((drawsL rs fs).filter drawnB, 0) else (([] : List S39), (170 : Int))) := ⟨_, rfl⟩
  rw [← hD] at hdl ⊢
  obtain ⟨C, hC, hCl⟩ : ∃ C : List S39 × Int, paint_Seen.f L o.f0 o.f1 o.f2 o.f3 = some C ∧ C.1.length ≤ 1000 := by
    unfold paint_Seen.f
    rw [if_pos ⟨by omega, hLw⟩]
    refine ⟨_, rfl, ?_⟩
    split
    · exact Nat.le_trans (List.length_filter_le _ _) (by omega)
    · simp
  obtain ⟨⟨b0, b1, b2, b3, b4⟩, hB⟩ : ∃ B : Int × Int × Int × Int × Int, paint_Bounds.f L = some B := ⟨_, bounds_ok L (by omega) hLw⟩
  obtain ⟨S, hS⟩ : ∃ S : ByteArray, paint_Print.f L = some S := by
    unfold paint_Print.f
    rw [if_pos ⟨by omega, hLx⟩]
    exact ⟨_, rfl⟩
  obtain ⟨s, hs1, hs2⟩ := same_both 2000 (by omega) L D.1 (by omega)
  rw [hh, hC, hB, hS]
  simp only [Option.bind_some]
  rw [ref_same_self 2000 (by omega) D.1 hdl, ref_same_self 2000 (by omega) C.1 hCl, hs1, hs2, paint_same_self 2000 (by omega) L (by omega)]
  simp
theorem PaintDraws (A0 : Option Addr) (c0 : Nat) (l0 : List S30) (A1 : Option Addr) (c1 : Nat) (l1 : List S41) (A2 : Option Addr) (c2 : Nat) (l2 : List S39) (s0 s1 s2 s3 : Int) (x y : Int) (w : World) (hr0 : Kd.C k30 w A0 l0.length l0) (hc0 : l0.length ≤ c0) (hr1 : Kd.C k41 w A1 l1.length l1) (hc1 : l1.length ≤ c1) (hr2 : Kd.C k39 w A2 l2.length l2) (hc2 : l2.length ≤ c2)
    (h0 : l0.all wfR = true) (_ : l1.all wfF = true) (h2 : l2.all wfX = true) (ho : wfR ⟨s0, s1, s2, s3⟩ = true) (_ : (Lit.int .i64 x).wf = true) (_ : (Lit.int .i64 y).wf = true) (hG : GOK w) :
    Calls Tryd.prog 7 #[.slice A0 l0.length c0, .slice A1 l1.length c1, .slice A2 l2.length c2, .agg #[.int .i64 s0, .int .i64 s1, .int .i64 s2, .int .i64 s3], .int .i64 x, .int .i64 y] w fun e w' => e = .returned (.bool true) ∧ Below w.heap.size w w' :=
  gutterlaw18_PaintDraws.calls 2000 A0 c0 l0 A1 c1 l1 A2 c2 l2 s0 s1 s2 s3 x y w hr0 hc0 hr1 hc1 hr2 hc2 (PaintDraws_f l0 l1 l2 ⟨s0, s1, s2, s3⟩ x y h0 h2 ho) hG
end Go.Proofs.YtkmddhljfjjglaaDoor.G
