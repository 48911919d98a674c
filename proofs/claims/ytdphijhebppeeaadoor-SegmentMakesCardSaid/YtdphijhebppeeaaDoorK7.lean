/- YtdphijhebppeeaaDoorY3, YtdphijhebppeeaaDoorK7: texts of ours, one behind the other. Put together by merge.py. -/
import Derived.Test.YtdphijhebppeeaaDoorG10
import Derived.Test.YtdphijhebppeeaaDoorY2
import Derived.Test.YtdphijhebppeeaaDoorY2
/- Chapter 16: what the reference's Segs answers: the segments. Written by tmpl.py out of Y3.tl. -/
namespace Go.Proofs.YtdphijhebppeeaaDoor.G
open Go Go.RowKit Go.Proofs.YtdphijhebppeeaaDoorW.PrintWords
def opnL (l : List S40) : Bool := decide (0 < l.length) && !(l.getD (l.length - 1) z40).f0
theorem getD_last (l : List S40) (x : S40) : (l ++ [x]).getD l.length z40 = x := by
 rw [List.getD_eq_getElem?_getD, List.getElem?_append_right (Nat.le_refl _)]; simp
theorem opn_snoc (l : List S40) (x : S40) : opnL (l ++ [x]) = !x.f0 := by
 unfold opnL
 rw [List.length_append, List.length_singleton, decide_eq_true (by omega), Bool.true_and, Nat.add_sub_cancel, getD_last]
theorem joinL_span (l : List S40) (k : Int) : joinL l true k = l ++ [⟨true, [k]⟩] := by
 unfold joinL joinAt
 rw [if_neg (by simp)]
theorem rd_last (l : List S40) (n : Nat) : rd_T40 l (n : Int) = l.getD n z40 := by unfold rd_T40; rw [Int.toNat_natCast]
theorem joinL_shut {l : List S40} (k : Int) (h : opnL l = false) : joinL l false k = l ++ [⟨false, [k]⟩] := by
 unfold joinL joinAt
 rw [rd_last]
 unfold opnL at h
 rw [Bool.not_false, Bool.true_and, h, if_neg (by decide)]
theorem joinL_open {l : List S40} (k : Int) (h : opnL l = true) : joinL l false k = l.set (l.length - 1) ⟨(l.getD (l.length - 1) z40).f0, (l.getD (l.length - 1) z40).f1 ++ [k]⟩ := by
 unfold joinL joinAt
 rw [rd_last]
 unfold opnL at h
 rw [Bool.not_false, Bool.true_and, h, if_pos rfl]
theorem opn_set {l : List S40} (q : List Int) (h : opnL l = true) : opnL (l.set (l.length - 1) ⟨(l.getD (l.length - 1) z40).f0, q⟩) = true := by
 unfold opnL at h ⊢
 rw [Bool.and_eq_true] at h
 have h0 := of_decide_eq_true h.1
 rw [List.length_set, h.1, Bool.true_and, List.getD_eq_getElem?_getD, List.getElem?_set_self (by omega)]
 exact h.2
theorem rsegs_l {t : List Node} (hlen : t.length ≤ 200) (L : List Int) (hL : L.length ≤ 200) (hm : ∀ x ∈ L, ∃ m : Nat, x = m ∧ m < t.length) : ∀ (k i : Nat), i ≤ L.length → L.length < k + i →
  gutterref16_Segs.l0 k t L (segsL t (L.take i)) (opnL (segsL t (L.take i))) i = some (segsL t L, 0)
 | 0, i, h1, h2 => by omega
 | k + 1, i, h1, h2 => by
  rw [gutterref16_Segs.l0]
  by_cases hi : i < L.length
  ·
   have e : wrap64 ((i : Int) + 1) = ((i + 1 : Nat) : Int) := by rw [i64_in (by omega) (by omega)]; omega
   obtain ⟨m, hme, hml⟩ := hm L[i] (List.getElem_mem _)
   have hr : rd L (i : Int) = m := by rw [← hme]; simp [rd, List.getElem?_eq_getElem hi]
   have htk : L.take (i + 1) = L.take i ++ [(m : Int)] := by rw [List.take_add_one, List.getElem?_eq_getElem hi, hme]; rfl
   have ih := rsegs_l hlen L hL hm k (i + 1) (by omega) (by omega)
   have hsp : (rd_T31 t (m : Int)).f5.f11 = spanP t m := by unfold rd_T31 spanP; rw [Int.toNat_natCast]
   rw [htk, segsL_snoc, Int.toNat_natCast] at ih
   obtain ⟨b1, b2⟩ := segsL_bound t (L.take i)
   have hlt3 : (L.take i).length ≤ 200 := by rw [List.length_take]; omega
   rw [if_pos (by omega), if_pos (by omega), hr, if_pos (by omega), if_pos (by omega), hsp, e]
   generalize segsL t (L.take i) = g at *
   have hgl : g.length ≤ 200 := by omega
   have hge : ∀ n, n < g.length → (g.getD n z40).f1.length ≤ 200 := fun n hn => Nat.le_trans (b2 _ (by rw [List.getD_eq_getElem?_getD, List.getElem?_eq_getElem hn]; exact List.getElem_mem _)) hlt3
   cases hs : spanP t m with
   | true =>
    rw [hs, joinL_span, opn_snoc] at ih
    rw [if_pos rfl, if_pos (by omega)]
    exact ih
   | false =>
    rw [hs] at ih
    rw [if_neg (by decide)]
    cases ho : opnL g with
    | true =>
     have hp : 0 < g.length := by
      unfold opnL at ho
      rw [Bool.and_eq_true] at ho
      exact of_decide_eq_true ho.1
     have ew : wrap64 ((g.length : Int) - 1) = ((g.length - 1 : Nat) : Int) := by rw [i64_in (by omega) (by omega)]; omega
     rw [joinL_open _ ho, opn_set _ ho] at ih
     have := hge (g.length - 1) (by omega)
     rw [if_pos rfl, ew, rd_last, if_pos (by omega), if_pos (by omega), if_pos (by omega), Int.toNat_natCast]
     exact ih
    | false =>
     rw [joinL_shut _ ho, opn_snoc] at ih
     rw [if_neg (by decide), if_pos (by omega), Option.bind_some]
     have ew : wrap64 (((g ++ [(⟨false, []⟩ : S40)]).length : Int) - 1) = ((g.length : Nat) : Int) := by rw [List.length_append, List.length_singleton, i64_in (by omega) (by omega)]; omega
     have hl2 : (g ++ [(⟨false, []⟩ : S40)]).length = g.length + 1 := by rw [List.length_append, List.length_singleton]
     rw [ew, rd_last, getD_last, if_pos (by omega), if_pos (by omega), if_pos (by simp), Int.toNat_natCast]
     rw [show (g ++ [(⟨false, []⟩ : S40)]).set g.length ⟨false, [] ++ [(m : Int)]⟩ = g ++ [⟨false, [(m : Int)]⟩] from by rw [List.set_append_right _ _ (Nat.le_refl _), Nat.sub_self]; rfl]
     exact ih
  ·
   rw [if_neg (by omega), List.take_of_length_le (by omega)]
theorem rsegs_f {t : List Node} (n : Int) : gutterref16_Segs.f 1000 t n = segment_Segs.f t n := by
 unfold gutterref16_Segs.f segment_Segs.f
 cases hop : openT t with
 | some p =>
  obtain ⟨a, i⟩ := p
  have hc : gutterref05_Check.f t = some ((a : Int), 50 + (i : Int)) := by unfold gutterref05_Check.f tree_Check.f; rw [hop]
  have hE : segE t n = 50 + (i : Int) := by unfold segE; rw [hop]
  have hS : segsE t n = 50 + (i : Int) := by unfold segsE; rw [if_pos (by rw [hE]; omega), hE]
  rw [hc, Option.bind_some, hS, if_neg (by simp only; omega), if_pos (by omega)]
 | none =>
  obtain ⟨h1, h2, _⟩ := open_none hop
  have hc : gutterref05_Check.f t = some (0, 0) := by unfold gutterref05_Check.f tree_Check.f; rw [hop]
  have hE : segE t n = if n < 0 ∨ (t.length : Int) ≤ n then 150 else 0 := by unfold segE; rw [hop]
  rw [hc, Option.bind_some, if_pos rfl]
  have hj : gutterref16_Segs.j0 1000 t n true = some ([], 150) := by rw [gutterref16_Segs.j0, if_pos rfl]
  by_cases hr : n < 0 ∨ (t.length : Int) ≤ n
  ·
   rw [if_pos hr] at hE
   have hS : segsE t n = 150 := by unfold segsE; rw [if_pos (by rw [hE]; decide), hE]
   have hq : (if (150 : Int) ≠ 0 then some (([] : List S40), (150 : Int)) else some (segsL t (kidsL t t.length n), 0)) = some ([], 150) := if_pos (by decide)
   rw [hS, hq]
   by_cases hn : n < 0
   ·
    rw [if_pos hn, hj]
   ·
    rw [if_neg hn, if_pos (by omega), hj]
  ·
   rw [if_neg hr] at hE
   obtain ⟨a, rfl⟩ : ∃ a : Nat, n = a := ⟨n.toNat, by omega⟩
   have hrd : rd_T31 t (a : Int) = t.getD a zN := by unfold rd_T31; rw [Int.toNat_natCast]
   rw [if_neg (by omega), if_neg (by omega), if_pos (by omega), if_pos (by omega), hrd]
   have hS : segsE t (a : Int) = if (t.getD a zN).f1 = 4 then 0 else 150 := by unfold segsE; rw [if_neg (by rw [hE]; simp), Int.toNat_natCast]
   by_cases h4 : (t.getD a zN).f1 = 4
   ·
    rw [if_pos h4] at hS
    rw [hS, if_neg (by simp), h4, show ((4 : Int) != 4) = false from rfl, gutterref16_Segs.j0, if_neg (by decide), kids_f16 hop (by omega), Option.bind_some]
    have := rsegs_l h2 (kidsL t t.length a) (Nat.le_trans (kidsL_len _ _ _) h2) (fun x hx => by
     obtain ⟨m, rfl, _, h5, _⟩ := kidsL_mem hx
     exact ⟨m, rfl, h5⟩) 999 0 (Nat.zero_le _) (by have := kidsL_len t t.length (a : Int); omega)
    exact this
   ·
    rw [if_neg h4] at hS
    have h4b : ((t.getD a zN).f1 != 4) = true := by rw [bne_iff_ne]; exact h4
    rw [hS, h4b, hj, if_pos (by decide)]
end Go.Proofs.YtdphijhebppeeaaDoor.G
/- Chapter 16: segments, all that have columns, hosts, spanners. The law is walked by hand. Written by tmpl.py out of K7.tl. -/
namespace Go.Proofs.YtdphijhebppeeaaDoor.G
open Go Go.RowKit Go.Shelf Go.Maps Go.Proofs.YtdphijhebppeeaaDoorW.PrintWords Go.Proofs.YtdphijhebppeeaaDoorW.PrintLast Go.Proofs.YtdphijhebppeeaaDoorW.PrintMore
attribute [local irreducible] cN
theorem refs_any (t : List Node) (n : Int) : ∃ a e c g i ok j m is o, segment_Segs.f t n = some (a, e) ∧ a.length ≤ 200 ∧ (∀ x ∈ a, x.f1.length ≤ 200) ∧ segment_Multis.f t = some (c, g) ∧ gutterref16_Multis.f t = some (c, g) ∧ c.length ≤ 200 ∧ segment_Host.f t n = some (i, ok, j) ∧ segment_Spanner.f t n = some (m, is, o) := by
 have h1 : ∃ a e, segment_Segs.f t n = some (a, e) ∧ a.length ≤ 200 ∧ ∀ x ∈ a, x.f1.length ≤ 200 := by
  unfold segment_Segs.f
  by_cases hE : segsE t n = 0
  ·
   rw [if_neg (by rw [hE]; simp)]
   have hE1 : segE t n = 0 := by
    unfold segsE at hE
    by_cases h0 : segE t n = 0
    ·
     exact h0
    ·
     rw [if_pos h0] at hE; exact absurd hE h0
   obtain ⟨hop, _, _⟩ := segE_zero hE1
   have h2 := (open_none hop).2.1
   have hk := kidsL_len t t.length n
   obtain ⟨b1, b2⟩ := segsL_bound t (kidsL t t.length n)
   exact ⟨_, _, rfl, by omega, fun x hx => Nat.le_trans (b2 x hx) (by omega)⟩
  ·
   rw [if_pos hE]
   exact ⟨_, _, rfl, by simp, fun x hx => by cases hx⟩
 have h2 : ∃ c g, segment_Multis.f t = some (c, g) ∧ gutterref16_Multis.f t = some (c, g) ∧ c.length ≤ 200 := by
  cases hop : openT t with
  | some p =>
   obtain ⟨a, i⟩ := p
   have hoe : openE t = 50 + (i : Int) := by unfold openE; rw [hop]
   refine ⟨[], openE t, ?_, ?_, by simp⟩
   ·
    unfold segment_Multis.f; rw [if_pos (by rw [hoe]; omega)]
   ·
    unfold gutterref16_Multis.f; rw [if_pos (by rw [hoe]; omega)]
  | none =>
   obtain ⟨h1, h2, _⟩ := open_none hop
   have hT := open_OKT hop
   have hoe : openE t = 0 := by unfold openE; rw [hop]
   have hbl : (belowL t (0 : Int)).length ≤ t.length := below_len hT (n := 0) (by omega)
   refine ⟨postL t 0, 0, ?_, ?_, Nat.le_trans (post_len2 hT (n := 0) (by omega)) h2⟩
   ·
    unfold segment_Multis.f
    rw [hoe, if_neg (by simp), if_pos (by omega), multis_post hT (by omega)]
   ·
    unfold gutterref16_Multis.f
    rw [hoe, if_neg (by simp)]
 have h3 : ∃ i ok j, segment_Host.f t n = some (i, ok, j) := by
  unfold segment_Host.f
  split
  ·
   exact ⟨_, _, _, rfl⟩
  ·
   split <;> exact ⟨_, _, _, rfl⟩
 have h4 : ∃ i ok j, segment_Spanner.f t n = some (i, ok, j) := by
  unfold segment_Spanner.f
  split
  ·
   exact ⟨_, _, _, rfl⟩
  ·
   split <;> exact ⟨_, _, _, rfl⟩
 obtain ⟨a, e, x1, x2, x3⟩ := h1
 obtain ⟨c, g, y1, y2, y3⟩ := h2
 obtain ⟨i, ok, j, z1⟩ := h3
 obtain ⟨m, is, o, z2⟩ := h4
 exact ⟨a, e, c, g, i, ok, j, m, is, o, x1, x2, x3, y1, y2, y3, z1, z2⟩
theorem eqSegs_refl7 (l : List S40) : eqSegs l l = true := by
 unfold eqSegs
 rw [decide_eq_true rfl, Bool.true_and]
 exact List.all_eq_true.2 fun j _ => by unfold eqSeg; simp
set_option maxRecDepth 100000 in
set_option maxHeartbeats 4000000 in
theorem makes_any (A0 : Option Addr) (c0 : Nat) (l0 : List (S31)) (a1 : Int) (w : World) (hr0 : Kd.C k31 w A0 l0.length l0) (hc0 : l0.length ≤ c0) (hG : GOK w) :
  Calls Tryd.prog 7 #[.slice A0 l0.length c0, .int .i64 a1] w fun e w' => e = .returned (.bool true) ∧ Below w.heap.size w w' := by
 have HG := Aside0.mk hG
 have H0 := Aside0.mk hr0
 have HF0 := Aside0.mk (show gutterlaw05_Few.f l0 = some (fewL l0) from rfl)
 obtain ⟨t, ht⟩ : ∃ t, fewL l0 = t := ⟨_, rfl⟩
 rw [ht] at HF0
 clear ht hG hr0
 have HB := Aside0.mk (Below.refl w.heap.size w)
 obtain ⟨a, e, c, g, i, ok, j, m, is, o, x1, x2, x3, y1, y2, y3, z1, z2⟩ := refs_any t a1
 have X1 := Aside0.mk x1
 have X2 := Aside0.mk ((rsegs_f (t := t) a1).trans x1)
 have Y1 := Aside0.mk y1
 have Y2 := Aside0.mk y2
 have Z1 := Aside0.mk z1
 have Z2 := Aside0.mk z2
 have HS := Aside0.mk (show gutterref16_Same.f 1000 a a = some true by rw [same_f a a 200 1000 (by omega) x3 (by omega) (by omega), eqSegs_refl7])
 have HI := Aside0.mk (show gutterref05_Ints.f 1000 c c = some true by rw [ints_f c c 1000 (by omega) (by omega)]; simp)
 clear x1 x2 x3 y1 y2 y3 z1 z2
 go_enter Tryd.func7, Tryd.ntmps7
 go_upto_region 2 with (first | (go_at_call 9; refine (gutterlaw16_shown.calls 10 true _ (shown_f 10 (Nat.le_refl _)) HG.out).mono ?_; rintro e_ w1 ⟨rfl, hb⟩; replace HG := Aside0.mk (GOK.below HG.out hb); replace H0 := Aside0.mk (Kd.C_below H0.out hb); replace HB := Aside0.mk (below_then HB.out HB.out.size hb); clear hb))
 go_upto_region 3 with (first | (go_at_call 10; refine (gutterlaw05_Few.calls A0 c0 l0 t _ H0.out hc0 HF0.out).mono ?_; rintro e_ w2 ⟨v, rfl, ho, hb⟩; replace HG := Aside0.mk (GOK.below HG.out hb); replace HB := Aside0.mk (below_then HB.out HB.out.size hb); obtain ⟨At, ct, rfl⟩ := Kd.R_slice ho; have qt := (Kd.R_reads' ho).2.1; have Ht := Aside0.mk (Kd.R_reads' ho).2.2; clear ho hb))
 go_upto_region 4 with (first | (go_at_call 13; refine (segment_Segs.calls At ct t a1 a e _ Ht.out qt X1.out HG.out).mono ?_; rintro e_ w3 ⟨v, rfl, ho, hb⟩; replace HG := Aside0.mk (GOK.below HG.out hb); replace Ht := Aside0.mk (Kd.C_below Ht.out hb); replace HB := Aside0.mk (below_then HB.out HB.out.size hb); obtain ⟨Ag, cg, rfl⟩ := Kd.S_slice ho; have qa := Aside0.mk (Kd.S_reads' ho).2.1; have Ha := Aside0.mk (Kd.S_reads' ho).2.2; clear ho hb))
 go_upto_region 5 with (first | (go_at_call 21; refine (gutterref16_Segs.calls 1000 At ct t a1 a e _ Ht.out qt X2.out).mono ?_; rintro e_ w4 ⟨v, rfl, ho, hb⟩; replace HG := Aside0.mk (GOK.below HG.out hb); replace Ht := Aside0.mk (Kd.C_below Ht.out hb); replace Ha := Aside0.mk (Kd.C_below Ha.out hb); replace HB := Aside0.mk (below_then HB.out HB.out.size hb); obtain ⟨Ah, ch, rfl⟩ := Kd.S_slice ho; have qb := Aside0.mk (Kd.S_reads' ho).2.1; have Hb := Aside0.mk (Kd.S_reads' ho).2.2; clear ho hb))
 go_upto_region 6 with (first | (go_at_call 22; refine (segment_Multis.calls At ct t c g _ Ht.out qt Y1.out HG.out).mono ?_; rintro e_ w5 ⟨v, rfl, ho, hb⟩; replace HG := Aside0.mk (GOK.below HG.out hb); replace Ht := Aside0.mk (Kd.C_below Ht.out hb); replace Ha := Aside0.mk (Kd.C_below Ha.out hb); replace Hb := Aside0.mk (Kd.C_below Hb.out hb); replace HB := Aside0.mk (below_then HB.out HB.out.size hb); obtain ⟨Am, cm, rfl⟩ := Kd.R_slice ho; have qc := Aside0.mk (Kd.R_reads' ho).2.1; have Hc := Aside0.mk (Kd.R_reads' ho).2.2; clear ho hb))
 go_upto_region 7 with (first | (go_at_call 23; refine (gutterref16_Multis.calls At ct t c g _ Ht.out qt Y2.out).mono ?_; rintro e_ w6 ⟨v, rfl, ho, hb⟩; replace HG := Aside0.mk (GOK.below HG.out hb); replace Ht := Aside0.mk (Kd.C_below Ht.out hb); replace Ha := Aside0.mk (Kd.C_below Ha.out hb); replace Hb := Aside0.mk (Kd.C_below Hb.out hb); replace Hc := Aside0.mk (Kd.C_below Hc.out hb); replace HB := Aside0.mk (below_then HB.out HB.out.size hb); obtain ⟨An, cn, rfl⟩ := Kd.R_slice ho; have qd := Aside0.mk (Kd.R_reads' ho).2.1; have Hd := Aside0.mk (Kd.R_reads' ho).2.2; clear ho hb))
 go_upto_region 8 with (first | (go_at_call 11; refine (segment_Host.calls At ct t a1 i ok j _ Ht.out qt Z1.out HG.out).mono ?_; rintro e_ w7 ⟨rfl, hb⟩; replace HG := Aside0.mk (GOK.below HG.out hb); replace Ht := Aside0.mk (Kd.C_below Ht.out hb); replace Ha := Aside0.mk (Kd.C_below Ha.out hb); replace Hb := Aside0.mk (Kd.C_below Hb.out hb); replace Hc := Aside0.mk (Kd.C_below Hc.out hb); replace Hd := Aside0.mk (Kd.C_below Hd.out hb); replace HB := Aside0.mk (below_then HB.out HB.out.size hb); clear hb))
 go_upto_region 9 with (first | (go_at_call 24; refine (rhost_any t At ct a1 i ok j _ Ht.out qt Z1.out).mono ?_; rintro e_ w8 ⟨rfl, hb⟩; replace HG := Aside0.mk (GOK.below HG.out hb); replace Ht := Aside0.mk (Kd.C_below Ht.out hb); replace Ha := Aside0.mk (Kd.C_below Ha.out hb); replace Hb := Aside0.mk (Kd.C_below Hb.out hb); replace Hc := Aside0.mk (Kd.C_below Hc.out hb); replace Hd := Aside0.mk (Kd.C_below Hd.out hb); replace HB := Aside0.mk (below_then HB.out HB.out.size hb); clear hb))
 go_upto_region 10 with (first | (go_at_call 12; refine (segment_Spanner.calls At ct t a1 m is o _ Ht.out qt Z2.out HG.out).mono ?_; rintro e_ w9 ⟨rfl, hb⟩; replace Ht := Aside0.mk (Kd.C_below Ht.out hb); replace Ha := Aside0.mk (Kd.C_below Ha.out hb); replace Hb := Aside0.mk (Kd.C_below Hb.out hb); replace Hc := Aside0.mk (Kd.C_below Hc.out hb); replace Hd := Aside0.mk (Kd.C_below Hd.out hb); replace HB := Aside0.mk (below_then HB.out HB.out.size hb); clear hb))
 go_upto_region 11 with (first | (go_at_call 25; refine (rspanner_any t At ct a1 m is o _ Ht.out qt Z2.out).mono ?_; rintro e_ w10 ⟨rfl, hb⟩; replace Ha := Aside0.mk (Kd.C_below Ha.out hb); replace Hb := Aside0.mk (Kd.C_below Hb.out hb); replace Hc := Aside0.mk (Kd.C_below Hc.out hb); replace Hd := Aside0.mk (Kd.C_below Hd.out hb); replace HB := Aside0.mk (below_then HB.out HB.out.size hb); clear hb))
 have eok : (ok == ok) = true := by simp
 have eis : (is == is) = true := by simp
 go_wp2_with (first | (go_at_call 20; refine (gutterref16_Same.calls 1000 Ag cg a Ah ch a true _ Ha.out qa.out Hb.out qb.out HS.out).mono ?_; rintro e_ w11 ⟨rfl, hd⟩; have hb := hd.below; replace Hc := Aside0.mk (Kd.C_below Hc.out hb); replace Hd := Aside0.mk (Kd.C_below Hd.out hb); replace HB := Aside0.mk (below_then HB.out HB.out.size hb); clear hd hb) | (go_at_call 15; refine (gutterref05_Ints.calls 1000 Am cm c An cn c true _ Hc.out qc.out Hd.out qd.out HI.out).mono ?_; rintro e_ w12 ⟨rfl, hd⟩; have hb := hd.below; replace HB := Aside0.mk (below_then HB.out HB.out.size hb); clear hd hb))
 go_ret
 exact ⟨rfl, HB.out⟩
def gutterlaw16_SegmentMakes.f (_ : Nat) (_ : List (S31)) (_ : Int) : Option Bool := some true
theorem gutterlaw16_SegmentMakes.calls (k : Nat) (A0 : Option Addr) (c0 : Nat) (l0 : List (S31)) (a1 : Int) (r : Bool) (w : World) (hr0 : Kd.C k31 w A0 l0.length l0) (hc0 : l0.length ≤ c0) (h : gutterlaw16_SegmentMakes.f k l0 a1 = some r) (hG : GOK w) :
  Calls Tryd.prog 7 #[.slice A0 l0.length c0, .int .i64 a1] w fun e w' => e = .returned (.bool r) ∧ Below w.heap.size w w' := by
 obtain rfl := Option.some.inj h
 exact makes_any A0 c0 l0 a1 w hr0 hc0 hG
theorem SegmentMakes (l0 : List Node) (a1 : Int) (_ : l0.all wfN = true) (_ : (Lit.int .i64 a1).wf = true) : ∃ k, gutterlaw16_SegmentMakes.f k l0 a1 = some true := ⟨0, rfl⟩
end Go.Proofs.YtdphijhebppeeaaDoor.G
