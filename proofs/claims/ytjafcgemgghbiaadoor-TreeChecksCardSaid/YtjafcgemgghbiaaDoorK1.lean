/- Chapter 5: TreeChecks, walked by hand. Written by mkK1.py, tmpl.py. -/
import Derived.Test.YtjafcgemgghbiaaDoorF27
import Derived.Test.YtjafcgemgghbiaaDoorJ5
namespace Go.Proofs.YtjafcgemgghbiaaDoor.G
open Go Go.RowKit Go.Shelf Go.Maps Go.Proofs.YtjafcgemgghbiaaDoorW.PrintWords Go.Proofs.YtjafcgemgghbiaaDoorW.PrintLast Go.Proofs.YtjafcgemgghbiaaDoorW.PrintMore
attribute [local irreducible] cN
theorem eqN_refl (x : Node) : eqN x x = true := by simp [eqN]
theorem sameB_refl (t : List Node) : sameB t t = true := same_true rfl fun _ _ => eqN_refl _
theorem below_tot (t : List Node) (n : Int) : ∃ L e, tree_Below.f t n = some (L, e) ∧ L.length ≤ 1000 := by
  rcases err_cases t n with he | ⟨ho, h0, h1, he⟩
  · exact ⟨[], errN t n, by unfold tree_Below.f; rw [if_pos he], by simp⟩
  · obtain ⟨m, rfl⟩ : ∃ m : Nat, n = m := ⟨n.toNat, by omega⟩
    have := below_len (open_OKT ho) (n := m) (by omega)
    have h2 := (open_none ho).2.1
    exact ⟨_, _, below_f ho (by omega), by omega⟩
theorem kids_tot (t : List Node) (ht : t.length ≤ 1000) (n : Int) : ∃ L e, tree_Kids.f t n = some (L, e) ∧ L.length ≤ 1000 := by
  unfold tree_Kids.f
  split
  · exact ⟨[], _, rfl, by simp⟩
  · exact ⟨_, _, rfl, Nat.le_trans (kidsL_len _ _ _) ht⟩
theorem deep_tot (t : List Node) (n : Int) : ∃ d e, tree_Deep.f t n = some (d, e) := by
  unfold tree_Deep.f
  split
  · exact ⟨_, _, rfl⟩
  · exact ⟨_, _, rfl⟩
theorem check_tot (t : List Node) : ∃ n e, tree_Check.f t = some (n, e) := ⟨_, _, rfl⟩
theorem few_len (l : List Node) : (fewL l).length ≤ 80 := by
  rw [fewL, List.length_map]
  exact Nat.le_trans (by rw [List.length_take]; exact Nat.min_le_left _ _) (Nat.le_refl _)
set_option maxRecDepth 1000000 in
set_option maxHeartbeats 8000000 in
theorem checks_any (A0 : Option Addr) (c0 : Nat) (l0 : List (S32)) (a1 : Int) (A2 : Option Addr) (c2 : Nat) (l2 : List (S32)) (w : World) (hr0 : Kd.C k32 w A0 l0.length l0) (hc0 : l0.length ≤ c0) (hr2 : Kd.C k32 w A2 l2.length l2) (hc2 : l2.length ≤ c2) (hG : GOK w) :
    Calls Tryd.prog 9 #[.slice A0 l0.length c0, .int .i64 a1, .slice A2 l2.length c2] w fun e w' => e = .returned (.bool true) ∧ Below w.heap.size w w' := by
  have HG := Aside0.mk hG
  have H0 := Aside0.mk hr0
  have H2 := Aside0.mk hr2
  have hft := few_len l0
  have HF0 := Aside0.mk (show gutterlaw05_Few.f l0 = some (fewL l0) from rfl)
  have HF2 := Aside0.mk (show gutterlaw05_Few.f l2 = some (fewL l2) from rfl)
  obtain ⟨t, ht⟩ : ∃ t, fewL l0 = t := ⟨_, rfl⟩
  obtain ⟨u, hu⟩ : ∃ u, fewL l2 = u := ⟨_, rfl⟩
  rw [ht] at HF0 hft
  rw [hu] at HF2
  clear ht hu hG hr0 hr2
  obtain ⟨x1, e1, E1⟩ := check_tot t
  obtain ⟨L2, e2, E2, hl2⟩ := kids_tot t (by omega) a1
  obtain ⟨L3, e3, E3, hl3⟩ := below_tot t 0
  obtain ⟨x4, e4, E4⟩ := deep_tot t a1
  obtain ⟨L5, e5, E5, hl5⟩ := below_tot t a1
  have F1 := Aside0.mk (show gutterref05_Check.f t = some (x1, e1) from E1)
  have F2 := Aside0.mk (show gutterref05_Kids.f t a1 = some (L2, e2) from E2)
  have F3 := Aside0.mk (show gutterref05_Order.f t = some (L3, e3) from E3)
  have F4 := Aside0.mk (show gutterref05_Deep.f t a1 = some (x4, e4) from E4)
  have F5 := Aside0.mk (show gutterref05_Below.f t a1 = some (L5, e5) from E5)
  have G3 := Aside0.mk (show tree_Order.f t = some (L3, e3) from E3)
  replace E1 := Aside0.mk E1
  replace E2 := Aside0.mk E2
  replace E4 := Aside0.mk E4
  replace E5 := Aside0.mk E5
  clear E3
  have I2 := Aside0.mk (show gutterref05_Ints.f 1001 L2 L2 = some true by rw [ints_f L2 L2 1001 (by omega) (by omega)]; simp)
  have I3 := Aside0.mk (show gutterref05_Ints.f 1001 L3 L3 = some true by rw [ints_f L3 L3 1001 (by omega) (by omega)]; simp)
  have I5 := Aside0.mk (show gutterref05_Ints.f 1001 L5 L5 = some true by rw [ints_f L5 L5 1001 (by omega) (by omega)]; simp)
  obtain ⟨s, hs⟩ : ∃ s, sameB t u = s := ⟨_, rfl⟩
  have HS := Aside0.mk hs
  have HT := Aside0.mk (sameB_refl t)
  have hft2 : t.length ≤ 1000 := by omega
  clear hs hl2 hl3 hl5
  have HB := Aside0.mk (Below.refl w.heap.size w)
  go_enter Tryd.func9, Tryd.ntmps9
  go_upto_region 2 with (first | (go_at_call 10; refine (gutterlaw05_shown.calls 5 true _ (shown_f 5 (Nat.le_refl _)) HG.out).mono ?_; rintro e w1 ⟨rfl, hb⟩; replace HG := Aside0.mk (GOK.below HG.out hb); replace H0 := Aside0.mk (Kd.C_below H0.out hb); replace H2 := Aside0.mk (Kd.C_below H2.out hb); replace HB := Aside0.mk (below_then HB.out HB.out.size hb); clear hb))
  go_upto_region 3 with (first | (go_at_call 11; refine (gutterlaw05_Few.calls A0 c0 l0 t _ H0.out hc0 HF0.out).mono ?_; rintro e w2 ⟨v, rfl, ho, hb⟩; replace HG := Aside0.mk (GOK.below HG.out hb); replace H0 := Aside0.mk (Kd.C_below H0.out hb); replace H2 := Aside0.mk (Kd.C_below H2.out hb); replace HB := Aside0.mk (below_then HB.out HB.out.size hb); obtain ⟨A10, c10, rfl⟩ := Kd.R_slice ho; have q10 := (Kd.R_reads' ho).2.1; have Ht := Aside0.mk (Kd.R_reads' ho).2.2; clear ho; clear hb))
  go_upto_region 4 with (first | (go_at_call 11; refine (gutterlaw05_Few.calls A2 c2 l2 u _ H2.out hc2 HF2.out).mono ?_; rintro e w3 ⟨v, rfl, ho, hb⟩; replace HG := Aside0.mk (GOK.below HG.out hb); replace H2 := Aside0.mk (Kd.C_below H2.out hb); replace Ht := Aside0.mk (Kd.C_below Ht.out hb); replace HB := Aside0.mk (below_then HB.out HB.out.size hb); obtain ⟨A11, c11, rfl⟩ := Kd.R_slice ho; have q11 := (Kd.R_reads' ho).2.1; have Hu := Aside0.mk (Kd.R_reads' ho).2.2; clear ho; clear hb))
  go_upto_region 5 with (first | (go_at_call 18; refine (tree_Check.calls A10 c10 t x1 e1 _ Ht.out q10 E1.out HG.out).mono ?_; rintro e w4 ⟨rfl, hb⟩; replace HG := Aside0.mk (GOK.below HG.out hb); replace Ht := Aside0.mk (Kd.C_below Ht.out hb); replace Hu := Aside0.mk (Kd.C_below Hu.out hb); replace HB := Aside0.mk (below_then HB.out HB.out.size hb); clear hb))
  go_upto_region 6 with (first | (go_at_call 20; refine (gutterref05_Check.calls A10 c10 t x1 e1 _ Ht.out q10 F1.out).mono ?_; rintro e w5 ⟨rfl, hb⟩; replace HG := Aside0.mk (GOK.below HG.out hb); replace Ht := Aside0.mk (Kd.C_below Ht.out hb); replace Hu := Aside0.mk (Kd.C_below Hu.out hb); replace HB := Aside0.mk (below_then HB.out HB.out.size hb); clear hb))
  go_upto_region 7 with (first | (go_at_call 14; refine (tree_Kids.calls A10 c10 t a1 L2 e2 _ Ht.out q10 E2.out HG.out).mono ?_; rintro e w6 ⟨v, rfl, ho, hb⟩; replace HG := Aside0.mk (GOK.below HG.out hb); replace Ht := Aside0.mk (Kd.C_below Ht.out hb); replace Hu := Aside0.mk (Kd.C_below Hu.out hb); replace HB := Aside0.mk (below_then HB.out HB.out.size hb); obtain ⟨A12, c12, rfl⟩ := Kd.R_slice ho; have q12 := (Kd.R_reads' ho).2.1; have Hc := Aside0.mk (Kd.R_reads' ho).2.2; clear ho; clear hb))
  go_upto_region 8 with (first | (go_at_call 21; refine (gutterref05_Kids.calls A10 c10 t a1 L2 e2 _ Ht.out q10 F2.out).mono ?_; rintro e w7 ⟨v, rfl, ho, hb⟩; replace HG := Aside0.mk (GOK.below HG.out hb); replace Ht := Aside0.mk (Kd.C_below Ht.out hb); replace Hu := Aside0.mk (Kd.C_below Hu.out hb); replace Hc := Aside0.mk (Kd.C_below Hc.out hb); replace HB := Aside0.mk (below_then HB.out HB.out.size hb); obtain ⟨A13, c13, rfl⟩ := Kd.R_slice ho; have q13 := (Kd.R_reads' ho).2.1; have Hd := Aside0.mk (Kd.R_reads' ho).2.2; clear ho; clear hb))
  go_upto_region 9 with (first | (go_at_call 12; refine (tree_Order.calls A10 c10 t L3 e3 _ Ht.out q10 G3.out HG.out).mono ?_; rintro e w8 ⟨v, rfl, ho, hb⟩; replace HG := Aside0.mk (GOK.below HG.out hb); replace Ht := Aside0.mk (Kd.C_below Ht.out hb); replace Hu := Aside0.mk (Kd.C_below Hu.out hb); replace Hc := Aside0.mk (Kd.C_below Hc.out hb); replace Hd := Aside0.mk (Kd.C_below Hd.out hb); replace HB := Aside0.mk (below_then HB.out HB.out.size hb); obtain ⟨A14, c14, rfl⟩ := Kd.R_slice ho; have q14 := (Kd.R_reads' ho).2.1; have Hi := Aside0.mk (Kd.R_reads' ho).2.2; clear ho; clear hb))
  go_upto_region 10 with (first | (go_at_call 22; refine (gutterref05_Order.calls A10 c10 t L3 e3 _ Ht.out q10 F3.out).mono ?_; rintro e w9 ⟨v, rfl, ho, hb⟩; replace HG := Aside0.mk (GOK.below HG.out hb); replace Ht := Aside0.mk (Kd.C_below Ht.out hb); replace Hu := Aside0.mk (Kd.C_below Hu.out hb); replace Hc := Aside0.mk (Kd.C_below Hc.out hb); replace Hd := Aside0.mk (Kd.C_below Hd.out hb); replace Hi := Aside0.mk (Kd.C_below Hi.out hb); replace HB := Aside0.mk (below_then HB.out HB.out.size hb); obtain ⟨A15, c15, rfl⟩ := Kd.R_slice ho; have q15 := (Kd.R_reads' ho).2.1; have Hk := Aside0.mk (Kd.R_reads' ho).2.2; clear ho; clear hb))
  go_upto_region 11 with (first | (go_at_call 16; refine (tree_Deep.calls A10 c10 t a1 x4 e4 _ Ht.out q10 E4.out HG.out).mono ?_; rintro e w10 ⟨rfl, hb⟩; replace HG := Aside0.mk (GOK.below HG.out hb); replace Ht := Aside0.mk (Kd.C_below Ht.out hb); replace Hu := Aside0.mk (Kd.C_below Hu.out hb); replace Hc := Aside0.mk (Kd.C_below Hc.out hb); replace Hd := Aside0.mk (Kd.C_below Hd.out hb); replace Hi := Aside0.mk (Kd.C_below Hi.out hb); replace Hk := Aside0.mk (Kd.C_below Hk.out hb); replace HB := Aside0.mk (below_then HB.out HB.out.size hb); clear hb))
  go_upto_region 12 with (first | (go_at_call 23; refine (gutterref05_Deep.calls A10 c10 t a1 x4 e4 _ Ht.out q10 F4.out).mono ?_; rintro e w11 ⟨rfl, hb⟩; replace HG := Aside0.mk (GOK.below HG.out hb); replace Ht := Aside0.mk (Kd.C_below Ht.out hb); replace Hu := Aside0.mk (Kd.C_below Hu.out hb); replace Hc := Aside0.mk (Kd.C_below Hc.out hb); replace Hd := Aside0.mk (Kd.C_below Hd.out hb); replace Hi := Aside0.mk (Kd.C_below Hi.out hb); replace Hk := Aside0.mk (Kd.C_below Hk.out hb); replace HB := Aside0.mk (below_then HB.out HB.out.size hb); clear hb))
  go_upto_region 13 with (first | (go_at_call 13; refine (tree_Below.calls A10 c10 t a1 L5 e5 _ Ht.out q10 E5.out HG.out).mono ?_; rintro e w12 ⟨v, rfl, ho, hb⟩; replace HG := Aside0.mk (GOK.below HG.out hb); replace Ht := Aside0.mk (Kd.C_below Ht.out hb); replace Hu := Aside0.mk (Kd.C_below Hu.out hb); replace Hc := Aside0.mk (Kd.C_below Hc.out hb); replace Hd := Aside0.mk (Kd.C_below Hd.out hb); replace Hi := Aside0.mk (Kd.C_below Hi.out hb); replace Hk := Aside0.mk (Kd.C_below Hk.out hb); replace HB := Aside0.mk (below_then HB.out HB.out.size hb); obtain ⟨A16, c16, rfl⟩ := Kd.R_slice ho; have q16 := (Kd.R_reads' ho).2.1; have Hr := Aside0.mk (Kd.R_reads' ho).2.2; clear ho; clear hb))
  go_upto_region 14 with (first | (go_at_call 24; refine (gutterref05_Below.calls A10 c10 t a1 L5 e5 _ Ht.out q10 F5.out).mono ?_; rintro e w13 ⟨v, rfl, ho, hb⟩; replace HG := Aside0.mk (GOK.below HG.out hb); replace Ht := Aside0.mk (Kd.C_below Ht.out hb); replace Hu := Aside0.mk (Kd.C_below Hu.out hb); replace Hc := Aside0.mk (Kd.C_below Hc.out hb); replace Hd := Aside0.mk (Kd.C_below Hd.out hb); replace Hi := Aside0.mk (Kd.C_below Hi.out hb); replace Hk := Aside0.mk (Kd.C_below Hk.out hb); replace Hr := Aside0.mk (Kd.C_below Hr.out hb); replace HB := Aside0.mk (below_then HB.out HB.out.size hb); obtain ⟨A17, c17, rfl⟩ := Kd.R_slice ho; have q17 := (Kd.R_reads' ho).2.1; have Hv := Aside0.mk (Kd.R_reads' ho).2.2; clear ho; clear hb))
  clear HG
  go_wp2_with (first | (go_at_call 15; with_reducible refine (gutterref05_Ints.calls 1001 A12 c12 L2 A13 c13 L2 true _ Hc.out q12 Hd.out q13 I2.out).mono ?_; rintro e w14 ⟨rfl, hd⟩; have hb := hd.below; replace Ht := Aside0.mk (Kd.C_below Ht.out hb); replace Hu := Aside0.mk (Kd.C_below Hu.out hb); replace Hc := Aside0.mk (Kd.C_below Hc.out hb); replace Hd := Aside0.mk (Kd.C_below Hd.out hb); replace Hi := Aside0.mk (Kd.C_below Hi.out hb); replace Hk := Aside0.mk (Kd.C_below Hk.out hb); replace Hr := Aside0.mk (Kd.C_below Hr.out hb); replace Hv := Aside0.mk (Kd.C_below Hv.out hb); replace HB := Aside0.mk (below_then HB.out HB.out.size hb); clear hb hd) | (go_at_call 15; with_reducible refine (gutterref05_Ints.calls 1001 A14 c14 L3 A15 c15 L3 true _ Hi.out q14 Hk.out q15 I3.out).mono ?_; rintro e w15 ⟨rfl, hd⟩; have hb := hd.below; replace Ht := Aside0.mk (Kd.C_below Ht.out hb); replace Hu := Aside0.mk (Kd.C_below Hu.out hb); replace Hc := Aside0.mk (Kd.C_below Hc.out hb); replace Hd := Aside0.mk (Kd.C_below Hd.out hb); replace Hi := Aside0.mk (Kd.C_below Hi.out hb); replace Hk := Aside0.mk (Kd.C_below Hk.out hb); replace Hr := Aside0.mk (Kd.C_below Hr.out hb); replace Hv := Aside0.mk (Kd.C_below Hv.out hb); replace HB := Aside0.mk (below_then HB.out HB.out.size hb); clear hb hd) | (go_at_call 15; with_reducible refine (gutterref05_Ints.calls 1001 A16 c16 L5 A17 c17 L5 true _ Hr.out q16 Hv.out q17 I5.out).mono ?_; rintro e w16 ⟨rfl, hd⟩; have hb := hd.below; replace Ht := Aside0.mk (Kd.C_below Ht.out hb); replace Hu := Aside0.mk (Kd.C_below Hu.out hb); replace Hc := Aside0.mk (Kd.C_below Hc.out hb); replace Hd := Aside0.mk (Kd.C_below Hd.out hb); replace Hi := Aside0.mk (Kd.C_below Hi.out hb); replace Hk := Aside0.mk (Kd.C_below Hk.out hb); replace Hr := Aside0.mk (Kd.C_below Hr.out hb); replace Hv := Aside0.mk (Kd.C_below Hv.out hb); replace HB := Aside0.mk (below_then HB.out HB.out.size hb); clear hb hd) | (go_at_call 25; with_reducible refine (tsame_any t u A10 A11 c10 c11 _ Ht.out Hu.out q10 q11 hft2).mono ?_; rintro e w17 ⟨rfl, hb⟩; rw [HS.out]; replace Ht := Aside0.mk (Kd.C_below Ht.out hb); replace Hu := Aside0.mk (Kd.C_below Hu.out hb); replace Hc := Aside0.mk (Kd.C_below Hc.out hb); replace Hd := Aside0.mk (Kd.C_below Hd.out hb); replace Hi := Aside0.mk (Kd.C_below Hi.out hb); replace Hk := Aside0.mk (Kd.C_below Hk.out hb); replace Hr := Aside0.mk (Kd.C_below Hr.out hb); replace Hv := Aside0.mk (Kd.C_below Hv.out hb); replace HB := Aside0.mk (below_then HB.out HB.out.size hb); clear hb) | (go_at_call 26; with_reducible refine (rsame_any t u A10 A11 c10 c11 _ Ht.out Hu.out q10 q11 hft2).mono ?_; rintro e w18 ⟨rfl, hb⟩; rw [HS.out]; replace Ht := Aside0.mk (Kd.C_below Ht.out hb); replace Hu := Aside0.mk (Kd.C_below Hu.out hb); replace Hc := Aside0.mk (Kd.C_below Hc.out hb); replace Hd := Aside0.mk (Kd.C_below Hd.out hb); replace Hi := Aside0.mk (Kd.C_below Hi.out hb); replace Hk := Aside0.mk (Kd.C_below Hk.out hb); replace Hr := Aside0.mk (Kd.C_below Hr.out hb); replace Hv := Aside0.mk (Kd.C_below Hv.out hb); replace HB := Aside0.mk (below_then HB.out HB.out.size hb); clear hb) | (go_at_call 25; with_reducible refine (tsame_any t t A10 A10 c10 c10 _ Ht.out Ht.out q10 q10 hft2).mono ?_; rintro e w19 ⟨rfl, hb⟩; rw [HT.out]; replace Ht := Aside0.mk (Kd.C_below Ht.out hb); replace Hu := Aside0.mk (Kd.C_below Hu.out hb); replace Hc := Aside0.mk (Kd.C_below Hc.out hb); replace Hd := Aside0.mk (Kd.C_below Hd.out hb); replace Hi := Aside0.mk (Kd.C_below Hi.out hb); replace Hk := Aside0.mk (Kd.C_below Hk.out hb); replace Hr := Aside0.mk (Kd.C_below Hr.out hb); replace Hv := Aside0.mk (Kd.C_below Hv.out hb); replace HB := Aside0.mk (below_then HB.out HB.out.size hb); clear hb))
  go_ret
  exact ⟨by simp, HB.out⟩
def gutterlaw05_TreeChecks.f (_ : Nat) (_ : List (S32)) (_ : Int) (_ : List (S32)) : Option Bool := some true
theorem gutterlaw05_TreeChecks.calls (k : Nat) (A0 : Option Addr) (c0 : Nat) (l0 : List (S32)) (a1 : Int) (A2 : Option Addr) (c2 : Nat) (l2 : List (S32)) (r : Bool) (w : World) (hr0 : Kd.C k32 w A0 l0.length l0) (hc0 : l0.length ≤ c0) (hr2 : Kd.C k32 w A2 l2.length l2) (hc2 : l2.length ≤ c2) (h : gutterlaw05_TreeChecks.f k l0 a1 l2 = some r) (hG : GOK w) :
    Calls Tryd.prog 9 #[.slice A0 l0.length c0, .int .i64 a1, .slice A2 l2.length c2] w fun e w' => e = .returned (.bool r) ∧ Below w.heap.size w w' := by
  obtain rfl := Option.some.inj h
  exact checks_any A0 c0 l0 a1 A2 c2 l2 w hr0 hc0 hr2 hc2 hG
theorem TreeChecks (l0 : List Node) (a1 : Int) (l2 : List Node) (_ : l0.all wfN = true) (_ : (Lit.int .i64 a1).wf = true) (_ : l2.all wfN = true) : ∃ k, gutterlaw05_TreeChecks.f k l0 a1 l2 = some true := ⟨0, rfl⟩
end Go.Proofs.YtjafcgemgghbiaaDoor.G
