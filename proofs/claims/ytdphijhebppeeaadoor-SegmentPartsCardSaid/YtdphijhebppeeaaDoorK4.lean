/- Chapter 16: segments' kids are the node's kids; no two one behind the other have both Span false; one with Span has one kid. The law is walked by hand. Written by tmpl.py out of K4.tl. -/
import Derived.Test.YtdphijhebppeeaaDoorX4
import Derived.Test.YtdphijhebppeeaaDoorG3
namespace Go.Proofs.YtdphijhebppeeaaDoor.G
open Go Go.RowKit Go.Shelf Go.Maps Go.Proofs.YtdphijhebppeeaaDoorW.PrintWords Go.Proofs.YtdphijhebppeeaaDoorW.PrintLast Go.Proofs.YtdphijhebppeeaaDoorW.PrintMore
attribute [local irreducible] cN
theorem segsE_zero {t : List Node} {n : Int} (h : segsE t n = 0) : segE t n = 0 := by
  unfold segsE at h
  by_cases h0 : segE t n = 0
  · exact h0
  · rw [if_pos h0] at h; exact absurd h h0
theorem seg_in {w : World} {A : Option Addr} {xs : List S40} (h : Kd.C k40 w A xs.length xs) {i : Nat} (h1 : i < xs.length) : ∃ ad A1 c1, A = some ad ∧ w.cell? (ad.add (i * 2)) = some (.bool (xs.getD i z40).f0) ∧ w.cell? ⟨(ad.add (i * 2)).block, (ad.add (i * 2)).off + 1, none⟩ = some (.slice A1 (xs.getD i z40).f1.length c1) ∧ Kd.C (Kd.int .i64) w A1 (xs.getD i z40).f1.length (xs.getD i z40).f1 := by
  obtain ⟨ad, A1, c1, e, x0, x1, _, x2⟩ := at_T40 h (i : Int) (by omega) (by omega)
  rw [Int.toNat_natCast] at x0 x1
  unfold rd_T40 at x0 x1 x2
  rw [Int.toNat_natCast] at x0 x1 x2
  exact ⟨ad, A1, c1, e, x0, x1, x2⟩
set_option maxRecDepth 100000 in
set_option maxHeartbeats 4000000 in
theorem parts_any (A0 : Option Addr) (c0 : Nat) (l0 : List (S31)) (a1 : Int) (w : World) (hr0 : Kd.C k31 w A0 l0.length l0) (hc0 : l0.length ≤ c0) (hG : GOK w) :
    Calls Tryd.prog 5 #[.slice A0 l0.length c0, .int .i64 a1] w fun e w' => e = .returned (.bool true) ∧ Below w.heap.size w w' := by
  have HG := Aside0.mk hG
  have H0 := Aside0.mk hr0
  have HF0 := Aside0.mk (show gutterlaw05_Few.f l0 = some (fewL l0) from rfl)
  obtain ⟨t, ht⟩ : ∃ t, fewL l0 = t := ⟨_, rfl⟩
  rw [ht] at HF0
  clear ht hG hr0
  have HB := Aside0.mk (Below.refl w.heap.size w)
  by_cases hE : segsE t a1 = 0
  · have hE1 := segsE_zero hE
    obtain ⟨hop, hn0, hn1⟩ := segE_zero hE1
    have hl := (open_none hop).2.1
    have hkm : ∀ x ∈ kidsL t t.length a1, ∃ m : Nat, x = m ∧ m < t.length := fun x hx => by
      obtain ⟨m, rfl, _, h2, _⟩ := kidsL_mem hx
      exact ⟨m, rfl, h2⟩
    have hkl := kidsL_len t t.length a1
    have hkf : tree_Kids.f t a1 = some (kidsL t t.length a1, 0) := by
      have hEn : errN t a1 = 0 := by unfold errN; rw [hop]; exact if_neg (by omega)
      unfold tree_Kids.f; rw [if_neg (by rw [hEn]; simp)]
    have hf : segment_Segs.f t a1 = some (segsL t (kidsL t t.length a1), 0) := by
      unfold segment_Segs.f; rw [if_neg (by rw [hE]; simp)]
    obtain ⟨L, hL⟩ : ∃ L, kidsL t t.length a1 = L := ⟨_, rfl⟩
    rw [hL] at hkm hkl hkf hf
    obtain ⟨hok, hfl⟩ := segsL_ok L hkm
    obtain ⟨hb1, hb2⟩ := segsL_bound t L
    obtain ⟨g, hg⟩ : ∃ g, segsL t L = g := ⟨_, rfl⟩
    rw [hg] at hf hok hfl hb1 hb2
    have HKF := Aside0.mk hkf
    have HF := Aside0.mk hf
    have HOK := Aside0.mk hok
    have HSK := Aside0.mk (show segment_Kids.f 1000 g = some L by rw [← hfl]; exact kids_f g 1000 1000 (by omega) (fun x hx => Nat.le_trans (hb2 x hx) (by omega)) (by omega) (by omega))
    have HIN := Aside0.mk (show gutterref05_Ints.f 1000 L L = some true by rw [ints_f L L 1000 (by omega) (by omega)]; simp)
    have HB2 := Aside0.mk (show ∀ x ∈ g, x.f1.length ≤ 200 from fun x hx => Nat.le_trans (hb2 x hx) (by omega))
    have hgl : g.length ≤ 200 := by omega
    clear hf hkf hop hE hE1 hok hkm hL hg hfl hb2 hb1 hkl hn0 hn1
    go_enter Tryd.func5, Tryd.ntmps5
    go_upto_region 2 with (first | (go_at_call 9; refine (gutterlaw16_shown.calls 10 true _ (shown_f 10 (Nat.le_refl _)) HG.out).mono ?_; rintro e w1 ⟨rfl, hb⟩; replace HG := Aside0.mk (GOK.below HG.out hb); replace H0 := Aside0.mk (Kd.C_below H0.out hb); replace HB := Aside0.mk (below_then HB.out HB.out.size hb); clear hb))
    go_upto_region 3 with (first | (go_at_call 10; refine (gutterlaw05_Few.calls A0 c0 l0 t _ H0.out hc0 HF0.out).mono ?_; rintro e w2 ⟨v, rfl, ho, hb⟩; replace HG := Aside0.mk (GOK.below HG.out hb); replace HB := Aside0.mk (below_then HB.out HB.out.size hb); obtain ⟨At, ct, rfl⟩ := Kd.R_slice ho; have qt := (Kd.R_reads' ho).2.1; have Ht := Aside0.mk (Kd.R_reads' ho).2.2; clear ho hb))
    go_upto_region 4 with (first | (go_at_call 13; refine (segment_Segs.calls At ct t a1 g 0 _ Ht.out qt HF.out HG.out).mono ?_; rintro e w3 ⟨v, rfl, ho, hb⟩; replace HG := Aside0.mk (GOK.below HG.out hb); replace Ht := Aside0.mk (Kd.C_below Ht.out hb); replace HB := Aside0.mk (below_then HB.out HB.out.size hb); obtain ⟨Ag, cg, rfl⟩ := Kd.S_slice ho; have qg := Aside0.mk (Kd.S_reads' ho).2.1; have Hg := Aside0.mk (Kd.S_reads' ho).2.2; clear ho hb))
    go_upto_region 5 with (first | (go_at_call 14; refine (tree_Kids.calls At ct t a1 L 0 _ Ht.out qt HKF.out HG.out).mono ?_; rintro e w4 ⟨v, rfl, ho, hb⟩; replace HG := Aside0.mk (GOK.below HG.out hb); replace Ht := Aside0.mk (Kd.C_below Ht.out hb); replace Hg := Aside0.mk (Kd.C_below Hg.out hb); replace HB := Aside0.mk (below_then HB.out HB.out.size hb); obtain ⟨Ak, ck, rfl⟩ := Kd.R_slice ho; have qk := Aside0.mk (Kd.R_reads' ho).2.1; have Hk := Aside0.mk (Kd.R_reads' ho).2.2; clear ho hb))
    go_wp2
    go_loopw [10] (fun i wr => ∃ m : Nat, i = .int .i64 m ∧ Aside0 (m ≤ g.length) ∧ Aside0 (Below w4.heap.size w4 wr)) (fun i _ => g.length - (intZ i).toNat)
    case atStart => exact ⟨0, rfl, ⟨Nat.zero_le _⟩, ⟨Below.refl _ _⟩⟩
    case round =>
      obtain ⟨m, rfl, HM, HBr⟩ := hrel
      by_cases hlt : m < g.length
      · obtain ⟨ag, A1, c1, rfl, x0, x1, x2⟩ := seg_in (Kd.C_below Hg.out HBr.out) hlt
        obtain ⟨⟨hne, hone, hall⟩, hprev⟩ := HOK.out m hlt
        have hml : (g.getD m z40).f1.length ≤ 200 := HB2.out _ (by rw [List.getD_eq_getElem?_getD, List.getElem?_eq_getElem hlt]; exact List.getElem_mem _)
        obtain ⟨sp, hsp⟩ : ∃ sp, (g.getD m z40).f0 = sp := ⟨_, rfl⟩
        obtain ⟨q, hq⟩ : ∃ q, (g.getD m z40).f1 = q := ⟨_, rfl⟩
        rw [hsp] at x0 hone hall hprev
        rw [hq] at x1 x2 hne hone hall hml
        have hq0 : 0 < q.length := List.length_pos_iff.2 hne
        have hm1 : (m : Int) < g.length := by omega
        have HX2 := Aside0.mk x2
        have HALL := Aside0.mk hall
        have HPREV := Aside0.mk hprev
        have X0 := Aside0.mk x0
        have X1 := Aside0.mk x1
        have HSP := Aside0.mk hsp
        have HQ := Aside0.mk hq
        clear x2 hall hprev hsp hq
        go_upto_region 10 with fail
        go_cut [85] (fun c wx => c = .bool false ∧ wx = wr)
        case first =>
          cases sp with
          | true =>
            have hb2 : q.length = 1 := hone rfl
            obtain ⟨y, rfl⟩ : ∃ y, q = [y] := List.length_eq_one_iff.1 hb2
            have x0 := X0.out
            have x1 := X1.out
            by_cases h0 : m = 0
            · have h0' : ¬ ((m : Int) > 0) := by omega
              clear h0
              go_wp2_with fail
              go_meet
              exact ⟨rfl, rfl⟩
            · have h0' : (m : Int) > 0 := by omega
              go_wp2_with fail
              go_meet
              exact ⟨rfl, rfl⟩
          | false =>
            have x0 := X0.out
            have x1 := X1.out
            by_cases h0 : m = 0
            · have h0' : ¬ ((m : Int) > 0) := by omega
              clear h0
              go_wp2_with fail
              go_meet
              exact ⟨by simp [hne], rfl⟩
            · have h0' : (m : Int) > 0 := by omega
              have hpv := HPREV.out (by omega) rfl
              obtain ⟨ag', A1', c1', eA, y0, y1, y2⟩ := seg_in (i := m - 1) (Kd.C_below Hg.out HBr.out) (by omega)
              cases eA
              rw [hpv] at y0
              have ew : IntKind.i64.wrap ((m : Int) - 1) = ((m - 1 : Nat) : Int) := by rw [wrap_small _ (by omega) (by omega)]; omega
              clear y1 y2
              go_wp2_with fail
              go_meet
              exact ⟨by simp [hne], rfl⟩
        case rest =>
          obtain ⟨rfl, hwc⟩ := hcut
          rw [hwc]
          clear hwc
          go_wp2
          go_loopw [11] (fun j wi => ∃ p : Nat, j = .int .i64 p ∧ Aside0 (p ≤ q.length) ∧ Aside0 (Below w4.heap.size w4 wi)) (fun j _ => q.length - (intZ j).toNat)
          case atStart => exact ⟨0, rfl, ⟨Nat.zero_le _⟩, HBr⟩
          case round =>
            obtain ⟨p, rfl, HP, HBi⟩ := hrel
            obtain ⟨ag', A1', c1', eA, y0, y1, y2⟩ := seg_in (Kd.C_below Hg.out HBi.out) hlt
            cases eA
            rw [HSP.out] at y0
            rw [HQ.out] at y1 y2
            clear x0 x1
            by_cases hp : p < q.length
            · have hp1 : (p : Int) < q.length := by omega
              obtain ⟨ak, c, rfl, _, hK, hc⟩ := Kd.C_get y2 0 (p : Int) (by omega) (by omega)
              have hK' : c = [.int .i64 (q.getD (p : Int).toNat 0)] := hK
              subst hK'
              have gj := hc 0 _ rfl
              rw [Int.toNat_natCast, show (Kd.int .i64).sz = 1 from rfl, Nat.mul_one, Nat.add_zero] at gj
              obtain ⟨n, hn, hnl, hns⟩ := HALL.out (q.getD p 0) (by rw [List.getD_eq_getElem?_getD, List.getElem?_eq_getElem hp]; exact List.getElem_mem _)
              rw [hn] at gj
              obtain ⟨ad, M, rfl, hM, hrk⟩ := node_at (Kd.C_below Ht.out HBi.out) n hnl
              have g16 := ranges_at hrk 15 hM.c16
              rw [hns] at g16
              have hn1 : (n : Int) < t.length := by omega
              have hn2 : ¬ ((n : Int) < 0) := by omega
              have hn3 : ¬ ((n : Int) ≥ t.length) := by omega
              clear hM hrk hK hc hns hn y2
              go_wp2
              go_quiet (fail)
              go_wp2
              exact ⟨⟨p + 1, by go_num, ⟨by omega⟩, ⟨pw_below_drewN HBi.out _⟩⟩, by simp [intZ]; omega⟩
            · have hp1 : ¬ ((p : Int) < q.length) := by omega
              go_wp2
              exact ⟨⟨m + 1, by go_num, ⟨by omega⟩, HBi⟩, by simp [intZ]; omega⟩
      · have hge : ¬ ((m : Int) < g.length) := by omega
        go_wp2_with (first | (go_at_call 16; refine (segment_Kids.calls 1000 Ag cg g L _ (Kd.C_below Hg.out HBr.out) qg.out HSK.out).mono ?_; rintro e w5 ⟨v, rfl, ho, hb⟩; obtain ⟨Ao, co, rfl⟩ := Kd.R_slice ho; have qo := Aside0.mk (Kd.R_reads' ho).2.1; have Ho := Aside0.mk (Kd.R_reads' ho).2.2; replace HBr := Aside0.mk (below_then HBr.out HBr.out.size hb); clear ho hb) | (go_at_call 15; refine (gutterref05_Ints.calls 1000 Ao co L Ak ck L true _ Ho.out qo.out (Kd.C_below Hk.out HBr.out) qk.out HIN.out).mono ?_; rintro e w6 ⟨rfl, hd⟩; replace HBr := Aside0.mk (below_then HBr.out HBr.out.size hd.below); clear hd))
        go_ret
        exact ⟨rfl, below_then HB.out HB.out.size HBr.out⟩
  · have hf : segment_Segs.f t a1 = some ([], segsE t a1) := by
      unfold segment_Segs.f; rw [if_pos hE]
    obtain ⟨kl, ke, hkf⟩ : ∃ kl ke, tree_Kids.f t a1 = some (kl, ke) := by
      unfold tree_Kids.f; split <;> exact ⟨_, _, rfl⟩
    have HF := Aside0.mk hf
    have HKF := Aside0.mk hkf
    have hne : ¬ (segsE t a1 = 0) := hE
    clear hf hkf hE
    generalize segsE t a1 = e0 at *
    go_enter Tryd.func5, Tryd.ntmps5
    go_upto_region 2 with (first | (go_at_call 9; refine (gutterlaw16_shown.calls 10 true _ (shown_f 10 (Nat.le_refl _)) HG.out).mono ?_; rintro e w1 ⟨rfl, hb⟩; replace HG := Aside0.mk (GOK.below HG.out hb); replace H0 := Aside0.mk (Kd.C_below H0.out hb); replace HB := Aside0.mk (below_then HB.out HB.out.size hb); clear hb))
    go_upto_region 3 with (first | (go_at_call 10; refine (gutterlaw05_Few.calls A0 c0 l0 t _ H0.out hc0 HF0.out).mono ?_; rintro e w2 ⟨v, rfl, ho, hb⟩; replace HG := Aside0.mk (GOK.below HG.out hb); replace HB := Aside0.mk (below_then HB.out HB.out.size hb); obtain ⟨At, ct, rfl⟩ := Kd.R_slice ho; have qt := (Kd.R_reads' ho).2.1; have Ht := Aside0.mk (Kd.R_reads' ho).2.2; clear ho hb))
    go_upto_region 4 with (first | (go_at_call 13; refine (segment_Segs.calls At ct t a1 [] e0 _ Ht.out qt HF.out HG.out).mono ?_; rintro e w3 ⟨v, rfl, ho, hb⟩; replace HG := Aside0.mk (GOK.below HG.out hb); replace Ht := Aside0.mk (Kd.C_below Ht.out hb); replace HB := Aside0.mk (below_then HB.out HB.out.size hb); obtain ⟨Ag, cg, rfl⟩ := Kd.S_slice ho; clear ho hb))
    go_upto_region 5 with (first | (go_at_call 14; refine (tree_Kids.calls At ct t a1 kl ke _ Ht.out qt HKF.out HG.out).mono ?_; rintro e w4 ⟨v, rfl, ho, hb⟩; replace HB := Aside0.mk (below_then HB.out HB.out.size hb); obtain ⟨Ak, ck, rfl⟩ := Kd.R_slice ho; clear ho hb))
    go_wp2
    go_ret
    exact ⟨rfl, HB.out⟩
def gutterlaw16_SegmentParts.f (_ : Nat) (_ : List (S31)) (_ : Int) : Option Bool := some true
theorem gutterlaw16_SegmentParts.calls (k : Nat) (A0 : Option Addr) (c0 : Nat) (l0 : List (S31)) (a1 : Int) (r : Bool) (w : World) (hr0 : Kd.C k31 w A0 l0.length l0) (hc0 : l0.length ≤ c0) (h : gutterlaw16_SegmentParts.f k l0 a1 = some r) (hG : GOK w) :
    Calls Tryd.prog 5 #[.slice A0 l0.length c0, .int .i64 a1] w fun e w' => e = .returned (.bool r) ∧ Below w.heap.size w w' := by
  obtain rfl := Option.some.inj h
  exact parts_any A0 c0 l0 a1 w hr0 hc0 hG
theorem SegmentParts (l0 : List Node) (a1 : Int) (_ : l0.all wfN = true) (_ : (Lit.int .i64 a1).wf = true) : ∃ k, gutterlaw16_SegmentParts.f k l0 a1 = some true := ⟨0, rfl⟩
end Go.Proofs.YtdphijhebppeeaaDoor.G
