/- YtdphijhebppeeaaDoorY1, YtdphijhebppeeaaDoorY2: texts of ours, one behind the other. Put together by merge.py. -/
import Derived.Test.YtdphijhebppeeaaDoorF27
import Derived.Test.YtdphijhebppeeaaDoorF34
import Derived.Test.YtdphijhebppeeaaDoorK6
/- Chapter 16: the reference's node, Host, Spanner. Written by tmpl.py out of Y1.tl. -/
namespace Go.Proofs.YtdphijhebppeeaaDoor.G
open Go.RowKit Go.Shelf Go.Maps Go.MapKept Go.ChangeMaps Go.ChangeShapes Go.Proofs.YtdphijhebppeeaaDoorW.PrintWords Go.Proofs.YtdphijhebppeeaaDoorW.PrintLast Go.Proofs.YtdphijhebppeeaaDoorW.PrintMore
attribute [local irreducible] cN
set_option maxRecDepth 100000 in
theorem rnode16_any (t : List Node) (A0 : Option Addr) (c0 : Nat) (n : Int) (w : World) (hc : kN.C w A0 t.length t) (hc0 : t.length ≤ c0) :
  Calls Tryd.prog 45 #[.slice A0 t.length c0, .int .i64 n] w fun e w' => e = .returned (.int .i64 (segE t n)) ∧ Below w.heap.size w w' := by
 cases hop : openT t with
 | some p =>
  obtain ⟨k, i⟩ := p
  have hE : segE t n = 50 + (i : Int) := by unfold segE; rw [hop]
  have HC := Aside0.mk (gutterref05_Check.calls A0 c0 t k (50 + (i : Int)) w hc hc0 (by unfold gutterref05_Check.f tree_Check.f; rw [hop]))
  have hi := open_code hop
  rw [hE]
  have hi2 : ¬ (50 + (i : Int)) = 0 := by omega
  generalize 50 + (i : Int) = e0 at *
  clear hop hE hi hc
  go_enter Tryd.func45, Tryd.ntmps45
  go_wp2_with (first | (go_at_call 39; refine HC.out.mono ?_; rintro e w2 ⟨rfl, hb⟩))
  go_ret
  exact ⟨rfl, hb⟩
 | none =>
  have HC := Aside0.mk (gutterref05_Check.calls A0 c0 t 0 0 w hc hc0 (by unfold gutterref05_Check.f tree_Check.f; rw [hop]))
  have hE : segE t n = if n < 0 ∨ (t.length : Int) ≤ n then 150 else 0 := by unfold segE; rw [hop]
  rw [hE]
  clear hop hE hc
  by_cases h1 : n < 0
  ·
   rw [if_pos (.inl h1)]
   go_enter Tryd.func45, Tryd.ntmps45
   go_wp2_with (first | (go_at_call 39; refine HC.out.mono ?_; rintro e w2 ⟨rfl, hb⟩))
   go_ret
   exact ⟨rfl, hb⟩
  ·
   by_cases h2 : n ≥ (t.length : Int)
   ·
    rw [if_pos (.inr h2)]
    go_enter Tryd.func45, Tryd.ntmps45
    go_wp2_with (first | (go_at_call 39; refine HC.out.mono ?_; rintro e w2 ⟨rfl, hb⟩))
    go_ret
    exact ⟨rfl, hb⟩
   ·
    rw [if_neg (by omega)]
    go_enter Tryd.func45, Tryd.ntmps45
    go_wp2_with (first | (go_at_call 39; refine HC.out.mono ?_; rintro e w2 ⟨rfl, hb⟩))
    go_ret
    exact ⟨rfl, hb⟩
def upR (t : List Node) (p : Nat → Bool) (v : Nat → Int) (n : Nat) : Int × Bool := match upFirst t p (n + 1) n with | some k => (v k, true) | none => (0, false)
theorem upR_zero (t : List Node) (p : Nat → Bool) (v : Nat → Int) : upR t p v 0 = (0, false) := rfl
theorem upR_hit {t : List Node} {p : Nat → Bool} {v : Nat → Int} {n : Nat} (h0 : 0 < n) (h : p n = true) : upR t p v n = (v n, true) := by
 unfold upR
 rw [upFirst, if_neg (by omega), if_pos h]
theorem upR_miss {t : List Node} (hT : OKT t) {p : Nat → Bool} {v : Nat → Int} {n q : Nat} (h0 : 0 < n) (hn : n < t.length) (h : p n = false) (hq : (t.getD n zN).f0 = q) (hqn : q < n) : upR t p v n = upR t p v q := by
 unfold upR
 rw [upFirst, if_neg (by omega), if_neg (by rw [h]; decide), hq, Int.toNat_natCast]
 rw [upFirst_enough hT p n (q + 1) q (by omega) (by omega) (by omega)]
theorem host_f {t : List Node} {n : Nat} (hE : segE t n = 0) : segment_Host.f t n = some ((upR t (hostP t) (fun k => (t.getD k zN).f0) n).1, (upR t (hostP t) (fun k => (t.getD k zN).f0) n).2, 0) := by
 unfold segment_Host.f upR
 rw [if_neg (by rw [hE]; simp), Int.toNat_natCast]
 cases upFirst t (hostP t) (n + 1) n with
 | none => rfl
 | some m => rfl
theorem spanner_f16 {t : List Node} {n : Nat} (hE : segE t n = 0) : segment_Spanner.f t n = some ((upR t (spanP t) (fun k => (k : Int)) n).1, (upR t (spanP t) (fun k => (k : Int)) n).2, 0) := by
 unfold segment_Spanner.f upR
 rw [if_neg (by rw [hE]; simp), Int.toNat_natCast]
 cases upFirst t (spanP t) (n + 1) n with
 | none => rfl
 | some m => rfl
set_option maxRecDepth 100000 in
set_option maxHeartbeats 1000000 in
theorem rhost_any (t : List Node) (A0 : Option Addr) (c0 : Nat) (a1 : Int) (r1 : Int) (r2 : Bool) (r3 : Int) (w : World) (hc : kN.C w A0 t.length t) (hc0 : t.length ≤ c0) (h : segment_Host.f t a1 = some (r1, r2, r3)) :
  Calls Tryd.prog 24 #[.slice A0 t.length c0, .int .i64 a1] w fun e w' => e = .returned (.tuple #[.int .i64 r1, .bool r2, .int .i64 r3]) ∧ Below w.heap.size w w' := by
 have HN := Aside0.mk (rnode16_any t A0 c0 a1 w hc hc0)
 have HC := Aside0.mk hc
 clear hc
 by_cases hE : segE t a1 = 0
 ·
  obtain ⟨hop, hn0, hn1⟩ := segE_zero hE
  obtain ⟨a, rfl⟩ : ∃ a : Nat, a1 = a := ⟨a1.toNat, by omega⟩
  rw [host_f hE] at h
  simp only [Option.some.injEq, Prod.mk.injEq] at h
  obtain ⟨h1, h2, rfl⟩ := h
  have HR := Aside0.mk (show upR t (hostP t) (fun k => (t.getD k zN).f0) a = (r1, r2) by rw [← h1, ← h2])
  have HT := Aside0.mk (open_OKT hop)
  have HA := Aside0.mk (show a < t.length by omega)
  rw [hE] at HN
  clear h1 h2 hop hE
  go_enter Tryd.func24, Tryd.ntmps24
  go_wp2_with (first | (go_at_call 45; refine HN.out.mono ?_; rintro e w2 ⟨rfl, hb⟩; have HB := Aside0.mk hb; clear hb))
  go_loopw [1] (fun i wr => ∃ m : Nat, i = .int .i64 m ∧ Aside0 (m < t.length) ∧ Aside0 (upR t (hostP t) (fun k => (t.getD k zN).f0) m = (r1, r2)) ∧ Aside0 (Below w.heap.size w wr)) (fun i _ => (intZ i).toNat)
  case atStart => exact ⟨a, rfl, HA, HR, HB⟩
  case round =>
   obtain ⟨m, rfl, HM, HRm, HBr⟩ := hrel
   by_cases h0 : m = 0
   ·
    subst h0
    have hr := HRm.out
    rw [upR_zero] at hr
    simp only [Prod.mk.injEq] at hr
    obtain ⟨rfl, rfl⟩ := hr
    go_wp2
    go_ret3
    exact ⟨rfl, HBr.out⟩
   ·
    have hm0 : (m : Int) > 0 := by omega
    have hml := HM.out
    have hm1 : (m : Int) < t.length := by omega
    have hp := HT.out m (by omega) hml
    obtain ⟨q, hq⟩ : ∃ q : Nat, (t.getD m zN).f0 = q := ⟨(t.getD m zN).f0.toNat, by omega⟩
    rw [hq] at hp
    obtain ⟨ad, M, rfl, hM, hrg⟩ := node_at (Kd.C_below HC.out HBr.out) m hml
    obtain ⟨ad', M', eA, hM', hrg'⟩ := node_at (Kd.C_below HC.out HBr.out) q (by omega)
    cases eA
    have g0 := ranges_first hrg hM.c0
    have g1 := ranges_at hrg' 0 hM'.c1
    rw [hq] at g0
    have hq1 : (q : Int) < t.length := by omega
    have hq0 : (0 : Int) ≤ q := by omega
    have hpar : hostP t m = ((t.getD q zN).f1 == 4) := by unfold hostP; rw [par_in (by omega) hq (by omega)]
    obtain ⟨kd, hkd⟩ : ∃ kd, (t.getD q zN).f1 = kd := ⟨_, rfl⟩
    rw [hkd] at g1 hpar
    by_cases h4 : kd = 4
    ·
     subst h4
     have hr := HRm.out
     rw [upR_hit (by omega) (by rw [hpar]; rfl)] at hr
     simp only [Prod.mk.injEq, hq] at hr
     obtain ⟨rfl, rfl⟩ := hr
     clear hM hrg hM' hrg' hpar hkd hq hp HRm HM
     go_wp2
     go_ret3
     exact ⟨rfl, HBr.out⟩
    ·
     have h4b : (kd == 4) = false := by simp [h4]
     have hr := HRm.out
     rw [upR_miss HT.out (by omega) hml (by rw [hpar]; exact h4b) hq (by omega)] at hr
     have HRq := Aside0.mk hr
     have hqm : q < m := by omega
     clear hM hrg hM' hrg' hr hq hpar hkd HRm hp
     go_wp2
     exact ⟨⟨q, rfl, ⟨by omega⟩, HRq, HBr⟩, by simp only [intZ]; omega⟩
 ·
  have hf : segment_Host.f t a1 = some (0, false, segE t a1) := by unfold segment_Host.f; rw [if_pos hE]
  rw [hf] at h
  simp only [Option.some.injEq, Prod.mk.injEq] at h
  obtain ⟨rfl, rfl, rfl⟩ := h
  have hne : ¬ (segE t a1 = 0) := hE
  clear hf hE
  generalize segE t a1 = e0 at *
  go_enter Tryd.func24, Tryd.ntmps24
  go_wp2_with (first | (go_at_call 45; refine HN.out.mono ?_; rintro e w2 ⟨rfl, hb⟩; have HB := Aside0.mk hb; clear hb))
  go_ret3
  exact ⟨rfl, HB.out⟩
set_option maxRecDepth 100000 in
set_option maxHeartbeats 1000000 in
theorem rspanner_any (t : List Node) (A0 : Option Addr) (c0 : Nat) (a1 : Int) (r1 : Int) (r2 : Bool) (r3 : Int) (w : World) (hc : kN.C w A0 t.length t) (hc0 : t.length ≤ c0) (h : segment_Spanner.f t a1 = some (r1, r2, r3)) :
  Calls Tryd.prog 25 #[.slice A0 t.length c0, .int .i64 a1] w fun e w' => e = .returned (.tuple #[.int .i64 r1, .bool r2, .int .i64 r3]) ∧ Below w.heap.size w w' := by
 have HN := Aside0.mk (rnode16_any t A0 c0 a1 w hc hc0)
 have HC := Aside0.mk hc
 clear hc
 by_cases hE : segE t a1 = 0
 ·
  obtain ⟨hop, hn0, hn1⟩ := segE_zero hE
  obtain ⟨a, rfl⟩ : ∃ a : Nat, a1 = a := ⟨a1.toNat, by omega⟩
  rw [spanner_f16 hE] at h
  simp only [Option.some.injEq, Prod.mk.injEq] at h
  obtain ⟨h1, h2, rfl⟩ := h
  have HR := Aside0.mk (show upR t (spanP t) (fun k => (k : Int)) a = (r1, r2) by rw [← h1, ← h2])
  have HT := Aside0.mk (open_OKT hop)
  have HA := Aside0.mk (show a < t.length by omega)
  rw [hE] at HN
  clear h1 h2 hop hE
  go_enter Tryd.func25, Tryd.ntmps25
  go_wp2_with (first | (go_at_call 45; refine HN.out.mono ?_; rintro e w2 ⟨rfl, hb⟩; have HB := Aside0.mk hb; clear hb))
  go_loopw [1] (fun i wr => ∃ m : Nat, i = .int .i64 m ∧ Aside0 (m < t.length) ∧ Aside0 (upR t (spanP t) (fun k => (k : Int)) m = (r1, r2)) ∧ Aside0 (Below w.heap.size w wr)) (fun i _ => (intZ i).toNat)
  case atStart => exact ⟨a, rfl, HA, HR, HB⟩
  case round =>
   obtain ⟨m, rfl, HM, HRm, HBr⟩ := hrel
   by_cases h0 : m = 0
   ·
    subst h0
    have hr := HRm.out
    rw [upR_zero] at hr
    simp only [Prod.mk.injEq] at hr
    obtain ⟨rfl, rfl⟩ := hr
    go_wp2
    go_ret3
    exact ⟨rfl, HBr.out⟩
   ·
    have hm0 : (m : Int) > 0 := by omega
    have hml := HM.out
    have hm1 : (m : Int) < t.length := by omega
    have hp := HT.out m (by omega) hml
    obtain ⟨q, hq⟩ : ∃ q : Nat, (t.getD m zN).f0 = q := ⟨(t.getD m zN).f0.toNat, by omega⟩
    rw [hq] at hp
    obtain ⟨ad, M, rfl, hM, hrg⟩ := node_at (Kd.C_below HC.out HBr.out) m hml
    have g0 := ranges_first hrg hM.c0
    have g16 := ranges_at hrg 15 hM.c16
    rw [hq] at g0
    have hsp : spanP t m = (t.getD m zN).f5.f11 := rfl
    obtain ⟨sp, hs⟩ : ∃ sp, (t.getD m zN).f5.f11 = sp := ⟨_, rfl⟩
    rw [hs] at g16 hsp
    cases sp with
    | true =>
     have hr := HRm.out
     rw [upR_hit (by omega) hsp] at hr
     simp only [Prod.mk.injEq] at hr
     obtain ⟨rfl, rfl⟩ := hr
     clear hM hrg hsp hs hq hp HRm HM
     go_wp2
     go_ret3
     exact ⟨rfl, HBr.out⟩
    | false =>
     have hr := HRm.out
     rw [upR_miss HT.out (by omega) hml hsp hq (by omega)] at hr
     have HRq := Aside0.mk hr
     have hqm : q < m := by omega
     clear hM hrg hr hq hsp hs HRm hp
     go_wp2
     exact ⟨⟨q, rfl, ⟨by omega⟩, HRq, HBr⟩, by simp only [intZ]; omega⟩
 ·
  have hf : segment_Spanner.f t a1 = some (0, false, segE t a1) := by unfold segment_Spanner.f; rw [if_pos hE]
  rw [hf] at h
  simp only [Option.some.injEq, Prod.mk.injEq] at h
  obtain ⟨rfl, rfl, rfl⟩ := h
  have hne : ¬ (segE t a1 = 0) := hE
  clear hf hE
  generalize segE t a1 = e0 at *
  go_enter Tryd.func25, Tryd.ntmps25
  go_wp2_with (first | (go_at_call 45; refine HN.out.mono ?_; rintro e w2 ⟨rfl, hb⟩; have HB := Aside0.mk hb; clear hb))
  go_ret3
  exact ⟨rfl, HB.out⟩
end Go.Proofs.YtdphijhebppeeaaDoor.G
/- Chapter 16: the reference's Multis. Written by tmpl.py out of Y2.tl. -/
namespace Go.Proofs.YtdphijhebppeeaaDoor.G
open Go.RowKit Go.Shelf Go.Maps Go.MapKept Go.ChangeMaps Go.ChangeShapes Go.Proofs.YtdphijhebppeeaaDoorW.PrintWords Go.Proofs.YtdphijhebppeeaaDoorW.PrintLast Go.Proofs.YtdphijhebppeeaaDoorW.PrintMore
attribute [local irreducible] cN postL belowL kidsL
theorem post_len2 {t : List Node} (hT : OKT t) {n : Nat} (hn : n < t.length) : (postL t n).length ≤ t.length :=
 Nat.le_trans (by rw [(post_perm hT n hn).length_eq]; exact List.length_filter_le _ _) (below_len hT hn)
theorem kids_f16 {t : List Node} (hop : openT t = none) {n : Nat} (hn : n < t.length) : gutterref05_Kids.f t n = some (kidsL t t.length n, 0) := by
 have hEn : errN t n = 0 := by unfold errN; rw [hop]; exact if_neg (by omega)
 unfold gutterref05_Kids.f tree_Kids.f
 rw [if_neg (by rw [hEn]; simp)]
set_option maxHeartbeats 1000000 in
set_option maxRecDepth 100000 in
theorem rmultis_any (t : List Node) (A0 : Option Addr) (c0 : Nat) (hc0 : t.length ≤ c0) (hop : openT t = none) : ∀ (d n : Nat) (w : World), d = t.length - n → n < t.length → kN.C w A0 t.length t →
  Calls Tryd.prog 44 #[.slice A0 t.length c0, .int .i64 n] w fun e w' => ∃ v, e = .returned v ∧ Kd.R (Kd.int .i64) 3 w' w.heap.size (fun _ => True) v (postL t n) ∧ Below w.heap.size w w' := by
 intro d
 obtain ⟨i0, hi0, hz0, hz1, hz2⟩ := info_parts info3
 induction d using Nat.strongRecOn with
 | ind d ih =>
  intro n w hd hn hc
  have hT := open_OKT hop
  have hlen := (open_none hop).2.1
  have IH := Aside0.mk ih
  have HE := Aside0.mk (postL_eq hT hn)
  have hpl := post_len2 hT hn
  have hM := fun x (hx : x ∈ kidsL t t.length n) => (by
   obtain ⟨m, rfl, h1, h2, h3⟩ := kidsL_mem hx
   have := hT m h1 h2
   exact ⟨m, rfl, by omega, h2⟩ : ∃ m : Nat, x = m ∧ n < m ∧ m < t.length)
  have hkf := kids_f16 hop hn
  have hkl := kidsL_len t t.length n
  obtain ⟨L, hL⟩ : ∃ L, kidsL t t.length (n : Int) = L := ⟨_, rfl⟩
  rw [hL] at HE hM hkf hkl
  have HM := Aside0.mk hM
  have HK := Aside0.mk (gutterref05_Kids.calls A0 c0 t n L 0 w hc hc0 hkf)
  have HC := Aside0.mk hc
  have HT := Aside0.mk hT
  have hsum := HE.out
  rw [hsum, List.length_append] at hpl
  have HP := Aside0.mk (show (L.flatMap (postL t)).length ≤ 200 by omega)
  have hmb : multB t (n : Int) = decide ((t.getD n zN).f1 = 4) := by unfold multB; rw [Int.toNat_natCast]
  have HMB := Aside0.mk hmb
  have hwfn := Aside0.mk (wf64 (z := (n : Int)) (by omega) (by omega))
  clear ih hc hT hM hkf hL hsum hpl hmb
  go_enter Tryd.func44, Tryd.ntmps44
  go_wp2_with (first | (go_at_call 40; refine HK.out.mono ?_; rintro e w2 ⟨v, rfl, ho, hb⟩; obtain ⟨Al, cl, rfl⟩ := Kd.R_slice ho; have HL := Aside0.mk (Kd.R_reads' ho).2.2; have HB2 := Aside0.mk hb; clear ho hb))
  go_loopw [5, 8] (fun v i wr => ∃ k : Nat, i = .int .i64 k ∧ k ≤ L.length ∧ Aside0 (Kd.R (Kd.int .i64) 3 wr w2.heap.size (fun _ => True) v ((L.take k).flatMap (postL t))) ∧ Aside0 (Below w2.heap.size w2 wr)) (fun _ i _ => L.length - (intZ i).toNat)
  case atStart => exact ⟨0, rfl, Nat.zero_le _, ⟨Kd.R_nil _ _ _ _ _⟩, ⟨Below.refl _ _⟩⟩
  case round =>
   obtain ⟨k, rfl, hk, HO, HB⟩ := hrel
   by_cases hlt : k < L.length
   ·
    have hlt' : (k : Int) < L.length := by omega
    obtain ⟨ak, c, rfl, _, hK, hcc⟩ := Kd.C_get (Kd.C_below HL.out HB.out) 0 (k : Int) (by omega) (by omega)
    have hK' : c = [.int .i64 (L.getD (k : Int).toNat 0)] := hK
    subst hK'
    have gj := hcc 0 _ rfl
    rw [Int.toNat_natCast, show (Kd.int .i64).sz = 1 from rfl, Nat.mul_one, Nat.add_zero] at gj
    obtain ⟨m, hm, hnm, hmt⟩ := HM.out (L.getD k 0) (by rw [List.getD_eq_getElem?_getD, List.getElem?_eq_getElem hlt]; exact List.getElem_mem _)
    rw [hm] at gj
    have htk : L.take (k + 1) = L.take k ++ [(m : Int)] := by
     rw [List.take_add_one, List.getElem?_eq_getElem hlt]
     rw [List.getD_eq_getElem?_getD, List.getElem?_eq_getElem hlt] at hm
     simp only [Option.getD_some] at hm
     rw [hm]; rfl
    have hfl : (L.take (k + 1)).flatMap (postL t) = (L.take k).flatMap (postL t) ++ postL t m := by
     rw [htk, List.flatMap_append]; simp
    have hp1 : ((L.take k).flatMap (postL t)).length ≤ 200 := by
     refine Nat.le_trans ?_ HP.out
     conv => rhs; rw [← List.take_append_drop k L, List.flatMap_append, List.length_append]
     omega
    have hp2 : (postL t m).length ≤ 200 := Nat.le_trans (post_len2 HT.out hmt) hlen
    have HI := Aside0.mk (IH.out (t.length - m) (by omega) m wr rfl hmt (Kd.C_below (Kd.C_below HC.out HB2.out) HB.out))
    have HFL := Aside0.mk hfl
    obtain ⟨P, hP⟩ : ∃ P, (L.take k).flatMap (postL t) = P := ⟨_, rfl⟩
    obtain ⟨Z, hZ⟩ : ∃ Z, postL t (m : Int) = Z := ⟨_, rfl⟩
    rw [hP] at HO hp1 HFL
    rw [hZ] at HFL HI hp2
    have hsz := HB.out.size
    clear htk hm hfl hP hZ hcc hK
    go_wp2_with (first | (go_at_call 44; refine HI.out.mono ?_; rintro e w3 ⟨v2, rfl, h2, hb2⟩; obtain ⟨A2, c2, rfl⟩ := Kd.R_slice h2; have H2 := Aside0.mk (Kd.R_reads' h2).2.2; have HO2 := Aside0.mk (Kd.R_below HO.out hb2); have HB3 := Aside0.mk (below_then HB.out HB.out.size hb2); have hs2 := hb2.size; clear h2 hb2) | (at_builtin; (refine Kd.R_append_row (Value.int .i64) 0 (h1 := fun _ => rfl) (w0 := w2) w2.heap.size rfl _ _ 36 3 (.int .i64 0) 8 rfl Tryd.underlying36 info3 rfl (by decide) _ P Z A2 Z.length c2 (fun _ => True) rfl rfl (fun _ _ => trivial) HO2.out H2.out HB3.out (by omega) (by omega) ?_; intro v1 w5 ho5 hb5 _ _; have HO5 := Aside0.mk ho5; have HB5 := Aside0.mk hb5; clear ho5 hb5)))
    refine ⟨⟨k + 1, by go_num, by omega, ⟨?_⟩, HB5⟩, by simp only [intZ]; omega⟩
    rw [HFL.out]
    exact HO5.out
   ·
    have hke : k = L.length := by omega
    subst hke
    obtain ⟨ad, M, rfl, hMm, hrg⟩ := node_at (Kd.C_below (Kd.C_below HC.out HB2.out) HB.out) n hn
    have g1 := ranges_at hrg 0 hMm.c1
    have hn1 : (n : Int) < t.length := by omega
    obtain ⟨kd, hkd⟩ : ∃ kd, (t.getD n zN).f1 = kd := ⟨_, rfl⟩
    rw [hkd] at g1 HMB
    have hO := HO.out
    rw [List.take_length] at hO
    have hO' := Kd.R_lower hO HB2.out.size
    have HB4 := Aside0.mk (below_then HB2.out HB2.out.size HB.out)
    clear hMm hrg hkd hO HO
    have HO := Aside0.mk hO'
    clear hO'
    by_cases h4 : kd = 4
    ·
     subst h4
     have HX := Aside0.mk (show postL t (n : Int) = L.flatMap (postL t) ++ [(n : Int)] by rw [HE.out, if_pos (by rw [HMB.out]; rfl)])
     have hp := HP.out
     obtain ⟨P, hP⟩ : ∃ P, L.flatMap (postL t) = P := ⟨_, rfl⟩
     rw [hP] at HO HX hp
     have hown := Aside0.mk (Kd.own_of_R HO.out)
     have hsz := HB4.out.size
     clear hP
     go_wp2_with (first | (at_builtin; (refine wpList_append_own_at _ rfl _ _ 36 rfl w.heap.size 3 i0 (.int .i64 0) 1 8 Tryd.underlying36 hi0 hz0 hz1 hz2 rfl (by decide) _ _ _ rfl (hown.out.alloc _) ⟨wr.heap.size, 0, none⟩ 1 1 [.int .i64 n] rfl rfl (cell_one_new _ _ _) (ints_oneCell .i64 [(n : Int)]) (by unfold maxLen; omega) (by omega) (by simp; omega) ?_; intro v' w5 hown' hgrow _ hloc; have HO5 := Aside0.mk (Kd.R_of_own (enc := Value.int .i64) (h1 := fun _ => rfl) (xs := P ++ [(n : Int)]) (ok := fun _ => True) (by simpa [encs] using hown') (fun _ _ => trivial)); have HB5 := Aside0.mk ((below_alloc HB4.out _).grown hgrow (by simp; omega) (fun j e => (hown.out.lt j e).1)); clear hown' hgrow hloc)))
     go_ret
     exact ⟨_, rfl, by rw [HX.out]; exact HO5.out, HB5.out⟩
    ·
     have h4b : (kd == 4) = false := by simp [h4]
     have HX := Aside0.mk (show postL t (n : Int) = L.flatMap (postL t) by rw [HE.out, if_neg (by rw [HMB.out]; simp [h4]), List.append_nil])
     go_wp2
     go_ret
     exact ⟨_, rfl, by rw [HX.out]; exact HO.out, HB4.out⟩
def gutterref16_Multis.f (l0 : List Node) : Option (List Int × Int) := if openE l0 ≠ 0 then some ([], openE l0) else some (postL l0 0, 0)
set_option maxRecDepth 100000 in
theorem gutterref16_Multis.calls (A0 : Option Addr) (c0 : Nat) (l0 : List Node) (r1 : List Int) (r2 : Int) (w : World) (hr0 : kN.C w A0 l0.length l0) (hc0 : l0.length ≤ c0) (h : gutterref16_Multis.f l0 = some (r1, r2)) :
  Calls Tryd.prog 23 #[.slice A0 l0.length c0] w fun e w' => ∃ v0_ : Value, e = .returned (.tuple #[v0_, .int .i64 r2]) ∧ Kd.R (Kd.int .i64) 3 w' w.heap.size (fun _ => True) v0_ r1 ∧ Below w.heap.size w w' := by
 unfold gutterref16_Multis.f at h
 cases hop : openT l0 with
 | some p =>
  obtain ⟨k, i⟩ := p
  have hoe : openE l0 = 50 + (i : Int) := by unfold openE; rw [hop]
  rw [hoe, if_pos (by omega)] at h
  simp only [Option.some.injEq, Prod.mk.injEq] at h
  obtain ⟨rfl, rfl⟩ := h
  have HC := Aside0.mk (gutterref05_Check.calls A0 c0 l0 k (50 + (i : Int)) w hr0 hc0 (by unfold gutterref05_Check.f tree_Check.f; rw [hop]))
  have hi2 : ¬ (50 + (i : Int)) = 0 := by omega
  generalize 50 + (i : Int) = e0 at *
  clear hop hoe hr0
  go_enter Tryd.func23, Tryd.ntmps23
  go_wp2_with (first | (go_at_call 39; refine HC.out.mono ?_; rintro e w2 ⟨rfl, hb⟩))
  go_ret2
  exact ⟨_, rfl, Kd.R_nil _ _ _ _ _, hb⟩
 | none =>
  have hoe : openE l0 = 0 := by unfold openE; rw [hop]
  rw [hoe, if_neg (by simp)] at h
  simp only [Option.some.injEq, Prod.mk.injEq] at h
  obtain ⟨rfl, rfl⟩ := h
  obtain ⟨h1, h2, _⟩ := open_none hop
  have HC := Aside0.mk (gutterref05_Check.calls A0 c0 l0 0 0 w hr0 hc0 (by unfold gutterref05_Check.f tree_Check.f; rw [hop]))
  have HM := Aside0.mk (fun w' (hb : Below w.heap.size w w') => rmultis_any l0 A0 c0 hc0 hop (l0.length - 0) 0 w' rfl (by omega) (Kd.C_below hr0 hb))
  clear hop hoe hr0
  go_enter Tryd.func23, Tryd.ntmps23
  go_wp2_with (first | (go_at_call 39; refine HC.out.mono ?_; rintro e w2 ⟨rfl, hb⟩; have HB := Aside0.mk hb; clear hb) | (go_at_call 44; refine (HM.out _ HB.out).mono ?_; rintro e w3 ⟨v, rfl, ho, hb⟩; have HO := Aside0.mk ho; have HB3 := Aside0.mk hb; clear ho hb))
  go_ret2
  exact ⟨_, rfl, Kd.R_lower HO.out HB.out.size, below_then HB.out HB.out.size HB3.out⟩
end Go.Proofs.YtdphijhebppeeaaDoor.G
