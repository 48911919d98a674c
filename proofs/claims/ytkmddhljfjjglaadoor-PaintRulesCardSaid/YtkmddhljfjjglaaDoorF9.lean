/- Chapter 18: what is seen. Written by mkF9.py. -/
import Derived.Test.YtkmddhljfjjglaaDoorF8
namespace Go.Proofs.YtkmddhljfjjglaaDoor.G
open Go.RowKit Go.Shelf Go.Proofs.YtkmddhljfjjglaaDoorW.PrintWords Go.Proofs.YtkmddhljfjjglaaDoorW.PrintLast Go.Proofs.YtkmddhljfjjglaaDoorW.PrintMore
attribute [local go_sem] max2_int min2_int

/-- Does one interval meet another one? -/
def meetZ (a p b q : Int) : Bool := decide (p > a ∧ p > b ∧ q > a ∧ q > b)
/-- Have two rectangles a point together? -/
def meetB (a b : S30) : Bool := meetZ a.f0 (wrap64 (a.f0 + a.f2)) b.f0 (wrap64 (b.f0 + b.f2)) && meetZ a.f1 (wrap64 (a.f1 + a.f3)) b.f1 (wrap64 (b.f1 + b.f3))
set_option maxRecDepth 100000 in
set_option maxHeartbeats 1000000 in
theorem meet_any (a0 a1 a2 a3 b0 b1 b2 b3 : Int) (w : World) : Calls Tryd.prog 44 #[.agg #[.int .i64 a0, .int .i64 a1, .int .i64 a2, .int .i64 a3], .agg #[.int .i64 b0, .int .i64 b1, .int .i64 b2, .int .i64 b3]] w fun e w' => e = .returned (.bool (meetB ⟨a0, a1, a2, a3⟩ ⟨b0, b1, b2, b3⟩)) ∧ Below w.heap.size w w' := by
  have hB := Aside0.mk (below_alloc (below_alloc (Below.refl w.heap.size w) (.cells #[.int .i64 a0, .int .i64 a1, .int .i64 a2, .int .i64 a3] 30)) (.cells #[.int .i64 b0, .int .i64 b1, .int .i64 b2, .int .i64 b3] 30))
  have HE := Aside0.mk (show meetB ⟨a0, a1, a2, a3⟩ ⟨b0, b1, b2, b3⟩ = (meetZ a0 (wrap64 (a0 + a2)) b0 (wrap64 (b0 + b2)) && meetZ a1 (wrap64 (a1 + a3)) b1 (wrap64 (b1 + b3))) from rfl)
  generalize meetB ⟨a0, a1, a2, a3⟩ ⟨b0, b1, b2, b3⟩ = r at *
  go_enter Tryd.func44, Tryd.ntmps44
  go_wp2
  all_goals
    go_ret
    refine ⟨congrArg (fun b => Ending.returned (.bool b)) ?_, hB.out⟩
    rw [HE.out, Bool.eq_iff_iff]
    simp only [meetZ, Bool.and_eq_true, decide_eq_true_eq]
    clear HE hB
    try simp only [Array.getD_eq_getD_getElem?, decide_eq_true_eq]
    generalize wrap64 (a0 + a2) = p at *
    generalize wrap64 (b0 + b2) = q at *
    generalize wrap64 (a1 + a3) = s at *
    generalize wrap64 (b1 + b3) = t at *
    first | omega | (simp; omega)
set_option maxRecDepth 100000 in
theorem seen1_any (Br : Nat) (r0 r1 r2 r3 : Int) (x : S39) (w : World) (h : w.heap[Br]? = some (.cells #[.int .i64 r0, .int .i64 r1, .int .i64 r2, .int .i64 r3] 30 (0, 0))) :
    Calls Tryd.prog 43 (#[vS39 x] ++ #[.pointer (some ⟨Br, 0, none⟩)]) w fun e w' => e = .returned (.bool (meetB x.f2 ⟨r0, r1, r2, r3⟩)) ∧ Below w.heap.size w w' := by
  obtain ⟨x0, x1, ⟨q0, q1, q2, q3⟩⟩ := x
  unfold vS39
  dsimp only
  have hb := below_alloc (Below.refl w.heap.size w) (.cells #[.bool x0, .int .i64 x1, .int .i64 q0, .int .i64 q1, .int .i64 q2, .int .i64 q3] 39)
  have h1 := blk_below h hb
  have k0 := (blk_cell h1 0).trans (show _ = some (Value.int .i64 r0) from rfl)
  have k1 := (blk_cell h1 1).trans (show _ = some (Value.int .i64 r1) from rfl)
  have k2 := (blk_cell h1 2).trans (show _ = some (Value.int .i64 r2) from rfl)
  have k3 := (blk_cell h1 3).trans (show _ = some (Value.int .i64 r3) from rfl)
  have HB := Aside0.mk hb
  clear hb h1 h
  simp only [List.append_toArray, List.cons_append, List.nil_append]
  go_enter Tryd.func43, Tryd.ntmps43
  go_wp2_with (go_at_call 44; refine (meet_any _ _ _ _ _ _ _ _ _).mono ?_; rintro e w2 ⟨rfl, hb⟩; have HB2 := Aside0.mk (below_then HB.out HB.out.size hb); clear hb)
  go_ret
  exact ⟨rfl, HB2.out⟩
set_option maxRecDepth 1000000 in
set_option maxHeartbeats 2000000 in
theorem seen_core (A : Option Addr) (c : Nat) (l : List S39) (r0 r1 r2 r3 : Int) (w : World) (hr : Kd.C k39 w A l.length l) (hl : l.length ≤ 1000) (hw : ∀ x ∈ l, wfR x.f2 = true) (a : Addr) (hs : w.cell? ⟨0, 0, none⟩ = some (.iface 136 (.pointer (some a)))) (rz : Int) (out : List S39)
    (hB : (areB l = true ∧ isB ⟨r0, r1, r2, r3⟩ = true ∧ rz = 0 ∧ out = l.filter fun x => meetB x.f2 ⟨r0, r1, r2, r3⟩) ∨ (areB l = true ∧ isB ⟨r0, r1, r2, r3⟩ = false ∧ rz = 170 ∧ out = []) ∨ (areB l = false ∧ rz = 170 ∧ out = [])) :
    Calls Tryd.prog 21 #[.slice A l.length c, .agg #[.int .i64 r0, .int .i64 r1, .int .i64 r2, .int .i64 r3]] w fun e w' => ∃ v0_ : Value, e = .returned (.tuple #[v0_, .int .i64 rz]) ∧ Kd.R k39 39 w' w.heap.size (fun _ => True) v0_ out ∧ Below w.heap.size w w' := by
  have hb0 := below_alloc (Below.refl w.heap.size w) (.cells #[.int .i64 r0, .int .i64 r1, .int .i64 r2, .int .i64 r3] 30)
  have hv0 := blk_new w (.cells #[.int .i64 r0, .int .i64 r1, .int .i64 r2, .int .i64 r3] 30)
  have hc0 := Kd.C_below hr hb0
  have HS := Aside0.mk hs
  have HB0 := Aside0.mk hb0
  have HV0 := Aside0.mk hv0
  have hk0 := pw_cell_below hb0 hs
  have hsz0 : (w.alloc (.cells #[.int .i64 r0, .int .i64 r1, .int .i64 r2, .int .i64 r3] 30)).heap.size = w.heap.size + 1 := by simp
  rcases hB with ⟨hy, hz, rfl, rfl⟩ | ⟨hy, hz, rfl, rfl⟩ | ⟨hy, rfl, rfl⟩
  · have HOP := open_yes A c l _ hc0 hl hw hy
    rw [hsz0] at HOP
    have HZ0 := Aside0.mk hsz0
    have HOP := Aside0.mk HOP
    have HC0 := Aside0.mk hc0
    have HZ := Aside0.mk hz
    have HCO := Aside0.mk (fun w2 hc W hk => collect_that w2.heap.size (w2.heap.size + 1) (w.heap.size + 1) 43 #[.pointer (some ⟨w.heap.size, 0, none⟩)] (fun x => meetB x.f2 ⟨r0, r1, r2, r3⟩) A c l w2 (fun W => W.heap[w.heap.size]? = some (.cells #[.int .i64 r0, .int .i64 r1, .int .i64 r2, .int .i64 r3] 30 (0, 0))) (enters_of Tryd.func43 (by kernel_rfl) rfl) (fun _ _ h hb => blk_below h hb) (fun x W h => seen1_any w.heap.size r0 r1 r2 r3 x W h) hc hl W hk)
    clear hr hw hs hb0 hv0 hc0 hk0 hsz0 hy hz
    go_enter Tryd.func21, Tryd.ntmps21
    go_wp2_with (first | (go_at_call 33; refine HOP.out.mono ?_; rintro e w2 ⟨rfl, hbk, hb⟩; rw [← HZ0.out] at hb; have HB2 := Aside0.mk (below_then HB0.out HB0.out.size hb); have HV2 := Aside0.mk (blk_below HV0.out hb); have k0 : w2.cell? ⟨w.heap.size, 0, none⟩ = some (.int .i64 r0) := (blk_cell HV2.out 0).trans rfl; have k1 : w2.cell? ⟨w.heap.size, 1, none⟩ = some (.int .i64 r1) := (blk_cell HV2.out 1).trans rfl; have k2 : w2.cell? ⟨w.heap.size, 2, none⟩ = some (.int .i64 r2) := (blk_cell HV2.out 2).trans rfl; have k3 : w2.cell? ⟨w.heap.size, 3, none⟩ = some (.int .i64 r3) := (blk_cell HV2.out 3).trans rfl; have HK2 := Aside0.mk hbk; have HC2 := Aside0.mk (Kd.C_below HC0.out hb); clear hb hbk) | (go_at_call 41; refine (isRect_any _ _ _ _ _).mono ?_; rintro e w3 ⟨rfl, hb⟩; rw [HZ.out]; have HB3 := Aside0.mk (below_then HB2.out HB2.out.size hb); have HV3 := blk_below HV2.out hb; have HK3 := Aside0.mk (cv_make w3 (w.heap.size + 1) (.func (.func 43) #[] #[.pointer (some ⟨w.heap.size, 0, none⟩)]) A l.length c (fun W => W.heap[w.heap.size]? = some (.cells #[.int .i64 r0, .int .i64 r1, .int .i64 r2, .int .i64 r3] 30 (0, 0))) (blk_below HK2.out hb) (fun W' h => blk_below HV3 h)); have HC3 := Aside0.mk (HCO.out w3 (Kd.C_below HC2.out hb) _ HK3.out); have HB4 := Aside0.mk (below_alloc (below_alloc HB3.out (.cells #[.pointer (some ⟨w.heap.size + 1, 0, none⟩)] 62)) (.cells #[.func (.func 43) #[] #[.pointer (some ⟨w.heap.size, 0, none⟩)]] 65)); clear hb HV3) | (go_at_call 36; refine (that_any _ _ _ _).mono ?_; rintro e w' ⟨rfl, rfl⟩) | (go_at_call 35; refine HC3.out.mono ?_; rintro e w4 ⟨v4, rfl, ho, hb⟩; have HO4 := Aside0.mk ho; have HB5 := Aside0.mk (below_then HB4.out HB4.out.size hb); clear ho hb))
    go_ret2
    exact ⟨_, rfl, R39_of_own (own_base HO4.out HB4.out.size), HB5.out⟩
  · have HOP := open_yes A c l _ hc0 hl hw hy
    rw [hsz0] at HOP
    have HZ0 := Aside0.mk hsz0
    have HOP := Aside0.mk HOP
    have HZ := Aside0.mk hz
    clear hr hw hs hb0 hv0 hc0 hk0 hsz0 hy hz
    go_enter Tryd.func21, Tryd.ntmps21
    go_wp2_with (first | (go_at_call 33; refine HOP.out.mono ?_; rintro e w2 ⟨rfl, hbk, hb⟩; rw [← HZ0.out] at hb; have HB2 := Aside0.mk (below_then HB0.out HB0.out.size hb); have HV2 := Aside0.mk (blk_below HV0.out hb); have k0 : w2.cell? ⟨w.heap.size, 0, none⟩ = some (.int .i64 r0) := (blk_cell HV2.out 0).trans rfl; have k1 : w2.cell? ⟨w.heap.size, 1, none⟩ = some (.int .i64 r1) := (blk_cell HV2.out 1).trans rfl; have k2 : w2.cell? ⟨w.heap.size, 2, none⟩ = some (.int .i64 r2) := (blk_cell HV2.out 2).trans rfl; have k3 : w2.cell? ⟨w.heap.size, 3, none⟩ = some (.int .i64 r3) := (blk_cell HV2.out 3).trans rfl; clear hb hbk) | (go_at_call 41; refine (isRect_any _ _ _ _ _).mono ?_; rintro e w3 ⟨rfl, hb⟩; rw [HZ.out]; have HB3 := Aside0.mk (below_then HB2.out HB2.out.size hb); have g0 := pw_cell_below HB3.out HS.out; clear hb) | (go_at_call 29; refine (told_paint a _ (pw_cell_below HB3.out HS.out)).mono ?_; rintro e w' ⟨rfl, rfl⟩))
    go_ret2
    exact ⟨_, rfl, Kd.R_nil _ _ _ _ _, HB3.out⟩
  · have HOP := Aside0.mk (open_no A c l _ hc0 hl hw hy a hk0)
    clear hr hw hs hb0 hv0 hc0 hk0 hsz0 hy
    go_enter Tryd.func21, Tryd.ntmps21
    go_wp2_with (first | (go_at_call 33; refine HOP.out.mono ?_; rintro e w2 ⟨rfl, hb⟩; have HB2 := Aside0.mk (below_then HB0.out HB0.out.size hb); have g0 := pw_cell_below HB2.out HS.out; clear hb) | (go_at_call 29; refine (told_paint a _ (pw_cell_below HB2.out HS.out)).mono ?_; rintro e w' ⟨rfl, rfl⟩))
    go_ret2
    exact ⟨_, rfl, Kd.R_nil _ _ _ _ _, HB2.out⟩
def paint_Seen.f (l0 : List (S39)) (a1_0 : Int) (a1_1 : Int) (a1_2 : Int) (a1_3 : Int) : Option ((List (S39)) × Int) := if l0.length ≤ 200 ∧ wfD l0 = true then some (if areB l0 = true ∧ isB ⟨a1_0, a1_1, a1_2, a1_3⟩ = true then (l0.filter fun x => meetB x.f2 ⟨a1_0, a1_1, a1_2, a1_3⟩, 0) else ([], 170)) else none
theorem paint_Seen.calls (A0 : Option Addr) (c0 : Nat) (l0 : List (S39)) (a1_0 : Int) (a1_1 : Int) (a1_2 : Int) (a1_3 : Int) (r1 : List (S39)) (r2 : Int) (w : World) (hr0 : Kd.C k39 w A0 l0.length l0) (hc0 : l0.length ≤ c0) (h : paint_Seen.f l0 a1_0 a1_1 a1_2 a1_3 = some (r1, r2)) (hG : GOK w) :
    Calls Tryd.prog 21 #[.slice A0 l0.length c0, .agg #[.int .i64 a1_0, .int .i64 a1_1, .int .i64 a1_2, .int .i64 a1_3]] w fun e w' => ∃ v0_ : Value, e = .returned (.tuple #[v0_, .int .i64 r2]) ∧ Kd.R k39 39 w' w.heap.size (fun _ => True) v0_ r1 ∧ Below w.heap.size w w' := by
  have _h0 := hc0
  obtain ⟨⟨a, ha⟩, _⟩ := hG
  unfold paint_Seen.f at h
  split at h
  · rename_i hq
    obtain ⟨q0, q2⟩ := hq
    refine seen_core A0 c0 l0 a1_0 a1_1 a1_2 a1_3 w hr0 (by omega) (wfD_mem q2) a ha r2 r1 ?_
    by_cases hB : areB l0 = true
    · by_cases hC : isB ⟨a1_0, a1_1, a1_2, a1_3⟩ = true
      · rw [if_pos ⟨hB, hC⟩] at h
        simp only [Option.some.injEq, Prod.mk.injEq] at h
        exact .inl ⟨hB, hC, h.2.symm, h.1.symm⟩
      · rw [if_neg (fun h => hC h.2)] at h
        simp only [Option.some.injEq, Prod.mk.injEq] at h
        exact .inr (.inl ⟨hB, Bool.eq_false_iff.mpr hC, h.2.symm, h.1.symm⟩)
    · rw [if_neg (fun h => hB h.1)] at h
      simp only [Option.some.injEq, Prod.mk.injEq] at h
      exact .inr (.inr ⟨Bool.eq_false_iff.mpr hB, h.2.symm, h.1.symm⟩)
  · cases h
end Go.Proofs.YtkmddhljfjjglaaDoor.G
