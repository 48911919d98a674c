/- Chapter 18: all are rectangles, each asked once; a canvas. Written by mkF4.py. -/
import Derived.Test.YtkmddhljfjjglaaDoorF3
import Derived.Maps.Own
import Derived.Maps.OwnOps
import Derived.Maps.OwnSet
import Derived.Maps.Views
import Derived.DeepKeys4
namespace Go.Proofs.YtkmddhljfjjglaaDoor.G
open Go.RowKit Go.Shelf Go.Maps Go.Proofs.YtkmddhljfjjglaaDoorW.PrintWords Go.Proofs.YtkmddhljfjjglaaDoorW.PrintLast Go.Proofs.YtkmddhljfjjglaaDoorW.PrintMore

theorem laidOutP : laidOutB Tryd.prog = true := by kernel_rfl
theorem row30 : (30 : TypeId) < Tryd.prog.types.size := of_decide_eq_true (by kernel_rfl)
theorem cells30 : Tryd.prog.cellsOf 30 = 4 := by kernel_rfl
theorem cells2 : Tryd.prog.cellsOf 2 = 1 := by kernel_rfl
theorem wide30 : (match Tryd.prog.underlying 30 with | some (.array _ _) | some (.struct _) => true | _ => false) = true := by rw [Tryd.underlying30]
theorem deep30 : Tryd.prog.keyTypeAt 2 30 = true := by kernel_rfl
set_option maxRecDepth 1000000 in
theorem rectLaw : Keyed Tryd.prog 30 := Keyed.of_law (deep_law_laid laidOutP (m := 2) (by omega) row30 deep30 wide30)
theorem zero4 (w : World) : (zeroValue 4).run Tryd.prog w = .ok (.bool false) w := by kernel_rfl
theorem keyT : Tryd.prog.keyType 30 = true := by kernel_rfl
theorem types_succ : ∃ n, Tryd.prog.types.size + 1 = n + 2 := ⟨Tryd.prog.types.size - 1, by have h : 30 < Tryd.prog.types.size := row30; generalize Tryd.prog.types.size = m at *; omega⟩
def r64B (n : Int) : Bool := decide (-9223372036854775808 ≤ n) && decide (n ≤ 9223372036854775807)
theorem r64B_wf {n : Int} (h : r64B n = true) : (Lit.int .i64 n).wf = true := by
  simp only [r64B, Bool.and_eq_true, decide_eq_true_eq] at h
  exact WalkArith.wf_i64 h
/-- Are a rectangle's numbers numbers? -/
def wfR (r : S30) : Bool := r64B r.f0 && (r64B r.f1 && (r64B r.f2 && r64B r.f3))
theorem rectKey (r : S30) (h : wfR r = true) : ∃ l, keyOf Tryd.prog 30 (vS30 r) = some l := by
  simp only [wfR, Bool.and_eq_true] at h
  have h0 := r64B_wf h.1
  have h1 := r64B_wf h.2.1
  have h2 := r64B_wf h.2.2.1
  have h3 := r64B_wf h.2.2.2
  unfold keyOf vS30
  rw [Tryd.underlying30]
  have hf : (Value.agg #[.int .i64 r.f0, .int .i64 r.f1, .int .i64 r.f2, .int .i64 r.f3]).formed Tryd.prog 30 = true := by simp [Value.formed, Tryd.underlying30, cells30]
  simp only [keyT, hf, Bool.and_self, if_true]
  obtain ⟨n, hn⟩ := types_succ
  rw [hn]
  simp [Program.keyLits, Tryd.underlying30, Tryd.underlying2, cells30, cells2, Value.cells, h0, h1, h2, h3]
def boolR : Value → Option (DataW Unit × List MemPlace)
  | .bool b => some (.lit (.bool b), [])
  | _ => none
theorem boolR_inv {v : Value} {d : DataW Unit} {ps : List MemPlace} (h : boolR v = some (d, ps)) : ∃ b, v = .bool b ∧ d = .lit (.bool b) := by
  cases v <;> simp [boolR] at h
  exact ⟨_, rfl, h.1.symm⟩
/-- A look-up of what is known of a rectangle. -/
theorem look_bool {w : World} {ops : Array Oper} {rest : List Oper} {o : Oper} {a : Act} {Q : Exit → Act → World → Prop} (hg : o.guard = none) (m x : Operand) (hop : o.op = Op.lookup 105 m x true) (b n : Nat) (D : DataW Unit)
    (hm : a.eval m = .map (some b)) (hown : w.ownsMap Tryd.prog 30 boolR b n D) (key : Value) (kl : Lit) (hx : a.eval x = key) (hkey : keyOf Tryd.prog 30 key = some kl) (c h : Bool) (hc : D.atKey kl (.lit (.bool false)) = .lit (.bool c)) (hh : Maps.has D kl = h)
    (hK : wpList Tryd.prog ops Q rest (a.put o.dst (.tuple #[.bool c, .bool h])) w) : wpList Tryd.prog ops Q (o :: rest) a w :=
  wpList_lookup_own_ok w hg m x 105 hop 30 4 rectLaw Tryd.underlying105 boolR (zero4 _) (.lit (.bool false)) [] rfl b n D hm hown key kl hx hkey (fun v ps hv => by
    rw [hc] at hv
    obtain ⟨c', rfl, e⟩ := boolR_inv hv
    obtain rfl : c = c' := Lit.bool.inj (DataW.lit.inj e)
    rw [hh]
    exact hK)
/-- What is known: of each rectangle that was asked, what it is. -/
def Known (D : DataW Unit) : Prop := IsMap D ∧ ∀ (r : S30) (kl : Lit), keyOf Tryd.prog 30 (vS30 r) = some kl → (Maps.has D kl = true → D.atKey kl (.lit (.bool false)) = .lit (.bool (isB r))) ∧ (Maps.has D kl = false → D.atKey kl (.lit (.bool false)) = .lit (.bool false))
theorem known_nil : Known (.map []) := ⟨isMap_empty, fun _ _ _ => ⟨fun h => by simp [Maps.has] at h, fun h => atKey_of_not_has h _⟩⟩
theorem known_put {D : DataW Unit} (h : Known D) (r : S30) (kl : Lit) (hk : keyOf Tryd.prog 30 (vS30 r) = some kl) : Known (D.put kl (.lit (.bool (isB r)))) := by
  refine ⟨h.1.put _ _, fun r' kl' hk' => ?_⟩
  by_cases e : kl' = kl
  · subst e
    have hv := rectLaw.inj hk' hk
    simp only [vS30, Value.agg.injEq, Array.mk.injEq, List.cons.injEq, Value.int.injEq, true_and, and_true] at hv
    have er : r' = r := by
      cases r; cases r'
      simp at hv ⊢
      exact hv
    subst er
    refine ⟨fun _ => atKey_put_same h.1 (rectLaw.key hk) _ _, fun hh => ?_⟩
    rw [has_put_same h.1 (rectLaw.key hk)] at hh
    cases hh
  · rw [atKey_put_other e, has_put_other e]
    exact h.2 r' kl' hk'
theorem takeD_rd (rs : List S39) (k : Nat) (hk : k < rs.length) : rs.take (k + 1) = rs.take k ++ [rd_T39 rs k] := by
  rw [List.take_succ_eq_append_getElem hk]
  simp [rd_T39, hk]
theorem memD_rd (rs : List S39) (k : Nat) (hk : k < rs.length) : rd_T39 rs k ∈ rs := by
  have : rd_T39 rs k = rs[k] := by simp [rd_T39, hk]
  rw [this]
  exact List.getElem_mem hk
def areB (l : List S39) : Bool := l.all fun x => isB x.f2
theorem areB_no {l : List S39} (k : Nat) (hk : k < l.length) (h : isB (rd_T39 l k).f2 = false) : areB l = false := by
  rw [areB, List.all_eq_false]
  exact ⟨_, memD_rd l k hk, by simp [h]⟩
theorem areB_step {l : List S39} (k : Nat) (hk : k < l.length) (h : areB (l.take k) = true) (hx : isB (rd_T39 l k).f2 = true) : areB (l.take (k + 1)) = true := by
  rw [takeD_rd l k hk, areB, List.all_append, Bool.and_eq_true]
  exact ⟨h, by simpa using hx⟩
set_option maxRecDepth 1000000 in
set_option maxHeartbeats 4000000 in
theorem are_any (b : Nat) (A : Option Addr) (c : Nat) (l : List S39) (w : World) (hr : Kd.C k39 w A l.length l) (hl : l.length ≤ 1000) (hb : w.cell? ⟨b, 0, none⟩ = some (.slice A l.length c)) (hw : ∀ x ∈ l, wfR x.f2 = true) :
    Calls Tryd.prog 56 #[.pointer (some ⟨b, 0, none⟩)] w fun e w' => e = .returned (.bool (areB l)) ∧ Below w.heap.size w w' := by
  have HR := Aside0.mk hr
  have HW := Aside0.mk hw
  have HM0 := Aside0.mk (World.ownsMap_made w Tryd.prog 30 boolR)
  have HB0 := Aside0.mk (below_alloc (Below.refl w.heap.size w) (.map #[] 0))
  have hmm := @run_makeMap Tryd.prog
  have hb1 : (w.alloc (.map #[] 0)).cell? ⟨b, 0, none⟩ = some (.slice A l.length c) := pw_cell_below HB0.out hb
  clear hr hw
  go_enter Tryd.func56, Tryd.ntmps56
  go_wp2
  clear hmm
  go_loopw [14] (fun i wr => ∃ (k : Nat) (D : DataW Unit), k ≤ l.length ∧ i = .int .i64 k ∧ Aside0 (Known D) ∧ Aside0 (wr.ownsMap Tryd.prog 30 boolR w.heap.size k D) ∧ Aside0 (Below w.heap.size w wr) ∧ Aside0 (areB (l.take k) = true)) (fun i _ => l.length - (intOf i).toNat)
  case atStart => exact ⟨0, .map [], Nat.zero_le _, rfl, ⟨known_nil⟩, HM0, HB0, ⟨rfl⟩⟩
  case round =>
    clear HM0 HB0 hb hb1
    obtain ⟨k, D, hk, rfl, HK, HM, HB, HT⟩ := hrel
    by_cases hlt : k < l.length
    · obtain ⟨ad, ea, hx0, hx1, hx2, hx3, hx4, hx5⟩ := at_T39 (Kd.C_below HR.out HB.out) (k : Int) (by omega) (by omega)
      cases ea
      simp only [Int.toNat_natCast] at hx0 hx1 hx2 hx3 hx4 hx5
      have HNO := Aside0.mk (fun h => areB_no k hlt h)
      have HYES := Aside0.mk (fun h => areB_step k hlt HT.out h)
      have hwf := HW.out _ (memD_rd l k hlt)
      generalize rd_T39 l k = x at *
      obtain ⟨x0, x1, ⟨r0, r1, r2, r3⟩⟩ := x
      dsimp only at hx0 hx1 hx2 hx3 hx4 hx5 HNO HYES hwf
      obtain ⟨kl, hkl⟩ := rectKey ⟨r0, r1, r2, r3⟩ hwf
      have HKL := Aside0.mk hkl
      have HN := Aside0.mk (HK.out.2 _ _ hkl)
      have HM1 := Aside0.mk (HM.out.alloc (.cells #[.bool x0, .int .i64 x1, .int .i64 r0, .int .i64 r1, .int .i64 r2, .int .i64 r3] 39))
      have HB1 := Aside0.mk (below_alloc HB.out (.cells #[.bool x0, .int .i64 x1, .int .i64 r0, .int .i64 r1, .int .i64 r2, .int .i64 r3] 39))
      have HV1 := Aside0.mk (blk_new wr (.cells #[.bool x0, .int .i64 x1, .int .i64 r0, .int .i64 r1, .int .i64 r2, .int .i64 r3] 39))
      have hmb := HM.out.lt
      have hsz := HB.out.size
      clear hkl hwf HM HW HR HT
      generalize hq : isB ⟨r0, r1, r2, r3⟩ = q at *
      have HQ := Aside0.mk hq
      clear hq
      by_cases hh : Maps.has D kl = true
      · have HH := Aside0.mk hh
        have HC := Aside0.mk (HN.out.1 hh)
        clear hh
        cases q
        · go_wp2_with (at_lookup; refine look_bool rfl _ _ rfl w.heap.size k D rfl HM1.out _ kl rfl HKL.out _ true HC.out HH.out ?_)
          go_ret
          exact ⟨by rw [HNO.out (by first | rfl | trivial)]; rfl, HB1.out⟩
        · go_wp2_with (at_lookup; refine look_bool rfl _ _ rfl w.heap.size k D rfl HM1.out _ kl rfl HKL.out _ true HC.out HH.out ?_)
          go_roundw
          case rel => exact ⟨k + 1, D, by omega, by go_num, HK, ⟨HM1.out.mono (by omega)⟩, HB1, ⟨HYES.out (by first | rfl | trivial)⟩⟩
          case measure => simp [intOf]; omega
      · have HH := Aside0.mk (Bool.eq_false_iff.mpr hh)
        have HC := Aside0.mk (HN.out.2 HH.out)
        have HP := Aside0.mk (known_put HK.out _ kl HKL.out)
        rw [HQ.out] at HP
        clear hh
        cases q
        · go_wp2_with (first | (at_lookup; refine look_bool rfl _ _ rfl w.heap.size k D rfl HM1.out _ kl rfl HKL.out _ false HC.out HH.out ?_) | (go_at_call 41; refine (isRect_any _ _ _ _ _).mono ?_; rintro e w2 ⟨rfl, hb⟩; rw [HQ.out]; have HM2 := Aside0.mk (HM1.out.kept (grown_of_below hb none) (by simp)); have HB2 := Aside0.mk (below_then HB1.out HB1.out.size hb); have k2 : w2.cell? ⟨wr.heap.size, 2, none⟩ = some (.int .i64 r0) := (blk_cell (blk_below HV1.out hb) 2).trans rfl; have k3 : w2.cell? ⟨wr.heap.size, 3, none⟩ = some (.int .i64 r1) := (blk_cell (blk_below HV1.out hb) 3).trans rfl; have k4 : w2.cell? ⟨wr.heap.size, 4, none⟩ = some (.int .i64 r2) := (blk_cell (blk_below HV1.out hb) 4).trans rfl; have k5 : w2.cell? ⟨wr.heap.size, 5, none⟩ = some (.int .i64 r3) := (blk_cell (blk_below HV1.out hb) 5).trans rfl; clear hb) | (at_mapUpdate; refine wpList_mapUpdate_own _ rfl _ _ _ 105 rfl 30 4 rectLaw Tryd.underlying105 _ w.heap.size k _ rfl HM2.out (by unfold maxLen; omega) _ _ _ rfl rfl HKL.out (.lit (.bool false)) [] rfl ?_; intro w3 hown3 hgrow3; have HM3 := Aside0.mk hown3; have HB3 := Aside0.mk (HB2.out.grown hgrow3 HB2.out.size (fun k e => by cases e; exact Nat.le_refl _)); clear hown3 hgrow3))
          go_ret
          exact ⟨by rw [HNO.out (by first | rfl | trivial)]; rfl, HB3.out⟩
        · go_wp2_with (first | (at_lookup; refine look_bool rfl _ _ rfl w.heap.size k D rfl HM1.out _ kl rfl HKL.out _ false HC.out HH.out ?_) | (go_at_call 41; refine (isRect_any _ _ _ _ _).mono ?_; rintro e w2 ⟨rfl, hb⟩; rw [HQ.out]; have HM2 := Aside0.mk (HM1.out.kept (grown_of_below hb none) (by simp)); have HB2 := Aside0.mk (below_then HB1.out HB1.out.size hb); have k2 : w2.cell? ⟨wr.heap.size, 2, none⟩ = some (.int .i64 r0) := (blk_cell (blk_below HV1.out hb) 2).trans rfl; have k3 : w2.cell? ⟨wr.heap.size, 3, none⟩ = some (.int .i64 r1) := (blk_cell (blk_below HV1.out hb) 3).trans rfl; have k4 : w2.cell? ⟨wr.heap.size, 4, none⟩ = some (.int .i64 r2) := (blk_cell (blk_below HV1.out hb) 4).trans rfl; have k5 : w2.cell? ⟨wr.heap.size, 5, none⟩ = some (.int .i64 r3) := (blk_cell (blk_below HV1.out hb) 5).trans rfl; clear hb) | (at_mapUpdate; refine wpList_mapUpdate_own _ rfl _ _ _ 105 rfl 30 4 rectLaw Tryd.underlying105 _ w.heap.size k _ rfl HM2.out (by unfold maxLen; omega) _ _ _ rfl rfl HKL.out (.lit (.bool true)) [] rfl ?_; intro w3 hown3 hgrow3; have HM3 := Aside0.mk hown3; have HB3 := Aside0.mk (HB2.out.grown hgrow3 HB2.out.size (fun k e => by cases e; exact Nat.le_refl _)); clear hown3 hgrow3))
          go_roundw
          case rel => exact ⟨k + 1, _, by omega, by go_num, HP, HM3, HB3, ⟨HYES.out (by first | rfl | trivial)⟩⟩
          case measure => simp [intOf]; omega
    · have e : k = l.length := by omega
      subst e
      rw [List.take_length] at HT
      go_wp2
      go_ret
      exact ⟨by rw [HT.out]; rfl, HB.out⟩
end Go.Proofs.YtkmddhljfjjglaaDoor.G
