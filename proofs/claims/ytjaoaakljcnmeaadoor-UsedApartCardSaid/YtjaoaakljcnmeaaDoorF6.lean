/- Chapter 6: the columns of a measure that is right. Written by mkF6.py. -/
import Derived.Test.YtjaoaakljcnmeaaDoorF5
namespace Go.Proofs.YtjaoaakljcnmeaaDoor.G
open Go.RowKit Go.Maps Go.Proofs.YtjaoaakljcnmeaaDoorW.PrintWords Go.Proofs.YtjaoaakljcnmeaaDoorW.PrintLast Go.Proofs.YtjaoaakljcnmeaaDoorW.PrintMore

/-- How columns read that lie in the map. -/
def colR (v : Value) : Option (DataW Unit × List MemPlace) :=
  match v with
  | .agg cs => match cs.toList with
    | [.int .i64 n, .int .i64 w] => some (.agg [.lit (.int .i64 n), .lit (.int .i64 w)], [])
    | _ => none
  | _ => none
theorem colR_mk (n w : Int) : colR (.agg #[.int .i64 n, .int .i64 w]) = some (.agg [.lit (.int .i64 n), .lit (.int .i64 w)], []) := rfl
theorem colR_inv {v : Value} {n w : Int} {ps : List MemPlace} (h : colR v = some (.agg [.lit (.int .i64 n), .lit (.int .i64 w)], ps)) : v = .agg #[.int .i64 n, .int .i64 w] := by
  unfold colR at h
  split at h
  · rename_i cs
    split at h
    · rename_i a b e
      have e2 : cs = #[.int .i64 a, .int .i64 b] := by rw [← Array.toArray_toList (xs := cs), e]
      simp at h
      obtain ⟨⟨rfl, rfl⟩, -⟩ := h
      rw [e2]
    · cases h
  · cases h
theorem laidOutP : laidOutB Tryd.prog = true := by kernel_rfl
theorem row47 : (47 : TypeId) < Tryd.prog.types.size := of_decide_eq_true (by kernel_rfl)
theorem wide47 : (match Tryd.prog.underlying 47 with | some (.array _ _) | some (.struct _) => true | _ => false) = true := by rw [Tryd.underlying47]
theorem deep47 : Tryd.prog.keyTypeAt 3 47 = true := by kernel_rfl
set_option maxRecDepth 1000000 in
theorem measureLaw : Keyed Tryd.prog 47 := Keyed.of_law (deep_law_laid laidOutP (m := 3) (by omega) row47 deep47 wide47)
theorem zero41 (w : World) : (zeroValue 41).run Tryd.prog w = .ok (.agg #[.int .i64 0, .int .i64 0]) w := by kernel_rfl
/-- A look-up behind a store at the same key. -/
theorem look_back {W : World} {b k : Nat} {D : DataW Unit} {M : Array Value} {kl : Lit} {n c : Int} (h : W.ownsMap Tryd.prog 47 colR b k (D.put kl (.agg [.lit (.int .i64 n), .lit (.int .i64 c)]))) (hD : IsMap D) (hk : keyOf Tryd.prog 47 (.agg M) = some kl) :
    (Instr.lookup 58 (.map (some b)) (.agg M) false).run Tryd.prog W = .ok (.agg #[.int .i64 n, .int .i64 c]) W := by
  obtain ⟨v, ps, hrun, hv⟩ := h.lookup measureLaw Tryd.underlying58 (zero41 _) (show colR (.agg #[.int .i64 0, .int .i64 0]) = some (.agg [.lit (.int .i64 0), .lit (.int .i64 0)], []) from rfl) hk
  rw [atKey_put_same hD (measureLaw.key hk)] at hv
  rw [hrun, colR_inv hv]
/-- How many, and how wide. -/
def wideZ (n gap av : Int) : Int := if (n - 1) * gap < av then (av - (n - 1) * gap) / n else 0
theorem yields47 {ops : Array Oper} {op : Oper} {a : Act} {b : Nat} {M : Array Value} (hM : M.size = 17) (hw : Region.wanted op (yielded ops a.tmps) = true) (x : Operand) (ho : op.op = .load 47 x) (hx : a.eval x = .pointer (some ⟨b, 0, none⟩)) :
    YieldsIf Tryd.prog ops (fun w' => w'.heap[b]? = some (.cells M 47 (0, 0))) op (.agg M) a :=
  .inl ⟨hw, fun w hw' => by
    unfold execOp
    simp only [ho, hx]
    rw [Sem.run_bind, load47 w b M hM hw']
    rfl⟩
theorem GM.grown {w W W1 : World} {M : Array Value} (h : GM w M W) (hg : W.grownBy W1 (some (w.heap.size + 1 + 1))) : GM w M W1 :=
  ⟨(hg.block _ (blk_lt h.1) (by simp; omega)).trans h.1, (hg.block _ (blk_lt h.2.1) (by simp)).trans h.2.1, h.2.2.grown hg h.2.2.size (fun k e => by cases e; omega)⟩
set_option maxRecDepth 1000000 in
set_option maxHeartbeats 4000000 in
theorem used_ok (M S : Array Value) (av gap n : Int) (kl : Lit) (w : World) (hM : M.size = 17) (hS : M.extract 0 16 = S) (hR : ∀ w' : World, Calls Tryd.prog 29 #[.agg S] w' fun e w'' => e = .returned (.bool true) ∧ Below w'.heap.size w' w'')
    (hQ : ∀ w' : World, Calls Tryd.prog 30 #[.agg S] w' fun e w'' => e = .returned (.bool true) ∧ Below w'.heap.size w' w'') (hav : M[16]? = some (.int .i64 av)) (hgap : M[2]? = some (.int .i64 gap)) (hz : sizB av = true)
    (hN : ∀ w' : World, GOK w' → Calls Tryd.prog 31 #[.agg M] w' fun e w'' => e = .returned (.int .i64 n) ∧ Below w'.heap.size w' w'') (hkl : keyOf Tryd.prog 47 (.agg M) = some kl) (hn : 1 ≤ n ∧ n ≤ 1000) (hg : sizB gap = true) (hG : GOK w) :
    Calls Tryd.prog 21 #[.agg M] w fun e w' => e = .returned (.tuple #[.agg #[.int .i64 n, .int .i64 (wideZ n gap av)], .nilIface]) ∧ Below w.heap.size w w' := by
  have hmm := @run_makeMap Tryd.prog
  have G0 := Aside0.mk (GM.start w M)
  have hO := World.ownsMap_made ((w.alloc (.cells M 47)).alloc (.cells #[.int .i64 0, .int .i64 0] 41)) Tryd.prog 47 colR
  rw [show ((w.alloc (.cells M 47)).alloc (.cells #[.int .i64 0, .int .i64 0] 41)).heap.size = w.heap.size + 1 + 1 from by simp] at hO
  have O0 := Aside0.mk hO
  clear hO
  have HR := Aside0.mk hR
  have HQ := Aside0.mk hQ
  have HM := Aside0.mk hM
  have HS := Aside0.mk hS
  have HN := Aside0.mk hN
  have HK := Aside0.mk hkl
  have HG := Aside0.mk hG
  have HZ := Aside0.mk (show [av].all sizB = true by simp [hz])
  have HAV := Aside0.mk hav
  have HGA := Aside0.mk hgap
  clear hR hQ hM hS hN hkl hG hav hgap hz
  go_enter Tryd.func21, Tryd.ntmps21
  go_wp2_with fail
  refine wp_scope_straight ?_
  go_wp2_with (first | (refine load23_at rfl _ rfl w.heap.size rfl M S HM.out HS.out G0.out.1 ?_) | (refine gate_guard (by rfl) ?_; refine load23_at rfl _ rfl w.heap.size rfl M S HM.out HS.out G1.out.1 ?_) | (go_at_call 29; refine (HR.out _).mono ?_; rintro e w1 ⟨rfl, hb⟩; have G1 := Aside0.mk (G0.out.below hb); have O1 := Aside0.mk (O0.out.kept (grown_of_below hb none) (by simp)); clear hb) | (go_at_call 30; refine (HQ.out _).mono ?_; rintro e w2 ⟨rfl, hb⟩; have G2 := Aside0.mk (G1.out.below hb); have O2 := Aside0.mk (O1.out.kept (grown_of_below hb none) (by simp)); have cav := Aside0.mk ((blk_cell G2.out.1 16).trans HAV.out); have c16 := cav.out; clear hb) | (go_at_call 24; refine (sizes_any _ 1 [av] _ (fresh_C w2 2 [av] (by simp)) (Nat.le_refl _) (by simp)).mono ?_; rintro e w3 ⟨rfl, hb⟩; rw [HZ.out]; have G3 := Aside0.mk ((G2.out.below (below_alloc (Below.refl _ _) _)).below hb); have O3 := Aside0.mk ((O2.out.alloc _).kept (grown_of_below hb none) (by simp)); clear hb c16))
  refine wp_region_noPanic ?_
  refine wp_region_held_drew (S := fun w' => w'.heap[w.heap.size]? = some (.cells M 47 (0, 0))) (by kernel_rfl) G3.out.1 (fun hHeld => ?_)
  refine wpAnyH_take (i := 0) (oi := { dst := some 29, op := Op.move (Operand.tmp 4), type := 58, pos := "used.go:88", after := #[], guard := none }) (v := .map (some (w.heap.size + 1 + 1))) rfl (by kernel_rfl) (by kernel_rfl) (by kernel_rfl) (fun _ _ _ h => h) (Or.inl ⟨by rfl, fun w' _ => by rfl⟩) (by assumption) ?_
  refine wpAnyH_take (i := 1) (oi := { dst := some 30, op := Op.load 47 (Operand.tmp 1), type := 47, pos := "used.go:88", after := #[], guard := none }) (v := .agg M) rfl (by kernel_rfl) (by kernel_rfl) (by kernel_rfl) (fun _ _ _ h => h) (yields47 HM.out (by rfl) _ rfl rfl) (by assumption) ?_
  refine wpAnyH_take (i := 2) (oi := { dst := some 31, op := Op.load 47 (Operand.tmp 1), type := 47, pos := "used.go:88", after := #[], guard := none }) (v := .agg M) rfl (by kernel_rfl) (by kernel_rfl) (by kernel_rfl) (fun _ _ _ h => h) (yields47 HM.out (by rfl) _ rfl rfl) (by assumption) ?_
  simp only [Act.put, List.setIfInBounds_toArray, List.set_cons_zero, List.set_cons_succ]
  refine wpAnyH_ready (rs := [3]) (by kernel_rfl) (by simp) ?_
  refine AllReadyH.cons (o := { dst := some 32, op := Op.call { callee := Callee.value (Operand.func 31), args := #[Operand.tmp 31], argTypes := #[47] }, type := 3, pos := "used.go:88", after := #[{ on := 2, ground := Ground.data }], guard := none }) rfl (fun K hK => ?_) AllReadyH.nil
  rw [if_pos (by rfl)]
  go_simp
  refine (HN.out _ (HG.out.below (below_drew1 G3.out.2.2))).mono ?_
  rintro e w4 ⟨rfl, hb⟩
  have G4 := Aside0.mk (GM.below (show GM w M w3.drew from ⟨G3.out.1, G3.out.2.1, below_drew1 G3.out.2.2⟩) hb)
  have O4 := Aside0.mk (World.ownsMap.kept O3.out.drew (grown_of_below hb none) (by simp))
  clear hb
  go_simp
  refine hK.out _ _ G4.out.1 (fun hHeld2 => ?_)
  clear hK K
  refine wpAnyH_take (i := 4) (oi := { dst := some 33, op := Op.build 41 #[(0, Operand.tmp 32)], type := 41, pos := "used.go:88", after := #[{ on := 3, ground := Ground.data }], guard := none }) (v := .agg #[.int .i64 n, .int .i64 0]) rfl (by kernel_rfl) (by kernel_rfl) (by kernel_rfl) (fun _ _ _ h => h) (Or.inl ⟨by rfl, fun w' _ => by go_simp⟩) (by assumption) ?_
  simp only [Act.put, List.setIfInBounds_toArray, List.set_cons_zero, List.set_cons_succ]
  refine wpAnyH_ready (rs := [5]) (by kernel_rfl) (by simp) ?_
  refine AllReadyH.cons (o := { dst := none, op := Op.mapUpdate 58 (Operand.tmp 29) (Operand.tmp 30) (Operand.tmp 33), type := 0, pos := "used.go:88", after := #[{ on := 0, ground := Ground.data }, { on := 1, ground := Ground.data }, { on := 4, ground := Ground.data }, { on := 3, ground := Ground.chain }, { on := 0, ground := Ground.phase }, { on := 1, ground := Ground.phase }, { on := 2, ground := Ground.phase }, { on := 3, ground := Ground.phase }, { on := 4, ground := Ground.phase }], guard := none }) rfl (fun K hK => ?_) AllReadyH.nil
  rw [if_pos (by rfl)]
  obtain ⟨w5, hrun, hown5, hgrow5⟩ := O4.out.update measureLaw Tryd.underlying58 (by unfold maxLen; omega) HK.out (colR_mk n 0)
  go_simp
  have G5 := Aside0.mk (G4.out.grown hgrow5)
  refine hK.out _ _ G5.out.1 (fun hHeld3 => ?_)
  clear hK K hHeld hHeld2 hHeld3 hrun hgrow5
  refine wpAnyH_done (by kernel_rfl) ?_ _
  refine NoPanic.normal ?_
  have l5 := look_back hown5 ⟨[], rfl⟩ HK.out
  have O5 := Aside0.mk hown5
  have hb6 := below_alloc (Below.refl w5.heap.size w5) (.cells #[.int .i64 n, .int .i64 0] 41)
  have G6 := Aside0.mk (G5.out.below hb6)
  have b5 := Aside0.mk G5.out.1
  have b6 := Aside0.mk G6.out.1
  have O6 := Aside0.mk (O5.out.kept (grown_of_below hb6 none) (by simp))
  have B6 := Aside0.mk (blk_new w5 (.cells #[.int .i64 n, .int .i64 0] 41))
  have c16 := (blk_cell G6.out.1 16).trans HAV.out
  have c2 := (blk_cell G6.out.1 2).trans HGA.out
  have d0 := blk_cell G6.out.2.1 0
  have d1 := blk_cell G6.out.2.1 1
  have e0 := blk_frozen G6.out.2.1 0
  have e1 := blk_frozen G6.out.2.1 1
  simp only [List.getElem?_toArray, List.getElem?_cons_zero, List.getElem?_cons_succ] at d0 d1
  clear hown5 hb6
  have HI := Aside0.mk hn
  obtain ⟨n1, n2⟩ := hn
  obtain ⟨g1, g2⟩ := (sizB_iff gap).1 hg
  have hp0 : 0 ≤ (n - 1) * gap := Int.mul_nonneg (by omega) g1
  have hp1 : (n - 1) * gap ≤ 1047527424 := by
    have h := Int.mul_le_mul (a := n - 1) (b := gap) (c := 999) (d := 1048576) (by omega) g2 g1 (by omega)
    omega
  have hpw : wrap64 ((n - 1) * gap) = (n - 1) * gap := i64_in (by omega) (by omega)
  have hpw : wrap64 (wrap64 (n - 1) * gap) = (n - 1) * gap := by rw [i64_in (x := n - 1) (by omega) (by omega)]; exact hpw
  obtain ⟨a1, a2⟩ := (sizB_iff av).1 (by simpa using HZ.out)
  by_cases hlt : wrap64 (wrap64 (n - 1) * gap) < av
  · have hlt' : decide (wrap64 (wrap64 (n - 1) * gap) < av) = true := decide_eq_true hlt
    have hlt2 : (n - 1) * gap < av := by rw [hpw] at hlt; exact hlt
    have HW := Aside0.mk (show wideZ n gap av = (av - (n - 1) * gap) / n by rw [wideZ, if_pos hlt2])
    have HWS := Aside0.mk (show wrap64 (av - wrap64 (wrap64 (n - 1) * gap)) = av - (n - 1) * gap by rw [hpw]; exact i64_in (by omega) (by omega))
    have HDV := Aside0.mk (fun w' : World => div_ok (av - (n - 1) * gap) n w' (by simp [lenB]; omega) (by omega) (by unfold r64; omega))
    have HDZ := Aside0.mk (divZ_pos (a := av - (n - 1) * gap) (n := n) (by omega) (by omega))
    have HGW := Aside0.mk (HG.out.below G6.out.2.2)
    generalize (av - (n - 1) * gap) / n = q at *
    generalize av - (n - 1) * gap = r at *
    clear hpw hp0 hp1 a1 a2 g1 g2 n1 n2 hlt2
    go_wp2_with (first | (refine load47_at rfl _ rfl w.heap.size rfl M HM.out (by with_reducible first | exact b8.out | exact b7.out | exact b6.out | exact b5.out) ?_) | (go_at_call 32; rw [HWS.out]; refine (HDV.out _ HGW.out).mono ?_; rintro e w7 ⟨rfl, hb⟩; rw [HDZ.out]; have G7 := Aside0.mk (G6.out.below hb); have b7 := Aside0.mk G7.out.1; have O7 := Aside0.mk (O6.out.kept (grown_of_below hb none) (by simp)); have c7 := blk_cell (blk_below B6.out hb) 0; simp only [List.getElem?_toArray, List.getElem?_cons_zero] at c7; clear hb c16 c2 l5 d0 d1 e0 e1) | (at_mapUpdate; refine wpList_mapUpdate_own _ rfl _ _ _ 58 rfl 47 41 measureLaw Tryd.underlying58 _ (w.heap.size + 1 + 1) 1 _ rfl O7.out (by unfold maxLen; omega) _ _ _ rfl rfl HK.out _ [] (colR_mk n q) ?_; intro w8 hown8 hgrow8; have G8 := Aside0.mk (G7.out.grown hgrow8); have b8 := Aside0.mk G8.out.1; have l8 := look_back hown8 ⟨_, rfl⟩ HK.out; have d0 := blk_cell G8.out.2.1 0; have d1 := blk_cell G8.out.2.1 1; have e0 := blk_frozen G8.out.2.1 0; have e1 := blk_frozen G8.out.2.1 1; simp only [List.getElem?_toArray, List.getElem?_cons_zero, List.getElem?_cons_succ] at d0 d1; clear hown8 hgrow8))
    rw [Exit.noGoto_ret]
    have k1 := blk_put G8.out.2.1 0 (.int .i64 n) (cs' := #[.int .i64 n, .int .i64 0]) rfl
    have k2 := blk_put k1 1 (.int .i64 q) (cs' := #[.int .i64 n, .int .i64 q]) rfl
    refine bodyPost_ret (results_ct rfl _ _ (w.heap.size + 1) 41 #[.int .i64 n, .int .i64 q] (0, 0) _ rfl k2 Tryd.underlying41 rfl (by kernel_rfl)) rfl ?_
    rw [HW.out]
    exact ⟨rfl, (G8.out.2.2.setCell (p := ⟨w.heap.size + 1, 0, none⟩) (by show w.heap.size ≤ w.heap.size + 1; omega) _).setCell (p := ⟨w.heap.size + 1, 1, none⟩) (by show w.heap.size ≤ w.heap.size + 1; omega) _⟩
  · have hlt' : decide (wrap64 (wrap64 (n - 1) * gap) < av) = false := decide_eq_false hlt
    have HW := Aside0.mk (show wideZ n gap av = 0 by rw [hpw] at hlt; rw [wideZ, if_neg hlt])
    have l6 := look_back O6.out ⟨[], rfl⟩ HK.out
    clear hpw hp0 hp1 a1 a2 g1 g2 n1 n2
    go_wp2_with (refine load47_at rfl _ rfl w.heap.size rfl M HM.out (by with_reducible first | exact b6.out | exact b5.out) ?_)
    have k1 := blk_put G6.out.2.1 0 (.int .i64 n) (cs' := #[.int .i64 n, .int .i64 0]) rfl
    have k2 := blk_put k1 1 (.int .i64 0) (cs' := #[.int .i64 n, .int .i64 0]) rfl
    refine bodyPost_ret (results_ct rfl _ _ (w.heap.size + 1) 41 #[.int .i64 n, .int .i64 0] (0, 0) _ rfl k2 Tryd.underlying41 rfl (by kernel_rfl)) rfl ?_
    rw [HW.out]
    exact ⟨rfl, (G6.out.2.2.setCell (p := ⟨w.heap.size + 1, 0, none⟩) (by show w.heap.size ≤ w.heap.size + 1; omega) _).setCell (p := ⟨w.heap.size + 1, 1, none⟩) (by show w.heap.size ≤ w.heap.size + 1; omega) _⟩
end Go.Proofs.YtjaoaakljcnmeaaDoor.G
