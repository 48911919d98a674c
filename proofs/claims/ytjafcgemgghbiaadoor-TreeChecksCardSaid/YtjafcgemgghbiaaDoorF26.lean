/- Chapter 5: are two trees the same? Written by mkF26.py, tmpl.py. -/
import Derived.Test.YtjafcgemgghbiaaDoorF25
namespace Go.Proofs.YtjafcgemgghbiaaDoor.G
open Go.RowKit Go.Shelf Go.Maps Go.MapKept Go.ChangeMaps Go.ChangeShapes Go.Proofs.YtjafcgemgghbiaaDoorW.PrintWords Go.Proofs.YtjafcgemgghbiaaDoorW.PrintLast Go.Proofs.YtjafcgemgghbiaaDoorW.PrintMore
attribute [local irreducible] cN
set_option maxRecDepth 100000 in
theorem q_neqN {ops : Array Oper} {C : World → Prop} {Q : Act → Prop} {a : Act} {o : Oper} {rest : List Oper} (hw : Region.wanted o (yielded ops a.tmps) = true) (x y : Operand) (ho : o.op = .binOp .neq 32 x y 32) (nx ny : Node) (M M' : Array Value) (hx : a.eval x = .agg M) (hy : a.eval y = .agg M') (h : NodeC nx M) (h' : NodeC ny M')
    (u : Bool) (hu : (!eqN nx ny) = u) (hk : wpQuiet Tryd.prog ops C Q rest (a.put o.dst (.bool u))) : wpQuiet Tryd.prog ops C Q (o :: rest) a :=
  q_val hw (fun w _ => by
    subst hu
    have he := fun d => eqN_run d w h h'
    unfold Oper.quietAt execOp
    simp only [ho, hx, hy]
    have h2 : (Op.equal 32 (.agg M) (.agg M')).run Tryd.prog w = .ok (eqN nx ny) w := he _
    have hg : (eqGuard BinOp.neq 32 x y (.agg M) (.agg M')).run Tryd.prog w = .ok () w := by
      have h1 : Tryd.prog.eqGuardType Tryd.prog.depth 32 = false := by kernel_rfl
      simp [eqGuard, Sem.run_bind, h1]
    simp [Sem.run_bind, hg, binOp, h2, Oper.quietUpon]) hk
/-- Are two trees the same? -/
def sameB (a b : List Node) : Bool := decide (a.length = b.length) && (List.range a.length).all fun j => eqN (a.getD j zN) (b.getD j zN)
theorem same_false {a b : List Node} {k : Nat} (hk : k < a.length) (h : eqN (a.getD k zN) (b.getD k zN) = false) : sameB a b = false := by
  unfold sameB
  rw [Bool.and_eq_false_iff]
  right
  rw [List.all_eq_false]
  exact ⟨k, List.mem_range.2 hk, by rw [h]; decide⟩
theorem same_true {a b : List Node} (hl : a.length = b.length) (h : ∀ j, j < a.length → eqN (a.getD j zN) (b.getD j zN) = true) : sameB a b = true := by
  unfold sameB
  rw [decide_eq_true hl, Bool.true_and, List.all_eq_true]
  exact fun j hj => h j (List.mem_range.1 hj)
set_option maxHeartbeats 1000000 in
set_option maxRecDepth 100000 in
theorem rsame_any (a b : List Node) (A0 B0 : Option Addr) (c0 c1 : Nat) (w : World) (hca : kN.C w A0 a.length a) (hcb : kN.C w B0 b.length b) (hc0 : a.length ≤ c0) (hc1 : b.length ≤ c1) (hla : a.length ≤ 1000) :
    Calls Tryd.prog 26 #[.slice A0 a.length c0, .slice B0 b.length c1] w fun e w' => e = .returned (.bool (sameB a b)) ∧ Below w.heap.size w w' := by
  have HA := Aside0.mk hca
  have HB := Aside0.mk hcb
  have _h0 := hc0
  have _h1 := hc1
  have HLA := Aside0.mk hla
  clear hca hcb
  by_cases hl : a.length = b.length
  · have hl' : (a.length : Int) = b.length := by omega
    have HS := Aside0.mk hl
    go_enter Tryd.func26, Tryd.ntmps26
    go_wp2
    go_loopw [5] (fun i wr => ∃ k : Nat, i = .int .i64 k ∧ k ≤ a.length ∧ Aside0 (∀ j, j < k → eqN (a.getD j zN) (b.getD j zN) = true) ∧ Aside0 (Below w.heap.size w wr)) (fun i _ => a.length - (intZ i).toNat)
    case atStart => exact ⟨0, rfl, Nat.zero_le _, ⟨fun j hj => by omega⟩, ⟨Below.refl ..⟩⟩
    case round =>
      obtain ⟨k, rfl, hk, HE, HW⟩ := hrel
      by_cases hlt : k < a.length
      · have hlt' : (k : Int) < a.length := by omega
        have HLT := Aside0.mk hlt
        have hlb : (k : Int) < b.length := by omega
        obtain ⟨ad, M, rfl, hM, hr⟩ := node_at (Kd.C_below HA.out HW.out) k hlt
        obtain ⟨ad', M', rfl, hM', hr'⟩ := node_at (Kd.C_below HB.out HW.out) k (by omega)
        obtain ⟨x, hx⟩ : ∃ x, a.getD k zN = x := ⟨_, rfl⟩
        obtain ⟨y, hy⟩ : ∃ y, b.getD k zN = y := ⟨_, rfl⟩
        rw [hx] at hM
        rw [hy] at hM'
        obtain ⟨e, hxy⟩ : ∃ e, eqN x y = e := ⟨_, rfl⟩
        have he1 := Aside0.mk (show eqN (a.getD k zN) (b.getD k zN) = e by rw [hx, hy, hxy])
        clear hx hy
        have hM2 := Aside0.mk hM
        have hM2' := Aside0.mk hM'
        have DM := Aside0.mk (fun w' (h : Below wr.heap.size wr w') => ranges_below hr h)
        have DM' := Aside0.mk (fun w' (h : Below wr.heap.size wr w') => ranges_below hr' h)
        clear hM hM' hr hr'
        go_upto_region 6 with fail
        cases e with
        | false =>
          have he := Aside0.mk (show (!eqN x y) = true by rw [hxy]; rfl)
          clear hxy
          have C0 := Aside0.mk (below_drew (Below.refl wr.heap.size wr))
          refine region_quiet_in (C := fun w' => Below wr.heap.size wr w') (by kernel_rfl) (by kernel_rfl) C0.out ?_
          repeat (first
            | go_big_quiet_skip
            | (refine q_loadN (by rfl) _ rfl (ad.add (k * 21)) rfl M hM2.out.size DM.out ?_; go_frame)
            | (refine q_loadN (by rfl) _ rfl (ad'.add (k * 21)) rfl M' hM2'.out.size DM'.out ?_; go_frame)
            | (refine q_neqN (by rfl) _ _ rfl _ _ M M' rfl rfl hM2.out hM2'.out true he.out ?_; go_frame)
            | (go_big_quiet_want; go_big_quiet_op; first | go_big_quiet_on | (refine ⟨_, fun _ _ => rfl, ?_⟩; go_big_quiet_on)))
          refine wpQuiet_nil ?_
          intro w4 h4
          go_wp2
          go_ret
          exact ⟨by rw [same_false hlt he1.out]; rfl, below_then HW.out HW.out.size h4⟩
        | true =>
          have he := Aside0.mk (show (!eqN x y) = false by rw [hxy]; rfl)
          clear hxy
          have C0 := Aside0.mk (below_drew (Below.refl wr.heap.size wr))
          refine region_quiet_in (C := fun w' => Below wr.heap.size wr w') (by kernel_rfl) (by kernel_rfl) C0.out ?_
          repeat (first
            | go_big_quiet_skip
            | (refine q_loadN (by rfl) _ rfl (ad.add (k * 21)) rfl M hM2.out.size DM.out ?_; go_frame)
            | (refine q_loadN (by rfl) _ rfl (ad'.add (k * 21)) rfl M' hM2'.out.size DM'.out ?_; go_frame)
            | (refine q_neqN (by rfl) _ _ rfl _ _ M M' rfl rfl hM2.out hM2'.out false he.out ?_; go_frame)
            | (go_big_quiet_want; go_big_quiet_op; first | go_big_quiet_on | (refine ⟨_, fun _ _ => rfl, ?_⟩; go_big_quiet_on)))
          refine wpQuiet_nil ?_
          intro w4 h4
          go_wp2
          have hl2 := HS.out
          have hlt2 := HLT.out
          have hla2 := HLA.out
          refine ⟨⟨k + 1, by go_num, by omega, ⟨fun j hj => ?_⟩, ⟨below_then HW.out HW.out.size h4⟩⟩, by simp [intZ]; omega⟩
          by_cases e : j = k
          · subst e; exact he1.out
          · exact HE.out j (by omega)
      · have hke : k = a.length := by omega
        subst hke
        go_wp2
        go_ret
        exact ⟨by rw [same_true HS.out HE.out]; rfl, HW.out⟩
  · have hl' : ¬ (a.length : Int) = b.length := by omega
    rw [show sameB a b = false by unfold sameB; rw [decide_eq_false hl]; rfl]
    go_enter Tryd.func26, Tryd.ntmps26
    go_wp2
    go_ret
    exact ⟨rfl, Below.refl ..⟩
set_option maxHeartbeats 1000000 in
set_option maxRecDepth 100000 in
theorem equal_any (a b : List Node) (A0 B0 : Option Addr) (c0 c1 : Nat) (w : World) (hca : kN.C w A0 a.length a) (hcb : kN.C w B0 b.length b) (hc0 : a.length ≤ c0) (hc1 : b.length ≤ c1) (hla : a.length ≤ 1000) :
    Calls Tryd.prog 39 #[.slice A0 a.length c0, .slice B0 b.length c1] w fun e w' => e = .returned (.bool (sameB a b)) ∧ Below w.heap.size w w' := by
  have HA := Aside0.mk hca
  have HB := Aside0.mk hcb
  have _h0 := hc0
  have _h1 := hc1
  have HLA := Aside0.mk hla
  clear hca hcb
  by_cases hl : a.length = b.length
  · have hl' : (a.length : Int) = b.length := by omega
    have HS := Aside0.mk hl
    go_enter Tryd.func39, Tryd.ntmps39
    go_wp2
    go_loopw [13] (fun i wr => ∃ k : Nat, i = .int .i64 k ∧ k ≤ a.length ∧ Aside0 (∀ j, j < k → eqN (a.getD j zN) (b.getD j zN) = true) ∧ Aside0 (Below w.heap.size w wr)) (fun i _ => a.length - (intZ i).toNat)
    case atStart => exact ⟨0, rfl, Nat.zero_le _, ⟨fun j hj => by omega⟩, ⟨Below.refl ..⟩⟩
    case round =>
      obtain ⟨k, rfl, hk, HE, HW⟩ := hrel
      by_cases hlt : k < a.length
      · have hlt' : (k : Int) < a.length := by omega
        have HLT := Aside0.mk hlt
        have hlb : (k : Int) < b.length := by omega
        obtain ⟨ad, M, rfl, hM, hr⟩ := node_at (Kd.C_below HA.out HW.out) k hlt
        obtain ⟨ad', M', rfl, hM', hr'⟩ := node_at (Kd.C_below HB.out HW.out) k (by omega)
        obtain ⟨x, hx⟩ : ∃ x, a.getD k zN = x := ⟨_, rfl⟩
        obtain ⟨y, hy⟩ : ∃ y, b.getD k zN = y := ⟨_, rfl⟩
        rw [hx] at hM
        rw [hy] at hM'
        obtain ⟨e, hxy⟩ : ∃ e, eqN x y = e := ⟨_, rfl⟩
        have he1 := Aside0.mk (show eqN (a.getD k zN) (b.getD k zN) = e by rw [hx, hy, hxy])
        clear hx hy
        have hM2 := Aside0.mk hM
        have hM2' := Aside0.mk hM'
        have DM := Aside0.mk (fun w' (h : Below wr.heap.size wr w') => ranges_below hr h)
        have DM' := Aside0.mk (fun w' (h : Below wr.heap.size wr w') => ranges_below hr' h)
        clear hM hM' hr hr'
        go_upto_region 6 with fail
        cases e with
        | false =>
          have he := Aside0.mk (show (!eqN x y) = true by rw [hxy]; rfl)
          clear hxy
          have C0 := Aside0.mk (below_drew (Below.refl wr.heap.size wr))
          refine region_quiet_in (C := fun w' => Below wr.heap.size wr w') (by kernel_rfl) (by kernel_rfl) C0.out ?_
          repeat (first
            | go_big_quiet_skip
            | (refine q_loadN (by rfl) _ rfl (ad.add (k * 21)) rfl M hM2.out.size DM.out ?_; go_frame)
            | (refine q_loadN (by rfl) _ rfl (ad'.add (k * 21)) rfl M' hM2'.out.size DM'.out ?_; go_frame)
            | (refine q_neqN (by rfl) _ _ rfl _ _ M M' rfl rfl hM2.out hM2'.out true he.out ?_; go_frame)
            | (go_big_quiet_want; go_big_quiet_op; first | go_big_quiet_on | (refine ⟨_, fun _ _ => rfl, ?_⟩; go_big_quiet_on)))
          refine wpQuiet_nil ?_
          intro w4 h4
          go_wp2
          go_ret
          exact ⟨by rw [same_false hlt he1.out]; rfl, below_then HW.out HW.out.size h4⟩
        | true =>
          have he := Aside0.mk (show (!eqN x y) = false by rw [hxy]; rfl)
          clear hxy
          have C0 := Aside0.mk (below_drew (Below.refl wr.heap.size wr))
          refine region_quiet_in (C := fun w' => Below wr.heap.size wr w') (by kernel_rfl) (by kernel_rfl) C0.out ?_
          repeat (first
            | go_big_quiet_skip
            | (refine q_loadN (by rfl) _ rfl (ad.add (k * 21)) rfl M hM2.out.size DM.out ?_; go_frame)
            | (refine q_loadN (by rfl) _ rfl (ad'.add (k * 21)) rfl M' hM2'.out.size DM'.out ?_; go_frame)
            | (refine q_neqN (by rfl) _ _ rfl _ _ M M' rfl rfl hM2.out hM2'.out false he.out ?_; go_frame)
            | (go_big_quiet_want; go_big_quiet_op; first | go_big_quiet_on | (refine ⟨_, fun _ _ => rfl, ?_⟩; go_big_quiet_on)))
          refine wpQuiet_nil ?_
          intro w4 h4
          go_wp2
          have hl2 := HS.out
          have hlt2 := HLT.out
          have hla2 := HLA.out
          refine ⟨⟨k + 1, by go_num, by omega, ⟨fun j hj => ?_⟩, ⟨below_then HW.out HW.out.size h4⟩⟩, by simp [intZ]; omega⟩
          by_cases e : j = k
          · subst e; exact he1.out
          · exact HE.out j (by omega)
      · have hke : k = a.length := by omega
        subst hke
        go_wp2
        go_ret
        exact ⟨by rw [same_true HS.out HE.out]; rfl, HW.out⟩
  · have hl' : ¬ (a.length : Int) = b.length := by omega
    rw [show sameB a b = false by unfold sameB; rw [decide_eq_false hl]; rfl]
    go_enter Tryd.func39, Tryd.ntmps39
    go_wp2
    go_ret
    exact ⟨rfl, Below.refl ..⟩
set_option maxRecDepth 100000 in
theorem tsame_any (a b : List Node) (A0 B0 : Option Addr) (c0 c1 : Nat) (w : World) (hca : kN.C w A0 a.length a) (hcb : kN.C w B0 b.length b) (hc0 : a.length ≤ c0) (hc1 : b.length ≤ c1) (hla : a.length ≤ 1000) :
    Calls Tryd.prog 25 #[.slice A0 a.length c0, .slice B0 b.length c1] w fun e w' => e = .returned (.bool (sameB a b)) ∧ Below w.heap.size w w' := by
  have HE := Aside0.mk (equal_any a b A0 B0 c0 c1 w hca hcb hc0 hc1 hla)
  clear hca hcb
  go_enter Tryd.func25, Tryd.ntmps25
  go_wp2_with (first | (go_at_call 39; refine HE.out.mono ?_; rintro e w2 ⟨rfl, hb⟩))
  go_ret
  exact ⟨rfl, hb⟩
end Go.Proofs.YtjafcgemgghbiaaDoor.G
