/- Chapter 5: the reference's is. Written by mkF23.py, tmpl.py. -/
import Derived.Test.YtjafcgemgghbiaaDoorF22
namespace Go.Proofs.YtjafcgemgghbiaaDoor.G
open Go.RowKit Go.Shelf Go.Maps Go.MapKept Go.ChangeMaps Go.ChangeShapes Go.Proofs.YtjafcgemgghbiaaDoorW.PrintWords Go.Proofs.YtjafcgemgghbiaaDoorW.PrintLast Go.Proofs.YtjafcgemgghbiaaDoorW.PrintMore
attribute [local irreducible] cN
attribute [local go_sem] max2_int min2_int
theorem rstyR_any {x : Node} {S : Array Value} (h : StyleC x S) (w : World) : Calls Tryd.prog 52 #[.agg S] w fun e w' => e = .returned (.bool (styR x)) ∧ Below w.heap.size w w' := by
  rw [h.eq]; exact gutterref04_Right.calls x.f5.f0 x.f5.f1 x.f5.f2 x.f5.f3 x.f5.f4 x.f5.f5 x.f5.f6 x.f5.f7 x.f5.f8 x.f5.f9 x.f5.f10 x.f5.f11 x.f5.f12 x.f5.f13 x.f5.f14 x.f5.f15 (styR x) w rfl
theorem rstyM_any {x : Node} {S : Array Value} (h : StyleC x S) (w : World) : Calls Tryd.prog 53 #[.agg S] w fun e w' => e = .returned (.bool (styM x)) ∧ Below w.heap.size w w' := by
  rw [h.eq]; exact gutterref04_IsMulti.calls x.f5.f0 x.f5.f1 x.f5.f2 x.f5.f3 x.f5.f4 x.f5.f5 x.f5.f6 x.f5.f7 x.f5.f8 x.f5.f9 x.f5.f10 x.f5.f11 x.f5.f12 x.f5.f13 x.f5.f14 x.f5.f15 (styM x) w rfl
theorem callRR (args : Array Value) (w : World) : (callFunc 52 args).run Tryd.prog w = .ok (.enter 52 args) w := by
  go_simp
theorem callRM (args : Array Value) (w : World) : (callFunc 53 args).run Tryd.prog w = .ok (.enter 53 args) w := by
  go_simp
theorem callRF (args : Array Value) (w : World) : (callFunc 51 args).run Tryd.prog w = .ok (.enter 51 args) w := by
  go_simp
theorem q_loadN {ops : Array Oper} {C : World → Prop} {Q : Act → Prop} {a : Act} {o : Oper} {rest : List Oper} (hw : Region.wanted o (yielded ops a.tmps) = true) (x : Operand) (ho : o.op = .load 32 x) (p : Addr) (hx : a.eval x = .pointer (some p)) (S : Array Value) (hS : S.size = 21)
    (hc : ∀ w, C w → ranges w p S.toList) (hk : wpQuiet Tryd.prog ops C Q rest (a.put o.dst (.agg S))) : wpQuiet Tryd.prog ops C Q (o :: rest) a :=
  q_val hw (fun w hC => by
    unfold Oper.quietAt execOp
    have hl := run_loadVar_p (P := Tryd.prog) w p 32 S.toList _ (hc w hC) Tryd.underlying32 rfl (by rw [infoN]; simp [hS])
    simp only [ho, hx, Instr.loadAt, Instr.sureAddr, Sem.run_bind, Sem.run_pure, Result.andThen_ok, hl, Oper.quietUpon]
    exact ⟨trivial, trivial⟩) hk
theorem loadNg_at {ops : Array Oper} {rest : List Oper} {o : Oper} {a : Act} {W : World} {Q : Exit → Act → World → Prop} (x : Operand) (ho : o.op = .load 32 x) (p : Addr) (hx : a.eval x = .pointer (some p)) (hw : Region.wanted o (yielded ops a.tmps) = true) (M : Array Value) (hM : M.size = 21)
    (hc : ranges W p M.toList) (h : wpList Tryd.prog ops Q rest (a.put o.dst (.agg M)) W) : wpList Tryd.prog ops Q (o :: rest) a W :=
  gate_guard hw (loadN_at rfl x ho p hx M hM hc h)
theorem ldN_gate {ops : Array Oper} {rest : List Oper} {o : Oper} {a : Act} {W : World} {Q : Exit → Act → World → Prop} (x : Operand) (_ho : o.op = .load 32 x) (h : wpList Tryd.prog ops Q (o :: rest) a W) : wpList Tryd.prog ops Q (o :: rest) a W := h
theorem placeB_out {t : List Node} {n : Nat} (h0 : 0 < n) (h : (t.getD n zN).f0 < 0 ∨ (n : Int) ≤ (t.getD n zN).f0) : placeB t n = false := by
  unfold placeB
  rw [if_neg (by omega)]
  have hp : parentOf t n = zN := by rw [parentOf, if_neg (by omega)]
  rw [hp]; rfl
theorem placeB_in {t : List Node} {n p : Nat} (h0 : 0 < n) (h : (t.getD n zN).f0 = p) (h1 : p < n) : placeB t n = holdB (t.getD p zN) := by
  unfold placeB
  rw [if_neg (by omega)]
  have hp : parentOf t n = t.getD p zN := by rw [parentOf, if_pos (by omega), h]; rfl
  rw [hp]
theorem ranges_fld {W : World} {q : Addr} {M : Array Value} (h : ranges W q M.toList) {v : Value} (hv : M[1]? = some v) : W.cell? ⟨q.block, q.off + 1, none⟩ = some v := by
  have := ranges_get h 1 hv
  simpa [Addr.add] using this
theorem parent_zero (t : List Node) : parentOf t 0 = zN := by rw [parentOf, if_neg (by omega)]
theorem parent_in {t : List Node} {n p : Nat} (h0 : 0 < n) (h : (t.getD n zN).f0 = p) (h1 : p < n) : parentOf t n = t.getD p zN := by
  rw [parentOf, if_pos (by omega), h]; rfl
theorem place_true {t : List Node} {n : Nat} (h0 : 0 < n) (h : placeB t n = true) : ∃ p : Nat, p < n ∧ (t.getD n zN).f0 = p := by
  by_cases h1 : (t.getD n zN).f0 < 0 ∨ (n : Int) ≤ (t.getD n zN).f0
  · rw [placeB_out h0 h1] at h; cases h
  · exact ⟨(t.getD n zN).f0.toNat, by omega, by omega⟩
theorem goodB_eq (t : List Node) (n : Nat) : goodB t n = (!!placeB t n && (!!(formB (t.getD n zN) && (styR (t.getD n zN) && ((!decide ((t.getD n zN).f5.f12 ≠ 0) || decide ((t.getD n zN).f1 = 3)) && (styM (t.getD n zN) == decide ((t.getD n zN).f1 = 4))))) && (spanB t n || !(t.getD n zN).f5.f11))) := by
  unfold goodB styleB
  simp only [Bool.not_not, Bool.and_assoc]
set_option maxHeartbeats 1500000 in
set_option maxRecDepth 100000 in
theorem ris_any (t : List Node) (A0 : Option Addr) (c0 n : Nat) (w : World) (hn : n < t.length) (hc : kN.C w A0 t.length t) :
    Calls Tryd.prog 34 #[.slice A0 t.length c0, .int .i64 n] w fun e w' => e = .returned (.bool (goodB t n)) ∧ Below w.heap.size w w' := by
  obtain ⟨ad, M, rfl, hM, hr⟩ := node_at hc n hn
  have hB1 := Aside0.mk (below_alloc (Below.refl w.heap.size w) (.cells M 32))
  have hK := Aside0.mk (blk_new w (.cells M 32))
  have hM2 := Aside0.mk hM
  have hr2 := Aside0.mk hr
  have hS := Aside0.mk hM.style
  have hn' : (n : Int) < t.length := by omega
  rw [goodB_eq]
  obtain ⟨nb, hnb⟩ : ∃ nb, (!placeB t n) = nb := ⟨_, rfl⟩
  obtain ⟨bd, hbd⟩ : ∃ bd, (!(formB (t.getD n zN) && (styR (t.getD n zN) && ((!decide ((t.getD n zN).f5.f12 ≠ 0) || decide ((t.getD n zN).f1 = 3)) && (styM (t.getD n zN) == decide ((t.getD n zN).f1 = 4)))))) = bd := ⟨_, rfl⟩
  obtain ⟨sb, hsb⟩ : ∃ sb, spanB t n = sb := ⟨_, rfl⟩
  rw [hnb, hbd, hsb]
  have HFx := Aside0.mk (fun W => rform_any (t.getD n zN) M hM W)
  have HRx := Aside0.mk (fun W => rstyR_any hM.style W)
  have HMx := Aside0.mk (fun W => rstyM_any hM.style W)
  have hPl : (0 < n → ∀ p : Nat, (t.getD n zN).f0 = p → p < n → ∃ M', NodeC (t.getD p zN) M' ∧ ranges w (ad.add (p * 21)) M'.toList) := fun h0 p hp h1 => by
    obtain ⟨ad', M', e, hM', hr'⟩ := node_at hc p (by omega)
    cases e
    exact ⟨M', hM', hr'⟩
  replace hPl := Aside0.mk hPl
  clear hr hc
  have Q0 := Aside0.mk hM.c0
  have Q1 := Aside0.mk hM.c1
  have Q16 := Aside0.mk hM.c16
  have Q17 := Aside0.mk hM.c17
  replace hbd := Aside0.mk hbd
  replace hsb := Aside0.mk hsb
  replace hnb := Aside0.mk hnb
  clear hM
  go_enter Tryd.func34, Tryd.ntmps34
  go_upto_region 2 with (first | ((with_reducible refine ldN_gate _ rfl ?_); (try go_frame); refine loadNg_at _ rfl (ad.add (n * 21)) rfl (by rfl) M hM2.out.size (by exact hr2.out) ?_) | (refine storeN_at rfl _ _ rfl M _ rfl rfl hM2.out.size hM2.out.one rfl ?_))
  generalize hW : w.alloc (.cells M 32) = W1 at *
  have hrM := Aside0.mk (ranges_blk hK.out)
  go_frame
  go_cut [46] (fun c wx => c = .bool nb ∧ Below W1.heap.size W1 wx)
  case first =>
    have c0' := cell_at hK.out 0 Q0.out
    by_cases h0 : n = 0
    · subst h0
      have hpl : placeB t 0 = (decide ((t.getD 0 zN).f0 = -1) && holdB (t.getD 0 zN)) := by unfold placeB; rw [if_pos rfl]
      obtain ⟨hd, hhd⟩ : ∃ hd, holdB (t.getD 0 zN) = hd := ⟨_, rfl⟩
      have hH := Aside0.mk hhd
      rw [hhd] at hpl
      clear hhd
      obtain ⟨f0, hf0⟩ : ∃ f0, (t.getD 0 zN).f0 = f0 := ⟨_, rfl⟩
      rw [hf0] at hpl c0'
      replace hf0 := Aside0.mk hf0
      replace hpl := Aside0.mk hpl
      by_cases h1 : f0 = -1
      · subst h1
        cases hd
        all_goals
          go_wp2_with (first | ((with_reducible refine ldN_gate _ rfl ?_); (try go_frame); refine loadNg_at _ rfl ⟨w.heap.size, 0, none⟩ rfl (by rfl) M hM2.out.size (by exact hrM.out) ?_) | (go_at_call 50; refine (rholds_any _ M hM2.out _).mono ?_; rintro e w2 ⟨rfl, hb2⟩; rw [hH.out]))
          go_meet
          exact ⟨by rw [← hnb.out, hpl.out]; rfl, hb2⟩
      · go_wp2_with fail
        go_meet
        exact ⟨by rw [← hnb.out, hpl.out, decide_eq_false h1]; rfl, Below.refl ..⟩
    · have hz : ((n : Int) == 0) = false := by simp; omega
      have hz2 : (n : Int) > 0 := by omega
      obtain ⟨f0, hf0⟩ : ∃ f0, (t.getD n zN).f0 = f0 := ⟨_, rfl⟩
      rw [hf0] at c0'
      by_cases h1 : f0 < 0
      · have hpl := Aside0.mk (placeB_out (t := t) (by omega : 0 < n) (.inl (by omega)))
        clear hf0
        go_wp2_with fail
        go_meet
        exact ⟨by rw [← hnb.out, hpl.out]; rfl, Below.refl ..⟩
      · by_cases h2 : f0 ≥ (n : Int)
        · have hpl := Aside0.mk (placeB_out (t := t) (by omega : 0 < n) (.inr (by omega)))
          clear hf0
          go_wp2_with fail
          go_meet
          exact ⟨by rw [← hnb.out, hpl.out]; rfl, Below.refl ..⟩
        · obtain ⟨p, hp⟩ : ∃ p : Nat, f0 = p := ⟨f0.toNat, by omega⟩
          subst hp
          have hpn : p < n := by omega
          have hpl := Aside0.mk (placeB_in (by omega) hf0 hpn)
          obtain ⟨M', hM', hr'⟩ := hPl.out (by omega) p hf0 hpn
          have hM'2 := Aside0.mk hM'
          have hr'2 := Aside0.mk (ranges_below hr' hB1.out)
          obtain ⟨hd, hhd⟩ : ∃ hd, holdB (t.getD p zN) = hd := ⟨_, rfl⟩
          have hH := Aside0.mk hhd
          have k3 : (p : Int) < t.length := by omega
          have k4 : (0 : Int) ≤ p := by omega
          clear hf0 hM' hr' hhd
          go_wp2_with (first | ((with_reducible refine ldN_gate _ rfl ?_); (try go_frame); refine loadNg_at _ rfl (ad.add (p * 21)) rfl (by rfl) M' hM'2.out.size (by exact hr'2.out) ?_) | (go_at_call 50; refine (rholds_any _ M' hM'2.out _).mono ?_; rintro e w2 ⟨rfl, hb2⟩; rw [hH.out]))
          go_meet
          exact ⟨by rw [← hnb.out, hpl.out, hH.out], hb2⟩
  case rest =>
    obtain ⟨rfl, hb3⟩ := hcut
    cases nb with
    | true =>
      go_wp2
      go_ret
      exact ⟨rfl, below_then hB1.out hB1.out.size hb3⟩
    | false =>
      have hB3 := Aside0.mk hb3
      have C0 := Aside0.mk (below_drew hB3.out)
      have D1 := Aside0.mk (fun w' (h : Below W1.heap.size W1 w') => cell_at (blk_below hK.out h) 1 Q1.out)
      have D17 := Aside0.mk (fun w' (h : Below W1.heap.size W1 w') => cell_at (blk_below hK.out h) 17 Q17.out)
      have D16 := Aside0.mk (fun w' (h : Below W1.heap.size W1 w') => cell_at (blk_below hK.out h) 16 Q16.out)
      have D0 := Aside0.mk (fun w' (h : Below W1.heap.size W1 w') => cell_at (blk_below hK.out h) 0 Q0.out)
      have DS := Aside0.mk (fun w' (h : Below W1.heap.size W1 w') => ranges_below (ranges_style hK.out) h)
      have DM := Aside0.mk (fun w' (h : Below W1.heap.size W1 w') => ranges_below (ranges_blk hK.out) h)
      go_upto_region 4 with fail
      go_cut [75] (fun c wx => c = .bool bd ∧ Below W1.heap.size W1 wx)
      case first =>
        generalize formB (t.getD n zN) = F at *
        generalize styR (t.getD n zN) = R at *
        generalize styM (t.getD n zN) = Mm at *
        generalize (t.getD n zN).f1 = k at *
        generalize (t.getD n zN).f5.f12 = sd at *
        obtain ⟨fl, hfl⟩ : ∃ fl, decide (sd ≠ 0) = fl := ⟨_, rfl⟩
        rw [hfl] at hbd
        have hfl2 : (sd != 0) = fl := by rw [← hfl]; simp [bne]; by_cases h : sd = 0 <;> simp [h]
        replace hfl := Aside0.mk hfl
        have HFc := Aside0.mk (fun wz (hz : Below W1.heap.size W1 wz) => (HFx.out wz).mono fun e w' h => (⟨h.1, below_then hz hz.size h.2⟩ : e = .returned (.bool F) ∧ Below W1.heap.size W1 w'))
        have HRc := Aside0.mk (fun wz (hz : Below W1.heap.size W1 wz) => (HRx.out wz).mono fun e w' h => (⟨h.1, below_then hz hz.size h.2⟩ : e = .returned (.bool R) ∧ Below W1.heap.size W1 w'))
        have HMc := Aside0.mk (fun wz (hz : Below W1.heap.size W1 wz) => (HMx.out wz).mono fun e w' h => (⟨h.1, below_then hz hz.size h.2⟩ : e = .returned (.bool Mm) ∧ Below W1.heap.size W1 w'))
        clear HFx HRx HMx
        cases F
        · refine region_quiet_in (C := fun w' => Below W1.heap.size W1 w') (by kernel_rfl) (by kernel_rfl) C0.out ?_
          repeat (first
            | go_big_quiet_skip
            | (refine q_loadN (by rfl) _ rfl _ rfl M hM2.out.size DM.out ?_; go_frame)
            | (refine q_loadS (by rfl) _ rfl _ rfl _ hS.out.size DS.out ?_; go_frame)
            | (refine q_loadV (by rfl) 3 _ rfl ⟨w.heap.size, 1, none⟩ rfl _ Tryd.underlying3 rfl D1.out ?_; go_frame)
            | (refine q_loadV (by rfl) 3 _ rfl ⟨w.heap.size, 17, none⟩ rfl _ Tryd.underlying3 rfl D17.out ?_; go_frame)
            | ((with_reducible refine q_gate 51 _ _ rfl ?_); refine q_call (by rfl) 51 _ _ rfl callRF _ rfl (.bool false) HFc.out ?_; go_frame)
            | ((with_reducible refine q_gate 52 _ _ rfl ?_); refine q_call (by rfl) 52 _ _ rfl callRR _ rfl (.bool R) HRc.out ?_; go_frame)
            | ((with_reducible refine q_gate 53 _ _ rfl ?_); refine q_call (by rfl) 53 _ _ rfl callRM _ rfl (.bool Mm) HMc.out ?_; go_frame)
            | (go_big_quiet_want; go_big_quiet_op; first | go_big_quiet_on | (refine ⟨_, fun _ _ => rfl, ?_⟩; go_big_quiet_on)))
          refine wpQuiet_nil ?_
          intro w4 h4
          go_wp2_with fail
          go_meet
          exact ⟨by rw [← hbd.out]; simp [], h4⟩
        · cases R
          · refine region_quiet_in (C := fun w' => Below W1.heap.size W1 w') (by kernel_rfl) (by kernel_rfl) C0.out ?_
            repeat (first
              | go_big_quiet_skip
              | (refine q_loadN (by rfl) _ rfl _ rfl M hM2.out.size DM.out ?_; go_frame)
              | (refine q_loadS (by rfl) _ rfl _ rfl _ hS.out.size DS.out ?_; go_frame)
              | (refine q_loadV (by rfl) 3 _ rfl ⟨w.heap.size, 1, none⟩ rfl _ Tryd.underlying3 rfl D1.out ?_; go_frame)
              | (refine q_loadV (by rfl) 3 _ rfl ⟨w.heap.size, 17, none⟩ rfl _ Tryd.underlying3 rfl D17.out ?_; go_frame)
              | ((with_reducible refine q_gate 51 _ _ rfl ?_); refine q_call (by rfl) 51 _ _ rfl callRF _ rfl (.bool true) HFc.out ?_; go_frame)
              | ((with_reducible refine q_gate 52 _ _ rfl ?_); refine q_call (by rfl) 52 _ _ rfl callRR _ rfl (.bool false) HRc.out ?_; go_frame)
              | ((with_reducible refine q_gate 53 _ _ rfl ?_); refine q_call (by rfl) 53 _ _ rfl callRM _ rfl (.bool Mm) HMc.out ?_; go_frame)
              | (go_big_quiet_want; go_big_quiet_op; first | go_big_quiet_on | (refine ⟨_, fun _ _ => rfl, ?_⟩; go_big_quiet_on)))
            refine wpQuiet_nil ?_
            intro w4 h4
            go_wp2_with fail
            go_meet
            exact ⟨by rw [← hbd.out]; simp [], h4⟩
          · cases fl
            · by_cases x4 : k = 4
              · subst x4
                cases Mm
                · refine region_quiet_in (C := fun w' => Below W1.heap.size W1 w') (by kernel_rfl) (by kernel_rfl) C0.out ?_
                  repeat (first
                    | go_big_quiet_skip
                    | (refine q_loadN (by rfl) _ rfl _ rfl M hM2.out.size DM.out ?_; go_frame)
                    | (refine q_loadS (by rfl) _ rfl _ rfl _ hS.out.size DS.out ?_; go_frame)
                    | (refine q_loadV (by rfl) 3 _ rfl ⟨w.heap.size, 1, none⟩ rfl _ Tryd.underlying3 rfl D1.out ?_; go_frame)
                    | (refine q_loadV (by rfl) 3 _ rfl ⟨w.heap.size, 17, none⟩ rfl _ Tryd.underlying3 rfl D17.out ?_; go_frame)
                    | ((with_reducible refine q_gate 51 _ _ rfl ?_); refine q_call (by rfl) 51 _ _ rfl callRF _ rfl (.bool true) HFc.out ?_; go_frame)
                    | ((with_reducible refine q_gate 52 _ _ rfl ?_); refine q_call (by rfl) 52 _ _ rfl callRR _ rfl (.bool true) HRc.out ?_; go_frame)
                    | ((with_reducible refine q_gate 53 _ _ rfl ?_); refine q_call (by rfl) 53 _ _ rfl callRM _ rfl (.bool false) HMc.out ?_; go_frame)
                    | (go_big_quiet_want; go_big_quiet_op; first | go_big_quiet_on | (refine ⟨_, fun _ _ => rfl, ?_⟩; go_big_quiet_on)))
                  refine wpQuiet_nil ?_
                  intro w4 h4
                  go_wp2_with fail
                  go_meet
                  exact ⟨by rw [← hbd.out]; simp [], h4⟩
                · refine region_quiet_in (C := fun w' => Below W1.heap.size W1 w') (by kernel_rfl) (by kernel_rfl) C0.out ?_
                  repeat (first
                    | go_big_quiet_skip
                    | (refine q_loadN (by rfl) _ rfl _ rfl M hM2.out.size DM.out ?_; go_frame)
                    | (refine q_loadS (by rfl) _ rfl _ rfl _ hS.out.size DS.out ?_; go_frame)
                    | (refine q_loadV (by rfl) 3 _ rfl ⟨w.heap.size, 1, none⟩ rfl _ Tryd.underlying3 rfl D1.out ?_; go_frame)
                    | (refine q_loadV (by rfl) 3 _ rfl ⟨w.heap.size, 17, none⟩ rfl _ Tryd.underlying3 rfl D17.out ?_; go_frame)
                    | ((with_reducible refine q_gate 51 _ _ rfl ?_); refine q_call (by rfl) 51 _ _ rfl callRF _ rfl (.bool true) HFc.out ?_; go_frame)
                    | ((with_reducible refine q_gate 52 _ _ rfl ?_); refine q_call (by rfl) 52 _ _ rfl callRR _ rfl (.bool true) HRc.out ?_; go_frame)
                    | ((with_reducible refine q_gate 53 _ _ rfl ?_); refine q_call (by rfl) 53 _ _ rfl callRM _ rfl (.bool true) HMc.out ?_; go_frame)
                    | (go_big_quiet_want; go_big_quiet_op; first | go_big_quiet_on | (refine ⟨_, fun _ _ => rfl, ?_⟩; go_big_quiet_on)))
                  refine wpQuiet_nil ?_
                  intro w4 h4
                  go_wp2_with fail
                  go_meet
                  exact ⟨by rw [← hbd.out]; simp [], h4⟩
              · have x4' : (k == 4) = false := by simp [x4]
                cases Mm
                · refine region_quiet_in (C := fun w' => Below W1.heap.size W1 w') (by kernel_rfl) (by kernel_rfl) C0.out ?_
                  repeat (first
                    | go_big_quiet_skip
                    | (refine q_loadN (by rfl) _ rfl _ rfl M hM2.out.size DM.out ?_; go_frame)
                    | (refine q_loadS (by rfl) _ rfl _ rfl _ hS.out.size DS.out ?_; go_frame)
                    | (refine q_loadV (by rfl) 3 _ rfl ⟨w.heap.size, 1, none⟩ rfl _ Tryd.underlying3 rfl D1.out ?_; go_frame)
                    | (refine q_loadV (by rfl) 3 _ rfl ⟨w.heap.size, 17, none⟩ rfl _ Tryd.underlying3 rfl D17.out ?_; go_frame)
                    | ((with_reducible refine q_gate 51 _ _ rfl ?_); refine q_call (by rfl) 51 _ _ rfl callRF _ rfl (.bool true) HFc.out ?_; go_frame)
                    | ((with_reducible refine q_gate 52 _ _ rfl ?_); refine q_call (by rfl) 52 _ _ rfl callRR _ rfl (.bool true) HRc.out ?_; go_frame)
                    | ((with_reducible refine q_gate 53 _ _ rfl ?_); refine q_call (by rfl) 53 _ _ rfl callRM _ rfl (.bool false) HMc.out ?_; go_frame)
                    | (go_big_quiet_want; go_big_quiet_op; first | go_big_quiet_on | (refine ⟨_, fun _ _ => rfl, ?_⟩; go_big_quiet_on)))
                  refine wpQuiet_nil ?_
                  intro w4 h4
                  go_wp2_with fail
                  go_meet
                  exact ⟨by rw [← hbd.out]; simp [x4], h4⟩
                · refine region_quiet_in (C := fun w' => Below W1.heap.size W1 w') (by kernel_rfl) (by kernel_rfl) C0.out ?_
                  repeat (first
                    | go_big_quiet_skip
                    | (refine q_loadN (by rfl) _ rfl _ rfl M hM2.out.size DM.out ?_; go_frame)
                    | (refine q_loadS (by rfl) _ rfl _ rfl _ hS.out.size DS.out ?_; go_frame)
                    | (refine q_loadV (by rfl) 3 _ rfl ⟨w.heap.size, 1, none⟩ rfl _ Tryd.underlying3 rfl D1.out ?_; go_frame)
                    | (refine q_loadV (by rfl) 3 _ rfl ⟨w.heap.size, 17, none⟩ rfl _ Tryd.underlying3 rfl D17.out ?_; go_frame)
                    | ((with_reducible refine q_gate 51 _ _ rfl ?_); refine q_call (by rfl) 51 _ _ rfl callRF _ rfl (.bool true) HFc.out ?_; go_frame)
                    | ((with_reducible refine q_gate 52 _ _ rfl ?_); refine q_call (by rfl) 52 _ _ rfl callRR _ rfl (.bool true) HRc.out ?_; go_frame)
                    | ((with_reducible refine q_gate 53 _ _ rfl ?_); refine q_call (by rfl) 53 _ _ rfl callRM _ rfl (.bool true) HMc.out ?_; go_frame)
                    | (go_big_quiet_want; go_big_quiet_op; first | go_big_quiet_on | (refine ⟨_, fun _ _ => rfl, ?_⟩; go_big_quiet_on)))
                  refine wpQuiet_nil ?_
                  intro w4 h4
                  go_wp2_with fail
                  go_meet
                  exact ⟨by rw [← hbd.out]; simp [x4], h4⟩
            · by_cases x3 : k = 3
              · subst x3
                cases Mm
                · refine region_quiet_in (C := fun w' => Below W1.heap.size W1 w') (by kernel_rfl) (by kernel_rfl) C0.out ?_
                  repeat (first
                    | go_big_quiet_skip
                    | (refine q_loadN (by rfl) _ rfl _ rfl M hM2.out.size DM.out ?_; go_frame)
                    | (refine q_loadS (by rfl) _ rfl _ rfl _ hS.out.size DS.out ?_; go_frame)
                    | (refine q_loadV (by rfl) 3 _ rfl ⟨w.heap.size, 1, none⟩ rfl _ Tryd.underlying3 rfl D1.out ?_; go_frame)
                    | (refine q_loadV (by rfl) 3 _ rfl ⟨w.heap.size, 17, none⟩ rfl _ Tryd.underlying3 rfl D17.out ?_; go_frame)
                    | ((with_reducible refine q_gate 51 _ _ rfl ?_); refine q_call (by rfl) 51 _ _ rfl callRF _ rfl (.bool true) HFc.out ?_; go_frame)
                    | ((with_reducible refine q_gate 52 _ _ rfl ?_); refine q_call (by rfl) 52 _ _ rfl callRR _ rfl (.bool true) HRc.out ?_; go_frame)
                    | ((with_reducible refine q_gate 53 _ _ rfl ?_); refine q_call (by rfl) 53 _ _ rfl callRM _ rfl (.bool false) HMc.out ?_; go_frame)
                    | (go_big_quiet_want; go_big_quiet_op; first | go_big_quiet_on | (refine ⟨_, fun _ _ => rfl, ?_⟩; go_big_quiet_on)))
                  refine wpQuiet_nil ?_
                  intro w4 h4
                  go_wp2_with fail
                  go_meet
                  exact ⟨by rw [← hbd.out]; simp [], h4⟩
                · refine region_quiet_in (C := fun w' => Below W1.heap.size W1 w') (by kernel_rfl) (by kernel_rfl) C0.out ?_
                  repeat (first
                    | go_big_quiet_skip
                    | (refine q_loadN (by rfl) _ rfl _ rfl M hM2.out.size DM.out ?_; go_frame)
                    | (refine q_loadS (by rfl) _ rfl _ rfl _ hS.out.size DS.out ?_; go_frame)
                    | (refine q_loadV (by rfl) 3 _ rfl ⟨w.heap.size, 1, none⟩ rfl _ Tryd.underlying3 rfl D1.out ?_; go_frame)
                    | (refine q_loadV (by rfl) 3 _ rfl ⟨w.heap.size, 17, none⟩ rfl _ Tryd.underlying3 rfl D17.out ?_; go_frame)
                    | ((with_reducible refine q_gate 51 _ _ rfl ?_); refine q_call (by rfl) 51 _ _ rfl callRF _ rfl (.bool true) HFc.out ?_; go_frame)
                    | ((with_reducible refine q_gate 52 _ _ rfl ?_); refine q_call (by rfl) 52 _ _ rfl callRR _ rfl (.bool true) HRc.out ?_; go_frame)
                    | ((with_reducible refine q_gate 53 _ _ rfl ?_); refine q_call (by rfl) 53 _ _ rfl callRM _ rfl (.bool true) HMc.out ?_; go_frame)
                    | (go_big_quiet_want; go_big_quiet_op; first | go_big_quiet_on | (refine ⟨_, fun _ _ => rfl, ?_⟩; go_big_quiet_on)))
                  refine wpQuiet_nil ?_
                  intro w4 h4
                  go_wp2_with fail
                  go_meet
                  exact ⟨by rw [← hbd.out]; simp [], h4⟩
              · have x3' : (k != 3) = true := by simp [x3]
                refine region_quiet_in (C := fun w' => Below W1.heap.size W1 w') (by kernel_rfl) (by kernel_rfl) C0.out ?_
                repeat (first
                  | go_big_quiet_skip
                  | (refine q_loadN (by rfl) _ rfl _ rfl M hM2.out.size DM.out ?_; go_frame)
                  | (refine q_loadS (by rfl) _ rfl _ rfl _ hS.out.size DS.out ?_; go_frame)
                  | (refine q_loadV (by rfl) 3 _ rfl ⟨w.heap.size, 1, none⟩ rfl _ Tryd.underlying3 rfl D1.out ?_; go_frame)
                  | (refine q_loadV (by rfl) 3 _ rfl ⟨w.heap.size, 17, none⟩ rfl _ Tryd.underlying3 rfl D17.out ?_; go_frame)
                  | ((with_reducible refine q_gate 51 _ _ rfl ?_); refine q_call (by rfl) 51 _ _ rfl callRF _ rfl (.bool true) HFc.out ?_; go_frame)
                  | ((with_reducible refine q_gate 52 _ _ rfl ?_); refine q_call (by rfl) 52 _ _ rfl callRR _ rfl (.bool true) HRc.out ?_; go_frame)
                  | ((with_reducible refine q_gate 53 _ _ rfl ?_); refine q_call (by rfl) 53 _ _ rfl callRM _ rfl (.bool Mm) HMc.out ?_; go_frame)
                  | (go_big_quiet_want; go_big_quiet_op; first | go_big_quiet_on | (refine ⟨_, fun _ _ => rfl, ?_⟩; go_big_quiet_on)))
                refine wpQuiet_nil ?_
                intro w4 h4
                go_wp2_with fail
                go_meet
                exact ⟨by rw [← hbd.out]; simp [x3], h4⟩
      case rest =>
        obtain ⟨rfl, hb5⟩ := hcut
        cases bd with
        | true =>
          go_wp2
          go_ret
          exact ⟨rfl, below_then hB1.out hB1.out.size hb5⟩
        | false =>
          have c1 := D1.out _ hb5
          have c0' := D0.out _ hb5
          have c16 := D16.out _ hb5
          have c17 := D17.out _ hb5
          have HB5 := Aside0.mk hb5
          clear hb5 hb3
          go_upto_region 6 with fail
          go_cut [6] (fun c wx => c = .bool sb ∧ Below W1.heap.size W1 wx)
          case first =>
            have hsp : sb = spanB t n := hsb.out.symm
            unfold spanB at hsp
            by_cases h0 : n = 0
            · subst h0
              rw [parent_zero, show decide (zN.f1 = 4) = false from rfl, Bool.false_and, Bool.and_false] at hsp
              replace hsp := Aside0.mk hsp
              go_wp2_with fail
              go_meet
              exact ⟨by rw [hsp.out], HB5.out⟩
            · have hz2 : (n : Int) > 0 := by omega
              obtain ⟨p, hpn, hp⟩ := place_true (t := t) (n := n) (by omega) (by have := hnb.out; simpa using this)
              obtain ⟨M', hM', hr'⟩ := hPl.out (by omega) p hp hpn
              have g1 := ranges_fld (ranges_below (ranges_below hr' hB1.out) HB5.out) hM'.c1
              rw [parent_in (by omega) hp hpn] at hsp
              rw [hp] at c0'
              generalize (t.getD p zN).f1 = k' at *
              generalize (t.getD n zN).f1 = k at *
              generalize (t.getD n zN).f5.f12 = sd at *
              replace hsp := Aside0.mk hsp
              have k1 : ¬ (p : Int) < 0 := by omega
              have k3 : (p : Int) < t.length := by omega
              have k4 : (0 : Int) ≤ p := by omega
              clear hp hM' hr'
              by_cases x4 : k' = 4
              · subst x4
                by_cases x1 : k = 1
                · subst x1
                  go_wp2_with fail
                  all_goals (go_meet; exact ⟨by rw [hsp.out]; simp [*, beq0], HB5.out⟩)
                · by_cases x3 : k = 3
                  · subst x3
                    go_wp2_with fail
                    all_goals (go_meet; exact ⟨by rw [hsp.out]; simp [*, beq0], HB5.out⟩)
                  · go_wp2_with fail
                    all_goals (go_meet; exact ⟨by rw [hsp.out]; simp [*, beq0], HB5.out⟩)
              · by_cases x1 : k = 1
                · subst x1
                  go_wp2_with fail
                  all_goals (go_meet; exact ⟨by rw [hsp.out]; simp [*, beq0], HB5.out⟩)
                · by_cases x3 : k = 3
                  · subst x3
                    go_wp2_with fail
                    all_goals (go_meet; exact ⟨by rw [hsp.out]; simp [*, beq0], HB5.out⟩)
                  · go_wp2_with fail
                    all_goals (go_meet; exact ⟨by rw [hsp.out]; simp [*, beq0], HB5.out⟩)
          case rest =>
            obtain ⟨rfl, hb6⟩ := hcut
            have c16 := D16.out _ hb6
            obtain ⟨sp, hs⟩ : ∃ sp, (t.getD n zN).f5.f11 = sp := ⟨_, rfl⟩
            rw [hs] at c16
            replace hs := Aside0.mk hs
            cases sp
            all_goals
              go_wp2
              go_ret
              exact ⟨by rw [hs.out]; simp, below_then hB1.out hB1.out.size hb6⟩
end Go.Proofs.YtjafcgemgghbiaaDoor.G
