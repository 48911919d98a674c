/- Chapter 18: what slices.Collect collects of the iterator. Written by mkF7.py. -/
import Derived.Test.YtkmddhljfjjglaaDoorF6
namespace Go.Proofs.YtkmddhljfjjglaaDoor.G
open Go.RowKit Go.Shelf Go.Proofs.YtkmddhljfjjglaaDoorW.PrintWords Go.Proofs.YtkmddhljfjjglaaDoorW.PrintLast Go.Proofs.YtkmddhljfjjglaaDoorW.PrintMore
attribute [local go_sem] Oper.semAt_some

theorem cells_new (W : World) (t : TypeId) (l : List Value) (j : Nat) (u : Value) (h : l[j]? = some u) : (W.alloc (.cells l.toArray t)).cell? (Addr.add ⟨W.heap.size, 0, none⟩ j) = some u := by
  rw [add_plain, World.cell?_alloc_new]
  simp [h]
set_option maxRecDepth 100000 in
set_option maxHeartbeats 4000000 in
theorem appendSeq_that (Bc Bi C : Nat) (g : Nat) (lb : Array Value) (p : S39 → Bool) (A : Option Addr) (c : Nat) (l : List S39) (w0 : World) (PF : World → Prop) (eg : ∀ args w, (callFunc g args).run Tryd.prog w = .ok (.enter g args) w)
    (hPF : ∀ W W', PF W → Below W.heap.size W W' → PF W') (hP : ∀ (x : S39) W, PF W → Calls Tryd.prog g (#[vS39 x] ++ lb) W fun e W' => e = .returned (.bool (p x)) ∧ Below W.heap.size W W')
    (hr : Kd.C k39 w0 A l.length l) (hl : l.length ≤ 1000) (w : World) (hCw : ∀ W', Below w.heap.size w W' → Cv w0 Bc Bi C (.func (.func g) #[] lb) A l.length c PF W') :
    CallsIn Fence.wide 6 Tryd.prog 57 #[.slice none 0 0, .func (.func 58) #[] #[.pointer (some ⟨Bc, 0, none⟩), .pointer (some ⟨Bi, 0, none⟩)]] w fun e W' => ∃ v, e = .returned v ∧ W'.ownsRow w.heap.size 39 6 v (l.filter p).length (row39 (l.filter p)) ∧ Below w.heap.size w W' := by
  obtain ⟨i0, hi, hz0, hz1, hz2⟩ := info_parts infoD
  have HI := Aside0.mk hi
  have HP := Aside0.mk hP
  have HPF := Aside0.mk hPF
  have HR := Aside0.mk hr
  have HCW := Aside0.mk hCw
  clear hP hPF hr hi hCw
  refine callsIn_of_wp_marks Tryd.func57 rfl trivial ?_ rfl
  simp only [Tryd.ntmps57, List.size_toArray, List.length_cons, List.length_nil, Nat.reduceAdd, Nat.reduceSub, Array.replicate_succ, Array.replicate_zero, List.push_toArray, List.append_toArray, List.nil_append, List.cons_append]
  gi_wp2
  have bO := Boxed.new w 35 (.slice none 0 0)
  have hB0 : Below w.heap.size w (w.alloc (.cells #[.slice none 0 0] 35)) := below_alloc (Below.refl _ _) _
  have z1 : (w.alloc (.cells #[.slice none 0 0] 35)).heap.size = w.heap.size + 1 := by simp
  have BO := Aside0.mk bO
  have HB0 := Aside0.mk hB0
  clear bO hB0
  generalize w.alloc (.cells #[.slice none 0 0] 35) = Wa at *
  refine range_any (F := Fence.wide) rfl (by omega) (gf := 58) (lb := #[.pointer (some ⟨Bc, 0, none⟩), .pointer (some ⟨Bi, 0, none⟩)]) rfl trivial (enters_of Tryd.func58 (by kernel_rfl) rfl)
    (fun W2 => (∃ v, Boxed W2 w.heap.size 35 v ∧ W2.ownsRow w.heap.size 39 6 v (l.filter p).length (row39 (l.filter p))) ∧ Below w.heap.size w W2) (fun _ => False) ?hcall ?hdone ?hstop
  case hstop => exact fun _ _ h => h.elim
  case hcall =>
    intro fn r hfn hrec
    have hst : r.state = .ready := by rw [hrec]
    have hpe : r.pending = none := by rw [hrec]
    have hrf : Fence.wide.fn r.fn := trivial
    have ready0 : ReadyAt r (w.heap.size + 1) ((Wa.alloc (.deferred (some []))).alloc (.loop r)) := by
      rw [← z1]
      refine ⟨?_, blk_alloc (blk_new Wa _) _⟩
      have := blk_new (Wa.alloc (.deferred (some []))) (.loop r)
      simpa using this
    have below0 : Below Wa.heap.size Wa ((Wa.alloc (.deferred (some []))).alloc (.loop r)) := below_alloc (below_alloc (Below.refl _ _) _) _
    have below1 := below_then HB0.out HB0.out.size below0
    refine (that_in 5 (by omega) (Wa.heap.size + 1) Bc Bi C g lb p A c l w0 PF eg HPF.out HP.out HR.out hl (Colx w r) (fun _ _ => False) (fun s W W' h hb => h.below hb) ?hY _ (HCW.out _ below1)
      ⟨ready0, ⟨_, blk_below BO.out below0, World.ownsRow_nil _ _ _ _⟩, below1⟩).mono ?_
    case hY =>
      rintro pre ⟨x0, x1, ⟨r0, r1, r2, r3⟩⟩ W hJ hlen
      obtain ⟨h1, ⟨v, h2, h3⟩, h4⟩ := hJ
      rw [z1]
      have hsz := h4.size
      refine (yield_round (R := fun W' => Colx w r (pre ++ [⟨x0, x1, ⟨r0, r1, r2, r3⟩⟩]) W') (Rx := fun _ => False) h1.1 hst hpe hrf (by rw [hrec]; rfl) ?_).mono ?_
      case _ =>
        have e1 := congrArg Loop.assign hrec
        have e2 := congrArg Loop.params hrec
        have e3 := congrArg Loop.body hrec
        have e4 := congrArg Loop.tmps hrec
        dsimp only at e1 e2 e3 e4
        clear hrec
        generalize hbz : ({ r with state := LoopState.busy } : Loop) = rb
        rw [e1, e2, e3, e4]
        clear e1 e2 e3 e4
        have H1 := Aside0.mk h1
        have H2 := Aside0.mk h2
        have H3 := Aside0.mk h3
        have H4 := Aside0.mk h4
        have hlt := blk_lt h1.1
        clear h1 h2 h3 h4 ready0 below0 below1
        unfold vS39
        gi_wp2
        refine And.intro (blk_alloc H1.out.1 _) ?_
        have hl := blk_alloc H1.out.1 (.cells #[.bool x0, .int .i64 x1, .int .i64 r0, .int .i64 r1, .int .i64 r2, .int .i64 r3] 39)
        have hd := blk_alloc H1.out.2 (.cells #[.bool x0, .int .i64 x1, .int .i64 r0, .int .i64 r1, .int .i64 r2, .int .i64 r3] 39)
        have hp0 := blk_new W (.cells #[.bool x0, .int .i64 x1, .int .i64 r0, .int .i64 r1, .int .i64 r2, .int .i64 r3] 39)
        have hb := blk_alloc H2.out (.cells #[.bool x0, .int .i64 x1, .int .i64 r0, .int .i64 r1, .int .i64 r2, .int .i64 r3] 39)
        have ho := H3.out.alloc (.cells #[.bool x0, .int .i64 x1, .int .i64 r0, .int .i64 r1, .int .i64 r2, .int .i64 r3] 39)
        have hB := below_alloc H4.out (.cells #[.bool x0, .int .i64 x1, .int .i64 r0, .int .i64 r1, .int .i64 r2, .int .i64 r3] 39)
        generalize W.alloc (.cells #[.bool x0, .int .i64 x1, .int .i64 r0, .int .i64 r1, .int .i64 r2, .int .i64 r3] 39) = Wa1 at *
        have hl2 : (Wa1.putObj (w.heap.size + 1 + 1) (.loop rb)).heap[w.heap.size + 1 + 1]? = some (.loop rb) := World.putObj_heap_same (blk_lt hl)
        have hp2 := (World.putObj_heap_other (w := Wa1) (o := .loop rb) (show W.heap.size ≠ w.heap.size + 1 + 1 by omega)).trans hp0
        have hd2 := (World.putObj_heap_other (w := Wa1) (o := .loop rb) (show w.heap.size + 1 ≠ w.heap.size + 1 + 1 by omega)).trans hd
        have hb2 : Boxed (Wa1.putObj (w.heap.size + 1 + 1) (.loop rb)) w.heap.size 35 v := (World.putObj_heap_other (w := Wa1) (o := .loop rb) (show w.heap.size ≠ w.heap.size + 1 + 1 by omega)).trans hb
        have ho2 := ownsRow_putObj ho (.loop rb) hl rfl
        have hB2 := hB.trans (belowK_b (w := w) (Nat.le_refl _) Wa1 (w.heap.size + 1 + 1) _ (.loop rb) (by omega) hl rfl rfl)
        clear hp0 hd hb ho hB hl
        generalize Wa1.putObj (w.heap.size + 1 + 1) (.loop rb) = Wb at *
        have hc0 := hb2.cell
        have k0 : Wb.cell? ⟨W.heap.size, 0, none⟩ = some (.bool x0) := (blk_cell hp2 0).trans rfl
        have k1 : Wb.cell? ⟨W.heap.size, 1, none⟩ = some (.int .i64 x1) := (blk_cell hp2 1).trans rfl
        have k2 : Wb.cell? ⟨W.heap.size, 2, none⟩ = some (.int .i64 r0) := (blk_cell hp2 2).trans rfl
        have k3 : Wb.cell? ⟨W.heap.size, 3, none⟩ = some (.int .i64 r1) := (blk_cell hp2 3).trans rfl
        have k4 : Wb.cell? ⟨W.heap.size, 4, none⟩ = some (.int .i64 r2) := (blk_cell hp2 4).trans rfl
        have k5 : Wb.cell? ⟨W.heap.size, 5, none⟩ = some (.int .i64 r3) := (blk_cell hp2 5).trans rfl
        have F1 := Aside0.mk hl2
        have F2 := Aside0.mk hd2
        have F3 := Aside0.mk hb2
        have F4 := Aside0.mk ho2
        have F5 := Aside0.mk hB2
        have hsz2 := hB2.size
        clear hl2 hp2 hd2 hb2 ho2 hB2
        gi_wp2_with (gi_at_builtin; refine wpListIn_append_own _ rfl _ _ 35 rfl w.heap.size 39 i0 (.agg #[(.bool false), (.int .i64 0), (.int .i64 0), (.int .i64 0), (.int .i64 0), (.int .i64 0)]) 6 48 Tryd.underlying35 HI.out hz0 hz1 hz2 rfl (by decide) _ _ _ rfl (F4.out.alloc _) ⟨Wb.heap.size, 0, none⟩ 1 1 (cs39 ⟨x0, x1, ⟨r0, r1, r2, r3⟩⟩) rfl rfl (fun j u h => cells_new Wb 39 (cs39 ⟨x0, x1, ⟨r0, r1, r2, r3⟩⟩) j u h) (by simp [Value.oneCell', cs39]) (by unfold maxLen; omega) (by omega) (by simp; omega) ?_; intro v' w1 hown' hgrow _; obtain ⟨g', cap', rfl⟩ := ownsRow_succ hown'; obtain ⟨hv1, hv2, hr2, hk2, hbel⟩ := F3.out.appended (by decide) F4.out hsz2 (Nat.le_refl _) hown' hgrow; have G2 := Aside0.mk hv2; have G3 := Aside0.mk hr2; have G4 := Aside0.mk hk2; have G5 := Aside0.mk hbel; have hc1 := hv1.cell; have hf1 := hv1.frozen; clear hv1 hv2 hr2 hk2 hbel hown' hgrow)
        have f1 := G4.out.2 _ _ F1.out rfl
        have f2 := G4.out.2 _ _ F2.out rfl
        refine ⟨f1, ⟨World.putObj_heap_same (blk_lt f1), (World.putObj_heap_other (by omega)).trans f2⟩, ⟨_, (World.putObj_heap_other (by omega)).trans G2.out, ?_⟩, ?_⟩
        · rw [row39_snoc]
          simpa using ownsRow_putObj G3.out (.loop r) f1 rfl
        · exact (F5.out.trans G5.out).trans (belowK_b (w := w) (Nat.le_refl _) _ (w.heap.size + 1 + 1) _ (.loop r) (by omega) f1 rfl rfl)
      case _ =>
        rintro e W' (⟨rfl, h⟩ | ⟨_, h⟩)
        · exact .inl ⟨rfl, h, fun _ => HCW.out _ h.2.2⟩
        · exact h.elim
    · rintro e W' ⟨⟨v, rfl⟩, (⟨ys, rfl, h1, h2, h4⟩ | ⟨_, _, h⟩)⟩
      · exact ⟨⟨v, rfl⟩, .inl ⟨⟨h2, h4⟩, by rw [z1]; exact h1⟩⟩
      · exact h.elim
  case hdone =>
    rintro o W2 ⟨⟨v, hv, ho⟩, hB⟩ ⟨r, hr⟩ hD
    rw [z1] at hr hD ⊢
    have v3 : Boxed (W2.putObj (w.heap.size + 1 + 1) o) w.heap.size 35 v := (World.putObj_heap_other (by omega)).trans hv
    have o3 := ownsRow_putObj ho o hr rfl
    have d3 : (W2.putObj (w.heap.size + 1 + 1) o).heap[w.heap.size + 1]? = some (.deferred (some [])) := (World.putObj_heap_other (by omega)).trans hD
    have b3 := hB.trans (belowK_b (w := w) (Nat.le_refl _) W2 (w.heap.size + 1 + 1) _ o (by omega) hr rfl rfl)
    have c3 := v3.cell
    have O4 := Aside0.mk (ownsRow_putObj o3 (.deferred none) d3 rfl)
    have B4 := Aside0.mk (b3.trans (belowK_b (w := w) (Nat.le_refl _) _ (w.heap.size + 1) _ (.deferred none) (by omega) d3 rfl rfl))
    have D3 := Aside0.mk d3
    clear hv ho hB hr hD v3 o3 d3 b3
    gi_wp2
    refine ⟨by simp, .inl ⟨_, _, rfl, run_takeDeferred D3.out, ?_⟩⟩
    exact ⟨_, results_tmp rfl _ _ _, v, rfl, O4.out, B4.out⟩
theorem collect_that (Bc Bi C : Nat) (g : Nat) (lb : Array Value) (p : S39 → Bool) (A : Option Addr) (c : Nat) (l : List S39) (w0 : World) (PF : World → Prop) (eg : ∀ args w, (callFunc g args).run Tryd.prog w = .ok (.enter g args) w)
    (hPF : ∀ W W', PF W → Below W.heap.size W W' → PF W') (hP : ∀ (x : S39) W, PF W → Calls Tryd.prog g (#[vS39 x] ++ lb) W fun e W' => e = .returned (.bool (p x)) ∧ Below W.heap.size W W')
    (hr : Kd.C k39 w0 A l.length l) (hl : l.length ≤ 1000) (w : World) (hCw : ∀ W', Below w.heap.size w W' → Cv w0 Bc Bi C (.func (.func g) #[] lb) A l.length c PF W') :
    Calls Tryd.prog 35 #[.func (.func 58) #[] #[.pointer (some ⟨Bc, 0, none⟩), .pointer (some ⟨Bi, 0, none⟩)]] w fun e W' => ∃ v, e = .returned v ∧ W'.ownsRow w.heap.size 39 6 v (l.filter p).length (row39 (l.filter p)) ∧ Below w.heap.size w W' := by
  have H := Aside0.mk (callsIn_wide.1 (appendSeq_that Bc Bi C g lb p A c l w0 PF eg hPF hP hr hl w hCw))
  clear hPF hP hr hCw eg
  go_enter Tryd.func35, Tryd.ntmps35
  go_wp2_with (go_at_call 57; refine H.out.mono ?_; rintro e w' ⟨v, rfl, ho, hb⟩)
  go_ret
  exact ⟨v, rfl, ho, hb⟩
end Go.Proofs.YtkmddhljfjjglaaDoor.G
