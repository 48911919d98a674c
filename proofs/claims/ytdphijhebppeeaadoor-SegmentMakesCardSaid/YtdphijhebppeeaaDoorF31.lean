/- Chapter 16: a range that may be left by a return; the first one upwards. Written by tmpl.py out of F31.tl. -/
import Derived.Test.YtdphijhebppeeaaDoorF30
namespace Go.Proofs.YtdphijhebppeeaaDoor.G
open Go.RowKit Go.Shelf Go.Maps Go.WideElems Go.MapKept Go.ChangeMaps Go.ChangeShapes Go.Proofs.YtdphijhebppeeaaDoorW.PrintWords Go.Proofs.YtdphijhebppeeaaDoorW.PrintLast Go.Proofs.YtdphijhebppeeaaDoorW.PrintMore
attribute [local irreducible] cN
section
variable {F : Fence} {n : Nat} {P : Program}
/-- A range over an iterator, which a return may leave. -/
theorem range_left {g : Operand} {ps : Array Tmp} {assign body : Code} {Q : Exit → Act → World → Prop} {a : Act} {w : World}
    (hro : F.round = none) (h1 : 1 ≤ n) {gf : Nat} {lb : Array Value} (hg : a.eval g = .func (.func gf) #[] lb) (hFg : F.fn gf) (eg : ∀ args w, (callFunc gf args).run P w = .ok (.enter gf args) w)
    (T T2 : World → Prop)
    (hcall : ∀ (fn : FuncId), F.fn fn → CallsIn F (n - 1) P gf (#[.func (.yield (w.heap.size + 1)) #[] #[]] ++ lb)
      ((w.alloc (.deferred (some []))).alloc (.loop { state := .ready, pending := none, fn, tmps := a.tmps, params := ps, assign, body, defers := w.heap.size }))
      fun e W2 => (∃ v, e = .returned v) ∧ ((T W2 ∧ ReadyAt { state := .ready, pending := none, fn, tmps := a.tmps, params := ps, assign, body, defers := w.heap.size } w.heap.size W2) ∨ (T2 W2 ∧ ReadyAt { state := .done, pending := some .ret, fn, tmps := a.tmps, params := ps, assign, body, defers := w.heap.size } w.heap.size W2)))
    (hdone : ∀ (o : Obj) (W2 : World), T W2 → (∃ r : Loop, W2.heap[w.heap.size + 1]? = some (.loop r)) → W2.heap[w.heap.size]? = some (.deferred (some [])) →
      Q .normal { a with defers := { target := .collected w.heap.size, args := #[] } :: a.defers } (W2.putObj (w.heap.size + 1) o))
    (hstop : ∀ (o : Obj) (W2 : World), T2 W2 → (∃ r : Loop, W2.heap[w.heap.size + 1]? = some (.loop r)) → W2.heap[w.heap.size]? = some (.deferred (some [])) →
      Code.ret.wpIn F n P Q { a with defers := { target := .collected w.heap.size, args := #[] } :: a.defers } (W2.putObj (w.heap.size + 1) o)) :
    (Code.rangeFunc g ps assign body).wpIn F n P Q a w := by
  refine wpIn_rangeFunc ?_
  intro fn hfn
  rw [hro]
  have hc := hcall fn hfn
  have hen := run_enterLoop_outer (P := P) (w := w) fn a.tmps ps assign body
  have hdo := hdone
  have hst := hstop
  clear hcall hdone hstop
  obtain ⟨r, hr⟩ : ∃ r : Loop, ({ state := .ready, pending := none, fn, tmps := a.tmps, params := ps, assign, body, defers := w.heap.size } : Loop) = r := ⟨_, rfl⟩
  obtain ⟨r2, hr2⟩ : ∃ r : Loop, ({ state := .done, pending := some .ret, fn, tmps := a.tmps, params := ps, assign, body, defers := w.heap.size } : Loop) = r := ⟨_, rfl⟩
  have k1 : r.state = .ready := by rw [← hr]
  have k2 : r.pending = none := by rw [← hr]
  have k3 : r2.state = .done := by rw [← hr2]
  have k4 : r2.pending = some .ret := by rw [← hr2]
  rw [hr] at hc hen
  rw [hr2] at hc
  clear hr hr2
  generalize (w.alloc (.deferred (some []))).alloc (.loop r) = W1 at hc hen
  refine ⟨w.heap.size + 1, [{ target := .collected w.heap.size, args := #[] }], W1, { target := .fn (.func gf) lb, args := #[.func (.yield (w.heap.size + 1)) #[] #[]] }, W1, gf,
    #[.func (.yield (w.heap.size + 1)) #[] #[]] ++ lb, W1, hen, ?_, ?_, ?_, fun _ => h1, ?_⟩
  · simp only [resolve, hg]
    simp [go_sem]
  · intro f' hf'
    simp [Target.leads] at hf'
    subst hf'
    exact hFg
  · simp [invoke, go_sem, eg]
  · refine hc.mono ?_
    rintro e W2 ⟨⟨v, rfl⟩, ⟨hT, hR, hD⟩ | ⟨hT, hR, hD⟩⟩
    · have he := run_endLoop (P := P) hR (by rw [k1]; simp)
      rw [k2] at he
      exact ⟨none, _, he, hdo _ W2 hT ⟨_, hR⟩ hD⟩
    · have he := run_endLoop (P := P) hR (by rw [k3]; simp)
      rw [k4] at he
      exact ⟨some .ret, _, he, hst _ W2 hT ⟨_, hR⟩ hD⟩
/-- One round of it. -/
theorem yield_both {l : Nat} {r : Loop} {args : Array Value} {W : World} {R1 R2 : World → Prop} (hl : W.heap[l]? = some (.loop r)) (hs : r.state = .ready) (hp : r.pending = none) (hfn : F.fn r.fn) (hps : args.size = r.params.size)
    (h : r.assign.wpIn (F.inRound l) n P (Exit.then (fun a₁ W1 => W1.heap[l]? = some (.loop r) ∧
        r.body.wpIn (F.inRound l) n P (fun e _ W3 => (∃ r' : Loop, r' = { r with state := .busy } ∧ W3.heap[l]? = some (.loop r')) ∧ ((e = .normal ∧ R1 (W3.putObj l (.loop r))) ∨ (e = .ret ∧ R2 (W3.putObj l (.loop { r with state := .done, pending := some .ret }))))) a₁ (W1.putObj l (.loop { r with state := .busy }))) (fun _ _ _ => False))
      { tmps := (r.params.zip args).foldl (fun t (p, v) => t.setIfInBounds p v) r.tmps, defers := [] } W) :
    YieldAt F n P l args W fun e W' => (e = .returned (.bool true) ∧ R1 W') ∨ (e = .returned (.bool false) ∧ R2 W') := by
  refine ⟨r.fn, _, r.assign, r.body, run_yield hl hps, roundIn_of_wpIn hfn (wpIn_mono h ?_)⟩
  rintro e a1 W1 he
  cases e with
  | normal =>
    obtain ⟨h1, hb⟩ := he
    refine ⟨_, run_beginRound h1 hs, wpIn_mono hb ?_⟩
    rintro e a3 W3 ⟨⟨r', er, h3⟩, ⟨rfl, hR⟩ | ⟨rfl, hR⟩⟩
    · have hr := run_endRound (P := P) none h3
      have e2 : ({ r' with state := if (none : Option Code).isNone then LoopState.ready else LoopState.done, pending := none } : Loop) = r := by
        subst er
        cases r
        simp_all
      rw [e2] at hr
      exact ⟨_, _, hr, .inl ⟨rfl, hR⟩⟩
    · have hr := run_endRound (P := P) (some .ret) h3
      have e2 : ({ r' with state := if (some Code.ret : Option Code).isNone then LoopState.ready else LoopState.done, pending := some .ret } : Loop) = { r with state := .done, pending := some .ret } := by
        subst er
        cases r
        simp_all
      rw [e2] at hr
      exact ⟨_, _, hr, .inr ⟨rfl, hR⟩⟩
  | ret => exact he.elim
  | exit id => exact he.elim
  | goto t => exact he.elim
  | panic ch => exact he.elim
  | outgrown => exact he.elim
end
theorem run_load1 {P : Program} (w : World) (ty : TypeId) (p : Addr) (v : Value) {d : TypeDesc} (hu : P.underlying ty = some d) (hd : d.isRow = false) (hc : w.cell? p = some v) : (loadVar ty p).run P w = .ok v w := by
  have hagg : (isAgg ty).run P w = .ok false w := by
    unfold isAgg
    rw [Sem.run_bind, run_underlying hu w]
    cases d <;> simp_all [TypeDesc.isRow]
  simp [loadVar, Sem.run_bind, hagg, hc]
theorem results_two {P : Program} {fn : Func} {p q : Tmp} {tp tq : TypeId} (h : fn.results = #[.cell p tp, .cell q tq]) (tmps : Array Value) (w : World) (a b : Addr) (hp : tmps.getD p undef = .pointer (some a)) (hq : tmps.getD q undef = .pointer (some b))
    {d1 d2 : TypeDesc} (hu1 : P.underlying tp = some d1) (hd1 : d1.isRow = false) (hu2 : P.underlying tq = some d2) (hd2 : d2.isRow = false) {x y : Value} (hx : w.cell? a = some x) (hy : w.cell? b = some y) :
    (results fn tmps).run P w = .ok (.tuple #[x, y]) w := by
  have l1 := run_load1 w tp a x hu1 hd1 hx
  have l2 := run_load1 w tq b y hu2 hd2 hy
  have hp' : tmps[p]?.getD undef = .pointer (some a) := by simpa using hp
  have hq' : tmps[q]?.getD undef = .pointer (some b) := by simpa using hq
  simp only [results, h]
  simp [Sem.run_bind, Result.andThen, hp', hq', asAddr, l1, l2]
def upRes (u : Option Nat) (vv : Nat → Int) : Value := match u with | some k => .tuple #[.int .i64 (vv k), .bool true] | none => .tuple #[.int .i64 0, .bool false]
/-- What the first one's rounds find: the closure's box, the results' cells, the loop's record. -/
structure Fst (W W1 : World) (base s D : Nat) (fv x y : Value) (rc : Loop) : Prop where
  below : Below base W W1
  fn : W1.heap[s]? = some (.cells #[fv] 57 (0, 0))
  r0 : W1.heap[s + 1]? = some (.cells #[x] 3 (0, 0))
  r1 : W1.heap[s + 2]? = some (.cells #[y] 4 (0, 0))
  rdy : ReadyAt rc D W1
theorem Fst.step {W W1 W2 : World} {base s D : Nat} {fv x y : Value} {rc : Loop} {row : Option Nat} (h : Fst W W1 base s D fv x y rc) (hg : W1.grownBy W2 row) (hb : base ≤ W1.heap.size) (hr : ∀ z, row = some z → base ≤ z ∧ z ≠ s ∧ z ≠ s + 1 ∧ z ≠ s + 2 ∧ z ≠ D ∧ z ≠ D + 1) : Fst W W2 base s D fv x y rc :=
  ⟨h.below.grown hg hb (fun z e => (hr z e).1), (hg.block s (blk_lt h.fn) (fun e => (hr s e.symm).2.1 rfl)).trans h.fn, (hg.block (s + 1) (blk_lt h.r0) (fun e => (hr _ e.symm).2.2.1 rfl)).trans h.r0, (hg.block (s + 2) (blk_lt h.r1) (fun e => (hr _ e.symm).2.2.2.1 rfl)).trans h.r1,
    (hg.block (D + 1) (blk_lt h.rdy.1) (fun e => (hr _ e.symm).2.2.2.2.2 rfl)).trans h.rdy.1, (hg.block D (blk_lt h.rdy.2) (fun e => (hr _ e.symm).2.2.2.2.1 rfl)).trans h.rdy.2⟩
attribute [local go_sem] Oper.semAt_some
set_option maxRecDepth 100000 in
set_option maxHeartbeats 4000000 in
theorem sfirst_any (fi : FuncId) (pb : Addr) (eg : ∀ args w, (callFunc fi args).run Tryd.prog w = .ok (.enter fi args) w) (t : List Node) (A : Option Addr) (hlen : t.length ≤ 200) (hT : OKT t) (p : Nat → Bool) (vv : Nat → Int) (g m base : Nat) (n : Nat) (hn : n < t.length) (W : World)
    (hbase : base ≤ W.heap.size) (hc : ∀ W1, Below base W W1 → kN.C W1 A t.length t) (hCl : Climb W base g m t A 0)
    (his : ∀ (k : Nat) W1, 0 < k → k < t.length → Below base W W1 → Calls Tryd.prog fi #[.int .i64 k, .pointer (some pb)] W1 fun e w' => e = .returned (.tuple #[.int .i64 (vv k), .bool (p k)]) ∧ Below W1.heap.size W1 w') :
    Calls Tryd.prog 30 #[.pointer (some ⟨g, 0, none⟩), .int .i64 n, .func (.func fi) #[] #[.pointer (some pb)]] W fun e W' => e = .returned (upRes (upFirst t p (n + 1) n) vv) ∧ Below base W W' := by
  have HC := Aside0.mk hc
  have HCl := Aside0.mk hCl
  have HI := Aside0.mk his
  clear hc hCl his
  refine (callsIn_wide (n := 10)).1 ?_
  refine callsIn_of_wp_marks Tryd.func30 rfl trivial ?_ rfl
  simp only [Tryd.ntmps30, List.size_toArray, List.length_cons, List.length_nil, Nat.reduceAdd, Nat.reduceSub, Array.replicate_succ, Array.replicate_zero, List.push_toArray, List.append_toArray, List.nil_append, List.cons_append]
  gi_upto_region 1 with fail
  have hB3 := below_alloc (below_alloc (below_alloc (Below.refl W.heap.size W) (.cells #[.func (.func fi) #[] #[.pointer (some pb)]] 57)) (.cells #[.int .i64 0] 3)) (.cells #[.bool false] 4)
  have hf3 := blk_alloc (blk_alloc (blk_new W (.cells #[.func (.func fi) #[] #[.pointer (some pb)]] 57)) (.cells #[.int .i64 0] 3)) (.cells #[.bool false] 4)
  have h03 := blk_alloc (blk_new (W.alloc (.cells #[.func (.func fi) #[] #[.pointer (some pb)]] 57)) (.cells #[.int .i64 0] 3)) (.cells #[.bool false] 4)
  have h13 := blk_new ((W.alloc (.cells #[.func (.func fi) #[] #[.pointer (some pb)]] 57)).alloc (.cells #[.int .i64 0] 3)) (.cells #[.bool false] 4)
  have hs3 : (((W.alloc (.cells #[.func (.func fi) #[] #[.pointer (some pb)]] 57)).alloc (.cells #[.int .i64 0] 3)).alloc (.cells #[.bool false] 4)).heap.size = W.heap.size + 3 := by simp
  simp only [World.size_alloc] at h03 h13
  obtain ⟨W3, hW3⟩ : ∃ W3, ((W.alloc (.cells #[.func (.func fi) #[] #[.pointer (some pb)]] 57)).alloc (.cells #[.int .i64 0] 3)).alloc (.cells #[.bool false] 4) = W3 := ⟨_, rfl⟩
  rw [hW3] at hB3 hf3 h03 h13 hs3 ⊢
  clear hW3
  have HB3 := Aside0.mk hB3
  have HF3 := Aside0.mk hf3
  have H03 := Aside0.mk h03
  have H13 := Aside0.mk h13
  have HS3 := Aside0.mk hs3
  clear hB3 hf3 h03 h13 hs3
  gi_wp2
  refine ⟨trivial, ?_⟩
  refine (callsIn_wide.2 (up_any _ _ _)).mono ?_
  rintro e W5 ⟨rfl, hW5⟩
  have hBc5 := blk_alloc (blk_new W3 (.cells #[.pointer (some ⟨g, 0, none⟩)] 49)) (.cells #[.int .i64 n] 3)
  have hBn5 := blk_new (W3.alloc (.cells #[.pointer (some ⟨g, 0, none⟩)] 49)) (.cells #[.int .i64 n] 3)
  have hB5 := below_alloc (below_alloc (Below.refl W3.heap.size W3) (.cells #[.pointer (some ⟨g, 0, none⟩)] 49)) (.cells #[.int .i64 n] 3)
  have hs5 : ((W3.alloc (.cells #[.pointer (some ⟨g, 0, none⟩)] 49)).alloc (.cells #[.int .i64 n] 3)).heap.size = W3.heap.size + 2 := by simp
  simp only [World.size_alloc] at hBn5
  rw [← hW5] at hBc5 hBn5 hB5 hs5
  clear hW5
  have HBc5 := Aside0.mk hBc5
  have HBn5 := Aside0.mk hBn5
  have HB5 := Aside0.mk hB5
  have HS5 := Aside0.mk hs5
  clear hBc5 hBn5 hB5 hs5
  gi_wp2
  refine range_left (F := Fence.wide) rfl (by omega) (gf := 61) (lb := #[.pointer (some ⟨W3.heap.size + 1, 0, none⟩), .pointer (some ⟨W3.heap.size, 0, none⟩)]) rfl trivial (enters_of Tryd.func61 (by kernel_rfl) rfl)
    (fun W2 => upFirst t p (n + 1) n = none ∧ Below base W W2 ∧ W2.heap[W.heap.size + 1]? = some (.cells #[.int .i64 0] 3 (0, 0)) ∧ W2.heap[W.heap.size + 2]? = some (.cells #[.bool false] 4 (0, 0)))
    (fun W2 => ∃ k, upFirst t p (n + 1) n = some k ∧ Below base W W2 ∧ W2.heap[W.heap.size + 1]? = some (.cells #[.int .i64 (vv k)] 3 (0, 0)) ∧ W2.heap[W.heap.size + 2]? = some (.cells #[.bool true] 4 (0, 0))) ?hcall ?hdone ?hstop
  case hcall =>
    intro fn hfn
    generalize hrec : ({ state := .ready, pending := none, fn, tmps := _, params := _, assign := _, body := _, defers := W5.heap.size } : Loop) = rc
    generalize hrec2 : ({ state := .done, pending := some .ret, fn, tmps := _, params := _, assign := _, body := _, defers := W5.heap.size } : Loop) = rd
    have hst : rc.state = .ready := by rw [← hrec]
    have hpe : rc.pending = none := by rw [← hrec]
    have hrd : ({ rc with state := .done, pending := some .ret } : Loop) = rd := by rw [← hrec, ← hrec2]
    have hrf : Fence.wide.fn rc.fn := trivial
    have e1 := congrArg Loop.assign hrec
    have e2 := congrArg Loop.params hrec
    have e3 := congrArg Loop.body hrec
    have e4 := congrArg Loop.tmps hrec
    dsimp only at e1 e2 e3 e4
    clear hrec hrec2
    have ready0 : ReadyAt rc W5.heap.size ((W5.alloc (.deferred (some []))).alloc (.loop rc)) := by
      refine ⟨?_, blk_alloc (blk_new W5 _) _⟩
      have := blk_new (W5.alloc (.deferred (some []))) (.loop rc)
      simpa using this
    have q3 := HS3.out
    have q5 := HS5.out
    have hm : m < W.heap.size := by obtain ⟨D, hD⟩ := HCl.out.map; exact hD.lt
    have hg : g < W.heap.size := blk_lt HCl.out.cells
    have hmb := HCl.out.mb
    have hbb : ∀ {W1 : World}, Below base W W1 → base ≤ W1.heap.size := fun h => Nat.le_trans hbase h.size
    have hB05 : Below W.heap.size W W5 := below_then HB3.out HB3.out.size HB5.out
    have hBc : Below W.heap.size W ((W5.alloc (.deferred (some []))).alloc (.loop rc)) := below_alloc (below_alloc hB05 _) _
    refine (up_in (10 - 1) (by omega) (W5.heap.size + 1) (W3.heap.size + 1) W3.heap.size g m t A hlen hT p (fun W1 => Fst W W1 base W.heap.size W5.heap.size (.func (.func fi) #[] #[.pointer (some pb)]) (.int .i64 0) (.bool false) rc)
      (fun k W1 => Fst W W1 base W.heap.size W5.heap.size (.func (.func fi) #[] #[.pointer (some pb)]) (.int .i64 (vv k)) (.bool true) rd) (fun W1 h => HC.out W1 h.below) ?hJ2 ?hY n hn ((W5.alloc (.deferred (some []))).alloc (.loop rc))
      ⟨hBc.mono hbase, blk_alloc (blk_alloc (blk_below HF3.out HB5.out) _) _, blk_alloc (blk_alloc (blk_below H03.out HB5.out) _) _, blk_alloc (blk_alloc (blk_below H13.out HB5.out) _) _, ready0⟩
      (blk_alloc (blk_alloc HBn5.out _) _) (blk_alloc (blk_alloc HBc5.out _) _) base (HCl.out.below hBc)).mono ?_
    case hJ2 =>
      intro W1 W2 row h hg hr
      refine h.step hg (hbb h.below) (fun z e => ?_)
      rcases hr z e with rfl | rfl
      · refine ⟨by omega, by omega, by omega, by omega, by omega, by omega⟩
      · refine ⟨by omega, by omega, by omega, by omega, by omega, by omega⟩
    case hY =>
      intro k W1 hk0 hk hJ
      have hyb := @yield_both Fence.wide (10 - 1 - 1) Tryd.prog (W5.heap.size + 1) rc #[.int .i64 k] W1
        (fun W' => (∀ x, x = W3.heap.size + 1 ∨ x = W3.heap.size ∨ x = g ∨ x = m → W'.heap[x]? = W1.heap[x]?) ∧ p k = false ∧ Fst W W' base W.heap.size W5.heap.size (.func (.func fi) #[] #[.pointer (some pb)]) (.int .i64 0) (.bool false) rc)
        (fun W' => (∀ x, x = W3.heap.size + 1 ∨ x = W3.heap.size ∨ x = g ∨ x = m → W'.heap[x]? = W1.heap[x]?) ∧ p k = true ∧ Fst W W' base W.heap.size W5.heap.size (.func (.func fi) #[] #[.pointer (some pb)]) (.int .i64 (vv k)) (.bool true) rd)
        hJ.rdy.1 hst hpe hrf (by rw [← e2]; rfl) ?round
      case round =>
        rw [hrd]
        generalize hbz : ({ rc with state := LoopState.busy } : Loop) = rb
        rw [← e1, ← e2, ← e3, ← e4]
        clear e1 e2 e3 e4
        have HJ := Aside0.mk hJ
        clear hJ
        gi_wp2
        refine And.intro HJ.out.rdy.1 ?_
        have hgp := grownBy_putObj' W1 (W5.heap.size + 1) (.loop rb)
        have hl6 : (W1.putObj (W5.heap.size + 1) (.loop rb)).heap[W5.heap.size + 1]? = some (.loop rb) := World.putObj_heap_same (blk_lt HJ.out.rdy.1)
        have hd6 : (W1.putObj (W5.heap.size + 1) (.loop rb)).heap[W5.heap.size]? = some (.deferred (some [])) := (World.putObj_heap_other (by omega)).trans HJ.out.rdy.2
        have hf6 := (World.putObj_heap_other (w := W1) (o := .loop rb) (show W.heap.size ≠ W5.heap.size + 1 by omega)).trans HJ.out.fn
        have h06 := (World.putObj_heap_other (w := W1) (o := .loop rb) (show W.heap.size + 1 ≠ W5.heap.size + 1 by omega)).trans HJ.out.r0
        have h16 := (World.putObj_heap_other (w := W1) (o := .loop rb) (show W.heap.size + 2 ≠ W5.heap.size + 1 by omega)).trans HJ.out.r1
        have hb6 : Below base W (W1.putObj (W5.heap.size + 1) (.loop rb)) := HJ.out.below.grown hgp (hbb HJ.out.below) (fun y e => by cases e; omega)
        have hk6 : ∀ x, x = W3.heap.size + 1 ∨ x = W3.heap.size ∨ x = g ∨ x = m → (W1.putObj (W5.heap.size + 1) (.loop rb)).heap[x]? = W1.heap[x]? := fun x hx => World.putObj_heap_other (by rcases hx with rfl | rfl | rfl | rfl <;> omega)
        have hlt6 : ∀ x, x = W3.heap.size + 1 ∨ x = W3.heap.size ∨ x = g ∨ x = m → x < (W1.putObj (W5.heap.size + 1) (.loop rb)).heap.size := fun x hx => by
          have := blk_lt hl6
          rcases hx with rfl | rfl | rfl | rfl <;> omega
        obtain ⟨W6, hW6⟩ : ∃ W6, W1.putObj (W5.heap.size + 1) (.loop rb) = W6 := ⟨_, rfl⟩
        rw [hW6] at hl6 hd6 hf6 h06 h16 hb6 hk6 hlt6 ⊢
        clear hW6 hgp
        have hI6 := HI.out k W6 hk0 hk hb6
        obtain ⟨pk, hpk⟩ : ∃ pk, p k = pk := ⟨_, rfl⟩
        rw [hpk] at hI6
        have HI6 := Aside0.mk hI6
        have HPK := Aside0.mk hpk
        have L6 := Aside0.mk hl6
        have D6 := Aside0.mk hd6
        have R06 := Aside0.mk h06
        have R16 := Aside0.mk h16
        have F6 := Aside0.mk hf6
        have B6 := Aside0.mk hb6
        have K6 := Aside0.mk hk6
        have T6 := Aside0.mk hlt6
        have c5 := cell_at hf6 0 rfl
        clear hI6 hpk hl6 hd6 hf6 h06 h16 hb6 hk6 hlt6 q3 q5
        gi_wp2
        refine ⟨trivial, (CallsIn.inRound _ (callsIn_wide.2 HI6.out)).mono ?_⟩
        rintro e w7 ⟨rfl, hb7⟩
        have hl7 := blk_below L6.out hb7
        have hd7 := blk_below D6.out hb7
        have hf7 := blk_below F6.out hb7
        have h07 := blk_below R06.out hb7
        have h17 := blk_below R16.out hb7
        have hb67 : Below base W w7 := below_then B6.out (hbb B6.out) hb7
        have hk7 : ∀ x, x = W3.heap.size + 1 ∨ x = W3.heap.size ∨ x = g ∨ x = m → w7.heap[x]? = W1.heap[x]? := fun x hx => (hb7.block x (T6.out x hx)).trans (K6.out x hx)
        clear hb7 HI6 L6 D6 R06 R16 F6 B6 K6 c5
        have L7 := Aside0.mk hl7
        have D7 := Aside0.mk hd7
        have R07 := Aside0.mk h07
        have R17 := Aside0.mk h17
        have F7 := Aside0.mk hf7
        have B7 := Aside0.mk hb67
        have K7 := Aside0.mk hk7
        clear hl7 hd7 hf7 hb67 hk7
        cases pk with
        | false =>
          clear h07 h17
          gi_wp2
          have q3 := HS3.out
          have q5 := HS5.out
          have kk : ∀ x, x = W3.heap.size + 1 ∨ x = W3.heap.size ∨ x = g ∨ x = m → (w7.putObj (W5.heap.size + 1) (.loop rc)).heap[x]? = W1.heap[x]? := fun x hx => (World.putObj_heap_other (by rcases hx with rfl | rfl | rfl | rfl <;> omega)).trans (K7.out x hx)
          refine ⟨L7.out, ⟨kk _ (.inl rfl), kk _ (.inr (.inl rfl)), kk _ (.inr (.inr (.inl rfl))), kk _ (.inr (.inr (.inr rfl)))⟩, HPK.out, ?_⟩
          have hgp := grownBy_putObj' w7 (W5.heap.size + 1) (.loop rc)
          exact ⟨B7.out.grown hgp (hbb B7.out) (fun y e => by cases e; omega), (World.putObj_heap_other (by omega)).trans F7.out, (World.putObj_heap_other (by omega)).trans R07.out, (World.putObj_heap_other (by omega)).trans R17.out, World.putObj_heap_same (blk_lt L7.out), (World.putObj_heap_other (by omega)).trans D7.out⟩
        | true =>
          have c7 := cell_at h07 0 rfl
          have c8 := cell_at h17 0 rfl
          have y7 := blk_frozen h07 0
          have y8 := blk_frozen h17 0
          clear h07 h17
          gi_wp2
          have q3 := HS3.out
          have q5 := HS5.out
          have g8 := grown_setCell w7 ⟨W.heap.size + 1, 0, none⟩ (.int .i64 (vv k))
          have g9 := grown_setCell (w7.setCell ⟨W.heap.size + 1, 0, none⟩ (.int .i64 (vv k))) ⟨W.heap.size + 1 + 1, 0, none⟩ (.bool true)
          have b08 := blk_put R07.out 0 (.int .i64 (vv k)) rfl
          have b18 := blk_put ((Below.heap_setCell w7 ⟨W.heap.size + 1, 0, none⟩ (.int .i64 (vv k)) (W.heap.size + 1 + 1) (by simp)).trans R17.out) 0 (.bool true) rfl
          have b09 := (Below.heap_setCell (w7.setCell ⟨W.heap.size + 1, 0, none⟩ (.int .i64 (vv k))) ⟨W.heap.size + 1 + 1, 0, none⟩ (.bool true) (W.heap.size + 1) (by simp)).trans b08
          have far : ∀ x, x ≠ W.heap.size + 1 → x ≠ W.heap.size + 1 + 1 → ((w7.setCell ⟨W.heap.size + 1, 0, none⟩ (.int .i64 (vv k))).setCell ⟨W.heap.size + 1 + 1, 0, none⟩ (.bool true)).heap[x]? = w7.heap[x]? := fun x h1 h2 => (Below.heap_setCell _ _ _ x h2).trans (Below.heap_setCell _ _ _ x h1)
          have B9 : Below base W ((w7.setCell ⟨W.heap.size + 1, 0, none⟩ (.int .i64 (vv k))).setCell ⟨W.heap.size + 1 + 1, 0, none⟩ (.bool true)) := by
            have h8 := B7.out.grown g8 (hbb B7.out) (fun y e => by cases e; dsimp only; omega)
            exact h8.grown g9 (hbb h8) (fun y e => by cases e; dsimp only; omega)
          generalize (w7.setCell ⟨W.heap.size + 1, 0, none⟩ (.int .i64 (vv k))).setCell ⟨W.heap.size + 1 + 1, 0, none⟩ (.bool true) = W9 at *
          have kk : ∀ x, x = W3.heap.size + 1 ∨ x = W3.heap.size ∨ x = g ∨ x = m → (W9.putObj (W5.heap.size + 1) (.loop rd)).heap[x]? = W1.heap[x]? := fun x hx => (World.putObj_heap_other (by rcases hx with rfl | rfl | rfl | rfl <;> omega)).trans ((far x (by rcases hx with rfl | rfl | rfl | rfl <;> omega) (by rcases hx with rfl | rfl | rfl | rfl <;> omega)).trans (K7.out x hx))
          have l9 := (far (W5.heap.size + 1) (by omega) (by omega)).trans L7.out
          refine ⟨l9, ⟨kk _ (.inl rfl), kk _ (.inr (.inl rfl)), kk _ (.inr (.inr (.inl rfl))), kk _ (.inr (.inr (.inr rfl)))⟩, HPK.out, ?_⟩
          have hgp := grownBy_putObj' W9 (W5.heap.size + 1) (.loop rd)
          exact ⟨B9.grown hgp (hbb B9) (fun y e => by cases e; omega), (World.putObj_heap_other (by omega)).trans ((far _ (by omega) (by omega)).trans F7.out), (World.putObj_heap_other (by omega)).trans b09, (World.putObj_heap_other (by omega)).trans b18, World.putObj_heap_same (blk_lt l9), (World.putObj_heap_other (by omega)).trans ((far _ (by omega) (by omega)).trans D7.out)⟩
      · obtain ⟨fn', tmps', assign', body', hy, hR⟩ := hyb
        refine ⟨fn', tmps', assign', body', hy, hR.mono ?_⟩
        rintro e W' (⟨rfl, h1, h2, h3⟩ | ⟨rfl, h1, h2, h3⟩)
        · exact ⟨h1, .inl ⟨rfl, h2, h3⟩⟩
        · exact ⟨h1, .inr ⟨rfl, h2, h3⟩⟩
    · rintro e W2 ⟨hv, hr⟩
      refine ⟨hv, ?_⟩
      cases hu : upFirst t p (n + 1) n with
      | none => rw [hu] at hr; exact .inl ⟨⟨rfl, hr.below, hr.r0, hr.r1⟩, hr.rdy⟩
      | some k => rw [hu] at hr; exact .inr ⟨⟨k, rfl, hr.below, hr.r0, hr.r1⟩, hr.rdy⟩
  case hdone =>
    rintro o W2 ⟨hu, h1, h2, h3⟩ ⟨r, hr⟩ hD
    have q3 := HS3.out
    have q5 := HS5.out
    have hg1 := grownBy_putObj' W2 (W5.heap.size + 1) o
    have b3 : Below base W (W2.putObj (W5.heap.size + 1) o) := h1.grown hg1 (Nat.le_trans hbase h1.size) (fun y e => by cases e; omega)
    have d3 : (W2.putObj (W5.heap.size + 1) o).heap[W5.heap.size]? = some (.deferred (some [])) := (World.putObj_heap_other (by omega)).trans hD
    have r03 := (World.putObj_heap_other (w := W2) (o := o) (show W.heap.size + 1 ≠ W5.heap.size + 1 by omega)).trans h2
    have r13 := (World.putObj_heap_other (w := W2) (o := o) (show W.heap.size + 2 ≠ W5.heap.size + 1 by omega)).trans h3
    obtain ⟨W4, hW4⟩ : ∃ W4, W2.putObj (W5.heap.size + 1) o = W4 := ⟨_, rfl⟩
    rw [hW4] at b3 d3 r03 r13 ⊢
    have c7 := cell_at r03 0 rfl
    have c8 := cell_at r13 0 rfl
    have y7 := blk_frozen r03 0
    have y8 := blk_frozen r13 0
    have D4 := Aside0.mk d3
    have B4 := Aside0.mk b3
    have R04 := Aside0.mk r03
    have R14 := Aside0.mk r13
    clear h1 h2 h3 hr hD hg1 hW4 b3 d3 r03 r13 q3 q5
    have HU := Aside0.mk hu
    clear hu
    gi_wp2
    have q3 := HS3.out
    have q5 := HS5.out
    have g8 := grown_setCell W4 ⟨W.heap.size + 1, 0, none⟩ (.int .i64 0)
    have g9 := grown_setCell (W4.setCell ⟨W.heap.size + 1, 0, none⟩ (.int .i64 0)) ⟨W.heap.size + 1 + 1, 0, none⟩ (.bool false)
    have b08 := blk_put R04.out 0 (.int .i64 0) rfl
    have b18 := blk_put ((Below.heap_setCell W4 ⟨W.heap.size + 1, 0, none⟩ (.int .i64 0) (W.heap.size + 1 + 1) (by simp)).trans R14.out) 0 (.bool false) rfl
    have b09 := (Below.heap_setCell (W4.setCell ⟨W.heap.size + 1, 0, none⟩ (.int .i64 0)) ⟨W.heap.size + 1 + 1, 0, none⟩ (.bool false) (W.heap.size + 1) (by simp)).trans b08
    have d9 : ((W4.setCell ⟨W.heap.size + 1, 0, none⟩ (.int .i64 0)).setCell ⟨W.heap.size + 1 + 1, 0, none⟩ (.bool false)).heap[W5.heap.size]? = some (.deferred (some [])) := (Below.heap_setCell _ _ _ _ (by dsimp only; omega)).trans ((Below.heap_setCell _ _ _ _ (by dsimp only; omega)).trans D4.out)
    have hb4 : base ≤ W4.heap.size := Nat.le_trans hbase B4.out.size
    have B9 : Below base W ((W4.setCell ⟨W.heap.size + 1, 0, none⟩ (.int .i64 0)).setCell ⟨W.heap.size + 1 + 1, 0, none⟩ (.bool false)) := by
      have h8 := B4.out.grown g8 hb4 (fun y e => by cases e; dsimp only; omega)
      exact h8.grown g9 (Nat.le_trans hbase h8.size) (fun y e => by cases e; dsimp only; omega)
    generalize (W4.setCell ⟨W.heap.size + 1, 0, none⟩ (.int .i64 0)).setCell ⟨W.heap.size + 1 + 1, 0, none⟩ (.bool false) = W9 at *
    have hgd := grownBy_putObj' W9 W5.heap.size (.deferred none)
    have e0 := cell_at ((World.putObj_heap_other (w := W9) (o := .deferred none) (show W.heap.size + 1 ≠ W5.heap.size by omega)).trans b09) 0 rfl
    have e1 := cell_at ((World.putObj_heap_other (w := W9) (o := .deferred none) (show W.heap.size + 1 + 1 ≠ W5.heap.size by omega)).trans b18) 0 rfl
    refine ⟨by simp, .inl ⟨_, _, rfl, run_takeDeferred d9, ?_⟩⟩
    exact ⟨_, results_two rfl _ _ ⟨W.heap.size + 1, 0, none⟩ ⟨W.heap.size + 1 + 1, 0, none⟩ rfl rfl Tryd.underlying3 rfl Tryd.underlying4 rfl e0 e1, by rw [HU.out]; rfl, B9.grown hgd (Nat.le_trans hbase B9.size) (fun y e => by cases e; omega)⟩
  case hstop =>
    rintro o W2 ⟨k, hu, h1, h2, h3⟩ ⟨r, hr⟩ hD
    have q3 := HS3.out
    have q5 := HS5.out
    have hg1 := grownBy_putObj' W2 (W5.heap.size + 1) o
    have b3 : Below base W (W2.putObj (W5.heap.size + 1) o) := h1.grown hg1 (Nat.le_trans hbase h1.size) (fun y e => by cases e; omega)
    have d3 : (W2.putObj (W5.heap.size + 1) o).heap[W5.heap.size]? = some (.deferred (some [])) := (World.putObj_heap_other (by omega)).trans hD
    have r03 := (World.putObj_heap_other (w := W2) (o := o) (show W.heap.size + 1 ≠ W5.heap.size + 1 by omega)).trans h2
    have r13 := (World.putObj_heap_other (w := W2) (o := o) (show W.heap.size + 2 ≠ W5.heap.size + 1 by omega)).trans h3
    obtain ⟨W4, hW4⟩ : ∃ W4, W2.putObj (W5.heap.size + 1) o = W4 := ⟨_, rfl⟩
    rw [hW4] at b3 d3 r03 r13 ⊢
    have c7 := cell_at r03 0 rfl
    have c8 := cell_at r13 0 rfl
    have y7 := blk_frozen r03 0
    have y8 := blk_frozen r13 0
    have D4 := Aside0.mk d3
    have B4 := Aside0.mk b3
    have R04 := Aside0.mk r03
    have R14 := Aside0.mk r13
    clear h1 h2 h3 hr hD hg1 hW4 b3 d3 r03 r13 q3 q5
    have HU := Aside0.mk hu
    clear hu
    gi_wp2
    have q3 := HS3.out
    have q5 := HS5.out
    have hgd := grownBy_putObj' W4 W5.heap.size (.deferred none)
    have e0 := cell_at ((World.putObj_heap_other (w := W4) (o := .deferred none) (show W.heap.size + 1 ≠ W5.heap.size by omega)).trans R04.out) 0 rfl
    have e1 := cell_at ((World.putObj_heap_other (w := W4) (o := .deferred none) (show W.heap.size + 1 + 1 ≠ W5.heap.size by omega)).trans R14.out) 0 rfl
    refine ⟨by simp, .inl ⟨_, _, rfl, run_takeDeferred D4.out, ?_⟩⟩
    exact ⟨_, results_two rfl _ _ ⟨W.heap.size + 1, 0, none⟩ ⟨W.heap.size + 1 + 1, 0, none⟩ rfl rfl Tryd.underlying3 rfl Tryd.underlying4 rfl e0 e1, by rw [HU.out]; rfl, B4.out.grown hgd (Nat.le_trans hbase B4.out.size) (fun y e => by cases e; omega)⟩
end Go.Proofs.YtdphijhebppeeaaDoor.G
