/- Chapter 18: a range over an iterator, left or not, whose assignment lays a variable; what is collected. Written by mkF6.py. -/
import Derived.Test.YtkmddhljfjjglaaDoorF5
import Derived.Maps.AppendAt
namespace Go.Proofs.YtkmddhljfjjglaaDoor.G
open Go.RowKit Go.Shelf Go.Proofs.YtkmddhljfjjglaaDoorW.PrintWords Go.Proofs.YtkmddhljfjjglaaDoorW.PrintLast Go.Proofs.YtkmddhljfjjglaaDoorW.PrintMore

/-- The record of a loop lies there, and the block for its rounds' deferred calls. -/
def ReadyAt (r : Loop) (D : Nat) (W : World) : Prop := W.heap[D + 1]? = some (.loop r) ∧ W.heap[D]? = some (.deferred (some []))
theorem ReadyAt.below {r : Loop} {D : Nat} {W W' : World} (h : ReadyAt r D W) (hb : Below W.heap.size W W') : ReadyAt r D W' := ⟨blk_below h.1 hb, blk_below h.2 hb⟩
section
variable {F : Fence} {n : Nat} {P : Program}
/-- A range over an iterator, which may be left by a return. -/
theorem range_any {g : Operand} {ps : Array Tmp} {assign body : Code} {Q : Exit → Act → World → Prop} {a : Act} {w : World}
    (hro : F.round = none) (h1 : 1 ≤ n) {gf : Nat} {lb : Array Value} (hg : a.eval g = .func (.func gf) #[] lb) (hFg : F.fn gf) (eg : ∀ args w, (callFunc gf args).run P w = .ok (.enter gf args) w)
    (T Tx : World → Prop)
    (hcall : ∀ (fn : FuncId) (r : Loop), F.fn fn → r = { state := .ready, pending := none, fn, tmps := a.tmps, params := ps, assign, body, defers := w.heap.size } → CallsIn F (n - 1) P gf (#[.func (.yield (w.heap.size + 1)) #[] #[]] ++ lb)
      ((w.alloc (.deferred (some []))).alloc (.loop r))
      fun e W2 => (∃ v, e = .returned v) ∧ ((T W2 ∧ ReadyAt r w.heap.size W2) ∨ (Tx W2 ∧ ReadyAt { r with state := .done, pending := some .ret } w.heap.size W2)))
    (hdone : ∀ (o : Obj) (W2 : World), T W2 → (∃ r : Loop, W2.heap[w.heap.size + 1]? = some (.loop r)) → W2.heap[w.heap.size]? = some (.deferred (some [])) →
      Q .normal { a with defers := { target := .collected w.heap.size, args := #[] } :: a.defers } (W2.putObj (w.heap.size + 1) o))
    (hstop : ∀ (o : Obj) (W2 : World), Tx W2 → (∃ r : Loop, W2.heap[w.heap.size + 1]? = some (.loop r)) → W2.heap[w.heap.size]? = some (.deferred (some [])) →
      Code.ret.wpIn F n P Q { a with defers := { target := .collected w.heap.size, args := #[] } :: a.defers } (W2.putObj (w.heap.size + 1) o)) :
    (Code.rangeFunc g ps assign body).wpIn F n P Q a w := by
  refine wpIn_rangeFunc ?_
  intro fn hfn
  rw [hro]
  have hc := hcall fn _ hfn rfl
  have hen := run_enterLoop_outer (P := P) (w := w) fn a.tmps ps assign body
  have hdo := hdone
  have hsp := hstop
  clear hcall hdone hstop
  have hst : ({ state := .ready, pending := none, fn, tmps := a.tmps, params := ps, assign, body, defers := w.heap.size } : Loop).state = .ready := rfl
  have hpe : ({ state := .ready, pending := none, fn, tmps := a.tmps, params := ps, assign, body, defers := w.heap.size } : Loop).pending = none := rfl
  generalize ({ state := .ready, pending := none, fn, tmps := a.tmps, params := ps, assign, body, defers := w.heap.size } : Loop) = r at hc hen hst hpe
  generalize (w.alloc (.deferred (some []))).alloc (.loop r) = W1 at hc hen
  refine ⟨w.heap.size + 1, [{ target := .collected w.heap.size, args := #[] }], W1, { target := .fn (.func gf) lb, args := #[.func (.yield (w.heap.size + 1)) #[] #[]] }, W1, gf,
    #[.func (.yield (w.heap.size + 1)) #[] #[]] ++ lb, W1, hen, ?_, ?_, ?_, fun _ => h1, ?_⟩
  · simp only [resolve, hg]
    simp [go_sem]
  · intro f' hf'
    simp [Target.leads] at hf'
    subst hf'
    exact hFg
  · simp [invoke, go_sem, eg]
  · refine hc.mono ?_
    rintro e W2 ⟨⟨v, rfl⟩, (⟨hT, hR, hD⟩ | ⟨hT, hR, hD⟩)⟩
    · have he := run_endLoop (P := P) hR (by rw [hst]; simp)
      rw [hpe] at he
      exact ⟨none, _, he, hdo _ W2 hT ⟨_, hR⟩ hD⟩
    · have he := run_endLoop (P := P) hR (by simp)
      exact ⟨some .ret, _, he, hsp _ W2 hT ⟨_, hR⟩ hD⟩
/-- One round of it. -/
theorem yield_round {l : Nat} {r : Loop} {args : Array Value} {W : World} {R Rx : World → Prop} (hl : W.heap[l]? = some (.loop r)) (hs : r.state = .ready) (hp : r.pending = none) (hfn : F.fn r.fn) (hps : args.size = r.params.size)
    (h : r.assign.wpIn (F.inRound l) n P (Exit.then (fun a₁ W1 => W1.heap[l]? = some (.loop r) ∧
        r.body.wpIn (F.inRound l) n P (fun e _ W3 => (∃ r' : Loop, r' = { r with state := .busy } ∧ W3.heap[l]? = some (.loop r')) ∧ ((e = .normal ∧ R (W3.putObj l (.loop r))) ∨ (e = .ret ∧ Rx (W3.putObj l (.loop { r with state := .done, pending := some .ret }))))) a₁ (W1.putObj l (.loop { r with state := .busy }))) (fun _ _ _ => False))
      { tmps := (r.params.zip args).foldl (fun t (p, v) => t.setIfInBounds p v) r.tmps, defers := [] } W) :
    YieldAt F n P l args W fun e W' => (e = .returned (.bool true) ∧ R W') ∨ (e = .returned (.bool false) ∧ Rx W') := by
  refine ⟨r.fn, _, r.assign, r.body, run_yield hl hps, roundIn_of_wpIn hfn (wpIn_mono h ?_)⟩
  rintro e a1 W1 he
  cases e with
  | normal =>
    obtain ⟨h1, hb⟩ := he
    refine ⟨_, run_beginRound h1 hs, wpIn_mono hb ?_⟩
    rintro e a3 W3 ⟨⟨r', er, h3⟩, (⟨rfl, hR⟩ | ⟨rfl, hR⟩)⟩
    · have hr := run_endRound (P := P) none h3
      have e2 : ({ r' with state := if (none : Option Code).isNone then LoopState.ready else LoopState.done, pending := none } : Loop) = r := by
        subst er
        cases r
        simp_all
      rw [e2] at hr
      exact ⟨_, _, hr, .inl ⟨rfl, hR⟩⟩
    · have hr := run_endRound (P := P) (some .ret) h3
      have e2 : ({ r' with state := if (some Code.ret : Option Code).isNone then LoopState.ready else LoopState.done, pending := some Code.ret } : Loop) = { r with state := .done, pending := some .ret } := by
        subst er
        rfl
      rw [e2] at hr
      exact ⟨_, _, hr, .inr ⟨rfl, hR⟩⟩
  | ret => exact he.elim
  | exit id => exact he.elim
  | goto t => exact he.elim
  | panic ch => exact he.elim
  | outgrown => exact he.elim
end
/-- The cells of what is drawn. -/
def cs39 (x : S39) : List Value := [.bool x.f0, .int .i64 x.f1, .int .i64 x.f2.f0, .int .i64 x.f2.f1, .int .i64 x.f2.f2, .int .i64 x.f2.f3]
def row39 (l : List S39) : List Value := l.flatMap cs39
theorem row39_snoc (l : List S39) (x : S39) : row39 (l ++ [x]) = row39 l ++ cs39 x := by simp [row39]
theorem snoc_ind {α : Type} {Q : List α → Prop} (h0 : Q []) (h1 : ∀ l x, Q l → Q (l ++ [x])) (l : List α) : Q l := by
  rw [← List.reverse_reverse l]
  induction l.reverse with
  | nil => exact h0
  | cons x r ih => rw [List.reverse_cons]; exact h1 _ _ ih
theorem reps39 (w : World) (base : Nat) (ok : Nat → Prop) (l : List S39) : Reps (k39.M w base ok) 6 l (row39 l) := by
  induction l using snoc_ind with
  | h0 => exact Reps.none _ _
  | h1 l x ih => rw [row39_snoc]; exact ih.snoc (k39_mkM _ _ _ x) rfl
theorem R39_of_own {W : World} {base : Nat} {v : Value} {l : List S39} (h : W.ownsRow base 39 6 v l.length (row39 l)) : Kd.R k39 39 W base (fun _ => True) v l :=
  ⟨fun _ _ => trivial, row39 l, h, reps39 _ _ _ _⟩
/-- What the collecting lays. -/
def Colx (w : World) (r : Loop) (pre : List S39) (W : World) : Prop :=
  ReadyAt r (w.heap.size + 1) W ∧ (∃ v, Boxed W w.heap.size 35 v ∧ W.ownsRow w.heap.size 39 6 v pre.length (row39 pre)) ∧ Below w.heap.size w W
theorem Colx.below {w : World} {r : Loop} {pre : List S39} {W W' : World} (h : Colx w r pre W) (hb : Below W.heap.size W W') : Colx w r pre W' := by
  obtain ⟨h1, ⟨v, h2, h3⟩, h4⟩ := h
  exact ⟨h1.below hb, ⟨v, blk_below h2 hb, pw_own_below h3 hb⟩, below_then h4 h4.size hb⟩
theorem infoD : (Tryd.prog.info? 39).map (fun i => (i.zero, i.size, i.bytes)) = some (some (.agg #[(.bool false), (.int .i64 0), (.int .i64 0), (.int .i64 0), (.int .i64 0), (.int .i64 0)]), 6, 48) := by kernel_rfl
end Go.Proofs.YtkmddhljfjjglaaDoor.G
