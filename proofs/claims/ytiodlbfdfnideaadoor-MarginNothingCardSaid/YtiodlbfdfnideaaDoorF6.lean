/- Chapter 10: a range over an iterator that is never left, told by its record; the iterator over the places. -/
import Derived.Test.YtiodlbfdfnideaaDoorF5
import Derived.RangeFuncNested
import Derived.RangeFuncBound
import Derived.RangeFuncCalls
import Derived.RangeFuncLeaves
import Derived.RangeFuncBox
import Derived.Shelf.Abstract
import Derived.Shelf.RegionOpen
import Derived.OwnWalkIn
import Derived.TacticsInMore
import Derived.LoopNIn
import Derived.LoopIn
import Derived.StillTailTactics
namespace Go.Proofs.YtiodlbfdfnideaaDoor.G
open Go.RowKit Go.Shelf Go.Proofs.YtiodlbfdfnideaaDoorW.PrintWords Go.Proofs.YtiodlbfdfnideaaDoorW.PrintLast Go.Proofs.YtiodlbfdfnideaaDoorW.PrintMore

theorem wpIn_scope_wide {n : Nat} {P : Program} {c : Code} {Q : Exit → Act → World → Prop} {a : Act} {w : World} (h : c.wpIn Fence.wide n P (Exit.noGoto Q) a w) : (Code.scope c).wpIn Fence.wide n P Q a w :=
  wpIn_wide.2 (wp_scope_straight (wpIn_wide.1 h))

/-- The record of a loop lies there, and the block for its rounds' deferred calls. -/
def ReadyAt (r : Loop) (D : Nat) (W : World) : Prop := W.heap[D + 1]? = some (.loop r) ∧ W.heap[D]? = some (.deferred (some []))
theorem ReadyAt.kept {r : Loop} {D : Nat} {W W' : World} {b : Nat} {cs : Array Value} {t : TypeId} {z : Nat × Nat} (h : ReadyAt r D W) (hg : W.grownBy W' (some b)) (hb : W.heap[b]? = some (.cells cs t z)) : ReadyAt r D W' :=
  ⟨blk_grown h.1 hg (fun e => by cases e; rw [h.1] at hb; cases hb), blk_grown h.2 hg (fun e => by cases e; rw [h.2] at hb; cases hb)⟩

variable {F : Fence} {n : Nat} {P : Program}
/-- A range over an iterator that is never left ahead of its end. -/
theorem range_whole {g : Operand} {ps : Array Tmp} {assign body : Code} {Q : Exit → Act → World → Prop} {a : Act} {w : World}
    (hro : F.round = none) (h1 : 1 ≤ n) {gf : Nat} {lb : Array Value} (hg : a.eval g = .func (.func gf) #[] lb) (hFg : F.fn gf) (eg : ∀ args w, (callFunc gf args).run P w = .ok (.enter gf args) w)
    (T : World → Prop)
    (hcall : ∀ (fn : FuncId), F.fn fn → CallsIn F (n - 1) P gf (#[.func (.yield (w.heap.size + 1)) #[] #[]] ++ lb)
      ((w.alloc (.deferred (some []))).alloc (.loop { state := .ready, pending := none, fn, tmps := a.tmps, params := ps, assign, body, defers := w.heap.size }))
      fun e W2 => (∃ v, e = .returned v) ∧ T W2 ∧ ReadyAt { state := .ready, pending := none, fn, tmps := a.tmps, params := ps, assign, body, defers := w.heap.size } w.heap.size W2)
    (hdone : ∀ (o : Obj) (W2 : World), T W2 → (∃ r : Loop, W2.heap[w.heap.size + 1]? = some (.loop r)) → W2.heap[w.heap.size]? = some (.deferred (some [])) →
      Q .normal { a with defers := { target := .collected w.heap.size, args := #[] } :: a.defers } (W2.putObj (w.heap.size + 1) o)) :
    (Code.rangeFunc g ps assign body).wpIn F n P Q a w := by
  refine wpIn_rangeFunc ?_
  intro fn hfn
  rw [hro]
  have hc := hcall fn hfn
  have hen := run_enterLoop_outer (P := P) (w := w) fn a.tmps ps assign body
  have hdo := hdone
  clear hcall hdone
  have hst : ({ state := .ready, pending := none, fn, tmps := a.tmps, params := ps, assign, body, defers := w.heap.size } : Loop).state = .ready := rfl
  have hpe : ({ state := .ready, pending := none, fn, tmps := a.tmps, params := ps, assign, body, defers := w.heap.size } : Loop).pending = none := rfl
  generalize ({ state := .ready, pending := none, fn, tmps := a.tmps, params := ps, assign, body, defers := w.heap.size } : Loop) = r at hc hen hst hpe
  generalize (w.alloc (.deferred (some []))).alloc (.loop r) = W1 at hc hen
  refine ⟨w.heap.size + 1, [{ target := .collected w.heap.size, args := #[] }], W1, { target := .fn (.func gf) lb, args := #[.func (.yield (w.heap.size + 1)) #[] #[]] }, W1, gf,
    #[.func (.yield (w.heap.size + 1)) #[] #[]] ++ lb, W1, hen, ?_, ?_, ?_, fun _ => h1, ?_⟩
  · simp only [resolve, hg]
    simp [go_sem]
  · intro f' hf'
    simp [Target.leads] at hf'
    subst hf'
    exact hFg
  · simp [invoke, go_sem, eg]
  · refine hc.mono ?_
    rintro e W2 ⟨⟨v, rfl⟩, hT, hR, hD⟩
    have he := run_endLoop (P := P) hR (by rw [hst]; simp)
    rw [hpe] at he
    exact ⟨none, _, he, hdo _ W2 hT ⟨_, hR⟩ hD⟩

/-- One round of it. -/
theorem yield_round {l : Nat} {r : Loop} {args : Array Value} {W : World} {R : World → Prop} (hl : W.heap[l]? = some (.loop r)) (hs : r.state = .ready) (hp : r.pending = none) (hfn : F.fn r.fn) (hps : args.size = r.params.size)
    (h : r.assign.wpIn (F.inRound l) n P (Exit.then (fun a₁ W1 => W1.heap[l]? = some (.loop r) ∧
        r.body.wpIn (F.inRound l) n P (fun e _ W3 => e = .normal ∧ (∃ r' : Loop, r' = { r with state := .busy } ∧ W3.heap[l]? = some (.loop r')) ∧ R (W3.putObj l (.loop r))) a₁ (W1.putObj l (.loop { r with state := .busy }))) (fun _ _ _ => False))
      { tmps := (r.params.zip args).foldl (fun t (p, v) => t.setIfInBounds p v) r.tmps, defers := [] } W) :
    YieldAt F n P l args W fun e W' => e = .returned (.bool true) ∧ R W' := by
  refine ⟨r.fn, _, r.assign, r.body, run_yield hl hps, roundIn_of_wpIn hfn (wpIn_mono h ?_)⟩
  rintro e a1 W1 he
  cases e with
  | normal =>
    obtain ⟨h1, hb⟩ := he
    refine ⟨_, run_beginRound h1 hs, wpIn_mono hb ?_⟩
    rintro e a3 W3 ⟨rfl, ⟨r', er, h3⟩, hR⟩
    have hr := run_endRound (P := P) none h3
    have e2 : ({ r' with state := if (none : Option Code).isNone then LoopState.ready else LoopState.done, pending := none } : Loop) = r := by
      subst er
      cases r
      simp_all
    rw [e2] at hr
    exact ⟨_, _, hr, rfl, hR⟩
  | ret => exact he.elim
  | exit id => exact he.elim
  | goto t => exact he.elim
  | panic ch => exact he.elim
  | outgrown => exact he.elim
end Go.Proofs.YtiodlbfdfnideaaDoor.G
