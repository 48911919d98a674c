/- Chapter 5: errors.Is at a wrong node, told, why. Written by tmpl.py out of F2.tl. -/
import Derived.Test.YtdphijhebppeeaaDoorF1
import Derived.Maps.RangeWalk
import Derived.Maps.Own
import Derived.Laws.CopyOwn
namespace Go.Proofs.YtdphijhebppeeaaDoor.G
open Go.RowKit Go.Maps Go.Proofs.YtdphijhebppeeaaDoorW.PrintWords Go.Proofs.YtdphijhebppeeaaDoorW.PrintLast Go.Proofs.YtdphijhebppeeaaDoorW.PrintMore
open Go.Extern.Stop Go.Stop Go.Extern
open Go.ChangeMaps (setBlock)

set_option maxHeartbeats 1000000 in
set_option maxRecDepth 100000 in
theorem isW_other (n : Int) (a b : Addr) (w : World) (hne : a ≠ b) {ca cb : Array Value} {ta tb : TypeId} (ha : w.heap[a.block]? = some (.cells ca ta (0, 0))) (hb : w.heap[b.block]? = some (.cells cb tb (0, 0))) :
    Calls Tryd.prog 82 #[.iface 90 (.agg #[.int .i64 n, .iface 142 (.pointer (some a))]), .iface 142 (.pointer (some b)), .bool true] w fun e w' => e = .returned (.bool false) ∧ Below w.heap.size w w' := by
  obtain ⟨i, hi, hcmp⟩ := Option.map_eq_some_iff.1 isComp
  obtain ⟨j, hj, hjs⟩ := Option.map_eq_some_iff.1 isSize
  have heq0 := fun w => run_eql_iface_types (P := Tryd.prog) 90 142 (.agg #[.int .i64 n, .iface 142 (.pointer (some a))]) (.pointer (some b)) Tryd.underlying51 (by decide) w
  have la : a.block < w.heap.size := (Array.getElem?_eq_some_iff.1 ha).1
  have lb : b.block < w.heap.size := (Array.getElem?_eq_some_iff.1 hb).1
  have heq := run_eql_iface_ptr_other (P := Tryd.prog) (w.alloc (.cells #[.int .i64 n, .iface 142 (.pointer (some a))] 90)) Tryd.underlying51 Tryd.underlying142 hi hcmp hj (by rw [hjs]; decide) hne ((Below.heap_alloc w _ _ la).trans ha) ((Below.heap_alloc w _ _ lb).trans hb)
  have n1 := noIsW
  have n2 := hasUnwrap
  have n3 := noIs
  have n4 := noUnwrap
  have n5 := noUnwraps
  have mU := methodUnwrap
  clear hne ha hb la lb
  go_enter Tryd.func82, Tryd.ntmps82
  go_wp2
  refine wp_loop_rounds 2 ?_
  rw [rounds_succ]
  go_wp2_with (go_at_call 109; refine (unwrap_any _ _ _).mono ?_; rintro e w' ⟨rfl, rfl⟩)
  rw [rounds_succ]
  go_wp2
  go_ret
  exact ⟨rfl, below_alloc (Below.refl _ _) _⟩

theorem is_any (n : Int) (a b : Addr) (w : World) {ca cb : Array Value} {ta tb : TypeId} (ha : w.heap[a.block]? = some (.cells ca ta (0, 0))) (hb : w.heap[b.block]? = some (.cells cb tb (0, 0))) :
    Calls Tryd.prog 67 #[.iface 90 (.agg #[.int .i64 n, .iface 142 (.pointer (some a))]), .iface 142 (.pointer (some b))] w fun e w' => e = .returned (.bool (decide (a = b))) ∧ Below w.heap.size w w' := by
  have tT := isTypeOf
  have cT := isComparable
  have mR := isMethodComparable
  by_cases h : a = b
  · subst h
    simp only [decide_true]
    clear ha hb
    go_enter Tryd.func67, Tryd.ntmps67
    go_wp2_with (go_at_call 82; refine (isW_same _ _ _).mono ?_; rintro e w' ⟨rfl, hbw⟩; have HB := Aside0.mk hbw; clear hbw)
    go_ret
    exact ⟨rfl, HB.out⟩
  · have ho := Aside0.mk (isW_other n a b w h ha hb)
    simp only [h, decide_false]
    clear ha hb h
    go_enter Tryd.func67, Tryd.ntmps67
    go_wp2_with (go_at_call 82; refine ho.out.mono ?_; rintro e w' ⟨rfl, hbw⟩; have HB := Aside0.mk hbw; clear hbw)
    go_ret
    exact ⟨rfl, HB.out⟩

/-- The map of the package's errors. -/
def ent (A : Nat → Addr) (i : Nat) : MapEntry := ⟨.int .i64 (50 + (i : Int)), .iface 142 (.pointer (some (A i))), i⟩
def four (A : Nat → Addr) : Array MapEntry := #[ent A 0, ent A 1, ent A 2, ent A 3]
theorem mem_four {A : Nat → Addr} {e : MapEntry} (h : e ∈ (four A).toList) : ∃ i, i < 4 ∧ e = ent A i := by
  simp [four] at h
  rcases h with rfl | rfl | rfl | rfl
  · exact ⟨0, by omega, rfl⟩
  · exact ⟨1, by omega, rfl⟩
  · exact ⟨2, by omega, rfl⟩
  · exact ⟨3, by omega, rfl⟩
theorem four_mem (A : Nat → Addr) (i : Nat) (h : i < 4) : ent A i ∈ (four A).toList := by
  obtain rfl | rfl | rfl | rfl : i = 0 ∨ i = 1 ∨ i = 2 ∨ i = 3 := by omega
  all_goals simp [four]

theorem setBlock_alloc (W : World) (o o' : Obj) : setBlock (W.alloc o) W.heap.size o' = W.alloc o' := by
  have h : (W.heap.push o).setIfInBounds W.heap.size o' = W.heap.push o' := by
    apply Array.ext_getElem?
    intro i
    rw [Array.getElem?_setIfInBounds, Array.getElem?_push, Array.getElem?_push]
    by_cases h : W.heap.size = i
    · simp [h]
    · have h' : i ≠ W.heap.size := fun e => h e.symm
      simp [h, h']
  show ({W with heap := (W.heap.push o).setIfInBounds W.heap.size o'} : World) = {W with heap := W.heap.push o'}
  rw [h]
set_option maxRecDepth 100000 in
theorem ins_run (W : World) (es : Array MapEntry) (c : Nat) (k : Int) (v : Value) (hk : (Lit.int .i64 k).wf = true) (hes : ∀ e ∈ es.toList, ∃ z, e.key = .int .i64 z ∧ z ≠ k ∧ (Lit.int .i64 z).wf = true) :
    (Instr.mapUpdate 109 (.map (some W.heap.size)) (.int .i64 k) v).run Tryd.prog (W.alloc (.map es c)) = .ok () (W.alloc (.map (es.push ⟨.int .i64 k, v, c⟩) (c + 1))) := by
  have K := int_keyed (P := Tryd.prog) Tryd.underlying25
  have hb : (W.alloc (.map es c)).heap[W.heap.size]? = some (.map es c) := heap_alloc_new W _
  have hkey := keyOf_int_mk (P := Tryd.prog) Tryd.underlying25 hk
  have hf : (Instr.findKey 25 (.int .i64 k) es.toList).run Tryd.prog (W.alloc (.map es c)) = .ok none (W.alloc (.map es c)) := by
    rcases K.find (W.alloc (.map es c)) hkey es.toList (fun e he => by obtain ⟨z, h1, _, h3⟩ := hes e he; exact ⟨_, by rw [h1]; exact keyOf_int_mk Tryd.underlying25 h3⟩) with ⟨h1, _⟩ | ⟨j, e, _, h2, h3⟩
    · exact h1
    · obtain ⟨z, g1, g2, _⟩ := hes e (List.mem_of_getElem? h2)
      rw [h3] at g1
      injection g1 with _ g1
      exact absurd g1.symm g2
  simp [Instr.mapUpdate, run_underlying Tryd.underlying109, MapKept.run_getObj_map hb, K.check _ false hkey, hf, Result.andThen, MapKept.run_setObj_map _ hb]
  exact setBlock_alloc W _ _

/-- The iterator over the map of the errors stands in block r, the map in block b; 'seen': what came. -/
def Iter (W : World) (A : Nat → Addr) (b r : Nat) (seen : Array Nat) : Prop :=
  W.heap[b]? = some (.map (four A) 4) ∧ ∃ c0, 4 ≤ c0 ∧ W.heap[r]? = some (.mapIter (some b) 4 seen c0)
theorem Iter.below {W W' : World} {A : Nat → Addr} {b r : Nat} {seen : Array Nat} (h : Iter W A b r seen) (hb : Below W.heap.size W W') : Iter W' A b r seen := by
  obtain ⟨h1, c0, h2, h3⟩ := h
  exact ⟨(hb.block b (Array.getElem?_eq_some_iff.1 h1).1).trans h1, c0, h2, (hb.block r (Array.getElem?_eq_some_iff.1 h3).1).trans h3⟩

theorem wpList_next_four {ops : Array Oper} {rest : List Oper} {o : Oper} {a : Act} {Q : Exit → Act → World → Prop} (W : World) (hg : o.guard = none) (it : Operand) (hop : o.op = Op.next it false) (A : Nat → Addr) (b r : Nat) (seen : Array Nat)
    (hit : a.eval it = .pointer (some ⟨r, 0, none⟩)) (h : Iter W A b r seen)
    (hDone : (∀ i, i < 4 → seen.contains i = true) → wpList Tryd.prog ops Q rest (a.put o.dst (.tuple #[.bool false])) W)
    (hMore : ∀ (i : Nat) (W' : World), i < 4 → seen.contains i = false → Iter W' A b r (seen.push i) → (∀ B, B ≤ r → Below B W W') → W'.rangeLeft b r < W.rangeLeft b r → (∀ k, k ≠ r → W'.heap[k]? = W.heap[k]?) → W'.heap.size = W.heap.size →
      (Instr.entry (.pointer (some ⟨r, 0, none⟩))).run Tryd.prog W' = .ok (.tuple #[.int .i64 (50 + (i : Int)), .iface 142 (.pointer (some (A i)))]) W' → wpList Tryd.prog ops Q rest (a.put o.dst (.tuple #[.bool true, .int .i64 (50 + (i : Int)), .iface 142 (.pointer (some (A i)))])) W') :
    wpList Tryd.prog ops Q (o :: rest) a W := by
  refine wpList_plain hg fun K' hK' => ?_
  unfold Oper.wp
  obtain ⟨hb, c0, hc, hr⟩ := h
  have hne : r ≠ b := fun e => by rw [e, hb] at hr; cases hr
  have hold : ∀ x ∈ (four A).toList, x.born < 4 := fun x hx => by obtain ⟨i, hi, rfl⟩ := mem_four hx; exact hi
  have hl : W.rangeLeft b r = (leftOf (four A) seen).size := by simp only [World.rangeLeft, hb, hr]
  rcases run_next_at (P := Tryd.prog) W o.type r b 4 c0 seen (four A) 4 hr hb hold hc with ⟨h0, hrun⟩ | ⟨e, he, w1, hal, hrun⟩
  · simp [execOp, hop, hit, hrun, Result.andThen]
    exact hK' _ _ (hDone fun i hi => all_seen (four A) seen h0 _ (four_mem A i hi))
  · obtain ⟨hem, hes⟩ := mem_left he
    obtain ⟨i, hi, rfl⟩ := mem_four hem
    have hr1 : w1.heap[r]? = some (.mapIter (some b) 4 seen c0) := by rcases hal with rfl | rfl <;> exact hr
    have hb1 : w1.heap[b]? = some (.map (four A) 4) := by rcases hal with rfl | rfl <;> exact hb
    have hset := MapKept.heap_set (o' := .mapIter (some b) 4 (seen.push (ent A i).born) 4) hr1
    have hb' : (setBlock w1 r (.mapIter (some b) 4 (seen.push (ent A i).born) 4)).heap[b]? = some (.map (four A) 4) := (hset.2 b (fun e1 => hne e1.symm)).trans hb1
    have hr' : (setBlock w1 r (.mapIter (some b) 4 (seen.push (ent A i).born) 4)).heap[r]? = some (.mapIter (some b) 4 (seen.push (ent A i).born) 4) := hset.1
    have hk : ∀ k, k ≠ r → (setBlock w1 r (.mapIter (some b) 4 (seen.push (ent A i).born) 4)).heap[k]? = W.heap[k]? := fun k hk => (hset.2 k hk).trans (by rcases hal with rfl | rfl <;> rfl)
    have hsz : (setBlock w1 r (.mapIter (some b) 4 (seen.push (ent A i).born) 4)).heap.size = W.heap.size := by rcases hal with rfl | rfl <;> simp [setBlock]
    have hgr : W.grownBy (setBlock w1 r (.mapIter (some b) 4 (seen.push (ent A i).born) 4)) (some r) := by
      rcases hal with rfl | rfl <;> exact ⟨rfl, rfl, rfl, by simp [setBlock], fun j _ hj => hset.2 j (fun e1 => hj (by rw [e1]))⟩
    simp [execOp, hop, hit, hrun, Result.andThen]
    refine hK' _ _ (hMore i _ hi hes ⟨hb', 4, Nat.le_refl _, hset.1⟩ (fun B hB => ?_) ?_ hk hsz ?_)
    · exact ⟨hgr.os, hgr.tape, hgr.output, hgr.size, fun k hlt => hk k (by omega)⟩
    · rw [hl]
      simp only [World.rangeLeft, hb', hr']
      exact left_shrinks (four A) seen (ent A i) he
    · exact run_entry_at _ r b 4 seen (four A) 4 (ent A i) hset.1 hb' hem (by simp [four, ent])

/-- What the world must bear: the handle of the type of errors, the package's four errors, each its own. -/
def GOK (w : World) : Prop := w.cell? ⟨1, 0, none⟩ = some (.iface 114 (.agg #[.pointer (some ⟨5, 51, none⟩)])) ∧
  ∃ A : Nat → Addr, w.cell? ⟨3, 0, none⟩ = some (.iface 142 (.pointer (some (A 0)))) ∧ w.cell? ⟨4, 0, none⟩ = some (.iface 142 (.pointer (some (A 1)))) ∧
    w.cell? ⟨2, 0, none⟩ = some (.iface 142 (.pointer (some (A 2)))) ∧ w.cell? ⟨0, 0, none⟩ = some (.iface 142 (.pointer (some (A 3)))) ∧
    (∀ i j, i < 4 → j < 4 → A i = A j → i = j) ∧ ∀ i, i < 4 → ∃ c t, w.heap[(A i).block]? = some (.cells c t (0, 0))
/-- The same, the errors' addresses at hand. -/
structure Sent (w : World) (A : Nat → Addr) : Prop where
  ty : w.cell? ⟨1, 0, none⟩ = some (.iface 114 (.agg #[.pointer (some ⟨5, 51, none⟩)]))
  c0 : w.cell? ⟨3, 0, none⟩ = some (.iface 142 (.pointer (some (A 0))))
  c1 : w.cell? ⟨4, 0, none⟩ = some (.iface 142 (.pointer (some (A 1))))
  c2 : w.cell? ⟨2, 0, none⟩ = some (.iface 142 (.pointer (some (A 2))))
  c3 : w.cell? ⟨0, 0, none⟩ = some (.iface 142 (.pointer (some (A 3))))
  inj : ∀ i j, i < 4 → j < 4 → A i = A j → i = j
  blk : ∀ i, i < 4 → ∃ c t, w.heap[(A i).block]? = some (.cells c t (0, 0))
theorem GOK.sent {w : World} (h : GOK w) : ∃ A, Sent w A := by
  obtain ⟨h0, A, h1, h2, h3, h4, h5, h6⟩ := h
  exact ⟨A, h0, h1, h2, h3, h4, h5, h6⟩
theorem Sent.gok {w : World} {A : Nat → Addr} (h : Sent w A) : GOK w := ⟨h.ty, A, h.c0, h.c1, h.c2, h.c3, h.inj, h.blk⟩
theorem Sent.below {w w1 : World} {A : Nat → Addr} (h : Sent w A) (hb : Below w.heap.size w w1) : Sent w1 A :=
  ⟨pw_cell_below hb h.ty, pw_cell_below hb h.c0, pw_cell_below hb h.c1, pw_cell_below hb h.c2, pw_cell_below hb h.c3, h.inj, fun i hi => by
    obtain ⟨c, t, hc⟩ := h.blk i hi
    exact ⟨c, t, (hb.block _ (Array.getElem?_eq_some_iff.1 hc).1).trans hc⟩⟩
theorem GOK.below {w w1 : World} (h : GOK w) (hb : Below w.heap.size w w1) : GOK w1 := by
  obtain ⟨A, hA⟩ := h.sent
  exact (hA.below hb).gok

theorem below_less {B B' : Nat} {w w' : World} (h : Below B w w') (hB : B' ≤ B) : Below B' w w' := ⟨h.os, h.tape, h.output, h.size, fun k hk => h.block k (by omega)⟩

theorem told_nil (w : World) : Calls Tryd.prog 50 #[.nilIface] w fun e w' => e = .returned (.tuple #[.int .i64 0, .int .i64 0]) ∧ Below w.heap.size w w' := by
  go_enter Tryd.func50, Tryd.ntmps50
  go_wp2_with (go_at_call 47; refine (as_nil _ _).mono ?_; rintro e w' ⟨rfl, rfl⟩)
  go_ret2
  exact ⟨rfl, below_alloc (Below.refl _ _) _⟩

theorem as_told (n : Int) (s : Addr) (w : World) (hG : GOK w) :
    Calls Tryd.prog 47 #[.iface 90 (.agg #[.int .i64 n, .iface 142 (.pointer (some s))]), .iface 108 (.pointer (some ⟨w.heap.size, 0, none⟩))] (w.alloc (.cells #[.int .i64 0, .nilIface] 90)) fun ev w' => ev = .returned (.bool true) ∧ Below w.heap.size w w' ∧ w'.heap[w.heap.size]? = some (.cells #[.int .i64 n, .iface 142 (.pointer (some s))] 90 (0, 0)) ∧ w.heap.size < w'.heap.size := by
  refine (as_hit n s w.heap.size (.int .i64 0) .nilIface _ (hG.below (below_alloc (Below.refl _ _) _)).1 (heap_alloc_new w _)).mono ?_
  rintro ev w' ⟨rfl, rfl⟩
  refine ⟨rfl, ?_, ?_, ?_⟩
  · exact below_setRow (below_alloc (below_alloc (below_alloc (below_alloc (below_alloc (Below.refl _ _) _) _) _) _) _) (Nat.le_refl _) _
  · exact setRow_heap _ _ _ _ _ _ (by rw [heap_alloc_old _ _ (by simp; omega), heap_alloc_old _ _ (by simp; omega), heap_alloc_old _ _ (by simp; omega), heap_alloc_old _ _ (by simp)]; exact heap_alloc_new w _)
  · simp [World.setRow]; omega

set_option maxHeartbeats 4000000 in
set_option maxRecDepth 100000 in
theorem told_any (n : Int) (A : Nat → Addr) (i : Nat) (hi : i < 4) (w : World) (hS : Sent w A) :
    Calls Tryd.prog 50 #[.iface 90 (.agg #[.int .i64 n, .iface 142 (.pointer (some (A i)))])] w fun e w' => e = .returned (.tuple #[.int .i64 n, .int .i64 (50 + (i : Int))]) ∧ Below w.heap.size w w' := by
  have hS0 := Aside0.mk hS
  have hi0 := Aside0.mk hi
  clear hS hi
  go_enter Tryd.func50, Tryd.ntmps50
  go_wp2_with (first
    | (go_at_call 47; refine (as_told n (A i) w hS0.out.gok).mono ?_; rintro e w1 ⟨rfl, hb1, hrow, hsz⟩
       have HB1 := Aside0.mk hb1
       have HROW := Aside0.mk hrow
       have HSZ := Aside0.mk hsz
       have hS1 := Aside0.mk (hS0.out.below hb1)
       have g0 := fun o : Obj => (hS1.out.below (below_alloc (Below.refl _ _) o)).c0
       have g1 := fun o : Obj => (hS1.out.below (below_alloc (Below.refl _ _) o)).c1
       have g2 := fun o : Obj => (hS1.out.below (below_alloc (Below.refl _ _) o)).c2
       have g3 := fun o : Obj => (hS1.out.below (below_alloc (Below.refl _ _) o)).c3
       have i0 := fun (v : Value) => ins_run w1 #[] 0 50 v (by decide) (by simp)
       have i1 := fun (v : Value) => ins_run w1 #[⟨.int .i64 50, .iface 142 (.pointer (some (A 0))), 0⟩] 1 51 v (by decide) (by simp; decide)
       have i2 := fun (v : Value) => ins_run w1 #[⟨.int .i64 50, .iface 142 (.pointer (some (A 0))), 0⟩, ⟨.int .i64 51, .iface 142 (.pointer (some (A 1))), 1⟩] 2 52 v (by decide) (by simp; decide)
       have i3 := fun (v : Value) => ins_run w1 #[⟨.int .i64 50, .iface 142 (.pointer (some (A 0))), 0⟩, ⟨.int .i64 51, .iface 142 (.pointer (some (A 1))), 1⟩, ⟨.int .i64 52, .iface 142 (.pointer (some (A 2))), 2⟩] 3 53 v (by decide) (by simp; decide)
       have hmm := @run_makeMap Tryd.prog
       have hrg := run_range_map (P := Tryd.prog) (w1.alloc (.map #[⟨.int .i64 50, .iface 142 (.pointer (some (A 0))), 0⟩, ⟨.int .i64 51, .iface 142 (.pointer (some (A 1))), 1⟩, ⟨.int .i64 52, .iface 142 (.pointer (some (A 2))), 2⟩, ⟨.int .i64 53, .iface 142 (.pointer (some (A 3))), 3⟩] 4)) 109 25 51 w1.heap.size #[⟨.int .i64 50, .iface 142 (.pointer (some (A 0))), 0⟩, ⟨.int .i64 51, .iface 142 (.pointer (some (A 1))), 1⟩, ⟨.int .i64 52, .iface 142 (.pointer (some (A 2))), 2⟩, ⟨.int .i64 53, .iface 142 (.pointer (some (A 3))), 3⟩] 4 Tryd.underlying109 (heap_alloc_new w1 _)
       clear hb1 hrow hsz))
  clear g0 g1 g2 g3 i0 i1 i2 i3 hmm hrg
  go_loopw [5] (fun _ wr => ∃ seen : Array Nat, Aside0 (Iter wr A w1.heap.size (w1.heap.size + 1) seen) ∧ Aside0 (seen.contains i = false) ∧ Aside0 (Below (w.heap.size + 1) w1 wr) ∧ w1.heap.size + 1 < wr.heap.size) (fun _ wr => wr.rangeLeft w1.heap.size (w1.heap.size + 1))
  case atStart =>
    refine ⟨#[], ⟨?_⟩, ⟨by simp⟩, ⟨?_⟩, by simp⟩
    · refine ⟨(heap_alloc_old _ _ (by simp)).trans (heap_alloc_new w1 _), 4, Nat.le_refl _, ?_⟩
      exact (congrArg _ (by simp)).trans (heap_alloc_new (w1.alloc _) _)
    · exact below_less (below_alloc (below_alloc (Below.refl w1.heap.size w1) _) _) HSZ.out
  case round =>
    obtain ⟨seen, HI, HNS, HB, hsz⟩ := hrel
    go_wp2_with (first
      | (at_next; go_loud (refine wpList_next_four _ rfl _ rfl A w1.heap.size (w1.heap.size + 1) seen rfl HI.out ?_ ?_)
         · intro hall
           exact absurd (hall i hi0.out) (by rw [HNS.out]; decide)
         intro j w2 hj hsj hI2 hB2 hlt2 hk2 hsz2 hent
         have HJ := Aside0.mk hj
         have HI2 := Aside0.mk hI2
         have HLT2 := Aside0.mk hlt2
         have HB3 := Aside0.mk (HB.out.trans (hB2 (w.heap.size + 1) (by have := HSZ.out; omega)))
         have HSZ2 := Aside0.mk (Nat.lt_of_lt_of_eq hsz hsz2.symm)
         have hS2 := Aside0.mk (hS0.out.below (HB1.out.trans (below_less HB3.out (Nat.le_succ _))))
         clear hj hI2 hB2 hlt2 hk2 hsz2 hsj)
      | (go_at_call 67; obtain ⟨ca, ta, hca⟩ := hS2.out.blk i hi0.out; obtain ⟨cb, tb, hcb⟩ := hS2.out.blk j HJ.out; refine (is_any n _ _ _ hca hcb).mono ?_; rintro e w3 ⟨rfl, hb3⟩; have HW3 := Aside0.mk hb3; have HB4 := Aside0.mk (HB3.out.trans (below_less hb3 (by have := HSZ2.out; have := HSZ.out; omega)));
         have hc0 : w3.cell? ⟨w.heap.size, 0, none⟩ = some (.int .i64 n) := by
           have hrow3 := (HB4.out.block w.heap.size (Nat.lt_succ_self _)).trans HROW.out
           simp [World.cell?, hrow3]
         clear hb3 hca hcb))
    case roundEnd =>
      refine ⟨⟨seen.push j, ⟨HI2.out.below HW3.out⟩, ⟨?_⟩, HB4, ?_⟩, ?_⟩
      · have hij : ¬ i = j := fun e => by subst e; contradiction
        rw [contains_push, HNS.out]
        simp [hij]
      · have := HW3.out.size
        have := HSZ2.out
        omega
      · refine Nat.lt_of_le_of_lt (Nat.le_of_eq ?_) HLT2.out
        obtain ⟨m1, c1, _, m2⟩ := HI2.out.below HW3.out
        obtain ⟨m3, c3, _, m4⟩ := HI2.out
        simp only [World.rangeLeft, m1, m2, m3, m4]
    rename_i heq
    obtain rfl := hS0.out.inj i j hi0.out HJ.out heq
    go_ret2
    exact ⟨rfl, HB1.out.trans (below_less HB4.out (Nat.le_succ _))⟩

theorem why_any (n : Int) (A : Nat → Addr) (i : Nat) (hi : i < 4) (w : World) (hS : Sent w A) :
    Calls Tryd.prog 35 #[.iface 90 (.agg #[.int .i64 n, .iface 142 (.pointer (some (A i)))])] w fun e w' => e = .returned (.int .i64 (50 + (i : Int))) ∧ Below w.heap.size w w' := by
  have hT := Aside0.mk (told_any n A i hi w hS)
  clear hi hS
  go_enter Tryd.func35, Tryd.ntmps35
  go_wp2_with (go_at_call 50; refine hT.out.mono ?_; rintro e w' ⟨rfl, hb⟩; have HB := Aside0.mk hb; clear hb)
  go_ret
  exact ⟨rfl, HB.out⟩
end Go.Proofs.YtdphijhebppeeaaDoor.G
