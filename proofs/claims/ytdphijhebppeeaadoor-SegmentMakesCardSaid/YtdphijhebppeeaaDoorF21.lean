/- YtdphijhebppeeaaDoorF5, YtdphijhebppeeaaDoorF6, YtdphijhebppeeaaDoorF7, YtdphijhebppeeaaDoorF8, YtdphijhebppeeaaDoorF9, YtdphijhebppeeaaDoorF10, YtdphijhebppeeaaDoorF11, YtdphijhebppeeaaDoorF12, YtdphijhebppeeaaDoorF13, YtdphijhebppeeaaDoorF14, YtdphijhebppeeaaDoorF15, YtdphijhebppeeaaDoorF16, YtdphijhebppeeaaDoorF17, YtdphijhebppeeaaDoorF18, YtdphijhebppeeaaDoorF19, YtdphijhebppeeaaDoorF20, YtdphijhebppeeaaDoorF21: texts of ours, one behind the other. Put together by merge.py. -/
import Derived.Test.YtdphijhebppeeaaDoorF4
import Derived.BigQuiet
import Derived.Test.YtdphijhebppeeaaDoorWEqStruct
import Derived.Deep.Quiet
import Derived.Maps.GroupsBeside
import Derived.ScopeJumps
import Derived.RangeFuncNested
import Derived.RangeFuncBound
import Derived.RangeFuncCalls
import Derived.RangeFuncLeaves
import Derived.RangeFuncBox
import Derived.Shelf.Abstract
import Derived.Shelf.RegionOpen
import Derived.OwnWalkIn
import Derived.TacticsInMore
import Derived.LoopNIn
import Derived.LoopIn
import Derived.StillTailTactics
import Derived.Maps.OwnIn
import Derived.Sort.CutIn
import Derived.BigRegionIn
/- Chapter 5: a node's parent, its place. Written by tmpl.py out of F5.tl. -/
namespace Go.Proofs.YtdphijhebppeeaaDoor.G
open Go.RowKit Go.Maps Go.Proofs.YtdphijhebppeeaaDoorW.PrintWords Go.Proofs.YtdphijhebppeeaaDoorW.PrintLast Go.Proofs.YtdphijhebppeeaaDoorW.PrintMore

abbrev zN : Node := z31
theorem zN_is : NodeC zN (cN zN) := cN_is zN
theorem add_add (ad : Addr) (a j : Nat) : (ad.add a).add j = ad.add (a + j) := by
  unfold Addr.add
  by_cases h : j = 0
  · subst h; simp
  · by_cases h2 : a = 0
    · subst h2; simp [h]
    · simp [h, h2, Nat.add_assoc]
/-- A node of a list of nodes. -/
theorem node_at {W : World} {A : Option Addr} {t : List Node} (h : kN.C W A t.length t) (k : Nat) (hk : k < t.length) :
    ∃ ad M, A = some ad ∧ NodeC (t.getD k zN) M ∧ ranges W (ad.add (k * 21)) M.toList := by
  obtain ⟨ad, c, e, hlen, hK, hc⟩ := Kd.C_get h zN (k : Int) (by omega) (by omega)
  refine ⟨ad, c.toArray, e, ?_, ?_⟩
  · have := NodeC.of hK
    simpa using this
  · intro j v hv
    have := hc j v (by simpa using hv)
    rw [add_add]
    simpa [show kN.sz = 21 from rfl] using this
theorem ranges_below {W W' : World} {p : Addr} {cs : List Value} (h : ranges W p cs) (hb : Below W.heap.size W W') : ranges W' p cs := fun j v hv => pw_cell_below hb (h j v hv)
theorem ranges_get {W : World} {p : Addr} {M : Array Value} (h : ranges W p M.toList) (j : Nat) {v : Value} (hv : M[j]? = some v) : W.cell? (p.add j) = some v := h j v (by simpa using hv)

theorem ranges_first {W : World} {p : Addr} {M : Array Value} (h : ranges W p M.toList) {v : Value} (hv : M[0]? = some v) : W.cell? p = some v := by simpa [Addr.add] using ranges_get h 0 hv

/-- The parent of a node. -/
def parentOf (t : List Node) (n : Nat) : Node := if 0 < n ∧ 0 ≤ (t.getD n zN).f0 ∧ (t.getD n zN).f0 < n then t.getD (t.getD n zN).f0.toNat zN else zN
set_option maxRecDepth 1000000 in
theorem built_zN : Tryd.prog.built 31 [] = some (cN zN) := by
  show Tryd.prog.built 31 _ = some _
  kernel_rfl
theorem build0_at {ops : Array Oper} {rest : List Oper} {o : Oper} {a : Act} {W : World} {Q : Exit → Act → World → Prop} (hgd : o.guard = none) (ho : o.op = .build 31 #[]) (h : wpList Tryd.prog ops Q rest (a.put o.dst (.agg (cN zN))) W) :
    wpList Tryd.prog ops Q (o :: rest) a W := by
  have hf : Tryd.prog.built 31 ((#[] : Array (Nat × Operand)).map fun (i, x) => (i, a.eval x)).toList = some (cN zN) := by
    have he : ((#[] : Array (Nat × Operand)).map fun (i, x) => (i, a.eval x)).toList = [] := by simp
    rw [he]
    exact built_zN
  refine wpList_build hgd 31 _ ho (by rw [hf]; rfl) ?_
  rw [hf]
  exact h
/-- The end of a function whose result is a node in a variable. -/
theorem ret_node {fn : Func} {R : Ending → World → Prop} {a : Act} {w : World} {g : Nat} {M : Array Value} {s : Tmp} (hf : fn.results = #[.cell s 31]) (hp : a.tmps.getD s undef = .pointer (some ⟨g, 0, none⟩)) (hg : w.heap[g]? = some (.cells M 31 (0, 0)))
    (hM : M.size = 21) (hd : a.defers = []) (hR : R (.returned (.agg M)) w) : bodyPost Tryd.prog fn R .ret a w :=
  bodyPost_ret (results_cell_row hf a.tmps w g 31 M (0, 0) _ hp hg Tryd.underlying31 rfl (by rw [infoN, hM])) hd hR
theorem cN_size (x : Node) : (cN x).size = 21 := (cN_is x).size
attribute [local irreducible] cN
set_option maxHeartbeats 1000000 in
set_option maxRecDepth 100000 in
theorem parent_any (t : List Node) (A0 : Option Addr) (c0 b n : Nat) (w : World) (hn : n < t.length) (hc : kN.C w A0 t.length t) (hb : w.cell? ⟨b, 0, none⟩ = some (.slice A0 t.length c0)) :
    Calls Tryd.prog 79 #[.pointer (some ⟨b, 0, none⟩), .int .i64 n] w fun e w' => (∃ M, NodeC (parentOf t n) M ∧ e = .returned (.agg M)) ∧ Below w.heap.size w w' := by
  obtain ⟨ad, M, rfl, hM, hr⟩ := node_at hc n hn
  have hB : ∀ o, Below w.heap.size w (w.alloc o) := fun o => below_alloc (Below.refl w.heap.size w) o
  have g0 := fun o => pw_cell_below (hB o) (ranges_first hr hM.c0)
  have gb := fun o => pw_cell_below (hB o) hb
  have hn' : (n : Int) < t.length := by omega
  by_cases h1 : 0 < n
  · have h1' : (0 : Int) < n := by omega
    by_cases h2 : 0 ≤ (t.getD n zN).f0
    · by_cases h3 : (t.getD n zN).f0 < n
      · obtain ⟨k, hk⟩ : ∃ k : Nat, (t.getD n zN).f0 = k := ⟨(t.getD n zN).f0.toNat, by omega⟩
        obtain ⟨ad', M', e, hM', hr'⟩ := node_at hc k (by omega)
        cases e
        have hp : parentOf t n = t.getD k zN := by rw [parentOf, if_pos ⟨h1, h2, h3⟩, hk]; rfl
        rw [hp]
        have hres := Aside0.mk hM'
        have hr2 := Aside0.mk (fun o => ranges_below hr' (hB o))
        have hk' : (k : Int) < t.length := by omega
        have hk2 : (k : Int) < n := by omega
        rw [hk] at g0
        clear hM hM' hr hr' hc hp hk h2 h3 hb
        go_enter Tryd.func79, Tryd.ntmps79
        go_wp2_with (first | (refine loadN_at rfl _ rfl (ad.add (k * 21)) rfl M' hres.out.size (hr2.out _) ?_) | (refine storeN_at rfl _ _ rfl M' _ rfl rfl hres.out.size hres.out.one rfl ?_))
        try simp only [Exit.inBlock, Exit.then]
        refine ret_node rfl rfl (blk_new ..) hres.out.size rfl ?_
        exact ⟨⟨M', hres.out, rfl⟩, hB _⟩
      · have h3' : ¬ (t.getD n zN).f0 < n := h3
        have hp : parentOf t n = zN := by rw [parentOf, if_neg (by omega)]
        rw [hp]
        have hres := Aside0.mk zN_is
        clear hM hr hc hp hb
        generalize (t.getD n zN).f0 = f0 at *
        go_enter Tryd.func79, Tryd.ntmps79
        go_wp2_with (first | (refine build0_at rfl rfl ?_) | (refine storeN_at rfl _ _ rfl (cN zN) _ rfl rfl hres.out.size hres.out.one rfl ?_))
        try simp only [Exit.inBlock, Exit.then]
        refine ret_node rfl rfl (blk_new ..) hres.out.size rfl ?_
        exact ⟨⟨(cN zN), hres.out, rfl⟩, hB _⟩
    · have h2' : ¬ 0 ≤ (t.getD n zN).f0 := h2
      have hp : parentOf t n = zN := by rw [parentOf, if_neg (by omega)]
      rw [hp]
      have hres := Aside0.mk zN_is
      clear hM hr hc hp hb
      generalize (t.getD n zN).f0 = f0 at *
      go_enter Tryd.func79, Tryd.ntmps79
      go_wp2_with (first | (refine build0_at rfl rfl ?_) | (refine storeN_at rfl _ _ rfl (cN zN) _ rfl rfl hres.out.size hres.out.one rfl ?_))
      try simp only [Exit.inBlock, Exit.then]
      refine ret_node rfl rfl (blk_new ..) hres.out.size rfl ?_
      exact ⟨⟨(cN zN), hres.out, rfl⟩, hB _⟩
  · have h1' : ¬ (0 : Int) < n := by omega
    have hp : parentOf t n = zN := by rw [parentOf, if_neg (by omega)]
    rw [hp]
    have hres := Aside0.mk zN_is
    clear hM hr hc hp hb
    generalize (t.getD n zN).f0 = f0 at *
    go_enter Tryd.func79, Tryd.ntmps79
    go_wp2_with (first | (refine build0_at rfl rfl ?_) | (refine storeN_at rfl _ _ rfl (cN zN) _ rfl rfl hres.out.size hres.out.one rfl ?_))
    try simp only [Exit.inBlock, Exit.then]
    refine ret_node rfl rfl (blk_new ..) hres.out.size rfl ?_
    exact ⟨⟨(cN zN), hres.out, rfl⟩, hB _⟩
end Go.Proofs.YtdphijhebppeeaaDoor.G
/- Chapter 5: a node's place. Written by tmpl.py out of F6.tl. -/
namespace Go.Proofs.YtdphijhebppeeaaDoor.G
open Go.RowKit Go.Maps Go.Proofs.YtdphijhebppeeaaDoorW.PrintWords Go.Proofs.YtdphijhebppeeaaDoorW.PrintLast Go.Proofs.YtdphijhebppeeaaDoorW.PrintMore
attribute [local irreducible] cN

def styR (x : Node) : Bool := rightB x.f5.f0 x.f5.f1 x.f5.f2 x.f5.f3 x.f5.f4 x.f5.f5 x.f5.f6 x.f5.f7 x.f5.f8 x.f5.f9 x.f5.f10 x.f5.f11 x.f5.f12 x.f5.f13 x.f5.f14 x.f5.f15
def styM (x : Node) : Bool := multiB x.f5.f0 x.f5.f1
theorem styR_any {x : Node} {S : Array Value} (h : StyleC x S) (w : World) : Calls Tryd.prog 80 #[.agg S] w fun e w' => e = .returned (.bool (styR x)) ∧ Below w.heap.size w w' := by
  rw [h.eq]; exact sright_any x.f5.f0 x.f5.f1 x.f5.f2 x.f5.f3 x.f5.f4 x.f5.f5 x.f5.f6 x.f5.f7 x.f5.f8 x.f5.f9 x.f5.f10 x.f5.f11 x.f5.f12 x.f5.f13 x.f5.f14 x.f5.f15 w
theorem styM_any {x : Node} {S : Array Value} (h : StyleC x S) (w : World) : Calls Tryd.prog 81 #[.agg S] w fun e w' => e = .returned (.bool (styM x)) ∧ Below w.heap.size w w' := by
  rw [h.eq]; exact multi_any x.f5.f0 x.f5.f1 x.f5.f2 x.f5.f3 x.f5.f4 x.f5.f5 x.f5.f6 x.f5.f7 x.f5.f8 x.f5.f9 x.f5.f10 x.f5.f11 x.f5.f12 x.f5.f13 x.f5.f14 x.f5.f15 w

/-- Does a node hang where it may? -/
def placeB (t : List Node) (n : Nat) : Bool := if n = 0 then decide ((t.getD 0 zN).f0 = -1) && holdB (t.getD 0 zN) else holdB (parentOf t n)
set_option maxHeartbeats 1000000 in
set_option maxRecDepth 100000 in
theorem place_any (t : List Node) (A0 : Option Addr) (c0 b n : Nat) (w : World) (hn : n < t.length) (hc : kN.C w A0 t.length t) (hb : w.cell? ⟨b, 0, none⟩ = some (.slice A0 t.length c0)) :
    Calls Tryd.prog 65 #[.pointer (some ⟨b, 0, none⟩), .int .i64 n] w fun e w' => e = .returned (.bool (placeB t n)) ∧ Below w.heap.size w w' := by
  by_cases h0 : n = 0
  · subst h0
    obtain ⟨ad, M, rfl, hM, hr⟩ := node_at hc 0 hn
    have e0 : ad.add (0 * 21) = ad := by simp [Addr.add]
    rw [e0] at hr
    have g0 := ranges_first hr hM.c0
    have hl : (0 : Int) < t.length := by omega
    have hM2 := Aside0.mk hM
    have hr2 := Aside0.mk hr
    unfold placeB
    rw [if_pos rfl]
    generalize hfx : (t.getD 0 zN).f0 = f0 at *
    generalize hhx : holdB (t.getD 0 zN) = hd at *
    have hH := Aside0.mk hhx
    clear hM hr hc hfx hhx
    by_cases h1 : f0 = -1
    · have h1' : (f0 == -1) = true := by simp [h1]
      go_enter Tryd.func65, Tryd.ntmps65
      go_wp2_with (first | (refine gate_guard (by rfl) ?_; refine loadN_at rfl _ rfl _ rfl M hM2.out.size hr2.out ?_) | (go_at_call 78; refine (holder_any _ M hM2.out _).mono ?_; rintro e w2 ⟨rfl, hb2⟩; rw [hH.out]))
      go_ret
      exact ⟨by simp [h1], hb2⟩
    · have h1' : (f0 == -1) = false := by simp [h1]
      go_enter Tryd.func65, Tryd.ntmps65
      go_wp2
      go_ret
      exact ⟨by simp [h1], Below.refl ..⟩
  · have h0' : ((n : Int) == 0) = false := by simp; omega
    have hP := Aside0.mk (parent_any t A0 c0 b n w hn hc hb)
    unfold placeB
    rw [if_neg h0]
    clear hc hb
    go_enter Tryd.func65, Tryd.ntmps65
    go_wp2_with (first | (go_at_call 79; refine hP.out.mono ?_; rintro e w2 ⟨⟨M, hM, rfl⟩, hb2⟩; have hM2 := Aside0.mk hM; have hB2 := Aside0.mk hb2; clear hM hb2) | (go_at_call 78; refine (holder_any _ M hM2.out _).mono ?_; rintro e w3 ⟨rfl, hb3⟩))
    go_ret
    exact ⟨rfl, below_then hB2.out hB2.out.size hb3⟩
/-- May a node stand beside its kids' columns? -/
def spanB (t : List Node) (n : Nat) : Bool := (decide ((t.getD n zN).f1 = 1) || decide ((t.getD n zN).f1 = 3)) && (decide ((parentOf t n).f1 = 4) && !decide ((t.getD n zN).f5.f12 ≠ 0))
/-- Does a node's style go with its kind? -/
def styleB (t : List Node) (n : Nat) : Bool :=
  styR (t.getD n zN) && ((!decide ((t.getD n zN).f5.f12 ≠ 0) || decide ((t.getD n zN).f1 = 3)) && ((styM (t.getD n zN) == decide ((t.getD n zN).f1 = 4)) && (spanB t n || !(t.getD n zN).f5.f11)))
set_option maxRecDepth 100000 in
theorem field_at {ops : Array Oper} {rest : List Oper} {o : Oper} {a : Act} {W : World} {Q : Exit → Act → World → Prop} (hgd : o.guard = none) (x : Operand) (ho : o.op = .field 31 x 1) (y : Node) (M : Array Value) (hx : a.eval x = .agg M) (hM : NodeC y M)
    (h : wpList Tryd.prog ops Q rest (a.put o.dst (.int .i64 y.f1)) W) : wpList Tryd.prog ops Q (o :: rest) a W :=
  wpList_plain hgd fun _ hK => by
    unfold Oper.wp execOp
    simp only [ho, hx]
    rw [hM.eq]
    refine hK _ _ ?_
    exact h
end Go.Proofs.YtdphijhebppeeaaDoor.G
/- Chapter 5: a node's style goes with its kind. Written by mkF7.py, tmpl.py. -/
namespace Go.Proofs.YtdphijhebppeeaaDoor.G
open Go.RowKit Go.Maps Go.Proofs.YtdphijhebppeeaaDoorW.PrintWords Go.Proofs.YtdphijhebppeeaaDoorW.PrintLast Go.Proofs.YtdphijhebppeeaaDoorW.PrintMore
attribute [local irreducible] cN
section
variable {P : Program} {ops : Array Oper} {C : World → Prop} {Q : Act → Prop} {a : Act} {o : Oper} {rest : List Oper}
/-- A region that draws its order, in a class of worlds of one's own. -/
theorem region_quiet_in {id : Nat} {Q : Exit → Act → World → Prop} {w : World} {l : List Oper} (hm : P.follows .mixedOrders = true) (hB : Region.lexB .any l.toArray = true) (hC : C w.drew)
    (h : wpQuiet P l.toArray C (fun a' => ∀ w', C w' → Q .normal a' w') l a) : (Code.region id l.toArray true).wp P Q a w :=
  wp_region_quiet (C := C) hm hB hC (by simpa using h)
theorem q_val {u : Value} (hw : Region.wanted o (yielded ops a.tmps) = true) (h : ∀ w, C w → o.quietAt P a C w u) (hk : wpQuiet P ops C Q rest (a.put o.dst u)) : wpQuiet P ops C Q (o :: rest) a :=
  BigFrame.wpQuiet_want hw fun _ hK => ⟨u, h, hK _ hk⟩
end
theorem q_loadS {ops : Array Oper} {C : World → Prop} {Q : Act → Prop} {a : Act} {o : Oper} {rest : List Oper} (hw : Region.wanted o (yielded ops a.tmps) = true) (x : Operand) (ho : o.op = .load 29 x) (p : Addr) (hx : a.eval x = .pointer (some p)) (S : Array Value) (hS : S.size = 16)
    (hc : ∀ w, C w → ranges w p S.toList) (hk : wpQuiet Tryd.prog ops C Q rest (a.put o.dst (.agg S))) : wpQuiet Tryd.prog ops C Q (o :: rest) a :=
  q_val hw (fun w hC => by
    unfold Oper.quietAt execOp
    have hl := run_loadVar_p (P := Tryd.prog) w p 29 S.toList _ (hc w hC) Tryd.underlying29 rfl (by rw [infoS]; simp [hS])
    simp only [ho, hx, Instr.loadAt, Instr.sureAddr, Sem.run_bind, Sem.run_pure, Result.andThen_ok, hl, Oper.quietUpon]
    exact ⟨trivial, trivial⟩) hk
theorem q_loadV {P : Program} {ops : Array Oper} {C : World → Prop} {Q : Act → Prop} {a : Act} {o : Oper} {rest : List Oper} (hw : Region.wanted o (yielded ops a.tmps) = true) (ty : TypeId) (x : Operand) (ho : o.op = .load ty x) (p : Addr) (hx : a.eval x = .pointer (some p)) (v : Value) {d : TypeDesc}
    (hu : P.underlying ty = some d) (hd : d.isRow = false) (hc : ∀ w, C w → w.cell? p = some v) (hk : wpQuiet P ops C Q rest (a.put o.dst v)) : wpQuiet P ops C Q (o :: rest) a :=
  q_val hw (fun w hC => by
    unfold Oper.quietAt execOp
    have hl : (loadVar ty p).run P w = .ok v w := by
      have hagg : (isAgg ty).run P w = .ok false w := by
        unfold isAgg
        rw [Sem.run_bind, run_underlying hu w]
        cases d <;> simp_all [TypeDesc.isRow]
      simp [loadVar, Sem.run_bind, hagg, hc w hC]
    simp only [ho, hx, Instr.loadAt, Instr.sureAddr, Sem.run_bind, Sem.run_pure, Result.andThen_ok, hl, Oper.quietUpon]
    exact ⟨trivial, trivial⟩) hk
theorem callR (args : Array Value) (w : World) : (callFunc 80 args).run Tryd.prog w = .ok (.enter 80 args) w := by
  go_simp
theorem callM (args : Array Value) (w : World) : (callFunc 81 args).run Tryd.prog w = .ok (.enter 81 args) w := by
  go_simp
theorem q_gate {P : Program} {ops : Array Oper} {C : World → Prop} {Q : Act → Prop} {a : Act} {o : Oper} {rest : List Oper} (f : FuncId) (x : Operand) (ts : Array TypeId) (_ho : o.op = .call { callee := .value (.func f), args := #[x], argTypes := ts }) (h : wpQuiet P ops C Q (o :: rest) a) : wpQuiet P ops C Q (o :: rest) a := h
theorem q_call {P : Program} {ops : Array Oper} {C : World → Prop} {Q : Act → Prop} {a : Act} {o : Oper} {rest : List Oper} (hw : Region.wanted o (yielded ops a.tmps) = true) (f : FuncId) (x : Operand) (ts : Array TypeId) (ho : o.op = .call { callee := .value (.func f), args := #[x], argTypes := ts })
    (he : ∀ args w, (callFunc f args).run P w = .ok (.enter f args) w) (v : Value) (hx : a.eval x = v) (u : Value) (h : ∀ w, C w → Calls P f #[v] w fun e w' => e = .returned u ∧ C w') (hk : wpQuiet P ops C Q rest (a.put o.dst u)) : wpQuiet P ops C Q (o :: rest) a :=
  q_val hw (fun w hC => by
    unfold Oper.quietAt execOp
    have h1 := h w hC
    rw [← hx] at h1
    simp only [ho]
    have hev : a.eval (.func f) = .func (.func f) #[] #[] := rfl
    simp [resolve, invoke, hev, Deferred.ofValue, he, Oper.quietUpon]
    exact h1) hk
set_option maxHeartbeats 4000000 in
set_option maxRecDepth 100000 in
theorem style_any (t : List Node) (A0 : Option Addr) (c0 b n : Nat) (w : World) (hn : n < t.length) (hc : kN.C w A0 t.length t) (hb : w.cell? ⟨b, 0, none⟩ = some (.slice A0 t.length c0)) :
    Calls Tryd.prog 66 #[.pointer (some ⟨b, 0, none⟩), .int .i64 n] w fun e w' => e = .returned (.bool (styleB t n)) ∧ Below w.heap.size w w' := by
  obtain ⟨ad, M, rfl, hM, hr⟩ := node_at hc n hn
  have hB1 := Aside0.mk (below_alloc (Below.refl w.heap.size w) (.cells M 31))
  have hP := Aside0.mk (parent_any t (some ad) c0 b n (w.alloc (.cells M 31)) hn (Kd.C_below hc hB1.out) (pw_cell_below hB1.out hb))
  have hK := Aside0.mk (blk_new w (.cells M 31))
  have hM2 := Aside0.mk hM
  have hr2 := Aside0.mk hr
  have hS := Aside0.mk hM.style
  have hn' : (n : Int) < t.length := by omega
  have hRx := fun W => styR_any hM.style W
  have hMx := fun W => styM_any hM.style W
  have q1 := hM.c1
  have q16 := hM.c16
  have q17 := hM.c17
  unfold styleB spanB
  generalize styR (t.getD n zN) = R at *
  generalize styM (t.getD n zN) = Mm at *
  generalize (t.getD n zN).f1 = k at *
  generalize (t.getD n zN).f5.f12 = sd at *
  generalize (t.getD n zN).f5.f11 = sp at *
  obtain ⟨pk, hpk⟩ : ∃ pk, (parentOf t n).f1 = pk := ⟨_, rfl⟩
  rw [hpk]
  replace hpk := Aside0.mk hpk
  obtain ⟨fl, hfl⟩ : ∃ fl, decide (sd ≠ 0) = fl := ⟨_, rfl⟩
  rw [hfl]
  have hfl2 : (sd != 0) = fl := by rw [← hfl]; simp [bne]; by_cases h : sd = 0 <;> simp [h]
  have hsp : ∃ b, ((decide (k = 1) || decide (k = 3)) && (decide (pk = 4) && !fl)) = b := ⟨_, rfl⟩
  obtain ⟨sb, hsb⟩ := hsp
  rw [hsb]
  replace hsb := Aside0.mk hsb
  replace hfl := Aside0.mk hfl
  have HRx := Aside0.mk hRx
  have HMx := Aside0.mk hMx
  have Q1 := Aside0.mk q1
  have Q16 := Aside0.mk q16
  have Q17 := Aside0.mk q17
  clear hM hr hc hRx hMx q1 q16 q17
  have k17 := Aside0.mk (cell_at hK.out 17 Q17.out)
  go_enter Tryd.func66, Tryd.ntmps66
  go_upto_region 2 with (first | (refine gate_guard (by rfl) ?_; refine loadN_at rfl _ rfl (ad.add (n * 21)) rfl M hM2.out.size hr2.out ?_) | (refine storeN_at rfl _ _ rfl M _ rfl rfl hM2.out.size hM2.out.one rfl ?_))
  generalize hW : w.alloc (.cells M 31) = W1 at *
  have c17 := k17.out
  go_upto_region 3 with fail
  clear c17 hb
  go_cut [7] (fun c wx => c = .bool sb ∧ Below W1.heap.size W1 wx)
  case first =>
    have c1 := cell_at hK.out 1 Q1.out
    clear hfl2
    by_cases x1 : k = 1
    · subst x1
      by_cases x4 : pk = 4
      · subst x4
        cases fl
        all_goals
          go_wp2_with (first | (go_at_call 79; refine hP.out.mono ?_; rintro e w2 ⟨⟨M2, hM2', rfl⟩, hb2⟩; have hMp := Aside0.mk hM2'; have hB2 := Aside0.mk hb2; clear hM2' hb2) | (refine gate_guard (by rfl) ?_; refine field_at rfl _ rfl (parentOf t n) M2 rfl hMp.out ?_; rw [hpk.out]))
          go_meet
          exact ⟨by rw [← hsb.out]; rfl, hB2.out⟩
      · have x4' : (pk == 4) = false := by simp [x4]
        go_wp2_with (first | (go_at_call 79; refine hP.out.mono ?_; rintro e w2 ⟨⟨M2, hM2', rfl⟩, hb2⟩; have hMp := Aside0.mk hM2'; have hB2 := Aside0.mk hb2; clear hM2' hb2) | (refine gate_guard (by rfl) ?_; refine field_at rfl _ rfl (parentOf t n) M2 rfl hMp.out ?_; rw [hpk.out]))
        go_meet
        exact ⟨by rw [← hsb.out]; simp [x4], hB2.out⟩
    · have x1' : (k == 1) = false := by simp [x1]
      by_cases x3 : k = 3
      · subst x3
        by_cases x4 : pk = 4
        · subst x4
          cases fl
          all_goals
            go_wp2_with (first | (go_at_call 79; refine hP.out.mono ?_; rintro e w2 ⟨⟨M2, hM2', rfl⟩, hb2⟩; have hMp := Aside0.mk hM2'; have hB2 := Aside0.mk hb2; clear hM2' hb2) | (refine gate_guard (by rfl) ?_; refine field_at rfl _ rfl (parentOf t n) M2 rfl hMp.out ?_; rw [hpk.out]))
            go_meet
            exact ⟨by rw [← hsb.out]; rfl, hB2.out⟩
        · have x4' : (pk == 4) = false := by simp [x4]
          go_wp2_with (first | (go_at_call 79; refine hP.out.mono ?_; rintro e w2 ⟨⟨M2, hM2', rfl⟩, hb2⟩; have hMp := Aside0.mk hM2'; have hB2 := Aside0.mk hb2; clear hM2' hb2) | (refine gate_guard (by rfl) ?_; refine field_at rfl _ rfl (parentOf t n) M2 rfl hMp.out ?_; rw [hpk.out]))
          go_meet
          exact ⟨by rw [← hsb.out]; simp [x4], hB2.out⟩
      · have x3' : (k == 3) = false := by simp [x3]
        go_wp2_with fail
        go_meet
        exact ⟨by rw [← hsb.out]; simp [x1, x3], Below.refl ..⟩
  case rest =>
    obtain ⟨rfl, hb3⟩ := hcut
    have hB3 := Aside0.mk hb3
    have c1 := pw_cell_below hb3 (cell_at hK.out 1 Q1.out)
    have c16 := pw_cell_below hb3 (cell_at hK.out 16 Q16.out)
    have hrS := Aside0.mk (ranges_below (ranges_style hK.out) hb3)
    clear hb3
    have hd3 := fun w' (h : Below W1.heap.size W1 w') => cell_at (blk_below hK.out h) 1 Q1.out
    have hd16 := fun w' (h : Below W1.heap.size W1 w') => cell_at (blk_below hK.out h) 16 Q16.out
    have hdS := fun w' (h : Below W1.heap.size W1 w') => ranges_below (ranges_style hK.out) h
    have D3 := Aside0.mk hd3
    have D16 := Aside0.mk hd16
    have DS := Aside0.mk hdS
    have HRc := Aside0.mk (fun wz (hz : Below W1.heap.size W1 wz) => (HRx.out wz).mono fun e w' h => (⟨h.1, below_then hz hz.size h.2⟩ : e = .returned (.bool R) ∧ Below W1.heap.size W1 w'))
    have HMc := Aside0.mk (fun wz (hz : Below W1.heap.size W1 wz) => (HMx.out wz).mono fun e w' h => (⟨h.1, below_then hz hz.size h.2⟩ : e = .returned (.bool Mm) ∧ Below W1.heap.size W1 w'))
    clear HRx HMx
    have C0 := Aside0.mk (below_drew hB3.out)
    clear hd3 hd16 hdS c1 c16 hrS
    go_upto_region 4 with fail
    cases R
    · refine region_quiet_in (C := fun w' => Below W1.heap.size W1 w') (by kernel_rfl) (by kernel_rfl) C0.out ?_
      repeat (first
        | go_big_quiet_skip
        | (refine q_loadS (by rfl) _ rfl _ rfl _ hS.out.size DS.out ?_; go_frame)
        | (refine q_loadV (by rfl) 3 _ rfl _ rfl _ Tryd.underlying3 rfl D3.out ?_; go_frame)
        | (refine q_loadV (by rfl) 4 _ rfl _ rfl _ Tryd.underlying4 rfl D16.out ?_; go_frame)
        | ((with_reducible refine q_gate 80 _ _ rfl ?_); refine q_call (by rfl) 80 _ _ rfl callR _ rfl (.bool false) HRc.out ?_; go_frame)
        | ((with_reducible refine q_gate 81 _ _ rfl ?_); refine q_call (by rfl) 81 _ _ rfl callM _ rfl (.bool Mm) HMc.out ?_; go_frame)
        | (go_big_quiet_want; go_big_quiet_op; first | go_big_quiet_on | (refine ⟨_, fun _ _ => rfl, ?_⟩; go_big_quiet_on)))
      refine wpQuiet_nil ?_
      intro w4 h4
      go_wp2
      go_ret
      exact ⟨by rfl, below_then hB1.out hB1.out.size h4⟩
    · cases fl
      · by_cases x4 : k = 4
        · subst x4
          cases Mm
          · refine region_quiet_in (C := fun w' => Below W1.heap.size W1 w') (by kernel_rfl) (by kernel_rfl) C0.out ?_
            repeat (first
              | go_big_quiet_skip
              | (refine q_loadS (by rfl) _ rfl _ rfl _ hS.out.size DS.out ?_; go_frame)
              | (refine q_loadV (by rfl) 3 _ rfl _ rfl _ Tryd.underlying3 rfl D3.out ?_; go_frame)
              | (refine q_loadV (by rfl) 4 _ rfl _ rfl _ Tryd.underlying4 rfl D16.out ?_; go_frame)
              | ((with_reducible refine q_gate 80 _ _ rfl ?_); refine q_call (by rfl) 80 _ _ rfl callR _ rfl (.bool true) HRc.out ?_; go_frame)
              | ((with_reducible refine q_gate 81 _ _ rfl ?_); refine q_call (by rfl) 81 _ _ rfl callM _ rfl (.bool false) HMc.out ?_; go_frame)
              | (go_big_quiet_want; go_big_quiet_op; first | go_big_quiet_on | (refine ⟨_, fun _ _ => rfl, ?_⟩; go_big_quiet_on)))
            refine wpQuiet_nil ?_
            intro w4 h4
            go_wp2
            go_ret
            exact ⟨by simp, below_then hB1.out hB1.out.size h4⟩
          · cases sb
            · refine region_quiet_in (C := fun w' => Below W1.heap.size W1 w') (by kernel_rfl) (by kernel_rfl) C0.out ?_
              repeat (first
                | go_big_quiet_skip
                | (refine q_loadS (by rfl) _ rfl _ rfl _ hS.out.size DS.out ?_; go_frame)
                | (refine q_loadV (by rfl) 3 _ rfl _ rfl _ Tryd.underlying3 rfl D3.out ?_; go_frame)
                | (refine q_loadV (by rfl) 4 _ rfl _ rfl _ Tryd.underlying4 rfl D16.out ?_; go_frame)
                | ((with_reducible refine q_gate 80 _ _ rfl ?_); refine q_call (by rfl) 80 _ _ rfl callR _ rfl (.bool true) HRc.out ?_; go_frame)
                | ((with_reducible refine q_gate 81 _ _ rfl ?_); refine q_call (by rfl) 81 _ _ rfl callM _ rfl (.bool true) HMc.out ?_; go_frame)
                | (go_big_quiet_want; go_big_quiet_op; first | go_big_quiet_on | (refine ⟨_, fun _ _ => rfl, ?_⟩; go_big_quiet_on)))
              refine wpQuiet_nil ?_
              intro w4 h4
              go_wp2
              go_ret
              exact ⟨by simp, below_then hB1.out hB1.out.size h4⟩
            · refine region_quiet_in (C := fun w' => Below W1.heap.size W1 w') (by kernel_rfl) (by kernel_rfl) C0.out ?_
              repeat (first
                | go_big_quiet_skip
                | (refine q_loadS (by rfl) _ rfl _ rfl _ hS.out.size DS.out ?_; go_frame)
                | (refine q_loadV (by rfl) 3 _ rfl _ rfl _ Tryd.underlying3 rfl D3.out ?_; go_frame)
                | (refine q_loadV (by rfl) 4 _ rfl _ rfl _ Tryd.underlying4 rfl D16.out ?_; go_frame)
                | ((with_reducible refine q_gate 80 _ _ rfl ?_); refine q_call (by rfl) 80 _ _ rfl callR _ rfl (.bool true) HRc.out ?_; go_frame)
                | ((with_reducible refine q_gate 81 _ _ rfl ?_); refine q_call (by rfl) 81 _ _ rfl callM _ rfl (.bool true) HMc.out ?_; go_frame)
                | (go_big_quiet_want; go_big_quiet_op; first | go_big_quiet_on | (refine ⟨_, fun _ _ => rfl, ?_⟩; go_big_quiet_on)))
              refine wpQuiet_nil ?_
              intro w4 h4
              go_wp2
              go_ret
              exact ⟨by simp, below_then hB1.out hB1.out.size h4⟩
        · have x4' : (k == 4) = false := by simp [x4]
          cases Mm
          · cases sb
            · refine region_quiet_in (C := fun w' => Below W1.heap.size W1 w') (by kernel_rfl) (by kernel_rfl) C0.out ?_
              repeat (first
                | go_big_quiet_skip
                | (refine q_loadS (by rfl) _ rfl _ rfl _ hS.out.size DS.out ?_; go_frame)
                | (refine q_loadV (by rfl) 3 _ rfl _ rfl _ Tryd.underlying3 rfl D3.out ?_; go_frame)
                | (refine q_loadV (by rfl) 4 _ rfl _ rfl _ Tryd.underlying4 rfl D16.out ?_; go_frame)
                | ((with_reducible refine q_gate 80 _ _ rfl ?_); refine q_call (by rfl) 80 _ _ rfl callR _ rfl (.bool true) HRc.out ?_; go_frame)
                | ((with_reducible refine q_gate 81 _ _ rfl ?_); refine q_call (by rfl) 81 _ _ rfl callM _ rfl (.bool false) HMc.out ?_; go_frame)
                | (go_big_quiet_want; go_big_quiet_op; first | go_big_quiet_on | (refine ⟨_, fun _ _ => rfl, ?_⟩; go_big_quiet_on)))
              refine wpQuiet_nil ?_
              intro w4 h4
              go_wp2
              go_ret
              exact ⟨by simp [x4], below_then hB1.out hB1.out.size h4⟩
            · refine region_quiet_in (C := fun w' => Below W1.heap.size W1 w') (by kernel_rfl) (by kernel_rfl) C0.out ?_
              repeat (first
                | go_big_quiet_skip
                | (refine q_loadS (by rfl) _ rfl _ rfl _ hS.out.size DS.out ?_; go_frame)
                | (refine q_loadV (by rfl) 3 _ rfl _ rfl _ Tryd.underlying3 rfl D3.out ?_; go_frame)
                | (refine q_loadV (by rfl) 4 _ rfl _ rfl _ Tryd.underlying4 rfl D16.out ?_; go_frame)
                | ((with_reducible refine q_gate 80 _ _ rfl ?_); refine q_call (by rfl) 80 _ _ rfl callR _ rfl (.bool true) HRc.out ?_; go_frame)
                | ((with_reducible refine q_gate 81 _ _ rfl ?_); refine q_call (by rfl) 81 _ _ rfl callM _ rfl (.bool false) HMc.out ?_; go_frame)
                | (go_big_quiet_want; go_big_quiet_op; first | go_big_quiet_on | (refine ⟨_, fun _ _ => rfl, ?_⟩; go_big_quiet_on)))
              refine wpQuiet_nil ?_
              intro w4 h4
              go_wp2
              go_ret
              exact ⟨by simp [x4], below_then hB1.out hB1.out.size h4⟩
          · refine region_quiet_in (C := fun w' => Below W1.heap.size W1 w') (by kernel_rfl) (by kernel_rfl) C0.out ?_
            repeat (first
              | go_big_quiet_skip
              | (refine q_loadS (by rfl) _ rfl _ rfl _ hS.out.size DS.out ?_; go_frame)
              | (refine q_loadV (by rfl) 3 _ rfl _ rfl _ Tryd.underlying3 rfl D3.out ?_; go_frame)
              | (refine q_loadV (by rfl) 4 _ rfl _ rfl _ Tryd.underlying4 rfl D16.out ?_; go_frame)
              | ((with_reducible refine q_gate 80 _ _ rfl ?_); refine q_call (by rfl) 80 _ _ rfl callR _ rfl (.bool true) HRc.out ?_; go_frame)
              | ((with_reducible refine q_gate 81 _ _ rfl ?_); refine q_call (by rfl) 81 _ _ rfl callM _ rfl (.bool true) HMc.out ?_; go_frame)
              | (go_big_quiet_want; go_big_quiet_op; first | go_big_quiet_on | (refine ⟨_, fun _ _ => rfl, ?_⟩; go_big_quiet_on)))
            refine wpQuiet_nil ?_
            intro w4 h4
            go_wp2
            go_ret
            exact ⟨by simp [x4], below_then hB1.out hB1.out.size h4⟩
      · by_cases x3 : k = 3
        · subst x3
          cases Mm
          · cases sb
            · refine region_quiet_in (C := fun w' => Below W1.heap.size W1 w') (by kernel_rfl) (by kernel_rfl) C0.out ?_
              repeat (first
                | go_big_quiet_skip
                | (refine q_loadS (by rfl) _ rfl _ rfl _ hS.out.size DS.out ?_; go_frame)
                | (refine q_loadV (by rfl) 3 _ rfl _ rfl _ Tryd.underlying3 rfl D3.out ?_; go_frame)
                | (refine q_loadV (by rfl) 4 _ rfl _ rfl _ Tryd.underlying4 rfl D16.out ?_; go_frame)
                | ((with_reducible refine q_gate 80 _ _ rfl ?_); refine q_call (by rfl) 80 _ _ rfl callR _ rfl (.bool true) HRc.out ?_; go_frame)
                | ((with_reducible refine q_gate 81 _ _ rfl ?_); refine q_call (by rfl) 81 _ _ rfl callM _ rfl (.bool false) HMc.out ?_; go_frame)
                | (go_big_quiet_want; go_big_quiet_op; first | go_big_quiet_on | (refine ⟨_, fun _ _ => rfl, ?_⟩; go_big_quiet_on)))
              refine wpQuiet_nil ?_
              intro w4 h4
              go_wp2
              go_ret
              exact ⟨by simp, below_then hB1.out hB1.out.size h4⟩
            · refine region_quiet_in (C := fun w' => Below W1.heap.size W1 w') (by kernel_rfl) (by kernel_rfl) C0.out ?_
              repeat (first
                | go_big_quiet_skip
                | (refine q_loadS (by rfl) _ rfl _ rfl _ hS.out.size DS.out ?_; go_frame)
                | (refine q_loadV (by rfl) 3 _ rfl _ rfl _ Tryd.underlying3 rfl D3.out ?_; go_frame)
                | (refine q_loadV (by rfl) 4 _ rfl _ rfl _ Tryd.underlying4 rfl D16.out ?_; go_frame)
                | ((with_reducible refine q_gate 80 _ _ rfl ?_); refine q_call (by rfl) 80 _ _ rfl callR _ rfl (.bool true) HRc.out ?_; go_frame)
                | ((with_reducible refine q_gate 81 _ _ rfl ?_); refine q_call (by rfl) 81 _ _ rfl callM _ rfl (.bool false) HMc.out ?_; go_frame)
                | (go_big_quiet_want; go_big_quiet_op; first | go_big_quiet_on | (refine ⟨_, fun _ _ => rfl, ?_⟩; go_big_quiet_on)))
              refine wpQuiet_nil ?_
              intro w4 h4
              go_wp2
              go_ret
              exact ⟨by simp, below_then hB1.out hB1.out.size h4⟩
          · refine region_quiet_in (C := fun w' => Below W1.heap.size W1 w') (by kernel_rfl) (by kernel_rfl) C0.out ?_
            repeat (first
              | go_big_quiet_skip
              | (refine q_loadS (by rfl) _ rfl _ rfl _ hS.out.size DS.out ?_; go_frame)
              | (refine q_loadV (by rfl) 3 _ rfl _ rfl _ Tryd.underlying3 rfl D3.out ?_; go_frame)
              | (refine q_loadV (by rfl) 4 _ rfl _ rfl _ Tryd.underlying4 rfl D16.out ?_; go_frame)
              | ((with_reducible refine q_gate 80 _ _ rfl ?_); refine q_call (by rfl) 80 _ _ rfl callR _ rfl (.bool true) HRc.out ?_; go_frame)
              | ((with_reducible refine q_gate 81 _ _ rfl ?_); refine q_call (by rfl) 81 _ _ rfl callM _ rfl (.bool true) HMc.out ?_; go_frame)
              | (go_big_quiet_want; go_big_quiet_op; first | go_big_quiet_on | (refine ⟨_, fun _ _ => rfl, ?_⟩; go_big_quiet_on)))
            refine wpQuiet_nil ?_
            intro w4 h4
            go_wp2
            go_ret
            exact ⟨by simp, below_then hB1.out hB1.out.size h4⟩
        · have x3' : (k == 3) = false := by simp [x3]
          refine region_quiet_in (C := fun w' => Below W1.heap.size W1 w') (by kernel_rfl) (by kernel_rfl) C0.out ?_
          repeat (first
            | go_big_quiet_skip
            | (refine q_loadS (by rfl) _ rfl _ rfl _ hS.out.size DS.out ?_; go_frame)
            | (refine q_loadV (by rfl) 3 _ rfl _ rfl _ Tryd.underlying3 rfl D3.out ?_; go_frame)
            | (refine q_loadV (by rfl) 4 _ rfl _ rfl _ Tryd.underlying4 rfl D16.out ?_; go_frame)
            | ((with_reducible refine q_gate 80 _ _ rfl ?_); refine q_call (by rfl) 80 _ _ rfl callR _ rfl (.bool true) HRc.out ?_; go_frame)
            | ((with_reducible refine q_gate 81 _ _ rfl ?_); refine q_call (by rfl) 81 _ _ rfl callM _ rfl (.bool Mm) HMc.out ?_; go_frame)
            | (go_big_quiet_want; go_big_quiet_op; first | go_big_quiet_on | (refine ⟨_, fun _ _ => rfl, ?_⟩; go_big_quiet_on)))
          refine wpQuiet_nil ?_
          intro w4 h4
          go_wp2
          go_ret
          exact ⟨by simp [x3], below_then hB1.out hB1.out.size h4⟩
end Go.Proofs.YtdphijhebppeeaaDoor.G
/- Chapter 5: '==' of nodes, and whether a node is right by its kind. Written by mkF8.py, tmpl.py. -/
namespace Go.Proofs.YtdphijhebppeeaaDoor.G
open Go.RowKit Go.Maps Go.Proofs.YtdphijhebppeeaaDoorW.PrintWords Go.Proofs.YtdphijhebppeeaaDoorW.PrintLast Go.Proofs.YtdphijhebppeeaaDoorW.PrintMore
theorem eqStyle (d : Nat) (w : World) (x0 y0 : Int) (x1 y1 : Int) (x2 y2 : Int) (x3 y3 : Int) (x4 y4 : Bool) (x5 y5 : Int) (x6 y6 : Int) (x7 y7 : Int) (x8 y8 : Bool) (x9 y9 : Int) (x10 y10 : Int) (x11 y11 : Bool) (x12 y12 : Int) (x13 y13 : Bool) (x14 y14 : Int) (x15 y15 : Int) :
    (Op.equalIn (d + 2) 29 (.agg #[.int .i64 x0, .int .i64 x1, .int .i64 x2, .int .i64 x3, .bool x4, .int .i64 x5, .int .i64 x6, .int .i64 x7, .bool x8, .int .i64 x9, .int .i64 x10, .bool x11, .int .i64 x12, .bool x13, .int .i64 x14, .int .i64 x15]) (.agg #[.int .i64 y0, .int .i64 y1, .int .i64 y2, .int .i64 y3, .bool y4, .int .i64 y5, .int .i64 y6, .int .i64 y7, .bool y8, .int .i64 y9, .int .i64 y10, .bool y11, .int .i64 y12, .bool y13, .int .i64 y14, .int .i64 y15])).run Tryd.prog w = .ok (x0 == y0 && (x1 == y1 && (x2 == y2 && (x3 == y3 && (x4 == y4 && (x5 == y5 && (x6 == y6 && (x7 == y7 && (x8 == y8 && (x9 == y9 && (x10 == y10 && (x11 == y11 && (x12 == y12 && (x13 == y13 && (x14 == y14 && (x15 == y15)))))))))))))))) w := by
  refine eqA_of Tryd.underlying29 (by kernel_rfl) ?_
  refine eqf_cons (by rfl) (by go_simp; rfl) (by go_simp; rfl) (by go_simp) ?_
  refine eqf_cons (by rfl) (by go_simp; rfl) (by go_simp; rfl) (by go_simp) ?_
  refine eqf_cons (by rfl) (by go_simp; rfl) (by go_simp; rfl) (by go_simp) ?_
  refine eqf_cons (by rfl) (by go_simp; rfl) (by go_simp; rfl) (by go_simp) ?_
  refine eqf_cons (by rfl) (by go_simp; rfl) (by go_simp; rfl) (by go_simp) ?_
  refine eqf_cons (by rfl) (by go_simp; rfl) (by go_simp; rfl) (by go_simp) ?_
  refine eqf_cons (by rfl) (by go_simp; rfl) (by go_simp; rfl) (by go_simp) ?_
  refine eqf_cons (by rfl) (by go_simp; rfl) (by go_simp; rfl) (by go_simp) ?_
  refine eqf_cons (by rfl) (by go_simp; rfl) (by go_simp; rfl) (by go_simp) ?_
  refine eqf_cons (by rfl) (by go_simp; rfl) (by go_simp; rfl) (by go_simp) ?_
  refine eqf_cons (by rfl) (by go_simp; rfl) (by go_simp; rfl) (by go_simp) ?_
  refine eqf_cons (by rfl) (by go_simp; rfl) (by go_simp; rfl) (by go_simp) ?_
  refine eqf_cons (by rfl) (by go_simp; rfl) (by go_simp; rfl) (by go_simp) ?_
  refine eqf_cons (by rfl) (by go_simp; rfl) (by go_simp; rfl) (by go_simp) ?_
  refine eqf_cons (by rfl) (by go_simp; rfl) (by go_simp; rfl) (by go_simp) ?_
  exact eqf_last (by rfl) (by go_simp; rfl) (by go_simp; rfl) (by go_simp)
theorem eqNode (d : Nat) (w : World) (x0 y0 : Int) (x1 y1 : Int) (x2 y2 : ByteArray) (x3 y3 : Int) (x4 y4 : Int) (x5 y5 : Int) (x6 y6 : Int) (x7 y7 : Int) (x8 y8 : Int) (x9 y9 : Bool) (x10 y10 : Int) (x11 y11 : Int) (x12 y12 : Int) (x13 y13 : Bool) (x14 y14 : Int) (x15 y15 : Int) (x16 y16 : Bool) (x17 y17 : Int) (x18 y18 : Bool) (x19 y19 : Int) (x20 y20 : Int) :
    (Op.equalIn (d + 3) 31 (.agg #[.int .i64 x0, .int .i64 x1, .string x2, .int .i64 x3, .int .i64 x4, .int .i64 x5, .int .i64 x6, .int .i64 x7, .int .i64 x8, .bool x9, .int .i64 x10, .int .i64 x11, .int .i64 x12, .bool x13, .int .i64 x14, .int .i64 x15, .bool x16, .int .i64 x17, .bool x18, .int .i64 x19, .int .i64 x20]) (.agg #[.int .i64 y0, .int .i64 y1, .string y2, .int .i64 y3, .int .i64 y4, .int .i64 y5, .int .i64 y6, .int .i64 y7, .int .i64 y8, .bool y9, .int .i64 y10, .int .i64 y11, .int .i64 y12, .bool y13, .int .i64 y14, .int .i64 y15, .bool y16, .int .i64 y17, .bool y18, .int .i64 y19, .int .i64 y20])).run Tryd.prog w = .ok (x0 == y0 && (x1 == y1 && (x2.toList == y2.toList && (x3 == y3 && (x4 == y4 && ((x5 == y5 && (x6 == y6 && (x7 == y7 && (x8 == y8 && (x9 == y9 && (x10 == y10 && (x11 == y11 && (x12 == y12 && (x13 == y13 && (x14 == y14 && (x15 == y15 && (x16 == y16 && (x17 == y17 && (x18 == y18 && (x19 == y19 && (x20 == y20)))))))))))))))))))))) w := by
  refine eqA_of Tryd.underlying31 (by kernel_rfl) ?_
  refine eqf_cons (by rfl) (by go_simp; rfl) (by go_simp; rfl) (by go_simp) ?_
  refine eqf_cons (by rfl) (by go_simp; rfl) (by go_simp; rfl) (by go_simp) ?_
  refine eqf_cons (by rfl) (by go_simp; rfl) (by go_simp; rfl) (by go_simp) ?_
  refine eqf_cons (by rfl) (by go_simp; rfl) (by go_simp; rfl) (by go_simp) ?_
  refine eqf_cons (by rfl) (by go_simp; rfl) (by go_simp; rfl) (by go_simp) ?_
  exact eqf_last (by rfl) (by go_simp) (by go_simp) (eqStyle (d + 0) w _ _ _ _ _ _ _ _ _ _ _ _ _ _ _ _ _ _ _ _ _ _ _ _ _ _ _ _ _ _ _ _)
/-- Are two nodes the same? -/
def eqN (x y : Node) : Bool := x.f0 == y.f0 && (x.f1 == y.f1 && (x.f2.toList == y.f2.toList && (x.f3 == y.f3 && (x.f4 == y.f4 && ((x.f5.f0 == y.f5.f0 && (x.f5.f1 == y.f5.f1 && (x.f5.f2 == y.f5.f2 && (x.f5.f3 == y.f5.f3 && (x.f5.f4 == y.f5.f4 && (x.f5.f5 == y.f5.f5 && (x.f5.f6 == y.f5.f6 && (x.f5.f7 == y.f5.f7 && (x.f5.f8 == y.f5.f8 && (x.f5.f9 == y.f5.f9 && (x.f5.f10 == y.f5.f10 && (x.f5.f11 == y.f5.f11 && (x.f5.f12 == y.f5.f12 && (x.f5.f13 == y.f5.f13 && (x.f5.f14 == y.f5.f14 && (x.f5.f15 == y.f5.f15)))))))))))))))))))))
theorem eqN_run (d : Nat) (w : World) {x y : Node} {M M' : Array Value} (h : NodeC x M) (h' : NodeC y M') : (Op.equalIn (d + 3) 31 (.agg M) (.agg M')).run Tryd.prog w = .ok (eqN x y) w := by
  rw [h.eq, h'.eq]
  exact eqNode d w x.f0 y.f0 x.f1 y.f1 x.f2 y.f2 x.f3 y.f3 x.f4 y.f4 x.f5.f0 y.f5.f0 x.f5.f1 y.f5.f1 x.f5.f2 y.f5.f2 x.f5.f3 y.f5.f3 x.f5.f4 y.f5.f4 x.f5.f5 y.f5.f5 x.f5.f6 y.f5.f6 x.f5.f7 y.f5.f7 x.f5.f8 y.f5.f8 x.f5.f9 y.f5.f9 x.f5.f10 y.f5.f10 x.f5.f11 y.f5.f11 x.f5.f12 y.f5.f12 x.f5.f13 y.f5.f13 x.f5.f14 y.f5.f14 x.f5.f15 y.f5.f15
attribute [local irreducible] cN
set_option maxRecDepth 100000 in
theorem eqN_at {ops : Array Oper} {rest : List Oper} {o : Oper} {a : Act} {W : World} {Q : Exit → Act → World → Prop} (hgd : o.guard = none) (x y : Operand) (ho : o.op = .binOp .eql 31 x y 31) (nx ny : Node) (M M' : Array Value) (hx : a.eval x = .agg M) (hy : a.eval y = .agg M') (h : NodeC nx M) (h' : NodeC ny M')
    (hk : wpList Tryd.prog ops Q rest (a.put o.dst (.bool (eqN nx ny))) W) : wpList Tryd.prog ops Q (o :: rest) a W :=
  wpList_plain hgd fun _ hK => by
    have he := fun d => eqN_run d W h h'
    unfold Oper.wp execOp
    simp only [ho, hx, hy]
    have h2 : (Op.equal 31 (.agg M) (.agg M')).run Tryd.prog W = .ok (eqN nx ny) W := he _
    have hg : (eqGuard BinOp.eql 31 x y (.agg M) (.agg M')).run Tryd.prog W = .ok () W := by
      have h1 : Tryd.prog.eqGuardType Tryd.prog.depth 31 = false := by kernel_rfl
      simp [eqGuard, Sem.run_bind, h1]
    simp [Sem.run_bind, hg, binOp, h2]
    exact hK _ _ hk
/-- The node with its kind, its style and its parent alone. -/
def bareN (x : Node) : Node := { zN with f0 := x.f0, f1 := x.f1, f5 := x.f5 }
theorem built_bare (x : Node) {S : Array Value} (h : StyleC x S) : Tryd.prog.built 31 [(0, .int .i64 x.f0), (1, .int .i64 x.f1), (5, .agg S)] = some (cN (bareN x)) := by
  rw [h.eq]
  show Tryd.prog.built 31 _ = some _
  unfold cN bareN
  kernel_rfl
theorem buildB_at {ops : Array Oper} {rest : List Oper} {o : Oper} {a : Act} {W : World} {Q : Exit → Act → World → Prop} (hgd : o.guard = none) (x y z : Operand) (ho : o.op = .build 31 #[(0, x), (1, y), (5, z)]) {nx : Node} {S : Array Value} (hx : a.eval x = .int .i64 nx.f0) (hy : a.eval y = .int .i64 nx.f1) (hz : a.eval z = .agg S) (hS : StyleC nx S)
    (h : wpList Tryd.prog ops Q rest (a.put o.dst (.agg (cN (bareN nx)))) W) : wpList Tryd.prog ops Q (o :: rest) a W := by
  have hf : Tryd.prog.built 31 ((#[(0, x), (1, y), (5, z)] : Array (Nat × Operand)).map fun (i, x) => (i, a.eval x)).toList = some (cN (bareN nx)) := by
    have he : ((#[(0, x), (1, y), (5, z)] : Array (Nat × Operand)).map fun (i, x) => (i, a.eval x)).toList = [(0, .int .i64 nx.f0), (1, .int .i64 nx.f1), (5, .agg S)] := by simp [hx, hy, hz]
    rw [he]
    exact built_bare nx hS
  refine wpList_build hgd 31 _ ho (by rw [hf]; rfl) ?_
  rw [hf]
  exact h
theorem size1_any (a : Int) (w : World) : Calls Tryd.prog 77 #[.int .i64 a] w fun e w' => e = .returned (.bool (sizB a)) ∧ w = w' := by
  unfold sizB
  go_enter Tryd.func77, Tryd.ntmps77
  by_cases h1 : 0 ≤ a
  · by_cases h2 : a ≤ 1048576
    · go_wp2
      go_ret
      simp [h1, h2]
    · go_wp2
      go_ret
      simp [h2]
  · go_wp2
    go_ret
    simp only [and_true, Ending.returned.injEq]
    rw [decide_eq_false (show ¬ 0 ≤ a by omega)]
    rfl
end Go.Proofs.YtdphijhebppeeaaDoor.G
/- Chapter 5: a node is right by its kind. Written by mkF9.py, tmpl.py. -/
namespace Go.Proofs.YtdphijhebppeeaaDoor.G
open Go.RowKit Go.Maps Go.Proofs.YtdphijhebppeeaaDoorW.PrintWords Go.Proofs.YtdphijhebppeeaaDoorW.PrintLast Go.Proofs.YtdphijhebppeeaaDoorW.PrintMore
/-- The node with its kind, its style, its parent, its width and height alone. -/
def boxN (x : Node) : Node := { bareN x with f3 := x.f3, f4 := x.f4 }
/-- Is a node right by its kind? -/
def formB (x : Node) : Bool :=
  if x.f1 = 2 then decide (x.f3 = 0) && (decide (1 ≤ x.f4) && (sizB x.f4 && decide ((x.f2.size : Int) ≤ 400)))
  else if x.f1 = 3 then eqN x (boxN x) && (sizB x.f3 && sizB x.f4)
  else holdB x && eqN x (bareN x)
theorem box_cells (x : Node) : ((cN (bareN x)).setIfInBounds 3 (.int .i64 x.f3)).setIfInBounds 4 (.int .i64 x.f4) = cN (boxN x) := rfl
theorem bare_c3 (x : Node) : (cN (bareN x))[3]? = some (.int .i64 0) := rfl
theorem bare_c4 (x : Node) : (cN (bareN x))[4]? = some (.int .i64 0) := rfl
attribute [local irreducible] cN
theorem storeN_g {ops : Array Oper} {rest : List Oper} {o : Oper} {a : Act} {W : World} {Q : Exit → Act → World → Prop} (hgd : o.guard = none) (x y : Operand) (ho : o.op = .store 31 x y) (M old : Array Value) (g : Nat) (hg : W.heap.size = g) (hx : a.eval x = .pointer (some ⟨g, 0, none⟩)) (hy : a.eval y = .agg M)
    (hM : M.size = 21) (h1 : M.all (·.oneCell') = true) (hold : old.size = 21) (h : wpList Tryd.prog ops Q rest (a.put o.dst undef) (W.alloc (.cells M 31))) : wpList Tryd.prog ops Q (o :: rest) a (W.alloc (.cells old 31)) := by
  subst hg
  exact storeN_at hgd x y ho M old hx hy hM h1 hold h
set_option maxHeartbeats 4000000 in
set_option maxRecDepth 100000 in
theorem form_any (x : Node) (M : Array Value) (hM : NodeC x M) (w : World) : Calls Tryd.prog 63 #[.agg M] w fun e w' => e = .returned (.bool (formB x)) ∧ Below w.heap.size w w' := by
  have hK := Aside0.mk (blk_new w (.cells M 31))
  have hB1 := Aside0.mk (below_alloc (Below.refl w.heap.size w) (.cells M 31))
  have hM2 := Aside0.mk hM
  have hS := Aside0.mk hM.style
  have q0 := cell_at hK.out 0 hM.c0
  have q1 := cell_at hK.out 1 hM.c1
  have hrS := Aside0.mk (ranges_style hK.out)
  have hsz : (w.alloc (.cells M 31)).heap.size = w.heap.size + 1 := by simp
  have hK2 := blk_new (w.alloc (.cells M 31)) (.cells (cN (bareN x)) 31)
  rw [hsz] at hK2
  replace hK2 := Aside0.mk hK2
  have hK1 := Aside0.mk (blk_alloc hK.out (.cells (cN (bareN x)) 31))
  have hB2 := Aside0.mk (below_alloc hB1.out (.cells (cN (bareN x)) 31))
  obtain ⟨r, hr⟩ : ∃ r, formB x = r := ⟨_, rfl⟩
  rw [hr]
  replace hr := Aside0.mk hr
  clear hM
  go_enter Tryd.func63, Tryd.ntmps63
  go_upto_region 2 with (first | (refine loadS_at rfl _ rfl _ rfl _ hS.out.size hrS.out ?_) | (refine buildB_at rfl _ _ _ rfl rfl rfl rfl hS.out ?_) | (refine storeN_g rfl _ _ rfl (cN (bareN x)) _ (w.heap.size + 1) hsz rfl rfl (cN_size _) (cN_is _).one (by first | rfl | exact cN_size _) ?_))
  clear q0 q1 hrS
  generalize hW : (w.alloc (.cells M 31)).alloc (.cells (cN (bareN x)) 31) = W at *
  have q1 := cell_at hK1.out 1 hM2.out.c1
  have q2 := cell_at hK1.out 2 hM2.out.c2
  have q3 := cell_at hK1.out 3 hM2.out.c3
  have q4 := cell_at hK1.out 4 hM2.out.c4
  by_cases k2 : x.f1 = 2
  · have hk : (x.f1 == 2) = true := by simp [k2]
    cases h1 : decide (x.f3 = 0)
    · have e1 : (x.f3 == 0) = false := by simpa using h1
      go_wp2
      go_ret
      exact ⟨by rw [← hr.out]; simp [formB, k2, h1], hB2.out⟩
    · have e1 : (x.f3 == 0) = true := by simpa using h1
      by_cases h2 : 1 ≤ x.f4
      · cases h3 : sizB x.f4
        · go_wp2_with (first | (go_at_call_of 77 (Value.int .i64 x.f4); refine (size1_any x.f4 _).mono ?_; rintro e w' ⟨rfl, rfl⟩; rw [h3]))
          go_ret
          exact ⟨by rw [← hr.out]; simp [formB, k2, h1, h2, h3], hB2.out⟩
        · go_wp2_with (first | (go_at_call_of 77 (Value.int .i64 x.f4); refine (size1_any x.f4 _).mono ?_; rintro e w' ⟨rfl, rfl⟩; rw [h3]))
          go_ret
          exact ⟨by rw [← hr.out]; simp [formB, k2, h1, h2, h3], hB2.out⟩
      · go_wp2
        go_ret
        exact ⟨by rw [← hr.out]; simp [formB, k2, h1]; omega, hB2.out⟩
  · have hk : (x.f1 == 2) = false := by simp [k2]
    by_cases k3 : x.f1 = 3
    · have hk3 : (x.f1 == 3) = true := by simp [k3]
      have z3 := cell_at hK2.out 3 (bare_c3 x)
      have z4 := cell_at hK2.out 4 (bare_c4 x)
      have y3 := blk_frozen hK2.out 3
      have y4 := blk_frozen hK2.out 4
      go_upto_region 7 with fail
      go_cut [] (fun wx => wx.heap[w.heap.size]? = some (.cells M 31 (0, 0)) ∧ wx.heap[w.heap.size + 1]? = some (.cells (cN (boxN x)) 31 (0, 0)) ∧ Below w.heap.size w wx)
      case first =>
        go_region
        go_wp2_with fail
        go_meet
        exact ⟨blk_drew (blk_far (blk_far hK1.out (by simp) _) (by simp) _), blk_drew (blk_put (blk_put hK2.out 3 _ rfl) 4 _ (box_cells x)), below_drew (below_set (below_set hB2.out (by simp)) (by simp))⟩
      case rest =>
        obtain ⟨g1, g2, g3⟩ := hcut
        have hB3 := Aside0.mk g3
        have hrM := Aside0.mk (ranges_blk g1)
        have hrB := Aside0.mk (ranges_blk g2)
        have u3 := cell_at g1 3 hM2.out.c3
        have u4 := cell_at g1 4 hM2.out.c4
        clear q1 q2 q3 q4 z3 z4 y3 y4 g3
        cases h1 : eqN x (boxN x)
        · go_wp2_with (first | (refine gate_guard (by rfl) ?_; refine loadN_at rfl _ rfl ⟨w.heap.size, 0, none⟩ rfl M hM2.out.size hrM.out ?_) | (refine gate_guard (by rfl) ?_; refine loadN_at rfl _ rfl ⟨w.heap.size + 1, 0, none⟩ rfl (cN (boxN x)) (cN_size _) hrB.out ?_) | (refine gate_guard (by rfl) ?_; refine eqN_at rfl _ _ rfl x (boxN x) M (cN (boxN x)) rfl rfl hM2.out (cN_is _) ?_; rw [h1]))
          go_ret
          exact ⟨by rw [← hr.out]; simp [formB, k3, h1], hB3.out⟩
        · cases h2 : sizB x.f3
          · go_wp2_with (first | (refine gate_guard (by rfl) ?_; refine loadN_at rfl _ rfl ⟨w.heap.size, 0, none⟩ rfl M hM2.out.size hrM.out ?_) | (refine gate_guard (by rfl) ?_; refine loadN_at rfl _ rfl ⟨w.heap.size + 1, 0, none⟩ rfl (cN (boxN x)) (cN_size _) hrB.out ?_) | (refine gate_guard (by rfl) ?_; refine eqN_at rfl _ _ rfl x (boxN x) M (cN (boxN x)) rfl rfl hM2.out (cN_is _) ?_; rw [h1]) | (go_at_call_of 77 (Value.int .i64 x.f3); refine (size1_any x.f3 _).mono ?_; rintro e w' ⟨rfl, rfl⟩; rw [h2]))
            go_ret
            exact ⟨by rw [← hr.out]; simp [formB, k3, h1, h2], hB3.out⟩
          · cases h3 : sizB x.f4
            · go_wp2_with (first | (refine gate_guard (by rfl) ?_; refine loadN_at rfl _ rfl ⟨w.heap.size, 0, none⟩ rfl M hM2.out.size hrM.out ?_) | (refine gate_guard (by rfl) ?_; refine loadN_at rfl _ rfl ⟨w.heap.size + 1, 0, none⟩ rfl (cN (boxN x)) (cN_size _) hrB.out ?_) | (refine gate_guard (by rfl) ?_; refine eqN_at rfl _ _ rfl x (boxN x) M (cN (boxN x)) rfl rfl hM2.out (cN_is _) ?_; rw [h1]) | (go_at_call_of 77 (Value.int .i64 x.f3); refine (size1_any x.f3 _).mono ?_; rintro e w' ⟨rfl, rfl⟩; rw [h2]) | (go_at_call_of 77 (Value.int .i64 x.f4); refine (size1_any x.f4 _).mono ?_; rintro e w' ⟨rfl, rfl⟩; rw [h3]))
              go_ret
              exact ⟨by rw [← hr.out]; simp [formB, k3, h1, h2, h3], hB3.out⟩
            · go_wp2_with (first | (refine gate_guard (by rfl) ?_; refine loadN_at rfl _ rfl ⟨w.heap.size, 0, none⟩ rfl M hM2.out.size hrM.out ?_) | (refine gate_guard (by rfl) ?_; refine loadN_at rfl _ rfl ⟨w.heap.size + 1, 0, none⟩ rfl (cN (boxN x)) (cN_size _) hrB.out ?_) | (refine gate_guard (by rfl) ?_; refine eqN_at rfl _ _ rfl x (boxN x) M (cN (boxN x)) rfl rfl hM2.out (cN_is _) ?_; rw [h1]) | (go_at_call_of 77 (Value.int .i64 x.f3); refine (size1_any x.f3 _).mono ?_; rintro e w' ⟨rfl, rfl⟩; rw [h2]) | (go_at_call_of 77 (Value.int .i64 x.f4); refine (size1_any x.f4 _).mono ?_; rintro e w' ⟨rfl, rfl⟩; rw [h3]))
              go_ret
              exact ⟨by rw [← hr.out]; simp [formB, k3, h1, h2, h3], hB3.out⟩
    · have hk3 : (x.f1 == 3) = false := by simp [k3]
      have hrM := Aside0.mk (ranges_blk hK1.out)
      have hrB := Aside0.mk (ranges_blk hK2.out)
      cases h1 : holdB x
      · go_wp2_with (first | (refine gate_guard (by rfl) ?_; refine loadN_at rfl _ rfl ⟨w.heap.size, 0, none⟩ rfl M hM2.out.size hrM.out ?_) | (refine gate_guard (by rfl) ?_; refine loadN_at rfl _ rfl ⟨w.heap.size + 1, 0, none⟩ rfl (cN (bareN x)) (cN_size _) hrB.out ?_) | (refine gate_guard (by rfl) ?_; refine eqN_at rfl _ _ rfl x (bareN x) M (cN (bareN x)) rfl rfl hM2.out (cN_is _) ?_) | (go_at_call 78; refine (holder_any x M hM2.out _).mono ?_; rintro e w2 ⟨rfl, hb⟩; rw [h1]))
        go_ret
        exact ⟨by rw [← hr.out]; simp [formB, k2, k3, h1], below_then hB2.out hB2.out.size hb⟩
      · go_wp2_with (first | (refine gate_guard (by rfl) ?_; refine loadN_at rfl _ rfl ⟨w.heap.size, 0, none⟩ rfl M hM2.out.size (ranges_below hrM.out hb) ?_) | (refine gate_guard (by rfl) ?_; refine loadN_at rfl _ rfl ⟨w.heap.size + 1, 0, none⟩ rfl (cN (bareN x)) (cN_size _) (ranges_below hrB.out hb) ?_) | (refine gate_guard (by rfl) ?_; refine eqN_at rfl _ _ rfl x (bareN x) M (cN (bareN x)) rfl rfl hM2.out (cN_is _) ?_) | (refine gate_guard (by rfl) ?_; refine loadN_at rfl _ rfl ⟨w.heap.size, 0, none⟩ rfl M hM2.out.size hrM.out ?_) | (go_at_call 78; refine (holder_any x M hM2.out _).mono ?_; rintro e w2 ⟨rfl, hb⟩; rw [h1]))
        go_ret
        exact ⟨by rw [← hr.out]; simp [formB, k2, k3, h1], below_then hB2.out hB2.out.size hb⟩
end Go.Proofs.YtdphijhebppeeaaDoor.G
/- Chapter 5: the first check that is wrong. Written by tmpl.py out of F10.tl. -/
namespace Go.Proofs.YtdphijhebppeeaaDoor.G
open Go.RowKit Go.Maps Go.Proofs.YtdphijhebppeeaaDoorW.PrintWords Go.Proofs.YtdphijhebppeeaaDoorW.PrintLast Go.Proofs.YtdphijhebppeeaaDoorW.PrintMore
attribute [local irreducible] cN
def intZ : Value → Int | .int _ n => n | _ => 0
set_option maxHeartbeats 1000000 in
set_option maxRecDepth 100000 in
theorem open1_any (t : List Node) (A0 : Option Addr) (c0 n : Nat) (p : Addr) (w : World) (hn : n < t.length) (hc : kN.C w A0 t.length t) (hb : w.cell? p = some (.slice A0 t.length c0)) :
    Calls Tryd.prog 62 #[.int .i64 n, .pointer (some p)] w fun e w' => e = .returned (.bool (formB (t.getD n zN))) ∧ Below w.heap.size w w' := by
  obtain ⟨ad, M, rfl, hM, hr⟩ := node_at hc n hn
  have hn' : (n : Int) < t.length := by omega
  have hM2 := Aside0.mk hM
  have hr2 := Aside0.mk hr
  have hF := fun w => form_any _ M hM w
  generalize formB (t.getD n zN) = r at *
  have hF2 := Aside0.mk hF
  clear hM hr hc hF
  go_enter Tryd.func62, Tryd.ntmps62
  go_wp2_with (first | (refine loadN_at rfl _ rfl (ad.add (n * 21)) rfl M hM2.out.size hr2.out ?_) | (go_at_call 63; refine (hF2.out _).mono ?_; rintro e w2 ⟨rfl, hb2⟩))
  go_ret
  exact ⟨rfl, hb2⟩
def fn0 (pt : Addr) : Value := .func (.func 65) #[.pointer (some pt)] #[]
def fn1 (px : Addr) : Value := .func (.func 62) #[] #[.pointer (some px)]
def fn2 (pt : Addr) : Value := .func (.func 66) #[.pointer (some pt)] #[]
set_option maxHeartbeats 1000000 in
set_option maxRecDepth 100000 in
theorem first_any (n : Nat) (g : Nat) (pt px : Addr) (b0 b1 b2 : Bool) (w : World)
    (v0 : w.cell? ⟨g, 0, none⟩ = some (fn0 pt)) (v1 : w.cell? ⟨g, 1, none⟩ = some (fn1 px)) (v2 : w.cell? ⟨g, 2, none⟩ = some (fn2 pt))
    (C0 : ∀ w', Below w.heap.size w w' → Calls Tryd.prog 65 #[.pointer (some pt), .int .i64 n] w' fun e w'' => e = .returned (.bool b0) ∧ Below w'.heap.size w' w'')
    (C1 : ∀ w', Below w.heap.size w w' → Calls Tryd.prog 62 #[.int .i64 n, .pointer (some px)] w' fun e w'' => e = .returned (.bool b1) ∧ Below w'.heap.size w' w'')
    (C2 : ∀ w', Below w.heap.size w w' → Calls Tryd.prog 66 #[.pointer (some pt), .int .i64 n] w' fun e w'' => e = .returned (.bool b2) ∧ Below w'.heap.size w' w'') :
    Calls Tryd.prog 64 #[.int .i64 n, .slice (some ⟨g, 0, none⟩) 3 3] w fun e w' => e = .returned (.bool (b0 && (b1 && b2))) ∧ Below w.heap.size w w' := by
  have V0 := Aside0.mk v0
  have V1 := Aside0.mk v1
  have V2 := Aside0.mk v2
  have D0 := Aside0.mk C0
  have D1 := Aside0.mk C1
  have D2 := Aside0.mk C2
  clear v0 v1 v2 C0 C1 C2
  unfold fn0 at V0
  unfold fn1 at V1
  unfold fn2 at V2
  go_enter Tryd.func64, Tryd.ntmps64
  go_wp2
  go_loopw [9] (fun i wr => ∃ k : Nat, i = .int .i64 k ∧ (k = 0 ∨ (k = 1 ∧ b0 = true) ∨ (k = 2 ∧ b0 = true ∧ b1 = true) ∨ (k = 3 ∧ b0 = true ∧ b1 = true ∧ b2 = true)) ∧ Aside0 (Below w.heap.size w wr)) (fun i _ => 3 - (intZ i).toNat)
  case atStart => exact ⟨0, rfl, .inl rfl, ⟨Below.refl _ _⟩⟩
  case round =>
    obtain ⟨k, rfl, hk, HB⟩ := hrel
    rcases hk with rfl | ⟨rfl, rfl⟩ | ⟨rfl, rfl, rfl⟩ | ⟨rfl, rfl, rfl, rfl⟩
    · have v0 := pw_cell_below HB.out V0.out
      cases b0
      · go_wp2_with (first | (go_at_call 65; refine (D0.out wr HB.out).mono ?_; rintro e w2 ⟨rfl, hb⟩; have HB2 := Aside0.mk (below_then HB.out HB.out.size hb); clear hb))
        go_ret
        exact ⟨rfl, HB2.out⟩
      · go_wp2_with (first | (go_at_call 65; refine (D0.out wr HB.out).mono ?_; rintro e w2 ⟨rfl, hb⟩; have HB2 := Aside0.mk (below_then HB.out HB.out.size hb); clear hb))
        exact ⟨⟨1, rfl, .inr (.inl ⟨rfl, trivial⟩), HB2⟩, by simp [intZ]⟩
    · have v1 := pw_cell_below HB.out V1.out
      cases b1
      · go_wp2_with (first | (go_at_call 62; refine (D1.out wr HB.out).mono ?_; rintro e w2 ⟨rfl, hb⟩; have HB2 := Aside0.mk (below_then HB.out HB.out.size hb); clear hb))
        go_ret
        exact ⟨rfl, HB2.out⟩
      · go_wp2_with (first | (go_at_call 62; refine (D1.out wr HB.out).mono ?_; rintro e w2 ⟨rfl, hb⟩; have HB2 := Aside0.mk (below_then HB.out HB.out.size hb); clear hb))
        exact ⟨⟨2, rfl, .inr (.inr (.inl ⟨rfl, trivial, trivial⟩)), HB2⟩, by simp [intZ]⟩
    · have v2 := pw_cell_below HB.out V2.out
      cases b2
      · go_wp2_with (first | (go_at_call 66; refine (D2.out wr HB.out).mono ?_; rintro e w2 ⟨rfl, hb⟩; have HB2 := Aside0.mk (below_then HB.out HB.out.size hb); clear hb))
        go_ret
        exact ⟨rfl, HB2.out⟩
      · go_wp2_with (first | (go_at_call 66; refine (D2.out wr HB.out).mono ?_; rintro e w2 ⟨rfl, hb⟩; have HB2 := Aside0.mk (below_then HB.out HB.out.size hb); clear hb))
        exact ⟨⟨3, rfl, .inr (.inr (.inr ⟨rfl, trivial, trivial, trivial⟩)), HB2⟩, by simp [intZ]⟩
    · go_wp2
      go_ret
      exact ⟨rfl, HB.out⟩
end Go.Proofs.YtdphijhebppeeaaDoor.G
/- Chapter 5: a region that draws its order, of reading operations ahead of some that turn the world one behind the other: one walk of the lexical order serves every order. Written by tmpl.py out of F11.tl. -/
namespace Go.Proofs.YtdphijhebppeeaaDoor.G

section
variable {P : Program} {ops : Array Oper} {md : Region.Mode} {D : Array Bool → World → Prop}
/-- What is asked once an operation has run: a value, nothing, or a call that returns. -/
def eUpon (P : Program) (o : Oper) (a : Act) (next : Act → World → Prop) : Result Next → Prop
  | .ok (.value v) w' => next (a.put o.dst v) w'
  | .ok .skip w' => next (a.put o.dst undef) w'
  | .ok (.enter f args) w' => Calls P f args w' fun e w'' => ∃ v, e = .returned v ∧ next (a.put o.dst v) w''
  | _ => False
def eWp (P : Program) (o : Oper) (a : Act) (w : World) (next : Act → World → Prop) : Prop := eUpon P o a next ((execOp a.eval o).run P w)
theorem eUpon_mono {o : Oper} {a : Act} {K K' : Act → World → Prop} (h : ∀ a w, K a w → K' a w) {r : Result Next} (hh : eUpon P o a K r) : eUpon P o a K' r := by
  cases r with
  | ok n w' =>
    cases n <;> simp only [eUpon] at hh ⊢
    case value v => exact h _ _ hh
    case skip => exact h _ _ hh
    case enter f args => exact hh.mono fun e w'' ⟨v, he, hn⟩ => ⟨v, he, h _ _ hn⟩
  | halt x w' => simp only [eUpon] at hh
theorem wp_of_eWp {o : Oper} {a : Act} {w : World} {K : Act → World → Prop} {Q : Exit → Act → World → Prop} (hh : eWp P o a w K) : o.wp P a w K Q := by
  unfold eWp at hh
  unfold Oper.wp
  generalize (execOp a.eval o).run P w = r at *
  cases r with
  | ok n w' =>
    cases n <;> simp only [eUpon] at hh <;> simp only [Oper.upon]
    case value v => exact hh
    case skip => exact hh
    case enter f args =>
      refine hh.mono fun e w'' ⟨v, he, hn⟩ => ?_
      subst he
      exact hn
  | halt x w' => simp only [eUpon] at hh
/-- Operation number i comes up. -/
def dOp (P : Program) (ops : Array Oper) (i : Nat) (K : Act → World → Prop) (a : Act) (w : World) : Prop :=
  match ops[i]? with
  | none => K a w
  | some o => if Region.wanted o (yielded ops a.tmps) then eWp P o a w K else K (a.put o.dst undef) w
theorem dOp_mono {i : Nat} {a : Act} {w : World} {K K' : Act → World → Prop} (h : ∀ a w, K a w → K' a w) (hh : dOp P ops i K a w) : dOp P ops i K' a w := by
  unfold dOp at *
  split
  · rename_i ho; simp only [ho] at hh; exact h _ _ hh
  · rename_i o ho
    simp only [ho] at hh
    split
    · rename_i hw; simp only [hw, if_true] at hh; exact eUpon_mono h hh
    · rename_i hw; simp only [hw] at hh; exact h _ _ hh
theorem wpOp_of_dOp {i : Nat} {a : Act} {w : World} {K K' : Act → World → Prop} {Q : Exit → Act → World → Prop} (h : ∀ a w, K a w → K' a w) (hh : dOp P ops i K a w) : wpOp P ops Q i K' a w := by
  replace hh := dOp_mono h hh
  unfold dOp at hh
  unfold wpOp
  split
  · rename_i ho; simp only [ho] at hh; exact hh
  · rename_i o ho
    simp only [ho] at hh
    split
    · rename_i hw; simp only [hw, if_true] at hh; exact .inl (wp_of_eWp hh)
    · rename_i hw; simp only [hw] at hh; exact hh
/-- Whatever order is picked from here on; what holds of the world at each place hangs on what has come up. -/
def wpAnyD (P : Program) (md : Region.Mode) (ops : Array Oper) (D : Array Bool → World → Prop) (Q : Act → World → Prop) : Nat → Array Bool → Act → World → Prop
  | 0, listed, a, w => D listed w ∧ Region.ready md ops listed = [] ∧ Q a w
  | fuel + 1, listed, a, w => D listed w ∧ (Region.ready md ops listed = [] → Q a w) ∧ ∀ i ∈ Region.ready md ops listed, dOp P ops i (wpAnyD P md ops D Q fuel (listed.setIfInBounds i true)) a w
theorem wpAny_of_D {Q : Act → World → Prop} {Q' : Exit → Act → World → Prop} (hQ : ∀ a w, Q a w → Q' .normal a w) : ∀ (fuel : Nat) (listed : Array Bool) (a : Act) (w : World), wpAnyD P md ops D Q fuel listed a w → wpAny P md ops Q' fuel listed a w
  | 0, _, _, _, h => ⟨h.2.1, hQ _ _ h.2.2⟩
  | fuel + 1, _, _, _, h => ⟨fun h0 => hQ _ _ (h.2.1 h0), fun i hi => wpOp_of_dOp (fun a' w' hw' => wpAny_of_D hQ fuel _ a' w' hw') (h.2.2 i hi)⟩
/-- In state a, in every world of the class S, operation o yields v and leaves the world as it is. -/
def Still (P : Program) (ops : Array Oper) (S : World → Prop) (o : Oper) (v : Value) (a : Act) : Prop :=
  (Region.wanted o (yielded ops a.tmps) = true ∧ ∀ w, S w → (execOp a.eval o).run P w = .ok (.value v) w) ∨ (Region.wanted o (yielded ops a.tmps) = false ∧ v = undef)
theorem Still.dOp {S : World → Prop} {i : Nat} {o : Oper} {v : Value} {a : Act} {w : World} (hi : ops[i]? = some o) (hy : Still P ops S o v a) (hw : S w) {K : Act → World → Prop} (h : K (a.put o.dst v) w) : dOp P ops i K a w := by
  unfold G.dOp
  simp only [hi]
  rcases hy with ⟨h1, hv⟩ | ⟨h1, rfl⟩
  · simp only [h1, if_true, eWp, hv w hw, eUpon]; exact h
  · simp only [h1, Bool.false_eq_true, if_false]; exact h
theorem Still.of_same {S : World → Prop} {o : Oper} {v : Value} {a a' : Act} (hy : Still P ops S o v a) (he : execOp a'.eval o = execOp a.eval o) (hw : Region.wanted o (yielded ops a'.tmps) = Region.wanted o (yielded ops a.tmps)) : Still P ops S o v a' := by
  unfold Still at *
  rw [he, hw]
  exact hy
theorem dOp_put {S : World → Prop} {j : Nat} {oi oj : Oper} {v : Value} (hj : ops[j]? = some oj) (hap : oi.apart ops oj = true) (hsi : ∀ cs b, oi.op ≠ .select cs b) (hsj : ∀ cs b, oj.op ≠ .select cs b) {K : Act → World → Prop} {a : Act} {w : World}
    (hy : Still P ops S oi v a) (h : dOp P ops j K (a.put oi.dst v) w) : dOp P ops j (fun a' w' => Still P ops S oi v a' ∧ K (a'.put oi.dst v) w') a w := by
  obtain ⟨h1, h2, h3⟩ := Oper.apart_spec hap
  have keep : ∀ (u : Value), Still P ops S oi v (a.put oj.dst u) := fun u => hy.of_same (execOp_put oi hsi a oj.dst u h3) (wanted_put oi a oj.dst u h3)
  have hcm : ∀ u, (a.put oi.dst v).put oj.dst u = (a.put oj.dst u).put oi.dst v := fun u => Act.put_comm a v u h2
  unfold dOp at *
  simp only [hj] at *
  rw [wanted_put oj a oi.dst v h1] at h
  split
  · rename_i hw
    simp only [hw, if_true] at h
    unfold eWp at *
    rw [execOp_put oj hsj a oi.dst v h1] at h
    generalize (execOp a.eval oj).run P w = r at *
    cases r with
    | ok n w' =>
      cases n <;> simp only [eUpon] at h ⊢
      case value u => exact ⟨keep u, by rw [← hcm]; exact h⟩
      case skip => exact ⟨keep _, by rw [← hcm]; exact h⟩
      case enter f args => exact h.mono fun e w'' ⟨u, he, hn⟩ => ⟨u, he, keep u, by rw [← hcm]; exact hn⟩
    | halt x w' => simp only [eUpon] at h
  · rename_i hw
    simp only [hw] at h
    exact ⟨keep _, by rw [← hcm]; exact h⟩
/-- Does operation j wait for operation i? -/
def waits (md : Region.Mode) (ops : Array Oper) (j i : Nat) : Prop := ∃ oj, ops[j]? = some oj ∧ ∃ e ∈ oj.after, Region.binds md e = true ∧ e.on = i
/-- The worlds that may be met while operation i has not come up. -/
def Pending (md : Region.Mode) (ops : Array Oper) (D : Array Bool → World → Prop) (i : Nat) (w : World) : Prop := ∃ listed, listed.getD i true = false ∧ (∀ j, waits md ops j i → listed.getD j true = false) ∧ D listed w
theorem anyD_first {Q : Act → World → Prop} {i : Nat} {oi : Oper} {v : Value} (hi : ops[i]? = some oi) (hsel : ∀ (j : Nat) (o : Oper) cs b, ops[j]? = some o → o.op ≠ .select cs b) (hD : ∀ listed w, D (listed.setIfInBounds i true) w → D listed w) :
    ∀ (fuel : Nat) (listed : Array Bool) (a : Act) (w : World),
      (∀ j oj, ops[j]? = some oj → j ≠ i → listed.getD j true = false → (∀ e ∈ oj.after, Region.binds md e = true → e.on ≠ i) → oi.apart ops oj = true) →
      i ∈ Region.ready md ops listed → (∀ j, waits md ops j i → listed.getD j true = false) → Still P ops (Pending md ops D i) oi v a →
      wpAnyD P md ops D Q fuel (listed.setIfInBounds i true) (a.put oi.dst v) w → wpAnyD P md ops D Q (fuel + 1) listed a w := by
  intro fuel
  induction fuel with
  | zero =>
    intro listed a w _ hr hwt hy H
    have hd := hD _ _ H.1
    refine ⟨hd, fun h => (by rw [h] at hr; cases hr), fun j hj => ?_⟩
    by_cases hji : j = i
    · subst hji; exact hy.dOp hi ⟨listed, (mem_ready.1 hr).1, hwt, hd⟩ H
    · have := ready_mono hj hji
      rw [H.2.1] at this
      cases this
  | succ fuel ih =>
    intro listed a w hfree hr hwt hy H
    have hd := hD _ _ H.1
    refine ⟨hd, fun h => (by rw [h] at hr; cases hr), fun j hj => ?_⟩
    by_cases hji : j = i
    · subst hji; exact hy.dOp hi ⟨listed, (mem_ready.1 hr).1, hwt, hd⟩ H
    · have h1 := H.2.2 j (ready_mono hj hji)
      obtain ⟨hjun, oj, hoj, hall⟩ := mem_ready.1 hj
      have hnot : ∀ e ∈ oj.after, Region.binds md e = true → e.on ≠ i := fun e he hb heq => by
        have h1 := hall e he hb
        have h0 := (mem_ready.1 hr).1
        rw [heq] at h1
        rcases Nat.lt_or_ge i listed.size with h' | h'
        · simp [h'] at h0 h1; rw [h0] at h1; cases h1
        · simp [Array.getElem?_eq_none h'] at h1
      have h2 := dOp_put hoj (hfree j oj hoj hji hjun hnot) (fun cs b => hsel i oi cs b hi) (fun cs b => hsel j oj cs b hoj) hy h1
      have hfree' : ∀ k ok, ops[k]? = some ok → k ≠ i → (listed.setIfInBounds j true).getD k true = false →
          (∀ e ∈ ok.after, Region.binds md e = true → e.on ≠ i) → oi.apart ops ok = true := fun k ok hk hki hun hno => by
        refine hfree k ok hk hki ?_ hno
        by_cases hjk : j = k
        · subst hjk; exact hjun
        · rw [getD_set_ne true hjk] at hun; exact hun
      have hwt' : ∀ k, waits md ops k i → (listed.setIfInBounds j true).getD k true = false := fun k hk => by
        by_cases hjk : j = k
        · subst hjk
          obtain ⟨o2, ho2, e, he, hb, heq⟩ := hk
          rw [hoj] at ho2
          cases ho2
          exact absurd heq (hnot e he hb)
        · rw [getD_set_ne true hjk]; exact hwt k hk
      refine dOp_mono (fun a' w' h3 => ih (listed.setIfInBounds j true) a' w' hfree' (ready_mono hr (Ne.symm hji)) hwt' h3.1 ?_) h2
      rw [Array.setIfInBounds_comm _ _ hji]
      exact h3.2

/-- The walk of the lexical order. -/
def wpLexD (P : Program) (md : Region.Mode) (ops : Array Oper) (D : Array Bool → World → Prop) (Q : Act → World → Prop) : List Oper → Nat → Array Bool → Act → World → Prop
  | [], _, listed, a, w => D listed w ∧ Q a w
  | o :: rest, k, listed, a, w =>
    (∃ v, Still P ops (Pending md ops D k) o v a ∧ (∀ listed w, D (listed.setIfInBounds k true) w → D listed w) ∧ wpLexD P md ops D Q rest (k + 1) (listed.setIfInBounds k true) (a.put o.dst v) w) ∨
    (Region.ready md ops listed = [k] ∧ D listed w ∧ dOp P ops k (wpLexD P md ops D Q rest (k + 1) (listed.setIfInBounds k true)) a w)
theorem anyD_lex {Q : Act → World → Prop} (hs : Region.noSelect ops = true) (hwo : ∀ j i, waits md ops j i → i < j) : ∀ (l : List Oper) (k : Nat) (listed : Array Bool) (a : Act) (w : World), (∀ j, l[j]? = ops[k + j]?) → (∀ j, k ≤ j → j < ops.size → listed.getD j true = false) →
    Region.lexFrom md ops l.length k listed = true → wpLexD P md ops D Q l k listed a w → wpAnyD P md ops D Q l.length listed a w
  | [], _, _, _, _, _, _, hB, h => ⟨h.1, by simpa [Region.lexFrom] using hB, h.2⟩
  | o :: l, k, listed, a, w, hl, hun, hB, h => by
    have h0 : ops[k]? = some o := by simpa using (hl 0).symm
    simp only [List.length_cons, Region.lexFrom, Bool.and_eq_true] at hB
    obtain ⟨⟨hr, hf⟩, hB'⟩ := hB
    have hun' : ∀ j, k + 1 ≤ j → j < ops.size → (listed.setIfInBounds k true).getD j true = false := fun j hj hlt => by rw [getD_set_ne true (by omega)]; exact hun j (by omega) hlt
    have hl' : ∀ j, l[j]? = ops[k + 1 + j]? := fun j => by have := hl (j + 1); simpa [Nat.add_assoc, Nat.add_comm 1 j] using this
    rcases h with ⟨v, hy, hD, hK⟩ | ⟨hone, hd, hK⟩
    · exact anyD_first h0 (Region.noSelect_spec hs) hD l.length listed a w (Region.free_spec h0 hf) (by simpa using hr)
        (fun j hj => hun j (Nat.le_of_lt (hwo j k hj)) (by obtain ⟨oj, hoj, _⟩ := hj; exact (Array.getElem?_eq_some_iff.1 hoj).1)) hy (anyD_lex hs hwo l (k + 1) _ _ _ hl' hun' hB' hK)
    · refine ⟨hd, fun h => (by rw [h] at hone; cases hone), fun i hi => ?_⟩
      rw [hone, List.mem_singleton] at hi
      subst hi
      exact dOp_mono (fun a' w' h3 => anyD_lex hs hwo l (i + 1) _ a' w' hl' hun' hB' h3) hK
/-- Each operation waits for earlier ones alone: by a Bool. -/
theorem waits_lt (h : ops.toList.zipIdx.all (fun (o, k) => o.after.all fun e => decide (e.on < k)) = true) : ∀ j i, waits md ops j i → i < j := by
  rintro j i ⟨o, ho, e, he, _, rfl⟩
  have h2 := List.all_eq_true.1 h (o, j) (by
    rw [List.mem_zipIdx_iff_getElem?]
    simpa using ho)
  simp only [Array.all_eq_true'] at h2
  exact of_decide_eq_true (h2 e he)
theorem region_lex (n : Nat) {id : Nat} {Q : Exit → Act → World → Prop} {a : Act} {w : World} {l : List Oper} (D : Array Bool → World → Prop) (hm : P.follows .mixedOrders = true) (hB : Region.lexB .any l.toArray = true) (hW : l.zipIdx.all (fun (o, k) => o.after.all fun e => decide (e.on < k)) = true)
    (hn : l.length = n) (h : wpLexD P .any l.toArray D (Q .normal) l 0 (Array.replicate n false) a w.drew) : (Code.region id l.toArray true).wp P Q a w := by
  subst hn
  simp only [Region.lexB, Bool.and_eq_true] at hB
  refine wp_region_any hm (wpAny_of_D (D := D) (Q := Q .normal) (fun _ _ h => h) _ _ _ _ ?_)
  have := anyD_lex (P := P) (md := .any) (D := D) (Q := Q .normal) hB.1 (waits_lt (by simpa using hW)) l 0 (Array.replicate l.length false) a w.drew (by simp) (fun j _ hj => by simp at hj; simp [hj]) (by simpa using hB.2) h
  simpa using this
end
end Go.Proofs.YtdphijhebppeeaaDoor.G
/- Chapter 5: the walker: its depths, its kids, and what keeps them. Written by tmpl.py out of F12.tl. -/
namespace Go.Proofs.YtdphijhebppeeaaDoor.G
open Go.RowKit Go.Maps Go.WideElems Go.MapKept Go.ChangeMaps Go.ChangeShapes Go.Proofs.YtdphijhebppeeaaDoorW.PrintWords Go.Proofs.YtdphijhebppeeaaDoorW.PrintLast Go.Proofs.YtdphijhebppeeaaDoorW.PrintMore
attribute [local irreducible] cN

/-- The kids of node j among the first i. -/
def kidsL (t : List Node) (i : Nat) (j : Int) : List Int := ((List.range i).filter fun m => decide (0 < m) && decide ((t.getD m zN).f0 = j)).map fun m : Nat => (m : Int)
theorem kidsL_succ (t : List Node) (i : Nat) (j : Int) : kidsL t (i + 1) j = kidsL t i j ++ (if 0 < i ∧ (t.getD i zN).f0 = j then [(i : Int)] else []) := by
  unfold kidsL
  rw [List.range_succ, List.filter_append, List.map_append]
  congr 1
  by_cases h : 0 < i ∧ (t.getD i zN).f0 = j
  · rw [if_pos h, List.filter_cons_of_pos (by rw [h.2]; simp [h.1])]; rfl
  · rw [if_neg h, List.filter_cons_of_neg (by simpa using h)]; rfl
theorem kidsL_len (t : List Node) (i : Nat) (j : Int) : (kidsL t i j).length ≤ i := by
  unfold kidsL
  rw [List.length_map]
  have := List.length_filter_le (fun m => decide (0 < m) && decide ((t.getD m zN).f0 = j)) (List.range i)
  simpa using this
/-- A node's depth, the depths of those ahead at hand. -/
def depN (t : List Node) (i : Nat) (L : List Int) : Int := if i = 0 then 1 else 1 + L.getD (t.getD i zN).f0.toNat 0
/-- The depths of the first i. -/
def depsL (t : List Node) : Nat → List Int
  | 0 => []
  | i + 1 => depsL t i ++ [depN t i (depsL t i)]
theorem depsL_len (t : List Node) (i : Nat) : (depsL t i).length = i := by
  induction i with
  | zero => rfl
  | succ i ih => simp [depsL, ih]

/-- The walker's block g, the map's block m: its depths of the first k, its kids of the first i. -/
structure Walk (w : World) (base g m : Nat) (t : List Node) (A : Option Addr) (c i k : Nat) (dv : Value) : Prop where
  cells : w.heap[g]? = some (.cells #[.slice A t.length c, dv, .map (some m)] 73 (0, 0))
  deep : w.ownsInts base 3 .i64 dv (depsL t k)
  gb : g < base
  gm : g ≠ m
  grp : ∃ (n : Nat) (D : DataW Unit), n ≤ i ∧ w.ownsGroups Tryd.prog 3 base 3 .i64 m n D ∧ IsMap D ∧ ∀ j : Int, (kidsL t i j = [] ∧ D.atKey (.int .i64 j) .nil = .nil) ∨ D.atKey (.int .i64 j) .nil = .slice (lits .i64 (kidsL t i j)) []
  shun : w.Shuns m (fun x => dv.ownBlock = some x)
  ng : dv.ownBlock ≠ some m ∧ dv.ownBlock ≠ some g

theorem grown_below {w w' : World} (h : Below w.heap.size w w') : w.grownBy w' none := ⟨h.os, h.tape, h.output, h.size, fun i hi _ => h.block i hi⟩
theorem groups_mb {w : World} {base m n : Nat} {D : DataW Unit} (h : w.ownsGroups Tryd.prog 3 base 3 .i64 m n D) : m < base ∧ m < w.heap.size := by
  obtain ⟨es, clock, hb, _, _, _, hbb, _⟩ := h
  exact ⟨hbb, (Array.getElem?_eq_some_iff.1 hb).1⟩
theorem Walk.below {w w' : World} {base g m : Nat} {t : List Node} {A : Option Addr} {c i k : Nat} {dv : Value} (h : Walk w base g m t A c i k dv) (hb : Below w.heap.size w w') : Walk w' base g m t A c i k dv := by
  obtain ⟨n, D, hn, hD, hI, hk⟩ := h.grp
  have hg := grown_below hb
  refine ⟨blk_below h.cells hb, h.deep.kept hg (by cases dv.ownBlock <;> simp), h.gb, h.gm, ⟨n, D, hn, hD.kept hg (by simp) (fun es cl _ x _ => by cases x.val.ownBlock <;> simp), hI, hk⟩, h.shun.kept hg (groups_mb hD).2 (by simp), h.ng⟩
theorem law3 : Keyed Tryd.prog 3 := int_keyed Tryd.underlying3
theorem zero25 (w : World) : (zeroValue 36).run Tryd.prog w = .ok (.slice none 0 0) w := by kernel_rfl
theorem key3 {j : Int} (h : (Lit.int .i64 j).wf = true) : keyOf Tryd.prog 3 (.int .i64 j) = some (.int .i64 j) := keyOf_int_mk Tryd.underlying3 h
/-- A look-up hangs on the map's block alone. -/
theorem look_same {w w' : World} {m clock : Nat} {es : Array MapEntry} {R : Value → Option (DataW Unit × List MemPlace)} (hb : w.heap[m]? = some (.map es clock)) (hb' : w'.heap[m]? = some (.map es clock)) (F : Fit Tryd.prog 3 R es clock) {key : Value} {kl : Lit} (hkey : keyOf Tryd.prog 3 key = some kl) {v : Value}
    (h : (Instr.lookup 71 (.map (some m)) key false).run Tryd.prog w = .ok v w) : (Instr.lookup 71 (.map (some m)) key false).run Tryd.prog w' = .ok v w' := by
  have ht := Tryd.underlying71
  have hp := ((stamped_iff es clock).1 F.stamped).2.2
  rcases fit_look false law3 ht (zero25 w) hb F hkey with ⟨hr, h2, _⟩ | ⟨e0, y, hm0, h3, hr, _⟩ <;> rcases fit_look false law3 ht (zero25 w') hb' F hkey with ⟨hr', h2', _⟩ | ⟨e1, y', hm1, h3', hr', _⟩
  · rw [h] at hr
    have e : v = .slice none 0 0 := by simpa using hr
    rw [hr', e]
    rfl
  · exact absurd h3' (h2 e1 hm1)
  · exact absurd h3 (h2' e0 hm0)
  · have e : e0 = e1 := by
      obtain ⟨i0, hi0, q0⟩ := List.mem_iff_getElem.1 hm0
      obtain ⟨i1, hi1, q1⟩ := List.mem_iff_getElem.1 hm1
      have hk : e0.key = e1.key := h3.trans h3'.symm
      rcases Nat.lt_trichotomy i0 i1 with h4 | h4 | h4
      · exact absurd hk (by rw [← q0, ← q1]; exact (List.pairwise_iff_getElem.1 hp) i0 i1 hi0 hi1 h4)
      · subst h4; exact q0.symm.trans q1
      · exact absurd hk.symm (by rw [← q0, ← q1]; exact (List.pairwise_iff_getElem.1 hp) i1 i0 hi1 hi0 h4)
    subst e
    rw [h] at hr
    have e : v = e0.val := by simpa using hr
    rw [hr', e]
    rfl
theorem look_val {w : World} {m clock : Nat} {es : Array MapEntry} {R : Value → Option (DataW Unit × List MemPlace)} (hb : w.heap[m]? = some (.map es clock)) (F : Fit Tryd.prog 3 R es clock) {key : Value} {kl : Lit} (hkey : keyOf Tryd.prog 3 key = some kl) {v : Value}
    (h : (Instr.lookup 71 (.map (some m)) key false).run Tryd.prog w = .ok v w) : v = .slice none 0 0 ∨ ∃ e ∈ es.toList, v = e.val := by
  have ht := Tryd.underlying71
  rcases fit_look false law3 ht (zero25 w) hb F hkey with ⟨hr, h2, _⟩ | ⟨e0, y, hm0, h3, hr, _⟩
  · rw [h] at hr; exact .inl (by simpa using hr)
  · rw [h] at hr; exact .inr ⟨e0, hm0, by simpa using hr⟩
theorem lits_inj {a b : List Int} (h : lits (H := Unit) .i64 a = lits .i64 b) : a = b := by
  unfold lits at h
  exact (List.map_inj_right (fun x y hxy => by simpa using hxy)).1 h
theorem Walk.look {w : World} {base g m : Nat} {t : List Node} {A : Option Addr} {c i k : Nat} {dv : Value} (h : Walk w base g m t A c i k dv) (hi : i < maxLen) {j : Int} (hj : (Lit.int .i64 j).wf = true) :
    ∃ (v : Value) (n : Nat) (D : DataW Unit), n ≤ i ∧ (∀ w', w'.heap[m]? = w.heap[m]? → (Instr.lookup 71 (.map (some m)) (.int .i64 j) false).run Tryd.prog w' = .ok v w') ∧ w.ownsInts base 3 .i64 v (kidsL t i j) ∧ (kidsL t i j).length ≤ n ∧
      w.groupBack Tryd.prog 71 3 base 3 .i64 m n D (.int .i64 j) (.int .i64 j) v ∧ (∀ x, v.ownBlock = some x → dv.ownBlock ≠ some x) ∧ v.ownBlock ≠ some m ∧ v.ownBlock ≠ some g ∧
      IsMap D ∧ (∀ j : Int, (kidsL t i j = [] ∧ D.atKey (.int .i64 j) .nil = .nil) ∨ D.atKey (.int .i64 j) .nil = .slice (lits .i64 (kidsL t i j)) []) ∧ w.ownsGroups Tryd.prog 3 base 3 .i64 m n D := by
  obtain ⟨n, D, hn, hD, hI, hk⟩ := h.grp
  obtain ⟨v, zs, hrun, hat, hoi, hzl, hback⟩ := hD.at law3 Tryd.underlying71 (zero25 w) (by omega) (key3 hj)
  have hmb := groups_mb hD
  have hzs : zs = kidsL t i j := by
    rcases hk j with ⟨h1, h2⟩ | h2 <;> rcases hoi.datum (H := Unit) with ⟨h3, h4⟩ | h3
    · rw [h1, h4]
    · rw [hat, h3] at h2; cases h2
    · rw [hat, h3] at h2; cases h2
    · rw [hat, h3] at h2
      simp only [DataW.slice.injEq, and_true] at h2
      exact lits_inj h2
  subst hzs
  obtain ⟨es, clock, hb, F, _⟩ := id hD
  refine ⟨v, n, D, hn, fun w' hw' => look_same hb (hw'.trans hb) F (key3 hj) hrun, hoi, hzl, hback, fun x hx hdx => ?_, fun e => ?_, fun e => ?_, hI, hk, hD⟩
  · rcases look_val hb F (key3 hj) hrun with rfl | ⟨e, he, rfl⟩
    · cases hx
    · exact h.shun es clock hb e he x hx hdx
  · have := (hoi.1.lt m e).1; omega
  · have := (hoi.1.lt g e).1; have := h.gb; omega
end Go.Proofs.YtdphijhebppeeaaDoor.G
/- Chapter 5: the walker, one kid more, one depth more. Written by tmpl.py out of F13.tl. -/
namespace Go.Proofs.YtdphijhebppeeaaDoor.G
open Go.RowKit Go.Maps Go.WideElems Go.MapKept Go.ChangeMaps Go.ChangeShapes Go.Proofs.YtdphijhebppeeaaDoorW.PrintWords Go.Proofs.YtdphijhebppeeaaDoorW.PrintLast Go.Proofs.YtdphijhebppeeaaDoorW.PrintMore
attribute [local irreducible] cN

theorem Walk.put {w w1 : World} {base g m : Nat} {t : List Node} {A : Option Addr} {c i k n : Nat} {dv v v' : Value} {D : DataW Unit} (h : Walk w base g m t A c i k dv) (hi : i < maxLen) (h0 : 0 < i) {j : Int} (hj : (Lit.int .i64 j).wf = true) (hp : (t.getD i zN).f0 = j) (hn : n ≤ i)
    (hoi : w.ownsInts base 3 .i64 v (kidsL t i j)) (hzl : (kidsL t i j).length ≤ n) (hback : w.groupBack Tryd.prog 71 3 base 3 .i64 m n D (.int .i64 j) (.int .i64 j) v) (hdv : ∀ x, v.ownBlock = some x → dv.ownBlock ≠ some x) (hvm : v.ownBlock ≠ some m) (hvg : v.ownBlock ≠ some g)
    (hI : IsMap D) (hk : ∀ j : Int, (kidsL t i j = [] ∧ D.atKey (.int .i64 j) .nil = .nil) ∨ D.atKey (.int .i64 j) .nil = .slice (lits .i64 (kidsL t i j)) []) (hD : w.ownsGroups Tryd.prog 3 base 3 .i64 m n D)
    (hg : w.grownBy w1 v.ownBlock) (ho : w1.ownsInts base 3 .i64 v' (kidsL t i j ++ [(i : Int)])) (hloc : v'.ownBlock = v.ownBlock ∨ ∃ g, v'.ownBlock = some g ∧ w.heap.size ≤ g) :
    ∃ w2, (Instr.mapUpdate 71 (.map (some m)) (.int .i64 j) v').run Tryd.prog w1 = .ok () w2 ∧ Walk w2 base g m t A c (i + 1) k dv ∧ w1.grownBy w2 (some m) := by
  obtain ⟨w2, hrun, hD2, hg2⟩ := hback w1 v' _ hg ho (by simp; omega) hloc
  have hglt : g < w.heap.size := blk_lt h.cells
  have hdne : dv.ownBlock = none ∨ dv.ownBlock ≠ v.ownBlock := by
    cases e : dv.ownBlock with
    | none => exact .inl rfl
    | some x => exact .inr (fun e2 => hdv x e2.symm e)
  refine ⟨w2, hrun, ⟨?_, (h.deep.kept hg hdne).kept hg2 (.inr h.ng.1), h.gb, h.gm, ⟨n + 1, _, by omega, hD2, ?_, fun j' => ?_⟩, ?_, h.ng⟩, hg2⟩
  · rw [hg2.block g (Nat.lt_of_lt_of_le hglt hg.size) (fun e => h.gm (Option.some.inj e)), hg.block g hglt (fun e => hvg e.symm)]
    exact h.cells
  · obtain ⟨es, rfl⟩ := hI
    exact ⟨_, rfl⟩
  · rw [kidsL_succ]
    by_cases e : j' = j
    · subst e
      rw [if_pos ⟨h0, hp⟩]
      right
      rw [atKey_put_same hI (law3.key (key3 hj)), ho.datum_pos (by simp)]
    · rw [if_neg (fun e2 => e (e2.2.symm.trans hp)), List.append_nil, atKey_put_other (by intro e2; exact e (by simpa using e2))]
      exact hk j'
  · obtain ⟨es, clock, hb, F, hs, _⟩ := id hD
    have hb1 : w1.heap[m]? = some (.map es clock) := (hg.block m (groups_mb hD).2 (fun e => hvm e.symm)).trans hb
    obtain ⟨es', clock', hb2, hwho⟩ := stored_who law3 Tryd.underlying71 hb1 F (by omega) (key3 hj) hrun
    intro es2 clock2 hb2' x hx gx hgx hNo
    obtain ⟨rfl, rfl⟩ : es' = es2 ∧ clock' = clock2 := by rw [hb2] at hb2'; simpa using hb2'
    rcases hwho x hx with ⟨hx0, _⟩ | ⟨_, hxv⟩
    · exact h.shun es clock hb x hx0 gx hgx hNo
    · rw [hxv] at hgx
      rcases hloc with e | ⟨gy, e, hle⟩
      · exact hdv gx (e ▸ hgx) hNo
      · rw [e] at hgx
        have e3 : gy = gx := Option.some.inj hgx
        have := (h.deep.1.lt gx hNo).2
        omega
theorem grown_setCell (w : World) (p : Addr) (u : Value) : w.grownBy (w.setCell p u) (some p.block) :=
  ⟨rfl, rfl, rfl, by simp [World.setCell], fun i _ hne => Below.heap_setCell w p u i (fun e => hne (by rw [e]))⟩
theorem Walk.deepen {w w1 : World} {base g m : Nat} {t : List Node} {A : Option Addr} {c i k : Nat} {dv dv' : Value} (h : Walk w base g m t A c i k dv) (hg : w.grownBy w1 dv.ownBlock) (ho : w1.ownsInts base 3 .i64 dv' (depsL t (k + 1))) (hloc : dv'.ownBlock = dv.ownBlock ∨ ∃ g, dv'.ownBlock = some g ∧ w.heap.size ≤ g) :
    Walk (w1.setCell ⟨g, 1, none⟩ dv') base g m t A c i (k + 1) dv' := by
  obtain ⟨n, D, hn, hD, hI, hk⟩ := h.grp
  have hglt : g < w.heap.size := blk_lt h.cells
  have hmb := groups_mb hD
  have hs := grown_setCell w1 ⟨g, 1, none⟩ dv'
  have hng : dv'.ownBlock ≠ some m ∧ dv'.ownBlock ≠ some g := by
    constructor <;> intro e
    · have := (ho.1.lt m e).1; omega
    · have := (ho.1.lt g e).1; have := h.gb; omega
  have hc1 : w1.heap[g]? = some (.cells #[.slice A t.length c, dv, .map (some m)] 73 (0, 0)) := (hg.block g hglt (fun e => h.ng.2 e.symm)).trans h.cells
  have hD1 := hD.kept hg (fun e => h.ng.1 e.symm) (h.shun.rowsOff (fun j e => e))
  have hS1 := h.shun.kept hg hmb.2 (fun e => h.ng.1 e.symm)
  have hS2 : w1.Shuns m (fun x => dv'.ownBlock = some x) := by
    intro es cl hb x hx gx hgx hNo
    rcases hloc with e | ⟨gy, e, hle⟩
    · exact hS1 es cl hb x hx gx hgx (e ▸ hNo)
    · rw [e] at hNo
      have e3 : gy = gx := Option.some.inj hNo
      obtain ⟨es', cl', hb', F, _⟩ := id hD
      have hb1 := (hg.block m hmb.2 (fun e => h.ng.1 e.symm)).trans hb'
      obtain ⟨rfl, rfl⟩ : es' = es ∧ cl' = cl := by rw [hb1] at hb; simpa using hb
      obtain ⟨y, hy⟩ := F.reads x hx
      obtain ⟨z, hz, _⟩ := rd_val hy
      obtain ⟨zs, hoi, _⟩ := rowElem_inv hz
      have := (hoi.1.lt gx hgx).2
      omega
  refine ⟨blk_put hc1 1 _ rfl, ho.kept hs (.inr hng.2), h.gb, h.gm, ⟨n, D, hn, hD1.kept hs (fun e => h.gm (Option.some.inj e).symm) (hD1.rowsAbove (fun j e => by cases e; exact h.gb)), hI, hk⟩, hS2.kept hs (Nat.lt_of_lt_of_le hmb.2 hg.size) (fun e => h.gm (Option.some.inj e).symm), hng⟩
end Go.Proofs.YtdphijhebppeeaaDoor.G
/- Chapter 5: operations that turn the world, in a region that draws its order. Written by tmpl.py out of F14.tl. -/
namespace Go.Proofs.YtdphijhebppeeaaDoor.G
open Go.RowKit Go.Maps Go.Proofs.YtdphijhebppeeaaDoorW.PrintWords Go.Proofs.YtdphijhebppeeaaDoorW.PrintLast Go.Proofs.YtdphijhebppeeaaDoorW.PrintMore

section
variable {P : Program} {ops : Array Oper} {md : Region.Mode} {D : Array Bool → World → Prop} {Q : Act → World → Prop} {rest : List Oper} {o : Oper} {k : Nat} {listed : Array Bool} {a : Act} {w : World}
theorem lex_still {v : Value} (S : World → Prop) (hw : Region.wanted o (yielded ops a.tmps) = true) (hD : ∀ listed w, D (listed.setIfInBounds k true) w → D listed w) (hS : ∀ w, Pending md ops D k w → S w) (hrun : ∀ w, S w → (execOp a.eval o).run P w = .ok (.value v) w)
    (h : wpLexD P md ops D Q rest (k + 1) (listed.setIfInBounds k true) (a.put o.dst v) w) : wpLexD P md ops D Q (o :: rest) k listed a w :=
  .inl ⟨v, .inl ⟨hw, fun w' hp => hrun w' (hS w' hp)⟩, hD, h⟩
theorem lex_turn (hr : Region.ready md ops listed = [k]) (hd : D listed w) (ho : ops[k]? = some o) (hw : Region.wanted o (yielded ops a.tmps) = true) (h : eWp P o a w (wpLexD P md ops D Q rest (k + 1) (listed.setIfInBounds k true))) : wpLexD P md ops D Q (o :: rest) k listed a w :=
  .inr ⟨hr, hd, by unfold dOp; simp only [ho, hw, if_true]; exact h⟩
theorem lex_nil (hd : D listed w) (h : Q a w) : wpLexD P md ops D Q [] k listed a w := ⟨hd, h⟩
theorem eWp_run {v : Value} {next : Act → World → Prop} {w' : World} (hr : (execOp a.eval o).run P w = .ok (.value v) w') (h : next (a.put o.dst v) w') : eWp P o a w next := by
  unfold eWp; rw [hr]; exact h
theorem eWp_append {next : Act → World → Prop} (s x : Operand) (t : TypeId) (ho : o.op = .call { callee := .builtin .append, args := #[s, x], argTypes := #[t, t] })
    (base : Nat) (e : TypeId) (i : TypeInfo) (z : Value) (size bytes : Nat) (ht : P.underlying t = some (.slice e)) (hi : P.info? e = some i) (hz : i.zero = some z)
    (hsize : i.size = size) (hby : i.bytes = bytes) (hzs : z.cells.size = size) (hsz : 0 < size)
    (v : Value) (n : Nat) (xs : List Value) (hs : a.eval s = v) (hown : w.ownsRow base e size v n xs)
    (ad : Addr) (m c : Nat) (news : List Value) (hx : a.eval x = .slice (some ad) m c) (hl : news.length = m * size) (hnews : ∀ j u, news[j]? = some u → w.cell? (ad.add j) = some u) (h1 : ∀ u ∈ news, u.oneCell' = true)
    (h63 : n + m ≤ maxLen) (hbytes : (n + m) * bytes ≤ 140737488355328) (hbase : base ≤ w.heap.size)
    (h : ∀ v' w', w'.ownsRow base e size v' (n + m) (xs ++ news) → w.grownBy w' v.ownBlock → (v'.ownBlock = v.ownBlock ∨ v'.ownBlock = some w.heap.size) → next (a.put o.dst v') w') : eWp P o a w next := by
  obtain ⟨v', w', hr, h2, h3, _, h5⟩ := run_append_own_at (P := P) w base t o.type e i z size bytes ht hi hz hsize hby hzs hsz v n xs hown ad m c news hl hnews h1 h63 hbytes hbase
  unfold eWp execOp
  simp only [ho, resolve, invoke, builtin, Sem.run_bind, Sem.run_pure, Result.andThen_ok, List.map_toArray, List.map_cons, List.map_nil, hs, hx, hr]
  exact h v' w' h2 h3 h5
theorem eWp_update {next : Act → World → Prop} (m x v : Operand) (t : TypeId) (ho : o.op = .mapUpdate t m x v) {M K V : Value} {w2 : World} (hm : a.eval m = M) (hx : a.eval x = K) (hv : a.eval v = V) (hr : (Instr.mapUpdate t M K V).run P w = .ok () w2) (h : next (a.put o.dst undef) w2) : eWp P o a w next := by
  unfold eWp execOp
  simp [ho, hm, hx, hv, hr, Result.andThen, eUpon]
  exact h
theorem eWp_call {next : Act → World → Prop} (f : FuncId) (x y : Operand) (ts : Array TypeId) (ho : o.op = .call { callee := .value (.func f), args := #[x, y], argTypes := ts }) (he : ∀ args w, (callFunc f args).run P w = .ok (.enter f args) w) {X Y : Value} (hx : a.eval x = X) (hy : a.eval y = Y)
    (h : Calls P f #[X, Y] w fun e w' => ∃ v, e = .returned v ∧ next (a.put o.dst v) w') : eWp P o a w next := by
  subst hx
  subst hy
  unfold eWp execOp
  have hev : a.eval (.func f) = .func (.func f) #[] #[] := rfl
  simp only [ho]
  simp [resolve, invoke, hev, Deferred.ofValue, he, eUpon]
  exact h
end
theorem eWp_one {o : Oper} {a : Act} {w : World} {next : Act → World → Prop} (x : Operand) (ho : o.op = .buildSlice 36 1 #[(0, x)]) (z : Int) (hx : a.eval x = .int .i64 z) (h : next (a.put o.dst (.slice (some ⟨w.heap.size, 0, none⟩) 1 1)) (w.alloc (.cells #[.int .i64 z] 3))) : eWp Tryd.prog o a w next := by
  refine eWp_run (v := .slice (some ⟨w.heap.size, 0, none⟩) 1 1) ?_ h
  unfold execOp
  simp only [ho]
  have e : (#[(0, x)] : Array (Nat × Operand)).map (fun (i, x) => (i, a.eval x)) = #[(0, .int .i64 z)] := by simp [hx]
  rw [e]
  go_simp
theorem eWp_three {o : Oper} {a : Act} {w : World} {next : Act → World → Prop} (x y z : Operand) (ho : o.op = .buildSlice 128 3 #[(0, x), (1, y), (2, z)]) (pt px : Addr) (hx : a.eval x = fn0 pt) (hy : a.eval y = fn1 px) (hz : a.eval z = fn2 pt)
    (h : next (a.put o.dst (.slice (some ⟨w.heap.size, 0, none⟩) 3 3)) (w.alloc (.cells #[fn0 pt, fn1 px, fn2 pt] 82))) : eWp Tryd.prog o a w next := by
  refine eWp_run (v := .slice (some ⟨w.heap.size, 0, none⟩) 3 3) ?_ h
  unfold execOp
  simp only [ho]
  have e : (#[(0, x), (1, y), (2, z)] : Array (Nat × Operand)).map (fun (i, x) => (i, a.eval x)) = #[(0, fn0 pt), (1, fn1 px), (2, fn2 pt)] := by simp [hx, hy, hz]
  rw [e]
  unfold fn0 fn1 fn2
  go_simp
theorem callF (args : Array Value) (w : World) : (callFunc 64 args).run Tryd.prog w = .ok (.enter 64 args) w := by
  go_simp
section
variable {md : Region.Mode} {ops : Array Oper} {e1 e2 k : Nat} {CB CA : World → Prop}
/-- Ahead of operation e2 the worlds are of the class CA, ahead of e1 of CB. -/
def D2 (e1 e2 : Nat) (CB CA : World → Prop) (listed : Array Bool) (w : World) : Prop := (listed.getD e2 true = false → CA w) ∧ (listed.getD e1 true = false → CB w)
theorem D2_set (h1 : k ≠ e1) (h2 : k ≠ e2) : ∀ listed w, D2 e1 e2 CB CA (listed.setIfInBounds k true) w → D2 e1 e2 CB CA listed w := fun listed w h => by
  unfold D2 at *
  rw [getD_set_ne true h1, getD_set_ne true h2] at h
  exact h
def waitsB (md : Region.Mode) (ops : Array Oper) (j i : Nat) : Bool := match ops[j]? with | some o => o.after.any (fun e => Region.binds md e && e.on == i) | none => false
theorem waits_of {j i : Nat} (h : waitsB md ops j i = true) : waits md ops j i := by
  unfold waitsB at h
  split at h
  · rename_i o ho
    simp only [Array.any_eq_true', Bool.and_eq_true, beq_iff_eq] at h
    obtain ⟨e, he, hb, heq⟩ := h
    exact ⟨o, ho, e, he, hb, heq⟩
  · cases h
theorem D2_CA (h : waitsB md ops e2 k = true) : ∀ w, Pending md ops (D2 e1 e2 CB CA) k w → CA w := fun _ ⟨_, _, hw, hd⟩ => hd.1 (hw _ (waits_of h))
theorem D2_CB (h : waitsB md ops e1 k = true) : ∀ w, Pending md ops (D2 e1 e2 CB CA) k w → CB w := fun _ ⟨_, _, hw, hd⟩ => hd.2 (hw _ (waits_of h))
end
theorem still_lookup {P : Program} {o : Oper} {a : Act} {w : World} (t : TypeId) (m x : Operand) (ho : o.op = .lookup t m x false) {M K v : Value} (hm : a.eval m = M) (hx : a.eval x = K) (hr : (Instr.lookup t M K false).run P w = .ok v w) : (execOp a.eval o).run P w = .ok (.value v) w := by
  unfold execOp
  simp [ho, hm, hx, hr, Result.andThen]
theorem D2_late {e1 e2 : Nat} {CB CA : World → Prop} {listed : Array Bool} {w : World} (h : listed.getD e1 true = true) (ca : CA w) : D2 e1 e2 CB CA listed w := ⟨fun _ => ca, fun h2 => by rw [h] at h2; cases h2⟩
theorem D2_done {e1 e2 : Nat} {CB CA : World → Prop} {listed : Array Bool} {w : World} (h : listed.getD e1 true = true) (h' : listed.getD e2 true = true) : D2 e1 e2 CB CA listed w := ⟨fun h2 => (by rw [h'] at h2; cases h2), fun h2 => (by rw [h] at h2; cases h2)⟩
theorem Walk.zero {w : World} {base g m : Nat} {t : List Node} {A : Option Addr} {c k : Nat} {dv : Value} (h : Walk w base g m t A c 0 k dv) : Walk w base g m t A c 1 k dv := by
  obtain ⟨n, D, hn, hD, hI, hk⟩ := h.grp
  exact ⟨h.cells, h.deep, h.gb, h.gm, ⟨n, D, by omega, hD, hI, fun j => by
    have e : kidsL t 1 j = kidsL t 0 j := by rw [kidsL_succ]; simp
    rw [e]
    exact hk j⟩, h.shun, h.ng⟩
/-- The depths' row. -/
theorem Walk.row {w : World} {base g m : Nat} {t : List Node} {A : Option Addr} {c i k : Nat} {dv : Value} (h : Walk w base g m t A c i k dv) (hk : 0 < k) : ∃ gd cap, dv = .slice (some ⟨gd, 0, none⟩) k cap ∧ k ≤ cap ∧ ∀ p, p < k → w.cell? ⟨gd, p, none⟩ = some (.int .i64 ((depsL t k).getD p 0)) := by
  have hr := h.deep.1
  have hl := depsL_len t k
  rcases id hr.2 with ⟨_, h0⟩ | ⟨gd, cap, cur, rfl, _, _, hn, _⟩
  · omega
  · rw [hl] at hr hn ⊢
    refine ⟨gd, cap, rfl, hn, fun p hp => ?_⟩
    rw [hr.cellAt p (by omega)]
    simp [List.getElem?_eq_getElem (show p < (depsL t k).length by omega)]
theorem own_shape {w : World} {base n size : Nat} {e : TypeId} {v : Value} {xs : List Value} (h : w.ownsRow base e size v n xs) (hn : 0 < n) : ∃ g cap, v = .slice (some ⟨g, 0, none⟩) n cap := by
  rcases h.2 with ⟨_, h0⟩ | ⟨g, cap, cur, hv, _⟩
  · omega
  · exact ⟨g, cap, hv⟩
/-- Where the kid is put down: ahead of the store, ahead of the append. -/
def CAw (w : World) (s dv : Value) (b g m : Nat) (w' : World) : Prop := w'.heap[b]? = some (.cells #[s] 22 (0, 0)) ∧ w'.heap[g]? = some (.cells #[s, dv, .map (some m)] 73 (0, 0)) ∧ Below w.heap.size w w'
def CBw (m : Nat) (o : Option Obj) (w' : World) : Prop := w'.heap[m]? = o
theorem wf64 {z : Int} (h1 : -9223372036854775808 ≤ z) (h2 : z ≤ 9223372036854775807) : (Lit.int .i64 z).wf = true := by
  have e1 : IntKind.i64.min = -9223372036854775808 := by decide
  have e2 : IntKind.i64.max = 9223372036854775807 := by decide
  simp only [Lit.wf, e1, e2, Bool.and_eq_true, decide_eq_true_eq]
  exact ⟨h1, h2⟩
/-- The three checks of a node. -/
theorem first_good (t : List Node) (A : Option Addr) (c n b g : Nat) (w : World) (hn : n < t.length) (hc : kN.C w A t.length t) (hX : w.cell? ⟨b, 0, none⟩ = some (.slice A t.length c)) (hg : w.cell? ⟨g, 0, none⟩ = some (.slice A t.length c)) :
    Calls Tryd.prog 64 #[.int .i64 n, .slice (some ⟨w.heap.size, 0, none⟩) 3 3] (w.alloc (.cells #[fn0 ⟨g, 0, none⟩, fn1 ⟨b, 0, none⟩, fn2 ⟨g, 0, none⟩] 82)) fun e w' => e = .returned (.bool (placeB t n && (formB (t.getD n zN) && styleB t n))) ∧ Below w.heap.size w w' := by
  have hB := below_alloc (Below.refl w.heap.size w) (.cells #[fn0 ⟨g, 0, none⟩, fn1 ⟨b, 0, none⟩, fn2 ⟨g, 0, none⟩] 82)
  have hk := blk_new w (.cells #[fn0 ⟨g, 0, none⟩, fn1 ⟨b, 0, none⟩, fn2 ⟨g, 0, none⟩] 82)
  have hs : ∀ w', Below (w.alloc (.cells #[fn0 ⟨g, 0, none⟩, fn1 ⟨b, 0, none⟩, fn2 ⟨g, 0, none⟩] 82)).heap.size (w.alloc (.cells #[fn0 ⟨g, 0, none⟩, fn1 ⟨b, 0, none⟩, fn2 ⟨g, 0, none⟩] 82)) w' → Below w.heap.size w w' := fun w' h => below_then hB hB.size h
  refine (first_any n w.heap.size ⟨g, 0, none⟩ ⟨b, 0, none⟩ _ _ _ _ (cell_at hk 0 rfl) (cell_at hk 1 rfl) (cell_at hk 2 rfl) (fun w' h => place_any t A c g n w' hn (Kd.C_below hc (hs w' h)) (pw_cell_below (hs w' h) hg)) (fun w' h => open1_any t A c n _ w' hn (Kd.C_below hc (hs w' h)) (pw_cell_below (hs w' h) hX))
    (fun w' h => style_any t A c g n w' hn (Kd.C_below hc (hs w' h)) (pw_cell_below (hs w' h) hg))).mono fun e w' h => ⟨h.1, hs w' h.2⟩
end Go.Proofs.YtdphijhebppeeaaDoor.G
/- Chapter 5: opening a tree. Written by tmpl.py out of F15.tl. -/
namespace Go.Proofs.YtdphijhebppeeaaDoor.G
open Go.RowKit Go.Maps Go.WideElems Go.MapKept Go.ChangeMaps Go.ChangeShapes Go.Proofs.YtdphijhebppeeaaDoorW.PrintWords Go.Proofs.YtdphijhebppeeaaDoorW.PrintLast Go.Proofs.YtdphijhebppeeaaDoorW.PrintMore
attribute [local irreducible] cN

/-- Is node i right, but for its depth? -/
def goodB (t : List Node) (i : Nat) : Bool := placeB t i && (formB (t.getD i zN) && styleB t i)
/-- The first that is wrong from i on, and how. -/
def scanT (t : List Node) : Nat → Nat → Option (Nat × Nat)
  | 0, _ => none
  | f + 1, i => if goodB t i = true then (if 64 < depN t i (depsL t i) then some (i, 1) else scanT t f (i + 1)) else some (i, 0)
def openT (t : List Node) : Option (Nat × Nat) := if t.length < 1 ∨ 200 < t.length then some (0, 2) else scanT t t.length 0
theorem place_parent {t : List Node} {i : Nat} (h0 : 0 < i) (h : placeB t i = true) : 0 ≤ (t.getD i zN).f0 ∧ (t.getD i zN).f0 < i := by
  unfold placeB at h
  rw [if_neg (by omega)] at h
  unfold parentOf at h
  split at h
  · rename_i hq; exact hq.2
  · exact absurd h (by decide)
theorem walk_new (w0 : World) (t : List Node) (A : Option Addr) (c b : Nat) (hb : w0.heap.size = b) :
    Walk ((w0.alloc (.map #[] 0)).alloc (.cells #[.slice A t.length c, .slice none 0 0, .map (some b)] 73)) (b + 2) (b + 1) b t A c 0 0 (.slice none 0 0) := by
  subst hb
  have hs : (w0.alloc (.map #[] 0)).heap.size = w0.heap.size + 1 := by simp
  have hg := blk_new (w0.alloc (.map #[] 0)) (.cells #[.slice A t.length c, .slice none 0 0, .map (some w0.heap.size)] 73)
  rw [hs] at hg
  have hm := blk_alloc (MapKept.heap_alloc w0 (.map #[] 0)).1 (.cells #[.slice A t.length c, .slice none 0 0, .map (some w0.heap.size)] 73)
  refine ⟨hg, World.ownsInts_nil _ _ _ _, by omega, by omega, ⟨0, .map [], Nat.le_refl _, ⟨#[], 0, hm, ⟨by simp, stamped_empty 0, by simp⟩, Nat.le_refl _, rfl, by omega, by simp, by simp⟩, isMap_empty, fun j => .inl ⟨rfl, rfl⟩⟩, ?_, by simp [Value.ownBlock], by simp [Value.ownBlock]⟩
  intro es cl hb x hx g hg' hno
  cases hno
/-- What open gives. -/
def OpenPost (E : Nat → Addr) (t : List Node) (A : Option Addr) (c : Nat) (w : World) (e : Ending) (w' : World) : Prop :=
  match openT t with
  | none => ∃ g m dv, e = .returned (.tuple #[.pointer (some ⟨g, 0, none⟩), .nilIface]) ∧ Walk w' (w.heap.size + 3) g m t A c t.length t.length dv ∧ Below w.heap.size w w'
  | some (n, i) => e = .returned (.tuple #[.pointer none, .iface 90 (.agg #[.int .i64 n, .iface 142 (.pointer (some (E i)))])]) ∧ Below w.heap.size w w'
theorem frame99 (T : Array Value) (h : T.size = 99) : ∃ us : Nat → Value, T = #[us 0, us 1, us 2, us 3, us 4, us 5, us 6, us 7, us 8, us 9, us 10, us 11, us 12, us 13, us 14, us 15, us 16, us 17, us 18, us 19, us 20, us 21, us 22, us 23, us 24, us 25, us 26, us 27, us 28, us 29, us 30, us 31, us 32, us 33, us 34, us 35, us 36, us 37, us 38, us 39, us 40, us 41, us 42, us 43, us 44, us 45, us 46, us 47, us 48, us 49, us 50, us 51, us 52, us 53, us 54, us 55, us 56, us 57, us 58, us 59, us 60, us 61, us 62, us 63, us 64, us 65, us 66, us 67, us 68, us 69, us 70, us 71, us 72, us 73, us 74, us 75, us 76, us 77, us 78, us 79, us 80, us 81, us 82, us 83, us 84, us 85, us 86, us 87, us 88, us 89, us 90, us 91, us 92, us 93, us 94, us 95, us 96, us 97, us 98] := by
  refine ⟨fun j => T.getD j undef, ?_⟩
  have e : T = ((List.range 99).map fun j => T.getD j undef).toArray := by
    refine Array.ext (by simp [h]) fun i h1 h2 => ?_
    simp [h1]
  exact e
set_option maxHeartbeats 8000000 in
set_option maxRecDepth 100000 in
theorem open_any (t : List Node) (A : Option Addr) (c : Nat) (E : Nat → Addr) (w : World) (hc : kN.C w A t.length t) (hS : Sent w E) :
    Calls Tryd.prog 49 #[.slice A t.length c] w (OpenPost E t A c w) := by
  have hmm := @run_makeMap Tryd.prog
  obtain ⟨i0, hi0, hz0, hz1, hz2⟩ := info_parts info3
  have HC := Aside0.mk hc
  have HS := Aside0.mk hS
  have k0 := cell_at (blk_new w (.cells #[.slice A t.length c] 22)) 0 rfl
  clear hc hS
  go_enter Tryd.func49, Tryd.ntmps49
  go_wp2
  refine wp_scope_jumps 0 (fun a' w' => ∃ (n i : Nat), openT t = some (n, i) ∧ Aside0 (Below w.heap.size w w') ∧ a'.defers = [] ∧ a'.tmps.size = 99 ∧ a'.tmps.getD 5 undef = .int .i64 n ∧ a'.tmps.getD 6 undef = .iface 142 (.pointer (some (E i)))) (fun _ _ => 0) rfl ?_ ?_
  · go_upto_region 3 with fail
    have hB3 := Aside0.mk (below_alloc (below_alloc (below_alloc (Below.refl w.heap.size w) (.cells #[.slice A t.length c] 22)) (.map #[] 0)) (.cells #[.slice A t.length c, .slice none 0 0, .map (some (w.heap.size + 1))] 73))
    have hX := Aside0.mk (blk_alloc (blk_alloc (blk_new w (.cells #[.slice A t.length c] 22)) (.map #[] 0)) (.cells #[.slice A t.length c, .slice none 0 0, .map (some (w.heap.size + 1))] 73))
    have hW := Aside0.mk (walk_new (w.alloc (.cells #[.slice A t.length c] 22)) t A c (w.heap.size + 1) (by simp))
    generalize ((w.alloc (.cells #[.slice A t.length c] 22)).alloc (.map #[] 0)).alloc (.cells #[.slice A t.length c, .slice none 0 0, .map (some (w.heap.size + 1))] 73) = W3 at *
    have hS3 := HS.out.below hB3.out
    have g1 := hS3.c2
    clear k0
    have k1 := cell_at hX.out 0 rfl
    by_cases h1 : t.length < 1
    · have h1' : (t.length : Int) < 1 := by omega
      go_wp2
      go_step3
      refine ⟨rfl, 0, 2, by rw [openT, if_pos (.inl h1)], hB3, rfl, rfl, rfl, rfl⟩
    · have h1' : ¬ (t.length : Int) < 1 := by omega
      by_cases h2 : 200 < t.length
      · have h2' : (t.length : Int) > 200 := by omega
        go_wp2
        go_step3
        refine ⟨rfl, 0, 2, by rw [openT, if_pos (.inr h2)], hB3, rfl, rfl, rfl, rfl⟩
      · have h2' : ¬ (t.length : Int) > 200 := by omega
        have hO := Aside0.mk (show scanT t (t.length - 0) 0 = openT t by rw [openT, if_neg (by omega)]; rfl)
        go_wp2
        clear g1 k1 hS3 h1' h2'
        go_loopw [25] (fun i wr => ∃ (k : Nat) (dv : Value), i = .int .i64 k ∧ k ≤ t.length ∧ Aside0 (scanT t (t.length - k) k = openT t) ∧ Aside0 (Below w.heap.size w wr) ∧ Aside0 (wr.heap[w.heap.size]? = some (.cells #[.slice A t.length c] 22 (0, 0))) ∧
          Aside0 (Walk wr (w.heap.size + 3) (w.heap.size + 1 + 1) (w.heap.size + 1) t A c k k dv) ∧ Aside0 (∀ d ∈ depsL t k, 1 ≤ d ∧ d ≤ 64)) (fun i _ => t.length - (intZ i).toNat)
        case atStart => exact ⟨0, _, rfl, Nat.zero_le _, hO, hB3, hX, hW, ⟨by simp [depsL]⟩⟩
        case round =>
          clear hO hB3 hX hW
          obtain ⟨k, dv, rfl, hk, HO, HB, HX, HW, HD⟩ := hrel
          by_cases hlt : k < t.length
          · have hlt' : (k : Int) < t.length := by omega
            have gE := (HS.out.below HB.out).c0
            go_upto_region 10 with fail
            clear gE
            go_cut [42] (fun s wx => s = .bool (!(placeB t k && (formB (t.getD k zN) && styleB t k))) ∧ Below wr.heap.size wr wx)
            case first =>
              refine region_lex 13 (fun _ _ => True) (by kernel_rfl) (by kernel_rfl) (by kernel_rfl) (by kernel_rfl) ?_
              iterate 10 (apply lex_still (fun _ => True) (by rfl) (fun _ _ _ => trivial) (fun _ _ => trivial); (focus (intro w' _; go_simp; all_goals rfl)); go_frame)
              refine lex_turn (by kernel_rfl) trivial (by rfl) (by rfl) ?_
              refine eWp_three _ _ _ rfl ⟨w.heap.size + 1 + 1, 0, none⟩ ⟨w.heap.size, 0, none⟩ rfl rfl rfl ?_
              go_frame
              refine lex_turn (by kernel_rfl) trivial (by rfl) (by rfl) ?_
              refine eWp_call 64 _ _ _ rfl callF rfl rfl ?_
              refine (first_good t A c k w.heap.size (w.heap.size + 1 + 1) wr.drew hlt (Kd.C_below HC.out (below_drew HB.out)) (cell_at (blk_drew HX.out) 0 rfl) (cell_at (blk_drew HW.out.cells) 0 rfl)).mono ?_
              rintro e w2 ⟨rfl, hb⟩
              refine ⟨_, rfl, ?_⟩
              go_frame
              refine lex_turn (by kernel_rfl) trivial (by rfl) (by rfl) ?_
              refine eWp_run (w' := w2) (v := .bool (!(placeB t k && (formB (t.getD k zN) && styleB t k)))) (by go_simp) ?_
              go_frame
              refine lex_nil trivial ?_
              go_wp2_with fail
              go_meet
              exact ⟨rfl, below_then (below_drew (Below.refl wr.heap.size wr)) (below_drew (Below.refl wr.heap.size wr)).size hb⟩
            case rest =>
              obtain ⟨rfl, hb⟩ := hcut
              have HB2 := Aside0.mk (below_then HB.out HB.out.size hb)
              have HX2 := Aside0.mk (blk_below HX.out hb)
              have HW2 := Aside0.mk (HW.out.below hb)
              clear HB HX HW hb
              cases hgd : (placeB t k && (formB (t.getD k zN) && styleB t k))
              · have hOk : openT t = some (k, 0) := by
                  rw [← HO.out, show t.length - k = (t.length - k - 1) + 1 by omega, scanT, goodB, hgd, if_neg (by simp)]
                go_wp2
                go_step3
                exact ⟨rfl, k, 0, hOk, HB2, rfl, rfl, rfl, rfl⟩
              · have hOk := Aside0.mk (show (if 64 < depN t k (depsL t k) then some (k, 1) else scanT t (t.length - (k + 1)) (k + 1)) = openT t by
                  rw [← HO.out, show t.length - k = (t.length - (k + 1)) + 1 by omega, scanT, goodB, hgd, if_pos rfl])
                clear HO
                go_upto_if 44 with fail
                go_cut [8] (fun s wx => s = .int .i64 (depN t k (depsL t k)) ∧ Aside0 (wx.heap[w.heap.size]? = some (.cells #[.slice A t.length c] 22 (0, 0))) ∧ Aside0 (Walk wx (w.heap.size + 3) (w.heap.size + 1 + 1) (w.heap.size + 1) t A c (k + 1) k dv) ∧ Aside0 (Below w.heap.size w wx))
                case first =>
                  by_cases hk0 : k = 0
                  · subst hk0
                    go_wp2_with fail
                    go_meet
                    exact ⟨rfl, HX2, ⟨HW2.out.zero⟩, HB2⟩
                  · have hk1 : 0 < k := by omega
                    have hk1' : (0 : Int) < k := by omega
                    have hpl : placeB t k = true := by revert hgd; cases placeB t k <;> simp
                    have hpar := place_parent hk1 hpl
                    obtain ⟨p, hp⟩ : ∃ p : Nat, (t.getD k zN).f0 = p := ⟨(t.getD k zN).f0.toNat, by omega⟩
                    have hpk : p < k := by omega
                    have hpk' : (p : Int) < k := by omega
                    have hdep : depN t k (depsL t k) = 1 + (depsL t k).getD p 0 := by rw [depN, if_neg hk0, hp]; rfl
                    obtain ⟨ad, M, rfl, hM, hr⟩ := node_at HC.out k hlt
                    have nf := Aside0.mk (ranges_first hr hM.c0)
                    rw [hp] at nf
                    obtain ⟨gd, cap, rfl, hcap, hrow⟩ := HW2.out.row hk1
                    have hbd := HD.out _ (show (depsL t k).getD p 0 ∈ depsL t k by rw [List.getD_eq_getElem?_getD, List.getElem?_eq_getElem (by rw [depsL_len]; omega)]; exact List.getElem_mem _)
                    have zr := hrow p hpk
                    clear hrow
                    obtain ⟨dp, hdp⟩ : ∃ dp, (depsL t k).getD p 0 = dp := ⟨_, rfl⟩
                    rw [hdp] at zr hdep hbd
                    replace hdep := Aside0.mk hdep
                    clear hdp
                    have z1 := cell_at HX2.out 0 rfl
                    have z2 := cell_at HW2.out.cells 1 rfl
                    have z3 := pw_cell_below HB2.out nf.out
                    obtain ⟨hd1, hd2⟩ := hbd
                    go_upto_region 13 with fail
                    go_quiet (fail)
                    go_upto_region 14 with fail
                    clear z1 z2 z3 zr
                    have HBd := Aside0.mk (below_drew (pw_below_drewN HB2.out nq))
                    have HXd := Aside0.mk (show (wc.drewN nq).drew.heap[w.heap.size]? = some (.cells #[.slice (some ad) t.length c] 22 (0, 0)) from HX2.out)
                    have HWd := Aside0.mk (HW2.out.below (below_drew (pw_below_drewN (Below.refl wc.heap.size wc) nq)))
                    obtain ⟨v, nn, DD, hnn, hlook, hoi, hzl, hback, hdv, hvm, hvg, hI, hkk, hDD⟩ := HWd.out.look (show k < maxLen by unfold maxLen; omega) (j := p) (wf64 (by omega) (by omega))
                    have HLk := Aside0.mk hlook
                    clear hlook
                    refine region_lex 23 (D2 21 22 (CBw (w.heap.size + 1) ((wc.drewN nq).drew.heap[w.heap.size + 1]?)) (CAw w (.slice (some ad) t.length c) (.slice (some ⟨gd, 0, none⟩) k cap) w.heap.size (w.heap.size + 1 + 1) (w.heap.size + 1))) (by kernel_rfl) (by kernel_rfl) (by kernel_rfl) (by kernel_rfl) ?_
                    iterate 18 (apply lex_still (CAw w (.slice (some ad) t.length c) (.slice (some ⟨gd, 0, none⟩) k cap) w.heap.size (w.heap.size + 1 + 1) (w.heap.size + 1)) (by rfl) (D2_set (by decide) (by decide)) (D2_CA (by kernel_rfl)); (focus (rintro w' ⟨q1, q2, q3⟩; have z1 := cell_at q1 0 rfl; have z2 := cell_at q2 2 rfl; have z3 := pw_cell_below q3 nf.out; go_simp; all_goals rfl)); go_frame)
                    refine lex_still (CBw (w.heap.size + 1) ((wc.drewN nq).drew.heap[w.heap.size + 1]?)) (by rfl) (D2_set (by decide) (by decide)) (D2_CB (by kernel_rfl)) (v := v) (fun w' hw' => still_lookup 71 _ _ rfl (M := .map (some (w.heap.size + 1))) (K := .int .i64 p) rfl rfl (HLk.out w' hw')) ?_
                    go_frame
                    iterate 1 (apply lex_still (CAw w (.slice (some ad) t.length c) (.slice (some ⟨gd, 0, none⟩) k cap) w.heap.size (w.heap.size + 1 + 1) (w.heap.size + 1)) (by rfl) (D2_set (by decide) (by decide)) (D2_CA (by kernel_rfl)); (focus (rintro w' ⟨q1, q2, q3⟩; have z1 := cell_at q1 0 rfl; have z2 := cell_at q2 2 rfl; have z3 := pw_cell_below q3 nf.out; go_simp; all_goals rfl)); go_frame)
                    have ca0 := Aside0.mk (show CAw w (.slice (some ad) t.length c) (.slice (some ⟨gd, 0, none⟩) k cap) w.heap.size (w.heap.size + 1 + 1) (w.heap.size + 1) (wc.drewN nq).drew from ⟨HXd.out, HWd.out.cells, HBd.out⟩)
                    have hkid := kidsL_len t k p
                    generalize (wc.drewN nq).drew = Wd at *
                    refine lex_turn (by kernel_rfl) ⟨fun _ => ca0.out, fun _ => rfl⟩ (by rfl) (by rfl) ?_
                    refine eWp_one _ rfl k rfl ?_
                    go_frame
                    refine lex_turn (by kernel_rfl) ⟨fun _ => ⟨blk_alloc HXd.out _, blk_alloc HWd.out.cells _, below_alloc HBd.out _⟩, fun _ => (Below.heap_alloc Wd _ _ (groups_mb hDD).2)⟩ (by rfl) (by rfl) ?_
                    refine eWp_append _ _ 36 rfl (w.heap.size + 3) 3 i0 (.int .i64 0) 1 8 Tryd.underlying36 hi0 hz0 hz1 hz2 rfl (by decide) v _ _ rfl (hoi.1.alloc _) ⟨Wd.heap.size, 0, none⟩ 1 1 [.int .i64 k] rfl rfl (cell_one_new _ _ _) (ints_oneCell .i64 [(k : Int)]) (by unfold maxLen; omega) (by omega) (by have := blk_lt HWd.out.cells; simp; omega) ?_
                    intro v' w1 hown' hgrow hloc
                    go_frame
                    have hG1 := (World.grownBy_alloc Wd (.cells #[.int .i64 k] 3) v.ownBlock).trans hgrow
                    have hrowB : ∀ j, v.ownBlock = some j → w.heap.size + 3 ≤ j := fun j hj => (hoi.1.lt j hj).1
                    have ho1 : w1.ownsInts (w.heap.size + 3) 3 .i64 v' (kidsL t k p ++ [(k : Int)]) := hoi.appended (by simpa using hown') (wf64 (by omega) (by omega))
                    obtain ⟨w2, hrun, hW3, hg2⟩ := HWd.out.put (show k < maxLen by unfold maxLen; omega) hk1 (wf64 (by omega) (by omega)) hp hnn hoi hzl hback hdv hvm hvg hI hkk hDD hG1 ho1 (by
                      rcases hloc with e | e
                      · exact .inl e
                      · exact .inr ⟨_, e, by simp⟩)
                    have hxne : v.ownBlock ≠ some w.heap.size := fun e => by have := hrowB _ e; omega
                    have hX1 := (hG1.block w.heap.size (blk_lt HXd.out) (fun e => hxne e.symm)).trans HXd.out
                    have hC1 := (hG1.block (w.heap.size + 1 + 1) (blk_lt HWd.out.cells) (fun e => hvg e.symm)).trans HWd.out.cells
                    have hb1 : Below w.heap.size w w1 := HBd.out.grown hG1 HBd.out.size (fun j hj => by have := hrowB j hj; omega)
                    refine lex_turn (by kernel_rfl) (D2_late (by kernel_rfl) ⟨hX1, hC1, hb1⟩) (by rfl) (by rfl) ?_
                    refine eWp_update _ _ _ _ rfl rfl rfl rfl hrun ?_
                    go_frame
                    refine lex_nil (D2_done (by kernel_rfl) (by kernel_rfl)) ?_
                    go_wp2_with fail
                    go_meet
                    exact ⟨by rw [hdep.out], ⟨(hg2.block _ (blk_lt hX1) (fun e => by have := Option.some.inj e; omega)).trans hX1⟩, ⟨hW3⟩, ⟨hb1.grown hg2 hb1.size (fun j hj => by cases hj; omega)⟩⟩
                case rest =>
                  clear HB2 HX2 HW2
                  obtain ⟨rfl, HX3, HW3, HB3⟩ := hcut
                  have hdb : 1 ≤ depN t k (depsL t k) ∧ depN t k (depsL t k) ≤ 65 := by
                    unfold depN
                    split
                    · omega
                    · by_cases hq : (t.getD k zN).f0.toNat < (depsL t k).length
                      · have := HD.out _ (show (depsL t k).getD (t.getD k zN).f0.toNat 0 ∈ depsL t k by rw [List.getD_eq_getElem?_getD, List.getElem?_eq_getElem hq]; exact List.getElem_mem _)
                        omega
                      · rw [List.getD_eq_getElem?_getD, List.getElem?_eq_none (by omega)]
                        simp
                  have hds := Aside0.mk (show depsL t (k + 1) = depsL t k ++ [depN t k (depsL t k)] from rfl)
                  have z1 := cell_at HW3.out.cells 1 rfl
                  obtain ⟨hdb1, hdb2⟩ := hdb
                  have hdl := depsL_len t k
                  go_upto_region 16 with (first | (at_builtin; refine wpList_append_own_at _ rfl _ _ 36 rfl (w.heap.size + 3) 3 i0 (.int .i64 0) 1 8 Tryd.underlying36 hi0 hz0 hz1 hz2 rfl (by decide) dv _ _ rfl (HW3.out.deep.1.alloc _) ⟨wc.heap.size, 0, none⟩ 1 1 [.int .i64 (depN t k (depsL t k))] rfl rfl (cell_one_new _ _ _) (ints_oneCell .i64 [(depN t k (depsL t k) : Int)]) (by rw [hdl]; unfold maxLen; omega) (by rw [hdl]; omega) (by have := blk_lt HW3.out.cells; simp; omega) ?_; intro v' w5 hown' hgrow _ hloc; have hsh := own_shape hown' (by omega); rw [hdl] at hsh; obtain ⟨gv, cv, rfl⟩ := hsh; have hG5 := (World.grownBy_alloc wc (.cells #[.int .i64 (depN t k (depsL t k))] 3) dv.ownBlock).trans hgrow; have hC5 := (hG5.block (w.heap.size + 1 + 1) (blk_lt HW3.out.cells) (fun e => HW3.out.ng.2 e.symm)).trans HW3.out.cells; have z5 := cell_at hC5 1 rfl; have y5 := blk_frozen hC5 1))
                  have hW6 := HW3.out.deepen hG5 (dv' := .slice (some ⟨gv, 0, none⟩) (k + 1) cv) (by rw [hds.out]; exact HW3.out.deep.appended (by simpa using hown') (wf64 (by omega) (by omega))) (by
                    rcases hloc with e | e
                    · exact .inl e
                    · exact .inr ⟨_, e, by simp⟩)
                  have hd0 : ∀ j, dv.ownBlock = some j → w.heap.size + 3 ≤ j := fun j hj => (HW3.out.deep.1.lt j hj).1
                  have HX6 := Aside0.mk (blk_far ((hG5.block w.heap.size (blk_lt HX3.out) (fun e => by have := hd0 _ e.symm; omega)).trans HX3.out) (p := ⟨w.heap.size + 1 + 1, 1, none⟩) (by simp; omega) (.slice (some ⟨gv, 0, none⟩) (k + 1) cv))
                  have HB6 := Aside0.mk (below_set (g := w.heap.size + 1 + 1) (j := 1) (v := .slice (some ⟨gv, 0, none⟩) (k + 1) cv) (HB3.out.grown hG5 HB3.out.size (fun j hj => by have := hd0 j hj; omega)) (by omega))
                  clear z1 z5 y5 hC5 hG5 hgrow hown' hloc hd0
                  replace hW6 := Aside0.mk hW6
                  obtain ⟨w6, hw6⟩ : ∃ w6, w5.setCell ⟨w.heap.size + 1 + 1, 1, none⟩ (.slice (some ⟨gv, 0, none⟩) (k + 1) cv) = w6 := ⟨_, rfl⟩
                  rw [hw6] at hW6 HX6 HB6 ⊢
                  clear hw6
                  have gE := (HS.out.below HB6.out).c1
                  by_cases h64 : 64 < depN t k (depsL t k)
                  · have hOk2 : openT t = some (k, 1) := by rw [← hOk.out, if_pos h64]
                    have h64' : depN t k (depsL t k) > 64 := h64
                    go_wp2
                    go_step3
                    exact ⟨rfl, k, 1, hOk2, HB6, rfl, rfl, rfl, rfl⟩
                  · have hOk2 : scanT t (t.length - (k + 1)) (k + 1) = openT t := by rw [← hOk.out, if_neg h64]
                    have h64' : ¬ depN t k (depsL t k) > 64 := h64
                    go_wp2
                    refine ⟨⟨k + 1, _, rfl, hlt, ⟨hOk2⟩, HB6, HX6, hW6, ⟨fun d hd => ?_⟩⟩, by simp [intZ]; omega⟩
                    rw [hds.out, List.mem_append, List.mem_singleton] at hd
                    rcases hd with hd | rfl
                    · exact HD.out d hd
                    · exact ⟨hdb1, by omega⟩
          · have hke : k = t.length := by omega
            subst hke
            go_wp2
            dsimp only [Exit.jump]
            go_ret2
            rw [Nat.sub_self] at HO
            have hOk : openT t = none := HO.out.symm
            unfold OpenPost
            rw [hOk]
            exact ⟨_, _, dv, rfl, HW.out, HB.out⟩
  · rintro ⟨T, df⟩ w1 ⟨n, i, hO, hB, hd, hs, h5, h6⟩
    dsimp only at hd hs h5 h6
    obtain ⟨us, hu⟩ := frame99 T hs
    have e5 : us 5 = .int .i64 n := by rw [hu] at h5; exact h5
    have e6 : us 6 = .iface 142 (.pointer (some (E i))) := by rw [hu] at h6; exact h6
    rw [e5, e6] at hu
    clear e5 e6 h5 h6 hs
    subst hu
    subst hd
    go_wp2
    dsimp only [Exit.jump]
    go_ret2
    unfold OpenPost
    rw [hO]
    exact ⟨rfl, hB.out⟩
end Go.Proofs.YtdphijhebppeeaaDoor.G
/- Chapter 5: a range over an iterator that is never left, told by its record; the iterator over a slice from its end. Written by tmpl.py out of F16.tl. -/
namespace Go.Proofs.YtdphijhebppeeaaDoor.G
open Go.RowKit Go.Shelf Go.Proofs.YtdphijhebppeeaaDoorW.PrintWords Go.Proofs.YtdphijhebppeeaaDoorW.PrintLast Go.Proofs.YtdphijhebppeeaaDoorW.PrintMore

theorem wpIn_scope_wide {n : Nat} {P : Program} {c : Code} {Q : Exit → Act → World → Prop} {a : Act} {w : World} (h : c.wpIn Fence.wide n P (Exit.noGoto Q) a w) : (Code.scope c).wpIn Fence.wide n P Q a w :=
  wpIn_wide.2 (wp_scope_straight (wpIn_wide.1 h))

/-- The record of a loop lies there, and the block for its rounds' deferred calls. -/
def ReadyAt (r : Loop) (D : Nat) (W : World) : Prop := W.heap[D + 1]? = some (.loop r) ∧ W.heap[D]? = some (.deferred (some []))
theorem ReadyAt.kept {r : Loop} {D : Nat} {W W' : World} {b : Nat} {cs : Array Value} {t : TypeId} {z : Nat × Nat} (h : ReadyAt r D W) (hg : W.grownBy W' (some b)) (hb : W.heap[b]? = some (.cells cs t z)) : ReadyAt r D W' :=
  ⟨blk_grown h.1 hg (fun e => by cases e; rw [h.1] at hb; cases hb), blk_grown h.2 hg (fun e => by cases e; rw [h.2] at hb; cases hb)⟩

variable {F : Fence} {n : Nat} {P : Program}
/-- A range over an iterator that is never left ahead of its end. -/
theorem range_whole {g : Operand} {ps : Array Tmp} {assign body : Code} {Q : Exit → Act → World → Prop} {a : Act} {w : World}
    (hro : F.round = none) (h1 : 1 ≤ n) {gf : Nat} {lb : Array Value} (hg : a.eval g = .func (.func gf) #[] lb) (hFg : F.fn gf) (eg : ∀ args w, (callFunc gf args).run P w = .ok (.enter gf args) w)
    (T : World → Prop)
    (hcall : ∀ (fn : FuncId), F.fn fn → CallsIn F (n - 1) P gf (#[.func (.yield (w.heap.size + 1)) #[] #[]] ++ lb)
      ((w.alloc (.deferred (some []))).alloc (.loop { state := .ready, pending := none, fn, tmps := a.tmps, params := ps, assign, body, defers := w.heap.size }))
      fun e W2 => (∃ v, e = .returned v) ∧ T W2 ∧ ReadyAt { state := .ready, pending := none, fn, tmps := a.tmps, params := ps, assign, body, defers := w.heap.size } w.heap.size W2)
    (hdone : ∀ (o : Obj) (W2 : World), T W2 → (∃ r : Loop, W2.heap[w.heap.size + 1]? = some (.loop r)) → W2.heap[w.heap.size]? = some (.deferred (some [])) →
      Q .normal { a with defers := { target := .collected w.heap.size, args := #[] } :: a.defers } (W2.putObj (w.heap.size + 1) o)) :
    (Code.rangeFunc g ps assign body).wpIn F n P Q a w := by
  refine wpIn_rangeFunc ?_
  intro fn hfn
  rw [hro]
  have hc := hcall fn hfn
  have hen := run_enterLoop_outer (P := P) (w := w) fn a.tmps ps assign body
  have hdo := hdone
  clear hcall hdone
  have hst : ({ state := .ready, pending := none, fn, tmps := a.tmps, params := ps, assign, body, defers := w.heap.size } : Loop).state = .ready := rfl
  have hpe : ({ state := .ready, pending := none, fn, tmps := a.tmps, params := ps, assign, body, defers := w.heap.size } : Loop).pending = none := rfl
  generalize ({ state := .ready, pending := none, fn, tmps := a.tmps, params := ps, assign, body, defers := w.heap.size } : Loop) = r at hc hen hst hpe
  generalize (w.alloc (.deferred (some []))).alloc (.loop r) = W1 at hc hen
  refine ⟨w.heap.size + 1, [{ target := .collected w.heap.size, args := #[] }], W1, { target := .fn (.func gf) lb, args := #[.func (.yield (w.heap.size + 1)) #[] #[]] }, W1, gf,
    #[.func (.yield (w.heap.size + 1)) #[] #[]] ++ lb, W1, hen, ?_, ?_, ?_, fun _ => h1, ?_⟩
  · simp only [resolve, hg]
    simp [go_sem]
  · intro f' hf'
    simp [Target.leads] at hf'
    subst hf'
    exact hFg
  · simp [invoke, go_sem, eg]
  · refine hc.mono ?_
    rintro e W2 ⟨⟨v, rfl⟩, hT, hR, hD⟩
    have he := run_endLoop (P := P) hR (by rw [hst]; simp)
    rw [hpe] at he
    exact ⟨none, _, he, hdo _ W2 hT ⟨_, hR⟩ hD⟩

/-- One round of it. -/
theorem yield_round {l : Nat} {r : Loop} {args : Array Value} {W : World} {R : World → Prop} (hl : W.heap[l]? = some (.loop r)) (hs : r.state = .ready) (hp : r.pending = none) (hfn : F.fn r.fn) (hps : args.size = r.params.size)
    (h : r.assign.wpIn (F.inRound l) n P (Exit.then (fun a₁ W1 => W1.heap[l]? = some (.loop r) ∧
        r.body.wpIn (F.inRound l) n P (fun e _ W3 => e = .normal ∧ (∃ r' : Loop, r' = { r with state := .busy } ∧ W3.heap[l]? = some (.loop r')) ∧ R (W3.putObj l (.loop r))) a₁ (W1.putObj l (.loop { r with state := .busy }))) (fun _ _ _ => False))
      { tmps := (r.params.zip args).foldl (fun t (p, v) => t.setIfInBounds p v) r.tmps, defers := [] } W) :
    YieldAt F n P l args W fun e W' => e = .returned (.bool true) ∧ R W' := by
  refine ⟨r.fn, _, r.assign, r.body, run_yield hl hps, roundIn_of_wpIn hfn (wpIn_mono h ?_)⟩
  rintro e a1 W1 he
  cases e with
  | normal =>
    obtain ⟨h1, hb⟩ := he
    refine ⟨_, run_beginRound h1 hs, wpIn_mono hb ?_⟩
    rintro e a3 W3 ⟨rfl, ⟨r', er, h3⟩, hR⟩
    have hr := run_endRound (P := P) none h3
    have e2 : ({ r' with state := if (none : Option Code).isNone then LoopState.ready else LoopState.done, pending := none } : Loop) = r := by
      subst er
      cases r
      simp_all
    rw [e2] at hr
    exact ⟨_, _, hr, rfl, hR⟩
  | ret => exact he.elim
  | exit id => exact he.elim
  | goto t => exact he.elim
  | panic ch => exact he.elim
  | outgrown => exact he.elim
end Go.Proofs.YtdphijhebppeeaaDoor.G
namespace Go.Proofs.YtdphijhebppeeaaDoor.G
open Go.RowKit Go.Maps Go.MapKept Go.ChangeMaps Go.ChangeShapes Go.Proofs.YtdphijhebppeeaaDoorW.PrintWords Go.Proofs.YtdphijhebppeeaaDoorW.PrintLast Go.Proofs.YtdphijhebppeeaaDoorW.PrintMore
/-- What a slice owns hangs on its own block alone. -/
theorem ints_pt {w w' : World} {base : Nat} {v : Value} {zs : List Int} (h : w.ownsInts base 3 .i64 v zs) (hp : ∀ g, v.ownBlock = some g → w'.heap[g]? = w.heap[g]?) : w'.ownsInts base 3 .i64 v zs := by
  refine ⟨⟨h.1.1, ?_⟩, h.2⟩
  rcases h.1.2 with h0 | ⟨g, cap, cur, rfl, h1, h2, h3⟩
  · exact .inl h0
  · exact .inr ⟨g, cap, cur, rfl, h1, (hp g rfl).trans h2, h3⟩
theorem ints_shape {w : World} {base : Nat} {v : Value} {zs : List Int} (h : w.ownsInts base 3 .i64 v zs) : (v = .slice none 0 0 ∧ zs = []) ∨ ∃ g cap, v = .slice (some ⟨g, 0, none⟩) zs.length cap ∧ zs.length ≤ cap ∧ ∀ p, p < zs.length → w.cell? ⟨g, p, none⟩ = some (.int .i64 (zs.getD p 0)) := by
  have hr := h.1
  rcases id hr.2 with ⟨hv, h0⟩ | ⟨gd, cap, cur, rfl, _, _, hn, _⟩
  · exact .inl ⟨hv, List.length_eq_zero_iff.1 h0⟩
  · refine .inr ⟨gd, cap, rfl, hn, fun p hp => ?_⟩
    rw [hr.cellAt p (by omega)]
    simp [List.getElem?_eq_getElem hp]
theorem ints_shape2 {w : World} {base : Nat} {v : Value} {zs : List Int} (h : w.ownsInts base 3 .i64 v zs) : ∃ A cap, v = .slice A zs.length cap ∧ zs.length ≤ cap ∧ (0 < zs.length → ∃ g, A = some ⟨g, 0, none⟩) := by
  rcases ints_shape h with ⟨rfl, rfl⟩ | ⟨g, cap, rfl, hc, _⟩
  · exact ⟨none, 0, rfl, Nat.le_refl _, fun h => absurd h (by simp)⟩
  · exact ⟨_, cap, rfl, hc, fun _ => ⟨g, rfl⟩⟩
theorem ints_cell {w : World} {base g n cap : Nat} {zs : List Int} (h : w.ownsInts base 3 .i64 (.slice (some ⟨g, 0, none⟩) n cap) zs) (p : Nat) (hp : p < zs.length) : w.cell? ⟨g, p, none⟩ = some (.int .i64 (zs.getD p 0)) := by
  rcases ints_shape h with ⟨h1, rfl⟩ | ⟨g', cap', h1, _, h2⟩
  · simp at hp
  · simp only [Value.slice.injEq, Option.some.injEq, Addr.mk.injEq, and_true] at h1
    obtain ⟨rfl, _, _⟩ := h1
    exact h2 p hp
theorem rev_take (zs : List Int) (k : Nat) (hk : k < zs.length) : zs.reverse.take (k + 1) = zs.reverse.take k ++ [zs.getD (zs.length - 1 - k) 0] := by
  rw [List.take_add_one, List.getElem?_reverse hk, List.getElem?_eq_getElem (by omega)]
  simp [List.getElem?_eq_getElem (show zs.length - 1 - k < zs.length by omega)]
set_option maxRecDepth 100000 in
set_option maxHeartbeats 4000000 in
theorem back_in (m : Nat) (hm : 3 ≤ m) (l Bx base : Nat) (v : Value) (zs : List Int) (hz : zs.length ≤ 1000000) (J : List Int → World → Prop)
    (hJ : ∀ pre W, J pre W → W.ownsInts base 3 .i64 v zs ∧ W.heap[Bx]? = some (.cells #[v] 36 (0, 0)))
    (hY : ∀ k W, k < zs.length → J (zs.reverse.take k) W → YieldAt Fence.wide (m - 1) Tryd.prog l #[.int .i64 ((zs.length - 1 - k : Nat) : Int), .int .i64 (zs.getD (zs.length - 1 - k) 0)] W fun e W' => e = .returned (.bool true) ∧ J (zs.reverse.take (k + 1)) W') (W : World) (h0 : J [] W) :
    CallsIn Fence.wide m Tryd.prog 89 #[.func (.yield l) #[] #[], .pointer (some ⟨Bx, 0, none⟩)] W fun e W' => (∃ v, e = .returned v) ∧ J zs.reverse W' := by
  refine callsIn_of_wp Tryd.func89 rfl trivial ?_ rfl
  simp only [Tryd.ntmps89, List.size_toArray, List.length_cons, List.length_nil, Nat.reduceAdd, Nat.reduceSub, Array.replicate_succ, Array.replicate_zero, List.push_toArray, List.append_toArray, List.nil_append, List.cons_append]
  obtain ⟨A, cap, rfl, hcap, hA⟩ := ints_shape2 (hJ _ _ h0).1
  have cp := cell_at (hJ _ _ h0).2 0 rfl
  gi_wp2
  gi_loopw [3] (fun i wr => ∃ k : Nat, k ≤ zs.length ∧ i = .int .i64 ((zs.length : Int) - 1 - k) ∧ Aside0 (J (zs.reverse.take k) wr)) (fun i _ => (intZ i + 1).toNat)
  case atStart => exact ⟨0, Nat.zero_le _, by simp, ⟨h0⟩⟩
  case round =>
    clear cp h0
    obtain ⟨k, hk, rfl, hJk⟩ := hrel
    by_cases hlt : k < zs.length
    · obtain ⟨g, rfl⟩ := hA (by omega)
      have hge : (zs.length : Int) - 1 - k ≥ 0 := by omega
      have ep : (zs.length : Int) - 1 - k = ((zs.length - 1 - k : Nat) : Int) := by omega
      have hlt2 : (zs.length : Int) - 1 - k < zs.length := by omega
      have cp := cell_at (hJ _ _ hJk.out).2 0 rfl
      have cx := ints_cell (hJ _ _ hJk.out).1 (zs.length - 1 - k) (by omega)
      obtain ⟨fn, tmps, assign, body, hy, hR⟩ := hY k wr hlt hJk.out
      obtain ⟨x, hx⟩ : ∃ x, zs.getD (zs.length - 1 - k) 0 = x := ⟨_, rfl⟩
      rw [hx] at cx hy
      clear hx
      gi_wp2
      refine ⟨fun _ => by omega, hR.mono ?_⟩
      rintro ev W7 ⟨rfl, hJ7⟩
      have HJ7 := Aside0.mk hJ7
      clear hJ7 cp cx hy
      gi_wp2
      go_roundw
      case rel => exact ⟨k + 1, by omega, by congr 1; omega, HJ7⟩
      case measure => simp [intZ]; omega
    · have ek : k = zs.length := by omega
      subst ek
      have hge : ¬ (zs.length : Int) - 1 - zs.length ≥ 0 := by omega
      gi_wp2
      go_end0
      rw [show zs.reverse.take zs.length = zs.reverse by rw [← List.length_reverse, List.take_length]] at hJk
      exact ⟨⟨_, rfl⟩, hJk.out⟩
end Go.Proofs.YtdphijhebppeeaaDoor.G
/- Chapter 5: the iterator over what is below a node: its list of what is to do. Written by tmpl.py out of F17.tl. -/
namespace Go.Proofs.YtdphijhebppeeaaDoor.G
open Go.RowKit Go.Shelf Go.Maps Go.MapKept Go.ChangeMaps Go.ChangeShapes Go.Proofs.YtdphijhebppeeaaDoorW.PrintWords Go.Proofs.YtdphijhebppeeaaDoorW.PrintLast Go.Proofs.YtdphijhebppeeaaDoorW.PrintMore
attribute [local irreducible] cN

/-- What is below a node, itself ahead. -/
def belowF (t : List Node) : Nat → Int → List Int
  | 0, n => [n]
  | f + 1, n => n :: (kidsL t t.length n).flatMap (belowF t f)
def belowL (t : List Node) (n : Int) : List Int := belowF t t.length n
/-- Each node but the root hangs on one ahead of it. -/
def OKT (t : List Node) : Prop := ∀ i, 0 < i → i < t.length → 0 ≤ (t.getD i zN).f0 ∧ (t.getD i zN).f0 < i
theorem kidsL_mem {t : List Node} {i : Nat} {j x : Int} (h : x ∈ kidsL t i j) : ∃ m : Nat, x = m ∧ 0 < m ∧ m < i ∧ (t.getD m zN).f0 = j := by
  unfold kidsL at h
  obtain ⟨m, hm, rfl⟩ := List.mem_map.1 h
  obtain ⟨h1, h2⟩ := List.mem_filter.1 hm
  simp only [Bool.and_eq_true, decide_eq_true_eq] at h2
  exact ⟨m, rfl, h2.1, List.mem_range.1 h1, h2.2⟩
theorem flat_congr {l : List Int} {f g : Int → List Int} (h : ∀ x ∈ l, f x = g x) : l.flatMap f = l.flatMap g := by
  induction l with
  | nil => rfl
  | cons a l ih => rw [List.flatMap_cons, List.flatMap_cons, h a (by simp), ih fun x hx => h x (by simp [hx])]
theorem belowF_enough {t : List Node} (hT : OKT t) : ∀ (f f' : Nat) (n : Int), 0 ≤ n → (t.length : Int) ≤ n + f + 1 → (t.length : Int) ≤ n + f' + 1 → belowF t f n = belowF t f' n := by
  intro f
  induction f with
  | zero =>
    intro f' n h0 h1 h2
    cases f' with
    | zero => rfl
    | succ f' =>
      have : kidsL t t.length n = [] := by
        apply List.eq_nil_iff_forall_not_mem.2
        intro x hx
        obtain ⟨m, rfl, hm, hlt, hf⟩ := kidsL_mem hx
        have := hT m hm hlt
        omega
      rw [belowF, belowF, this]; rfl
  | succ f ih =>
    intro f' n h0 h1 h2
    cases f' with
    | zero =>
      have : kidsL t t.length n = [] := by
        apply List.eq_nil_iff_forall_not_mem.2
        intro x hx
        obtain ⟨m, rfl, hm, hlt, hf⟩ := kidsL_mem hx
        have := hT m hm hlt
        omega
      rw [belowF, belowF, this]; rfl
    | succ f' =>
      rw [belowF, belowF]
      congr 1
      refine flat_congr fun x hx => ?_
      obtain ⟨m, rfl, hm, hlt, hf⟩ := kidsL_mem hx
      have := hT m hm hlt
      exact ih f' m (by omega) (by omega) (by omega)
theorem belowL_eq {t : List Node} (hT : OKT t) {n : Int} (h0 : 0 ≤ n) (hn : n < t.length) : belowL t n = n :: (kidsL t t.length n).flatMap (belowL t) := by
  unfold belowL
  cases hl : t.length with
  | zero => omega
  | succ f =>
    rw [← hl]
    conv => lhs; rw [hl, belowF]
    congr 1
    refine flat_congr fun x hx => ?_
    obtain ⟨m, rfl, hm, hlt, hf⟩ := kidsL_mem hx
    exact belowF_enough hT _ _ m (by omega) (by omega) (by omega)

/-- The variable Bt holds a slice of todo. -/
def TodoAt (w : World) (base Bt : Nat) (todo : List Int) (b : Option Nat) : Prop := ∃ vt, w.heap[Bt]? = some (.cells #[vt] 36 (0, 0)) ∧ w.ownsInts base 3 .i64 vt todo ∧ ∀ x, vt.ownBlock = some x → b ≠ some x
theorem TodoAt.unique {w : World} {base Bt : Nat} {z z' : List Int} {b b' : Option Nat} (h : TodoAt w base Bt z b) (h' : TodoAt w base Bt z' b') : z = z' := by
  obtain ⟨v, h1, h2, _⟩ := h
  obtain ⟨v', h1', h2', _⟩ := h'
  rw [h1] at h1'
  simp only [Option.some.injEq, Obj.cells.injEq, and_true] at h1'
  have : v = v' := by simpa using h1'
  subst this
  exact h2.unique h2'
open Classical in
noncomputable def todoOf (w : World) (base Bt : Nat) : List Int := if h : ∃ z b, TodoAt w base Bt z b then Classical.choose h else []
theorem todoOf_eq {w : World} {base Bt : Nat} {z : List Int} {b : Option Nat} (h : TodoAt w base Bt z b) : todoOf w base Bt = z := by
  have hex : ∃ z b, TodoAt w base Bt z b := ⟨z, b, h⟩
  unfold todoOf
  rw [dif_pos hex]
  obtain ⟨b', hb'⟩ := Classical.choose_spec hex
  exact hb'.unique h
theorem TodoAt.pt {w w' : World} {base Bt : Nat} {z : List Int} {b b' : Option Nat} (h : TodoAt w base Bt z b) (hb : b' = b ∨ ∃ g, b' = some g ∧ w.heap.size ≤ g) (hlim : base ≤ Bt) (hp : ∀ i, base ≤ i → i < w.heap.size → b ≠ some i → w'.heap[i]? = w.heap[i]?) (hbt : b ≠ some Bt) : TodoAt w' base Bt z b' := by
  obtain ⟨v, h1, h2, h3⟩ := h
  refine ⟨v, (hp Bt hlim (blk_lt h1) hbt).trans h1, ints_pt h2 (fun g hg => hp g (h2.1.lt g hg).1 (h2.1.lt g hg).2 (h3 g hg)), fun x hx => ?_⟩
  rcases hb with rfl | ⟨g, rfl, hle⟩
  · exact h3 x hx
  · have := (h2.1.lt x hx).2
    intro e
    have := Option.some.inj e
    omega
theorem ints_shrink {w : World} {base g n cap : Nat} {ts : List Int} {x : Int} (h : w.ownsInts base 3 .i64 (.slice (some ⟨g, 0, none⟩) n cap) (ts ++ [x])) : w.ownsInts base 3 .i64 (.slice (some ⟨g, 0, none⟩) ts.length cap) ts := by
  obtain ⟨⟨h1, h2⟩, hz⟩ := h
  refine ⟨⟨by simp, ?_⟩, fun z hm => hz z (by simp [hm])⟩
  rcases h2 with ⟨h3, _⟩ | ⟨g', cap', cur, h3, hb, hh, hn, hc, hs, ht⟩
  · cases h3
  · simp only [Value.slice.injEq, Option.some.injEq, Addr.mk.injEq, and_true] at h3
    obtain ⟨rfl, _, rfl⟩ := h3
    refine .inr ⟨g, cap, cur, rfl, hb, hh, by simp at hn; omega, hc, hs, ?_⟩
    have e := congrArg (List.take ts.length) ht
    rw [List.take_take] at e
    simpa using e
/-- The marks of ranges that have ended. -/
def Marks (w : World) (base : Nat) (xs : List Nat) : Prop := xs.Nodup ∧ ∀ x ∈ xs, base ≤ x ∧ w.heap[x]? = some (.deferred (some []))
def marks (xs : List Nat) : List Deferred := xs.map fun x => { target := .collected x, args := #[] }
theorem Marks.pt {w w' : World} {base : Nat} {xs : List Nat} (h : Marks w base xs) (hp : ∀ x o, base ≤ x → w.heap[x]? = some o → (∀ c t z, o ≠ .cells c t z) → w'.heap[x]? = some o) : Marks w' base xs :=
  ⟨h.1, fun x hx => ⟨(h.2 x hx).1, hp x _ (h.2 x hx).1 (h.2 x hx).2 (fun _ _ _ e => by cases e)⟩⟩
end Go.Proofs.YtdphijhebppeeaaDoor.G
/- Chapter 5: the iterator over what is below a node. Written by tmpl.py out of F18.tl. -/
namespace Go.Proofs.YtdphijhebppeeaaDoor.G
open Go.RowKit Go.Shelf Go.Maps Go.MapKept Go.ChangeMaps Go.ChangeShapes Go.Proofs.YtdphijhebppeeaaDoorW.PrintWords Go.Proofs.YtdphijhebppeeaaDoorW.PrintLast Go.Proofs.YtdphijhebppeeaaDoorW.PrintMore
attribute [local irreducible] cN

theorem backward_any (A : Option Addr) (n c : Nat) (w : World) : Calls Tryd.prog 87 #[.slice A n c] w fun e w' => e = .returned (.func (.func 89) #[] #[.pointer (some ⟨w.heap.size, 0, none⟩)]) ∧ w' = w.alloc (.cells #[.slice A n c] 36) := by
  go_enter Tryd.func87, Tryd.ntmps87
  go_wp2
  go_ret
  exact ⟨rfl, rfl⟩
theorem belowF_pos (t : List Node) (f : Nat) (n : Int) : 1 ≤ (belowF t f n).length := by
  cases f <;> simp [belowF]
theorem flat_len {f : Int → List Int} (hf : ∀ y, 1 ≤ (f y).length) (r : List Int) : r.length ≤ (r.flatMap f).length := by
  induction r with
  | nil => simp
  | cons a r ih => rw [List.flatMap_cons, List.length_append, List.length_cons]; have := hf a; omega
theorem ints_ne {w : World} {base Bt g : Nat} {v : Value} {zs : List Int} {cs : Array Value} (h : w.ownsInts base 3 .i64 v zs) (hb : w.heap[Bt]? = some (.cells cs 36 (0, 0))) (hg : v.ownBlock = some g) : g ≠ Bt := by
  rcases h.1.2 with ⟨rfl, _⟩ | ⟨g', cap, cur, rfl, _, hh, _⟩
  · cases hg
  · cases hg
    exact blk_ne hh hb (by decide)
theorem Marks.set {w : World} {base Bt : Nat} {xs : List Nat} {cs : Array Value} {z : TypeId} {fr : Nat × Nat} (h : Marks w base xs) (hb : w.heap[Bt]? = some (.cells cs z fr)) {w' : World} (hg : w.grownBy w' (some Bt)) : Marks w' base xs :=
  h.pt fun x o _ ho hn => (hg.block x (blk_lt ho) (fun e => by cases e; rw [hb] at ho; cases ho; exact hn _ _ _ rfl)).trans ho
theorem TodoAt.grown {w w' : World} {base Bt : Nat} {z : List Int} {b row : Option Nat} (h : TodoAt w base Bt z b) (hg : w.grownBy w' row) (hr : ∀ x, row = some x → x ≠ Bt ∧ ∀ vt, w.heap[Bt]? = some (.cells #[vt] 36 (0, 0)) → vt.ownBlock ≠ some x) : TodoAt w' base Bt z b := by
  obtain ⟨v, h1, h2, h3⟩ := h
  refine ⟨v, (hg.block Bt (blk_lt h1) (fun e => (hr _ e.symm).1 rfl)).trans h1, h2.kept hg ?_, h3⟩
  cases hv : v.ownBlock with
  | none => exact .inl rfl
  | some x => exact .inr (fun e => (hr x e.symm).2 v h1 hv)
theorem TodoAt.obj {w : World} {base Bt l : Nat} {z : List Int} {b : Option Nat} {o o' : Obj} (h : TodoAt w base Bt z b) (hl : w.heap[l]? = some o) (ho : ∀ cs t z, o ≠ .cells cs t z) : TodoAt (w.putObj l o') base Bt z b := by
  refine h.grown (grownBy_putObj' w l o') fun x e => ?_
  cases e
  refine ⟨fun e => ?_, fun vt hvt e => ?_⟩
  · subst e
    obtain ⟨vt, hvt, _⟩ := h
    rw [hl] at hvt
    exact ho _ _ _ (Option.some.inj hvt)
  · obtain ⟨vt', hvt', hvi, _⟩ := h
    rw [hvt] at hvt'
    have : vt = vt' := by simpa using hvt'
    subst this
    rcases hvi.1.2 with ⟨rfl, _⟩ | ⟨g', cap, cur, rfl, _, hh, _⟩
    · cases e
    · cases e
      rw [hl] at hh
      exact ho _ _ _ (Option.some.inj hh)
theorem Marks.loop {w : World} {base l : Nat} {xs : List Nat} {r : Loop} {o' : Obj} (h : Marks w base xs) (hl : w.heap[l]? = some (.loop r)) : Marks (w.putObj l o') base xs :=
  ⟨h.1, fun z hz => ⟨(h.2 z hz).1, (World.putObj_heap_other (by intro e; subst e; have := (h.2 _ hz).2; rw [hl] at this; cases this)).trans (h.2 z hz).2⟩⟩
theorem lookIn_at {F : Fence} {nF : Nat} {P : Program} {w : World} {ops : Array Oper} {rest : List Oper} {o : Oper} {a : Act} {Q : Exit → Act → World → Prop} (hg : o.guard = none) (t : TypeId) (m x : Operand) (hop : o.op = Op.lookup t m x false) {M K v : Value} (hm : a.eval m = M) (hx : a.eval x = K)
    (hr : (Instr.lookup t M K false).run P w = .ok v w) (h : wpListIn F nF P ops Q rest (a.put o.dst v) w) : wpListIn F nF P ops Q (o :: rest) a w := by
  refine wpListIn_plain hg fun K' hK' => ?_
  unfold Oper.wpIn
  refine ⟨by simp [Oper.about, hop], ?_⟩
  rw [Oper.semAt_plain F _ _ (by rw [hop]; intro c hc'; cases hc')]
  simp [execOp, hop, hm, hx, hr, Result.andThen]
  exact hK' _ _ h
theorem leaves_marks {F : Fence} {n : Nat} {P : Program} {fn : Func} {tmps : Array Value} {R : Ending → World → Prop} {base : Nat} (K : World → Prop) (hR : ∀ w, K w → LeavesInM F n P fn tmps R [] .returning w) (hK : ∀ w x, K w → base ≤ x → w.heap[x]? = some (.deferred (some [])) → K (w.putObj x (.deferred none))) :
    ∀ (xs : List Nat) (w : World), Marks w base xs → K w → LeavesInM F n P fn tmps R (marks xs) .returning w
  | [], w, _, hk => hR w hk
  | x :: xs, w, hm, hk => by
    obtain ⟨hnd, hall⟩ := hm
    obtain ⟨hx, hh⟩ := hall x (by simp)
    refine ⟨by simp, .inl ⟨x, _, rfl, run_takeDeferred hh, leaves_marks K hR hK xs _ ⟨(List.nodup_cons.1 hnd).2, fun y hy => ⟨(hall y (by simp [hy])).1, ?_⟩⟩ (hK w x hk hx hh)⟩⟩
    exact (World.putObj_heap_other (by intro e; subst e; exact (List.nodup_cons.1 hnd).1 hy)).trans (hall y (by simp [hy])).2
theorem frame41 (T : Array Value) (h : T.size = 41) : ∃ us : Nat → Value, T = #[us 0, us 1, us 2, us 3, us 4, us 5, us 6, us 7, us 8, us 9, us 10, us 11, us 12, us 13, us 14, us 15, us 16, us 17, us 18, us 19, us 20, us 21, us 22, us 23, us 24, us 25, us 26, us 27, us 28, us 29, us 30, us 31, us 32, us 33, us 34, us 35, us 36, us 37, us 38, us 39, us 40] := by
  refine ⟨fun j => T.getD j undef, ?_⟩
  have e : T = ((List.range 41).map fun j => T.getD j undef).toArray := by
    refine Array.ext (by simp [h]) fun i h1 h2 => ?_
    simp [h1]
  exact e
attribute [local go_sem] Oper.semAt_some
set_option maxRecDepth 100000 in
set_option maxHeartbeats 4000000 in
theorem below_in (m : Nat) (hm : 8 ≤ m) (l Bn Bw : Nat) (n : Int) (t : List Node) (hT : OKT t) (hlen : t.length ≤ 200) (h0 : 0 ≤ n) (hn : n < t.length) (hbl : (belowL t n).length ≤ 1000)
    (W0 : World) (base g mm : Nat) (A : Option Addr) (c : Nat) (dv : Value) (hW : Walk W0 base g mm t A c t.length t.length dv) (hBn : W0.heap[Bn]? = some (.cells #[.int .i64 n] 3 (0, 0))) (hBw : W0.heap[Bw]? = some (.cells #[.pointer (some ⟨g, 0, none⟩)] 66 (0, 0)))
    (J : List Int → Option Nat → World → Prop) (W : World) (hJ1 : ∀ pre b W, J pre b W → Below W0.heap.size W0 W) (hJ2 : ∀ pre b W1 W2 row, J pre b W1 → W1.grownBy W2 row → (∀ x, row = some x → W.heap.size ≤ x ∧ b ≠ some x) → J pre b W2)
    (hJ3 : ∀ pre b W x, J pre b W → b = some x → ∃ cs z, W.heap[x]? = some (.cells cs 3 z))
    (hY : ∀ pre b (x : Int) W1, J pre b W1 → pre.length < 1000 → 0 ≤ x → x < t.length → YieldAt Fence.wide (m - 1) Tryd.prog l #[.int .i64 x] W1 fun e W2 => e = .returned (.bool true) ∧ ∃ b', J (pre ++ [x]) b' W2 ∧ W1.heap.size ≤ W2.heap.size ∧ (b' = b ∨ ∃ g, b' = some g ∧ W1.heap.size ≤ g) ∧ ∀ i, W.heap.size ≤ i → i < W1.heap.size → b ≠ some i → W2.heap[i]? = W1.heap[i]?)
    (b0 : Option Nat) (hJ0 : J [] b0 W) :
    CallsIn Fence.wide m Tryd.prog 86 #[.func (.yield l) #[] #[], .pointer (some ⟨Bn, 0, none⟩), .pointer (some ⟨Bw, 0, none⟩)] W fun e W' => (∃ v, e = .returned v) ∧ ∃ b, J (belowL t n) b W' := by
  obtain ⟨i0, hi0, hz0, hz1, hz2⟩ := info_parts info3
  have hB0 := hJ1 _ _ _ hJ0
  have cn := cell_at (blk_below hBn hB0) 0 rfl
  have HW := Aside0.mk hW
  have HBn := Aside0.mk hBn
  have HBw := Aside0.mk hBw
  have HJ0 := Aside0.mk hJ0
  clear hW hBn hBw hJ0
  refine callsIn_of_wp_marks Tryd.func86 rfl trivial ?_ rfl
  simp only [Tryd.ntmps86, List.size_toArray, List.length_cons, List.length_nil, Nat.reduceAdd, Nat.reduceSub, Array.replicate_succ, Array.replicate_zero, List.push_toArray, List.append_toArray, List.nil_append, List.cons_append]
  gi_wp2
  refine wpIn_scope_wide ?_
  gi_wp2
  refine wpIn_label ?_
  gi_wp2
  have hB1 : Below W.heap.size W ((W.alloc (.cells #[.int .i64 n] 3)).alloc (.cells #[.slice (some ⟨W.heap.size, 0, none⟩) 1 1] 36)) := below_alloc (below_alloc (Below.refl _ _) _) _
  have hT0 : TodoAt ((W.alloc (.cells #[.int .i64 n] 3)).alloc (.cells #[.slice (some ⟨W.heap.size, 0, none⟩) 1 1] 36)) W.heap.size (W.heap.size + 1) [n] b0 := by
    refine ⟨_, by have := blk_new (W.alloc (.cells #[.int .i64 n] 3)) (.cells #[.slice (some ⟨W.heap.size, 0, none⟩) 1 1] 36); simpa using this, ⟨⟨rfl, .inr ⟨W.heap.size, 1, #[.int .i64 n], rfl, Nat.le_refl _, blk_alloc (blk_new W _) _, Nat.le_refl _, by decide, rfl, rfl⟩⟩, fun z hz => ?_⟩, fun x hx e => ?_⟩
    · rw [List.mem_singleton] at hz; subst hz; exact wf64 (by omega) (by omega)
    · obtain ⟨cs, z, hc⟩ := hJ3 _ _ _ _ HJ0.out e
      have := blk_lt hc
      cases hx
      exact absurd this (by simp)
  have hJ1' := Aside0.mk (hJ2 _ _ _ _ none HJ0.out (grown_below hB1) (fun x e => by cases e))
  clear cn HJ0 hB0 hB1
  generalize (W.alloc (.cells #[.int .i64 n] 3)).alloc (.cells #[.slice (some ⟨W.heap.size, 0, none⟩) 1 1] 36) = W1 at *
  refine wpIn_loop (fun a wr => ∃ (pre todo : List Int) (b : Option Nat) (xs : List Nat), a.defers = marks xs ∧ a.tmps.size = 41 ∧ a.tmps.getD 0 undef = .func (.yield l) #[] #[] ∧ a.tmps.getD 2 undef = .pointer (some ⟨Bw, 0, none⟩) ∧ a.tmps.getD 4 undef = .pointer (some ⟨W.heap.size + 1, 0, none⟩) ∧
      Aside0 (J pre b wr) ∧ Aside0 (TodoAt wr W.heap.size (W.heap.size + 1) todo b) ∧ Aside0 (Marks wr W.heap.size xs) ∧ Aside0 (∀ y ∈ todo, 0 ≤ y ∧ y < t.length) ∧ Aside0 (pre ++ todo.reverse.flatMap (belowL t) = belowL t n)) (fun _ wr => ((todoOf wr W.heap.size (W.heap.size + 1)).reverse.flatMap (belowL t)).length) ?_ ?_
  · exact ⟨[], [n], b0, [], rfl, rfl, rfl, rfl, rfl, hJ1', ⟨hT0⟩, ⟨List.nodup_nil, fun x hx => by cases hx⟩, ⟨fun y hy => by rw [List.mem_singleton] at hy; subst hy; exact ⟨h0, hn⟩⟩, ⟨by simp⟩⟩
  · clear hT0 hJ1'
    rintro ⟨T, df⟩ wr ⟨pre, todo, b, xs, hdf, hsz, s0, s2, s4, HJ, HT, HM, HR, HE⟩
    dsimp only at hdf hsz s0 s2 s4
    obtain ⟨us, hu⟩ := frame41 T hsz
    have e0 : us 0 = .func (.yield l) #[] #[] := by rw [hu] at s0; exact s0
    have e2 : us 2 = .pointer (some ⟨Bw, 0, none⟩) := by rw [hu] at s2; exact s2
    have e4 : us 4 = .pointer (some ⟨W.heap.size + 1, 0, none⟩) := by rw [hu] at s4; exact s4
    rw [e0, e2, e4] at hu
    clear e0 e2 e4 s0 s2 s4 hsz
    subst hu
    subst hdf
    have hbt : b ≠ some (W.heap.size + 1) := by
      intro e
      obtain ⟨cs, z, hc⟩ := hJ3 _ _ _ _ HJ.out e
      obtain ⟨vt, hv, _⟩ := HT.out
      rw [hv] at hc
      simp at hc
    rw [todoOf_eq HT.out]
    obtain ⟨vt, hv, hvi, hvb⟩ := HT.out
    obtain ⟨At, ct, rfl, hct, hAt⟩ := ints_shape2 hvi
    have c4 := cell_at hv 0 rfl
    cases hrev : todo.reverse with
    | nil =>
      have htd : todo = [] := by simpa using hrev
      subst htd
      gi_wp2
      rw [Exit.noGoto_normal]
      refine leaves_marks (fun w => ∃ b, J (belowL t n) b w) (fun w hw => ⟨_, results_none rfl _ _ _, ⟨_, rfl⟩, hw⟩) (fun w y hw hy hh => ?_) xs wr HM.out ⟨b, by have := HE.out; simp at this; rw [← this]; exact HJ.out⟩
      obtain ⟨b, hj⟩ := hw
      exact ⟨b, hJ2 _ _ _ _ (some y) hj (grownBy_putObj' w y _) (fun z e => by
        cases e
        exact ⟨hy, fun e => by obtain ⟨cs, z, hc⟩ := hJ3 _ _ _ _ hj e; rw [hh] at hc; cases hc⟩)⟩
    | cons x r =>
      have htd : todo = r.reverse ++ [x] := by have := congrArg List.reverse hrev; simpa using this
      have hll : todo.length = r.length + 1 := by rw [htd]; simp
      obtain ⟨gt, rfl⟩ := hAt (by omega)
      have cx := ints_cell hvi r.length (by omega)
      rw [show todo.getD r.length 0 = x by rw [htd, List.getD_eq_getElem?_getD, List.getElem?_append_right (by simp)]; simp] at cx
      rw [hll] at hv hvi c4 hct hvb
      have y4 := blk_frozen hv 0
      have hxr := HR.out x (by rw [htd]; simp)
      have hr0 : r.length ≤ 1000000 := by
        have := congrArg List.length HE.out
        have e2 := flat_len (f := belowL t) (fun y => belowF_pos t _ y) r
        rw [hrev, List.flatMap_cons, List.length_append, List.length_append] at this
        omega
      have HE2 := HE.out
      rw [hrev, List.flatMap_cons, belowL_eq hT hxr.1 hxr.2] at HE2
      have hpl : pre.length < 1000 := by have := congrArg List.length HE2; simp at this; omega
      have HV := Aside0.mk hv
      have HVI := Aside0.mk hvi
      have HVB := Aside0.mk hvb
      have HCT := Aside0.mk hct
      have hct1 : (r.length : Int) ≤ ct := by omega
      clear hv hvi hvb hct
      gi_upto_region 4 with fail
      have hv2 : TodoAt (wr.setCell ⟨W.heap.size + 1, 0, none⟩ (.slice (some ⟨gt, 0, none⟩) r.length ct)) W.heap.size (W.heap.size + 1) r.reverse b := by
        refine ⟨_, blk_put HV.out 0 _ rfl, ints_pt (w := wr) ?_ (fun g hg => ?_), HVB.out⟩
        · have := HVI.out
          rw [htd] at this
          simpa using ints_shrink this
        · cases hg
          exact Below.heap_setCell wr _ _ _ (ints_ne HVI.out HV.out rfl)
      have hj2 := hJ2 _ _ _ _ _ HJ.out (grown_setCell wr ⟨W.heap.size + 1, 0, none⟩ (.slice (some ⟨gt, 0, none⟩) r.length ct)) (fun y e => by cases e; exact ⟨by simp, hbt⟩)
      have hm2 := HM.out.set HV.out (grown_setCell wr ⟨W.heap.size + 1, 0, none⟩ (.slice (some ⟨gt, 0, none⟩) r.length ct))
      clear c4 cx y4 HV HVI HVB HCT HM HJ hct1
      obtain ⟨W2, hW2⟩ : ∃ W2, wr.setCell ⟨W.heap.size + 1, 0, none⟩ (.slice (some ⟨gt, 0, none⟩) r.length ct) = W2 := ⟨_, rfl⟩
      rw [hW2] at hv2 hj2 hm2 ⊢
      clear hW2
      obtain ⟨fn, tmps, assign, body, hy, hR⟩ := hY pre b x W2 hj2 hpl hxr.1 hxr.2
      have HV2 := Aside0.mk hv2
      have HJ2 := Aside0.mk hj2
      have HM2 := Aside0.mk hm2
      clear hv2 hj2 hm2
      gi_wp2
      refine ⟨fun _ => by omega, hR.mono ?_⟩
      rintro ev W3 ⟨rfl, b', hj3, hs3, hb', hkeep⟩
      have hbt3 : b' ≠ some (W.heap.size + 1) := by
        rcases hb' with rfl | ⟨q, rfl, hq⟩
        · exact hbt
        · obtain ⟨vt, h1, _⟩ := HV2.out
          have := blk_lt h1
          intro e
          have := Option.some.inj e
          omega
      have hv3 := HV2.out.pt hb' (by omega) hkeep hbt
      have hm3 : Marks W3 W.heap.size xs := HM2.out.pt fun y o hy ho hn => (hkeep y hy (blk_lt ho) (fun e => by obtain ⟨cs, z, hc⟩ := hJ3 _ _ _ _ HJ2.out e; rw [hc] at ho; cases ho; exact hn _ _ _ rfl)).trans ho
      have hB3 := hJ1 _ _ _ hj3
      obtain ⟨v, nn, DD, _, hlook, hoi, _⟩ := HW.out.look (show t.length < maxLen by unfold maxLen; omega) (j := x) (wf64 (by omega) (by omega))
      obtain ⟨Ak, ck, rfl, _, _⟩ := ints_shape2 hoi
      obtain ⟨nD, DD', _, hDD', _⟩ := HW.out.grp
      have hlk := hlook W3 (hB3.block mm (groups_mb hDD').2)
      have hkl := kidsL_len t t.length x
      obtain ⟨kids, hkids⟩ : ∃ kids, kidsL t t.length x = kids := ⟨_, rfl⟩
      rw [hkids] at hoi hlk hkl HE2
      have cw := cell_at (blk_below HBw.out hB3) 0 rfl
      have cm := cell_at (HW.out.below hB3).cells 2 rfl
      have HV3 := Aside0.mk hv3
      have HJ3 := Aside0.mk hj3
      have HM3 := Aside0.mk hm3
      have HLK := Aside0.mk hlk
      have HOI := Aside0.mk hoi
      clear hlook hlk hoi hv3 hj3 hm3 hy hR HV2 HJ2 HM2 hkeep
      gi_wp2_with (first | (refine lookIn_at rfl 71 _ _ rfl (M := .map (some mm)) (K := .int .i64 x) rfl rfl HLK.out ?_))
      refine ⟨trivial, fun _ => by omega, ?_⟩
      refine (callsIn_wide.2 (backward_any Ak _ ck _)).mono ?_
      rintro e W4 ⟨rfl, rfl⟩
      gi_wp2
      have hj4 := hJ2 _ _ _ _ none HJ3.out (World.grownBy_alloc W3 (.cells #[.slice Ak kids.length ck] 36) none) (fun x e => by cases e)
      have hv4 := HV3.out.grown (World.grownBy_alloc W3 (.cells #[.slice Ak kids.length ck] 36) none) (fun x e => by cases e)
      have hm4 : Marks (W3.alloc (.cells #[.slice Ak kids.length ck] 36)) W.heap.size xs := HM3.out.pt fun y o _ ho _ => blk_alloc ho _
      have hx4 := blk_new W3 (.cells #[.slice Ak kids.length ck] 36)
      have hs4 : (W3.alloc (.cells #[.slice Ak kids.length ck] 36)).heap.size = W3.heap.size + 1 := by simp
      have hlim3 : W.heap.size + 1 < W3.heap.size := by obtain ⟨vt, h1, _⟩ := HV3.out; exact blk_lt h1
      obtain ⟨W4, hW4⟩ : ∃ W4, W3.alloc (.cells #[.slice Ak kids.length ck] 36) = W4 := ⟨_, rfl⟩
      rw [hW4] at hj4 hv4 hm4 hx4 hs4 ⊢
      clear hW4 HV3 HJ3 HM3 cw cm hB3
      have HJ4 := Aside0.mk hj4
      have HV4 := Aside0.mk hv4
      have HM4 := Aside0.mk hm4
      have HX4 := Aside0.mk hx4
      have HS4 := Aside0.mk hs4
      clear hs4 hj4 hv4 hm4 hx4
      have hw0 := groups_mb hDD'
      refine range_whole (F := Fence.wide) rfl (by omega) (gf := 89) (lb := #[.pointer (some ⟨W3.heap.size, 0, none⟩)]) rfl trivial (enters_of Tryd.func89 (by kernel_rfl) rfl)
        (fun W5 => J (pre ++ [x]) b' W5 ∧ TodoAt W5 W.heap.size (W.heap.size + 1) (r.reverse ++ kids.reverse) b' ∧ Marks W5 W.heap.size xs) ?hcall ?hdone
      case hcall =>
        intro fn hfn
        generalize hrec : ({ state := .ready, pending := none, fn, tmps := _, params := _, assign := _, body := _, defers := W4.heap.size } : Loop) = rc
        have hst : rc.state = .ready := by rw [← hrec]
        have hpe : rc.pending = none := by rw [← hrec]
        have hrf : Fence.wide.fn rc.fn := trivial
        have ready0 : ReadyAt rc W4.heap.size ((W4.alloc (.deferred (some []))).alloc (.loop rc)) := by
          refine ⟨?_, blk_alloc (blk_new W4 _) _⟩
          have := blk_new (W4.alloc (.deferred (some []))) (.loop rc)
          simpa using this
        have hg45 : W4.grownBy ((W4.alloc (.deferred (some []))).alloc (.loop rc)) none := (World.grownBy_alloc W4 _ none).trans (World.grownBy_alloc _ _ none)
        refine (back_in (m - 1) (by omega) (W4.heap.size + 1) W3.heap.size base (.slice Ak kids.length ck) kids (by omega)
          (fun pre2 W5 => J (pre ++ [x]) b' W5 ∧ TodoAt W5 W.heap.size (W.heap.size + 1) (r.reverse ++ pre2) b' ∧ Marks W5 W.heap.size xs ∧ ReadyAt rc W4.heap.size W5 ∧ W5.heap[W3.heap.size]? = some (.cells #[.slice Ak kids.length ck] 36 (0, 0))) ?hJ ?hY _
          ⟨hJ2 _ _ _ _ none HJ4.out hg45 (fun x e => by cases e), by simpa using HV4.out.grown hg45 (fun x e => by cases e), HM4.out.pt (fun y o _ ho _ => blk_alloc (blk_alloc ho _) _), ready0, blk_alloc (blk_alloc HX4.out _) _⟩).mono ?_
        case hJ =>
          rintro pre2 W5 ⟨h1, _, _, _, h5⟩
          exact ⟨HOI.out.kept (grown_below (hJ1 _ _ _ h1)) (by cases (Value.slice Ak kids.length ck).ownBlock <;> simp), h5⟩
        case hY =>
          rintro k W5 hk ⟨h1, h2, h3, h4, h5⟩
          refine yield_round h4.1 hst hpe hrf (by rw [← hrec]; rfl) ?_
          have e1 := congrArg Loop.assign hrec
          have e2 := congrArg Loop.params hrec
          have e3 := congrArg Loop.body hrec
          have e4 := congrArg Loop.tmps hrec
          dsimp only at e1 e2 e3 e4
          clear hrec
          generalize hbz : ({ rc with state := LoopState.busy } : Loop) = rb
          rw [← e1, ← e2, ← e3, ← e4]
          clear e1 e2 e3 e4
          rw [rev_take kids k hk]
          obtain ⟨y, hy⟩ : ∃ y, kids.getD (kids.length - 1 - k) 0 = y := ⟨_, rfl⟩
          rw [hy]
          have hyk : y ∈ kids := by rw [← hy, List.getD_eq_getElem?_getD, List.getElem?_eq_getElem (by omega)]; exact List.getElem_mem _
          have hyb := kidsL_mem (hkids ▸ hyk)
          clear hy
          have H1 := Aside0.mk h1
          have H2 := Aside0.mk h2
          have H3 := Aside0.mk h3
          have H4 := Aside0.mk h4
          have H5 := Aside0.mk h5
          clear h1 h2 h3 h4 h5
          gi_wp2
          refine And.intro H4.out.1 ?_
          have hl2 : (W5.putObj (W4.heap.size + 1) (.loop rb)).heap[W4.heap.size + 1]? = some (.loop rb) := World.putObj_heap_same (blk_lt H4.out.1)
          have hgp := grownBy_putObj' W5 (W4.heap.size + 1) (.loop rb)
          have hnb : b' ≠ some (W4.heap.size + 1) := fun e => by obtain ⟨cs, z, hc⟩ := hJ3 _ _ _ _ H1.out e; rw [H4.out.1] at hc; cases hc
          have h1 := hJ2 _ _ _ _ _ H1.out hgp (fun z e => by cases e; exact ⟨by have := HS4.out; omega, hnb⟩)
          have h2 := H2.out.obj (o' := .loop rb) H4.out.1 (fun _ _ _ e => by cases e)
          have h3 := H3.out.loop (o' := .loop rb) H4.out.1
          have h4 : (W5.putObj (W4.heap.size + 1) (.loop rb)).heap[W4.heap.size]? = some (.deferred (some [])) := (World.putObj_heap_other (by omega)).trans H4.out.2
          have h5 : (W5.putObj (W4.heap.size + 1) (.loop rb)).heap[W3.heap.size]? = some (.cells #[.slice Ak kids.length ck] 36 (0, 0)) := (World.putObj_heap_other (by have := HS4.out; omega)).trans H5.out
          clear hgp H1 H2 H3 H4 H5
          obtain ⟨W6, hW6⟩ : ∃ W6, W5.putObj (W4.heap.size + 1) (.loop rb) = W6 := ⟨_, rfl⟩
          rw [hW6] at hl2 h1 h2 h3 h4 h5 ⊢
          clear hW6
          obtain ⟨zz, hzz⟩ : ∃ zz, r.reverse ++ kids.reverse.take k = zz := ⟨_, rfl⟩
          have hzl : zz.length ≤ 1000300 := by rw [← hzz]; simp; omega
          rw [hzz] at h2
          obtain ⟨vt, hv, hvi, hvb⟩ := h2
          obtain ⟨At, ct6, rfl, hct6, _⟩ := ints_shape2 hvi
          have c4 := cell_at hv 0 rfl
          have hlt6 := blk_lt hv
          have G1 := Aside0.mk hl2
          have G2 := Aside0.mk h1
          have G3 := Aside0.mk h3
          have G4 := Aside0.mk h4
          have G5 := Aside0.mk h5
          have HV6 := Aside0.mk hv
          have HVI6 := Aside0.mk hvi
          have HVB6 := Aside0.mk hvb
          clear hl2 h1 h3 h4 h5 hv hvi hvb
          gi_wp2_with (first | (refine wpListIn_append_own_at _ rfl _ _ 36 rfl W.heap.size 3 i0 (.int .i64 0) 1 8 Tryd.underlying36 hi0 hz0 hz1 hz2 rfl (by decide) (.slice At zz.length ct6) _ _ rfl (HVI6.out.1.alloc _) ⟨W6.heap.size, 0, none⟩ 1 1 [.int .i64 y] rfl rfl (cell_one_new _ _ _) (ints_oneCell .i64 [y]) (by unfold maxLen; omega) (by omega) (by simp; omega) ?_; intro v' W7 hown' hgrow _ hloc; obtain ⟨gv, cv, rfl⟩ := own_shape hown' (by omega); have hG7 := (World.grownBy_alloc W6 (.cells #[.int .i64 y] 3) (Value.slice At zz.length ct6).ownBlock).trans hgrow; have hC7 := (hG7.block (W.heap.size + 1) (blk_lt HV6.out) (fun e => ints_ne HVI6.out HV6.out e.symm rfl)).trans HV6.out; have z7 := cell_at hC7 0 rfl; have y7 := blk_frozen hC7 0))
          have hi7 : W7.ownsInts W.heap.size 3 .i64 (.slice (some ⟨gv, 0, none⟩) (zz.length + 1) cv) (zz ++ [y]) := HVI6.out.appended (by simpa using hown') (by obtain ⟨q, rfl, _, hq, _⟩ := hyb; exact wf64 (by omega) (by omega))
          have hS8 := grown_setCell W7 ⟨W.heap.size + 1, 0, none⟩ (.slice (some ⟨gv, 0, none⟩) (zz.length + 1) cv)
          have hJ7 := hJ2 _ _ _ _ _ G2.out hG7 (fun x e => ⟨(HVI6.out.1.lt x e).1, HVB6.out x e⟩)
          have hJ8 := hJ2 _ _ _ _ _ hJ7 hS8 (fun x e => by cases e; exact ⟨by simp, hbt3⟩)
          have hl7 := (hG7.block _ (blk_lt G1.out) (fun e => by
            rcases HVI6.out.1.2 with ⟨e2, _⟩ | ⟨g', cap, cur, e2, _, hh, _⟩
            · rw [e2] at e; cases e
            · rw [e2] at e; cases e; rw [G1.out] at hh; cases hh)).trans G1.out
          have hrow7 : ∀ x o, W6.heap[x]? = some o → (∀ c t z, o ≠ Obj.cells c t z) → W7.heap[x]? = some o := fun x o ho hn => (hG7.block x (blk_lt ho) (fun e => by
            rcases HVI6.out.1.2 with ⟨e2, _⟩ | ⟨g', cap, cur, e2, _, hh, _⟩
            · rw [e2] at e; cases e
            · rw [e2] at e; cases e; rw [ho] at hh; exact hn _ _ _ (Option.some.inj hh))).trans ho
          have hne8 : W4.heap.size + 1 ≠ W.heap.size + 1 := fun e => by rw [e, hC7] at hl7; cases hl7
          have hl8 := (Below.heap_setCell W7 ⟨W.heap.size + 1, 0, none⟩ (.slice (some ⟨gv, 0, none⟩) (zz.length + 1) cv) _ hne8).trans hl7
          have hT8 : TodoAt (W7.setCell ⟨W.heap.size + 1, 0, none⟩ (.slice (some ⟨gv, 0, none⟩) (zz.length + 1) cv)) W.heap.size (W.heap.size + 1) (zz ++ [y]) b' := by
            refine ⟨_, blk_put hC7 0 _ rfl, hi7.kept hS8 (.inr (fun e => ints_ne hi7 hC7 e rfl)), fun q hq e => ?_⟩
            rcases hloc with e2 | e2
            · exact HVB6.out q (e2 ▸ hq) e
            · obtain ⟨cs, z, hc⟩ := hJ3 _ _ _ _ G2.out e
              have := blk_lt hc
              rw [e2] at hq
              have := Option.some.inj hq
              simp at this
              omega
          have hM8 : Marks (W7.setCell ⟨W.heap.size + 1, 0, none⟩ (.slice (some ⟨gv, 0, none⟩) (zz.length + 1) cv)) W.heap.size xs := (G3.out.pt (w' := W7) fun x o _ ho hn => hrow7 x o ho hn).set hC7 hS8
          have hD8 := (Below.heap_setCell W7 ⟨W.heap.size + 1, 0, none⟩ (.slice (some ⟨gv, 0, none⟩) (zz.length + 1) cv) W4.heap.size (fun e => by have h := hrow7 _ _ G4.out (fun _ _ _ e => by cases e); dsimp only at e; rw [e, hC7] at h; cases h)).trans (hrow7 _ _ G4.out (fun _ _ _ e => by cases e))
          have hX8 := (Below.heap_setCell W7 ⟨W.heap.size + 1, 0, none⟩ (.slice (some ⟨gv, 0, none⟩) (zz.length + 1) cv) W3.heap.size (by simp; omega)).trans ((hG7.block _ (blk_lt G5.out) (fun e => ints_ne HVI6.out G5.out e.symm rfl)).trans G5.out)
          have hX4 := HS4.out
          refine ⟨hl8, hJ2 _ _ _ _ _ hJ8 (grownBy_putObj' _ (W4.heap.size + 1) (.loop rc)) (fun z e => by cases e; exact ⟨by omega, hnb⟩), ?_, hM8.loop hl8, ⟨World.putObj_heap_same (blk_lt hl8), (World.putObj_heap_other (by omega)).trans hD8⟩, (World.putObj_heap_other (by omega)).trans hX8⟩
          rw [← List.append_assoc, hzz]
          exact hT8.obj hl8 (fun _ _ _ e => by cases e)
        · rintro e W' ⟨hv, h1, h2, h3, h4, _⟩
          exact ⟨hv, ⟨h1, h2, h3⟩, h4⟩
      case hdone =>
        rintro o W5 ⟨h1, h2, h3⟩ ⟨rr, hr⟩ hD
        have hX4 := HS4.out
        have hnb : b' ≠ some (W4.heap.size + 1) := fun e => by obtain ⟨cs, z, hc⟩ := hJ3 _ _ _ _ h1 e; rw [hr] at hc; cases hc
        have k1 := hJ2 _ _ _ _ _ h1 (grownBy_putObj' W5 (W4.heap.size + 1) o) (fun z e => by cases e; exact ⟨by omega, hnb⟩)
        have k2 := h2.obj (o' := o) hr (fun _ _ _ e => by cases e)
        have k3 := h3.loop (o' := o) hr
        have k4 : (W5.putObj (W4.heap.size + 1) o).heap[W4.heap.size]? = some (.deferred (some [])) := (World.putObj_heap_other (by omega)).trans hD
        have hlt : ∀ z ∈ xs, z < W4.heap.size := fun z hz => blk_lt (HM4.out.2 z hz).2
        have kk : ∀ y ∈ r.reverse ++ kids.reverse, 0 ≤ y ∧ y < (t.length : Int) := fun y hy => by
          rcases List.mem_append.1 hy with hy | hy
          · exact HR.out y (by rw [htd]; exact List.mem_append_left _ hy)
          · obtain ⟨q, rfl, _, hq, _⟩ := kidsL_mem (hkids ▸ List.mem_reverse.1 hy)
            exact ⟨by omega, by omega⟩
        refine ⟨⟨pre ++ [x], r.reverse ++ kids.reverse, b', W4.heap.size :: xs, rfl, rfl, rfl, rfl, rfl, ⟨k1⟩, ⟨k2⟩, ⟨List.nodup_cons.2 ⟨fun h => Nat.lt_irrefl _ (hlt _ h), HM4.out.1⟩, fun z hz => ?_⟩, ⟨kk⟩, ⟨?_⟩⟩, ?_⟩
        · rcases List.mem_cons.1 hz with rfl | hz
          · exact ⟨by omega, k4⟩
          · exact k3.2 z hz
        · rw [← HE2]
          simp
        · rw [todoOf_eq k2, List.flatMap_cons, belowL_eq hT hxr.1 hxr.2, hkids]
          simp
end Go.Proofs.YtdphijhebppeeaaDoor.G
/- Chapter 5: what an iterator yields, collected. Written by tmpl.py out of F19.tl. -/
namespace Go.Proofs.YtdphijhebppeeaaDoor.G
open Go.RowKit Go.Shelf Go.Maps Go.MapKept Go.ChangeMaps Go.ChangeShapes Go.Proofs.YtdphijhebppeeaaDoorW.PrintWords Go.Proofs.YtdphijhebppeeaaDoorW.PrintLast Go.Proofs.YtdphijhebppeeaaDoorW.PrintMore
attribute [local irreducible] cN

/-- What lies there while the list grows. -/
def OutJ (W0 : World) (Bo D : Nat) (rc : Loop) (pre : List Int) (b : Option Nat) (W : World) : Prop :=
  Below W0.heap.size W0 W ∧ (∃ vo, W.heap[Bo]? = some (.cells #[vo] 36 (0, 0)) ∧ W.ownsInts W0.heap.size 3 .i64 vo pre ∧ vo.ownBlock = b) ∧ ReadyAt rc D W
theorem OutJ.own {W0 W : World} {Bo D : Nat} {rc : Loop} {pre : List Int} {b : Option Nat} {x : Nat} (h : OutJ W0 Bo D rc pre b W) (hb : b = some x) : ∃ cs z, W.heap[x]? = some (.cells cs 3 z) := by
  obtain ⟨_, ⟨vo, _, hi, hv⟩, _⟩ := h
  rw [hb] at hv
  rcases hi.1.2 with ⟨rfl, _⟩ | ⟨g', cap, cur, rfl, _, hh, _⟩
  · cases hv
  · cases hv; exact ⟨_, _, hh⟩
theorem OutJ.step {W0 W W' : World} {Bo D : Nat} {rc : Loop} {pre : List Int} {b row : Option Nat} (h : OutJ W0 Bo D rc pre b W) (hg : W.grownBy W' row) (hr : ∀ x, row = some x → W0.heap.size ≤ x ∧ x ≠ Bo ∧ x ≠ D ∧ x ≠ D + 1 ∧ b ≠ some x) : OutJ W0 Bo D rc pre b W' := by
  obtain ⟨h1, ⟨vo, h2, h3, h4⟩, h5, h6⟩ := h
  refine ⟨h1.grown hg h1.size (fun x e => (hr x e).1), ⟨vo, (hg.block _ (blk_lt h2) (fun e => (hr _ e.symm).2.1 rfl)).trans h2, h3.kept hg ?_, h4⟩, (hg.block _ (blk_lt h5) (fun e => (hr _ e.symm).2.2.2.1 rfl)).trans h5, (hg.block _ (blk_lt h6) (fun e => (hr _ e.symm).2.2.1 rfl)).trans h6⟩
  cases hv : vo.ownBlock with
  | none => exact .inl rfl
  | some x => exact .inr (fun e => (hr x e.symm).2.2.2.2 (h4 ▸ hv))
attribute [local go_sem] Oper.semAt_some
set_option maxRecDepth 100000 in
set_option maxHeartbeats 4000000 in
theorem appendSeq_any (Bn Bw : Nat) (n : Int) (t : List Node) (hT : OKT t) (hlen : t.length ≤ 200) (h0 : 0 ≤ n) (hn : n < t.length) (hbl : (belowL t n).length ≤ 1000)
    (W0 : World) (base g mm : Nat) (A : Option Addr) (c : Nat) (dv : Value) (hW : Walk W0 base g mm t A c t.length t.length dv) (hBn : W0.heap[Bn]? = some (.cells #[.int .i64 n] 3 (0, 0))) (hBw : W0.heap[Bw]? = some (.cells #[.pointer (some ⟨g, 0, none⟩)] 66 (0, 0))) :
    Calls Tryd.prog 85 #[.slice none 0 0, .func (.func 86) #[] #[.pointer (some ⟨Bn, 0, none⟩), .pointer (some ⟨Bw, 0, none⟩)]] W0 fun e W' => ∃ v, e = .returned v ∧ W'.ownsInts W0.heap.size 3 .i64 v (belowL t n) ∧ Below W0.heap.size W0 W' := by
  obtain ⟨i0, hi0, hz0, hz1, hz2⟩ := info_parts info3
  have HW := Aside0.mk hW
  have HBn := Aside0.mk hBn
  have HBw := Aside0.mk hBw
  clear hW hBn hBw
  refine (callsIn_wide (n := 10)).1 ?_
  refine callsIn_of_wp_marks Tryd.func85 rfl trivial ?_ rfl
  simp only [Tryd.ntmps85, List.size_toArray, List.length_cons, List.length_nil, Nat.reduceAdd, Nat.reduceSub, Array.replicate_succ, Array.replicate_zero, List.push_toArray, List.append_toArray, List.nil_append, List.cons_append]
  gi_wp2
  have hB1 := below_alloc (Below.refl W0.heap.size W0) (.cells #[.slice none 0 0] 36)
  have hO1 := blk_new W0 (.cells #[.slice none 0 0] 36)
  have hs1 : (W0.alloc (.cells #[.slice none 0 0] 36)).heap.size = W0.heap.size + 1 := by simp
  obtain ⟨W1, hW1⟩ : ∃ W1, W0.alloc (.cells #[.slice none 0 0] 36) = W1 := ⟨_, rfl⟩
  rw [hW1] at hB1 hO1 hs1 ⊢
  clear hW1
  have HB1 := Aside0.mk hB1
  have HO1 := Aside0.mk hO1
  have HS1 := Aside0.mk hs1
  clear hB1 hO1 hs1
  refine range_whole (F := Fence.wide) rfl (by omega) (gf := 86) (lb := #[.pointer (some ⟨Bn, 0, none⟩), .pointer (some ⟨Bw, 0, none⟩)]) rfl trivial (enters_of Tryd.func86 (by kernel_rfl) rfl)
    (fun W5 => Below W0.heap.size W0 W5 ∧ ∃ vo, W5.heap[W0.heap.size]? = some (.cells #[vo] 36 (0, 0)) ∧ W5.ownsInts W0.heap.size 3 .i64 vo (belowL t n)) ?hcall ?hdone
  case hcall =>
    intro fn hfn
    generalize hrec : ({ state := .ready, pending := none, fn, tmps := _, params := _, assign := _, body := _, defers := W1.heap.size } : Loop) = rc
    have hst : rc.state = .ready := by rw [← hrec]
    have hpe : rc.pending = none := by rw [← hrec]
    have hrf : Fence.wide.fn rc.fn := trivial
    have ready0 : ReadyAt rc W1.heap.size ((W1.alloc (.deferred (some []))).alloc (.loop rc)) := by
      refine ⟨?_, blk_alloc (blk_new W1 _) _⟩
      have := blk_new (W1.alloc (.deferred (some []))) (.loop rc)
      simpa using this
    have hsW : ((W1.alloc (.deferred (some []))).alloc (.loop rc)).heap.size = W1.heap.size + 2 := by simp
    refine (below_in (10 - 1) (by omega) (W1.heap.size + 1) Bn Bw n t hT hlen h0 hn hbl W0 base g mm A c dv HW.out HBn.out HBw.out (OutJ W0 W0.heap.size W1.heap.size rc) ((W1.alloc (.deferred (some []))).alloc (.loop rc)) (fun pre b W h => h.1) ?hJ2 (fun pre b W x h e => h.own e) ?hY none
      ⟨below_alloc (below_alloc HB1.out _) _, ⟨.slice none 0 0, blk_alloc (blk_alloc HO1.out _) _, World.ownsInts_nil _ _ _ _, rfl⟩, ready0⟩).mono ?_
    case hJ2 =>
      intro pre b Wa Wb row h hg hr
      refine h.step hg (fun x e => ?_)
      obtain ⟨q1, q2⟩ := hr x e
      have := HS1.out
      exact ⟨by omega, by omega, by omega, by omega, q2⟩
    case hY =>
      rintro pre b x W5 hj hpl hx0 hx1
      have hj' := hj
      obtain ⟨k1, ⟨vo, k2, k3, k4⟩, k5⟩ := hj
      refine yield_round k5.1 hst hpe hrf (by rw [← hrec]; rfl) ?_
      have e1 := congrArg Loop.assign hrec
      have e2 := congrArg Loop.params hrec
      have e3 := congrArg Loop.body hrec
      have e4 := congrArg Loop.tmps hrec
      dsimp only at e1 e2 e3 e4
      clear hrec
      generalize hbz : ({ rc with state := LoopState.busy } : Loop) = rb
      rw [← e1, ← e2, ← e3, ← e4]
      clear e1 e2 e3 e4
      have K5 := Aside0.mk k5
      have KJ := Aside0.mk hj'
      have K1 := Aside0.mk k1
      have K2 := Aside0.mk k2
      have K3 := Aside0.mk k3
      clear k1 k2 k3 k5 hj'
      gi_wp2
      refine And.intro K5.out.1 ?_
      have hs1 := HS1.out
      have hgp := grownBy_putObj' W5 (W1.heap.size + 1) (.loop rb)
      have hl6 : (W5.putObj (W1.heap.size + 1) (.loop rb)).heap[W1.heap.size + 1]? = some (.loop rb) := World.putObj_heap_same (blk_lt K5.out.1)
      have hs6 : (W5.putObj (W1.heap.size + 1) (.loop rb)).heap.size = W5.heap.size := by simp
      have hn6 : ∀ y, b = some y → y ≠ W1.heap.size + 1 := fun y e e2 => by obtain ⟨cs, z, hc⟩ := KJ.out.own e; rw [e2, K5.out.1] at hc; cases hc
      have hO6 : (W5.putObj (W1.heap.size + 1) (.loop rb)).heap[W0.heap.size]? = some (.cells #[vo] 36 (0, 0)) := (World.putObj_heap_other (by omega)).trans K2.out
      have hi6 : (W5.putObj (W1.heap.size + 1) (.loop rb)).ownsInts W0.heap.size 3 .i64 vo pre := K3.out.kept hgp (by
        cases hv : vo.ownBlock with
        | none => exact .inl rfl
        | some y => exact .inr (fun e => hn6 y (k4 ▸ hv) (Option.some.inj e)))
      have hd6 : (W5.putObj (W1.heap.size + 1) (.loop rb)).heap[W1.heap.size]? = some (.deferred (some [])) := (World.putObj_heap_other (by omega)).trans K5.out.2
      have hb6 : Below W0.heap.size W0 (W5.putObj (W1.heap.size + 1) (.loop rb)) := K1.out.grown hgp K1.out.size (fun y e => by cases e; omega)
      have hk6 : ∀ i, W1.heap.size + 2 ≤ i → (W5.putObj (W1.heap.size + 1) (.loop rb)).heap[i]? = W5.heap[i]? := fun i hi => World.putObj_heap_other (by omega)
      clear hgp K1 K2 K3
      obtain ⟨W6, hW6⟩ : ∃ W6, W5.putObj (W1.heap.size + 1) (.loop rb) = W6 := ⟨_, rfl⟩
      rw [hW6] at hl6 hs6 hO6 hi6 hd6 hb6 hk6 ⊢
      clear hW6
      obtain ⟨At, ct6, rfl, hct6, _⟩ := ints_shape2 hi6
      have c4 := cell_at hO6 0 rfl
      have hlt6 := blk_lt hO6
      have HL := Aside0.mk hl6
      have HO := Aside0.mk hO6
      have HI := Aside0.mk hi6
      have HDf := Aside0.mk hd6
      have HB6 := Aside0.mk hb6
      have HK6 := Aside0.mk hk6
      have HS6 := Aside0.mk hs6
      clear hl6 hO6 hi6 hd6 hb6 hk6 hs6 hs1
      gi_wp2_with (first | (refine wpListIn_append_own_at _ rfl _ _ 36 rfl W0.heap.size 3 i0 (.int .i64 0) 1 8 Tryd.underlying36 hi0 hz0 hz1 hz2 rfl (by decide) (.slice At pre.length ct6) _ _ rfl (HI.out.1.alloc _) ⟨W6.heap.size, 0, none⟩ 1 1 [.int .i64 x] rfl rfl (cell_one_new _ _ _) (ints_oneCell .i64 [x]) (by unfold maxLen; omega) (by omega) (by simp; omega) ?_; intro v' W7 hown' hgrow _ hloc; obtain ⟨gv, cv, rfl⟩ := own_shape hown' (by omega); have hG7 := (World.grownBy_alloc W6 (.cells #[.int .i64 x] 3) (Value.slice At pre.length ct6).ownBlock).trans hgrow; have hC7 := (hG7.block W0.heap.size (blk_lt HO.out) (fun e => ints_ne HI.out HO.out e.symm rfl)).trans HO.out; have z7 := cell_at hC7 0 rfl; have y7 := blk_frozen hC7 0))
      have hs1 := HS1.out
      have hs6 := HS6.out
      have hi7 : W7.ownsInts W0.heap.size 3 .i64 (.slice (some ⟨gv, 0, none⟩) (pre.length + 1) cv) (pre ++ [x]) := HI.out.appended (by simpa using hown') (wf64 (by omega) (by omega))
      have hS8 := grown_setCell W7 ⟨W0.heap.size, 0, none⟩ (.slice (some ⟨gv, 0, none⟩) (pre.length + 1) cv)
      have hrow7 : ∀ x o, W6.heap[x]? = some o → (∀ c t z, o ≠ Obj.cells c t z) → W7.heap[x]? = some o := fun x o ho hn => (hG7.block x (blk_lt ho) (fun e => by
        rcases HI.out.1.2 with ⟨e2, _⟩ | ⟨g', cap, cur, e2, _, hh, _⟩
        · rw [e2] at e; cases e
        · rw [e2] at e; cases e; rw [ho] at hh; exact hn _ _ _ (Option.some.inj hh))).trans ho
      have hl7 := hrow7 _ _ HL.out (fun _ _ _ e => by cases e)
      have hd7 := hrow7 _ _ HDf.out (fun _ _ _ e => by cases e)
      have hl8 := (Below.heap_setCell W7 ⟨W0.heap.size, 0, none⟩ (.slice (some ⟨gv, 0, none⟩) (pre.length + 1) cv) (W1.heap.size + 1) (by simp; omega)).trans hl7
      have hd8 := (Below.heap_setCell W7 ⟨W0.heap.size, 0, none⟩ (.slice (some ⟨gv, 0, none⟩) (pre.length + 1) cv) W1.heap.size (by simp; omega)).trans hd7
      have hO8 : (W7.setCell ⟨W0.heap.size, 0, none⟩ (.slice (some ⟨gv, 0, none⟩) (pre.length + 1) cv)).heap[W0.heap.size]? = some (.cells #[.slice (some ⟨gv, 0, none⟩) (pre.length + 1) cv] 36 (0, 0)) := blk_put hC7 0 _ rfl
      have hi8 := hi7.kept hS8 (.inr (fun e => ints_ne hi7 hC7 e rfl))
      have hb7 : Below W0.heap.size W0 W7 := HB6.out.grown hG7 HB6.out.size (fun y e => (HI.out.1.lt y e).1)
      have hb8 : Below W0.heap.size W0 (W7.setCell ⟨W0.heap.size, 0, none⟩ (.slice (some ⟨gv, 0, none⟩) (pre.length + 1) cv)) := hb7.grown hS8 hb7.size (fun y e => by cases e; exact Nat.le_refl _)
      have hgp9 := grownBy_putObj' (W7.setCell ⟨W0.heap.size, 0, none⟩ (.slice (some ⟨gv, 0, none⟩) (pre.length + 1) cv)) (W1.heap.size + 1) (.loop rc)
      refine ⟨hl8, some gv, ⟨hb8.grown hgp9 hb8.size (fun y e => by cases e; omega), ⟨_, (World.putObj_heap_other (by omega)).trans hO8, hi8.kept hgp9 (.inr (fun e => ?_)), rfl⟩, World.putObj_heap_same (blk_lt hl8), (World.putObj_heap_other (by omega)).trans hd8⟩, ?_, ?_, fun i hi hlt hne => ?_⟩
      · rcases hi8.1.2 with ⟨e2, _⟩ | ⟨g', cap, cur, e2, _, hh, _⟩
        · cases e2
        · rw [e2] at e; cases e; rw [hl8] at hh; cases hh
      · have := hgp9.size
        have := hS8.size
        have := hG7.size
        omega
      · rcases hloc with e | e
        · left; rw [← k4, ← e]; rfl
        · right; refine ⟨gv, rfl, ?_⟩; have := Option.some.inj e; simp at this; omega
      · refine (World.putObj_heap_other (by omega)).trans ((Below.heap_setCell W7 ⟨W0.heap.size, 0, none⟩ _ i (by simp; omega)).trans ((hG7.block i (by omega) (fun e => hne (by rw [← k4, ← e]))).trans (HK6.out i (by omega))))
    · rintro e W' ⟨hv, b, h1, ⟨vo, h2, h3, _⟩, h4⟩
      exact ⟨hv, ⟨h1, vo, h2, h3⟩, h4⟩
  case hdone =>
    rintro o W2 ⟨h1, vo, h2, h3⟩ ⟨r, hr⟩ hD
    have hs1 := HS1.out
    have hrow : ∀ y, vo.ownBlock = some y → ∃ cs z, W2.heap[y]? = some (.cells cs 3 z) := fun y hy => by
      rcases h3.1.2 with ⟨rfl, _⟩ | ⟨g', cap, cur, rfl, _, hh, _⟩
      · cases hy
      · cases hy; exact ⟨_, _, hh⟩
    have hg1 := grownBy_putObj' W2 (W1.heap.size + 1) o
    have d3 : (W2.putObj (W1.heap.size + 1) o).heap[W1.heap.size]? = some (.deferred (some [])) := (World.putObj_heap_other (by omega)).trans hD
    have hg2 := grownBy_putObj' (W2.putObj (W1.heap.size + 1) o) W1.heap.size (.deferred none)
    have i3 := h3.kept hg1 (by
      cases hv : vo.ownBlock with
      | none => exact .inl rfl
      | some y => exact .inr (fun e => by obtain ⟨cs, z, hc⟩ := hrow y hv; rw [Option.some.inj e, hr] at hc; cases hc))
    have i4 := i3.kept hg2 (by
      cases hv : vo.ownBlock with
      | none => exact .inl rfl
      | some y => exact .inr (fun e => by obtain ⟨cs, z, hc⟩ := hrow y hv; rw [Option.some.inj e, hD] at hc; cases hc))
    have o3 : (W2.putObj (W1.heap.size + 1) o).heap[W0.heap.size]? = some (.cells #[vo] 36 (0, 0)) := (World.putObj_heap_other (by omega)).trans h2
    have b3 : Below W0.heap.size W0 ((W2.putObj (W1.heap.size + 1) o).putObj W1.heap.size (.deferred none)) := (h1.grown hg1 h1.size (fun y e => by cases e; omega)).grown hg2 (by have := h1.size; simp; omega) (fun y e => by cases e; omega)
    have c3 := cell_at o3 0 rfl
    have D3 := Aside0.mk d3
    have I4 := Aside0.mk i4
    have B3 := Aside0.mk b3
    clear h1 h2 h3 hr hD hrow hg1 hg2 i3 i4 o3 d3 b3 hs1
    gi_wp2
    refine ⟨by simp, .inl ⟨_, _, rfl, run_takeDeferred D3.out, ?_⟩⟩
    exact ⟨_, results_tmp rfl _ _ _, vo, rfl, I4.out, B3.out⟩
end Go.Proofs.YtdphijhebppeeaaDoor.G
/- Chapter 5: what the package's functions answer. Written by mkF20.py, tmpl.py. -/
namespace Go.Proofs.YtdphijhebppeeaaDoor.G
open Go.RowKit Go.Shelf Go.Maps Go.MapKept Go.ChangeMaps Go.ChangeShapes Go.Proofs.YtdphijhebppeeaaDoorW.PrintWords Go.Proofs.YtdphijhebppeeaaDoorW.PrintLast Go.Proofs.YtdphijhebppeeaaDoorW.PrintMore
attribute [local irreducible] cN

theorem ints_R {w : World} {base base' : Nat} {v : Value} {zs : List Int} (h : w.ownsInts base' 3 .i64 v zs) (hb : base ≤ base') : Kd.R (Kd.int .i64) 3 w base (fun _ => True) v zs :=
  Kd.R_of_own (own_weaken h.1 hb) (fun _ _ => trivial)
/-- What is wrong when one asks for node n. -/
def errN (t : List Node) (n : Int) : Int := match openT t with | some (_, i) => 50 + (i : Int) | none => if n < 0 ∨ (t.length : Int) ≤ n then 53 else 0
/-- Its number, where it is a node's, and how. -/
def errI (t : List Node) (n : Int) : Option (Nat × Nat) := match openT t with | some p => some p | none => if n < 0 ∨ (t.length : Int) ≤ n then some (0, 3) else none
theorem scan_code {t : List Node} : ∀ {f i : Nat} {p : Nat × Nat}, scanT t f i = some p → p.2 < 2
  | 0, _, _, h => by cases h
  | f + 1, i, p, h => by
    rw [scanT] at h
    split at h
    · split at h
      · cases h; exact (by decide : (1 : Nat) < 2)
      · exact scan_code h
    · cases h; exact (by decide : (0 : Nat) < 2)
theorem open_code {t : List Node} {p : Nat × Nat} (h : openT t = some p) : p.2 < 3 := by
  unfold openT at h
  split at h
  · cases h; decide
  · have := scan_code h; omega
theorem scan_none {t : List Node} : ∀ {f i : Nat}, scanT t f i = none → ∀ j, i ≤ j → j < i + f → goodB t j = true ∧ depN t j (depsL t j) ≤ 64
  | 0, i, _, j, h1, h2 => by omega
  | f + 1, i, h, j, h1, h2 => by
    rw [scanT] at h
    split at h
    · rename_i hg
      split at h
      · cases h
      · rename_i hd
        by_cases e : j = i
        · subst e; exact ⟨hg, by omega⟩
        · exact scan_none h j (by omega) (by omega)
    · cases h
theorem open_none {t : List Node} (h : openT t = none) : 1 ≤ t.length ∧ t.length ≤ 200 ∧ ∀ j, j < t.length → goodB t j = true ∧ depN t j (depsL t j) ≤ 64 := by
  unfold openT at h
  split at h
  · cases h
  · exact ⟨by omega, by omega, fun j hj => scan_none h j (Nat.zero_le _) (by omega)⟩
theorem open_OKT {t : List Node} (h : openT t = none) : OKT t := fun i h0 hi => by
  have hg := ((open_none h).2.2 i hi).1
  unfold goodB at hg
  exact place_parent h0 (by revert hg; cases placeB t i <;> simp)
/-- What at gives. -/
def AtPost (E : Nat → Addr) (t : List Node) (A : Option Addr) (c : Nat) (n : Int) (w : World) (e : Ending) (w' : World) : Prop :=
  match errI t n with
  | none => ∃ g m dv, e = .returned (.tuple #[.pointer (some ⟨g, 0, none⟩), .nilIface]) ∧ Walk w' (w.heap.size + 3) g m t A c t.length t.length dv ∧ Below w.heap.size w w'
  | some (k, i) => ∃ p, e = .returned (.tuple #[p, .iface 90 (.agg #[.int .i64 k, .iface 142 (.pointer (some (E i)))])]) ∧ Below w.heap.size w w'
set_option maxRecDepth 100000 in
set_option maxHeartbeats 4000000 in
theorem at_any (t : List Node) (A : Option Addr) (c : Nat) (n : Int) (E : Nat → Addr) (w : World) (hc : kN.C w A t.length t) (hS : Sent w E) :
    Calls Tryd.prog 34 #[.slice A t.length c, .int .i64 n] w (AtPost E t A c n w) := by
  have HO := Aside0.mk (open_any t A c E w hc hS)
  have HS := Aside0.mk hS
  clear hc hS
  cases hop : openT t with
  | some p =>
    obtain ⟨k, i⟩ := p
    have hE : errI t n = some (k, i) := by unfold errI; rw [hop]
    unfold AtPost
    rw [hE]
    go_enter Tryd.func34, Tryd.ntmps34
    go_wp2_with (first | (go_at_call 49; refine HO.out.mono ?_; rintro e w2 hq; simp only [OpenPost, hop] at hq; obtain ⟨rfl, hb⟩ := hq))
    go_ret2
    exact ⟨_, rfl, hb⟩
  | none =>
    by_cases h1 : n < 0
    · have hE : errI t n = some (0, 3) := by unfold errI; rw [hop]; exact if_pos (.inl h1)
      unfold AtPost
      rw [hE]
      go_enter Tryd.func34, Tryd.ntmps34
      go_wp2_with (first | (go_at_call 49; refine HO.out.mono ?_; rintro e w2 hq; simp only [OpenPost, hop] at hq; obtain ⟨g, m, dv, rfl, hW, hb⟩ := hq; have gE := (HS.out.below hb).c3; have HB := Aside0.mk hb; clear hW hb))
      go_ret2
      exact ⟨_, rfl, HB.out⟩
    · by_cases h2 : (t.length : Int) ≤ n
      · have hE : errI t n = some (0, 3) := by unfold errI; rw [hop]; exact if_pos (.inr h2)
        have h2' : n ≥ t.length := h2
        unfold AtPost
        rw [hE]
        go_enter Tryd.func34, Tryd.ntmps34
        go_wp2_with (first | (go_at_call 49; refine HO.out.mono ?_; rintro e w2 hq; simp only [OpenPost, hop] at hq; obtain ⟨g, m, dv, rfl, hW, hb⟩ := hq; have gE := (HS.out.below hb).c3; have HB := Aside0.mk hb; clear hW hb))
        go_ret2
        exact ⟨_, rfl, HB.out⟩
      · have hE : errI t n = none := by unfold errI; rw [hop]; exact if_neg (by omega)
        have h2' : ¬ n ≥ t.length := h2
        unfold AtPost
        rw [hE]
        go_enter Tryd.func34, Tryd.ntmps34
        go_wp2_with (first | (go_at_call 49; refine HO.out.mono ?_; rintro e w2 hq; simp only [OpenPost, hop] at hq; obtain ⟨g, m, dv, rfl, hW, hb⟩ := hq; have HW := Aside0.mk hW; have HB := Aside0.mk hb; clear hW hb))
        go_ret2
        exact ⟨_, _, dv, rfl, HW.out, HB.out⟩
theorem errI_code {t : List Node} {n : Int} {p : Nat × Nat} (h : errI t n = some p) : p.2 < 4 ∧ errN t n = 50 + (p.2 : Int) := by
  unfold errI at h
  unfold errN
  cases hop : openT t with
  | some q => rw [hop] at h; cases h; exact ⟨by have := open_code hop; omega, rfl⟩
  | none =>
    rw [hop] at h
    dsimp only at h ⊢
    split at h
    · rename_i hq; cases h; rw [if_pos hq]; exact ⟨by decide, rfl⟩
    · cases h
theorem errI_none {t : List Node} {n : Int} (h : errI t n = none) : openT t = none ∧ 0 ≤ n ∧ n < t.length ∧ errN t n = 0 := by
  unfold errI at h
  unfold errN
  cases hop : openT t with
  | some q => rw [hop] at h; cases h
  | none =>
    rw [hop] at h
    dsimp only at h ⊢
    split at h
    · cases h
    · rename_i hq; rw [if_neg hq]; exact ⟨rfl, by omega, by omega, rfl⟩
def tree_Check.f (l0 : List (S31)) : Option (Int × Int) := some (match openT l0 with | none => (0, 0) | some (n, i) => ((n : Int), 50 + (i : Int)))
set_option maxRecDepth 100000 in
set_option maxHeartbeats 4000000 in
theorem tree_Check.calls (A0 : Option Addr) (c0 : Nat) (l0 : List (S31)) (r1 : Int) (r2 : Int) (w : World) (hr0 : Kd.C k31 w A0 l0.length l0) (hc0 : l0.length ≤ c0) (h : tree_Check.f l0 = some (r1, r2)) (hG : GOK w) :
    Calls Tryd.prog 55 #[.slice A0 l0.length c0] w fun e w' => e = .returned (.tuple #[.int .i64 r1, .int .i64 r2]) ∧ Below w.heap.size w w' := by
  obtain ⟨E, hS⟩ := hG.sent
  have _h0 := hc0
  have HO := Aside0.mk (open_any l0 A0 c0 E w hr0 hS)
  have HS := Aside0.mk hS
  clear hr0 hS hG
  unfold tree_Check.f at h
  cases hop : openT l0 with
  | some p =>
    obtain ⟨k, i⟩ := p
    have HI := Aside0.mk (show i < 4 from by have := open_code hop; simp at this; omega)
    rw [hop] at h
    simp only [Option.some.injEq, Prod.mk.injEq] at h
    obtain ⟨rfl, rfl⟩ := h
    go_enter Tryd.func55, Tryd.ntmps55
    go_wp2_with (first | (go_at_call 49; refine HO.out.mono ?_; rintro e w2 hq; simp only [OpenPost, hop] at hq; obtain ⟨rfl, hb⟩ := hq; have HB := Aside0.mk hb; clear hb) | (go_at_call 50; refine (told_any k E i HI.out w2 (HS.out.below HB.out)).mono ?_; rintro e w3 ⟨rfl, hb3⟩))
    go_ret2
    exact ⟨rfl, below_then HB.out HB.out.size hb3⟩
  | none =>
    rw [hop] at h
    simp only [Option.some.injEq, Prod.mk.injEq] at h
    obtain ⟨rfl, rfl⟩ := h
    go_enter Tryd.func55, Tryd.ntmps55
    go_wp2_with (first | (go_at_call 49; refine HO.out.mono ?_; rintro e w2 hq; simp only [OpenPost, hop] at hq; obtain ⟨g, m, dv, rfl, hW, hb⟩ := hq; have HB := Aside0.mk hb; clear hb hW) | (go_at_call 50; refine (told_nil w2).mono ?_; rintro e w3 ⟨rfl, hb3⟩))
    go_ret2
    exact ⟨rfl, below_then HB.out HB.out.size hb3⟩
theorem look_run {P : Program} {w : World} {ops : Array Oper} {rest : List Oper} {o : Oper} {a : Act} {Q : Exit → Act → World → Prop} (hg : o.guard = none) (t : TypeId) (m x : Operand) (hop : o.op = Op.lookup t m x false) {M K v : Value} (hm : a.eval m = M) (hx : a.eval x = K)
    (hr : (Instr.lookup t M K false).run P w = .ok v w) (h : wpList P ops Q rest (a.put o.dst v) w) : wpList P ops Q (o :: rest) a w := by
  refine wpList_plain hg fun K' hK' => ?_
  unfold Oper.wp
  simp [execOp, hop, hm, hx, hr, Result.andThen]
  exact hK' _ _ h
theorem blk_new2 (w : World) (o o' : Obj) : ((w.alloc o).alloc o').heap[w.heap.size + 1]? = some o' := by
  have := blk_new (w.alloc o) o'
  simpa using this
theorem walkBelow_any (p : Addr) (n : Int) (w : World) : Calls Tryd.prog 73 #[.pointer (some p), .int .i64 n] w fun e w' => e = .returned (.func (.func 86) #[] #[.pointer (some ⟨w.heap.size + 1, 0, none⟩), .pointer (some ⟨w.heap.size, 0, none⟩)]) ∧ w' = (w.alloc (.cells #[.pointer (some p)] 66)).alloc (.cells #[.int .i64 n] 3) := by
  go_enter Tryd.func73, Tryd.ntmps73
  go_wp2
  go_ret
  exact ⟨by first | rfl | simp, rfl⟩
theorem collect_any (Bn Bw : Nat) (n : Int) (t : List Node) (hT : OKT t) (hlen : t.length ≤ 200) (h0 : 0 ≤ n) (hn : n < t.length) (hbl : (belowL t n).length ≤ 1000)
    (W0 : World) (base g mm : Nat) (A : Option Addr) (c : Nat) (dv : Value) (hW : Walk W0 base g mm t A c t.length t.length dv) (hBn : W0.heap[Bn]? = some (.cells #[.int .i64 n] 3 (0, 0))) (hBw : W0.heap[Bw]? = some (.cells #[.pointer (some ⟨g, 0, none⟩)] 66 (0, 0))) :
    Calls Tryd.prog 72 #[.func (.func 86) #[] #[.pointer (some ⟨Bn, 0, none⟩), .pointer (some ⟨Bw, 0, none⟩)]] W0 fun e W' => ∃ v, e = .returned v ∧ W'.ownsInts W0.heap.size 3 .i64 v (belowL t n) ∧ Below W0.heap.size W0 W' := by
  have HA := Aside0.mk (appendSeq_any Bn Bw n t hT hlen h0 hn hbl W0 base g mm A c dv hW hBn hBw)
  clear hW hBn hBw
  go_enter Tryd.func72, Tryd.ntmps72
  go_wp2_with (first | (go_at_call 85; refine HA.out.mono ?_; rintro e w2 ⟨v, rfl, hi, hb⟩))
  go_ret
  exact ⟨v, rfl, hi, hb⟩
def tree_Kids.f (l0 : List (S31)) (a1 : Int) : Option (List Int × Int) := if errN l0 a1 ≠ 0 then some ([], errN l0 a1) else some (kidsL l0 l0.length a1, 0)
def tree_Deep.f (l0 : List (S31)) (a1 : Int) : Option (Int × Int) := if errN l0 a1 ≠ 0 then some (0, errN l0 a1) else some ((depsL l0 l0.length).getD a1.toNat 0, 0)
def tree_Below.f (l0 : List (S31)) (a1 : Int) : Option (List Int × Int) := if errN l0 a1 ≠ 0 then some ([], errN l0 a1) else if (belowL l0 a1).length ≤ 1000 then some (belowL l0 a1, 0) else none
def tree_Order.f (l0 : List (S31)) : Option (List Int × Int) := tree_Below.f l0 0
set_option maxRecDepth 100000 in
set_option maxHeartbeats 4000000 in
theorem tree_Kids.calls (A0 : Option Addr) (c0 : Nat) (l0 : List (S31)) (a1 : Int) (r1 : List Int) (r2 : Int) (w : World) (hr0 : Kd.C k31 w A0 l0.length l0) (hc0 : l0.length ≤ c0) (h : tree_Kids.f l0 a1 = some (r1, r2)) (hG : GOK w) :
    Calls Tryd.prog 14 #[.slice A0 l0.length c0, .int .i64 a1] w fun e w' => ∃ v0_ : Value, e = .returned (.tuple #[v0_, .int .i64 r2]) ∧ Kd.R (Kd.int .i64) 3 w' w.heap.size (fun _ => True) v0_ r1 ∧ Below w.heap.size w w' := by
  obtain ⟨E, hS⟩ := hG.sent
  have _h0 := hc0
  have HA := Aside0.mk (at_any l0 A0 c0 a1 E w hr0 hS)
  have HS := Aside0.mk hS
  clear hr0 hS hG
  unfold tree_Kids.f at h
  cases hI : errI l0 a1 with
  | some p =>
    obtain ⟨k, i⟩ := p
    have hcd := errI_code hI
    have HI := Aside0.mk hcd.1
    have h2 := hcd.2
    rw [if_pos (by rw [h2]; omega), h2] at h
    simp only [Option.some.injEq, Prod.mk.injEq] at h
    obtain ⟨rfl, rfl⟩ := h
    clear h2 hcd
    go_enter Tryd.func14, Tryd.ntmps14
    go_wp2_with (first | (go_at_call 34; refine HA.out.mono ?_; rintro e w2 hq; simp only [AtPost, hI] at hq; obtain ⟨pp, rfl, hb⟩ := hq; have HB := Aside0.mk hb; clear hb) | (go_at_call 35; refine (why_any k E i HI.out w2 (HS.out.below HB.out)).mono ?_; rintro e w3 ⟨rfl, hb3⟩))
    go_ret2
    exact ⟨_, rfl, Kd.R_nil _ _ _ _ _, below_then HB.out HB.out.size hb3⟩
  | none =>
    obtain ⟨hop, hn0, hn1, h2⟩ := errI_none hI
    rw [if_neg (by rw [h2]; simp)] at h
    simp only [Option.some.injEq, Prod.mk.injEq] at h
    obtain ⟨rfl, rfl⟩ := h
    have hl := (open_none hop).2.1
    go_enter Tryd.func14, Tryd.ntmps14
    go_wp2_with (first | (go_at_call 34; refine HA.out.mono ?_; rintro e w2 hq; simp only [AtPost, hI] at hq; obtain ⟨g, m, dv, rfl, hW, hb⟩ := hq; obtain ⟨v, nn, DD, _, hlook, hoi, _⟩ := hW.look (show l0.length < maxLen by unfold maxLen; omega) (j := a1) (wf64 (by omega) (by omega)); have cm := cell_at hW.cells 2 rfl; have HLK := Aside0.mk (hlook w2 rfl); have HOI := Aside0.mk hoi; have HB := Aside0.mk hb; clear hb hW hlook hoi) | (refine look_run rfl 71 _ _ rfl (M := .map (some m)) (K := .int .i64 a1) rfl rfl HLK.out ?_))
    go_ret2
    exact ⟨v, rfl, ints_R HOI.out (by omega), HB.out⟩
set_option maxRecDepth 100000 in
set_option maxHeartbeats 4000000 in
theorem tree_Below.calls (A0 : Option Addr) (c0 : Nat) (l0 : List (S31)) (a1 : Int) (r1 : List Int) (r2 : Int) (w : World) (hr0 : Kd.C k31 w A0 l0.length l0) (hc0 : l0.length ≤ c0) (h : tree_Below.f l0 a1 = some (r1, r2)) (hG : GOK w) :
    Calls Tryd.prog 56 #[.slice A0 l0.length c0, .int .i64 a1] w fun e w' => ∃ v0_ : Value, e = .returned (.tuple #[v0_, .int .i64 r2]) ∧ Kd.R (Kd.int .i64) 3 w' w.heap.size (fun _ => True) v0_ r1 ∧ Below w.heap.size w w' := by
  obtain ⟨E, hS⟩ := hG.sent
  have _h0 := hc0
  have HA := Aside0.mk (at_any l0 A0 c0 a1 E w hr0 hS)
  have HS := Aside0.mk hS
  clear hr0 hS hG
  unfold tree_Below.f at h
  cases hI : errI l0 a1 with
  | some p =>
    obtain ⟨k, i⟩ := p
    have hcd := errI_code hI
    have HI := Aside0.mk hcd.1
    have h2 := hcd.2
    rw [if_pos (by rw [h2]; omega), h2] at h
    simp only [Option.some.injEq, Prod.mk.injEq] at h
    obtain ⟨rfl, rfl⟩ := h
    clear h2 hcd
    go_enter Tryd.func56, Tryd.ntmps56
    go_wp2_with (first | (go_at_call 34; refine HA.out.mono ?_; rintro e w2 hq; simp only [AtPost, hI] at hq; obtain ⟨pp, rfl, hb⟩ := hq; have HB := Aside0.mk hb; clear hb) | (go_at_call 35; refine (why_any k E i HI.out w2 (HS.out.below HB.out)).mono ?_; rintro e w3 ⟨rfl, hb3⟩))
    go_ret2
    exact ⟨_, rfl, Kd.R_nil _ _ _ _ _, below_then HB.out HB.out.size hb3⟩
  | none =>
    obtain ⟨hop, hn0, hn1, h2⟩ := errI_none hI
    rw [if_neg (by rw [h2]; simp)] at h
    split at h
    · rename_i hbl
      simp only [Option.some.injEq, Prod.mk.injEq] at h
      obtain ⟨rfl, rfl⟩ := h
      have hl := (open_none hop).2.1
      have hT := open_OKT hop
      go_enter Tryd.func56, Tryd.ntmps56
      go_wp2_with (first | (go_at_call 34; refine HA.out.mono ?_; rintro e w2 hq; simp only [AtPost, hI] at hq; obtain ⟨g, m, dv, rfl, hW, hb⟩ := hq; have HW := Aside0.mk hW; have HB := Aside0.mk hb; clear hb hW) | (go_at_call 73; refine (walkBelow_any _ _ _).mono ?_; rintro e w3 ⟨rfl, rfl⟩; have HB3 := Aside0.mk (below_alloc (below_alloc (Below.refl w2.heap.size w2) (.cells #[.pointer (some ⟨g, 0, none⟩)] 66)) (.cells #[.int .i64 a1] 3)); have HX3 := Aside0.mk (blk_alloc (blk_new w2 (.cells #[.pointer (some ⟨g, 0, none⟩)] 66)) (.cells #[.int .i64 a1] 3)); have HN3 := Aside0.mk (blk_new2 w2 (.cells #[.pointer (some ⟨g, 0, none⟩)] 66) (.cells #[.int .i64 a1] 3))) | (go_at_call 72; refine (collect_any (w2.heap.size + 1) w2.heap.size a1 l0 hT hl hn0 hn1 hbl _ (w.heap.size + 3) g m A0 c0 dv (HW.out.below HB3.out) HN3.out HX3.out).mono ?_; rintro e w4 ⟨v, rfl, hi4, hb4⟩))
      go_ret2
      have hs := HB.out.size
      have hs3 := HB3.out.size
      exact ⟨v, rfl, ints_R hi4 (by omega), below_then (below_then HB.out HB.out.size HB3.out) (by omega) hb4⟩
    · cases h
set_option maxRecDepth 100000 in
theorem tree_Order.calls (A0 : Option Addr) (c0 : Nat) (l0 : List (S31)) (r1 : List Int) (r2 : Int) (w : World) (hr0 : Kd.C k31 w A0 l0.length l0) (hc0 : l0.length ≤ c0) (h : tree_Order.f l0 = some (r1, r2)) (hG : GOK w) :
    Calls Tryd.prog 42 #[.slice A0 l0.length c0] w fun e w' => ∃ v0_ : Value, e = .returned (.tuple #[v0_, .int .i64 r2]) ∧ Kd.R (Kd.int .i64) 3 w' w.heap.size (fun _ => True) v0_ r1 ∧ Below w.heap.size w w' := by
  have HA := Aside0.mk (tree_Below.calls A0 c0 l0 0 r1 r2 w hr0 hc0 h hG)
  clear hr0 hG h
  go_enter Tryd.func42, Tryd.ntmps42
  go_wp2_with (first | (go_at_call 56; refine HA.out.mono ?_; rintro e w2 ⟨v, rfl, hi, hb⟩))
  go_ret2
  exact ⟨v, rfl, hi, hb⟩
end Go.Proofs.YtdphijhebppeeaaDoor.G
/- Chapter 5: the first nodes of a list; a style's Right as the print wants it. Written by mkF21 (in F21.tl), tmpl.py. -/
namespace Go.Proofs.YtdphijhebppeeaaDoor.G
open Go.RowKit Go.Proofs.YtdphijhebppeeaaDoorW.PrintWords Go.Proofs.YtdphijhebppeeaaDoorW.PrintLast Go.Proofs.YtdphijhebppeeaaDoorW.PrintMore

def style_Right.f (a0_0 : Int) (a0_1 : Int) (a0_2 : Int) (a0_3 : Int) (a0_4 : Bool) (a0_5 : Int) (a0_6 : Int) (a0_7 : Int) (a0_8 : Bool) (a0_9 : Int) (a0_10 : Int) (a0_11 : Bool) (a0_12 : Int) (a0_13 : Bool) (a0_14 : Int) (a0_15 : Int) : Option (Bool) := some (rightB a0_0 a0_1 a0_2 a0_3 a0_4 a0_5 a0_6 a0_7 a0_8 a0_9 a0_10 a0_11 a0_12 a0_13 a0_14 a0_15)
theorem style_Right.calls (a0_0 : Int) (a0_1 : Int) (a0_2 : Int) (a0_3 : Int) (a0_4 : Bool) (a0_5 : Int) (a0_6 : Int) (a0_7 : Int) (a0_8 : Bool) (a0_9 : Int) (a0_10 : Int) (a0_11 : Bool) (a0_12 : Int) (a0_13 : Bool) (a0_14 : Int) (a0_15 : Int) (r : Bool) (w : World) (h : style_Right.f a0_0 a0_1 a0_2 a0_3 a0_4 a0_5 a0_6 a0_7 a0_8 a0_9 a0_10 a0_11 a0_12 a0_13 a0_14 a0_15 = some r) :
    Calls Tryd.prog 80 #[.agg #[.int .i64 a0_0, .int .i64 a0_1, .int .i64 a0_2, .int .i64 a0_3, .bool a0_4, .int .i64 a0_5, .int .i64 a0_6, .int .i64 a0_7, .bool a0_8, .int .i64 a0_9, .int .i64 a0_10, .bool a0_11, .int .i64 a0_12, .bool a0_13, .int .i64 a0_14, .int .i64 a0_15]] w fun e w' => e = .returned (.bool r) ∧ Below w.heap.size w w' := by
  obtain rfl := Option.some.inj h
  exact sright_any a0_0 a0_1 a0_2 a0_3 a0_4 a0_5 a0_6 a0_7 a0_8 a0_9 a0_10 a0_11 a0_12 a0_13 a0_14 a0_15 w
def row32L (l : List Node) : List Value := l.flatMap fun x => (cN x).toList
theorem row32_snoc (l : List Node) (x : Node) : row32L (l ++ [x]) = row32L l ++ (cN x).toList := by simp [row32L]
theorem snoc_ind' {α : Type} {p : List α → Prop} (h0 : p []) (h1 : ∀ l x, p l → p (l ++ [x])) (l : List α) : p l := by
  rw [← List.reverse_reverse l]
  induction l.reverse with
  | nil => exact h0
  | cons x l ih => rw [List.reverse_cons]; exact h1 _ _ ih
theorem reps32 (w : World) (base : Nat) (ok : Nat → Prop) (l : List Node) : Reps (k31.M w base ok) 21 l (row32L l) := by
  induction l using snoc_ind' with
  | h0 => exact Reps.none _ _
  | h1 l x ih => rw [row32_snoc]; exact ih.snoc (k31_mkM _ _ _ x) rfl
theorem R32_of_own {W : World} {base : Nat} {v : Value} {l : List Node} (h : W.ownsRow base 31 21 v l.length (row32L l)) : Kd.R k31 31 W base (fun _ => True) v l :=
  ⟨fun _ _ => trivial, row32L l, h, reps32 _ _ _ _⟩
attribute [local irreducible] cN
/-- The first eighty, their texts cut. -/
def cutN (x : Node) : Node := { x with f2 := x.f2.extract 0 (if 410 < (x.f2.size : Int) then 410 else (x.f2.size : Int)).toNat }
def fewL (l : List Node) : List Node := (l.take 80).map cutN
theorem cut_cells {x : Node} {M : Array Value} (h : NodeC x M) : M.setIfInBounds 2 (.string (x.f2.extract 0 (if 410 < (x.f2.size : Int) then 410 else (x.f2.size : Int)).toNat)) = cN (cutN x) := by
  rw [h.eq]
  unfold cN
  rfl
theorem build1N_at {ops : Array Oper} {rest : List Oper} {o : Oper} {a : Act} {W : World} {Q : Exit → Act → World → Prop} (hgd : o.guard = none) (x : Operand) (ho : o.op = .buildSlice 22 1 #[(0, x)]) {nx : Node} {M : Array Value} (hx : a.eval x = .agg M) (hM : NodeC nx M)
    (h : wpList Tryd.prog ops Q rest (a.put o.dst (.slice (some ⟨W.heap.size, 0, none⟩) 1 1)) (W.alloc (.cells M 31))) : wpList Tryd.prog ops Q (o :: rest) a W := by
  have hr : (Instr.buildSlice 22 1 #[(0, .agg M)]).run Tryd.prog W = .ok (.slice (some ⟨W.heap.size, 0, none⟩) 1 1) (W.alloc (.cells M 31)) := by
    rw [hM.eq]
    go_simp
  refine wpList_plain hgd fun K' hK' => ?_
  unfold Oper.wp
  simp [execOp, ho, hx, hr, Result.andThen]
  exact hK' _ _ h
def gutterlaw05_Few.f (l0 : List (S31)) : Option ((List (S31))) := some (fewL l0)
set_option maxRecDepth 100000 in
set_option maxHeartbeats 4000000 in
theorem gutterlaw05_Few.calls (A0 : Option Addr) (c0 : Nat) (l0 : List (S31)) (r : List (S31)) (w : World) (hr0 : Kd.C k31 w A0 l0.length l0) (hc0 : l0.length ≤ c0) (h : gutterlaw05_Few.f l0 = some r) :
    Calls Tryd.prog 10 #[.slice A0 l0.length c0] w fun e w' => ∃ v0_ : Value, e = .returned (v0_) ∧ Kd.R k31 31 w' w.heap.size (fun _ => True) v0_ r ∧ Below w.heap.size w w' := by
  obtain rfl := Option.some.inj h
  have _h0 := hc0
  obtain ⟨i0, hi0, hz0', hz1, hz2⟩ := info_parts info31
  obtain ⟨z0, hz0, hzs⟩ : ∃ z, i0.zero = some z ∧ z.cells.size = 21 := ⟨_, hz0', rfl⟩
  clear hz0'
  have HC := Aside0.mk hr0
  clear hr0 h
  go_enter Tryd.func10, Tryd.ntmps10
  go_wp2
  go_loopw [3, 4] (fun v i wr => ∃ k : Nat, k ≤ l0.length ∧ k ≤ 80 ∧ i = .int .i64 k ∧ Aside0 (wr.ownsRow w.heap.size 31 21 v k (row32L ((l0.take k).map cutN))) ∧ Aside0 (Below w.heap.size w wr)) (fun _ i _ => l0.length - (intZ i).toNat)
  case atStart => exact ⟨0, Nat.zero_le _, Nat.zero_le _, rfl, ⟨World.ownsRow_nil _ _ _ _⟩, ⟨Below.refl _ _⟩⟩
  case round =>
    obtain ⟨k, hk, hk80, rfl, HO, HB⟩ := hrel
    by_cases hlt : k < l0.length ∧ k < 80
    · have h1 : (k : Int) < l0.length := by omega
      have h2 : (k : Int) < 80 := by omega
      obtain ⟨ad, M, rfl, hM, hr⟩ := node_at (Kd.C_below HC.out HB.out) k hlt.1
      have htk := Aside0.mk (show (l0.take (k + 1)).map cutN = (l0.take k).map cutN ++ [cutN (l0.getD k zN)] by rw [List.take_add_one, List.getElem?_eq_getElem hlt.1, List.map_append]; simp [List.getElem?_eq_getElem hlt.1])
      have hlen := Aside0.mk (show ((l0.take k).map cutN).length = k by simp; omega)
      obtain ⟨x, hx⟩ : ∃ x, l0.getD k zN = x := ⟨_, rfl⟩
      rw [hx] at hM htk
      clear hx
      have hM2 := Aside0.mk hM
      have hr2 := Aside0.mk hr
      have hK := blk_new wr (.cells M 31)
      have q2 := cell_at hK 2 hM.c2
      have y2 := blk_frozen hK 2
      have hcc := cut_cells hM
      have hKc := Aside0.mk (ranges_blk (blk_new wr (.cells (cN (cutN x)) 31)))
      have hw0 := HB.out.size
      clear hM hr hK
      go_upto_region 7 with (first | (refine loadN_at rfl _ rfl (ad.add (k * 21)) rfl M hM2.out.size hr2.out ?_) | (refine storeN_at rfl _ _ rfl M _ rfl rfl hM2.out.size hM2.out.one rfl ?_))
      clear q2 y2 hcc
      have hB1 := Aside0.mk (below_alloc HB.out (.cells (cN (cutN x)) 31))
      have hsz := cN_size (cutN x)
      go_wp2_with (first | (at_builtin; refine wpList_append_own _ rfl _ _ 22 rfl w.heap.size 31 i0 z0 21 176 Tryd.underlying22 hi0 hz0 hz1 hz2 hzs (by decide) _ k (row32L ((l0.take k).map cutN)) rfl ((HO.out.alloc _).alloc _) ⟨(wr.alloc (.cells (cN (cutN x)) 31)).heap.size, 0, none⟩ 1 1 (cN (cutN x)).toList rfl (by simp [hsz]) (ranges_blk (blk_new (wr.alloc (.cells (cN (cutN x)) 31)) (.cells (cN (cutN x)) 31))) (fun u hu => Array.all_eq_true'.1 (cN_is (cutN x)).one u (by simpa using hu)) (by unfold maxLen; omega) (by omega) (by simp; omega) ?_; intro v' w4 hown' hgrow _; have HO1 := Aside0.mk hown'; have HG1 := Aside0.mk hgrow; clear hown' hgrow) | (refine loadN_at rfl _ rfl ⟨wr.heap.size, 0, none⟩ rfl (cN (cutN x)) hsz hKc.out ?_) | (refine build1N_at rfl _ rfl rfl (cN_is (cutN x)) ?_))
      go_roundw
      case rel => exact ⟨k + 1, by omega, by omega, by go_num, ⟨by rw [htk.out, row32_snoc]; exact HO1.out⟩, ⟨(below_alloc (below_alloc HB.out _) _).grown HG1.out (by simp; omega) (fun j e => (HO.out.lt j e).1)⟩⟩
      case measure => simp [intZ]; omega
    · have hke : l0.take k = l0.take 80 ∧ k = (l0.take 80).length := by
        by_cases h : k < l0.length
        · have : k = 80 := by omega
          subst this
          exact ⟨rfl, by simp; omega⟩
        · have : k = l0.length := by omega
          subst this
          exact ⟨by rw [List.take_length, List.take_of_length_le (by omega)], by simp; omega⟩
      by_cases h1 : (k : Int) < l0.length
      · have h2 : ¬ (k : Int) < 80 := by omega
        go_wp2
        go_ret
        exact ⟨_, rfl, R32_of_own (by rw [fewL, List.length_map, ← hke.2, ← hke.1]; exact HO.out), HB.out⟩
      · go_wp2
        go_ret
        exact ⟨_, rfl, R32_of_own (by rw [fewL, List.length_map, ← hke.2, ← hke.1]; exact HO.out), HB.out⟩
/-- A plain block. -/
def blkN (p : Int) : Node := ⟨p, 1, ⟨#[]⟩, 0, 0, ⟨0, 0, 0, 0, false, 0, 1, 1, false, 0, 0, false, 0, false, 0, 0⟩⟩
def blkS : Array Value := #[.int .i64 0, .int .i64 0, .int .i64 0, .int .i64 0, .bool false, .int .i64 0, .int .i64 1, .int .i64 1, .bool false, .int .i64 0, .int .i64 0, .bool false, .int .i64 0, .bool false, .int .i64 0, .int .i64 0]
theorem built_blkS : Tryd.prog.built 29 [(6, .int .i64 1), (7, .int .i64 1)] = some blkS := by
  show Tryd.prog.built 29 _ = some _
  kernel_rfl
theorem built_blkN (p : Int) : Tryd.prog.built 31 [(0, .int .i64 p), (1, .int .i64 1), (5, .agg blkS)] = some (cN (blkN p)) := by
  show Tryd.prog.built 31 _ = some _
  unfold cN blkN
  kernel_rfl
attribute [local irreducible] blkS
theorem blkS_at {ops : Array Oper} {rest : List Oper} {o : Oper} {a : Act} {W : World} {Q : Exit → Act → World → Prop} (hgd : o.guard = none) (ho : o.op = .build 29 #[(6, .const (.int .i64 1)), (7, .const (.int .i64 1))])
    (h : wpList Tryd.prog ops Q rest (a.put o.dst (.agg blkS)) W) : wpList Tryd.prog ops Q (o :: rest) a W := by
  have hf : Tryd.prog.built 29 ((#[(6, .const (.int .i64 1)), (7, .const (.int .i64 1))] : Array (Nat × Operand)).map fun (i, x) => (i, a.eval x)).toList = some blkS := by
    have he : ((#[(6, .const (.int .i64 1)), (7, .const (.int .i64 1))] : Array (Nat × Operand)).map fun (i, x) => (i, a.eval x)).toList = [(6, .int .i64 1), (7, .int .i64 1)] := by
      have h1 : a.eval (.const (.int .i64 1)) = .int .i64 1 := rfl
      simp [h1]
    rw [he]
    exact built_blkS
  refine wpList_build hgd 29 _ ho (by rw [hf]; rfl) ?_
  rw [hf]
  exact h
theorem blkN_at {ops : Array Oper} {rest : List Oper} {o : Oper} {a : Act} {W : World} {Q : Exit → Act → World → Prop} (hgd : o.guard = none) (x z : Operand) (ho : o.op = .build 31 #[(0, x), (1, .const (.int .i64 1)), (5, z)]) (p : Int) (hx : a.eval x = .int .i64 p) (hz : a.eval z = .agg blkS)
    (h : wpList Tryd.prog ops Q rest (a.put o.dst (.agg (cN (blkN p)))) W) : wpList Tryd.prog ops Q (o :: rest) a W := by
  have hf : Tryd.prog.built 31 ((#[(0, x), (1, .const (.int .i64 1)), (5, z)] : Array (Nat × Operand)).map fun (i, x) => (i, a.eval x)).toList = some (cN (blkN p)) := by
    have he : ((#[(0, x), (1, .const (.int .i64 1)), (5, z)] : Array (Nat × Operand)).map fun (i, x) => (i, a.eval x)).toList = [(0, .int .i64 p), (1, .int .i64 1), (5, .agg blkS)] := by
      have h1 : a.eval (.const (.int .i64 1)) = .int .i64 1 := rfl
      simp [h1, hx, hz]
    rw [he]
    exact built_blkN p
  refine wpList_build hgd 31 _ ho (by rw [hf]; rfl) ?_
  rw [hf]
  exact h
def gutterlaw05_block.f (a0 : Int) : Option (Int × Int × ByteArray × Int × Int × Int × Int × Int × Int × Bool × Int × Int × Int × Bool × Int × Int × Bool × Int × Bool × Int × Int) := some (a0, 1, (⟨#[]⟩ : ByteArray), 0, 0, 0, 0, 0, 0, false, 0, 1, 1, false, 0, 0, false, 0, false, 0, 0)
end Go.Proofs.YtdphijhebppeeaaDoor.G
