/- Chapter 6: Used, Left, for opaque styles. Written by mkF8.py. -/
import Derived.Test.YtjaoaakljcnmeaaDoorF7
import Derived.Laws.Tables
namespace Go.Proofs.YtjaoaakljcnmeaaDoor.G
open Go.RowKit Go.Maps Go.Proofs.YtjaoaakljcnmeaaDoorW.PrintWords Go.Proofs.YtjaoaakljcnmeaaDoorW.PrintLast Go.Proofs.YtjaoaakljcnmeaaDoorW.PrintMore

theorem cells23 (C : Array Value) (hM : C.size = 16) : (Tryd.prog.info? 23).map (·.size) = some C.size := by rw [hM]; kernel_rfl
theorem load23w_at {ops : Array Oper} {rest : List Oper} {o : Oper} {a : Act} {W : World} {Q : Exit → Act → World → Prop} (hgd : o.guard = none) (x : Operand) (ho : o.op = .load 23 x) (b : Nat) (hx : a.eval x = .pointer (some ⟨b, 0, none⟩))
    (S : Array Value) (hS : S.size = 16) (hb : W.heap[b]? = some (.cells S 23 (0, 0))) (h : wpList Tryd.prog ops Q rest (a.put o.dst (.agg S)) W) : wpList Tryd.prog ops Q (o :: rest) a W :=
  wpList_load_row hgd 23 x ho b hx 23 S (0, 0) _ hb Tryd.underlying23 rfl (cells23 S hS) h
/-- A measure is built of a style and a number. -/
def Builds (S M : Array Value) (av : Int) : Prop := Tryd.prog.built 47 [(0, .agg S), (1, .int .i64 av)] = some M
set_option maxRecDepth 1000000 in
theorem builds_st (s0 : Int) (s1 : Int) (s2 : Int) (s3 : Int) (s4 : Bool) (s5 : Int) (s6 : Int) (s7 : Int) (s8 : Bool) (s9 : Int) (s10 : Int) (s11 : Bool) (s12 : Int) (s13 : Bool) (s14 : Int) (s15 : Int) (av : Int) : Builds (stV s0 s1 s2 s3 s4 s5 s6 s7 s8 s9 s10 s11 s12 s13 s14 s15) (msV s0 s1 s2 s3 s4 s5 s6 s7 s8 s9 s10 s11 s12 s13 s14 s15 av) av := by
  show Tryd.prog.built 47 _ = some _
  kernel_rfl
theorem build47_at {ops : Array Oper} {rest : List Oper} {o : Oper} {a : Act} {W : World} {Q : Exit → Act → World → Prop} (hgd : o.guard = none) (x y : Operand) (ho : o.op = .build 47 #[(0, x), (1, y)]) (S M : Array Value) (av : Int) (hx : a.eval x = .agg S) (hy : a.eval y = .int .i64 av) (hB : Builds S M av)
    (h : wpList Tryd.prog ops Q rest (a.put o.dst (.agg M)) W) : wpList Tryd.prog ops Q (o :: rest) a W := by
  have hf : Tryd.prog.built 47 ((#[(0, x), (1, y)] : Array (Nat × Operand)).map fun (i, x) => (i, a.eval x)).toList = some M := by
    unfold Builds at hB
    simpa [hx, hy] using hB
  refine wpList_build hgd 47 _ ho (by rw [hf]; rfl) ?_
  rw [hf]
  exact h
set_option maxRecDepth 1000000 in
set_option maxHeartbeats 4000000 in
theorem Used_gen (S M : Array Value) (av n wd e : Int) (w : World) (hS : S.size = 16) (hB : Builds S M av) (hU : ∀ w' : World, GOK w' → Calls Tryd.prog 21 #[.agg M] w' fun x w'' => x = .returned (.tuple #[.agg #[.int .i64 n, .int .i64 wd], errV e]) ∧ Below w'.heap.size w' w'') (hG : GOK w) :
    Calls Tryd.prog 11 #[.int .i64 av, .agg S] w fun x w' => x = .returned (.tuple #[.int .i64 n, .int .i64 wd, .int .i64 e]) ∧ Below w.heap.size w w' := by
  have hT := told_v e
  generalize errV e = V at *
  have HU := Aside0.mk hU
  have HS := Aside0.mk hS
  have HT := Aside0.mk hT
  have HB := Aside0.mk hB
  have HG := Aside0.mk hG
  have b0 := Aside0.mk (blk_new w (.cells S 23))
  have B0 := Aside0.mk (below_alloc (Below.refl w.heap.size w) (.cells S 23))
  clear hB hU hS hG hT
  go_enter Tryd.func11, Tryd.ntmps11
  go_wp2_with (first | (refine load23w_at rfl _ rfl w.heap.size rfl S HS.out b0.out ?_) | (refine build47_at rfl _ _ rfl S M av rfl rfl HB.out ?_) | (go_at_call 21; refine (HU.out _ (HG.out.below B0.out)).mono ?_; rintro e w2 ⟨rfl, hb⟩; have B2 := Aside0.mk (below_then B0.out B0.out.size hb); clear hb))
  have B3 := Aside0.mk (below_then B2.out B2.out.size (below_alloc (Below.refl _ _) (.cells #[.int .i64 n, .int .i64 wd] 41)))
  have c0 : (w2.alloc (.cells #[.int .i64 n, .int .i64 wd] 41)).cell? ⟨w2.heap.size, 0, none⟩ = some (.int .i64 n) := (blk_cell (blk_new w2 _) 0).trans rfl
  have c1 : (w2.alloc (.cells #[.int .i64 n, .int .i64 wd] 41)).cell? ⟨w2.heap.size, 1, none⟩ = some (.int .i64 wd) := (blk_cell (blk_new w2 _) 1).trans rfl
  go_region_held3 (fun w' => w'.cell? ⟨w2.heap.size, 0, none⟩ = some (.int .i64 n) ∧ w'.cell? ⟨w2.heap.size, 1, none⟩ = some (.int .i64 wd)) (first | exact ⟨k1, k2⟩ | exact ⟨c0, c1⟩ | go_keep) (first | (go_at_call 22; refine (HT.out _ (HG.out.below B3.out.drew)).mono ?_; rintro e w4 ⟨rfl, hb⟩; have k1 := pw_cell_below hb c0; have k2 := pw_cell_below hb c1; have B4 := Aside0.mk (below_then B3.out.drew B3.out.size hb); clear hb))
  all_goals
    go_wp2_with fail
    go_ret3
    exact ⟨rfl, B4.out⟩
set_option maxRecDepth 1000000 in
set_option maxHeartbeats 4000000 in
theorem Left_err (S M : Array Value) (av n wd e i : Int) (w : World) (hS : S.size = 16) (hB : Builds S M av) (hU : ∀ w' : World, GOK w' → Calls Tryd.prog 21 #[.agg M] w' fun x w'' => x = .returned (.tuple #[.agg #[.int .i64 n, .int .i64 wd], .iface 54 (.agg #[.int .i64 e])]) ∧ Below w'.heap.size w' w'') (hG : GOK w) :
    Calls Tryd.prog 12 #[.int .i64 av, .agg S, .int .i64 i] w fun x w' => x = .returned (.tuple #[.int .i64 0, .int .i64 e]) ∧ Below w.heap.size w w' := by
  have HU := Aside0.mk hU
  have HS := Aside0.mk hS
  have HB := Aside0.mk hB
  have HG := Aside0.mk hG
  have b0 := Aside0.mk (blk_new w (.cells S 23))
  have B0 := Aside0.mk (below_alloc (Below.refl w.heap.size w) (.cells S 23))
  clear hU hS hG hB
  go_enter Tryd.func12, Tryd.ntmps12
  go_wp2_with (first | (refine load23w_at rfl _ rfl w.heap.size rfl S HS.out b0.out ?_) | (refine build47_at rfl _ _ rfl S M av rfl rfl HB.out ?_) | (go_at_call 21; refine (HU.out _ (HG.out.below B0.out)).mono ?_; rintro e w2 ⟨rfl, hb⟩; have B2 := Aside0.mk (below_then B0.out B0.out.size hb); have B3 := Aside0.mk (below_then B2.out B2.out.size (below_alloc (Below.refl _ _) (.cells #[.int .i64 n, .int .i64 wd] 41))); clear hb) | (go_at_call 22; refine (told_wrong _ _ (HG.out.below B3.out)).mono ?_; rintro e w4 ⟨rfl, hb⟩; have B4 := Aside0.mk (below_then B3.out B3.out.size hb); clear hb))
  go_ret2
  exact ⟨rfl, B4.out⟩
/-- Where one begins. -/
def leftZ (wd gap i : Int) : Int × Int := if i < 0 ∨ 1000 < i then (0, 2) else (wrap64 (i * wrap64 (wd + gap)), 0)
set_option maxRecDepth 1000000 in
set_option maxHeartbeats 4000000 in
theorem Left_ok (S M : Array Value) (av n wd gap i : Int) (w : World) (hS : S.size = 16) (hgap : S[2]? = some (.int .i64 gap)) (hB : Builds S M av) (hU : ∀ w' : World, GOK w' → Calls Tryd.prog 21 #[.agg M] w' fun x w'' => x = .returned (.tuple #[.agg #[.int .i64 n, .int .i64 wd], .nilIface]) ∧ Below w'.heap.size w' w'') (hG : GOK w) :
    Calls Tryd.prog 12 #[.int .i64 av, .agg S, .int .i64 i] w fun x w' => x = .returned (.tuple #[.int .i64 (leftZ wd gap i).1, .int .i64 (leftZ wd gap i).2]) ∧ Below w.heap.size w w' := by
  have HU := Aside0.mk hU
  have HS := Aside0.mk hS
  have HB := Aside0.mk hB
  have HG := Aside0.mk hG
  have HL := Aside0.mk hgap
  have b0 := Aside0.mk (blk_new w (.cells S 23))
  have B0 := Aside0.mk (below_alloc (Below.refl w.heap.size w) (.cells S 23))
  clear hU hS hG hB hgap
  unfold leftZ
  go_enter Tryd.func12, Tryd.ntmps12
  go_wp2_with (first | (refine load23w_at rfl _ rfl w.heap.size rfl S HS.out b0.out ?_) | (refine build47_at rfl _ _ rfl S M av rfl rfl HB.out ?_) | (go_at_call 21; refine (HU.out _ (HG.out.below B0.out)).mono ?_; rintro e w2 ⟨rfl, hb⟩; have B2 := Aside0.mk (below_then B0.out B0.out.size hb); have B3 := Aside0.mk (below_then B2.out B2.out.size (below_alloc (Below.refl _ _) (.cells #[.int .i64 n, .int .i64 wd] 41))); have b3 := blk_alloc (blk_below b0.out (below_then (Below.refl _ _) (Nat.le_refl _) hb)) (.cells #[.int .i64 n, .int .i64 wd] 41); have c2 := (blk_cell b3 2).trans HL.out; clear hb b3))
  all_goals
    go_ret2
    exact ⟨rfl, B3.out⟩
end Go.Proofs.YtjaoaakljcnmeaaDoor.G
