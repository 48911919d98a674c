/- Chapter 10: lay. -/
import Derived.Test.YtiodlbfdfnideaaDoorF7
import Derived.ScopeJumps
import Derived.WalkMore
namespace Go.Proofs.YtiodlbfdfnideaaDoor.G
open Go.RowKit Go.Shelf Go.Proofs.YtiodlbfdfnideaaDoorW.PrintWords Go.Proofs.YtiodlbfdfnideaaDoorW.PrintLast Go.Proofs.YtiodlbfdfnideaaDoorW.PrintMore

attribute [local go_sem] Oper.semAt_some

theorem cut_full (A : Option Addr) (n c : Nat) (hc : n ≤ c) (W : World) : (Instr.slice 30 (.slice A n c) none (some (.int .i64 n)) (some (.int .i64 n))).run Tryd.prog W = .ok (.slice A n n) W := by
  obtain ⟨i0, hi, _, _, _⟩ := info_parts info42
  have hel : Tryd.prog.elem 30 = 42 := by simp [Program.elem, Tryd.underlying30]
  have ha : (A.map fun x => x.add 0) = A := by cases A <;> simp [Addr.add]
  rw [run_slice_any W 30 A n c (by rw [hel]; exact Tryd.underlying30), hel]
  have e1 : (Instr.sliceBounds true n c none (some (.int .i64 n)) (some (.int .i64 n))).run Tryd.prog W = .ok (0, n, n) W := by
    simp [Instr.sliceBounds, run_sliceBound W .i64 n c _ (by omega) (by omega), run_sliceBound W .i64 n n _ (by omega) (by omega), Result.andThen]
  rw [e1]
  simp [Result.andThen, sizeOf, typeInfo, hi, sliced, ha]

/-- What a caller's own invariant bears: the turn of a block of lay's that is no row of numbers. -/
def AbL {β : Type} (B : Nat) (K : β → World → Prop) : Prop :=
  ∀ s W W' row, K s W → W.grownBy W' row → (∀ r, row = some r → B ≤ r ∧ ∃ o : Obj, W.heap[r]? = some o ∧ ∀ cs, o ≠ .cells cs 2 (0, 0)) → K s W'
/-- What a caller's own step leaves: lay's own blocks. -/
def KeepL (B : Nat) (W W' : World) : Prop := W.heap.size ≤ W'.heap.size ∧ ∀ (k : Nat) (o : Obj), B ≤ k → W.heap[k]? = some o → (∀ cs, o ≠ .cells cs 2 (0, 0)) → W'.heap[k]? = some o

set_option maxRecDepth 100000 in
set_option maxHeartbeats 4000000 in
theorem lay_no (A : Option Addr) (c : Nat) (its : List S42) (fd : FuncId) (caps : Array Value) (w : World) (hr : Kd.C k42 w A its.length its) (hc : its.length ≤ c) (hl : its.length ≤ 1000) (hok : stackB its = false) :
    Calls Tryd.prog 31 #[.slice A its.length c, .func (.func fd) #[] caps] w fun e w' => e = .returned (.tuple #[.pointer none, .iface 67 (.agg #[.int .i64 100])]) ∧ Below w.heap.size w w' := by
  have hcut := cut_full A its.length c hc
  have HOK := Aside0.mk hok
  have hB0 : Aside0 (∀ o1 o2, Below w.heap.size w ((w.alloc o1).alloc o2)) := ⟨fun o1 o2 => below_alloc (below_alloc (Below.refl _ _) _) _⟩
  have HR := Aside0.mk hr
  clear hr hok
  go_enter Tryd.func31, Tryd.ntmps31
  go_wp2
  refine wp_scope_jumps 0 (fun a' w' => ∃ u0 u1 u2 u3 u4 u5 u6 u7 u8 u9 u10 u11 u12 u13 u14 u15 u16 u17 u18 u19 u20 u21 u22 u23 u24 u25 u26 u27 u28 u29 : Value, a' = { tmps := #[u0, u1, u2, u3, u4, u5, u6, u7, u8, u9, u10, u11, u12, u13, u14, u15, u16, u17, u18, u19, u20, u21, u22, u23, u24, u25, u26, u27, u28, u29], defers := [] } ∧ Aside0 (Below w.heap.size w w')) (fun _ _ => 0) rfl ?_ ?_
  · go_wp2_with (go_at_call 21; refine (right_items A c its _ ?rd hl).mono ?_; (case rd => exact Kd.C_below HR.out (hB0.out _ _)); rw [HOK.out]; rintro e w1 ⟨rfl, hb⟩; have HB1 := Aside0.mk (below_then (hB0.out _ _) (hB0.out _ _).size hb); clear hb)
    go_step3
    refine ⟨rfl, _, _, _, _, _, _, _, _, _, _, _, _, _, _, _, _, _, _, _, _, _, _, _, _, _, _, _, _, _, _, rfl, HB1⟩
  · rintro a1 w1 ⟨u0, u1, u2, u3, u4, u5, u6, u7, u8, u9, u10, u11, u12, u13, u14, u15, u16, u17, u18, u19, u20, u21, u22, u23, u24, u25, u26, u27, u28, u29, rfl, hB⟩
    go_wp2_with (go_at_call 26; refine (none_any _).mono ?_; rintro e w' ⟨rfl, rfl⟩)
    dsimp only [Exit.jump]
    go_ret2
    exact ⟨rfl, hB.out⟩

theorem places_any (a : Addr) (w : World) : Calls Tryd.prog 39 #[.pointer (some a)] w fun e w' => e = .returned (.func (.func 44) #[] #[.pointer (some ⟨w.heap.size, 0, none⟩)]) ∧ w' = w.alloc (.cells #[.pointer (some a)] 56) := by
  go_enter Tryd.func39, Tryd.ntmps39
  go_wp2
  go_ret
  exact ⟨rfl, rfl⟩

theorem AbL.put {β : Type} {B : Nat} {K : β → World → Prop} (hK : AbL B K) {s : β} {W : World} {l : Nat} {o : Obj} (o' : Obj) (h : K s W) (hB : B ≤ l) (hl : W.heap[l]? = some o) (ho : ∀ cs, o ≠ .cells cs 2 (0, 0)) : K s (W.putObj l o') :=
  hK s W _ (some l) h (grownBy_putObj' W l o') (fun r e => by injection e with e; subst e; exact ⟨hB, o, hl, ho⟩)
theorem AbL.new {β : Type} {B : Nat} {K : β → World → Prop} (hK : AbL B K) {s : β} {W W' : World} (h : K s W) (hb : Below W.heap.size W W') : K s W' :=
  hK s W _ none h (grown_of_below hb none) (fun r e => by cases e)

set_option maxRecDepth 100000 in
set_option maxHeartbeats 4000000 in
theorem lay_yes (w0 : World) (A : Option Addr) (c : Nat) (its : List S42) (fd : FuncId) (caps : Array Value) (K : List (Int × Int) → World → Prop) (w : World) (hr : Kd.C k42 w0 A its.length its) (hc : its.length ≤ c) (hok : stackB its = true)
    (hK0 : K [] w) (hKB : ∀ s W, K s W → Below w0.heap.size w0 W) (hKa : AbL w.heap.size K) (eg : ∀ args w, (callFunc fd args).run Tryd.prog w = .ok (.enter fd args) w)
    (hdo : ∀ (pre : List (Int × Int)) (x : Int × Int) W, K pre W → pre.length < 200 → Calls Tryd.prog fd (#[.int .i64 (pre.length : Int), .agg #[.int .i64 x.1, .int .i64 x.2]] ++ caps) W fun e W' => e = .returned (.tuple #[]) ∧ K (pre ++ [x]) W' ∧ KeepL w.heap.size W W') :
    CallsIn Fence.wide 8 Tryd.prog 31 #[.slice A its.length c, .func (.func fd) #[] caps] w fun e w' => ∃ Bs, e = .returned (.tuple #[.pointer (some ⟨Bs, 0, none⟩), .nilIface]) ∧ K (runL its).2 w' ∧ StackAt w' Bs (.slice A its.length its.length) (runL its).1 := by
  have hcut := cut_full A its.length c hc
  have hok2 := hok
  simp only [stackB, Bool.and_eq_true, decide_eq_true_eq] at hok2
  obtain ⟨hall, hlen⟩ := hok2
  have HOK := Aside0.mk hok
  have hB0 : Aside0 (∀ o1 o2, Below w.heap.size w ((w.alloc o1).alloc o2)) := ⟨fun o1 o2 => below_alloc (below_alloc (Below.refl _ _) _) _⟩
  have HR := Aside0.mk (Kd.C_below hr (hKB _ _ hK0))
  have HALL := Aside0.mk hall
  have HK0 := Aside0.mk hK0
  have HR0 := Aside0.mk hr
  clear hr hok hall hK0
  refine callsIn_of_wp_marks Tryd.func31 rfl trivial ?_ rfl
  simp only [Tryd.ntmps31, List.size_toArray, List.length_cons, List.length_nil, Nat.reduceAdd, Nat.reduceSub, Array.replicate_succ, Array.replicate_zero, List.push_toArray, List.append_toArray, List.nil_append, List.cons_append]
  gi_wp2
  refine wpIn_scope_wide ?_
  gi_wp2_with fail
  refine ⟨trivial, ?_⟩
  refine (callsIn_wide.2 (right_items A c its _ (Kd.C_below HR.out (hB0.out _ _)) (by omega))).mono ?_
  rw [HOK.out]
  rintro e w1 ⟨rfl, hb⟩
  have hs0 := (below_alloc (Below.refl w.heap.size w) (.cells #[.func (.func fd) #[] caps] 61))
  have bd1 : Boxed w1 w.heap.size 61 (.func (.func fd) #[] caps) := blk_below (blk_alloc (blk_new w (.cells #[.func (.func fd) #[] caps] 61)) _) hb
  have bs1 : w1.heap[w.heap.size + 1]? = some (.cells #[.slice A its.length its.length, .int .i64 0, .int .i64 0, .int .i64 0, .int .i64 0] 64 (0, 0)) := by
    have := blk_below (blk_new (w.alloc (.cells #[.func (.func fd) #[] caps] 61)) (.cells #[.slice A its.length its.length, .int .i64 0, .int .i64 0, .int .i64 0, .int .i64 0] 64)) hb
    simpa using this
  have k1 : K [] w1 := hKa.new HK0.out (below_then (hB0.out _ _) (hB0.out _ _).size hb)
  have z1 : w.heap.size + 2 ≤ w1.heap.size := by have := hb.size; simp at this; omega
  have BD1 := Aside0.mk bd1
  have BS1 := Aside0.mk bs1
  have K1 := Aside0.mk k1
  clear hb hs0 bd1 bs1 k1 HK0 hB0
  gi_wp2_with fail
  refine ⟨trivial, ?_⟩
  refine (callsIn_wide.2 (places_any _ _)).mono ?_
  rintro e w2 ⟨rfl, rfl⟩
  gi_wp2
  have bd2 := blk_alloc BD1.out (.cells #[.pointer (some ⟨w.heap.size + 1, 0, none⟩)] 56)
  have bs2 := blk_alloc BS1.out (.cells #[.pointer (some ⟨w.heap.size + 1, 0, none⟩)] 56)
  have bp2 := blk_new w1 (.cells #[.pointer (some ⟨w.heap.size + 1, 0, none⟩)] 56)
  have k2 := hKa.new K1.out (below_alloc (Below.refl _ w1) (.cells #[.pointer (some ⟨w.heap.size + 1, 0, none⟩)] 56))
  have z2 : (w1.alloc (.cells #[.pointer (some ⟨w.heap.size + 1, 0, none⟩)] 56)).heap.size = w1.heap.size + 1 := by simp
  clear BD1 BS1 K1
  generalize w1.alloc (.cells #[.pointer (some ⟨w.heap.size + 1, 0, none⟩)] 56) = W0 at *
  refine range_whole (F := Fence.wide) rfl (by omega) (gf := 44) (lb := #[.pointer (some ⟨w1.heap.size, 0, none⟩)]) rfl trivial (enters_of Tryd.func44 (by kernel_rfl) rfl)
    (fun W2 => K (runL its).2 W2 ∧ StackAt W2 (w.heap.size + 1) (.slice A its.length its.length) (runL its).1) ?hcall ?hdone
  case hcall =>
    intro fn hfn
    generalize hrec : ({ state := .ready, pending := none, fn, tmps := _, params := _, assign := _, body := _, defers := W0.heap.size } : Loop) = r
    have hst : r.state = .ready := by rw [← hrec]
    have hpe : r.pending = none := by rw [← hrec]
    have hrf : Fence.wide.fn r.fn := trivial
    have ready0 : ReadyAt r W0.heap.size ((W0.alloc (.deferred (some []))).alloc (.loop r)) := by
      refine ⟨?_, blk_alloc (blk_new W0 _) _⟩
      have := blk_new (W0.alloc (.deferred (some []))) (.loop r)
      simpa using this
    have below0 : Below W0.heap.size W0 ((W0.alloc (.deferred (some []))).alloc (.loop r)) := below_alloc (below_alloc (Below.refl _ _) _) _
    refine (places1_in 7 (by omega) (W0.heap.size + 1) (w.heap.size + 1) w1.heap.size A its w0 HR0.out HALL.out hlen
      (fun pre W => K pre W ∧ ReadyAt r W0.heap.size W ∧ Boxed W w.heap.size 61 (.func (.func fd) #[] caps)) ?hJ (fun s W h => hKB s W h.1) ?hY _ (blk_below bs2 below0) (blk_below bp2 below0) ⟨hKa.new k2 below0, ready0, blk_below bd2 below0⟩).mono ?_
    case hJ =>
      rintro s W W' ⟨h1, h2, h3⟩ hg ⟨cs, hc⟩
      exact ⟨hKa _ _ _ _ h1 hg (fun r e => by injection e with e; subst e; exact ⟨by omega, _, hc, fun cs e => by injection e with e1 e2 e3; cases e2⟩), h2.kept hg hc, blk_grown h3 hg (fun e => by injection e with e; omega)⟩
    case hY =>
      rintro pre x W ⟨h1, h2, h3⟩ hlen ⟨cs, hcs⟩ ⟨v, hp⟩
      refine yield_round h2.1 hst hpe hrf (by rw [← hrec]; rfl) ?_
      have e1 := congrArg Loop.assign hrec
      have e2 := congrArg Loop.params hrec
      have e3 := congrArg Loop.body hrec
      have e4 := congrArg Loop.tmps hrec
      dsimp only at e1 e2 e3 e4
      clear hrec
      generalize hbz : ({ r with state := LoopState.busy } : Loop) = rb
      rw [← e1, ← e2, ← e3, ← e4]
      clear e1 e2 e3 e4
      have H1 := Aside0.mk h1
      have H2 := Aside0.mk h2
      have H3 := Aside0.mk h3
      have HC := Aside0.mk hcs
      have HP := Aside0.mk hp
      clear h1 h2 h3 hcs hp
      gi_wp2
      refine And.intro (blk_alloc H2.out.1 _) ?_
      have hl := blk_alloc H2.out.1 (.cells #[.int .i64 x.1, .int .i64 x.2] 60)
      have hp0 := blk_new W (.cells #[.int .i64 x.1, .int .i64 x.2] 60)
      have hk := hKa.new H1.out (below_alloc (Below.refl _ W) (.cells #[.int .i64 x.1, .int .i64 x.2] 60))
      have hd := blk_alloc H2.out.2 (.cells #[.int .i64 x.1, .int .i64 x.2] 60)
      have hb := blk_alloc H3.out (.cells #[.int .i64 x.1, .int .i64 x.2] 60)
      have hs := blk_alloc HC.out (.cells #[.int .i64 x.1, .int .i64 x.2] 60)
      have hq := blk_alloc HP.out (.cells #[.int .i64 x.1, .int .i64 x.2] 60)
      have hlt := blk_lt H2.out.1
      generalize W.alloc (.cells #[.int .i64 x.1, .int .i64 x.2] 60) = Wa at *
      have hl2 : (Wa.putObj (W0.heap.size + 1) (.loop rb)).heap[W0.heap.size + 1]? = some (.loop rb) := World.putObj_heap_same (blk_lt hl)
      have hp2 := (World.putObj_heap_other (w := Wa) (o := .loop rb) (show W.heap.size ≠ W0.heap.size + 1 by omega)).trans hp0
      have hk2 := hKa.put (.loop rb) hk (by omega) hl (fun cs e => by cases e)
      have hd2 := (World.putObj_heap_other (w := Wa) (o := .loop rb) (show W0.heap.size ≠ W0.heap.size + 1 by omega)).trans hd
      have hb2 := (World.putObj_heap_other (w := Wa) (o := .loop rb) (show w.heap.size ≠ W0.heap.size + 1 by omega)).trans hb
      have hs2 := (World.putObj_heap_other (w := Wa) (o := .loop rb) (show w.heap.size + 1 ≠ W0.heap.size + 1 by omega)).trans hs
      have hq2 := (World.putObj_heap_other (w := Wa) (o := .loop rb) (show w1.heap.size ≠ W0.heap.size + 1 by omega)).trans hq
      clear hp0 hk hd hb hs hq
      generalize Wa.putObj (W0.heap.size + 1) (.loop rb) = Wb at *
      have hc0 : Wb.cell? ⟨w.heap.size, 0, none⟩ = some (.func (.func fd) #[] caps) := (blk_cell hb2 0).trans rfl
      have hc1 : Wb.cell? ⟨W.heap.size, 0, none⟩ = some (.int .i64 x.1) := (blk_cell hp2 0).trans rfl
      have hc2 : Wb.cell? ⟨W.heap.size, 1, none⟩ = some (.int .i64 x.2) := (blk_cell hp2 1).trans rfl
      have HCALL := Aside0.mk (hdo pre x Wb hk2 hlen)
      have F1 := Aside0.mk hl2
      have F2 := Aside0.mk hd2
      have F3 := Aside0.mk hb2
      have F4 := Aside0.mk hs2
      have F5 := Aside0.mk hq2
      clear hl hl2 hp2 hk2 hd2 hb2 hs2 hq2
      gi_wp2_with fail
      refine ⟨trivial, ?_⟩
      refine (CallsIn.inRound _ (callsIn_wide.2 HCALL.out)).mono ?_
      rintro e W3 ⟨rfl, hk3, hkeep⟩
      gi_wp2
      have g1 := hkeep.2 _ _ (by omega) F1.out (fun cs e => by cases e)
      have g2 := hkeep.2 _ _ (by omega) F2.out (fun cs e => by cases e)
      have g3 := hkeep.2 _ _ (by omega) F3.out (fun cs e => by cases e)
      have g4 := hkeep.2 _ _ (by omega) F4.out (fun cs e => by cases e)
      have g5 := hkeep.2 _ _ (by omega) F5.out (fun cs e => by cases e)
      rw [z2] at g1 g2
      exact ⟨g1, ⟨hKa.put (.loop r) hk3 (by omega) g1 (fun cs e => by cases e), ⟨World.putObj_heap_same (blk_lt g1), (World.putObj_heap_other (by omega)).trans g2⟩, (World.putObj_heap_other (by omega)).trans g3⟩, ((World.putObj_heap_other (by omega)).trans g4).trans HC.out.symm, ((World.putObj_heap_other (by omega)).trans g5).trans HP.out.symm⟩
    · rintro e W' ⟨⟨v, rfl⟩, ⟨h1, h2, h3⟩, h4⟩
      exact ⟨⟨v, rfl⟩, ⟨h1, h4⟩, h2⟩
  case hdone =>
    rintro o W2 ⟨hK2, hS2⟩ ⟨r, hr⟩ hD
    have k3 := hKa.put o hK2 (by omega) hr (fun cs e => by cases e)
    have s3 : StackAt (W2.putObj (W0.heap.size + 1) o) (w.heap.size + 1) (.slice A its.length its.length) (runL its).1 := by obtain ⟨n, h⟩ := hS2; exact ⟨n, (World.putObj_heap_other (by omega)).trans h⟩
    have d3 : (W2.putObj (W0.heap.size + 1) o).heap[W0.heap.size]? = some (.deferred (some [])) := (World.putObj_heap_other (by omega)).trans hD
    have k4 := hKa.put (.deferred none) k3 (by omega) d3 (fun cs e => by cases e)
    have s4 : StackAt ((W2.putObj (W0.heap.size + 1) o).putObj W0.heap.size (.deferred none)) (w.heap.size + 1) (.slice A its.length its.length) (runL its).1 := by obtain ⟨n, h⟩ := s3; exact ⟨n, (World.putObj_heap_other (by omega)).trans h⟩
    have K4 := Aside0.mk k4
    have S4 := Aside0.mk s4
    have D3 := Aside0.mk d3
    clear hK2 hS2 hr hD k3 s3 d3 k4 s4
    gi_wp2
    rw [Exit.noGoto_ret]
    refine ⟨by simp, .inl ⟨_, _, rfl, run_takeDeferred D3.out, ?_⟩⟩
    exact ⟨_, results_tmp2 rfl _ _ _, w.heap.size + 1, rfl, K4.out, S4.out⟩
end Go.Proofs.YtiodlbfdfnideaaDoor.G
