/- YtnfbfachabdahaaF2, YtnfbfachabdahaaF3, YtnfbfachabdahaaF4, YtnfbfachabdahaaF5, YtnfbfachabdahaaF6, YtnfbfachabdahaaF7, YtnfbfachabdahaaF8, YtnfbfachabdahaaF9, YtnfbfachabdahaaF10, YtnfbfachabdahaaF11, YtnfbfachabdahaaF12, YtnfbfachabdahaaF13, YtnfbfachabdahaaF14, YtnfbfachabdahaaF15: texts of ours, one behind the other. Put together by merge.py. -/
import Derived.Test.YtnfbfachabdahaaF1
import Derived.Laws.RangeAny
import Derived.Test.YtnfbfachabdahaaS
import Derived.Lib.ConvBytes
import Derived.RangeFuncNested
import Derived.RangeFuncBound
import Derived.RangeFuncCalls
import Derived.RangeFuncLeaves
import Derived.RangeFuncBox
import Derived.Shelf.Abstract
import Derived.Shelf.RegionOpen
import Derived.OwnWalkIn
import Derived.TacticsInMore
import Derived.LoopNIn
import Derived.LoopIn
import Derived.StillTailTactics
import Derived.Sort.CutIn
import Derived.BigRegionIn
import Derived.Sort.QuietIn
import Derived.RangeFuncKeeps
import Derived.RangeFuncOwn
import Derived.Lib.Builder
import Derived.Lib.AppendStr
import Derived.Lib.UnsafeStr
import Derived.Lib.Strings
import Derived.Lib.Walk
import Derived.Laws.Externs
import Derived.Test.YtnfbfachabdahaaP2
import Derived.Deep.RegionHeld3
import Derived.Deep.DeepCutAuto
import Derived.Deep.QuietTactic
import Derived.BigQuiet
/- Chapter 7: bytes of a text are given a width. Written by mkF2.py. -/
namespace Go.Proofs.Ytnfbfachabdahaa.G
open Go.RowKit Go.Shelf Go.Proofs.YtnfbfachabdahaaW.PrintWords Go.Proofs.YtnfbfachabdahaaW.PrintLast Go.Proofs.YtnfbfachabdahaaW.PrintMore
open Go.Maps (Keyed IsMap)

def bstr (l : List UInt8) : ByteArray := ⟨l.toArray⟩
theorem bstr_size (l : List UInt8) : (bstr l).size = l.length := by simp [bstr, ByteArray.size]
theorem bstr_app (l m : List UInt8) : bstr l ++ bstr m = bstr (l ++ m) := by
  apply ByteArray.ext
  simp [bstr]
theorem bstr_get (l : List UInt8) (k : Nat) (h : k < (bstr l).size) : (bstr l)[k]'h = l[k]'(by rw [bstr_size] at h; exact h) := by
  show (bstr l).data[k]'_ = _
  simp [bstr]
/-- A world in which an iterator over a text stands elsewhere. -/
def itW (W : World) (g : Nat) (s : ByteArray) (p : Nat) : World := { W with heap := W.heap.setIfInBounds g (.stringIter s p) }
theorem itW_new {W : World} {g : Nat} {s s' : ByteArray} {p p' : Nat} (h : W.heap[g]? = some (.stringIter s' p')) : (itW W g s p).heap[g]? = some (.stringIter s p) := by
  have := (Array.getElem?_eq_some_iff.1 h).1
  simp [itW, this]
theorem itW_grown (W : World) (g : Nat) (s : ByteArray) (p : Nat) : W.grownBy (itW W g s p) (some g) :=
  ⟨rfl, rfl, rfl, by simp [itW], fun i hi hne => by
    have : g ≠ i := fun e => hne (by rw [e])
    simp [itW, Array.getElem?_setIfInBounds_ne this]⟩
theorem next_ascii {W : World} {g : Nat} {s : ByteArray} {p : Nat} (hg : W.heap[g]? = some (.stringIter s p)) (ty : TypeId) (h : p < s.size) (ha : (s[p]'h).toNat < 128) :
    (Instr.next (.pointer (some ⟨g, 0, none⟩)) true ty).run Try.prog W = .ok (.tuple #[.bool true, .int .i64 p, .int .i32 (s[p]'h).toNat]) (itW W g s (p + 1)) := by
  simp only [Instr.next, getObj, setObj, Sem.run_bind, Sem.run, hg, Result.andThen, h, if_true, decode_ascii s p h ha]
  simp [goInt, itW]
theorem next_end {W : World} {g : Nat} {s : ByteArray} {p : Nat} (hg : W.heap[g]? = some (.stringIter s p)) (ty : TypeId) (h : ¬ p < s.size) :
    (Instr.next (.pointer (some ⟨g, 0, none⟩)) true ty).run Try.prog W = .ok (.tuple #[.bool false]) W := by
  simp [Instr.next, getObj, Sem.run, hg, h]

/-! the map of widths -/
def byteKey (c : UInt8) : Lit := .int .u8 c.toNat
def wideR : Value → Option (DataW Unit × List MemPlace)
  | .int .i64 n => some (.lit (.int .i64 n), [])
  | _ => none
theorem wideR_inv {v : Value} {d : DataW Unit} {ps : List MemPlace} (h : wideR v = some (d, ps)) : ∃ n, v = .int .i64 n ∧ d = .lit (.int .i64 n) := by
  unfold wideR at h
  split at h
  · cases h
    exact ⟨_, rfl, rfl⟩
  · cases h
def putAll (D : DataW Unit) (n : Int) (l : List UInt8) : DataW Unit := l.foldl (fun D c => D.put (byteKey c) (.lit (.int .i64 n))) D
theorem putAll_snoc (D : DataW Unit) (n : Int) (l : List UInt8) (c : UInt8) : putAll D n (l ++ [c]) = (putAll D n l).put (byteKey c) (.lit (.int .i64 n)) := by simp [putAll]
theorem law5 : Keyed Try.prog 5 := Maps.int_keyed Try.underlying5
theorem wf8 (c : UInt8) : (Lit.int .u8 c.toNat).wf = true := by
  have := c.toNat_lt
  simp [Lit.wf, IntKind.min, IntKind.max, IntKind.signed, IntKind.bits]
  omega
theorem key5 (c : UInt8) : keyOf Try.prog 5 (.int .u8 c.toNat) = some (byteKey c) := Maps.keyOf_int_mk Try.underlying5 (wf8 c)
theorem key5m (c : UInt8) : keyOf Try.prog 5 (.int .u8 ((c.toNat : Int) % 256)) = some (byteKey c) := by
  have := c.toNat_lt
  rw [show (c.toNat : Int) % 256 = c.toNat by omega]
  exact key5 c
/-- An entry of a map's literal. -/
theorem wpList_insert_own (w : World) {ops : Array Oper} {rest : List Oper} {o : Oper} {a : Act} {Q : Exit → Act → World → Prop}
    (hg : o.guard = none) (m x v : Operand) (t : TypeId) (hop : o.op = Op.insert t m x v)
    (k e : TypeId) (K : Keyed Try.prog k) (ht : Try.prog.underlying t = some (.map k e)) (R : Value → Option (DataW Unit × List MemPlace)) (b n : Nat) (D : DataW Unit)
    (hm : a.eval m = .map (some b)) (hown : w.ownsMap Try.prog k R b n D) (hn : n < maxLen) (key val : Value) (kl : Lit) (hx : a.eval x = key) (hv : a.eval v = val) (hkey : keyOf Try.prog k key = some kl)
    (d : DataW Unit) (ps : List MemPlace) (hval : R val = some (d, ps))
    (hK : ∀ w', w'.ownsMap Try.prog k R b (n + 1) (D.put kl d) → w.grownBy w' (some b) → wpList Try.prog ops Q rest (a.put o.dst undef) w') :
    wpList Try.prog ops Q (o :: rest) a w := by
  refine wpList_plain hg fun K' hK' => ?_
  obtain ⟨w', hrun, r1, r2⟩ := hown.update K ht hn hkey hval
  unfold Oper.wp
  simp [execOp, hop, hm, hx, hv, hrun, Result.andThen]
  exact hK' _ _ (hK w' r1 r2)
theorem own_grown {w w' : World} {m n r : Nat} {D : DataW Unit} (h : w.ownsMap Try.prog 5 wideR m n D) (hg : w.grownBy w' (some r)) (hne : m ≠ r) : w'.ownsMap Try.prog 5 wideR m n D := h.kept hg (fun e => hne (Option.some.inj e))
set_option maxRecDepth 100000 in
set_option maxHeartbeats 1000000 in
theorem add_any (b m k0 : Nat) (x0 x1 x2 : Value) (l : List UInt8) (hl : l.length ≤ 100) (hk0 : k0 ≤ 100) (ha : ∀ c ∈ l, c.toNat < 128) (n : Int) (D : DataW Unit) (w : World) (hb : w.heap[b]? = some (.cells #[x0, x1, x2, .map (some m)] 65 (0, 0))) (hm : w.ownsMap Try.prog 5 wideR m k0 D) (hmb : m ≠ b) :
    Calls Try.prog 54 #[.pointer (some ⟨b, 0, none⟩), .string (bstr l), .int .i64 n] w fun e w' => e = .returned (.tuple #[]) ∧ w'.ownsMap Try.prog 5 wideR m (k0 + l.length) (putAll D n l) ∧ w.grownBy w' (some m) := by
  have HB := Aside0.mk hb
  have HM := Aside0.mk hm
  have HA := Aside0.mk ha
  have hml := hm.lt
  have hbl := blk_lt hb
  have hg0 := World.iter_heap w (bstr l) 0
  have HG0 := Aside0.mk hg0
  clear hb hm ha hg0
  go_enter Try.func54, Try.ntmps54
  go_wp2
  go_loopw [7] (fun _ wr => ∃ k : Nat, k ≤ l.length ∧ Aside0 (wr.heap[w.heap.size]? = some (.stringIter (bstr l) k)) ∧ Aside0 (wr.ownsMap Try.prog 5 wideR m (k0 + k) (putAll D n (l.take k))) ∧ Aside0 (w.grownBy wr (some m))) (fun _ wr => l.length - wr.iterPos w.heap.size)
  case atStart => exact ⟨0, Nat.zero_le _, HG0, ⟨HM.out.kept (World.grownBy_alloc w _ none) (by simp)⟩, ⟨World.grownBy_alloc w _ _⟩⟩
  case round =>
    obtain ⟨k, hk, HI, HO, HG⟩ := hrel
    have hB := blk_grown HB.out HG.out (fun e => hmb (Option.some.inj e).symm)
    by_cases hlt : k < l.length
    · have hp : k < (bstr l).size := by rw [bstr_size]; exact hlt
      have hc : (bstr l)[k]'hp = l[k] := bstr_get l k hp
      have h128 := HA.out l[k] (List.getElem_mem hlt)
      have ht : l.take (k + 1) = l.take k ++ [l[k]] := List.take_succ_eq_append_getElem hlt
      have hnx : ∀ ty, (Instr.next (.pointer (some ⟨w.heap.size, 0, none⟩)) true ty).run Try.prog wr = .ok (.tuple #[.bool true, .int .i64 k, .int .i32 l[k].toNat]) (itW wr w.heap.size (bstr l) (k + 1)) := fun ty => by
        have h := next_ascii HI.out ty hp (by rw [hc]; exact h128)
        rw [hc] at h
        exact h
      have hit := itW_grown wr w.heap.size (bstr l) (k + 1)
      have HI0 := HI
      have HB2 := Aside0.mk (blk_grown hB hit (fun e => by have := Option.some.inj e; omega))
      have HO2 := Aside0.mk (own_grown HO.out hit (by omega))
      have HI2 := Aside0.mk (itW_new (s := bstr l) (p := k + 1) HI.out)
      have hG2 : w.grownBy (itW wr w.heap.size (bstr l) (k + 1)) (some m) := ⟨hit.os.trans HG.out.os, hit.tape.trans HG.out.tape, hit.output.trans HG.out.output, Nat.le_trans HG.out.size hit.size, fun i hi hne => (hit.block i (Nat.lt_of_lt_of_le hi HG.out.size) (fun e => by have := Option.some.inj e; omega)).trans (HG.out.block i hi hne)⟩
      have HG3 := Aside0.mk hG2
      generalize itW wr w.heap.size (bstr l) (k + 1) = w1 at *
      have e3 : w1.cell? ⟨b, 3, none⟩ = some (.map (some m)) := (blk_cell HB2.out 3).trans rfl
      have hkey := Aside0.mk (key5m l[k])
      have HT := Aside0.mk ht
      clear hG2 hit hB HG HI HO hc h128 ht
      generalize l[k] = c at *
      go_wp2_with (at_mapUpdate; refine wpList_mapUpdate_own _ rfl _ _ _ 63 rfl 5 2 law5 Try.underlying63 _ m (k0 + k) _ rfl HO2.out (by unfold maxLen; omega) _ _ (byteKey c) rfl rfl (by exact hkey.out) (.lit (.int .i64 n)) [] rfl ?_; intro w2 hown2 hgrow2)
      go_roundw
      case rel => exact ⟨_, _, _, _, _, _, _, _, _, _, _, ⟨k + 1, by omega, ⟨blk_grown HI2.out hgrow2 (fun e => by have := Option.some.inj e; omega)⟩, ⟨by rw [HT.out, putAll_snoc]; exact hown2⟩, ⟨grown_trans HG3.out hgrow2⟩⟩, rfl⟩
      case measure =>
        have h1 := blk_grown HI2.out hgrow2 (fun e => by have := Option.some.inj e; omega)
        simp only [World.iterPos, h1]
        have h0 := HI0.out
        simp only [h0]
        omega
    · have e : k = l.length := by omega
      subst e
      have hnx : ∀ ty, (Instr.next (.pointer (some ⟨w.heap.size, 0, none⟩)) true ty).run Try.prog wr = .ok (.tuple #[.bool false]) wr := fun ty => next_end HI.out ty (by rw [bstr_size]; exact hlt)
      rw [List.take_length] at HO
      go_wp2
      go_end0
      exact ⟨rfl, HO.out, HG.out⟩
end Go.Proofs.Ytnfbfachabdahaa.G
/- Chapter 7: widths are made once. Written by mkF3.py. -/
namespace Go.Proofs.Ytnfbfachabdahaa.G
open Go.RowKit Go.Shelf Go.Proofs.YtnfbfachabdahaaW.PrintWords Go.Proofs.YtnfbfachabdahaaW.PrintLast Go.Proofs.YtnfbfachabdahaaW.PrintMore
open Go.Maps (Keyed IsMap)

def wideD1 : DataW Unit := (DataW.map []).put (byteKey 32) (.lit (.int .i64 256))
def wideD2 : DataW Unit := putAll wideD1 192 [105, 106, 108, 46, 44, 39, 33, 124]
def wideD : DataW Unit := putAll wideD2 576 [109, 119, 77, 87]
/-- Widths that are made; that are not. -/
def Made (b : Nat) (w : World) : Prop := ∃ m, m ≠ b ∧ w.heap[b]? = some (.cells #[.int .u32 1, .int .i32 0, .int .u32 0, .map (some m)] 65 (0, 0)) ∧ w.ownsMap Try.prog 5 wideR m 13 wideD
def Fresh (b : Nat) (w : World) : Prop := w.heap[b]? = some (.cells #[.int .u32 0, .int .i32 0, .int .u32 0, .map none] 65 (0, 0))
theorem Made.grown {b r : Nat} {w w' : World} (h : Made b w) (hg : w.grownBy w' (some r)) (hb : b ≠ r) (hr : w.heap.size ≤ r) : Made b w' := by
  obtain ⟨m, h0, h1, h2⟩ := h
  have := h2.lt
  exact ⟨m, h0, blk_grown h1 hg (fun e => hb (Option.some.inj e)), own_grown h2 hg (by omega)⟩
theorem Made.below {b : Nat} {w w' : World} (h : Made b w) (hb : Below w.heap.size w w') : Made b w' := by
  obtain ⟨m, h0, h1, h2⟩ := h
  exact ⟨m, h0, blk_below h1 hb, h2.kept (grown_of_below hb none) (by simp)⟩
theorem Made.lt {b : Nat} {w : World} (h : Made b w) : b < w.heap.size := by
  obtain ⟨m, _, h1, _⟩ := h
  exact blk_lt h1
theorem grown_none {w w' : World} (h : w.grownBy w' none) : Below w.heap.size w w' := ⟨h.os, h.tape, h.output, h.size, fun k hk => h.block k hk (by simp)⟩
theorem grown_two {w a b c : World} {r m : Nat} (h : w.grownBy a (some r)) (g : a.grownBy b (some m)) (k : b.grownBy c (some m)) (hm : w.heap.size ≤ m) : w.grownBy c (some r) :=
  ⟨k.os.trans (g.os.trans h.os), k.tape.trans (g.tape.trans h.tape), k.output.trans (g.output.trans h.output), Nat.le_trans h.size (Nat.le_trans g.size k.size), fun i hi hne => by
    have hi1 := Nat.lt_of_lt_of_le hi h.size
    rw [k.block i (Nat.lt_of_lt_of_le hi1 g.size) (fun e => by have := Option.some.inj e; omega), g.block i hi1 (fun e => by have := Option.some.inj e; omega), h.block i hi hne]⟩
theorem key32 : keyOf Try.prog 5 (.int .u8 32) = some (byteKey 32) := key5 32
set_option maxRecDepth 100000 in
set_option maxHeartbeats 2000000 in
theorem make_any (g b : Nat) (x0 x1 x2 x3 : Value) (w : World) (hg : w.heap[g]? = some (.cells #[.pointer (some ⟨b, 0, none⟩)] 50 (0, 0))) (hb : w.heap[b]? = some (.cells #[x0, x1, x2, x3] 65 (0, 0))) :
    Calls Try.prog 53 #[.pointer (some ⟨g, 0, none⟩)] w fun e w' => e = .returned (.tuple #[]) ∧ (∃ m, m ≠ b ∧ w'.heap[b]? = some (.cells #[x0, x1, x2, .map (some m)] 65 (0, 0)) ∧ w'.ownsMap Try.prog 5 wideR m 13 wideD) ∧ w.grownBy w' (some b) := by
  have hgb : g ≠ b := blk_ne hg hb (by decide)
  have hgl := blk_lt hg
  have hbl := blk_lt hb
  have hmm := @run_makeMap Try.prog
  have HM0 := Aside0.mk (World.ownsMap_made w Try.prog 5 wideR)
  have HG0 := Aside0.mk (World.grownBy_alloc w (.map #[] 0) none)
  have HGG := Aside0.mk hg
  have HBB := Aside0.mk hb
  have cg : w.cell? ⟨g, 0, none⟩ = some (.pointer (some ⟨b, 0, none⟩)) := (blk_cell hg 0).trans rfl
  clear hg hb
  go_enter Try.func53, Try.ntmps53
  go_wp2_with (first | (refine wpList_insert_own _ rfl _ _ _ 63 rfl 5 2 law5 Try.underlying63 wideR w.heap.size 0 _ rfl HM0.out (by unfold maxLen; omega) _ _ (byteKey 32) rfl rfl key32 (.lit (.int .i64 256)) [] rfl ?_; intro w1 hown hgrow; have hq : w.grownBy w1 none := ⟨hgrow.os.trans HG0.out.os, hgrow.tape.trans HG0.out.tape, hgrow.output.trans HG0.out.output, Nat.le_trans HG0.out.size hgrow.size, fun i hi _ => (hgrow.block i (Nat.lt_of_lt_of_le hi HG0.out.size) (fun e => by have := Option.some.inj e; omega)).trans (HG0.out.block i hi (by simp))⟩; have B1 := Aside0.mk (blk_grown HBB.out hq (by simp)); have C1 := Aside0.mk (blk_grown HGG.out hq (by simp)); have hs1 := hown.lt; have O1 := Aside0.mk hown; have Q1 := Aside0.mk hq; have k3 : w1.cell? ⟨b, 3, none⟩ = some x3 := (blk_cell B1.out 3).trans rfl; have f3 := blk_frozen B1.out 3; have k0 : w1.cell? ⟨g, 0, none⟩ = some (.pointer (some ⟨b, 0, none⟩)) := (blk_cell C1.out 0).trans rfl; clear hgrow hown hq) | (go_at_call 54; have B2 := Aside0.mk (blk_put B1.out 3 (.map (some w.heap.size)) rfl); have C2 := Aside0.mk (blk_far C1.out (p := ⟨b, 3, none⟩) hgb (.map (some w.heap.size))); refine calls_of_args (args' := #[.pointer (some ⟨b, 0, none⟩), .string (bstr [105, 106, 108, 46, 44, 39, 33, 124]), .int .i64 192]) (by rfl) ?_; with_reducible refine (add_any b w.heap.size 1 x0 x1 x2 [105, 106, 108, 46, 44, 39, 33, 124] (by decide) (by decide) (by decide) 192 _ _ B2.out (O1.out.setCell (a := ⟨b, 3, none⟩) (by show w.heap.size ≠ b; omega) _) (by omega)).mono ?_; rintro e w2 ⟨rfl, hO, hG⟩; have O2 := Aside0.mk hO; have G2 := Aside0.mk hG; have B3 := Aside0.mk (blk_grown B2.out hG (fun e => by have := Option.some.inj e; omega)); have C3 := Aside0.mk (blk_grown C2.out hG (fun e => by have := Option.some.inj e; omega)); have k02 : w2.cell? ⟨g, 0, none⟩ = some (.pointer (some ⟨b, 0, none⟩)) := (blk_cell C3.out 0).trans rfl; clear hO hG k0 k3) | (go_at_call 54; refine calls_of_args (args' := #[.pointer (some ⟨b, 0, none⟩), .string (bstr [109, 119, 77, 87]), .int .i64 576]) (by rfl) ?_; with_reducible refine (add_any b w.heap.size 9 x0 x1 x2 [109, 119, 77, 87] (by decide) (by decide) (by decide) 576 _ _ B3.out O2.out (by omega)).mono ?_; rintro e w3 ⟨rfl, hO, hG⟩; have O3 := Aside0.mk hO; have G3 := Aside0.mk hG; have B4 := Aside0.mk (blk_grown B3.out hG (fun e => by have := Option.some.inj e; omega)); clear hO hG k02))
  go_end0
  have q1 := below_grown b (grown_none Q1.out)
  exact ⟨rfl, ⟨w.heap.size, by omega, B4.out, O3.out⟩, grown_two (grown_set q1) G2.out G3.out (Nat.le_refl _)⟩
end Go.Proofs.Ytnfbfachabdahaa.G
/- Chapter 7: Once; a byte's width. Written by mkF4.py. -/
namespace Go.Proofs.Ytnfbfachabdahaa.G
open Go.RowKit Go.Shelf Go.Proofs.YtnfbfachabdahaaW.PrintWords Go.Proofs.YtnfbfachabdahaaW.PrintLast Go.Proofs.YtnfbfachabdahaaW.PrintMore
open Go.Maps (Keyed IsMap)

set_option maxRecDepth 100000 in
set_option maxHeartbeats 2000000 in
theorem slow_any (g b : Nat) (w : World) (hg : w.heap[g]? = some (.cells #[.pointer (some ⟨b, 0, none⟩)] 50 (0, 0))) (hb : Fresh b w) :
    Calls Try.prog 65 #[.pointer (some ⟨b, 0, none⟩), .func (.func 53) #[] #[.pointer (some ⟨g, 0, none⟩)]] w fun e w' => e = .returned (.tuple #[]) ∧ Made b w' ∧ w.grownBy w' (some b) := by
  have hgb : g ≠ b := blk_ne hg hb (by decide)
  have b1 := blk_put hb 1 (.int .i32 1) rfl
  have c1 := blk_far hg (p := ⟨b, 1, none⟩) hgb (.int .i32 1)
  have B0 := Aside0.mk hb
  have B1 := Aside0.mk b1
  have C1 := Aside0.mk c1
  have hl := run_call_load (P := Try.prog) Try.func68 (by kernel_rfl) (by kernel_rfl) (by kernel_rfl) .u32 (by kernel_rfl) (w := w.setCell ⟨b, 1, none⟩ (.int .i32 1)) (a := ⟨b, 0, none⟩) (x := 0) ((blk_cell b1 0).trans rfl)
  have hnot : ∀ (x : Bool) (w : World), (Op.unary .not (.bool x)).run Try.prog w = .ok (.bool (!x)) w := fun _ _ => rfl
  have hgr := Aside0.mk (grown_set (r := b) (i := 1) (v := .int .i32 1) (World.grownBy.refl w (some b)))
  clear hb hg b1 c1
  go_enter_defers Try.func65, Try.ntmps65
  go_wp2_with (first | (go_at_call 69; refine (lock_free ⟨b, 1, none⟩ _ ((blk_cell B0.out 1).trans rfl) (blk_frozen B0.out 1)).mono ?_; rintro e w' ⟨rfl, rfl⟩) | (go_at_call 64; go_in) | (go_at_call 53; refine (make_any g b _ _ _ _ _ C1.out B1.out).mono ?_; rintro e w2 ⟨rfl, ⟨m, hm, hB2, hO2⟩, hG2⟩; have B2 := Aside0.mk hB2; have O2 := Aside0.mk hO2; have G2 := Aside0.mk hG2; clear hB2 hO2 hG2))
  -- the door: two deferred calls, the last laid first
  refine leaves_cons (f := 71) (args := #[.pointer (some ⟨b, 0, none⟩), .bool true]) (by simp) (by simp [go_sem]) ?_
  refine (store_deferred ⟨b, 0, none⟩ (.int .u32 0) .returning _ ((blk_cell B2.out 0).trans rfl) (blk_frozen B2.out 0)).mono ?_
  rintro e u' w'' ⟨rfl, rfl, rfl⟩
  have B3 := blk_put (blk_drew B2.out) 0 (.int .u32 1) rfl
  refine leaves_cons (f := 70) (args := #[.pointer (some ⟨b, 1, none⟩)]) (by simp [settle]) (by simp [go_sem]) ?_
  refine (unlock_deferred ⟨b, 1, none⟩ _ _ ((blk_cell B3 1).trans rfl) (blk_frozen B3 1)).mono ?_
  rintro e u' w'' ⟨rfl, rfl, rfl⟩
  have B4 := blk_put B3 1 (.int .i32 0) rfl
  have G4 := grown_set (i := 1) (v := .int .i32 0) (grown_set (i := 0) (v := .int .u32 1) (grown_drew (grown_trans hgr.out G2.out)))
  have O4 := (O2.out.drew.setCell (a := ⟨b, 0, none⟩) hm (.int .u32 1)).setCell (a := ⟨b, 1, none⟩) hm (.int .i32 0)
  have M4 : Made b _ := ⟨m, hm, B4, O4⟩
  simp [Leaves, settle, results, Try.results65]
  exact ⟨M4, G4⟩
set_option maxRecDepth 100000 in
set_option maxHeartbeats 2000000 in
theorem do_first (g b : Nat) (w : World) (hg : w.heap[g]? = some (.cells #[.pointer (some ⟨b, 0, none⟩)] 50 (0, 0))) (hb : Fresh b w) :
    Calls Try.prog 52 #[.pointer (some ⟨b, 0, none⟩), .func (.func 53) #[] #[.pointer (some ⟨g, 0, none⟩)]] w fun e w' => e = .returned (.tuple #[]) ∧ Made b w' ∧ w.grownBy w' (some b) := by
  have B0 := Aside0.mk hb
  have C0 := Aside0.mk hg
  have hl := run_call_load (P := Try.prog) Try.func68 (by kernel_rfl) (by kernel_rfl) (by kernel_rfl) .u32 (by kernel_rfl) (w := w) (a := ⟨b, 0, none⟩) (x := 0) ((blk_cell hb 0).trans rfl)
  have hnot : ∀ (x : Bool) (w : World), (Op.unary .not (.bool x)).run Try.prog w = .ok (.bool (!x)) w := fun _ _ => rfl
  clear hb hg
  go_enter Try.func52, Try.ntmps52
  go_wp2_with (first | (go_at_call 65; refine (slow_any g b _ C0.out B0.out).mono ?_; rintro e w2 ⟨rfl, hM, hG⟩) | (go_at_call 64; go_in))
  go_end0
  exact ⟨rfl, hM, hG⟩
set_option maxRecDepth 100000 in
theorem do_done (b : Nat) (fv : Value) (w : World) (hb : Made b w) :
    Calls Try.prog 52 #[.pointer (some ⟨b, 0, none⟩), fv] w fun e w' => e = .returned (.tuple #[]) ∧ w' = w := by
  obtain ⟨m, hm, hB, hO⟩ := hb
  have hl := run_call_load (P := Try.prog) Try.func68 (by kernel_rfl) (by kernel_rfl) (by kernel_rfl) .u32 (by kernel_rfl) (w := w) (a := ⟨b, 0, none⟩) (x := 1) ((blk_cell hB 0).trans rfl)
  have hnot : ∀ (x : Bool) (w : World), (Op.unary .not (.bool x)).run Try.prog w = .ok (.bool (!x)) w := fun _ _ => rfl
  clear hB hO hm
  go_enter Try.func52, Try.ntmps52
  go_wp2_with (go_at_call 64; go_in)
  go_end0
  exact ⟨rfl, rfl⟩
end Go.Proofs.Ytnfbfachabdahaa.G
/- Chapter 7: how wide a byte is. Written by mkF5.py. -/
namespace Go.Proofs.Ytnfbfachabdahaa.G
open Go.RowKit Go.Shelf Go.Proofs.YtnfbfachabdahaaW.PrintWords Go.Proofs.YtnfbfachabdahaaW.PrintLast Go.Proofs.YtnfbfachabdahaaW.PrintMore
open Go.Maps (Keyed IsMap)

/-- What the map of widths says of a byte. -/
def ofV (c : Nat) : Int := if c = 32 then 256 else if c ∈ [105, 106, 108, 46, 44, 39, 33, 124] then 192 else if c ∈ [109, 119, 77, 87] then 576 else 0
def ofB (c : Nat) : Bool := decide (c = 32) || (decide (c ∈ [105, 106, 108, 46, 44, 39, 33, 124]) || decide (c ∈ [109, 119, 77, 87]))
/-- How wide a byte is. -/
def wideN (c : Nat) : Int := if ofB c then ofV c else if 192 ≤ c then 640 else if 128 ≤ c ∨ c < 32 then 0 else 384
def chkOf (i : Nat) : Bool := (match wideD.atKey (.int .u8 i) (.lit (.int .i64 0)) with
  | .lit (.int .i64 n) => n == ofV i
  | _ => false) && Maps.has wideD (.int .u8 i) == ofB i
theorem chk_all : (List.range 256).all chkOf = true := by decide +kernel
theorem of_datum (c : UInt8) : wideD.atKey (byteKey c) (.lit (.int .i64 0)) = .lit (.int .i64 (ofV c.toNat)) ∧ Maps.has wideD (byteKey c) = ofB c.toNat := by
  have h := List.all_eq_true.1 chk_all c.toNat (List.mem_range.2 c.toNat_lt)
  unfold chkOf at h
  rw [Bool.and_eq_true, beq_iff_eq] at h
  refine ⟨?_, h.2⟩
  have h1 := h.1
  unfold byteKey
  split at h1
  · rename_i n e
    rw [e, beq_iff_eq.1 h1]
  · cases h1
theorem zero2 (w : World) : (zeroValue 2).run Try.prog w = .ok (.int .i64 0) w := by go_simp
theorem look_wide {w : World} {ops : Array Oper} {rest : List Oper} {o : Oper} {a : Act} {Q : Exit → Act → World → Prop} (hg : o.guard = none) (m x : Operand) (hop : o.op = Op.lookup 63 m x true) (b : Nat) (c : UInt8)
    (hm : a.eval m = .map (some b)) (hown : w.ownsMap Try.prog 5 wideR b 13 wideD) (hx : a.eval x = .int .u8 c.toNat)
    (hK : wpList Try.prog ops Q rest (a.put o.dst (.tuple #[.int .i64 (ofV c.toNat), .bool (ofB c.toNat)])) w) : wpList Try.prog ops Q (o :: rest) a w :=
  wpList_lookup_own_ok w hg m x 63 hop 5 2 law5 Try.underlying63 wideR (zero2 _) (.lit (.int .i64 0)) [] rfl b 13 wideD hm hown _ (byteKey c) hx (key5 c) (fun v ps hv => by
    rw [(of_datum c).1] at hv
    obtain ⟨n, rfl, e⟩ := wideR_inv hv
    obtain rfl : ofV c.toNat = n := by injection e with e; injection e
    rw [(of_datum c).2]
    exact hK)
def Ready (b : Nat) (w : World) : Prop := Fresh b w ∨ Made b w
set_option maxRecDepth 100000 in
set_option maxHeartbeats 2000000 in
theorem of_any (b : Nat) (c : UInt8) (w : World) (hb : Ready b w) :
    Calls Try.prog 41 #[.pointer (some ⟨b, 0, none⟩), .int .u8 c.toNat] w fun e w' => e = .returned (.tuple #[.int .i64 (ofV c.toNat), .bool (ofB c.toNat)]) ∧ Made b w' ∧ w.grownBy w' (some b) := by
  have hmf : ∀ (fn : Fn) (first cap : Array Value) (w : World), (Instr.makeFunc fn first cap).run Try.prog w = .ok (.func fn first cap) w := fun _ _ _ _ => rfl
  have c1 := blk_new w (.cells #[.pointer (some ⟨b, 0, none⟩)] 50)
  have C1 := Aside0.mk c1
  have hG0 := Aside0.mk (World.grownBy_alloc w (.cells #[.pointer (some ⟨b, 0, none⟩)] 50) (some b))
  have k1 : (w.alloc (.cells #[.pointer (some ⟨b, 0, none⟩)] 50)).cell? ⟨w.heap.size, 0, none⟩ = some (.pointer (some ⟨b, 0, none⟩)) := (blk_cell c1 0).trans rfl
  clear c1
  rcases hb with hb | hb
  · have B1 := Aside0.mk (show Fresh b _ from blk_alloc hb (.cells #[.pointer (some ⟨b, 0, none⟩)] 50))
    have hbl := blk_lt hb
    clear hb
    go_enter Try.func41, Try.ntmps41
    go_wp2_with (first | (go_at_call 52; refine (do_first w.heap.size b _ C1.out B1.out).mono ?_; rintro e w2 ⟨rfl, ⟨m, hm, hB2, hO2⟩, hG⟩; have C2 := Aside0.mk (blk_grown C1.out hG (fun e => by have := Option.some.inj e; omega)); have k2 : w2.cell? ⟨w.heap.size, 0, none⟩ = some (.pointer (some ⟨b, 0, none⟩)) := (blk_cell C2.out 0).trans rfl; have k3 : w2.cell? ⟨b, 3, none⟩ = some (.map (some m)) := (blk_cell hB2 3).trans rfl; have B2 := Aside0.mk hB2; have O2 := Aside0.mk hO2; have G2 := Aside0.mk (grown_trans hG0.out hG); clear hB2 hO2 hG k1) | (at_lookup; refine look_wide rfl _ _ rfl m c rfl O2.out rfl ?_))
    go_ret2
    exact ⟨rfl, ⟨m, hm, B2.out, O2.out⟩, G2.out⟩
  · have B1 := Aside0.mk (hb.below (below_alloc (Below.refl _ _) (.cells #[.pointer (some ⟨b, 0, none⟩)] 50)))
    have hbl := hb.lt
    have M1 := B1
    obtain ⟨⟨m, hm, hB2, hO2⟩⟩ := B1
    have k3 : (w.alloc (.cells #[.pointer (some ⟨b, 0, none⟩)] 50)).cell? ⟨b, 3, none⟩ = some (.map (some m)) := (blk_cell hB2 3).trans rfl
    have O2 := Aside0.mk hO2
    clear hb hB2 hO2
    go_enter Try.func41, Try.ntmps41
    go_wp2_with (first | (go_at_call 52; refine (do_done b _ _ M1.out).mono ?_; rintro e w2 ⟨rfl, rfl⟩) | (at_lookup; refine look_wide rfl _ _ rfl m c rfl O2.out rfl ?_))
    go_ret2
    exact ⟨rfl, M1.out, hG0.out⟩
set_option maxRecDepth 100000 in
set_option maxHeartbeats 2000000 in
theorem wide_any (b : Nat) (c : UInt8) (w : World) (hb : Ready b w) :
    Calls Try.prog 32 #[.pointer (some ⟨b, 0, none⟩), .int .u8 c.toNat] w fun e w' => e = .returned (.int .i64 (wideN c.toNat)) ∧ Made b w' ∧ w.grownBy w' (some b) := by
  have HO := Aside0.mk (of_any b c w hb)
  have hc := c.toNat_lt
  clear hb
  cases hq : ofB c.toNat
  · rw [hq] at HO
    have e0 : wideN c.toNat = if 192 ≤ c.toNat then 640 else if 128 ≤ c.toNat ∨ c.toNat < 32 then 0 else 384 := by unfold wideN; rw [hq]; rfl
    clear hq
    generalize c.toNat = n at *
    by_cases h1 : 192 ≤ n
    · have d1 : decide ((192 : Int) ≤ n) = true := decide_eq_true (by omega)
      have E := Aside0.mk (e0.trans (if_pos h1))
      clear e0
      go_enter Try.func32, Try.ntmps32
      go_wp2_with (go_at_call 41; refine HO.out.mono ?_; rintro e w2 ⟨rfl, hM, hG⟩)
      go_ret
      exact ⟨by rw [E.out]; rfl, hM, hG⟩
    · have d1 : decide ((192 : Int) ≤ n) = false := decide_eq_false (by omega)
      rw [if_neg h1] at e0
      by_cases h2 : 128 ≤ n
      · have d2 : decide ((128 : Int) ≤ n) = true := decide_eq_true (by omega)
        have E := Aside0.mk (e0.trans (if_pos (Or.inl h2)))
        clear e0
        go_enter Try.func32, Try.ntmps32
        go_wp2_with (go_at_call 41; refine HO.out.mono ?_; rintro e w2 ⟨rfl, hM, hG⟩)
        go_ret
        exact ⟨by rw [E.out]; rfl, hM, hG⟩
      · have d2 : decide ((128 : Int) ≤ n) = false := decide_eq_false (by omega)
        by_cases h3 : n < 32
        · have d3 : decide ((n : Int) < 32) = true := decide_eq_true (by omega)
          have E := Aside0.mk (e0.trans (if_pos (Or.inr h3)))
          clear e0
          go_enter Try.func32, Try.ntmps32
          go_wp2_with (go_at_call 41; refine HO.out.mono ?_; rintro e w2 ⟨rfl, hM, hG⟩)
          go_ret
          exact ⟨by rw [E.out]; rfl, hM, hG⟩
        · have d3 : decide ((n : Int) < 32) = false := decide_eq_false (by omega)
          have E := Aside0.mk (e0.trans (if_neg (by omega)))
          clear e0
          go_enter Try.func32, Try.ntmps32
          go_wp2_with (go_at_call 41; refine HO.out.mono ?_; rintro e w2 ⟨rfl, hM, hG⟩)
          go_ret
          exact ⟨by rw [E.out]; rfl, hM, hG⟩
  · rw [hq] at HO
    have E := Aside0.mk (show wideN c.toNat = ofV c.toNat by unfold wideN; rw [hq]; rfl)
    clear hq
    go_enter Try.func32, Try.ntmps32
    go_wp2_with (go_at_call 41; refine HO.out.mono ?_; rintro e w2 ⟨rfl, hM, hG⟩)
    go_ret
    exact ⟨by rw [E.out]; rfl, hM, hG⟩
set_option maxRecDepth 100000 in
theorem Wide_any (c : UInt8) (w : World) : Calls Try.prog 15 #[.int .u8 c.toNat] w fun e w' => e = .returned (.int .i64 (wideN c.toNat)) ∧ Below w.heap.size w w' := by
  have hf : Fresh w.heap.size (w.alloc (.cells #[.int .u32 0, .int .i32 0, .int .u32 0, .map none] 65)) := blk_new w _
  have HW := Aside0.mk (wide_any w.heap.size c _ (.inl hf))
  have HB := Aside0.mk (below_alloc (Below.refl w.heap.size w) (.cells #[.int .u32 0, .int .i32 0, .int .u32 0, .map none] 65))
  clear hf
  go_enter Try.func15, Try.ntmps15
  go_wp2_with (go_at_call 32; refine HW.out.mono ?_; rintro e w2 ⟨rfl, hM, hG⟩)
  go_ret
  exact ⟨rfl, HB.out.trans (grown_below hG (Nat.le_refl _) HB.out.size)⟩
def word_Wide.f (a0 : Int) : Option (Int) := if 0 ≤ a0 ∧ a0 < 256 then some (wideN a0.toNat) else none
theorem word_Wide.calls (a0 : Int) (r : Int) (w : World) (h : word_Wide.f a0 = some r) (_ : GOK w) :
    Calls Try.prog 15 #[.int .u8 a0] w fun e w' => e = .returned (.int .i64 r) ∧ Below w.heap.size w w' := by
  unfold word_Wide.f at h
  split at h
  · rename_i hq
    obtain rfl := Option.some.inj h
    obtain ⟨n, rfl⟩ : ∃ n : Nat, a0 = n := ⟨a0.toNat, by omega⟩
    have e : (UInt8.ofNat n).toNat = n := UInt8.toNat_ofNat_of_lt' (by show n < 256; omega)
    have := Wide_any (UInt8.ofNat n) w
    rw [e] at this
    exact this
  · cases h
end Go.Proofs.Ytnfbfachabdahaa.G
/- Chapter 7: how wide a text is. Written by mkF6.py. -/
namespace Go.Proofs.Ytnfbfachabdahaa.G
open Go.RowKit Go.Shelf Go.Proofs.YtnfbfachabdahaaW.PrintWords Go.Proofs.YtnfbfachabdahaaW.PrintLast Go.Proofs.YtnfbfachabdahaaW.PrintMore

/-- How wide a text is. -/
def widthL (l : List UInt8) : Int := (l.map fun c => wideN c.toNat).sum
theorem ofV_in (c : Nat) : 0 ≤ ofV c ∧ ofV c ≤ 640 := by
  unfold ofV
  split
  · omega
  · split
    · omega
    · split <;> omega
theorem wideN_in (c : Nat) : 0 ≤ wideN c ∧ wideN c ≤ 640 := by
  unfold wideN
  split
  · exact ofV_in c
  · split
    · omega
    · split <;> omega
theorem widthL_nil : widthL [] = 0 := rfl
theorem widthL_app (l m : List UInt8) : widthL (l ++ m) = widthL l + widthL m := by simp [widthL]
theorem widthL_one (c : UInt8) : widthL [c] = wideN c.toNat := by simp [widthL]
theorem widthL_in (l : List UInt8) : 0 ≤ widthL l ∧ widthL l ≤ 640 * l.length := by
  induction l with
  | nil => simp [widthL]
  | cons c l ih =>
    have h := widthL_app [c] l
    rw [widthL_one, List.singleton_append] at h
    rw [h]
    have := wideN_in c.toNat
    simp only [List.length_cons]
    omega
theorem bytes_cell {w W : World} {g : Nat} {l : List UInt8} {z : Nat × Nat} (h : W.heap[g]? = some (.cells (Lib.bytesCells w 5 (bstr l)) 5 z)) (k : Nat) (hk : k < l.length) : W.cell? ⟨g, k, none⟩ = some (.int .u8 l[k].toNat) := by
  have h1 := cell_of_row W g k _ _ _ h
  rw [h1]
  simp [Lib.bytesCells, bstr, Array.getElem?_append, hk]
theorem bytes_below (w : World) (s : ByteArray) : Below w.heap.size w (Lib.bytesWorld w 5 s) :=
  ⟨rfl, rfl, rfl, by rw [Lib.bytesWorld_size]; omega, fun k hk => Lib.bytesWorld_at_old w 5 s k hk⟩
theorem Ready.grown {b : Nat} {w w' : World} (h : Ready b w) (hg : Below w.heap.size w w') : Ready b w' := by
  rcases h with h | h
  · exact .inl (blk_below h hg)
  · exact .inr (h.below hg)
set_option maxRecDepth 100000 in
set_option maxHeartbeats 2000000 in
theorem Width_any (l : List UInt8) (hl : l.length ≤ 1000000) (w : World) : Calls Try.prog 17 #[.string (bstr l)] w fun e w' => e = .returned (.int .i64 (widthL l)) ∧ Below w.heap.size w w' := by
  have hf : Fresh w.heap.size (w.alloc (.cells #[.int .u32 0, .int .i32 0, .int .u32 0, .map none] 65)) := blk_new w _
  have hb0 := below_alloc (Below.refl w.heap.size w) (.cells #[.int .u32 0, .int .i32 0, .int .u32 0, .map none] 65)
  have hcv := Lib.run_convert_string_bytes (P := Try.prog) (w.alloc (.cells #[.int .u32 0, .int .i32 0, .int .u32 0, .map none] 65)) 9 32 5 (bstr l) Try.underlying9 Try.underlying32 Try.underlying5
  have hsz : (w.alloc (.cells #[.int .u32 0, .int .i32 0, .int .u32 0, .map none] 65)).heap.size = w.heap.size + 1 := by simp
  have hbb := bytes_below (w.alloc (.cells #[.int .u32 0, .int .i32 0, .int .u32 0, .map none] 65)) (bstr l)
  have hrow := Lib.bytesWorld_at_new (w.alloc (.cells #[.int .u32 0, .int .i32 0, .int .u32 0, .map none] 65)) 5 (bstr l)
  have HRD := Aside0.mk (Ready.grown (.inl hf) hbb)
  have HB0 := Aside0.mk (below_then hb0 hb0.size hbb)
  rw [hsz] at hrow hcv
  rw [bstr_size] at hcv
  generalize hcap : grownCap (w.alloc (.cells #[.int .u32 0, .int .i32 0, .int .u32 0, .map none] 65)) l.length 0 5 = cap at hcv
  obtain ⟨z, hrow⟩ : ∃ z, (Lib.bytesWorld (w.alloc (.cells #[.int .u32 0, .int .i32 0, .int .u32 0, .map none] 65)) 5 (bstr l)).heap[w.heap.size + 1]? = some (.cells (Lib.bytesCells (w.alloc (.cells #[.int .u32 0, .int .i32 0, .int .u32 0, .map none] 65)) 5 (bstr l)) 5 z) := ⟨_, hrow⟩
  have HROW := Aside0.mk hrow
  clear hf hb0 hsz hbb hrow hcap
  go_enter Try.func17, Try.ntmps17
  go_wp2
  go_loopw [4, 12] (fun n i wr => ∃ k : Nat, k ≤ l.length ∧ i = .int .i64 k ∧ n = .int .i64 (widthL (l.take k)) ∧ Aside0 (Ready w.heap.size wr) ∧ Aside0 (Below w.heap.size w wr) ∧ Aside0 (wr.heap[w.heap.size + 1]? = some (.cells (Lib.bytesCells (w.alloc (.cells #[.int .u32 0, .int .i32 0, .int .u32 0, .map none] 65)) 5 (bstr l)) 5 z))) (fun _ i _ => l.length - (intOf i).toNat)
  case atStart => exact ⟨0, Nat.zero_le _, rfl, rfl, HRD, HB0, HROW⟩
  case round =>
    clear HRD HB0 HROW hcv
    obtain ⟨k, hk, rfl, rfl, HR, HB, HW⟩ := hrel
    by_cases hlt : k < l.length
    · have hcell := bytes_cell HW.out k hlt
      have ht : l.take (k + 1) = l.take k ++ [l[k]] := List.take_succ_eq_append_getElem hlt
      have hw1 := widthL_in (l.take k)
      have hw2 := wideN_in l[k].toNat
      rw [List.length_take] at hw1
      have HWI := Aside0.mk (wide_any w.heap.size l[k] wr HR.out)
      have hidx : 0 ≤ (k : Int) ∧ (k : Int) < l.length := by omega
      have hsum : widthL (l.take (k + 1)) = wrap64 (widthL (l.take k) + wideN l[k].toNat) := by
        rw [ht, widthL_app, widthL_one]
        have : ∀ x : Int, -9223372036854775808 ≤ x → x ≤ 9223372036854775807 → wrap64 x = x := fun x h1 h2 => by unfold wrap64; omega
        rw [this _ (by omega) (by omega)]
      have HS := Aside0.mk hsum
      clear hw1 hw2 ht hsum
      generalize l[k] = c at *
      generalize widthL (l.take k) = a at *
      go_wp2_with (go_at_call 32; refine HWI.out.mono ?_; rintro e w2 ⟨rfl, hM, hG⟩; have HR2 := Aside0.mk (show Ready w.heap.size w2 from .inr hM); have HB2 := Aside0.mk (HB.out.trans (grown_below hG (Nat.le_refl _) HB.out.size)); have HW2 := Aside0.mk (blk_grown HW.out hG (fun e => by have := Option.some.inj e; omega)); clear hM hG)
      go_roundw
      case rel => exact ⟨k + 1, by omega, by go_num, by rw [HS.out], HR2, HB2, HW2⟩
      case measure => simp [intOf]; omega
    · have e : k = l.length := by omega
      subst e
      rw [List.take_length]
      go_wp2
      go_ret
      exact ⟨rfl, HB.out⟩
def word_Width.f (a0 : ByteArray) : Option (Int) := if a0.size ≤ 1000000 then some (widthL a0.data.toList) else none
theorem word_Width.calls (a0 : ByteArray) (r : Int) (w : World) (h : word_Width.f a0 = some r) (_ : GOK w) :
    Calls Try.prog 17 #[.string a0] w fun e w' => e = .returned (.int .i64 r) ∧ Below w.heap.size w w' := by
  unfold word_Width.f at h
  split at h
  · rename_i hq
    obtain rfl := Option.some.inj h
    exact Width_any a0.data.toList (by rw [Array.length_toList]; exact hq) w
  · cases h
end Go.Proofs.Ytnfbfachabdahaa.G
/- Chapter 7: what goes on with a word; a text's first bytes that are so. Written by mkF7.py. -/
namespace Go.Proofs.Ytnfbfachabdahaa.G
open Go.RowKit Go.Shelf Go.Proofs.YtnfbfachabdahaaW.PrintWords Go.Proofs.YtnfbfachabdahaaW.PrintLast Go.Proofs.YtnfbfachabdahaaW.PrintMore

/-- A blank, or a line end. -/
def gapB (c : UInt8) : Bool := ((c.toNat : Int) == 32) || ((c.toNat : Int) == 10)
/-- Does a byte go on with what is read: the last one, and is there one? -/
def stG (s : UInt8 × Bool) (c : UInt8) : Option (UInt8 × Bool) := if gapB c then some s else none
def stW (s : UInt8 × Bool) (c : UInt8) : Option (UInt8 × Bool) := if gapB c || (s.2 && (((s.1.toNat : Int) == 45) && !((c.toNat : Int) == 45))) then none else some (c, true)
def RdAt (R : Nat) (l : List UInt8) (s : UInt8 × Bool) (W : World) : Prop := W.heap[R]? = some (.cells #[.string (bstr l), .int .u8 s.1.toNat, .bool s.2] 47 (0, 0))
theorem bstr_extract (l : List UInt8) (a b : Nat) : (bstr l).extract a b = bstr ((l.take b).drop a) := by
  apply ByteArray.ext
  apply Array.ext'
  simp [bstr, List.extract_eq_take_drop, List.drop_take]
theorem foldlM_snoc {α β : Type} (f : β → α → Option β) (b : β) (l : List α) (x : α) : (l ++ [x]).foldlM f b = (l.foldlM f b).bind fun s => f s x := by
  rw [List.foldlM_append]
  cases h : l.foldlM f b <;> simp [bind, Option.bind, List.foldlM, pure]
  cases f _ x <;> rfl
set_option maxRecDepth 100000 in
theorem gap_any (c : UInt8) (x : Bool) (hx : gapB c = x) (w : World) : Calls Try.prog 48 #[.int .u8 c.toNat] w fun e w' => e = .returned (.bool x) ∧ w = w' := by
  unfold gapB at hx
  generalize c.toNat = n at *
  cases h1 : ((n : Int) == 32)
  · cases h2 : ((n : Int) == 10)
    · rw [h1, h2] at hx
      obtain rfl : false = x := hx
      go_enter Try.func48, Try.ntmps48
      go_wp2
      go_ret
      exact ⟨rfl, rfl⟩
    · rw [h1, h2] at hx
      obtain rfl : true = x := hx
      go_enter Try.func48, Try.ntmps48
      go_wp2
      go_ret
      exact ⟨rfl, rfl⟩
  · rw [h1] at hx
    obtain rfl : true = x := hx
    go_enter Try.func48, Try.ntmps48
    go_wp2
    go_ret
    exact ⟨rfl, rfl⟩
set_option maxRecDepth 100000 in
set_option maxHeartbeats 1000000 in
theorem goes_no (R : Nat) (l : List UInt8) (s : UInt8 × Bool) (c : UInt8) (w : World) (hR : RdAt R l s w) (hs : stW s c = none) :
    Calls Try.prog 49 #[.pointer (some ⟨R, 0, none⟩), .int .u8 c.toNat] w fun e w' => e = .returned (.bool false) ∧ w = w' := by
  obtain ⟨la, ii⟩ := s
  have c1 : w.cell? ⟨R, 1, none⟩ = some (.int .u8 la.toNat) := (blk_cell hR 1).trans rfl
  have c2 : w.cell? ⟨R, 2, none⟩ = some (.bool ii) := (blk_cell hR 2).trans rfl
  have hs' : (gapB c || (ii && (((la.toNat : Int) == 45) && !((c.toNat : Int) == 45)))) = true := by
    unfold stW at hs
    split at hs
    · assumption
    · cases hs
  clear hR hs
  cases hg : gapB c
  · rw [hg, Bool.false_or, Bool.and_eq_true, Bool.and_eq_true] at hs'
    obtain ⟨rfl, h2, h3⟩ := hs'
    have HG := Aside0.mk hg
    clear hg
    have h3' : ((c.toNat : Int) == 45) = false := by simpa using h3
    have h4 : ((c.toNat : Int) != 45) = true := by simp [bne, h3']
    clear h3
    go_enter Try.func49, Try.ntmps49
    go_wp2_with (go_at_call 48; refine (gap_any c false HG.out _).mono ?_; rintro e w' ⟨rfl, rfl⟩)
    go_ret
    exact ⟨rfl, rfl⟩
  · have HG := Aside0.mk hg
    clear hg hs'
    go_enter Try.func49, Try.ntmps49
    go_wp2_with (go_at_call 48; refine (gap_any c true HG.out _).mono ?_; rintro e w' ⟨rfl, rfl⟩)
    go_ret
    exact ⟨rfl, rfl⟩
set_option maxRecDepth 100000 in
set_option maxHeartbeats 1000000 in
theorem goes_yes (R : Nat) (l : List UInt8) (s : UInt8 × Bool) (c : UInt8) (w : World) (hR : RdAt R l s w) (s' : UInt8 × Bool) (hs : stW s c = some s') :
    Calls Try.prog 49 #[.pointer (some ⟨R, 0, none⟩), .int .u8 c.toNat] w fun e w' => e = .returned (.bool true) ∧ RdAt R l s' w' ∧ w.grownBy w' (some R) := by
  obtain ⟨la, ii⟩ := s
  have c1 : w.cell? ⟨R, 1, none⟩ = some (.int .u8 la.toNat) := (blk_cell hR 1).trans rfl
  have c2 : w.cell? ⟨R, 2, none⟩ = some (.bool ii) := (blk_cell hR 2).trans rfl
  have z1 := blk_frozen hR 1
  have z2 := blk_frozen hR 2
  have hs' : (gapB c || (ii && (((la.toNat : Int) == 45) && !((c.toNat : Int) == 45)))) = false ∧ (c, true) = s' := by
    unfold stW at hs
    split at hs
    · cases hs
    · rename_i h
      exact ⟨by simpa using h, Option.some.inj hs⟩
  obtain ⟨hs1, rfl⟩ := hs'
  rw [Bool.or_eq_false_iff] at hs1
  have HG := Aside0.mk hs1.1
  have hrest := hs1.2
  have HR := Aside0.mk (show RdAt R l (c, true) ((w.setCell ⟨R, 1, none⟩ (.int .u8 c.toNat)).setCell ⟨R, 2, none⟩ (.bool true)) ∧ w.grownBy ((w.setCell ⟨R, 1, none⟩ (.int .u8 c.toNat)).setCell ⟨R, 2, none⟩ (.bool true)) (some R) from
    ⟨blk_put (blk_put hR 1 _ rfl) 2 _ rfl, grown_set (grown_set (World.grownBy.refl w (some R)))⟩)
  clear hR hs hs1
  cases ii
  · clear hrest
    go_enter Try.func49, Try.ntmps49
    go_wp2_with (go_at_call 48; refine (gap_any c false HG.out _).mono ?_; rintro e w' ⟨rfl, rfl⟩)
    go_ret
    exact ⟨rfl, HR.out⟩
  · rw [Bool.true_and] at hrest
    cases h2 : ((la.toNat : Int) == 45)
    · clear hrest
      go_enter Try.func49, Try.ntmps49
      go_wp2_with (go_at_call 48; refine (gap_any c false HG.out _).mono ?_; rintro e w' ⟨rfl, rfl⟩)
      go_ret
      exact ⟨rfl, HR.out⟩
    · rw [h2, Bool.true_and] at hrest
      have h3 : ((c.toNat : Int) == 45) = true := by simpa using hrest
      have h4 : ((c.toNat : Int) != 45) = false := by simp [bne, h3]
      clear hrest
      go_enter Try.func49, Try.ntmps49
      go_wp2_with (go_at_call 48; refine (gap_any c false HG.out _).mono ?_; rintro e w' ⟨rfl, rfl⟩)
      go_ret
      exact ⟨rfl, HR.out⟩
set_option maxRecDepth 100000 in
set_option maxHeartbeats 2000000 in
theorem while_gap (R : Nat) (l : List UInt8) (s : UInt8 × Bool) (w : World) (hR : RdAt R l s w) (hl : l.length ≤ 1000000) :
    Calls Try.prog 47 #[.pointer (some ⟨R, 0, none⟩), .func (.func 48) #[] #[]] w fun e w' => ∃ k s', k ≤ l.length ∧ (l.take k).foldlM stG s = some s' ∧ (∀ h : k < l.length, stG s' l[k] = none) ∧ e = .returned (.string (bstr (l.take k))) ∧ RdAt R (l.drop k) s' w' ∧ w.grownBy w' (some R) := by
  have HR := Aside0.mk hR
  clear hR
  go_enter Try.func47, Try.ntmps47
  go_wp2
  go_loopw [5] (fun i wr => ∃ k : Nat, k ≤ l.length ∧ i = .int .i64 k ∧ ∃ s', Aside0 ((l.take k).foldlM stG s = some s') ∧ Aside0 (RdAt R l s' wr) ∧ Aside0 (w.grownBy wr (some R))) (fun i _ => l.length - (intOf i).toNat)
  case atStart => exact ⟨0, Nat.zero_le _, rfl, s, ⟨rfl⟩, HR, ⟨World.grownBy.refl w _⟩⟩
  case round =>
    clear HR
    obtain ⟨k, hk, rfl, s', HF, HR, HG⟩ := hrel
    have c0 : wr.cell? ⟨R, 0, none⟩ = some (.string (bstr l)) := (blk_cell HR.out 0).trans rfl
    have z0 := blk_frozen HR.out 0
    have hsz : (bstr l).size = l.length := bstr_size l
    have x1 : (bstr l).extract 0 k = bstr (l.take k) := by rw [bstr_extract]; simp
    have x2 : (bstr l).extract k l.length = bstr (l.drop k) := by rw [bstr_extract, List.take_length]
    have X1 := Aside0.mk x1
    have X2 := Aside0.mk x2
    clear x1 x2
    by_cases hlt : k < l.length
    · have hp : k < (bstr l).size := by rw [bstr_size]; exact hlt
      have hc : (bstr l)[k]'hp = l[k] := bstr_get l k hp
      have HT := Aside0.mk (show l.take (k + 1) = l.take k ++ [l[k]] from List.take_succ_eq_append_getElem hlt)
      have HC := Aside0.mk hc
      cases hst : stG s' l[k]
      · -- it stops
        have HST := Aside0.mk hst
        clear hst hc
        go_wp2_with (go_at_call 48; refine (gap_any _ false (by rw [HC.out]; have h := HST.out; unfold stG at h; split at h <;> simp_all) _).mono ?_; rintro e w' ⟨rfl, rfl⟩)
        go_ret
        exact ⟨k, s', hk, HF.out, fun _ => HST.out, by rw [X1.out]; rfl, by (rw [X2.out]; exact blk_put HR.out 0 _ rfl), grown_set HG.out⟩
      · rename_i s2
        have HST := Aside0.mk hst
        clear hst hc
        go_wp2_with (go_at_call 48; refine (gap_any _ true (by rw [HC.out]; have h := HST.out; unfold stG at h; split at h <;> simp_all) _).mono ?_; rintro e w' ⟨rfl, rfl⟩; have HR2 := Aside0.mk (show RdAt R l s2 wr by (have h := HST.out; have hr := HR.out; unfold stG at h; split at h; (have e := Option.some.inj h; rw [← e]; exact hr); (cases h))); have HG2 := HG)
        go_roundw
        case rel => exact ⟨k + 1, by omega, by go_num, s2, ⟨by rw [HT.out, foldlM_snoc, HF.out]; exact HST.out⟩, HR2, HG2⟩
        case measure => simp [intOf]; omega
    · have ek : k = l.length := by omega
      subst ek
      go_wp2
      go_ret
      exact ⟨l.length, s', hk, HF.out, fun h => absurd h (Nat.lt_irrefl _), by rw [X1.out]; rfl, by rw [show l.drop l.length = [] by simp]; exact blk_put HR.out 0 _ rfl, grown_set HG.out⟩
set_option maxRecDepth 100000 in
set_option maxHeartbeats 2000000 in
theorem while_word (R : Nat) (l : List UInt8) (s : UInt8 × Bool) (w : World) (hR : RdAt R l s w) (hl : l.length ≤ 1000000) :
    Calls Try.prog 47 #[.pointer (some ⟨R, 0, none⟩), .func (.func 49) #[.pointer (some ⟨R, 0, none⟩)] #[]] w fun e w' => ∃ k s', k ≤ l.length ∧ (l.take k).foldlM stW s = some s' ∧ (∀ h : k < l.length, stW s' l[k] = none) ∧ e = .returned (.string (bstr (l.take k))) ∧ RdAt R (l.drop k) s' w' ∧ w.grownBy w' (some R) := by
  have HR := Aside0.mk hR
  clear hR
  go_enter Try.func47, Try.ntmps47
  go_wp2
  go_loopw [5] (fun i wr => ∃ k : Nat, k ≤ l.length ∧ i = .int .i64 k ∧ ∃ s', Aside0 ((l.take k).foldlM stW s = some s') ∧ Aside0 (RdAt R l s' wr) ∧ Aside0 (w.grownBy wr (some R))) (fun i _ => l.length - (intOf i).toNat)
  case atStart => exact ⟨0, Nat.zero_le _, rfl, s, ⟨rfl⟩, HR, ⟨World.grownBy.refl w _⟩⟩
  case round =>
    clear HR
    obtain ⟨k, hk, rfl, s', HF, HR, HG⟩ := hrel
    have c0 : wr.cell? ⟨R, 0, none⟩ = some (.string (bstr l)) := (blk_cell HR.out 0).trans rfl
    have z0 := blk_frozen HR.out 0
    have hsz : (bstr l).size = l.length := bstr_size l
    have x1 : (bstr l).extract 0 k = bstr (l.take k) := by rw [bstr_extract]; simp
    have x2 : (bstr l).extract k l.length = bstr (l.drop k) := by rw [bstr_extract, List.take_length]
    have X1 := Aside0.mk x1
    have X2 := Aside0.mk x2
    clear x1 x2
    by_cases hlt : k < l.length
    · have hp : k < (bstr l).size := by rw [bstr_size]; exact hlt
      have hc : (bstr l)[k]'hp = l[k] := bstr_get l k hp
      have HT := Aside0.mk (show l.take (k + 1) = l.take k ++ [l[k]] from List.take_succ_eq_append_getElem hlt)
      have HC := Aside0.mk hc
      cases hst : stW s' l[k]
      · -- it stops
        have HST := Aside0.mk hst
        clear hst hc
        go_wp2_with (go_at_call 49; refine (goes_no R l s' _ _ HR.out (by rw [HC.out]; exact HST.out)).mono ?_; rintro e w' ⟨rfl, rfl⟩)
        go_ret
        exact ⟨k, s', hk, HF.out, fun _ => HST.out, by rw [X1.out]; rfl, by (rw [X2.out]; exact blk_put HR.out 0 _ rfl), grown_set HG.out⟩
      · rename_i s2
        have HST := Aside0.mk hst
        clear hst hc
        go_wp2_with (go_at_call 49; refine (goes_yes R l s' _ _ HR.out s2 (by rw [HC.out]; exact HST.out)).mono ?_; rintro e w2 ⟨rfl, hr2, hg2⟩; have HR2 := Aside0.mk hr2; have HG2 := Aside0.mk (grown_trans HG.out hg2); clear hr2 hg2)
        go_roundw
        case rel => exact ⟨k + 1, by omega, by go_num, s2, ⟨by rw [HT.out, foldlM_snoc, HF.out]; exact HST.out⟩, HR2, HG2⟩
        case measure => simp [intOf]; omega
    · have ek : k = l.length := by omega
      subst ek
      go_wp2
      go_ret
      exact ⟨l.length, s', hk, HF.out, fun h => absurd h (Nat.lt_irrefl _), by rw [X1.out]; rfl, by rw [show l.drop l.length = [] by simp]; exact blk_put HR.out 0 _ rfl, grown_set HG.out⟩
end Go.Proofs.Ytnfbfachabdahaa.G
/- Chapter 7: the next word of what is left. Written by mkF8.py. -/
namespace Go.Proofs.Ytnfbfachabdahaa.G
open Go.RowKit Go.Shelf Go.Proofs.YtnfbfachabdahaaW.PrintWords Go.Proofs.YtnfbfachabdahaaW.PrintLast Go.Proofs.YtnfbfachabdahaaW.PrintMore

/-- What a word takes, and what is left of it. -/
def runW : UInt8 × Bool → List UInt8 → List UInt8 × List UInt8
  | _, [] => ([], [])
  | s, c :: l => match stW s c with
    | none => ([], c :: l)
    | some s' => (c :: (runW s' l).1, (runW s' l).2)
theorem runW_of : ∀ (l : List UInt8) (s s' : UInt8 × Bool) (k : Nat), k ≤ l.length → (l.take k).foldlM stW s = some s' → (∀ h : k < l.length, stW s' l[k] = none) → runW s l = (l.take k, l.drop k)
  | [], s, s', k, _, _, _ => by simp [runW]
  | c :: l, s, s', 0, _, h, hn => by
    obtain rfl : s = s' := Option.some.inj h
    have := hn (by simp)
    simp only [List.getElem_cons_zero] at this
    simp [runW, this]
  | c :: l, s, s', k + 1, hk, h, hn => by
    rw [List.take_succ_cons, List.foldlM_cons] at h
    cases hs : stW s c with
    | none => rw [hs] at h; cases h
    | some s2 =>
      rw [hs] at h
      have ih := runW_of l s2 s' k (by simpa using hk) h (fun h => hn (Nat.succ_lt_succ h))
      simp [runW, hs, ih]
theorem runW_app (s : UInt8 × Bool) (l : List UInt8) : (runW s l).1 ++ (runW s l).2 = l := by
  induction l generalizing s with
  | nil => rfl
  | cons c l ih =>
    unfold runW
    cases stW s c with
    | none => rfl
    | some s2 => simp [ih]
theorem stW_last (a b : UInt8) (c : UInt8) : stW (a, false) c = stW (b, false) c := rfl
theorem runW_last (a b : UInt8) (l : List UInt8) : runW (a, false) l = runW (b, false) l := by
  cases l with
  | nil => rfl
  | cons c l => unfold runW; rw [stW_last a b c]
theorem gap_of : ∀ (l : List UInt8) (s s' : UInt8 × Bool) (k : Nat), k ≤ l.length → (l.take k).foldlM stG s = some s' → (∀ h : k < l.length, stG s' l[k] = none) → s' = s ∧ l.takeWhile gapB = l.take k ∧ l.dropWhile gapB = l.drop k
  | [], s, s', k, _, h, _ => by
    simp at h
    simp [h]
  | c :: l, s, s', 0, _, h, hn => by
    obtain rfl : s = s' := Option.some.inj h
    have := hn (by simp)
    simp only [List.getElem_cons_zero] at this
    have hg : gapB c = false := by
      unfold stG at this
      split at this
      · cases this
      · simpa using ‹¬ gapB c = true›
    simp [hg]
  | c :: l, s, s', k + 1, hk, h, hn => by
    rw [List.take_succ_cons, List.foldlM_cons] at h
    cases hg : gapB c with
    | false => simp [stG, hg] at h
    | true =>
      have e : stG s c = some s := by simp [stG, hg]
      rw [e] at h
      obtain ⟨h1, h2, h3⟩ := gap_of l s s' k (by simpa using hk) h (fun h => hn (Nat.succ_lt_succ h))
      simp [hg, h1, h2, h3]
def aheadL (l : List UInt8) : List UInt8 := l.takeWhile gapB
def afterL (l : List UInt8) : List UInt8 := l.dropWhile gapB
def tokL (l : List UInt8) : List UInt8 := (runW (0, false) (afterL l)).1
def restL (l : List UInt8) : List UInt8 := (runW (0, false) (afterL l)).2
def spaceL (l : List UInt8) : Int := if Lib.hasSuffix (aheadL l) [32] then 256 else 0
def hardL (l : List UInt8) : Int := Lib.countByte (aheadL l) 10
theorem ahead_app (l : List UInt8) : aheadL l ++ afterL l = l := List.takeWhile_append_dropWhile
theorem tok_app (l : List UInt8) : tokL l ++ restL l = afterL l := runW_app _ _
theorem after_len (l : List UInt8) : (afterL l).length ≤ l.length := by
  have := congrArg List.length (ahead_app l)
  rw [List.length_append] at this
  omega
theorem grown_setNew {a b : World} {r i n : Nat} {v : Value} (h : a.grownBy b (some r)) (hn : a.heap.size ≤ n) : a.grownBy (b.setCell ⟨n, i, none⟩ v) (some r) :=
  ⟨h.os, h.tape, h.output, by simpa [World.setCell] using h.size, fun k hk hne => (Below.heap_setCell _ _ _ _ (by intro e; simp at e; omega)).trans (h.block k hk hne)⟩
theorem RdAt.grown {R : Nat} {l : List UInt8} {s : UInt8 × Bool} {W W' : World} (h : RdAt R l s W) (hg : Below W.heap.size W W') : RdAt R l s W' := blk_below h hg
/-- What 'next' tells. -/
def wordV (l : List UInt8) : Value := .agg #[.string (bstr (tokL l)), .int .i64 (widthL (tokL l)), .int .i64 (spaceL l), .int .i64 (hardL l)]
theorem count_any (a : List UInt8) (w : World) : Calls Try.prog 50 #[.string (bstr a), .string ⟨#[10]⟩] w fun e w' => e = .returned (.int .i64 (Lib.countByte a 10)) ∧ w = w' :=
  (Try.strings_Count_one (bstr a) 10 w).mono fun _ _ ⟨h1, h2⟩ => ⟨h1, h2.symm⟩
theorem suffix_any (a : List UInt8) (ha : a.length ≤ 1000000) (w : World) : Calls Try.prog 51 #[.string (bstr a), .string ⟨#[32]⟩] w fun e w' => e = .returned (.bool (Lib.hasSuffix a [32])) ∧ w = w' :=
  (Try.strings_HasSuffix (bstr a) ⟨#[32]⟩ w (by rw [bstr_size]; omega)).mono fun _ _ ⟨h1, h2⟩ => ⟨h1, h2.symm⟩
set_option maxRecDepth 100000 in
set_option maxHeartbeats 4000000 in
theorem next_any (R : Nat) (l : List UInt8) (s : UInt8 × Bool) (w : World) (hR : RdAt R l s w) (hl : l.length ≤ 1000) :
    Calls Try.prog 39 #[.pointer (some ⟨R, 0, none⟩)] w fun e w' => e = .returned (.tuple #[wordV l, .bool (!(tokL l).isEmpty)]) ∧ (∃ s', RdAt R (restL l) s' w') ∧ w.grownBy w' (some R) := by
  have hRl := blk_lt hR
  have HR1 := Aside0.mk (show RdAt R l s (w.alloc (.cells #[.string ⟨#[]⟩, .int .i64 0, .int .i64 0, .int .i64 0] 34)) from blk_alloc hR _)
  have HX1 := Aside0.mk (blk_new w (.cells #[.string ⟨#[]⟩, .int .i64 0, .int .i64 0, .int .i64 0] 34))
  have HG1 := Aside0.mk (World.grownBy_alloc w (.cells #[.string ⟨#[]⟩, .int .i64 0, .int .i64 0, .int .i64 0] 34) (some R))
  clear hR
  go_enter Try.func39, Try.ntmps39
  have hl' : l.length ≤ 1000000 := by omega
  go_wp2_with (first | (go_at_call 47; (with_reducible refine (while_gap R l s _ HR1.out hl').mono ?_); rintro e w2 ⟨k1, s1, hk1, hf1, hn1, rfl, hr2, hg2⟩; have c2 : w2.cell? ⟨R, 2, none⟩ = some (.bool s1.2) := (blk_cell hr2 2).trans rfl; have z2 := blk_frozen hr2 2; have HX2 := Aside0.mk (blk_grown HX1.out hg2 (fun e => by have := Option.some.inj e; omega)); have HG2 := Aside0.mk (grown_trans HG1.out hg2); have HR2 := Aside0.mk (show RdAt R (l.drop k1) (s1.1, false) (w2.setCell ⟨R, 2, none⟩ (.bool false)) from blk_put hr2 2 _ rfl); have HK1 := Aside0.mk (gap_of l s s1 k1 hk1 hf1 hn1); have hl2 : (l.drop k1).length ≤ 1000000 := (by rw [List.length_drop]; omega); clear hk1 hf1 hn1 hr2 hg2) | (go_at_call 47; (with_reducible refine (while_word R (l.drop k1) (s1.1, false) _ HR2.out hl2).mono ?_); rintro e w4 ⟨k3, s3, hk3, hf3, hn3, rfl, hr4, hg4⟩; have HX4 := Aside0.mk (blk_grown (blk_far HX2.out (p := ⟨R, 2, none⟩) (show w.heap.size ≠ R by omega) (.bool false)) hg4 (fun e => by have := Option.some.inj e; omega)); have HG4 := Aside0.mk (grown_trans (grown_set HG2.out) hg4); have HR4 := Aside0.mk hr4; have HK3 := Aside0.mk (runW_of _ _ _ k3 hk3 hf3 hn3); have hl3 : ((l.drop k1).take k3).length ≤ 1000000 := (by rw [List.length_take]; omega); have hl1 : (l.take k1).length ≤ 1000000 := (by rw [List.length_take]; omega); clear hk3 hf3 hn3 hr4 hg4 c2 z2) | (go_at_call 17; (with_reducible refine (Width_any ((l.drop k1).take k3) hl3 _).mono ?_); rintro e w5 ⟨rfl, hb5⟩; have HX5 := Aside0.mk (blk_below HX4.out hb5); have HR5 := Aside0.mk (HR4.out.grown hb5); have HG5 := Aside0.mk (grown_trans HG4.out (below_grown R hb5)); have q0 : w5.cell? ⟨w.heap.size, 0, none⟩ = some (.string ⟨#[]⟩) := (blk_cell HX5.out 0).trans rfl; have q1 : w5.cell? ⟨w.heap.size, 1, none⟩ = some (.int .i64 0) := (blk_cell HX5.out 1).trans rfl; have q2 : w5.cell? ⟨w.heap.size, 2, none⟩ = some (.int .i64 0) := (blk_cell HX5.out 2).trans rfl; have q3 : w5.cell? ⟨w.heap.size, 3, none⟩ = some (.int .i64 0) := (blk_cell HX5.out 3).trans rfl; have p0 := blk_frozen HX5.out 0; have p1 := blk_frozen HX5.out 1; have p2 := blk_frozen HX5.out 2; have p3 := blk_frozen HX5.out 3; have hne : w.heap.size ≠ w5.heap.size := Nat.ne_of_lt (blk_lt HX5.out); clear hb5) | (go_at_call 50; (with_reducible refine (count_any (l.take k1) _).mono ?_); rintro e w' ⟨rfl, rfl⟩; have hxw := (show w.heap.size < w5.heap.size from blk_lt HX5.out); have HX6 := Aside0.mk (blk_alloc HX5.out (.cells #[.string (bstr ((l.drop k1).take k3)), .int .i64 (widthL ((l.drop k1).take k3)), .int .i64 0, .int .i64 (Lib.countByte (l.take k1) 10)] 34)); have HY6 := Aside0.mk (blk_new w5 (.cells #[.string (bstr ((l.drop k1).take k3)), .int .i64 (widthL ((l.drop k1).take k3)), .int .i64 0, .int .i64 (Lib.countByte (l.take k1) 10)] 34))) | (go_at_call 51; (with_reducible refine (suffix_any (l.take k1) hl1 _).mono ?_); rintro e w' ⟨rfl, rfl⟩))
  all_goals
    obtain ⟨-, ka, kd⟩ := HK1.out
    have HA : aheadL l = l.take k1 := ka
    have hwd : runW (0, false) (afterL l) = ((l.drop k1).take k3, (l.drop k1).drop k3) := by
      rw [show afterL l = l.drop k1 from kd, runW_last 0 s1.1]
      exact HK3.out
    have HT : tokL l = (l.drop k1).take k3 := congrArg Prod.fst hwd
    have HE : restL l = (l.drop k1).drop k3 := congrArg Prod.snd hwd
    have HRW := Aside0.mk (show ∃ s', RdAt R (restL l) s' w5 by rw [HE]; exact ⟨s3, HR5.out⟩)
  · have HV : wordV l = .agg #[.string (bstr ((l.drop k1).take k3)), .int .i64 (widthL ((l.drop k1).take k3)), .int .i64 256, .int .i64 (Lib.countByte (l.take k1) 10)] := by
      unfold wordV spaceL hardL
      rw [HT, HA, if_pos (by assumption)]
    have hb : (bstr ((l.drop k1).take k3)).toList.isEmpty = (tokL l).isEmpty := by rw [Lib.toList_data, HT]; rfl
    have HF := Aside0.mk (And.intro HV hb)
    clear HV hb HT HE HA hwd ka kd
    refine bodyPost_ret (v := .tuple #[wordV l, .bool (!(tokL l).isEmpty)]) ?_ rfl ⟨rfl, ?_, ?_⟩
    · rw [HF.out.1, ← HF.out.2]
      have hX := blk_alloc (blk_put (blk_put (blk_put (blk_put HX5.out 0 (.string (bstr ((l.drop k1).take k3))) rfl) 1 (.int .i64 (widthL ((l.drop k1).take k3))) rfl) 2 (.int .i64 256) rfl) 3 (.int .i64 (Lib.countByte (l.take k1) 10)) rfl) (.cells #[.string (bstr ((l.drop k1).take k3)), .int .i64 (widthL ((l.drop k1).take k3)), .int .i64 256, .int .i64 (Lib.countByte (l.take k1) 10)] 34)
      have f0 := (blk_cell hX 0).trans (show _ = some (Value.string (bstr ((l.drop k1).take k3))) from rfl)
      have f1 := (blk_cell hX 1).trans (show _ = some (Value.int .i64 (widthL ((l.drop k1).take k3))) from rfl)
      have f2 := (blk_cell hX 2).trans (show _ = some (Value.int .i64 256) from rfl)
      have f3 := (blk_cell hX 3).trans (show _ = some (Value.int .i64 (Lib.countByte (l.take k1) 10)) from rfl)
      clear hX q0 q1 q2 q3 p0 p1 p2 p3
      simp [results, Try.results39, go_sem, f0, f1, f2, f3]
    · obtain ⟨s', hs'⟩ := HRW.out
      exact ⟨s', blk_alloc (blk_far (blk_far (blk_far (blk_far hs' (p := ⟨w.heap.size, 0, none⟩) (show R ≠ w.heap.size by omega) _) (p := ⟨w.heap.size, 1, none⟩) (show R ≠ w.heap.size by omega) _) (p := ⟨w.heap.size, 2, none⟩) (show R ≠ w.heap.size by omega) _) (p := ⟨w.heap.size, 3, none⟩) (show R ≠ w.heap.size by omega) _) _⟩
    · exact grown_alloc (grown_setNew (grown_setNew (grown_setNew (grown_setNew HG5.out (Nat.le_refl _)) (Nat.le_refl _)) (Nat.le_refl _)) (Nat.le_refl _)) _
  · have hno : Lib.hasSuffix (l.take k1) [32] = false := by
      first
        | assumption
        | exact Bool.eq_false_iff.2 (by assumption)
    have HV : wordV l = .agg #[.string (bstr ((l.drop k1).take k3)), .int .i64 (widthL ((l.drop k1).take k3)), .int .i64 0, .int .i64 (Lib.countByte (l.take k1) 10)] := by
      unfold wordV spaceL hardL
      rw [HT, HA, if_neg (by rw [hno]; decide)]
    have hb : (bstr ((l.drop k1).take k3)).toList.isEmpty = (tokL l).isEmpty := by rw [Lib.toList_data, HT]; rfl
    have HF := Aside0.mk (And.intro HV hb)
    clear HV hb HT HE HA hwd ka kd
    refine bodyPost_ret (v := .tuple #[wordV l, .bool (!(tokL l).isEmpty)]) ?_ rfl ⟨rfl, ?_, ?_⟩
    · rw [HF.out.1, ← HF.out.2]
      have hX := blk_alloc (blk_put (blk_put (blk_put (blk_put HX5.out 0 (.string (bstr ((l.drop k1).take k3))) rfl) 1 (.int .i64 (widthL ((l.drop k1).take k3))) rfl) 2 (.int .i64 0) rfl) 3 (.int .i64 (Lib.countByte (l.take k1) 10)) rfl) (.cells #[.string (bstr ((l.drop k1).take k3)), .int .i64 (widthL ((l.drop k1).take k3)), .int .i64 0, .int .i64 (Lib.countByte (l.take k1) 10)] 34)
      have f0 := (blk_cell hX 0).trans (show _ = some (Value.string (bstr ((l.drop k1).take k3))) from rfl)
      have f1 := (blk_cell hX 1).trans (show _ = some (Value.int .i64 (widthL ((l.drop k1).take k3))) from rfl)
      have f2 := (blk_cell hX 2).trans (show _ = some (Value.int .i64 0) from rfl)
      have f3 := (blk_cell hX 3).trans (show _ = some (Value.int .i64 (Lib.countByte (l.take k1) 10)) from rfl)
      clear hX q0 q1 q2 q3 p0 p1 p2 p3
      simp [results, Try.results39, go_sem, f0, f1, f2, f3]
    · obtain ⟨s', hs'⟩ := HRW.out
      exact ⟨s', blk_alloc (blk_far (blk_far (blk_far (blk_far hs' (p := ⟨w.heap.size, 0, none⟩) (show R ≠ w.heap.size by omega) _) (p := ⟨w.heap.size, 1, none⟩) (show R ≠ w.heap.size by omega) _) (p := ⟨w.heap.size, 2, none⟩) (show R ≠ w.heap.size by omega) _) (p := ⟨w.heap.size, 3, none⟩) (show R ≠ w.heap.size by omega) _) _⟩
    · exact grown_alloc (grown_setNew (grown_setNew (grown_setNew (grown_setNew HG5.out (Nat.le_refl _)) (Nat.le_refl _)) (Nat.le_refl _)) (Nat.le_refl _)) _
end Go.Proofs.Ytnfbfachabdahaa.G
/- Chapter 7: a range over an iterator that is never left; the words, one behind the other; the iterator over them. Written by mkF9.py. -/
namespace Go.Proofs.Ytnfbfachabdahaa.G
open Go.RowKit Go.Shelf Go.Proofs.YtnfbfachabdahaaW.PrintWords Go.Proofs.YtnfbfachabdahaaW.PrintLast Go.Proofs.YtnfbfachabdahaaW.PrintMore

section
theorem wpIn_scope_wide {n : Nat} {P : Program} {c : Code} {Q : Exit → Act → World → Prop} {a : Act} {w : World} (h : c.wpIn Fence.wide n P (Exit.noGoto Q) a w) : (Code.scope c).wpIn Fence.wide n P Q a w :=
  wpIn_wide.2 (wp_scope_straight (wpIn_wide.1 h))

/-- The record of a loop lies there, and the block for its rounds' deferred calls. -/
def ReadyAt (r : Loop) (D : Nat) (W : World) : Prop := W.heap[D + 1]? = some (.loop r) ∧ W.heap[D]? = some (.deferred (some []))
theorem ReadyAt.kept {r : Loop} {D : Nat} {W W' : World} {b : Nat} {cs : Array Value} {t : TypeId} {z : Nat × Nat} (h : ReadyAt r D W) (hg : W.grownBy W' (some b)) (hb : W.heap[b]? = some (.cells cs t z)) : ReadyAt r D W' :=
  ⟨blk_grown h.1 hg (fun e => by cases e; rw [h.1] at hb; cases hb), blk_grown h.2 hg (fun e => by cases e; rw [h.2] at hb; cases hb)⟩

variable {F : Fence} {n : Nat} {P : Program}
/-- A range over an iterator that is never left ahead of its end. -/
theorem range_whole {g : Operand} {ps : Array Tmp} {assign body : Code} {Q : Exit → Act → World → Prop} {a : Act} {w : World}
    (hro : F.round = none) (h1 : 1 ≤ n) {gf : Nat} {lb : Array Value} (hg : a.eval g = .func (.func gf) #[] lb) (hFg : F.fn gf) (eg : ∀ args w, (callFunc gf args).run P w = .ok (.enter gf args) w)
    (T : World → Prop)
    (hcall : ∀ (fn : FuncId), F.fn fn → CallsIn F (n - 1) P gf (#[.func (.yield (w.heap.size + 1)) #[] #[]] ++ lb)
      ((w.alloc (.deferred (some []))).alloc (.loop { state := .ready, pending := none, fn, tmps := a.tmps, params := ps, assign, body, defers := w.heap.size }))
      fun e W2 => (∃ v, e = .returned v) ∧ T W2 ∧ ReadyAt { state := .ready, pending := none, fn, tmps := a.tmps, params := ps, assign, body, defers := w.heap.size } w.heap.size W2)
    (hdone : ∀ (o : Obj) (W2 : World), T W2 → (∃ r : Loop, W2.heap[w.heap.size + 1]? = some (.loop r)) → W2.heap[w.heap.size]? = some (.deferred (some [])) →
      Q .normal { a with defers := { target := .collected w.heap.size, args := #[] } :: a.defers } (W2.putObj (w.heap.size + 1) o)) :
    (Code.rangeFunc g ps assign body).wpIn F n P Q a w := by
  refine wpIn_rangeFunc ?_
  intro fn hfn
  rw [hro]
  have hc := hcall fn hfn
  have hen := run_enterLoop_outer (P := P) (w := w) fn a.tmps ps assign body
  have hdo := hdone
  clear hcall hdone
  have hst : ({ state := .ready, pending := none, fn, tmps := a.tmps, params := ps, assign, body, defers := w.heap.size } : Loop).state = .ready := rfl
  have hpe : ({ state := .ready, pending := none, fn, tmps := a.tmps, params := ps, assign, body, defers := w.heap.size } : Loop).pending = none := rfl
  generalize ({ state := .ready, pending := none, fn, tmps := a.tmps, params := ps, assign, body, defers := w.heap.size } : Loop) = r at hc hen hst hpe
  generalize (w.alloc (.deferred (some []))).alloc (.loop r) = W1 at hc hen
  refine ⟨w.heap.size + 1, [{ target := .collected w.heap.size, args := #[] }], W1, { target := .fn (.func gf) lb, args := #[.func (.yield (w.heap.size + 1)) #[] #[]] }, W1, gf,
    #[.func (.yield (w.heap.size + 1)) #[] #[]] ++ lb, W1, hen, ?_, ?_, ?_, fun _ => h1, ?_⟩
  · simp only [resolve, hg]
    simp [go_sem]
  · intro f' hf'
    simp [Target.leads] at hf'
    subst hf'
    exact hFg
  · simp [invoke, go_sem, eg]
  · refine hc.mono ?_
    rintro e W2 ⟨⟨v, rfl⟩, hT, hR, hD⟩
    have he := run_endLoop (P := P) hR (by rw [hst]; simp)
    rw [hpe] at he
    exact ⟨none, _, he, hdo _ W2 hT ⟨_, hR⟩ hD⟩

/-- One round of it. -/
theorem yield_round {l : Nat} {r : Loop} {args : Array Value} {W : World} {R : World → Prop} (hl : W.heap[l]? = some (.loop r)) (hs : r.state = .ready) (hp : r.pending = none) (hfn : F.fn r.fn) (hps : args.size = r.params.size)
    (h : r.assign.wpIn (F.inRound l) n P (Exit.then (fun a₁ W1 => W1.heap[l]? = some (.loop r) ∧
        r.body.wpIn (F.inRound l) n P (fun e _ W3 => e = .normal ∧ (∃ r' : Loop, r' = { r with state := .busy } ∧ W3.heap[l]? = some (.loop r')) ∧ R (W3.putObj l (.loop r))) a₁ (W1.putObj l (.loop { r with state := .busy }))) (fun _ _ _ => False))
      { tmps := (r.params.zip args).foldl (fun t (p, v) => t.setIfInBounds p v) r.tmps, defers := [] } W) :
    YieldAt F n P l args W fun e W' => e = .returned (.bool true) ∧ R W' := by
  refine ⟨r.fn, _, r.assign, r.body, run_yield hl hps, roundIn_of_wpIn hfn (wpIn_mono h ?_)⟩
  rintro e a1 W1 he
  cases e with
  | normal =>
    obtain ⟨h1, hb⟩ := he
    refine ⟨_, run_beginRound h1 hs, wpIn_mono hb ?_⟩
    rintro e a3 W3 ⟨rfl, ⟨r', er, h3⟩, hR⟩
    have hr := run_endRound (P := P) none h3
    have e2 : ({ r' with state := if (none : Option Code).isNone then LoopState.ready else LoopState.done, pending := none } : Loop) = r := by
      subst er
      cases r
      simp_all
    rw [e2] at hr
    exact ⟨_, _, hr, rfl, hR⟩
  | ret => exact he.elim
  | exit id => exact he.elim
  | goto t => exact he.elim
  | panic ch => exact he.elim
  | outgrown => exact he.elim
end

/-- A word that is told. -/
def wordAt (l : List UInt8) : S34 := ⟨bstr (tokL l), widthL (tokL l), spaceL l, hardL l⟩
def vS34 (x : S34) : Value := .agg #[.string x.f0, .int .i64 x.f1, .int .i64 x.f2, .int .i64 x.f3]
theorem wordV_eq (l : List UInt8) : wordV l = vS34 (wordAt l) := rfl
def wordsF : Nat → List UInt8 → List S34
  | 0, _ => []
  | n + 1, l => if (tokL l).isEmpty then [] else wordAt l :: wordsF n (restL l)
/-- A text's words, the first one's Space as it is read. -/
def wordsL (l : List UInt8) : List S34 := wordsF (l.length + 1) l
theorem rest_len (l : List UInt8) : (tokL l).length + (restL l).length ≤ l.length := by
  have h1 := congrArg List.length (tok_app l)
  have h2 := after_len l
  rw [List.length_append] at h1
  omega
theorem wordsF_more : ∀ (n m : Nat) (l : List UInt8), l.length < n → l.length < m → wordsF n l = wordsF m l
  | 0, _, _, h, _ => absurd h (Nat.not_lt_zero _)
  | _ + 1, 0, _, _, h => absurd h (Nat.not_lt_zero _)
  | n + 1, m + 1, l, h, k => by
    unfold wordsF
    by_cases ht : (tokL l).isEmpty = true
    · rw [if_pos ht, if_pos ht]
    · rw [if_neg ht, if_neg ht]
      have h0 : (tokL l).length ≠ 0 := fun e => ht (by simpa using e)
      have := rest_len l
      rw [wordsF_more n m (restL l) (by omega) (by omega)]
theorem wordsL_nil {l : List UInt8} (h : (tokL l).isEmpty = true) : wordsL l = [] := by
  unfold wordsL wordsF
  rw [if_pos h]
theorem wordsL_cons {l : List UInt8} (h : (tokL l).isEmpty = false) : wordsL l = wordAt l :: wordsL (restL l) := by
  have h0 : (tokL l).length ≠ 0 := fun e => by
    rw [List.length_eq_zero_iff.1 e] at h
    cases h
  have := rest_len l
  unfold wordsL
  rw [wordsF, if_neg (by rw [h]; decide), wordsF_more l.length ((restL l).length + 1) (restL l) (by omega) (by omega)]
theorem wordsF_len : ∀ (n : Nat) (l : List UInt8), (wordsF n l).length ≤ l.length
  | 0, _ => Nat.zero_le _
  | n + 1, l => by
    unfold wordsF
    by_cases ht : (tokL l).isEmpty = true
    · rw [if_pos ht]; exact Nat.zero_le _
    · rw [if_neg ht, List.length_cons]
      have h0 : (tokL l).length ≠ 0 := fun e => ht (by simpa using e)
      have := rest_len l
      have := wordsF_len n (restL l)
      omega
theorem wordsL_len (l : List UInt8) : (wordsL l).length ≤ l.length := wordsF_len _ _
/-- How much is left to be read. -/
def leftN (R : Nat) (W : World) : Nat := match W.heap[R]? with
  | some (Obj.cells cs _ _) => (match cs[0]? with
    | some (Value.string s) => s.size
    | _ => 0)
  | _ => 0
theorem leftN_of {R : Nat} {l : List UInt8} {s : UInt8 × Bool} {W : World} (h : RdAt R l s W) : leftN R W = l.length := by
  unfold leftN
  rw [show W.heap[R]? = _ from h]
  exact bstr_size l
attribute [local go_sem] Oper.semAt_some
set_option maxRecDepth 100000 in
set_option maxHeartbeats 4000000 in
theorem words_in (m : Nat) (hm : 6 ≤ m) (lp R Bp : Nat) (l : List UInt8) (s : UInt8 × Bool) (hl : l.length ≤ 1000) (J : List S34 → World → Prop)
    (hJ : ∀ s W W', J s W → W.grownBy W' (some R) → (∃ cs, W.heap[R]? = some (.cells cs 47 (0, 0))) → J s W')
    (hY : ∀ (pre : List S34) (x : S34) W, J pre W → pre.length < 1000 → (∃ cs, W.heap[R]? = some (.cells cs 47 (0, 0))) → (∃ v, Boxed W Bp 43 v) → YieldAt Fence.wide (m - 1) Try.prog lp #[vS34 x] W fun e W' => e = .returned (.bool true) ∧ J (pre ++ [x]) W' ∧ W'.heap[R]? = W.heap[R]? ∧ W'.heap[Bp]? = W.heap[Bp]?)
    (W : World) (hs : RdAt R l s W) (hp : Boxed W Bp 43 (.pointer (some ⟨R, 0, none⟩))) (h0 : J [] W) :
    CallsIn Fence.wide m Try.prog 38 #[.func (.yield lp) #[] #[], .pointer (some ⟨Bp, 0, none⟩)] W fun e W' => (∃ v, e = .returned v) ∧ J (wordsL l) W' := by
  refine callsIn_of_wp Try.func38 rfl trivial ?_ rfl
  simp only [Try.ntmps38, List.size_toArray, List.length_cons, List.length_nil, Nat.reduceAdd, Nat.reduceSub, Array.replicate_succ, Array.replicate_zero, List.push_toArray, List.append_toArray, List.nil_append, List.cons_append]
  have HS := Aside0.mk hs
  have HP := Aside0.mk hp
  clear hs hp
  gi_wp2
  refine wpIn_scope_wide ?_
  gi_wp2
  refine wpIn_label ?_
  gi_wp2
  gi_loopw [4] (fun _ wr => ∃ (pre : List S34) (rem : List UInt8) (s' : UInt8 × Bool), Aside0 (pre ++ wordsL rem = wordsL l) ∧ rem.length ≤ 1000 ∧ Aside0 (RdAt R rem s' wr) ∧ Aside0 (J pre wr) ∧ Aside0 (Boxed wr Bp 43 (.pointer (some ⟨R, 0, none⟩)))) (fun _ wr => leftN R wr)
  case atStart => exact ⟨[], l, s, ⟨rfl⟩, hl, HS, ⟨h0⟩, HP⟩
  case round =>
    clear HS HP h0
    obtain ⟨pre, rem, s', HE, hrem, HR, HJ, HP⟩ := hrel
    have c0 := HP.out.cell
    gi_wp2_with fail
    refine ⟨trivial, fun _ => by omega, ?_⟩
    refine (callsIn_wide.2 (next_any R rem s' wr HR.out hrem)).mono ?_
    rintro e w2 ⟨rfl, ⟨s2, hr2⟩, hg2⟩
    have hJ2 := Aside0.mk (hJ _ _ _ HJ.out hg2 ⟨_, HR.out⟩)
    have hrne : Bp ≠ R := blk_ne HP.out HR.out (by decide)
    have HP2 := Aside0.mk (show Boxed w2 Bp 43 (.pointer (some ⟨R, 0, none⟩)) from blk_grown HP.out hg2 (fun e => hrne (Option.some.inj e)))
    have HR2 := Aside0.mk hr2
    clear HP HJ hr2 hg2 c0
    cases ht : (tokL rem).isEmpty
    · have HC := Aside0.mk (wordsL_cons ht)
      have hn0 : (tokL rem).length ≠ 0 := fun e => by rw [List.length_eq_zero_iff.1 e] at ht; cases ht
      have hlen : pre.length < 1000 := by
        have h1 := congrArg List.length HE.out
        have h2 := wordsL_len l
        rw [HC.out, List.length_append, List.length_cons] at h1
        omega
      have hrl := rest_len rem
      have HR3 := Aside0.mk (show RdAt R (restL rem) s2 (w2.alloc (.cells #[.string (bstr (tokL rem)), .int .i64 (widthL (tokL rem)), .int .i64 (spaceL rem), .int .i64 (hardL rem)] 34)) from blk_alloc HR2.out _)
      have HP3 := Aside0.mk (show Boxed (w2.alloc (.cells #[.string (bstr (tokL rem)), .int .i64 (widthL (tokL rem)), .int .i64 (spaceL rem), .int .i64 (hardL rem)] 34)) Bp 43 (.pointer (some ⟨R, 0, none⟩)) from HP2.out.alloc _)
      have hJ3 := hJ _ _ _ hJ2.out (World.grownBy_alloc w2 (.cells #[.string (bstr (tokL rem)), .int .i64 (widthL (tokL rem)), .int .i64 (spaceL rem), .int .i64 (hardL rem)] 34) (some R)) ⟨_, HR2.out⟩
      obtain ⟨fn, tmps, assign, body, hy, hR⟩ := hY pre (wordAt rem) _ hJ3 hlen ⟨_, HR3.out⟩ ⟨_, HP3.out⟩
      simp only [vS34, wordAt] at hy
      clear hJ3 ht
      unfold wordV
      gi_wp2
      refine ⟨fun _ => by omega, hR.mono ?_⟩
      rintro ev w7 ⟨rfl, hJ7, hk1, hk2⟩
      have HJ7 := Aside0.mk hJ7
      have HR7 := Aside0.mk (show RdAt R (restL rem) s2 w7 from hk1.trans HR3.out)
      have HP7 := Aside0.mk (show Boxed w7 Bp 43 (.pointer (some ⟨R, 0, none⟩)) from hk2.trans HP3.out)
      have HE7 := Aside0.mk (show (pre ++ [wordAt rem]) ++ wordsL (restL rem) = wordsL l by rw [← HE.out, HC.out, List.append_assoc]; rfl)
      have hl1 := leftN_of HR.out
      have hl2 := leftN_of HR7.out
      clear hJ7 hk1 hk2 hy
      gi_wp2
      go_roundw
      case rel => exact ⟨_, restL rem, s2, HE7, by omega, HR7, HJ7, HP7⟩
      case measure => omega
    · have HC := Aside0.mk (wordsL_nil ht)
      have HJE := Aside0.mk (show J (wordsL l) w2 by rw [← HE.out, HC.out, List.append_nil]; exact hJ2.out)
      have HJ3 := Aside0.mk (hJ _ _ _ HJE.out (World.grownBy_alloc w2 (.cells #[.string (bstr (tokL rem)), .int .i64 (widthL (tokL rem)), .int .i64 (spaceL rem), .int .i64 (hardL rem)] 34) (some R)) ⟨_, HR2.out⟩)
      clear ht
      unfold wordV
      gi_upto_region 1 with fail
      refine wpIn_wide.2 ?_
      go_wp2
      gi_wp2
      rw [Exit.noGoto_normal]
      go_end0
      exact ⟨⟨_, rfl⟩, HJ3.out⟩
end Go.Proofs.Ytnfbfachabdahaa.G
/- Chapter 7: a text's words. Written by mkF10.py. -/
namespace Go.Proofs.Ytnfbfachabdahaa.G
open Go.RowKit Go.Shelf Go.Proofs.YtnfbfachabdahaaW.PrintWords Go.Proofs.YtnfbfachabdahaaW.PrintLast Go.Proofs.YtnfbfachabdahaaW.PrintMore

def cs34 (x : S34) : List Value := [.string x.f0, .int .i64 x.f1, .int .i64 x.f2, .int .i64 x.f3]
def row34 (l : List S34) : List Value := l.flatMap cs34
theorem row34_snoc (l : List S34) (x : S34) : row34 (l ++ [x]) = row34 l ++ cs34 x := by simp [row34]
theorem snoc_ind {α : Type} {Q : List α → Prop} (h0 : Q []) (h1 : ∀ l x, Q l → Q (l ++ [x])) (l : List α) : Q l := by
  rw [← List.reverse_reverse l]
  induction l.reverse with
  | nil => exact h0
  | cons x r ih => rw [List.reverse_cons]; exact h1 _ _ ih
theorem reps34 (w : World) (base : Nat) (ok : Nat → Prop) (l : List S34) : Reps (k34.M w base ok) 4 l (row34 l) := by
  induction l using snoc_ind with
  | h0 => exact Reps.none _ _
  | h1 l x ih => rw [row34_snoc]; exact ih.snoc (k34_mkM _ _ _ x) rfl
theorem R34_of_own {W : World} {base : Nat} {v : Value} {l : List S34} (h : W.ownsRow base 34 4 v l.length (row34 l)) : Kd.R k34 34 W base (fun _ => True) v l :=
  ⟨fun _ _ => trivial, row34 l, h, reps34 _ _ _ _⟩
theorem infoW : (Try.prog.info? 34).map (fun i => (i.zero, i.size, i.bytes)) = some (some (.agg #[.string ⟨#[]⟩, .int .i64 0, .int .i64 0, .int .i64 0]), 4, 40) := by kernel_rfl
theorem cells_new (W : World) (t : TypeId) (l : List Value) (j : Nat) (u : Value) (h : l[j]? = some u) : (W.alloc (.cells l.toArray t)).cell? (Addr.add ⟨W.heap.size, 0, none⟩ j) = some u := by
  rw [add_plain, World.cell?_alloc_new]
  simp [h]
theorem cells_newS (W : World) (a : Addr) (x : Value) (t : TypeId) (l : List Value) (j : Nat) (u : Value) (h : l[j]? = some u) : ((W.setCell a x).alloc (.cells l.toArray t)).cell? (Addr.add ⟨W.heap.size, 0, none⟩ j) = some u := by
  rw [show W.heap.size = (W.setCell a x).heap.size by simp [World.setCell]]
  exact cells_new _ t l j u h
theorem own_blk_ne {W : World} {b : Nat} {t e : TypeId} {cs : Array Value} (h : W.heap[b]? = some (.cells cs t (0, 0))) (hte : t ≠ e) {base size k : Nat} {v : Value} {xs : List Value} (hr : W.ownsRow base e size v k xs) : some b ≠ v.ownBlock := by
  rcases hr.2 with ⟨rfl, _⟩ | ⟨g, cap, cur, rfl, _, hgb, _⟩
  · simp [Value.ownBlock]
  · intro e'
    obtain rfl : b = g := by simpa [Value.ownBlock] using e'
    have := h.symm.trans hgb
    simp at this
    exact hte this.2
theorem own_kept_ne {W W' : World} {b : Nat} {t e : TypeId} {cs : Array Value} (h : W.heap[b]? = some (.cells cs t (0, 0))) (hte : t ≠ e) {base size k : Nat} {v : Value} {xs : List Value} (hr : W.ownsRow base e size v k xs) (hg : W.grownBy W' (some b)) : W'.ownsRow base e size v k xs :=
  hr.kept hg (.inr (own_blk_ne h hte hr).symm)
/-- The first word has no Space. -/
def headL : List S34 → List S34
  | [] => []
  | x :: l => { x with f2 := 0 } :: l
def fixS (pre : List S34) (x : S34) : S34 := if pre.isEmpty then { x with f2 := 0 } else x
theorem headL_snoc (pre : List S34) (x : S34) : headL (pre ++ [x]) = headL pre ++ [fixS pre x] := by
  cases pre <;> rfl
theorem headL_len (l : List S34) : (headL l).length = l.length := by cases l <;> rfl
/-- What is laid between two rounds. -/
def WJ (w : World) (r : Loop) (pre : List S34) (W : World) : Prop :=
  ReadyAt r (w.heap.size + 1 + 1 + 1) W ∧ (∃ v, Boxed W (w.heap.size) 23 v ∧ W.ownsRow w.heap.size 34 4 v pre.length (row34 (headL pre)) ∧ (pre = [] → v = .slice none 0 0)) ∧ Below w.heap.size w W
theorem WJ.grown {w : World} {r : Loop} {pre : List S34} {W W' : World} (h : WJ w r pre W) (hg : W.grownBy W' (some (w.heap.size + 1))) (hc : ∃ cs, W.heap[w.heap.size + 1]? = some (.cells cs 47 (0, 0))) : WJ w r pre W' := by
  obtain ⟨h1, ⟨v, h2, h3, h4⟩, h5⟩ := h
  obtain ⟨cs, hc⟩ := hc
  refine ⟨h1.kept hg hc, ⟨v, h2.kept hg (by simp), own_kept_ne hc (by decide) h3 hg, h4⟩, ?_⟩
  exact h5.trans (grown_below hg (Nat.le_succ _) h5.size)
theorem words_any (a : Addr) (w : World) : Calls Try.prog 30 #[.pointer (some a)] w fun e w' => e = .returned (.func (.func 38) #[] #[.pointer (some ⟨w.heap.size, 0, none⟩)]) ∧ w' = w.alloc (.cells #[.pointer (some a)] 43) := by
  go_enter Try.func30, Try.ntmps30
  go_wp2
  go_ret
  exact ⟨rfl, rfl⟩
attribute [local go_sem] Oper.semAt_some
set_option maxRecDepth 100000 in
set_option maxHeartbeats 4000000 in
theorem words_long (l : List UInt8) (hl : 400 < l.length) (hl2 : l.length ≤ 1000000) (w : World) : Calls Try.prog 12 #[.string (bstr l)] w fun e w' => e = .returned (.tuple #[.slice none 0 0, .int .i64 70]) ∧ w = w' := by
  have hs := bstr_size l
  go_enter Try.func12, Try.ntmps12
  go_wp2
  go_ret2
  exact ⟨rfl, rfl⟩
set_option maxRecDepth 100000 in
set_option maxHeartbeats 4000000 in
theorem words_short (l : List UInt8) (hl : l.length ≤ 400) (w : World) :
    CallsIn Fence.wide 8 Try.prog 12 #[.string (bstr l)] w fun e w' => ∃ v, e = .returned (.tuple #[v, .int .i64 0]) ∧ w'.ownsRow w.heap.size 34 4 v (wordsL l).length (row34 (headL (wordsL l))) ∧ Below w.heap.size w w' := by
  obtain ⟨i0, hi, hz0, hz1, hz2⟩ := info_parts infoW
  have HI := Aside0.mk hi
  have hs := bstr_size l
  clear hi
  refine callsIn_of_wp_marks Try.func12 rfl trivial ?_ rfl
  simp only [Try.ntmps12, List.size_toArray, List.length_cons, List.length_nil, Nat.reduceAdd, Nat.reduceSub, Array.replicate_succ, Array.replicate_zero, List.push_toArray, List.append_toArray, List.nil_append, List.cons_append]
  gi_wp2_with fail
  refine ⟨trivial, ?_⟩
  refine (callsIn_wide.2 (words_any _ _)).mono ?_
  rintro e w2 ⟨rfl, rfl⟩
  gi_wp2_with fail
  have bo := blk_alloc (blk_alloc (blk_new w (.cells #[.slice none 0 0] 23)) (.cells #[.string (bstr l), .int .u8 0, .bool false] 47)) (.cells #[.pointer (some ⟨w.heap.size + 1, 0, none⟩)] 43)
  have br := blk_alloc (blk_new (w.alloc (.cells #[.slice none 0 0] 23)) (.cells #[.string (bstr l), .int .u8 0, .bool false] 47)) (.cells #[.pointer (some ⟨w.heap.size + 1, 0, none⟩)] 43)
  have bp := blk_new ((w.alloc (.cells #[.slice none 0 0] 23)).alloc (.cells #[.string (bstr l), .int .u8 0, .bool false] 47)) (.cells #[.pointer (some ⟨w.heap.size + 1, 0, none⟩)] 43)
  have hB0 : Below w.heap.size w (((w.alloc (.cells #[.slice none 0 0] 23)).alloc (.cells #[.string (bstr l), .int .u8 0, .bool false] 47)).alloc (.cells #[.pointer (some ⟨w.heap.size + 1, 0, none⟩)] 43)) := below_alloc (below_alloc (below_alloc (Below.refl _ _) _) _) _
  have z3 : (((w.alloc (.cells #[.slice none 0 0] 23)).alloc (.cells #[.string (bstr l), .int .u8 0, .bool false] 47)).alloc (.cells #[.pointer (some ⟨w.heap.size + 1, 0, none⟩)] 43)).heap.size = w.heap.size + 1 + 1 + 1 := by simp
  simp only [World.size_alloc] at br bp
  have BO := Aside0.mk bo
  have BR := Aside0.mk br
  have BPP := Aside0.mk bp
  have HB0 := Aside0.mk hB0
  clear bo br bp hB0
  generalize ((w.alloc (.cells #[.slice none 0 0] 23)).alloc (.cells #[.string (bstr l), .int .u8 0, .bool false] 47)).alloc (.cells #[.pointer (some ⟨w.heap.size + 1, 0, none⟩)] 43) = W0 at *
  refine range_whole (F := Fence.wide) rfl (by omega) (gf := 38) (lb := #[.pointer (some ⟨w.heap.size + 1 + 1, 0, none⟩)]) rfl trivial (enters_of Try.func38 (by kernel_rfl) rfl)
    (fun W2 => (∃ v, Boxed W2 (w.heap.size) 23 v ∧ W2.ownsRow w.heap.size 34 4 v (wordsL l).length (row34 (headL (wordsL l)))) ∧ Below w.heap.size w W2) ?hcall ?hdone
  case hcall =>
    intro fn hfn
    generalize hrec : ({ state := .ready, pending := none, fn, tmps := _, params := _, assign := _, body := _, defers := W0.heap.size } : Loop) = r
    have hst : r.state = .ready := by rw [← hrec]
    have hpe : r.pending = none := by rw [← hrec]
    have hrf : Fence.wide.fn r.fn := trivial
    have ready0 : ReadyAt r (w.heap.size + 1 + 1 + 1) ((W0.alloc (.deferred (some []))).alloc (.loop r)) := by
      rw [← z3]
      refine ⟨?_, blk_alloc (blk_new W0 _) _⟩
      have := blk_new (W0.alloc (.deferred (some []))) (.loop r)
      simpa using this
    have below0 : Below W0.heap.size W0 ((W0.alloc (.deferred (some []))).alloc (.loop r)) := below_alloc (below_alloc (Below.refl _ _) _) _
    have below1 := below_then HB0.out HB0.out.size below0
    rw [z3]
    refine (words_in 7 (by omega) (w.heap.size + 1 + 1 + 1 + 1) (w.heap.size + 1) (w.heap.size + 1 + 1) l (0, false) (by omega) (WJ w r) (fun s W W' h hg hc => h.grown hg hc) ?hY _ (blk_below BR.out below0) (blk_below BPP.out below0)
      ⟨ready0, ⟨.slice none 0 0, blk_below BO.out below0, World.ownsRow_nil _ _ _ _, fun _ => rfl⟩, below1⟩).mono ?_
    case hY =>
      rintro pre ⟨x0, x1, x2, x3⟩ W ⟨h1, ⟨v, h2, h3, h4⟩, h5⟩ hlen ⟨cr, hcr⟩ ⟨vp, hvp⟩
      have hsz := h5.size
      refine yield_round (args := #[vS34 ⟨x0, x1, x2, x3⟩]) (R := fun W' => WJ w r (pre ++ [⟨x0, x1, x2, x3⟩]) W' ∧ W'.heap[w.heap.size + 1]? = W.heap[w.heap.size + 1]? ∧ W'.heap[w.heap.size + 1 + 1]? = W.heap[w.heap.size + 1 + 1]?) h1.1 hst hpe hrf (by rw [← hrec]; rfl) ?_
      have e1 := congrArg Loop.assign hrec
      have e2 := congrArg Loop.params hrec
      have e3 := congrArg Loop.body hrec
      have e4 := congrArg Loop.tmps hrec
      dsimp only at e1 e2 e3 e4
      clear hrec
      generalize hbz : ({ r with state := LoopState.busy } : Loop) = rb
      rw [← e1, ← e2, ← e3, ← e4]
      clear e1 e2 e3 e4
      rw [hcr, show W.heap[w.heap.size + 1 + 1]? = _ from hvp]
      have H1 := Aside0.mk h1
      have H2 := Aside0.mk h2
      have H3 := Aside0.mk h3
      have H4 := Aside0.mk h4
      have H5 := Aside0.mk h5
      have HCR := Aside0.mk hcr
      have HVP := Aside0.mk hvp
      have hlt := blk_lt h1.1
      clear h1 h2 h3 h4 h5 ready0 below0 below1 hcr hvp
      unfold vS34
      gi_wp2_with fail
      refine And.intro (blk_alloc H1.out.1 _) ?_
      have hl1 := blk_alloc H1.out.1 (.cells #[.string x0, .int .i64 x1, .int .i64 x2, .int .i64 x3] 34)
      have hd := blk_alloc H1.out.2 (.cells #[.string x0, .int .i64 x1, .int .i64 x2, .int .i64 x3] 34)
      have hp0 := blk_new W (.cells #[.string x0, .int .i64 x1, .int .i64 x2, .int .i64 x3] 34)
      have hb := blk_alloc H2.out (.cells #[.string x0, .int .i64 x1, .int .i64 x2, .int .i64 x3] 34)
      have ho := H3.out.alloc (.cells #[.string x0, .int .i64 x1, .int .i64 x2, .int .i64 x3] 34)
      have hB := below_alloc H5.out (.cells #[.string x0, .int .i64 x1, .int .i64 x2, .int .i64 x3] 34)
      have hr := blk_alloc HCR.out (.cells #[.string x0, .int .i64 x1, .int .i64 x2, .int .i64 x3] 34)
      have hv := blk_alloc HVP.out (.cells #[.string x0, .int .i64 x1, .int .i64 x2, .int .i64 x3] 34)
      generalize W.alloc (.cells #[.string x0, .int .i64 x1, .int .i64 x2, .int .i64 x3] 34) = Wa1 at *
      have hl2 : (Wa1.putObj (w.heap.size + 1 + 1 + 1 + 1) (.loop rb)).heap[w.heap.size + 1 + 1 + 1 + 1]? = some (.loop rb) := World.putObj_heap_same (blk_lt hl1)
      have hp2 := (World.putObj_heap_other (w := Wa1) (o := .loop rb) (show W.heap.size ≠ w.heap.size + 1 + 1 + 1 + 1 by omega)).trans hp0
      have hd2 := (World.putObj_heap_other (w := Wa1) (o := .loop rb) (show w.heap.size + 1 + 1 + 1 ≠ w.heap.size + 1 + 1 + 1 + 1 by omega)).trans hd
      have hb2 : Boxed (Wa1.putObj (w.heap.size + 1 + 1 + 1 + 1) (.loop rb)) (w.heap.size) 23 v := (World.putObj_heap_other (w := Wa1) (o := .loop rb) (show w.heap.size ≠ w.heap.size + 1 + 1 + 1 + 1 by omega)).trans hb
      have hr2 := (World.putObj_heap_other (w := Wa1) (o := .loop rb) (show w.heap.size + 1 ≠ w.heap.size + 1 + 1 + 1 + 1 by omega)).trans hr
      have hv2 := (World.putObj_heap_other (w := Wa1) (o := .loop rb) (show w.heap.size + 1 + 1 ≠ w.heap.size + 1 + 1 + 1 + 1 by omega)).trans hv
      have ho2 := ownsRow_putObj ho (.loop rb) hl1 rfl
      have hB2 := hB.trans (belowK_b (w := w) (Nat.le_refl _) Wa1 (w.heap.size + 1 + 1 + 1 + 1) _ (.loop rb) (by omega) hl1 rfl rfl)
      clear hp0 hd hb ho hB hl1 hr hv
      generalize Wa1.putObj (w.heap.size + 1 + 1 + 1 + 1) (.loop rb) = Wb at *
      by_cases hpre : pre = []
      · have hvn := H4.out hpre
        subst hpre hvn
        have HP2 := Aside0.mk hp2
        have hne : W.heap.size ≠ w.heap.size + 1 + 1 + 1 + 1 := by omega
        have b0 : Boxed (Wb.setCell ⟨W.heap.size, 2, none⟩ (.int .i64 0)) (w.heap.size) 23 (.slice none 0 0) := blk_far hb2 (p := ⟨W.heap.size, 2, none⟩) (show w.heap.size ≠ W.heap.size by omega) _
        have r0 := blk_far hr2 (p := ⟨W.heap.size, 2, none⟩) (show w.heap.size + 1 ≠ W.heap.size by omega) (.int .i64 0)
        have v0 := blk_far hv2 (p := ⟨W.heap.size, 2, none⟩) (show w.heap.size + 1 + 1 ≠ W.heap.size by omega) (.int .i64 0)
        have k0 : Wb.cell? ⟨W.heap.size, 0, none⟩ = some (.string x0) := (blk_cell hp2 0).trans rfl
        have k1 : Wb.cell? ⟨W.heap.size, 1, none⟩ = some (.int .i64 x1) := (blk_cell hp2 1).trans rfl
        have k2 : Wb.cell? ⟨W.heap.size, 2, none⟩ = some (.int .i64 x2) := (blk_cell hp2 2).trans rfl
        have k3 : Wb.cell? ⟨W.heap.size, 3, none⟩ = some (.int .i64 x3) := (blk_cell hp2 3).trans rfl
        have f2 := blk_frozen hp2 2
        have hc0 := hb2.cell
        have hc00 := b0.cell
        have F1 := Aside0.mk (show (Wb.setCell ⟨W.heap.size, 2, none⟩ (.int .i64 0)).heap[w.heap.size + 1 + 1 + 1 + 1]? = some (.loop rb) from (Below.heap_setCell _ _ _ _ (by intro e; simp at e; omega)).trans hl2)
        have F2 := Aside0.mk (show (Wb.setCell ⟨W.heap.size, 2, none⟩ (.int .i64 0)).heap[w.heap.size + 1 + 1 + 1]? = some (.deferred (some [])) from (Below.heap_setCell _ _ _ _ (by intro e; simp at e; omega)).trans hd2)
        have F5 := Aside0.mk (show Below w.heap.size w (Wb.setCell ⟨W.heap.size, 2, none⟩ (.int .i64 0)) from hB2.setCell (p := ⟨W.heap.size, 2, none⟩) (show w.heap.size ≤ W.heap.size by omega) _)
        have HO : Aside0 ((Wb.setCell ⟨W.heap.size, 2, none⟩ (.int .i64 0)).ownsRow w.heap.size 34 4 (.slice none 0 0) 0 []) := ⟨World.ownsRow_nil _ _ _ _⟩
        have HBX := Aside0.mk b0
        have HRR := Aside0.mk r0
        have HVV := Aside0.mk v0
        have hszb := F5.out.size
        clear hl2 hp2 hd2 hb2 hr2 hv2 ho2 hB2 b0 r0 v0
        gi_wp2_with (gi_at_builtin; refine wpListIn_append_own _ rfl _ _ 23 rfl w.heap.size 34 i0 (.agg #[.string ⟨#[]⟩, .int .i64 0, .int .i64 0, .int .i64 0]) 4 40 Try.underlying23 HI.out hz0 hz1 hz2 rfl (by decide) _ _ _ rfl (HO.out.alloc _) ⟨Wb.heap.size, 0, none⟩ 1 1 (cs34 ⟨x0, x1, 0, x3⟩) rfl rfl (fun j u h => cells_newS Wb ⟨W.heap.size, 2, none⟩ (.int .i64 0) 34 (cs34 ⟨x0, x1, 0, x3⟩) j u h) (by simp [Value.oneCell', cs34]) (by unfold maxLen; omega) (by omega) (Nat.le_trans hszb (World.grownBy_alloc _ _ none).size) ?_; intro v' w1 hown' hgrow _; obtain ⟨g', cap', rfl⟩ := ownsRow_succ hown'; have hrr := blk_grown (blk_alloc HRR.out _) hgrow (own_blk_ne HRR.out (by decide) HO.out); have hvv := blk_grown (blk_alloc HVV.out _) hgrow (own_blk_ne HVV.out (by decide) HO.out); obtain ⟨hv1, hv2, hr2, hk2, hbel⟩ := HBX.out.appended (by decide) HO.out hszb (Nat.le_refl _) hown' hgrow; have G1 := Aside0.mk (And.intro (blk_far hrr (p := ⟨w.heap.size, 0, none⟩) (show w.heap.size + 1 ≠ w.heap.size by omega) (.slice (some ⟨g', 0, none⟩) (0 + 1) cap')) (blk_far hvv (p := ⟨w.heap.size, 0, none⟩) (show w.heap.size + 1 + 1 ≠ w.heap.size by omega) (.slice (some ⟨g', 0, none⟩) (0 + 1) cap'))); have G2 := Aside0.mk hv2; have G3 := Aside0.mk hr2; have G4 := Aside0.mk hk2; have G5 := Aside0.mk hbel; have hc1 := hv1.cell; have hf1 := hv1.frozen; clear hv1 hv2 hr2 hk2 hbel hown' hgrow hrr hvv)
        have f1 := G4.out.2 _ _ F1.out rfl
        have f2 := G4.out.2 _ _ F2.out rfl
        refine ⟨f1, ⟨⟨World.putObj_heap_same (blk_lt f1), (World.putObj_heap_other (by omega)).trans f2⟩, ⟨_, (World.putObj_heap_other (by omega)).trans G2.out, ?_, fun h => ?_⟩, ?_⟩, (World.putObj_heap_other (by omega)).trans G1.out.1, (World.putObj_heap_other (by omega)).trans G1.out.2⟩
        · have hq := ownsRow_putObj G3.out (.loop r) f1 rfl
          simpa [headL, row34, cs34] using hq
        · exact absurd h (by simp)
        · exact (F5.out.trans G5.out).trans (belowK_b (w := w) (Nat.le_refl _) _ (w.heap.size + 1 + 1 + 1 + 1) _ (.loop r) (by omega) f1 rfl rfl)
      · have HPRE := Aside0.mk hpre
        have hlp : pre.length ≠ 0 := fun e => hpre (List.length_eq_zero_iff.1 e)
        obtain ⟨n0, hn0⟩ : ∃ n0, pre.length = n0 + 1 := ⟨pre.length - 1, by omega⟩
        obtain ⟨g0, cap0, rfl⟩ := ownsRow_succ (hn0 ▸ ho2)
        rw [← hn0] at hb2 ho2
        clear hpre
        have k0 : Wb.cell? ⟨W.heap.size, 0, none⟩ = some (.string x0) := (blk_cell hp2 0).trans rfl
        have k1 : Wb.cell? ⟨W.heap.size, 1, none⟩ = some (.int .i64 x1) := (blk_cell hp2 1).trans rfl
        have k2 : Wb.cell? ⟨W.heap.size, 2, none⟩ = some (.int .i64 x2) := (blk_cell hp2 2).trans rfl
        have k3 : Wb.cell? ⟨W.heap.size, 3, none⟩ = some (.int .i64 x3) := (blk_cell hp2 3).trans rfl
        have hc0 := hb2.cell
        have F1 := Aside0.mk hl2
        have F2 := Aside0.mk hd2
        have F5 := Aside0.mk hB2
        have HO := Aside0.mk ho2
        have HBX := Aside0.mk hb2
        have HRR := Aside0.mk hr2
        have HVV := Aside0.mk hv2
        have hszb := F5.out.size
        have hz1' : ((pre.length : Int) == 0) = false := beq_eq_false_iff_ne.2 (by omega)
        clear hl2 hp2 hd2 hb2 hr2 hv2 ho2 hB2 hn0
        gi_wp2_with (gi_at_builtin; refine wpListIn_append_own _ rfl _ _ 23 rfl w.heap.size 34 i0 (.agg #[.string ⟨#[]⟩, .int .i64 0, .int .i64 0, .int .i64 0]) 4 40 Try.underlying23 HI.out hz0 hz1 hz2 rfl (by decide) _ _ _ rfl (HO.out.alloc _) ⟨Wb.heap.size, 0, none⟩ 1 1 (cs34 ⟨x0, x1, x2, x3⟩) rfl rfl (fun j u h => cells_new Wb 34 (cs34 ⟨x0, x1, x2, x3⟩) j u h) (by simp [Value.oneCell', cs34]) (by unfold maxLen; omega) (by omega) (Nat.le_trans hszb (World.grownBy_alloc _ _ none).size) ?_; intro v' w1 hown' hgrow _; obtain ⟨g', cap', rfl⟩ := ownsRow_succ hown'; have hrr := blk_grown (blk_alloc HRR.out _) hgrow (own_blk_ne HRR.out (by decide) HO.out); have hvv := blk_grown (blk_alloc HVV.out _) hgrow (own_blk_ne HVV.out (by decide) HO.out); obtain ⟨hv1, hv2, hr2, hk2, hbel⟩ := HBX.out.appended (by decide) HO.out hszb (Nat.le_refl _) hown' hgrow; have G1 := Aside0.mk (And.intro (blk_far hrr (p := ⟨w.heap.size, 0, none⟩) (show w.heap.size + 1 ≠ w.heap.size by omega) (.slice (some ⟨g', 0, none⟩) (pre.length + 1) cap')) (blk_far hvv (p := ⟨w.heap.size, 0, none⟩) (show w.heap.size + 1 + 1 ≠ w.heap.size by omega) (.slice (some ⟨g', 0, none⟩) (pre.length + 1) cap'))); have G2 := Aside0.mk hv2; have G3 := Aside0.mk hr2; have G4 := Aside0.mk hk2; have G5 := Aside0.mk hbel; have hc1 := hv1.cell; have hf1 := hv1.frozen; clear hv1 hv2 hr2 hk2 hbel hown' hgrow hrr hvv)
        have f1 := G4.out.2 _ _ F1.out rfl
        have f2 := G4.out.2 _ _ F2.out rfl
        refine ⟨f1, ⟨⟨World.putObj_heap_same (blk_lt f1), (World.putObj_heap_other (by omega)).trans f2⟩, ⟨_, (World.putObj_heap_other (by omega)).trans G2.out, ?_, fun h => ?_⟩, ?_⟩, (World.putObj_heap_other (by omega)).trans G1.out.1, (World.putObj_heap_other (by omega)).trans G1.out.2⟩
        · have hq := ownsRow_putObj G3.out (.loop r) f1 rfl
          rw [headL_snoc, row34_snoc, fixS, if_neg (by simpa using HPRE.out)]; simpa using hq
        · exact absurd h (by simp)
        · exact (F5.out.trans G5.out).trans (belowK_b (w := w) (Nat.le_refl _) _ (w.heap.size + 1 + 1 + 1 + 1) _ (.loop r) (by omega) f1 rfl rfl)
    · rintro e W' ⟨⟨v, rfl⟩, ⟨h1, ⟨v2, h2, h3, h4⟩, h5⟩⟩
      exact ⟨⟨v, rfl⟩, ⟨⟨v2, h2, h3⟩, h5⟩, h1⟩
  case hdone =>
    rintro o W2 ⟨⟨v, hv, ho⟩, hB⟩ ⟨r, hr⟩ hD
    rw [z3] at hr hD ⊢
    have v3 : Boxed (W2.putObj (w.heap.size + 1 + 1 + 1 + 1) o) (w.heap.size) 23 v := (World.putObj_heap_other (by omega)).trans hv
    have o3 := ownsRow_putObj ho o hr rfl
    have d3 : (W2.putObj (w.heap.size + 1 + 1 + 1 + 1) o).heap[w.heap.size + 1 + 1 + 1]? = some (.deferred (some [])) := (World.putObj_heap_other (by omega)).trans hD
    have b3 := hB.trans (belowK_b (w := w) (Nat.le_refl _) W2 (w.heap.size + 1 + 1 + 1 + 1) _ o (by omega) hr rfl rfl)
    have c3 := v3.cell
    have O4 := Aside0.mk (ownsRow_putObj o3 (.deferred none) d3 rfl)
    have B4 := Aside0.mk (b3.trans (belowK_b (w := w) (Nat.le_refl _) _ (w.heap.size + 1 + 1 + 1) _ (.deferred none) (by omega) d3 rfl rfl))
    have D3 := Aside0.mk d3
    clear hv ho hB hr hD v3 o3 d3 b3
    gi_wp2
    refine ⟨by simp, .inl ⟨_, _, rfl, run_takeDeferred D3.out, ?_⟩⟩
    exact ⟨_, results_tmp2 rfl _ _ _, v, rfl, O4.out, B4.out⟩
theorem bstr_data (a : ByteArray) : bstr a.data.toList = a := rfl
def word_Words.f (a0 : ByteArray) : Option ((List (S34)) × Int) := if a0.size ≤ 400 then some (headL (wordsL a0.data.toList), 0) else if a0.size ≤ 1000000 then some ([], 70) else none
theorem R34_nil (w : World) (base : Nat) : Kd.R k34 34 w base (fun _ => True) (.slice none 0 0) [] := R34_of_own (World.ownsRow_nil _ _ _ _)
theorem word_Words.calls (a0 : ByteArray) (r1 : List (S34)) (r2 : Int) (w : World) (h : word_Words.f a0 = some (r1, r2)) (_ : GOK w) :
    Calls Try.prog 12 #[.string a0] w fun e w' => ∃ v0_ : Value, e = .returned (.tuple #[v0_, .int .i64 r2]) ∧ Kd.R k34 34 w' w.heap.size (fun _ => True) v0_ r1 ∧ Below w.heap.size w w' := by
  unfold word_Words.f at h
  have hz : a0.data.toList.length = a0.size := Array.length_toList
  split at h
  · rename_i hq
    obtain ⟨rfl, rfl⟩ := Prod.mk.inj (Option.some.inj h)
    refine (callsIn_wide.1 (words_short a0.data.toList (by omega) w)).mono ?_
    rintro e w' ⟨v, rfl, ho, hb⟩
    exact ⟨v, rfl, R34_of_own (by rw [headL_len]; exact ho), hb⟩
  · split at h
    · obtain ⟨rfl, rfl⟩ := Prod.mk.inj (Option.some.inj h)
      refine (words_long a0.data.toList (by omega) (by omega) w).mono ?_
      rintro e w' ⟨rfl, rfl⟩
      exact ⟨_, rfl, R34_nil _ _, Below.refl _ _⟩
    · cases h
end Go.Proofs.Ytnfbfachabdahaa.G
/- Chapter 7: a builder of the call's own takes bytes and strings. Written by mkF11.py. -/
namespace Go.Proofs.Ytnfbfachabdahaa.G
open Go.RowKit Go.Proofs.YtnfbfachabdahaaW.PrintWords Go.Proofs.YtnfbfachabdahaaW.PrintLast Go.Proofs.YtnfbfachabdahaaW.PrintMore

/-- Whatever is neither the builder's block nor a row of bytes lies as it lay. -/
def KT (b : Nat) (W W' : World) : Prop := ∀ k o, W.heap[k]? = some o → k ≠ b → (∀ cs, o ≠ .cells cs 5 (0, 0)) → W'.heap[k]? = some o
theorem KT.refl (b : Nat) (W : World) : KT b W W := fun _ _ h _ _ => h
theorem KT.trans {b : Nat} {A B C : World} (h : KT b A B) (g : KT b B C) : KT b A C := fun k o hk hb ho => g k o (h k o hk hb ho) hb ho
theorem KT.set {b i : Nat} {v : Value} (W : World) : KT b W (W.setCell ⟨b, i, none⟩ v) := fun k o h hb _ => by
  rw [Below.heap_setCell _ _ _ _ (by first | exact hb | exact fun e => hb e.symm)]
  exact h
theorem KT.grown {b B n : Nat} {v : Value} {xs : List Value} {W W' : World} (hg : W.grownBy W' v.ownBlock) (ho : W.ownsRow B 5 1 v n xs) : KT b W W' := fun k o h _ hno => by
  refine (hg.block k (blk_lt h) (fun e => ?_)).trans h
  obtain ⟨cs, hc⟩ := own_typed ho k e.symm
  rw [h] at hc
  exact hno cs (Option.some.inj hc)
theorem KT.alloc {b : Nat} (W : World) (o : Obj) : KT b W (W.alloc o) := fun _ _ h _ _ => blk_alloc h o
theorem bldSize : (Try.prog.info? 70).map (·.size) = some 2 := by kernel_rfl
theorem bldLies : liesAt Try.prog Try.prog.depth 70 (2 / Try.prog.cellsOf 70) 0 70 1 = true := by kernel_rfl
set_option maxHeartbeats 1000000 in
set_option maxRecDepth 100000 in
theorem check_any (B b : Nat) (bs : List Value) (w : World) (h : Lib.IsBuilder 70 5 B b bs w) :
    Calls Try.prog 42 #[.pointer (some ⟨b, 0, none⟩)] w fun e w' => e = .returned (.tuple #[]) ∧ Lib.BuilderAt 70 5 B b (.pointer (some ⟨b, 0, none⟩)) bs w' ∧ Below B w w' ∧ KT b w w' := by
  obtain ⟨j, hj, hjs⟩ := Option.map_eq_some_iff.1 bldSize
  rcases h with h | h
  · have h0 := h.cell0
    have hsh := h.shape
    have hfz := h.frozen0
    have HU := Aside0.mk (h.used (.pointer (some ⟨b, 0, none⟩)))
    have HB := Aside0.mk ((Below.refl B w).setCell (p := ⟨b, 0, none⟩) h.1 (.pointer (some ⟨b, 0, none⟩)))
    clear h
    go_enter Try.func42, Try.ntmps42
    go_wp2
    rw [Lib.run_to_unsafe w ⟨b, 0, none⟩ Try.underlying68 Try.underlying94 hj (by rw [hjs]; decide) hsh (Nat.zero_lt_succ 1)]
    simp only [Result.andThen]
    rw [Oper.upon_value]
    go_wp2
    rw [run_callFunc_extern Try.func55 (by kernel_rfl) (by kernel_rfl) (by kernel_rfl) (e := Extern.AbiNoEscape.same) (by kernel_rfl)]
    rw [Lib.run_noEscape]
    simp only [Result.andThen]
    rw [Oper.upon_value]
    go_wp2
    rw [Lib.run_from_unsafe w ⟨b, 0, none⟩ Try.underlying94 Try.underlying68 hj hsh bldLies]
    simp only [Result.andThen]
    rw [Oper.upon_value]
    go_wp2
    go_end0
    exact ⟨rfl, HU.out, HB.out, KT.set _⟩
  · have h0 := h.cell0
    have HU := Aside0.mk h
    clear h
    go_enter Try.func42, Try.ntmps42
    go_wp2
    rw [Lib.run_neq_ptr_same w _ Try.underlying68 hj]
    go_wp2
    go_end0
    exact ⟨rfl, HU.out, Below.refl B _, KT.refl _ _⟩
/-- The builder's block, behind an append to its row. -/
theorem bld_cells {B b : Nat} {p : Value} {bs : List Value} {w : World} (h : Lib.BuilderAt 70 5 B b p bs w) :
    ∃ v, w.heap[b]? = some (.cells #[p, v] 70 (0, 0)) ∧ w.ownsRow B 5 1 v bs.length bs ∧ B ≤ b ∧ v.ownBlock ≠ some b := by
  obtain ⟨hB, v, hbk, hown, hne⟩ := h
  exact ⟨v, hbk, hown, hB, hne⟩
set_option maxHeartbeats 2000000 in
set_option maxRecDepth 100000 in
theorem writeString_any (B b : Nat) (bs : List Value) (s : ByteArray) (w : World) (h : Lib.IsBuilder 70 5 B b bs w) (hlen : bs.length + s.size ≤ 140737488355328) (hBw : B ≤ w.heap.size) :
    Calls Try.prog 34 #[.pointer (some ⟨b, 0, none⟩), .string s] w fun e w' => e = .returned (.tuple #[.int .i64 s.size, .nilIface]) ∧ Lib.IsBuilder 70 5 B b (bs ++ Lib.strCells s) w' ∧ Below B w w' ∧ KT b w w' := by
  obtain ⟨i0, hi, hz0, hz1, hz2⟩ := info_parts info5
  have HC := Aside0.mk (check_any B b bs w h)
  clear h
  go_enter Try.func34, Try.ntmps34
  go_wp2_with (first | (go_at_call 42; refine HC.out.mono ?_; rintro e w1 ⟨rfl, h1, hb1, hk1⟩; have HB1 := Aside0.mk hb1; have HK1 := Aside0.mk hk1; clear hb1 hk1; obtain ⟨v, hbk, hown, hB, hne⟩ := bld_cells h1; clear h1; have d1 : w1.cell? ⟨b, 1, none⟩ = some v := (blk_cell hbk 1).trans rfl; have hlt := blk_lt hbk; have hsz := HB1.out.size; have HK := Aside0.mk hbk; have HO := Aside0.mk hown; have HN := Aside0.mk hne; clear hbk hown hne) | (at_builtin; refine Lib.wpList_append_own_string _ rfl _ _ 32 9 rfl B 5 i0 Try.underlying32 Try.underlying9 hi hz0 hz1 hz2 _ _ _ rfl HO.out s rfl (by unfold maxLen; omega) (by omega) (by omega) ?_; intro v' w2 hown' hgrow _; have HO2 := Aside0.mk hown'; have HG2 := Aside0.mk hgrow; have HK2 := Aside0.mk ((hgrow.block b hlt (fun e => HN.out e.symm)).trans HK.out); have e1 : w2.cell? ⟨b, 1, none⟩ = some v := (blk_cell HK2.out 1).trans rfl; have f1 := blk_frozen HK2.out 1; have hv' : ∃ ao n' cap, v' = .slice ao n' cap := (by rcases hown'.2 with ⟨hv, _⟩ | ⟨g, cap, cur, hv, _⟩ <;> exact ⟨_, _, _, hv⟩); clear hown' hgrow; obtain ⟨ao, n', cap, rfl⟩ := hv'))
  go_ret2
  refine ⟨rfl, Or.inr ?_, ?_, ?_⟩
  · exact Lib.BuilderAt.put (T := 70) (e := 5) hB HK2.out (bs' := bs ++ Lib.strCells s) (by simpa [Lib.strCells_length] using HO2.out) (by decide)
  · exact (HB1.out.grown HG2.out (by omega) (fun k hk => (HO.out.lt k hk).1)).setCell (p := ⟨b, 1, none⟩) hB _
  · exact (HK1.out.trans (KT.grown HG2.out HO.out)).trans (KT.set _)
set_option maxHeartbeats 2000000 in
set_option maxRecDepth 100000 in
theorem writeByte_any (B b : Nat) (bs : List Value) (c : Int) (w : World) (h : Lib.IsBuilder 70 5 B b bs w) (hlen : bs.length + 1 ≤ 140737488355328) (hBw : B ≤ w.heap.size) :
    Calls Try.prog 36 #[.pointer (some ⟨b, 0, none⟩), .int .u8 c] w fun e w' => e = .returned .nilIface ∧ Lib.IsBuilder 70 5 B b (bs ++ [.int .u8 c]) w' ∧ Below B w w' ∧ KT b w w' := by
  obtain ⟨i0, hi, hz0, hz1, hz2⟩ := info_parts info5
  have HC := Aside0.mk (check_any B b bs w h)
  clear h
  go_enter Try.func36, Try.ntmps36
  go_wp2_with (first | (go_at_call 42; refine HC.out.mono ?_; rintro e w1 ⟨rfl, h1, hb1, hk1⟩; have HB1 := Aside0.mk hb1; have HK1 := Aside0.mk hk1; clear hb1 hk1; obtain ⟨v, hbk, hown, hB, hne⟩ := bld_cells h1; clear h1; have d1 : w1.cell? ⟨b, 1, none⟩ = some v := (blk_cell hbk 1).trans rfl; have hlt := blk_lt hbk; have hsz := HB1.out.size; have HK := Aside0.mk hbk; have HO := Aside0.mk hown; have HN := Aside0.mk hne; clear hbk hown hne) | (at_builtin; refine wpList_append_own _ rfl _ _ 32 rfl B 5 i0 (.int .u8 0) 1 1 Try.underlying32 hi hz0 hz1 hz2 rfl (by decide) _ _ _ rfl (HO.out.alloc _) ⟨_, 0, none⟩ 1 1 [.int .u8 c] rfl rfl (cell_one_new _ _ _) (by simp [Value.oneCell']) (by unfold maxLen; omega) (by omega) (by simp; omega) ?_; intro v' w2 hown' hgrow _; have HO2 := Aside0.mk hown'; have HG2 := Aside0.mk hgrow; have HK2 := Aside0.mk (blk_grown (blk_alloc HK.out _) hgrow (fun e => HN.out e.symm)); have e1 : w2.cell? ⟨b, 1, none⟩ = some v := (blk_cell HK2.out 1).trans rfl; have f1 := blk_frozen HK2.out 1; have hv' : ∃ g cap, v' = .slice (some ⟨g, 0, none⟩) (bs.length + 1) cap := ownsRow_succ hown'; clear hown' hgrow; obtain ⟨g, cap, rfl⟩ := hv'))
  go_ret
  refine ⟨rfl, Or.inr ?_, ?_, ?_⟩
  · exact Lib.BuilderAt.put (T := 70) (e := 5) hB HK2.out (bs' := bs ++ [.int .u8 c]) (by simpa using HO2.out) (by decide)
  · exact ((HB1.out.alloc (by omega) _).grown HG2.out (by simp; omega) (fun k hk => (HO.out.lt k hk).1)).setCell (p := ⟨b, 1, none⟩) hB _
  · exact ((HK1.out.trans (KT.alloc _ _)).trans (KT.grown HG2.out (HO.out.alloc _))).trans (KT.set _)
end Go.Proofs.Ytnfbfachabdahaa.G
/- Chapter 7: words' text. Written by mkF12.py. -/
namespace Go.Proofs.Ytnfbfachabdahaa.G
open Go.RowKit Go.Shelf Go.Proofs.YtnfbfachabdahaaW.PrintWords Go.Proofs.YtnfbfachabdahaaW.PrintLast Go.Proofs.YtnfbfachabdahaaW.PrintMore

/-- A builder of the call's own, and what is written. -/
def Bd (w0 : World) (b : Nat) (bs : List UInt8) (W : World) : Prop := Lib.IsBuilder 70 5 w0.heap.size b (Lib.byteCells bs) W ∧ Below w0.heap.size w0 W
theorem isB_below {B b : Nat} {bs : List Value} {W W' : World} (h : Lib.IsBuilder 70 5 B b bs W) (hb : Below W.heap.size W W') : Lib.IsBuilder 70 5 B b bs W' := by
  rcases h with ⟨h0, v, h1, h2, h3⟩ | ⟨h0, v, h1, h2, h3⟩
  · exact .inl ⟨h0, v, blk_below h1 hb, pw_own_below h2 hb, h3⟩
  · exact .inr ⟨h0, v, blk_below h1 hb, pw_own_below h2 hb, h3⟩
theorem Bd.below {w0 W W' : World} {b : Nat} {bs : List UInt8} (h : Bd w0 b bs W) (hb : Below W.heap.size W W') : Bd w0 b bs W' := ⟨isB_below h.1 hb, below_then h.2 h.2.size hb⟩
theorem writeS (w0 : World) (b : Nat) (bs : List UInt8) (s : ByteArray) (w : World) (h : Bd w0 b bs w) (hlen : bs.length + s.size ≤ 100000000) :
    Calls Try.prog 34 #[.pointer (some ⟨b, 0, none⟩), .string s] w fun e w' => (∃ v, e = .returned v) ∧ Bd w0 b (bs ++ s.data.toList) w' ∧ KT b w w' := by
  refine (writeString_any w0.heap.size b (Lib.byteCells bs) s w h.1 (by rw [Lib.byteCells_length]; omega) h.2.size).mono ?_
  rintro e w' ⟨rfl, h1, h2, h3⟩
  exact ⟨⟨_, rfl⟩, ⟨by simpa [Lib.byteCells, Lib.strCells] using h1, h.2.trans h2⟩, h3⟩
theorem writeB (w0 : World) (b : Nat) (bs : List UInt8) (w : World) (h : Bd w0 b bs w) (hlen : bs.length ≤ 100000000) :
    Calls Try.prog 36 #[.pointer (some ⟨b, 0, none⟩), .int .u8 32] w fun e w' => (∃ v, e = .returned v) ∧ Bd w0 b (bs ++ [32]) w' ∧ KT b w w' := by
  refine (writeByte_any w0.heap.size b (Lib.byteCells bs) 32 w h.1 (by rw [Lib.byteCells_length]; omega) h.2.size).mono ?_
  rintro e w' ⟨rfl, h1, h2, h3⟩
  exact ⟨⟨_, rfl⟩, ⟨by simpa [Lib.byteCells] using h1, h.2.trans h2⟩, h3⟩
/-- How many line ends are written. -/
def padN (h : Int) : Nat := (min (max 0 h) 400).toNat
theorem padN_le (h : Int) : padN h ≤ 400 := by unfold padN; omega
def wordT (x : S34) : List UInt8 := List.replicate (padN x.f3) 10 ++ (if x.f2 = 0 then [] else [32]) ++ x.f0.data.toList
def textL (l : List S34) : List UInt8 := l.flatMap wordT
theorem textL_snoc (l : List S34) (x : S34) : textL (l ++ [x]) = textL l ++ wordT x := by simp [textL]
theorem repeatL_one : ∀ n : Nat, Lib.repeatL [10] n = List.replicate n 10
  | 0 => rfl
  | n + 1 => by rw [List.replicate_succ, ← repeatL_one n]; rfl
theorem repeat_any (n : Nat) (hn : n ≤ 400) (w : World) : Calls Try.prog 35 #[.string ⟨#[10]⟩, .int .i64 n] w fun e w' => e = .returned (.string (bstr (List.replicate n 10))) ∧ Below w.heap.size w w' := by
  refine (Try.strings_Repeat ⟨#[10]⟩ n w (by omega) (by show 1 * n ≤ _; omega)).mono ?_
  rintro e w' ⟨rfl, hb⟩
  refine ⟨?_, hb⟩
  rw [show (⟨#[10]⟩ : ByteArray).data.toList = [10] from rfl, repeatL_one]
  rfl
theorem repeat_x (h : Int) (w : World) : Calls Try.prog 35 #[.string ⟨#[10]⟩, .int .i64 (min (max 0 h) 400)] w fun e w' => e = .returned (.string (bstr (List.replicate (padN h) 10))) ∧ Below w.heap.size w w' := by
  have e : min (max 0 h) 400 = (padN h : Nat) := by unfold padN; omega
  rw [e]
  exact repeat_any _ (padN_le h) w
def wfT (x : S34) : Bool := decide (x.f0.size ≤ 1000)
theorem wordT_len {x : S34} (h : wfT x = true) : (wordT x).length ≤ 1401 := by
  have h1 := padN_le x.f3
  have h2 : x.f0.size ≤ 1000 := of_decide_eq_true h
  have h3 : x.f0.data.toList.length = x.f0.size := Array.length_toList
  unfold wordT
  simp only [List.length_append, List.length_replicate, h3]
  split <;> simp <;> omega
theorem textL_len (l : List S34) (h : ∀ x ∈ l, wfT x = true) : (textL l).length ≤ 1401 * l.length := by
  induction l using snoc_ind with
  | h0 => simp [textL]
  | h1 l x ih =>
    rw [textL_snoc]
    have h1 := ih (fun m hm => h m (by simp [hm]))
    have h2 := wordT_len (h x (by simp))
    simp only [List.length_append, List.length_cons, List.length_nil]
    omega
theorem take34_rd (l : List S34) (k : Nat) (hk : k < l.length) : l.take (k + 1) = l.take k ++ [rd_T34 l k] := by
  rw [List.take_succ_eq_append_getElem hk]
  simp [rd_T34, hk]
theorem mem34_rd (l : List S34) (k : Nat) (hk : k < l.length) : rd_T34 l k ∈ l := by
  simp [rd_T34, hk]
theorem KT.blk {b k : Nat} {W W' : World} {cs : Array Value} {t : TypeId} {z : Nat × Nat} (h : KT b W W') (hk : W.heap[k]? = some (.cells cs t z)) (hb : k ≠ b) (ht : t ≠ 5) : W'.heap[k]? = some (.cells cs t z) :=
  h k _ hk hb (fun cs' e => ht (by injection e))
theorem bd_block {w0 W : World} {b : Nat} {bs : List UInt8} (h : Bd w0 b bs W) : ∃ v p, W.heap[b]? = some (.cells #[p, v] 70 (0, 0)) := by
  rcases h.1 with ⟨_, v, h1, _⟩ | ⟨_, v, h1, _⟩
  · exact ⟨_, _, h1⟩
  · exact ⟨_, _, h1⟩
set_option maxRecDepth 1000000 in
set_option maxHeartbeats 4000000 in
theorem Text_any (A : Option Addr) (c : Nat) (l : List S34) (w : World) (hr : Kd.C k34 w A l.length l) (hl : l.length ≤ 1000) (hw : ∀ x ∈ l, wfT x = true) :
    Calls Try.prog 23 #[.slice A l.length c] w fun e w' => e = .returned (.string (bstr (textL l))) ∧ Below w.heap.size w w' := by
  have HR := Aside0.mk hr
  have HW := Aside0.mk hw
  have HB0 : Aside0 (Bd w w.heap.size [] (w.alloc (.cells #[.pointer none, .slice none 0 0] 70))) := ⟨Lib.fresh_isBuilder 70 5 w, below_alloc (Below.refl _ _) _⟩
  clear hr hw
  go_enter Try.func23, Try.ntmps23
  go_wp2
  go_loopw [8] (fun i wr => ∃ k : Nat, k ≤ l.length ∧ i = .int .i64 k ∧ Aside0 (Bd w w.heap.size (textL (l.take k)) wr)) (fun i _ => l.length - (intOf i).toNat)
  case atStart => exact ⟨0, Nat.zero_le _, rfl, HB0⟩
  case round =>
    clear HB0
    obtain ⟨k, hk, rfl, HB⟩ := hrel
    by_cases hlt : k < l.length
    · obtain ⟨ad, ea, hx0, hx1, hx2, hx3⟩ := at_T34 (Kd.C_below HR.out HB.out.2) (k : Int) (by omega) (by omega)
      cases ea
      simp only [Int.toNat_natCast] at hx0 hx1 hx2 hx3
      have ht := Aside0.mk (take34_rd l k hlt)
      have hwf := HW.out _ (mem34_rd l k hlt)
      have hpl : (textL (l.take k)).length ≤ 1401000 := by
        have := textL_len (l.take k) (fun x hx => HW.out x (List.mem_of_mem_take hx))
        rw [List.length_take] at this
        omega
      generalize rd_T34 l k = x at *
      obtain ⟨x0, x1, x2, x3⟩ := x
      dsimp only at hx0 hx1 hx2 hx3
      have hx0s : x0.size ≤ 1000 := of_decide_eq_true hwf
      have hb1 := below_alloc (Below.refl wr.heap.size wr) (.cells #[.string x0, .int .i64 x1, .int .i64 x2, .int .i64 x3] 34)
      have HB1 := Aside0.mk (HB.out.below hb1)
      have HX1 := Aside0.mk (blk_new wr (.cells #[.string x0, .int .i64 x1, .int .i64 x2, .int .i64 x3] 34))
      have hne : wr.heap.size ≠ w.heap.size := by obtain ⟨v, p, h⟩ := bd_block HB.out; have := blk_lt h; omega
      generalize hbs : textL (l.take k) = bs at *
      have HBS := Aside0.mk hbs
      clear hbs hb1 HB hwf
      by_cases h0 : x2 = 0
      · have hz0 : (x2 == 0) = true := by simp [h0]
        have hz1 : (x2 != 0) = false := by simp [h0]
        have H0 := Aside0.mk h0
        clear h0
        go_wp2_with (first | (go_at_call 35; (with_reducible refine (repeat_x x3 _).mono ?_); rintro e w2 ⟨rfl, hb⟩; have HB2 := Aside0.mk (HB1.out.below hb); have HX2 := Aside0.mk (blk_below HX1.out hb); clear hb) | (go_at_call 34; (with_reducible refine (writeS w w.heap.size bs (bstr (List.replicate (padN x3) 10)) _ HB2.out (by rw [bstr_size, List.length_replicate]; have := padN_le x3; omega)).mono ?_); rintro e w3 ⟨⟨v3, rfl⟩, hbd, hkt⟩; have HB3 := Aside0.mk (show Bd w w.heap.size (bs ++ List.replicate (padN x3) 10) w3 from hbd); have HX3 := Aside0.mk (hkt.blk HX2.out hne (by decide)); clear hbd hkt; have hl3 : (bs ++ List.replicate (padN x3) (10 : UInt8)).length ≤ 1401400 := (by rw [List.length_append, List.length_replicate]; have := padN_le x3; omega); have k0 : w3.cell? ⟨wr.heap.size, 0, none⟩ = some (.string x0) := (blk_cell HX3.out 0).trans rfl; have k2 : w3.cell? ⟨wr.heap.size, 2, none⟩ = some (.int .i64 x2) := (blk_cell HX3.out 2).trans rfl) | (go_at_call 34; (with_reducible refine (writeS w w.heap.size (bs ++ List.replicate (padN x3) 10) x0 _ HB3.out (by omega)).mono ?_); rintro e w5 ⟨⟨v5, rfl⟩, hbd, hkt⟩; have HB5 := Aside0.mk hbd; clear hbd hkt))
        go_roundw
        case rel => exact ⟨k + 1, by omega, by go_num, ⟨by rw [ht.out, textL_snoc, HBS.out]; unfold wordT; dsimp only; rw [if_pos H0.out]; simpa using HB5.out⟩⟩
        case measure => simp [intOf]; omega
      · have hz0 : (x2 == 0) = false := by simp [h0]
        have hz1 : (x2 != 0) = true := by simp [h0]
        have H0 := Aside0.mk h0
        clear h0
        go_wp2_with (first | (go_at_call 35; (with_reducible refine (repeat_x x3 _).mono ?_); rintro e w2 ⟨rfl, hb⟩; have HB2 := Aside0.mk (HB1.out.below hb); have HX2 := Aside0.mk (blk_below HX1.out hb); clear hb) | (go_at_call 34; (with_reducible refine (writeS w w.heap.size bs (bstr (List.replicate (padN x3) 10)) _ HB2.out (by rw [bstr_size, List.length_replicate]; have := padN_le x3; omega)).mono ?_); rintro e w3 ⟨⟨v3, rfl⟩, hbd, hkt⟩; have HB3 := Aside0.mk (show Bd w w.heap.size (bs ++ List.replicate (padN x3) 10) w3 from hbd); have HX3 := Aside0.mk (hkt.blk HX2.out hne (by decide)); clear hbd hkt; have hl3 : (bs ++ List.replicate (padN x3) (10 : UInt8)).length ≤ 1401400 := (by rw [List.length_append, List.length_replicate]; have := padN_le x3; omega); have k0 : w3.cell? ⟨wr.heap.size, 0, none⟩ = some (.string x0) := (blk_cell HX3.out 0).trans rfl; have k2 : w3.cell? ⟨wr.heap.size, 2, none⟩ = some (.int .i64 x2) := (blk_cell HX3.out 2).trans rfl) | (go_at_call 36; (with_reducible refine (writeB w w.heap.size (bs ++ List.replicate (padN x3) 10) _ HB3.out (by omega)).mono ?_); rintro e w4 ⟨⟨v4, rfl⟩, hbd, hkt⟩; have HB4 := Aside0.mk hbd; have HX4 := Aside0.mk (hkt.blk HX3.out hne (by decide)); clear hbd hkt k0 k2; have k0 : w4.cell? ⟨wr.heap.size, 0, none⟩ = some (.string x0) := (blk_cell HX4.out 0).trans rfl; have hl4 : (bs ++ List.replicate (padN x3) (10 : UInt8) ++ [32]).length ≤ 1401401 := (by rw [List.length_append]; simp only [List.length_cons, List.length_nil]; omega)) | (go_at_call 34; (with_reducible refine (writeS w w.heap.size (bs ++ List.replicate (padN x3) 10 ++ [32]) x0 _ HB4.out (by omega)).mono ?_); rintro e w5 ⟨⟨v5, rfl⟩, hbd, hkt⟩; have HB5 := Aside0.mk hbd; clear hbd hkt))
        go_roundw
        case rel => exact ⟨k + 1, by omega, by go_num, ⟨by rw [ht.out, textL_snoc, HBS.out]; unfold wordT; dsimp only; rw [if_neg H0.out]; simpa using HB5.out⟩⟩
        case measure => simp [intOf]; omega
    · have e : k = l.length := by omega
      subst e
      rw [List.take_length] at HB
      have HS := Aside0.mk (Try.Builder_String_any w.heap.size w.heap.size (textL l) wr HB.out.1 HB.out.2.size)
      go_wp2_with (go_at_call 37; refine HS.out.mono ?_; rintro e w' ⟨rfl, hb⟩; have HB2 := Aside0.mk (HB.out.2.trans hb); clear hb)
      go_ret
      exact ⟨rfl, HB2.out⟩
def word_Text.f (l0 : List (S34)) : Option (ByteArray) := if l0.length ≤ 1000 ∧ l0.all wfT = true then some (bstr (textL l0)) else none
theorem word_Text.calls (A0 : Option Addr) (c0 : Nat) (l0 : List (S34)) (r : ByteArray) (w : World) (hr0 : Kd.C k34 w A0 l0.length l0) (hc0 : l0.length ≤ c0) (h : word_Text.f l0 = some r) (_ : GOK w) :
    Calls Try.prog 23 #[.slice A0 l0.length c0] w fun e w' => e = .returned (.string r) ∧ Below w.heap.size w w' := by
  have _h := hc0
  unfold word_Text.f at h
  split at h
  · rename_i hq
    obtain rfl := Option.some.inj h
    exact Text_any A0 c0 l0 w hr0 hq.1 (List.all_eq_true.1 hq.2)
  · cases h
end Go.Proofs.Ytnfbfachabdahaa.G
/- Chapter 7: the document's width of a byte, of a text. Written by mkF13.py. -/
namespace Go.Proofs.Ytnfbfachabdahaa.G
open Go.RowKit Go.Shelf Go.Proofs.YtnfbfachabdahaaW.PrintWords Go.Proofs.YtnfbfachabdahaaW.PrintLast Go.Proofs.YtnfbfachabdahaaW.PrintMore

theorem wrap_in {x : Int} (h1 : -9223372036854775808 ≤ x) (h2 : x ≤ 9223372036854775807) : wrap64 x = x := by unfold wrap64; omega
theorem refWide_all : (List.range 256).all (fun i => P.gutterref07_Wide.f 1 (i : Int) == some (wideN i)) = true := by decide +kernel
theorem refWide_k (k : Nat) (hk : 1 ≤ k) (c : UInt8) : P.gutterref07_Wide.f k (c.toNat : Int) = some (wideN c.toNat) := by
  have h := List.all_eq_true.1 refWide_all c.toNat (List.mem_range.2 c.toNat_lt)
  exact at_rounds (fun k => P.gutterref07_Wide.mono (c.toNat : Int) k) hk (beq_iff_eq.1 h)
theorem drop_at (l : List UInt8) (i : Nat) (h : i < l.length) : l.drop i = l[i] :: l.drop (i + 1) := List.drop_eq_getElem_cons h
theorem widthL_cons (c : UInt8) (l : List UInt8) : widthL (c :: l) = wideN c.toNat + widthL l := by
  have := widthL_app [c] l
  rw [widthL_one] at this
  exact this
theorem bt_bstr (a : ByteArray) (i : Nat) (h : i < a.data.toList.length) : bt a (i : Int) = ((a.data.toList[i]'h).toNat : Int) := by
  have hs : i < a.size := by rw [Array.length_toList] at h; exact h
  unfold bt
  rw [dif_pos (by simpa using hs)]
  rfl
theorem refWidth_l0 (a : ByteArray) (hl : a.size ≤ 1000000) (j : Nat) : ∀ (k i : Nat) (n : Int), i ≤ a.size → a.size - i = j → j + 1 < k → 0 ≤ n → n ≤ 640 * (i : Int) →
    P.gutterref07_Width.l0 k a n i = some (n + widthL (a.data.toList.drop i)) := by
  have hz : a.data.toList.length = a.size := Array.length_toList
  induction j with
  | zero =>
    intro k i n hi hj hk h0 h1
    obtain ⟨k, rfl⟩ : ∃ m, k = m + 1 := ⟨k - 1, by omega⟩
    simp only [P.gutterref07_Width.l0]
    rw [if_neg (by omega), List.drop_of_length_le (by omega), widthL_nil, Int.add_zero]
  | succ j ih =>
    intro k i n hi hj hk h0 h1
    obtain ⟨k, rfl⟩ : ∃ m, k = m + 1 := ⟨k - 1, by omega⟩
    have hw : wrap64 ((i : Int) + 1) = ((i + 1 : Nat) : Int) := by rw [wrap_in (by omega) (by omega)]; omega
    have hin := wideN_in (a.data.toList[i]'(by omega)).toNat
    simp only [P.gutterref07_Width.l0]
    rw [if_pos (by omega), if_pos (by omega), bt_bstr a i (by omega), refWide_k k (by omega), Option.bind_some, wrap_in (by omega) (by omega), hw, ih k (i + 1) _ (by omega) (by omega) (by omega) (by omega) (by omega), drop_at _ i (by omega), widthL_cons, Int.add_assoc]
def gutterref07_Wide.f (a0 : Int) : Option (Int) := if 0 ≤ a0 ∧ a0 < 256 then some (wideN a0.toNat) else none
theorem gutterref07_Wide.calls (a0 : Int) (r : Int) (w : World) (h : gutterref07_Wide.f a0 = some r) :
    Calls Try.prog 16 #[.int .u8 a0] w fun e w' => e = .returned (.int .i64 r) ∧ Below w.heap.size w w' := by
  unfold gutterref07_Wide.f at h
  split at h
  · rename_i hq
    obtain rfl := Option.some.inj h
    obtain ⟨n, rfl⟩ : ∃ n : Nat, a0 = n := ⟨a0.toNat, by omega⟩
    have e : (UInt8.ofNat n).toNat = n := UInt8.toNat_ofNat_of_lt' (by show n < 256; omega)
    have h1 := refWide_k 1 (Nat.le_refl _) (UInt8.ofNat n)
    rw [e] at h1
    refine (P.gutterref07_Wide.calls 1 _ _ w h1).mono ?_
    rintro e w' ⟨rfl, hd⟩
    exact ⟨rfl, hd.below⟩
  · cases h
theorem refWidth_quiet (a0 : ByteArray) (ha : a0.size ≤ 1000000) (w : World) :
    Calls Try.prog 18 #[.string a0] w fun e w' => e = .returned (.int .i64 (widthL a0.data.toList)) ∧ Drawn0 w w' := by
  have h1 := refWidth_l0 a0 ha a0.size (a0.size + 2) 0 0 (Nat.zero_le _) rfl (by omega) (Int.le_refl _) (by omega)
  rw [List.drop_zero, Int.zero_add] at h1
  exact P.gutterref07_Width.calls (a0.size + 2) _ _ w h1
def gutterref07_Width.f (a0 : ByteArray) : Option (Int) := if a0.size ≤ 1000000 then some (widthL a0.data.toList) else none
theorem gutterref07_Width.calls (a0 : ByteArray) (r : Int) (w : World) (h : gutterref07_Width.f a0 = some r) :
    Calls Try.prog 18 #[.string a0] w fun e w' => e = .returned (.int .i64 r) ∧ Below w.heap.size w w' := by
  unfold gutterref07_Width.f at h
  split at h
  · rename_i hq
    obtain rfl := Option.some.inj h
    refine (refWidth_quiet a0 hq w).mono ?_
    rintro e w' ⟨rfl, hd⟩
    exact ⟨rfl, hd.below⟩
  · cases h
end Go.Proofs.Ytnfbfachabdahaa.G
/- Chapter 7: are words right? Written by mkF14.py. -/
namespace Go.Proofs.Ytnfbfachabdahaa.G
open Go.RowKit Go.Shelf Go.Proofs.YtnfbfachabdahaaW.PrintWords Go.Proofs.YtnfbfachabdahaaW.PrintLast Go.Proofs.YtnfbfachabdahaaW.PrintMore

/-- Is a word wrong, its text's width given? -/
def badB (x : S34) (n : Int) : Bool := !(x.f1 == n) || (x.f0.toList.isEmpty || (decide (400 < (x.f0.size : Int)) || ((x.f2 != 0 && x.f2 != 256) || (decide (x.f3 < 0) || decide (400 < x.f3)))))
def okB (x : S34) : Bool := !badB x (widthL x.f0.data.toList)
def rightL (l : List S34) : Bool := l.all okB && decide (l.length ≤ 500)
theorem Width_ba (a : ByteArray) (ha : a.size ≤ 1000000) (w : World) : Calls Try.prog 17 #[.string a] w fun e w' => e = .returned (.int .i64 (widthL a.data.toList)) ∧ Below w.heap.size w w' :=
  Width_any a.data.toList (by rw [Array.length_toList]; exact ha) w
theorem blk_newN (W : World) (n : Nat) (o : Obj) : ((W.drewN n).alloc o).heap[W.heap.size]? = some o := blk_new _ _
theorem blk_new1 (W : World) (o : Obj) : (W.drew.alloc o).heap[W.heap.size]? = some o := blk_new _ _
theorem far_one {W : World} {x y i j : Nat} {u v : Value} (h : W.cell? ⟨x, i, none⟩ = some v) (hne : x ≠ y) : (W.setCell ⟨y, j, none⟩ u).cell? ⟨x, i, none⟩ = some v := by
  have hh : (W.setCell ⟨y, j, none⟩ u).heap[x]? = W.heap[x]? := Below.heap_setCell _ _ _ _ (by intro e; exact hne (by simpa using e))
  rw [← h]
  simp only [World.cell?, hh]
theorem far_four {W : World} {x y i : Nat} {u0 u1 u2 u3 v : Value} (h : W.cell? ⟨x, i, none⟩ = some v) (hne : x ≠ y) : ((((W.setCell ⟨y, 0, none⟩ u0).setCell ⟨y, 1, none⟩ u1).setCell ⟨y, 2, none⟩ u2).setCell ⟨y, 3, none⟩ u3).cell? ⟨x, i, none⟩ = some v :=
  far_one (far_one (far_one (far_one h hne) hne) hne) hne
theorem all_bad {l : List S34} {x : S34} (hx : x ∈ l) (h : okB x = false) : rightL l = false := by
  unfold rightL
  rw [List.all_eq_false.2 ⟨x, hx, by simp [h]⟩]
  rfl
theorem all_next {l : List S34} {k : Nat} (hk : k < l.length) (h : (l.take k).all okB = true) (hx : okB (rd_T34 l k) = true) : (l.take (k + 1)).all okB = true := by
  rw [take34_rd l k hk, List.all_append, h]
  simp [hx]
theorem eqW34 (d : Nat) (w : World) (x0 y0 : ByteArray) (x1 y1 : Int) (x2 y2 : Int) (x3 y3 : Int) :
    (Op.equalIn (d + 2) 34 (.agg #[.string x0, .int .i64 x1, .int .i64 x2, .int .i64 x3]) (.agg #[.string y0, .int .i64 y1, .int .i64 y2, .int .i64 y3])).run Try.prog w = .ok (x0.toList == y0.toList && (x1 == y1 && (x2 == y2 && (x3 == y3)))) w := by
  refine eqA_of Try.underlying34 (by kernel_rfl) ?_
  refine eqf_cons (by rfl) (by go_simp; rfl) (by go_simp; rfl) (by go_simp) ?_
  refine eqf_cons (by rfl) (by go_simp; rfl) (by go_simp; rfl) (by go_simp) ?_
  refine eqf_cons (by rfl) (by go_simp; rfl) (by go_simp; rfl) (by go_simp) ?_
  exact eqf_last (by rfl) (by go_simp; rfl) (by go_simp; rfl) (by go_simp)
attribute [local go_sem high] eqW34
set_option maxRecDepth 1000000 in
set_option maxHeartbeats 8000000 in
theorem Right_any (A : Option Addr) (c : Nat) (l : List S34) (w : World) (hr : Kd.C k34 w A l.length l) (hl : l.length ≤ 1000) (hw : ∀ x ∈ l, wfT x = true) :
    Calls Try.prog 24 #[.slice A l.length c] w fun e w' => e = .returned (.bool (rightL l)) ∧ Below w.heap.size w w' := by
  have hu34 := Try.underlying34
  have HR := Aside0.mk hr
  have HW := Aside0.mk hw
  clear hr hw
  go_enter Try.func24, Try.ntmps24
  go_wp2
  go_loopw [8] (fun i wr => ∃ k : Nat, k ≤ l.length ∧ i = .int .i64 k ∧ Aside0 ((l.take k).all okB = true) ∧ Aside0 (Below w.heap.size w wr)) (fun i _ => l.length - (intOf i).toNat)
  case atStart => exact ⟨0, Nat.zero_le _, rfl, ⟨rfl⟩, ⟨Below.refl _ _⟩⟩
  case round =>
    obtain ⟨k, hk, rfl, HO, HB⟩ := hrel
    by_cases hlt : k < l.length
    · obtain ⟨ad, ea, hx0, hx1, hx2, hx3⟩ := at_T34 (Kd.C_below HR.out HB.out) (k : Int) (by omega) (by omega)
      cases ea
      simp only [Int.toNat_natCast] at hx0 hx1 hx2 hx3
      have hmem := mem34_rd l k hlt
      have hwf := HW.out _ hmem
      have HNX := Aside0.mk (fun h => all_next hlt HO.out h)
      have HBAD := Aside0.mk (fun h => all_bad hmem h)
      generalize rd_T34 l k = x at *
      obtain ⟨x0, x1, x2, x3⟩ := x
      dsimp only at hx0 hx1 hx2 hx3
      have hx0s : x0.size ≤ 1000000 := by have := of_decide_eq_true hwf; dsimp only at this; omega
      clear hwf hmem
      have HB1 := Aside0.mk (below_alloc HB.out (.cells #[.string x0, .int .i64 x1, .int .i64 x2, .int .i64 x3] 34))
      have HX1 := Aside0.mk (blk_new wr (.cells #[.string x0, .int .i64 x1, .int .i64 x2, .int .i64 x3] 34))
      go_upto_region 4 with fail
      generalize wr.alloc (.cells #[.string x0, .int .i64 x1, .int .i64 x2, .int .i64 x3] 34) = W1 at *
      generalize wr.heap.size = xb at *
      go_cut [5] from 9 to 56 (fun s5 wx => ∃ yb : Nat, s5 = .pointer (some ⟨yb, 0, none⟩) ∧ Aside0 (wx.heap[yb]? = some (.cells #[.string x0, .int .i64 (widthL x0.data.toList), .int .i64 x2, .int .i64 x3] 34 (0, 0))) ∧ Aside0 (wx.heap[xb]? = some (.cells #[.string x0, .int .i64 x1, .int .i64 x2, .int .i64 x3] 34 (0, 0))) ∧ Aside0 (Below w.heap.size w wx))
      case first =>
        have c0 : W1.cell? ⟨xb, 0, none⟩ = some (.string x0) := (blk_cell HX1.out 0).trans rfl
        have c2 : W1.cell? ⟨xb, 2, none⟩ = some (.int .i64 x2) := (blk_cell HX1.out 2).trans rfl
        have c3 : W1.cell? ⟨xb, 3, none⟩ = some (.int .i64 x3) := (blk_cell HX1.out 3).trans rfl
        have hxn1 : xb ≠ W1.heap.size := Nat.ne_of_lt (blk_lt HX1.out)
        go_region_held3 (fun w' => w'.cell? ⟨xb, 0, none⟩ = some (.string x0) ∧ w'.cell? ⟨xb, 2, none⟩ = some (.int .i64 x2) ∧ w'.cell? ⟨xb, 3, none⟩ = some (.int .i64 x3)) (first | with_reducible exact ⟨k0, k2, k3⟩ | with_reducible exact ⟨far_four k0 hxn1, far_four k2 hxn1, far_four k3 hxn1⟩ | go_keep) (first | (go_at_call 17; refine (Width_ba x0 hx0s _).mono ?_; rintro e w2 ⟨rfl, hb⟩; have HX2 : w2.heap[xb]? = some (.cells #[.string x0, .int .i64 x1, .int .i64 x2, .int .i64 x3] 34 (0, 0)) := blk_below (by repeat (first | with_reducible exact HX1.out | with_reducible refine blk_alloc ?_ _ | with_reducible refine blk_drew ?_ | with_reducible refine blk_drewN ?_ _)) hb; have k0 : w2.cell? ⟨xb, 0, none⟩ = some (.string x0) := (blk_cell HX2 0).trans rfl; have k2 : w2.cell? ⟨xb, 2, none⟩ = some (.int .i64 x2) := (blk_cell HX2 2).trans rfl; have k3 : w2.cell? ⟨xb, 3, none⟩ = some (.int .i64 x3) := (blk_cell HX2 3).trans rfl; have HXX := Aside0.mk HX2; have hxn2 : xb ≠ w2.heap.size := Nat.ne_of_lt (blk_lt HX2); have HBB := Aside0.mk hb; (try ((first | with_reducible have hy := blk_below (blk_drew (blk_new W1 (.cells #[.string ⟨#[]⟩, .int .i64 0, .int .i64 0, .int .i64 0] 34))) hb | with_reducible have hy := blk_below (blk_new1 W1 (.cells #[.string ⟨#[]⟩, .int .i64 0, .int .i64 0, .int .i64 0] 34)) hb | with_reducible have hy := blk_below (blk_newN W1 _ (.cells #[.string ⟨#[]⟩, .int .i64 0, .int .i64 0, .int .i64 0] 34)) hb | with_reducible have hy := blk_below (blk_new W1 (.cells #[.string ⟨#[]⟩, .int .i64 0, .int .i64 0, .int .i64 0] 34)) hb); (have y0 : w2.cell? ⟨W1.heap.size, 0, none⟩ = some (.string ⟨#[]⟩) := (blk_cell hy 0).trans rfl); (have y1 : w2.cell? ⟨W1.heap.size, 1, none⟩ = some (.int .i64 0) := (blk_cell hy 1).trans rfl); (have y2 : w2.cell? ⟨W1.heap.size, 2, none⟩ = some (.int .i64 0) := (blk_cell hy 2).trans rfl); (have y3 : w2.cell? ⟨W1.heap.size, 3, none⟩ = some (.int .i64 0) := (blk_cell hy 3).trans rfl); have z0 := blk_frozen hy 0; have z1 := blk_frozen hy 1; have z2 := blk_frozen hy 2; have z3 := blk_frozen hy 3; have HY := Aside0.mk hy; clear hy)); clear HX2 hb))
        · go_wp2_with fail
          go_meet
          exact ⟨_, rfl, ⟨blk_new _ _⟩, ⟨blk_alloc HXX.out _⟩, ⟨below_alloc (below_then (below_drew HB1.out) (below_drew HB1.out).size HBB.out) _⟩⟩
        · go_wp2_with fail
          go_meet
          exact ⟨_, rfl, ⟨blk_put (blk_put (blk_put (blk_put HY.out 0 _ rfl) 1 _ rfl) 2 _ rfl) 3 _ rfl⟩, ⟨blk_far (blk_far (blk_far (blk_far HXX.out (p := ⟨W1.heap.size, 0, none⟩) hxn1 _) (p := ⟨W1.heap.size, 1, none⟩) hxn1 _) (p := ⟨W1.heap.size, 2, none⟩) hxn1 _) (p := ⟨W1.heap.size, 3, none⟩) hxn1 _⟩,
            ⟨((((below_then (below_drew (below_alloc HB1.out _)) (below_drew (below_alloc HB1.out _)).size HBB.out).setCell (p := ⟨W1.heap.size, 0, none⟩) HB1.out.size _).setCell (p := ⟨W1.heap.size, 1, none⟩) HB1.out.size _).setCell (p := ⟨W1.heap.size, 2, none⟩) HB1.out.size _).setCell (p := ⟨W1.heap.size, 3, none⟩) HB1.out.size _⟩⟩
      case rest =>
        rename World => W3
        obtain ⟨yb, rfl, HY3, HX3, HB2⟩ := hcut
        have HK := Aside0.mk (show okB ⟨x0, x1, x2, x3⟩ = !badB ⟨x0, x1, x2, x3⟩ (widthL x0.data.toList) from rfl)
        generalize widthL x0.data.toList = n at *
        have c0 : W3.cell? ⟨xb, 0, none⟩ = some (.string x0) := (blk_cell HX3.out 0).trans rfl
        have c1 : W3.cell? ⟨xb, 1, none⟩ = some (.int .i64 x1) := (blk_cell HX3.out 1).trans rfl
        have c2 : W3.cell? ⟨xb, 2, none⟩ = some (.int .i64 x2) := (blk_cell HX3.out 2).trans rfl
        have c3 : W3.cell? ⟨xb, 3, none⟩ = some (.int .i64 x3) := (blk_cell HX3.out 3).trans rfl
        have d0 : W3.cell? ⟨yb, 0, none⟩ = some (.string x0) := (blk_cell HY3.out 0).trans rfl
        have d1 : W3.cell? ⟨yb, 1, none⟩ = some (.int .i64 n) := (blk_cell HY3.out 1).trans rfl
        have d2 : W3.cell? ⟨yb, 2, none⟩ = some (.int .i64 x2) := (blk_cell HY3.out 2).trans rfl
        have d3 : W3.cell? ⟨yb, 3, none⟩ = some (.int .i64 x3) := (blk_cell HY3.out 3).trans rfl
        clear HX1 HB1 HB HO
        cases h1 : (x1 == n)
        · have HF := Aside0.mk (HBAD.out (by rw [HK.out, show badB ⟨x0, x1, x2, x3⟩ n = true by simp [badB, h1]]; rfl))
          clear HBAD HNX
          go_wp2
          go_ret
          exact ⟨by rw [HF.out]; rfl, HB2.out⟩
        · cases h2 : x0.toList.isEmpty
          · have g2 : (x0.toList == []) = false := by cases h : x0.toList <;> simp_all
            cases h3 : decide (400 < (x0.size : Int))
            · cases h4 : (x2 != 0)
              · have g4 : (x2 == 0) = true := by simpa using h4
                cases h6 : decide (x3 < 0)
                · cases h7 : decide (400 < x3)
                  · have HF := Aside0.mk (HNX.out (by rw [HK.out, show badB ⟨x0, x1, x2, x3⟩ n = false by simp [badB, h1, h2, h3, h4, h6, h7]]; rfl))
                    clear HBAD HNX
                    go_wp2
                    go_roundw
                    case rel => exact ⟨k + 1, by omega, by go_num, HF, HB2⟩
                    case measure => simp [intOf]; omega
                  · have HF := Aside0.mk (HBAD.out (by rw [HK.out, show badB ⟨x0, x1, x2, x3⟩ n = true by simp [badB, h1, h2, h3, h4, h6, h7]]; rfl))
                    clear HBAD HNX
                    go_wp2
                    go_ret
                    exact ⟨by rw [HF.out]; rfl, HB2.out⟩
                · have HF := Aside0.mk (HBAD.out (by rw [HK.out, show badB ⟨x0, x1, x2, x3⟩ n = true by simp [badB, h1, h2, h3, h4, h6]]; rfl))
                  clear HBAD HNX
                  go_wp2
                  go_ret
                  exact ⟨by rw [HF.out]; rfl, HB2.out⟩
              · have g4 : (x2 == 0) = false := by simpa using h4
                cases h5 : (x2 != 256)
                · have g5 : (x2 == 256) = true := by simpa using h5
                  cases h6 : decide (x3 < 0)
                  · cases h7 : decide (400 < x3)
                    · have HF := Aside0.mk (HNX.out (by rw [HK.out, show badB ⟨x0, x1, x2, x3⟩ n = false by simp [badB, h1, h2, h3, h4, h5, h6, h7]]; rfl))
                      clear HBAD HNX
                      go_wp2
                      go_roundw
                      case rel => exact ⟨k + 1, by omega, by go_num, HF, HB2⟩
                      case measure => simp [intOf]; omega
                    · have HF := Aside0.mk (HBAD.out (by rw [HK.out, show badB ⟨x0, x1, x2, x3⟩ n = true by simp [badB, h1, h2, h3, h4, h5, h6, h7]]; rfl))
                      clear HBAD HNX
                      go_wp2
                      go_ret
                      exact ⟨by rw [HF.out]; rfl, HB2.out⟩
                  · have HF := Aside0.mk (HBAD.out (by rw [HK.out, show badB ⟨x0, x1, x2, x3⟩ n = true by simp [badB, h1, h2, h3, h4, h5, h6]]; rfl))
                    clear HBAD HNX
                    go_wp2
                    go_ret
                    exact ⟨by rw [HF.out]; rfl, HB2.out⟩
                · have g5 : (x2 == 256) = false := by simpa using h5
                  have HF := Aside0.mk (HBAD.out (by rw [HK.out, show badB ⟨x0, x1, x2, x3⟩ n = true by simp [badB, h1, h2, h3, h4, h5]]; rfl))
                  clear HBAD HNX
                  go_wp2
                  go_ret
                  exact ⟨by rw [HF.out]; rfl, HB2.out⟩
            · have HF := Aside0.mk (HBAD.out (by rw [HK.out, show badB ⟨x0, x1, x2, x3⟩ n = true by simp [badB, h1, h2, h3]]; rfl))
              clear HBAD HNX
              go_wp2
              go_ret
              exact ⟨by rw [HF.out]; rfl, HB2.out⟩
          · have g2 : (x0.toList == []) = true := by cases h : x0.toList <;> simp_all
            have HF := Aside0.mk (HBAD.out (by rw [HK.out, show badB ⟨x0, x1, x2, x3⟩ n = true by simp [badB, h1, h2]]; rfl))
            clear HBAD HNX
            go_wp2
            go_ret
            exact ⟨by rw [HF.out]; rfl, HB2.out⟩
    · have e : k = l.length := by omega
      subst e
      rw [List.take_length] at HO
      have HE := Aside0.mk (show rightL l = decide (l.length ≤ 500) by unfold rightL; rw [HO.out, Bool.true_and])
      cases hd : decide ((l.length : Int) ≤ 500)
      · have HD := Aside0.mk (show decide (l.length ≤ 500) = false from decide_eq_false (by have := of_decide_eq_false hd; omega))
        go_wp2
        go_ret
        exact ⟨by rw [HE.out, HD.out]; rfl, HB.out⟩
      · have HD := Aside0.mk (show decide (l.length ≤ 500) = true from decide_eq_true (by have := of_decide_eq_true hd; omega))
        go_wp2
        go_ret
        exact ⟨by rw [HE.out, HD.out]; rfl, HB.out⟩
def word_Right.f (l0 : List (S34)) : Option (Bool) := if l0.length ≤ 1000 ∧ l0.all wfT = true then some (rightL l0) else none
theorem word_Right.calls (A0 : Option Addr) (c0 : Nat) (l0 : List (S34)) (r : Bool) (w : World) (hr0 : Kd.C k34 w A0 l0.length l0) (hc0 : l0.length ≤ c0) (h : word_Right.f l0 = some r) (_ : GOK w) :
    Calls Try.prog 24 #[.slice A0 l0.length c0] w fun e w' => e = .returned (.bool r) ∧ Below w.heap.size w w' := by
  have _h := hc0
  unfold word_Right.f at h
  split at h
  · rename_i hq
    obtain rfl := Option.some.inj h
    exact Right_any A0 c0 l0 w hr0 hq.1 (List.all_eq_true.1 hq.2)
  · cases h
end Go.Proofs.Ytnfbfachabdahaa.G
/- Chapter 7: are words right, as the document says? Written by mkF15.py. -/
namespace Go.Proofs.Ytnfbfachabdahaa.G
open Go.RowKit Go.Shelf Go.Proofs.YtnfbfachabdahaaW.PrintWords Go.Proofs.YtnfbfachabdahaaW.PrintLast Go.Proofs.YtnfbfachabdahaaW.PrintMore

theorem refWidth_m (a0 : ByteArray) (ha : a0.size ≤ 1000000) (w : World) (n : Nat) :
    Calls Try.prog 18 #[.string a0] (w.drewN n) fun e w' => e = .returned (.int .i64 (widthL a0.data.toList)) ∧ ∃ m, w' = (w.drewN n).drewN m :=
  (refWidth_quiet a0 ha (w.drewN n)).mono fun _ _ ⟨h, ⟨m⟩⟩ => ⟨h, m⟩
set_option maxRecDepth 1000000 in
set_option maxHeartbeats 16000000 in
theorem refRight_any (A : Option Addr) (c : Nat) (l : List S34) (w : World) (hr : Kd.C k34 w A l.length l) (hl : l.length ≤ 1000) (hw : ∀ x ∈ l, wfT x = true) :
    Calls Try.prog 26 #[.slice A l.length c] w fun e w' => e = .returned (.bool (rightL l)) ∧ Below w.heap.size w w' := by
  have HR := Aside0.mk hr
  have HW := Aside0.mk hw
  clear hr hw
  go_enter Try.func26, Try.ntmps26
  go_wp2
  go_loopw [3] (fun i wr => ∃ k : Nat, k ≤ l.length ∧ i = .int .i64 k ∧ Aside0 ((l.take k).all okB = true) ∧ Aside0 (Below w.heap.size w wr)) (fun i _ => l.length - (intOf i).toNat)
  case atStart => exact ⟨0, Nat.zero_le _, rfl, ⟨rfl⟩, ⟨Below.refl _ _⟩⟩
  case round =>
    obtain ⟨k, hk, rfl, HO, HB⟩ := hrel
    by_cases hlt : k < l.length
    · obtain ⟨ad, ea, hx0, hx1, hx2, hx3⟩ := at_T34 (Kd.C_below HR.out HB.out) (k : Int) (by omega) (by omega)
      cases ea
      simp only [Int.toNat_natCast] at hx0 hx1 hx2 hx3
      have hmem := mem34_rd l k hlt
      have hwf := HW.out _ hmem
      have HNX := Aside0.mk (fun h => all_next hlt HO.out h)
      have HBAD := Aside0.mk (fun h => all_bad hmem h)
      generalize rd_T34 l k = x at *
      obtain ⟨x0, x1, x2, x3⟩ := x
      dsimp only at hx0 hx1 hx2 hx3
      have hx0s : x0.size ≤ 1000000 := by have := of_decide_eq_true hwf; dsimp only at this; omega
      clear hwf hmem
      have HB1 := Aside0.mk (below_alloc HB.out (.cells #[.string x0, .int .i64 x1, .int .i64 x2, .int .i64 x3] 34))
      have HX1 := Aside0.mk (blk_new wr (.cells #[.string x0, .int .i64 x1, .int .i64 x2, .int .i64 x3] 34))
      have HWM := Aside0.mk (refWidth_m x0 hx0s)
      go_upto_region 5 with fail
      generalize wr.alloc (.cells #[.string x0, .int .i64 x1, .int .i64 x2, .int .i64 x3] 34) = W1 at *
      generalize wr.heap.size = xb at *
      have HK := Aside0.mk (show okB ⟨x0, x1, x2, x3⟩ = !badB ⟨x0, x1, x2, x3⟩ (widthL x0.data.toList) from rfl)
      generalize widthL x0.data.toList = n at *
      have c0 : W1.cell? ⟨xb, 0, none⟩ = some (.string x0) := (blk_cell HX1.out 0).trans rfl
      have c1 : W1.cell? ⟨xb, 1, none⟩ = some (.int .i64 x1) := (blk_cell HX1.out 1).trans rfl
      have c2 : W1.cell? ⟨xb, 2, none⟩ = some (.int .i64 x2) := (blk_cell HX1.out 2).trans rfl
      have c3 : W1.cell? ⟨xb, 3, none⟩ = some (.int .i64 x3) := (blk_cell HX1.out 3).trans rfl
      clear HX1 HB HO
      cases h2 : x0.toList.isEmpty
      · have g2 : (x0.toList == []) = false := by cases h : x0.toList <;> simp_all
        cases h3 : decide (400 < (x0.size : Int))
        · cases h1 : (x1 == n)
          · have g1 : (x1 != n) = true := by simp [bne, h1]
            have HF := Aside0.mk (HBAD.out (by rw [HK.out, show badB ⟨x0, x1, x2, x3⟩ n = true by simp [badB, h2, h3, h1]]; rfl))
            clear HBAD HNX HK
            go_quiet ((go_at_call 18; exact Calls.quiet_of (HWM.out _ _)))
            go_wp2
            go_ret
            exact ⟨by rw [HF.out]; rfl, pw_below_drewN HB1.out _⟩
          · have g1 : (x1 != n) = false := by simp [bne, h1]
            cases h4 : (x2 != 0)
            · have g4 : (x2 == 0) = true := by simpa using h4
              cases h6 : decide (x3 < 0)
              · cases h7 : decide (400 < x3)
                · have HF := Aside0.mk (HNX.out (by rw [HK.out, show badB ⟨x0, x1, x2, x3⟩ n = false by simp [badB, h2, h3, h1, h4, h6, h7]]; rfl))
                  clear HBAD HNX HK
                  go_quiet ((go_at_call 18; exact Calls.quiet_of (HWM.out _ _)))
                  go_wp2
                  go_roundw
                  case rel => exact ⟨k + 1, by omega, by go_num, HF, ⟨pw_below_drewN HB1.out _⟩⟩
                  case measure => simp [intOf]; omega
                · have HF := Aside0.mk (HBAD.out (by rw [HK.out, show badB ⟨x0, x1, x2, x3⟩ n = true by simp [badB, h2, h3, h1, h4, h6, h7]]; rfl))
                  clear HBAD HNX HK
                  go_quiet ((go_at_call 18; exact Calls.quiet_of (HWM.out _ _)))
                  go_wp2
                  go_ret
                  exact ⟨by rw [HF.out]; rfl, pw_below_drewN HB1.out _⟩
              · have HF := Aside0.mk (HBAD.out (by rw [HK.out, show badB ⟨x0, x1, x2, x3⟩ n = true by simp [badB, h2, h3, h1, h4, h6]]; rfl))
                clear HBAD HNX HK
                go_quiet ((go_at_call 18; exact Calls.quiet_of (HWM.out _ _)))
                go_wp2
                go_ret
                exact ⟨by rw [HF.out]; rfl, pw_below_drewN HB1.out _⟩
            · have g4 : (x2 == 0) = false := by simpa using h4
              cases h5 : (x2 != 256)
              · have g5 : (x2 == 256) = true := by simpa using h5
                cases h6 : decide (x3 < 0)
                · cases h7 : decide (400 < x3)
                  · have HF := Aside0.mk (HNX.out (by rw [HK.out, show badB ⟨x0, x1, x2, x3⟩ n = false by simp [badB, h2, h3, h1, h4, h5, h6, h7]]; rfl))
                    clear HBAD HNX HK
                    go_quiet ((go_at_call 18; exact Calls.quiet_of (HWM.out _ _)))
                    go_wp2
                    go_roundw
                    case rel => exact ⟨k + 1, by omega, by go_num, HF, ⟨pw_below_drewN HB1.out _⟩⟩
                    case measure => simp [intOf]; omega
                  · have HF := Aside0.mk (HBAD.out (by rw [HK.out, show badB ⟨x0, x1, x2, x3⟩ n = true by simp [badB, h2, h3, h1, h4, h5, h6, h7]]; rfl))
                    clear HBAD HNX HK
                    go_quiet ((go_at_call 18; exact Calls.quiet_of (HWM.out _ _)))
                    go_wp2
                    go_ret
                    exact ⟨by rw [HF.out]; rfl, pw_below_drewN HB1.out _⟩
                · have HF := Aside0.mk (HBAD.out (by rw [HK.out, show badB ⟨x0, x1, x2, x3⟩ n = true by simp [badB, h2, h3, h1, h4, h5, h6]]; rfl))
                  clear HBAD HNX HK
                  go_quiet ((go_at_call 18; exact Calls.quiet_of (HWM.out _ _)))
                  go_wp2
                  go_ret
                  exact ⟨by rw [HF.out]; rfl, pw_below_drewN HB1.out _⟩
              · have g5 : (x2 == 256) = false := by simpa using h5
                have HF := Aside0.mk (HBAD.out (by rw [HK.out, show badB ⟨x0, x1, x2, x3⟩ n = true by simp [badB, h2, h3, h1, h4, h5]]; rfl))
                clear HBAD HNX HK
                go_quiet ((go_at_call 18; exact Calls.quiet_of (HWM.out _ _)))
                go_wp2
                go_ret
                exact ⟨by rw [HF.out]; rfl, pw_below_drewN HB1.out _⟩
        · have HF := Aside0.mk (HBAD.out (by rw [HK.out, show badB ⟨x0, x1, x2, x3⟩ n = true by simp [badB, h2, h3]]; rfl))
          clear HBAD HNX HK
          go_quiet ((go_at_call 18; exact Calls.quiet_of (HWM.out _ _)))
          go_wp2
          go_ret
          exact ⟨by rw [HF.out]; rfl, pw_below_drewN HB1.out _⟩
      · have g2 : (x0.toList == []) = true := by cases h : x0.toList <;> simp_all
        have HF := Aside0.mk (HBAD.out (by rw [HK.out, show badB ⟨x0, x1, x2, x3⟩ n = true by simp [badB, h2]]; rfl))
        clear HBAD HNX HK
        go_quiet ((go_at_call 18; exact Calls.quiet_of (HWM.out _ _)))
        go_wp2
        go_ret
        exact ⟨by rw [HF.out]; rfl, pw_below_drewN HB1.out _⟩
    · have e : k = l.length := by omega
      subst e
      rw [List.take_length] at HO
      have HE := Aside0.mk (show rightL l = decide (l.length ≤ 500) by unfold rightL; rw [HO.out, Bool.true_and])
      cases hd : decide ((l.length : Int) ≤ 500)
      · have HD := Aside0.mk (show decide (l.length ≤ 500) = false from decide_eq_false (by have := of_decide_eq_false hd; omega))
        go_wp2
        go_ret
        exact ⟨by rw [HE.out, HD.out]; rfl, HB.out⟩
      · have HD := Aside0.mk (show decide (l.length ≤ 500) = true from decide_eq_true (by have := of_decide_eq_true hd; omega))
        go_wp2
        go_ret
        exact ⟨by rw [HE.out, HD.out]; rfl, HB.out⟩
def gutterref07_Right.f (l0 : List (S34)) : Option (Bool) := if l0.length ≤ 1000 ∧ l0.all wfT = true then some (rightL l0) else none
theorem gutterref07_Right.calls (A0 : Option Addr) (c0 : Nat) (l0 : List (S34)) (r : Bool) (w : World) (hr0 : Kd.C k34 w A0 l0.length l0) (hc0 : l0.length ≤ c0) (h : gutterref07_Right.f l0 = some r) :
    Calls Try.prog 26 #[.slice A0 l0.length c0] w fun e w' => e = .returned (.bool r) ∧ Below w.heap.size w w' := by
  have _h := hc0
  unfold gutterref07_Right.f at h
  split at h
  · rename_i hq
    obtain rfl := Option.some.inj h
    exact refRight_any A0 c0 l0 w hr0 hq.1 (List.all_eq_true.1 hq.2)
  · cases h
end Go.Proofs.Ytnfbfachabdahaa.G
