/- Chapter 9: the iterator over the splits. -/
import Derived.Test.YtfamkadpncbmlaaDoorF2
import Derived.RangeFuncNested
import Derived.RangeFuncBound
import Derived.RangeFuncCalls
import Derived.RangeFuncLeaves
import Derived.Shelf.Abstract
import Derived.Shelf.RegionOpen
import Derived.OwnWalkIn
import Derived.TacticsInMore
import Derived.LoopNIn
import Derived.LoopIn
namespace Go.Proofs.YtfamkadpncbmlaaDoor.G
open Go.RowKit Go.Shelf Go.Proofs.YtfamkadpncbmlaaDoorW.PrintWords Go.Proofs.YtfamkadpncbmlaaDoorW.PrintLast Go.Proofs.YtfamkadpncbmlaaDoorW.PrintMore
attribute [local go_sem] max2_int min2_int
attribute [local go_sem] Oper.semAt_some

/-- The places behind which a paragraph may be broken, of the first k lines. -/
def upTo (n o d : Int) (k : Nat) : List Int := ((List.range k).map (fun i : Nat => (i : Int) + 1)).filter (mayB n o d)
theorem upTo_succ (n o d : Int) (k : Nat) : upTo n o d (k + 1) = upTo n o d k ++ (if mayB n o d ((k : Int) + 1) then [(k : Int) + 1] else []) := by
  unfold upTo
  rw [List.range_succ, List.map_append, List.filter_append]
  congr 1
  cases h : mayB n o d ((k : Int) + 1) <;> simp [h]
theorem upTo_len (n o d : Int) (k : Nat) : (upTo n o d k).length ≤ k := by
  unfold upTo
  exact Nat.le_trans (List.length_filter_le _ _) (by simp)

theorem wpIn_scope_wide {n : Nat} {P : Program} {c : Code} {Q : Exit → Act → World → Prop} {a : Act} {w : World} (h : c.wpIn Fence.wide n P (Exit.noGoto Q) a w) : (Code.scope c).wpIn Fence.wide n P Q a w :=
  wpIn_wide.2 (wp_scope_straight (wpIn_wide.1 h))
theorem abides_below {J : List Int → World → Prop} {B : Nat} (hJ : AbidesFrom B J) {s : List Int} {W W' : World} (h : J s W) (hb : Below W.heap.size W W') : J s W' :=
  hJ s W W' none h (grown_of_below hb none) (fun r e => by cases e)

set_option maxHeartbeats 2000000 in
theorem splits1_in (m : Nat) (hm : 3 ≤ m) (l Bn B : Nat) (n o d : Int) (hn1 : 1 ≤ n) (hn2 : n ≤ 500) (J Jx : List Int → World → Prop) (hJ : AbidesFrom B J)
    (hY : ∀ pre x W, J pre W → pre.length < 500 → YieldAt Fence.wide (m - 1) Tryd.prog l #[.int .i64 x] W fun e W' =>
      (e = .returned (.bool true) ∧ J (pre ++ [x]) W' ∧ W'.heap[Bn]? = W.heap[Bn]?) ∨ (e = .returned (.bool false) ∧ Jx (pre ++ [x]) W'))
    (W : World) (hc0 : W.heap[Bn]? = some (.cells #[.int .i64 n, .int .i64 o, .int .i64 d] 43 (0, 0))) (h0 : J [] W) :
    CallsIn Fence.wide m Tryd.prog 38 #[.func (.yield l) #[] #[], .pointer (some ⟨Bn, 0, none⟩)] W fun e W' => (∃ v, e = .returned v) ∧
      ((∃ ys, ys = upTo n o d (n.toNat - 1) ∧ J ys W') ∨ (∃ pre : List Int, True ∧ Jx pre W')) := by
  refine callsIn_of_wp Tryd.func38 rfl trivial ?_ rfl
  simp only [Tryd.ntmps38, List.size_toArray, List.length_cons, List.length_nil, Nat.reduceAdd, Nat.reduceSub, Array.replicate_succ, Array.replicate_zero, List.push_toArray, List.append_toArray, List.nil_append, List.cons_append]
  obtain ⟨c0, c1, c2⟩ := blk3 hc0
  gi_wp2
  refine wpIn_scope_wide ?_
  gi_wp2
  refine wpIn_label ?_
  gi_wp2
  gi_loopw [8] (fun i wr => ∃ k : Nat, k ≤ n.toNat - 1 ∧ i = .int .i64 k ∧ J (upTo n o d k) wr ∧ wr.heap[Bn]? = some (.cells #[.int .i64 n, .int .i64 o, .int .i64 d] 43 (0, 0)))
    (fun i _ => n.toNat - 1 - (intOf i).toNat)
  case atStart => exact ⟨0, Nat.zero_le _, rfl, h0, hc0⟩
  case round =>
    clear c0 c1 c2 hc0 h0
    obtain ⟨k, hk, rfl, hJk, hck⟩ := hrel
    obtain ⟨c0, c1, c2⟩ := blk3 hck
    have HC := Aside0.mk hck
    have HJ := Aside0.mk hJk
    clear hck hJk
    by_cases hlt : (k : Int) < n - 1
    · have hs := upTo_succ n o d k
      have HS := Aside0.mk hs
      have hl := upTo_len n o d k
      clear hs
      by_cases hmay : mayB n o d ((k : Int) + 1) = true
      · rw [if_pos hmay] at HS
        have HM := Aside0.mk hmay
        clear hmay
        gi_wp2_with fail
        refine ⟨trivial, fun _ => by omega, ?_⟩
        refine (callsIn_wide.2 (may_any _ _ _ _ _)).mono ?_
        rintro e w2 ⟨rfl, hb⟩
        rw [HM.out]
        have hc2 := Aside0.mk (blk_below HC.out hb)
        obtain ⟨fn, tmps, assign, body, hy, hR⟩ := hY _ ((k : Int) + 1) w2 (abides_below hJ HJ.out hb) (by omega)
        clear hb
        gi_wp2
        refine ⟨fun _ => by omega, hR.mono ?_⟩
        rintro e W3 (⟨rfl, hJ3, hk3⟩ | ⟨rfl, hJx3⟩)
        · have hc3 := hk3.trans hc2.out
          have HC3 := Aside0.mk hc3
          clear hc3 hk3
          gi_wp2
          go_roundw
          case rel => exact ⟨k + 1, by omega, by go_num, by rw [HS.out]; exact hJ3, HC3.out⟩
          case measure => simp [intOf]; omega
        · gi_wp2
          rw [Exit.noGoto_normal]
          go_end0
          exact ⟨⟨_, rfl⟩, .inr ⟨_, trivial, hJx3⟩⟩
      · rw [if_neg hmay, List.append_nil] at HS
        have HM := Aside0.mk (Bool.eq_false_iff.mpr hmay)
        clear hmay
        gi_wp2_with fail
        refine ⟨trivial, fun _ => by omega, ?_⟩
        refine (callsIn_wide.2 (may_any _ _ _ _ _)).mono ?_
        rintro e w2 ⟨rfl, hb⟩
        rw [HM.out]
        have hc2 := Aside0.mk (blk_below HC.out hb)
        have hJ2 := Aside0.mk (abides_below hJ HJ.out hb)
        clear hb
        gi_wp2
        refine ⟨fun _ h => (by cases h), ?_⟩
        gi_wp2
        go_roundw
        case rel => exact ⟨k + 1, by omega, by go_num, by rw [HS.out]; exact hJ2.out, hc2.out⟩
        case measure => simp [intOf]; omega
    · gi_wp2
      go_end0
      exact ⟨⟨_, rfl⟩, .inl ⟨_, by congr 1; omega, HJ.out⟩⟩

set_option maxHeartbeats 2000000 in
theorem splits1_zero (m : Nat) (l Bn : Nat) (o d : Int) (J Jx : List Int → World → Prop)
    (W : World) (hc0 : W.heap[Bn]? = some (.cells #[.int .i64 0, .int .i64 o, .int .i64 d] 43 (0, 0))) (h0 : J [] W) :
    CallsIn Fence.wide m Tryd.prog 38 #[.func (.yield l) #[] #[], .pointer (some ⟨Bn, 0, none⟩)] W fun e W' => (∃ v, e = .returned v) ∧
      ((∃ ys : List Int, ys = [] ∧ J ys W') ∨ (∃ pre : List Int, True ∧ Jx pre W')) := by
  refine callsIn_of_wp Tryd.func38 rfl trivial ?_ rfl
  simp only [Tryd.ntmps38, List.size_toArray, List.length_cons, List.length_nil, Nat.reduceAdd, Nat.reduceSub, Array.replicate_succ, Array.replicate_zero, List.push_toArray, List.append_toArray, List.nil_append, List.cons_append]
  obtain ⟨c0, c1, c2⟩ := blk3 hc0
  gi_wp2
  refine wpIn_scope_wide ?_
  gi_wp2
  refine wpIn_label ?_
  gi_wp2
  refine wpIn_loop_rounds 1 ?_
  rw [roundsIn_succ]
  gi_wp2
  rw [Exit.noGoto_normal]
  go_end0
  exact ⟨⟨_, rfl⟩, .inl ⟨_, rfl, h0⟩⟩

/-- What a round keeps that goes on: the iterator's own variable. -/
def Kb (Bn : Nat) (A B : World) : Prop := B.heap[Bn]? = A.heap[Bn]?
theorem Kb.trans {Bn : Nat} {A B C : World} (h : Kb Bn A B) (k : Kb Bn B C) : Kb Bn A C := Eq.trans k h
theorem Kb.put {Bn : Nat} {w : World} (hB : Bn < w.heap.size) (W : World) (l : Nat) (o o' : Obj) (hl : w.heap.size ≤ l) (_ : W.heap[l]? = some o) (_ : o.isCells = false) (_ : o.isWalk = false) : Kb Bn W (W.putObj l o') :=
  World.putObj_heap_other (by omega)

theorem splits_seq (m : Nat) (hm : 3 ≤ m) (Bn : Nat) (n o d : Int) (hn1 : 0 ≤ n) (hn2 : n ≤ 500) (w : World) (hc0 : w.heap[Bn]? = some (.cells #[.int .i64 n, .int .i64 o, .int .i64 d] 43 (0, 0))) :
    SeqStopsK Fence.wide m Tryd.prog 38 #[.pointer (some ⟨Bn, 0, none⟩)] (fun x : Int => #[.int .i64 x]) (Kb Bn) (fun ys => ys = upTo n o d (n.toNat - 1)) (fun _ => True) 500 w := fun l J Jx W hW hJ _ hY h0 => by
  by_cases h : 1 ≤ n
  · exact splits1_in m hm l Bn W.heap.size n o d h hn2 J Jx hJ hY W (blk_below hc0 hW) h0
  · obtain rfl : n = 0 := by omega
    exact splits1_zero m l Bn o d J Jx W (blk_below hc0 hW) h0

theorem splits_any (n o d : Int) (w : World) : Calls Tryd.prog 32 #[.agg #[.int .i64 n, .int .i64 o, .int .i64 d]] w fun e w' => e = .returned (.func (.func 38) #[] #[.pointer (some ⟨w.heap.size, 0, none⟩)]) ∧ w' = w.alloc (.cells #[.int .i64 n, .int .i64 o, .int .i64 d] 43) := by
  go_enter Tryd.func32, Tryd.ntmps32
  go_wp2
  go_ret
  exact ⟨rfl, rfl⟩
end Go.Proofs.YtfamkadpncbmlaaDoor.G
