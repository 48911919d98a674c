/- Chapter 9: slices.Collect over an iterator of whole numbers; Splits. -/
import Derived.Test.YtfamkadpncbmlaaDoorF4
import Derived.RangeFuncBox
import Derived.Maps.AppendAt
namespace Go.Proofs.YtfamkadpncbmlaaDoor.G
open Go.RowKit Go.Shelf Go.Proofs.YtfamkadpncbmlaaDoorW.PrintWords Go.Proofs.YtfamkadpncbmlaaDoorW.PrintLast Go.Proofs.YtfamkadpncbmlaaDoorW.PrintMore
attribute [local go_sem] Oper.semAt_some

theorem infoE3 : (Tryd.prog.info? 3).map (fun i => (i.zero, i.size, i.bytes)) = some (some (.int .i64 0), 1, 8) := by kernel_rfl

set_option maxRecDepth 100000 in
set_option maxHeartbeats 2000000 in
theorem appendSeq_in (g : Nat) (lb : Array Value) (Bn N : Nat) (L : List Int) (w : World) (hE : ∀ args w, (callFunc g args).run Tryd.prog w = .ok (.enter g args) w)
    (hseq : SeqStopsK Fence.wide 5 Tryd.prog g lb (fun x : Int => #[.int .i64 x]) (Kb Bn) (fun ys => ys = L) (fun _ => True) N w) (hBn : Bn < w.heap.size) (hN : N ≤ 1000000) :
    CallsIn Fence.wide 6 Tryd.prog 37 #[.slice none 0 0, .func (.func g) #[] lb] w fun e W' => ∃ v, e = .returned v ∧ W'.ownsRow w.heap.size 3 1 v L.length (L.map (Value.int .i64)) ∧ Below w.heap.size w W' := by
  obtain ⟨i0, hi, hz0, hz1, hz2⟩ := info_parts infoE3
  refine callsIn_of_wp_marks Tryd.func37 rfl trivial ?_ rfl
  simp only [Tryd.ntmps37, List.size_toArray, List.length_cons, List.length_nil, Nat.reduceAdd, Nat.reduceSub, Array.replicate_succ, Array.replicate_zero, List.push_toArray, List.append_toArray, List.nil_append, List.cons_append]
  gi_wp2
  have bO := Boxed.new w 22 (.slice none 0 0)
  have hB0 : Below w.heap.size w (w.alloc (.cells #[.slice none 0 0] 22)) := below_alloc (Below.refl _ _) _
  have e4 : (w.alloc (.cells #[.slice none 0 0] 22)).heap.size = w.heap.size + 1 := by simp
  refine wpIn_rangeFunc_ownF rfl (by omega) (gf := g) (lb := lb) rfl trivial hE
    hseq Kb.trans (Kb.put (by omega)) hB0 (fun _ => rfl)
    (fun pre W => (∃ v, Boxed W w.heap.size 22 v ∧ W.ownsRow w.heap.size 3 1 v pre.length (pre.map (Value.int .i64)) ∧ True) ∧ Below w.heap.size w W)
    (fun _ _ _ => False)
    (OwnFrom.and (Own.from (holdsRow_own w.heap.size w.heap.size 22 3 1 (fun pre : List Int => pre.length) (fun pre => pre.map (Value.int .i64)) (fun _ _ => True)) _) (ownFrom_below (Nat.le_refl _) (by omega)))
    (fun _ _ _ _ _ hs _ _ => hs)
    ⟨⟨_, bO, World.ownsRow_nil _ _ _ _, trivial⟩, hB0⟩
    (fun x => { tmps := #[.slice none 0 0, .func (.func g) #[] lb, .pointer (some ⟨w.heap.size, 0, none⟩), undef, .slice none 0 0, .int .i64 x, .func (.func g) #[] lb, .int .i64 x, undef, undef, undef, undef, undef], defers := [] }) ?assign ?body ?done ?stop
  case assign =>
    intro l x W K hK
    gi_wp2
    exact hK
  case body =>
    rintro l pre x W ⟨⟨v, hv, hrow, _⟩, hB⟩ hlt
    have hc := hv.cell
    gi_wp2_with (gi_at_builtin; refine wpListIn_append_own _ rfl _ _ 22 rfl w.heap.size 3 i0 (.int .i64 0) 1 8 Tryd.underlying22 hi hz0 hz1 hz2 rfl (by decide) _ _ _ rfl (hrow.alloc _) ⟨W.heap.size, 0, none⟩ 1 1 [.int .i64 x] rfl rfl (cell_one_new _ _ _) (by simp [Value.oneCell']) (by unfold maxLen; omega) (by omega) (by have := hB.size; simp; omega) ?_; intro v' w1 hown' hgrow _; obtain ⟨g', cap', rfl⟩ := ownsRow_succ hown'; obtain ⟨hv1, hv2, hr2, hk2, hb2⟩ := hv.appended (by decide) hrow hB.size (Nat.le_refl _) hown' hgrow; have hc1 := hv1.cell; have hf1 := hv1.frozen)
    exact ⟨hk2, hb2.block Bn hBn, ⟨_, hv2, by simpa using hr2, trivial⟩, hB.trans hb2⟩
  case done =>
    rintro D ys W hD rfl ⟨⟨v, hv, hrow, _⟩, hB⟩ hK
    have hc := hv.cell
    gi_wp2
    refine ⟨by simp, .inl ⟨_, _, rfl, run_takeDeferred hK, ?_⟩⟩
    exact ⟨_, results_tmp rfl _ _ _, v, rfl, ownsRow_putObj hrow _ hK rfl, hB.trans (belowK_b (w := w) (Nat.le_refl _) W D _ _ (by omega) hK rfl rfl)⟩
  case stop =>
    rintro D c pre W _ _ h _
    exact h.elim

theorem collect_any (g : Nat) (lb : Array Value) (Bn N : Nat) (L : List Int) (w : World) (hE : ∀ args w, (callFunc g args).run Tryd.prog w = .ok (.enter g args) w)
    (hseq : SeqStopsK Fence.wide 5 Tryd.prog g lb (fun x : Int => #[.int .i64 x]) (Kb Bn) (fun ys => ys = L) (fun _ => True) N w) (hBn : Bn < w.heap.size) (hN : N ≤ 1000000) :
    Calls Tryd.prog 31 #[.func (.func g) #[] lb] w fun e w' => ∃ v, e = .returned v ∧ w'.ownsRow w.heap.size 3 1 v L.length (L.map (Value.int .i64)) ∧ Below w.heap.size w w' := by
  have H := Aside0.mk (callsIn_wide.1 (appendSeq_in g lb Bn N L w hE hseq hBn hN))
  clear hseq
  go_enter Tryd.func31, Tryd.ntmps31
  go_wp2_with (go_at_call 37; refine H.out.mono ?_; rintro e w' ⟨v, rfl, ho, hb⟩)
  go_ret
  exact ⟨v, rfl, ho, hb⟩

def para_Splits.f (a0 a1 a2 : Int) : Option (List Int × Int) := some (if isB a0 a1 a2 then (upTo a0 a1 a2 (a0.toNat - 1), 0) else ([], 90))
end Go.Proofs.YtfamkadpncbmlaaDoor.G
