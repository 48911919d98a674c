/- The law SegmentMakes: the row, out of the plain statement and the printed walk; and its tied card. Conditions: none beyond the row's own. -/
import Derived.Test.YtdphijhebppeeaaDoorRows
import Derived.Test.YtdphijhebppeeaaDoorK7
import Derived.Test.YtdphijhebppeeaaDoorL
import Derived.Test.YtdphijhebppeeaaDoorR
import Derived.Test.YtdphijhebppeeaaDoorTie
import Derived.Test.YtdphijhebppeeaaDoorCards
import Derived.WalkKit
import Derived.ProofKit
import Derived.OpenShut
import Derived.ShutString
import Derived.ChangeOld
import Derived.Below
import Derived.SizedLaws
import Derived.SevenTiedAt
namespace Go.Proofs.YtdphijhebppeeaaDoor.segmentMakes
open Go.ChangeShapes Go.WideShapes Go.ChangeAt Go.RowKit
open Go.ChangeMaps (open_string shut_string)
set_option linter.unusedVariables false
set_option maxRecDepth 100000 in
theorem lifted (os : Os) (started : os.Started) (H : Type) (enc : TypeId × Value → H) :
    ReturnsInHanded {} Tryd.checked os 7 .any (fun w args => (Rows.segmentMakesSpec.pre enc Tryd.prog Tryd.f7 [] false w args ∧ L.laidX w) ∧ sizedMet enc Tryd.prog Tryd.f7 (OpenSpec.ofChange Rows.segmentMakesSpec) false w args) (Rows.segmentMakesSpec.post enc Tryd.prog Tryd.f7 false true false false) := by
  refine returnsInHanded_of_change_and (C := Tryd.checked) (X := fun w _ => L.laidX w) (fun _ _ _ hh h => L.hX hh h) L.own started (by kernel_rfl) Tryd.func7
    (ChangeSpec.witness_at (enc := enc) (C := Tryd.checked) (os := os) (X := fun w _ => L.laidX w) false (L.laidWorld os) #[.slice none 0 0, .int .i64 0] 8 rfl (by kernel_rfl) (by kernel_rfl) (by kernel_rfl) (by kernel_rfl) (by kernel_rfl) (L.laidWorld_met os _)) ?_
  intro W base args ds gs before hval0 hW hcnd hsz0 hL _
  have hsz : (DataW.weightsEach Tryd.prog (Tryd.f7.params.toList ++ Rows.segmentMakesSpec.plain.varTypes Tryd.prog) (ds ++ gs)).all (· ≤ reachBytes) = true := hsz0
  have hval : ∀ (j : Nat) t v, Tryd.f7.params[j]? = some t → args[j]? = some v → Value.okWide Tryd.prog W .any base t v := hval0
  have hW' := hW
  obtain ⟨p, q, hA0, hV, rfl, hfz, hnd⟩ := hW
  have hA : DataW.TrodAll enc Tryd.prog W 0 (fun _ => true) true Tryd.f7.params.toList args.toList ds p := hA0
  rw [Tryd.params7] at hA hval hsz
  have hG := L.gok_of_laid hL
  obtain ⟨v0, vs0, d0, ds0, p0, q0, hargs, rfl, rfl, h0, r0⟩ := trodAll_cons hA
  obtain ⟨v1, vs1, d1, ds1, p1, q1, rfl, rfl, rfl, h1, r1⟩ := trodAll_cons r0
  obtain ⟨rfl, rfl, rfl⟩ := trodAll_nil r1
  obtain rfl : args = #[v0, v1] := by cases args; simp_all
  obtain ⟨rfl, rfl⟩ := trodVars_none hV
  obtain ⟨a0, len0, cap0, rfl⟩ := okWide_slice Tryd.underlying22 (hval 0 22 v0 rfl rfl)
  have k0 := h0
  have lt0 : ∀ x ∈ p0, x.block < W.heap.size := by obtain ⟨m, hm⟩ := k0; exact DataW.trod_lt m _ _ _ hm
  obtain ⟨z0, hz0, hc0, hC0, hw0⟩ := (show ∃ zs : List _, zs.length = len0 ∧ len0 ≤ cap0 ∧ Go.Proofs.YtdphijhebppeeaaDoorW.PrintWords.Kd.C _ W a0 len0 zs ∧ zs.all G.wfN = true from by
    obtain ⟨fuel, hf⟩ := h0
    exact G.open_sl22 (show DataW.trod enc Tryd.prog W 0 (fun _ => true) true fuel 22 [.slice a0 len0 cap0] = some _ from hf))
  subst hz0
  obtain ⟨a1, rfl, rfl, rfl, w1⟩ := open_int Tryd.underlying3 (hval 1 3 v1 rfl rfl) h1
  clear hA0 hval0 hsz0 hsz
  obtain ⟨k, hk⟩ := G.SegmentMakes z0 a1 hw0 w1
  refine (G.gutterlaw16_SegmentMakes.calls k a0 cap0 z0 a1 true W hC0 hc0 hk hG).mono fun e W' ⟨he, bel⟩ => ?_
  subst he
  exact ⟨_, rfl, _, _, _, [], _, [], hW', trodAll_mk1 (shut_bool Tryd.underlying4 _), (trodAll_cons_mk (Below.trod L.laidOut (by kernel_rfl) (of_decide_eq_true (by kernel_rfl)) k0 bel lt0) (trodAll_cons_mk (shut_int Tryd.underlying3 w1) trodAll_mk0)), rfl, bel.frame _, fun h => by cases h⟩
theorem over : Rows.segmentMakesRow.holds Tryd.pinned (OpenSpec.ofChange Rows.segmentMakesSpec) :=
  OpenClaim.holds_of_wide 7 Tryd.f7 rfl rfl rfl rfl rfl rfl rfl ⟨rfl, rfl, rfl, rfl, rfl⟩ rfl rfl rfl rfl rfl (by kernel_rfl) Tryd.func7 (by kernel_rfl)
    (of_decide_eq_true (by kernel_rfl)) (by unfold Func.isWrapper; rw [if_neg (of_decide_eq_false (by kernel_rfl))]; exact ⟨rfl, rfl⟩)
    (fun os started H enc _ => lifted os started H enc)
theorem card_proved : Rows.SegmentMakesCardSaid :=
  Claim7.holds_tied_plain_at .later [] [.handle, .sentinel, .sentinel, .sentinel, .sentinel] true (true, "0df220eec04b9f1f701e6a0679550bedfabcdf5d4d3ca953514b089dc27b3a76") true
    over (fun _ h => by cases h) (by kernel_rfl) (fun _ h => by cases h) segmentMakes_row_tie rfl ⟨rfl, rfl⟩ (by kernel_rfl) rfl
    (fun f fn hf hfn => by
      obtain rfl : f = 7 := Option.some.inj ((show Tryd.prog.funcNamed "gutter/gutterlaw16.SegmentMakes" = some 7 by kernel_rfl).symm.trans hf) |>.symm
      obtain rfl : fn = Tryd.f7 := (Option.some.inj (Tryd.func7.symm.trans hfn)).symm
      exact ⟨by kernel_rfl, fun j t ht => by
        rw [Tryd.params7] at ht
        have hm : t ∈ [22, 3] := by
          have h2 := Array.mem_of_getElem? ht
          simpa using h2
        have hall : ∀ t ∈ [22, 3], Tryd.prog.wantsStandIn t = false := by
          intro t h2
          simp only [List.mem_cons, List.not_mem_nil, or_false] at h2
          rcases h2 with rfl | rfl <;> kernel_rfl
        exact hall t hm⟩)
    (by kernel_rfl)
#print axioms card_proved
end Go.Proofs.YtdphijhebppeeaaDoor.segmentMakes
namespace Go.Proofs.YtdphijhebppeeaaDoor
theorem segmentMakes_holds : Rows.SegmentMakesCardSaid := segmentMakes.card_proved
end Go.Proofs.YtdphijhebppeeaaDoor
