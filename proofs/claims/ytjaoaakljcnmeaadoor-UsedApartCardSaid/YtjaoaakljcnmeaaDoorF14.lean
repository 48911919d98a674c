/- Chapter 6: the laws' head, by hand. Written by mkF14.py. -/
import Derived.Test.YtjaoaakljcnmeaaDoorF13
namespace Go.Proofs.YtjaoaakljcnmeaaDoor.G
open Go.RowKit Go.Maps Go.Proofs.YtjaoaakljcnmeaaDoorW.PrintWords Go.Proofs.YtjaoaakljcnmeaaDoorW.PrintLast Go.Proofs.YtjaoaakljcnmeaaDoorW.PrintMore

set_option maxRecDepth 100000 in
theorem head1 (w : World) (hG : GOK w) : Calls Tryd.prog 11 #[.int .i64 100, .agg (stV 0 30 5 0 false 0 1 1 false 0 0 false 0 false 0 0)] w fun e w' => e = .returned (.tuple #[.int .i64 3, .int .i64 30, .int .i64 0]) ∧ Below w.heap.size w w' :=
  used_Used.calls 100 0 30 5 0 false 0 1 1 false 0 0 false 0 false 0 0 3 30 0 w (by kernel_rfl) hG
set_option maxRecDepth 100000 in
theorem head2 (w : World) (hG : GOK w) : Calls Tryd.prog 12 #[.int .i64 100, .agg (stV 0 30 5 0 false 0 1 1 false 0 0 false 0 false 0 0), .int .i64 2] w fun e w' => e = .returned (.tuple #[.int .i64 70, .int .i64 0]) ∧ Below w.heap.size w w' :=
  used_Left.calls 100 0 30 5 0 false 0 1 1 false 0 0 false 0 false 0 0 2 70 0 w (by kernel_rfl) hG
set_option maxRecDepth 100000 in
theorem head3 (w : World) (hG : GOK w) : Calls Tryd.prog 13 #[.int .i64 100, .agg (stV 0 30 5 0 false 0 1 1 false 0 0 false 0 false 0 0), .int .i64 70] w fun e w' => e = .returned (.tuple #[.int .i64 2, .bool true, .int .i64 0]) ∧ Below w.heap.size w w' :=
  used_At.calls 100 0 30 5 0 false 0 1 1 false 0 0 false 0 false 0 0 70 2 true 0 w (by kernel_rfl) hG
set_option maxRecDepth 100000 in
theorem head4 (w : World) (hG : GOK w) : Calls Tryd.prog 11 #[.int .i64 100, .agg (stV 0 0 0 0 false 0 1 1 false 0 0 false 0 false 0 0)] w fun e w' => e = .returned (.tuple #[.int .i64 0, .int .i64 0, .int .i64 40]) ∧ Below w.heap.size w w' :=
  used_Used.calls 100 0 0 0 0 false 0 1 1 false 0 0 false 0 false 0 0 0 0 40 w (by kernel_rfl) hG
def gutterlaw06_shown.f : Option Bool := some true
set_option maxRecDepth 1000000 in
set_option maxHeartbeats 4000000 in
theorem gutterlaw06_shown.calls (r : Bool) (w : World) (h : gutterlaw06_shown.f = some r) (hG : GOK w) : Calls Tryd.prog 10 #[] w fun e w' => e = .returned (.bool r) ∧ Below w.heap.size w w' := by
  obtain rfl := Option.some.inj h
  have b0 := Aside0.mk (blk_new w (.cells (stV 0 30 5 0 false 0 1 1 false 0 0 false 0 false 0 0) 23))
  have B0 := Aside0.mk (below_alloc (Below.refl w.heap.size w) (.cells (stV 0 30 5 0 false 0 1 1 false 0 0 false 0 false 0 0) 23))
  have HG := Aside0.mk hG
  clear hG h
  go_enter Tryd.func10, Tryd.ntmps10
  go_wp2_with (first
    | (refine load23w_at rfl _ rfl w.heap.size rfl (stV 0 30 5 0 false 0 1 1 false 0 0 false 0 false 0 0) rfl (by first | exact b3.out | exact b2.out | exact b1.out | exact b0.out) ?_)
    | (go_at_call 12; refine (head2 _ (HG.out.below B1.out)).mono ?_; rintro e w2 ⟨rfl, hb⟩; have b2 := Aside0.mk (blk_below b1.out hb); have B2 := Aside0.mk (below_then B1.out B1.out.size hb); clear hb b1)
    | (go_at_call 13; refine (head3 _ (HG.out.below B2.out)).mono ?_; rintro e w3 ⟨rfl, hb⟩; have b3 := Aside0.mk (blk_below b2.out hb); have B3 := Aside0.mk (below_then B2.out B2.out.size hb); clear hb b2)
    | (go_at_call 11; refine (head4 _ (HG.out.below B3.out)).mono ?_; rintro e w4 ⟨rfl, hb⟩; have B4 := Aside0.mk (below_then B3.out B3.out.size hb); clear hb)
    | (go_at_call 11; refine (head1 _ (HG.out.below B0.out)).mono ?_; rintro e w1 ⟨rfl, hb⟩; have b1 := Aside0.mk (blk_below b0.out hb); have B1 := Aside0.mk (below_then B0.out B0.out.size hb); clear hb b0))
  go_ret
  exact ⟨rfl, B4.out⟩
end Go.Proofs.YtjaoaakljcnmeaaDoor.G
