/- Chapter 16: the law's box. Written by tmpl.py out of F35.tl. -/
import Derived.Test.YtdphijhebppeeaaDoorF22
namespace Go.Proofs.YtdphijhebppeeaaDoor.G
open Go.RowKit Go.Shelf Go.Maps Go.Proofs.YtdphijhebppeeaaDoorW.PrintWords Go.Proofs.YtdphijhebppeeaaDoorW.PrintLast Go.Proofs.YtdphijhebppeeaaDoorW.PrintMore
attribute [local irreducible] cN
def gboxN (sp : Bool) : Node := ⟨0, 3, ⟨#[]⟩, 0, 9, ⟨0, 0, 0, 0, false, 0, 1, 1, false, 0, 0, sp, 0, false, 0, 0⟩⟩
def gboxS (sp : Bool) : Array Value := #[.int .i64 0, .int .i64 0, .int .i64 0, .int .i64 0, .bool false, .int .i64 0, .int .i64 1, .int .i64 1, .bool false, .int .i64 0, .int .i64 0, .bool sp, .int .i64 0, .bool false, .int .i64 0, .int .i64 0]
theorem built_gboxS (sp : Bool) : Tryd.prog.built 29 [(6, .int .i64 1), (7, .int .i64 1), (11, .bool sp)] = some (gboxS sp) := by
  show Tryd.prog.built 29 _ = some _
  kernel_rfl
theorem built_gboxN (sp : Bool) : Tryd.prog.built 31 [(0, .int .i64 0), (1, .int .i64 3), (4, .int .i64 9), (5, .agg (gboxS sp))] = some (cN (gboxN sp)) := by
  show Tryd.prog.built 31 _ = some _
  unfold cN gboxN
  kernel_rfl
attribute [local irreducible] gboxS
theorem gboxS_at {ops : Array Oper} {rest : List Oper} {o : Oper} {a : Act} {W : World} {Q : Exit → Act → World → Prop} (hgd : o.guard = none) (x : Operand) (ho : o.op = .build 29 #[(6, .const (.int .i64 1)), (7, .const (.int .i64 1)), (11, x)]) (sp : Bool) (hx : a.eval x = .bool sp)
    (h : wpList Tryd.prog ops Q rest (a.put o.dst (.agg (gboxS sp))) W) : wpList Tryd.prog ops Q (o :: rest) a W := by
  have hf : Tryd.prog.built 29 ((#[(6, .const (.int .i64 1)), (7, .const (.int .i64 1)), (11, x)] : Array (Nat × Operand)).map fun (i, x) => (i, a.eval x)).toList = some (gboxS sp) := by
    have he : ((#[(6, .const (.int .i64 1)), (7, .const (.int .i64 1)), (11, x)] : Array (Nat × Operand)).map fun (i, x) => (i, a.eval x)).toList = [(6, .int .i64 1), (7, .int .i64 1), (11, .bool sp)] := by
      have h1 : a.eval (.const (.int .i64 1)) = .int .i64 1 := rfl
      simp [h1, hx]
    rw [he]
    exact built_gboxS sp
  refine wpList_build hgd 29 _ ho (by rw [hf]; rfl) ?_
  rw [hf]
  exact h
theorem gboxN_at {ops : Array Oper} {rest : List Oper} {o : Oper} {a : Act} {W : World} {Q : Exit → Act → World → Prop} (hgd : o.guard = none) (z : Operand) (ho : o.op = .build 31 #[(0, .const (.int .i64 0)), (1, .const (.int .i64 3)), (4, .const (.int .i64 9)), (5, z)]) (sp : Bool) (hz : a.eval z = .agg (gboxS sp))
    (h : wpList Tryd.prog ops Q rest (a.put o.dst (.agg (cN (gboxN sp)))) W) : wpList Tryd.prog ops Q (o :: rest) a W := by
  have hf : Tryd.prog.built 31 ((#[(0, .const (.int .i64 0)), (1, .const (.int .i64 3)), (4, .const (.int .i64 9)), (5, z)] : Array (Nat × Operand)).map fun (i, x) => (i, a.eval x)).toList = some (cN (gboxN sp)) := by
    have he : ((#[(0, .const (.int .i64 0)), (1, .const (.int .i64 3)), (4, .const (.int .i64 9)), (5, z)] : Array (Nat × Operand)).map fun (i, x) => (i, a.eval x)).toList = [(0, .int .i64 0), (1, .int .i64 3), (4, .int .i64 9), (5, .agg (gboxS sp))] := by
      have h1 : ∀ n : Int, a.eval (.const (.int .i64 n)) = .int .i64 n := fun _ => rfl
      simp [h1, hz]
    rw [he]
    exact built_gboxN sp
  refine wpList_build hgd 31 _ ho (by rw [hf]; rfl) ?_
  rw [hf]
  exact h
def gutterlaw16_box.f (a0 : Bool) : Option (Int × Int × ByteArray × Int × Int × Int × Int × Int × Int × Bool × Int × Int × Int × Bool × Int × Int × Bool × Int × Bool × Int × Int) := some (0, 3, (⟨#[]⟩ : ByteArray), 0, 9, 0, 0, 0, 0, false, 0, 1, 1, false, 0, 0, a0, 0, false, 0, 0)
set_option maxRecDepth 100000 in
theorem gbox_any (sp : Bool) (w : World) : Calls Tryd.prog 27 #[.bool sp] w fun e w' => e = .returned (.agg (cN (gboxN sp))) ∧ Below w.heap.size w w' := by
  have hB := below_alloc (Below.refl w.heap.size w) (.cells (cN (gboxN sp)) 31)
  have hz := cN_size (gboxN sp)
  have ho := (cN_is (gboxN sp)).one
  go_enter Tryd.func27, Tryd.ntmps27
  go_wp2_with (first | (refine gboxS_at rfl _ rfl sp rfl ?_) | (refine gboxN_at rfl _ rfl sp rfl ?_) | (refine storeN_at rfl _ _ rfl (cN (gboxN sp)) _ rfl rfl hz ho (by rfl) ?_))
  try simp only [Exit.inBlock, Exit.then]
  refine ret_node rfl rfl (blk_new ..) hz rfl ?_
  exact ⟨rfl, hB⟩
theorem gutterlaw16_box.calls (a0 : Bool) (r1 : Int) (r2 : Int) (r3 : ByteArray) (r4 : Int) (r5 : Int) (r6 : Int) (r7 : Int) (r8 : Int) (r9 : Int) (r10 : Bool) (r11 : Int) (r12 : Int) (r13 : Int) (r14 : Bool) (r15 : Int) (r16 : Int) (r17 : Bool) (r18 : Int) (r19 : Bool) (r20 : Int) (r21 : Int) (w : World) (h : gutterlaw16_box.f a0 = some (r1, r2, r3, r4, r5, r6, r7, r8, r9, r10, r11, r12, r13, r14, r15, r16, r17, r18, r19, r20, r21)) :
    Calls Tryd.prog 27 #[.bool a0] w fun e w' => e = .returned (.agg #[.int .i64 r1, .int .i64 r2, .string r3, .int .i64 r4, .int .i64 r5, .int .i64 r6, .int .i64 r7, .int .i64 r8, .int .i64 r9, .bool r10, .int .i64 r11, .int .i64 r12, .int .i64 r13, .bool r14, .int .i64 r15, .int .i64 r16, .bool r17, .int .i64 r18, .bool r19, .int .i64 r20, .int .i64 r21]) ∧ Below w.heap.size w w' := by
  unfold gutterlaw16_box.f at h
  simp only [Option.some.injEq, Prod.mk.injEq] at h
  obtain ⟨rfl, rfl, rfl, rfl, rfl, rfl, rfl, rfl, rfl, rfl, rfl, rfl, rfl, rfl, rfl, rfl, rfl, rfl, rfl, rfl, rfl⟩ := h
  exact (gbox_any a0 w).mono fun e w' hq => ⟨hq.1.trans (by unfold cN; rfl), hq.2⟩
end Go.Proofs.YtdphijhebppeeaaDoor.G
