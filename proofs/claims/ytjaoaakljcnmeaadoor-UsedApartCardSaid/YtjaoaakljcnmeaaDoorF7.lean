/- Chapter 6: the columns of any measure; Used, told. Written by mkF7.py. -/
import Derived.Test.YtjaoaakljcnmeaaDoorF6
namespace Go.Proofs.YtjaoaakljcnmeaaDoor.G
open Go.RowKit Go.Maps Go.Proofs.YtjaoaakljcnmeaaDoorW.PrintWords Go.Proofs.YtjaoaakljcnmeaaDoorW.PrintLast Go.Proofs.YtjaoaakljcnmeaaDoorW.PrintMore

def stV (s0 : Int) (s1 : Int) (s2 : Int) (s3 : Int) (s4 : Bool) (s5 : Int) (s6 : Int) (s7 : Int) (s8 : Bool) (s9 : Int) (s10 : Int) (s11 : Bool) (s12 : Int) (s13 : Bool) (s14 : Int) (s15 : Int) : Array Value := #[.int .i64 s0, .int .i64 s1, .int .i64 s2, .int .i64 s3, .bool s4, .int .i64 s5, .int .i64 s6, .int .i64 s7, .bool s8, .int .i64 s9, .int .i64 s10, .bool s11, .int .i64 s12, .bool s13, .int .i64 s14, .int .i64 s15]
def msV (s0 : Int) (s1 : Int) (s2 : Int) (s3 : Int) (s4 : Bool) (s5 : Int) (s6 : Int) (s7 : Int) (s8 : Bool) (s9 : Int) (s10 : Int) (s11 : Bool) (s12 : Int) (s13 : Bool) (s14 : Int) (s15 : Int) (av : Int) : Array Value := #[.int .i64 s0, .int .i64 s1, .int .i64 s2, .int .i64 s3, .bool s4, .int .i64 s5, .int .i64 s6, .int .i64 s7, .bool s8, .int .i64 s9, .int .i64 s10, .bool s11, .int .i64 s12, .bool s13, .int .i64 s14, .int .i64 s15, .int .i64 av]
/-- How many, how wide, or why not. -/
def usedZ (s0 : Int) (s1 : Int) (s2 : Int) (s3 : Int) (s4 : Bool) (s5 : Int) (s6 : Int) (s7 : Int) (s8 : Bool) (s9 : Int) (s10 : Int) (s11 : Bool) (s12 : Int) (s13 : Bool) (s14 : Int) (s15 : Int) (av : Int) : Int × Int × Int :=
  if (rightB s0 s1 s2 s3 s4 s5 s6 s7 s8 s9 s10 s11 s12 s13 s14 s15 && multiB s0 s1) = true then if sizB av = true then (manyZ s0 s1 s2 av, wideZ (manyZ s0 s1 s2 av) s2 av, 0) else (0, 0, 60) else (0, 0, 40)
def errV (e : Int) : Value := if e = 0 then .nilIface else .iface 54 (.agg #[.int .i64 e])
theorem told_v (e : Int) (w : World) (hG : GOK w) : Calls Tryd.prog 22 #[errV e] w fun x w' => x = .returned (.int .i64 e) ∧ Below w.heap.size w w' := by
  unfold errV
  split
  · rename_i h; subst h; exact told_nil w
  · exact told_wrong e w hG
theorem many_in {s0 s1 s2 av : Int} (h0 : 0 ≤ s0 ∧ s0 ≤ 50) (hm : multiB s0 s1 = true) : 1 ≤ manyZ s0 s1 s2 av ∧ manyZ s0 s1 s2 av ≤ 50 := by
  unfold manyZ fitZ
  simp only [multiB, Bool.or_eq_true, decide_eq_true_eq] at hm
  generalize (av + s2) / (s1 + s2) = q
  split
  · omega
  · split <;> omega
theorem right_in {s0 s1 s2 s3 s5 s6 s7 s9 s10 s12 s14 s15 : Int} {s4 s8 s11 s13 : Bool} (h : rightB s0 s1 s2 s3 s4 s5 s6 s7 s8 s9 s10 s11 s12 s13 s14 s15 = true) : (0 ≤ s0 ∧ s0 ≤ 50) ∧ sizB s1 = true ∧ sizB s2 = true := by
  simp only [rightB, List.all_cons, List.all_nil, Bool.and_true, Bool.and_eq_true, inB, decide_eq_true_eq] at h
  refine ⟨?_, ?_, ?_⟩
  · omega
  · rw [sizB_iff]; omega
  · rw [sizB_iff]; omega
theorem types_succ : ∃ n, Tryd.prog.types.size + 1 = n + 3 := ⟨Tryd.prog.types.size - 2, by have h : 47 < Tryd.prog.types.size := row47; generalize Tryd.prog.types.size = m at *; omega⟩
theorem cellsAt47 : Tryd.prog.cellsOf 47 = 17 := by kernel_rfl
theorem cellsAt23 : Tryd.prog.cellsOf 23 = 16 := by kernel_rfl
theorem cellsAt2 : Tryd.prog.cellsOf 2 = 1 := by kernel_rfl
theorem cellsAt3 : Tryd.prog.cellsOf 3 = 1 := by kernel_rfl
theorem cellsAt4 : Tryd.prog.cellsOf 4 = 1 := by kernel_rfl
theorem keyT47 : Tryd.prog.keyType 47 = true := by kernel_rfl
def wfB (x : Int) : Bool := (Lit.int .i64 x).wf
theorem lit2 (n : Nat) (x : Int) (h : wfB x = true) : Tryd.prog.keyLits (n + 1) 2 [.int .i64 x] = some [.int .i64 x] := by
  have h' : (Lit.int .i64 x).wf = true := h
  simp [Program.keyLits, Tryd.underlying2, h']
theorem lit3 (n : Nat) (x : Int) (h : wfB x = true) : Tryd.prog.keyLits (n + 1) 3 [.int .i64 x] = some [.int .i64 x] := by
  have h' : (Lit.int .i64 x).wf = true := h
  simp [Program.keyLits, Tryd.underlying3, h']
theorem lit4 (n : Nat) (x : Bool) : Tryd.prog.keyLits (n + 1) 4 [.bool x] = some [.bool x] := by simp [Program.keyLits, Tryd.underlying4]
theorem lits23 (n : Nat) (s0 : Int) (s1 : Int) (s2 : Int) (s3 : Int) (s4 : Bool) (s5 : Int) (s6 : Int) (s7 : Int) (s8 : Bool) (s9 : Int) (s10 : Int) (s11 : Bool) (s12 : Int) (s13 : Bool) (s14 : Int) (s15 : Int) (hw : [s0, s1, s2, s3, s5, s6, s7, s9, s10, s12, s14, s15].all wfB = true) : ∃ l, Tryd.prog.keyLits (n + 2) 23 [.int .i64 s0, .int .i64 s1, .int .i64 s2, .int .i64 s3, .bool s4, .int .i64 s5, .int .i64 s6, .int .i64 s7, .bool s8, .int .i64 s9, .int .i64 s10, .bool s11, .int .i64 s12, .bool s13, .int .i64 s14, .int .i64 s15] = some l := by
  simp only [List.all_cons, List.all_nil, Bool.and_true, Bool.and_eq_true] at hw
  obtain ⟨h0, h1, h2, h3, h5, h6, h7, h9, h10, h12, h14, h15⟩ := hw
  unfold Program.keyLits
  rw [Tryd.underlying23]
  simp [cellsAt23, cellsAt2, cellsAt3, cellsAt4, lit2, lit3, lit4, h0, h1, h2, h3, h5, h6, h7, h9, h10, h12, h14, h15]
theorem key47 (s0 : Int) (s1 : Int) (s2 : Int) (s3 : Int) (s4 : Bool) (s5 : Int) (s6 : Int) (s7 : Int) (s8 : Bool) (s9 : Int) (s10 : Int) (s11 : Bool) (s12 : Int) (s13 : Bool) (s14 : Int) (s15 : Int) (av : Int) (hw : [s0, s1, s2, s3, s5, s6, s7, s9, s10, s12, s14, s15].all wfB = true) (ha : wfB av = true) : ∃ l, keyOf Tryd.prog 47 (.agg (msV s0 s1 s2 s3 s4 s5 s6 s7 s8 s9 s10 s11 s12 s13 s14 s15 av)) = some l := by
  unfold keyOf
  rw [Tryd.underlying47]
  have hf : (Value.agg (msV s0 s1 s2 s3 s4 s5 s6 s7 s8 s9 s10 s11 s12 s13 s14 s15 av)).formed Tryd.prog 47 = true := by simp [Value.formed, Tryd.underlying47, cellsAt47, msV]
  simp only [keyT47, hf, Bool.and_self, if_true]
  obtain ⟨n, hn⟩ := types_succ
  rw [hn]
  obtain ⟨l, hl⟩ := lits23 n s0 s1 s2 s3 s4 s5 s6 s7 s8 s9 s10 s11 s12 s13 s14 s15 hw
  unfold Program.keyLits
  rw [Tryd.underlying47]
  simp [cellsAt47, cellsAt23, cellsAt2, msV, Value.cells, hl, lit2, ha]
theorem wf_in {x lo hi : Int} (h : lo ≤ x ∧ x ≤ hi) (hl : -9223372036854775808 ≤ lo := by omega) (hh : hi ≤ 9223372036854775807 := by omega) : wfB x = true := by
  show (decide (-9223372036854775808 ≤ x) && decide (x ≤ 9223372036854775807)) = true
  simp; omega
theorem right_wf {s0 s1 s2 s3 s5 s6 s7 s9 s10 s12 s14 s15 : Int} {s4 s8 s11 s13 : Bool} (h : rightB s0 s1 s2 s3 s4 s5 s6 s7 s8 s9 s10 s11 s12 s13 s14 s15 = true) : [s0, s1, s2, s3, s5, s6, s7, s9, s10, s12, s14, s15].all wfB = true := by
  simp only [rightB, List.all_cons, List.all_nil, Bool.and_true, Bool.and_eq_true, inB, decide_eq_true_eq] at h
  simp only [List.all_cons, List.all_nil, Bool.and_true, Bool.and_eq_true]
  exact ⟨wf_in (lo := -1048576) (hi := 1048576) (by omega), wf_in (lo := -1048576) (hi := 1048576) (by omega), wf_in (lo := -1048576) (hi := 1048576) (by omega), wf_in (lo := -1048576) (hi := 1048576) (by omega), wf_in (lo := -1048576) (hi := 1048576) (by omega), wf_in (lo := -1048576) (hi := 1048576) (by omega), wf_in (lo := -1048576) (hi := 1048576) (by omega), wf_in (lo := -1048576) (hi := 1048576) (by omega), wf_in (lo := -1048576) (hi := 1048576) (by omega), wf_in (lo := -1048576) (hi := 1048576) (by omega), wf_in (lo := -1048576) (hi := 1048576) (by omega), wf_in (lo := -1048576) (hi := 1048576) (by omega)⟩
theorem used_all (s0 : Int) (s1 : Int) (s2 : Int) (s3 : Int) (s4 : Bool) (s5 : Int) (s6 : Int) (s7 : Int) (s8 : Bool) (s9 : Int) (s10 : Int) (s11 : Bool) (s12 : Int) (s13 : Bool) (s14 : Int) (s15 : Int) (av : Int) (w : World) (hG : GOK w) :
    Calls Tryd.prog 21 #[.agg (msV s0 s1 s2 s3 s4 s5 s6 s7 s8 s9 s10 s11 s12 s13 s14 s15 av)] w fun e w' => e = .returned (.tuple #[.agg #[.int .i64 (usedZ s0 s1 s2 s3 s4 s5 s6 s7 s8 s9 s10 s11 s12 s13 s14 s15 av).1, .int .i64 (usedZ s0 s1 s2 s3 s4 s5 s6 s7 s8 s9 s10 s11 s12 s13 s14 s15 av).2.1], errV (usedZ s0 s1 s2 s3 s4 s5 s6 s7 s8 s9 s10 s11 s12 s13 s14 s15 av).2.2]) ∧ Below w.heap.size w w' := by
  have hM : (msV s0 s1 s2 s3 s4 s5 s6 s7 s8 s9 s10 s11 s12 s13 s14 s15 av).size = 17 := rfl
  have hS : (msV s0 s1 s2 s3 s4 s5 s6 s7 s8 s9 s10 s11 s12 s13 s14 s15 av).extract 0 16 = stV s0 s1 s2 s3 s4 s5 s6 s7 s8 s9 s10 s11 s12 s13 s14 s15 := rfl
  have hR := fun w' => sright_any s0 s1 s2 s3 s4 s5 s6 s7 s8 s9 s10 s11 s12 s13 s14 s15 w'
  have hQ := fun w' => multi_any s0 s1 s2 s3 s4 s5 s6 s7 s8 s9 s10 s11 s12 s13 s14 s15 w'
  have hav : (msV s0 s1 s2 s3 s4 s5 s6 s7 s8 s9 s10 s11 s12 s13 s14 s15 av)[16]? = some (.int .i64 av) := rfl
  have hgap : (msV s0 s1 s2 s3 s4 s5 s6 s7 s8 s9 s10 s11 s12 s13 s14 s15 av)[2]? = some (.int .i64 s2) := rfl
  unfold usedZ
  cases hr : rightB s0 s1 s2 s3 s4 s5 s6 s7 s8 s9 s10 s11 s12 s13 s14 s15
  · rw [hr] at hR
    exact used_wrong _ _ w hM hS hR
  · rw [hr] at hR
    cases hq : multiB s0 s1
    · rw [hq] at hQ
      exact used_plain _ _ w hM hS hR hQ
    · rw [hq] at hQ
      simp only [Bool.and_self, if_true]
      cases hz : sizB av
      · exact used_wide _ _ av w hM hS hR hQ hav hz
      · simp only [if_true]
        obtain ⟨i0, i1, i2⟩ := right_in hr
        obtain ⟨kl, hk⟩ := key47 s0 s1 s2 s3 s4 s5 s6 s7 s8 s9 s10 s11 s12 s13 s14 s15 av (right_wf hr) (wf_in ((sizB_iff av).1 hz))
        have hm := many_in (av := av) (s2 := s2) i0 hq
        exact used_ok _ _ av s2 (manyZ s0 s1 s2 av) kl w hM hS hR hQ hav hgap hz (fun w' hG' => many_any s0 s1 s2 s3 s4 s5 s6 s7 s8 s9 s10 s11 s12 s13 s14 s15 av w' hz i1 i2 hG') hk (by omega) i2 hG
end Go.Proofs.YtjaoaakljcnmeaaDoor.G
