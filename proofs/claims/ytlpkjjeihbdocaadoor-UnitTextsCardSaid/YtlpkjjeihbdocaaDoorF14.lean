/- Chapter 1: a text's head and tail. -/
import Derived.Test.YtlpkjjeihbdocaaDoorF13
import Derived.Lib.Bytealg
import Derived.Lib.Walk
import Derived.Lib.Strings
import Derived.Lib.Slices
import Derived.Laws.Strings3
namespace Go.Proofs.YtlpkjjeihbdocaaDoor.G
open Go.RowKit Go.Shelf Go.Proofs.YtlpkjjeihbdocaaDoorW.PrintWords Go.Proofs.YtlpkjjeihbdocaaDoorW.PrintLast Go.Proofs.YtlpkjjeihbdocaaDoorW.PrintMore

theorem indexByte_any (s : ByteArray) (c : Int) (w : World) :
    Calls Tryd.prog 52 #[.string s, .int .u8 c] w fun e w' => e = .returned (.int .i64 (Lib.indexByte s.data.toList c.toNat.toUInt8)) ∧ w = w' := by
  go_enter Tryd.func52, Tryd.ntmps52
  go_wp2
  rw [run_callFunc_extern Tryd.func56 (by kernel_rfl) (by kernel_rfl) (by kernel_rfl) (e := Extern.BytealgIndexByte.indexByte) (by kernel_rfl), Lib.run_indexByteString]
  simp only [Result.andThen]
  rw [Oper.upon_value]
  go_wp2
  go_ret
  exact ⟨rfl, rfl⟩
set_option maxRecDepth 100000 in
theorem index_one (s : ByteArray) (c : UInt8) (w : World) :
    Calls Tryd.prog 51 #[.string s, .string ⟨#[c]⟩] w fun e w' => e = .returned (.int .i64 (Lib.indexByte s.data.toList c)) ∧ w = w' := by
  go_enter Tryd.func51, Tryd.ntmps51
  go_wp2_with (go_at_call 52; refine (indexByte_any _ _ _).mono ?_; rintro e w' ⟨rfl, rfl⟩)
  · have h : ([c] == s.toList) = true := by assumption
    go_ret
    refine ⟨?_, rfl⟩
    have e : s.data.toList = [c] := by rw [← Lib.toList_data]; exact (beq_iff_eq.1 h).symm
    rw [e]
    simp [Lib.indexByte]
  · go_ret
    exact ⟨rfl, rfl⟩
theorem hasPrefix_one (s : ByteArray) (c : UInt8) (w : World) :
    Calls Tryd.prog 50 #[.string s, .string ⟨#[c]⟩] w fun e w' => e = .returned (.bool (Lib.hasPrefix s.data.toList [c])) ∧ w = w' := by
  have e1 : (s.extract 0 1).toList = s.data.toList.take 1 := by rw [Lib.toList_data]; simp
  have e2 : s.size = s.data.toList.length := Lib.size_eq s
  have E1 := Aside0.mk e1
  have E2 := Aside0.mk e2
  clear e1 e2
  go_enter Tryd.func50, Tryd.ntmps50
  go_wp2
  · go_ret
    refine ⟨?_, rfl⟩
    rw [E1.out]
    have h : 1 ≤ s.data.toList.length := by rw [← E2.out]; omega
    cases hl : s.data.toList with
    | nil => rw [hl] at h; simp at h
    | cons a l => simp [Lib.hasPrefix, List.isPrefixOf, Bool.beq_comm]
  · have h : (s.size : Int) < 1 := by assumption
    go_ret
    refine ⟨?_, rfl⟩
    have h' : s.data.toList.length = 0 := by rw [← E2.out]; omega
    rw [List.length_eq_zero_iff.1 h']
    rfl
/-- A text without the dash ahead, and whether there was one. -/
def dashL : List UInt8 → List UInt8 × Bool
  | [] => ([], false)
  | c :: l => if c = 45 then (l, true) else (c :: l, false)
theorem dash_prefix (l : List UInt8) : Lib.hasPrefix l [45] = (dashL l).2 := by
  cases l with
  | nil => rfl
  | cons c l => unfold dashL; by_cases h : c = 45 <;> simp [Lib.hasPrefix, List.isPrefixOf, h]; exact fun h2 => h h2.symm
theorem bstr_list (l : List UInt8) : (bstr l).data.toList = l := by simp [bstr]
theorem cutPrefix45_any (l : List UInt8) (w : World) :
    Calls Tryd.prog 45 #[.string (bstr l), .string ⟨#[45]⟩] w fun e w' => e = .returned (.tuple #[.string (bstr (dashL l).1), .bool (dashL l).2]) ∧ w = w' := by
  have HD := Aside0.mk (dash_prefix l)
  have HL := Aside0.mk (bstr_list l)
  cases hd : (dashL l).2 with
  | true =>
    have HC := Aside0.mk hd
    obtain ⟨m, hm⟩ : ∃ m, l = 45 :: m := by
      cases l with
      | nil => simp [dashL] at hd
      | cons c m =>
        by_cases h : c = 45
        · exact ⟨m, by rw [h]⟩
        · simp [dashL, h] at hd
    have e1 : (dashL l).1 = m := by rw [hm]; simp [dashL]
    have e2 : (1 : Int) ≤ (bstr l).size := by rw [bstr_size, hm]; simp; omega
    have e3 : (bstr l).extract 1 (bstr l).size = bstr m := by
      rw [hm]
      apply ByteArray.ext
      simp [bstr, ByteArray.size]
    rw [e1]
    clear hd hm e1
    go_enter Tryd.func45, Tryd.ntmps45
    go_wp2_with (go_at_call 50; refine (hasPrefix_one _ _ _).mono ?_; rintro e w' ⟨rfl, rfl⟩; rw [HL.out, HD.out, HC.out])
    go_ret2
    exact ⟨rfl, rfl⟩
  | false =>
    have HC := Aside0.mk hd
    have e1 : (dashL l).1 = l := by
      cases l with
      | nil => rfl
      | cons c m =>
        by_cases h : c = 45
        · simp [dashL, h] at hd
        · simp [dashL, h]
    rw [e1]
    clear hd e1
    go_enter Tryd.func45, Tryd.ntmps45
    go_wp2_with (go_at_call 50; refine (hasPrefix_one _ _ _).mono ?_; rintro e w' ⟨rfl, rfl⟩; rw [HL.out, HD.out, HC.out])
    go_ret2
    exact ⟨rfl, rfl⟩
theorem cutPrefix_any (l : List UInt8) (w : World) :
    Calls Tryd.prog 35 #[.string (bstr l), .string ⟨#[45]⟩] w fun e w' => e = .returned (.tuple #[.string (bstr (dashL l).1), .bool (dashL l).2]) ∧ w = w' := by
  go_enter Tryd.func35, Tryd.ntmps35
  go_wp2_with (go_at_call 45; refine (cutPrefix45_any _ _).mono ?_; rintro e w' ⟨rfl, rfl⟩)
  go_ret2
  exact ⟨rfl, rfl⟩
/-- A text's head and tail, about the first point. -/
def cutL : List UInt8 → List UInt8 × List UInt8
  | [] => ([], [])
  | c :: l => if c = 46 then ([], l) else (c :: (cutL l).1, (cutL l).2)
theorem cut_none (l : List UInt8) (h : Lib.indexByte l 46 < 0) : cutL l = (l, []) := by
  induction l with
  | nil => rfl
  | cons c l ih =>
    unfold Lib.indexByte at h
    by_cases hc : c = 46
    · simp [hc] at h
    · have hg := Lib.indexByte_ge l 46
      simp only [beq_iff_eq, hc, if_false] at h
      rw [cutL, if_neg hc, ih (by split at h <;> omega)]
theorem cut_some (l : List UInt8) (i : Nat) (h : Lib.indexByte l 46 = i) : cutL l = (l.take i, l.drop (i + 1)) ∧ i < l.length := by
  induction l generalizing i with
  | nil => simp [Lib.indexByte] at h
  | cons c l ih =>
    unfold Lib.indexByte at h
    by_cases hc : c = 46
    · obtain rfl : i = 0 := by simp [hc] at h; omega
      simp [cutL, hc]
    · have hg := Lib.indexByte_ge l 46
      simp only [beq_iff_eq, hc, if_false] at h
      obtain ⟨j, rfl⟩ : ∃ j, i = j + 1 := ⟨i - 1, by split at h <;> omega⟩
      obtain ⟨e1, e2⟩ := ih j (by split at h <;> omega)
      rw [cutL, if_neg hc, e1]
      simp; omega
theorem bstr_take (l : List UInt8) (i : Nat) : (bstr l).extract 0 i = bstr (l.take i) := by
  apply ByteArray.ext; simp [bstr]
theorem bstr_drop (l : List UInt8) (i : Nat) : (bstr l).extract i (bstr l).size = bstr (l.drop i) := by
  apply ByteArray.ext; simp [bstr, ByteArray.size]
  rw [List.take_of_length_le (by simp)]
set_option maxRecDepth 100000 in
theorem cut46_any (l : List UInt8) (w : World) (hl : l.length ≤ 1000) :
    Calls Tryd.prog 46 #[.string (bstr l), .string ⟨#[46]⟩] w fun e w' => (∃ b, e = .returned (.tuple #[.string (bstr (cutL l).1), .string (bstr (cutL l).2), .bool b])) ∧ Below w.heap.size w w' := by
  have HL := Aside0.mk (bstr_list l)
  by_cases h : Lib.indexByte l 46 < 0
  · have hc := cut_none l h
    rw [hc]
    have hi : Lib.indexByte l 46 = -1 := by have := Lib.indexByte_ge l 46; omega
    have HI := Aside0.mk hi
    clear h hc hi
    go_enter Tryd.func46, Tryd.ntmps46
    go_wp2_with (go_at_call 51; refine (index_one _ _ _).mono ?_; rintro e w' ⟨rfl, rfl⟩; rw [HL.out, HI.out])
    go_ret3
    exact ⟨⟨_, rfl⟩, Below.refl _ _⟩
  · obtain ⟨i, hi⟩ : ∃ i : Nat, Lib.indexByte l 46 = i := ⟨(Lib.indexByte l 46).toNat, by omega⟩
    obtain ⟨hc, hlt⟩ := cut_some l i hi
    rw [hc]
    have HI := Aside0.mk hi
    have hs := bstr_size l
    have c1 : (0 : Int) ≤ i := by omega
    have c0 : (0 : Int) ≤ i + 1 := by omega
    have c2 : (i : Int) ≤ (bstr l).size := by omega
    have c3 : (i : Int) + 1 ≤ (bstr l).size := by omega
    have w1 : IntKind.i64.wrap ((i : Int) + 1) = (i : Int) + 1 := IntWalk.i64_in _ (by omega)
    have w2 : ((i : Int) + 1).toNat = i + 1 := by omega
    have e1 := bstr_take l i
    have e2 := bstr_drop l (i + 1)
    clear h hc hi hs
    go_enter Tryd.func46, Tryd.ntmps46
    go_wp2_with (go_at_call 51; refine (index_one _ _ _).mono ?_; rintro e w' ⟨rfl, rfl⟩; rw [HL.out, HI.out])
    go_region
    all_goals go_wp2
    all_goals go_ret3
    all_goals exact ⟨⟨_, rfl⟩, below_drew1 (Below.refl _ _)⟩
theorem cut_any (l : List UInt8) (w : World) (hl : l.length ≤ 1000) :
    Calls Tryd.prog 36 #[.string (bstr l), .string ⟨#[46]⟩] w fun e w' => (∃ b, e = .returned (.tuple #[.string (bstr (cutL l).1), .string (bstr (cutL l).2), .bool b])) ∧ Below w.heap.size w w' := by
  have H := Aside0.mk (fun w' => cut46_any l w' hl)
  clear hl
  go_enter Tryd.func36, Tryd.ntmps36
  go_wp2_with (go_at_call 46; refine (H.out _).mono ?_; rintro e w' ⟨⟨b, rfl⟩, hb⟩)
  go_ret3
  exact ⟨⟨_, rfl⟩, hb⟩
end Go.Proofs.YtlpkjjeihbdocaaDoor.G
