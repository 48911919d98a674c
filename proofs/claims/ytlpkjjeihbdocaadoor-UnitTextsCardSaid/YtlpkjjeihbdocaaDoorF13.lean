/- Chapter 1: digits' number. -/
import Derived.Test.YtlpkjjeihbdocaaDoorF12
import Derived.Laws.RangeAny
namespace Go.Proofs.YtlpkjjeihbdocaaDoor.G
open Go.RowKit Go.Shelf Go.Proofs.YtlpkjjeihbdocaaDoorW.PrintWords Go.Proofs.YtlpkjjeihbdocaaDoorW.PrintLast Go.Proofs.YtlpkjjeihbdocaaDoorW.PrintMore

/-- Digits' number, from n on; none: a byte is none, or they are too many. -/
def wholeL : Nat → List UInt8 → Option Nat
  | n, [] => some n
  | n, c :: l => if 48 ≤ c.toNat ∧ c.toNat ≤ 57 ∧ n ≤ 1073741824 then wholeL (n * 10 + (c.toNat - 48)) l else none
def wholeR (o : Option Nat) : Ending := match o with
  | some n => .returned (.tuple #[.int .i64 n, .bool true])
  | none => .returned (.tuple #[.int .i64 0, .bool false])
theorem wholeR_none : wholeR none = .returned (.tuple #[.int .i64 0, .bool false]) := rfl
theorem wholeR_some (n : Nat) : wholeR (some n) = .returned (.tuple #[.int .i64 n, .bool true]) := rfl
theorem bstr_get (l : List UInt8) (k : Nat) (h : k < (bstr l).size) : (bstr l)[k]'h = l[k]'(by rw [bstr_size] at h; exact h) := by
  show (bstr l).data[k]'_ = _
  simp [bstr]
set_option maxRecDepth 100000 in
theorem whole_any (l : List UInt8) (w : World) : Calls Tryd.prog 37 #[.string (bstr l)] w fun e w' => e = wholeR (wholeL 0 l) ∧ Below w.heap.size w w' := by
  go_enter Tryd.func37, Tryd.ntmps37
  go_wp2
  go_loopw [4] (fun n w' => ∃ (k m : Nat), w' = w.iter (bstr l) k ∧ n = .int .i64 m ∧ k ≤ l.length ∧ m ≤ 10737418249 ∧ Aside0 (wholeL m (l.drop k) = wholeL 0 l)) (fun _ w' => l.length - w'.iterPos w.heap.size)
  case atStart => exact ⟨0, 0, rfl, rfl, by omega, by omega, ⟨rfl⟩⟩
  case round =>
    obtain ⟨k, m, rfl, rfl, hk, hm, HW⟩ := hrel
    have hbel : ∀ j, Below w.heap.size w (w.iter (bstr l) j) := fun j => (Below.refl _ _).alloc (Nat.le_refl _) _
    have HBEL := Aside0.mk hbel
    clear hbel
    by_cases hlt : k < l.length
    · have hp : k < (bstr l).size := by rw [bstr_size]; exact hlt
      have hd : l.drop k = l[k] :: l.drop (k + 1) := List.drop_eq_getElem_cons hlt
      have hb := bstr_get l k hp
      by_cases h1 : l[k].toNat < 128
      · have hnx : ∀ ty, (Instr.next (.pointer (some ⟨w.heap.size, 0, none⟩)) true ty).run Tryd.prog (w.iter (bstr l) k) = .ok (.tuple #[.bool true, .int .i64 k, .int .i32 l[k].toNat]) (w.iter (bstr l) (k + 1)) := fun ty => by
          have h := run_next_ascii (P := Tryd.prog) w (bstr l) k ty hp (by rw [hb]; exact h1)
          rw [hb] at h
          exact h
        have e := HW.out
        rw [hd, wholeL] at e
        obtain ⟨c, hc⟩ : ∃ c, l[k].toNat = c := ⟨_, rfl⟩
        rw [hc] at e hnx h1
        clear hd hb HW
        by_cases hok : 48 ≤ c ∧ c ≤ 57 ∧ m ≤ 1073741824
        · rw [if_pos hok] at e
          have E := Aside0.mk e
          obtain ⟨a1, a2, a3⟩ := hok
          have d1 : decide ((c : Int) < 48) = false := decide_eq_false (by omega)
          have d2 : decide (57 < (c : Int)) = false := decide_eq_false (by omega)
          have d3 : decide (1073741824 < (m : Int)) = false := decide_eq_false (by omega)
          clear e hc hp
          go_wp2
          go_roundw
          case rel => exact ⟨k + 1, m * 10 + (c - 48), rfl, by go_num, by omega, by omega, E⟩
          case measure => simp; omega
        · rw [if_neg hok] at e
          have E := Aside0.mk e
          clear e hc hp
          by_cases a1 : c < 48
          · have d1 : decide ((c : Int) < 48) = true := decide_eq_true (by omega)
            clear hok
            go_wp2
            go_ret2
            exact ⟨by rw [← E.out, wholeR_none]; rfl, HBEL.out _⟩
          · have d1 : decide ((c : Int) < 48) = false := decide_eq_false (by omega)
            by_cases a2 : 57 < c
            · have d2 : decide (57 < (c : Int)) = true := decide_eq_true (by omega)
              clear hok
              go_wp2
              go_ret2
              exact ⟨by rw [← E.out, wholeR_none]; rfl, HBEL.out _⟩
            · have d2 : decide (57 < (c : Int)) = false := decide_eq_false (by omega)
              have d3 : decide (1073741824 < (m : Int)) = true := decide_eq_true (by omega)
              clear hok
              go_wp2
              go_ret2
              exact ⟨by rw [← E.out, wholeR_none]; rfl, HBEL.out _⟩
      · have hdh := (decode_high (bstr l) k hp (by rw [hb]; omega)).1
        have hdl := decode_le (bstr l) k
        have hnx : ∀ ty, (Instr.next (.pointer (some ⟨w.heap.size, 0, none⟩)) true ty).run Tryd.prog (w.iter (bstr l) k) = _ := fun ty => run_next_any w (bstr l) k ty hp
        generalize (Utf8.decode (bstr l) k).1 = d at *
        generalize (Utf8.decode (bstr l) k).2 = wd at *
        have e := HW.out
        rw [hd, wholeL, if_neg (by omega)] at e
        have E := Aside0.mk e
        have d1 : decide ((d : Int) < 48) = false := decide_eq_false (by omega)
        have d2 : decide (57 < (d : Int)) = true := decide_eq_true (by omega)
        clear e HW hd hb h1 hp
        go_wp2
        go_ret2
        exact ⟨by rw [← E.out, wholeR_none]; rfl, HBEL.out _⟩
    · have hnx : ∀ ty, (Instr.next (.pointer (some ⟨w.heap.size, 0, none⟩)) true ty).run Tryd.prog (w.iter (bstr l) k) = _ := fun ty => run_next_end w (bstr l) k ty (by rw [bstr_size]; exact hlt)
      have e := HW.out
      rw [List.drop_eq_nil_of_le (by omega), wholeL] at e
      have E := Aside0.mk e
      clear e HW
      go_wp2
      go_ret2
      exact ⟨by rw [← E.out, wholeR_some]; rfl, HBEL.out _⟩
end Go.Proofs.YtlpkjjeihbdocaaDoor.G
