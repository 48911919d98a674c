/- The contracts of chapter 9's functions that are walked by hand. -/
import Derived.Test.YtfamkadpncbmlaaDoorG0
import Derived.Test.YtfamkadpncbmlaaDoorChecked
import Derived.LaidEql
import Derived.Stop.Asserts
import Derived.RowKitTokens
import Derived.WalkSpells
import Derived.Lib.Hide
namespace Go.Proofs.YtfamkadpncbmlaaDoor.G
open Go.RowKit Go.Proofs.YtfamkadpncbmlaaDoorW.PrintWords Go.Proofs.YtfamkadpncbmlaaDoorW.PrintLast Go.Proofs.YtfamkadpncbmlaaDoorW.PrintMore
open Go.Extern.Stop Go.Stop Go.Extern

/-- What the world must bear: the sentinel in the package's variable. -/
def GOK (w : World) : Prop := ∃ a : Addr, w.cell? ⟨0, 0, none⟩ = some (.iface 79 (.pointer (some a)))
theorem GOK.below {w w1 : World} (h : GOK w) (hb : Below w.heap.size w w1) : GOK w1 := by
  obtain ⟨a, h⟩ := h
  exact ⟨a, pw_cell_below hb h⟩

theorem isTypeOf (v : Value) (w : World) : (callFunc 40 #[.iface 79 v]).run Tryd.prog w = .ok (.value (.iface 69 (.agg #[.pointer (some ⟨1, 79, none⟩)]))) w := by kernel_rfl
theorem isComparable (w : World) : (callFunc 60 #[.agg #[.pointer (some ⟨1, 79, none⟩)]]).run Tryd.prog w = .ok (.value (.bool true)) w := by kernel_rfl
theorem isMethodComparable (v : Value) (w : World) : (Go.method 217 69 v "Comparable").run Tryd.prog w = .ok (60, v) w := by kernel_rfl
theorem isComp : (Tryd.prog.info? 79).map (·.comparable) = some true := by kernel_rfl
theorem isSize : (Tryd.prog.info? 105).map (·.size) = some 1 := by kernel_rfl

set_option maxHeartbeats 1000000 in
set_option maxRecDepth 100000 in
theorem is_same (a : Addr) (w : World) :
    Calls Tryd.prog 36 #[.iface 79 (.pointer (some a)), .iface 79 (.pointer (some a))] w fun e w' => e = .returned (.bool true) ∧ w = w' := by
  obtain ⟨i, hi, hcmp⟩ := Option.map_eq_some_iff.1 isComp
  obtain ⟨j, hj, hjs⟩ := Option.map_eq_some_iff.1 isSize
  have tT := isTypeOf
  have cT := isComparable
  have mR := isMethodComparable
  have heq := run_eql_iface_ptr_same (P := Tryd.prog) w a Tryd.underlying45 Tryd.underlying79 hi hcmp hj
  go_enter Tryd.func36, Tryd.ntmps36
  go_wp2
  refine wp_loop_rounds 1 ?_
  rw [rounds_succ]
  go_wp2
  go_ret
  exact ⟨rfl, rfl⟩

theorem told_some (a : Addr) (w : World) (hg : w.cell? ⟨0, 0, none⟩ = some (.iface 79 (.pointer (some a)))) :
    Calls Tryd.prog 23 #[.iface 79 (.pointer (some a))] w fun e w' => e = .returned (.int .i64 90) ∧ w = w' := by
  go_enter Tryd.func23, Tryd.ntmps23
  go_wp2_with (go_at_call 36; refine (is_same _ _).mono ?_; rintro e w' ⟨rfl, rfl⟩)
  go_ret
  exact ⟨rfl, rfl⟩

/-- Is a number of lines one of a room? -/
def roomB (n : Int) : Bool := decide (0 ≤ n) && decide (n ≤ 500)
theorem isRoom_any (n : Int) (w : World) : Calls Tryd.prog 33 #[.int .i64 n] w fun e w' => e = .returned (.bool (roomB n)) ∧ w = w' := by
  unfold roomB
  by_cases h : 0 ≤ n
  · go_enter Tryd.func33, Tryd.ntmps33
    go_wp2
    go_ret
    exact ⟨by simp [h], rfl⟩
  · go_enter Tryd.func33, Tryd.ntmps33
    go_wp2
    go_ret
    exact ⟨by simp; omega, rfl⟩

theorem notRoom_any (n : Int) (w : World) : Calls Tryd.prog 35 #[.int .i64 n] w fun e w' => e = .returned (.bool (!roomB n)) ∧ w = w' := by
  go_enter Tryd.func35, Tryd.ntmps35
  go_wp2_with (go_at_call 33; refine (isRoom_any _ _).mono ?_; rintro e w' ⟨rfl, rfl⟩)
  go_ret
  exact ⟨rfl, rfl⟩

/-- May a paragraph be broken behind k lines? -/
def mayB (n o d k : Int) : Bool := decide (o ≤ k) && (decide (k < n) && decide (d ≤ wrap64 (n - k)))
theorem may_any (n o d k : Int) (w : World) : Calls Tryd.prog 29 #[.agg #[.int .i64 n, .int .i64 o, .int .i64 d], .int .i64 k] w fun e w' => e = .returned (.bool (mayB n o d k)) ∧ Below w.heap.size w w' := by
  unfold mayB
  by_cases h1 : o ≤ k
  · by_cases h2 : k < n
    · go_enter Tryd.func29, Tryd.ntmps29
      go_wp2
      go_ret
      exact ⟨by simp [h1, h2], below_alloc (Below.refl _ _) _⟩
    · go_enter Tryd.func29, Tryd.ntmps29
      go_wp2
      go_ret
      exact ⟨by simp; omega, below_alloc (Below.refl _ _) _⟩
  · go_enter Tryd.func29, Tryd.ntmps29
    go_wp2
    go_ret
    exact ⟨by simp; omega, below_alloc (Below.refl _ _) _⟩

def IdxPost (xs : List Int) (w : World) (e : Ending) (w' : World) : Prop := ∃ i : Int, e = .returned (.int .i64 i) ∧ decide (0 ≤ i) = xs.any (fun x => !roomB x) ∧ w = w'
theorem any_take (xs : List Int) (k : Nat) (hk : k < xs.length) (h : (xs.take k).all roomB = true) (hx : roomB (rd xs k) = true) : (xs.take (k + 1)).all roomB = true := by
  rw [List.take_succ_eq_append_getElem hk, List.all_append, h]
  simpa [rd, hk] using hx
theorem any_at (xs : List Int) (k : Nat) (hk : k < xs.length) (hx : roomB (rd xs k) = false) : xs.any (fun x => !roomB x) = true := by
  rw [List.any_eq_true]
  exact ⟨xs[k], List.getElem_mem hk, by simpa [rd, hk] using hx⟩
theorem any_none (xs : List Int) (h : (xs.take xs.length).all roomB = true) : xs.any (fun x => !roomB x) = false := by
  rw [List.take_length] at h
  rw [← List.not_all_eq_any_not, h]; rfl
set_option maxHeartbeats 1000000 in
theorem idx_any (A : Option Addr) (c : Nat) (xs : List Int) (w : World) (hr : Kd.C (Kd.int .i64) w A xs.length xs) (hn : xs.length ≤ 9223372036854775807) :
    Calls Tryd.prog 39 #[.slice A xs.length c, .func (.func 35) #[] #[]] w (IdxPost xs w) := by
  have HR := Aside0.mk hr
  clear hr
  go_enter Tryd.func39, Tryd.ntmps39
  go_wp2
  go_loop [8] (fun i => ∃ k : Nat, k ≤ xs.length ∧ Aside0 ((xs.take k).all roomB = true) ∧ i = .int .i64 k) (fun i => xs.length - (intOf i).toNat)
  case atStart => exact ⟨0, Nat.zero_le _, ⟨rfl⟩, rfl⟩
  case round =>
    obtain ⟨k, hk, HA, rfl⟩ := hrel
    by_cases hlt : k < xs.length
    · obtain ⟨ad, ea, hx⟩ := Kd.at_int HR.out (k : Int) (by omega) (by omega)
      cases ea
      rw [Int.toNat_natCast] at hx
      by_cases hb : roomB (rd xs k) = true
      · have HB := Aside0.mk hb
        clear hb
        go_wp2_with (go_at_call 35; refine (notRoom_any _ _).mono ?_; rintro e w' ⟨rfl, rfl⟩; rw [HB.out])
        go_round
        case rel => exact ⟨k + 1, by omega, ⟨any_take xs k hlt HA.out HB.out⟩, by go_num⟩
        case measure => simp [intOf]; omega
      · have HB := Aside0.mk (Bool.eq_false_iff.mpr hb)
        clear hb
        go_wp2_with (go_at_call 35; refine (notRoom_any _ _).mono ?_; rintro e w' ⟨rfl, rfl⟩; rw [HB.out])
        go_ret
        exact ⟨k, rfl, by rw [any_at xs k hlt HB.out]; simp, rfl⟩
    · go_wp2
      go_ret
      have e : k = xs.length := by omega
      exact ⟨-1, rfl, by rw [any_none xs (e ▸ HA.out)]; rfl, rfl⟩
theorem contains_any (A : Option Addr) (c : Nat) (xs : List Int) (w : World) (hr : Kd.C (Kd.int .i64) w A xs.length xs) (hn : xs.length ≤ 9223372036854775807) :
    Calls Tryd.prog 34 #[.slice A xs.length c, .func (.func 35) #[] #[]] w fun e w' => e = .returned (.bool (xs.any (fun x => !roomB x))) ∧ w = w' := by
  have HR := Aside0.mk hr
  clear hr
  go_enter Tryd.func34, Tryd.ntmps34
  go_wp2_with (go_at_call 39; refine (idx_any _ _ _ _ HR.out hn).mono ?_; rintro e w' ⟨i, rfl, hi, rfl⟩; have HI := Aside0.mk hi; clear hi)
  go_ret
  exact ⟨by rw [← HI.out]; rfl, rfl⟩
end Go.Proofs.YtfamkadpncbmlaaDoor.G
