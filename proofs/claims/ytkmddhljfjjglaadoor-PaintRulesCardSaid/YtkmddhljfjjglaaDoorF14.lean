/- Chapter 18: the print. Written by mkF14.py. -/
import Derived.Test.YtkmddhljfjjglaaDoorF13
import Derived.Lib.ItoaLen
import Derived.Lib.AppendIntMem
namespace Go.Proofs.YtkmddhljfjjglaaDoor.G
open Go.RowKit Go.Shelf Go.Proofs.YtkmddhljfjjglaaDoorW.PrintWords Go.Proofs.YtkmddhljfjjglaaDoorW.PrintLast Go.Proofs.YtkmddhljfjjglaaDoorW.PrintMore

/-- A builder of the call's own, and what is written. -/
def Bd (w0 : World) (b : Nat) (bs : List UInt8) (W : World) : Prop := Lib.IsBuilder 80 5 w0.heap.size b (Lib.byteCells bs) W ∧ Below w0.heap.size w0 W
theorem isB_below {B b : Nat} {bs : List Value} {W W' : World} (h : Lib.IsBuilder 80 5 B b bs W) (hb : Below W.heap.size W W') : Lib.IsBuilder 80 5 B b bs W' := by
  rcases h with ⟨h0, v, h1, h2, h3⟩ | ⟨h0, v, h1, h2, h3⟩
  · exact .inl ⟨h0, v, blk_below h1 hb, pw_own_below h2 hb, h3⟩
  · exact .inr ⟨h0, v, blk_below h1 hb, pw_own_below h2 hb, h3⟩
theorem Bd.below {w0 W W' : World} {b : Nat} {bs : List UInt8} (h : Bd w0 b bs W) (hb : Below W.heap.size W W') : Bd w0 b bs W' := ⟨isB_below h.1 hb, below_then h.2 h.2.size hb⟩
theorem writeS (w0 : World) (b : Nat) (bs : List UInt8) (s : ByteArray) (w : World) (h : Bd w0 b bs w) (hlen : bs.length + s.size ≤ 1000000) :
    Calls Tryd.prog 47 #[.pointer (some ⟨b, 0, none⟩), .string s] w fun e w' => (∃ v, e = .returned v) ∧ Bd w0 b (bs ++ s.data.toList) w' ∧ KT b w w' := by
  refine (writeString_any w0.heap.size b (Lib.byteCells bs) s w h.1 (by rw [Lib.byteCells_length]; omega) h.2.size).mono ?_
  rintro e w' ⟨rfl, h1, h2, h3⟩
  exact ⟨⟨_, rfl⟩, ⟨by simpa [Lib.byteCells, Lib.strCells] using h1, h.2.trans h2⟩, h3⟩
theorem writeB (w0 : World) (b : Nat) (bs : List UInt8) (w : World) (h : Bd w0 b bs w) (hlen : bs.length ≤ 1000000) :
    Calls Tryd.prog 49 #[.pointer (some ⟨b, 0, none⟩), .int .u8 10] w fun e w' => (∃ v, e = .returned v) ∧ Bd w0 b (bs ++ [10]) w' ∧ KT b w w' := by
  refine (writeByte_any w0.heap.size b (Lib.byteCells bs) 10 w h.1 (by rw [Lib.byteCells_length]; omega) h.2.size).mono ?_
  rintro e w' ⟨rfl, h1, h2, h3⟩
  exact ⟨⟨_, rfl⟩, ⟨by simpa [Lib.byteCells] using h1, h.2.trans h2⟩, h3⟩
theorem itoa_any (n : Int) (hn : r64B n = true) (w : World) (hG : GOK w) : Calls Tryd.prog 46 #[.int .i64 n] w fun e w' => e = .returned (.string ⟨(Lib.itoa n).toArray⟩) ∧ Below w.heap.size w w' := by
  simp only [r64B, Bool.and_eq_true, decide_eq_true_eq] at hn
  refine (Tryd.strconv_Itoa n hn.1 hn.2 w hG.2).mono ?_
  rintro e w' ⟨rfl, k, os, rfl⟩
  exact ⟨rfl, Lib.below_grow _ _ (Nat.le_refl _) _ _⟩
theorem format_any (n : Int) (hn : r64B n = true) (w : World) (hG : GOK w) : Calls Tryd.prog 48 #[.int .i64 n, .int .i64 10] w fun e w' => e = .returned (.string ⟨(Lib.itoa n).toArray⟩) ∧ Below w.heap.size w w' := by
  simp only [r64B, Bool.and_eq_true, decide_eq_true_eq] at hn
  refine (Tryd.strconv_FormatInt_10 n hn.1 hn.2 w hG.2).mono ?_
  rintro e w' ⟨rfl, k, os, rfl⟩
  exact ⟨rfl, Lib.below_grow _ _ (Nat.le_refl _) _ _⟩
theorem itoa_len {n : Int} (hn : r64B n = true) : (Lib.itoa n).length ≤ 21 := by
  simp only [r64B, Bool.and_eq_true, decide_eq_true_eq] at hn
  exact Lib.itoa_length_le n hn.1 hn.2
/-- What is printed of some numbers, of one that is drawn, of all. -/
def spL (l : List Int) : List UInt8 := l.flatMap fun n => 32 :: Lib.itoa n
def wordL (x : S39) : List UInt8 := if x.f0 then [114, 117, 108, 101] else [110, 111, 100, 101, 32] ++ Lib.itoa x.f1
def numsL (x : S39) : List Int := [x.f2.f0, x.f2.f1, x.f2.f2, x.f2.f3]
def lineL (x : S39) : List UInt8 := wordL x ++ spL (numsL x) ++ [10]
def printL (l : List S39) : List UInt8 := l.flatMap lineL
theorem spL_snoc (l : List Int) (n : Int) : spL (l ++ [n]) = spL l ++ 32 :: Lib.itoa n := by simp [spL]
theorem printL_snoc (l : List S39) (x : S39) : printL (l ++ [x]) = printL l ++ lineL x := by simp [printL]
def wfX (x : S39) : Bool := r64B x.f1 && wfR x.f2
theorem spL_len (l : List Int) (h : ∀ n ∈ l, r64B n = true) : (spL l).length ≤ 22 * l.length := by
  induction l using snoc_ind with
  | h0 => simp [spL]
  | h1 l n ih =>
    rw [spL_snoc]
    have h1 := ih (fun m hm => h m (by simp [hm]))
    have h2 := itoa_len (h n (by simp))
    simp only [List.length_append, List.length_cons, List.length_nil]
    omega
theorem nums_wf {x : S39} (h : wfX x = true) : ∀ n ∈ numsL x, r64B n = true := by
  simp only [wfX, wfR, Bool.and_eq_true] at h
  intro n hn
  simp only [numsL, List.mem_cons, List.not_mem_nil, or_false] at hn
  rcases hn with rfl | rfl | rfl | rfl
  · exact h.2.1
  · exact h.2.2.1
  · exact h.2.2.2.1
  · exact h.2.2.2.2
theorem wordL_len {x : S39} (h : wfX x = true) : (wordL x).length ≤ 26 := by
  simp only [wfX, Bool.and_eq_true] at h
  have h1 := itoa_len h.1
  unfold wordL
  split <;> simp <;> omega
theorem lineL_len {x : S39} (h : wfX x = true) : (lineL x).length ≤ 120 := by
  have h1 := wordL_len h
  have h2 := spL_len _ (nums_wf h)
  simp only [lineL, List.length_append, numsL, List.length_cons, List.length_nil] at *
  omega
theorem printL_len (l : List S39) (h : ∀ x ∈ l, wfX x = true) : (printL l).length ≤ 120 * l.length := by
  induction l using snoc_ind with
  | h0 => simp [printL]
  | h1 l x ih =>
    rw [printL_snoc]
    have h1 := ih (fun m hm => h m (by simp [hm]))
    have h2 := lineL_len (h x (by simp))
    simp only [List.length_append, List.length_cons, List.length_nil]
    omega
theorem size_list (l : List UInt8) : (⟨l.toArray⟩ : ByteArray).size = l.length := by simp [ByteArray.size]
theorem sp_size (n : Int) : ((⟨#[32]⟩ : ByteArray) ++ (⟨(Lib.itoa n).toArray⟩ : ByteArray)).size = 1 + (Lib.itoa n).length := by
  rw [ByteArray.size_append, size_list]; rfl
theorem sp_data (n : Int) : ((⟨#[32]⟩ : ByteArray) ++ (⟨(Lib.itoa n).toArray⟩ : ByteArray)).data.toList = 32 :: Lib.itoa n := by simp
theorem nd_size (n : Int) : ((⟨#[110, 111, 100, 101, 32]⟩ : ByteArray) ++ (⟨(Lib.itoa n).toArray⟩ : ByteArray)).size = 5 + (Lib.itoa n).length := by
  rw [ByteArray.size_append, size_list]; rfl
theorem nd_data (n : Int) : ((⟨#[110, 111, 100, 101, 32]⟩ : ByteArray) ++ (⟨(Lib.itoa n).toArray⟩ : ByteArray)).data.toList = [110, 111, 100, 101, 32] ++ Lib.itoa n := by simp
theorem KT.blk {b k : Nat} {W W' : World} {cs : Array Value} {t : TypeId} {z : Nat × Nat} (h : KT b W W') (hk : W.heap[k]? = some (.cells cs t z)) (hb : k ≠ b) (ht : t ≠ 5) : W'.heap[k]? = some (.cells cs t z) :=
  h k _ hk hb (fun cs' e => ht (by injection e))
theorem bd_block {w0 W : World} {b : Nat} {bs : List UInt8} (h : Bd w0 b bs W) : ∃ v p, W.heap[b]? = some (.cells #[p, v] 80 (0, 0)) := by
  rcases h.1 with ⟨_, v, h1, _⟩ | ⟨_, v, h1, _⟩
  · exact ⟨_, _, h1⟩
  · exact ⟨_, _, h1⟩
set_option maxRecDepth 1000000 in
set_option maxHeartbeats 4000000 in
theorem print_any (A : Option Addr) (c : Nat) (l : List S39) (w : World) (hr : Kd.C k39 w A l.length l) (hl : l.length ≤ 1000) (hw : ∀ x ∈ l, wfX x = true) (hG : GOK w) :
    Calls Tryd.prog 25 #[.slice A l.length c] w fun e w' => e = .returned (.string ⟨(printL l).toArray⟩) ∧ Below w.heap.size w w' := by
  have HR := Aside0.mk hr
  have HW := Aside0.mk hw
  have HG := Aside0.mk hG
  have HB0 : Aside0 (Bd w w.heap.size [] (w.alloc (.cells #[.pointer none, .slice none 0 0] 80))) := ⟨Lib.fresh_isBuilder 80 5 w, below_alloc (Below.refl _ _) _⟩
  clear hr hw hG
  go_enter Tryd.func25, Tryd.ntmps25
  go_wp2
  go_loopw [11] (fun i wr => ∃ k : Nat, k ≤ l.length ∧ i = .int .i64 k ∧ Aside0 (Bd w w.heap.size (printL (l.take k)) wr)) (fun i _ => l.length - (intOf i).toNat)
  case atStart => exact ⟨0, Nat.zero_le _, rfl, HB0⟩
  case round =>
    clear HB0
    obtain ⟨k, hk, rfl, HB⟩ := hrel
    by_cases hlt : k < l.length
    · obtain ⟨ad, ea, hx0, hx1, hx2, hx3, hx4, hx5⟩ := at_T39 (Kd.C_below HR.out HB.out.2) (k : Int) (by omega) (by omega)
      cases ea
      simp only [Int.toNat_natCast] at hx0 hx1 hx2 hx3 hx4 hx5
      have ht := Aside0.mk (takeD_rd l k hlt)
      have hwf := HW.out _ (memD_rd l k hlt)
      have hpl : (printL (l.take k)).length ≤ 120000 := by
        have := printL_len (l.take k) (fun x hx => HW.out x (List.mem_of_mem_take hx))
        rw [List.length_take] at this
        omega
      generalize rd_T39 l k = x at *
      have HWL := Aside0.mk (wordL_len hwf)
      have HNW := Aside0.mk (nums_wf hwf)
      have hwf1 : r64B x.f1 = true := by simp only [wfX, Bool.and_eq_true] at hwf; exact hwf.1
      have HLINE := Aside0.mk (show lineL x = wordL x ++ spL (numsL x) ++ [10] from rfl)
      have HWORD := Aside0.mk (show wordL x = if x.f0 then [114, 117, 108, 101] else [110, 111, 100, 101, 32] ++ Lib.itoa x.f1 from rfl)
      have HNUMS := Aside0.mk (show numsL x = [x.f2.f0, x.f2.f1, x.f2.f2, x.f2.f3] from rfl)
      generalize wordL x = word at *
      generalize numsL x = nums at *
      obtain ⟨x0, x1, ⟨r0, r1, r2, r3⟩⟩ := x
      dsimp only at hx0 hx1 hx2 hx3 hx4 hx5 HWORD HNUMS hwf1
      have HW1 := Aside0.mk hwf1
      have hb1 := below_alloc (Below.refl wr.heap.size wr) (.cells #[.bool x0, .int .i64 x1, .int .i64 r0, .int .i64 r1, .int .i64 r2, .int .i64 r3] 39)
      have HB1 := Aside0.mk (HB.out.below hb1)
      have HX1 := Aside0.mk (blk_new wr (.cells #[.bool x0, .int .i64 x1, .int .i64 r0, .int .i64 r1, .int .i64 r2, .int .i64 r3] 39))
      have hne : wr.heap.size ≠ w.heap.size := by obtain ⟨v, p, h⟩ := bd_block HB.out; have := blk_lt h; omega
      generalize hbs : printL (l.take k) = bs at *
      have HBS := Aside0.mk hbs
      clear hbs hb1 HB hwf hwf1
      cases x0
      · have HWD := Aside0.mk (show word = [110, 111, 100, 101, 32] ++ Lib.itoa x1 from HWORD.out)
        clear HWORD
        have hz : ¬ 9223372036854775807 < 5 + (Lib.itoa x1).length := by have := itoa_len HW1.out; omega
        go_wp2_with (first | (go_at_call 46; refine (itoa_any x1 HW1.out _ (HG.out.below HB1.out.2)).mono ?_; rintro e w2 ⟨rfl, hb⟩; have HB2 := Aside0.mk (HB1.out.below hb); have HX2 := Aside0.mk (blk_below HX1.out hb); clear hb) | (go_at_call 47; refine (writeS w w.heap.size bs _ _ HB2.out (by have := hpl; rw [nd_size]; have := itoa_len HW1.out; omega)).mono ?_; rintro e w3 ⟨⟨v3, rfl⟩, hbd, hkt⟩; have HB3 := Aside0.mk (show Bd w w.heap.size (bs ++ word) w3 by rw [nd_data] at hbd; rw [HWD.out]; exact hbd); have HX3 := Aside0.mk (hkt.blk HX2.out hne (by decide)); clear hbd hkt; have k2 : w3.cell? ⟨wr.heap.size, 2, none⟩ = some (.int .i64 r0) := (blk_cell HX3.out 2).trans rfl; have k3 : w3.cell? ⟨wr.heap.size, 3, none⟩ = some (.int .i64 r1) := (blk_cell HX3.out 3).trans rfl; have k4 : w3.cell? ⟨wr.heap.size, 4, none⟩ = some (.int .i64 r2) := (blk_cell HX3.out 4).trans rfl; have k5 : w3.cell? ⟨wr.heap.size, 5, none⟩ = some (.int .i64 r3) := (blk_cell HX3.out 5).trans rfl))
        have hb4 := below_alloc (Below.refl w3.heap.size w3) (.cells #[.int .i64 r0, .int .i64 r1, .int .i64 r2, .int .i64 r3] 2)
        have HB4 := Aside0.mk (HB3.out.below hb4)
        have HG4 := Aside0.mk (blk_new w3 (.cells #[.int .i64 r0, .int .i64 r1, .int .i64 r2, .int .i64 r3] 2))
        have hg5 : w3.heap.size ≠ w.heap.size := by
          obtain ⟨v, p, h⟩ := bd_block HB3.out
          have := blk_lt h
          omega
        clear hb4 k2 k3 k4 k5 HX3
        go_loopw [38] (fun i wq => ∃ j : Nat, j ≤ 4 ∧ i = .int .i64 j ∧ Aside0 (Bd w w.heap.size (bs ++ word ++ spL (nums.take j)) wq) ∧ Aside0 (wq.heap[w3.heap.size]? = some (.cells #[.int .i64 r0, .int .i64 r1, .int .i64 r2, .int .i64 r3] 2 (0, 0)))) (fun i _ => 4 - (intOf i).toNat)
        case atStart => exact ⟨0, by omega, rfl, ⟨by simpa [spL] using HB4.out⟩, HG4⟩
        case round =>
          clear HB4 HG4
          obtain ⟨j, hj, rfl, HB5, HG5⟩ := hrel
          rename World => w5
          have hlen5 : (bs ++ word ++ spL (nums.take j)).length ≤ 200000 := by
            have h1 := spL_len (nums.take j) (fun n hn => HNW.out n (List.mem_of_mem_take hn))
            have h2 := HWL.out
            have h3 := hpl
            have h4 : (nums.take j).length ≤ 4 := by rw [List.length_take]; omega
            simp only [List.length_append]
            omega
          by_cases hlt4 : j < 4
          · have hjj : j = 0 ∨ j = 1 ∨ j = 2 ∨ j = 3 := by omega
            rcases hjj with rfl | rfl | rfl | rfl
            · have HN0 := Aside0.mk (HNW.out r0 (by rw [HNUMS.out]; simp))
              have hz : ¬ 9223372036854775807 < 1 + (Lib.itoa r0).length := by have := itoa_len HN0.out; omega
              have y0 : w5.cell? ⟨w3.heap.size, 0, none⟩ = some (.int .i64 r0) := (blk_cell HG5.out 0).trans rfl
              go_wp2_with (first | (go_at_call 48; refine (format_any r0 HN0.out _ (HG.out.below HB5.out.2)).mono ?_; rintro e w6 ⟨rfl, hb⟩; have HB6 := Aside0.mk (HB5.out.below hb); have HG6 := Aside0.mk (blk_below HG5.out hb); clear hb) | (go_at_call 47; refine (writeS w w.heap.size _ _ _ HB6.out (by rw [sp_size]; have := hlen5; have := itoa_len HN0.out; omega)).mono ?_; rintro e w7 ⟨⟨v7, rfl⟩, hbd, hkt⟩; have HB7 := Aside0.mk hbd; have HG7 := Aside0.mk (hkt.blk HG6.out hg5 (by decide)); clear hbd hkt))
              go_roundw
              case rel => exact ⟨1, by omega, by go_num, ⟨by have h := HB7.out; rw [sp_data] at h; rw [HNUMS.out] at h ⊢; simpa [spL] using h⟩, HG7⟩
              case measure => simp [intOf]
            · have HN1 := Aside0.mk (HNW.out r1 (by rw [HNUMS.out]; simp))
              have hz : ¬ 9223372036854775807 < 1 + (Lib.itoa r1).length := by have := itoa_len HN1.out; omega
              have y1 : w5.cell? ⟨w3.heap.size, 1, none⟩ = some (.int .i64 r1) := (blk_cell HG5.out 1).trans rfl
              go_wp2_with (first | (go_at_call 48; refine (format_any r1 HN1.out _ (HG.out.below HB5.out.2)).mono ?_; rintro e w6 ⟨rfl, hb⟩; have HB6 := Aside0.mk (HB5.out.below hb); have HG6 := Aside0.mk (blk_below HG5.out hb); clear hb) | (go_at_call 47; refine (writeS w w.heap.size _ _ _ HB6.out (by rw [sp_size]; have := hlen5; have := itoa_len HN1.out; omega)).mono ?_; rintro e w7 ⟨⟨v7, rfl⟩, hbd, hkt⟩; have HB7 := Aside0.mk hbd; have HG7 := Aside0.mk (hkt.blk HG6.out hg5 (by decide)); clear hbd hkt))
              go_roundw
              case rel => exact ⟨2, by omega, by go_num, ⟨by have h := HB7.out; rw [sp_data] at h; rw [HNUMS.out] at h ⊢; simpa [spL] using h⟩, HG7⟩
              case measure => simp [intOf]
            · have HN2 := Aside0.mk (HNW.out r2 (by rw [HNUMS.out]; simp))
              have hz : ¬ 9223372036854775807 < 1 + (Lib.itoa r2).length := by have := itoa_len HN2.out; omega
              have y2 : w5.cell? ⟨w3.heap.size, 2, none⟩ = some (.int .i64 r2) := (blk_cell HG5.out 2).trans rfl
              go_wp2_with (first | (go_at_call 48; refine (format_any r2 HN2.out _ (HG.out.below HB5.out.2)).mono ?_; rintro e w6 ⟨rfl, hb⟩; have HB6 := Aside0.mk (HB5.out.below hb); have HG6 := Aside0.mk (blk_below HG5.out hb); clear hb) | (go_at_call 47; refine (writeS w w.heap.size _ _ _ HB6.out (by rw [sp_size]; have := hlen5; have := itoa_len HN2.out; omega)).mono ?_; rintro e w7 ⟨⟨v7, rfl⟩, hbd, hkt⟩; have HB7 := Aside0.mk hbd; have HG7 := Aside0.mk (hkt.blk HG6.out hg5 (by decide)); clear hbd hkt))
              go_roundw
              case rel => exact ⟨3, by omega, by go_num, ⟨by have h := HB7.out; rw [sp_data] at h; rw [HNUMS.out] at h ⊢; simpa [spL] using h⟩, HG7⟩
              case measure => simp [intOf]
            · have HN3 := Aside0.mk (HNW.out r3 (by rw [HNUMS.out]; simp))
              have hz : ¬ 9223372036854775807 < 1 + (Lib.itoa r3).length := by have := itoa_len HN3.out; omega
              have y3 : w5.cell? ⟨w3.heap.size, 3, none⟩ = some (.int .i64 r3) := (blk_cell HG5.out 3).trans rfl
              go_wp2_with (first | (go_at_call 48; refine (format_any r3 HN3.out _ (HG.out.below HB5.out.2)).mono ?_; rintro e w6 ⟨rfl, hb⟩; have HB6 := Aside0.mk (HB5.out.below hb); have HG6 := Aside0.mk (blk_below HG5.out hb); clear hb) | (go_at_call 47; refine (writeS w w.heap.size _ _ _ HB6.out (by rw [sp_size]; have := hlen5; have := itoa_len HN3.out; omega)).mono ?_; rintro e w7 ⟨⟨v7, rfl⟩, hbd, hkt⟩; have HB7 := Aside0.mk hbd; have HG7 := Aside0.mk (hkt.blk HG6.out hg5 (by decide)); clear hbd hkt))
              go_roundw
              case rel => exact ⟨4, by omega, by go_num, ⟨by have h := HB7.out; rw [sp_data] at h; rw [HNUMS.out] at h ⊢; simpa [spL] using h⟩, HG7⟩
              case measure => simp [intOf]
          · have e : j = 4 := by omega
            subst e
            have HB6 := Aside0.mk (show Bd w w.heap.size (bs ++ word ++ spL nums) w5 by have h := HB5.out; rw [HNUMS.out] at h ⊢; exact h)
            have hlen6 : (bs ++ word ++ spL nums).length ≤ 200000 := by have h := hlen5; rw [HNUMS.out] at h ⊢; exact h
            go_wp2_with (go_at_call 49; refine (writeB w w.heap.size _ _ HB6.out (by have := hlen6; omega)).mono ?_; rintro e w7 ⟨⟨v7, rfl⟩, hbd, _⟩; have HB7 := Aside0.mk hbd; clear hbd)
            go_roundw
            case rel => exact ⟨k + 1, by omega, by go_num, ⟨by rw [ht.out, printL_snoc, HBS.out, HLINE.out]; simpa using HB7.out⟩⟩
            case measure => simp [intOf]; omega
      · have HWD := Aside0.mk (show word = [114, 117, 108, 101] from HWORD.out)
        clear HWORD
        go_wp2_with (go_at_call 47; refine (writeS w w.heap.size bs _ _ HB1.out (by have := hpl; show bs.length + 4 ≤ _; omega)).mono ?_; rintro e w3 ⟨⟨v3, rfl⟩, hbd, hkt⟩; have HB3 := Aside0.mk (show Bd w w.heap.size (bs ++ word) w3 by rw [HWD.out]; exact hbd); have HX3 := Aside0.mk (hkt.blk HX1.out hne (by decide)); clear hbd hkt; have k2 : w3.cell? ⟨wr.heap.size, 2, none⟩ = some (.int .i64 r0) := (blk_cell HX3.out 2).trans rfl; have k3 : w3.cell? ⟨wr.heap.size, 3, none⟩ = some (.int .i64 r1) := (blk_cell HX3.out 3).trans rfl; have k4 : w3.cell? ⟨wr.heap.size, 4, none⟩ = some (.int .i64 r2) := (blk_cell HX3.out 4).trans rfl; have k5 : w3.cell? ⟨wr.heap.size, 5, none⟩ = some (.int .i64 r3) := (blk_cell HX3.out 5).trans rfl)
        have hb4 := below_alloc (Below.refl w3.heap.size w3) (.cells #[.int .i64 r0, .int .i64 r1, .int .i64 r2, .int .i64 r3] 2)
        have HB4 := Aside0.mk (HB3.out.below hb4)
        have HG4 := Aside0.mk (blk_new w3 (.cells #[.int .i64 r0, .int .i64 r1, .int .i64 r2, .int .i64 r3] 2))
        have hg5 : w3.heap.size ≠ w.heap.size := by
          obtain ⟨v, p, h⟩ := bd_block HB3.out
          have := blk_lt h
          omega
        clear hb4 k2 k3 k4 k5 HX3
        go_loopw [38] (fun i wq => ∃ j : Nat, j ≤ 4 ∧ i = .int .i64 j ∧ Aside0 (Bd w w.heap.size (bs ++ word ++ spL (nums.take j)) wq) ∧ Aside0 (wq.heap[w3.heap.size]? = some (.cells #[.int .i64 r0, .int .i64 r1, .int .i64 r2, .int .i64 r3] 2 (0, 0)))) (fun i _ => 4 - (intOf i).toNat)
        case atStart => exact ⟨0, by omega, rfl, ⟨by simpa [spL] using HB4.out⟩, HG4⟩
        case round =>
          clear HB4 HG4
          obtain ⟨j, hj, rfl, HB5, HG5⟩ := hrel
          rename World => w5
          have hlen5 : (bs ++ word ++ spL (nums.take j)).length ≤ 200000 := by
            have h1 := spL_len (nums.take j) (fun n hn => HNW.out n (List.mem_of_mem_take hn))
            have h2 := HWL.out
            have h3 := hpl
            have h4 : (nums.take j).length ≤ 4 := by rw [List.length_take]; omega
            simp only [List.length_append]
            omega
          by_cases hlt4 : j < 4
          · have hjj : j = 0 ∨ j = 1 ∨ j = 2 ∨ j = 3 := by omega
            rcases hjj with rfl | rfl | rfl | rfl
            · have HN0 := Aside0.mk (HNW.out r0 (by rw [HNUMS.out]; simp))
              have hz : ¬ 9223372036854775807 < 1 + (Lib.itoa r0).length := by have := itoa_len HN0.out; omega
              have y0 : w5.cell? ⟨w3.heap.size, 0, none⟩ = some (.int .i64 r0) := (blk_cell HG5.out 0).trans rfl
              go_wp2_with (first | (go_at_call 48; refine (format_any r0 HN0.out _ (HG.out.below HB5.out.2)).mono ?_; rintro e w6 ⟨rfl, hb⟩; have HB6 := Aside0.mk (HB5.out.below hb); have HG6 := Aside0.mk (blk_below HG5.out hb); clear hb) | (go_at_call 47; refine (writeS w w.heap.size _ _ _ HB6.out (by rw [sp_size]; have := hlen5; have := itoa_len HN0.out; omega)).mono ?_; rintro e w7 ⟨⟨v7, rfl⟩, hbd, hkt⟩; have HB7 := Aside0.mk hbd; have HG7 := Aside0.mk (hkt.blk HG6.out hg5 (by decide)); clear hbd hkt))
              go_roundw
              case rel => exact ⟨1, by omega, by go_num, ⟨by have h := HB7.out; rw [sp_data] at h; rw [HNUMS.out] at h ⊢; simpa [spL] using h⟩, HG7⟩
              case measure => simp [intOf]
            · have HN1 := Aside0.mk (HNW.out r1 (by rw [HNUMS.out]; simp))
              have hz : ¬ 9223372036854775807 < 1 + (Lib.itoa r1).length := by have := itoa_len HN1.out; omega
              have y1 : w5.cell? ⟨w3.heap.size, 1, none⟩ = some (.int .i64 r1) := (blk_cell HG5.out 1).trans rfl
              go_wp2_with (first | (go_at_call 48; refine (format_any r1 HN1.out _ (HG.out.below HB5.out.2)).mono ?_; rintro e w6 ⟨rfl, hb⟩; have HB6 := Aside0.mk (HB5.out.below hb); have HG6 := Aside0.mk (blk_below HG5.out hb); clear hb) | (go_at_call 47; refine (writeS w w.heap.size _ _ _ HB6.out (by rw [sp_size]; have := hlen5; have := itoa_len HN1.out; omega)).mono ?_; rintro e w7 ⟨⟨v7, rfl⟩, hbd, hkt⟩; have HB7 := Aside0.mk hbd; have HG7 := Aside0.mk (hkt.blk HG6.out hg5 (by decide)); clear hbd hkt))
              go_roundw
              case rel => exact ⟨2, by omega, by go_num, ⟨by have h := HB7.out; rw [sp_data] at h; rw [HNUMS.out] at h ⊢; simpa [spL] using h⟩, HG7⟩
              case measure => simp [intOf]
            · have HN2 := Aside0.mk (HNW.out r2 (by rw [HNUMS.out]; simp))
              have hz : ¬ 9223372036854775807 < 1 + (Lib.itoa r2).length := by have := itoa_len HN2.out; omega
              have y2 : w5.cell? ⟨w3.heap.size, 2, none⟩ = some (.int .i64 r2) := (blk_cell HG5.out 2).trans rfl
              go_wp2_with (first | (go_at_call 48; refine (format_any r2 HN2.out _ (HG.out.below HB5.out.2)).mono ?_; rintro e w6 ⟨rfl, hb⟩; have HB6 := Aside0.mk (HB5.out.below hb); have HG6 := Aside0.mk (blk_below HG5.out hb); clear hb) | (go_at_call 47; refine (writeS w w.heap.size _ _ _ HB6.out (by rw [sp_size]; have := hlen5; have := itoa_len HN2.out; omega)).mono ?_; rintro e w7 ⟨⟨v7, rfl⟩, hbd, hkt⟩; have HB7 := Aside0.mk hbd; have HG7 := Aside0.mk (hkt.blk HG6.out hg5 (by decide)); clear hbd hkt))
              go_roundw
              case rel => exact ⟨3, by omega, by go_num, ⟨by have h := HB7.out; rw [sp_data] at h; rw [HNUMS.out] at h ⊢; simpa [spL] using h⟩, HG7⟩
              case measure => simp [intOf]
            · have HN3 := Aside0.mk (HNW.out r3 (by rw [HNUMS.out]; simp))
              have hz : ¬ 9223372036854775807 < 1 + (Lib.itoa r3).length := by have := itoa_len HN3.out; omega
              have y3 : w5.cell? ⟨w3.heap.size, 3, none⟩ = some (.int .i64 r3) := (blk_cell HG5.out 3).trans rfl
              go_wp2_with (first | (go_at_call 48; refine (format_any r3 HN3.out _ (HG.out.below HB5.out.2)).mono ?_; rintro e w6 ⟨rfl, hb⟩; have HB6 := Aside0.mk (HB5.out.below hb); have HG6 := Aside0.mk (blk_below HG5.out hb); clear hb) | (go_at_call 47; refine (writeS w w.heap.size _ _ _ HB6.out (by rw [sp_size]; have := hlen5; have := itoa_len HN3.out; omega)).mono ?_; rintro e w7 ⟨⟨v7, rfl⟩, hbd, hkt⟩; have HB7 := Aside0.mk hbd; have HG7 := Aside0.mk (hkt.blk HG6.out hg5 (by decide)); clear hbd hkt))
              go_roundw
              case rel => exact ⟨4, by omega, by go_num, ⟨by have h := HB7.out; rw [sp_data] at h; rw [HNUMS.out] at h ⊢; simpa [spL] using h⟩, HG7⟩
              case measure => simp [intOf]
          · have e : j = 4 := by omega
            subst e
            have HB6 := Aside0.mk (show Bd w w.heap.size (bs ++ word ++ spL nums) w5 by have h := HB5.out; rw [HNUMS.out] at h ⊢; exact h)
            have hlen6 : (bs ++ word ++ spL nums).length ≤ 200000 := by have h := hlen5; rw [HNUMS.out] at h ⊢; exact h
            go_wp2_with (go_at_call 49; refine (writeB w w.heap.size _ _ HB6.out (by have := hlen6; omega)).mono ?_; rintro e w7 ⟨⟨v7, rfl⟩, hbd, _⟩; have HB7 := Aside0.mk hbd; clear hbd)
            go_roundw
            case rel => exact ⟨k + 1, by omega, by go_num, ⟨by rw [ht.out, printL_snoc, HBS.out, HLINE.out]; simpa using HB7.out⟩⟩
            case measure => simp [intOf]; omega
    · have e : k = l.length := by omega
      subst e
      rw [List.take_length] at HB
      have HS := Aside0.mk (Tryd.Builder_String_any w.heap.size w.heap.size (printL l) wr HB.out.1 HB.out.2.size)
      go_wp2_with (go_at_call 50; refine HS.out.mono ?_; rintro e w' ⟨rfl, hb⟩; have HB2 := Aside0.mk (HB.out.2.trans hb); clear hb)
      go_ret
      exact ⟨rfl, HB2.out⟩
def paint_Print.f (l0 : List (S39)) : Option (ByteArray) := if l0.length ≤ 200 ∧ l0.all wfX = true then some ⟨(printL l0).toArray⟩ else none
theorem paint_Print.calls (A0 : Option Addr) (c0 : Nat) (l0 : List (S39)) (r : ByteArray) (w : World) (hr0 : Kd.C k39 w A0 l0.length l0) (hc0 : l0.length ≤ c0) (h : paint_Print.f l0 = some r) (hG : GOK w) :
    Calls Tryd.prog 25 #[.slice A0 l0.length c0] w fun e w' => e = .returned (.string r) ∧ Below w.heap.size w w' := by
  have _h := hc0
  unfold paint_Print.f at h
  split at h
  · rename_i hq
    obtain rfl := Option.some.inj h
    exact print_any A0 c0 l0 w hr0 (by omega) (List.all_eq_true.1 hq.2) hG
  · cases h
end Go.Proofs.YtkmddhljfjjglaaDoor.G
