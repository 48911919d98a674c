/- Chapter 1, plain: lengths' texts, and lengths of texts, are the document's. -/
import Derived.Test.YtlpkjjeihbdocaaDoorH12
import Derived.Test.YtlpkjjeihbdocaaDoorG7
namespace Go.Proofs.YtlpkjjeihbdocaaDoor.G
open Go.RowKit Go.Proofs.YtlpkjjeihbdocaaDoorW.PrintWords Go.Proofs.YtlpkjjeihbdocaaDoorW.PrintLast Go.Proofs.YtlpkjjeihbdocaaDoorW.PrintMore

theorem ref_digits (k : Nat) : ∀ n : Nat, n < 10 ^ (k + 1) → k < 18 → gutterref01_Digits.f (k + 1) n = some (dstr n) := by
  have one : ∀ (k n : Nat), n < 10 → gutterref01_Digits.f (k + 1) n = some (dstr n) := fun k n h => by
    simp only [gutterref01_Digits.f]
    rw [if_pos (by omega), i64_in (by omega) (by omega)]
    have e : (48 + (n : Int)) % 256 = ((48 + n : Nat) : Int) := by omega
    rw [e, dstr, digB_one h]
    rfl
  induction k with
  | zero => intro n h _; exact one 0 n (by omega)
  | succ k ih =>
    intro n h hk
    by_cases h10 : n < 10
    · exact one _ n h10
    · have hd : n / 10 < 10 ^ (k + 1) := by rw [Nat.pow_succ] at h; omega
      have hp : 10 ^ (k + 1) ≤ 10 ^ 18 := Nat.pow_le_pow_right (by omega) (by omega)
      have e1 : wrap64 ((n : Int).tdiv 10) = ((n / 10 : Nat) : Int) := by
        rw [Int.tdiv_eq_ediv_of_nonneg (by omega), i64_in (by omega) (by omega)]; omega
      have e2 : (n : Int).tmod 10 = ((n % 10 : Nat) : Int) := by
        rw [Int.tmod_eq_emod_of_nonneg (by omega)]; omega
      rw [gutterref01_Digits.f, if_neg (by omega), e1, e2, ih (n / 10) hd (by omega), Option.bind_some, one k (n % 10) (by omega), Option.bind_some]
      have z1 := digB_len (k + 1) (n / 10) (by rw [Nat.pow_succ]; omega)
      have z2 := digB_len 0 (n % 10) (by omega)
      rw [if_pos (by rw [dstr_size, dstr_size]; omega), dstr_more h10]
theorem ref_rest (j : Nat) : ∀ (m k : Nat) (acc : List UInt8), m < 64 → m * 10 ^ j % 64 = 0 → acc.length + j ≤ 1000 → j + 2 ≤ k → gutterref01_Print.l0 k (bstr acc) m = some (bstr (acc ++ restF j m), 0) := by
  induction j with
  | zero =>
    intro m k acc hm h0 _ hk
    obtain ⟨k, rfl⟩ : ∃ m, k = m + 1 := ⟨k - 1, by omega⟩
    obtain rfl : m = 0 := by omega
    rw [gutterref01_Print.l0]
    simp [restF]
  | succ j ih =>
    intro m k acc hm h0 hl hk
    obtain ⟨k, rfl⟩ : ∃ m, k = m + 1 := ⟨k - 1, by omega⟩
    rw [gutterref01_Print.l0]
    by_cases hz : m = 0
    · subst hz; simp [restF]
    · obtain ⟨k, rfl⟩ : ∃ m, k = m + 1 := ⟨k - 1, by omega⟩
      have e1 : wrap64 ((m : Int) * 10) = ((m * 10 : Nat) : Int) := by rw [i64_in (by omega) (by omega)]; omega
      have e2 : wrap64 (((m * 10 : Nat) : Int).tdiv 64) = ((m * 10 / 64 : Nat) : Int) := by
        rw [Int.tdiv_eq_ediv_of_nonneg (by omega), i64_in (by omega) (by omega)]; omega
      have e3 : ((m * 10 : Nat) : Int).tmod 64 = ((m * 10 % 64 : Nat) : Int) := by
        rw [Int.tmod_eq_emod_of_nonneg (by omega)]; omega
      have e4 : gutterref01_Digits.f (k + 1) ((m * 10 / 64 : Nat) : Int) = some (dstr (m * 10 / 64)) :=
        at_rounds (fun k => gutterref01_Digits.mono _ k) (by omega) (ref_digits 0 (m * 10 / 64) (by omega) (by omega))
      have hd : (digB (m * 10 / 64)).length = 1 := by rw [digB_one (by omega)]; rfl
      rw [if_neg (by omega), e1, e2, e3, e4, Option.bind_some, if_pos (by rw [bstr_size, dstr_size]; omega)]
      have e5 : bstr acc ++ dstr (m * 10 / 64) = bstr (acc ++ digB (m * 10 / 64)) := bstr_app _ _
      rw [e5, ih (m * 10 % 64) (k + 1) _ (by omega) ?_ (by rw [List.length_append]; omega) (by omega), restF, if_neg hz, List.append_assoc]
      rw [Nat.pow_succ, Nat.mul_comm (10 ^ j) 10, ← Nat.mul_assoc] at h0
      rw [Nat.mul_mod, Nat.mod_mod, ← Nat.mul_mod]
      exact h0
theorem ref_print_pos (n : Nat) (hn : n ≤ 1073741824) (k : Nat) (hk : 18 ≤ k) : gutterref01_Print.f (k + 1) n = some (bstr (printN n), 0) := by
  have hlen : lenB (n : Int) = true := (lenB_iff _).2 (by omega)
  have e1 : wrap64 ((n : Int).tdiv 64) = ((n / 64 : Nat) : Int) := by
    rw [Int.tdiv_eq_ediv_of_nonneg (by omega), i64_in (by omega) (by omega)]; omega
  have e2 : (n : Int).tmod 64 = ((n % 64 : Nat) : Int) := by
    rw [Int.tmod_eq_emod_of_nonneg (by omega)]; omega
  have e3 : gutterref01_Digits.f k ((n / 64 : Nat) : Int) = some (dstr (n / 64)) :=
    at_rounds (fun k => gutterref01_Digits.mono _ k) (by omega) (ref_digits 7 (n / 64) (by omega) (by omega))
  have z1 := digB_len 7 (n / 64) (by omega)
  obtain ⟨k, rfl⟩ : ∃ m, k = m + 1 := ⟨k - 1, by omega⟩
  rw [gutterref01_Print.f, ref_right, hlen, Option.bind_some, if_pos rfl, if_neg (by omega), e1, e2, e3, Option.bind_some]
  have hr : ∀ m, m < 64 → m * 10 ^ 6 % 64 = 0 := fun m h => by omega
  unfold printN
  by_cases h0 : n % 64 = 0
  · rw [if_pos (by omega), if_pos h0, gutterref01_Print.j0, h0]
    have e4 : dstr (n / 64) = bstr (digB (n / 64)) := rfl
    rw [e4, ref_rest 6 0 k (digB (n / 64)) (by omega) (hr 0 (by omega)) (by omega) (by omega), rest_zero]
  · have hs : (dstr (n / 64)).size + 1 ≤ 9223372036854775807 := by rw [dstr_size]; omega
    rw [if_neg (by omega), if_neg h0]
    simp only [hs, if_true]
    rw [gutterref01_Print.j0]
    have e4 : dstr (n / 64) ++ (⟨#[46]⟩ : ByteArray) = bstr (digB (n / 64) ++ [46]) := bstr_app _ [46]
    rw [e4, ref_rest 6 (n % 64) k (digB (n / 64) ++ [46]) (by omega) (hr _ (by omega)) (by rw [List.length_append]; simp; omega) (by omega), List.append_assoc]
    rfl
theorem ref_print (a : Int) (k : Nat) (hk : 20 ≤ k) : gutterref01_Print.f k a = some (bstr (printZ a).1, (printZ a).2) := by
  obtain ⟨k, rfl⟩ : ∃ m, k = m + 2 := ⟨k - 2, by omega⟩
  cases hl : lenB a
  · rw [gutterref01_Print.f, ref_right, hl, Option.bind_some, if_neg (by simp), printZ_not hl]
    rfl
  · have hb := (lenB_iff a).1 hl
    rw [printZ_len hl]
    by_cases hs : a < 0
    · have e : wrap64 (-a) = ((a.natAbs : Nat) : Int) := by rw [i64_in (by omega) (by omega)]; omega
      have z := printN_len (n := a.natAbs) (by omega)
      rw [gutterref01_Print.f, ref_right, hl, Option.bind_some, if_pos rfl, if_pos hs, e, ref_print_pos _ (by omega) k (by omega), Option.bind_some, if_pos (by simp only [bstr_size]; omega), printB, if_pos hs]
      have e6 : (⟨#[45]⟩ : ByteArray) ++ bstr (printN a.natAbs) = bstr ([45] ++ printN a.natAbs) := bstr_app [45] _
      rw [e6]
    · obtain ⟨n, rfl⟩ : ∃ n : Nat, a = n := ⟨a.natAbs, by omega⟩
      rw [ref_print_pos n (by omega) (k + 1) (by omega), printB, if_neg hs, List.nil_append, Int.natAbs_natCast]

/-- A length that was reckoned, tried. -/
def tried (l : List UInt8) (x : Int) : Int × Int := if printZ x = (l, 0) then (x, 0) else (0, 12)
def endV (s n p : Int) : Int := wrap64 (s * (wrap64 ((wrap64 (64 * n)) + (wrap64 (Int.tdiv (wrap64 (p * 64)) 1000000)))))
/-- The parts behind the point. -/
def partF : List UInt8 → Int → Int → Int
  | [], p, _ => p
  | c :: l, p, u => if 48 ≤ c.toNat ∧ c.toNat ≤ 57 ∧ u > 1 then partF l (wrap64 (p + (wrap64 ((wrap64 (Int.tdiv u 10)) * (((c.toNat : Int) - 48) % 256))))) (wrap64 (Int.tdiv u 10)) else p
/-- The whole ahead of the point, and what is left. -/
def headF : List UInt8 → Int → Int × List UInt8
  | [], n => (n, [])
  | c :: l, n => if 48 ≤ c.toNat ∧ c.toNat ≤ 57 ∧ n ≤ 1073741824 then headF l (wrap64 ((wrap64 (10 * n)) + (((c.toNat : Int) - 48) % 256))) else (n, c :: l)
def behind : List UInt8 → List UInt8
  | [] => []
  | c :: l => if c = 46 then l else c :: l
def valF (s : Int) (t : List UInt8) : Int := endV s (headF t 0).1 (partF (behind (headF t 0).2) 0 1000000)
theorem bt_b (l : List UInt8) (i : Nat) (h : i < l.length) : bt (bstr l) (i : Int) = (l[i].toNat : Int) := by
  have h2 : ((i : Int)).toNat < (bstr l).size := by rw [bstr_size]; omega
  rw [← bt_at _ _ h2]
  have e : (bstr l)[((i : Int)).toNat]'h2 = l[i] := by
    simp only [Int.toNat_natCast]
    exact bstr_get l i (by rw [bstr_size]; exact h)
  exact congrArg (fun c : UInt8 => (c.toNat : Int)) e
theorem tried_k (l : List UInt8) (x : Int) (k : Nat) (hk : 20 ≤ k) : ((gutterref01_Print.f k x).bind fun b => (if b.2 = 0 then (if b.1.toList = (bstr l).toList then (some (x, (0 : Int))) else (some (0, 12))) else (some (0, 12)))) = some (tried l x) := by
  rw [ref_print x k hk, Option.bind_some]
  have e : ∀ m : List UInt8, (bstr m).toList = m := fun m => by rw [Lib.toList_data, bstr_list]
  simp only [e, tried]
  cases h : printZ x with
  | mk u r =>
    by_cases h1 : r = 0
    · by_cases h2 : u = l <;> simp [h1, h2]
    · simp [h1]
theorem l1_ok (l t : List UInt8) (s n : Int) (ht : t.length ≤ 1000) (d : Nat) : ∀ (k i : Nat) (p u : Int), i ≤ t.length → t.length - i = d → d + 21 ≤ k → gutterref01_Parse.l1 k (bstr l) s (bstr t) n i p u = some (tried l (endV s n (partF (t.drop i) p u))) := by
  induction d with
  | zero =>
    intro k i p u hi hd hk
    obtain ⟨k, rfl⟩ : ∃ m, k = m + 1 := ⟨k - 1, by omega⟩
    rw [gutterref01_Parse.l1, if_neg (by rw [bstr_size]; omega), List.drop_of_length_le (by omega)]
    exact tried_k l _ k (by omega)
  | succ d ih =>
    intro k i p u hi hd hk
    obtain ⟨k, rfl⟩ : ∃ m, k = m + 1 := ⟨k - 1, by omega⟩
    rw [gutterref01_Parse.l1, if_pos (by rw [bstr_size]; omega), if_pos (by omega), bt_b t i (by omega), List.drop_eq_getElem_cons (by omega), partF]
    generalize t[i] = c at *
    by_cases h1 : 48 ≤ c.toNat
    · rw [if_pos (by omega)]
      by_cases h2 : c.toNat ≤ 57
      · rw [if_pos (by omega)]
        by_cases h3 : u > 1
        · have e : wrap64 ((i : Int) + 1) = ((i + 1 : Nat) : Int) := by rw [i64_in (by omega) (by omega)]; omega
          rw [if_pos h3, if_pos ⟨h1, h2, h3⟩, e]
          exact ih k (i + 1) _ _ (by omega) (by omega) (by omega)
        · rw [if_neg h3, if_neg (fun h => h3 h.2.2)]
          exact tried_k l _ k (by omega)
      · rw [if_neg (by omega), if_neg (fun h => h2 h.2.1)]
        exact tried_k l _ k (by omega)
    · rw [if_neg (by omega), if_neg (fun h => h1 h.1)]
      exact tried_k l _ k (by omega)
theorem j3_ok (l t : List UInt8) (s n : Int) (ht : t.length ≤ 1000) (k i : Nat) (hi : i ≤ t.length) (hk : t.length + 24 ≤ k) : gutterref01_Parse.j3 k (bstr l) s (bstr t) n i = some (tried l (endV s n (partF (behind (t.drop i)) 0 1000000))) := by
  obtain ⟨k, rfl⟩ : ∃ m, k = m + 3 := ⟨k - 3, by omega⟩
  rw [gutterref01_Parse.j3]
  by_cases hlt : i < t.length
  · rw [if_pos (by rw [bstr_size]; omega), if_pos (by omega), bt_b t i hlt, gutterref01_Parse.j4]
    rw [List.drop_eq_getElem_cons hlt, behind]
    by_cases hc : t[i] = 46
    · have e : wrap64 ((i : Int) + 1) = ((i + 1 : Nat) : Int) := by rw [i64_in (by omega) (by omega)]; omega
      have e2 : ((t[i].toNat : Int) == 46) = true := by rw [hc]; rfl
      rw [if_pos e2, gutterref01_Parse.j5, e, if_pos hc]
      exact l1_ok l t s n ht _ k (i + 1) _ _ (by omega) rfl (by omega)
    · have e2 : ((t[i].toNat : Int) == 46) = false := by
        simp only [beq_eq_false_iff_ne, ne_eq]
        intro h
        refine hc (UInt8.toNat_inj.1 ?_)
        show _ = 46
        omega
      rw [e2, if_neg (by simp), gutterref01_Parse.j5, if_neg hc, ← List.drop_eq_getElem_cons hlt]
      exact l1_ok l t s n ht _ k i _ _ hi rfl (by omega)
  · rw [if_neg (by rw [bstr_size]; omega), gutterref01_Parse.j4, if_neg (by simp), gutterref01_Parse.j5]
    have e : t.drop i = [] := List.drop_of_length_le (by omega)
    rw [e, behind, ← e]
    exact l1_ok l t s n ht _ k i _ _ hi rfl (by omega)
theorem l0_ok (l t : List UInt8) (s : Int) (ht : t.length ≤ 1000) (d : Nat) : ∀ (k i : Nat) (n : Int), i ≤ t.length → t.length - i = d → t.length + d + 25 ≤ k → gutterref01_Parse.l0 k (bstr l) s (bstr t) n i = some (tried l (endV s (headF (t.drop i) n).1 (partF (behind (headF (t.drop i) n).2) 0 1000000))) := by
  induction d with
  | zero =>
    intro k i n hi hd hk
    obtain ⟨k, rfl⟩ : ∃ m, k = m + 1 := ⟨k - 1, by omega⟩
    rw [gutterref01_Parse.l0, if_neg (by rw [bstr_size]; omega), j3_ok l t s n ht k i hi (by omega)]
    have e : t.drop i = [] := List.drop_of_length_le (by omega)
    rw [e]; rfl
  | succ d ih =>
    intro k i n hi hd hk
    obtain ⟨k, rfl⟩ : ∃ m, k = m + 1 := ⟨k - 1, by omega⟩
    have hj := j3_ok l t s n ht k i hi (by omega)
    rw [gutterref01_Parse.l0, if_pos (by rw [bstr_size]; omega), if_pos (by omega), bt_b t i (by omega), hj, List.drop_eq_getElem_cons (by omega), headF]
    by_cases hok : 48 ≤ t[i].toNat ∧ t[i].toNat ≤ 57 ∧ n ≤ 1073741824
    · have e : wrap64 ((i : Int) + 1) = ((i + 1 : Nat) : Int) := by rw [i64_in (by omega) (by omega)]; omega
      rw [if_pos (by omega), if_pos (by omega), if_pos hok.2.2, if_pos hok, e]
      exact ih k (i + 1) _ (by omega) (by omega) (by omega)
    · rw [if_neg hok]
      by_cases h1 : 48 ≤ t[i].toNat
      · rw [if_pos (by omega)]
        by_cases h2 : t[i].toNat ≤ 57
        · rw [if_pos (by omega), if_neg (fun h => hok ⟨h1, h2, h⟩)]
        · rw [if_neg (by omega)]
      · rw [if_neg (by omega)]
/-- The document's length of a text. -/
def refZ (l : List UInt8) : Int × Int := if l.length > 20 then (0, 12) else tried l (valF (if (dashL l).2 then -1 else 1) (dashL l).1)
theorem ref_parse (l : List UInt8) (k : Nat) (hk : 70 ≤ k) : gutterref01_Parse.f k (bstr l) = some (refZ l) := by
  unfold gutterref01_Parse.f refZ
  rw [bstr_size]
  by_cases h20 : l.length > 20
  · rw [if_pos (by omega), if_pos h20]
  · rw [if_neg (by omega), if_neg h20]
    obtain ⟨k, rfl⟩ : ∃ m, k = m + 2 := ⟨k - 2, by omega⟩
    have e : (bstr l).toList = l := by rw [Lib.toList_data, bstr_list]
    cases l with
    | nil =>
      rw [if_pos e, gutterref01_Parse.j0, if_neg (by simp), gutterref01_Parse.j1]
      exact l0_ok [] [] 1 (by simp) 0 k 0 0 (by simp) (by simp) (by simp; omega)
    | cons c l =>
      have hl : l.length ≤ 19 := by simp at h20; omega
      rw [if_neg (by rw [e]; simp), if_pos (by simp)]
      have eb : bt (bstr (c :: l)) 0 = (c.toNat : Int) := bt_b (c :: l) 0 (by simp)
      rw [eb, gutterref01_Parse.j0]
      by_cases hc : c = 45
      · have e2 : ((c.toNat : Int) == 45) = true := by rw [hc]; rfl
        have e3 : (bstr (c :: l)).extract 1 (bstr (c :: l)).size = bstr l := bstr_drop (c :: l) 1
        rw [if_pos e2, if_pos (by rw [bstr_size]; simp; omega), e3, gutterref01_Parse.j1]
        have ed : dashL (c :: l) = (l, true) := by simp [dashL, hc]
        rw [ed]
        exact l0_ok (c :: l) l (-1) (by omega) l.length k 0 0 (by omega) (by omega) (by omega)
      · have e2 : ((c.toNat : Int) == 45) = false := by
          simp only [beq_eq_false_iff_ne, ne_eq]
          intro h
          refine hc (UInt8.toNat_inj.1 ?_)
          show _ = 45
          omega
        rw [e2, if_neg (by simp), gutterref01_Parse.j1]
        have ed : dashL (c :: l) = (c :: l, false) := by simp [dashL, hc]
        rw [ed]
        exact l0_ok (c :: l) (c :: l) 1 (by simp; omega) (l.length + 1) k 0 0 (by simp) (by simp) (by simp; omega)

theorem head_whole (l rest : List UInt8) (hr : rest = [] ∨ ∃ r, rest = 46 :: r) : ∀ (m n : Nat), m ≤ 10737418249 → wholeL m l = some n → headF (l ++ rest) m = ((n : Int), rest) := by
  induction l with
  | nil =>
    intro m n _ h
    obtain rfl := Option.some.inj h
    rcases hr with rfl | ⟨r, rfl⟩
    · rfl
    · rw [List.nil_append, headF, if_neg (fun h => absurd h.1 (by decide))]
  | cons c l ih =>
    intro m n hm h
    rw [wholeL] at h
    by_cases hc : 48 ≤ c.toNat ∧ c.toNat ≤ 57 ∧ m ≤ 1073741824
    · rw [if_pos hc] at h
      rw [List.cons_append, headF, if_pos ⟨hc.1, hc.2.1, by omega⟩]
      have e1 : ((c.toNat : Int) - 48) % 256 = ((c.toNat - 48 : Nat) : Int) := by omega
      have e2 : wrap64 (10 * (m : Int)) = ((10 * m : Nat) : Int) := by rw [i64_in (by omega) (by omega)]; omega
      have e3 : wrap64 (((10 * m : Nat) : Int) + ((c.toNat - 48 : Nat) : Int)) = ((m * 10 + (c.toNat - 48) : Nat) : Int) := by rw [i64_in (by omega) (by omega)]; omega
      rw [e1, e2, e3]
      exact ih _ n (by omega) h
    · rw [if_neg hc] at h; cases h
theorem parts_ok : ∀ r, r < 64 → wrap64 (Int.tdiv (wrap64 (partF (restK 6 r) 0 1000000 * 64)) 1000000) = r := by decide +kernel
theorem val_printN (s : Int) (n : Nat) (hn : n ≤ 1073741824) (hs : s = 1 ∨ s = -1) : valF s (printN n) = s * n := by
  have hh : headF (printN n) 0 = (((n / 64 : Nat) : Int), if n % 64 = 0 then [] else 46 :: restF 6 (n % 64)) := by
    unfold printN
    refine head_whole _ _ ?_ 0 (n / 64) (by omega) (wholeL_digB _ (by omega))
    split
    · exact .inl rfl
    · exact .inr ⟨_, rfl⟩
  have hb : behind (if n % 64 = 0 then [] else 46 :: restF 6 (n % 64)) = restK 6 (n % 64) := by
    rw [← restK_eq 6 _ (by omega)]
    by_cases h : n % 64 = 0
    · rw [if_pos h, h, rest_zero]; rfl
    · rw [if_neg h]; simp [behind]
  unfold valF
  rw [hh]
  simp only
  rw [hb]
  unfold endV
  rw [parts_ok _ (by omega), i64_in (x := 64 * ((n / 64 : Nat) : Int)) (by omega) (by omega), i64_in (x := 64 * ((n / 64 : Nat) : Int) + ((n % 64 : Nat) : Int)) (by omega) (by omega)]
  have e : 64 * ((n / 64 : Nat) : Int) + ((n % 64 : Nat) : Int) = n := by omega
  rw [e]
  rcases hs with rfl | rfl
  · exact i64_in (by omega) (by omega)
  · exact i64_in (by omega) (by omega)
theorem val_printB {a : Int} (h : lenB a = true) : valF (if (dashL (printB a)).2 then -1 else 1) (dashL (printB a)).1 = a := by
  have hb := (lenB_iff a).1 h
  rw [dash_printB]
  by_cases hs : a < 0
  · simp only [hs, decide_true, if_true]
    rw [val_printN _ _ (by omega) (.inr rfl)]; omega
  · simp only [hs, decide_false]
    rw [val_printN _ _ (by omega) (.inl (by simp))]; simp; omega
theorem ref_is_parse (l : List UInt8) : refZ l = parseZ l := by
  unfold refZ
  rcases parse_cases l with ⟨a, ha⟩ | h0
  · have hp := parse_sound ha
    obtain ⟨hl, rfl⟩ := printZ_ok hp
    have hlen := printB_len hl
    rw [if_neg (by omega), val_printB hl, ha, tried, if_pos hp]
  · rw [h0]
    by_cases h20 : l.length > 20
    · rw [if_pos h20]
    · rw [if_neg h20, tried, if_neg]
      intro hp
      obtain ⟨hl, e⟩ := printZ_ok hp
      have := parse_print hl
      rw [e, h0] at this
      exact absurd (Prod.mk.inj this).2 (by decide)
theorem cutT_f (s : ByteArray) (_ : s.size ≤ 140737488351232) : ∃ l : List UInt8, l.length ≤ 50 ∧ gutterlaw01_cut.f s = some (bstr l) := by
  have hm : 0 ≤ mn (s.size : Int) 50 ∧ mn (s.size : Int) 50 ≤ s.size ∧ mn (s.size : Int) 50 ≤ 50 := by unfold mn; split <;> omega
  refine ⟨(s.extract 0 (mn (s.size : Int) 50).toNat).data.toList, ?_, ?_⟩
  · rw [← Lib.size_eq, ByteArray.size_extract]; omega
  · unfold gutterlaw01_cut.f
    rw [if_pos hm.1, if_pos hm.2.1, bstr_back]
theorem UnitTexts : gutterlaw01_UnitTexts.Pure := by
  intro a s _ hs
  refine ⟨80, ?_⟩
  obtain ⟨l, hl, hc⟩ := cutT_f s hs
  unfold gutterlaw01_UnitTexts.f
  have hp : unit_Print.f a = some (bstr (printZ a).1, (printZ a).2) := rfl
  rw [shown_ok, Option.bind_some, hp, Option.bind_some, ref_print a 80 (by omega), Option.bind_some, hc, Option.bind_some, parse_f (by omega), Option.bind_some, Option.bind_some, ref_parse l 80 (by omega), Option.bind_some, ref_is_parse]
  simp
end Go.Proofs.YtlpkjjeihbdocaaDoor.G
