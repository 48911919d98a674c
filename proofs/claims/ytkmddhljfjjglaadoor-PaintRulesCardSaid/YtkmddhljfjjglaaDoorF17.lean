/- Chapter 18: the reference's rectangles. Written by mkF17.py. -/
import Derived.Test.YtkmddhljfjjglaaDoorF16
namespace Go.Proofs.YtkmddhljfjjglaaDoor.G
open Go.RowKit Go.Shelf Go.Proofs.YtkmddhljfjjglaaDoorW.PrintWords Go.Proofs.YtkmddhljfjjglaaDoorW.PrintLast Go.Proofs.YtkmddhljfjjglaaDoorW.PrintMore

theorem far_any (w : World) : Calls Tryd.prog 31 #[] w fun e w' => e = .returned (.int .i64 1099511627776) ∧ w = w' := by
  go_enter Tryd.func31, Tryd.ntmps31
  go_wp2
  go_ret
  exact ⟨rfl, rfl⟩
def inB (lo n hi : Int) : Bool := decide (lo ≤ n) && decide (n ≤ hi)
theorem in_any (lo n hi : Int) (w : World) : Calls Tryd.prog 30 #[.int .i64 lo, .int .i64 n, .int .i64 hi] w fun e w' => e = .returned (.bool (inB lo n hi)) ∧ w = w' := by
  unfold inB
  by_cases h : lo ≤ n
  · have h' := decide_eq_true h
    rw [h']
    go_enter Tryd.func30, Tryd.ntmps30
    go_wp2
    go_ret
    exact ⟨by simp, rfl⟩
  · have h' := decide_eq_false h
    rw [h']
    go_enter Tryd.func30, Tryd.ntmps30
    go_wp2
    go_ret
    exact ⟨rfl, rfl⟩
def isR (r : S30) : Bool := inB (-1099511627776) r.f0 1099511627776 && (inB (-1099511627776) r.f1 1099511627776 && (inB 0 r.f2 1099511627776 && inB 0 r.f3 1099511627776))
theorem dr0 {w w' : World} (h : w = w') : Drawn0 w w' := by subst h; exact Drawn0.refl _
theorem far_d (w : World) : Calls Tryd.prog 31 #[] w fun e w' => e = .returned (.int .i64 1099511627776) ∧ Drawn0 w w' := (far_any w).mono fun _ _ h => ⟨h.1, dr0 h.2⟩
theorem in_d (lo n hi : Int) (w : World) : Calls Tryd.prog 30 #[.int .i64 lo, .int .i64 n, .int .i64 hi] w fun e w' => e = .returned (.bool (inB lo n hi)) ∧ Drawn0 w w' := (in_any lo n hi w).mono fun _ _ h => ⟨h.1, dr0 h.2⟩
set_option maxRecDepth 100000 in
set_option maxHeartbeats 4000000 in
theorem is_core (a b c d : Int) (w : World) (B : Bool) (p0 p1 p2 p3 : Bool) (h0 : inB (-1099511627776) a 1099511627776 = p0) (h1 : inB (-1099511627776) b 1099511627776 = p1) (h2 : inB 0 c 1099511627776 = p2) (h3 : inB 0 d 1099511627776 = p3) (hB : (p0 && (p1 && (p2 && p3))) = B) :
    Calls Tryd.prog 39 #[.agg #[.int .i64 a, .int .i64 b, .int .i64 c, .int .i64 d]] w fun e w' => e = .returned (.bool B) ∧ Below w.heap.size w w' := by
  have H0 := Aside0.mk (fun W => in_d (-1099511627776) a 1099511627776 W)
  have H1 := Aside0.mk (fun W => in_d (-1099511627776) b 1099511627776 W)
  have H2 := Aside0.mk (fun W => in_d 0 c 1099511627776 W)
  have H3 := Aside0.mk (fun W => in_d 0 d 1099511627776 W)
  rw [h0] at H0
  rw [h1] at H1
  rw [h2] at H2
  rw [h3] at H3
  clear h0 h1 h2 h3
  cases p0
  · subst hB
    go_enter Tryd.func39, Tryd.ntmps39
    go_wp2
    go_quiet (first | (go_at_call 31; refine (far_d _).mono ?_; rintro e w' ⟨rfl, ⟨nd, rfl⟩⟩; (try first | exact ⟨rfl, _, World.drewN_drewN _ _ _⟩ | exact ⟨rfl, _, Eq.trans (World.drewN_drewN _ _ _) (congrArg (World.drewN _) (Nat.add_assoc _ _ _))⟩)) | (go_at_call 30; (with_reducible refine (H0.out _).mono ?_); rintro e w' ⟨rfl, ⟨nd, rfl⟩⟩; (try first | exact ⟨rfl, _, World.drewN_drewN _ _ _⟩ | exact ⟨rfl, _, Eq.trans (World.drewN_drewN _ _ _) (congrArg (World.drewN _) (Nat.add_assoc _ _ _))⟩)) | (go_at_call 30; (with_reducible refine (H1.out _).mono ?_); rintro e w' ⟨rfl, ⟨nd, rfl⟩⟩; (try first | exact ⟨rfl, _, World.drewN_drewN _ _ _⟩ | exact ⟨rfl, _, Eq.trans (World.drewN_drewN _ _ _) (congrArg (World.drewN _) (Nat.add_assoc _ _ _))⟩)) | (go_at_call 30; (with_reducible refine (H2.out _).mono ?_); rintro e w' ⟨rfl, ⟨nd, rfl⟩⟩; (try first | exact ⟨rfl, _, World.drewN_drewN _ _ _⟩ | exact ⟨rfl, _, Eq.trans (World.drewN_drewN _ _ _) (congrArg (World.drewN _) (Nat.add_assoc _ _ _))⟩)) | (go_at_call 30; (with_reducible refine (H3.out _).mono ?_); rintro e w' ⟨rfl, ⟨nd, rfl⟩⟩; (try first | exact ⟨rfl, _, World.drewN_drewN _ _ _⟩ | exact ⟨rfl, _, Eq.trans (World.drewN_drewN _ _ _) (congrArg (World.drewN _) (Nat.add_assoc _ _ _))⟩)))
    all_goals go_wp2
    all_goals
      go_ret
      exact ⟨by first | rfl | simp, by repeat (first | exact Below.refl _ _ | apply below_alloc | apply pw_below_drewN)⟩
  cases p1
  · subst hB
    go_enter Tryd.func39, Tryd.ntmps39
    go_wp2
    go_quiet (first | (go_at_call 31; refine (far_d _).mono ?_; rintro e w' ⟨rfl, ⟨nd, rfl⟩⟩; (try first | exact ⟨rfl, _, World.drewN_drewN _ _ _⟩ | exact ⟨rfl, _, Eq.trans (World.drewN_drewN _ _ _) (congrArg (World.drewN _) (Nat.add_assoc _ _ _))⟩)) | (go_at_call 30; (with_reducible refine (H0.out _).mono ?_); rintro e w' ⟨rfl, ⟨nd, rfl⟩⟩; (try first | exact ⟨rfl, _, World.drewN_drewN _ _ _⟩ | exact ⟨rfl, _, Eq.trans (World.drewN_drewN _ _ _) (congrArg (World.drewN _) (Nat.add_assoc _ _ _))⟩)) | (go_at_call 30; (with_reducible refine (H1.out _).mono ?_); rintro e w' ⟨rfl, ⟨nd, rfl⟩⟩; (try first | exact ⟨rfl, _, World.drewN_drewN _ _ _⟩ | exact ⟨rfl, _, Eq.trans (World.drewN_drewN _ _ _) (congrArg (World.drewN _) (Nat.add_assoc _ _ _))⟩)) | (go_at_call 30; (with_reducible refine (H2.out _).mono ?_); rintro e w' ⟨rfl, ⟨nd, rfl⟩⟩; (try first | exact ⟨rfl, _, World.drewN_drewN _ _ _⟩ | exact ⟨rfl, _, Eq.trans (World.drewN_drewN _ _ _) (congrArg (World.drewN _) (Nat.add_assoc _ _ _))⟩)) | (go_at_call 30; (with_reducible refine (H3.out _).mono ?_); rintro e w' ⟨rfl, ⟨nd, rfl⟩⟩; (try first | exact ⟨rfl, _, World.drewN_drewN _ _ _⟩ | exact ⟨rfl, _, Eq.trans (World.drewN_drewN _ _ _) (congrArg (World.drewN _) (Nat.add_assoc _ _ _))⟩)))
    all_goals go_wp2
    all_goals
      go_ret
      exact ⟨by first | rfl | simp, by repeat (first | exact Below.refl _ _ | apply below_alloc | apply pw_below_drewN)⟩
  cases p2
  · subst hB
    go_enter Tryd.func39, Tryd.ntmps39
    go_wp2
    go_quiet (first | (go_at_call 31; refine (far_d _).mono ?_; rintro e w' ⟨rfl, ⟨nd, rfl⟩⟩; (try first | exact ⟨rfl, _, World.drewN_drewN _ _ _⟩ | exact ⟨rfl, _, Eq.trans (World.drewN_drewN _ _ _) (congrArg (World.drewN _) (Nat.add_assoc _ _ _))⟩)) | (go_at_call 30; (with_reducible refine (H0.out _).mono ?_); rintro e w' ⟨rfl, ⟨nd, rfl⟩⟩; (try first | exact ⟨rfl, _, World.drewN_drewN _ _ _⟩ | exact ⟨rfl, _, Eq.trans (World.drewN_drewN _ _ _) (congrArg (World.drewN _) (Nat.add_assoc _ _ _))⟩)) | (go_at_call 30; (with_reducible refine (H1.out _).mono ?_); rintro e w' ⟨rfl, ⟨nd, rfl⟩⟩; (try first | exact ⟨rfl, _, World.drewN_drewN _ _ _⟩ | exact ⟨rfl, _, Eq.trans (World.drewN_drewN _ _ _) (congrArg (World.drewN _) (Nat.add_assoc _ _ _))⟩)) | (go_at_call 30; (with_reducible refine (H2.out _).mono ?_); rintro e w' ⟨rfl, ⟨nd, rfl⟩⟩; (try first | exact ⟨rfl, _, World.drewN_drewN _ _ _⟩ | exact ⟨rfl, _, Eq.trans (World.drewN_drewN _ _ _) (congrArg (World.drewN _) (Nat.add_assoc _ _ _))⟩)) | (go_at_call 30; (with_reducible refine (H3.out _).mono ?_); rintro e w' ⟨rfl, ⟨nd, rfl⟩⟩; (try first | exact ⟨rfl, _, World.drewN_drewN _ _ _⟩ | exact ⟨rfl, _, Eq.trans (World.drewN_drewN _ _ _) (congrArg (World.drewN _) (Nat.add_assoc _ _ _))⟩)))
    all_goals go_wp2
    all_goals
      go_ret
      exact ⟨by first | rfl | simp, by repeat (first | exact Below.refl _ _ | apply below_alloc | apply pw_below_drewN)⟩
  subst hB
  go_enter Tryd.func39, Tryd.ntmps39
  go_wp2
  go_quiet (first | (go_at_call 31; refine (far_d _).mono ?_; rintro e w' ⟨rfl, ⟨nd, rfl⟩⟩; (try first | exact ⟨rfl, _, World.drewN_drewN _ _ _⟩ | exact ⟨rfl, _, Eq.trans (World.drewN_drewN _ _ _) (congrArg (World.drewN _) (Nat.add_assoc _ _ _))⟩)) | (go_at_call 30; (with_reducible refine (H0.out _).mono ?_); rintro e w' ⟨rfl, ⟨nd, rfl⟩⟩; (try first | exact ⟨rfl, _, World.drewN_drewN _ _ _⟩ | exact ⟨rfl, _, Eq.trans (World.drewN_drewN _ _ _) (congrArg (World.drewN _) (Nat.add_assoc _ _ _))⟩)) | (go_at_call 30; (with_reducible refine (H1.out _).mono ?_); rintro e w' ⟨rfl, ⟨nd, rfl⟩⟩; (try first | exact ⟨rfl, _, World.drewN_drewN _ _ _⟩ | exact ⟨rfl, _, Eq.trans (World.drewN_drewN _ _ _) (congrArg (World.drewN _) (Nat.add_assoc _ _ _))⟩)) | (go_at_call 30; (with_reducible refine (H2.out _).mono ?_); rintro e w' ⟨rfl, ⟨nd, rfl⟩⟩; (try first | exact ⟨rfl, _, World.drewN_drewN _ _ _⟩ | exact ⟨rfl, _, Eq.trans (World.drewN_drewN _ _ _) (congrArg (World.drewN _) (Nat.add_assoc _ _ _))⟩)) | (go_at_call 30; (with_reducible refine (H3.out _).mono ?_); rintro e w' ⟨rfl, ⟨nd, rfl⟩⟩; (try first | exact ⟨rfl, _, World.drewN_drewN _ _ _⟩ | exact ⟨rfl, _, Eq.trans (World.drewN_drewN _ _ _) (congrArg (World.drewN _) (Nat.add_assoc _ _ _))⟩)))
  all_goals go_wp2
  all_goals
    go_ret
    exact ⟨by first | rfl | simp, by repeat (first | exact Below.refl _ _ | apply below_alloc | apply pw_below_drewN)⟩
def gutterref18_Is.f (a0_0 : Int) (a0_1 : Int) (a0_2 : Int) (a0_3 : Int) : Option (Bool) := some (isR ⟨a0_0, a0_1, a0_2, a0_3⟩)
theorem gutterref18_Is.calls (a0_0 : Int) (a0_1 : Int) (a0_2 : Int) (a0_3 : Int) (r : Bool) (w : World) (h : gutterref18_Is.f a0_0 a0_1 a0_2 a0_3 = some r) :
    Calls Tryd.prog 39 #[.agg #[.int .i64 a0_0, .int .i64 a0_1, .int .i64 a0_2, .int .i64 a0_3]] w fun e w' => e = .returned (.bool r) ∧ Below w.heap.size w w' :=
  is_core a0_0 a0_1 a0_2 a0_3 w r _ _ _ _ rfl rfl rfl rfl (Option.some.inj h)
end Go.Proofs.YtkmddhljfjjglaaDoor.G
