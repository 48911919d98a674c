/- Short names, for the longest of the printed texts alone (a claim's file has at most 300,000 bytes). -/
import Derived.Test.YtiodlbfdfnideaaDoorF11
namespace Go.Proofs.YtiodlbfdfnideaaDoor.G
open Go.RowKit Go.Proofs.YtiodlbfdfnideaaDoorW.PrintWords Go.Proofs.YtiodlbfdfnideaaDoorW.PrintLast Go.Proofs.YtiodlbfdfnideaaDoorW.PrintMore
theorem bA : type_of% @below_alloc := @below_alloc
theorem bN : type_of% @pw_below_drewN := @pw_below_drewN
theorem bD : type_of% @below_drew1 := @below_drew1
theorem rA : type_of% @Kd.R_alloc := @Kd.R_alloc
theorem rN : type_of% @Kd.R_drewN := @Kd.R_drewN
theorem rD : type_of% @Kd.R_drew := @Kd.R_drew
theorem cA : type_of% @Kd.C_alloc := @Kd.C_alloc
theorem cN : type_of% @Kd.C_drewN := @Kd.C_drewN
theorem cD : type_of% @Kd.C_drew := @Kd.C_drew
theorem sT : type_of% @List.setIfInBounds_toArray := @List.setIfInBounds_toArray
theorem s0 : type_of% @List.set_cons_zero := @List.set_cons_zero
theorem sS : type_of% @List.set_cons_succ := @List.set_cons_succ
theorem oT : type_of% @of_decide_eq_true := @of_decide_eq_true
theorem bZ : type_of% @below_size := @below_size
theorem rB : type_of% @Kd.R_below := @Kd.R_below
theorem rL : type_of% @Kd.R_lower := @Kd.R_lower
theorem rT : type_of% @Kd.R_lt := @Kd.R_lt
theorem rR : type_of% @Kd.R_reads' := @Kd.R_reads'
theorem cB : type_of% @Kd.C_below := @Kd.C_below
theorem m0 {p : Prop} (h : p) : Aside0 p := ⟨h⟩
end Go.Proofs.YtiodlbfdfnideaaDoor.G
