/- Plain lemmas on samples: how far off a clock is, how long an answer took. No conditions. -/
import Derived.Test.YtnagappcpmnkbaaLSt
import Derived.Test.YtnagappcpmnkbaaGx8
import Derived.Test.YtnagappcpmnkbaaGx13
namespace Go.Proofs.Ytnagappcpmnkbaa.L
open Go.RowKit Go.Proofs.Ytnagappcpmnkbaa.G Go.Proofs.YtnagappcpmnkbaaW.PrintWords Go.Proofs.YtnagappcpmnkbaaW.PrintLast Go.Proofs.YtnagappcpmnkbaaW.PrintMore
set_option linter.unusedVariables false
set_option linter.unusedSimpArgs false
theorem df_i64 (a b : Int) : I64 (df a b) := by
  have h := df_range a b
  unfold I64
  omega
theorem mx0 (x : Int) : mx 0 x = if x < 0 then 0 else x := by
  unfold mx
  split <;> split <;> omega
theorem sample_Make_eq (k : Nat) (hk : 30 ≤ k) {s c r x : Int} (hs : I64 s) (hc : I64 c) (hr : U64 r) (hx : U64 x) :
    sample_Make.f k s c r x = some ((df r (fr s) + df x (fr c)) / 2, mx 0 (clamp (clamp (c - s) - df x r))) := by
  unfold sample_Make.f
  rw [stamp_From_eq k hk hs, bsome, stamp_Diff_eq k hk hr (fr_range _), bsome, stamp_From_eq k hk hc, bsome, stamp_Diff_eq k hk hx (fr_range _), bsome, sat_Sub_eq hc hs, bsome, stamp_Diff_eq k hk hx hr, bsome, sat_Sub_eq (clamp_range _) (df_i64 _ _), bsome, sat_Mid_eq (df_i64 _ _) (df_i64 _ _), bsome]
theorem alive8 (k : Nat) (hk : 30 ≤ k) : chronobatelaw08_alive.f k = some true := by
  unfold chronobatelaw08_alive.f
  rw [stamp_From_eq k hk (by unfold I64; omega), bsome, sample_Make_eq k hk (by unfold I64; omega) (by unfold I64; omega) (fr_range _) (fr_range _), bsome]
  decide +kernel
end Go.Proofs.Ytnagappcpmnkbaa.L
