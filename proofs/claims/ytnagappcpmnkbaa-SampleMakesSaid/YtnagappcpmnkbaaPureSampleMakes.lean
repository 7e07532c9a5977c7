/- Of any times and any stamps how far off the clock is, and how long it took, are what the reference says. No conditions. -/
import Derived.Test.YtnagappcpmnkbaaLSm
import Derived.Test.YtnagappcpmnkbaaGx14
namespace Go.Proofs.Ytnagappcpmnkbaa.Pure
open Go.RowKit Go.Proofs.Ytnagappcpmnkbaa.G Go.Proofs.YtnagappcpmnkbaaW.PrintWords Go.Proofs.YtnagappcpmnkbaaW.PrintLast Go.Proofs.YtnagappcpmnkbaaW.PrintMore Go.Proofs.Ytnagappcpmnkbaa.L
set_option linter.unusedVariables false
set_option linter.unusedSimpArgs false
theorem SampleMakes (s c r x : Int) (w0 : (Lit.int .i64 s).wf = true) (w1 : (Lit.int .i64 c).wf = true) (w2 : (Lit.int .u64 r).wf = true) (w3 : (Lit.int .u64 x).wf = true) : ∃ k, chronobatelaw08_SampleMakes.f k s c r x = some true := by
  refine ⟨30, ?_⟩
  unfold chronobatelaw08_SampleMakes.f
  rw [sample_Make_eq 30 (by omega) (i64_of_wf w0) (i64_of_wf w1) (u64_of_wf w2) (u64_of_wf w3), bsome, ref8_Make_eq 30 (by omega) (i64_of_wf w0) (i64_of_wf w1) (u64_of_wf w2) (u64_of_wf w3), bsome, alive8 30 (by omega), bsome, if_pos rfl, if_pos rfl, beq_self_eq_true]
end Go.Proofs.Ytnagappcpmnkbaa.Pure
