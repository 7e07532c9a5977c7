/- Of any samples, and any numbers, the offset now, whether they are fresh, and which is better are what the reference says. No conditions. -/
import Derived.Test.YtnagappcpmnkbaaLSm
import Derived.Test.YtnagappcpmnkbaaGx10
namespace Go.Proofs.Ytnagappcpmnkbaa.Pure
open Go.RowKit Go.Proofs.Ytnagappcpmnkbaa.G Go.Proofs.YtnagappcpmnkbaaW.PrintWords Go.Proofs.YtnagappcpmnkbaaW.PrintLast Go.Proofs.YtnagappcpmnkbaaW.PrintMore Go.Proofs.Ytnagappcpmnkbaa.L
set_option linter.unusedVariables false
set_option linter.unusedSimpArgs false
theorem SampleNows (o d t s p e u v n0 n1 n2 : Int) (w0 : (Lit.int .i64 o).wf = true) (w1 : (Lit.int .i64 d).wf = true) (w2 : (Lit.int .i64 t).wf = true) (w3 : (Lit.int .i64 s).wf = true) (w4 : (Lit.int .i64 p).wf = true) (w5 : (Lit.int .i64 e).wf = true) (w6 : (Lit.int .i64 u).wf = true) (w7 : (Lit.int .i64 v).wf = true) (w8 : (Lit.int .i64 n0).wf = true) (w9 : (Lit.int .i64 n1).wf = true) (w10 : (Lit.int .i64 n2).wf = true) : ∃ k, chronobatelaw08_SampleNows.f k o d t s p e u v n0 n1 n2 = some true := by
  refine ⟨30, ?_⟩
  unfold chronobatelaw08_SampleNows.f
  rw [alive8 30 (by omega), bsome, if_pos rfl, sample_Now_eq (i64_of_wf w0) (i64_of_wf w3) (i64_of_wf w8), bsome, ref8_Now_eq 30 (by omega) (i64_of_wf w0) (i64_of_wf w3) (i64_of_wf w8), bsome, if_pos rfl, sample_Fresh_eq (i64_of_wf w2) (i64_of_wf w9), bsome, ref8_Fresh_eq 30 (by omega) (i64_of_wf w2) (i64_of_wf w9), bsome, beq_self_eq_true, if_pos rfl, sample_Better_eq, bsome, ref8_Better_eq, bsome, beq_self_eq_true]
end Go.Proofs.Ytnagappcpmnkbaa.Pure
