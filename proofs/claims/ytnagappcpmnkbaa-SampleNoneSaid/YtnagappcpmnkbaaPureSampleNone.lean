/- Stamps of the clock's own times tell that it isn't off; twice the same answer tells the same. No conditions. -/
import Derived.Test.YtnagappcpmnkbaaLSm
import Derived.Test.YtnagappcpmnkbaaGx16
namespace Go.Proofs.Ytnagappcpmnkbaa.Pure
open Go.RowKit Go.Proofs.Ytnagappcpmnkbaa.G Go.Proofs.YtnagappcpmnkbaaW.PrintWords Go.Proofs.YtnagappcpmnkbaaW.PrintLast Go.Proofs.YtnagappcpmnkbaaW.PrintMore Go.Proofs.Ytnagappcpmnkbaa.L
set_option linter.unusedVariables false
set_option linter.unusedSimpArgs false
theorem SampleNone : chronobatelaw08_SampleNone.Pure := by
  intro s by_ w0 w1
  have hb := wf_u32' w1
  have ht := tmod_range s 576460752303423488 (by omega)
  refine ⟨30, ?_⟩
  unfold chronobatelaw08_SampleNone.f
  generalize Int.tmod s 576460752303423488 = t at *
  have i1 : I64 t := by unfold I64; omega
  have i2 : I64 (t + by_) := by unfold I64; omega
  rw [w64_id (n := by_) (by unfold I64; omega), w64_id i2, stamp_From_eq 30 (by omega) i1, bsome, stamp_From_eq 30 (by omega) i2, bsome, sample_Make_eq 30 (by omega) i1 i2 (fr_range _) (fr_range _), bsome, bsome, alive8 30 (by omega), bsome, df_self, df_self]
  have e := df_near t by_ (by omega) (by omega)
  have e3 : t + by_ - t = by_ := by omega
  rw [e3, clamp_id (n := by_) (by unfold I64; omega), clamp_id (n := by_ - df (fr (t + by_)) (fr t)) (by unfold I64; omega), mx0]
  generalize df (fr (t + by_)) (fr t) = q at *
  simp only [if_true]
  rw [if_pos (by decide), if_pos (by decide), if_pos (by split <;> omega), if_pos (by split <;> omega), beq_self_eq_true]
end Go.Proofs.Ytnagappcpmnkbaa.Pure
