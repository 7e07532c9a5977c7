/- An offset is as much less as the clock was slewed since. No conditions. -/
import Derived.Test.YtnagappcpmnkbaaLSm
import Derived.Test.YtnagappcpmnkbaaGx18
namespace Go.Proofs.Ytnagappcpmnkbaa.Pure
open Go.RowKit Go.Proofs.Ytnagappcpmnkbaa.G Go.Proofs.YtnagappcpmnkbaaW.PrintWords Go.Proofs.YtnagappcpmnkbaaW.PrintLast Go.Proofs.YtnagappcpmnkbaaW.PrintMore Go.Proofs.Ytnagappcpmnkbaa.L
set_option linter.unusedVariables false
set_option linter.unusedSimpArgs false
theorem SampleSlews (o d t s b m : Int) (w0 : (Lit.int .i64 o).wf = true) (w1 : (Lit.int .i64 d).wf = true) (w2 : (Lit.int .i64 t).wf = true) (w3 : (Lit.int .i64 s).wf = true) (w4 : (Lit.int .i32 b).wf = true) (w5 : (Lit.int .i32 m).wf = true) : ∃ k, chronobatelaw08_SampleSlews.f k o d t s b m = some true := by
  have hb := wf_i32 w4
  have hm := wf_i32 w5
  have ho := tmod_range o 1152921504606846976 (by omega)
  have hs := tmod_range s 1152921504606846976 (by omega)
  refine ⟨30, ?_⟩
  unfold chronobatelaw08_SampleSlews.f
  generalize Int.tmod o 1152921504606846976 = p at *
  generalize Int.tmod s 1152921504606846976 = q at *
  have i0 : I64 p := by unfold I64; omega
  have i1 : I64 q := by unfold I64; omega
  have i2 : I64 (q + b) := by unfold I64; omega
  have i3 : I64 (q + b + m) := by unfold I64; omega
  rw [w64_id (n := b) (by unfold I64; omega), w64_id (n := m) (by unfold I64; omega), w64_id i2, w64_id i3, sample_Now_eq i0 i1 i2, bsome, alive8 30 (by omega), bsome, if_pos rfl, sample_Now_eq i0 i1 i1, bsome, sample_Now_eq i0 i1 i3, bsome]
  rw [show q + b - q = b by omega, show q - q = 0 by omega, show q + b + m - q = b + m by omega, clamp_id (n := b) (by unfold I64; omega), clamp_id (n := 0) (by unfold I64; omega), clamp_id (n := b + m) (by unfold I64; omega), clamp_id (n := p - b) (by unfold I64; omega), clamp_id (n := p - 0) (by unfold I64; omega), clamp_id (n := p - (b + m)) (by unfold I64; omega), w64_id (n := p - b) (by unfold I64; omega), w64_id (n := p - b - m) (by unfold I64; omega), if_pos (by omega), if_pos rfl, show p - (b + m) = p - b - m by omega, beq_self_eq_true]
end Go.Proofs.Ytnagappcpmnkbaa.Pure
