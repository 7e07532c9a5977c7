/- A sample is fresh from when it came on, for its life, and no longer. No conditions. -/
import Derived.Test.YtnagappcpmnkbaaLSm
import Derived.Test.YtnagappcpmnkbaaGx20
namespace Go.Proofs.Ytnagappcpmnkbaa.Pure
open Go.RowKit Go.Proofs.Ytnagappcpmnkbaa.G Go.Proofs.YtnagappcpmnkbaaW.PrintWords Go.Proofs.YtnagappcpmnkbaaW.PrintLast Go.Proofs.YtnagappcpmnkbaaW.PrintMore Go.Proofs.Ytnagappcpmnkbaa.L
set_option linter.unusedVariables false
set_option linter.unusedSimpArgs false
theorem SampleLife (o d t s l : Int) (w0 : (Lit.int .i64 o).wf = true) (w1 : (Lit.int .i64 d).wf = true) (w2 : (Lit.int .i64 t).wf = true) (w3 : (Lit.int .i64 s).wf = true) (w4 : (Lit.int .u32 l).wf = true) : ∃ k, chronobatelaw08_SampleLife.f k o d t s l = some true := by
  have hl := wf_u32' w4
  have ht := tmod_range t 1152921504606846976 (by omega)
  refine ⟨30, ?_⟩
  unfold chronobatelaw08_SampleLife.f
  generalize Int.tmod t 1152921504606846976 = q at *
  have i1 : I64 q := by unfold I64; omega
  have i2 : I64 (q + l) := by unfold I64; omega
  have i3 : I64 (q + l + 1) := by unfold I64; omega
  have i4 : I64 (q - 1) := by unfold I64; omega
  rw [alive8 30 (by omega), bsome, if_pos rfl, w64_id (n := l) (by unfold I64; omega), w64_id i2, w64_id i3, w64_id i4, sample_Fresh_eq i1 i1, bsome, sample_Fresh_eq i1 i2, bsome, sample_Fresh_eq i1 i3, bsome, sample_Fresh_eq i1 i4, bsome]
  rw [show q - q = 0 by omega, show q + l - q = l by omega, show q + l + 1 - q = l + 1 by omega, clamp_id (n := 0) (by unfold I64; omega), clamp_id (n := l) (by unfold I64; omega), clamp_id (n := l + 1) (by unfold I64; omega)]
  rw [if_pos (decide_eq_true ⟨by omega, by omega⟩), if_pos (decide_eq_true ⟨by omega, by omega⟩), if_neg (by rw [decide_eq_false (by omega)]; decide), decide_eq_false (by omega)]
  rfl
end Go.Proofs.Ytnagappcpmnkbaa.Pure
