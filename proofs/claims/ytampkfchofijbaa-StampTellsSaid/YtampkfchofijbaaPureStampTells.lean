/- Of any nanoseconds the stamp, and of any stamp the nanoseconds, are the reference's. No conditions. -/
import Derived.Test.YtampkfchofijbaaLSt
namespace Go.Proofs.Ytampkfchofijbaa.Pure
open Go.RowKit Go.Proofs.Ytampkfchofijbaa.G Go.Proofs.YtampkfchofijbaaW.PrintWords Go.Proofs.YtampkfchofijbaaW.PrintLast Go.Proofs.YtampkfchofijbaaW.PrintMore Go.Proofs.Ytampkfchofijbaa.L
set_option linter.unusedVariables false
set_option linter.unusedSimpArgs false
theorem StampTells : chronobatelaw02_StampTells.Pure := by
  intro a s w0 w1
  have h0 := i64_of_wf w0
  have h1 := u64_of_wf w1
  refine ⟨100, ?_⟩
  unfold chronobatelaw02_StampTells.f
  rw [alive2 100 (by omega), stamp_From_eq 100 (by omega) h0, ref2_From_eq h0, stamp_Ns_eq h1, ref2_Ns_eq h1]
  simp
end Go.Proofs.Ytampkfchofijbaa.Pure
