/- How far two stamps are apart, and what is next to any nanoseconds, are the reference's. No conditions. -/
import Derived.Test.YtampkfchofijbaaLSt
namespace Go.Proofs.Ytampkfchofijbaa.Pure
open Go.RowKit Go.Proofs.Ytampkfchofijbaa.G Go.Proofs.YtampkfchofijbaaW.PrintWords Go.Proofs.YtampkfchofijbaaW.PrintLast Go.Proofs.YtampkfchofijbaaW.PrintMore Go.Proofs.Ytampkfchofijbaa.L
set_option linter.unusedVariables false
set_option linter.unusedSimpArgs false
theorem StampDiffs : chronobatelaw02_StampDiffs.Pure := by
  intro a b base w0 w1 w2
  have h0 := u64_of_wf w0
  have h1 := u64_of_wf w1
  have h2 := i64_of_wf w2
  refine ⟨100, ?_⟩
  unfold chronobatelaw02_StampDiffs.f
  rw [alive2 100 (by omega), stamp_Diff_eq 100 (by omega) h0 h1, ref2_Diff_eq h0 h1, stamp_Near_eq 100 (by omega) h2 h0, ref2_Near_eq 100 (by omega) h2 h0]
  simp
end Go.Proofs.Ytampkfchofijbaa.Pure
