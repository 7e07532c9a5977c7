/- Of any numbers the product, divided, is the reference's, or both tell that there is none. No conditions. -/
import Derived.Test.YtdflbfgmbcgljaaLAl1
namespace Go.Proofs.Ytdflbfgmbcgljaa.Pure
open Go.RowKit Go.Proofs.Ytdflbfgmbcgljaa.G Go.Proofs.YtdflbfgmbcgljaaW.PrintWords Go.Proofs.YtdflbfgmbcgljaaW.PrintLast Go.Proofs.YtdflbfgmbcgljaaW.PrintMore Go.Proofs.Ytdflbfgmbcgljaa.L
set_option linter.unusedVariables false
set_option linter.unusedSimpArgs false
theorem SatMuls : chronobatelaw01_SatMuls.Pure := by
  intro a b c w0 w1 w2
  have h0 := i64_of_wf w0
  have h1 := i64_of_wf w1
  have h2 := i64_of_wf w2
  refine ⟨100, ?_⟩
  unfold chronobatelaw01_SatMuls.f
  rw [alive1 100 (by omega)]
  by_cases h : b < 0 ∨ c < 1
  · rw [sat_MulDiv_bad 100 (by omega) h, ref1_MulDiv_bad 100 (by omega) h]
    rfl
  · rw [sat_MulDiv_eq 100 (by omega) h0 h1 h2 (by omega) (by omega), ref1_MulDiv 100 (by omega) h0 h1 h2 (by omega) (by omega)]
    simp
end Go.Proofs.Ytdflbfgmbcgljaa.Pure
