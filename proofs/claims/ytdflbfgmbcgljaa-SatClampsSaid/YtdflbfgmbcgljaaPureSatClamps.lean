/- Of any number and any ends what is kept between is the reference's. No conditions. -/
import Derived.Test.YtdflbfgmbcgljaaLAl1
namespace Go.Proofs.Ytdflbfgmbcgljaa.Pure
open Go.RowKit Go.Proofs.Ytdflbfgmbcgljaa.G Go.Proofs.YtdflbfgmbcgljaaW.PrintWords Go.Proofs.YtdflbfgmbcgljaaW.PrintLast Go.Proofs.YtdflbfgmbcgljaaW.PrintMore Go.Proofs.Ytdflbfgmbcgljaa.L
set_option linter.unusedVariables false
set_option linter.unusedSimpArgs false
theorem SatClamps : chronobatelaw01_SatClamps.Pure := by
  intro a b c w0 w1 w2
  refine ⟨100, ?_⟩
  unfold chronobatelaw01_SatClamps.f
  rw [alive1 100 (by omega), sat_Clamp_eq]
  unfold chronobateref01_Clamp.f
  simp only [Option.bind_some, if_true]
  by_cases h : a < b
  · simp [h]
  · by_cases h2 : a > c <;> simp [h, h2]
end Go.Proofs.Ytdflbfgmbcgljaa.Pure
