/- A factor below 0 is refused, and a divisor below 1. No conditions. -/
import Derived.Test.YtdflbfgmbcgljaaLAl1
namespace Go.Proofs.Ytdflbfgmbcgljaa.Pure
open Go.RowKit Go.Proofs.Ytdflbfgmbcgljaa.G Go.Proofs.YtdflbfgmbcgljaaW.PrintWords Go.Proofs.YtdflbfgmbcgljaaW.PrintLast Go.Proofs.YtdflbfgmbcgljaaW.PrintMore Go.Proofs.Ytdflbfgmbcgljaa.L
set_option linter.unusedVariables false
set_option linter.unusedSimpArgs false
theorem SatAgain : chronobatelaw01_SatAgain.Pure := by
  intro a b c w0 w1 w2
  refine ⟨100, ?_⟩
  unfold chronobatelaw01_SatAgain.f
  rw [alive1 100 (by omega), sat_MulDiv_bad 100 (by omega) (a := a) (b := mn b (-1)) (.inl (by unfold mn; split <;> omega)), sat_MulDiv_bad 100 (by omega) (a := a) (c := mn c 0) (.inr (by unfold mn; split <;> omega))]
  rfl
end Go.Proofs.Ytdflbfgmbcgljaa.Pure
