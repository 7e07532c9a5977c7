/- Of any two numbers the sum, the difference, the other sign, the size and the halves are the reference's. No conditions. -/
import Derived.Test.YtdflbfgmbcgljaaLAl1
namespace Go.Proofs.Ytdflbfgmbcgljaa.Pure
open Go.RowKit Go.Proofs.Ytdflbfgmbcgljaa.G Go.Proofs.YtdflbfgmbcgljaaW.PrintWords Go.Proofs.YtdflbfgmbcgljaaW.PrintLast Go.Proofs.YtdflbfgmbcgljaaW.PrintMore Go.Proofs.Ytdflbfgmbcgljaa.L
set_option linter.unusedVariables false
set_option linter.unusedSimpArgs false
theorem SatAdds : chronobatelaw01_SatAdds.Pure := by
  intro a b w0 w1
  have h0 := i64_of_wf w0
  have h1 := i64_of_wf w1
  refine ⟨100, ?_⟩
  unfold chronobatelaw01_SatAdds.f
  rw [alive1 100 (by omega), sat_Add_eq h0 h1, ref1_Add 100 (by omega) h0 h1, sat_Sub_eq h0 h1, ref1_Sub 100 (by omega) h0 h1, sat_Neg_eq h0, ref1_Neg 100 (by omega) h0, sat_Abs_eq h0, ref1_Abs 100 (by omega) h0, sat_Half_eq, ref1_Half h0, sat_Mid_eq h0 h1, ref1_Mid h0 h1]
  simp
end Go.Proofs.Ytdflbfgmbcgljaa.Pure
