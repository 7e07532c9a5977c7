/- A middle lies between both numbers, is the same the other way about, and no nearer to the one than by 1 more; a half is the middle with 0. No conditions. -/
import Derived.Test.YtdflbfgmbcgljaaLAl1
namespace Go.Proofs.Ytdflbfgmbcgljaa.Pure
open Go.RowKit Go.Proofs.Ytdflbfgmbcgljaa.G Go.Proofs.YtdflbfgmbcgljaaW.PrintWords Go.Proofs.YtdflbfgmbcgljaaW.PrintLast Go.Proofs.YtdflbfgmbcgljaaW.PrintMore Go.Proofs.Ytdflbfgmbcgljaa.L
set_option linter.unusedVariables false
set_option linter.unusedSimpArgs false
theorem SatMiddles : chronobatelaw01_SatMiddles.Pure := by
  intro a b w0 w1
  have h0 := i64_of_wf w0
  have h1 := i64_of_wf w1
  refine ⟨100, ?_⟩
  unfold chronobatelaw01_SatMiddles.f
  rw [alive1 100 (by omega), sat_Mid_eq h0 h1, sat_Mid_eq h1 h0, sat_Half_eq, sat_Mid_eq h0 (by unfold I64; omega), sat_Mid_eq h0 h0]
  simp only [Option.bind_some]
  unfold I64 at h0 h1
  have hlo : mn a b ≤ (a + b) / 2 := by unfold mn; split <;> omega
  have hhi : (a + b) / 2 ≤ mx a b := by unfold mx; split <;> omega
  have hsum : mn a b + mx a b = a + b := by unfold mn mx; split <;> split <;> omega
  have hr1 : -9223372036854775808 ≤ mn a b := by unfold mn; split <;> omega
  have hr2 : mx a b ≤ 9223372036854775807 := by unfold mx; split <;> omega
  rw [if_neg (by omega), if_neg (by omega), if_pos (by omega), if_pos (by omega), if_pos (by omega)]
  simp only [if_true]
  simp only [wu64]
  generalize mn a b = lo at *
  generalize mx a b = hi at *
  split
  · rfl
  · refine congrArg some ?_
    rw [beq_iff_eq]
    omega
end Go.Proofs.Ytdflbfgmbcgljaa.Pure
