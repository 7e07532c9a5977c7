/- Twice a half is the number, or 1 less; a product with 0 is 0; as much as the divisor leaves the number. No conditions. -/
import Derived.Test.YtdflbfgmbcgljaaLAl1
namespace Go.Proofs.Ytdflbfgmbcgljaa.Pure
open Go.RowKit Go.Proofs.Ytdflbfgmbcgljaa.G Go.Proofs.YtdflbfgmbcgljaaW.PrintWords Go.Proofs.YtdflbfgmbcgljaaW.PrintLast Go.Proofs.YtdflbfgmbcgljaaW.PrintMore Go.Proofs.Ytdflbfgmbcgljaa.L
set_option linter.unusedVariables false
set_option linter.unusedSimpArgs false
theorem SatTwice : chronobatelaw01_SatTwice.Pure := by
  intro a c w0 w1
  have h0 := i64_of_wf w0
  have h1 := i64_of_wf w1
  refine ⟨100, ?_⟩
  unfold chronobatelaw01_SatTwice.f
  have hc : I64 (mx 1 c) := by unfold I64 at h1 ⊢; unfold mx; split <;> omega
  have hp : 1 ≤ mx 1 c := by unfold mx; split <;> omega
  rw [alive1 100 (by omega), sat_Half_eq, sat_MulDiv_eq 100 (by omega) h0 (by unfold I64; omega) hc (by omega) hp, sat_MulDiv_eq 100 (by omega) h0 hc hc (by omega) hp]
  simp only [Option.bind_some]
  unfold I64 at h0
  rw [if_neg (by simp only [wu64]; omega)]
  simp only [if_true]
  unfold md
  rw [Int.mul_ediv_cancel _ (by omega), clamp_id (n := a) (by unfold I64; omega), Int.mul_zero, Int.zero_ediv, if_pos (by decide), if_pos rfl]
  rfl
end Go.Proofs.Ytdflbfgmbcgljaa.Pure
