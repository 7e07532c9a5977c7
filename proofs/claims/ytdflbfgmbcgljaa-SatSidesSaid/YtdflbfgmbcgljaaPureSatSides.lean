/- A difference is the sum with the other sign, but of the least number; what is kept between two ends in order is between them, and stays when kept again. No conditions. -/
import Derived.Test.YtdflbfgmbcgljaaLAl1
namespace Go.Proofs.Ytdflbfgmbcgljaa.Pure
open Go.RowKit Go.Proofs.Ytdflbfgmbcgljaa.G Go.Proofs.YtdflbfgmbcgljaaW.PrintWords Go.Proofs.YtdflbfgmbcgljaaW.PrintLast Go.Proofs.YtdflbfgmbcgljaaW.PrintMore Go.Proofs.Ytdflbfgmbcgljaa.L
set_option linter.unusedVariables false
set_option linter.unusedSimpArgs false
theorem SatSides : chronobatelaw01_SatSides.Pure := by
  intro a b c w0 w1 w2
  have h0 := i64_of_wf w0
  have h1 := i64_of_wf w1
  have h0' := h0
  have h1' := h1
  unfold I64 at h0' h1'
  refine ⟨100, ?_⟩
  have tail : chronobatelaw01_SatSides.j0 100 a b false = some true := by
    simp only [chronobatelaw01_SatSides.j0, Bool.false_eq_true, if_false]
    rw [alive1 99 (by omega), sat_Sub_eq h0 h1, sat_Neg_eq h1]
    simp only [Option.bind_some, if_true]
    by_cases hb : b = -9223372036854775808
    · rw [if_pos hb]
    · rw [if_neg hb, sat_Add_eq h0 (clamp_range _), clamp_id (n := -b) (by unfold I64; omega)]
      simp only [Option.bind_some]
      rw [show a + -b = a - b by omega]
      simp
  unfold chronobatelaw01_SatSides.f
  rw [sat_Clamp_eq]
  simp only [Option.bind_some]
  have hmm : mn b c ≤ mx b c := by unfold mn mx; split <;> split <;> omega
  generalize mn b c = lo at *
  generalize mx b c = hi at *
  have hk : lo ≤ (if a < lo then lo else if a > hi then hi else a) ∧ (if a < lo then lo else if a > hi then hi else a) ≤ hi ∧ ((a ≥ lo ∧ a ≤ hi) ↔ (if a < lo then lo else if a > hi then hi else a) = a) := by
    split
    · omega
    · split <;> omega
  generalize (if a < lo then lo else if a > hi then hi else a) = k at *
  rw [if_neg (by omega), if_neg (by omega), sat_Clamp_eq, if_neg (by omega), if_neg (by omega)]
  simp only [Option.bind_some, if_true]
  by_cases ha : a ≥ lo
  · rw [if_pos ha]
    have e : (decide (a ≤ hi) != (k == a)) = false := by
      by_cases h : a ≤ hi
      · have : k = a := by omega
        subst this
        simp [h]
      · have : k ≠ a := by omega
        simp [h, this]
    rw [e]
    exact tail
  · rw [if_neg ha]
    have : k ≠ a := by omega
    have e : (false != (k == a)) = false := by simp [this]
    rw [e]
    exact tail
end Go.Proofs.Ytdflbfgmbcgljaa.Pure
