/- What was added and taken away again is there, where nothing stops; a sum is never on the wrong side. No conditions. -/
import Derived.Test.YtdflbfgmbcgljaaLAl1
namespace Go.Proofs.Ytdflbfgmbcgljaa.Pure
open Go.RowKit Go.Proofs.Ytdflbfgmbcgljaa.G Go.Proofs.YtdflbfgmbcgljaaW.PrintWords Go.Proofs.YtdflbfgmbcgljaaW.PrintLast Go.Proofs.YtdflbfgmbcgljaaW.PrintMore Go.Proofs.Ytdflbfgmbcgljaa.L
set_option linter.unusedVariables false
set_option linter.unusedSimpArgs false
theorem SatBacks : chronobatelaw01_SatBacks.Pure := by
  intro a b w0 w1
  have h0 := i64_of_wf w0
  have h1 := i64_of_wf w1
  have h0' := h0
  have h1' := h1
  unfold I64 at h0' h1'
  refine ⟨100, ?_⟩
  have hs := clamp_range (a + b)
  have hab : clamp (a + b) = a + b ∨ clamp (a + b) = 9223372036854775807 ∧ a + b > 9223372036854775807 ∨ clamp (a + b) = -9223372036854775808 ∧ a + b < -9223372036854775808 := by
    unfold clamp
    split
    · omega
    · split <;> omega
  have habs : 0 ≤ (if a < 0 then clamp (-a) else a) := by unfold clamp; split <;> (try split) <;> (try split) <;> omega
  have hz : clamp (a - a) = 0 := by rw [Int.sub_self]; rfl
  have tail : chronobatelaw01_SatBacks.j0 100 a b (clamp (a + b)) false = some true := by
    simp only [chronobatelaw01_SatBacks.j0, Bool.false_eq_true, if_false]
    rw [alive1 99 (by omega), sat_Add_eq h1 h0, sat_Abs_eq h0, sat_Sub_eq h0 h0, Int.add_comm b a]
    simp only [Option.bind_some, if_true]
    rw [if_pos habs, hz]
    by_cases hb : b < 0
    · rw [if_pos hb, if_neg (by omega), if_pos (by omega)]
      rfl
    · rw [if_neg hb, if_pos (by omega)]
      by_cases hb2 : b > 0
      · rw [if_pos hb2]
        rfl
      · rw [if_neg hb2, if_pos (by omega)]
        rfl
  unfold chronobatelaw01_SatBacks.f
  rw [sat_Add_eq h0 h1]
  simp only [Option.bind_some]
  by_cases e1 : clamp (a + b) = 9223372036854775807
  · rw [if_pos e1]
    exact tail
  · rw [if_neg e1]
    by_cases e2 : clamp (a + b) = -9223372036854775808
    · rw [if_pos e2]
      exact tail
    · rw [if_neg e2]
      have e3 : clamp (a + b) = a + b := by omega
      rw [sat_Sub_eq hs h1, sat_Sub_eq hs h0]
      simp only [Option.bind_some]
      have e4 : clamp (clamp (a + b) - b) = a := by rw [e3, clamp_id (by unfold I64; omega)]; omega
      have e5 : clamp (clamp (a + b) - a) = b := by rw [e3, clamp_id (by unfold I64; omega)]; omega
      rw [e4, e5, if_pos rfl, show (b != b) = false by simp]
      exact tail
end Go.Proofs.Ytdflbfgmbcgljaa.Pure
