/- Plain lemmas on the reference of layer 1: what each of its functions comes to. -/
import Derived.Test.YtplkegifilheeaaLSa
namespace Go.Proofs.Ytplkegifilheeaa.L
open Go.RowKit Go.Proofs.YtplkegifilheeaaW.PrintWords Go.Proofs.YtplkegifilheeaaW.PrintLast Go.Proofs.YtplkegifilheeaaW.PrintMore Go.Proofs.Ytplkegifilheeaa.G
set_option linter.unusedVariables false
set_option linter.unusedSimpArgs false

theorem ref1_Sub (k : Nat) (hk : 1 ≤ k) {a b : Int} (ha : I64 a) (hb : I64 b) : chronobateref01_Sub.f k a b = some (clamp (a - b)) := by
  obtain ⟨k, rfl⟩ : ∃ j, k = j + 1 := ⟨k - 1, by omega⟩
  unfold I64 at ha hb
  unfold chronobateref01_Sub.f
  by_cases h : b < 0
  · rw [if_pos h, w64_id (n := 9223372036854775807 + b) (by unfold I64; omega)]
    by_cases h2 : a > 9223372036854775807 + b
    · rw [show decide (a > 9223372036854775807 + b) = true from decide_eq_true h2]
      simp only [chronobateref01_Sub.j0, if_true]
      unfold clamp
      rw [if_pos (by omega)]
    · rw [show decide (a > 9223372036854775807 + b) = false from decide_eq_false h2]
      simp only [chronobateref01_Sub.j0, Bool.false_eq_true, if_false]
      rw [if_neg (by omega), w64_id (by unfold I64; omega), clamp_id (by unfold I64; omega)]
  · rw [if_neg h]
    simp only [chronobateref01_Sub.j0, Bool.false_eq_true, if_false]
    by_cases h2 : b > 0
    · rw [if_pos h2, w64_id (n := -9223372036854775808 + b) (by unfold I64; omega)]
      by_cases h3 : a < -9223372036854775808 + b
      · rw [if_pos h3]
        unfold clamp
        rw [if_neg (by omega), if_pos (by omega)]
      · rw [if_neg h3, w64_id (by unfold I64; omega), clamp_id (by unfold I64; omega)]
    · rw [if_neg h2, w64_id (by unfold I64; omega), clamp_id (by unfold I64; omega)]
theorem ref1_Neg (k : Nat) (hk : 1 ≤ k) {a : Int} (ha : I64 a) : chronobateref01_Neg.f k a = some (clamp (-a)) := by
  unfold chronobateref01_Neg.f
  rw [ref1_Sub k hk (by unfold I64; omega) ha, Int.zero_sub]
  rfl
theorem ref1_Abs (k : Nat) (hk : 1 ≤ k) {a : Int} (ha : I64 a) : chronobateref01_Abs.f k a = some (if a < 0 then clamp (-a) else a) := by
  unfold chronobateref01_Abs.f
  by_cases h : a < 0
  · rw [if_pos h, if_pos h, ref1_Neg k hk ha]
    rfl
  · rw [if_neg h, if_neg h]
end Go.Proofs.Ytplkegifilheeaa.L
