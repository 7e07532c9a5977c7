/- Plain lemmas on the reference of layer 1: what each of its functions comes to. -/
import Derived.Test.YtmniekljfhecaaaLSa
namespace Go.Proofs.Ytmniekljfhecaaa.L
open Go.RowKit Go.Proofs.YtmniekljfhecaaaW.PrintWords Go.Proofs.YtmniekljfhecaaaW.PrintLast Go.Proofs.YtmniekljfhecaaaW.PrintMore Go.Proofs.Ytmniekljfhecaaa.G
set_option linter.unusedVariables false
set_option linter.unusedSimpArgs false

theorem ref1_Add (k : Nat) (hk : 1 ≤ k) {a b : Int} (ha : I64 a) (hb : I64 b) : chronobateref01_Add.f k a b = some (clamp (a + b)) := by
  obtain ⟨k, rfl⟩ : ∃ j, k = j + 1 := ⟨k - 1, by omega⟩
  unfold I64 at ha hb
  unfold chronobateref01_Add.f
  by_cases h : b > 0
  · rw [if_pos h, w64_id (n := 9223372036854775807 - b) (by unfold I64; omega)]
    by_cases h2 : a > 9223372036854775807 - b
    · rw [show decide (a > 9223372036854775807 - b) = true from decide_eq_true h2]
      simp only [chronobateref01_Add.j0, if_true]
      unfold clamp
      rw [if_pos (by omega)]
    · rw [show decide (a > 9223372036854775807 - b) = false from decide_eq_false h2]
      simp only [chronobateref01_Add.j0, Bool.false_eq_true, if_false]
      rw [if_neg (by omega), w64_id (by unfold I64; omega), clamp_id (by unfold I64; omega)]
  · rw [if_neg h]
    simp only [chronobateref01_Add.j0, Bool.false_eq_true, if_false]
    by_cases h2 : b < 0
    · rw [if_pos h2, w64_id (n := -9223372036854775808 - b) (by unfold I64; omega)]
      by_cases h3 : a < -9223372036854775808 - b
      · rw [if_pos h3]
        unfold clamp
        rw [if_neg (by omega), if_pos (by omega)]
      · rw [if_neg h3, w64_id (by unfold I64; omega), clamp_id (by unfold I64; omega)]
    · rw [if_neg h2, w64_id (by unfold I64; omega), clamp_id (by unfold I64; omega)]
end Go.Proofs.Ytmniekljfhecaaa.L
