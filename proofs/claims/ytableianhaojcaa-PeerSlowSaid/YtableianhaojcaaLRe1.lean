/- Plain lemmas on the reference of layer 1: what each of its functions comes to. -/
import Derived.Test.YtableianhaojcaaLSa
namespace Go.Proofs.Ytableianhaojcaa.L
open Go.RowKit Go.Proofs.YtableianhaojcaaW.PrintWords Go.Proofs.YtableianhaojcaaW.PrintLast Go.Proofs.YtableianhaojcaaW.PrintMore Go.Proofs.Ytableianhaojcaa.G
set_option linter.unusedVariables false
set_option linter.unusedSimpArgs false

theorem ref1_Sub (k : Nat) (hk : 1 ≤ k) {a b : Int} (ha : I64 a) (hb : I64 b) : chronobateref01_Sub.f k a b = some (clamp (a - b)) := by
  obtain ⟨k, rfl⟩ : ∃ j, k = j + 1 := ⟨k - 1, by omega⟩
  unfold I64 at ha hb
  unfold chronobateref01_Sub.f
  by_cases h : b < 0
  · rw [if_pos h, w64_id (n := 9223372036854775807 + b) (by unfold I64; omega)]
    by_cases h2 : a > 9223372036854775807 + b
    · rw [show decide (a > 9223372036854775807 + b) = true from decide_eq_true h2]
      simp only [chronobateref01_Sub.j0, if_true]
      unfold clamp
      rw [if_pos (by omega)]
    · rw [show decide (a > 9223372036854775807 + b) = false from decide_eq_false h2]
      simp only [chronobateref01_Sub.j0, Bool.false_eq_true, if_false]
      rw [if_neg (by omega), w64_id (by unfold I64; omega), clamp_id (by unfold I64; omega)]
  · rw [if_neg h]
    simp only [chronobateref01_Sub.j0, Bool.false_eq_true, if_false]
    by_cases h2 : b > 0
    · rw [if_pos h2, w64_id (n := -9223372036854775808 + b) (by unfold I64; omega)]
      by_cases h3 : a < -9223372036854775808 + b
      · rw [if_pos h3]
        unfold clamp
        rw [if_neg (by omega), if_pos (by omega)]
      · rw [if_neg h3, w64_id (by unfold I64; omega), clamp_id (by unfold I64; omega)]
    · rw [if_neg h2, w64_id (by unfold I64; omega), clamp_id (by unfold I64; omega)]
theorem ref1_Half {a : Int} (ha : I64 a) : chronobateref01_Half.f a = some (a / 2) := by
  unfold I64 at ha
  unfold chronobateref01_Half.f
  by_cases h : a ≥ 0
  · rw [if_pos h, Int.tdiv_eq_ediv_of_nonneg h, w64_id (by unfold I64; omega)]
  · rw [if_neg h]
    have e1 : Int.tdiv a 2 = -((-a) / 2) := by
      rw [show a = -(-a) by omega, Int.neg_tdiv, Int.tdiv_eq_ediv_of_nonneg (by omega), Int.neg_neg]
    have e2 : Int.tmod a 2 = -((-a) % 2) := by
      rw [show a = -(-a) by omega, Int.neg_tmod, Int.tmod_eq_emod_of_nonneg (by omega), Int.neg_neg]
    rw [e1, e2]
    by_cases h2 : -((-a) % 2) = 0
    · rw [if_pos h2, w64_id (by unfold I64; omega)]
      congr 1
      omega
    · rw [if_neg h2, w64_id (n := -((-a) / 2)) (by unfold I64; omega), w64_id (by unfold I64; omega)]
      congr 1
      omega
theorem ref1_Mid {a b : Int} (ha : I64 a) (hb : I64 b) : chronobateref01_Mid.f a b = some ((a + b) / 2) := by
  have ha' := ha
  have hb' := hb
  unfold I64 at ha' hb'
  unfold chronobateref01_Mid.f
  rw [ref1_Half ha, ref1_Half hb]
  simp only [Option.bind_some]
  rw [w64_id (n := 2 * (a / 2)) (by unfold I64; omega), w64_id (n := 2 * (b / 2)) (by unfold I64; omega), w64_id (n := a - 2 * (a / 2)) (by unfold I64; omega), w64_id (n := b - 2 * (b / 2)) (by unfold I64; omega), w64_id (n := a - 2 * (a / 2) + (b - 2 * (b / 2))) (by unfold I64; omega), ref1_Half (by unfold I64; omega)]
  simp only [Option.bind_some]
  rw [w64_id (n := a / 2 + b / 2) (by unfold I64; omega), w64_id (by unfold I64; omega)]
  congr 1
  omega
end Go.Proofs.Ytableianhaojcaa.L
