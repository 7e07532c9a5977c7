/- What is divided by what it is multiplied with is itself; a greater number's part is no less; two parts that come to all sum to the number, or 1 less. No conditions. -/
import Derived.Test.YtdflbfgmbcgljaaLAl1
namespace Go.Proofs.Ytdflbfgmbcgljaa.Pure
open Go.RowKit Go.Proofs.Ytdflbfgmbcgljaa.G Go.Proofs.YtdflbfgmbcgljaaW.PrintWords Go.Proofs.YtdflbfgmbcgljaaW.PrintLast Go.Proofs.YtdflbfgmbcgljaaW.PrintMore Go.Proofs.Ytdflbfgmbcgljaa.L
set_option linter.unusedVariables false
set_option linter.unusedSimpArgs false
theorem u32_of_wf {n : Int} (h : (Lit.int .u32 n).wf = true) : 0 ≤ n ∧ n ≤ 4294967295 := by
  have hmin : IntKind.u32.min = 0 := rfl
  have hmax : IntKind.u32.max = 4294967295 := rfl
  simp only [Lit.wf, Bool.and_eq_true, decide_eq_true_eq] at h
  omega
/-- A part of a number lies between it and 0. -/
theorem part_between {a n c : Int} (h0 : 0 ≤ n) (h1 : n ≤ c) (hc : 0 < c) : (0 ≤ a → 0 ≤ a * n / c ∧ a * n / c ≤ a) ∧ (a ≤ 0 → a ≤ a * n / c ∧ a * n / c ≤ 0) := by
  refine ⟨fun h => ⟨Int.ediv_nonneg (Int.mul_nonneg h h0) (by omega), ?_⟩, fun h => ⟨?_, ?_⟩⟩
  · apply Int.ediv_le_of_le_mul hc
    exact Int.mul_le_mul_of_nonneg_left h1 h
  · apply Int.le_ediv_of_mul_le hc
    exact Int.mul_le_mul_of_nonpos_left h h1
  · apply Int.ediv_le_of_le_mul hc
    rw [Int.zero_mul]
    exact Int.mul_nonpos_of_nonpos_of_nonneg h h0
theorem part_range {a n c : Int} (ha : I64 a) (h0 : 0 ≤ n) (h1 : n ≤ c) (hc : 0 < c) : I64 (a * n / c) := by
  have h := part_between (a := a) h0 h1 hc
  unfold I64 at ha ⊢
  by_cases h2 : 0 ≤ a
  · have := h.1 h2
    omega
  · have := h.2 (by omega)
    omega
theorem SatParts (a b p q : Int) (w0 : (Lit.int .i64 a).wf = true) (w1 : (Lit.int .i64 b).wf = true) (w2 : (Lit.int .u32 p).wf = true) (w3 : (Lit.int .u32 q).wf = true) : ∃ k, chronobatelaw01_SatParts.f k a b p q = some true := by
  have h0 := i64_of_wf w0
  have h1 := i64_of_wf w1
  have h2 := u32_of_wf w2
  have h3 := u32_of_wf w3
  refine ⟨100, ?_⟩
  unfold chronobatelaw01_SatParts.f
  have hlo : I64 (mn a b) := by unfold I64 at h0 h1 ⊢; unfold mn; split <;> omega
  have hhi : I64 (mx a b) := by unfold I64 at h0 h1 ⊢; unfold mx; split <;> omega
  have hle : mn a b ≤ mx a b := by unfold mn mx; split <;> split <;> omega
  rw [w64_id (n := q) (by unfold I64; omega), w64_id (n := p) (by unfold I64; omega), w64_id (n := q + 1) (by unfold I64; omega), w64_id (n := q + 1 + 1) (by unfold I64; omega), if_neg (by omega)]
  have hn0 : 0 ≤ Int.tmod p (q + 1 + 1) := Int.tmod_nonneg _ h2.1
  have hn1 : Int.tmod p (q + 1 + 1) < q + 1 + 1 := by rw [Int.tmod_eq_emod_of_nonneg h2.1]; exact Int.emod_lt_of_pos _ (by omega)
  generalize hn : Int.tmod p (q + 1 + 1) = n at *
  generalize hc : q + 1 = c at *
  have hc1 : 1 ≤ c := by omega
  have hcI : I64 c := by unfold I64; omega
  have hnI : I64 n := by unfold I64; omega
  rw [w64_id (n := c - n) (by unfold I64; omega)]
  rw [alive1 100 (by omega), sat_MulDiv_eq 100 (by omega) hlo hnI hcI hn0 hc1, sat_MulDiv_eq 100 (by omega) hhi hnI hcI hn0 hc1, sat_MulDiv_eq 100 (by omega) h0 hcI hcI (by omega) hc1, sat_MulDiv_eq 100 (by omega) h0 hnI hcI hn0 hc1, sat_MulDiv_eq 100 (by omega) h0 (b := c - n) (by unfold I64; omega) hcI (by omega) hc1]
  simp only [Option.bind_some, if_true]
  unfold md
  have e1 := part_between (a := a) hn0 (show n ≤ c by omega) (show 0 < c by omega)
  have e2 : mn a b * n / c ≤ mx a b * n / c := Int.ediv_le_ediv (by omega) (Int.mul_le_mul_of_nonneg_right hle hn0)
  rw [clamp_id (part_range hlo hn0 (by omega) (by omega)), clamp_id (part_range hhi hn0 (by omega) (by omega)), Int.mul_ediv_cancel _ (by omega), clamp_id h0, clamp_id (part_range h0 hn0 (by omega) (by omega)), clamp_id (part_range h0 (n := c - n) (by omega) (by omega) (by omega))]
  rw [if_neg (by omega), if_pos rfl]
  have hx : a * n / c + a * (c - n) / c = a ∨ a * n / c + a * (c - n) / c = a - 1 := by
    have e3 : a * (c - n) = -(a * n) + c * a := by rw [Int.mul_sub, Int.mul_comm a c]; omega
    rw [e3, Int.add_mul_ediv_left _ _ (by omega), neg_ediv (by omega)]
    split <;> omega
  have hm : mn a 0 ≤ a * n / c ∧ a * n / c ≤ mx a 0 := by
    by_cases h : 0 ≤ a
    · have := e1.1 h
      unfold mn mx
      split <;> split <;> omega
    · have := e1.2 (by omega)
      unfold mn mx
      split <;> split <;> omega
  rw [if_neg (by omega), if_neg (by omega)]
  unfold I64 at h0
  rcases hx with hx | hx
  · rw [hx, w64_id (n := a) (by unfold I64; omega), if_pos rfl]
  · rw [hx]
    split
    · rfl
    · simp
end Go.Proofs.Ytdflbfgmbcgljaa.Pure
