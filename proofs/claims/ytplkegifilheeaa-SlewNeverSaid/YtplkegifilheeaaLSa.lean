/- Plain lemmas on the numbers that stop at the ends: what each of the program's functions comes to. -/
import Derived.Test.YtplkegifilheeaaLDv
namespace Go.Proofs.Ytplkegifilheeaa.L
open Go.RowKit Go.Proofs.YtplkegifilheeaaW.PrintWords Go.Proofs.YtplkegifilheeaaW.PrintLast Go.Proofs.YtplkegifilheeaaW.PrintMore Go.Proofs.Ytplkegifilheeaa.G
set_option linter.unusedVariables false
set_option linter.unusedSimpArgs false

theorem sat_end_eq {a : Int} (ha : I64 a) : sat_end.f a = some (if a < 0 then -9223372036854775808 else 9223372036854775807) := by
  unfold sat_end.f
  unfold I64 at ha
  by_cases h : a < 0
  · rw [if_pos h, show a / 9223372036854775808 = -1 by omega]
    decide +kernel
  · rw [if_neg h, show a / 9223372036854775808 = 0 by omega]
    decide +kernel
theorem sat_Sub_eq {a b : Int} (ha : I64 a) (hb : I64 b) : sat_Sub.f a b = some (clamp (a - b)) := by
  unfold sat_Sub.f
  have hs := w64_range (a - b)
  have h1 := xor_neg ha hs
  have h2 := xor_neg ha hb
  have h3 := and_neg (bits_range .xor a b) (bits_range .xor a (wrap64 (a - b)))
  rw [sat_end_eq ha]
  simp only [Option.bind_some]
  have ha' := ha
  have hb' := hb
  unfold I64 at ha' hb'
  by_cases h : Go.bits .and .i64 (Go.bits .xor .i64 a b) (Go.bits .xor .i64 a (wrap64 (a - b))) < 0
  · rw [if_pos h]
    rw [h3, h1, h2] at h
    unfold clamp
    unfold wrap64 at h
    congr 1
    split <;> split <;> (try split) <;> omega
  · rw [if_neg h]
    rw [h3, h1, h2] at h
    unfold clamp
    unfold wrap64 at h ⊢
    congr 1
    split <;> (try split) <;> omega
theorem sat_Clamp_eq (a lo hi : Int) : sat_Clamp.f a lo hi = some (if a < lo then lo else if a > hi then hi else a) := by
  unfold sat_Clamp.f sat_between_int64.f
  split
  · rfl
  · split <;> rfl
/-- The product, divided. -/
def md (a b c : Int) : Int := clamp (a * b / c)
theorem md_range (a b c : Int) : I64 (md a b c) := clamp_range _
theorem neg_ediv {m c : Int} (hc : 0 < c) : -m / c = if m % c = 0 then -(m / c) else -(m / c) - 1 := by
  have e := Int.mul_ediv_add_emod m c
  have h0 := Int.emod_nonneg m (show c ≠ 0 by omega)
  have h1 := Int.emod_lt_of_pos m hc
  split
  · rename_i h
    rw [h, Int.add_zero] at e
    rw [← e, Int.mul_ediv_cancel_left _ (by omega), ← Int.mul_neg, Int.mul_ediv_cancel_left _ (by omega)]
  · rename_i h
    have e2 : -m = (c - m % c) + c * (-(m / c) - 1) := by
      rw [Int.mul_sub, Int.mul_neg, Int.mul_one]
      omega
    rw [e2, Int.add_mul_ediv_left _ _ (by omega), Int.ediv_eq_zero_of_lt (by omega) (by omega), Int.zero_add]
theorem sat_MulDiv_bad (k : Nat) (hk : 1 ≤ k) {a b c : Int} (h : b < 0 ∨ c < 1) : sat_MulDiv.f k a b c = some (0, 2) := by
  obtain ⟨k, rfl⟩ : ∃ j, k = j + 1 := ⟨k - 1, by omega⟩
  unfold sat_MulDiv.f
  by_cases h0 : b < 0
  · rw [if_pos h0]
    simp only [sat_MulDiv.j0, if_true]
  · rw [if_neg h0, show decide (c < 1) = true from decide_eq_true (by omega)]
    simp only [sat_MulDiv.j0, if_true]
theorem sat_MulDiv_eq (k : Nat) (hk : 30 ≤ k) {a b c : Int} (ha : I64 a) (hb : I64 b) (hc : I64 c) (h0 : 0 ≤ b) (h1 : 1 ≤ c) : sat_MulDiv.f k a b c = some (md a b c, 0) := by
  obtain ⟨k, rfl⟩ : ∃ j, k = j + 1 + 1 := ⟨k - 2, by omega⟩
  have ha' := ha
  have hb' := hb
  have hc' := hc
  unfold I64 at ha' hb' hc'
  unfold sat_MulDiv.f
  rw [if_neg (by omega), show decide (c < 1) = false from decide_eq_false (by omega)]
  simp only [sat_MulDiv.j0, Bool.false_eq_true, if_false]
  -- the size
  have main : ∀ m : Int, 0 ≤ m → m ≤ 9223372036854775808 → a = (if a < 0 then -m else m) → sat_MulDiv.j1 (k + 1) a b c m = some (md a b c, 0) := by
    intro m hm0 hm1 hm
    have hmU : U64 m := by unfold U64; omega
    simp only [sat_MulDiv.j1]
    rw [wu64_id (n := b) (by unfold U64; omega), wu64_id (n := c) (by unfold U64; omega), mul64 hmU (b := b) (by unfold U64; omega)]
    simp only [Option.bind_some]
    have hp0 : 0 ≤ m * b := Int.mul_nonneg hm0 h0
    have hpb := (mul_le_both (a := m) (b := b) (A := 9223372036854775808) (B := 9223372036854775807) hm0 (by omega) h0 (by omega)).2
    have eab : a * b = if a < 0 then -(m * b) else m * b := by
      by_cases h : a < 0
      · rw [if_pos h] at hm ⊢
        rw [hm, Int.neg_mul]
      · rw [if_neg h] at hm ⊢
        rw [hm]
    unfold md
    rw [eab]
    generalize m * b = P at *
    have hq0 : 0 ≤ P / c := Int.ediv_nonneg hp0 (by omega)
    have e := Int.mul_ediv_add_emod P c
    have hr0 := Int.emod_nonneg P (show c ≠ 0 by omega)
    have hr1 := Int.emod_lt_of_pos P (show 0 < c by omega)
    by_cases hbig : P / 18446744073709551616 ≥ c
    · rw [if_pos hbig, sat_end_eq ha]
      simp only [Option.bind_some]
      have hQ : 18446744073709551616 ≤ P / c := by
        apply Int.le_ediv_of_mul_le (by omega)
        omega
      congr 1
      refine Prod.ext ?_ rfl
      show _ = _
      simp only
      by_cases h : a < 0
      · rw [if_pos h, if_pos h, neg_ediv (by omega)]
        unfold clamp
        split <;> rw [if_neg (by omega), if_pos (by omega)]
      · rw [if_neg h, if_neg h]
        unfold clamp
        rw [if_pos (by omega)]
    · rw [if_neg hbig, div64 (k) (by omega) (by unfold U64; omega) (by unfold U64; omega) (by unfold U64; omega) (by omega)]
      simp only [Option.bind_some]
      rw [show P / 18446744073709551616 * 18446744073709551616 + P % 18446744073709551616 = P by omega]
      have hQ : P / c < 18446744073709551616 := by
        apply Int.ediv_lt_of_lt_mul (by omega)
        omega
      by_cases h : a < 0
      · rw [if_neg (by omega), if_pos h, neg_ediv (by omega)]
        by_cases hb2 : P / c ≥ 9223372036854775808
        · rw [if_pos hb2]
          congr 1
          refine Prod.ext ?_ rfl
          show _ = _
          simp only
          unfold clamp
          split <;> rw [if_neg (by omega)]
          · split <;> omega
          · rw [if_pos (by omega)]
        · rw [if_neg hb2, w64_id (n := P / c) (by unfold I64; omega), w64_id (n := -(P / c)) (by unfold I64; omega)]
          by_cases hr : P % c > 0
          · rw [if_pos hr, if_neg (show ¬ P % c = 0 by omega), w64_id (by unfold I64; omega), clamp_id (by unfold I64; omega)]
          · rw [if_neg hr, if_pos (show P % c = 0 by omega), clamp_id (by unfold I64; omega)]
      · rw [if_pos (by omega), if_neg h]
        congr 1
        refine Prod.ext ?_ rfl
        show _ = _
        simp only
        unfold mn clamp wrap64
        split <;> (try split) <;> (try split) <;> omega
  by_cases h : a < 0
  · rw [if_pos h, wu64 a, wu64]
    exact main _ (by omega) (by omega) (by rw [if_pos h]; omega)
  · rw [if_neg h, wu64_id (n := a) (by unfold U64; omega)]
    exact main a (by omega) (by omega) (by rw [if_neg h])
end Go.Proofs.Ytplkegifilheeaa.L
