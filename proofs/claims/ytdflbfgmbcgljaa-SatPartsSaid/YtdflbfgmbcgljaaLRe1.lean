/- Plain lemmas on the reference of layer 1: what each of its functions comes to. -/
import Derived.Test.YtdflbfgmbcgljaaLSa
namespace Go.Proofs.Ytdflbfgmbcgljaa.L
open Go.RowKit Go.Proofs.YtdflbfgmbcgljaaW.PrintWords Go.Proofs.YtdflbfgmbcgljaaW.PrintLast Go.Proofs.YtdflbfgmbcgljaaW.PrintMore Go.Proofs.Ytdflbfgmbcgljaa.G
set_option linter.unusedVariables false
set_option linter.unusedSimpArgs false

theorem ref1_Add (k : Nat) (hk : 1 ≤ k) {a b : Int} (ha : I64 a) (hb : I64 b) : chronobateref01_Add.f k a b = some (clamp (a + b)) := by
  obtain ⟨k, rfl⟩ : ∃ j, k = j + 1 := ⟨k - 1, by omega⟩
  unfold I64 at ha hb
  unfold chronobateref01_Add.f
  by_cases h : b > 0
  · rw [if_pos h, w64_id (n := 9223372036854775807 - b) (by unfold I64; omega)]
    by_cases h2 : a > 9223372036854775807 - b
    · rw [show decide (a > 9223372036854775807 - b) = true from decide_eq_true h2]
      simp only [chronobateref01_Add.j0, if_true]
      unfold clamp
      rw [if_pos (by omega)]
    · rw [show decide (a > 9223372036854775807 - b) = false from decide_eq_false h2]
      simp only [chronobateref01_Add.j0, Bool.false_eq_true, if_false]
      rw [if_neg (by omega), w64_id (by unfold I64; omega), clamp_id (by unfold I64; omega)]
  · rw [if_neg h]
    simp only [chronobateref01_Add.j0, Bool.false_eq_true, if_false]
    by_cases h2 : b < 0
    · rw [if_pos h2, w64_id (n := -9223372036854775808 - b) (by unfold I64; omega)]
      by_cases h3 : a < -9223372036854775808 - b
      · rw [if_pos h3]
        unfold clamp
        rw [if_neg (by omega), if_pos (by omega)]
      · rw [if_neg h3, w64_id (by unfold I64; omega), clamp_id (by unfold I64; omega)]
    · rw [if_neg h2, w64_id (by unfold I64; omega), clamp_id (by unfold I64; omega)]
theorem ref1_Sub (k : Nat) (hk : 1 ≤ k) {a b : Int} (ha : I64 a) (hb : I64 b) : chronobateref01_Sub.f k a b = some (clamp (a - b)) := by
  obtain ⟨k, rfl⟩ : ∃ j, k = j + 1 := ⟨k - 1, by omega⟩
  unfold I64 at ha hb
  unfold chronobateref01_Sub.f
  by_cases h : b < 0
  · rw [if_pos h, w64_id (n := 9223372036854775807 + b) (by unfold I64; omega)]
    by_cases h2 : a > 9223372036854775807 + b
    · rw [show decide (a > 9223372036854775807 + b) = true from decide_eq_true h2]
      simp only [chronobateref01_Sub.j0, if_true]
      unfold clamp
      rw [if_pos (by omega)]
    · rw [show decide (a > 9223372036854775807 + b) = false from decide_eq_false h2]
      simp only [chronobateref01_Sub.j0, Bool.false_eq_true, if_false]
      rw [if_neg (by omega), w64_id (by unfold I64; omega), clamp_id (by unfold I64; omega)]
  · rw [if_neg h]
    simp only [chronobateref01_Sub.j0, Bool.false_eq_true, if_false]
    by_cases h2 : b > 0
    · rw [if_pos h2, w64_id (n := -9223372036854775808 + b) (by unfold I64; omega)]
      by_cases h3 : a < -9223372036854775808 + b
      · rw [if_pos h3]
        unfold clamp
        rw [if_neg (by omega), if_pos (by omega)]
      · rw [if_neg h3, w64_id (by unfold I64; omega), clamp_id (by unfold I64; omega)]
    · rw [if_neg h2, w64_id (by unfold I64; omega), clamp_id (by unfold I64; omega)]
theorem ref1_Neg (k : Nat) (hk : 1 ≤ k) {a : Int} (ha : I64 a) : chronobateref01_Neg.f k a = some (clamp (-a)) := by
  unfold chronobateref01_Neg.f
  rw [ref1_Sub k hk (by unfold I64; omega) ha, Int.zero_sub]
  rfl
theorem ref1_Abs (k : Nat) (hk : 1 ≤ k) {a : Int} (ha : I64 a) : chronobateref01_Abs.f k a = some (if a < 0 then clamp (-a) else a) := by
  unfold chronobateref01_Abs.f
  by_cases h : a < 0
  · rw [if_pos h, if_pos h, ref1_Neg k hk ha]
    rfl
  · rw [if_neg h, if_neg h]
theorem ref1_Half {a : Int} (ha : I64 a) : chronobateref01_Half.f a = some (a / 2) := by
  unfold I64 at ha
  unfold chronobateref01_Half.f
  by_cases h : a ≥ 0
  · rw [if_pos h, Int.tdiv_eq_ediv_of_nonneg h, w64_id (by unfold I64; omega)]
  · rw [if_neg h]
    have e1 : Int.tdiv a 2 = -((-a) / 2) := by
      rw [show a = -(-a) by omega, Int.neg_tdiv, Int.tdiv_eq_ediv_of_nonneg (by omega), Int.neg_neg]
    have e2 : Int.tmod a 2 = -((-a) % 2) := by
      rw [show a = -(-a) by omega, Int.neg_tmod, Int.tmod_eq_emod_of_nonneg (by omega), Int.neg_neg]
    rw [e1, e2]
    by_cases h2 : -((-a) % 2) = 0
    · rw [if_pos h2, w64_id (by unfold I64; omega)]
      congr 1
      omega
    · rw [if_neg h2, w64_id (n := -((-a) / 2)) (by unfold I64; omega), w64_id (by unfold I64; omega)]
      congr 1
      omega
theorem ref1_Mid {a b : Int} (ha : I64 a) (hb : I64 b) : chronobateref01_Mid.f a b = some ((a + b) / 2) := by
  have ha' := ha
  have hb' := hb
  unfold I64 at ha' hb'
  unfold chronobateref01_Mid.f
  rw [ref1_Half ha, ref1_Half hb]
  simp only [Option.bind_some]
  rw [w64_id (n := 2 * (a / 2)) (by unfold I64; omega), w64_id (n := 2 * (b / 2)) (by unfold I64; omega), w64_id (n := a - 2 * (a / 2)) (by unfold I64; omega), w64_id (n := b - 2 * (b / 2)) (by unfold I64; omega), w64_id (n := a - 2 * (a / 2) + (b - 2 * (b / 2))) (by unfold I64; omega), ref1_Half (by unfold I64; omega)]
  simp only [Option.bind_some]
  rw [w64_id (n := a / 2 + b / 2) (by unfold I64; omega), w64_id (by unfold I64; omega)]
  congr 1
  omega
theorem ref1_wide {a b : Int} (ha : U64 a) (hb : U64 b) : chronobateref01_wide.f a b = some (a * b / 18446744073709551616, a * b % 18446744073709551616) := by
  rw [← mul64 ha hb]
  unfold chronobateref01_wide.f
  unfold U64 at ha hb
  simp only [Int.tdiv_eq_ediv_of_nonneg ha.1, Int.tdiv_eq_ediv_of_nonneg hb.1, Int.tmod_eq_emod_of_nonneg ha.1, Int.tmod_eq_emod_of_nonneg hb.1]
  have e1 : ∀ n : Int, Int.tdiv (IntKind.u64.wrap n) 4294967296 = IntKind.u64.wrap n / 4294967296 := fun n => Int.tdiv_eq_ediv_of_nonneg (by rw [wu64]; omega)
  have e2 : ∀ n : Int, Int.tmod (IntKind.u64.wrap n) 4294967296 = IntKind.u64.wrap n % 4294967296 := fun n => Int.tmod_eq_emod_of_nonneg (by rw [wu64]; omega)
  simp only [e1, e2]
  rw [mul64 (by unfold U64; omega) (by unfold U64; omega)]
  have e : a * b = (a / 4294967296) * (b / 4294967296) * 18446744073709551616 + ((a / 4294967296) * (b % 4294967296) + (a % 4294967296) * (b / 4294967296)) * 4294967296 + (a % 4294967296) * (b % 4294967296) := by
    have h1 := Int.mul_ediv_add_emod a 4294967296
    have h2 := Int.mul_ediv_add_emod b 4294967296
    generalize a / 4294967296 = a1 at *
    generalize a % 4294967296 = a0 at *
    generalize b / 4294967296 = b1 at *
    generalize b % 4294967296 = b0 at *
    rw [← h1, ← h2]
    simp only [Int.mul_add, Int.add_mul]
    rw [show 4294967296 * a1 * (4294967296 * b1) = a1 * b1 * 18446744073709551616 by
      rw [Int.mul_assoc, Int.mul_left_comm a1, ← Int.mul_assoc, Int.mul_comm]
      exact congrArg (a1 * b1 * ·) (by decide)]
    rw [show a0 * (4294967296 * b1) = a0 * b1 * 4294967296 by rw [Int.mul_left_comm, Int.mul_comm], show 4294967296 * a1 * b0 = a1 * b0 * 4294967296 by rw [Int.mul_assoc, Int.mul_comm]]
    omega
  have b1 := mul_le_both (a := a / 4294967296) (b := b / 4294967296) (A := 4294967295) (B := 4294967295) (by omega) (by omega) (by omega) (by omega)
  have b2 := mul_le_both (a := a / 4294967296) (b := b % 4294967296) (A := 4294967295) (B := 4294967295) (by omega) (by omega) (by omega) (by omega)
  have b3 := mul_le_both (a := a % 4294967296) (b := b / 4294967296) (A := 4294967295) (B := 4294967295) (by omega) (by omega) (by omega) (by omega)
  have b4 := mul_le_both (a := a % 4294967296) (b := b % 4294967296) (A := 4294967295) (B := 4294967295) (by omega) (by omega) (by omega) (by omega)
  rw [wu64_id (n := a / 4294967296) (by unfold U64; omega), wu64_id (n := b / 4294967296) (by unfold U64; omega)]
  generalize a / 4294967296 * (b / 4294967296) = p at *
  generalize a / 4294967296 * (b % 4294967296) = q at *
  generalize a % 4294967296 * (b / 4294967296) = r at *
  generalize a % 4294967296 * (b % 4294967296) = s at *
  simp only [wu64]
  rw [e]
  refine congrArg some (Prod.ext ?_ ?_)
  · show _ = _
    simp only
    omega
  · show _ = _
    simp only
    omega
/-- Bit by bit. -/
theorem ref1_div_l0 {c : Int} (hc : 1 ≤ c) (hc2 : c ≤ 9223372036854775808) (d : Nat) : ∀ (k i : Nat) (low rest q P : Int), i + d = 64 → d < k → U64 low → 0 ≤ rest → rest < c → 0 ≤ q → q < 2 ^ i → P = q * c + rest →
    chronobateref01_div.l0 k low c rest q i = some ((P * 2 ^ d + low / 2 ^ i) / c, (P * 2 ^ d + low / 2 ^ i) % c, true) := by
  induction d with
  | zero =>
    intro k i low rest q P hi hk hl h0 h1 q0 q1 hP
    obtain ⟨k, rfl⟩ : ∃ j, k = j + 1 := ⟨k - 1, by omega⟩
    obtain rfl : i = 64 := by omega
    simp only [chronobateref01_div.l0]
    rw [if_neg (by omega)]
    unfold U64 at hl
    have e : low / 2 ^ 64 = 0 := Int.ediv_eq_zero_of_lt hl.1 (by omega)
    rw [e, Int.pow_zero, Int.mul_one, Int.add_zero, hP, Int.add_comm, Int.add_mul_ediv_right _ _ (by omega), Int.add_mul_emod_self_right, Int.ediv_eq_zero_of_lt h0 h1, Int.emod_eq_of_lt h0 h1, Int.zero_add]
  | succ d ih =>
    intro k i low rest q P hi hk hl h0 h1 q0 q1 hP
    obtain ⟨k, rfl⟩ : ∃ j, k = j + 1 := ⟨k - 1, by omega⟩
    have hl' := hl
    unfold U64 at hl'
    have hpi : (0 : Int) < 2 ^ i := Int.pow_pos (by omega)
    have hi2 : (2 : Int) ^ (i + 1) = 2 * 2 ^ i := by rw [Int.pow_succ, Int.mul_comm]
    have hd2 : (2 : Int) ^ (d + 1) = 2 * 2 ^ d := by rw [Int.pow_succ, Int.mul_comm]
    have hdi : (2 : Int) ^ d * 2 ^ i = 9223372036854775808 := by rw [← Int.pow_add, show d + i = 63 by omega]; rfl
    have hp63 : (2 : Int) ^ i ≤ 9223372036854775808 := by
      have h1d : (0 : Int) < 2 ^ d := Int.pow_pos (by omega)
      have : (1 : Int) * 2 ^ i ≤ 2 ^ d * 2 ^ i := Int.mul_le_mul_of_nonneg_right (by omega) (by omega)
      rw [hdi, Int.one_mul] at this
      exact this
    simp only [chronobateref01_div.l0]
    rw [if_pos (by omega), show wrap64 ((i : Int) + 1) = ((i + 1 : Nat) : Int) by rw [w64_id (by unfold I64; omega)]; omega]
    rw [wu64_id (n := 2 * rest) (by unfold U64; omega), Int.tdiv_eq_ediv_of_nonneg hl'.1, wu64_id (n := low / 9223372036854775808) (by unfold U64; omega), wu64_id (n := 2 * rest + low / 9223372036854775808) (by unfold U64; omega)]
    -- the next bit
    have hnext : (2 * P + low / 9223372036854775808) * 2 ^ d + 2 * low % 18446744073709551616 / 2 ^ (i + 1) = P * 2 ^ (d + 1) + low / 2 ^ i := by
      have e1 : 2 * low % 18446744073709551616 = 2 * (low % 9223372036854775808) := by omega
      have e2 : 2 * (low % 9223372036854775808) / 2 ^ (i + 1) = low % 9223372036854775808 / 2 ^ i := by
        rw [hi2, Int.mul_ediv_mul_of_pos _ _ (by omega)]
      have e3 : low = low % 9223372036854775808 + 2 ^ i * (low / 9223372036854775808 * 2 ^ d) := by
        rw [Int.mul_left_comm, Int.mul_comm (2 ^ i), hdi]
        omega
      have e4 : low / 2 ^ i = low % 9223372036854775808 / 2 ^ i + low / 9223372036854775808 * 2 ^ d := by
        rw [show low / 2 ^ i = (low % 9223372036854775808 + 2 ^ i * (low / 9223372036854775808 * 2 ^ d)) / 2 ^ i by rw [← e3], Int.add_mul_ediv_left _ _ (by omega)]
      rw [e1, e2, e4, Int.add_mul, hd2, Int.mul_assoc, Int.mul_left_comm]
      omega
    have hlow : IntKind.u64.wrap (2 * low) = 2 * low % 18446744073709551616 := wu64 _
    by_cases h : 2 * rest + low / 9223372036854775808 ≥ c
    · rw [if_pos h, wu64_id (n := 2 * rest + low / 9223372036854775808 - c) (by unfold U64; omega), wu64_id (n := 2 * q) (by unfold U64; omega), wu64_id (n := 2 * q + 1) (by unfold U64; omega), hlow]
      rw [ih k (i + 1) _ _ _ (2 * P + low / 9223372036854775808) (by omega) (by omega) (by unfold U64; omega) (by omega) (by omega) (by omega) (by rw [hi2]; omega) (by rw [hP, Int.add_mul, Int.mul_assoc, Int.one_mul]; generalize q * c = z; omega), hnext]
    · rw [if_neg h, wu64_id (n := 2 * q) (by unfold U64; omega), hlow]
      rw [ih k (i + 1) _ _ _ (2 * P + low / 9223372036854775808) (by omega) (by omega) (by unfold U64; omega) (by omega) (by omega) (by omega) (by rw [hi2]; omega) (by rw [hP, Int.mul_assoc]; generalize q * c = z; omega), hnext]
theorem ref1_div (k : Nat) (hk : 66 ≤ k) {a b c : Int} (ha : U64 a) (hb : U64 b) (hc : 1 ≤ c) (hc2 : c ≤ 9223372036854775808) :
    chronobateref01_div.f k a b c = some (if a ≥ c then (0, 0, false) else ((a * 18446744073709551616 + b) / c, (a * 18446744073709551616 + b) % c, true)) := by
  unfold chronobateref01_div.f
  by_cases h : a ≥ c
  · rw [if_pos h, if_pos h]
  · rw [if_neg h, if_neg h]
    have ha' := ha
    unfold U64 at ha'
    have z := ref1_div_l0 hc hc2 64 k 0 b a 0 a (by omega) (by omega) hb ha'.1 (by omega) (by omega) (by decide) (by omega)
    rw [show ((0 : Nat) : Int) = 0 from rfl, Int.pow_zero, Int.ediv_one] at z
    exact z
theorem ref1_MulDiv_bad (k : Nat) (hk : 1 ≤ k) {a b c : Int} (h : b < 0 ∨ c < 1) : chronobateref01_MulDiv.f k a b c = some (0, 2) := by
  obtain ⟨k, rfl⟩ : ∃ j, k = j + 1 := ⟨k - 1, by omega⟩
  unfold chronobateref01_MulDiv.f
  by_cases h0 : b < 0
  · rw [if_pos h0]
    simp only [chronobateref01_MulDiv.j0, if_true]
  · rw [if_neg h0, show decide (c < 1) = true from decide_eq_true (by omega)]
    simp only [chronobateref01_MulDiv.j0, if_true]
theorem ref1_MulDiv (k : Nat) (hk : 80 ≤ k) {a b c : Int} (ha : I64 a) (hb : I64 b) (hc : I64 c) (h0 : 0 ≤ b) (h1 : 1 ≤ c) : chronobateref01_MulDiv.f k a b c = some (md a b c, 0) := by
  obtain ⟨k, rfl⟩ : ∃ j, k = j + 1 + 1 + 1 + 1 + 1 := ⟨k - 5, by omega⟩
  have ha' := ha
  have hb' := hb
  have hc' := hc
  unfold I64 at ha' hb' hc'
  unfold chronobateref01_MulDiv.f
  rw [if_neg (by omega), show decide (c < 1) = false from decide_eq_false (by omega)]
  simp only [chronobateref01_MulDiv.j0, Bool.false_eq_true, if_false]
  have main : ∀ m : Int, 0 ≤ m → m ≤ 9223372036854775808 → a = (if a < 0 then -m else m) → chronobateref01_MulDiv.j1 (k + 1 + 1 + 1 + 1) a b c m = some (md a b c, 0) := by
    intro m hm0 hm1 hm
    have hmU : U64 m := by unfold U64; omega
    simp only [chronobateref01_MulDiv.j1]
    have hp0 : 0 ≤ m * b := Int.mul_nonneg hm0 h0
    have hpb := (mul_le_both (a := m) (b := b) (A := 9223372036854775808) (B := 9223372036854775807) hm0 (by omega) h0 (by omega)).2
    rw [wu64_id (n := b) (by unfold U64; omega), wu64_id (n := c) (by unfold U64; omega), ref1_wide hmU (b := b) (by unfold U64; omega)]
    simp only [Option.bind_some]
    have eab : a * b = if a < 0 then -(m * b) else m * b := by
      by_cases h : a < 0
      · rw [if_pos h] at hm ⊢
        rw [hm, Int.neg_mul]
      · rw [if_neg h] at hm ⊢
        rw [hm]
    unfold md
    rw [eab]
    generalize m * b = P at *
    have hq0 : 0 ≤ P / c := Int.ediv_nonneg hp0 (by omega)
    have e := Int.mul_ediv_add_emod P c
    have hr0 := Int.emod_nonneg P (show c ≠ 0 by omega)
    have hr1 := Int.emod_lt_of_pos P (show 0 < c by omega)
    rw [ref1_div _ (by omega) (by unfold U64; omega) (by unfold U64; omega) h1 (by omega)]
    simp only [Option.bind_some]
    rw [show P / 18446744073709551616 * 18446744073709551616 + P % 18446744073709551616 = P by omega]
    by_cases hbig : P / 18446744073709551616 ≥ c
    · rw [if_pos hbig]
      simp only [Bool.false_eq_true, if_false]
      have hQ : 18446744073709551616 ≤ P / c := by
        apply Int.le_ediv_of_mul_le (by omega)
        omega
      by_cases h : a < 0
      · rw [if_neg (by omega), if_pos h, neg_ediv (by omega)]
        simp only [chronobateref01_MulDiv.j2, chronobateref01_MulDiv.j3, chronobateref01_MulDiv.j4, Bool.false_eq_true, if_false, if_true]
        congr 1
        refine Prod.ext ?_ rfl
        show _ = _
        simp only
        unfold clamp
        split <;> rw [if_neg (by omega), if_pos (by omega)]
      · rw [if_pos (by omega), if_neg h]
        congr 1
        refine Prod.ext ?_ rfl
        show _ = _
        simp only
        unfold clamp
        rw [if_pos (by omega)]
    · rw [if_neg hbig]
      simp only [if_true]
      have hQ : P / c < 18446744073709551616 := by
        apply Int.ediv_lt_of_lt_mul (by omega)
        omega
      have hQ2 : P / c ≤ P := Int.ediv_le_self _ hp0
      by_cases h : a < 0
      · rw [if_neg (by omega), if_pos h, neg_ediv (by omega)]
        by_cases hr : P % c > 0
        · rw [show decide (P % c > 0) = true from decide_eq_true hr, if_neg (show ¬ P % c = 0 by omega)]
          simp only [chronobateref01_MulDiv.j2, if_true]
          by_cases hz : IntKind.u64.wrap (P / c + 1) = 0
          · rw [if_pos hz]
            simp only [chronobateref01_MulDiv.j3, chronobateref01_MulDiv.j4, Bool.false_eq_true, if_false, if_true]
            congr 1
            refine Prod.ext ?_ rfl
            show _ = _
            simp only
            rw [wu64] at hz
            unfold clamp
            rw [if_neg (by omega), if_pos (by omega)]
          · rw [if_neg hz]
            have hw : IntKind.u64.wrap (P / c + 1) = P / c + 1 := by
              rw [wu64] at hz ⊢
              omega
            simp only [chronobateref01_MulDiv.j3, if_true]
            rw [hw]
            by_cases hg : P / c + 1 > 9223372036854775808
            · rw [show decide (P / c + 1 > 9223372036854775808) = true from decide_eq_true hg]
              simp only [chronobateref01_MulDiv.j4, if_true]
              congr 1
              refine Prod.ext ?_ rfl
              show _ = _
              simp only
              unfold clamp
              rw [if_neg (by omega), if_pos (by omega)]
            · rw [show decide (P / c + 1 > 9223372036854775808) = false from decide_eq_false hg]
              simp only [chronobateref01_MulDiv.j4, Bool.false_eq_true, if_false]
              by_cases he : P / c + 1 = 9223372036854775808
              · rw [if_pos he]
                congr 1
                refine Prod.ext ?_ rfl
                show _ = _
                simp only
                rw [clamp_id (by unfold I64; omega)]
                omega
              · rw [if_neg he, w64_id (n := P / c + 1) (by unfold I64; omega), w64_id (by unfold I64; omega), clamp_id (by unfold I64; omega)]
                congr 1
                refine Prod.ext ?_ rfl
                show _ = _
                simp only
                omega
        · rw [show decide (P % c > 0) = false from decide_eq_false hr, if_pos (show P % c = 0 by omega)]
          simp only [chronobateref01_MulDiv.j2, chronobateref01_MulDiv.j3, Bool.false_eq_true, if_false, if_true]
          by_cases hg : P / c > 9223372036854775808
          · rw [show decide (P / c > 9223372036854775808) = true from decide_eq_true hg]
            simp only [chronobateref01_MulDiv.j4, if_true]
            congr 1
            refine Prod.ext ?_ rfl
            show _ = _
            simp only
            unfold clamp
            rw [if_neg (by omega), if_pos (by omega)]
          · rw [show decide (P / c > 9223372036854775808) = false from decide_eq_false hg]
            simp only [chronobateref01_MulDiv.j4, Bool.false_eq_true, if_false]
            by_cases he : P / c = 9223372036854775808
            · rw [if_pos he, he]
              congr 1
            · rw [if_neg he, w64_id (n := P / c) (by unfold I64; omega), w64_id (by unfold I64; omega), clamp_id (by unfold I64; omega)]
      · rw [if_pos (by omega), if_neg h]
        unfold clamp
        by_cases hg : P / c > 9223372036854775807
        · rw [if_pos hg, if_pos hg]
        · rw [if_neg hg, if_neg hg, if_neg (by omega), w64_id (by unfold I64; omega)]
  by_cases h : a < 0
  · rw [if_pos h]
    refine main _ (by rw [wu64]; omega) ?_ ?_
    · rw [w64_id (n := a + 1) (by unfold I64; omega), w64_id (n := -(a + 1)) (by unfold I64; omega), wu64_id (n := -(a + 1)) (by unfold U64; omega), wu64_id (by unfold U64; omega)]
      omega
    · rw [if_pos h, w64_id (n := a + 1) (by unfold I64; omega), w64_id (n := -(a + 1)) (by unfold I64; omega), wu64_id (n := -(a + 1)) (by unfold U64; omega), wu64_id (by unfold U64; omega)]
      omega
  · rw [if_neg h, wu64_id (n := a) (by unfold U64; omega)]
    exact main a (by omega) (by omega) (by rw [if_neg h])
end Go.Proofs.Ytdflbfgmbcgljaa.L
