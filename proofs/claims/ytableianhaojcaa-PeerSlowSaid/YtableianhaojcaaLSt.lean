/- Plain lemmas on stamps: what each of the program's functions, and of the reference's, comes to. -/
import Derived.Test.YtableianhaojcaaLRe1
namespace Go.Proofs.Ytableianhaojcaa.L
open Go.RowKit Go.Proofs.YtableianhaojcaaW.PrintWords Go.Proofs.YtableianhaojcaaW.PrintLast Go.Proofs.YtableianhaojcaaW.PrintMore Go.Proofs.Ytableianhaojcaa.G
set_option linter.unusedVariables false
set_option linter.unusedSimpArgs false

/-- The stamp of nanoseconds. -/
def fr (n : Int) : Int := n * 4294967296 / 1000000000 % 18446744073709551616
theorem fr_range (n : Int) : U64 (fr n) := by unfold U64 fr; omega
/-- How far one stamp is behind another one. -/
def df (a b : Int) : Int := wrap64 (a - b) * 1000000000 / 4294967296
theorem df_self (a : Int) : df a a = 0 := by unfold df wrap64; omega
theorem df_range (a b : Int) : -2147483648000000000 ≤ df a b ∧ df a b ≤ 2147483648000000000 := by unfold df wrap64; omega
theorem tmod_range (a m : Int) (hm : 0 < m) : -m < Int.tmod a m ∧ Int.tmod a m < m := by
  by_cases h : 0 ≤ a
  · rw [Int.tmod_eq_emod_of_nonneg h]
    have := Int.emod_nonneg a (show m ≠ 0 by omega)
    have := Int.emod_lt_of_pos a hm
    omega
  · rw [show a = -(-a) by omega, Int.neg_tmod, Int.tmod_eq_emod_of_nonneg (by omega)]
    have := Int.emod_nonneg (-a) (show m ≠ 0 by omega)
    have := Int.emod_lt_of_pos (-a) hm
    omega
theorem tdiv_cases (a m : Int) (hm : 0 < m) : (0 ≤ a → Int.tdiv a m = a / m ∧ Int.tmod a m = a % m) ∧ (a < 0 → Int.tdiv a m = -(-a / m) ∧ Int.tmod a m = -(-a % m)) := by
  refine ⟨fun h => ⟨Int.tdiv_eq_ediv_of_nonneg h, Int.tmod_eq_emod_of_nonneg h⟩, fun h => ⟨?_, ?_⟩⟩
  · rw [show a = -(-a) by omega, Int.neg_tdiv, Int.tdiv_eq_ediv_of_nonneg (by omega), Int.neg_neg]
  · rw [show a = -(-a) by omega, Int.neg_tmod, Int.tmod_eq_emod_of_nonneg (by omega), Int.neg_neg]

theorem wsum (q g : Int) : (q % 18446744073709551616 * 4294967296 % 18446744073709551616 + g) % 18446744073709551616 = (q * 4294967296 + g) % 18446744073709551616 := by
  rw [Int.add_emod, Int.emod_emod, Int.mul_emod (q % 18446744073709551616), Int.emod_emod, ← Int.mul_emod, ← Int.add_emod]
theorem wsum2 (q g : Int) : (q % 18446744073709551616 * 4294967296 % 18446744073709551616 + g % 18446744073709551616) % 18446744073709551616 = (q * 4294967296 + g) % 18446744073709551616 := by
  rw [wsum, Int.add_emod, Int.emod_emod, ← Int.add_emod]
theorem fr_split (a q r : Int) (h : a = q * 1000000000 + r) : fr a = (q * 4294967296 + r * 4294967296 / 1000000000) % 18446744073709551616 := by
  unfold fr
  congr 1
  omega

/-- The stamp ahead of its round. -/
def st (n : Int) : Int := n * 4294967296 / 1000000000
theorem wfr (a b : Int) : wrap64 (fr a - fr b) = wrap64 (st a - st b) := by
  have e : fr a - fr b + 9223372036854775808 = (st a - st b + 9223372036854775808) + 18446744073709551616 * (st b / 18446744073709551616 - st a / 18446744073709551616) := by
    unfold fr
    have h1 : a * 4294967296 / 1000000000 = st a := rfl
    have h2 : b * 4294967296 / 1000000000 = st b := rfl
    rw [h1, h2]
    omega
  unfold wrap64
  rw [e, Int.add_mul_emod_self_left]
theorem st_far (n y : Int) : 8388608 * y - 1953125 ≤ 1953125 * (st (n + y) - st n) ∧ 1953125 * (st (n + y) - st n) ≤ 8388608 * y + 1953125 := by
  unfold st
  omega

theorem st_mono (n y : Int) (h : 0 ≤ y) : st n ≤ st (n + y) := by
  unfold st
  omega
theorem df_near (b y : Int) (h1 : -2147483648000000000 < y) (h2 : y < 2147483648000000000) : y - 2 ≤ df (fr (b + y)) (fr b) ∧ df (fr (b + y)) (fr b) ≤ y + 2 := by
  have h3 := st_far b y
  unfold df
  rw [wfr, w64_id (n := st (b + y) - st b) (by unfold I64; omega)]
  generalize st (b + y) - st b = x at *
  omega
theorem ns_back (n : Int) (h0 : 0 ≤ n) (h1 : n < 4294967296000000000) : fr n * 1000000000 / 4294967296 = n ∨ fr n * 1000000000 / 4294967296 = n - 1 := by
  have f : fr n = st n := by unfold fr st; omega
  rw [f]
  unfold st
  omega

theorem stamp_From_eq (k : Nat) (hk : 30 ≤ k) {a : Int} (ha : I64 a) : stamp_From.f k a = some (fr a) := by
  have ha' := ha
  unfold I64 at ha'
  unfold stamp_From.f
  have part : ∀ r : Int, 0 ≤ r → r < 1000000000 → ∃ p, bits_Mul64.f r 4294967296 = some p ∧ bits_Div64.f k p.1 p.2 1000000000 = some (r * 4294967296 / 1000000000, r * 4294967296 % 1000000000) := by
    intro r h0 h1
    refine ⟨_, mul64 (by unfold U64; omega) (by unfold U64; omega), ?_⟩
    rw [div64 k (by omega) (by unfold U64; omega) (by unfold U64; omega) (by unfold U64; omega) (by omega)]
    rw [show r * 4294967296 / 18446744073709551616 * 18446744073709551616 + r * 4294967296 % 18446744073709551616 = r * 4294967296 by omega]
  have hc := tdiv_cases a 1000000000 (by omega)
  have main : ∀ q : Int, Int.tdiv a 1000000000 = q → (0 ≤ a ∧ q = a / 1000000000 ∨ a < 0 ∧ q = -(-a / 1000000000)) → stamp_From.f k a = some (fr a) := by
    intro q hq hqa
    unfold stamp_From.f
    rw [hq, w64_id (n := q) (by unfold I64; omega), w64_id (n := q * 1000000000) (by unfold I64; omega), w64_id (n := a - q * 1000000000) (by unfold I64; omega)]
    by_cases hneg : a - q * 1000000000 < 0
    · rw [if_pos hneg, w64_id (n := a - q * 1000000000 + 1000000000) (by unfold I64; omega), wu64_id (n := a - q * 1000000000 + 1000000000) (by unfold U64; omega), w64_id (n := q - 1) (by unfold I64; omega)]
      obtain ⟨p, e1, e2⟩ := part (a - q * 1000000000 + 1000000000) (by omega) (by omega)
      rw [e1]
      simp only [Option.bind_some]
      rw [e2]
      simp only [Option.bind_some, wu64]
      rw [wsum, fr_split a (q - 1) (a - q * 1000000000 + 1000000000) (by omega)]
    · rw [if_neg hneg, wu64_id (n := a - q * 1000000000) (by unfold U64; omega)]
      obtain ⟨p, e1, e2⟩ := part (a - q * 1000000000) (by omega) (by omega)
      rw [e1]
      simp only [Option.bind_some]
      rw [e2]
      simp only [Option.bind_some, wu64]
      rw [wsum, fr_split a q (a - q * 1000000000) (by omega)]
  have h := main _ rfl (by
    by_cases h : 0 ≤ a
    · exact .inl ⟨h, (hc.1 h).1⟩
    · exact .inr ⟨by omega, (hc.2 (by omega)).1⟩)
  unfold stamp_From.f at h
  exact h
theorem ref2_From_eq {a : Int} (ha : I64 a) : chronobateref02_From.f a = some (fr a) := by
  unfold I64 at ha
  have hc := tdiv_cases a 1000000000 (by omega)
  unfold chronobateref02_From.f
  by_cases h : 0 ≤ a
  · rw [(hc.1 h).1, (hc.1 h).2, if_neg (by omega), w64_id (by unfold I64; omega), wu64_id (n := a % 1000000000) (by unfold U64; omega), wu64_id (n := a % 1000000000 * 4294967296) (by unfold U64; omega), Int.tdiv_eq_ediv_of_nonneg (by omega)]
    simp only [wu64]
    rw [wsum2, fr_split a (a / 1000000000) (a % 1000000000) (by omega)]
  · rw [(hc.2 (by omega)).1, (hc.2 (by omega)).2]
    by_cases h2 : -(-a % 1000000000) < 0
    · rw [if_pos h2, w64_id (n := -(-a / 1000000000)) (by unfold I64; omega), w64_id (n := -(-a / 1000000000) - 1) (by unfold I64; omega), w64_id (n := -(-a % 1000000000) + 1000000000) (by unfold I64; omega), wu64_id (n := -(-a % 1000000000) + 1000000000) (by unfold U64; omega), wu64_id (n := (-(-a % 1000000000) + 1000000000) * 4294967296) (by unfold U64; omega), Int.tdiv_eq_ediv_of_nonneg (by omega)]
      simp only [wu64]
      rw [wsum2, fr_split a (-(-a / 1000000000) - 1) (-(-a % 1000000000) + 1000000000) (by omega)]
    · rw [if_neg h2, w64_id (n := -(-a / 1000000000)) (by unfold I64; omega), wu64_id (n := -(-a % 1000000000)) (by unfold U64; omega), wu64_id (n := -(-a % 1000000000) * 4294967296) (by unfold U64; omega), Int.tdiv_eq_ediv_of_nonneg (by omega)]
      simp only [wu64]
      rw [wsum2, fr_split a (-(-a / 1000000000)) (-(-a % 1000000000)) (by omega)]
theorem ref2_Ns_eq {s : Int} (hs : U64 s) : chronobateref02_Ns.f s = some (s * 1000000000 / 4294967296) := by
  unfold U64 at hs
  unfold chronobateref02_Ns.f
  rw [Int.tdiv_eq_ediv_of_nonneg hs.1, Int.tmod_eq_emod_of_nonneg hs.1, wu64_id (n := s / 4294967296) (by unfold U64; omega), wu64_id (n := s / 4294967296 * 1000000000) (by unfold U64; omega), wu64_id (n := s % 4294967296 * 1000000000) (by unfold U64; omega), Int.tdiv_eq_ediv_of_nonneg (by omega), wu64_id (n := s % 4294967296 * 1000000000 / 4294967296) (by unfold U64; omega), wu64_id (by unfold U64; omega), w64_id (by unfold I64; omega)]
  congr 1
  omega
theorem stamp_Diff_eq (k : Nat) (hk : 30 ≤ k) {a b : Int} (ha : U64 a) (hb : U64 b) : stamp_Diff.f k a b = some (df a b) := by
  unfold U64 at ha hb
  unfold stamp_Diff.f stamp_halves.f
  simp only [Option.bind_some]
  have ew : wrap64 (IntKind.u64.wrap (a - b)) = wrap64 (a - b) := by rw [wu64]; unfold wrap64; omega
  rw [ew]
  by_cases h : a = b
  · subst h
    rw [if_pos (by simp)]
    rw [df_self]
  · rw [if_neg (by simp; omega), sat_MulDiv_eq k hk (w64_range _) (by unfold I64; omega) (by unfold I64; omega) (by omega) (by omega)]
    simp only [Option.bind_some]
    have := w64_range (a - b)
    unfold I64 at this
    unfold md df
    rw [clamp_id (by unfold I64; omega)]
theorem ref2_Diff_eq {a b : Int} (ha : U64 a) (hb : U64 b) : chronobateref02_Diff.f a b = some (df a b) := by
  unfold U64 at ha hb
  unfold chronobateref02_Diff.f
  have ew : wrap64 (IntKind.u64.wrap (a - b)) = wrap64 (a - b) := by rw [wu64]; unfold wrap64; omega
  rw [ew]
  unfold df
  have hd := w64_range (a - b)
  unfold I64 at hd
  generalize wrap64 (a - b) = d at *
  by_cases h : d ≥ 0
  · rw [if_pos h, wu64_id (n := d) (by unfold U64; omega), ref2_Ns_eq (by unfold U64; omega)]
    simp only [Option.bind_some]
  · rw [if_neg h, w64_id (n := d + 1) (by unfold I64; omega), w64_id (n := -(d + 1)) (by unfold I64; omega), wu64_id (n := -(d + 1)) (by unfold U64; omega), wu64_id (n := -(d + 1) + 1) (by unfold U64; omega), ref2_Ns_eq (by unfold U64; omega)]
    simp only [Option.bind_some]
    rw [show -(d + 1) + 1 = -d by omega, Int.tmod_eq_emod_of_nonneg (show 0 ≤ -d by omega), wu64_id (n := -d % 4294967296 * 1000000000) (by unfold U64; omega), Int.tmod_eq_emod_of_nonneg (show 0 ≤ -d % 4294967296 * 1000000000 by omega)]
    have e3 : -d % 4294967296 * 1000000000 % 4294967296 = -d * 1000000000 % 4294967296 := by
      rw [Int.mul_emod, Int.emod_emod, ← Int.mul_emod]
    have e4 : d * 1000000000 = -(-d * 1000000000) := by omega
    have h5 : 0 ≤ -d * 1000000000 ∧ -d * 1000000000 ≤ 9223372036854775808000000000 := by omega
    rw [e3, e4]
    generalize -d * 1000000000 = P at *
    clear e3 e4 hd h ew
    by_cases h2 : P % 4294967296 = 0
    · rw [if_pos h2, w64_id (n := -(P / 4294967296)) (by unfold I64; omega)]
      congr 1
      omega
    · rw [if_neg h2, w64_id (n := P / 4294967296 + 1) (by unfold I64; omega), w64_id (n := -(P / 4294967296 + 1)) (by unfold I64; omega)]
      congr 1
      omega
end Go.Proofs.Ytableianhaojcaa.L
