/- Plain lemmas on bits.Mul64, LeadingZeros64, Div64: the product in two halves; the quotient of two halves by one. -/
import Derived.Test.YtplkegifilheeaaLAr
import Derived.Test.YtplkegifilheeaaGx
import Derived.Lib.BitFns
namespace Go.Proofs.Ytplkegifilheeaa.L
open Go.RowKit Go.Proofs.YtplkegifilheeaaW.PrintWords Go.Proofs.YtplkegifilheeaaW.PrintLast Go.Proofs.YtplkegifilheeaaW.PrintMore Go.Proofs.Ytplkegifilheeaa.G
set_option linter.unusedVariables false
set_option linter.unusedSimpArgs false

theorem mul_emod_right {p : Int} (hp : 0 < p) (x y : Int) : (x * p) % (y * p) = x % y * p := by
  rw [Int.mul_comm x, Int.mul_comm y, Int.mul_emod_mul_of_pos _ _ hp, Int.mul_comm]

/-- A digit that is guessed too great, or not: what the guess's rest tells. -/
theorem guess_high {u n d1 d0 q r : Int} (hr : r = u - q * d1) (hy : 0 < d1 * 4294967296 + d0) (h : q * d0 > 4294967296 * r + n) :
    (u * 4294967296 + n) / (d1 * 4294967296 + d0) ≤ q - 1 := by
  have e : q * (d1 * 4294967296 + d0) = q * d1 * 4294967296 + q * d0 := by
    rw [Int.mul_add, Int.mul_assoc]
  have : (u * 4294967296 + n) / (d1 * 4294967296 + d0) < q := by
    apply Int.ediv_lt_of_lt_mul hy
    rw [e]
    generalize q * d1 = A at *
    generalize q * d0 = B at *
    omega
  omega
theorem guess_low {u n d1 d0 q r : Int} (hr : r = u - q * d1) (hy : 0 < d1 * 4294967296 + d0) (h : q * d0 ≤ 4294967296 * r + n) :
    q ≤ (u * 4294967296 + n) / (d1 * 4294967296 + d0) := by
  have e : q * (d1 * 4294967296 + d0) = q * d1 * 4294967296 + q * d0 := by
    rw [Int.mul_add, Int.mul_assoc]
  apply Int.le_ediv_of_mul_le hy
  rw [e]
  generalize q * d1 = A at *
  generalize q * d0 = B at *
  omega
theorem digit_lt {u n y : Int} (hy : 0 < y) (hu : u < y) (hn : n < 4294967296) : (u * 4294967296 + n) / y < 4294967296 := by
  apply Int.ediv_lt_of_lt_mul hy
  omega
theorem mul_le_both {a b A B : Int} (h0 : 0 ≤ a) (h1 : a ≤ A) (h2 : 0 ≤ b) (h3 : b ≤ B) : 0 ≤ a * b ∧ a * b ≤ A * B :=
  ⟨Int.mul_nonneg h0 h2, Int.mul_le_mul h1 h3 h2 (Int.le_trans h0 h1)⟩

/-- What is asked of a divisor in two halves. -/
structure Norm (y d1 d0 : Int) : Prop where
  e : y = d1 * 4294967296 + d0
  h1 : 2147483648 ≤ d1
  h2 : d1 < 4294967296
  h3 : 0 ≤ d0
  h4 : d0 < 4294967296
/-- What holds of a guess. -/
structure Guess (y d1 d0 u n q r : Int) : Prop where
  nr : Norm y d1 d0
  u0 : 0 ≤ u
  u1 : u < y
  n0 : 0 ≤ n
  n1 : n < 4294967296
  er : r = u - q * d1
  r0 : 0 ≤ r
  r1 : r < 4294967296
  q0 : (u * 4294967296 + n) / y ≤ q
  q1 : q ≤ 4294967297
  qp : 0 ≤ q
theorem Guess.first {y d1 d0 u n : Int} (nr : Norm y d1 d0) (u0 : 0 ≤ u) (u1 : u < y) (n0 : 0 ≤ n) (n1 : n < 4294967296) : Guess y d1 d0 u n (u / d1) (u - u / d1 * d1) := by
  have hd := nr.h1
  have e1 := Int.mul_ediv_add_emod u d1
  have e2 : d1 * (u / d1) = u / d1 * d1 := Int.mul_comm _ _
  have e3 := Int.emod_nonneg u (show d1 ≠ 0 by omega)
  have e4 := Int.emod_lt_of_pos u (show 0 < d1 by omega)
  have hy := nr.e
  have h2 := nr.h2
  have h3 := nr.h3
  have h4 := nr.h4
  refine ⟨nr, u0, u1, n0, n1, rfl, by omega, by omega, ?_, ?_, Int.ediv_nonneg u0 (by omega)⟩
  · have e5 : (u / d1 + 1) * y = (u / d1 * d1 + d1) * 4294967296 + (u / d1 + 1) * d0 := by
      rw [hy, Int.mul_add, ← Int.mul_assoc, Int.add_mul, Int.one_mul]
    have e6 : 0 ≤ (u / d1 + 1) * d0 := Int.mul_nonneg (by have := Int.ediv_nonneg u0 (show 0 ≤ d1 by omega); omega) h3
    have : (u * 4294967296 + n) / y < u / d1 + 1 := by
      apply Int.ediv_lt_of_lt_mul (by omega)
      rw [e5]
      generalize u / d1 * d1 = A at *
      generalize (u / d1 + 1) * d0 = B at *
      omega
    omega
  · have : u / d1 < 4294967298 := by
      apply Int.ediv_lt_of_lt_mul (by omega)
      omega
    omega
/-- The guess is too great, and is made less by 1. -/
theorem Guess.down {y d1 d0 u n q r : Int} (g : Guess y d1 d0 u n q r) (h : 4294967296 ≤ q ∨ q * d0 > 4294967296 * r + n) : (u * 4294967296 + n) / y ≤ q - 1 := by
  have nr := g.nr
  have h1 := nr.h1
  have h3 := nr.h3
  rcases h with h | h
  · have := digit_lt (u := u) (n := n) (y := y) (by have := nr.e; omega) g.u1 g.n1
    omega
  · have := guess_high g.er (by omega) h
    rw [nr.e]
    exact this
theorem Guess.down_pos {y d1 d0 u n q r : Int} (g : Guess y d1 d0 u n q r) (h : 4294967296 ≤ q ∨ q * d0 > 4294967296 * r + n) : 1 ≤ q := by
  have h1 := g.down h
  have hy : 0 < y := by have := g.nr.e; have := g.nr.h1; have := g.nr.h3; omega
  have := Int.ediv_nonneg (show 0 ≤ u * 4294967296 + n by have := g.u0; have := g.n0; omega) (show 0 ≤ y by omega)
  omega
theorem Guess.next {y d1 d0 u n q r : Int} (g : Guess y d1 d0 u n q r) (h : 4294967296 ≤ q ∨ q * d0 > 4294967296 * r + n) (hr : r + d1 < 4294967296) : Guess y d1 d0 u n (q - 1) (r + d1) := by
  have h1 := g.nr.h1
  refine ⟨g.nr, g.u0, g.u1, g.n0, g.n1, ?_, by have := g.r0; omega, hr, g.down h, by have := g.q1; omega, by have := g.down_pos h; omega⟩
  rw [g.er, Int.sub_mul]
  omega
theorem Guess.last {y d1 d0 u n q r : Int} (g : Guess y d1 d0 u n q r) (h : 4294967296 ≤ q ∨ q * d0 > 4294967296 * r + n) (hr : ¬ r + d1 < 4294967296) : q - 1 = (u * 4294967296 + n) / y := by
  have nr := g.nr
  have h1 := nr.h1
  have h3 := nr.h3
  have h4 := nr.h4
  have hd := g.down h
  have hp := g.down_pos h
  have hq := g.q1
  have er' : r + d1 = u - (q - 1) * d1 := by rw [g.er, Int.sub_mul]; omega
  have hm := (mul_le_both (a := q - 1) (b := d0) (A := 4294967296) (B := 4294967295) (by omega) (by omega) h3 (by omega)).2
  have hn := g.n0
  have := guess_low (n := n) (d0 := d0) er' (by omega) (by omega)
  rw [← nr.e] at this
  omega
theorem Guess.done {y d1 d0 u n q r : Int} (g : Guess y d1 d0 u n q r) (h : ¬ 4294967296 ≤ q) (h2 : ¬ q * d0 > 4294967296 * r + n) : q = (u * 4294967296 + n) / y := by
  have := guess_low (n := n) (d0 := d0) g.er (by have := g.nr.h1; have := g.nr.h3; omega) (by omega)
  rw [← g.nr.e] at this
  have := g.q0
  omega
/-- What is left behind a digit. -/
theorem rest_eq {u n y : Int} (hy : 0 < y) (hy2 : y < 18446744073709551616) (hu : 0 ≤ u) (hu1 : u < y) (hn : 0 ≤ n) (hn1 : n < 4294967296) :
    IntKind.u64.wrap (IntKind.u64.wrap (IntKind.u64.wrap (u * 4294967296) + n) - IntKind.u64.wrap ((u * 4294967296 + n) / y * y)) = (u * 4294967296 + n) % y := by
  have e := Int.mul_ediv_add_emod (u * 4294967296 + n) y
  have e2 : y * ((u * 4294967296 + n) / y) = (u * 4294967296 + n) / y * y := Int.mul_comm _ _
  have e3 := Int.emod_nonneg (u * 4294967296 + n) (show y ≠ 0 by omega)
  have e4 := Int.emod_lt_of_pos (u * 4294967296 + n) hy
  simp only [wu64]
  omega
theorem two_digits {u n1 n0 y : Int} (hy : 0 < y) (hn1 : 0 ≤ n1) (hn : 0 ≤ n0) (hn0 : n0 < 4294967296) (hu : 0 ≤ u) :
    (u * 4294967296 + n1) / y * 4294967296 + ((u * 4294967296 + n1) % y * 4294967296 + n0) / y = (u * 18446744073709551616 + (n1 * 4294967296 + n0)) / y ∧
    ((u * 4294967296 + n1) % y * 4294967296 + n0) % y = (u * 18446744073709551616 + (n1 * 4294967296 + n0)) % y := by
  have e := Int.mul_ediv_add_emod (u * 4294967296 + n1) y
  have e5 : u * 18446744073709551616 + (n1 * 4294967296 + n0) = ((u * 4294967296 + n1) % y * 4294967296 + n0) + y * ((u * 4294967296 + n1) / y * 4294967296) := by
    rw [← Int.mul_assoc]
    omega
  rw [e5, Int.add_mul_ediv_left _ _ (by omega), Int.add_mul_emod_self_left]
  exact ⟨by omega, rfl⟩

theorem mul64 {a b : Int} (ha : U64 a) (hb : U64 b) : bits_Mul64.f a b = some (a * b / 18446744073709551616, a * b % 18446744073709551616) := by
  unfold bits_Mul64.f
  have ha' := ha
  have hb' := hb
  unfold U64 at ha' hb'
  rw [u64_mask32 ha, u64_mask32 hb]
  have e : a * b = (a / 4294967296) * (b / 4294967296) * 18446744073709551616 + ((a / 4294967296) * (b % 4294967296) + (a % 4294967296) * (b / 4294967296)) * 4294967296 + (a % 4294967296) * (b % 4294967296) := by
    have h1 := Int.mul_ediv_add_emod a 4294967296
    have h2 := Int.mul_ediv_add_emod b 4294967296
    generalize a / 4294967296 = a1 at *
    generalize a % 4294967296 = a0 at *
    generalize b / 4294967296 = b1 at *
    generalize b % 4294967296 = b0 at *
    rw [← h1, ← h2]
    simp only [Int.mul_add, Int.add_mul]
    rw [show 4294967296 * a1 * (4294967296 * b1) = a1 * b1 * 18446744073709551616 by
      rw [Int.mul_assoc, Int.mul_left_comm a1, ← Int.mul_assoc, Int.mul_comm]
      exact congrArg (a1 * b1 * ·) (by decide)]
    rw [show a0 * (4294967296 * b1) = a0 * b1 * 4294967296 by rw [Int.mul_left_comm, Int.mul_comm], show 4294967296 * a1 * b0 = a1 * b0 * 4294967296 by rw [Int.mul_assoc, Int.mul_comm]]
    omega
  have b1 := mul_le_both (a := a / 4294967296) (b := b / 4294967296) (A := 4294967295) (B := 4294967295) (by omega) (by omega) (by omega) (by omega)
  have b2 := mul_le_both (a := a / 4294967296) (b := b % 4294967296) (A := 4294967295) (B := 4294967295) (by omega) (by omega) (by omega) (by omega)
  have b3 := mul_le_both (a := a % 4294967296) (b := b / 4294967296) (A := 4294967295) (B := 4294967295) (by omega) (by omega) (by omega) (by omega)
  have b4 := mul_le_both (a := a % 4294967296) (b := b % 4294967296) (A := 4294967295) (B := 4294967295) (by omega) (by omega) (by omega) (by omega)
  generalize a / 4294967296 * (b / 4294967296) = p at *
  generalize a / 4294967296 * (b % 4294967296) = q at *
  generalize a % 4294967296 * (b / 4294967296) = r at *
  generalize a % 4294967296 * (b % 4294967296) = s at *
  rw [u64_mask32 (by unfold U64; rw [wu64]; omega)]
  simp only [wu64]
  rw [e]
  refine congrArg some (Prod.ext ?_ ?_)
  · show _ = _
    simp only
    omega
  · simp only
theorem bitLen_pos (x : Nat) (h0 : x ≠ 0) (h : x < 2 ^ 64) : 1 ≤ Lib.bitLen x := by rw [Lib.bitLen_half x h0 h]; omega
theorem bitLen_bounds : ∀ (f x : Nat), x < 2 ^ f → f ≤ 64 → x < 2 ^ Lib.bitLen x ∧ (x ≠ 0 → 2 ^ (Lib.bitLen x - 1) ≤ x) ∧ Lib.bitLen x ≤ 64 := by
  intro f
  induction f with
  | zero =>
    intro x hx _
    obtain rfl : x = 0 := by simpa using hx
    exact ⟨by decide, fun h => absurd rfl h, by decide⟩
  | succ f ih =>
    intro x hx hf
    by_cases h0 : x = 0
    · subst h0
      exact ⟨by decide, fun h => absurd rfl h, by decide⟩
    · have h64 : x < 2 ^ 64 := Nat.lt_of_lt_of_le hx (Nat.pow_le_pow_right (by omega) hf)
      rw [Nat.pow_succ] at hx
      obtain ⟨h1, h2, h3⟩ := ih (x / 2) (by omega) (by omega)
      rw [Lib.bitLen_half x h0 h64]
      have e : 1 + Lib.bitLen (x / 2) - 1 = Lib.bitLen (x / 2) := by omega
      rw [e, Nat.add_comm 1, Nat.pow_succ]
      refine ⟨by omega, fun _ => ?_, ?_⟩
      · by_cases h5 : x / 2 = 0
        · rw [h5]
          show 2 ^ 0 ≤ x
          omega
        · have h6 := h2 h5
          have h7 := bitLen_pos (x / 2) h5 (by omega)
          have h8 : 2 ^ Lib.bitLen (x / 2) = 2 ^ (Lib.bitLen (x / 2) - 1) * 2 := by rw [← Nat.pow_succ]; congr 1; omega
          omega
      · have h9 := Lib.bitLen_le (x / 2) 63 (by omega) (by omega)
        omega
theorem lead64 (k : Nat) {a : Int} (ha : U64 a) (h0 : a ≠ 0) : ∃ s : Nat, bits_LeadingZeros64.f a = some (s : Int) ∧ s ≤ 63 ∧ 9223372036854775808 ≤ a * 2 ^ s ∧ a * 2 ^ s < 18446744073709551616 := by
  unfold U64 at ha
  have hb := bitLen_bounds 64 a.toNat (by omega) (by omega)
  have hp := bitLen_pos a.toNat (by omega) (by omega)
  have h1 := hb.2.1 (by omega)
  refine ⟨64 - Lib.bitLen a.toNat, ?_, by omega, ?_, ?_⟩
  · unfold bits_LeadingZeros64.f bits_Len64.f
    rw [if_pos (by omega), if_pos (by omega)]
    simp only [Option.bind_some]
    refine congrArg some ?_
    rw [w64_id (by unfold I64; omega)]
    omega
  · obtain ⟨n, rfl⟩ : ∃ n : Nat, a = (n : Int) := ⟨a.toNat, by omega⟩
    rw [Int.toNat_natCast] at *
    have h2 : 2 ^ (Lib.bitLen n - 1) * 2 ^ (64 - Lib.bitLen n) ≤ n * 2 ^ (64 - Lib.bitLen n) := Nat.mul_le_mul_right _ h1
    rw [← Nat.pow_add, show Lib.bitLen n - 1 + (64 - Lib.bitLen n) = 63 by omega] at h2
    have h3 : ((n * 2 ^ (64 - Lib.bitLen n) : Nat) : Int) = (n : Int) * 2 ^ (64 - Lib.bitLen n) := by push_cast; rfl
    rw [← h3]
    omega
  · obtain ⟨n, rfl⟩ : ∃ n : Nat, a = (n : Int) := ⟨a.toNat, by omega⟩
    rw [Int.toNat_natCast] at *
    have h2 : n * 2 ^ (64 - Lib.bitLen n) < 2 ^ Lib.bitLen n * 2 ^ (64 - Lib.bitLen n) := Nat.mul_lt_mul_of_pos_right hb.1 (Nat.pow_pos (by omega))
    rw [← Nat.pow_add, show Lib.bitLen n + (64 - Lib.bitLen n) = 64 by omega] at h2
    have h3 : ((n * 2 ^ (64 - Lib.bitLen n) : Nat) : Int) = (n : Int) * 2 ^ (64 - Lib.bitLen n) := by push_cast; rfl
    rw [← h3]
    omega

theorem round1 {y d1 d0 u n : Int} (s n0 q1 : Int) (k m : Nat) : ∀ q r : Int, Guess y d1 d0 u n q r → 4294967296 - r ≤ (m : Int) * 2147483648 →
    ∃ k', k ≤ k' ∧ bits_Div64.l0 (k + 2 * m + 1) y s d1 d0 u n n0 q r = bits_Div64.j2 k' y s d1 d0 u n n0 ((u * 4294967296 + n) / y) := by
  induction m with
  | zero =>
    intro q r g hm
    have := g.r1
    omega
  | succ m ih =>
    intro q r g hm
    have h1 := g.nr.h1
    have h2 := g.nr.h2
    have h3 := g.nr.h3
    have h4 := g.nr.h4
    have r0 := g.r0
    have r1 := g.r1
    have qp := g.qp
    have q1 := g.q1
    have n0' := g.n0
    have n1 := g.n1
    rw [show k + 2 * (m + 1) + 1 = (k + 2 * m + 1) + 1 + 1 by omega]
    have down : (4294967296 ≤ q ∨ q * d0 > 4294967296 * r + n) → ∃ k', k ≤ k' ∧ bits_Div64.j1 (k + 2 * m + 1 + 1) y s d1 d0 u n n0 q r true = bits_Div64.j2 k' y s d1 d0 u n n0 ((u * 4294967296 + n) / y) := by
      intro h
      have hp := g.down_pos h
      simp only [bits_Div64.j1, if_true]
      rw [wu64_id (n := r + d1) (by unfold U64; omega), wu64_id (n := q - 1) (by unfold U64; omega)]
      by_cases hr : r + d1 < 4294967296
      · rw [if_neg (by omega)]
        exact ih (q - 1) (r + d1) (g.next h hr) (by omega)
      · rw [if_pos (by omega), g.last h hr]
        exact ⟨k + 2 * m + 1, by omega, rfl⟩
    simp only [bits_Div64.l0]
    by_cases h : 4294967296 ≤ q
    · rw [if_pos (by omega)]
      exact down (.inl h)
    · rw [if_neg (by omega)]
      have hb := mul_le_both (a := q) (b := d0) (A := 4294967295) (B := 4294967295) qp (by omega) h3 (by omega)
      rw [wu64_id (n := q * d0) (by unfold U64; omega), wu64_id (n := 4294967296 * r) (by unfold U64; omega), wu64_id (n := 4294967296 * r + n) (by unfold U64; omega)]
      by_cases h5 : q * d0 > 4294967296 * r + n
      · rw [show decide (q * d0 > 4294967296 * r + n) = true from decide_eq_true h5]
        exact down (.inr h5)
      · rw [show decide (q * d0 > 4294967296 * r + n) = false from decide_eq_false h5]
        simp only [bits_Div64.j1, Bool.false_eq_true, if_false]
        rw [← g.done h h5]
        exact ⟨k + 2 * m + 1, by omega, rfl⟩
theorem round2 {y d1 d0 u n : Int} (s q1 : Int) (hs : 0 ≤ s) (m : Nat) : ∀ (k : Nat) (q r : Int), Guess y d1 d0 u n q r → 4294967296 - r ≤ (m : Int) * 2147483648 → 2 * m + 1 < k →
    bits_Div64.l1 k y s d1 d0 n q1 r u q = some (IntKind.u64.wrap (IntKind.u64.wrap (q1 * 4294967296) + (u * 4294967296 + n) / y), shr .u64 (IntKind.u64.wrap (IntKind.u64.wrap (IntKind.u64.wrap (u * 4294967296) + n) - IntKind.u64.wrap ((u * 4294967296 + n) / y * y))) s) := by
  induction m with
  | zero =>
    intro k q r g hm
    have := g.r1
    omega
  | succ m ih =>
    intro k q r g hm hk
    have h1 := g.nr.h1
    have h2 := g.nr.h2
    have h3 := g.nr.h3
    have h4 := g.nr.h4
    have r0 := g.r0
    have r1 := g.r1
    have qp := g.qp
    have q1' := g.q1
    have n0' := g.n0
    have n1 := g.n1
    obtain ⟨k, rfl⟩ : ∃ j, k = j + 1 + 1 := ⟨k - 2, by omega⟩
    have down : (4294967296 ≤ q ∨ q * d0 > 4294967296 * r + n) → bits_Div64.j4 (k + 1) y s d1 d0 n q1 r u q true = some (IntKind.u64.wrap (IntKind.u64.wrap (q1 * 4294967296) + (u * 4294967296 + n) / y), shr .u64 (IntKind.u64.wrap (IntKind.u64.wrap (IntKind.u64.wrap (u * 4294967296) + n) - IntKind.u64.wrap ((u * 4294967296 + n) / y * y))) s) := by
      intro h
      have hp := g.down_pos h
      simp only [bits_Div64.j4, if_true]
      rw [wu64_id (n := r + d1) (by unfold U64; omega), wu64_id (n := q - 1) (by unfold U64; omega)]
      by_cases hr : r + d1 < 4294967296
      · rw [if_neg (by omega)]
        exact ih k (q - 1) (r + d1) (g.next h hr) (by omega) (by omega)
      · rw [if_pos (by omega), if_pos hs, g.last h hr]
    simp only [bits_Div64.l1]
    by_cases h : 4294967296 ≤ q
    · rw [if_pos (by omega)]
      exact down (.inl h)
    · rw [if_neg (by omega)]
      have hb := mul_le_both (a := q) (b := d0) (A := 4294967295) (B := 4294967295) qp (by omega) h3 (by omega)
      rw [wu64_id (n := q * d0) (by unfold U64; omega), wu64_id (n := 4294967296 * r) (by unfold U64; omega), wu64_id (n := 4294967296 * r + n) (by unfold U64; omega)]
      by_cases h5 : q * d0 > 4294967296 * r + n
      · rw [show decide (q * d0 > 4294967296 * r + n) = true from decide_eq_true h5]
        exact down (.inr h5)
      · rw [show decide (q * d0 > 4294967296 * r + n) = false from decide_eq_false h5]
        simp only [bits_Div64.j4, Bool.false_eq_true, if_false]
        rw [if_pos hs, ← g.done h h5]
theorem shl64 {a : Int} (s : Nat) (hs : s ≤ 63) : shl .u64 a (s : Int) = a * 2 ^ s % 18446744073709551616 := by
  unfold shl
  rw [wu64, show min (s : Int).toNat IntKind.u64.bits = s by have : IntKind.u64.bits = 64 := rfl; omega]
theorem shr64 {a : Int} (s : Nat) (hs : s ≤ 64) : shr .u64 a (s : Int) = a / 2 ^ s := by
  unfold shr
  rw [show min (s : Int).toNat IntKind.u64.bits = s by have : IntKind.u64.bits = 64 := rfl; omega]
/-- The quotient of a number in two halves. -/
theorem div64 (k : Nat) (hk : 20 ≤ k) {a b y : Int} (ha : U64 a) (hb : U64 b) (hy : U64 y) (hlt : a < y) :
    bits_Div64.f k a b y = some ((a * 18446744073709551616 + b) / y, (a * 18446744073709551616 + b) % y) := by
  have ha' := ha
  have hb' := hb
  have hy' := hy
  unfold U64 at ha' hb' hy'
  unfold bits_Div64.f
  rw [if_neg (by omega), if_neg (by omega)]
  by_cases h0 : a = 0
  · subst h0
    rw [if_pos rfl, Int.tdiv_eq_ediv_of_nonneg hb'.1, Int.tmod_eq_emod_of_nonneg hb'.1, Int.zero_mul, Int.zero_add]
    have h1 : 0 ≤ b / y := Int.ediv_nonneg hb'.1 hy'.1
    have h2 : b / y ≤ b := Int.ediv_le_self _ hb'.1
    rw [wu64_id (by unfold U64; omega)]
  · rw [if_neg h0]
    obtain ⟨s, hs, hs63, hlo, hhi⟩ := lead64 k hy (by omega)
    rw [hs]
    simp only [Option.bind_some]
    have es : IntKind.u64.wrap (s : Int) = (s : Int) := wu64_id (by unfold U64; omega)
    have es2 : IntKind.u64.wrap (64 - (s : Int)) = ((64 - s : Nat) : Int) := by rw [wu64_id (by unfold U64; omega)]; omega
    rw [es, es2, if_pos (by omega), if_pos (by omega), shl64 s hs63, shl64 s hs63, shl64 s hs63, shr64 (64 - s) (by omega)]
    have hp : (0 : Int) < 2 ^ s := Int.pow_pos (by omega)
    have hp2 : (0 : Int) < 2 ^ (64 - s) := Int.pow_pos (by omega)
    have hpp : (2 : Int) ^ (64 - s) * 2 ^ s = 18446744073709551616 := by rw [← Int.pow_add, show 64 - s + s = 64 by omega]; rfl
    have hpn : ((2 ^ s : Nat) : Int) = (2 : Int) ^ s := by push_cast; rfl
    -- the divisor
    rw [Int.emod_eq_of_lt (a := y * 2 ^ s) (by omega) hhi]
    -- the highest part
    have hal : a * 2 ^ s < y * 2 ^ s := Int.mul_lt_mul_of_pos_right hlt hp
    have ha0 : 0 ≤ a * 2 ^ s := Int.mul_nonneg ha'.1 (by omega)
    rw [Int.emod_eq_of_lt (a := a * 2 ^ s) ha0 (by omega)]
    have hb1 : 0 ≤ b / 2 ^ (64 - s) := Int.ediv_nonneg hb'.1 (by omega)
    have hb2 : b / 2 ^ (64 - s) < 2 ^ s := by
      apply Int.ediv_lt_of_lt_mul hp2
      rw [Int.mul_comm, hpp]
      omega
    have hal2 : a * 2 ^ s + 2 ^ s ≤ y * 2 ^ s := by
      have : (a + 1) * 2 ^ s ≤ y * 2 ^ s := Int.mul_le_mul_of_nonneg_right (by omega) (by omega)
      rw [Int.add_mul, Int.one_mul] at this
      exact this
    rw [u64_join s (x := a * 2 ^ s) (y := b / 2 ^ (64 - s)) (by unfold U64; omega) (by unfold U64; omega) (by
      obtain ⟨n, rfl⟩ : ∃ n : Nat, a = (n : Int) := ⟨a.toNat, by omega⟩
      rw [← hpn, show (n : Int) * ((2 ^ s : Nat) : Int) = ((n * 2 ^ s : Nat) : Int) by push_cast; rfl, Int.toNat_natCast, Nat.mul_mod_left]) (by
      rw [← hpn] at hb2
      omega)]
    have hu : a * 2 ^ s + b / 2 ^ (64 - s) < y * 2 ^ s := by omega
    have hu0 : 0 ≤ a * 2 ^ s + b / 2 ^ (64 - s) := by omega
    -- the lower part
    have hl0 : 0 ≤ b * 2 ^ s % 18446744073709551616 := Int.emod_nonneg _ (by omega)
    have hl1 : b * 2 ^ s % 18446744073709551616 < 18446744073709551616 := Int.emod_lt_of_pos _ (by omega)
    have hnum : (a * 2 ^ s + b / 2 ^ (64 - s)) * 18446744073709551616 + b * 2 ^ s % 18446744073709551616 = (a * 18446744073709551616 + b) * 2 ^ s := by
      have e1 : b * 2 ^ s / 18446744073709551616 = b / 2 ^ (64 - s) := by
        rw [← hpp, Int.mul_ediv_mul_of_pos_left _ _ hp]
      have e2 := Int.mul_ediv_add_emod (b * 2 ^ s) 18446744073709551616
      rw [e1] at e2
      rw [Int.add_mul, Int.add_mul, Int.mul_right_comm]
      omega
    generalize hY : y * 2 ^ s = Y at *
    generalize hU : a * 2 ^ s + b / 2 ^ (64 - s) = u at *
    generalize hL : b * 2 ^ s % 18446744073709551616 = l at *
    rw [u64_mask32 (a := Y) (by unfold U64; omega), u64_mask32 (a := l) (by unfold U64; omega)]
    have nr : Norm Y (Y / 4294967296) (Y % 4294967296) := ⟨by omega, by omega, by omega, by omega, by omega⟩
    have hd := nr.h1
    rw [if_neg (by omega), Int.tdiv_eq_ediv_of_nonneg hu0]
    have g1 := Guess.first (n := l / 4294967296) nr hu0 hu (by omega) (by omega)
    have qp := g1.qp
    have q1 := g1.q1
    have r0 := g1.r0
    have r1 := g1.r1
    rw [wu64_id (n := u / (Y / 4294967296)) (by unfold U64; omega)]
    have hA : IntKind.u64.wrap (u - IntKind.u64.wrap (u / (Y / 4294967296) * (Y / 4294967296))) = u - u / (Y / 4294967296) * (Y / 4294967296) := by
      simp only [wu64]
      omega
    rw [hA]
    obtain ⟨k, rfl⟩ : ∃ j, k = j + 2 * 2 + 1 := ⟨k - 5, by omega⟩
    obtain ⟨k', hk', e1⟩ := round1 (s : Int) (l % 4294967296) 0 k 2 _ _ g1 (by omega)
    rw [e1]
    obtain ⟨k', rfl⟩ : ∃ j, k' = j + 1 := ⟨k' - 1, by omega⟩
    simp only [bits_Div64.j2]
    rw [if_neg (by omega), rest_eq (by omega) (by omega) hu0 hu (by omega) (by omega)]
    have hq0 : 0 ≤ (u * 4294967296 + l / 4294967296) / Y := Int.ediv_nonneg (by omega) (by omega)
    have hq1 := digit_lt (n := l / 4294967296) (show 0 < Y by omega) hu (by omega)
    have hv0 := Int.emod_nonneg (u * 4294967296 + l / 4294967296) (show Y ≠ 0 by omega)
    have hv1 := Int.emod_lt_of_pos (u * 4294967296 + l / 4294967296) (show 0 < Y by omega)
    have two := two_digits (u := u) (n1 := l / 4294967296) (n0 := l % 4294967296) (y := Y) (by omega) (by omega) (by omega) (by omega) hu0
    rw [show l / 4294967296 * 4294967296 + l % 4294967296 = l by omega, hnum, ← hY, Int.mul_ediv_mul_of_pos_left _ _ hp, mul_emod_right hp] at two
    rw [hY] at two
    generalize (u * 4294967296 + l / 4294967296) % Y = v at *
    generalize (u * 4294967296 + l / 4294967296) / Y = q1' at *
    have g2 := Guess.first (n := l % 4294967296) nr hv0 hv1 (by omega) (by omega)
    have qp2 := g2.qp
    have q12 := g2.q1
    have r02 := g2.r0
    have r12 := g2.r1
    rw [Int.tdiv_eq_ediv_of_nonneg hv0, wu64_id (n := v / (Y / 4294967296)) (by unfold U64; omega)]
    have hB : IntKind.u64.wrap (v - IntKind.u64.wrap (v / (Y / 4294967296) * (Y / 4294967296))) = v - v / (Y / 4294967296) * (Y / 4294967296) := by
      simp only [wu64]
      omega
    rw [hB, round2 (s : Int) q1' (by omega) 2 k' _ _ g2 (by omega) (by omega), rest_eq (by omega) (by omega) hv0 hv1 (by omega) (by omega)]
    have hq2 := digit_lt (n := l % 4294967296) (show 0 < Y by omega) hv1 (by omega)
    have hq20 : 0 ≤ (v * 4294967296 + l % 4294967296) / Y := Int.ediv_nonneg (by omega) (by omega)
    rw [shr64 s (by omega), two.2, Int.mul_ediv_cancel _ (by omega), wu64_id (n := q1' * 4294967296) (by unfold U64; omega), wu64_id (by unfold U64; omega), two.1]
end Go.Proofs.Ytplkegifilheeaa.L
