/- MERGED by wip/packmerge.py: plain lemmas. No conditions. -/
import Derived.Test.YtableianhaojcaaWWords
import Derived.Test.YtableianhaojcaaWMore
import Derived.Laws.BitsAllLaws
import Derived.Test.YtableianhaojcaaGx
import Derived.Lib.BitFns
/- Plain lemmas on whole numbers of 64 bits: wraps, bits, signs. No conditions of the program. -/
namespace Go.Proofs.Ytableianhaojcaa.L
open Go.RowKit Go.Proofs.YtableianhaojcaaW.PrintWords Go.Proofs.YtableianhaojcaaW.PrintLast Go.Proofs.YtableianhaojcaaW.PrintMore
set_option linter.unusedVariables false
set_option linter.unusedSimpArgs false

/-- A call's answer goes on: by a proof that the kernel need not reckon. -/
theorem bsome {α β : Type} (a : α) (f : α → Option β) : (some a).bind f = f a := id rfl
/-- A number of int64's range. -/
def I64 (n : Int) : Prop := -9223372036854775808 ≤ n ∧ n ≤ 9223372036854775807
def U64 (n : Int) : Prop := 0 ≤ n ∧ n ≤ 18446744073709551615
theorem i64_of_wf {n : Int} (h : (Lit.int .i64 n).wf = true) : I64 n := by
  have hmin : IntKind.i64.min = -9223372036854775808 := rfl
  have hmax : IntKind.i64.max = 9223372036854775807 := rfl
  simp only [Lit.wf, Bool.and_eq_true, decide_eq_true_eq] at h
  unfold I64
  omega
theorem u64_of_wf {n : Int} (h : (Lit.int .u64 n).wf = true) : U64 n := by
  have hmin : IntKind.u64.min = 0 := rfl
  have hmax : IntKind.u64.max = 18446744073709551615 := rfl
  simp only [Lit.wf, Bool.and_eq_true, decide_eq_true_eq] at h
  unfold U64
  omega
theorem w64_id {n : Int} (h : I64 n) : wrap64 n = n := by unfold I64 at h; unfold wrap64; omega
theorem w64_range (n : Int) : I64 (wrap64 n) := by unfold I64 wrap64; omega
theorem wu64 (n : Int) : IntKind.u64.wrap n = n % 18446744073709551616 := by simp [IntKind.wrap, IntKind.bits, IntKind.signed]
theorem wu64_id {n : Int} (h : U64 n) : IntKind.u64.wrap n = n := by unfold U64 at h; rw [wu64]; omega

/-- The greatest, the least, or the number itself. -/
def clamp (n : Int) : Int := if n > 9223372036854775807 then 9223372036854775807 else if n < -9223372036854775808 then -9223372036854775808 else n
theorem clamp_range (n : Int) : I64 (clamp n) := by unfold I64 clamp; split <;> (try split) <;> omega
theorem clamp_id {n : Int} (h : I64 n) : clamp n = n := by unfold I64 at h; unfold clamp; rw [if_neg (by omega), if_neg (by omega)]

theorem bits_toInt (x : BitVec 64) : IntKind.i64.wrap (x.toNat : Int) = x.toInt := by
  rw [IntKind.wrap_i64, BitVec.toInt_eq_toNat_cond]
  have := x.isLt
  split <;> omega
theorem ofInt_toInt {a : Int} (h : I64 a) : (BitVec.ofInt 64 a).toInt = a := by
  unfold I64 at h
  exact BitVec.toInt_ofInt_eq_self (by decide) (by simp; omega) (by simp; omega)
theorem xor_neg {a b : Int} (ha : I64 a) (hb : I64 b) : (Go.bits .xor .i64 a b < 0) ↔ ¬ (a < 0 ↔ b < 0) := by
  show IntKind.i64.wrap ((BitVec.ofInt 64 a ^^^ BitVec.ofInt 64 b).toNat : Int) < 0 ↔ _
  rw [bits_toInt]
  have h := @BitVec.msb_eq_toInt 64 (BitVec.ofInt 64 a ^^^ BitVec.ofInt 64 b)
  rw [BitVec.msb_xor, BitVec.msb_eq_toInt, BitVec.msb_eq_toInt, ofInt_toInt ha, ofInt_toInt hb] at h
  have h2 : (decide ((BitVec.ofInt 64 a ^^^ BitVec.ofInt 64 b).toInt < 0) = true) ↔ (decide (a < 0) ^^ decide (b < 0)) = true := by rw [h]
  rw [decide_eq_true_iff] at h2
  rw [h2]
  by_cases h0 : a < 0 <;> by_cases h1 : b < 0 <;> simp [h0, h1]
theorem and_neg {a b : Int} (ha : I64 a) (hb : I64 b) : (Go.bits .and .i64 a b < 0) ↔ (a < 0 ∧ b < 0) := by
  show IntKind.i64.wrap ((BitVec.ofInt 64 a &&& BitVec.ofInt 64 b).toNat : Int) < 0 ↔ _
  rw [bits_toInt]
  have h := @BitVec.msb_eq_toInt 64 (BitVec.ofInt 64 a &&& BitVec.ofInt 64 b)
  rw [BitVec.msb_and, BitVec.msb_eq_toInt, BitVec.msb_eq_toInt, ofInt_toInt ha, ofInt_toInt hb] at h
  have h2 : (decide ((BitVec.ofInt 64 a &&& BitVec.ofInt 64 b).toInt < 0) = true) ↔ (decide (a < 0) && decide (b < 0)) = true := by rw [h]
  rw [decide_eq_true_iff] at h2
  rw [h2]
  by_cases h0 : a < 0 <;> by_cases h1 : b < 0 <;> simp [h0, h1]
theorem bits_range (op : BinOp) (a b : Int) : I64 (Go.bits op .i64 a b) := by
  unfold I64 Go.bits
  rw [IntKind.wrap_i64]
  omega

theorem nat_add_xor (a b : Nat) : a + b = (a ^^^ b) + 2 * (a &&& b) := by
  induction a using Nat.strongRecOn generalizing b with
  | _ a ih =>
    by_cases h0 : a = 0
    · subst h0
      simp
    · have h := ih (a / 2) (by omega) (b / 2)
      rw [← Nat.xor_div_two, ← Nat.and_div_two] at h
      have hx := @Nat.xor_mod_two_eq_one a b
      have hn := @Nat.and_mod_two_eq_one a b
      have e1 : (a ^^^ b) % 2 = (a + b) % 2 := by omega
      have e2 : (a &&& b) % 2 = if a % 2 = 1 ∧ b % 2 = 1 then 1 else 0 := by split <;> omega
      split at e2 <;> omega
/-- A number of int64 by its sign and its low 63 bits. -/
theorem mid_id {a b : Int} (ha : I64 a) (hb : I64 b) : Go.bits .xor .i64 a b + 2 * Go.bits .and .i64 a b = a + b := by
  show IntKind.i64.wrap ((BitVec.ofInt 64 a ^^^ BitVec.ofInt 64 b).toNat : Int) + 2 * IntKind.i64.wrap ((BitVec.ofInt 64 a &&& BitVec.ofInt 64 b).toNat : Int) = _
  rw [bits_toInt, bits_toInt]
  have ea := ofInt_toInt ha
  have eb := ofInt_toInt hb
  generalize BitVec.ofInt 64 a = x at ea ⊢
  generalize BitVec.ofInt 64 b = y at eb ⊢
  subst ea eb
  have hn := nat_add_xor x.toNat y.toNat
  rw [← BitVec.toNat_xor, ← BitVec.toNat_and] at hn
  have m1 := BitVec.msb_xor (x := x) (y := y)
  have m2 := BitVec.msb_and (x := x) (y := y)
  rw [BitVec.toInt_eq_msb_cond, BitVec.toInt_eq_msb_cond, BitVec.toInt_eq_msb_cond, BitVec.toInt_eq_msb_cond, m1, m2]
  generalize (x ^^^ y).toNat = p at hn ⊢
  generalize (x &&& y).toNat = q at hn ⊢
  cases hx : x.msb <;> cases hy : y.msb <;> simp <;> omega
theorem mid_eq {a b : Int} (ha : I64 a) (hb : I64 b) : wrap64 (Go.bits .and .i64 a b + Go.bits .xor .i64 a b / 2) = (a + b) / 2 := by
  have h := mid_id ha hb
  have e : Go.bits .and .i64 a b + Go.bits .xor .i64 a b / 2 = (a + b) / 2 := by omega
  rw [e]
  unfold I64 at ha hb
  exact w64_id (by unfold I64; omega)
theorem u64_mask32 {a : Int} (h : U64 a) : Go.bits .and .u64 a 4294967295 = a % 4294967296 := by
  unfold U64 at h
  rw [u64_and a 4294967295 (by omega) (by omega) (by omega) (by omega)]
  have : a.toNat &&& 4294967295 = a.toNat % 4294967296 := Nat.and_two_pow_sub_one_eq_mod _ 32
  rw [show (4294967295 : Int).toNat = 4294967295 from rfl, this]
  omega
theorem u64_join (i : Nat) {x y : Int} (hx : U64 x) (hy : U64 y) (h1 : x.toNat % 2 ^ i = 0) (h2 : y.toNat < 2 ^ i) : Go.bits .or .u64 x y = x + y := by
  unfold U64 at hx hy
  rw [u64_or x y (by omega) (by omega) (by omega) (by omega), nat_join i _ _ h1 h2]
  omega
end Go.Proofs.Ytableianhaojcaa.L

/- Plain lemmas on bits.Mul64, LeadingZeros64, Div64: the product in two halves; the quotient of two halves by one. -/
namespace Go.Proofs.Ytableianhaojcaa.L
open Go.RowKit Go.Proofs.YtableianhaojcaaW.PrintWords Go.Proofs.YtableianhaojcaaW.PrintLast Go.Proofs.YtableianhaojcaaW.PrintMore Go.Proofs.Ytableianhaojcaa.G
set_option linter.unusedVariables false
set_option linter.unusedSimpArgs false

theorem mul_emod_right {p : Int} (hp : 0 < p) (x y : Int) : (x * p) % (y * p) = x % y * p := by
  rw [Int.mul_comm x, Int.mul_comm y, Int.mul_emod_mul_of_pos _ _ hp, Int.mul_comm]

/-- A digit that is guessed too great, or not: what the guess's rest tells. -/
theorem guess_high {u n d1 d0 q r : Int} (hr : r = u - q * d1) (hy : 0 < d1 * 4294967296 + d0) (h : q * d0 > 4294967296 * r + n) :
    (u * 4294967296 + n) / (d1 * 4294967296 + d0) ≤ q - 1 := by
  have e : q * (d1 * 4294967296 + d0) = q * d1 * 4294967296 + q * d0 := by
    rw [Int.mul_add, Int.mul_assoc]
  have : (u * 4294967296 + n) / (d1 * 4294967296 + d0) < q := by
    apply Int.ediv_lt_of_lt_mul hy
    rw [e]
    generalize q * d1 = A at *
    generalize q * d0 = B at *
    omega
  omega
theorem guess_low {u n d1 d0 q r : Int} (hr : r = u - q * d1) (hy : 0 < d1 * 4294967296 + d0) (h : q * d0 ≤ 4294967296 * r + n) :
    q ≤ (u * 4294967296 + n) / (d1 * 4294967296 + d0) := by
  have e : q * (d1 * 4294967296 + d0) = q * d1 * 4294967296 + q * d0 := by
    rw [Int.mul_add, Int.mul_assoc]
  apply Int.le_ediv_of_mul_le hy
  rw [e]
  generalize q * d1 = A at *
  generalize q * d0 = B at *
  omega
theorem digit_lt {u n y : Int} (hy : 0 < y) (hu : u < y) (hn : n < 4294967296) : (u * 4294967296 + n) / y < 4294967296 := by
  apply Int.ediv_lt_of_lt_mul hy
  omega
theorem mul_le_both {a b A B : Int} (h0 : 0 ≤ a) (h1 : a ≤ A) (h2 : 0 ≤ b) (h3 : b ≤ B) : 0 ≤ a * b ∧ a * b ≤ A * B :=
  ⟨Int.mul_nonneg h0 h2, Int.mul_le_mul h1 h3 h2 (Int.le_trans h0 h1)⟩

/-- What is asked of a divisor in two halves. -/
structure Norm (y d1 d0 : Int) : Prop where
  e : y = d1 * 4294967296 + d0
  h1 : 2147483648 ≤ d1
  h2 : d1 < 4294967296
  h3 : 0 ≤ d0
  h4 : d0 < 4294967296
/-- What holds of a guess. -/
structure Guess (y d1 d0 u n q r : Int) : Prop where
  nr : Norm y d1 d0
  u0 : 0 ≤ u
  u1 : u < y
  n0 : 0 ≤ n
  n1 : n < 4294967296
  er : r = u - q * d1
  r0 : 0 ≤ r
  r1 : r < 4294967296
  q0 : (u * 4294967296 + n) / y ≤ q
  q1 : q ≤ 4294967297
  qp : 0 ≤ q
theorem Guess.first {y d1 d0 u n : Int} (nr : Norm y d1 d0) (u0 : 0 ≤ u) (u1 : u < y) (n0 : 0 ≤ n) (n1 : n < 4294967296) : Guess y d1 d0 u n (u / d1) (u - u / d1 * d1) := by
  have hd := nr.h1
  have e1 := Int.mul_ediv_add_emod u d1
  have e2 : d1 * (u / d1) = u / d1 * d1 := Int.mul_comm _ _
  have e3 := Int.emod_nonneg u (show d1 ≠ 0 by omega)
  have e4 := Int.emod_lt_of_pos u (show 0 < d1 by omega)
  have hy := nr.e
  have h2 := nr.h2
  have h3 := nr.h3
  have h4 := nr.h4
  refine ⟨nr, u0, u1, n0, n1, rfl, by omega, by omega, ?_, ?_, Int.ediv_nonneg u0 (by omega)⟩
  · have e5 : (u / d1 + 1) * y = (u / d1 * d1 + d1) * 4294967296 + (u / d1 + 1) * d0 := by
      rw [hy, Int.mul_add, ← Int.mul_assoc, Int.add_mul, Int.one_mul]
    have e6 : 0 ≤ (u / d1 + 1) * d0 := Int.mul_nonneg (by have := Int.ediv_nonneg u0 (show 0 ≤ d1 by omega); omega) h3
    have : (u * 4294967296 + n) / y < u / d1 + 1 := by
      apply Int.ediv_lt_of_lt_mul (by omega)
      rw [e5]
      generalize u / d1 * d1 = A at *
      generalize (u / d1 + 1) * d0 = B at *
      omega
    omega
  · have : u / d1 < 4294967298 := by
      apply Int.ediv_lt_of_lt_mul (by omega)
      omega
    omega
/-- The guess is too great, and is made less by 1. -/
theorem Guess.down {y d1 d0 u n q r : Int} (g : Guess y d1 d0 u n q r) (h : 4294967296 ≤ q ∨ q * d0 > 4294967296 * r + n) : (u * 4294967296 + n) / y ≤ q - 1 := by
  have nr := g.nr
  have h1 := nr.h1
  have h3 := nr.h3
  rcases h with h | h
  · have := digit_lt (u := u) (n := n) (y := y) (by have := nr.e; omega) g.u1 g.n1
    omega
  · have := guess_high g.er (by omega) h
    rw [nr.e]
    exact this
theorem Guess.down_pos {y d1 d0 u n q r : Int} (g : Guess y d1 d0 u n q r) (h : 4294967296 ≤ q ∨ q * d0 > 4294967296 * r + n) : 1 ≤ q := by
  have h1 := g.down h
  have hy : 0 < y := by have := g.nr.e; have := g.nr.h1; have := g.nr.h3; omega
  have := Int.ediv_nonneg (show 0 ≤ u * 4294967296 + n by have := g.u0; have := g.n0; omega) (show 0 ≤ y by omega)
  omega
theorem Guess.next {y d1 d0 u n q r : Int} (g : Guess y d1 d0 u n q r) (h : 4294967296 ≤ q ∨ q * d0 > 4294967296 * r + n) (hr : r + d1 < 4294967296) : Guess y d1 d0 u n (q - 1) (r + d1) := by
  have h1 := g.nr.h1
  refine ⟨g.nr, g.u0, g.u1, g.n0, g.n1, ?_, by have := g.r0; omega, hr, g.down h, by have := g.q1; omega, by have := g.down_pos h; omega⟩
  rw [g.er, Int.sub_mul]
  omega
theorem Guess.last {y d1 d0 u n q r : Int} (g : Guess y d1 d0 u n q r) (h : 4294967296 ≤ q ∨ q * d0 > 4294967296 * r + n) (hr : ¬ r + d1 < 4294967296) : q - 1 = (u * 4294967296 + n) / y := by
  have nr := g.nr
  have h1 := nr.h1
  have h3 := nr.h3
  have h4 := nr.h4
  have hd := g.down h
  have hp := g.down_pos h
  have hq := g.q1
  have er' : r + d1 = u - (q - 1) * d1 := by rw [g.er, Int.sub_mul]; omega
  have hm := (mul_le_both (a := q - 1) (b := d0) (A := 4294967296) (B := 4294967295) (by omega) (by omega) h3 (by omega)).2
  have hn := g.n0
  have := guess_low (n := n) (d0 := d0) er' (by omega) (by omega)
  rw [← nr.e] at this
  omega
theorem Guess.done {y d1 d0 u n q r : Int} (g : Guess y d1 d0 u n q r) (h : ¬ 4294967296 ≤ q) (h2 : ¬ q * d0 > 4294967296 * r + n) : q = (u * 4294967296 + n) / y := by
  have := guess_low (n := n) (d0 := d0) g.er (by have := g.nr.h1; have := g.nr.h3; omega) (by omega)
  rw [← g.nr.e] at this
  have := g.q0
  omega
/-- What is left behind a digit. -/
theorem rest_eq {u n y : Int} (hy : 0 < y) (hy2 : y < 18446744073709551616) (hu : 0 ≤ u) (hu1 : u < y) (hn : 0 ≤ n) (hn1 : n < 4294967296) :
    IntKind.u64.wrap (IntKind.u64.wrap (IntKind.u64.wrap (u * 4294967296) + n) - IntKind.u64.wrap ((u * 4294967296 + n) / y * y)) = (u * 4294967296 + n) % y := by
  have e := Int.mul_ediv_add_emod (u * 4294967296 + n) y
  have e2 : y * ((u * 4294967296 + n) / y) = (u * 4294967296 + n) / y * y := Int.mul_comm _ _
  have e3 := Int.emod_nonneg (u * 4294967296 + n) (show y ≠ 0 by omega)
  have e4 := Int.emod_lt_of_pos (u * 4294967296 + n) hy
  simp only [wu64]
  omega
theorem two_digits {u n1 n0 y : Int} (hy : 0 < y) (hn1 : 0 ≤ n1) (hn : 0 ≤ n0) (hn0 : n0 < 4294967296) (hu : 0 ≤ u) :
    (u * 4294967296 + n1) / y * 4294967296 + ((u * 4294967296 + n1) % y * 4294967296 + n0) / y = (u * 18446744073709551616 + (n1 * 4294967296 + n0)) / y ∧
    ((u * 4294967296 + n1) % y * 4294967296 + n0) % y = (u * 18446744073709551616 + (n1 * 4294967296 + n0)) % y := by
  have e := Int.mul_ediv_add_emod (u * 4294967296 + n1) y
  have e5 : u * 18446744073709551616 + (n1 * 4294967296 + n0) = ((u * 4294967296 + n1) % y * 4294967296 + n0) + y * ((u * 4294967296 + n1) / y * 4294967296) := by
    rw [← Int.mul_assoc]
    omega
  rw [e5, Int.add_mul_ediv_left _ _ (by omega), Int.add_mul_emod_self_left]
  exact ⟨by omega, rfl⟩

theorem mul64 {a b : Int} (ha : U64 a) (hb : U64 b) : bits_Mul64.f a b = some (a * b / 18446744073709551616, a * b % 18446744073709551616) := by
  unfold bits_Mul64.f
  have ha' := ha
  have hb' := hb
  unfold U64 at ha' hb'
  rw [u64_mask32 ha, u64_mask32 hb]
  have e : a * b = (a / 4294967296) * (b / 4294967296) * 18446744073709551616 + ((a / 4294967296) * (b % 4294967296) + (a % 4294967296) * (b / 4294967296)) * 4294967296 + (a % 4294967296) * (b % 4294967296) := by
    have h1 := Int.mul_ediv_add_emod a 4294967296
    have h2 := Int.mul_ediv_add_emod b 4294967296
    generalize a / 4294967296 = a1 at *
    generalize a % 4294967296 = a0 at *
    generalize b / 4294967296 = b1 at *
    generalize b % 4294967296 = b0 at *
    rw [← h1, ← h2]
    simp only [Int.mul_add, Int.add_mul]
    rw [show 4294967296 * a1 * (4294967296 * b1) = a1 * b1 * 18446744073709551616 by
      rw [Int.mul_assoc, Int.mul_left_comm a1, ← Int.mul_assoc, Int.mul_comm]
      exact congrArg (a1 * b1 * ·) (by decide)]
    rw [show a0 * (4294967296 * b1) = a0 * b1 * 4294967296 by rw [Int.mul_left_comm, Int.mul_comm], show 4294967296 * a1 * b0 = a1 * b0 * 4294967296 by rw [Int.mul_assoc, Int.mul_comm]]
    omega
  have b1 := mul_le_both (a := a / 4294967296) (b := b / 4294967296) (A := 4294967295) (B := 4294967295) (by omega) (by omega) (by omega) (by omega)
  have b2 := mul_le_both (a := a / 4294967296) (b := b % 4294967296) (A := 4294967295) (B := 4294967295) (by omega) (by omega) (by omega) (by omega)
  have b3 := mul_le_both (a := a % 4294967296) (b := b / 4294967296) (A := 4294967295) (B := 4294967295) (by omega) (by omega) (by omega) (by omega)
  have b4 := mul_le_both (a := a % 4294967296) (b := b % 4294967296) (A := 4294967295) (B := 4294967295) (by omega) (by omega) (by omega) (by omega)
  generalize a / 4294967296 * (b / 4294967296) = p at *
  generalize a / 4294967296 * (b % 4294967296) = q at *
  generalize a % 4294967296 * (b / 4294967296) = r at *
  generalize a % 4294967296 * (b % 4294967296) = s at *
  rw [u64_mask32 (by unfold U64; rw [wu64]; omega)]
  simp only [wu64]
  rw [e]
  refine congrArg some (Prod.ext ?_ ?_)
  · show _ = _
    simp only
    omega
  · simp only
theorem bitLen_pos (x : Nat) (h0 : x ≠ 0) (h : x < 2 ^ 64) : 1 ≤ Lib.bitLen x := by rw [Lib.bitLen_half x h0 h]; omega
theorem bitLen_bounds : ∀ (f x : Nat), x < 2 ^ f → f ≤ 64 → x < 2 ^ Lib.bitLen x ∧ (x ≠ 0 → 2 ^ (Lib.bitLen x - 1) ≤ x) ∧ Lib.bitLen x ≤ 64 := by
  intro f
  induction f with
  | zero =>
    intro x hx _
    obtain rfl : x = 0 := by simpa using hx
    exact ⟨by decide, fun h => absurd rfl h, by decide⟩
  | succ f ih =>
    intro x hx hf
    by_cases h0 : x = 0
    · subst h0
      exact ⟨by decide, fun h => absurd rfl h, by decide⟩
    · have h64 : x < 2 ^ 64 := Nat.lt_of_lt_of_le hx (Nat.pow_le_pow_right (by omega) hf)
      rw [Nat.pow_succ] at hx
      obtain ⟨h1, h2, h3⟩ := ih (x / 2) (by omega) (by omega)
      rw [Lib.bitLen_half x h0 h64]
      have e : 1 + Lib.bitLen (x / 2) - 1 = Lib.bitLen (x / 2) := by omega
      rw [e, Nat.add_comm 1, Nat.pow_succ]
      refine ⟨by omega, fun _ => ?_, ?_⟩
      · by_cases h5 : x / 2 = 0
        · rw [h5]
          show 2 ^ 0 ≤ x
          omega
        · have h6 := h2 h5
          have h7 := bitLen_pos (x / 2) h5 (by omega)
          have h8 : 2 ^ Lib.bitLen (x / 2) = 2 ^ (Lib.bitLen (x / 2) - 1) * 2 := by rw [← Nat.pow_succ]; congr 1; omega
          omega
      · have h9 := Lib.bitLen_le (x / 2) 63 (by omega) (by omega)
        omega
theorem lead64 (k : Nat) {a : Int} (ha : U64 a) (h0 : a ≠ 0) : ∃ s : Nat, bits_LeadingZeros64.f a = some (s : Int) ∧ s ≤ 63 ∧ 9223372036854775808 ≤ a * 2 ^ s ∧ a * 2 ^ s < 18446744073709551616 := by
  unfold U64 at ha
  have hb := bitLen_bounds 64 a.toNat (by omega) (by omega)
  have hp := bitLen_pos a.toNat (by omega) (by omega)
  have h1 := hb.2.1 (by omega)
  refine ⟨64 - Lib.bitLen a.toNat, ?_, by omega, ?_, ?_⟩
  · unfold bits_LeadingZeros64.f bits_Len64.f
    rw [if_pos (by omega), if_pos (by omega)]
    simp only [Option.bind_some]
    refine congrArg some ?_
    rw [w64_id (by unfold I64; omega)]
    omega
  · obtain ⟨n, rfl⟩ : ∃ n : Nat, a = (n : Int) := ⟨a.toNat, by omega⟩
    rw [Int.toNat_natCast] at *
    have h2 : 2 ^ (Lib.bitLen n - 1) * 2 ^ (64 - Lib.bitLen n) ≤ n * 2 ^ (64 - Lib.bitLen n) := Nat.mul_le_mul_right _ h1
    rw [← Nat.pow_add, show Lib.bitLen n - 1 + (64 - Lib.bitLen n) = 63 by omega] at h2
    have h3 : ((n * 2 ^ (64 - Lib.bitLen n) : Nat) : Int) = (n : Int) * 2 ^ (64 - Lib.bitLen n) := by push_cast; rfl
    rw [← h3]
    omega
  · obtain ⟨n, rfl⟩ : ∃ n : Nat, a = (n : Int) := ⟨a.toNat, by omega⟩
    rw [Int.toNat_natCast] at *
    have h2 : n * 2 ^ (64 - Lib.bitLen n) < 2 ^ Lib.bitLen n * 2 ^ (64 - Lib.bitLen n) := Nat.mul_lt_mul_of_pos_right hb.1 (Nat.pow_pos (by omega))
    rw [← Nat.pow_add, show Lib.bitLen n + (64 - Lib.bitLen n) = 64 by omega] at h2
    have h3 : ((n * 2 ^ (64 - Lib.bitLen n) : Nat) : Int) = (n : Int) * 2 ^ (64 - Lib.bitLen n) := by push_cast; rfl
    rw [← h3]
    omega

theorem round1 {y d1 d0 u n : Int} (s n0 q1 : Int) (k m : Nat) : ∀ q r : Int, Guess y d1 d0 u n q r → 4294967296 - r ≤ (m : Int) * 2147483648 →
    ∃ k', k ≤ k' ∧ bits_Div64.l0 (k + 2 * m + 1) y s d1 d0 u n n0 q r = bits_Div64.j2 k' y s d1 d0 u n n0 ((u * 4294967296 + n) / y) := by
  induction m with
  | zero =>
    intro q r g hm
    have := g.r1
    omega
  | succ m ih =>
    intro q r g hm
    have h1 := g.nr.h1
    have h2 := g.nr.h2
    have h3 := g.nr.h3
    have h4 := g.nr.h4
    have r0 := g.r0
    have r1 := g.r1
    have qp := g.qp
    have q1 := g.q1
    have n0' := g.n0
    have n1 := g.n1
    rw [show k + 2 * (m + 1) + 1 = (k + 2 * m + 1) + 1 + 1 by omega]
    have down : (4294967296 ≤ q ∨ q * d0 > 4294967296 * r + n) → ∃ k', k ≤ k' ∧ bits_Div64.j1 (k + 2 * m + 1 + 1) y s d1 d0 u n n0 q r true = bits_Div64.j2 k' y s d1 d0 u n n0 ((u * 4294967296 + n) / y) := by
      intro h
      have hp := g.down_pos h
      simp only [bits_Div64.j1, if_true]
      rw [wu64_id (n := r + d1) (by unfold U64; omega), wu64_id (n := q - 1) (by unfold U64; omega)]
      by_cases hr : r + d1 < 4294967296
      · rw [if_neg (by omega)]
        exact ih (q - 1) (r + d1) (g.next h hr) (by omega)
      · rw [if_pos (by omega), g.last h hr]
        exact ⟨k + 2 * m + 1, by omega, rfl⟩
    simp only [bits_Div64.l0]
    by_cases h : 4294967296 ≤ q
    · rw [if_pos (by omega)]
      exact down (.inl h)
    · rw [if_neg (by omega)]
      have hb := mul_le_both (a := q) (b := d0) (A := 4294967295) (B := 4294967295) qp (by omega) h3 (by omega)
      rw [wu64_id (n := q * d0) (by unfold U64; omega), wu64_id (n := 4294967296 * r) (by unfold U64; omega), wu64_id (n := 4294967296 * r + n) (by unfold U64; omega)]
      by_cases h5 : q * d0 > 4294967296 * r + n
      · rw [show decide (q * d0 > 4294967296 * r + n) = true from decide_eq_true h5]
        exact down (.inr h5)
      · rw [show decide (q * d0 > 4294967296 * r + n) = false from decide_eq_false h5]
        simp only [bits_Div64.j1, Bool.false_eq_true, if_false]
        rw [← g.done h h5]
        exact ⟨k + 2 * m + 1, by omega, rfl⟩
theorem round2 {y d1 d0 u n : Int} (s q1 : Int) (hs : 0 ≤ s) (m : Nat) : ∀ (k : Nat) (q r : Int), Guess y d1 d0 u n q r → 4294967296 - r ≤ (m : Int) * 2147483648 → 2 * m + 1 < k →
    bits_Div64.l1 k y s d1 d0 n q1 r u q = some (IntKind.u64.wrap (IntKind.u64.wrap (q1 * 4294967296) + (u * 4294967296 + n) / y), shr .u64 (IntKind.u64.wrap (IntKind.u64.wrap (IntKind.u64.wrap (u * 4294967296) + n) - IntKind.u64.wrap ((u * 4294967296 + n) / y * y))) s) := by
  induction m with
  | zero =>
    intro k q r g hm
    have := g.r1
    omega
  | succ m ih =>
    intro k q r g hm hk
    have h1 := g.nr.h1
    have h2 := g.nr.h2
    have h3 := g.nr.h3
    have h4 := g.nr.h4
    have r0 := g.r0
    have r1 := g.r1
    have qp := g.qp
    have q1' := g.q1
    have n0' := g.n0
    have n1 := g.n1
    obtain ⟨k, rfl⟩ : ∃ j, k = j + 1 + 1 := ⟨k - 2, by omega⟩
    have down : (4294967296 ≤ q ∨ q * d0 > 4294967296 * r + n) → bits_Div64.j4 (k + 1) y s d1 d0 n q1 r u q true = some (IntKind.u64.wrap (IntKind.u64.wrap (q1 * 4294967296) + (u * 4294967296 + n) / y), shr .u64 (IntKind.u64.wrap (IntKind.u64.wrap (IntKind.u64.wrap (u * 4294967296) + n) - IntKind.u64.wrap ((u * 4294967296 + n) / y * y))) s) := by
      intro h
      have hp := g.down_pos h
      simp only [bits_Div64.j4, if_true]
      rw [wu64_id (n := r + d1) (by unfold U64; omega), wu64_id (n := q - 1) (by unfold U64; omega)]
      by_cases hr : r + d1 < 4294967296
      · rw [if_neg (by omega)]
        exact ih k (q - 1) (r + d1) (g.next h hr) (by omega) (by omega)
      · rw [if_pos (by omega), if_pos hs, g.last h hr]
    simp only [bits_Div64.l1]
    by_cases h : 4294967296 ≤ q
    · rw [if_pos (by omega)]
      exact down (.inl h)
    · rw [if_neg (by omega)]
      have hb := mul_le_both (a := q) (b := d0) (A := 4294967295) (B := 4294967295) qp (by omega) h3 (by omega)
      rw [wu64_id (n := q * d0) (by unfold U64; omega), wu64_id (n := 4294967296 * r) (by unfold U64; omega), wu64_id (n := 4294967296 * r + n) (by unfold U64; omega)]
      by_cases h5 : q * d0 > 4294967296 * r + n
      · rw [show decide (q * d0 > 4294967296 * r + n) = true from decide_eq_true h5]
        exact down (.inr h5)
      · rw [show decide (q * d0 > 4294967296 * r + n) = false from decide_eq_false h5]
        simp only [bits_Div64.j4, Bool.false_eq_true, if_false]
        rw [if_pos hs, ← g.done h h5]
theorem shl64 {a : Int} (s : Nat) (hs : s ≤ 63) : shl .u64 a (s : Int) = a * 2 ^ s % 18446744073709551616 := by
  unfold shl
  rw [wu64, show min (s : Int).toNat IntKind.u64.bits = s by have : IntKind.u64.bits = 64 := rfl; omega]
theorem shr64 {a : Int} (s : Nat) (hs : s ≤ 64) : shr .u64 a (s : Int) = a / 2 ^ s := by
  unfold shr
  rw [show min (s : Int).toNat IntKind.u64.bits = s by have : IntKind.u64.bits = 64 := rfl; omega]
/-- The quotient of a number in two halves. -/
theorem div64 (k : Nat) (hk : 20 ≤ k) {a b y : Int} (ha : U64 a) (hb : U64 b) (hy : U64 y) (hlt : a < y) :
    bits_Div64.f k a b y = some ((a * 18446744073709551616 + b) / y, (a * 18446744073709551616 + b) % y) := by
  have ha' := ha
  have hb' := hb
  have hy' := hy
  unfold U64 at ha' hb' hy'
  unfold bits_Div64.f
  rw [if_neg (by omega), if_neg (by omega)]
  by_cases h0 : a = 0
  · subst h0
    rw [if_pos rfl, Int.tdiv_eq_ediv_of_nonneg hb'.1, Int.tmod_eq_emod_of_nonneg hb'.1, Int.zero_mul, Int.zero_add]
    have h1 : 0 ≤ b / y := Int.ediv_nonneg hb'.1 hy'.1
    have h2 : b / y ≤ b := Int.ediv_le_self _ hb'.1
    rw [wu64_id (by unfold U64; omega)]
  · rw [if_neg h0]
    obtain ⟨s, hs, hs63, hlo, hhi⟩ := lead64 k hy (by omega)
    rw [hs]
    simp only [Option.bind_some]
    have es : IntKind.u64.wrap (s : Int) = (s : Int) := wu64_id (by unfold U64; omega)
    have es2 : IntKind.u64.wrap (64 - (s : Int)) = ((64 - s : Nat) : Int) := by rw [wu64_id (by unfold U64; omega)]; omega
    rw [es, es2, if_pos (by omega), if_pos (by omega), shl64 s hs63, shl64 s hs63, shl64 s hs63, shr64 (64 - s) (by omega)]
    have hp : (0 : Int) < 2 ^ s := Int.pow_pos (by omega)
    have hp2 : (0 : Int) < 2 ^ (64 - s) := Int.pow_pos (by omega)
    have hpp : (2 : Int) ^ (64 - s) * 2 ^ s = 18446744073709551616 := by rw [← Int.pow_add, show 64 - s + s = 64 by omega]; rfl
    have hpn : ((2 ^ s : Nat) : Int) = (2 : Int) ^ s := by push_cast; rfl
    -- the divisor
    rw [Int.emod_eq_of_lt (a := y * 2 ^ s) (by omega) hhi]
    -- the highest part
    have hal : a * 2 ^ s < y * 2 ^ s := Int.mul_lt_mul_of_pos_right hlt hp
    have ha0 : 0 ≤ a * 2 ^ s := Int.mul_nonneg ha'.1 (by omega)
    rw [Int.emod_eq_of_lt (a := a * 2 ^ s) ha0 (by omega)]
    have hb1 : 0 ≤ b / 2 ^ (64 - s) := Int.ediv_nonneg hb'.1 (by omega)
    have hb2 : b / 2 ^ (64 - s) < 2 ^ s := by
      apply Int.ediv_lt_of_lt_mul hp2
      rw [Int.mul_comm, hpp]
      omega
    have hal2 : a * 2 ^ s + 2 ^ s ≤ y * 2 ^ s := by
      have : (a + 1) * 2 ^ s ≤ y * 2 ^ s := Int.mul_le_mul_of_nonneg_right (by omega) (by omega)
      rw [Int.add_mul, Int.one_mul] at this
      exact this
    rw [u64_join s (x := a * 2 ^ s) (y := b / 2 ^ (64 - s)) (by unfold U64; omega) (by unfold U64; omega) (by
      obtain ⟨n, rfl⟩ : ∃ n : Nat, a = (n : Int) := ⟨a.toNat, by omega⟩
      rw [← hpn, show (n : Int) * ((2 ^ s : Nat) : Int) = ((n * 2 ^ s : Nat) : Int) by push_cast; rfl, Int.toNat_natCast, Nat.mul_mod_left]) (by
      rw [← hpn] at hb2
      omega)]
    have hu : a * 2 ^ s + b / 2 ^ (64 - s) < y * 2 ^ s := by omega
    have hu0 : 0 ≤ a * 2 ^ s + b / 2 ^ (64 - s) := by omega
    -- the lower part
    have hl0 : 0 ≤ b * 2 ^ s % 18446744073709551616 := Int.emod_nonneg _ (by omega)
    have hl1 : b * 2 ^ s % 18446744073709551616 < 18446744073709551616 := Int.emod_lt_of_pos _ (by omega)
    have hnum : (a * 2 ^ s + b / 2 ^ (64 - s)) * 18446744073709551616 + b * 2 ^ s % 18446744073709551616 = (a * 18446744073709551616 + b) * 2 ^ s := by
      have e1 : b * 2 ^ s / 18446744073709551616 = b / 2 ^ (64 - s) := by
        rw [← hpp, Int.mul_ediv_mul_of_pos_left _ _ hp]
      have e2 := Int.mul_ediv_add_emod (b * 2 ^ s) 18446744073709551616
      rw [e1] at e2
      rw [Int.add_mul, Int.add_mul, Int.mul_right_comm]
      omega
    generalize hY : y * 2 ^ s = Y at *
    generalize hU : a * 2 ^ s + b / 2 ^ (64 - s) = u at *
    generalize hL : b * 2 ^ s % 18446744073709551616 = l at *
    rw [u64_mask32 (a := Y) (by unfold U64; omega), u64_mask32 (a := l) (by unfold U64; omega)]
    have nr : Norm Y (Y / 4294967296) (Y % 4294967296) := ⟨by omega, by omega, by omega, by omega, by omega⟩
    have hd := nr.h1
    rw [if_neg (by omega), Int.tdiv_eq_ediv_of_nonneg hu0]
    have g1 := Guess.first (n := l / 4294967296) nr hu0 hu (by omega) (by omega)
    have qp := g1.qp
    have q1 := g1.q1
    have r0 := g1.r0
    have r1 := g1.r1
    rw [wu64_id (n := u / (Y / 4294967296)) (by unfold U64; omega)]
    have hA : IntKind.u64.wrap (u - IntKind.u64.wrap (u / (Y / 4294967296) * (Y / 4294967296))) = u - u / (Y / 4294967296) * (Y / 4294967296) := by
      simp only [wu64]
      omega
    rw [hA]
    obtain ⟨k, rfl⟩ : ∃ j, k = j + 2 * 2 + 1 := ⟨k - 5, by omega⟩
    obtain ⟨k', hk', e1⟩ := round1 (s : Int) (l % 4294967296) 0 k 2 _ _ g1 (by omega)
    rw [e1]
    obtain ⟨k', rfl⟩ : ∃ j, k' = j + 1 := ⟨k' - 1, by omega⟩
    simp only [bits_Div64.j2]
    rw [if_neg (by omega), rest_eq (by omega) (by omega) hu0 hu (by omega) (by omega)]
    have hq0 : 0 ≤ (u * 4294967296 + l / 4294967296) / Y := Int.ediv_nonneg (by omega) (by omega)
    have hq1 := digit_lt (n := l / 4294967296) (show 0 < Y by omega) hu (by omega)
    have hv0 := Int.emod_nonneg (u * 4294967296 + l / 4294967296) (show Y ≠ 0 by omega)
    have hv1 := Int.emod_lt_of_pos (u * 4294967296 + l / 4294967296) (show 0 < Y by omega)
    have two := two_digits (u := u) (n1 := l / 4294967296) (n0 := l % 4294967296) (y := Y) (by omega) (by omega) (by omega) (by omega) hu0
    rw [show l / 4294967296 * 4294967296 + l % 4294967296 = l by omega, hnum, ← hY, Int.mul_ediv_mul_of_pos_left _ _ hp, mul_emod_right hp] at two
    rw [hY] at two
    generalize (u * 4294967296 + l / 4294967296) % Y = v at *
    generalize (u * 4294967296 + l / 4294967296) / Y = q1' at *
    have g2 := Guess.first (n := l % 4294967296) nr hv0 hv1 (by omega) (by omega)
    have qp2 := g2.qp
    have q12 := g2.q1
    have r02 := g2.r0
    have r12 := g2.r1
    rw [Int.tdiv_eq_ediv_of_nonneg hv0, wu64_id (n := v / (Y / 4294967296)) (by unfold U64; omega)]
    have hB : IntKind.u64.wrap (v - IntKind.u64.wrap (v / (Y / 4294967296) * (Y / 4294967296))) = v - v / (Y / 4294967296) * (Y / 4294967296) := by
      simp only [wu64]
      omega
    rw [hB, round2 (s : Int) q1' (by omega) 2 k' _ _ g2 (by omega) (by omega), rest_eq (by omega) (by omega) hv0 hv1 (by omega) (by omega)]
    have hq2 := digit_lt (n := l % 4294967296) (show 0 < Y by omega) hv1 (by omega)
    have hq20 : 0 ≤ (v * 4294967296 + l % 4294967296) / Y := Int.ediv_nonneg (by omega) (by omega)
    rw [shr64 s (by omega), two.2, Int.mul_ediv_cancel _ (by omega), wu64_id (n := q1' * 4294967296) (by unfold U64; omega), wu64_id (by unfold U64; omega), two.1]
end Go.Proofs.Ytableianhaojcaa.L

/- Plain lemmas on the numbers that stop at the ends: what each of the program's functions comes to. -/
namespace Go.Proofs.Ytableianhaojcaa.L
open Go.RowKit Go.Proofs.YtableianhaojcaaW.PrintWords Go.Proofs.YtableianhaojcaaW.PrintLast Go.Proofs.YtableianhaojcaaW.PrintMore Go.Proofs.Ytableianhaojcaa.G
set_option linter.unusedVariables false
set_option linter.unusedSimpArgs false

theorem sat_end_eq {a : Int} (ha : I64 a) : sat_end.f a = some (if a < 0 then -9223372036854775808 else 9223372036854775807) := by
  unfold sat_end.f
  unfold I64 at ha
  by_cases h : a < 0
  · rw [if_pos h, show a / 9223372036854775808 = -1 by omega]
    decide +kernel
  · rw [if_neg h, show a / 9223372036854775808 = 0 by omega]
    decide +kernel
theorem sat_Sub_eq {a b : Int} (ha : I64 a) (hb : I64 b) : sat_Sub.f a b = some (clamp (a - b)) := by
  unfold sat_Sub.f
  have hs := w64_range (a - b)
  have h1 := xor_neg ha hs
  have h2 := xor_neg ha hb
  have h3 := and_neg (bits_range .xor a b) (bits_range .xor a (wrap64 (a - b)))
  rw [sat_end_eq ha]
  simp only [Option.bind_some]
  have ha' := ha
  have hb' := hb
  unfold I64 at ha' hb'
  by_cases h : Go.bits .and .i64 (Go.bits .xor .i64 a b) (Go.bits .xor .i64 a (wrap64 (a - b))) < 0
  · rw [if_pos h]
    rw [h3, h1, h2] at h
    unfold clamp
    unfold wrap64 at h
    congr 1
    split <;> split <;> (try split) <;> omega
  · rw [if_neg h]
    rw [h3, h1, h2] at h
    unfold clamp
    unfold wrap64 at h ⊢
    congr 1
    split <;> (try split) <;> omega
theorem sat_Mid_eq {a b : Int} (ha : I64 a) (hb : I64 b) : sat_Mid.f a b = some ((a + b) / 2) := by
  unfold sat_Mid.f
  rw [mid_eq ha hb]
/-- The product, divided. -/
def md (a b c : Int) : Int := clamp (a * b / c)
theorem md_range (a b c : Int) : I64 (md a b c) := clamp_range _
theorem neg_ediv {m c : Int} (hc : 0 < c) : -m / c = if m % c = 0 then -(m / c) else -(m / c) - 1 := by
  have e := Int.mul_ediv_add_emod m c
  have h0 := Int.emod_nonneg m (show c ≠ 0 by omega)
  have h1 := Int.emod_lt_of_pos m hc
  split
  · rename_i h
    rw [h, Int.add_zero] at e
    rw [← e, Int.mul_ediv_cancel_left _ (by omega), ← Int.mul_neg, Int.mul_ediv_cancel_left _ (by omega)]
  · rename_i h
    have e2 : -m = (c - m % c) + c * (-(m / c) - 1) := by
      rw [Int.mul_sub, Int.mul_neg, Int.mul_one]
      omega
    rw [e2, Int.add_mul_ediv_left _ _ (by omega), Int.ediv_eq_zero_of_lt (by omega) (by omega), Int.zero_add]
theorem sat_MulDiv_bad (k : Nat) (hk : 1 ≤ k) {a b c : Int} (h : b < 0 ∨ c < 1) : sat_MulDiv.f k a b c = some (0, 2) := by
  obtain ⟨k, rfl⟩ : ∃ j, k = j + 1 := ⟨k - 1, by omega⟩
  unfold sat_MulDiv.f
  by_cases h0 : b < 0
  · rw [if_pos h0]
    simp only [sat_MulDiv.j0, if_true]
  · rw [if_neg h0, show decide (c < 1) = true from decide_eq_true (by omega)]
    simp only [sat_MulDiv.j0, if_true]
theorem sat_MulDiv_eq (k : Nat) (hk : 30 ≤ k) {a b c : Int} (ha : I64 a) (hb : I64 b) (hc : I64 c) (h0 : 0 ≤ b) (h1 : 1 ≤ c) : sat_MulDiv.f k a b c = some (md a b c, 0) := by
  obtain ⟨k, rfl⟩ : ∃ j, k = j + 1 + 1 := ⟨k - 2, by omega⟩
  have ha' := ha
  have hb' := hb
  have hc' := hc
  unfold I64 at ha' hb' hc'
  unfold sat_MulDiv.f
  rw [if_neg (by omega), show decide (c < 1) = false from decide_eq_false (by omega)]
  simp only [sat_MulDiv.j0, Bool.false_eq_true, if_false]
  -- the size
  have main : ∀ m : Int, 0 ≤ m → m ≤ 9223372036854775808 → a = (if a < 0 then -m else m) → sat_MulDiv.j1 (k + 1) a b c m = some (md a b c, 0) := by
    intro m hm0 hm1 hm
    have hmU : U64 m := by unfold U64; omega
    simp only [sat_MulDiv.j1]
    rw [wu64_id (n := b) (by unfold U64; omega), wu64_id (n := c) (by unfold U64; omega), mul64 hmU (b := b) (by unfold U64; omega)]
    simp only [Option.bind_some]
    have hp0 : 0 ≤ m * b := Int.mul_nonneg hm0 h0
    have hpb := (mul_le_both (a := m) (b := b) (A := 9223372036854775808) (B := 9223372036854775807) hm0 (by omega) h0 (by omega)).2
    have eab : a * b = if a < 0 then -(m * b) else m * b := by
      by_cases h : a < 0
      · rw [if_pos h] at hm ⊢
        rw [hm, Int.neg_mul]
      · rw [if_neg h] at hm ⊢
        rw [hm]
    unfold md
    rw [eab]
    generalize m * b = P at *
    have hq0 : 0 ≤ P / c := Int.ediv_nonneg hp0 (by omega)
    have e := Int.mul_ediv_add_emod P c
    have hr0 := Int.emod_nonneg P (show c ≠ 0 by omega)
    have hr1 := Int.emod_lt_of_pos P (show 0 < c by omega)
    by_cases hbig : P / 18446744073709551616 ≥ c
    · rw [if_pos hbig, sat_end_eq ha]
      simp only [Option.bind_some]
      have hQ : 18446744073709551616 ≤ P / c := by
        apply Int.le_ediv_of_mul_le (by omega)
        omega
      congr 1
      refine Prod.ext ?_ rfl
      show _ = _
      simp only
      by_cases h : a < 0
      · rw [if_pos h, if_pos h, neg_ediv (by omega)]
        unfold clamp
        split <;> rw [if_neg (by omega), if_pos (by omega)]
      · rw [if_neg h, if_neg h]
        unfold clamp
        rw [if_pos (by omega)]
    · rw [if_neg hbig, div64 (k) (by omega) (by unfold U64; omega) (by unfold U64; omega) (by unfold U64; omega) (by omega)]
      simp only [Option.bind_some]
      rw [show P / 18446744073709551616 * 18446744073709551616 + P % 18446744073709551616 = P by omega]
      have hQ : P / c < 18446744073709551616 := by
        apply Int.ediv_lt_of_lt_mul (by omega)
        omega
      by_cases h : a < 0
      · rw [if_neg (by omega), if_pos h, neg_ediv (by omega)]
        by_cases hb2 : P / c ≥ 9223372036854775808
        · rw [if_pos hb2]
          congr 1
          refine Prod.ext ?_ rfl
          show _ = _
          simp only
          unfold clamp
          split <;> rw [if_neg (by omega)]
          · split <;> omega
          · rw [if_pos (by omega)]
        · rw [if_neg hb2, w64_id (n := P / c) (by unfold I64; omega), w64_id (n := -(P / c)) (by unfold I64; omega)]
          by_cases hr : P % c > 0
          · rw [if_pos hr, if_neg (show ¬ P % c = 0 by omega), w64_id (by unfold I64; omega), clamp_id (by unfold I64; omega)]
          · rw [if_neg hr, if_pos (show P % c = 0 by omega), clamp_id (by unfold I64; omega)]
      · rw [if_pos (by omega), if_neg h]
        congr 1
        refine Prod.ext ?_ rfl
        show _ = _
        simp only
        unfold mn clamp wrap64
        split <;> (try split) <;> (try split) <;> omega
  by_cases h : a < 0
  · rw [if_pos h, wu64 a, wu64]
    exact main _ (by omega) (by omega) (by rw [if_pos h]; omega)
  · rw [if_neg h, wu64_id (n := a) (by unfold U64; omega)]
    exact main a (by omega) (by omega) (by rw [if_neg h])
end Go.Proofs.Ytableianhaojcaa.L

/- Plain lemmas on the reference of layer 1: what each of its functions comes to. -/
namespace Go.Proofs.Ytableianhaojcaa.L
open Go.RowKit Go.Proofs.YtableianhaojcaaW.PrintWords Go.Proofs.YtableianhaojcaaW.PrintLast Go.Proofs.YtableianhaojcaaW.PrintMore Go.Proofs.Ytableianhaojcaa.G
set_option linter.unusedVariables false
set_option linter.unusedSimpArgs false

theorem ref1_Sub (k : Nat) (hk : 1 ≤ k) {a b : Int} (ha : I64 a) (hb : I64 b) : chronobateref01_Sub.f k a b = some (clamp (a - b)) := by
  obtain ⟨k, rfl⟩ : ∃ j, k = j + 1 := ⟨k - 1, by omega⟩
  unfold I64 at ha hb
  unfold chronobateref01_Sub.f
  by_cases h : b < 0
  · rw [if_pos h, w64_id (n := 9223372036854775807 + b) (by unfold I64; omega)]
    by_cases h2 : a > 9223372036854775807 + b
    · rw [show decide (a > 9223372036854775807 + b) = true from decide_eq_true h2]
      simp only [chronobateref01_Sub.j0, if_true]
      unfold clamp
      rw [if_pos (by omega)]
    · rw [show decide (a > 9223372036854775807 + b) = false from decide_eq_false h2]
      simp only [chronobateref01_Sub.j0, Bool.false_eq_true, if_false]
      rw [if_neg (by omega), w64_id (by unfold I64; omega), clamp_id (by unfold I64; omega)]
  · rw [if_neg h]
    simp only [chronobateref01_Sub.j0, Bool.false_eq_true, if_false]
    by_cases h2 : b > 0
    · rw [if_pos h2, w64_id (n := -9223372036854775808 + b) (by unfold I64; omega)]
      by_cases h3 : a < -9223372036854775808 + b
      · rw [if_pos h3]
        unfold clamp
        rw [if_neg (by omega), if_pos (by omega)]
      · rw [if_neg h3, w64_id (by unfold I64; omega), clamp_id (by unfold I64; omega)]
    · rw [if_neg h2, w64_id (by unfold I64; omega), clamp_id (by unfold I64; omega)]
theorem ref1_Half {a : Int} (ha : I64 a) : chronobateref01_Half.f a = some (a / 2) := by
  unfold I64 at ha
  unfold chronobateref01_Half.f
  by_cases h : a ≥ 0
  · rw [if_pos h, Int.tdiv_eq_ediv_of_nonneg h, w64_id (by unfold I64; omega)]
  · rw [if_neg h]
    have e1 : Int.tdiv a 2 = -((-a) / 2) := by
      rw [show a = -(-a) by omega, Int.neg_tdiv, Int.tdiv_eq_ediv_of_nonneg (by omega), Int.neg_neg]
    have e2 : Int.tmod a 2 = -((-a) % 2) := by
      rw [show a = -(-a) by omega, Int.neg_tmod, Int.tmod_eq_emod_of_nonneg (by omega), Int.neg_neg]
    rw [e1, e2]
    by_cases h2 : -((-a) % 2) = 0
    · rw [if_pos h2, w64_id (by unfold I64; omega)]
      congr 1
      omega
    · rw [if_neg h2, w64_id (n := -((-a) / 2)) (by unfold I64; omega), w64_id (by unfold I64; omega)]
      congr 1
      omega
theorem ref1_Mid {a b : Int} (ha : I64 a) (hb : I64 b) : chronobateref01_Mid.f a b = some ((a + b) / 2) := by
  have ha' := ha
  have hb' := hb
  unfold I64 at ha' hb'
  unfold chronobateref01_Mid.f
  rw [ref1_Half ha, ref1_Half hb]
  simp only [Option.bind_some]
  rw [w64_id (n := 2 * (a / 2)) (by unfold I64; omega), w64_id (n := 2 * (b / 2)) (by unfold I64; omega), w64_id (n := a - 2 * (a / 2)) (by unfold I64; omega), w64_id (n := b - 2 * (b / 2)) (by unfold I64; omega), w64_id (n := a - 2 * (a / 2) + (b - 2 * (b / 2))) (by unfold I64; omega), ref1_Half (by unfold I64; omega)]
  simp only [Option.bind_some]
  rw [w64_id (n := a / 2 + b / 2) (by unfold I64; omega), w64_id (by unfold I64; omega)]
  congr 1
  omega
end Go.Proofs.Ytableianhaojcaa.L

/- Plain lemmas on stamps: what each of the program's functions, and of the reference's, comes to. -/
namespace Go.Proofs.Ytableianhaojcaa.L
open Go.RowKit Go.Proofs.YtableianhaojcaaW.PrintWords Go.Proofs.YtableianhaojcaaW.PrintLast Go.Proofs.YtableianhaojcaaW.PrintMore Go.Proofs.Ytableianhaojcaa.G
set_option linter.unusedVariables false
set_option linter.unusedSimpArgs false

/-- The stamp of nanoseconds. -/
def fr (n : Int) : Int := n * 4294967296 / 1000000000 % 18446744073709551616
theorem fr_range (n : Int) : U64 (fr n) := by unfold U64 fr; omega
/-- How far one stamp is behind another one. -/
def df (a b : Int) : Int := wrap64 (a - b) * 1000000000 / 4294967296
theorem df_self (a : Int) : df a a = 0 := by unfold df wrap64; omega
theorem df_range (a b : Int) : -2147483648000000000 ≤ df a b ∧ df a b ≤ 2147483648000000000 := by unfold df wrap64; omega
theorem tmod_range (a m : Int) (hm : 0 < m) : -m < Int.tmod a m ∧ Int.tmod a m < m := by
  by_cases h : 0 ≤ a
  · rw [Int.tmod_eq_emod_of_nonneg h]
    have := Int.emod_nonneg a (show m ≠ 0 by omega)
    have := Int.emod_lt_of_pos a hm
    omega
  · rw [show a = -(-a) by omega, Int.neg_tmod, Int.tmod_eq_emod_of_nonneg (by omega)]
    have := Int.emod_nonneg (-a) (show m ≠ 0 by omega)
    have := Int.emod_lt_of_pos (-a) hm
    omega
theorem tdiv_cases (a m : Int) (hm : 0 < m) : (0 ≤ a → Int.tdiv a m = a / m ∧ Int.tmod a m = a % m) ∧ (a < 0 → Int.tdiv a m = -(-a / m) ∧ Int.tmod a m = -(-a % m)) := by
  refine ⟨fun h => ⟨Int.tdiv_eq_ediv_of_nonneg h, Int.tmod_eq_emod_of_nonneg h⟩, fun h => ⟨?_, ?_⟩⟩
  · rw [show a = -(-a) by omega, Int.neg_tdiv, Int.tdiv_eq_ediv_of_nonneg (by omega), Int.neg_neg]
  · rw [show a = -(-a) by omega, Int.neg_tmod, Int.tmod_eq_emod_of_nonneg (by omega), Int.neg_neg]

theorem wsum (q g : Int) : (q % 18446744073709551616 * 4294967296 % 18446744073709551616 + g) % 18446744073709551616 = (q * 4294967296 + g) % 18446744073709551616 := by
  rw [Int.add_emod, Int.emod_emod, Int.mul_emod (q % 18446744073709551616), Int.emod_emod, ← Int.mul_emod, ← Int.add_emod]
theorem wsum2 (q g : Int) : (q % 18446744073709551616 * 4294967296 % 18446744073709551616 + g % 18446744073709551616) % 18446744073709551616 = (q * 4294967296 + g) % 18446744073709551616 := by
  rw [wsum, Int.add_emod, Int.emod_emod, ← Int.add_emod]
theorem fr_split (a q r : Int) (h : a = q * 1000000000 + r) : fr a = (q * 4294967296 + r * 4294967296 / 1000000000) % 18446744073709551616 := by
  unfold fr
  congr 1
  omega

/-- The stamp ahead of its round. -/
def st (n : Int) : Int := n * 4294967296 / 1000000000
theorem wfr (a b : Int) : wrap64 (fr a - fr b) = wrap64 (st a - st b) := by
  have e : fr a - fr b + 9223372036854775808 = (st a - st b + 9223372036854775808) + 18446744073709551616 * (st b / 18446744073709551616 - st a / 18446744073709551616) := by
    unfold fr
    have h1 : a * 4294967296 / 1000000000 = st a := rfl
    have h2 : b * 4294967296 / 1000000000 = st b := rfl
    rw [h1, h2]
    omega
  unfold wrap64
  rw [e, Int.add_mul_emod_self_left]
theorem st_far (n y : Int) : 8388608 * y - 1953125 ≤ 1953125 * (st (n + y) - st n) ∧ 1953125 * (st (n + y) - st n) ≤ 8388608 * y + 1953125 := by
  unfold st
  omega

theorem st_mono (n y : Int) (h : 0 ≤ y) : st n ≤ st (n + y) := by
  unfold st
  omega
theorem df_near (b y : Int) (h1 : -2147483648000000000 < y) (h2 : y < 2147483648000000000) : y - 2 ≤ df (fr (b + y)) (fr b) ∧ df (fr (b + y)) (fr b) ≤ y + 2 := by
  have h3 := st_far b y
  unfold df
  rw [wfr, w64_id (n := st (b + y) - st b) (by unfold I64; omega)]
  generalize st (b + y) - st b = x at *
  omega
theorem ns_back (n : Int) (h0 : 0 ≤ n) (h1 : n < 4294967296000000000) : fr n * 1000000000 / 4294967296 = n ∨ fr n * 1000000000 / 4294967296 = n - 1 := by
  have f : fr n = st n := by unfold fr st; omega
  rw [f]
  unfold st
  omega

theorem stamp_From_eq (k : Nat) (hk : 30 ≤ k) {a : Int} (ha : I64 a) : stamp_From.f k a = some (fr a) := by
  have ha' := ha
  unfold I64 at ha'
  unfold stamp_From.f
  have part : ∀ r : Int, 0 ≤ r → r < 1000000000 → ∃ p, bits_Mul64.f r 4294967296 = some p ∧ bits_Div64.f k p.1 p.2 1000000000 = some (r * 4294967296 / 1000000000, r * 4294967296 % 1000000000) := by
    intro r h0 h1
    refine ⟨_, mul64 (by unfold U64; omega) (by unfold U64; omega), ?_⟩
    rw [div64 k (by omega) (by unfold U64; omega) (by unfold U64; omega) (by unfold U64; omega) (by omega)]
    rw [show r * 4294967296 / 18446744073709551616 * 18446744073709551616 + r * 4294967296 % 18446744073709551616 = r * 4294967296 by omega]
  have hc := tdiv_cases a 1000000000 (by omega)
  have main : ∀ q : Int, Int.tdiv a 1000000000 = q → (0 ≤ a ∧ q = a / 1000000000 ∨ a < 0 ∧ q = -(-a / 1000000000)) → stamp_From.f k a = some (fr a) := by
    intro q hq hqa
    unfold stamp_From.f
    rw [hq, w64_id (n := q) (by unfold I64; omega), w64_id (n := q * 1000000000) (by unfold I64; omega), w64_id (n := a - q * 1000000000) (by unfold I64; omega)]
    by_cases hneg : a - q * 1000000000 < 0
    · rw [if_pos hneg, w64_id (n := a - q * 1000000000 + 1000000000) (by unfold I64; omega), wu64_id (n := a - q * 1000000000 + 1000000000) (by unfold U64; omega), w64_id (n := q - 1) (by unfold I64; omega)]
      obtain ⟨p, e1, e2⟩ := part (a - q * 1000000000 + 1000000000) (by omega) (by omega)
      rw [e1]
      simp only [Option.bind_some]
      rw [e2]
      simp only [Option.bind_some, wu64]
      rw [wsum, fr_split a (q - 1) (a - q * 1000000000 + 1000000000) (by omega)]
    · rw [if_neg hneg, wu64_id (n := a - q * 1000000000) (by unfold U64; omega)]
      obtain ⟨p, e1, e2⟩ := part (a - q * 1000000000) (by omega) (by omega)
      rw [e1]
      simp only [Option.bind_some]
      rw [e2]
      simp only [Option.bind_some, wu64]
      rw [wsum, fr_split a q (a - q * 1000000000) (by omega)]
  have h := main _ rfl (by
    by_cases h : 0 ≤ a
    · exact .inl ⟨h, (hc.1 h).1⟩
    · exact .inr ⟨by omega, (hc.2 (by omega)).1⟩)
  unfold stamp_From.f at h
  exact h
theorem ref2_From_eq {a : Int} (ha : I64 a) : chronobateref02_From.f a = some (fr a) := by
  unfold I64 at ha
  have hc := tdiv_cases a 1000000000 (by omega)
  unfold chronobateref02_From.f
  by_cases h : 0 ≤ a
  · rw [(hc.1 h).1, (hc.1 h).2, if_neg (by omega), w64_id (by unfold I64; omega), wu64_id (n := a % 1000000000) (by unfold U64; omega), wu64_id (n := a % 1000000000 * 4294967296) (by unfold U64; omega), Int.tdiv_eq_ediv_of_nonneg (by omega)]
    simp only [wu64]
    rw [wsum2, fr_split a (a / 1000000000) (a % 1000000000) (by omega)]
  · rw [(hc.2 (by omega)).1, (hc.2 (by omega)).2]
    by_cases h2 : -(-a % 1000000000) < 0
    · rw [if_pos h2, w64_id (n := -(-a / 1000000000)) (by unfold I64; omega), w64_id (n := -(-a / 1000000000) - 1) (by unfold I64; omega), w64_id (n := -(-a % 1000000000) + 1000000000) (by unfold I64; omega), wu64_id (n := -(-a % 1000000000) + 1000000000) (by unfold U64; omega), wu64_id (n := (-(-a % 1000000000) + 1000000000) * 4294967296) (by unfold U64; omega), Int.tdiv_eq_ediv_of_nonneg (by omega)]
      simp only [wu64]
      rw [wsum2, fr_split a (-(-a / 1000000000) - 1) (-(-a % 1000000000) + 1000000000) (by omega)]
    · rw [if_neg h2, w64_id (n := -(-a / 1000000000)) (by unfold I64; omega), wu64_id (n := -(-a % 1000000000)) (by unfold U64; omega), wu64_id (n := -(-a % 1000000000) * 4294967296) (by unfold U64; omega), Int.tdiv_eq_ediv_of_nonneg (by omega)]
      simp only [wu64]
      rw [wsum2, fr_split a (-(-a / 1000000000)) (-(-a % 1000000000)) (by omega)]
theorem ref2_Ns_eq {s : Int} (hs : U64 s) : chronobateref02_Ns.f s = some (s * 1000000000 / 4294967296) := by
  unfold U64 at hs
  unfold chronobateref02_Ns.f
  rw [Int.tdiv_eq_ediv_of_nonneg hs.1, Int.tmod_eq_emod_of_nonneg hs.1, wu64_id (n := s / 4294967296) (by unfold U64; omega), wu64_id (n := s / 4294967296 * 1000000000) (by unfold U64; omega), wu64_id (n := s % 4294967296 * 1000000000) (by unfold U64; omega), Int.tdiv_eq_ediv_of_nonneg (by omega), wu64_id (n := s % 4294967296 * 1000000000 / 4294967296) (by unfold U64; omega), wu64_id (by unfold U64; omega), w64_id (by unfold I64; omega)]
  congr 1
  omega
theorem stamp_Diff_eq (k : Nat) (hk : 30 ≤ k) {a b : Int} (ha : U64 a) (hb : U64 b) : stamp_Diff.f k a b = some (df a b) := by
  unfold U64 at ha hb
  unfold stamp_Diff.f stamp_halves.f
  simp only [Option.bind_some]
  have ew : wrap64 (IntKind.u64.wrap (a - b)) = wrap64 (a - b) := by rw [wu64]; unfold wrap64; omega
  rw [ew]
  by_cases h : a = b
  · subst h
    rw [if_pos (by simp)]
    rw [df_self]
  · rw [if_neg (by simp; omega), sat_MulDiv_eq k hk (w64_range _) (by unfold I64; omega) (by unfold I64; omega) (by omega) (by omega)]
    simp only [Option.bind_some]
    have := w64_range (a - b)
    unfold I64 at this
    unfold md df
    rw [clamp_id (by unfold I64; omega)]
theorem ref2_Diff_eq {a b : Int} (ha : U64 a) (hb : U64 b) : chronobateref02_Diff.f a b = some (df a b) := by
  unfold U64 at ha hb
  unfold chronobateref02_Diff.f
  have ew : wrap64 (IntKind.u64.wrap (a - b)) = wrap64 (a - b) := by rw [wu64]; unfold wrap64; omega
  rw [ew]
  unfold df
  have hd := w64_range (a - b)
  unfold I64 at hd
  generalize wrap64 (a - b) = d at *
  by_cases h : d ≥ 0
  · rw [if_pos h, wu64_id (n := d) (by unfold U64; omega), ref2_Ns_eq (by unfold U64; omega)]
    simp only [Option.bind_some]
  · rw [if_neg h, w64_id (n := d + 1) (by unfold I64; omega), w64_id (n := -(d + 1)) (by unfold I64; omega), wu64_id (n := -(d + 1)) (by unfold U64; omega), wu64_id (n := -(d + 1) + 1) (by unfold U64; omega), ref2_Ns_eq (by unfold U64; omega)]
    simp only [Option.bind_some]
    rw [show -(d + 1) + 1 = -d by omega, Int.tmod_eq_emod_of_nonneg (show 0 ≤ -d by omega), wu64_id (n := -d % 4294967296 * 1000000000) (by unfold U64; omega), Int.tmod_eq_emod_of_nonneg (show 0 ≤ -d % 4294967296 * 1000000000 by omega)]
    have e3 : -d % 4294967296 * 1000000000 % 4294967296 = -d * 1000000000 % 4294967296 := by
      rw [Int.mul_emod, Int.emod_emod, ← Int.mul_emod]
    have e4 : d * 1000000000 = -(-d * 1000000000) := by omega
    have h5 : 0 ≤ -d * 1000000000 ∧ -d * 1000000000 ≤ 9223372036854775808000000000 := by omega
    rw [e3, e4]
    generalize -d * 1000000000 = P at *
    clear e3 e4 hd h ew
    by_cases h2 : P % 4294967296 = 0
    · rw [if_pos h2, w64_id (n := -(P / 4294967296)) (by unfold I64; omega)]
      congr 1
      omega
    · rw [if_neg h2, w64_id (n := P / 4294967296 + 1) (by unfold I64; omega), w64_id (n := -(P / 4294967296 + 1)) (by unfold I64; omega)]
      congr 1
      omega
end Go.Proofs.Ytableianhaojcaa.L
