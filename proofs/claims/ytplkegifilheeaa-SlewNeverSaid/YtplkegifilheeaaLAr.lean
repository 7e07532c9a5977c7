/- Plain lemmas on whole numbers of 64 bits: wraps, bits, signs. No conditions of the program. -/
import Derived.Test.YtplkegifilheeaaWWords
import Derived.Test.YtplkegifilheeaaWMore
import Derived.Laws.BitsAllLaws
namespace Go.Proofs.Ytplkegifilheeaa.L
open Go.RowKit Go.Proofs.YtplkegifilheeaaW.PrintWords Go.Proofs.YtplkegifilheeaaW.PrintLast Go.Proofs.YtplkegifilheeaaW.PrintMore
set_option linter.unusedVariables false
set_option linter.unusedSimpArgs false

/-- A call's answer goes on: by a proof that the kernel need not reckon. -/
theorem bsome {α β : Type} (a : α) (f : α → Option β) : (some a).bind f = f a := id rfl
/-- A number of int64's range. -/
def I64 (n : Int) : Prop := -9223372036854775808 ≤ n ∧ n ≤ 9223372036854775807
def U64 (n : Int) : Prop := 0 ≤ n ∧ n ≤ 18446744073709551615
theorem i64_of_wf {n : Int} (h : (Lit.int .i64 n).wf = true) : I64 n := by
  have hmin : IntKind.i64.min = -9223372036854775808 := rfl
  have hmax : IntKind.i64.max = 9223372036854775807 := rfl
  simp only [Lit.wf, Bool.and_eq_true, decide_eq_true_eq] at h
  unfold I64
  omega
theorem u64_of_wf {n : Int} (h : (Lit.int .u64 n).wf = true) : U64 n := by
  have hmin : IntKind.u64.min = 0 := rfl
  have hmax : IntKind.u64.max = 18446744073709551615 := rfl
  simp only [Lit.wf, Bool.and_eq_true, decide_eq_true_eq] at h
  unfold U64
  omega
theorem w64_id {n : Int} (h : I64 n) : wrap64 n = n := by unfold I64 at h; unfold wrap64; omega
theorem w64_range (n : Int) : I64 (wrap64 n) := by unfold I64 wrap64; omega
theorem wu64 (n : Int) : IntKind.u64.wrap n = n % 18446744073709551616 := by simp [IntKind.wrap, IntKind.bits, IntKind.signed]
theorem wu64_id {n : Int} (h : U64 n) : IntKind.u64.wrap n = n := by unfold U64 at h; rw [wu64]; omega

/-- The greatest, the least, or the number itself. -/
def clamp (n : Int) : Int := if n > 9223372036854775807 then 9223372036854775807 else if n < -9223372036854775808 then -9223372036854775808 else n
theorem clamp_range (n : Int) : I64 (clamp n) := by unfold I64 clamp; split <;> (try split) <;> omega
theorem clamp_id {n : Int} (h : I64 n) : clamp n = n := by unfold I64 at h; unfold clamp; rw [if_neg (by omega), if_neg (by omega)]

theorem bits_toInt (x : BitVec 64) : IntKind.i64.wrap (x.toNat : Int) = x.toInt := by
  rw [IntKind.wrap_i64, BitVec.toInt_eq_toNat_cond]
  have := x.isLt
  split <;> omega
theorem ofInt_toInt {a : Int} (h : I64 a) : (BitVec.ofInt 64 a).toInt = a := by
  unfold I64 at h
  exact BitVec.toInt_ofInt_eq_self (by decide) (by simp; omega) (by simp; omega)
theorem xor_neg {a b : Int} (ha : I64 a) (hb : I64 b) : (Go.bits .xor .i64 a b < 0) ↔ ¬ (a < 0 ↔ b < 0) := by
  show IntKind.i64.wrap ((BitVec.ofInt 64 a ^^^ BitVec.ofInt 64 b).toNat : Int) < 0 ↔ _
  rw [bits_toInt]
  have h := @BitVec.msb_eq_toInt 64 (BitVec.ofInt 64 a ^^^ BitVec.ofInt 64 b)
  rw [BitVec.msb_xor, BitVec.msb_eq_toInt, BitVec.msb_eq_toInt, ofInt_toInt ha, ofInt_toInt hb] at h
  have h2 : (decide ((BitVec.ofInt 64 a ^^^ BitVec.ofInt 64 b).toInt < 0) = true) ↔ (decide (a < 0) ^^ decide (b < 0)) = true := by rw [h]
  rw [decide_eq_true_iff] at h2
  rw [h2]
  by_cases h0 : a < 0 <;> by_cases h1 : b < 0 <;> simp [h0, h1]
theorem and_neg {a b : Int} (ha : I64 a) (hb : I64 b) : (Go.bits .and .i64 a b < 0) ↔ (a < 0 ∧ b < 0) := by
  show IntKind.i64.wrap ((BitVec.ofInt 64 a &&& BitVec.ofInt 64 b).toNat : Int) < 0 ↔ _
  rw [bits_toInt]
  have h := @BitVec.msb_eq_toInt 64 (BitVec.ofInt 64 a &&& BitVec.ofInt 64 b)
  rw [BitVec.msb_and, BitVec.msb_eq_toInt, BitVec.msb_eq_toInt, ofInt_toInt ha, ofInt_toInt hb] at h
  have h2 : (decide ((BitVec.ofInt 64 a &&& BitVec.ofInt 64 b).toInt < 0) = true) ↔ (decide (a < 0) && decide (b < 0)) = true := by rw [h]
  rw [decide_eq_true_iff] at h2
  rw [h2]
  by_cases h0 : a < 0 <;> by_cases h1 : b < 0 <;> simp [h0, h1]
theorem bits_range (op : BinOp) (a b : Int) : I64 (Go.bits op .i64 a b) := by
  unfold I64 Go.bits
  rw [IntKind.wrap_i64]
  omega

theorem nat_add_xor (a b : Nat) : a + b = (a ^^^ b) + 2 * (a &&& b) := by
  induction a using Nat.strongRecOn generalizing b with
  | _ a ih =>
    by_cases h0 : a = 0
    · subst h0
      simp
    · have h := ih (a / 2) (by omega) (b / 2)
      rw [← Nat.xor_div_two, ← Nat.and_div_two] at h
      have hx := @Nat.xor_mod_two_eq_one a b
      have hn := @Nat.and_mod_two_eq_one a b
      have e1 : (a ^^^ b) % 2 = (a + b) % 2 := by omega
      have e2 : (a &&& b) % 2 = if a % 2 = 1 ∧ b % 2 = 1 then 1 else 0 := by split <;> omega
      split at e2 <;> omega
/-- A number of int64 by its sign and its low 63 bits. -/
theorem mid_id {a b : Int} (ha : I64 a) (hb : I64 b) : Go.bits .xor .i64 a b + 2 * Go.bits .and .i64 a b = a + b := by
  show IntKind.i64.wrap ((BitVec.ofInt 64 a ^^^ BitVec.ofInt 64 b).toNat : Int) + 2 * IntKind.i64.wrap ((BitVec.ofInt 64 a &&& BitVec.ofInt 64 b).toNat : Int) = _
  rw [bits_toInt, bits_toInt]
  have ea := ofInt_toInt ha
  have eb := ofInt_toInt hb
  generalize BitVec.ofInt 64 a = x at ea ⊢
  generalize BitVec.ofInt 64 b = y at eb ⊢
  subst ea eb
  have hn := nat_add_xor x.toNat y.toNat
  rw [← BitVec.toNat_xor, ← BitVec.toNat_and] at hn
  have m1 := BitVec.msb_xor (x := x) (y := y)
  have m2 := BitVec.msb_and (x := x) (y := y)
  rw [BitVec.toInt_eq_msb_cond, BitVec.toInt_eq_msb_cond, BitVec.toInt_eq_msb_cond, BitVec.toInt_eq_msb_cond, m1, m2]
  generalize (x ^^^ y).toNat = p at hn ⊢
  generalize (x &&& y).toNat = q at hn ⊢
  cases hx : x.msb <;> cases hy : y.msb <;> simp <;> omega
theorem mid_eq {a b : Int} (ha : I64 a) (hb : I64 b) : wrap64 (Go.bits .and .i64 a b + Go.bits .xor .i64 a b / 2) = (a + b) / 2 := by
  have h := mid_id ha hb
  have e : Go.bits .and .i64 a b + Go.bits .xor .i64 a b / 2 = (a + b) / 2 := by omega
  rw [e]
  unfold I64 at ha hb
  exact w64_id (by unfold I64; omega)
theorem u64_mask32 {a : Int} (h : U64 a) : Go.bits .and .u64 a 4294967295 = a % 4294967296 := by
  unfold U64 at h
  rw [u64_and a 4294967295 (by omega) (by omega) (by omega) (by omega)]
  have : a.toNat &&& 4294967295 = a.toNat % 4294967296 := Nat.and_two_pow_sub_one_eq_mod _ 32
  rw [show (4294967295 : Int).toNat = 4294967295 from rfl, this]
  omega
theorem u64_join (i : Nat) {x y : Int} (hx : U64 x) (hy : U64 y) (h1 : x.toNat % 2 ^ i = 0) (h2 : y.toNat < 2 ^ i) : Go.bits .or .u64 x y = x + y := by
  unfold U64 at hx hy
  rw [u64_or x y (by omega) (by omega) (by omega) (by omega), nat_join i _ _ h1 h2]
  omega
end Go.Proofs.Ytplkegifilheeaa.L
