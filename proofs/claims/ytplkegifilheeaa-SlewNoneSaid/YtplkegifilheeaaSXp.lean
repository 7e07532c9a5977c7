/- Symbolic execution of the model's code, part 13: words for reading a tree. -/
import Derived.Test.YtplkegifilheeaaSXl
namespace Go.SX
variable {ρ : Env}
theorem ev_lss (a b : SE) : (evB ρ (.cmp .lss a b) = true) = (den ρ a < den ρ b) := by
  rw [evB, den, ofB_bne]; exact propext ⟨fun h => of_decide_eq_true h, fun h => decide_eq_true h⟩
theorem ev_lss' (a b : SE) : (evB ρ (.cmp .lss a b) = false) = (den ρ b ≤ den ρ a) := by
  rw [evB, den, ofB_bne]; exact propext ⟨fun h => by have := of_decide_eq_false h; omega, fun h => decide_eq_false (by omega)⟩
theorem ev_leq (a b : SE) : (evB ρ (.cmp .leq a b) = true) = (den ρ a ≤ den ρ b) := by
  rw [evB, den, ofB_bne]; exact propext ⟨fun h => of_decide_eq_true h, fun h => decide_eq_true h⟩
theorem ev_leq' (a b : SE) : (evB ρ (.cmp .leq a b) = false) = (den ρ b < den ρ a) := by
  rw [evB, den, ofB_bne]; exact propext ⟨fun h => by have := of_decide_eq_false h; omega, fun h => decide_eq_false (by omega)⟩
theorem ev_eql (a b : SE) : (evB ρ (.cmp .eql a b) = true) = (den ρ a = den ρ b) := by
  rw [evB, den, ofB_bne]; simp [cmpI]
theorem ev_eql' (a b : SE) : (evB ρ (.cmp .eql a b) = false) = (den ρ a ≠ den ρ b) := by
  rw [evB, den, ofB_bne]; simp [cmpI]
theorem ev_neq (a b : SE) : (evB ρ (.cmp .neq a b) = true) = (den ρ a ≠ den ρ b) := by
  rw [evB, den, ofB_bne]; simp [cmpI]
theorem ev_neq' (a b : SE) : (evB ρ (.cmp .neq a b) = false) = (den ρ a = den ρ b) := by
  rw [evB, den, ofB_bne]; simp [cmpI]
theorem ev_not (a : SE) : (evB ρ (.not a) = true) = (evB ρ a = false) := by
  rw [evB, den, ofB_bne]; simp [evB]
theorem ev_not' (a : SE) : (evB ρ (.not a) = false) = (evB ρ a = true) := by
  rw [evB, den, ofB_bne]; simp [evB]
theorem ev_and (a b : SE) : (evB ρ (.and a b) = true) = (evB ρ a = true ∧ evB ρ b = true) := by
  rw [evB, den, ofB_bne]; simp [evB]
theorem ev_and' (a b : SE) : (evB ρ (.and a b) = false) = ¬(evB ρ a = true ∧ evB ρ b = true) := by
  rw [evB, den, ofB_bne]; simp [evB]
theorem ev_lit1 : (evB ρ (.lit 1) = true) = True := by simp [evB, den]
theorem ev_lit0 : (evB ρ (.lit 0) = true) = False := by simp [evB, den]
theorem ev_app (f : Nat) (a : SE) : (evB ρ (.app f a) = true) = (ρ.f f (dens ρ a) ≠ 0) := by
  rw [evB, den]; simp
theorem ev_app' (f : Nat) (a : SE) : (evB ρ (.app f a) = false) = (ρ.f f (dens ρ a) = 0) := by
  rw [evB, den]; simp

theorem says1 {m : List AObj} : saysTrue ρ (.bool (.lit 1)) m := by show evB ρ (.lit 1) = true; rw [ev_lit1]; trivial

theorem i64_wrap (n : Int) : IntKind.i64.wrap n = (n + 9223372036854775808) % 18446744073709551616 - 9223372036854775808 := by
  simp only [IntKind.wrap, IntKind.bits, IntKind.signed]
  simp
  omega
theorem u64_wrap (n : Int) : IntKind.u64.wrap n = n % 18446744073709551616 := by
  simp [IntKind.wrap, IntKind.bits, IntKind.signed]
theorem u8_wrap (n : Int) : IntKind.u8.wrap n = n % 256 := by
  simp [IntKind.wrap, IntKind.bits, IntKind.signed]
theorem u32_wrap (n : Int) : IntKind.u32.wrap n = n % 4294967296 := by
  simp [IntKind.wrap, IntKind.bits, IntKind.signed]

theorem ofInt_u64 {x : Int} (h0 : 0 ≤ x) (h1 : x < 18446744073709551616) : (BitVec.ofInt 64 x).toNat = x.toNat := by
  rw [BitVec.toNat_ofInt]
  congr 1
  exact Int.emod_eq_of_lt h0 h1
theorem or_add {x y : Int} (i : Nat) (hx : 0 ≤ x) (hx1 : x < 18446744073709551616) (hy : 0 ≤ y) (hy1 : y < 18446744073709551616) (h1 : x.toNat % 2 ^ i = 0) (h2 : y.toNat < 2 ^ i) : binI .or .u64 x y = IntKind.u64.wrap (x + y) := by
  show IntKind.u64.wrap (((BitVec.ofInt 64 x ||| BitVec.ofInt 64 y).toNat : Nat) : Int) = _
  rw [BitVec.toNat_or, ofInt_u64 hx hx1, ofInt_u64 hy hy1]
  have e : x.toNat = (x.toNat / 2 ^ i) <<< i := by
    rw [Nat.shiftLeft_eq]
    have := Nat.div_add_mod x.toNat (2 ^ i)
    rw [h1, Nat.mul_comm] at this
    omega
  have e2 : x.toNat ||| y.toNat = x.toNat + y.toNat := by
    rw [e, ← Nat.shiftLeft_add_eq_or_of_lt h2]
  rw [e2]
  congr 1
  omega
/-- One byte more of a word: by shift and or, by product and sum. -/
theorem word_step (acc : Int) {c : Int} (h0 : 0 ≤ c) (h1 : c ≤ 255) : binI .or .u64 (binI .shl .u64 acc 8) (IntKind.u64.wrap c) = binI .add .u64 (binI .mul .u64 256 acc) (IntKind.u64.wrap c) := by
  have e1 : binI .shl .u64 acc 8 = acc * 256 % 18446744073709551616 := by
    show IntKind.u64.wrap (acc * 2 ^ (min (8 : Int).toNat 64)) = _
    rw [u64_wrap]; rfl
  have e2 : binI .mul .u64 256 acc = acc * 256 % 18446744073709551616 := by
    show IntKind.u64.wrap (256 * acc) = _
    rw [u64_wrap, Int.mul_comm]
  have e3 : IntKind.u64.wrap c = c := by rw [u64_wrap]; omega
  rw [e1, e2, e3]
  rw [or_add 8 (by omega) (by omega) (by omega) (by omega) (by omega) (by omega)]
  rfl
theorem word_first {c : Int} (h0 : 0 ≤ c) (h1 : c ≤ 255) : binI .or .u64 0 (IntKind.u64.wrap c) = binI .add .u64 0 (IntKind.u64.wrap c) := by
  have e3 : IntKind.u64.wrap c = c := by rw [u64_wrap]; omega
  rw [e3, or_add 8 (by omega) (by omega) (by omega) (by omega) (by omega) (by omega)]
  rfl
theorem u8_parts : ∀ n : Fin 256, binI .shr .u8 (n.val : Int) 6 = binI .quo .u8 (n.val : Int) 64 ∧ binI .and .u8 (binI .shr .u8 (n.val : Int) 3) 7 = binI .rem .u8 (binI .quo .u8 (n.val : Int) 8) 8 ∧
    binI .and .u8 (n.val : Int) 7 = binI .rem .u8 (n.val : Int) 8 := by decide +kernel
theorem u8_part {c : Int} (h0 : 0 ≤ c) (h1 : c ≤ 255) : binI .shr .u8 c 6 = binI .quo .u8 c 64 ∧ binI .and .u8 (binI .shr .u8 c 3) 7 = binI .rem .u8 (binI .quo .u8 c 8) 8 ∧ binI .and .u8 c 7 = binI .rem .u8 c 8 := by
  have := u8_parts ⟨c.toNat, by omega⟩
  have e : ((⟨c.toNat, by omega⟩ : Fin 256).val : Int) = c := by show ((c.toNat : Nat) : Int) = c; omega
  rw [e] at this
  exact this
end Go.SX
