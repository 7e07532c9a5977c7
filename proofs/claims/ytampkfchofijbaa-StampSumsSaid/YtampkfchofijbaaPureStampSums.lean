/- The way from one stamp to another one by a third one is the way straight, or 1 less, where all are near. No conditions. -/
import Derived.Test.YtampkfchofijbaaLSt
namespace Go.Proofs.Ytampkfchofijbaa.Pure
open Go.RowKit Go.Proofs.Ytampkfchofijbaa.G Go.Proofs.YtampkfchofijbaaW.PrintWords Go.Proofs.YtampkfchofijbaaW.PrintLast Go.Proofs.YtampkfchofijbaaW.PrintMore Go.Proofs.Ytampkfchofijbaa.L
set_option linter.unusedVariables false
set_option linter.unusedSimpArgs false
theorem StampSums (a x y : Int) (w0 : (Lit.int .u64 a).wf = true) (w1 : (Lit.int .i32 x).wf = true) (w2 : (Lit.int .i32 y).wf = true) : ∃ k, chronobatelaw02_StampSums.f k a x y = some true := by
  have hmin : IntKind.i32.min = -2147483648 := rfl
  have hmax : IntKind.i32.max = 2147483647 := rfl
  simp only [Lit.wf, Bool.and_eq_true, decide_eq_true_eq] at w1 w2
  have h0 := u64_of_wf w0
  unfold U64 at h0
  refine ⟨100, ?_⟩
  unfold chronobatelaw02_StampSums.f
  rw [w64_id (n := x) (by unfold I64; omega), w64_id (n := y) (by unfold I64; omega), w64_id (n := x * 1048576) (by unfold I64; omega), w64_id (n := y * 1048576) (by unfold I64; omega)]
  simp only [wu64]
  rw [alive2 100 (by omega), stamp_Diff_eq 100 (by omega) (by unfold U64; omega) (by unfold U64; omega), stamp_Diff_eq 100 (by omega) (by unfold U64; omega) (by unfold U64; omega), stamp_Diff_eq 100 (by omega) (by unfold U64; omega) (by unfold U64; omega)]
  simp only [Option.bind_some, if_true]
  have e1 : wrap64 ((a + x * 1048576 % 18446744073709551616) % 18446744073709551616 - a) = x * 1048576 := by unfold wrap64; omega
  have e2 : wrap64 (((a + x * 1048576 % 18446744073709551616) % 18446744073709551616 + y * 1048576 % 18446744073709551616) % 18446744073709551616 - (a + x * 1048576 % 18446744073709551616) % 18446744073709551616) = y * 1048576 := by unfold wrap64; omega
  have e3 : wrap64 (((a + x * 1048576 % 18446744073709551616) % 18446744073709551616 + y * 1048576 % 18446744073709551616) % 18446744073709551616 - a) = x * 1048576 + y * 1048576 := by unfold wrap64; omega
  unfold df
  rw [e1, e2, e3]
  rw [w64_id (n := x * 1048576 * 1000000000 / 4294967296 + y * 1048576 * 1000000000 / 4294967296) (by unfold I64; omega), w64_id (by unfold I64; omega)]
  by_cases h : x * 1048576 * 1000000000 / 4294967296 + y * 1048576 * 1000000000 / 4294967296 - (x * 1048576 + y * 1048576) * 1000000000 / 4294967296 = 0
  · rw [if_pos h]
  · rw [if_neg h]
    congr 1
    rw [beq_iff_eq]
    omega
end Go.Proofs.Ytampkfchofijbaa.Pure
