/- Of whole seconds a stamp is told exactly, and comes back exactly; a part of a second is below a second. No conditions. -/
import Derived.Test.YtampkfchofijbaaLSt
namespace Go.Proofs.Ytampkfchofijbaa.Pure
open Go.RowKit Go.Proofs.Ytampkfchofijbaa.G Go.Proofs.YtampkfchofijbaaW.PrintWords Go.Proofs.YtampkfchofijbaaW.PrintLast Go.Proofs.YtampkfchofijbaaW.PrintMore Go.Proofs.Ytampkfchofijbaa.L
set_option linter.unusedVariables false
set_option linter.unusedSimpArgs false
theorem StampParts : chronobatelaw02_StampParts.Pure := by
  intro a s w0 w1
  have h0 : -2147483648 ≤ a ∧ a ≤ 2147483647 := by
    have hmin : IntKind.i32.min = -2147483648 := rfl
    have hmax : IntKind.i32.max = 2147483647 := rfl
    simp only [Lit.wf, Bool.and_eq_true, decide_eq_true_eq] at w0
    omega
  have h1 : 0 ≤ s ∧ s ≤ 4294967295 := by
    have hmin : IntKind.u32.min = 0 := rfl
    have hmax : IntKind.u32.max = 4294967295 := rfl
    simp only [Lit.wf, Bool.and_eq_true, decide_eq_true_eq] at w1
    omega
  refine ⟨100, ?_⟩
  unfold chronobatelaw02_StampParts.f
  rw [w64_id (n := a) (by unfold I64; omega), w64_id (n := a * 1000000000) (by unfold I64; omega), stamp_From_eq 100 (by omega) (by unfold I64; omega)]
  simp only [Option.bind_some]
  have ef : fr (a * 1000000000) = IntKind.u64.wrap (IntKind.u64.wrap a * 4294967296) := by
    simp only [wu64]
    unfold fr
    omega
  rw [if_pos ef, stamp_Diff_eq 100 (by omega) (fr_range _) (by unfold U64; omega)]
  simp only [Option.bind_some]
  have ed : df (fr (a * 1000000000)) 0 = a * 1000000000 := by
    unfold df fr wrap64
    omega
  rw [ed, show (a * 1000000000 != a * 1000000000) = false by simp]
  simp only [chronobatelaw02_StampParts.j0, Bool.false_eq_true, if_false]
  rw [wu64_id (n := s) (by unfold U64; omega), wu64_id (n := a % 4294967296 * 4294967296 + s) (by unfold U64; omega), alive2 99 (by omega), stamp_Ns_eq (by unfold U64; omega), stamp_Ns_eq (by unfold U64; omega)]
  simp only [Option.bind_some, if_true]
  rw [if_pos (by omega), if_pos (by omega), w64_id (by unfold I64; omega)]
  congr 1
  rw [beq_iff_eq]
  omega
end Go.Proofs.Ytampkfchofijbaa.Pure
