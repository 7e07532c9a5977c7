/- A round of 2^32 seconds later the stamp is the same; a second later its upper half is 1 more. No conditions. -/
import Derived.Test.YtampkfchofijbaaLSt
namespace Go.Proofs.Ytampkfchofijbaa.Pure
open Go.RowKit Go.Proofs.Ytampkfchofijbaa.G Go.Proofs.YtampkfchofijbaaW.PrintWords Go.Proofs.YtampkfchofijbaaW.PrintLast Go.Proofs.YtampkfchofijbaaW.PrintMore Go.Proofs.Ytampkfchofijbaa.L
set_option linter.unusedVariables false
set_option linter.unusedSimpArgs false
theorem StampRounds : chronobatelaw02_StampRounds.Pure := by
  intro a w0
  refine ⟨100, ?_⟩
  unfold chronobatelaw02_StampRounds.f
  have ht := tmod_range a 2305843009213693952 (by omega)
  generalize Int.tmod a 2305843009213693952 = n at *
  rw [alive2 100 (by omega), w64_id (n := n + 4294967296000000000) (by unfold I64; omega), w64_id (n := n + 1000000000) (by unfold I64; omega), stamp_From_eq 100 (by omega) (a := n + 4294967296000000000) (by unfold I64; omega), stamp_From_eq 100 (by omega) (a := n + 1000000000) (by unfold I64; omega), stamp_From_eq 100 (by omega) (a := n) (by unfold I64; omega)]
  simp only [Option.bind_some, if_true]
  have e1 : st (n + 4294967296000000000) = st n + 18446744073709551616 := by unfold st; omega
  have e2 : st (n + 1000000000) = st n + 4294967296 := by unfold st; omega
  have f : ∀ a, fr a = st a % 18446744073709551616 := fun _ => rfl
  rw [f, f, f, e1, e2]
  rw [if_pos (by omega), wu64]
  congr 1
  rw [beq_iff_eq]
  omega
end Go.Proofs.Ytampkfchofijbaa.Pure
