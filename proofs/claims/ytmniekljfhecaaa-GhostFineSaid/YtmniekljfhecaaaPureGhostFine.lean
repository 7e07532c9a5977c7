/- Of any numbers whether a counter is fine is what the reference says. No conditions. -/
import Derived.Test.YtmniekljfhecaaaLGh
import Derived.Test.YtmniekljfhecaaaGx5
namespace Go.Proofs.Ytmniekljfhecaaa.Pure
open Go.RowKit Go.Proofs.Ytmniekljfhecaaa.G Go.Proofs.YtmniekljfhecaaaW.PrintWords Go.Proofs.YtmniekljfhecaaaW.PrintLast Go.Proofs.YtmniekljfhecaaaW.PrintMore Go.Proofs.Ytmniekljfhecaaa.L
set_option linter.unusedVariables false
set_option linter.unusedSimpArgs false
theorem GhostFine : chronobatelaw18_GhostFine.Pure := by
  intro r t h w0 w1 w2
  refine ⟨1, ?_⟩
  unfold chronobatelaw18_GhostFine.f
  rw [alive18 1 (by omega), bsome, if_pos rfl, ghost_Fine_eq 1 (by omega) (i64_of_wf w1) (i64_of_wf w2), bsome, ref18_Fine_eq 1 (by omega) (i64_of_wf w1) (i64_of_wf w2), bsome, beq_self_eq_true]
end Go.Proofs.Ytmniekljfhecaaa.Pure
