-- Written by a program of this session out of the translation (wip/patch_print.py, wip/print2.sh). Lean checks it.
import Derived.Test.YtableianhaojcaaGx0
namespace Go.Proofs.Ytableianhaojcaa.G
open Go.RowKit Go.Proofs.YtableianhaojcaaW.PrintWords Go.Proofs.YtableianhaojcaaW.PrintLast Go.Proofs.YtableianhaojcaaW.PrintMore
attribute [local go_sem] max2_int min2_int max_two min_two max_three min_three max_four min_four   -- for this text's walks alone
set_option linter.unusedVariables false
set_option linter.unusedSimpArgs false

/-! ### sat_end: function 79 -/
def sat_end.f (a0 : Int) : Option (Int) := some (Go.bits .xor .i64 9223372036854775807 (a0 / 9223372036854775808))
set_option maxHeartbeats 8000000 in
set_option maxRecDepth 100000 in
theorem sat_end.calls (a0 : Int) (r : Int) (w : World) (h : sat_end.f a0 = some r) :
    Calls Try.prog 79 #[.int .i64 a0] w fun e w' => e = .returned (.int .i64 r) ∧ Drawn0 w w' := by
  have H : (some (Go.bits .xor .i64 9223372036854775807 (a0 / 9223372036854775808))) = some r := h
  clear h
  obtain rfl := Option.some.inj H
  go_enter Try.func79, Try.ntmps79
  go_wp2
  go_ret
  exact ⟨by first | rfl | (simp; done) | (simp [*]; done), by repeat (first | exact Drawn0.refl _ | apply Drawn0.step)⟩

end Go.Proofs.Ytableianhaojcaa.G
