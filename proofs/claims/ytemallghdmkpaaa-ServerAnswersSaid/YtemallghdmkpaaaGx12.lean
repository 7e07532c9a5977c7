-- Written by a program of this session out of the translation (wip/patch_print.py, wip/print2.sh). Lean checks it.
import Derived.Test.YtemallghdmkpaaaGx0
namespace Go.Proofs.Ytemallghdmkpaaa.G
open Go.RowKit Go.Proofs.YtemallghdmkpaaaW.PrintWords Go.Proofs.YtemallghdmkpaaaW.PrintLast Go.Proofs.YtemallghdmkpaaaW.PrintMore
attribute [local go_sem] max2_int min2_int max_two min_two max_three min_three max_four min_four   -- for this text's walks alone
set_option linter.unusedVariables false
set_option linter.unusedSimpArgs false

/-! ### chronobateref02_From: function 23 -/
def chronobateref02_From.f (a0 : Int) : Option (Int) := if (Int.tmod a0 1000000000) < 0 then (some (IntKind.u64.wrap ((IntKind.u64.wrap ((IntKind.u64.wrap (wrap64 ((wrap64 (Int.tdiv a0 1000000000)) - 1))) * 4294967296)) + (IntKind.u64.wrap (Int.tdiv (IntKind.u64.wrap ((IntKind.u64.wrap (wrap64 ((Int.tmod a0 1000000000) + 1000000000))) * 4294967296)) 1000000000))))) else (some (IntKind.u64.wrap ((IntKind.u64.wrap ((IntKind.u64.wrap (wrap64 (Int.tdiv a0 1000000000))) * 4294967296)) + (IntKind.u64.wrap (Int.tdiv (IntKind.u64.wrap ((IntKind.u64.wrap (Int.tmod a0 1000000000)) * 4294967296)) 1000000000)))))
set_option maxHeartbeats 8000000 in
set_option maxRecDepth 100000 in
theorem chronobateref02_From.calls (a0 : Int) (r : Int) (w : World) (h : chronobateref02_From.f a0 = some r) :
    Calls Try.prog 23 #[.int .i64 a0] w fun e w' => e = .returned (.int .u64 r) ∧ Drawn0 w w' := by
  have H : (if (Int.tmod a0 1000000000) < 0 then (some (IntKind.u64.wrap ((IntKind.u64.wrap ((IntKind.u64.wrap (wrap64 ((wrap64 (Int.tdiv a0 1000000000)) - 1))) * 4294967296)) + (IntKind.u64.wrap (Int.tdiv (IntKind.u64.wrap ((IntKind.u64.wrap (wrap64 ((Int.tmod a0 1000000000) + 1000000000))) * 4294967296)) 1000000000))))) else (some (IntKind.u64.wrap ((IntKind.u64.wrap ((IntKind.u64.wrap (wrap64 (Int.tdiv a0 1000000000))) * 4294967296)) + (IntKind.u64.wrap (Int.tdiv (IntKind.u64.wrap ((IntKind.u64.wrap (Int.tmod a0 1000000000)) * 4294967296)) 1000000000)))))) = some r := h
  clear h
  by_cases c2 : (Int.tmod a0 1000000000) < 0
  · rw [if_pos c2] at H
    have c2b0 : decide ((Int.tmod a0 1000000000) < 0) = true := decide_eq_true c2
    clear c2
    obtain rfl := Option.some.inj H
    go_enter Try.func23, Try.ntmps23
    go_wp2
    go_ret
    exact ⟨by first | rfl | (simp; done) | (simp [*]; done), by repeat (first | exact Drawn0.refl _ | apply Drawn0.step)⟩
  · rw [if_neg c2] at H
    have c2b0 : decide ((Int.tmod a0 1000000000) < 0) = false := decide_eq_false c2
    clear c2
    obtain rfl := Option.some.inj H
    go_enter Try.func23, Try.ntmps23
    go_wp2
    go_ret
    exact ⟨by first | rfl | (simp; done) | (simp [*]; done), by repeat (first | exact Drawn0.refl _ | apply Drawn0.step)⟩

end Go.Proofs.Ytemallghdmkpaaa.G
