-- Written by a program of this session out of the translation (wip/patch_print.py, wip/print2.sh). Lean checks it.
import Derived.Test.YtplkegifilheeaaGx0
import Derived.Test.YtplkegifilheeaaGx1
namespace Go.Proofs.Ytplkegifilheeaa.G
open Go.RowKit Go.Proofs.YtplkegifilheeaaW.PrintWords Go.Proofs.YtplkegifilheeaaW.PrintLast Go.Proofs.YtplkegifilheeaaW.PrintMore
attribute [local go_sem] max2_int min2_int max_two min_two max_three min_three max_four min_four   -- for this text's walks alone
set_option linter.unusedVariables false
set_option linter.unusedSimpArgs false

/-! ### sat_Sub: function 18 -/
def sat_Sub.f (a0 : Int) (a1 : Int) : Option (Int) := if (Go.bits .and .i64 (Go.bits .xor .i64 a0 a1) (Go.bits .xor .i64 a0 (wrap64 (a0 - a1)))) < 0 then ((sat_end.f a0).bind fun t115 => (some t115)) else (some (wrap64 (a0 - a1)))
set_option maxHeartbeats 8000000 in
set_option maxRecDepth 100000 in
theorem sat_Sub.calls (a0 : Int) (a1 : Int) (r : Int) (w : World) (h : sat_Sub.f a0 a1 = some r) :
    Calls Try.prog 18 #[.int .i64 a0, .int .i64 a1] w fun e w' => e = .returned (.int .i64 r) ∧ Drawn0 w w' := by
  have H : (if (Go.bits .and .i64 (Go.bits .xor .i64 a0 a1) (Go.bits .xor .i64 a0 (wrap64 (a0 - a1)))) < 0 then ((sat_end.f a0).bind fun t115 => (some t115)) else (some (wrap64 (a0 - a1)))) = some r := h
  clear h
  by_cases c3 : (Go.bits .and .i64 (Go.bits .xor .i64 a0 a1) (Go.bits .xor .i64 a0 (wrap64 (a0 - a1)))) < 0
  · rw [if_pos c3] at H
    have c3b0 : decide ((Go.bits .and .i64 (Go.bits .xor .i64 a0 a1) (Go.bits .xor .i64 a0 (wrap64 (a0 - a1)))) < 0) = true := decide_eq_true c3
    clear c3
    replace H := Option.bind_eq_some_iff.mp H
    obtain ⟨t115, A40, H⟩ := H
    replace H : (some t115) = some r := H
    have A4 := Aside0.mk A40
    clear A40
    obtain rfl := Option.some.inj H
    go_enter Try.func18, Try.ntmps18
    go_wp2_with (first | ((with_reducible refine gate_callee (f := 30) rfl ?_); refine goesL_ (some 18) rfl rfl Try.func30 (by kernel_rfl) rfl #[.int .i64 a0] rfl (by (try simp only [List.map_toArray, List.map_cons, List.map_nil]); first | done | rfl | (simp only [List.length_drop, List.length_take]; rfl)) ?_; (with_reducible refine (sat_end.calls a0 t115 _ A4.out).mono ?_); rintro e w' ⟨rfl, ⟨nd, rfl⟩⟩; refine ⟨_, rfl, ?_⟩))
    go_ret
    exact ⟨by first | rfl | (simp; done) | (simp [*]; done), by repeat (first | exact Drawn0.refl _ | apply Drawn0.step)⟩
  · rw [if_neg c3] at H
    have c3b0 : decide ((Go.bits .and .i64 (Go.bits .xor .i64 a0 a1) (Go.bits .xor .i64 a0 (wrap64 (a0 - a1)))) < 0) = false := decide_eq_false c3
    clear c3
    obtain rfl := Option.some.inj H
    go_enter Try.func18, Try.ntmps18
    go_wp2
    go_ret
    exact ⟨by first | rfl | (simp; done) | (simp [*]; done), by repeat (first | exact Drawn0.refl _ | apply Drawn0.step)⟩

end Go.Proofs.Ytplkegifilheeaa.G
