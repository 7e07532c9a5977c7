-- Written by a program of this session out of the translation (wip/patch_print.py, wip/print2.sh). Lean checks it.
import Derived.Test.YtableianhaojcaaGx0
namespace Go.Proofs.Ytableianhaojcaa.G
open Go.RowKit Go.Proofs.YtableianhaojcaaW.PrintWords Go.Proofs.YtableianhaojcaaW.PrintLast Go.Proofs.YtableianhaojcaaW.PrintMore
attribute [local go_sem] max2_int min2_int max_two min_two max_three min_three max_four min_four   -- for this text's walks alone
set_option linter.unusedVariables false
set_option linter.unusedSimpArgs false

/-! ### chronobateref01_Half: function 82 -/
def chronobateref01_Half.f (a0 : Int) : Option (Int) := if a0 ≥ 0 then (some (wrap64 (Int.tdiv a0 2))) else (if (Int.tmod a0 2) = 0 then (some (wrap64 (Int.tdiv a0 2))) else (some (wrap64 ((wrap64 (Int.tdiv a0 2)) - 1))))
set_option maxHeartbeats 8000000 in
set_option maxRecDepth 100000 in
theorem chronobateref01_Half.calls (a0 : Int) (r : Int) (w : World) (h : chronobateref01_Half.f a0 = some r) :
    Calls Try.prog 82 #[.int .i64 a0] w fun e w' => e = .returned (.int .i64 r) ∧ Drawn0 w w' := by
  have H : (if a0 ≥ 0 then (some (wrap64 (Int.tdiv a0 2))) else (if (Int.tmod a0 2) = 0 then (some (wrap64 (Int.tdiv a0 2))) else (some (wrap64 ((wrap64 (Int.tdiv a0 2)) - 1))))) = some r := h
  clear h
  by_cases c2 : a0 ≥ 0
  · rw [if_pos c2] at H
    have c2b0 : decide (0 ≤ a0) = true := decide_eq_true c2
    clear c2
    obtain rfl := Option.some.inj H
    go_enter Try.func82, Try.ntmps82
    go_wp2
    go_ret
    exact ⟨by first | rfl | (simp; done) | (simp [*]; done), by repeat (first | exact Drawn0.refl _ | apply Drawn0.step)⟩
  · rw [if_neg c2] at H
    have c2b0 : decide (0 ≤ a0) = false := decide_eq_false c2
    clear c2
    by_cases c3 : (Int.tmod a0 2) = 0
    · rw [if_pos c3] at H
      have c3b0 : ((Int.tmod a0 2) == 0) = true := beq_iff_eq.mpr c3
      have c3b1 : ((Int.tmod a0 2) != 0) = false := bne_eq_false_iff_eq.mpr c3
      clear c3
      obtain rfl := Option.some.inj H
      go_enter Try.func82, Try.ntmps82
      go_wp2
      go_ret
      exact ⟨by first | rfl | (simp; done) | (simp [*]; done), by repeat (first | exact Drawn0.refl _ | apply Drawn0.step)⟩
    · rw [if_neg c3] at H
      have c3b0 : ((Int.tmod a0 2) == 0) = false := beq_eq_false_iff_ne.mpr c3
      have c3b1 : ((Int.tmod a0 2) != 0) = true := bne_iff_ne.mpr c3
      obtain rfl := Option.some.inj H
      go_enter Try.func82, Try.ntmps82
      go_wp2
      go_ret
      exact ⟨by first | rfl | (simp; done) | (simp [*]; done), by repeat (first | exact Drawn0.refl _ | apply Drawn0.step)⟩

/-! ### chronobateref01_Mid: function 73 -/
def chronobateref01_Mid.f (a0 : Int) (a1 : Int) : Option (Int) := (chronobateref01_Half.f a0).bind fun t309 => ((chronobateref01_Half.f a1).bind fun t310 => ((chronobateref01_Half.f (wrap64 ((wrap64 (a0 - (wrap64 (2 * t309)))) + (wrap64 (a1 - (wrap64 (2 * t310))))))).bind fun t311 => (some (wrap64 ((wrap64 (t309 + t310)) + t311)))))
set_option maxHeartbeats 8000000 in
set_option maxRecDepth 100000 in
theorem chronobateref01_Mid.calls (a0 : Int) (a1 : Int) (r : Int) (w : World) (h : chronobateref01_Mid.f a0 a1 = some r) :
    Calls Try.prog 73 #[.int .i64 a0, .int .i64 a1] w fun e w' => e = .returned (.int .i64 r) ∧ Drawn0 w w' := by
  have H : ((chronobateref01_Half.f a0).bind fun t309 => ((chronobateref01_Half.f a1).bind fun t310 => ((chronobateref01_Half.f (wrap64 ((wrap64 (a0 - (wrap64 (2 * t309)))) + (wrap64 (a1 - (wrap64 (2 * t310))))))).bind fun t311 => (some (wrap64 ((wrap64 (t309 + t310)) + t311)))))) = some r := h
  clear h
  replace H := Option.bind_eq_some_iff.mp H
  obtain ⟨t309, A30, H⟩ := H
  replace H : ((chronobateref01_Half.f a1).bind fun t310 => ((chronobateref01_Half.f (wrap64 ((wrap64 (a0 - (wrap64 (2 * t309)))) + (wrap64 (a1 - (wrap64 (2 * t310))))))).bind fun t311 => (some (wrap64 ((wrap64 (t309 + t310)) + t311))))) = some r := H
  have A3 := Aside0.mk A30
  clear A30
  replace H := Option.bind_eq_some_iff.mp H
  obtain ⟨t310, A40, H⟩ := H
  replace H : ((chronobateref01_Half.f (wrap64 ((wrap64 (a0 - (wrap64 (2 * t309)))) + (wrap64 (a1 - (wrap64 (2 * t310))))))).bind fun t311 => (some (wrap64 ((wrap64 (t309 + t310)) + t311)))) = some r := H
  have A4 := Aside0.mk A40
  clear A40
  replace H := Option.bind_eq_some_iff.mp H
  obtain ⟨t311, A50, H⟩ := H
  replace H : (some (wrap64 ((wrap64 (t309 + t310)) + t311))) = some r := H
  have A5 := Aside0.mk A50
  clear A50
  obtain rfl := Option.some.inj H
  go_enter Try.func73, Try.ntmps73
  go_wp2_with (first | ((with_reducible refine gate_callee (f := 82) rfl ?_); refine goesL_ (some 8) rfl rfl Try.func82 (by kernel_rfl) rfl #[.int .i64 a0] rfl (by (try simp only [List.map_toArray, List.map_cons, List.map_nil]); first | done | rfl | (simp only [List.length_drop, List.length_take]; rfl)) ?_; (with_reducible refine (chronobateref01_Half.calls a0 t309 _ A3.out).mono ?_); rintro e w' ⟨rfl, ⟨nd, rfl⟩⟩; refine ⟨_, rfl, ?_⟩) | ((with_reducible refine gate_callee (f := 82) rfl ?_); refine goesL_ (some 10) rfl rfl Try.func82 (by kernel_rfl) rfl #[.int .i64 a1] rfl (by (try simp only [List.map_toArray, List.map_cons, List.map_nil]); first | done | rfl | (simp only [List.length_drop, List.length_take]; rfl)) ?_; (with_reducible refine (chronobateref01_Half.calls a1 t310 _ A4.out).mono ?_); rintro e w' ⟨rfl, ⟨nd, rfl⟩⟩; refine ⟨_, rfl, ?_⟩) | ((with_reducible refine gate_callee (f := 82) rfl ?_); refine goesL_ (some 23) rfl rfl Try.func82 (by kernel_rfl) rfl #[.int .i64 (wrap64 ((wrap64 (a0 - (wrap64 (2 * t309)))) + (wrap64 (a1 - (wrap64 (2 * t310))))))] rfl (by (try simp only [List.map_toArray, List.map_cons, List.map_nil]); first | done | rfl | (simp only [List.length_drop, List.length_take]; rfl)) ?_; (with_reducible refine (chronobateref01_Half.calls (wrap64 ((wrap64 (a0 - (wrap64 (2 * t309)))) + (wrap64 (a1 - (wrap64 (2 * t310)))))) t311 _ A5.out).mono ?_); rintro e w' ⟨rfl, ⟨nd, rfl⟩⟩; refine ⟨_, rfl, ?_⟩))
  go_ret
  exact ⟨by first | rfl | (simp; done) | (simp [*]; done), by repeat (first | exact Drawn0.refl _ | apply Drawn0.step)⟩

end Go.Proofs.Ytableianhaojcaa.G
