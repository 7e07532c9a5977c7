-- Written by a program of this session out of the translation (wip/patch_print.py, wip/print2.sh). Lean checks it.
import Derived.Test.YtableianhaojcaaGx0
namespace Go.Proofs.Ytableianhaojcaa.G
open Go.RowKit Go.Proofs.YtableianhaojcaaW.PrintWords Go.Proofs.YtableianhaojcaaW.PrintLast Go.Proofs.YtableianhaojcaaW.PrintMore
attribute [local go_sem] max2_int min2_int max_two min_two max_three min_three max_four min_four   -- for this text's walks alone
set_option linter.unusedVariables false
set_option linter.unusedSimpArgs false

/-! ### chronobateref02_Ns: function 81 -/
def chronobateref02_Ns.f (a0 : Int) : Option (Int) := some (wrap64 (IntKind.u64.wrap ((IntKind.u64.wrap ((IntKind.u64.wrap (Int.tdiv a0 4294967296)) * 1000000000)) + (IntKind.u64.wrap (Int.tdiv (IntKind.u64.wrap ((Int.tmod a0 4294967296) * 1000000000)) 4294967296)))))
set_option maxHeartbeats 8000000 in
set_option maxRecDepth 100000 in
theorem chronobateref02_Ns.calls (a0 : Int) (r : Int) (w : World) (h : chronobateref02_Ns.f a0 = some r) :
    Calls Try.prog 81 #[.int .u64 a0] w fun e w' => e = .returned (.int .i64 r) ∧ Drawn0 w w' := by
  have H : (some (wrap64 (IntKind.u64.wrap ((IntKind.u64.wrap ((IntKind.u64.wrap (Int.tdiv a0 4294967296)) * 1000000000)) + (IntKind.u64.wrap (Int.tdiv (IntKind.u64.wrap ((Int.tmod a0 4294967296) * 1000000000)) 4294967296)))))) = some r := h
  clear h
  obtain rfl := Option.some.inj H
  go_enter Try.func81, Try.ntmps81
  go_wp2
  go_ret
  exact ⟨by first | rfl | (simp; done) | (simp [*]; done), by repeat (first | exact Drawn0.refl _ | apply Drawn0.step)⟩

/-! ### chronobateref02_Diff: function 70 -/
def chronobateref02_Diff.f (a0 : Int) (a1 : Int) : Option (Int) := if (wrap64 (IntKind.u64.wrap (a0 - a1))) ≥ 0 then ((chronobateref02_Ns.f (IntKind.u64.wrap (wrap64 (IntKind.u64.wrap (a0 - a1))))).bind fun t307 => (some t307)) else ((chronobateref02_Ns.f (IntKind.u64.wrap ((IntKind.u64.wrap (wrap64 (-(wrap64 ((wrap64 (IntKind.u64.wrap (a0 - a1))) + 1))))) + 1))).bind fun t308 => (if (Int.tmod (IntKind.u64.wrap ((Int.tmod (IntKind.u64.wrap ((IntKind.u64.wrap (wrap64 (-(wrap64 ((wrap64 (IntKind.u64.wrap (a0 - a1))) + 1))))) + 1)) 4294967296) * 1000000000)) 4294967296) = 0 then (some (wrap64 (-t308))) else (some (wrap64 (-(wrap64 (t308 + 1)))))))
set_option maxHeartbeats 8000000 in
set_option maxRecDepth 100000 in
theorem chronobateref02_Diff.calls (a0 : Int) (a1 : Int) (r : Int) (w : World) (h : chronobateref02_Diff.f a0 a1 = some r) :
    Calls Try.prog 70 #[.int .u64 a0, .int .u64 a1] w fun e w' => e = .returned (.int .i64 r) ∧ Drawn0 w w' := by
  have H : (if (wrap64 (IntKind.u64.wrap (a0 - a1))) ≥ 0 then ((chronobateref02_Ns.f (IntKind.u64.wrap (wrap64 (IntKind.u64.wrap (a0 - a1))))).bind fun t307 => (some t307)) else ((chronobateref02_Ns.f (IntKind.u64.wrap ((IntKind.u64.wrap (wrap64 (-(wrap64 ((wrap64 (IntKind.u64.wrap (a0 - a1))) + 1))))) + 1))).bind fun t308 => (if (Int.tmod (IntKind.u64.wrap ((Int.tmod (IntKind.u64.wrap ((IntKind.u64.wrap (wrap64 (-(wrap64 ((wrap64 (IntKind.u64.wrap (a0 - a1))) + 1))))) + 1)) 4294967296) * 1000000000)) 4294967296) = 0 then (some (wrap64 (-t308))) else (some (wrap64 (-(wrap64 (t308 + 1)))))))) = some r := h
  clear h
  by_cases c3 : (wrap64 (IntKind.u64.wrap (a0 - a1))) ≥ 0
  · rw [if_pos c3] at H
    have c3b0 : decide (0 ≤ (wrap64 (IntKind.u64.wrap (a0 - a1)))) = true := decide_eq_true c3
    clear c3
    replace H := Option.bind_eq_some_iff.mp H
    obtain ⟨t307, A40, H⟩ := H
    replace H : (some t307) = some r := H
    have A4 := Aside0.mk A40
    clear A40
    obtain rfl := Option.some.inj H
    go_enter Try.func70, Try.ntmps70
    go_wp2_with (first | ((with_reducible refine gate_callee (f := 81) rfl ?_); refine goesL_ (some 16) rfl rfl Try.func81 (by kernel_rfl) rfl #[.int .u64 (IntKind.u64.wrap (wrap64 (IntKind.u64.wrap (a0 - a1))))] rfl (by (try simp only [List.map_toArray, List.map_cons, List.map_nil]); first | done | rfl | (simp only [List.length_drop, List.length_take]; rfl)) ?_; (with_reducible refine (chronobateref02_Ns.calls (IntKind.u64.wrap (wrap64 (IntKind.u64.wrap (a0 - a1)))) t307 _ A4.out).mono ?_); rintro e w' ⟨rfl, ⟨nd, rfl⟩⟩; refine ⟨_, rfl, ?_⟩))
    go_ret
    exact ⟨by first | rfl | (simp; done) | (simp [*]; done), by repeat (first | exact Drawn0.refl _ | apply Drawn0.step)⟩
  · rw [if_neg c3] at H
    have c3b0 : decide (0 ≤ (wrap64 (IntKind.u64.wrap (a0 - a1)))) = false := decide_eq_false c3
    clear c3
    replace H := Option.bind_eq_some_iff.mp H
    obtain ⟨t308, A50, H⟩ := H
    replace H : (if (Int.tmod (IntKind.u64.wrap ((Int.tmod (IntKind.u64.wrap ((IntKind.u64.wrap (wrap64 (-(wrap64 ((wrap64 (IntKind.u64.wrap (a0 - a1))) + 1))))) + 1)) 4294967296) * 1000000000)) 4294967296) = 0 then (some (wrap64 (-t308))) else (some (wrap64 (-(wrap64 (t308 + 1)))))) = some r := H
    have A5 := Aside0.mk A50
    clear A50
    by_cases c6 : (Int.tmod (IntKind.u64.wrap ((Int.tmod (IntKind.u64.wrap ((IntKind.u64.wrap (wrap64 (-(wrap64 ((wrap64 (IntKind.u64.wrap (a0 - a1))) + 1))))) + 1)) 4294967296) * 1000000000)) 4294967296) = 0
    · rw [if_pos c6] at H
      have c6b0 : ((Int.tmod (IntKind.u64.wrap ((Int.tmod (IntKind.u64.wrap ((IntKind.u64.wrap (wrap64 (-(wrap64 ((wrap64 (IntKind.u64.wrap (a0 - a1))) + 1))))) + 1)) 4294967296) * 1000000000)) 4294967296) == 0) = true := beq_iff_eq.mpr c6
      have c6b1 : ((Int.tmod (IntKind.u64.wrap ((Int.tmod (IntKind.u64.wrap ((IntKind.u64.wrap (wrap64 (-(wrap64 ((wrap64 (IntKind.u64.wrap (a0 - a1))) + 1))))) + 1)) 4294967296) * 1000000000)) 4294967296) != 0) = false := bne_eq_false_iff_eq.mpr c6
      clear c6
      obtain rfl := Option.some.inj H
      go_enter Try.func70, Try.ntmps70
      go_wp2_with (first | ((with_reducible refine gate_callee (f := 81) rfl ?_); refine goesL_ (some 23) rfl rfl Try.func81 (by kernel_rfl) rfl #[.int .u64 (IntKind.u64.wrap ((IntKind.u64.wrap (wrap64 (-(wrap64 ((wrap64 (IntKind.u64.wrap (a0 - a1))) + 1))))) + 1))] rfl (by (try simp only [List.map_toArray, List.map_cons, List.map_nil]); first | done | rfl | (simp only [List.length_drop, List.length_take]; rfl)) ?_; (with_reducible refine (chronobateref02_Ns.calls (IntKind.u64.wrap ((IntKind.u64.wrap (wrap64 (-(wrap64 ((wrap64 (IntKind.u64.wrap (a0 - a1))) + 1))))) + 1)) t308 _ A5.out).mono ?_); rintro e w' ⟨rfl, ⟨nd, rfl⟩⟩; refine ⟨_, rfl, ?_⟩))
      go_ret
      exact ⟨by first | rfl | (simp; done) | (simp [*]; done), by repeat (first | exact Drawn0.refl _ | apply Drawn0.step)⟩
    · rw [if_neg c6] at H
      have c6b0 : ((Int.tmod (IntKind.u64.wrap ((Int.tmod (IntKind.u64.wrap ((IntKind.u64.wrap (wrap64 (-(wrap64 ((wrap64 (IntKind.u64.wrap (a0 - a1))) + 1))))) + 1)) 4294967296) * 1000000000)) 4294967296) == 0) = false := beq_eq_false_iff_ne.mpr c6
      have c6b1 : ((Int.tmod (IntKind.u64.wrap ((Int.tmod (IntKind.u64.wrap ((IntKind.u64.wrap (wrap64 (-(wrap64 ((wrap64 (IntKind.u64.wrap (a0 - a1))) + 1))))) + 1)) 4294967296) * 1000000000)) 4294967296) != 0) = true := bne_iff_ne.mpr c6
      obtain rfl := Option.some.inj H
      go_enter Try.func70, Try.ntmps70
      go_wp2_with (first | ((with_reducible refine gate_callee (f := 81) rfl ?_); refine goesL_ (some 23) rfl rfl Try.func81 (by kernel_rfl) rfl #[.int .u64 (IntKind.u64.wrap ((IntKind.u64.wrap (wrap64 (-(wrap64 ((wrap64 (IntKind.u64.wrap (a0 - a1))) + 1))))) + 1))] rfl (by (try simp only [List.map_toArray, List.map_cons, List.map_nil]); first | done | rfl | (simp only [List.length_drop, List.length_take]; rfl)) ?_; (with_reducible refine (chronobateref02_Ns.calls (IntKind.u64.wrap ((IntKind.u64.wrap (wrap64 (-(wrap64 ((wrap64 (IntKind.u64.wrap (a0 - a1))) + 1))))) + 1)) t308 _ A5.out).mono ?_); rintro e w' ⟨rfl, ⟨nd, rfl⟩⟩; refine ⟨_, rfl, ?_⟩))
      go_ret
      exact ⟨by first | rfl | (simp; done) | (simp [*]; done), by repeat (first | exact Drawn0.refl _ | apply Drawn0.step)⟩

/-! ### chronobateref02_From: function 71 -/
def chronobateref02_From.f (a0 : Int) : Option (Int) := if (Int.tmod a0 1000000000) < 0 then (some (IntKind.u64.wrap ((IntKind.u64.wrap ((IntKind.u64.wrap (wrap64 ((wrap64 (Int.tdiv a0 1000000000)) - 1))) * 4294967296)) + (IntKind.u64.wrap (Int.tdiv (IntKind.u64.wrap ((IntKind.u64.wrap (wrap64 ((Int.tmod a0 1000000000) + 1000000000))) * 4294967296)) 1000000000))))) else (some (IntKind.u64.wrap ((IntKind.u64.wrap ((IntKind.u64.wrap (wrap64 (Int.tdiv a0 1000000000))) * 4294967296)) + (IntKind.u64.wrap (Int.tdiv (IntKind.u64.wrap ((IntKind.u64.wrap (Int.tmod a0 1000000000)) * 4294967296)) 1000000000)))))
set_option maxHeartbeats 8000000 in
set_option maxRecDepth 100000 in
theorem chronobateref02_From.calls (a0 : Int) (r : Int) (w : World) (h : chronobateref02_From.f a0 = some r) :
    Calls Try.prog 71 #[.int .i64 a0] w fun e w' => e = .returned (.int .u64 r) ∧ Drawn0 w w' := by
  have H : (if (Int.tmod a0 1000000000) < 0 then (some (IntKind.u64.wrap ((IntKind.u64.wrap ((IntKind.u64.wrap (wrap64 ((wrap64 (Int.tdiv a0 1000000000)) - 1))) * 4294967296)) + (IntKind.u64.wrap (Int.tdiv (IntKind.u64.wrap ((IntKind.u64.wrap (wrap64 ((Int.tmod a0 1000000000) + 1000000000))) * 4294967296)) 1000000000))))) else (some (IntKind.u64.wrap ((IntKind.u64.wrap ((IntKind.u64.wrap (wrap64 (Int.tdiv a0 1000000000))) * 4294967296)) + (IntKind.u64.wrap (Int.tdiv (IntKind.u64.wrap ((IntKind.u64.wrap (Int.tmod a0 1000000000)) * 4294967296)) 1000000000)))))) = some r := h
  clear h
  by_cases c2 : (Int.tmod a0 1000000000) < 0
  · rw [if_pos c2] at H
    have c2b0 : decide ((Int.tmod a0 1000000000) < 0) = true := decide_eq_true c2
    clear c2
    obtain rfl := Option.some.inj H
    go_enter Try.func71, Try.ntmps71
    go_wp2
    go_ret
    exact ⟨by first | rfl | (simp; done) | (simp [*]; done), by repeat (first | exact Drawn0.refl _ | apply Drawn0.step)⟩
  · rw [if_neg c2] at H
    have c2b0 : decide ((Int.tmod a0 1000000000) < 0) = false := decide_eq_false c2
    clear c2
    obtain rfl := Option.some.inj H
    go_enter Try.func71, Try.ntmps71
    go_wp2
    go_ret
    exact ⟨by first | rfl | (simp; done) | (simp [*]; done), by repeat (first | exact Drawn0.refl _ | apply Drawn0.step)⟩

end Go.Proofs.Ytableianhaojcaa.G
