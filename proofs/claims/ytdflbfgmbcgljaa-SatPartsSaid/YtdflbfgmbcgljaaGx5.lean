-- Written by a program of this session out of the translation (wip/patch_print.py, wip/print2.sh). Lean checks it.
import Derived.Test.YtdflbfgmbcgljaaGx0
import Derived.Test.YtdflbfgmbcgljaaGx1
import Derived.Test.YtdflbfgmbcgljaaGx3
import Derived.Test.YtdflbfgmbcgljaaGx4
namespace Go.Proofs.Ytdflbfgmbcgljaa.G
open Go.RowKit Go.Proofs.YtdflbfgmbcgljaaW.PrintWords Go.Proofs.YtdflbfgmbcgljaaW.PrintLast Go.Proofs.YtdflbfgmbcgljaaW.PrintMore
attribute [local go_sem] max2_int min2_int max_two min_two max_three min_three max_four min_four   -- for this text's walks alone
set_option linter.unusedVariables false
set_option linter.unusedSimpArgs false

/-! ### sat_Mid: function 15 -/
def sat_Mid.f (a0 : Int) (a1 : Int) : Option (Int) := some (wrap64 ((Go.bits .and .i64 a0 a1) + ((Go.bits .xor .i64 a0 a1) / 2)))
set_option maxHeartbeats 8000000 in
set_option maxRecDepth 100000 in
theorem sat_Mid.calls (a0 : Int) (a1 : Int) (r : Int) (w : World) (h : sat_Mid.f a0 a1 = some r) :
    Calls Try.prog 15 #[.int .i64 a0, .int .i64 a1] w fun e w' => e = .returned (.int .i64 r) ∧ Drawn0 w w' := by
  have H : (some (wrap64 ((Go.bits .and .i64 a0 a1) + ((Go.bits .xor .i64 a0 a1) / 2)))) = some r := h
  clear h
  obtain rfl := Option.some.inj H
  go_enter Try.func15, Try.ntmps15
  go_wp2
  go_ret
  exact ⟨by first | rfl | (simp; done) | (simp [*]; done), by repeat (first | exact Drawn0.refl _ | apply Drawn0.step)⟩

/-! ### sat_Half: function 16 -/
def sat_Half.f (a0 : Int) : Option (Int) := some (a0 / 2)
set_option maxHeartbeats 8000000 in
set_option maxRecDepth 100000 in
theorem sat_Half.calls (a0 : Int) (r : Int) (w : World) (h : sat_Half.f a0 = some r) :
    Calls Try.prog 16 #[.int .i64 a0] w fun e w' => e = .returned (.int .i64 r) ∧ Drawn0 w w' := by
  have H : (some (a0 / 2)) = some r := h
  clear h
  obtain rfl := Option.some.inj H
  go_enter Try.func16, Try.ntmps16
  go_wp2
  go_ret
  exact ⟨by first | rfl | (simp; done) | (simp [*]; done), by repeat (first | exact Drawn0.refl _ | apply Drawn0.step)⟩

/-! ### sat_Sub: function 19 -/
def sat_Sub.f (a0 : Int) (a1 : Int) : Option (Int) := if (Go.bits .and .i64 (Go.bits .xor .i64 a0 a1) (Go.bits .xor .i64 a0 (wrap64 (a0 - a1)))) < 0 then ((sat_end.f a0).bind fun t113 => (some t113)) else (some (wrap64 (a0 - a1)))
set_option maxHeartbeats 8000000 in
set_option maxRecDepth 100000 in
theorem sat_Sub.calls (a0 : Int) (a1 : Int) (r : Int) (w : World) (h : sat_Sub.f a0 a1 = some r) :
    Calls Try.prog 19 #[.int .i64 a0, .int .i64 a1] w fun e w' => e = .returned (.int .i64 r) ∧ Drawn0 w w' := by
  have H : (if (Go.bits .and .i64 (Go.bits .xor .i64 a0 a1) (Go.bits .xor .i64 a0 (wrap64 (a0 - a1)))) < 0 then ((sat_end.f a0).bind fun t113 => (some t113)) else (some (wrap64 (a0 - a1)))) = some r := h
  clear h
  by_cases c3 : (Go.bits .and .i64 (Go.bits .xor .i64 a0 a1) (Go.bits .xor .i64 a0 (wrap64 (a0 - a1)))) < 0
  · rw [if_pos c3] at H
    have c3b0 : decide ((Go.bits .and .i64 (Go.bits .xor .i64 a0 a1) (Go.bits .xor .i64 a0 (wrap64 (a0 - a1)))) < 0) = true := decide_eq_true c3
    clear c3
    replace H := Option.bind_eq_some_iff.mp H
    obtain ⟨t113, A40, H⟩ := H
    replace H : (some t113) = some r := H
    have A4 := Aside0.mk A40
    clear A40
    obtain rfl := Option.some.inj H
    go_enter Try.func19, Try.ntmps19
    go_wp2_with (first | ((with_reducible refine gate_callee (f := 30) rfl ?_); refine goesL_ (some 18) rfl rfl Try.func30 (by kernel_rfl) rfl #[.int .i64 a0] rfl (by (try simp only [List.map_toArray, List.map_cons, List.map_nil]); first | done | rfl | (simp only [List.length_drop, List.length_take]; rfl)) ?_; (with_reducible refine (sat_end.calls a0 t113 _ A4.out).mono ?_); rintro e w' ⟨rfl, ⟨nd, rfl⟩⟩; refine ⟨_, rfl, ?_⟩))
    go_ret
    exact ⟨by first | rfl | (simp; done) | (simp [*]; done), by repeat (first | exact Drawn0.refl _ | apply Drawn0.step)⟩
  · rw [if_neg c3] at H
    have c3b0 : decide ((Go.bits .and .i64 (Go.bits .xor .i64 a0 a1) (Go.bits .xor .i64 a0 (wrap64 (a0 - a1)))) < 0) = false := decide_eq_false c3
    clear c3
    obtain rfl := Option.some.inj H
    go_enter Try.func19, Try.ntmps19
    go_wp2
    go_ret
    exact ⟨by first | rfl | (simp; done) | (simp [*]; done), by repeat (first | exact Drawn0.refl _ | apply Drawn0.step)⟩

/-! ### sat_Neg: function 21 -/
def sat_Neg.f (a0 : Int) : Option (Int) := (sat_Sub.f 0 a0).bind fun t114 => (some t114)
set_option maxHeartbeats 8000000 in
set_option maxRecDepth 100000 in
theorem sat_Neg.calls (a0 : Int) (r : Int) (w : World) (h : sat_Neg.f a0 = some r) :
    Calls Try.prog 21 #[.int .i64 a0] w fun e w' => e = .returned (.int .i64 r) ∧ Drawn0 w w' := by
  have H : ((sat_Sub.f 0 a0).bind fun t114 => (some t114)) = some r := h
  clear h
  replace H := Option.bind_eq_some_iff.mp H
  obtain ⟨t114, A20, H⟩ := H
  replace H : (some t114) = some r := H
  have A2 := Aside0.mk A20
  clear A20
  obtain rfl := Option.some.inj H
  go_enter Try.func21, Try.ntmps21
  go_wp2_with (first | ((with_reducible refine gate_callee (f := 19) rfl ?_); refine goesL_ (some 4) rfl rfl Try.func19 (by kernel_rfl) rfl #[.int .i64 0, .int .i64 a0] rfl (by (try simp only [List.map_toArray, List.map_cons, List.map_nil]); first | done | rfl | (simp only [List.length_drop, List.length_take]; rfl)) ?_; (with_reducible refine (sat_Sub.calls 0 a0 t114 _ A2.out).mono ?_); rintro e w' ⟨rfl, ⟨nd, rfl⟩⟩; refine ⟨_, rfl, ?_⟩))
  go_ret
  exact ⟨by first | rfl | (simp; done) | (simp [*]; done), by repeat (first | exact Drawn0.refl _ | apply Drawn0.step)⟩

/-! ### chronobatelaw01_alive: function 14 -/
def chronobatelaw01_alive.f (k : Nat)  : Option (Bool) := (sat_MulDiv.f k (-7) 1 2).bind fun bt115 => ((sat_Half.f (-3)).bind fun t117 => (if t117 = (-2) then ((sat_Mid.f (-1) 2).bind fun t118 => (if t118 = 0 then (if bt115.1 = (-4) then (if bt115.2 = 0 then ((sat_Neg.f (-9223372036854775808)).bind fun t119 => (some (t119 == 9223372036854775807))) else (some false)) else (some false)) else (some false))) else (some false)))
theorem chronobatelaw01_alive.mono : ∀ k, LeO (chronobatelaw01_alive.f k ) (chronobatelaw01_alive.f (k + 1) ) := by
  intro  k
  unfold chronobatelaw01_alive.f
  repeat' first
      | (with_reducible exact sat_MulDiv.mono _ _ _ _)
      | (with_reducible exact LeO.refl _)
      | (with_reducible exact LeO.none _)
      | (with_reducible refine LeO.ite ?_ ?_)
      | (with_reducible refine LeO.bind ?_ (fun _ => ?_))
      | exact sat_MulDiv.mono _ _ _ _
      | exact LeO.none _
      | refine LeO.ite ?_ ?_
      | refine LeO.bind ?_ (fun _ => ?_)
set_option maxHeartbeats 8000000 in
set_option maxRecDepth 100000 in
theorem chronobatelaw01_alive.calls (k : Nat)  (r : Bool) (w : World) (h : chronobatelaw01_alive.f k  = some r) :
    Calls Try.prog 14 #[] w fun e w' => e = .returned (.bool r) ∧ Below w.heap.size w w' := by
  have HB := Aside0.mk (Below.refl w.heap.size w)
  have H : ((sat_MulDiv.f k (-7) 1 2).bind fun bt115 => ((sat_Half.f (-3)).bind fun t117 => (if t117 = (-2) then ((sat_Mid.f (-1) 2).bind fun t118 => (if t118 = 0 then (if bt115.1 = (-4) then (if bt115.2 = 0 then ((sat_Neg.f (-9223372036854775808)).bind fun t119 => (some (t119 == 9223372036854775807))) else (some false)) else (some false)) else (some false))) else (some false)))) = some r := h
  clear h
  replace H := Option.bind_eq_some_iff.mp H
  obtain ⟨⟨t115, t116⟩, A10, H⟩ := H
  replace H : ((sat_Half.f (-3)).bind fun t117 => (if t117 = (-2) then ((sat_Mid.f (-1) 2).bind fun t118 => (if t118 = 0 then (if t115 = (-4) then (if t116 = 0 then ((sat_Neg.f (-9223372036854775808)).bind fun t119 => (some (t119 == 9223372036854775807))) else (some false)) else (some false)) else (some false))) else (some false))) = some r := H
  have A1 := Aside0.mk A10
  clear A10
  replace H := Option.bind_eq_some_iff.mp H
  obtain ⟨t117, A20, H⟩ := H
  replace H : (if t117 = (-2) then ((sat_Mid.f (-1) 2).bind fun t118 => (if t118 = 0 then (if t115 = (-4) then (if t116 = 0 then ((sat_Neg.f (-9223372036854775808)).bind fun t119 => (some (t119 == 9223372036854775807))) else (some false)) else (some false)) else (some false))) else (some false)) = some r := H
  have A2 := Aside0.mk A20
  clear A20
  by_cases c3 : t117 = (-2)
  · rw [if_pos c3] at H
    have c3b0 : (t117 == (-2)) = true := beq_iff_eq.mpr c3
    have c3b1 : (t117 != (-2)) = false := bne_eq_false_iff_eq.mpr c3
    clear c3
    replace H := Option.bind_eq_some_iff.mp H
    obtain ⟨t118, A40, H⟩ := H
    replace H : (if t118 = 0 then (if t115 = (-4) then (if t116 = 0 then ((sat_Neg.f (-9223372036854775808)).bind fun t119 => (some (t119 == 9223372036854775807))) else (some false)) else (some false)) else (some false)) = some r := H
    have A4 := Aside0.mk A40
    clear A40
    by_cases c5 : t118 = 0
    · rw [if_pos c5] at H
      have c5b0 : (t118 == 0) = true := beq_iff_eq.mpr c5
      have c5b1 : (t118 != 0) = false := bne_eq_false_iff_eq.mpr c5
      clear c5
      by_cases c6 : t115 = (-4)
      · rw [if_pos c6] at H
        have c6b0 : (t115 == (-4)) = true := beq_iff_eq.mpr c6
        have c6b1 : (t115 != (-4)) = false := bne_eq_false_iff_eq.mpr c6
        clear c6
        by_cases c7 : t116 = 0
        · rw [if_pos c7] at H
          have c7b0 : (t116 == 0) = true := beq_iff_eq.mpr c7
          have c7b1 : (t116 != 0) = false := bne_eq_false_iff_eq.mpr c7
          clear c7
          replace H := Option.bind_eq_some_iff.mp H
          obtain ⟨t119, A80, H⟩ := H
          replace H : (some (t119 == 9223372036854775807)) = some r := H
          have A8 := Aside0.mk A80
          clear A80
          obtain rfl := Option.some.inj H
          go_enter Try.func14, Try.ntmps14
          go_wp2_with (first | ((with_reducible refine gate_callee (f := 12) rfl ?_); refine goesL_ (some 4) rfl rfl Try.func12 (by kernel_rfl) rfl #[.int .i64 (-7), .int .i64 1, .int .i64 2] rfl (by (try simp only [List.map_toArray, List.map_cons, List.map_nil]); first | done | rfl | (simp only [List.length_drop, List.length_take]; rfl)) ?_; (with_reducible refine (sat_MulDiv.calls k (-7) 1 2 t115 t116 _ A1.out).mono ?_); rintro e w9 ⟨rfl, hb⟩; refine ⟨_, rfl, ?_⟩; have n0_ := Aside0.mk (below_step (by repeat (first | (with_reducible first | exact HB.out | apply below_alloc | apply pw_below_drewN | apply below_drew1) | exact HB.out)) hb); clear HB; have HB := n0_; clear n0_; (try clear hb); (try clear hb2); (try clear hk); (try clear hi)) | ((with_reducible refine gate_callee (f := 16) rfl ?_); refine goesL_ (some 7) rfl rfl Try.func16 (by kernel_rfl) rfl #[.int .i64 (-3)] rfl (by (try simp only [List.map_toArray, List.map_cons, List.map_nil]); first | done | rfl | (simp only [List.length_drop, List.length_take]; rfl)) ?_; (with_reducible refine (sat_Half.calls (-3) t117 _ A2.out).mono ?_); rintro e w' ⟨rfl, ⟨nd, rfl⟩⟩; refine ⟨_, rfl, ?_⟩) | (go_at_call 15; (with_reducible refine (sat_Mid.calls (-1) 2 t118 _ A4.out).mono ?_); rintro e w' ⟨rfl, ⟨nd, rfl⟩⟩) | (go_at_call 21; (with_reducible refine (sat_Neg.calls (-9223372036854775808) t119 _ A8.out).mono ?_); rintro e w' ⟨rfl, ⟨nd, rfl⟩⟩))
          go_ret
          exact ⟨by first | rfl | (simp [errW_none, errW_some] <;> rfl) | (simp [*, errW_none, errW_some] <;> rfl), by repeat (first | (with_reducible first | exact HB.out | apply below_alloc | apply pw_below_drewN | apply below_drew1) | exact HB.out)⟩
        · rw [if_neg c7] at H
          have c7b0 : (t116 == 0) = false := beq_eq_false_iff_ne.mpr c7
          have c7b1 : (t116 != 0) = true := bne_iff_ne.mpr c7
          obtain rfl := Option.some.inj H
          go_enter Try.func14, Try.ntmps14
          go_wp2_with (first | ((with_reducible refine gate_callee (f := 12) rfl ?_); refine goesL_ (some 4) rfl rfl Try.func12 (by kernel_rfl) rfl #[.int .i64 (-7), .int .i64 1, .int .i64 2] rfl (by (try simp only [List.map_toArray, List.map_cons, List.map_nil]); first | done | rfl | (simp only [List.length_drop, List.length_take]; rfl)) ?_; (with_reducible refine (sat_MulDiv.calls k (-7) 1 2 t115 t116 _ A1.out).mono ?_); rintro e w10 ⟨rfl, hb⟩; refine ⟨_, rfl, ?_⟩; have n0_ := Aside0.mk (below_step (by repeat (first | (with_reducible first | exact HB.out | apply below_alloc | apply pw_below_drewN | apply below_drew1) | exact HB.out)) hb); clear HB; have HB := n0_; clear n0_; (try clear hb); (try clear hb2); (try clear hk); (try clear hi)) | ((with_reducible refine gate_callee (f := 16) rfl ?_); refine goesL_ (some 7) rfl rfl Try.func16 (by kernel_rfl) rfl #[.int .i64 (-3)] rfl (by (try simp only [List.map_toArray, List.map_cons, List.map_nil]); first | done | rfl | (simp only [List.length_drop, List.length_take]; rfl)) ?_; (with_reducible refine (sat_Half.calls (-3) t117 _ A2.out).mono ?_); rintro e w' ⟨rfl, ⟨nd, rfl⟩⟩; refine ⟨_, rfl, ?_⟩) | (go_at_call 15; (with_reducible refine (sat_Mid.calls (-1) 2 t118 _ A4.out).mono ?_); rintro e w' ⟨rfl, ⟨nd, rfl⟩⟩))
          go_ret
          exact ⟨by first | rfl | (simp [errW_none, errW_some] <;> rfl) | (simp [*, errW_none, errW_some] <;> rfl), by repeat (first | (with_reducible first | exact HB.out | apply below_alloc | apply pw_below_drewN | apply below_drew1) | exact HB.out)⟩
      · rw [if_neg c6] at H
        have c6b0 : (t115 == (-4)) = false := beq_eq_false_iff_ne.mpr c6
        have c6b1 : (t115 != (-4)) = true := bne_iff_ne.mpr c6
        obtain rfl := Option.some.inj H
        go_enter Try.func14, Try.ntmps14
        go_wp2_with (first | ((with_reducible refine gate_callee (f := 12) rfl ?_); refine goesL_ (some 4) rfl rfl Try.func12 (by kernel_rfl) rfl #[.int .i64 (-7), .int .i64 1, .int .i64 2] rfl (by (try simp only [List.map_toArray, List.map_cons, List.map_nil]); first | done | rfl | (simp only [List.length_drop, List.length_take]; rfl)) ?_; (with_reducible refine (sat_MulDiv.calls k (-7) 1 2 t115 t116 _ A1.out).mono ?_); rintro e w11 ⟨rfl, hb⟩; refine ⟨_, rfl, ?_⟩; have n0_ := Aside0.mk (below_step (by repeat (first | (with_reducible first | exact HB.out | apply below_alloc | apply pw_below_drewN | apply below_drew1) | exact HB.out)) hb); clear HB; have HB := n0_; clear n0_; (try clear hb); (try clear hb2); (try clear hk); (try clear hi)) | ((with_reducible refine gate_callee (f := 16) rfl ?_); refine goesL_ (some 7) rfl rfl Try.func16 (by kernel_rfl) rfl #[.int .i64 (-3)] rfl (by (try simp only [List.map_toArray, List.map_cons, List.map_nil]); first | done | rfl | (simp only [List.length_drop, List.length_take]; rfl)) ?_; (with_reducible refine (sat_Half.calls (-3) t117 _ A2.out).mono ?_); rintro e w' ⟨rfl, ⟨nd, rfl⟩⟩; refine ⟨_, rfl, ?_⟩) | (go_at_call 15; (with_reducible refine (sat_Mid.calls (-1) 2 t118 _ A4.out).mono ?_); rintro e w' ⟨rfl, ⟨nd, rfl⟩⟩))
        go_ret
        exact ⟨by first | rfl | (simp [errW_none, errW_some] <;> rfl) | (simp [*, errW_none, errW_some] <;> rfl), by repeat (first | (with_reducible first | exact HB.out | apply below_alloc | apply pw_below_drewN | apply below_drew1) | exact HB.out)⟩
    · rw [if_neg c5] at H
      have c5b0 : (t118 == 0) = false := beq_eq_false_iff_ne.mpr c5
      have c5b1 : (t118 != 0) = true := bne_iff_ne.mpr c5
      obtain rfl := Option.some.inj H
      go_enter Try.func14, Try.ntmps14
      go_wp2_with (first | ((with_reducible refine gate_callee (f := 12) rfl ?_); refine goesL_ (some 4) rfl rfl Try.func12 (by kernel_rfl) rfl #[.int .i64 (-7), .int .i64 1, .int .i64 2] rfl (by (try simp only [List.map_toArray, List.map_cons, List.map_nil]); first | done | rfl | (simp only [List.length_drop, List.length_take]; rfl)) ?_; (with_reducible refine (sat_MulDiv.calls k (-7) 1 2 t115 t116 _ A1.out).mono ?_); rintro e w12 ⟨rfl, hb⟩; refine ⟨_, rfl, ?_⟩; have n0_ := Aside0.mk (below_step (by repeat (first | (with_reducible first | exact HB.out | apply below_alloc | apply pw_below_drewN | apply below_drew1) | exact HB.out)) hb); clear HB; have HB := n0_; clear n0_; (try clear hb); (try clear hb2); (try clear hk); (try clear hi)) | ((with_reducible refine gate_callee (f := 16) rfl ?_); refine goesL_ (some 7) rfl rfl Try.func16 (by kernel_rfl) rfl #[.int .i64 (-3)] rfl (by (try simp only [List.map_toArray, List.map_cons, List.map_nil]); first | done | rfl | (simp only [List.length_drop, List.length_take]; rfl)) ?_; (with_reducible refine (sat_Half.calls (-3) t117 _ A2.out).mono ?_); rintro e w' ⟨rfl, ⟨nd, rfl⟩⟩; refine ⟨_, rfl, ?_⟩) | (go_at_call 15; (with_reducible refine (sat_Mid.calls (-1) 2 t118 _ A4.out).mono ?_); rintro e w' ⟨rfl, ⟨nd, rfl⟩⟩))
      go_ret
      exact ⟨by first | rfl | (simp [errW_none, errW_some] <;> rfl) | (simp [*, errW_none, errW_some] <;> rfl), by repeat (first | (with_reducible first | exact HB.out | apply below_alloc | apply pw_below_drewN | apply below_drew1) | exact HB.out)⟩
  · rw [if_neg c3] at H
    have c3b0 : (t117 == (-2)) = false := beq_eq_false_iff_ne.mpr c3
    have c3b1 : (t117 != (-2)) = true := bne_iff_ne.mpr c3
    obtain rfl := Option.some.inj H
    go_enter Try.func14, Try.ntmps14
    go_wp2_with (first | ((with_reducible refine gate_callee (f := 12) rfl ?_); refine goesL_ (some 4) rfl rfl Try.func12 (by kernel_rfl) rfl #[.int .i64 (-7), .int .i64 1, .int .i64 2] rfl (by (try simp only [List.map_toArray, List.map_cons, List.map_nil]); first | done | rfl | (simp only [List.length_drop, List.length_take]; rfl)) ?_; (with_reducible refine (sat_MulDiv.calls k (-7) 1 2 t115 t116 _ A1.out).mono ?_); rintro e w13 ⟨rfl, hb⟩; refine ⟨_, rfl, ?_⟩; have n0_ := Aside0.mk (below_step (by repeat (first | (with_reducible first | exact HB.out | apply below_alloc | apply pw_below_drewN | apply below_drew1) | exact HB.out)) hb); clear HB; have HB := n0_; clear n0_; (try clear hb); (try clear hb2); (try clear hk); (try clear hi)) | ((with_reducible refine gate_callee (f := 16) rfl ?_); refine goesL_ (some 7) rfl rfl Try.func16 (by kernel_rfl) rfl #[.int .i64 (-3)] rfl (by (try simp only [List.map_toArray, List.map_cons, List.map_nil]); first | done | rfl | (simp only [List.length_drop, List.length_take]; rfl)) ?_; (with_reducible refine (sat_Half.calls (-3) t117 _ A2.out).mono ?_); rintro e w' ⟨rfl, ⟨nd, rfl⟩⟩; refine ⟨_, rfl, ?_⟩))
    go_ret
    exact ⟨by first | rfl | (simp [errW_none, errW_some] <;> rfl) | (simp [*, errW_none, errW_some] <;> rfl), by repeat (first | (with_reducible first | exact HB.out | apply below_alloc | apply pw_below_drewN | apply below_drew1) | exact HB.out)⟩

/-! ### chronobatelaw01_SatMuls: function 3 -/
def chronobatelaw01_SatMuls.f (k : Nat) (a0 : Int) (a1 : Int) (a2 : Int) : Option (Bool) := (sat_MulDiv.f k a0 a1 a2).bind fun bt120 => ((chronobateref01_MulDiv.f k a0 a1 a2).bind fun bt122 => ((chronobatelaw01_alive.f k).bind fun t124 => (if t124 = true then (if bt120.1 = bt122.1 then (some (bt120.2 == bt122.2)) else (some false)) else (some false))))
theorem chronobatelaw01_SatMuls.mono : ∀ a0 a1 a2 k, LeO (chronobatelaw01_SatMuls.f k a0 a1 a2) (chronobatelaw01_SatMuls.f (k + 1) a0 a1 a2) := by
  intro a0 a1 a2 k
  unfold chronobatelaw01_SatMuls.f
  repeat' first
      | (with_reducible exact chronobatelaw01_alive.mono _)
      | (with_reducible exact chronobateref01_MulDiv.mono _ _ _ _)
      | (with_reducible exact sat_MulDiv.mono _ _ _ _)
      | (with_reducible exact LeO.refl _)
      | (with_reducible exact LeO.none _)
      | (with_reducible refine LeO.ite ?_ ?_)
      | (with_reducible refine LeO.bind ?_ (fun _ => ?_))
      | exact chronobatelaw01_alive.mono _
      | exact chronobateref01_MulDiv.mono _ _ _ _
      | exact sat_MulDiv.mono _ _ _ _
      | exact LeO.none _
      | refine LeO.ite ?_ ?_
      | refine LeO.bind ?_ (fun _ => ?_)
set_option maxHeartbeats 8000000 in
set_option maxRecDepth 100000 in
theorem chronobatelaw01_SatMuls.calls (k : Nat) (a0 : Int) (a1 : Int) (a2 : Int) (r : Bool) (w : World) (h : chronobatelaw01_SatMuls.f k a0 a1 a2 = some r) :
    Calls Try.prog 3 #[.int .i64 a0, .int .i64 a1, .int .i64 a2] w fun e w' => e = .returned (.bool r) ∧ Below w.heap.size w w' := by
  have HB := Aside0.mk (Below.refl w.heap.size w)
  have H : ((sat_MulDiv.f k a0 a1 a2).bind fun bt120 => ((chronobateref01_MulDiv.f k a0 a1 a2).bind fun bt122 => ((chronobatelaw01_alive.f k).bind fun t124 => (if t124 = true then (if bt120.1 = bt122.1 then (some (bt120.2 == bt122.2)) else (some false)) else (some false))))) = some r := h
  clear h
  replace H := Option.bind_eq_some_iff.mp H
  obtain ⟨⟨t120, t121⟩, A40, H⟩ := H
  replace H : ((chronobateref01_MulDiv.f k a0 a1 a2).bind fun bt122 => ((chronobatelaw01_alive.f k).bind fun t124 => (if t124 = true then (if t120 = bt122.1 then (some (t121 == bt122.2)) else (some false)) else (some false)))) = some r := H
  have A4 := Aside0.mk A40
  clear A40
  replace H := Option.bind_eq_some_iff.mp H
  obtain ⟨⟨t122, t123⟩, A50, H⟩ := H
  replace H : ((chronobatelaw01_alive.f k).bind fun t124 => (if t124 = true then (if t120 = t122 then (some (t121 == t123)) else (some false)) else (some false))) = some r := H
  have A5 := Aside0.mk A50
  clear A50
  replace H := Option.bind_eq_some_iff.mp H
  obtain ⟨t124, A60, H⟩ := H
  replace H : (if t124 = true then (if t120 = t122 then (some (t121 == t123)) else (some false)) else (some false)) = some r := H
  have A6 := Aside0.mk A60
  clear A60
  by_cases c7 : t124 = true
  · subst c7
    have H1 : (if t120 = t122 then (some (t121 == t123)) else (some false)) = some r := by rw [if_pos rfl] at H; exact H
    clear H
    have H := H1
    clear H1
    by_cases c8 : t120 = t122
    · rw [if_pos c8] at H
      have c8b0 : (t120 == t122) = true := beq_iff_eq.mpr c8
      have c8b1 : (t120 != t122) = false := bne_eq_false_iff_eq.mpr c8
      clear c8
      obtain rfl := Option.some.inj H
      go_enter Try.func3, Try.ntmps3
      go_wp2_with (first | ((with_reducible refine gate_callee (f := 12) rfl ?_); refine goesL_ (some 15) rfl rfl Try.func12 (by kernel_rfl) rfl #[.int .i64 a0, .int .i64 a1, .int .i64 a2] rfl (by (try simp only [List.map_toArray, List.map_cons, List.map_nil]); first | done | rfl | (simp only [List.length_drop, List.length_take]; rfl)) ?_; (with_reducible refine (sat_MulDiv.calls k a0 a1 a2 t120 t121 _ A4.out).mono ?_); rintro e w9 ⟨rfl, hb⟩; refine ⟨_, rfl, ?_⟩; have n0_ := Aside0.mk (below_step (by repeat (first | (with_reducible first | exact HB.out | apply below_alloc | apply pw_below_drewN | apply below_drew1) | exact HB.out)) hb); clear HB; have HB := n0_; clear n0_; (try clear hb); (try clear hb2); (try clear hk); (try clear hi)) | ((with_reducible refine gate_callee (f := 13) rfl ?_); refine goesL_ (some 22) rfl rfl Try.func13 (by kernel_rfl) rfl #[.int .i64 a0, .int .i64 a1, .int .i64 a2] rfl (by (try simp only [List.map_toArray, List.map_cons, List.map_nil]); first | done | rfl | (simp only [List.length_drop, List.length_take]; rfl)) ?_; (with_reducible refine (chronobateref01_MulDiv.calls k a0 a1 a2 t122 t123 _ A5.out).mono ?_); rintro e w' ⟨rfl, ⟨nd, rfl⟩⟩; refine ⟨_, rfl, ?_⟩) | ((with_reducible refine gate_callee (f := 14) rfl ?_); refine goesL_ (some 25) rfl rfl Try.func14 (by kernel_rfl) rfl #[] rfl (by (try simp only [List.map_toArray, List.map_cons, List.map_nil]); first | done | rfl | (simp only [List.length_drop, List.length_take]; rfl)) ?_; (with_reducible refine (chronobatelaw01_alive.calls k  true _ A6.out).mono ?_); rintro e w10 ⟨rfl, hb⟩; refine ⟨_, rfl, ?_⟩; have n0_ := Aside0.mk (below_step (by repeat (first | (with_reducible first | exact HB.out | apply below_alloc | apply pw_below_drewN | apply below_drew1) | exact HB.out)) hb); clear HB; have HB := n0_; clear n0_; (try clear hb); (try clear hb2); (try clear hk); (try clear hi)))
      go_ret
      exact ⟨by first | rfl | (simp [errW_none, errW_some] <;> rfl) | (simp [*, errW_none, errW_some] <;> rfl), by repeat (first | (with_reducible first | exact HB.out | apply below_alloc | apply pw_below_drewN | apply below_drew1) | exact HB.out)⟩
    · rw [if_neg c8] at H
      have c8b0 : (t120 == t122) = false := beq_eq_false_iff_ne.mpr c8
      have c8b1 : (t120 != t122) = true := bne_iff_ne.mpr c8
      obtain rfl := Option.some.inj H
      go_enter Try.func3, Try.ntmps3
      go_wp2_with (first | ((with_reducible refine gate_callee (f := 12) rfl ?_); refine goesL_ (some 15) rfl rfl Try.func12 (by kernel_rfl) rfl #[.int .i64 a0, .int .i64 a1, .int .i64 a2] rfl (by (try simp only [List.map_toArray, List.map_cons, List.map_nil]); first | done | rfl | (simp only [List.length_drop, List.length_take]; rfl)) ?_; (with_reducible refine (sat_MulDiv.calls k a0 a1 a2 t120 t121 _ A4.out).mono ?_); rintro e w11 ⟨rfl, hb⟩; refine ⟨_, rfl, ?_⟩; have n0_ := Aside0.mk (below_step (by repeat (first | (with_reducible first | exact HB.out | apply below_alloc | apply pw_below_drewN | apply below_drew1) | exact HB.out)) hb); clear HB; have HB := n0_; clear n0_; (try clear hb); (try clear hb2); (try clear hk); (try clear hi)) | ((with_reducible refine gate_callee (f := 13) rfl ?_); refine goesL_ (some 22) rfl rfl Try.func13 (by kernel_rfl) rfl #[.int .i64 a0, .int .i64 a1, .int .i64 a2] rfl (by (try simp only [List.map_toArray, List.map_cons, List.map_nil]); first | done | rfl | (simp only [List.length_drop, List.length_take]; rfl)) ?_; (with_reducible refine (chronobateref01_MulDiv.calls k a0 a1 a2 t122 t123 _ A5.out).mono ?_); rintro e w' ⟨rfl, ⟨nd, rfl⟩⟩; refine ⟨_, rfl, ?_⟩) | ((with_reducible refine gate_callee (f := 14) rfl ?_); refine goesL_ (some 25) rfl rfl Try.func14 (by kernel_rfl) rfl #[] rfl (by (try simp only [List.map_toArray, List.map_cons, List.map_nil]); first | done | rfl | (simp only [List.length_drop, List.length_take]; rfl)) ?_; (with_reducible refine (chronobatelaw01_alive.calls k  true _ A6.out).mono ?_); rintro e w12 ⟨rfl, hb⟩; refine ⟨_, rfl, ?_⟩; have n0_ := Aside0.mk (below_step (by repeat (first | (with_reducible first | exact HB.out | apply below_alloc | apply pw_below_drewN | apply below_drew1) | exact HB.out)) hb); clear HB; have HB := n0_; clear n0_; (try clear hb); (try clear hb2); (try clear hk); (try clear hi)))
      go_ret
      exact ⟨by first | rfl | (simp [errW_none, errW_some] <;> rfl) | (simp [*, errW_none, errW_some] <;> rfl), by repeat (first | (with_reducible first | exact HB.out | apply below_alloc | apply pw_below_drewN | apply below_drew1) | exact HB.out)⟩
  · replace c7 := Bool.eq_false_iff.mpr c7
    subst c7
    have H1 : (some false) = some r := by rw [if_neg (show ¬ (false = true) by decide)] at H; exact H
    clear H
    have H := H1
    clear H1
    obtain rfl := Option.some.inj H
    go_enter Try.func3, Try.ntmps3
    go_wp2_with (first | ((with_reducible refine gate_callee (f := 12) rfl ?_); refine goesL_ (some 15) rfl rfl Try.func12 (by kernel_rfl) rfl #[.int .i64 a0, .int .i64 a1, .int .i64 a2] rfl (by (try simp only [List.map_toArray, List.map_cons, List.map_nil]); first | done | rfl | (simp only [List.length_drop, List.length_take]; rfl)) ?_; (with_reducible refine (sat_MulDiv.calls k a0 a1 a2 t120 t121 _ A4.out).mono ?_); rintro e w13 ⟨rfl, hb⟩; refine ⟨_, rfl, ?_⟩; have n0_ := Aside0.mk (below_step (by repeat (first | (with_reducible first | exact HB.out | apply below_alloc | apply pw_below_drewN | apply below_drew1) | exact HB.out)) hb); clear HB; have HB := n0_; clear n0_; (try clear hb); (try clear hb2); (try clear hk); (try clear hi)) | ((with_reducible refine gate_callee (f := 13) rfl ?_); refine goesL_ (some 22) rfl rfl Try.func13 (by kernel_rfl) rfl #[.int .i64 a0, .int .i64 a1, .int .i64 a2] rfl (by (try simp only [List.map_toArray, List.map_cons, List.map_nil]); first | done | rfl | (simp only [List.length_drop, List.length_take]; rfl)) ?_; (with_reducible refine (chronobateref01_MulDiv.calls k a0 a1 a2 t122 t123 _ A5.out).mono ?_); rintro e w' ⟨rfl, ⟨nd, rfl⟩⟩; refine ⟨_, rfl, ?_⟩) | ((with_reducible refine gate_callee (f := 14) rfl ?_); refine goesL_ (some 25) rfl rfl Try.func14 (by kernel_rfl) rfl #[] rfl (by (try simp only [List.map_toArray, List.map_cons, List.map_nil]); first | done | rfl | (simp only [List.length_drop, List.length_take]; rfl)) ?_; (with_reducible refine (chronobatelaw01_alive.calls k  false _ A6.out).mono ?_); rintro e w14 ⟨rfl, hb⟩; refine ⟨_, rfl, ?_⟩; have n0_ := Aside0.mk (below_step (by repeat (first | (with_reducible first | exact HB.out | apply below_alloc | apply pw_below_drewN | apply below_drew1) | exact HB.out)) hb); clear HB; have HB := n0_; clear n0_; (try clear hb); (try clear hb2); (try clear hk); (try clear hi)))
    go_ret
    exact ⟨by first | rfl | (simp [errW_none, errW_some] <;> rfl) | (simp [*, errW_none, errW_some] <;> rfl), by repeat (first | (with_reducible first | exact HB.out | apply below_alloc | apply pw_below_drewN | apply below_drew1) | exact HB.out)⟩

/-- THE ONE PURE STATEMENT of chronobatelaw01_SatMuls: yours. -/
def chronobatelaw01_SatMuls.Pure : Prop := ∀ (a0 : Int) (a1 : Int) (a2 : Int), (Lit.int .i64 a0).wf = true → (Lit.int .i64 a1).wf = true → (Lit.int .i64 a2).wf = true → ∃ k, chronobatelaw01_SatMuls.f k a0 a1 a2 = some true
theorem chronobatelaw01_SatMuls.walk (P : chronobatelaw01_SatMuls.Pure) (a0 : Int) (a1 : Int) (a2 : Int) (w : World) (w0 : (Lit.int .i64 a0).wf = true) (w1 : (Lit.int .i64 a1).wf = true) (w2 : (Lit.int .i64 a2).wf = true) :
    Calls Try.prog 3 #[.int .i64 a0, .int .i64 a1, .int .i64 a2] w fun e w' => e = .returned (.bool true) ∧ Below w.heap.size w w' := by
  obtain ⟨k, h⟩ := P a0 a1 a2 w0 w1 w2
  refine (chronobatelaw01_SatMuls.calls k a0 a1 a2 true w h).mono ?_
  rintro e w' ⟨rfl, hd⟩
  exact ⟨rfl, hd⟩

/-! ### chronobatelaw01_SatMiddles: function 4 -/
def chronobatelaw01_SatMiddles.f (k : Nat) (a0 : Int) (a1 : Int) : Option (Bool) := (sat_Mid.f a0 a1).bind fun t125 => (if t125 < (mn a0 a1) then (some false) else (if t125 > (mx a0 a1) then (some false) else ((sat_Mid.f a1 a0).bind fun t126 => (if t125 = t126 then ((sat_Half.f a0).bind fun t127 => ((sat_Mid.f a0 0).bind fun t128 => (if t127 = t128 then ((sat_Mid.f a0 a0).bind fun t129 => (if t129 = a0 then ((chronobatelaw01_alive.f k).bind fun t130 => (if t130 = true then (if (IntKind.u64.wrap ((IntKind.u64.wrap (mx a0 a1)) - (IntKind.u64.wrap (t125)))) = (IntKind.u64.wrap ((IntKind.u64.wrap (t125)) - (IntKind.u64.wrap (mn a0 a1)))) then (some true) else (some ((IntKind.u64.wrap ((IntKind.u64.wrap (mx a0 a1)) - (IntKind.u64.wrap (t125)))) == (IntKind.u64.wrap ((IntKind.u64.wrap ((IntKind.u64.wrap (t125)) - (IntKind.u64.wrap (mn a0 a1)))) + 1))))) else (some false))) else (some false))) else (some false)))) else (some false)))))
theorem chronobatelaw01_SatMiddles.mono : ∀ a0 a1 k, LeO (chronobatelaw01_SatMiddles.f k a0 a1) (chronobatelaw01_SatMiddles.f (k + 1) a0 a1) := by
  intro a0 a1 k
  unfold chronobatelaw01_SatMiddles.f
  repeat' first
      | (with_reducible exact chronobatelaw01_alive.mono _)
      | (with_reducible exact LeO.refl _)
      | (with_reducible exact LeO.none _)
      | (with_reducible refine LeO.ite ?_ ?_)
      | (with_reducible refine LeO.bind ?_ (fun _ => ?_))
      | exact chronobatelaw01_alive.mono _
      | exact LeO.none _
      | refine LeO.ite ?_ ?_
      | refine LeO.bind ?_ (fun _ => ?_)
set_option maxHeartbeats 8000000 in
set_option maxRecDepth 100000 in
theorem chronobatelaw01_SatMiddles.calls (k : Nat) (a0 : Int) (a1 : Int) (r : Bool) (w : World) (h : chronobatelaw01_SatMiddles.f k a0 a1 = some r) :
    Calls Try.prog 4 #[.int .i64 a0, .int .i64 a1] w fun e w' => e = .returned (.bool r) ∧ Below w.heap.size w w' := by
  have HB := Aside0.mk (Below.refl w.heap.size w)
  have H : ((sat_Mid.f a0 a1).bind fun t125 => (if t125 < (mn a0 a1) then (some false) else (if t125 > (mx a0 a1) then (some false) else ((sat_Mid.f a1 a0).bind fun t126 => (if t125 = t126 then ((sat_Half.f a0).bind fun t127 => ((sat_Mid.f a0 0).bind fun t128 => (if t127 = t128 then ((sat_Mid.f a0 a0).bind fun t129 => (if t129 = a0 then ((chronobatelaw01_alive.f k).bind fun t130 => (if t130 = true then (if (IntKind.u64.wrap ((IntKind.u64.wrap (mx a0 a1)) - (IntKind.u64.wrap (t125)))) = (IntKind.u64.wrap ((IntKind.u64.wrap (t125)) - (IntKind.u64.wrap (mn a0 a1)))) then (some true) else (some ((IntKind.u64.wrap ((IntKind.u64.wrap (mx a0 a1)) - (IntKind.u64.wrap (t125)))) == (IntKind.u64.wrap ((IntKind.u64.wrap ((IntKind.u64.wrap (t125)) - (IntKind.u64.wrap (mn a0 a1)))) + 1))))) else (some false))) else (some false))) else (some false)))) else (some false)))))) = some r := h
  clear h
  replace H := Option.bind_eq_some_iff.mp H
  obtain ⟨t125, A30, H⟩ := H
  replace H : (if t125 < (mn a0 a1) then (some false) else (if t125 > (mx a0 a1) then (some false) else ((sat_Mid.f a1 a0).bind fun t126 => (if t125 = t126 then ((sat_Half.f a0).bind fun t127 => ((sat_Mid.f a0 0).bind fun t128 => (if t127 = t128 then ((sat_Mid.f a0 a0).bind fun t129 => (if t129 = a0 then ((chronobatelaw01_alive.f k).bind fun t130 => (if t130 = true then (if (IntKind.u64.wrap ((IntKind.u64.wrap (mx a0 a1)) - (IntKind.u64.wrap (t125)))) = (IntKind.u64.wrap ((IntKind.u64.wrap (t125)) - (IntKind.u64.wrap (mn a0 a1)))) then (some true) else (some ((IntKind.u64.wrap ((IntKind.u64.wrap (mx a0 a1)) - (IntKind.u64.wrap (t125)))) == (IntKind.u64.wrap ((IntKind.u64.wrap ((IntKind.u64.wrap (t125)) - (IntKind.u64.wrap (mn a0 a1)))) + 1))))) else (some false))) else (some false))) else (some false)))) else (some false))))) = some r := H
  have A3 := Aside0.mk A30
  clear A30
  obtain ⟨ji4, hji4⟩ : ∃ j_ : Int, (mn a0 a1) = j_ := ⟨_, rfl⟩
  replace H : (if t125 < (ji4) then (some false) else (if t125 > (mx a0 a1) then (some false) else ((sat_Mid.f a1 a0).bind fun t126 => (if t125 = t126 then ((sat_Half.f a0).bind fun t127 => ((sat_Mid.f a0 0).bind fun t128 => (if t127 = t128 then ((sat_Mid.f a0 a0).bind fun t129 => (if t129 = a0 then ((chronobatelaw01_alive.f k).bind fun t130 => (if t130 = true then (if (IntKind.u64.wrap ((IntKind.u64.wrap (mx a0 a1)) - (IntKind.u64.wrap (t125)))) = (IntKind.u64.wrap ((IntKind.u64.wrap (t125)) - (IntKind.u64.wrap (ji4)))) then (some true) else (some ((IntKind.u64.wrap ((IntKind.u64.wrap (mx a0 a1)) - (IntKind.u64.wrap (t125)))) == (IntKind.u64.wrap ((IntKind.u64.wrap ((IntKind.u64.wrap (t125)) - (IntKind.u64.wrap (ji4)))) + 1))))) else (some false))) else (some false))) else (some false)))) else (some false))))) = some r := by first | (rw [hji4] at H; exact H) | (simp only [hji4] at H ⊢; exact H)
  (try rw [hji4] at A3)
  have hji4_ : (if a1 < a0 then a1 else a0) = ji4 := hji4
  obtain ⟨ji5, hji5⟩ : ∃ j_ : Int, (mx a0 a1) = j_ := ⟨_, rfl⟩
  replace H : (if t125 < (ji4) then (some false) else (if t125 > (ji5) then (some false) else ((sat_Mid.f a1 a0).bind fun t126 => (if t125 = t126 then ((sat_Half.f a0).bind fun t127 => ((sat_Mid.f a0 0).bind fun t128 => (if t127 = t128 then ((sat_Mid.f a0 a0).bind fun t129 => (if t129 = a0 then ((chronobatelaw01_alive.f k).bind fun t130 => (if t130 = true then (if (IntKind.u64.wrap ((IntKind.u64.wrap (ji5)) - (IntKind.u64.wrap (t125)))) = (IntKind.u64.wrap ((IntKind.u64.wrap (t125)) - (IntKind.u64.wrap (ji4)))) then (some true) else (some ((IntKind.u64.wrap ((IntKind.u64.wrap (ji5)) - (IntKind.u64.wrap (t125)))) == (IntKind.u64.wrap ((IntKind.u64.wrap ((IntKind.u64.wrap (t125)) - (IntKind.u64.wrap (ji4)))) + 1))))) else (some false))) else (some false))) else (some false)))) else (some false))))) = some r := by first | (rw [hji5] at H; exact H) | (simp only [hji5] at H ⊢; exact H)
  (try rw [hji5] at A3)
  have hji5_ : (if a0 < a1 then a1 else a0) = ji5 := hji5
  by_cases c6 : t125 < (ji4)
  · rw [if_pos c6] at H
    have c6b0 : decide (t125 < (ji4)) = true := decide_eq_true c6
    clear c6
    obtain rfl := Option.some.inj H
    go_enter Try.func4, Try.ntmps4
    go_wp2_with (first | ((with_reducible refine gate_callee (f := 15) rfl ?_); refine goesL_ (some 12) rfl rfl Try.func15 (by kernel_rfl) rfl #[.int .i64 a0, .int .i64 a1] rfl (by (try simp only [List.map_toArray, List.map_cons, List.map_nil]); first | done | rfl | (simp only [List.length_drop, List.length_take]; rfl)) ?_; (with_reducible refine (sat_Mid.calls a0 a1 t125 _ A3.out).mono ?_); rintro e w' ⟨rfl, ⟨nd, rfl⟩⟩; refine ⟨_, rfl, ?_⟩))
    go_ret
    exact ⟨by first | rfl | (simp [errW_none, errW_some] <;> rfl) | (simp only [← hji4, ← hji5]; first | rfl | (simp [errW_none, errW_some] <;> rfl)) | (simp [*, errW_none, errW_some] <;> rfl), by repeat (first | (with_reducible first | exact HB.out | apply below_alloc | apply pw_below_drewN | apply below_drew1) | exact HB.out)⟩
  · rw [if_neg c6] at H
    have c6b0 : decide (t125 < (ji4)) = false := decide_eq_false c6
    clear c6
    by_cases c7 : t125 > (ji5)
    · rw [if_pos c7] at H
      have c7b0 : decide ((ji5) < t125) = true := decide_eq_true c7
      clear c7
      obtain rfl := Option.some.inj H
      go_enter Try.func4, Try.ntmps4
      go_wp2_with (first | ((with_reducible refine gate_callee (f := 15) rfl ?_); refine goesL_ (some 12) rfl rfl Try.func15 (by kernel_rfl) rfl #[.int .i64 a0, .int .i64 a1] rfl (by (try simp only [List.map_toArray, List.map_cons, List.map_nil]); first | done | rfl | (simp only [List.length_drop, List.length_take]; rfl)) ?_; (with_reducible refine (sat_Mid.calls a0 a1 t125 _ A3.out).mono ?_); rintro e w' ⟨rfl, ⟨nd, rfl⟩⟩; refine ⟨_, rfl, ?_⟩))
      go_ret
      exact ⟨by first | rfl | (simp [errW_none, errW_some] <;> rfl) | (simp only [← hji4, ← hji5]; first | rfl | (simp [errW_none, errW_some] <;> rfl)) | (simp [*, errW_none, errW_some] <;> rfl), by repeat (first | (with_reducible first | exact HB.out | apply below_alloc | apply pw_below_drewN | apply below_drew1) | exact HB.out)⟩
    · rw [if_neg c7] at H
      have c7b0 : decide ((ji5) < t125) = false := decide_eq_false c7
      clear c7
      replace H := Option.bind_eq_some_iff.mp H
      obtain ⟨t126, A80, H⟩ := H
      replace H : (if t125 = t126 then ((sat_Half.f a0).bind fun t127 => ((sat_Mid.f a0 0).bind fun t128 => (if t127 = t128 then ((sat_Mid.f a0 a0).bind fun t129 => (if t129 = a0 then ((chronobatelaw01_alive.f k).bind fun t130 => (if t130 = true then (if (IntKind.u64.wrap ((IntKind.u64.wrap (ji5)) - (IntKind.u64.wrap (t125)))) = (IntKind.u64.wrap ((IntKind.u64.wrap (t125)) - (IntKind.u64.wrap (ji4)))) then (some true) else (some ((IntKind.u64.wrap ((IntKind.u64.wrap (ji5)) - (IntKind.u64.wrap (t125)))) == (IntKind.u64.wrap ((IntKind.u64.wrap ((IntKind.u64.wrap (t125)) - (IntKind.u64.wrap (ji4)))) + 1))))) else (some false))) else (some false))) else (some false)))) else (some false)) = some r := H
      have A8 := Aside0.mk A80
      clear A80
      by_cases c9 : t125 = t126
      · rw [if_pos c9] at H
        have c9b0 : (t125 == t126) = true := beq_iff_eq.mpr c9
        have c9b1 : (t125 != t126) = false := bne_eq_false_iff_eq.mpr c9
        clear c9
        replace H := Option.bind_eq_some_iff.mp H
        obtain ⟨t127, A100, H⟩ := H
        replace H : ((sat_Mid.f a0 0).bind fun t128 => (if t127 = t128 then ((sat_Mid.f a0 a0).bind fun t129 => (if t129 = a0 then ((chronobatelaw01_alive.f k).bind fun t130 => (if t130 = true then (if (IntKind.u64.wrap ((IntKind.u64.wrap (ji5)) - (IntKind.u64.wrap (t125)))) = (IntKind.u64.wrap ((IntKind.u64.wrap (t125)) - (IntKind.u64.wrap (ji4)))) then (some true) else (some ((IntKind.u64.wrap ((IntKind.u64.wrap (ji5)) - (IntKind.u64.wrap (t125)))) == (IntKind.u64.wrap ((IntKind.u64.wrap ((IntKind.u64.wrap (t125)) - (IntKind.u64.wrap (ji4)))) + 1))))) else (some false))) else (some false))) else (some false))) = some r := H
        have A10 := Aside0.mk A100
        clear A100
        replace H := Option.bind_eq_some_iff.mp H
        obtain ⟨t128, A110, H⟩ := H
        replace H : (if t127 = t128 then ((sat_Mid.f a0 a0).bind fun t129 => (if t129 = a0 then ((chronobatelaw01_alive.f k).bind fun t130 => (if t130 = true then (if (IntKind.u64.wrap ((IntKind.u64.wrap (ji5)) - (IntKind.u64.wrap (t125)))) = (IntKind.u64.wrap ((IntKind.u64.wrap (t125)) - (IntKind.u64.wrap (ji4)))) then (some true) else (some ((IntKind.u64.wrap ((IntKind.u64.wrap (ji5)) - (IntKind.u64.wrap (t125)))) == (IntKind.u64.wrap ((IntKind.u64.wrap ((IntKind.u64.wrap (t125)) - (IntKind.u64.wrap (ji4)))) + 1))))) else (some false))) else (some false))) else (some false)) = some r := H
        have A11 := Aside0.mk A110
        clear A110
        by_cases c12 : t127 = t128
        · rw [if_pos c12] at H
          have c12b0 : (t127 == t128) = true := beq_iff_eq.mpr c12
          have c12b1 : (t127 != t128) = false := bne_eq_false_iff_eq.mpr c12
          clear c12
          replace H := Option.bind_eq_some_iff.mp H
          obtain ⟨t129, A130, H⟩ := H
          replace H : (if t129 = a0 then ((chronobatelaw01_alive.f k).bind fun t130 => (if t130 = true then (if (IntKind.u64.wrap ((IntKind.u64.wrap (ji5)) - (IntKind.u64.wrap (t125)))) = (IntKind.u64.wrap ((IntKind.u64.wrap (t125)) - (IntKind.u64.wrap (ji4)))) then (some true) else (some ((IntKind.u64.wrap ((IntKind.u64.wrap (ji5)) - (IntKind.u64.wrap (t125)))) == (IntKind.u64.wrap ((IntKind.u64.wrap ((IntKind.u64.wrap (t125)) - (IntKind.u64.wrap (ji4)))) + 1))))) else (some false))) else (some false)) = some r := H
          have A13 := Aside0.mk A130
          clear A130
          by_cases c14 : t129 = a0
          · rw [if_pos c14] at H
            have c14b0 : (t129 == a0) = true := beq_iff_eq.mpr c14
            have c14b1 : (t129 != a0) = false := bne_eq_false_iff_eq.mpr c14
            clear c14
            replace H := Option.bind_eq_some_iff.mp H
            obtain ⟨t130, A150, H⟩ := H
            replace H : (if t130 = true then (if (IntKind.u64.wrap ((IntKind.u64.wrap (ji5)) - (IntKind.u64.wrap (t125)))) = (IntKind.u64.wrap ((IntKind.u64.wrap (t125)) - (IntKind.u64.wrap (ji4)))) then (some true) else (some ((IntKind.u64.wrap ((IntKind.u64.wrap (ji5)) - (IntKind.u64.wrap (t125)))) == (IntKind.u64.wrap ((IntKind.u64.wrap ((IntKind.u64.wrap (t125)) - (IntKind.u64.wrap (ji4)))) + 1))))) else (some false)) = some r := H
            have A15 := Aside0.mk A150
            clear A150
            by_cases c16 : t130 = true
            · subst c16
              have H1 : (if (IntKind.u64.wrap ((IntKind.u64.wrap (ji5)) - (IntKind.u64.wrap (t125)))) = (IntKind.u64.wrap ((IntKind.u64.wrap (t125)) - (IntKind.u64.wrap (ji4)))) then (some true) else (some ((IntKind.u64.wrap ((IntKind.u64.wrap (ji5)) - (IntKind.u64.wrap (t125)))) == (IntKind.u64.wrap ((IntKind.u64.wrap ((IntKind.u64.wrap (t125)) - (IntKind.u64.wrap (ji4)))) + 1))))) = some r := by rw [if_pos rfl] at H; exact H
              clear H
              have H := H1
              clear H1
              by_cases c17 : (IntKind.u64.wrap ((IntKind.u64.wrap (ji5)) - (IntKind.u64.wrap (t125)))) = (IntKind.u64.wrap ((IntKind.u64.wrap (t125)) - (IntKind.u64.wrap (ji4))))
              · rw [if_pos c17] at H
                have c17b0 : ((IntKind.u64.wrap ((IntKind.u64.wrap (ji5)) - (IntKind.u64.wrap (t125)))) == (IntKind.u64.wrap ((IntKind.u64.wrap (t125)) - (IntKind.u64.wrap (ji4))))) = true := beq_iff_eq.mpr c17
                have c17b1 : ((IntKind.u64.wrap ((IntKind.u64.wrap (ji5)) - (IntKind.u64.wrap (t125)))) != (IntKind.u64.wrap ((IntKind.u64.wrap (t125)) - (IntKind.u64.wrap (ji4))))) = false := bne_eq_false_iff_eq.mpr c17
                clear c17
                obtain rfl := Option.some.inj H
                go_enter Try.func4, Try.ntmps4
                go_wp2_with (first | ((with_reducible refine gate_callee (f := 15) rfl ?_); refine goesL_ (some 12) rfl rfl Try.func15 (by kernel_rfl) rfl #[.int .i64 a0, .int .i64 a1] rfl (by (try simp only [List.map_toArray, List.map_cons, List.map_nil]); first | done | rfl | (simp only [List.length_drop, List.length_take]; rfl)) ?_; (with_reducible refine (sat_Mid.calls a0 a1 t125 _ A3.out).mono ?_); rintro e w' ⟨rfl, ⟨nd, rfl⟩⟩; refine ⟨_, rfl, ?_⟩) | (go_at_call 15; (with_reducible refine (sat_Mid.calls a1 a0 t126 _ A8.out).mono ?_); rintro e w' ⟨rfl, ⟨nd, rfl⟩⟩) | (go_at_call 16; (with_reducible refine (sat_Half.calls a0 t127 _ A10.out).mono ?_); rintro e w' ⟨rfl, ⟨nd, rfl⟩⟩) | (go_at_call 15; (with_reducible refine (sat_Mid.calls a0 0 t128 _ A11.out).mono ?_); rintro e w' ⟨rfl, ⟨nd, rfl⟩⟩) | (go_at_call 15; (with_reducible refine (sat_Mid.calls a0 a0 t129 _ A13.out).mono ?_); rintro e w' ⟨rfl, ⟨nd, rfl⟩⟩) | ((with_reducible refine gate_callee (f := 14) rfl ?_); refine goesL_ (some 58) rfl rfl Try.func14 (by kernel_rfl) rfl #[] rfl (by (try simp only [List.map_toArray, List.map_cons, List.map_nil]); first | done | rfl | (simp only [List.length_drop, List.length_take]; rfl)) ?_; (with_reducible refine (chronobatelaw01_alive.calls k  true _ A15.out).mono ?_); rintro e w18 ⟨rfl, hb⟩; refine ⟨_, rfl, ?_⟩; have n0_ := Aside0.mk (below_step (by repeat (first | (with_reducible first | exact HB.out | apply below_alloc | apply pw_below_drewN | apply below_drew1) | exact HB.out)) hb); clear HB; have HB := n0_; clear n0_; (try clear hb); (try clear hb2); (try clear hk); (try clear hi)))
                go_ret
                exact ⟨by first | rfl | (simp [errW_none, errW_some] <;> rfl) | (simp only [← hji4, ← hji5]; first | rfl | (simp [errW_none, errW_some] <;> rfl)) | (simp [*, errW_none, errW_some] <;> rfl), by repeat (first | (with_reducible first | exact HB.out | apply below_alloc | apply pw_below_drewN | apply below_drew1) | exact HB.out)⟩
              · rw [if_neg c17] at H
                have c17b0 : ((IntKind.u64.wrap ((IntKind.u64.wrap (ji5)) - (IntKind.u64.wrap (t125)))) == (IntKind.u64.wrap ((IntKind.u64.wrap (t125)) - (IntKind.u64.wrap (ji4))))) = false := beq_eq_false_iff_ne.mpr c17
                have c17b1 : ((IntKind.u64.wrap ((IntKind.u64.wrap (ji5)) - (IntKind.u64.wrap (t125)))) != (IntKind.u64.wrap ((IntKind.u64.wrap (t125)) - (IntKind.u64.wrap (ji4))))) = true := bne_iff_ne.mpr c17
                obtain rfl := Option.some.inj H
                go_enter Try.func4, Try.ntmps4
                go_wp2_with (first | ((with_reducible refine gate_callee (f := 15) rfl ?_); refine goesL_ (some 12) rfl rfl Try.func15 (by kernel_rfl) rfl #[.int .i64 a0, .int .i64 a1] rfl (by (try simp only [List.map_toArray, List.map_cons, List.map_nil]); first | done | rfl | (simp only [List.length_drop, List.length_take]; rfl)) ?_; (with_reducible refine (sat_Mid.calls a0 a1 t125 _ A3.out).mono ?_); rintro e w' ⟨rfl, ⟨nd, rfl⟩⟩; refine ⟨_, rfl, ?_⟩) | (go_at_call 15; (with_reducible refine (sat_Mid.calls a1 a0 t126 _ A8.out).mono ?_); rintro e w' ⟨rfl, ⟨nd, rfl⟩⟩) | (go_at_call 16; (with_reducible refine (sat_Half.calls a0 t127 _ A10.out).mono ?_); rintro e w' ⟨rfl, ⟨nd, rfl⟩⟩) | (go_at_call 15; (with_reducible refine (sat_Mid.calls a0 0 t128 _ A11.out).mono ?_); rintro e w' ⟨rfl, ⟨nd, rfl⟩⟩) | (go_at_call 15; (with_reducible refine (sat_Mid.calls a0 a0 t129 _ A13.out).mono ?_); rintro e w' ⟨rfl, ⟨nd, rfl⟩⟩) | ((with_reducible refine gate_callee (f := 14) rfl ?_); refine goesL_ (some 58) rfl rfl Try.func14 (by kernel_rfl) rfl #[] rfl (by (try simp only [List.map_toArray, List.map_cons, List.map_nil]); first | done | rfl | (simp only [List.length_drop, List.length_take]; rfl)) ?_; (with_reducible refine (chronobatelaw01_alive.calls k  true _ A15.out).mono ?_); rintro e w19 ⟨rfl, hb⟩; refine ⟨_, rfl, ?_⟩; have n0_ := Aside0.mk (below_step (by repeat (first | (with_reducible first | exact HB.out | apply below_alloc | apply pw_below_drewN | apply below_drew1) | exact HB.out)) hb); clear HB; have HB := n0_; clear n0_; (try clear hb); (try clear hb2); (try clear hk); (try clear hi)))
                go_ret
                exact ⟨by first | rfl | (simp [errW_none, errW_some] <;> rfl) | (simp only [← hji4, ← hji5]; first | rfl | (simp [errW_none, errW_some] <;> rfl)) | (simp [*, errW_none, errW_some] <;> rfl), by repeat (first | (with_reducible first | exact HB.out | apply below_alloc | apply pw_below_drewN | apply below_drew1) | exact HB.out)⟩
            · replace c16 := Bool.eq_false_iff.mpr c16
              subst c16
              have H1 : (some false) = some r := by rw [if_neg (show ¬ (false = true) by decide)] at H; exact H
              clear H
              have H := H1
              clear H1
              obtain rfl := Option.some.inj H
              go_enter Try.func4, Try.ntmps4
              go_wp2_with (first | ((with_reducible refine gate_callee (f := 15) rfl ?_); refine goesL_ (some 12) rfl rfl Try.func15 (by kernel_rfl) rfl #[.int .i64 a0, .int .i64 a1] rfl (by (try simp only [List.map_toArray, List.map_cons, List.map_nil]); first | done | rfl | (simp only [List.length_drop, List.length_take]; rfl)) ?_; (with_reducible refine (sat_Mid.calls a0 a1 t125 _ A3.out).mono ?_); rintro e w' ⟨rfl, ⟨nd, rfl⟩⟩; refine ⟨_, rfl, ?_⟩) | (go_at_call 15; (with_reducible refine (sat_Mid.calls a1 a0 t126 _ A8.out).mono ?_); rintro e w' ⟨rfl, ⟨nd, rfl⟩⟩) | (go_at_call 16; (with_reducible refine (sat_Half.calls a0 t127 _ A10.out).mono ?_); rintro e w' ⟨rfl, ⟨nd, rfl⟩⟩) | (go_at_call 15; (with_reducible refine (sat_Mid.calls a0 0 t128 _ A11.out).mono ?_); rintro e w' ⟨rfl, ⟨nd, rfl⟩⟩) | (go_at_call 15; (with_reducible refine (sat_Mid.calls a0 a0 t129 _ A13.out).mono ?_); rintro e w' ⟨rfl, ⟨nd, rfl⟩⟩) | ((with_reducible refine gate_callee (f := 14) rfl ?_); refine goesL_ (some 58) rfl rfl Try.func14 (by kernel_rfl) rfl #[] rfl (by (try simp only [List.map_toArray, List.map_cons, List.map_nil]); first | done | rfl | (simp only [List.length_drop, List.length_take]; rfl)) ?_; (with_reducible refine (chronobatelaw01_alive.calls k  false _ A15.out).mono ?_); rintro e w20 ⟨rfl, hb⟩; refine ⟨_, rfl, ?_⟩; have n0_ := Aside0.mk (below_step (by repeat (first | (with_reducible first | exact HB.out | apply below_alloc | apply pw_below_drewN | apply below_drew1) | exact HB.out)) hb); clear HB; have HB := n0_; clear n0_; (try clear hb); (try clear hb2); (try clear hk); (try clear hi)))
              go_ret
              exact ⟨by first | rfl | (simp [errW_none, errW_some] <;> rfl) | (simp only [← hji4, ← hji5]; first | rfl | (simp [errW_none, errW_some] <;> rfl)) | (simp [*, errW_none, errW_some] <;> rfl), by repeat (first | (with_reducible first | exact HB.out | apply below_alloc | apply pw_below_drewN | apply below_drew1) | exact HB.out)⟩
          · rw [if_neg c14] at H
            have c14b0 : (t129 == a0) = false := beq_eq_false_iff_ne.mpr c14
            have c14b1 : (t129 != a0) = true := bne_iff_ne.mpr c14
            obtain rfl := Option.some.inj H
            go_enter Try.func4, Try.ntmps4
            go_wp2_with (first | ((with_reducible refine gate_callee (f := 15) rfl ?_); refine goesL_ (some 12) rfl rfl Try.func15 (by kernel_rfl) rfl #[.int .i64 a0, .int .i64 a1] rfl (by (try simp only [List.map_toArray, List.map_cons, List.map_nil]); first | done | rfl | (simp only [List.length_drop, List.length_take]; rfl)) ?_; (with_reducible refine (sat_Mid.calls a0 a1 t125 _ A3.out).mono ?_); rintro e w' ⟨rfl, ⟨nd, rfl⟩⟩; refine ⟨_, rfl, ?_⟩) | (go_at_call 15; (with_reducible refine (sat_Mid.calls a1 a0 t126 _ A8.out).mono ?_); rintro e w' ⟨rfl, ⟨nd, rfl⟩⟩) | (go_at_call 16; (with_reducible refine (sat_Half.calls a0 t127 _ A10.out).mono ?_); rintro e w' ⟨rfl, ⟨nd, rfl⟩⟩) | (go_at_call 15; (with_reducible refine (sat_Mid.calls a0 0 t128 _ A11.out).mono ?_); rintro e w' ⟨rfl, ⟨nd, rfl⟩⟩) | (go_at_call 15; (with_reducible refine (sat_Mid.calls a0 a0 t129 _ A13.out).mono ?_); rintro e w' ⟨rfl, ⟨nd, rfl⟩⟩))
            go_ret
            exact ⟨by first | rfl | (simp [errW_none, errW_some] <;> rfl) | (simp only [← hji4, ← hji5]; first | rfl | (simp [errW_none, errW_some] <;> rfl)) | (simp [*, errW_none, errW_some] <;> rfl), by repeat (first | (with_reducible first | exact HB.out | apply below_alloc | apply pw_below_drewN | apply below_drew1) | exact HB.out)⟩
        · rw [if_neg c12] at H
          have c12b0 : (t127 == t128) = false := beq_eq_false_iff_ne.mpr c12
          have c12b1 : (t127 != t128) = true := bne_iff_ne.mpr c12
          obtain rfl := Option.some.inj H
          go_enter Try.func4, Try.ntmps4
          go_wp2_with (first | ((with_reducible refine gate_callee (f := 15) rfl ?_); refine goesL_ (some 12) rfl rfl Try.func15 (by kernel_rfl) rfl #[.int .i64 a0, .int .i64 a1] rfl (by (try simp only [List.map_toArray, List.map_cons, List.map_nil]); first | done | rfl | (simp only [List.length_drop, List.length_take]; rfl)) ?_; (with_reducible refine (sat_Mid.calls a0 a1 t125 _ A3.out).mono ?_); rintro e w' ⟨rfl, ⟨nd, rfl⟩⟩; refine ⟨_, rfl, ?_⟩) | (go_at_call 15; (with_reducible refine (sat_Mid.calls a1 a0 t126 _ A8.out).mono ?_); rintro e w' ⟨rfl, ⟨nd, rfl⟩⟩) | (go_at_call 16; (with_reducible refine (sat_Half.calls a0 t127 _ A10.out).mono ?_); rintro e w' ⟨rfl, ⟨nd, rfl⟩⟩) | (go_at_call 15; (with_reducible refine (sat_Mid.calls a0 0 t128 _ A11.out).mono ?_); rintro e w' ⟨rfl, ⟨nd, rfl⟩⟩))
          go_ret
          exact ⟨by first | rfl | (simp [errW_none, errW_some] <;> rfl) | (simp only [← hji4, ← hji5]; first | rfl | (simp [errW_none, errW_some] <;> rfl)) | (simp [*, errW_none, errW_some] <;> rfl), by repeat (first | (with_reducible first | exact HB.out | apply below_alloc | apply pw_below_drewN | apply below_drew1) | exact HB.out)⟩
      · rw [if_neg c9] at H
        have c9b0 : (t125 == t126) = false := beq_eq_false_iff_ne.mpr c9
        have c9b1 : (t125 != t126) = true := bne_iff_ne.mpr c9
        obtain rfl := Option.some.inj H
        go_enter Try.func4, Try.ntmps4
        go_wp2_with (first | ((with_reducible refine gate_callee (f := 15) rfl ?_); refine goesL_ (some 12) rfl rfl Try.func15 (by kernel_rfl) rfl #[.int .i64 a0, .int .i64 a1] rfl (by (try simp only [List.map_toArray, List.map_cons, List.map_nil]); first | done | rfl | (simp only [List.length_drop, List.length_take]; rfl)) ?_; (with_reducible refine (sat_Mid.calls a0 a1 t125 _ A3.out).mono ?_); rintro e w' ⟨rfl, ⟨nd, rfl⟩⟩; refine ⟨_, rfl, ?_⟩) | (go_at_call 15; (with_reducible refine (sat_Mid.calls a1 a0 t126 _ A8.out).mono ?_); rintro e w' ⟨rfl, ⟨nd, rfl⟩⟩))
        go_ret
        exact ⟨by first | rfl | (simp [errW_none, errW_some] <;> rfl) | (simp only [← hji4, ← hji5]; first | rfl | (simp [errW_none, errW_some] <;> rfl)) | (simp [*, errW_none, errW_some] <;> rfl), by repeat (first | (with_reducible first | exact HB.out | apply below_alloc | apply pw_below_drewN | apply below_drew1) | exact HB.out)⟩

/-- THE ONE PURE STATEMENT of chronobatelaw01_SatMiddles: yours. -/
def chronobatelaw01_SatMiddles.Pure : Prop := ∀ (a0 : Int) (a1 : Int), (Lit.int .i64 a0).wf = true → (Lit.int .i64 a1).wf = true → ∃ k, chronobatelaw01_SatMiddles.f k a0 a1 = some true
theorem chronobatelaw01_SatMiddles.walk (P : chronobatelaw01_SatMiddles.Pure) (a0 : Int) (a1 : Int) (w : World) (w0 : (Lit.int .i64 a0).wf = true) (w1 : (Lit.int .i64 a1).wf = true) :
    Calls Try.prog 4 #[.int .i64 a0, .int .i64 a1] w fun e w' => e = .returned (.bool true) ∧ Below w.heap.size w w' := by
  obtain ⟨k, h⟩ := P a0 a1 w0 w1
  refine (chronobatelaw01_SatMiddles.calls k a0 a1 true w h).mono ?_
  rintro e w' ⟨rfl, hd⟩
  exact ⟨rfl, hd⟩

end Go.Proofs.Ytdflbfgmbcgljaa.G
