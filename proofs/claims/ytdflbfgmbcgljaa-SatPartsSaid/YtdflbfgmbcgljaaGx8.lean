-- Written by a program of this session out of the translation (wip/patch_print.py, wip/print2.sh). Lean checks it.
import Derived.Test.YtdflbfgmbcgljaaGx0
import Derived.Test.YtdflbfgmbcgljaaGx5
import Derived.Test.YtdflbfgmbcgljaaGx7
namespace Go.Proofs.Ytdflbfgmbcgljaa.G
open Go.RowKit Go.Proofs.YtdflbfgmbcgljaaW.PrintWords Go.Proofs.YtdflbfgmbcgljaaW.PrintLast Go.Proofs.YtdflbfgmbcgljaaW.PrintMore
attribute [local go_sem] max2_int min2_int max_two min_two max_three min_three max_four min_four   -- for this text's walks alone
set_option linter.unusedVariables false
set_option linter.unusedSimpArgs false

/-! ### chronobatelaw01_SatAdds: function 8 -/
def chronobatelaw01_SatAdds.f (k : Nat) (a0 : Int) (a1 : Int) : Option (Bool) := (chronobatelaw01_alive.f k).bind fun t161 => (if t161 = true then ((sat_Add.f a0 a1).bind fun t162 => ((chronobateref01_Add.f k a0 a1).bind fun t163 => (if t162 = t163 then ((sat_Sub.f a0 a1).bind fun t164 => ((chronobateref01_Sub.f k a0 a1).bind fun t165 => (if t164 = t165 then ((sat_Neg.f a0).bind fun t166 => ((chronobateref01_Neg.f k a0).bind fun t167 => (if t166 = t167 then ((sat_Abs.f a0).bind fun t168 => ((chronobateref01_Abs.f k a0).bind fun t169 => (if t168 = t169 then ((sat_Half.f a0).bind fun t170 => ((chronobateref01_Half.f a0).bind fun t171 => (if t170 = t171 then ((sat_Mid.f a0 a1).bind fun t172 => ((chronobateref01_Mid.f a0 a1).bind fun t173 => (some (t172 == t173)))) else (some false)))) else (some false)))) else (some false)))) else (some false)))) else (some false)))) else (some false))
theorem chronobatelaw01_SatAdds.mono : ∀ a0 a1 k, LeO (chronobatelaw01_SatAdds.f k a0 a1) (chronobatelaw01_SatAdds.f (k + 1) a0 a1) := by
  intro a0 a1 k
  unfold chronobatelaw01_SatAdds.f
  repeat' first
      | (with_reducible exact chronobatelaw01_alive.mono _)
      | (with_reducible exact chronobateref01_Abs.mono _ _)
      | (with_reducible exact chronobateref01_Add.mono _ _ _)
      | (with_reducible exact chronobateref01_Neg.mono _ _)
      | (with_reducible exact chronobateref01_Sub.mono _ _ _)
      | (with_reducible exact LeO.refl _)
      | (with_reducible exact LeO.none _)
      | (with_reducible refine LeO.ite ?_ ?_)
      | (with_reducible refine LeO.bind ?_ (fun _ => ?_))
      | exact chronobatelaw01_alive.mono _
      | exact chronobateref01_Abs.mono _ _
      | exact chronobateref01_Add.mono _ _ _
      | exact chronobateref01_Neg.mono _ _
      | exact chronobateref01_Sub.mono _ _ _
      | exact LeO.none _
      | refine LeO.ite ?_ ?_
      | refine LeO.bind ?_ (fun _ => ?_)
set_option maxHeartbeats 8000000 in
set_option maxRecDepth 100000 in
theorem chronobatelaw01_SatAdds.calls (k : Nat) (a0 : Int) (a1 : Int) (r : Bool) (w : World) (h : chronobatelaw01_SatAdds.f k a0 a1 = some r) :
    Calls Try.prog 8 #[.int .i64 a0, .int .i64 a1] w fun e w' => e = .returned (.bool r) ∧ Below w.heap.size w w' := by
  have HB := Aside0.mk (Below.refl w.heap.size w)
  have H : ((chronobatelaw01_alive.f k).bind fun t161 => (if t161 = true then ((sat_Add.f a0 a1).bind fun t162 => ((chronobateref01_Add.f k a0 a1).bind fun t163 => (if t162 = t163 then ((sat_Sub.f a0 a1).bind fun t164 => ((chronobateref01_Sub.f k a0 a1).bind fun t165 => (if t164 = t165 then ((sat_Neg.f a0).bind fun t166 => ((chronobateref01_Neg.f k a0).bind fun t167 => (if t166 = t167 then ((sat_Abs.f a0).bind fun t168 => ((chronobateref01_Abs.f k a0).bind fun t169 => (if t168 = t169 then ((sat_Half.f a0).bind fun t170 => ((chronobateref01_Half.f a0).bind fun t171 => (if t170 = t171 then ((sat_Mid.f a0 a1).bind fun t172 => ((chronobateref01_Mid.f a0 a1).bind fun t173 => (some (t172 == t173)))) else (some false)))) else (some false)))) else (some false)))) else (some false)))) else (some false)))) else (some false))) = some r := h
  clear h
  replace H := Option.bind_eq_some_iff.mp H
  obtain ⟨t161, A30, H⟩ := H
  replace H : (if t161 = true then ((sat_Add.f a0 a1).bind fun t162 => ((chronobateref01_Add.f k a0 a1).bind fun t163 => (if t162 = t163 then ((sat_Sub.f a0 a1).bind fun t164 => ((chronobateref01_Sub.f k a0 a1).bind fun t165 => (if t164 = t165 then ((sat_Neg.f a0).bind fun t166 => ((chronobateref01_Neg.f k a0).bind fun t167 => (if t166 = t167 then ((sat_Abs.f a0).bind fun t168 => ((chronobateref01_Abs.f k a0).bind fun t169 => (if t168 = t169 then ((sat_Half.f a0).bind fun t170 => ((chronobateref01_Half.f a0).bind fun t171 => (if t170 = t171 then ((sat_Mid.f a0 a1).bind fun t172 => ((chronobateref01_Mid.f a0 a1).bind fun t173 => (some (t172 == t173)))) else (some false)))) else (some false)))) else (some false)))) else (some false)))) else (some false)))) else (some false)) = some r := H
  have A3 := Aside0.mk A30
  clear A30
  by_cases c4 : t161 = true
  · subst c4
    have H1 : ((sat_Add.f a0 a1).bind fun t162 => ((chronobateref01_Add.f k a0 a1).bind fun t163 => (if t162 = t163 then ((sat_Sub.f a0 a1).bind fun t164 => ((chronobateref01_Sub.f k a0 a1).bind fun t165 => (if t164 = t165 then ((sat_Neg.f a0).bind fun t166 => ((chronobateref01_Neg.f k a0).bind fun t167 => (if t166 = t167 then ((sat_Abs.f a0).bind fun t168 => ((chronobateref01_Abs.f k a0).bind fun t169 => (if t168 = t169 then ((sat_Half.f a0).bind fun t170 => ((chronobateref01_Half.f a0).bind fun t171 => (if t170 = t171 then ((sat_Mid.f a0 a1).bind fun t172 => ((chronobateref01_Mid.f a0 a1).bind fun t173 => (some (t172 == t173)))) else (some false)))) else (some false)))) else (some false)))) else (some false)))) else (some false)))) = some r := by rw [if_pos rfl] at H; exact H
    clear H
    have H := H1
    clear H1
    replace H := Option.bind_eq_some_iff.mp H
    obtain ⟨t162, A50, H⟩ := H
    replace H : ((chronobateref01_Add.f k a0 a1).bind fun t163 => (if t162 = t163 then ((sat_Sub.f a0 a1).bind fun t164 => ((chronobateref01_Sub.f k a0 a1).bind fun t165 => (if t164 = t165 then ((sat_Neg.f a0).bind fun t166 => ((chronobateref01_Neg.f k a0).bind fun t167 => (if t166 = t167 then ((sat_Abs.f a0).bind fun t168 => ((chronobateref01_Abs.f k a0).bind fun t169 => (if t168 = t169 then ((sat_Half.f a0).bind fun t170 => ((chronobateref01_Half.f a0).bind fun t171 => (if t170 = t171 then ((sat_Mid.f a0 a1).bind fun t172 => ((chronobateref01_Mid.f a0 a1).bind fun t173 => (some (t172 == t173)))) else (some false)))) else (some false)))) else (some false)))) else (some false)))) else (some false))) = some r := H
    have A5 := Aside0.mk A50
    clear A50
    replace H := Option.bind_eq_some_iff.mp H
    obtain ⟨t163, A60, H⟩ := H
    replace H : (if t162 = t163 then ((sat_Sub.f a0 a1).bind fun t164 => ((chronobateref01_Sub.f k a0 a1).bind fun t165 => (if t164 = t165 then ((sat_Neg.f a0).bind fun t166 => ((chronobateref01_Neg.f k a0).bind fun t167 => (if t166 = t167 then ((sat_Abs.f a0).bind fun t168 => ((chronobateref01_Abs.f k a0).bind fun t169 => (if t168 = t169 then ((sat_Half.f a0).bind fun t170 => ((chronobateref01_Half.f a0).bind fun t171 => (if t170 = t171 then ((sat_Mid.f a0 a1).bind fun t172 => ((chronobateref01_Mid.f a0 a1).bind fun t173 => (some (t172 == t173)))) else (some false)))) else (some false)))) else (some false)))) else (some false)))) else (some false)) = some r := H
    have A6 := Aside0.mk A60
    clear A60
    by_cases c7 : t162 = t163
    · rw [if_pos c7] at H
      have c7b0 : (t162 == t163) = true := beq_iff_eq.mpr c7
      have c7b1 : (t162 != t163) = false := bne_eq_false_iff_eq.mpr c7
      clear c7
      replace H := Option.bind_eq_some_iff.mp H
      obtain ⟨t164, A80, H⟩ := H
      replace H : ((chronobateref01_Sub.f k a0 a1).bind fun t165 => (if t164 = t165 then ((sat_Neg.f a0).bind fun t166 => ((chronobateref01_Neg.f k a0).bind fun t167 => (if t166 = t167 then ((sat_Abs.f a0).bind fun t168 => ((chronobateref01_Abs.f k a0).bind fun t169 => (if t168 = t169 then ((sat_Half.f a0).bind fun t170 => ((chronobateref01_Half.f a0).bind fun t171 => (if t170 = t171 then ((sat_Mid.f a0 a1).bind fun t172 => ((chronobateref01_Mid.f a0 a1).bind fun t173 => (some (t172 == t173)))) else (some false)))) else (some false)))) else (some false)))) else (some false))) = some r := H
      have A8 := Aside0.mk A80
      clear A80
      replace H := Option.bind_eq_some_iff.mp H
      obtain ⟨t165, A90, H⟩ := H
      replace H : (if t164 = t165 then ((sat_Neg.f a0).bind fun t166 => ((chronobateref01_Neg.f k a0).bind fun t167 => (if t166 = t167 then ((sat_Abs.f a0).bind fun t168 => ((chronobateref01_Abs.f k a0).bind fun t169 => (if t168 = t169 then ((sat_Half.f a0).bind fun t170 => ((chronobateref01_Half.f a0).bind fun t171 => (if t170 = t171 then ((sat_Mid.f a0 a1).bind fun t172 => ((chronobateref01_Mid.f a0 a1).bind fun t173 => (some (t172 == t173)))) else (some false)))) else (some false)))) else (some false)))) else (some false)) = some r := H
      have A9 := Aside0.mk A90
      clear A90
      by_cases c10 : t164 = t165
      · rw [if_pos c10] at H
        have c10b0 : (t164 == t165) = true := beq_iff_eq.mpr c10
        have c10b1 : (t164 != t165) = false := bne_eq_false_iff_eq.mpr c10
        clear c10
        replace H := Option.bind_eq_some_iff.mp H
        obtain ⟨t166, A110, H⟩ := H
        replace H : ((chronobateref01_Neg.f k a0).bind fun t167 => (if t166 = t167 then ((sat_Abs.f a0).bind fun t168 => ((chronobateref01_Abs.f k a0).bind fun t169 => (if t168 = t169 then ((sat_Half.f a0).bind fun t170 => ((chronobateref01_Half.f a0).bind fun t171 => (if t170 = t171 then ((sat_Mid.f a0 a1).bind fun t172 => ((chronobateref01_Mid.f a0 a1).bind fun t173 => (some (t172 == t173)))) else (some false)))) else (some false)))) else (some false))) = some r := H
        have A11 := Aside0.mk A110
        clear A110
        replace H := Option.bind_eq_some_iff.mp H
        obtain ⟨t167, A120, H⟩ := H
        replace H : (if t166 = t167 then ((sat_Abs.f a0).bind fun t168 => ((chronobateref01_Abs.f k a0).bind fun t169 => (if t168 = t169 then ((sat_Half.f a0).bind fun t170 => ((chronobateref01_Half.f a0).bind fun t171 => (if t170 = t171 then ((sat_Mid.f a0 a1).bind fun t172 => ((chronobateref01_Mid.f a0 a1).bind fun t173 => (some (t172 == t173)))) else (some false)))) else (some false)))) else (some false)) = some r := H
        have A12 := Aside0.mk A120
        clear A120
        by_cases c13 : t166 = t167
        · rw [if_pos c13] at H
          have c13b0 : (t166 == t167) = true := beq_iff_eq.mpr c13
          have c13b1 : (t166 != t167) = false := bne_eq_false_iff_eq.mpr c13
          clear c13
          replace H := Option.bind_eq_some_iff.mp H
          obtain ⟨t168, A140, H⟩ := H
          replace H : ((chronobateref01_Abs.f k a0).bind fun t169 => (if t168 = t169 then ((sat_Half.f a0).bind fun t170 => ((chronobateref01_Half.f a0).bind fun t171 => (if t170 = t171 then ((sat_Mid.f a0 a1).bind fun t172 => ((chronobateref01_Mid.f a0 a1).bind fun t173 => (some (t172 == t173)))) else (some false)))) else (some false))) = some r := H
          have A14 := Aside0.mk A140
          clear A140
          replace H := Option.bind_eq_some_iff.mp H
          obtain ⟨t169, A150, H⟩ := H
          replace H : (if t168 = t169 then ((sat_Half.f a0).bind fun t170 => ((chronobateref01_Half.f a0).bind fun t171 => (if t170 = t171 then ((sat_Mid.f a0 a1).bind fun t172 => ((chronobateref01_Mid.f a0 a1).bind fun t173 => (some (t172 == t173)))) else (some false)))) else (some false)) = some r := H
          have A15 := Aside0.mk A150
          clear A150
          by_cases c16 : t168 = t169
          · rw [if_pos c16] at H
            have c16b0 : (t168 == t169) = true := beq_iff_eq.mpr c16
            have c16b1 : (t168 != t169) = false := bne_eq_false_iff_eq.mpr c16
            clear c16
            replace H := Option.bind_eq_some_iff.mp H
            obtain ⟨t170, A170, H⟩ := H
            replace H : ((chronobateref01_Half.f a0).bind fun t171 => (if t170 = t171 then ((sat_Mid.f a0 a1).bind fun t172 => ((chronobateref01_Mid.f a0 a1).bind fun t173 => (some (t172 == t173)))) else (some false))) = some r := H
            have A17 := Aside0.mk A170
            clear A170
            replace H := Option.bind_eq_some_iff.mp H
            obtain ⟨t171, A180, H⟩ := H
            replace H : (if t170 = t171 then ((sat_Mid.f a0 a1).bind fun t172 => ((chronobateref01_Mid.f a0 a1).bind fun t173 => (some (t172 == t173)))) else (some false)) = some r := H
            have A18 := Aside0.mk A180
            clear A180
            by_cases c19 : t170 = t171
            · rw [if_pos c19] at H
              have c19b0 : (t170 == t171) = true := beq_iff_eq.mpr c19
              have c19b1 : (t170 != t171) = false := bne_eq_false_iff_eq.mpr c19
              clear c19
              replace H := Option.bind_eq_some_iff.mp H
              obtain ⟨t172, A200, H⟩ := H
              replace H : ((chronobateref01_Mid.f a0 a1).bind fun t173 => (some (t172 == t173))) = some r := H
              have A20 := Aside0.mk A200
              clear A200
              replace H := Option.bind_eq_some_iff.mp H
              obtain ⟨t173, A210, H⟩ := H
              replace H : (some (t172 == t173)) = some r := H
              have A21 := Aside0.mk A210
              clear A210
              obtain rfl := Option.some.inj H
              go_enter Try.func8, Try.ntmps8
              go_wp2_with (first | ((with_reducible refine gate_callee (f := 14) rfl ?_); refine goesL_ (some 5) rfl rfl Try.func14 (by kernel_rfl) rfl #[] rfl (by (try simp only [List.map_toArray, List.map_cons, List.map_nil]); first | done | rfl | (simp only [List.length_drop, List.length_take]; rfl)) ?_; (with_reducible refine (chronobatelaw01_alive.calls k  true _ A3.out).mono ?_); rintro e w22 ⟨rfl, hb⟩; refine ⟨_, rfl, ?_⟩; have n0_ := Aside0.mk (below_step (by repeat (first | (with_reducible first | exact HB.out | apply below_alloc | apply pw_below_drewN | apply below_drew1) | exact HB.out)) hb); clear HB; have HB := n0_; clear n0_; (try clear hb); (try clear hb2); (try clear hk); (try clear hi)) | (go_at_call 17; (with_reducible refine (sat_Add.calls a0 a1 t162 _ A5.out).mono ?_); rintro e w' ⟨rfl, ⟨nd, rfl⟩⟩) | (go_at_call 18; (with_reducible refine (chronobateref01_Add.calls k a0 a1 t163 _ A6.out).mono ?_); rintro e w' ⟨rfl, ⟨nd, rfl⟩⟩) | (go_at_call 19; (with_reducible refine (sat_Sub.calls a0 a1 t164 _ A8.out).mono ?_); rintro e w' ⟨rfl, ⟨nd, rfl⟩⟩) | (go_at_call 20; (with_reducible refine (chronobateref01_Sub.calls k a0 a1 t165 _ A9.out).mono ?_); rintro e w' ⟨rfl, ⟨nd, rfl⟩⟩) | (go_at_call 21; (with_reducible refine (sat_Neg.calls a0 t166 _ A11.out).mono ?_); rintro e w' ⟨rfl, ⟨nd, rfl⟩⟩) | (go_at_call 22; (with_reducible refine (chronobateref01_Neg.calls k a0 t167 _ A12.out).mono ?_); rintro e w' ⟨rfl, ⟨nd, rfl⟩⟩) | (go_at_call 23; (with_reducible refine (sat_Abs.calls a0 t168 _ A14.out).mono ?_); rintro e w23 ⟨rfl, hb⟩; have n0_ := Aside0.mk (below_step (by repeat (first | (with_reducible first | exact HB.out | apply below_alloc | apply pw_below_drewN | apply below_drew1) | exact HB.out)) hb); clear HB; have HB := n0_; clear n0_; (try clear hb); (try clear hb2); (try clear hk); (try clear hi)) | (go_at_call 24; (with_reducible refine (chronobateref01_Abs.calls k a0 t169 _ A15.out).mono ?_); rintro e w' ⟨rfl, ⟨nd, rfl⟩⟩) | (go_at_call 16; (with_reducible refine (sat_Half.calls a0 t170 _ A17.out).mono ?_); rintro e w' ⟨rfl, ⟨nd, rfl⟩⟩) | (go_at_call 25; (with_reducible refine (chronobateref01_Half.calls a0 t171 _ A18.out).mono ?_); rintro e w' ⟨rfl, ⟨nd, rfl⟩⟩) | (go_at_call 15; (with_reducible refine (sat_Mid.calls a0 a1 t172 _ A20.out).mono ?_); rintro e w' ⟨rfl, ⟨nd, rfl⟩⟩) | (go_at_call 26; (with_reducible refine (chronobateref01_Mid.calls a0 a1 t173 _ A21.out).mono ?_); rintro e w' ⟨rfl, ⟨nd, rfl⟩⟩))
              go_ret
              exact ⟨by first | rfl | (simp [errW_none, errW_some] <;> rfl) | (simp [*, errW_none, errW_some] <;> rfl), by repeat (first | (with_reducible first | exact HB.out | apply below_alloc | apply pw_below_drewN | apply below_drew1) | exact HB.out)⟩
            · rw [if_neg c19] at H
              have c19b0 : (t170 == t171) = false := beq_eq_false_iff_ne.mpr c19
              have c19b1 : (t170 != t171) = true := bne_iff_ne.mpr c19
              obtain rfl := Option.some.inj H
              go_enter Try.func8, Try.ntmps8
              go_wp2_with (first | ((with_reducible refine gate_callee (f := 14) rfl ?_); refine goesL_ (some 5) rfl rfl Try.func14 (by kernel_rfl) rfl #[] rfl (by (try simp only [List.map_toArray, List.map_cons, List.map_nil]); first | done | rfl | (simp only [List.length_drop, List.length_take]; rfl)) ?_; (with_reducible refine (chronobatelaw01_alive.calls k  true _ A3.out).mono ?_); rintro e w24 ⟨rfl, hb⟩; refine ⟨_, rfl, ?_⟩; have n0_ := Aside0.mk (below_step (by repeat (first | (with_reducible first | exact HB.out | apply below_alloc | apply pw_below_drewN | apply below_drew1) | exact HB.out)) hb); clear HB; have HB := n0_; clear n0_; (try clear hb); (try clear hb2); (try clear hk); (try clear hi)) | (go_at_call 17; (with_reducible refine (sat_Add.calls a0 a1 t162 _ A5.out).mono ?_); rintro e w' ⟨rfl, ⟨nd, rfl⟩⟩) | (go_at_call 18; (with_reducible refine (chronobateref01_Add.calls k a0 a1 t163 _ A6.out).mono ?_); rintro e w' ⟨rfl, ⟨nd, rfl⟩⟩) | (go_at_call 19; (with_reducible refine (sat_Sub.calls a0 a1 t164 _ A8.out).mono ?_); rintro e w' ⟨rfl, ⟨nd, rfl⟩⟩) | (go_at_call 20; (with_reducible refine (chronobateref01_Sub.calls k a0 a1 t165 _ A9.out).mono ?_); rintro e w' ⟨rfl, ⟨nd, rfl⟩⟩) | (go_at_call 21; (with_reducible refine (sat_Neg.calls a0 t166 _ A11.out).mono ?_); rintro e w' ⟨rfl, ⟨nd, rfl⟩⟩) | (go_at_call 22; (with_reducible refine (chronobateref01_Neg.calls k a0 t167 _ A12.out).mono ?_); rintro e w' ⟨rfl, ⟨nd, rfl⟩⟩) | (go_at_call 23; (with_reducible refine (sat_Abs.calls a0 t168 _ A14.out).mono ?_); rintro e w25 ⟨rfl, hb⟩; have n0_ := Aside0.mk (below_step (by repeat (first | (with_reducible first | exact HB.out | apply below_alloc | apply pw_below_drewN | apply below_drew1) | exact HB.out)) hb); clear HB; have HB := n0_; clear n0_; (try clear hb); (try clear hb2); (try clear hk); (try clear hi)) | (go_at_call 24; (with_reducible refine (chronobateref01_Abs.calls k a0 t169 _ A15.out).mono ?_); rintro e w' ⟨rfl, ⟨nd, rfl⟩⟩) | (go_at_call 16; (with_reducible refine (sat_Half.calls a0 t170 _ A17.out).mono ?_); rintro e w' ⟨rfl, ⟨nd, rfl⟩⟩) | (go_at_call 25; (with_reducible refine (chronobateref01_Half.calls a0 t171 _ A18.out).mono ?_); rintro e w' ⟨rfl, ⟨nd, rfl⟩⟩))
              go_ret
              exact ⟨by first | rfl | (simp [errW_none, errW_some] <;> rfl) | (simp [*, errW_none, errW_some] <;> rfl), by repeat (first | (with_reducible first | exact HB.out | apply below_alloc | apply pw_below_drewN | apply below_drew1) | exact HB.out)⟩
          · rw [if_neg c16] at H
            have c16b0 : (t168 == t169) = false := beq_eq_false_iff_ne.mpr c16
            have c16b1 : (t168 != t169) = true := bne_iff_ne.mpr c16
            obtain rfl := Option.some.inj H
            go_enter Try.func8, Try.ntmps8
            go_wp2_with (first | ((with_reducible refine gate_callee (f := 14) rfl ?_); refine goesL_ (some 5) rfl rfl Try.func14 (by kernel_rfl) rfl #[] rfl (by (try simp only [List.map_toArray, List.map_cons, List.map_nil]); first | done | rfl | (simp only [List.length_drop, List.length_take]; rfl)) ?_; (with_reducible refine (chronobatelaw01_alive.calls k  true _ A3.out).mono ?_); rintro e w26 ⟨rfl, hb⟩; refine ⟨_, rfl, ?_⟩; have n0_ := Aside0.mk (below_step (by repeat (first | (with_reducible first | exact HB.out | apply below_alloc | apply pw_below_drewN | apply below_drew1) | exact HB.out)) hb); clear HB; have HB := n0_; clear n0_; (try clear hb); (try clear hb2); (try clear hk); (try clear hi)) | (go_at_call 17; (with_reducible refine (sat_Add.calls a0 a1 t162 _ A5.out).mono ?_); rintro e w' ⟨rfl, ⟨nd, rfl⟩⟩) | (go_at_call 18; (with_reducible refine (chronobateref01_Add.calls k a0 a1 t163 _ A6.out).mono ?_); rintro e w' ⟨rfl, ⟨nd, rfl⟩⟩) | (go_at_call 19; (with_reducible refine (sat_Sub.calls a0 a1 t164 _ A8.out).mono ?_); rintro e w' ⟨rfl, ⟨nd, rfl⟩⟩) | (go_at_call 20; (with_reducible refine (chronobateref01_Sub.calls k a0 a1 t165 _ A9.out).mono ?_); rintro e w' ⟨rfl, ⟨nd, rfl⟩⟩) | (go_at_call 21; (with_reducible refine (sat_Neg.calls a0 t166 _ A11.out).mono ?_); rintro e w' ⟨rfl, ⟨nd, rfl⟩⟩) | (go_at_call 22; (with_reducible refine (chronobateref01_Neg.calls k a0 t167 _ A12.out).mono ?_); rintro e w' ⟨rfl, ⟨nd, rfl⟩⟩) | (go_at_call 23; (with_reducible refine (sat_Abs.calls a0 t168 _ A14.out).mono ?_); rintro e w27 ⟨rfl, hb⟩; have n0_ := Aside0.mk (below_step (by repeat (first | (with_reducible first | exact HB.out | apply below_alloc | apply pw_below_drewN | apply below_drew1) | exact HB.out)) hb); clear HB; have HB := n0_; clear n0_; (try clear hb); (try clear hb2); (try clear hk); (try clear hi)) | (go_at_call 24; (with_reducible refine (chronobateref01_Abs.calls k a0 t169 _ A15.out).mono ?_); rintro e w' ⟨rfl, ⟨nd, rfl⟩⟩))
            go_ret
            exact ⟨by first | rfl | (simp [errW_none, errW_some] <;> rfl) | (simp [*, errW_none, errW_some] <;> rfl), by repeat (first | (with_reducible first | exact HB.out | apply below_alloc | apply pw_below_drewN | apply below_drew1) | exact HB.out)⟩
        · rw [if_neg c13] at H
          have c13b0 : (t166 == t167) = false := beq_eq_false_iff_ne.mpr c13
          have c13b1 : (t166 != t167) = true := bne_iff_ne.mpr c13
          obtain rfl := Option.some.inj H
          go_enter Try.func8, Try.ntmps8
          go_wp2_with (first | ((with_reducible refine gate_callee (f := 14) rfl ?_); refine goesL_ (some 5) rfl rfl Try.func14 (by kernel_rfl) rfl #[] rfl (by (try simp only [List.map_toArray, List.map_cons, List.map_nil]); first | done | rfl | (simp only [List.length_drop, List.length_take]; rfl)) ?_; (with_reducible refine (chronobatelaw01_alive.calls k  true _ A3.out).mono ?_); rintro e w28 ⟨rfl, hb⟩; refine ⟨_, rfl, ?_⟩; have n0_ := Aside0.mk (below_step (by repeat (first | (with_reducible first | exact HB.out | apply below_alloc | apply pw_below_drewN | apply below_drew1) | exact HB.out)) hb); clear HB; have HB := n0_; clear n0_; (try clear hb); (try clear hb2); (try clear hk); (try clear hi)) | (go_at_call 17; (with_reducible refine (sat_Add.calls a0 a1 t162 _ A5.out).mono ?_); rintro e w' ⟨rfl, ⟨nd, rfl⟩⟩) | (go_at_call 18; (with_reducible refine (chronobateref01_Add.calls k a0 a1 t163 _ A6.out).mono ?_); rintro e w' ⟨rfl, ⟨nd, rfl⟩⟩) | (go_at_call 19; (with_reducible refine (sat_Sub.calls a0 a1 t164 _ A8.out).mono ?_); rintro e w' ⟨rfl, ⟨nd, rfl⟩⟩) | (go_at_call 20; (with_reducible refine (chronobateref01_Sub.calls k a0 a1 t165 _ A9.out).mono ?_); rintro e w' ⟨rfl, ⟨nd, rfl⟩⟩) | (go_at_call 21; (with_reducible refine (sat_Neg.calls a0 t166 _ A11.out).mono ?_); rintro e w' ⟨rfl, ⟨nd, rfl⟩⟩) | (go_at_call 22; (with_reducible refine (chronobateref01_Neg.calls k a0 t167 _ A12.out).mono ?_); rintro e w' ⟨rfl, ⟨nd, rfl⟩⟩))
          go_ret
          exact ⟨by first | rfl | (simp [errW_none, errW_some] <;> rfl) | (simp [*, errW_none, errW_some] <;> rfl), by repeat (first | (with_reducible first | exact HB.out | apply below_alloc | apply pw_below_drewN | apply below_drew1) | exact HB.out)⟩
      · rw [if_neg c10] at H
        have c10b0 : (t164 == t165) = false := beq_eq_false_iff_ne.mpr c10
        have c10b1 : (t164 != t165) = true := bne_iff_ne.mpr c10
        obtain rfl := Option.some.inj H
        go_enter Try.func8, Try.ntmps8
        go_wp2_with (first | ((with_reducible refine gate_callee (f := 14) rfl ?_); refine goesL_ (some 5) rfl rfl Try.func14 (by kernel_rfl) rfl #[] rfl (by (try simp only [List.map_toArray, List.map_cons, List.map_nil]); first | done | rfl | (simp only [List.length_drop, List.length_take]; rfl)) ?_; (with_reducible refine (chronobatelaw01_alive.calls k  true _ A3.out).mono ?_); rintro e w29 ⟨rfl, hb⟩; refine ⟨_, rfl, ?_⟩; have n0_ := Aside0.mk (below_step (by repeat (first | (with_reducible first | exact HB.out | apply below_alloc | apply pw_below_drewN | apply below_drew1) | exact HB.out)) hb); clear HB; have HB := n0_; clear n0_; (try clear hb); (try clear hb2); (try clear hk); (try clear hi)) | (go_at_call 17; (with_reducible refine (sat_Add.calls a0 a1 t162 _ A5.out).mono ?_); rintro e w' ⟨rfl, ⟨nd, rfl⟩⟩) | (go_at_call 18; (with_reducible refine (chronobateref01_Add.calls k a0 a1 t163 _ A6.out).mono ?_); rintro e w' ⟨rfl, ⟨nd, rfl⟩⟩) | (go_at_call 19; (with_reducible refine (sat_Sub.calls a0 a1 t164 _ A8.out).mono ?_); rintro e w' ⟨rfl, ⟨nd, rfl⟩⟩) | (go_at_call 20; (with_reducible refine (chronobateref01_Sub.calls k a0 a1 t165 _ A9.out).mono ?_); rintro e w' ⟨rfl, ⟨nd, rfl⟩⟩))
        go_ret
        exact ⟨by first | rfl | (simp [errW_none, errW_some] <;> rfl) | (simp [*, errW_none, errW_some] <;> rfl), by repeat (first | (with_reducible first | exact HB.out | apply below_alloc | apply pw_below_drewN | apply below_drew1) | exact HB.out)⟩
    · rw [if_neg c7] at H
      have c7b0 : (t162 == t163) = false := beq_eq_false_iff_ne.mpr c7
      have c7b1 : (t162 != t163) = true := bne_iff_ne.mpr c7
      obtain rfl := Option.some.inj H
      go_enter Try.func8, Try.ntmps8
      go_wp2_with (first | ((with_reducible refine gate_callee (f := 14) rfl ?_); refine goesL_ (some 5) rfl rfl Try.func14 (by kernel_rfl) rfl #[] rfl (by (try simp only [List.map_toArray, List.map_cons, List.map_nil]); first | done | rfl | (simp only [List.length_drop, List.length_take]; rfl)) ?_; (with_reducible refine (chronobatelaw01_alive.calls k  true _ A3.out).mono ?_); rintro e w30 ⟨rfl, hb⟩; refine ⟨_, rfl, ?_⟩; have n0_ := Aside0.mk (below_step (by repeat (first | (with_reducible first | exact HB.out | apply below_alloc | apply pw_below_drewN | apply below_drew1) | exact HB.out)) hb); clear HB; have HB := n0_; clear n0_; (try clear hb); (try clear hb2); (try clear hk); (try clear hi)) | (go_at_call 17; (with_reducible refine (sat_Add.calls a0 a1 t162 _ A5.out).mono ?_); rintro e w' ⟨rfl, ⟨nd, rfl⟩⟩) | (go_at_call 18; (with_reducible refine (chronobateref01_Add.calls k a0 a1 t163 _ A6.out).mono ?_); rintro e w' ⟨rfl, ⟨nd, rfl⟩⟩))
      go_ret
      exact ⟨by first | rfl | (simp [errW_none, errW_some] <;> rfl) | (simp [*, errW_none, errW_some] <;> rfl), by repeat (first | (with_reducible first | exact HB.out | apply below_alloc | apply pw_below_drewN | apply below_drew1) | exact HB.out)⟩
  · replace c4 := Bool.eq_false_iff.mpr c4
    subst c4
    have H1 : (some false) = some r := by rw [if_neg (show ¬ (false = true) by decide)] at H; exact H
    clear H
    have H := H1
    clear H1
    obtain rfl := Option.some.inj H
    go_enter Try.func8, Try.ntmps8
    go_wp2_with (first | ((with_reducible refine gate_callee (f := 14) rfl ?_); refine goesL_ (some 5) rfl rfl Try.func14 (by kernel_rfl) rfl #[] rfl (by (try simp only [List.map_toArray, List.map_cons, List.map_nil]); first | done | rfl | (simp only [List.length_drop, List.length_take]; rfl)) ?_; (with_reducible refine (chronobatelaw01_alive.calls k  false _ A3.out).mono ?_); rintro e w31 ⟨rfl, hb⟩; refine ⟨_, rfl, ?_⟩; have n0_ := Aside0.mk (below_step (by repeat (first | (with_reducible first | exact HB.out | apply below_alloc | apply pw_below_drewN | apply below_drew1) | exact HB.out)) hb); clear HB; have HB := n0_; clear n0_; (try clear hb); (try clear hb2); (try clear hk); (try clear hi)))
    go_ret
    exact ⟨by first | rfl | (simp [errW_none, errW_some] <;> rfl) | (simp [*, errW_none, errW_some] <;> rfl), by repeat (first | (with_reducible first | exact HB.out | apply below_alloc | apply pw_below_drewN | apply below_drew1) | exact HB.out)⟩

/-- THE ONE PURE STATEMENT of chronobatelaw01_SatAdds: yours. -/
def chronobatelaw01_SatAdds.Pure : Prop := ∀ (a0 : Int) (a1 : Int), (Lit.int .i64 a0).wf = true → (Lit.int .i64 a1).wf = true → ∃ k, chronobatelaw01_SatAdds.f k a0 a1 = some true
theorem chronobatelaw01_SatAdds.walk (P : chronobatelaw01_SatAdds.Pure) (a0 : Int) (a1 : Int) (w : World) (w0 : (Lit.int .i64 a0).wf = true) (w1 : (Lit.int .i64 a1).wf = true) :
    Calls Try.prog 8 #[.int .i64 a0, .int .i64 a1] w fun e w' => e = .returned (.bool true) ∧ Below w.heap.size w w' := by
  obtain ⟨k, h⟩ := P a0 a1 w0 w1
  refine (chronobatelaw01_SatAdds.calls k a0 a1 true w h).mono ?_
  rintro e w' ⟨rfl, hd⟩
  exact ⟨rfl, hd⟩

end Go.Proofs.Ytdflbfgmbcgljaa.G
