-- Written by a program of this session out of the translation (wip/patch_print.py, wip/print2.sh). Lean checks it.
import Derived.Test.YtdflbfgmbcgljaaGx0
import Derived.Test.YtdflbfgmbcgljaaGx5
import Derived.Test.YtdflbfgmbcgljaaGx7
import Derived.Test.YtdflbfgmbcgljaaGx9
namespace Go.Proofs.Ytdflbfgmbcgljaa.G
open Go.RowKit Go.Proofs.YtdflbfgmbcgljaaW.PrintWords Go.Proofs.YtdflbfgmbcgljaaW.PrintLast Go.Proofs.YtdflbfgmbcgljaaW.PrintMore
attribute [local go_sem] max2_int min2_int max_two min_two max_three min_three max_four min_four   -- for this text's walks alone
set_option linter.unusedVariables false
set_option linter.unusedSimpArgs false

/-! ### chronobatelaw01_SatClamps: function 10 -/
def chronobatelaw01_SatClamps.f (k : Nat) (a0 : Int) (a1 : Int) (a2 : Int) : Option (Bool) := (chronobatelaw01_alive.f k).bind fun t191 => (if t191 = true then ((sat_Clamp.f a0 a1 a2).bind fun t192 => ((chronobateref01_Clamp.f a0 a1 a2).bind fun t193 => (some (t192 == t193)))) else (some false))
theorem chronobatelaw01_SatClamps.mono : ∀ a0 a1 a2 k, LeO (chronobatelaw01_SatClamps.f k a0 a1 a2) (chronobatelaw01_SatClamps.f (k + 1) a0 a1 a2) := by
  intro a0 a1 a2 k
  unfold chronobatelaw01_SatClamps.f
  repeat' first
      | (with_reducible exact chronobatelaw01_alive.mono _)
      | (with_reducible exact LeO.refl _)
      | (with_reducible exact LeO.none _)
      | (with_reducible refine LeO.ite ?_ ?_)
      | (with_reducible refine LeO.bind ?_ (fun _ => ?_))
      | exact chronobatelaw01_alive.mono _
      | exact LeO.none _
      | refine LeO.ite ?_ ?_
      | refine LeO.bind ?_ (fun _ => ?_)
set_option maxHeartbeats 8000000 in
set_option maxRecDepth 100000 in
theorem chronobatelaw01_SatClamps.calls (k : Nat) (a0 : Int) (a1 : Int) (a2 : Int) (r : Bool) (w : World) (h : chronobatelaw01_SatClamps.f k a0 a1 a2 = some r) :
    Calls Try.prog 10 #[.int .i64 a0, .int .i64 a1, .int .i64 a2] w fun e w' => e = .returned (.bool r) ∧ Below w.heap.size w w' := by
  have HB := Aside0.mk (Below.refl w.heap.size w)
  have H : ((chronobatelaw01_alive.f k).bind fun t191 => (if t191 = true then ((sat_Clamp.f a0 a1 a2).bind fun t192 => ((chronobateref01_Clamp.f a0 a1 a2).bind fun t193 => (some (t192 == t193)))) else (some false))) = some r := h
  clear h
  replace H := Option.bind_eq_some_iff.mp H
  obtain ⟨t191, A40, H⟩ := H
  replace H : (if t191 = true then ((sat_Clamp.f a0 a1 a2).bind fun t192 => ((chronobateref01_Clamp.f a0 a1 a2).bind fun t193 => (some (t192 == t193)))) else (some false)) = some r := H
  have A4 := Aside0.mk A40
  clear A40
  by_cases c5 : t191 = true
  · subst c5
    have H1 : ((sat_Clamp.f a0 a1 a2).bind fun t192 => ((chronobateref01_Clamp.f a0 a1 a2).bind fun t193 => (some (t192 == t193)))) = some r := by rw [if_pos rfl] at H; exact H
    clear H
    have H := H1
    clear H1
    replace H := Option.bind_eq_some_iff.mp H
    obtain ⟨t192, A60, H⟩ := H
    replace H : ((chronobateref01_Clamp.f a0 a1 a2).bind fun t193 => (some (t192 == t193))) = some r := H
    have A6 := Aside0.mk A60
    clear A60
    replace H := Option.bind_eq_some_iff.mp H
    obtain ⟨t193, A70, H⟩ := H
    replace H : (some (t192 == t193)) = some r := H
    have A7 := Aside0.mk A70
    clear A70
    obtain rfl := Option.some.inj H
    go_enter Try.func10, Try.ntmps10
    go_wp2_with (first | ((with_reducible refine gate_callee (f := 14) rfl ?_); refine goesL_ (some 7) rfl rfl Try.func14 (by kernel_rfl) rfl #[] rfl (by (try simp only [List.map_toArray, List.map_cons, List.map_nil]); first | done | rfl | (simp only [List.length_drop, List.length_take]; rfl)) ?_; (with_reducible refine (chronobatelaw01_alive.calls k  true _ A4.out).mono ?_); rintro e w8 ⟨rfl, hb⟩; refine ⟨_, rfl, ?_⟩; have n0_ := Aside0.mk (below_step (by repeat (first | (with_reducible first | exact HB.out | apply below_alloc | apply pw_below_drewN | apply below_drew1) | exact HB.out)) hb); clear HB; have HB := n0_; clear n0_; (try clear hb); (try clear hb2); (try clear hk); (try clear hi)) | (go_at_call 27; (with_reducible refine (sat_Clamp.calls a0 a1 a2 t192 _ A6.out).mono ?_); rintro e w' ⟨rfl, ⟨nd, rfl⟩⟩) | (go_at_call 28; (with_reducible refine (chronobateref01_Clamp.calls a0 a1 a2 t193 _ A7.out).mono ?_); rintro e w' ⟨rfl, ⟨nd, rfl⟩⟩))
    go_ret
    exact ⟨by first | rfl | (simp [errW_none, errW_some] <;> rfl) | (simp [*, errW_none, errW_some] <;> rfl), by repeat (first | (with_reducible first | exact HB.out | apply below_alloc | apply pw_below_drewN | apply below_drew1) | exact HB.out)⟩
  · replace c5 := Bool.eq_false_iff.mpr c5
    subst c5
    have H1 : (some false) = some r := by rw [if_neg (show ¬ (false = true) by decide)] at H; exact H
    clear H
    have H := H1
    clear H1
    obtain rfl := Option.some.inj H
    go_enter Try.func10, Try.ntmps10
    go_wp2_with (first | ((with_reducible refine gate_callee (f := 14) rfl ?_); refine goesL_ (some 7) rfl rfl Try.func14 (by kernel_rfl) rfl #[] rfl (by (try simp only [List.map_toArray, List.map_cons, List.map_nil]); first | done | rfl | (simp only [List.length_drop, List.length_take]; rfl)) ?_; (with_reducible refine (chronobatelaw01_alive.calls k  false _ A4.out).mono ?_); rintro e w9 ⟨rfl, hb⟩; refine ⟨_, rfl, ?_⟩; have n0_ := Aside0.mk (below_step (by repeat (first | (with_reducible first | exact HB.out | apply below_alloc | apply pw_below_drewN | apply below_drew1) | exact HB.out)) hb); clear HB; have HB := n0_; clear n0_; (try clear hb); (try clear hb2); (try clear hk); (try clear hi)))
    go_ret
    exact ⟨by first | rfl | (simp [errW_none, errW_some] <;> rfl) | (simp [*, errW_none, errW_some] <;> rfl), by repeat (first | (with_reducible first | exact HB.out | apply below_alloc | apply pw_below_drewN | apply below_drew1) | exact HB.out)⟩

/-- THE ONE PURE STATEMENT of chronobatelaw01_SatClamps: yours. -/
def chronobatelaw01_SatClamps.Pure : Prop := ∀ (a0 : Int) (a1 : Int) (a2 : Int), (Lit.int .i64 a0).wf = true → (Lit.int .i64 a1).wf = true → (Lit.int .i64 a2).wf = true → ∃ k, chronobatelaw01_SatClamps.f k a0 a1 a2 = some true
theorem chronobatelaw01_SatClamps.walk (P : chronobatelaw01_SatClamps.Pure) (a0 : Int) (a1 : Int) (a2 : Int) (w : World) (w0 : (Lit.int .i64 a0).wf = true) (w1 : (Lit.int .i64 a1).wf = true) (w2 : (Lit.int .i64 a2).wf = true) :
    Calls Try.prog 10 #[.int .i64 a0, .int .i64 a1, .int .i64 a2] w fun e w' => e = .returned (.bool true) ∧ Below w.heap.size w w' := by
  obtain ⟨k, h⟩ := P a0 a1 a2 w0 w1 w2
  refine (chronobatelaw01_SatClamps.calls k a0 a1 a2 true w h).mono ?_
  rintro e w' ⟨rfl, hd⟩
  exact ⟨rfl, hd⟩

/-! ### chronobatelaw01_SatSides: function 11 -/
def chronobatelaw01_SatSides.j0 : Nat → Int → Int → Bool → Option (Bool)
  | 0, _, _, _ => none
  | k + 1, x0, x1, x49 => if x49 = true then (some false) else ((chronobatelaw01_alive.f k).bind fun t196 => (if t196 = true then (if x1 = (-9223372036854775808) then (some true) else ((sat_Sub.f x0 x1).bind fun t197 => ((sat_Neg.f x1).bind fun t198 => ((sat_Add.f x0 t198).bind fun t199 => (some (t197 == t199)))))) else (some false)))
def chronobatelaw01_SatSides.f (k : Nat) (a0 : Int) (a1 : Int) (a2 : Int) : Option (Bool) := (sat_Clamp.f a0 (mn a1 a2) (mx a1 a2)).bind fun t194 => (if t194 < (mn a1 a2) then (chronobatelaw01_SatSides.j0 k a0 a1 true) else (if t194 > (mx a1 a2) then (chronobatelaw01_SatSides.j0 k a0 a1 true) else ((sat_Clamp.f t194 (mn a1 a2) (mx a1 a2)).bind fun t195 => (if t195 = t194 then (if a0 ≥ (mn a1 a2) then (chronobatelaw01_SatSides.j0 k a0 a1 ((decide (a0 ≤ (mx a1 a2))) != (t194 == a0))) else (chronobatelaw01_SatSides.j0 k a0 a1 (false != (t194 == a0)))) else (chronobatelaw01_SatSides.j0 k a0 a1 true)))))
theorem chronobatelaw01_SatSides.mono_l : ∀ k, (∀ y0 y1 y2, LeO (chronobatelaw01_SatSides.j0 k y0 y1 y2) (chronobatelaw01_SatSides.j0 (k + 1) y0 y1 y2))
  | 0 => fun _ _ _ r h => by simp [chronobatelaw01_SatSides.j0] at h
  | k + 1 => by
    have ih0 := chronobatelaw01_SatSides.mono_l k
    · intro y0 y1 y2
      unfold chronobatelaw01_SatSides.j0
      repeat' first
      | (with_reducible exact ih0 _ _ _)
      | (with_reducible exact chronobatelaw01_alive.mono _)
      | (with_reducible exact LeO.refl _)
      | (with_reducible exact LeO.none _)
      | (with_reducible refine LeO.ite ?_ ?_)
      | (with_reducible refine LeO.bind ?_ (fun _ => ?_))
      | exact ih0 _ _ _
      | exact chronobatelaw01_alive.mono _
      | exact LeO.none _
      | refine LeO.ite ?_ ?_
      | refine LeO.bind ?_ (fun _ => ?_)
theorem chronobatelaw01_SatSides.mono : ∀ a0 a1 a2 k, LeO (chronobatelaw01_SatSides.f k a0 a1 a2) (chronobatelaw01_SatSides.f (k + 1) a0 a1 a2) := by
  intro a0 a1 a2 k
  have ih0 := chronobatelaw01_SatSides.mono_l k
  unfold chronobatelaw01_SatSides.f
  repeat' first
      | (with_reducible exact ih0 _ _ _)
      | (with_reducible exact chronobatelaw01_alive.mono _)
      | (with_reducible exact LeO.refl _)
      | (with_reducible exact LeO.none _)
      | (with_reducible refine LeO.ite ?_ ?_)
      | (with_reducible refine LeO.bind ?_ (fun _ => ?_))
      | exact ih0 _ _ _
      | exact chronobatelaw01_alive.mono _
      | exact LeO.none _
      | refine LeO.ite ?_ ?_
      | refine LeO.bind ?_ (fun _ => ?_)
set_option maxHeartbeats 8000000 in
set_option maxRecDepth 100000 in
theorem chronobatelaw01_SatSides.calls (k : Nat) (a0 : Int) (a1 : Int) (a2 : Int) (r : Bool) (w : World) (h : chronobatelaw01_SatSides.f k a0 a1 a2 = some r) :
    Calls Try.prog 11 #[.int .i64 a0, .int .i64 a1, .int .i64 a2] w fun e w' => e = .returned (.bool r) ∧ Below w.heap.size w w' := by
  have HB := Aside0.mk (Below.refl w.heap.size w)
  have H : ((sat_Clamp.f a0 (mn a1 a2) (mx a1 a2)).bind fun t194 => (if t194 < (mn a1 a2) then (chronobatelaw01_SatSides.j0 k a0 a1 true) else (if t194 > (mx a1 a2) then (chronobatelaw01_SatSides.j0 k a0 a1 true) else ((sat_Clamp.f t194 (mn a1 a2) (mx a1 a2)).bind fun t195 => (if t195 = t194 then (if a0 ≥ (mn a1 a2) then (chronobatelaw01_SatSides.j0 k a0 a1 ((decide (a0 ≤ (mx a1 a2))) != (t194 == a0))) else (chronobatelaw01_SatSides.j0 k a0 a1 (false != (t194 == a0)))) else (chronobatelaw01_SatSides.j0 k a0 a1 true)))))) = some r := h
  clear h
  obtain ⟨ji4, hji4⟩ : ∃ j_ : Int, (mn a1 a2) = j_ := ⟨_, rfl⟩
  replace H : ((sat_Clamp.f a0 (ji4) (mx a1 a2)).bind fun t194 => (if t194 < (ji4) then (chronobatelaw01_SatSides.j0 k a0 a1 true) else (if t194 > (mx a1 a2) then (chronobatelaw01_SatSides.j0 k a0 a1 true) else ((sat_Clamp.f t194 (ji4) (mx a1 a2)).bind fun t195 => (if t195 = t194 then (if a0 ≥ (ji4) then (chronobatelaw01_SatSides.j0 k a0 a1 ((decide (a0 ≤ (mx a1 a2))) != (t194 == a0))) else (chronobatelaw01_SatSides.j0 k a0 a1 (false != (t194 == a0)))) else (chronobatelaw01_SatSides.j0 k a0 a1 true)))))) = some r := by first | (rw [hji4] at H; exact H) | (simp only [hji4] at H ⊢; exact H)
  have hji4_ : (if a2 < a1 then a2 else a1) = ji4 := hji4
  obtain ⟨ji5, hji5⟩ : ∃ j_ : Int, (mx a1 a2) = j_ := ⟨_, rfl⟩
  replace H : ((sat_Clamp.f a0 (ji4) (ji5)).bind fun t194 => (if t194 < (ji4) then (chronobatelaw01_SatSides.j0 k a0 a1 true) else (if t194 > (ji5) then (chronobatelaw01_SatSides.j0 k a0 a1 true) else ((sat_Clamp.f t194 (ji4) (ji5)).bind fun t195 => (if t195 = t194 then (if a0 ≥ (ji4) then (chronobatelaw01_SatSides.j0 k a0 a1 ((decide (a0 ≤ (ji5))) != (t194 == a0))) else (chronobatelaw01_SatSides.j0 k a0 a1 (false != (t194 == a0)))) else (chronobatelaw01_SatSides.j0 k a0 a1 true)))))) = some r := by first | (rw [hji5] at H; exact H) | (simp only [hji5] at H ⊢; exact H)
  have hji5_ : (if a1 < a2 then a2 else a1) = ji5 := hji5
  replace H := Option.bind_eq_some_iff.mp H
  obtain ⟨t194, A60, H⟩ := H
  replace H : (if t194 < (ji4) then (chronobatelaw01_SatSides.j0 k a0 a1 true) else (if t194 > (ji5) then (chronobatelaw01_SatSides.j0 k a0 a1 true) else ((sat_Clamp.f t194 (ji4) (ji5)).bind fun t195 => (if t195 = t194 then (if a0 ≥ (ji4) then (chronobatelaw01_SatSides.j0 k a0 a1 ((decide (a0 ≤ (ji5))) != (t194 == a0))) else (chronobatelaw01_SatSides.j0 k a0 a1 (false != (t194 == a0)))) else (chronobatelaw01_SatSides.j0 k a0 a1 true))))) = some r := H
  have A6 := Aside0.mk A60
  clear A60
  have HC7 := Aside0.mk H
  clear H
  go_enter Try.func11, Try.ntmps11
  go_upto_region 3 with (first | ((with_reducible refine gate_callee (f := 27) rfl ?_); refine goesL_ (some 19) rfl rfl Try.func27 (by kernel_rfl) rfl #[.int .i64 a0, .int .i64 ji4, .int .i64 ji5] rfl (by (try simp only [List.map_toArray, List.map_cons, List.map_nil]); first | done | (simp only [hji4, hji5]; rfl) | rfl | (simp only [List.length_drop, List.length_take]; rfl)) ?_; (with_reducible refine (sat_Clamp.calls a0 ji4 ji5 t194 _ A6.out).mono ?_); rintro e w' ⟨rfl, ⟨nd, rfl⟩⟩; refine ⟨_, rfl, ?_⟩))
  (try simp only [Act.put, List.setIfInBounds_toArray, List.set_cons_zero, List.set_cons_succ])
  go_cut [49] (fun v49 wc => ∃ (kq : Nat) (x49_6 : Bool), v49 = .bool x49_6 ∧ Aside0 (chronobatelaw01_SatSides.j0 kq a0 a1 x49_6 = some r) ∧ Aside0 (kq ≤ k) ∧ Aside0 (Below w.heap.size w wc))
  case first =>
    have H := HC7.out
    clear HC7
    by_cases c8 : t194 < (ji4)
    · rw [if_pos c8] at H
      have c8b0 : decide (t194 < (ji4)) = true := decide_eq_true c8
      clear c8
      (first | rw [c8b0] | (simp only [i64_w, i32_w]; rw [c8b0]) | skip)
      have H' := Aside0.mk H
      clear H
      go_wp2
      go_meet
      case rel => exact ⟨_, (true), (by first | rfl | (simp; done) | (simp [*]; done)), H', ⟨by first | omega | exact Nat.le_refl _⟩, ⟨by repeat (first | (with_reducible first | exact HB.out | apply below_alloc | apply pw_below_drewN | apply below_drew1) | exact HB.out)⟩⟩
    · rw [if_neg c8] at H
      have c8b0 : decide (t194 < (ji4)) = false := decide_eq_false c8
      clear c8
      (first | rw [c8b0] | (simp only [i64_w, i32_w]; rw [c8b0]) | skip)
      by_cases c9 : t194 > (ji5)
      · rw [if_pos c9] at H
        have c9b0 : decide ((ji5) < t194) = true := decide_eq_true c9
        clear c9
        have H' := Aside0.mk H
        clear H
        go_wp2
        go_meet
        case rel => exact ⟨_, (true), (by first | rfl | (simp; done) | (simp [*]; done)), H', ⟨by first | omega | exact Nat.le_refl _⟩, ⟨by repeat (first | (with_reducible first | exact HB.out | apply below_alloc | apply pw_below_drewN | apply below_drew1) | exact HB.out)⟩⟩
      · rw [if_neg c9] at H
        have c9b0 : decide ((ji5) < t194) = false := decide_eq_false c9
        clear c9
        replace H := Option.bind_eq_some_iff.mp H
        obtain ⟨t195, A100, H⟩ := H
        replace H : (if t195 = t194 then (if a0 ≥ (ji4) then (chronobatelaw01_SatSides.j0 k a0 a1 ((decide (a0 ≤ (ji5))) != (t194 == a0))) else (chronobatelaw01_SatSides.j0 k a0 a1 (false != (t194 == a0)))) else (chronobatelaw01_SatSides.j0 k a0 a1 true)) = some r := H
        have A10 := Aside0.mk A100
        clear A100
        by_cases c11 : t195 = t194
        · rw [if_pos c11] at H
          have c11b0 : (t195 == t194) = true := beq_iff_eq.mpr c11
          have c11b1 : (t195 != t194) = false := bne_eq_false_iff_eq.mpr c11
          clear c11
          by_cases c12 : a0 ≥ (ji4)
          · rw [if_pos c12] at H
            have c12b0 : decide ((ji4) ≤ a0) = true := decide_eq_true c12
            clear c12
            have H' := Aside0.mk H
            clear H
            go_wp2_with (first | (go_at_call 27; (with_reducible refine (sat_Clamp.calls t194 ji4 ji5 t195 _ A10.out).mono ?_); rintro e w' ⟨rfl, ⟨nd, rfl⟩⟩))
            go_meet
            case rel => exact ⟨_, (((decide (a0 ≤ (ji5))) != (t194 == a0))), (by first | rfl | (simp; done) | (simp only [← hji5] <;> (first | rfl | simp)) | (simp [*]; done)), H', ⟨by first | omega | exact Nat.le_refl _⟩, ⟨by repeat (first | (with_reducible first | exact HB.out | apply below_alloc | apply pw_below_drewN | apply below_drew1) | exact HB.out)⟩⟩
          · rw [if_neg c12] at H
            have c12b0 : decide ((ji4) ≤ a0) = false := decide_eq_false c12
            clear c12
            have H' := Aside0.mk H
            clear H
            go_wp2_with (first | (go_at_call 27; (with_reducible refine (sat_Clamp.calls t194 ji4 ji5 t195 _ A10.out).mono ?_); rintro e w' ⟨rfl, ⟨nd, rfl⟩⟩))
            go_meet
            case rel => exact ⟨_, ((false != (t194 == a0))), (by first | rfl | (simp; done) | (simp [*]; done)), H', ⟨by first | omega | exact Nat.le_refl _⟩, ⟨by repeat (first | (with_reducible first | exact HB.out | apply below_alloc | apply pw_below_drewN | apply below_drew1) | exact HB.out)⟩⟩
        · rw [if_neg c11] at H
          have c11b0 : (t195 == t194) = false := beq_eq_false_iff_ne.mpr c11
          have c11b1 : (t195 != t194) = true := bne_iff_ne.mpr c11
          have H' := Aside0.mk H
          clear H
          go_wp2_with (first | (go_at_call 27; (with_reducible refine (sat_Clamp.calls t194 ji4 ji5 t195 _ A10.out).mono ?_); rintro e w' ⟨rfl, ⟨nd, rfl⟩⟩))
          go_meet
          case rel => exact ⟨_, (true), (by first | rfl | (simp; done) | (simp [*]; done)), H', ⟨by first | omega | exact Nat.le_refl _⟩, ⟨by repeat (first | (with_reducible first | exact HB.out | apply below_alloc | apply pw_below_drewN | apply below_drew1) | exact HB.out)⟩⟩
  case rest =>
    clear HC7
    try clear c1
    try clear c2
    try clear p2
    try clear c8
    try clear c8b0
    try clear c9
    try clear c9b0
    try clear c11
    try clear c11b0
    try clear c11b1
    try clear c12
    try clear c12b0
    obtain ⟨kq, x49_6, rfl, HA, HJ6, HB⟩ := hcut
    cases kq with
    | zero => exact absurd HA.out (by simp [chronobatelaw01_SatSides.j0])
    | succ kj6 =>
      have H := HA.out
      clear HA
      simp only [chronobatelaw01_SatSides.j0] at H
      by_cases c13 : x49_6 = true
      · subst c13
        have H1 : (some false) = some r := by rw [if_pos rfl] at H; exact H
        clear H
        have H := H1
        clear H1
        obtain rfl := Option.some.inj H
        go_wp2
        go_ret
        exact ⟨by first | rfl | (simp [errW_none, errW_some] <;> rfl) | (simp only [← hji4, ← hji5]; first | rfl | (simp [errW_none, errW_some] <;> rfl)) | (simp [*, errW_none, errW_some] <;> rfl), by repeat (first | (with_reducible first | exact HB.out | apply below_alloc | apply pw_below_drewN | apply below_drew1) | exact HB.out)⟩
      · replace c13 := Bool.eq_false_iff.mpr c13
        subst c13
        have H1 : ((chronobatelaw01_alive.f kj6).bind fun t196 => (if t196 = true then (if a1 = (-9223372036854775808) then (some true) else ((sat_Sub.f a0 a1).bind fun t197 => ((sat_Neg.f a1).bind fun t198 => ((sat_Add.f a0 t198).bind fun t199 => (some (t197 == t199)))))) else (some false))) = some r := by rw [if_neg (show ¬ (false = true) by decide)] at H; exact H
        clear H
        have H := H1
        clear H1
        replace H := Option.bind_eq_some_iff.mp H
        obtain ⟨t196, A140, H⟩ := H
        replace H : (if t196 = true then (if a1 = (-9223372036854775808) then (some true) else ((sat_Sub.f a0 a1).bind fun t197 => ((sat_Neg.f a1).bind fun t198 => ((sat_Add.f a0 t198).bind fun t199 => (some (t197 == t199)))))) else (some false)) = some r := H
        have A14 := Aside0.mk A140
        clear A140
        by_cases c15 : t196 = true
        · subst c15
          have H1 : (if a1 = (-9223372036854775808) then (some true) else ((sat_Sub.f a0 a1).bind fun t197 => ((sat_Neg.f a1).bind fun t198 => ((sat_Add.f a0 t198).bind fun t199 => (some (t197 == t199)))))) = some r := by rw [if_pos rfl] at H; exact H
          clear H
          have H := H1
          clear H1
          by_cases c16 : a1 = (-9223372036854775808)
          · rw [if_pos c16] at H
            have c16b0 : (a1 == (-9223372036854775808)) = true := beq_iff_eq.mpr c16
            have c16b1 : (a1 != (-9223372036854775808)) = false := bne_eq_false_iff_eq.mpr c16
            clear c16
            obtain rfl := Option.some.inj H
            go_wp2_with (first | ((with_reducible refine gate_callee (f := 14) rfl ?_); refine goesL_ (some 50) rfl rfl Try.func14 (by kernel_rfl) rfl #[] rfl (by (try simp only [List.map_toArray, List.map_cons, List.map_nil]); first | done | rfl | (simp only [List.length_drop, List.length_take]; rfl)) ?_; (with_reducible refine (chronobatelaw01_alive.calls kj6  true _ A14.out).mono ?_); rintro e w17 ⟨rfl, hb⟩; refine ⟨_, rfl, ?_⟩; have n0_ := Aside0.mk (below_step (by repeat (first | (with_reducible first | exact HB.out | apply below_alloc | apply pw_below_drewN | apply below_drew1) | exact HB.out)) hb); clear HB; have HB := n0_; clear n0_; (try clear hb); (try clear hb2); (try clear hk); (try clear hi)))
            go_ret
            exact ⟨by first | rfl | (simp [errW_none, errW_some] <;> rfl) | (simp only [← hji4, ← hji5]; first | rfl | (simp [errW_none, errW_some] <;> rfl)) | (simp [*, errW_none, errW_some] <;> rfl), by repeat (first | (with_reducible first | exact HB.out | apply below_alloc | apply pw_below_drewN | apply below_drew1) | exact HB.out)⟩
          · rw [if_neg c16] at H
            have c16b0 : (a1 == (-9223372036854775808)) = false := beq_eq_false_iff_ne.mpr c16
            have c16b1 : (a1 != (-9223372036854775808)) = true := bne_iff_ne.mpr c16
            replace H := Option.bind_eq_some_iff.mp H
            obtain ⟨t197, A180, H⟩ := H
            replace H : ((sat_Neg.f a1).bind fun t198 => ((sat_Add.f a0 t198).bind fun t199 => (some (t197 == t199)))) = some r := H
            have A18 := Aside0.mk A180
            clear A180
            replace H := Option.bind_eq_some_iff.mp H
            obtain ⟨t198, A190, H⟩ := H
            replace H : ((sat_Add.f a0 t198).bind fun t199 => (some (t197 == t199))) = some r := H
            have A19 := Aside0.mk A190
            clear A190
            replace H := Option.bind_eq_some_iff.mp H
            obtain ⟨t199, A200, H⟩ := H
            replace H : (some (t197 == t199)) = some r := H
            have A20 := Aside0.mk A200
            clear A200
            obtain rfl := Option.some.inj H
            go_wp2_with (first | ((with_reducible refine gate_callee (f := 14) rfl ?_); refine goesL_ (some 50) rfl rfl Try.func14 (by kernel_rfl) rfl #[] rfl (by (try simp only [List.map_toArray, List.map_cons, List.map_nil]); first | done | rfl | (simp only [List.length_drop, List.length_take]; rfl)) ?_; (with_reducible refine (chronobatelaw01_alive.calls kj6  true _ A14.out).mono ?_); rintro e w21 ⟨rfl, hb⟩; refine ⟨_, rfl, ?_⟩; have n0_ := Aside0.mk (below_step (by repeat (first | (with_reducible first | exact HB.out | apply below_alloc | apply pw_below_drewN | apply below_drew1) | exact HB.out)) hb); clear HB; have HB := n0_; clear n0_; (try clear hb); (try clear hb2); (try clear hk); (try clear hi)) | (go_at_call 19; (with_reducible refine (sat_Sub.calls a0 a1 t197 _ A18.out).mono ?_); rintro e w' ⟨rfl, ⟨nd, rfl⟩⟩) | (go_at_call 21; (with_reducible refine (sat_Neg.calls a1 t198 _ A19.out).mono ?_); rintro e w' ⟨rfl, ⟨nd, rfl⟩⟩) | (go_at_call 17; (with_reducible refine (sat_Add.calls a0 t198 t199 _ A20.out).mono ?_); rintro e w' ⟨rfl, ⟨nd, rfl⟩⟩))
            go_ret
            exact ⟨by first | rfl | (simp [errW_none, errW_some] <;> rfl) | (simp only [← hji4, ← hji5]; first | rfl | (simp [errW_none, errW_some] <;> rfl)) | (simp [*, errW_none, errW_some] <;> rfl), by repeat (first | (with_reducible first | exact HB.out | apply below_alloc | apply pw_below_drewN | apply below_drew1) | exact HB.out)⟩
        · replace c15 := Bool.eq_false_iff.mpr c15
          subst c15
          have H1 : (some false) = some r := by rw [if_neg (show ¬ (false = true) by decide)] at H; exact H
          clear H
          have H := H1
          clear H1
          obtain rfl := Option.some.inj H
          go_wp2_with (first | ((with_reducible refine gate_callee (f := 14) rfl ?_); refine goesL_ (some 50) rfl rfl Try.func14 (by kernel_rfl) rfl #[] rfl (by (try simp only [List.map_toArray, List.map_cons, List.map_nil]); first | done | rfl | (simp only [List.length_drop, List.length_take]; rfl)) ?_; (with_reducible refine (chronobatelaw01_alive.calls kj6  false _ A14.out).mono ?_); rintro e w22 ⟨rfl, hb⟩; refine ⟨_, rfl, ?_⟩; have n0_ := Aside0.mk (below_step (by repeat (first | (with_reducible first | exact HB.out | apply below_alloc | apply pw_below_drewN | apply below_drew1) | exact HB.out)) hb); clear HB; have HB := n0_; clear n0_; (try clear hb); (try clear hb2); (try clear hk); (try clear hi)))
          go_ret
          exact ⟨by first | rfl | (simp [errW_none, errW_some] <;> rfl) | (simp only [← hji4, ← hji5]; first | rfl | (simp [errW_none, errW_some] <;> rfl)) | (simp [*, errW_none, errW_some] <;> rfl), by repeat (first | (with_reducible first | exact HB.out | apply below_alloc | apply pw_below_drewN | apply below_drew1) | exact HB.out)⟩

/-- THE ONE PURE STATEMENT of chronobatelaw01_SatSides: yours. -/
def chronobatelaw01_SatSides.Pure : Prop := ∀ (a0 : Int) (a1 : Int) (a2 : Int), (Lit.int .i64 a0).wf = true → (Lit.int .i64 a1).wf = true → (Lit.int .i64 a2).wf = true → ∃ k, chronobatelaw01_SatSides.f k a0 a1 a2 = some true
theorem chronobatelaw01_SatSides.walk (P : chronobatelaw01_SatSides.Pure) (a0 : Int) (a1 : Int) (a2 : Int) (w : World) (w0 : (Lit.int .i64 a0).wf = true) (w1 : (Lit.int .i64 a1).wf = true) (w2 : (Lit.int .i64 a2).wf = true) :
    Calls Try.prog 11 #[.int .i64 a0, .int .i64 a1, .int .i64 a2] w fun e w' => e = .returned (.bool true) ∧ Below w.heap.size w w' := by
  obtain ⟨k, h⟩ := P a0 a1 a2 w0 w1 w2
  refine (chronobatelaw01_SatSides.calls k a0 a1 a2 true w h).mono ?_
  rintro e w' ⟨rfl, hd⟩
  exact ⟨rfl, hd⟩

end Go.Proofs.Ytdflbfgmbcgljaa.G
