-- Written by a program of this session out of the translation (wip/patch_print.py, wip/print2.sh). Lean checks it.
import Derived.Test.YtampkfchofijbaaGx0
import Derived.Test.YtampkfchofijbaaGx4
import Derived.Test.YtampkfchofijbaaGx5
namespace Go.Proofs.Ytampkfchofijbaa.G
open Go.RowKit Go.Proofs.YtampkfchofijbaaW.PrintWords Go.Proofs.YtampkfchofijbaaW.PrintLast Go.Proofs.YtampkfchofijbaaW.PrintMore
attribute [local go_sem] max2_int min2_int max_two min_two max_three min_three max_four min_four   -- for this text's walks alone
set_option linter.unusedVariables false
set_option linter.unusedSimpArgs false

/-! ### chronobatelaw02_StampParts: function 7 -/
def chronobatelaw02_StampParts.j0 : Nat → Int → Int → Bool → Option (Bool)
  | 0, _, _, _ => none
  | k + 1, x0, x1, x24 => if x24 = true then (some false) else ((stamp_Ns.f (IntKind.u64.wrap (x1))).bind fun t151 => ((chronobatelaw02_alive.f k).bind fun t152 => (if t152 = true then (if t151 ≥ 0 then (if t151 < 1000000000 then ((stamp_Ns.f (IntKind.u64.wrap ((((x0) % 4294967296) * 4294967296) + (IntKind.u64.wrap (x1))))).bind fun t153 => (some (t153 == (wrap64 ((((x0) % 4294967296) * 1000000000) + t151))))) else (some false)) else (some false)) else (some false))))
def chronobatelaw02_StampParts.f (k : Nat) (a0 : Int) (a1 : Int) : Option (Bool) := (stamp_From.f k (wrap64 ((wrap64 (a0)) * 1000000000))).bind fun t149 => (if t149 = (IntKind.u64.wrap ((IntKind.u64.wrap (wrap64 (a0))) * 4294967296)) then ((stamp_Diff.f k t149 0).bind fun t150 => (chronobatelaw02_StampParts.j0 k a0 a1 (t150 != (wrap64 ((wrap64 (a0)) * 1000000000))))) else (chronobatelaw02_StampParts.j0 k a0 a1 true))
theorem chronobatelaw02_StampParts.mono_l : ∀ k, (∀ y0 y1 y2, LeO (chronobatelaw02_StampParts.j0 k y0 y1 y2) (chronobatelaw02_StampParts.j0 (k + 1) y0 y1 y2))
  | 0 => fun _ _ _ r h => by simp [chronobatelaw02_StampParts.j0] at h
  | k + 1 => by
    have ih0 := chronobatelaw02_StampParts.mono_l k
    · intro y0 y1 y2
      unfold chronobatelaw02_StampParts.j0
      repeat' first
      | (with_reducible exact ih0 _ _ _)
      | (with_reducible exact chronobatelaw02_alive.mono _)
      | (with_reducible exact stamp_Diff.mono _ _ _)
      | (with_reducible exact stamp_From.mono _ _)
      | (with_reducible exact LeO.refl _)
      | (with_reducible exact LeO.none _)
      | (with_reducible refine LeO.ite ?_ ?_)
      | (with_reducible refine LeO.bind ?_ (fun _ => ?_))
      | exact ih0 _ _ _
      | exact chronobatelaw02_alive.mono _
      | exact stamp_Diff.mono _ _ _
      | exact stamp_From.mono _ _
      | exact LeO.none _
      | refine LeO.ite ?_ ?_
      | refine LeO.bind ?_ (fun _ => ?_)
theorem chronobatelaw02_StampParts.mono : ∀ a0 a1 k, LeO (chronobatelaw02_StampParts.f k a0 a1) (chronobatelaw02_StampParts.f (k + 1) a0 a1) := by
  intro a0 a1 k
  have ih0 := chronobatelaw02_StampParts.mono_l k
  unfold chronobatelaw02_StampParts.f
  repeat' first
      | (with_reducible exact ih0 _ _ _)
      | (with_reducible exact chronobatelaw02_alive.mono _)
      | (with_reducible exact stamp_Diff.mono _ _ _)
      | (with_reducible exact stamp_From.mono _ _)
      | (with_reducible exact LeO.refl _)
      | (with_reducible exact LeO.none _)
      | (with_reducible refine LeO.ite ?_ ?_)
      | (with_reducible refine LeO.bind ?_ (fun _ => ?_))
      | exact ih0 _ _ _
      | exact chronobatelaw02_alive.mono _
      | exact stamp_Diff.mono _ _ _
      | exact stamp_From.mono _ _
      | exact LeO.none _
      | refine LeO.ite ?_ ?_
      | refine LeO.bind ?_ (fun _ => ?_)
set_option maxHeartbeats 8000000 in
set_option maxRecDepth 100000 in
theorem chronobatelaw02_StampParts.calls (k : Nat) (a0 : Int) (a1 : Int) (r : Bool) (w : World) (h : chronobatelaw02_StampParts.f k a0 a1 = some r) :
    Calls Try.prog 7 #[.int .i32 a0, .int .u32 a1] w fun e w' => e = .returned (.bool r) ∧ Below w.heap.size w w' := by
  have HB := Aside0.mk (Below.refl w.heap.size w)
  have H : ((stamp_From.f k (wrap64 ((wrap64 (a0)) * 1000000000))).bind fun t149 => (if t149 = (IntKind.u64.wrap ((IntKind.u64.wrap (wrap64 (a0))) * 4294967296)) then ((stamp_Diff.f k t149 0).bind fun t150 => (chronobatelaw02_StampParts.j0 k a0 a1 (t150 != (wrap64 ((wrap64 (a0)) * 1000000000))))) else (chronobatelaw02_StampParts.j0 k a0 a1 true))) = some r := h
  clear h
  replace H := Option.bind_eq_some_iff.mp H
  obtain ⟨t149, A30, H⟩ := H
  replace H : (if t149 = (IntKind.u64.wrap ((IntKind.u64.wrap (wrap64 (a0))) * 4294967296)) then ((stamp_Diff.f k t149 0).bind fun t150 => (chronobatelaw02_StampParts.j0 k a0 a1 (t150 != (wrap64 ((wrap64 (a0)) * 1000000000))))) else (chronobatelaw02_StampParts.j0 k a0 a1 true)) = some r := H
  have A3 := Aside0.mk A30
  clear A30
  have HC4 := Aside0.mk H
  clear H
  go_enter Try.func7, Try.ntmps7
  go_upto_region 3 with (first | ((with_reducible refine gate_callee (f := 10) rfl ?_); refine goesL_ (some 12) rfl rfl Try.func10 (by kernel_rfl) rfl #[.int .i64 (wrap64 ((wrap64 (a0)) * 1000000000))] rfl (by (try simp only [List.map_toArray, List.map_cons, List.map_nil]); first | done | rfl | (simp only [List.length_drop, List.length_take]; rfl)) ?_; (with_reducible refine (stamp_From.calls k (wrap64 ((wrap64 (a0)) * 1000000000)) t149 _ A3.out).mono ?_); rintro e w' ⟨rfl, ⟨nd, rfl⟩⟩; refine ⟨_, rfl, ?_⟩))
  (try simp only [Act.put, List.setIfInBounds_toArray, List.set_cons_zero, List.set_cons_succ])
  go_cut [24] (fun v24 wc => ∃ (kq : Nat) (x24_3 : Bool), v24 = .bool x24_3 ∧ Aside0 (chronobatelaw02_StampParts.j0 kq a0 a1 x24_3 = some r) ∧ Aside0 (kq ≤ k) ∧ Aside0 (Below w.heap.size w wc))
  case first =>
    have H := HC4.out
    clear HC4
    by_cases c5 : t149 = (IntKind.u64.wrap ((IntKind.u64.wrap (wrap64 (a0))) * 4294967296))
    · rw [if_pos c5] at H
      have c5b0 : (t149 == (IntKind.u64.wrap ((IntKind.u64.wrap (wrap64 (a0))) * 4294967296))) = true := beq_iff_eq.mpr c5
      have c5b1 : (t149 != (IntKind.u64.wrap ((IntKind.u64.wrap (wrap64 (a0))) * 4294967296))) = false := bne_eq_false_iff_eq.mpr c5
      clear c5
      (first | rw [c5b0] | (simp only [i64_w, i32_w]; rw [c5b0]) | skip)
      replace H := Option.bind_eq_some_iff.mp H
      obtain ⟨t150, A60, H⟩ := H
      replace H : (chronobatelaw02_StampParts.j0 k a0 a1 (t150 != (wrap64 ((wrap64 (a0)) * 1000000000)))) = some r := H
      have A6 := Aside0.mk A60
      clear A60
      have H' := Aside0.mk H
      clear H
      go_wp2_with (first | (go_at_call 11; (with_reducible refine (stamp_Diff.calls k t149 0 t150 _ A6.out).mono ?_); rintro e w7 ⟨rfl, hb⟩; have n0_ := Aside0.mk (below_step (by repeat (first | (with_reducible first | exact HB.out | apply below_alloc | apply pw_below_drewN | apply below_drew1) | exact HB.out)) hb); clear HB; have HB := n0_; clear n0_; (try clear hb); (try clear hb2); (try clear hk); (try clear hi)))
      go_meet
      case rel => exact ⟨_, ((t150 != (wrap64 ((wrap64 (a0)) * 1000000000)))), (by first | rfl | (simp; done) | (simp [*]; done)), H', ⟨by first | omega | exact Nat.le_refl _⟩, ⟨by repeat (first | (with_reducible first | exact HB.out | apply below_alloc | apply pw_below_drewN | apply below_drew1) | exact HB.out)⟩⟩
    · rw [if_neg c5] at H
      have c5b0 : (t149 == (IntKind.u64.wrap ((IntKind.u64.wrap (wrap64 (a0))) * 4294967296))) = false := beq_eq_false_iff_ne.mpr c5
      have c5b1 : (t149 != (IntKind.u64.wrap ((IntKind.u64.wrap (wrap64 (a0))) * 4294967296))) = true := bne_iff_ne.mpr c5
      (first | rw [c5b0] | (simp only [i64_w, i32_w]; rw [c5b0]) | skip)
      have H' := Aside0.mk H
      clear H
      go_wp2
      go_meet
      case rel => exact ⟨_, (true), (by first | rfl | (simp; done) | (simp [*]; done)), H', ⟨by first | omega | exact Nat.le_refl _⟩, ⟨by repeat (first | (with_reducible first | exact HB.out | apply below_alloc | apply pw_below_drewN | apply below_drew1) | exact HB.out)⟩⟩
  case rest =>
    clear HC4
    try clear c1
    try clear p2
    try clear c5
    try clear c5b0
    try clear c5b1
    try clear p6
    try clear c7
    obtain ⟨kq, x24_3, rfl, HA, HJ3, HB⟩ := hcut
    cases kq with
    | zero => exact absurd HA.out (by simp [chronobatelaw02_StampParts.j0])
    | succ kj3 =>
      have H := HA.out
      clear HA
      simp only [chronobatelaw02_StampParts.j0] at H
      by_cases c8 : x24_3 = true
      · subst c8
        have H1 : (some false) = some r := by rw [if_pos rfl] at H; exact H
        clear H
        have H := H1
        clear H1
        obtain rfl := Option.some.inj H
        go_wp2
        go_ret
        exact ⟨by first | rfl | (simp [errW_none, errW_some] <;> rfl) | (simp [*, errW_none, errW_some] <;> rfl), by repeat (first | (with_reducible first | exact HB.out | apply below_alloc | apply pw_below_drewN | apply below_drew1) | exact HB.out)⟩
      · replace c8 := Bool.eq_false_iff.mpr c8
        subst c8
        have H1 : ((stamp_Ns.f (IntKind.u64.wrap (a1))).bind fun t151 => ((chronobatelaw02_alive.f kj3).bind fun t152 => (if t152 = true then (if t151 ≥ 0 then (if t151 < 1000000000 then ((stamp_Ns.f (IntKind.u64.wrap ((((a0) % 4294967296) * 4294967296) + (IntKind.u64.wrap (a1))))).bind fun t153 => (some (t153 == (wrap64 ((((a0) % 4294967296) * 1000000000) + t151))))) else (some false)) else (some false)) else (some false)))) = some r := by rw [if_neg (show ¬ (false = true) by decide)] at H; exact H
        clear H
        have H := H1
        clear H1
        replace H := Option.bind_eq_some_iff.mp H
        obtain ⟨t151, A90, H⟩ := H
        replace H : ((chronobatelaw02_alive.f kj3).bind fun t152 => (if t152 = true then (if t151 ≥ 0 then (if t151 < 1000000000 then ((stamp_Ns.f (IntKind.u64.wrap ((((a0) % 4294967296) * 4294967296) + (IntKind.u64.wrap (a1))))).bind fun t153 => (some (t153 == (wrap64 ((((a0) % 4294967296) * 1000000000) + t151))))) else (some false)) else (some false)) else (some false))) = some r := H
        have A9 := Aside0.mk A90
        clear A90
        replace H := Option.bind_eq_some_iff.mp H
        obtain ⟨t152, A100, H⟩ := H
        replace H : (if t152 = true then (if t151 ≥ 0 then (if t151 < 1000000000 then ((stamp_Ns.f (IntKind.u64.wrap ((((a0) % 4294967296) * 4294967296) + (IntKind.u64.wrap (a1))))).bind fun t153 => (some (t153 == (wrap64 ((((a0) % 4294967296) * 1000000000) + t151))))) else (some false)) else (some false)) else (some false)) = some r := H
        have A10 := Aside0.mk A100
        clear A100
        by_cases c11 : t152 = true
        · subst c11
          have H1 : (if t151 ≥ 0 then (if t151 < 1000000000 then ((stamp_Ns.f (IntKind.u64.wrap ((((a0) % 4294967296) * 4294967296) + (IntKind.u64.wrap (a1))))).bind fun t153 => (some (t153 == (wrap64 ((((a0) % 4294967296) * 1000000000) + t151))))) else (some false)) else (some false)) = some r := by rw [if_pos rfl] at H; exact H
          clear H
          have H := H1
          clear H1
          by_cases c12 : t151 ≥ 0
          · rw [if_pos c12] at H
            have c12b0 : decide (0 ≤ t151) = true := decide_eq_true c12
            clear c12
            by_cases c13 : t151 < 1000000000
            · rw [if_pos c13] at H
              have c13b0 : decide (t151 < 1000000000) = true := decide_eq_true c13
              clear c13
              replace H := Option.bind_eq_some_iff.mp H
              obtain ⟨t153, A140, H⟩ := H
              replace H : (some (t153 == (wrap64 ((((a0) % 4294967296) * 1000000000) + t151)))) = some r := H
              have A14 := Aside0.mk A140
              clear A140
              obtain rfl := Option.some.inj H
              go_wp2_with (first | ((with_reducible refine gate_callee (f := 14) rfl ?_); refine goesL_ (some 27) rfl rfl Try.func14 (by kernel_rfl) rfl #[.int .u64 (IntKind.u64.wrap (a1))] rfl (by (try simp only [List.map_toArray, List.map_cons, List.map_nil]); first | done | rfl | (simp only [List.length_drop, List.length_take]; rfl)) ?_; (with_reducible refine (stamp_Ns.calls (IntKind.u64.wrap (a1)) t151 _ A9.out).mono ?_); rintro e w' ⟨rfl, ⟨nd, rfl⟩⟩; refine ⟨_, rfl, ?_⟩) | ((with_reducible refine gate_callee (f := 12) rfl ?_); refine goesL_ (some 28) rfl rfl Try.func12 (by kernel_rfl) rfl #[] rfl (by (try simp only [List.map_toArray, List.map_cons, List.map_nil]); first | done | rfl | (simp only [List.length_drop, List.length_take]; rfl)) ?_; (with_reducible refine (chronobatelaw02_alive.calls kj3  true _ A10.out).mono ?_); rintro e w15 ⟨rfl, hb⟩; refine ⟨_, rfl, ?_⟩; have n0_ := Aside0.mk (below_step (by repeat (first | (with_reducible first | exact HB.out | apply below_alloc | apply pw_below_drewN | apply below_drew1) | exact HB.out)) hb); clear HB; have HB := n0_; clear n0_; (try clear hb); (try clear hb2); (try clear hk); (try clear hi)) | (go_at_call 14; (with_reducible refine (stamp_Ns.calls (IntKind.u64.wrap ((((a0) % 4294967296) * 4294967296) + (IntKind.u64.wrap (a1)))) t153 _ A14.out).mono ?_); rintro e w' ⟨rfl, ⟨nd, rfl⟩⟩))
              go_ret
              exact ⟨by first | rfl | (simp [errW_none, errW_some] <;> rfl) | (simp [*, errW_none, errW_some] <;> rfl), by repeat (first | (with_reducible first | exact HB.out | apply below_alloc | apply pw_below_drewN | apply below_drew1) | exact HB.out)⟩
            · rw [if_neg c13] at H
              have c13b0 : decide (t151 < 1000000000) = false := decide_eq_false c13
              clear c13
              obtain rfl := Option.some.inj H
              go_wp2_with (first | ((with_reducible refine gate_callee (f := 14) rfl ?_); refine goesL_ (some 27) rfl rfl Try.func14 (by kernel_rfl) rfl #[.int .u64 (IntKind.u64.wrap (a1))] rfl (by (try simp only [List.map_toArray, List.map_cons, List.map_nil]); first | done | rfl | (simp only [List.length_drop, List.length_take]; rfl)) ?_; (with_reducible refine (stamp_Ns.calls (IntKind.u64.wrap (a1)) t151 _ A9.out).mono ?_); rintro e w' ⟨rfl, ⟨nd, rfl⟩⟩; refine ⟨_, rfl, ?_⟩) | ((with_reducible refine gate_callee (f := 12) rfl ?_); refine goesL_ (some 28) rfl rfl Try.func12 (by kernel_rfl) rfl #[] rfl (by (try simp only [List.map_toArray, List.map_cons, List.map_nil]); first | done | rfl | (simp only [List.length_drop, List.length_take]; rfl)) ?_; (with_reducible refine (chronobatelaw02_alive.calls kj3  true _ A10.out).mono ?_); rintro e w16 ⟨rfl, hb⟩; refine ⟨_, rfl, ?_⟩; have n0_ := Aside0.mk (below_step (by repeat (first | (with_reducible first | exact HB.out | apply below_alloc | apply pw_below_drewN | apply below_drew1) | exact HB.out)) hb); clear HB; have HB := n0_; clear n0_; (try clear hb); (try clear hb2); (try clear hk); (try clear hi)))
              go_ret
              exact ⟨by first | rfl | (simp [errW_none, errW_some] <;> rfl) | (simp [*, errW_none, errW_some] <;> rfl), by repeat (first | (with_reducible first | exact HB.out | apply below_alloc | apply pw_below_drewN | apply below_drew1) | exact HB.out)⟩
          · rw [if_neg c12] at H
            have c12b0 : decide (0 ≤ t151) = false := decide_eq_false c12
            clear c12
            obtain rfl := Option.some.inj H
            go_wp2_with (first | ((with_reducible refine gate_callee (f := 14) rfl ?_); refine goesL_ (some 27) rfl rfl Try.func14 (by kernel_rfl) rfl #[.int .u64 (IntKind.u64.wrap (a1))] rfl (by (try simp only [List.map_toArray, List.map_cons, List.map_nil]); first | done | rfl | (simp only [List.length_drop, List.length_take]; rfl)) ?_; (with_reducible refine (stamp_Ns.calls (IntKind.u64.wrap (a1)) t151 _ A9.out).mono ?_); rintro e w' ⟨rfl, ⟨nd, rfl⟩⟩; refine ⟨_, rfl, ?_⟩) | ((with_reducible refine gate_callee (f := 12) rfl ?_); refine goesL_ (some 28) rfl rfl Try.func12 (by kernel_rfl) rfl #[] rfl (by (try simp only [List.map_toArray, List.map_cons, List.map_nil]); first | done | rfl | (simp only [List.length_drop, List.length_take]; rfl)) ?_; (with_reducible refine (chronobatelaw02_alive.calls kj3  true _ A10.out).mono ?_); rintro e w17 ⟨rfl, hb⟩; refine ⟨_, rfl, ?_⟩; have n0_ := Aside0.mk (below_step (by repeat (first | (with_reducible first | exact HB.out | apply below_alloc | apply pw_below_drewN | apply below_drew1) | exact HB.out)) hb); clear HB; have HB := n0_; clear n0_; (try clear hb); (try clear hb2); (try clear hk); (try clear hi)))
            go_ret
            exact ⟨by first | rfl | (simp [errW_none, errW_some] <;> rfl) | (simp [*, errW_none, errW_some] <;> rfl), by repeat (first | (with_reducible first | exact HB.out | apply below_alloc | apply pw_below_drewN | apply below_drew1) | exact HB.out)⟩
        · replace c11 := Bool.eq_false_iff.mpr c11
          subst c11
          have H1 : (some false) = some r := by rw [if_neg (show ¬ (false = true) by decide)] at H; exact H
          clear H
          have H := H1
          clear H1
          obtain rfl := Option.some.inj H
          go_wp2_with (first | ((with_reducible refine gate_callee (f := 14) rfl ?_); refine goesL_ (some 27) rfl rfl Try.func14 (by kernel_rfl) rfl #[.int .u64 (IntKind.u64.wrap (a1))] rfl (by (try simp only [List.map_toArray, List.map_cons, List.map_nil]); first | done | rfl | (simp only [List.length_drop, List.length_take]; rfl)) ?_; (with_reducible refine (stamp_Ns.calls (IntKind.u64.wrap (a1)) t151 _ A9.out).mono ?_); rintro e w' ⟨rfl, ⟨nd, rfl⟩⟩; refine ⟨_, rfl, ?_⟩) | ((with_reducible refine gate_callee (f := 12) rfl ?_); refine goesL_ (some 28) rfl rfl Try.func12 (by kernel_rfl) rfl #[] rfl (by (try simp only [List.map_toArray, List.map_cons, List.map_nil]); first | done | rfl | (simp only [List.length_drop, List.length_take]; rfl)) ?_; (with_reducible refine (chronobatelaw02_alive.calls kj3  false _ A10.out).mono ?_); rintro e w18 ⟨rfl, hb⟩; refine ⟨_, rfl, ?_⟩; have n0_ := Aside0.mk (below_step (by repeat (first | (with_reducible first | exact HB.out | apply below_alloc | apply pw_below_drewN | apply below_drew1) | exact HB.out)) hb); clear HB; have HB := n0_; clear n0_; (try clear hb); (try clear hb2); (try clear hk); (try clear hi)))
          go_ret
          exact ⟨by first | rfl | (simp [errW_none, errW_some] <;> rfl) | (simp [*, errW_none, errW_some] <;> rfl), by repeat (first | (with_reducible first | exact HB.out | apply below_alloc | apply pw_below_drewN | apply below_drew1) | exact HB.out)⟩

/-- THE ONE PURE STATEMENT of chronobatelaw02_StampParts: yours. -/
def chronobatelaw02_StampParts.Pure : Prop := ∀ (a0 : Int) (a1 : Int), (Lit.int .i32 a0).wf = true → (Lit.int .u32 a1).wf = true → ∃ k, chronobatelaw02_StampParts.f k a0 a1 = some true
theorem chronobatelaw02_StampParts.walk (P : chronobatelaw02_StampParts.Pure) (a0 : Int) (a1 : Int) (w : World) (w0 : (Lit.int .i32 a0).wf = true) (w1 : (Lit.int .u32 a1).wf = true) :
    Calls Try.prog 7 #[.int .i32 a0, .int .u32 a1] w fun e w' => e = .returned (.bool true) ∧ Below w.heap.size w w' := by
  obtain ⟨k, h⟩ := P a0 a1 w0 w1
  refine (chronobatelaw02_StampParts.calls k a0 a1 true w h).mono ?_
  rintro e w' ⟨rfl, hd⟩
  exact ⟨rfl, hd⟩

/-! ### chronobateref02_Diff: function 16 -/
def chronobateref02_Diff.f (a0 : Int) (a1 : Int) : Option (Int) := if (wrap64 (IntKind.u64.wrap (a0 - a1))) ≥ 0 then ((chronobateref02_Ns.f (IntKind.u64.wrap (wrap64 (IntKind.u64.wrap (a0 - a1))))).bind fun t154 => (some t154)) else ((chronobateref02_Ns.f (IntKind.u64.wrap ((IntKind.u64.wrap (wrap64 (-(wrap64 ((wrap64 (IntKind.u64.wrap (a0 - a1))) + 1))))) + 1))).bind fun t155 => (if (Int.tmod (IntKind.u64.wrap ((Int.tmod (IntKind.u64.wrap ((IntKind.u64.wrap (wrap64 (-(wrap64 ((wrap64 (IntKind.u64.wrap (a0 - a1))) + 1))))) + 1)) 4294967296) * 1000000000)) 4294967296) = 0 then (some (wrap64 (-t155))) else (some (wrap64 (-(wrap64 (t155 + 1)))))))
set_option maxHeartbeats 8000000 in
set_option maxRecDepth 100000 in
theorem chronobateref02_Diff.calls (a0 : Int) (a1 : Int) (r : Int) (w : World) (h : chronobateref02_Diff.f a0 a1 = some r) :
    Calls Try.prog 16 #[.int .u64 a0, .int .u64 a1] w fun e w' => e = .returned (.int .i64 r) ∧ Drawn0 w w' := by
  have H : (if (wrap64 (IntKind.u64.wrap (a0 - a1))) ≥ 0 then ((chronobateref02_Ns.f (IntKind.u64.wrap (wrap64 (IntKind.u64.wrap (a0 - a1))))).bind fun t154 => (some t154)) else ((chronobateref02_Ns.f (IntKind.u64.wrap ((IntKind.u64.wrap (wrap64 (-(wrap64 ((wrap64 (IntKind.u64.wrap (a0 - a1))) + 1))))) + 1))).bind fun t155 => (if (Int.tmod (IntKind.u64.wrap ((Int.tmod (IntKind.u64.wrap ((IntKind.u64.wrap (wrap64 (-(wrap64 ((wrap64 (IntKind.u64.wrap (a0 - a1))) + 1))))) + 1)) 4294967296) * 1000000000)) 4294967296) = 0 then (some (wrap64 (-t155))) else (some (wrap64 (-(wrap64 (t155 + 1)))))))) = some r := h
  clear h
  by_cases c3 : (wrap64 (IntKind.u64.wrap (a0 - a1))) ≥ 0
  · rw [if_pos c3] at H
    have c3b0 : decide (0 ≤ (wrap64 (IntKind.u64.wrap (a0 - a1)))) = true := decide_eq_true c3
    clear c3
    replace H := Option.bind_eq_some_iff.mp H
    obtain ⟨t154, A40, H⟩ := H
    replace H : (some t154) = some r := H
    have A4 := Aside0.mk A40
    clear A40
    obtain rfl := Option.some.inj H
    go_enter Try.func16, Try.ntmps16
    go_wp2_with (first | ((with_reducible refine gate_callee (f := 15) rfl ?_); refine goesL_ (some 16) rfl rfl Try.func15 (by kernel_rfl) rfl #[.int .u64 (IntKind.u64.wrap (wrap64 (IntKind.u64.wrap (a0 - a1))))] rfl (by (try simp only [List.map_toArray, List.map_cons, List.map_nil]); first | done | rfl | (simp only [List.length_drop, List.length_take]; rfl)) ?_; (with_reducible refine (chronobateref02_Ns.calls (IntKind.u64.wrap (wrap64 (IntKind.u64.wrap (a0 - a1)))) t154 _ A4.out).mono ?_); rintro e w' ⟨rfl, ⟨nd, rfl⟩⟩; refine ⟨_, rfl, ?_⟩))
    go_ret
    exact ⟨by first | rfl | (simp; done) | (simp [*]; done), by repeat (first | exact Drawn0.refl _ | apply Drawn0.step)⟩
  · rw [if_neg c3] at H
    have c3b0 : decide (0 ≤ (wrap64 (IntKind.u64.wrap (a0 - a1)))) = false := decide_eq_false c3
    clear c3
    replace H := Option.bind_eq_some_iff.mp H
    obtain ⟨t155, A50, H⟩ := H
    replace H : (if (Int.tmod (IntKind.u64.wrap ((Int.tmod (IntKind.u64.wrap ((IntKind.u64.wrap (wrap64 (-(wrap64 ((wrap64 (IntKind.u64.wrap (a0 - a1))) + 1))))) + 1)) 4294967296) * 1000000000)) 4294967296) = 0 then (some (wrap64 (-t155))) else (some (wrap64 (-(wrap64 (t155 + 1)))))) = some r := H
    have A5 := Aside0.mk A50
    clear A50
    by_cases c6 : (Int.tmod (IntKind.u64.wrap ((Int.tmod (IntKind.u64.wrap ((IntKind.u64.wrap (wrap64 (-(wrap64 ((wrap64 (IntKind.u64.wrap (a0 - a1))) + 1))))) + 1)) 4294967296) * 1000000000)) 4294967296) = 0
    · rw [if_pos c6] at H
      have c6b0 : ((Int.tmod (IntKind.u64.wrap ((Int.tmod (IntKind.u64.wrap ((IntKind.u64.wrap (wrap64 (-(wrap64 ((wrap64 (IntKind.u64.wrap (a0 - a1))) + 1))))) + 1)) 4294967296) * 1000000000)) 4294967296) == 0) = true := beq_iff_eq.mpr c6
      have c6b1 : ((Int.tmod (IntKind.u64.wrap ((Int.tmod (IntKind.u64.wrap ((IntKind.u64.wrap (wrap64 (-(wrap64 ((wrap64 (IntKind.u64.wrap (a0 - a1))) + 1))))) + 1)) 4294967296) * 1000000000)) 4294967296) != 0) = false := bne_eq_false_iff_eq.mpr c6
      clear c6
      obtain rfl := Option.some.inj H
      go_enter Try.func16, Try.ntmps16
      go_wp2_with (first | ((with_reducible refine gate_callee (f := 15) rfl ?_); refine goesL_ (some 23) rfl rfl Try.func15 (by kernel_rfl) rfl #[.int .u64 (IntKind.u64.wrap ((IntKind.u64.wrap (wrap64 (-(wrap64 ((wrap64 (IntKind.u64.wrap (a0 - a1))) + 1))))) + 1))] rfl (by (try simp only [List.map_toArray, List.map_cons, List.map_nil]); first | done | rfl | (simp only [List.length_drop, List.length_take]; rfl)) ?_; (with_reducible refine (chronobateref02_Ns.calls (IntKind.u64.wrap ((IntKind.u64.wrap (wrap64 (-(wrap64 ((wrap64 (IntKind.u64.wrap (a0 - a1))) + 1))))) + 1)) t155 _ A5.out).mono ?_); rintro e w' ⟨rfl, ⟨nd, rfl⟩⟩; refine ⟨_, rfl, ?_⟩))
      go_ret
      exact ⟨by first | rfl | (simp; done) | (simp [*]; done), by repeat (first | exact Drawn0.refl _ | apply Drawn0.step)⟩
    · rw [if_neg c6] at H
      have c6b0 : ((Int.tmod (IntKind.u64.wrap ((Int.tmod (IntKind.u64.wrap ((IntKind.u64.wrap (wrap64 (-(wrap64 ((wrap64 (IntKind.u64.wrap (a0 - a1))) + 1))))) + 1)) 4294967296) * 1000000000)) 4294967296) == 0) = false := beq_eq_false_iff_ne.mpr c6
      have c6b1 : ((Int.tmod (IntKind.u64.wrap ((Int.tmod (IntKind.u64.wrap ((IntKind.u64.wrap (wrap64 (-(wrap64 ((wrap64 (IntKind.u64.wrap (a0 - a1))) + 1))))) + 1)) 4294967296) * 1000000000)) 4294967296) != 0) = true := bne_iff_ne.mpr c6
      obtain rfl := Option.some.inj H
      go_enter Try.func16, Try.ntmps16
      go_wp2_with (first | ((with_reducible refine gate_callee (f := 15) rfl ?_); refine goesL_ (some 23) rfl rfl Try.func15 (by kernel_rfl) rfl #[.int .u64 (IntKind.u64.wrap ((IntKind.u64.wrap (wrap64 (-(wrap64 ((wrap64 (IntKind.u64.wrap (a0 - a1))) + 1))))) + 1))] rfl (by (try simp only [List.map_toArray, List.map_cons, List.map_nil]); first | done | rfl | (simp only [List.length_drop, List.length_take]; rfl)) ?_; (with_reducible refine (chronobateref02_Ns.calls (IntKind.u64.wrap ((IntKind.u64.wrap (wrap64 (-(wrap64 ((wrap64 (IntKind.u64.wrap (a0 - a1))) + 1))))) + 1)) t155 _ A5.out).mono ?_); rintro e w' ⟨rfl, ⟨nd, rfl⟩⟩; refine ⟨_, rfl, ?_⟩))
      go_ret
      exact ⟨by first | rfl | (simp; done) | (simp [*]; done), by repeat (first | exact Drawn0.refl _ | apply Drawn0.step)⟩

/-! ### sat_Add: function 24 -/
def sat_Add.f (a0 : Int) (a1 : Int) : Option (Int) := if (Go.bits .and .i64 (Go.bits .xor .i64 a0 (wrap64 (a0 + a1))) (Go.bits .xor .i64 a1 (wrap64 (a0 + a1)))) < 0 then ((sat_end.f a0).bind fun t156 => (some t156)) else (some (wrap64 (a0 + a1)))
set_option maxHeartbeats 8000000 in
set_option maxRecDepth 100000 in
theorem sat_Add.calls (a0 : Int) (a1 : Int) (r : Int) (w : World) (h : sat_Add.f a0 a1 = some r) :
    Calls Try.prog 24 #[.int .i64 a0, .int .i64 a1] w fun e w' => e = .returned (.int .i64 r) ∧ Drawn0 w w' := by
  have H : (if (Go.bits .and .i64 (Go.bits .xor .i64 a0 (wrap64 (a0 + a1))) (Go.bits .xor .i64 a1 (wrap64 (a0 + a1)))) < 0 then ((sat_end.f a0).bind fun t156 => (some t156)) else (some (wrap64 (a0 + a1)))) = some r := h
  clear h
  by_cases c3 : (Go.bits .and .i64 (Go.bits .xor .i64 a0 (wrap64 (a0 + a1))) (Go.bits .xor .i64 a1 (wrap64 (a0 + a1)))) < 0
  · rw [if_pos c3] at H
    have c3b0 : decide ((Go.bits .and .i64 (Go.bits .xor .i64 a0 (wrap64 (a0 + a1))) (Go.bits .xor .i64 a1 (wrap64 (a0 + a1)))) < 0) = true := decide_eq_true c3
    clear c3
    replace H := Option.bind_eq_some_iff.mp H
    obtain ⟨t156, A40, H⟩ := H
    replace H : (some t156) = some r := H
    have A4 := Aside0.mk A40
    clear A40
    obtain rfl := Option.some.inj H
    go_enter Try.func24, Try.ntmps24
    go_wp2_with (first | ((with_reducible refine gate_callee (f := 27) rfl ?_); refine goesL_ (some 18) rfl rfl Try.func27 (by kernel_rfl) rfl #[.int .i64 a0] rfl (by (try simp only [List.map_toArray, List.map_cons, List.map_nil]); first | done | rfl | (simp only [List.length_drop, List.length_take]; rfl)) ?_; (with_reducible refine (sat_end.calls a0 t156 _ A4.out).mono ?_); rintro e w' ⟨rfl, ⟨nd, rfl⟩⟩; refine ⟨_, rfl, ?_⟩))
    go_ret
    exact ⟨by first | rfl | (simp; done) | (simp [*]; done), by repeat (first | exact Drawn0.refl _ | apply Drawn0.step)⟩
  · rw [if_neg c3] at H
    have c3b0 : decide ((Go.bits .and .i64 (Go.bits .xor .i64 a0 (wrap64 (a0 + a1))) (Go.bits .xor .i64 a1 (wrap64 (a0 + a1)))) < 0) = false := decide_eq_false c3
    clear c3
    obtain rfl := Option.some.inj H
    go_enter Try.func24, Try.ntmps24
    go_wp2
    go_ret
    exact ⟨by first | rfl | (simp; done) | (simp [*]; done), by repeat (first | exact Drawn0.refl _ | apply Drawn0.step)⟩

/-! ### stamp_Near: function 17 -/
def stamp_Near.f (k : Nat) (a0 : Int) (a1 : Int) : Option (Int) := (stamp_From.f k a0).bind fun t157 => ((stamp_Diff.f k a1 t157).bind fun t158 => ((sat_Add.f a0 t158).bind fun t159 => (some t159)))
theorem stamp_Near.mono : ∀ a0 a1 k, LeO (stamp_Near.f k a0 a1) (stamp_Near.f (k + 1) a0 a1) := by
  intro a0 a1 k
  unfold stamp_Near.f
  repeat' first
      | (with_reducible exact stamp_Diff.mono _ _ _)
      | (with_reducible exact stamp_From.mono _ _)
      | (with_reducible exact LeO.refl _)
      | (with_reducible exact LeO.none _)
      | (with_reducible refine LeO.ite ?_ ?_)
      | (with_reducible refine LeO.bind ?_ (fun _ => ?_))
      | exact stamp_Diff.mono _ _ _
      | exact stamp_From.mono _ _
      | exact LeO.none _
      | refine LeO.ite ?_ ?_
      | refine LeO.bind ?_ (fun _ => ?_)
set_option maxHeartbeats 8000000 in
set_option maxRecDepth 100000 in
theorem stamp_Near.calls (k : Nat) (a0 : Int) (a1 : Int) (r : Int) (w : World) (h : stamp_Near.f k a0 a1 = some r) :
    Calls Try.prog 17 #[.int .i64 a0, .int .u64 a1] w fun e w' => e = .returned (.int .i64 r) ∧ Below w.heap.size w w' := by
  have HB := Aside0.mk (Below.refl w.heap.size w)
  have H : ((stamp_From.f k a0).bind fun t157 => ((stamp_Diff.f k a1 t157).bind fun t158 => ((sat_Add.f a0 t158).bind fun t159 => (some t159)))) = some r := h
  clear h
  replace H := Option.bind_eq_some_iff.mp H
  obtain ⟨t157, A30, H⟩ := H
  replace H : ((stamp_Diff.f k a1 t157).bind fun t158 => ((sat_Add.f a0 t158).bind fun t159 => (some t159))) = some r := H
  have A3 := Aside0.mk A30
  clear A30
  replace H := Option.bind_eq_some_iff.mp H
  obtain ⟨t158, A40, H⟩ := H
  replace H : ((sat_Add.f a0 t158).bind fun t159 => (some t159)) = some r := H
  have A4 := Aside0.mk A40
  clear A40
  replace H := Option.bind_eq_some_iff.mp H
  obtain ⟨t159, A50, H⟩ := H
  replace H : (some t159) = some r := H
  have A5 := Aside0.mk A50
  clear A50
  obtain rfl := Option.some.inj H
  go_enter Try.func17, Try.ntmps17
  go_wp2_with (first | ((with_reducible refine gate_callee (f := 10) rfl ?_); refine goesL_ (some 8) rfl rfl Try.func10 (by kernel_rfl) rfl #[.int .i64 a0] rfl (by (try simp only [List.map_toArray, List.map_cons, List.map_nil]); first | done | rfl | (simp only [List.length_drop, List.length_take]; rfl)) ?_; (with_reducible refine (stamp_From.calls k a0 t157 _ A3.out).mono ?_); rintro e w' ⟨rfl, ⟨nd, rfl⟩⟩; refine ⟨_, rfl, ?_⟩) | ((with_reducible refine gate_callee (f := 11) rfl ?_); refine goesL_ (some 9) rfl rfl Try.func11 (by kernel_rfl) rfl #[.int .u64 a1, .int .u64 t157] rfl (by (try simp only [List.map_toArray, List.map_cons, List.map_nil]); first | done | rfl | (simp only [List.length_drop, List.length_take]; rfl)) ?_; (with_reducible refine (stamp_Diff.calls k a1 t157 t158 _ A4.out).mono ?_); rintro e w6 ⟨rfl, hb⟩; refine ⟨_, rfl, ?_⟩; have n0_ := Aside0.mk (below_step (by repeat (first | (with_reducible first | exact HB.out | apply below_alloc | apply pw_below_drewN | apply below_drew1) | exact HB.out)) hb); clear HB; have HB := n0_; clear n0_; (try clear hb); (try clear hb2); (try clear hk); (try clear hi)) | ((with_reducible refine gate_callee (f := 24) rfl ?_); refine goesL_ (some 10) rfl rfl Try.func24 (by kernel_rfl) rfl #[.int .i64 a0, .int .i64 t158] rfl (by (try simp only [List.map_toArray, List.map_cons, List.map_nil]); first | done | rfl | (simp only [List.length_drop, List.length_take]; rfl)) ?_; (with_reducible refine (sat_Add.calls a0 t158 t159 _ A5.out).mono ?_); rintro e w' ⟨rfl, ⟨nd, rfl⟩⟩; refine ⟨_, rfl, ?_⟩))
  go_ret
  exact ⟨by first | rfl | (simp [errW_none, errW_some] <;> rfl) | (simp [*, errW_none, errW_some] <;> rfl), by repeat (first | (with_reducible first | exact HB.out | apply below_alloc | apply pw_below_drewN | apply below_drew1) | exact HB.out)⟩

/-! ### chronobateref01_Add: function 25 -/
def chronobateref01_Add.j0 : Nat → Int → Int → Bool → Option (Int)
  | 0, _, _, _ => none
  | k + 1, x0, x1, x12 => if x12 = true then (some 9223372036854775807) else (if x1 < 0 then (if x0 < (wrap64 ((-9223372036854775808) - x1)) then (some (-9223372036854775808)) else (some (wrap64 (x0 + x1)))) else (some (wrap64 (x0 + x1))))
def chronobateref01_Add.f (k : Nat) (a0 : Int) (a1 : Int) : Option (Int) := if a1 > 0 then (chronobateref01_Add.j0 k a0 a1 (decide (a0 > (wrap64 (9223372036854775807 - a1))))) else (chronobateref01_Add.j0 k a0 a1 false)
theorem chronobateref01_Add.mono_l : ∀ k, (∀ y0 y1 y2, LeO (chronobateref01_Add.j0 k y0 y1 y2) (chronobateref01_Add.j0 (k + 1) y0 y1 y2))
  | 0 => fun _ _ _ r h => by simp [chronobateref01_Add.j0] at h
  | k + 1 => by
    have ih0 := chronobateref01_Add.mono_l k
    · intro y0 y1 y2
      unfold chronobateref01_Add.j0
      repeat' first
      | (with_reducible exact ih0 _ _ _)
      | (with_reducible exact LeO.refl _)
      | (with_reducible exact LeO.none _)
      | (with_reducible refine LeO.ite ?_ ?_)
      | (with_reducible refine LeO.bind ?_ (fun _ => ?_))
      | exact ih0 _ _ _
      | exact LeO.none _
      | refine LeO.ite ?_ ?_
      | refine LeO.bind ?_ (fun _ => ?_)
theorem chronobateref01_Add.mono : ∀ a0 a1 k, LeO (chronobateref01_Add.f k a0 a1) (chronobateref01_Add.f (k + 1) a0 a1) := by
  intro a0 a1 k
  have ih0 := chronobateref01_Add.mono_l k
  unfold chronobateref01_Add.f
  repeat' first
      | (with_reducible exact ih0 _ _ _)
      | (with_reducible exact LeO.refl _)
      | (with_reducible exact LeO.none _)
      | (with_reducible refine LeO.ite ?_ ?_)
      | (with_reducible refine LeO.bind ?_ (fun _ => ?_))
      | exact ih0 _ _ _
      | exact LeO.none _
      | refine LeO.ite ?_ ?_
      | refine LeO.bind ?_ (fun _ => ?_)
set_option maxHeartbeats 8000000 in
set_option maxRecDepth 100000 in
theorem chronobateref01_Add.calls (k : Nat) (a0 : Int) (a1 : Int) (r : Int) (w : World) (h : chronobateref01_Add.f k a0 a1 = some r) :
    Calls Try.prog 25 #[.int .i64 a0, .int .i64 a1] w fun e w' => e = .returned (.int .i64 r) ∧ Drawn0 w w' := by
  have H : (if a1 > 0 then (chronobateref01_Add.j0 k a0 a1 (decide (a0 > (wrap64 (9223372036854775807 - a1))))) else (chronobateref01_Add.j0 k a0 a1 false)) = some r := h
  clear h
  have HC3 := Aside0.mk H
  clear H
  go_enter Try.func25, Try.ntmps25
  go_upto_region 1 with (fail)
  go_cut [12] (fun v12 wc => ∃ (kq : Nat) (x12_2 : Bool), v12 = .bool x12_2 ∧ Aside0 (chronobateref01_Add.j0 kq a0 a1 x12_2 = some r) ∧ Aside0 (kq ≤ k) ∧ Drawn0 w wc)
  case first =>
    have H := HC3.out
    clear HC3
    by_cases c4 : a1 > 0
    · rw [if_pos c4] at H
      have c4b0 : decide (0 < a1) = true := decide_eq_true c4
      clear c4
      (first | rw [c4b0] | (simp only [i64_w, i32_w]; rw [c4b0]) | skip)
      have H' := Aside0.mk H
      clear H
      go_wp2
      go_meet
      case rel => exact ⟨_, (decide (a0 > (wrap64 (9223372036854775807 - a1)))), (by first | rfl | (simp; done) | (simp [*]; done)), H', ⟨by first | omega | exact Nat.le_refl _⟩, by repeat (first | exact Drawn0.refl _ | apply Drawn0.step)⟩
    · rw [if_neg c4] at H
      have c4b0 : decide (0 < a1) = false := decide_eq_false c4
      clear c4
      (first | rw [c4b0] | (simp only [i64_w, i32_w]; rw [c4b0]) | skip)
      have H' := Aside0.mk H
      clear H
      go_wp2
      go_meet
      case rel => exact ⟨_, (false), (by first | rfl | (simp; done) | (simp [*]; done)), H', ⟨by first | omega | exact Nat.le_refl _⟩, by repeat (first | exact Drawn0.refl _ | apply Drawn0.step)⟩
  case rest =>
    clear HC3
    try clear c2
    try clear p2
    try clear c4
    try clear c4b0
    obtain ⟨kq, x12_2, rfl, HA, HJ2, ⟨mc2, rfl⟩⟩ := hcut
    cases kq with
    | zero => exact absurd HA.out (by simp [chronobateref01_Add.j0])
    | succ kj2 =>
      have H := HA.out
      clear HA
      simp only [chronobateref01_Add.j0] at H
      by_cases c5 : x12_2 = true
      · subst c5
        have H1 : (some 9223372036854775807) = some r := by rw [if_pos rfl] at H; exact H
        clear H
        have H := H1
        clear H1
        obtain rfl := Option.some.inj H
        go_wp2
        go_ret
        exact ⟨by first | rfl | (simp; done) | (simp [*]; done), by repeat (first | exact Drawn0.refl _ | apply Drawn0.step)⟩
      · replace c5 := Bool.eq_false_iff.mpr c5
        subst c5
        have H1 : (if a1 < 0 then (if a0 < (wrap64 ((-9223372036854775808) - a1)) then (some (-9223372036854775808)) else (some (wrap64 (a0 + a1)))) else (some (wrap64 (a0 + a1)))) = some r := by rw [if_neg (show ¬ (false = true) by decide)] at H; exact H
        clear H
        have H := H1
        clear H1
        by_cases c6 : a1 < 0
        · rw [if_pos c6] at H
          have c6b0 : decide (a1 < 0) = true := decide_eq_true c6
          clear c6
          by_cases c7 : a0 < (wrap64 ((-9223372036854775808) - a1))
          · rw [if_pos c7] at H
            have c7b0 : decide (a0 < (wrap64 ((-9223372036854775808) - a1))) = true := decide_eq_true c7
            clear c7
            obtain rfl := Option.some.inj H
            go_wp2
            go_ret
            exact ⟨by first | rfl | (simp; done) | (simp [*]; done), by repeat (first | exact Drawn0.refl _ | apply Drawn0.step)⟩
          · rw [if_neg c7] at H
            have c7b0 : decide (a0 < (wrap64 ((-9223372036854775808) - a1))) = false := decide_eq_false c7
            clear c7
            obtain rfl := Option.some.inj H
            go_wp2
            go_ret
            exact ⟨by first | rfl | (simp; done) | (simp [*]; done), by repeat (first | exact Drawn0.refl _ | apply Drawn0.step)⟩
        · rw [if_neg c6] at H
          have c6b0 : decide (a1 < 0) = false := decide_eq_false c6
          clear c6
          obtain rfl := Option.some.inj H
          go_wp2
          go_ret
          exact ⟨by first | rfl | (simp; done) | (simp [*]; done), by repeat (first | exact Drawn0.refl _ | apply Drawn0.step)⟩

/-! ### chronobateref02_Near: function 18 -/
def chronobateref02_Near.f (k : Nat) (a0 : Int) (a1 : Int) : Option (Int) := (chronobateref02_From.f a0).bind fun t160 => ((chronobateref02_Diff.f a1 t160).bind fun t161 => ((chronobateref01_Add.f k a0 t161).bind fun t162 => (some t162)))
theorem chronobateref02_Near.mono : ∀ a0 a1 k, LeO (chronobateref02_Near.f k a0 a1) (chronobateref02_Near.f (k + 1) a0 a1) := by
  intro a0 a1 k
  unfold chronobateref02_Near.f
  repeat' first
      | (with_reducible exact chronobateref01_Add.mono _ _ _)
      | (with_reducible exact LeO.refl _)
      | (with_reducible exact LeO.none _)
      | (with_reducible refine LeO.ite ?_ ?_)
      | (with_reducible refine LeO.bind ?_ (fun _ => ?_))
      | exact chronobateref01_Add.mono _ _ _
      | exact LeO.none _
      | refine LeO.ite ?_ ?_
      | refine LeO.bind ?_ (fun _ => ?_)
set_option maxHeartbeats 8000000 in
set_option maxRecDepth 100000 in
theorem chronobateref02_Near.calls (k : Nat) (a0 : Int) (a1 : Int) (r : Int) (w : World) (h : chronobateref02_Near.f k a0 a1 = some r) :
    Calls Try.prog 18 #[.int .i64 a0, .int .u64 a1] w fun e w' => e = .returned (.int .i64 r) ∧ Drawn0 w w' := by
  have H : ((chronobateref02_From.f a0).bind fun t160 => ((chronobateref02_Diff.f a1 t160).bind fun t161 => ((chronobateref01_Add.f k a0 t161).bind fun t162 => (some t162)))) = some r := h
  clear h
  replace H := Option.bind_eq_some_iff.mp H
  obtain ⟨t160, A30, H⟩ := H
  replace H : ((chronobateref02_Diff.f a1 t160).bind fun t161 => ((chronobateref01_Add.f k a0 t161).bind fun t162 => (some t162))) = some r := H
  have A3 := Aside0.mk A30
  clear A30
  replace H := Option.bind_eq_some_iff.mp H
  obtain ⟨t161, A40, H⟩ := H
  replace H : ((chronobateref01_Add.f k a0 t161).bind fun t162 => (some t162)) = some r := H
  have A4 := Aside0.mk A40
  clear A40
  replace H := Option.bind_eq_some_iff.mp H
  obtain ⟨t162, A50, H⟩ := H
  replace H : (some t162) = some r := H
  have A5 := Aside0.mk A50
  clear A50
  obtain rfl := Option.some.inj H
  go_enter Try.func18, Try.ntmps18
  go_wp2_with (first | ((with_reducible refine gate_callee (f := 13) rfl ?_); refine goesL_ (some 8) rfl rfl Try.func13 (by kernel_rfl) rfl #[.int .i64 a0] rfl (by (try simp only [List.map_toArray, List.map_cons, List.map_nil]); first | done | rfl | (simp only [List.length_drop, List.length_take]; rfl)) ?_; (with_reducible refine (chronobateref02_From.calls a0 t160 _ A3.out).mono ?_); rintro e w' ⟨rfl, ⟨nd, rfl⟩⟩; refine ⟨_, rfl, ?_⟩) | ((with_reducible refine gate_callee (f := 16) rfl ?_); refine goesL_ (some 9) rfl rfl Try.func16 (by kernel_rfl) rfl #[.int .u64 a1, .int .u64 t160] rfl (by (try simp only [List.map_toArray, List.map_cons, List.map_nil]); first | done | rfl | (simp only [List.length_drop, List.length_take]; rfl)) ?_; (with_reducible refine (chronobateref02_Diff.calls a1 t160 t161 _ A4.out).mono ?_); rintro e w' ⟨rfl, ⟨nd, rfl⟩⟩; refine ⟨_, rfl, ?_⟩) | ((with_reducible refine gate_callee (f := 25) rfl ?_); refine goesL_ (some 10) rfl rfl Try.func25 (by kernel_rfl) rfl #[.int .i64 a0, .int .i64 t161] rfl (by (try simp only [List.map_toArray, List.map_cons, List.map_nil]); first | done | rfl | (simp only [List.length_drop, List.length_take]; rfl)) ?_; (with_reducible refine (chronobateref01_Add.calls k a0 t161 t162 _ A5.out).mono ?_); rintro e w' ⟨rfl, ⟨nd, rfl⟩⟩; refine ⟨_, rfl, ?_⟩))
  go_ret
  exact ⟨by first | rfl | (simp; done) | (simp [*]; done), by repeat (first | exact Drawn0.refl _ | apply Drawn0.step)⟩

end Go.Proofs.Ytampkfchofijbaa.G
