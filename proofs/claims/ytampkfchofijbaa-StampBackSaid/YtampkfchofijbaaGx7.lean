-- Written by a program of this session out of the translation (wip/patch_print.py, wip/print2.sh). Lean checks it.
import Derived.Test.YtampkfchofijbaaGx0
import Derived.Test.YtampkfchofijbaaGx4
import Derived.Test.YtampkfchofijbaaGx5
import Derived.Test.YtampkfchofijbaaGx6
namespace Go.Proofs.Ytampkfchofijbaa.G
open Go.RowKit Go.Proofs.YtampkfchofijbaaW.PrintWords Go.Proofs.YtampkfchofijbaaW.PrintLast Go.Proofs.YtampkfchofijbaaW.PrintMore
attribute [local go_sem] max2_int min2_int max_two min_two max_three min_three max_four min_four   -- for this text's walks alone
set_option linter.unusedVariables false
set_option linter.unusedSimpArgs false

/-! ### chronobatelaw02_StampDiffs: function 8 -/
def chronobatelaw02_StampDiffs.f (k : Nat) (a0 : Int) (a1 : Int) (a2 : Int) : Option (Bool) := (chronobatelaw02_alive.f k).bind fun t163 => (if t163 = true then ((stamp_Diff.f k a0 a1).bind fun t164 => ((chronobateref02_Diff.f a0 a1).bind fun t165 => (if t164 = t165 then ((stamp_Near.f k a2 a0).bind fun t166 => ((chronobateref02_Near.f k a2 a0).bind fun t167 => (some (t166 == t167)))) else (some false)))) else (some false))
theorem chronobatelaw02_StampDiffs.mono : ∀ a0 a1 a2 k, LeO (chronobatelaw02_StampDiffs.f k a0 a1 a2) (chronobatelaw02_StampDiffs.f (k + 1) a0 a1 a2) := by
  intro a0 a1 a2 k
  unfold chronobatelaw02_StampDiffs.f
  repeat' first
      | (with_reducible exact chronobatelaw02_alive.mono _)
      | (with_reducible exact chronobateref02_Near.mono _ _ _)
      | (with_reducible exact stamp_Diff.mono _ _ _)
      | (with_reducible exact stamp_Near.mono _ _ _)
      | (with_reducible exact LeO.refl _)
      | (with_reducible exact LeO.none _)
      | (with_reducible refine LeO.ite ?_ ?_)
      | (with_reducible refine LeO.bind ?_ (fun _ => ?_))
      | exact chronobatelaw02_alive.mono _
      | exact chronobateref02_Near.mono _ _ _
      | exact stamp_Diff.mono _ _ _
      | exact stamp_Near.mono _ _ _
      | exact LeO.none _
      | refine LeO.ite ?_ ?_
      | refine LeO.bind ?_ (fun _ => ?_)
set_option maxHeartbeats 8000000 in
set_option maxRecDepth 100000 in
theorem chronobatelaw02_StampDiffs.calls (k : Nat) (a0 : Int) (a1 : Int) (a2 : Int) (r : Bool) (w : World) (h : chronobatelaw02_StampDiffs.f k a0 a1 a2 = some r) :
    Calls Try.prog 8 #[.int .u64 a0, .int .u64 a1, .int .i64 a2] w fun e w' => e = .returned (.bool r) ∧ Below w.heap.size w w' := by
  have HB := Aside0.mk (Below.refl w.heap.size w)
  have H : ((chronobatelaw02_alive.f k).bind fun t163 => (if t163 = true then ((stamp_Diff.f k a0 a1).bind fun t164 => ((chronobateref02_Diff.f a0 a1).bind fun t165 => (if t164 = t165 then ((stamp_Near.f k a2 a0).bind fun t166 => ((chronobateref02_Near.f k a2 a0).bind fun t167 => (some (t166 == t167)))) else (some false)))) else (some false))) = some r := h
  clear h
  replace H := Option.bind_eq_some_iff.mp H
  obtain ⟨t163, A40, H⟩ := H
  replace H : (if t163 = true then ((stamp_Diff.f k a0 a1).bind fun t164 => ((chronobateref02_Diff.f a0 a1).bind fun t165 => (if t164 = t165 then ((stamp_Near.f k a2 a0).bind fun t166 => ((chronobateref02_Near.f k a2 a0).bind fun t167 => (some (t166 == t167)))) else (some false)))) else (some false)) = some r := H
  have A4 := Aside0.mk A40
  clear A40
  by_cases c5 : t163 = true
  · subst c5
    have H1 : ((stamp_Diff.f k a0 a1).bind fun t164 => ((chronobateref02_Diff.f a0 a1).bind fun t165 => (if t164 = t165 then ((stamp_Near.f k a2 a0).bind fun t166 => ((chronobateref02_Near.f k a2 a0).bind fun t167 => (some (t166 == t167)))) else (some false)))) = some r := by rw [if_pos rfl] at H; exact H
    clear H
    have H := H1
    clear H1
    replace H := Option.bind_eq_some_iff.mp H
    obtain ⟨t164, A60, H⟩ := H
    replace H : ((chronobateref02_Diff.f a0 a1).bind fun t165 => (if t164 = t165 then ((stamp_Near.f k a2 a0).bind fun t166 => ((chronobateref02_Near.f k a2 a0).bind fun t167 => (some (t166 == t167)))) else (some false))) = some r := H
    have A6 := Aside0.mk A60
    clear A60
    replace H := Option.bind_eq_some_iff.mp H
    obtain ⟨t165, A70, H⟩ := H
    replace H : (if t164 = t165 then ((stamp_Near.f k a2 a0).bind fun t166 => ((chronobateref02_Near.f k a2 a0).bind fun t167 => (some (t166 == t167)))) else (some false)) = some r := H
    have A7 := Aside0.mk A70
    clear A70
    by_cases c8 : t164 = t165
    · rw [if_pos c8] at H
      have c8b0 : (t164 == t165) = true := beq_iff_eq.mpr c8
      have c8b1 : (t164 != t165) = false := bne_eq_false_iff_eq.mpr c8
      clear c8
      replace H := Option.bind_eq_some_iff.mp H
      obtain ⟨t166, A90, H⟩ := H
      replace H : ((chronobateref02_Near.f k a2 a0).bind fun t167 => (some (t166 == t167))) = some r := H
      have A9 := Aside0.mk A90
      clear A90
      replace H := Option.bind_eq_some_iff.mp H
      obtain ⟨t167, A100, H⟩ := H
      replace H : (some (t166 == t167)) = some r := H
      have A10 := Aside0.mk A100
      clear A100
      obtain rfl := Option.some.inj H
      go_enter Try.func8, Try.ntmps8
      go_wp2_with (first | ((with_reducible refine gate_callee (f := 12) rfl ?_); refine goesL_ (some 7) rfl rfl Try.func12 (by kernel_rfl) rfl #[] rfl (by (try simp only [List.map_toArray, List.map_cons, List.map_nil]); first | done | rfl | (simp only [List.length_drop, List.length_take]; rfl)) ?_; (with_reducible refine (chronobatelaw02_alive.calls k  true _ A4.out).mono ?_); rintro e w11 ⟨rfl, hb⟩; refine ⟨_, rfl, ?_⟩; have n0_ := Aside0.mk (below_step (by repeat (first | (with_reducible first | exact HB.out | apply below_alloc | apply pw_below_drewN | apply below_drew1) | exact HB.out)) hb); clear HB; have HB := n0_; clear n0_; (try clear hb); (try clear hb2); (try clear hk); (try clear hi)) | (go_at_call 11; (with_reducible refine (stamp_Diff.calls k a0 a1 t164 _ A6.out).mono ?_); rintro e w12 ⟨rfl, hb⟩; have n0_ := Aside0.mk (below_step (by repeat (first | (with_reducible first | exact HB.out | apply below_alloc | apply pw_below_drewN | apply below_drew1) | exact HB.out)) hb); clear HB; have HB := n0_; clear n0_; (try clear hb); (try clear hb2); (try clear hk); (try clear hi)) | (go_at_call 16; (with_reducible refine (chronobateref02_Diff.calls a0 a1 t165 _ A7.out).mono ?_); rintro e w' ⟨rfl, ⟨nd, rfl⟩⟩) | (go_at_call 17; (with_reducible refine (stamp_Near.calls k a2 a0 t166 _ A9.out).mono ?_); rintro e w13 ⟨rfl, hb⟩; have n0_ := Aside0.mk (below_step (by repeat (first | (with_reducible first | exact HB.out | apply below_alloc | apply pw_below_drewN | apply below_drew1) | exact HB.out)) hb); clear HB; have HB := n0_; clear n0_; (try clear hb); (try clear hb2); (try clear hk); (try clear hi)) | (go_at_call 18; (with_reducible refine (chronobateref02_Near.calls k a2 a0 t167 _ A10.out).mono ?_); rintro e w' ⟨rfl, ⟨nd, rfl⟩⟩))
      go_ret
      exact ⟨by first | rfl | (simp [errW_none, errW_some] <;> rfl) | (simp [*, errW_none, errW_some] <;> rfl), by repeat (first | (with_reducible first | exact HB.out | apply below_alloc | apply pw_below_drewN | apply below_drew1) | exact HB.out)⟩
    · rw [if_neg c8] at H
      have c8b0 : (t164 == t165) = false := beq_eq_false_iff_ne.mpr c8
      have c8b1 : (t164 != t165) = true := bne_iff_ne.mpr c8
      obtain rfl := Option.some.inj H
      go_enter Try.func8, Try.ntmps8
      go_wp2_with (first | ((with_reducible refine gate_callee (f := 12) rfl ?_); refine goesL_ (some 7) rfl rfl Try.func12 (by kernel_rfl) rfl #[] rfl (by (try simp only [List.map_toArray, List.map_cons, List.map_nil]); first | done | rfl | (simp only [List.length_drop, List.length_take]; rfl)) ?_; (with_reducible refine (chronobatelaw02_alive.calls k  true _ A4.out).mono ?_); rintro e w14 ⟨rfl, hb⟩; refine ⟨_, rfl, ?_⟩; have n0_ := Aside0.mk (below_step (by repeat (first | (with_reducible first | exact HB.out | apply below_alloc | apply pw_below_drewN | apply below_drew1) | exact HB.out)) hb); clear HB; have HB := n0_; clear n0_; (try clear hb); (try clear hb2); (try clear hk); (try clear hi)) | (go_at_call 11; (with_reducible refine (stamp_Diff.calls k a0 a1 t164 _ A6.out).mono ?_); rintro e w15 ⟨rfl, hb⟩; have n0_ := Aside0.mk (below_step (by repeat (first | (with_reducible first | exact HB.out | apply below_alloc | apply pw_below_drewN | apply below_drew1) | exact HB.out)) hb); clear HB; have HB := n0_; clear n0_; (try clear hb); (try clear hb2); (try clear hk); (try clear hi)) | (go_at_call 16; (with_reducible refine (chronobateref02_Diff.calls a0 a1 t165 _ A7.out).mono ?_); rintro e w' ⟨rfl, ⟨nd, rfl⟩⟩))
      go_ret
      exact ⟨by first | rfl | (simp [errW_none, errW_some] <;> rfl) | (simp [*, errW_none, errW_some] <;> rfl), by repeat (first | (with_reducible first | exact HB.out | apply below_alloc | apply pw_below_drewN | apply below_drew1) | exact HB.out)⟩
  · replace c5 := Bool.eq_false_iff.mpr c5
    subst c5
    have H1 : (some false) = some r := by rw [if_neg (show ¬ (false = true) by decide)] at H; exact H
    clear H
    have H := H1
    clear H1
    obtain rfl := Option.some.inj H
    go_enter Try.func8, Try.ntmps8
    go_wp2_with (first | ((with_reducible refine gate_callee (f := 12) rfl ?_); refine goesL_ (some 7) rfl rfl Try.func12 (by kernel_rfl) rfl #[] rfl (by (try simp only [List.map_toArray, List.map_cons, List.map_nil]); first | done | rfl | (simp only [List.length_drop, List.length_take]; rfl)) ?_; (with_reducible refine (chronobatelaw02_alive.calls k  false _ A4.out).mono ?_); rintro e w16 ⟨rfl, hb⟩; refine ⟨_, rfl, ?_⟩; have n0_ := Aside0.mk (below_step (by repeat (first | (with_reducible first | exact HB.out | apply below_alloc | apply pw_below_drewN | apply below_drew1) | exact HB.out)) hb); clear HB; have HB := n0_; clear n0_; (try clear hb); (try clear hb2); (try clear hk); (try clear hi)))
    go_ret
    exact ⟨by first | rfl | (simp [errW_none, errW_some] <;> rfl) | (simp [*, errW_none, errW_some] <;> rfl), by repeat (first | (with_reducible first | exact HB.out | apply below_alloc | apply pw_below_drewN | apply below_drew1) | exact HB.out)⟩

/-- THE ONE PURE STATEMENT of chronobatelaw02_StampDiffs: yours. -/
def chronobatelaw02_StampDiffs.Pure : Prop := ∀ (a0 : Int) (a1 : Int) (a2 : Int), (Lit.int .u64 a0).wf = true → (Lit.int .u64 a1).wf = true → (Lit.int .i64 a2).wf = true → ∃ k, chronobatelaw02_StampDiffs.f k a0 a1 a2 = some true
theorem chronobatelaw02_StampDiffs.walk (P : chronobatelaw02_StampDiffs.Pure) (a0 : Int) (a1 : Int) (a2 : Int) (w : World) (w0 : (Lit.int .u64 a0).wf = true) (w1 : (Lit.int .u64 a1).wf = true) (w2 : (Lit.int .i64 a2).wf = true) :
    Calls Try.prog 8 #[.int .u64 a0, .int .u64 a1, .int .i64 a2] w fun e w' => e = .returned (.bool true) ∧ Below w.heap.size w w' := by
  obtain ⟨k, h⟩ := P a0 a1 a2 w0 w1 w2
  refine (chronobatelaw02_StampDiffs.calls k a0 a1 a2 true w h).mono ?_
  rintro e w' ⟨rfl, hd⟩
  exact ⟨rfl, hd⟩

/-! ### chronobatelaw02_near: function 19 -/
def chronobatelaw02_near.f (a0 : Int) (a1 : Int) (a2 : Int) : Option (Bool) := if a0 ≥ (wrap64 (a1 - a2)) then (some (decide (a0 ≤ (wrap64 (a1 + a2))))) else (some false)
set_option maxHeartbeats 8000000 in
set_option maxRecDepth 100000 in
theorem chronobatelaw02_near.calls (a0 : Int) (a1 : Int) (a2 : Int) (r : Bool) (w : World) (h : chronobatelaw02_near.f a0 a1 a2 = some r) :
    Calls Try.prog 19 #[.int .i64 a0, .int .i64 a1, .int .i64 a2] w fun e w' => e = .returned (.bool r) ∧ Drawn0 w w' := by
  have H : (if a0 ≥ (wrap64 (a1 - a2)) then (some (decide (a0 ≤ (wrap64 (a1 + a2))))) else (some false)) = some r := h
  clear h
  by_cases c4 : a0 ≥ (wrap64 (a1 - a2))
  · rw [if_pos c4] at H
    have c4b0 : decide ((wrap64 (a1 - a2)) ≤ a0) = true := decide_eq_true c4
    clear c4
    obtain rfl := Option.some.inj H
    go_enter Try.func19, Try.ntmps19
    go_wp2
    go_ret
    exact ⟨by first | rfl | (simp; done) | (simp [*]; done), by repeat (first | exact Drawn0.refl _ | apply Drawn0.step)⟩
  · rw [if_neg c4] at H
    have c4b0 : decide ((wrap64 (a1 - a2)) ≤ a0) = false := decide_eq_false c4
    clear c4
    obtain rfl := Option.some.inj H
    go_enter Try.func19, Try.ntmps19
    go_wp2
    go_ret
    exact ⟨by first | rfl | (simp; done) | (simp [*]; done), by repeat (first | exact Drawn0.refl _ | apply Drawn0.step)⟩

/-! ### chronobatelaw02_StampBack: function 9 -/
def chronobatelaw02_StampBack.j0 : Nat → Int → Int → Bool → Option (Bool)
  | 0, _, _, _ => none
  | k + 1, x1, x2, x25 => if x25 = true then (some false) else ((chronobatelaw02_alive.f k).bind fun t170 => (if t170 = true then ((stamp_From.f k (wrap64 ((Int.tmod x1 2305843009213693952) + (Int.tmod x2 2147483648000000000)))).bind fun t171 => ((stamp_From.f k (Int.tmod x1 2305843009213693952)).bind fun t172 => ((stamp_Diff.f k t171 t172).bind fun t173 => ((chronobatelaw02_near.f t173 (wrap64 ((wrap64 ((Int.tmod x1 2305843009213693952) + (Int.tmod x2 2147483648000000000))) - (Int.tmod x1 2305843009213693952))) 2).bind fun t174 => (if t174 = true then ((stamp_Near.f k (Int.tmod x1 2305843009213693952) t171).bind fun t175 => ((chronobatelaw02_near.f t175 (wrap64 ((Int.tmod x1 2305843009213693952) + (Int.tmod x2 2147483648000000000))) 2).bind fun t176 => (some t176))) else (some false)))))) else (some false)))
def chronobatelaw02_StampBack.f (k : Nat) (a0 : Int) (a1 : Int) (a2 : Int) : Option (Bool) := (stamp_From.f k (wrap64 (Int.tmod (IntKind.u64.wrap (a0)) 4294967296000000000))).bind fun t168 => ((stamp_Ns.f t168).bind fun t169 => (if t169 = (wrap64 (Int.tmod (IntKind.u64.wrap (a0)) 4294967296000000000)) then (chronobatelaw02_StampBack.j0 k a1 a2 false) else (chronobatelaw02_StampBack.j0 k a1 a2 (t169 != (wrap64 ((wrap64 (Int.tmod (IntKind.u64.wrap (a0)) 4294967296000000000)) - 1))))))
theorem chronobatelaw02_StampBack.mono_l : ∀ k, (∀ y0 y1 y2, LeO (chronobatelaw02_StampBack.j0 k y0 y1 y2) (chronobatelaw02_StampBack.j0 (k + 1) y0 y1 y2))
  | 0 => fun _ _ _ r h => by simp [chronobatelaw02_StampBack.j0] at h
  | k + 1 => by
    have ih0 := chronobatelaw02_StampBack.mono_l k
    · intro y0 y1 y2
      unfold chronobatelaw02_StampBack.j0
      repeat' first
      | (with_reducible exact ih0 _ _ _)
      | (with_reducible exact chronobatelaw02_alive.mono _)
      | (with_reducible exact stamp_Diff.mono _ _ _)
      | (with_reducible exact stamp_From.mono _ _)
      | (with_reducible exact stamp_Near.mono _ _ _)
      | (with_reducible exact LeO.refl _)
      | (with_reducible exact LeO.none _)
      | (with_reducible refine LeO.ite ?_ ?_)
      | (with_reducible refine LeO.bind ?_ (fun _ => ?_))
      | exact ih0 _ _ _
      | exact chronobatelaw02_alive.mono _
      | exact stamp_Diff.mono _ _ _
      | exact stamp_From.mono _ _
      | exact stamp_Near.mono _ _ _
      | exact LeO.none _
      | refine LeO.ite ?_ ?_
      | refine LeO.bind ?_ (fun _ => ?_)
theorem chronobatelaw02_StampBack.mono : ∀ a0 a1 a2 k, LeO (chronobatelaw02_StampBack.f k a0 a1 a2) (chronobatelaw02_StampBack.f (k + 1) a0 a1 a2) := by
  intro a0 a1 a2 k
  have ih0 := chronobatelaw02_StampBack.mono_l k
  unfold chronobatelaw02_StampBack.f
  repeat' first
      | (with_reducible exact ih0 _ _ _)
      | (with_reducible exact chronobatelaw02_alive.mono _)
      | (with_reducible exact stamp_Diff.mono _ _ _)
      | (with_reducible exact stamp_From.mono _ _)
      | (with_reducible exact stamp_Near.mono _ _ _)
      | (with_reducible exact LeO.refl _)
      | (with_reducible exact LeO.none _)
      | (with_reducible refine LeO.ite ?_ ?_)
      | (with_reducible refine LeO.bind ?_ (fun _ => ?_))
      | exact ih0 _ _ _
      | exact chronobatelaw02_alive.mono _
      | exact stamp_Diff.mono _ _ _
      | exact stamp_From.mono _ _
      | exact stamp_Near.mono _ _ _
      | exact LeO.none _
      | refine LeO.ite ?_ ?_
      | refine LeO.bind ?_ (fun _ => ?_)
set_option maxHeartbeats 8000000 in
set_option maxRecDepth 100000 in
theorem chronobatelaw02_StampBack.calls (k : Nat) (a0 : Int) (a1 : Int) (a2 : Int) (r : Bool) (w : World) (h : chronobatelaw02_StampBack.f k a0 a1 a2 = some r) :
    Calls Try.prog 9 #[.int .i64 a0, .int .i64 a1, .int .i64 a2] w fun e w' => e = .returned (.bool r) ∧ Below w.heap.size w w' := by
  have HB := Aside0.mk (Below.refl w.heap.size w)
  have H : ((stamp_From.f k (wrap64 (Int.tmod (IntKind.u64.wrap (a0)) 4294967296000000000))).bind fun t168 => ((stamp_Ns.f t168).bind fun t169 => (if t169 = (wrap64 (Int.tmod (IntKind.u64.wrap (a0)) 4294967296000000000)) then (chronobatelaw02_StampBack.j0 k a1 a2 false) else (chronobatelaw02_StampBack.j0 k a1 a2 (t169 != (wrap64 ((wrap64 (Int.tmod (IntKind.u64.wrap (a0)) 4294967296000000000)) - 1))))))) = some r := h
  clear h
  replace H := Option.bind_eq_some_iff.mp H
  obtain ⟨t168, A40, H⟩ := H
  replace H : ((stamp_Ns.f t168).bind fun t169 => (if t169 = (wrap64 (Int.tmod (IntKind.u64.wrap (a0)) 4294967296000000000)) then (chronobatelaw02_StampBack.j0 k a1 a2 false) else (chronobatelaw02_StampBack.j0 k a1 a2 (t169 != (wrap64 ((wrap64 (Int.tmod (IntKind.u64.wrap (a0)) 4294967296000000000)) - 1)))))) = some r := H
  have A4 := Aside0.mk A40
  clear A40
  replace H := Option.bind_eq_some_iff.mp H
  obtain ⟨t169, A50, H⟩ := H
  replace H : (if t169 = (wrap64 (Int.tmod (IntKind.u64.wrap (a0)) 4294967296000000000)) then (chronobatelaw02_StampBack.j0 k a1 a2 false) else (chronobatelaw02_StampBack.j0 k a1 a2 (t169 != (wrap64 ((wrap64 (Int.tmod (IntKind.u64.wrap (a0)) 4294967296000000000)) - 1))))) = some r := H
  have A5 := Aside0.mk A50
  clear A50
  have HC6 := Aside0.mk H
  clear H
  go_enter Try.func9, Try.ntmps9
  go_upto_region 3 with (first | ((with_reducible refine gate_callee (f := 10) rfl ?_); refine goesL_ (some 15) rfl rfl Try.func10 (by kernel_rfl) rfl #[.int .i64 (wrap64 (Int.tmod (IntKind.u64.wrap (a0)) 4294967296000000000))] rfl (by (try simp only [List.map_toArray, List.map_cons, List.map_nil]); first | done | rfl | (simp only [List.length_drop, List.length_take]; rfl)) ?_; (with_reducible refine (stamp_From.calls k (wrap64 (Int.tmod (IntKind.u64.wrap (a0)) 4294967296000000000)) t168 _ A4.out).mono ?_); rintro e w' ⟨rfl, ⟨nd, rfl⟩⟩; refine ⟨_, rfl, ?_⟩) | ((with_reducible refine gate_callee (f := 14) rfl ?_); refine goesL_ (some 16) rfl rfl Try.func14 (by kernel_rfl) rfl #[.int .u64 t168] rfl (by (try simp only [List.map_toArray, List.map_cons, List.map_nil]); first | done | rfl | (simp only [List.length_drop, List.length_take]; rfl)) ?_; (with_reducible refine (stamp_Ns.calls t168 t169 _ A5.out).mono ?_); rintro e w' ⟨rfl, ⟨nd, rfl⟩⟩; refine ⟨_, rfl, ?_⟩))
  (try simp only [Act.put, List.setIfInBounds_toArray, List.set_cons_zero, List.set_cons_succ])
  go_cut [25] (fun v25 wc => ∃ (kq : Nat) (x25_5 : Bool), v25 = .bool x25_5 ∧ Aside0 (chronobatelaw02_StampBack.j0 kq a1 a2 x25_5 = some r) ∧ Aside0 (kq ≤ k) ∧ Aside0 (Below w.heap.size w wc))
  case first =>
    have H := HC6.out
    clear HC6
    by_cases c7 : t169 = (wrap64 (Int.tmod (IntKind.u64.wrap (a0)) 4294967296000000000))
    · rw [if_pos c7] at H
      have c7b0 : (t169 == (wrap64 (Int.tmod (IntKind.u64.wrap (a0)) 4294967296000000000))) = true := beq_iff_eq.mpr c7
      have c7b1 : (t169 != (wrap64 (Int.tmod (IntKind.u64.wrap (a0)) 4294967296000000000))) = false := bne_eq_false_iff_eq.mpr c7
      clear c7
      (first | rw [c7b0] | (simp only [i64_w, i32_w]; rw [c7b0]) | skip)
      have H' := Aside0.mk H
      clear H
      go_wp2
      go_meet
      case rel => exact ⟨_, (false), (by first | rfl | (simp; done) | (simp [*]; done)), H', ⟨by first | omega | exact Nat.le_refl _⟩, ⟨by repeat (first | (with_reducible first | exact HB.out | apply below_alloc | apply pw_below_drewN | apply below_drew1) | exact HB.out)⟩⟩
    · rw [if_neg c7] at H
      have c7b0 : (t169 == (wrap64 (Int.tmod (IntKind.u64.wrap (a0)) 4294967296000000000))) = false := beq_eq_false_iff_ne.mpr c7
      have c7b1 : (t169 != (wrap64 (Int.tmod (IntKind.u64.wrap (a0)) 4294967296000000000))) = true := bne_iff_ne.mpr c7
      (first | rw [c7b0] | (simp only [i64_w, i32_w]; rw [c7b0]) | skip)
      have H' := Aside0.mk H
      clear H
      go_wp2
      go_meet
      case rel => exact ⟨_, ((t169 != (wrap64 ((wrap64 (Int.tmod (IntKind.u64.wrap (a0)) 4294967296000000000)) - 1)))), (by first | rfl | (simp; done) | (simp [*]; done)), H', ⟨by first | omega | exact Nat.le_refl _⟩, ⟨by repeat (first | (with_reducible first | exact HB.out | apply below_alloc | apply pw_below_drewN | apply below_drew1) | exact HB.out)⟩⟩
  case rest =>
    clear HC6
    try clear c1
    try clear p2
    try clear p6
    try clear c7
    try clear c7b0
    try clear c7b1
    obtain ⟨kq, x25_5, rfl, HA, HJ5, HB⟩ := hcut
    cases kq with
    | zero => exact absurd HA.out (by simp [chronobatelaw02_StampBack.j0])
    | succ kj5 =>
      have H := HA.out
      clear HA
      simp only [chronobatelaw02_StampBack.j0] at H
      by_cases c8 : x25_5 = true
      · subst c8
        have H1 : (some false) = some r := by rw [if_pos rfl] at H; exact H
        clear H
        have H := H1
        clear H1
        obtain rfl := Option.some.inj H
        go_wp2
        go_ret
        exact ⟨by first | rfl | (simp [errW_none, errW_some] <;> rfl) | (simp [*, errW_none, errW_some] <;> rfl), by repeat (first | (with_reducible first | exact HB.out | apply below_alloc | apply pw_below_drewN | apply below_drew1) | exact HB.out)⟩
      · replace c8 := Bool.eq_false_iff.mpr c8
        subst c8
        have H1 : ((chronobatelaw02_alive.f kj5).bind fun t170 => (if t170 = true then ((stamp_From.f kj5 (wrap64 ((Int.tmod a1 2305843009213693952) + (Int.tmod a2 2147483648000000000)))).bind fun t171 => ((stamp_From.f kj5 (Int.tmod a1 2305843009213693952)).bind fun t172 => ((stamp_Diff.f kj5 t171 t172).bind fun t173 => ((chronobatelaw02_near.f t173 (wrap64 ((wrap64 ((Int.tmod a1 2305843009213693952) + (Int.tmod a2 2147483648000000000))) - (Int.tmod a1 2305843009213693952))) 2).bind fun t174 => (if t174 = true then ((stamp_Near.f kj5 (Int.tmod a1 2305843009213693952) t171).bind fun t175 => ((chronobatelaw02_near.f t175 (wrap64 ((Int.tmod a1 2305843009213693952) + (Int.tmod a2 2147483648000000000))) 2).bind fun t176 => (some t176))) else (some false)))))) else (some false))) = some r := by rw [if_neg (show ¬ (false = true) by decide)] at H; exact H
        clear H
        have H := H1
        clear H1
        replace H := Option.bind_eq_some_iff.mp H
        obtain ⟨t170, A90, H⟩ := H
        replace H : (if t170 = true then ((stamp_From.f kj5 (wrap64 ((Int.tmod a1 2305843009213693952) + (Int.tmod a2 2147483648000000000)))).bind fun t171 => ((stamp_From.f kj5 (Int.tmod a1 2305843009213693952)).bind fun t172 => ((stamp_Diff.f kj5 t171 t172).bind fun t173 => ((chronobatelaw02_near.f t173 (wrap64 ((wrap64 ((Int.tmod a1 2305843009213693952) + (Int.tmod a2 2147483648000000000))) - (Int.tmod a1 2305843009213693952))) 2).bind fun t174 => (if t174 = true then ((stamp_Near.f kj5 (Int.tmod a1 2305843009213693952) t171).bind fun t175 => ((chronobatelaw02_near.f t175 (wrap64 ((Int.tmod a1 2305843009213693952) + (Int.tmod a2 2147483648000000000))) 2).bind fun t176 => (some t176))) else (some false)))))) else (some false)) = some r := H
        have A9 := Aside0.mk A90
        clear A90
        by_cases c10 : t170 = true
        · subst c10
          have H1 : ((stamp_From.f kj5 (wrap64 ((Int.tmod a1 2305843009213693952) + (Int.tmod a2 2147483648000000000)))).bind fun t171 => ((stamp_From.f kj5 (Int.tmod a1 2305843009213693952)).bind fun t172 => ((stamp_Diff.f kj5 t171 t172).bind fun t173 => ((chronobatelaw02_near.f t173 (wrap64 ((wrap64 ((Int.tmod a1 2305843009213693952) + (Int.tmod a2 2147483648000000000))) - (Int.tmod a1 2305843009213693952))) 2).bind fun t174 => (if t174 = true then ((stamp_Near.f kj5 (Int.tmod a1 2305843009213693952) t171).bind fun t175 => ((chronobatelaw02_near.f t175 (wrap64 ((Int.tmod a1 2305843009213693952) + (Int.tmod a2 2147483648000000000))) 2).bind fun t176 => (some t176))) else (some false)))))) = some r := by rw [if_pos rfl] at H; exact H
          clear H
          have H := H1
          clear H1
          replace H := Option.bind_eq_some_iff.mp H
          obtain ⟨t171, A110, H⟩ := H
          replace H : ((stamp_From.f kj5 (Int.tmod a1 2305843009213693952)).bind fun t172 => ((stamp_Diff.f kj5 t171 t172).bind fun t173 => ((chronobatelaw02_near.f t173 (wrap64 ((wrap64 ((Int.tmod a1 2305843009213693952) + (Int.tmod a2 2147483648000000000))) - (Int.tmod a1 2305843009213693952))) 2).bind fun t174 => (if t174 = true then ((stamp_Near.f kj5 (Int.tmod a1 2305843009213693952) t171).bind fun t175 => ((chronobatelaw02_near.f t175 (wrap64 ((Int.tmod a1 2305843009213693952) + (Int.tmod a2 2147483648000000000))) 2).bind fun t176 => (some t176))) else (some false))))) = some r := H
          have A11 := Aside0.mk A110
          clear A110
          replace H := Option.bind_eq_some_iff.mp H
          obtain ⟨t172, A120, H⟩ := H
          replace H : ((stamp_Diff.f kj5 t171 t172).bind fun t173 => ((chronobatelaw02_near.f t173 (wrap64 ((wrap64 ((Int.tmod a1 2305843009213693952) + (Int.tmod a2 2147483648000000000))) - (Int.tmod a1 2305843009213693952))) 2).bind fun t174 => (if t174 = true then ((stamp_Near.f kj5 (Int.tmod a1 2305843009213693952) t171).bind fun t175 => ((chronobatelaw02_near.f t175 (wrap64 ((Int.tmod a1 2305843009213693952) + (Int.tmod a2 2147483648000000000))) 2).bind fun t176 => (some t176))) else (some false)))) = some r := H
          have A12 := Aside0.mk A120
          clear A120
          replace H := Option.bind_eq_some_iff.mp H
          obtain ⟨t173, A130, H⟩ := H
          replace H : ((chronobatelaw02_near.f t173 (wrap64 ((wrap64 ((Int.tmod a1 2305843009213693952) + (Int.tmod a2 2147483648000000000))) - (Int.tmod a1 2305843009213693952))) 2).bind fun t174 => (if t174 = true then ((stamp_Near.f kj5 (Int.tmod a1 2305843009213693952) t171).bind fun t175 => ((chronobatelaw02_near.f t175 (wrap64 ((Int.tmod a1 2305843009213693952) + (Int.tmod a2 2147483648000000000))) 2).bind fun t176 => (some t176))) else (some false))) = some r := H
          have A13 := Aside0.mk A130
          clear A130
          replace H := Option.bind_eq_some_iff.mp H
          obtain ⟨t174, A140, H⟩ := H
          replace H : (if t174 = true then ((stamp_Near.f kj5 (Int.tmod a1 2305843009213693952) t171).bind fun t175 => ((chronobatelaw02_near.f t175 (wrap64 ((Int.tmod a1 2305843009213693952) + (Int.tmod a2 2147483648000000000))) 2).bind fun t176 => (some t176))) else (some false)) = some r := H
          have A14 := Aside0.mk A140
          clear A140
          by_cases c15 : t174 = true
          · subst c15
            have H1 : ((stamp_Near.f kj5 (Int.tmod a1 2305843009213693952) t171).bind fun t175 => ((chronobatelaw02_near.f t175 (wrap64 ((Int.tmod a1 2305843009213693952) + (Int.tmod a2 2147483648000000000))) 2).bind fun t176 => (some t176))) = some r := by rw [if_pos rfl] at H; exact H
            clear H
            have H := H1
            clear H1
            replace H := Option.bind_eq_some_iff.mp H
            obtain ⟨t175, A160, H⟩ := H
            replace H : ((chronobatelaw02_near.f t175 (wrap64 ((Int.tmod a1 2305843009213693952) + (Int.tmod a2 2147483648000000000))) 2).bind fun t176 => (some t176)) = some r := H
            have A16 := Aside0.mk A160
            clear A160
            replace H := Option.bind_eq_some_iff.mp H
            obtain ⟨t176, A170, H⟩ := H
            replace H : (some t176) = some r := H
            have A17 := Aside0.mk A170
            clear A170
            obtain rfl := Option.some.inj H
            go_wp2_with (first | ((with_reducible refine gate_callee (f := 12) rfl ?_); refine goesL_ (some 32) rfl rfl Try.func12 (by kernel_rfl) rfl #[] rfl (by (try simp only [List.map_toArray, List.map_cons, List.map_nil]); first | done | rfl | (simp only [List.length_drop, List.length_take]; rfl)) ?_; (with_reducible refine (chronobatelaw02_alive.calls kj5  true _ A9.out).mono ?_); rintro e w18 ⟨rfl, hb⟩; refine ⟨_, rfl, ?_⟩; have n0_ := Aside0.mk (below_step (by repeat (first | (with_reducible first | exact HB.out | apply below_alloc | apply pw_below_drewN | apply below_drew1) | exact HB.out)) hb); clear HB; have HB := n0_; clear n0_; (try clear hb); (try clear hb2); (try clear hk); (try clear hi)) | (go_at_call 10; (with_reducible refine (stamp_From.calls kj5 (wrap64 ((Int.tmod a1 2305843009213693952) + (Int.tmod a2 2147483648000000000))) t171 _ A11.out).mono ?_); rintro e w' ⟨rfl, ⟨nd, rfl⟩⟩) | (go_at_call 10; (with_reducible refine (stamp_From.calls kj5 (Int.tmod a1 2305843009213693952) t172 _ A12.out).mono ?_); rintro e w' ⟨rfl, ⟨nd, rfl⟩⟩) | (go_at_call 11; (with_reducible refine (stamp_Diff.calls kj5 t171 t172 t173 _ A13.out).mono ?_); rintro e w19 ⟨rfl, hb⟩; have n0_ := Aside0.mk (below_step (by repeat (first | (with_reducible first | exact HB.out | apply below_alloc | apply pw_below_drewN | apply below_drew1) | exact HB.out)) hb); clear HB; have HB := n0_; clear n0_; (try clear hb); (try clear hb2); (try clear hk); (try clear hi)) | (go_at_call 19; (with_reducible refine (chronobatelaw02_near.calls t173 (wrap64 ((wrap64 ((Int.tmod a1 2305843009213693952) + (Int.tmod a2 2147483648000000000))) - (Int.tmod a1 2305843009213693952))) 2 true _ A14.out).mono ?_); rintro e w' ⟨rfl, ⟨nd, rfl⟩⟩) | (go_at_call 17; (with_reducible refine (stamp_Near.calls kj5 (Int.tmod a1 2305843009213693952) t171 t175 _ A16.out).mono ?_); rintro e w20 ⟨rfl, hb⟩; have n0_ := Aside0.mk (below_step (by repeat (first | (with_reducible first | exact HB.out | apply below_alloc | apply pw_below_drewN | apply below_drew1) | exact HB.out)) hb); clear HB; have HB := n0_; clear n0_; (try clear hb); (try clear hb2); (try clear hk); (try clear hi)) | (go_at_call 19; (with_reducible refine (chronobatelaw02_near.calls t175 (wrap64 ((Int.tmod a1 2305843009213693952) + (Int.tmod a2 2147483648000000000))) 2 t176 _ A17.out).mono ?_); rintro e w' ⟨rfl, ⟨nd, rfl⟩⟩))
            go_ret
            exact ⟨by first | rfl | (simp [errW_none, errW_some] <;> rfl) | (simp [*, errW_none, errW_some] <;> rfl), by repeat (first | (with_reducible first | exact HB.out | apply below_alloc | apply pw_below_drewN | apply below_drew1) | exact HB.out)⟩
          · replace c15 := Bool.eq_false_iff.mpr c15
            subst c15
            have H1 : (some false) = some r := by rw [if_neg (show ¬ (false = true) by decide)] at H; exact H
            clear H
            have H := H1
            clear H1
            obtain rfl := Option.some.inj H
            go_wp2_with (first | ((with_reducible refine gate_callee (f := 12) rfl ?_); refine goesL_ (some 32) rfl rfl Try.func12 (by kernel_rfl) rfl #[] rfl (by (try simp only [List.map_toArray, List.map_cons, List.map_nil]); first | done | rfl | (simp only [List.length_drop, List.length_take]; rfl)) ?_; (with_reducible refine (chronobatelaw02_alive.calls kj5  true _ A9.out).mono ?_); rintro e w21 ⟨rfl, hb⟩; refine ⟨_, rfl, ?_⟩; have n0_ := Aside0.mk (below_step (by repeat (first | (with_reducible first | exact HB.out | apply below_alloc | apply pw_below_drewN | apply below_drew1) | exact HB.out)) hb); clear HB; have HB := n0_; clear n0_; (try clear hb); (try clear hb2); (try clear hk); (try clear hi)) | (go_at_call 10; (with_reducible refine (stamp_From.calls kj5 (wrap64 ((Int.tmod a1 2305843009213693952) + (Int.tmod a2 2147483648000000000))) t171 _ A11.out).mono ?_); rintro e w' ⟨rfl, ⟨nd, rfl⟩⟩) | (go_at_call 10; (with_reducible refine (stamp_From.calls kj5 (Int.tmod a1 2305843009213693952) t172 _ A12.out).mono ?_); rintro e w' ⟨rfl, ⟨nd, rfl⟩⟩) | (go_at_call 11; (with_reducible refine (stamp_Diff.calls kj5 t171 t172 t173 _ A13.out).mono ?_); rintro e w22 ⟨rfl, hb⟩; have n0_ := Aside0.mk (below_step (by repeat (first | (with_reducible first | exact HB.out | apply below_alloc | apply pw_below_drewN | apply below_drew1) | exact HB.out)) hb); clear HB; have HB := n0_; clear n0_; (try clear hb); (try clear hb2); (try clear hk); (try clear hi)) | (go_at_call 19; (with_reducible refine (chronobatelaw02_near.calls t173 (wrap64 ((wrap64 ((Int.tmod a1 2305843009213693952) + (Int.tmod a2 2147483648000000000))) - (Int.tmod a1 2305843009213693952))) 2 false _ A14.out).mono ?_); rintro e w' ⟨rfl, ⟨nd, rfl⟩⟩))
            go_ret
            exact ⟨by first | rfl | (simp [errW_none, errW_some] <;> rfl) | (simp [*, errW_none, errW_some] <;> rfl), by repeat (first | (with_reducible first | exact HB.out | apply below_alloc | apply pw_below_drewN | apply below_drew1) | exact HB.out)⟩
        · replace c10 := Bool.eq_false_iff.mpr c10
          subst c10
          have H1 : (some false) = some r := by rw [if_neg (show ¬ (false = true) by decide)] at H; exact H
          clear H
          have H := H1
          clear H1
          obtain rfl := Option.some.inj H
          go_wp2_with (first | ((with_reducible refine gate_callee (f := 12) rfl ?_); refine goesL_ (some 32) rfl rfl Try.func12 (by kernel_rfl) rfl #[] rfl (by (try simp only [List.map_toArray, List.map_cons, List.map_nil]); first | done | rfl | (simp only [List.length_drop, List.length_take]; rfl)) ?_; (with_reducible refine (chronobatelaw02_alive.calls kj5  false _ A9.out).mono ?_); rintro e w23 ⟨rfl, hb⟩; refine ⟨_, rfl, ?_⟩; have n0_ := Aside0.mk (below_step (by repeat (first | (with_reducible first | exact HB.out | apply below_alloc | apply pw_below_drewN | apply below_drew1) | exact HB.out)) hb); clear HB; have HB := n0_; clear n0_; (try clear hb); (try clear hb2); (try clear hk); (try clear hi)))
          go_ret
          exact ⟨by first | rfl | (simp [errW_none, errW_some] <;> rfl) | (simp [*, errW_none, errW_some] <;> rfl), by repeat (first | (with_reducible first | exact HB.out | apply below_alloc | apply pw_below_drewN | apply below_drew1) | exact HB.out)⟩

/-- THE ONE PURE STATEMENT of chronobatelaw02_StampBack: yours. -/
def chronobatelaw02_StampBack.Pure : Prop := ∀ (a0 : Int) (a1 : Int) (a2 : Int), (Lit.int .i64 a0).wf = true → (Lit.int .i64 a1).wf = true → (Lit.int .i64 a2).wf = true → ∃ k, chronobatelaw02_StampBack.f k a0 a1 a2 = some true
theorem chronobatelaw02_StampBack.walk (P : chronobatelaw02_StampBack.Pure) (a0 : Int) (a1 : Int) (a2 : Int) (w : World) (w0 : (Lit.int .i64 a0).wf = true) (w1 : (Lit.int .i64 a1).wf = true) (w2 : (Lit.int .i64 a2).wf = true) :
    Calls Try.prog 9 #[.int .i64 a0, .int .i64 a1, .int .i64 a2] w fun e w' => e = .returned (.bool true) ∧ Below w.heap.size w w' := by
  obtain ⟨k, h⟩ := P a0 a1 a2 w0 w1 w2
  refine (chronobatelaw02_StampBack.calls k a0 a1 a2 true w h).mono ?_
  rintro e w' ⟨rfl, hd⟩
  exact ⟨rfl, hd⟩

end Go.Proofs.Ytampkfchofijbaa.G
