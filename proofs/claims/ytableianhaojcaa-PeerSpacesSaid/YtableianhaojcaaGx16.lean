-- Written by a program of this session out of the translation (wip/patch_print.py, wip/print2.sh). Lean checks it.
import Derived.Test.YtableianhaojcaaGx0
import Derived.Test.YtableianhaojcaaGx1
import Derived.Test.YtableianhaojcaaGx12
import Derived.Test.YtableianhaojcaaGx13
import Derived.Test.YtableianhaojcaaGx15
namespace Go.Proofs.Ytableianhaojcaa.G
open Go.RowKit Go.Proofs.YtableianhaojcaaW.PrintWords Go.Proofs.YtableianhaojcaaW.PrintLast Go.Proofs.YtableianhaojcaaW.PrintMore
attribute [local go_sem] max2_int min2_int max_two min_two max_three min_three max_four min_four   -- for this text's walks alone
set_option linter.unusedVariables false
set_option linter.unusedSimpArgs false

attribute [local go_sem high] eqA111
/-! ### stamp_Diff: function 54 -/
def stamp_Diff.f (k : Nat) (a0 : Int) (a1 : Int) : Option (Int) := (stamp_halves.f a0).bind fun bt195 => ((stamp_halves.f a1).bind fun bt197 => (if (bt195.1 == bt197.1 && (bt195.2 == bt197.2)) = true then (some 0) else ((sat_MulDiv.f k (wrap64 (IntKind.u64.wrap (a0 - a1))) 1000000000 4294967296).bind fun bt199 => (some bt199.1))))
theorem stamp_Diff.mono : ∀ a0 a1 k, LeO (stamp_Diff.f k a0 a1) (stamp_Diff.f (k + 1) a0 a1) := by
  intro a0 a1 k
  unfold stamp_Diff.f
  repeat' first
      | (with_reducible exact sat_MulDiv.mono _ _ _ _)
      | (with_reducible exact LeO.refl _)
      | (with_reducible exact LeO.none _)
      | (with_reducible refine LeO.ite ?_ ?_)
      | (with_reducible refine LeO.bind ?_ (fun _ => ?_))
      | exact sat_MulDiv.mono _ _ _ _
      | exact LeO.none _
      | refine LeO.ite ?_ ?_
      | refine LeO.bind ?_ (fun _ => ?_)
set_option maxHeartbeats 8000000 in
set_option maxRecDepth 100000 in
theorem stamp_Diff.calls (k : Nat) (a0 : Int) (a1 : Int) (r : Int) (w : World) (h : stamp_Diff.f k a0 a1 = some r) :
    Calls Try.prog 54 #[.int .u64 a0, .int .u64 a1] w fun e w' => e = .returned (.int .i64 r) ∧ Below w.heap.size w w' := by
  have HB := Aside0.mk (Below.refl w.heap.size w)
  have H : ((stamp_halves.f a0).bind fun bt195 => ((stamp_halves.f a1).bind fun bt197 => (if (bt195.1 == bt197.1 && (bt195.2 == bt197.2)) = true then (some 0) else ((sat_MulDiv.f k (wrap64 (IntKind.u64.wrap (a0 - a1))) 1000000000 4294967296).bind fun bt199 => (some bt199.1))))) = some r := h
  clear h
  replace H := Option.bind_eq_some_iff.mp H
  obtain ⟨⟨t195, t196⟩, A30, H⟩ := H
  replace H : ((stamp_halves.f a1).bind fun bt197 => (if (t195 == bt197.1 && (t196 == bt197.2)) = true then (some 0) else ((sat_MulDiv.f k (wrap64 (IntKind.u64.wrap (a0 - a1))) 1000000000 4294967296).bind fun bt199 => (some bt199.1)))) = some r := H
  have A3 := Aside0.mk A30
  clear A30
  replace H := Option.bind_eq_some_iff.mp H
  obtain ⟨⟨t197, t198⟩, A40, H⟩ := H
  replace H : (if (t195 == t197 && (t196 == t198)) = true then (some 0) else ((sat_MulDiv.f k (wrap64 (IntKind.u64.wrap (a0 - a1))) 1000000000 4294967296).bind fun bt199 => (some bt199.1))) = some r := H
  have A4 := Aside0.mk A40
  clear A40
  by_cases c5 : (t195 == t197 && (t196 == t198)) = true
  · rw [if_pos c5] at H
    have c5b0 : (t195 == t197 && (t196 == t198)) = true := c5
    (try (have c5b1 : decide (t195 = t197 && (t196 == t198)) = true := by simpa using c5))
    (try (have c5b2 : (t195 == t197 && (t196 == t198)) = true := by simpa using c5))
    clear c5
    obtain rfl := Option.some.inj H
    go_enter Try.func54, Try.ntmps54
    go_wp2_with (first | ((with_reducible refine gate_callee (f := 75) rfl ?_); refine goesL_ (some 8) rfl rfl Try.func75 (by kernel_rfl) rfl #[.int .u64 a0] rfl (by (try simp only [List.map_toArray, List.map_cons, List.map_nil]); first | done | rfl | (simp only [List.length_drop, List.length_take]; rfl)) ?_; (with_reducible refine (stamp_halves.calls a0 t195 t196 _ A3.out).mono ?_); rintro e w6 ⟨rfl, hb⟩; refine ⟨_, rfl, ?_⟩; have n0_ := Aside0.mk (below_step (by repeat (first | (with_reducible first | exact HB.out | apply below_alloc | apply pw_below_drewN | apply below_drew1) | exact HB.out)) hb); clear HB; have HB := n0_; clear n0_; (try clear hb); (try clear hb2); (try clear hk); (try clear hi)) | ((with_reducible refine gate_callee (f := 75) rfl ?_); refine goesL_ (some 10) rfl rfl Try.func75 (by kernel_rfl) rfl #[.int .u64 a1] rfl (by (try simp only [List.map_toArray, List.map_cons, List.map_nil]); first | done | rfl | (simp only [List.length_drop, List.length_take]; rfl)) ?_; (with_reducible refine (stamp_halves.calls a1 t197 t198 _ A4.out).mono ?_); rintro e w7 ⟨rfl, hb⟩; refine ⟨_, rfl, ?_⟩; have n0_ := Aside0.mk (below_step (by repeat (first | (with_reducible first | exact HB.out | apply below_alloc | apply pw_below_drewN | apply below_drew1) | exact HB.out)) hb); clear HB; have HB := n0_; clear n0_; (try clear hb); (try clear hb2); (try clear hk); (try clear hi)))
    go_ret
    exact ⟨by first | rfl | (simp [errW_none, errW_some] <;> rfl) | (simp [*, errW_none, errW_some] <;> rfl), by repeat (first | (with_reducible first | exact HB.out | apply below_alloc | apply pw_below_drewN | apply below_drew1) | exact HB.out)⟩
  · rw [if_neg c5] at H
    have c5b0 : (t195 == t197 && (t196 == t198)) = false := by simpa using c5
    (try (have c5b1 : decide (t195 = t197 && (t196 == t198)) = false := by simpa using c5))
    (try (have c5b2 : (t195 == t197 && (t196 == t198)) = false := by simpa using c5))
    (try (have c5b3 : ¬ (t195 = t197 && (t196 == t198)) := by simpa using c5))
    clear c5
    replace H := Option.bind_eq_some_iff.mp H
    obtain ⟨⟨t199, t200⟩, A80, H⟩ := H
    replace H : (some t199) = some r := H
    have A8 := Aside0.mk A80
    clear A80
    obtain rfl := Option.some.inj H
    go_enter Try.func54, Try.ntmps54
    go_wp2_with (first | ((with_reducible refine gate_callee (f := 75) rfl ?_); refine goesL_ (some 8) rfl rfl Try.func75 (by kernel_rfl) rfl #[.int .u64 a0] rfl (by (try simp only [List.map_toArray, List.map_cons, List.map_nil]); first | done | rfl | (simp only [List.length_drop, List.length_take]; rfl)) ?_; (with_reducible refine (stamp_halves.calls a0 t195 t196 _ A3.out).mono ?_); rintro e w9 ⟨rfl, hb⟩; refine ⟨_, rfl, ?_⟩; have n0_ := Aside0.mk (below_step (by repeat (first | (with_reducible first | exact HB.out | apply below_alloc | apply pw_below_drewN | apply below_drew1) | exact HB.out)) hb); clear HB; have HB := n0_; clear n0_; (try clear hb); (try clear hb2); (try clear hk); (try clear hi)) | ((with_reducible refine gate_callee (f := 75) rfl ?_); refine goesL_ (some 10) rfl rfl Try.func75 (by kernel_rfl) rfl #[.int .u64 a1] rfl (by (try simp only [List.map_toArray, List.map_cons, List.map_nil]); first | done | rfl | (simp only [List.length_drop, List.length_take]; rfl)) ?_; (with_reducible refine (stamp_halves.calls a1 t197 t198 _ A4.out).mono ?_); rintro e w10 ⟨rfl, hb⟩; refine ⟨_, rfl, ?_⟩; have n0_ := Aside0.mk (below_step (by repeat (first | (with_reducible first | exact HB.out | apply below_alloc | apply pw_below_drewN | apply below_drew1) | exact HB.out)) hb); clear HB; have HB := n0_; clear n0_; (try clear hb); (try clear hb2); (try clear hk); (try clear hi)) | ((with_reducible refine gate_callee (f := 76) rfl ?_); refine goesL_ (some 17) rfl rfl Try.func76 (by kernel_rfl) rfl #[.int .i64 (wrap64 (IntKind.u64.wrap (a0 - a1))), .int .i64 1000000000, .int .i64 4294967296] rfl (by (try simp only [List.map_toArray, List.map_cons, List.map_nil]); first | done | rfl | (simp only [List.length_drop, List.length_take]; rfl)) ?_; (with_reducible refine (sat_MulDiv.calls k (wrap64 (IntKind.u64.wrap (a0 - a1))) 1000000000 4294967296 t199 t200 _ A8.out).mono ?_); rintro e w11 ⟨rfl, hb⟩; refine ⟨_, rfl, ?_⟩; have n0_ := Aside0.mk (below_step (by repeat (first | (with_reducible first | exact HB.out | apply below_alloc | apply pw_below_drewN | apply below_drew1) | exact HB.out)) hb); clear HB; have HB := n0_; clear n0_; (try clear hb); (try clear hb2); (try clear hk); (try clear hi)))
    go_ret
    exact ⟨by first | rfl | (simp [errW_none, errW_some] <;> rfl) | (simp [*, errW_none, errW_some] <;> rfl), by repeat (first | (with_reducible first | exact HB.out | apply below_alloc | apply pw_below_drewN | apply below_drew1) | exact HB.out)⟩

/-! ### stamp_From: function 55 -/
def stamp_From.f (k : Nat) (a0 : Int) : Option (Int) := if (wrap64 (a0 - (wrap64 ((wrap64 (Int.tdiv a0 1000000000)) * 1000000000)))) < 0 then ((bits_Mul64.f (IntKind.u64.wrap (wrap64 ((wrap64 (a0 - (wrap64 ((wrap64 (Int.tdiv a0 1000000000)) * 1000000000)))) + 1000000000))) 4294967296).bind fun bt201 => ((bits_Div64.f k bt201.1 bt201.2 1000000000).bind fun bt203 => (some (IntKind.u64.wrap ((IntKind.u64.wrap ((IntKind.u64.wrap (wrap64 ((wrap64 (Int.tdiv a0 1000000000)) - 1))) * 4294967296)) + bt203.1))))) else ((bits_Mul64.f (IntKind.u64.wrap (wrap64 (a0 - (wrap64 ((wrap64 (Int.tdiv a0 1000000000)) * 1000000000))))) 4294967296).bind fun bt205 => ((bits_Div64.f k bt205.1 bt205.2 1000000000).bind fun bt207 => (some (IntKind.u64.wrap ((IntKind.u64.wrap ((IntKind.u64.wrap (wrap64 (Int.tdiv a0 1000000000))) * 4294967296)) + bt207.1)))))
theorem stamp_From.mono : ∀ a0 k, LeO (stamp_From.f k a0) (stamp_From.f (k + 1) a0) := by
  intro a0 k
  unfold stamp_From.f
  repeat' first
      | (with_reducible exact bits_Div64.mono _ _ _ _)
      | (with_reducible exact LeO.refl _)
      | (with_reducible exact LeO.none _)
      | (with_reducible refine LeO.ite ?_ ?_)
      | (with_reducible refine LeO.bind ?_ (fun _ => ?_))
      | exact bits_Div64.mono _ _ _ _
      | exact LeO.none _
      | refine LeO.ite ?_ ?_
      | refine LeO.bind ?_ (fun _ => ?_)
set_option maxHeartbeats 8000000 in
set_option maxRecDepth 100000 in
theorem stamp_From.calls (k : Nat) (a0 : Int) (r : Int) (w : World) (h : stamp_From.f k a0 = some r) :
    Calls Try.prog 55 #[.int .i64 a0] w fun e w' => e = .returned (.int .u64 r) ∧ Drawn0 w w' := by
  have H : (if (wrap64 (a0 - (wrap64 ((wrap64 (Int.tdiv a0 1000000000)) * 1000000000)))) < 0 then ((bits_Mul64.f (IntKind.u64.wrap (wrap64 ((wrap64 (a0 - (wrap64 ((wrap64 (Int.tdiv a0 1000000000)) * 1000000000)))) + 1000000000))) 4294967296).bind fun bt201 => ((bits_Div64.f k bt201.1 bt201.2 1000000000).bind fun bt203 => (some (IntKind.u64.wrap ((IntKind.u64.wrap ((IntKind.u64.wrap (wrap64 ((wrap64 (Int.tdiv a0 1000000000)) - 1))) * 4294967296)) + bt203.1))))) else ((bits_Mul64.f (IntKind.u64.wrap (wrap64 (a0 - (wrap64 ((wrap64 (Int.tdiv a0 1000000000)) * 1000000000))))) 4294967296).bind fun bt205 => ((bits_Div64.f k bt205.1 bt205.2 1000000000).bind fun bt207 => (some (IntKind.u64.wrap ((IntKind.u64.wrap ((IntKind.u64.wrap (wrap64 (Int.tdiv a0 1000000000))) * 4294967296)) + bt207.1)))))) = some r := h
  clear h
  by_cases c2 : (wrap64 (a0 - (wrap64 ((wrap64 (Int.tdiv a0 1000000000)) * 1000000000)))) < 0
  · rw [if_pos c2] at H
    have c2b0 : decide ((wrap64 (a0 - (wrap64 ((wrap64 (Int.tdiv a0 1000000000)) * 1000000000)))) < 0) = true := decide_eq_true c2
    clear c2
    replace H := Option.bind_eq_some_iff.mp H
    obtain ⟨⟨t201, t202⟩, A30, H⟩ := H
    replace H : ((bits_Div64.f k t201 t202 1000000000).bind fun bt203 => (some (IntKind.u64.wrap ((IntKind.u64.wrap ((IntKind.u64.wrap (wrap64 ((wrap64 (Int.tdiv a0 1000000000)) - 1))) * 4294967296)) + bt203.1)))) = some r := H
    have A3 := Aside0.mk A30
    clear A30
    replace H := Option.bind_eq_some_iff.mp H
    obtain ⟨⟨t203, t204⟩, A40, H⟩ := H
    replace H : (some (IntKind.u64.wrap ((IntKind.u64.wrap ((IntKind.u64.wrap (wrap64 ((wrap64 (Int.tdiv a0 1000000000)) - 1))) * 4294967296)) + t203))) = some r := H
    have A4 := Aside0.mk A40
    clear A40
    obtain rfl := Option.some.inj H
    go_enter Try.func55, Try.ntmps55
    go_wp2_with (first | ((with_reducible refine gate_callee (f := 77) rfl ?_); refine goesL_ (some 24) rfl rfl Try.func77 (by kernel_rfl) rfl #[.int .u64 (IntKind.u64.wrap (wrap64 ((wrap64 (a0 - (wrap64 ((wrap64 (Int.tdiv a0 1000000000)) * 1000000000)))) + 1000000000))), .int .u64 4294967296] rfl (by (try simp only [List.map_toArray, List.map_cons, List.map_nil]); first | done | rfl | (simp only [List.length_drop, List.length_take]; rfl)) ?_; (with_reducible refine (bits_Mul64.calls (IntKind.u64.wrap (wrap64 ((wrap64 (a0 - (wrap64 ((wrap64 (Int.tdiv a0 1000000000)) * 1000000000)))) + 1000000000))) 4294967296 t201 t202 _ A3.out).mono ?_); rintro e w' ⟨rfl, ⟨nd, rfl⟩⟩; refine ⟨_, rfl, ?_⟩) | ((with_reducible refine gate_callee (f := 78) rfl ?_); refine goesL_ (some 30) rfl rfl Try.func78 (by kernel_rfl) rfl #[.int .u64 t201, .int .u64 t202, .int .u64 1000000000] rfl (by (try simp only [List.map_toArray, List.map_cons, List.map_nil]); first | done | rfl | (simp only [List.length_drop, List.length_take]; rfl)) ?_; (with_reducible refine (bits_Div64.calls k t201 t202 1000000000 t203 t204 _ A4.out).mono ?_); rintro e w' ⟨rfl, ⟨nd, rfl⟩⟩; refine ⟨_, rfl, ?_⟩))
    go_ret
    exact ⟨by first | rfl | (simp; done) | (simp [*]; done), by repeat (first | exact Drawn0.refl _ | apply Drawn0.step)⟩
  · rw [if_neg c2] at H
    have c2b0 : decide ((wrap64 (a0 - (wrap64 ((wrap64 (Int.tdiv a0 1000000000)) * 1000000000)))) < 0) = false := decide_eq_false c2
    clear c2
    replace H := Option.bind_eq_some_iff.mp H
    obtain ⟨⟨t205, t206⟩, A50, H⟩ := H
    replace H : ((bits_Div64.f k t205 t206 1000000000).bind fun bt207 => (some (IntKind.u64.wrap ((IntKind.u64.wrap ((IntKind.u64.wrap (wrap64 (Int.tdiv a0 1000000000))) * 4294967296)) + bt207.1)))) = some r := H
    have A5 := Aside0.mk A50
    clear A50
    replace H := Option.bind_eq_some_iff.mp H
    obtain ⟨⟨t207, t208⟩, A60, H⟩ := H
    replace H : (some (IntKind.u64.wrap ((IntKind.u64.wrap ((IntKind.u64.wrap (wrap64 (Int.tdiv a0 1000000000))) * 4294967296)) + t207))) = some r := H
    have A6 := Aside0.mk A60
    clear A60
    obtain rfl := Option.some.inj H
    go_enter Try.func55, Try.ntmps55
    go_wp2_with (first | ((with_reducible refine gate_callee (f := 77) rfl ?_); refine goesL_ (some 24) rfl rfl Try.func77 (by kernel_rfl) rfl #[.int .u64 (IntKind.u64.wrap (wrap64 (a0 - (wrap64 ((wrap64 (Int.tdiv a0 1000000000)) * 1000000000))))), .int .u64 4294967296] rfl (by (try simp only [List.map_toArray, List.map_cons, List.map_nil]); first | done | rfl | (simp only [List.length_drop, List.length_take]; rfl)) ?_; (with_reducible refine (bits_Mul64.calls (IntKind.u64.wrap (wrap64 (a0 - (wrap64 ((wrap64 (Int.tdiv a0 1000000000)) * 1000000000))))) 4294967296 t205 t206 _ A5.out).mono ?_); rintro e w' ⟨rfl, ⟨nd, rfl⟩⟩; refine ⟨_, rfl, ?_⟩) | ((with_reducible refine gate_callee (f := 78) rfl ?_); refine goesL_ (some 30) rfl rfl Try.func78 (by kernel_rfl) rfl #[.int .u64 t205, .int .u64 t206, .int .u64 1000000000] rfl (by (try simp only [List.map_toArray, List.map_cons, List.map_nil]); first | done | rfl | (simp only [List.length_drop, List.length_take]; rfl)) ?_; (with_reducible refine (bits_Div64.calls k t205 t206 1000000000 t207 t208 _ A6.out).mono ?_); rintro e w' ⟨rfl, ⟨nd, rfl⟩⟩; refine ⟨_, rfl, ?_⟩))
    go_ret
    exact ⟨by first | rfl | (simp; done) | (simp [*]; done), by repeat (first | exact Drawn0.refl _ | apply Drawn0.step)⟩

end Go.Proofs.Ytableianhaojcaa.G
