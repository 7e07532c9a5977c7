-- Written by a program of this session out of the translation (wip/patch_print.py, wip/print2.sh). Lean checks it.
import Derived.Test.YtmniekljfhecaaaGx0
import Derived.Test.YtmniekljfhecaaaGx2
import Derived.Test.YtmniekljfhecaaaGx3
import Derived.Test.YtmniekljfhecaaaGx8
namespace Go.Proofs.Ytmniekljfhecaaa.G
open Go.RowKit Go.Proofs.YtmniekljfhecaaaW.PrintWords Go.Proofs.YtmniekljfhecaaaW.PrintLast Go.Proofs.YtmniekljfhecaaaW.PrintMore
attribute [local go_sem] max2_int min2_int max_two min_two max_three min_three max_four min_four   -- for this text's walks alone
set_option linter.unusedVariables false
set_option linter.unusedSimpArgs false

/-! ### chronobatelaw18_GhostEdges: function 7 -/
mutual
def chronobatelaw18_GhostEdges.j0 : Nat → Int → Int → Int → Int → Bool → Option (Bool)
  | 0, _, _, _, _, _ => none
  | k + 1, x2, x7, x8, x9, x36 => if x36 = true then (some false) else ((ghost_Fine.f k x7 x8 (wrap64 (x8 + x9))).bind fun t128 => (if t128 = true then ((ghost_Fine.f k x7 x8 (wrap64 ((wrap64 (x8 + x9)) + 1))).bind fun t129 => (if t129 = true then (chronobatelaw18_GhostEdges.j1 k x2 x7 x8 true) else ((ghost_Fine.f k x7 x8 (wrap64 (x8 - x9))).bind fun t130 => (if t130 = true then (if (wrap64 ((wrap64 (x8 - x9)) - 1)) ≥ 0 then ((ghost_Fine.f k x7 x8 (wrap64 ((wrap64 (x8 - x9)) - 1))).bind fun t131 => (chronobatelaw18_GhostEdges.j1 k x2 x7 x8 t131)) else (chronobatelaw18_GhostEdges.j1 k x2 x7 x8 false)) else (chronobatelaw18_GhostEdges.j1 k x2 x7 x8 true))))) else (chronobatelaw18_GhostEdges.j1 k x2 x7 x8 true)))
def chronobatelaw18_GhostEdges.j1 : Nat → Int → Int → Int → Bool → Option (Bool)
  | 0, _, _, _, _ => none
  | k + 1, x2, x7, x8, x77 => if x77 = true then (some false) else ((chronobatelaw18_alive.f k).bind fun t132 => (if t132 = true then ((ghost_Fine.f k x7 x8 (wrap64 (x8 + (wrap64 (x2))))).bind fun t133 => (if t133 = true then ((ghost_Fine.f k (wrap64 (x7 + 1)) x8 (wrap64 (x8 + (wrap64 (x2))))).bind fun t134 => (some t134)) else (some true))) else (some false)))
end
def chronobatelaw18_GhostEdges.f (k : Nat) (a0 : Int) (a1 : Int) (a2 : Int) : Option (Bool) := (sat_MulDiv.f k (wrap64 (a1)) (wrap64 (a0)) 1000000).bind fun bt123 => ((ghost_Fine.f k (wrap64 (a0)) (wrap64 (a1)) (wrap64 (a1))).bind fun t125 => (if t125 = true then ((ghost_Fine.f k (-1) (wrap64 (a1)) (wrap64 (a1))).bind fun t126 => (if t126 = true then (chronobatelaw18_GhostEdges.j0 k a2 (wrap64 (a0)) (wrap64 (a1)) bt123.1 true) else ((ghost_Fine.f k 1000001 (wrap64 (a1)) (wrap64 (a1))).bind fun t127 => (chronobatelaw18_GhostEdges.j0 k a2 (wrap64 (a0)) (wrap64 (a1)) bt123.1 t127)))) else (chronobatelaw18_GhostEdges.j0 k a2 (wrap64 (a0)) (wrap64 (a1)) bt123.1 true)))
theorem chronobatelaw18_GhostEdges.mono_l : ∀ k, (∀ y0 y1 y2 y3 y4, LeO (chronobatelaw18_GhostEdges.j0 k y0 y1 y2 y3 y4) (chronobatelaw18_GhostEdges.j0 (k + 1) y0 y1 y2 y3 y4)) ∧ (∀ y0 y1 y2 y3, LeO (chronobatelaw18_GhostEdges.j1 k y0 y1 y2 y3) (chronobatelaw18_GhostEdges.j1 (k + 1) y0 y1 y2 y3))
  | 0 => ⟨fun _ _ _ _ _ r h => by simp [chronobatelaw18_GhostEdges.j0] at h, fun _ _ _ _ r h => by simp [chronobatelaw18_GhostEdges.j1] at h⟩
  | k + 1 => by
    obtain ⟨ih0, ih1⟩ := chronobatelaw18_GhostEdges.mono_l k
    refine ⟨?_, ?_⟩
    · intro y0 y1 y2 y3 y4
      unfold chronobatelaw18_GhostEdges.j0
      repeat' first
      | (with_reducible exact ih0 _ _ _ _ _)
      | (with_reducible exact ih1 _ _ _ _)
      | (with_reducible exact chronobatelaw18_alive.mono _)
      | (with_reducible exact ghost_Fine.mono _ _ _ _)
      | (with_reducible exact sat_MulDiv.mono _ _ _ _)
      | (with_reducible exact LeO.refl _)
      | (with_reducible exact LeO.none _)
      | (with_reducible refine LeO.ite ?_ ?_)
      | (with_reducible refine LeO.bind ?_ (fun _ => ?_))
      | exact ih0 _ _ _ _ _
      | exact ih1 _ _ _ _
      | exact chronobatelaw18_alive.mono _
      | exact ghost_Fine.mono _ _ _ _
      | exact sat_MulDiv.mono _ _ _ _
      | exact LeO.none _
      | refine LeO.ite ?_ ?_
      | refine LeO.bind ?_ (fun _ => ?_)
    · intro y0 y1 y2 y3
      unfold chronobatelaw18_GhostEdges.j1
      repeat' first
      | (with_reducible exact ih0 _ _ _ _ _)
      | (with_reducible exact ih1 _ _ _ _)
      | (with_reducible exact chronobatelaw18_alive.mono _)
      | (with_reducible exact ghost_Fine.mono _ _ _ _)
      | (with_reducible exact sat_MulDiv.mono _ _ _ _)
      | (with_reducible exact LeO.refl _)
      | (with_reducible exact LeO.none _)
      | (with_reducible refine LeO.ite ?_ ?_)
      | (with_reducible refine LeO.bind ?_ (fun _ => ?_))
      | exact ih0 _ _ _ _ _
      | exact ih1 _ _ _ _
      | exact chronobatelaw18_alive.mono _
      | exact ghost_Fine.mono _ _ _ _
      | exact sat_MulDiv.mono _ _ _ _
      | exact LeO.none _
      | refine LeO.ite ?_ ?_
      | refine LeO.bind ?_ (fun _ => ?_)
theorem chronobatelaw18_GhostEdges.mono : ∀ a0 a1 a2 k, LeO (chronobatelaw18_GhostEdges.f k a0 a1 a2) (chronobatelaw18_GhostEdges.f (k + 1) a0 a1 a2) := by
  intro a0 a1 a2 k
  obtain ⟨ih0, ih1⟩ := chronobatelaw18_GhostEdges.mono_l k
  unfold chronobatelaw18_GhostEdges.f
  repeat' first
      | (with_reducible exact ih0 _ _ _ _ _)
      | (with_reducible exact ih1 _ _ _ _)
      | (with_reducible exact chronobatelaw18_alive.mono _)
      | (with_reducible exact ghost_Fine.mono _ _ _ _)
      | (with_reducible exact sat_MulDiv.mono _ _ _ _)
      | (with_reducible exact LeO.refl _)
      | (with_reducible exact LeO.none _)
      | (with_reducible refine LeO.ite ?_ ?_)
      | (with_reducible refine LeO.bind ?_ (fun _ => ?_))
      | exact ih0 _ _ _ _ _
      | exact ih1 _ _ _ _
      | exact chronobatelaw18_alive.mono _
      | exact ghost_Fine.mono _ _ _ _
      | exact sat_MulDiv.mono _ _ _ _
      | exact LeO.none _
      | refine LeO.ite ?_ ?_
      | refine LeO.bind ?_ (fun _ => ?_)
set_option maxHeartbeats 8000000 in
set_option maxRecDepth 100000 in
theorem chronobatelaw18_GhostEdges.calls (k : Nat) (a0 : Int) (a1 : Int) (a2 : Int) (r : Bool) (w : World) (h : chronobatelaw18_GhostEdges.f k a0 a1 a2 = some r) :
    Calls Try.prog 7 #[.int .u16 a0, .int .u32 a1, .int .i16 a2] w fun e w' => e = .returned (.bool r) ∧ Below w.heap.size w w' := by
  have HB := Aside0.mk (Below.refl w.heap.size w)
  have H : ((sat_MulDiv.f k (wrap64 (a1)) (wrap64 (a0)) 1000000).bind fun bt123 => ((ghost_Fine.f k (wrap64 (a0)) (wrap64 (a1)) (wrap64 (a1))).bind fun t125 => (if t125 = true then ((ghost_Fine.f k (-1) (wrap64 (a1)) (wrap64 (a1))).bind fun t126 => (if t126 = true then (chronobatelaw18_GhostEdges.j0 k a2 (wrap64 (a0)) (wrap64 (a1)) bt123.1 true) else ((ghost_Fine.f k 1000001 (wrap64 (a1)) (wrap64 (a1))).bind fun t127 => (chronobatelaw18_GhostEdges.j0 k a2 (wrap64 (a0)) (wrap64 (a1)) bt123.1 t127)))) else (chronobatelaw18_GhostEdges.j0 k a2 (wrap64 (a0)) (wrap64 (a1)) bt123.1 true)))) = some r := h
  clear h
  replace H := Option.bind_eq_some_iff.mp H
  obtain ⟨⟨t123, t124⟩, A40, H⟩ := H
  replace H : ((ghost_Fine.f k (wrap64 (a0)) (wrap64 (a1)) (wrap64 (a1))).bind fun t125 => (if t125 = true then ((ghost_Fine.f k (-1) (wrap64 (a1)) (wrap64 (a1))).bind fun t126 => (if t126 = true then (chronobatelaw18_GhostEdges.j0 k a2 (wrap64 (a0)) (wrap64 (a1)) t123 true) else ((ghost_Fine.f k 1000001 (wrap64 (a1)) (wrap64 (a1))).bind fun t127 => (chronobatelaw18_GhostEdges.j0 k a2 (wrap64 (a0)) (wrap64 (a1)) t123 t127)))) else (chronobatelaw18_GhostEdges.j0 k a2 (wrap64 (a0)) (wrap64 (a1)) t123 true))) = some r := H
  have A4 := Aside0.mk A40
  clear A40
  have HC5 := Aside0.mk H
  clear H
  go_enter Try.func7, Try.ntmps7
  go_upto_region 4 with (first | ((with_reducible refine gate_callee (f := 20) rfl ?_); refine goesL_ (some 19) rfl rfl Try.func20 (by kernel_rfl) rfl #[.int .i64 (wrap64 (a1)), .int .i64 (wrap64 (a0)), .int .i64 1000000] rfl (by (try simp only [List.map_toArray, List.map_cons, List.map_nil]); first | done | rfl | (simp only [List.length_drop, List.length_take]; rfl)) ?_; (with_reducible refine (sat_MulDiv.calls k (wrap64 (a1)) (wrap64 (a0)) 1000000 t123 t124 _ A4.out).mono ?_); rintro e w6 ⟨rfl, hb⟩; refine ⟨_, rfl, ?_⟩; have n0_ := Aside0.mk (below_step (by repeat (first | (with_reducible first | exact HB.out | apply below_alloc | apply pw_below_drewN | apply below_drew1) | exact HB.out)) hb); clear HB; have HB := n0_; clear n0_; (try clear hb); (try clear hb2); (try clear hk); (try clear hi)))
  (try simp only [Act.put, List.setIfInBounds_toArray, List.set_cons_zero, List.set_cons_succ])
  go_cut [36] (fun v36 wc => ∃ (kq : Nat) (x36_4 : Bool), v36 = .bool x36_4 ∧ Aside0 (chronobatelaw18_GhostEdges.j0 kq a2 (wrap64 (a0)) (wrap64 (a1)) t123 x36_4 = some r) ∧ Aside0 (kq ≤ k) ∧ Aside0 (Below w.heap.size w wc))
  case first =>
    have H := HC5.out
    clear HC5
    replace H := Option.bind_eq_some_iff.mp H
    obtain ⟨t125, A70, H⟩ := H
    replace H : (if t125 = true then ((ghost_Fine.f k (-1) (wrap64 (a1)) (wrap64 (a1))).bind fun t126 => (if t126 = true then (chronobatelaw18_GhostEdges.j0 k a2 (wrap64 (a0)) (wrap64 (a1)) t123 true) else ((ghost_Fine.f k 1000001 (wrap64 (a1)) (wrap64 (a1))).bind fun t127 => (chronobatelaw18_GhostEdges.j0 k a2 (wrap64 (a0)) (wrap64 (a1)) t123 t127)))) else (chronobatelaw18_GhostEdges.j0 k a2 (wrap64 (a0)) (wrap64 (a1)) t123 true)) = some r := H
    have A7 := Aside0.mk A70
    clear A70
    by_cases c8 : t125 = true
    · subst c8
      have H1 : ((ghost_Fine.f k (-1) (wrap64 (a1)) (wrap64 (a1))).bind fun t126 => (if t126 = true then (chronobatelaw18_GhostEdges.j0 k a2 (wrap64 (a0)) (wrap64 (a1)) t123 true) else ((ghost_Fine.f k 1000001 (wrap64 (a1)) (wrap64 (a1))).bind fun t127 => (chronobatelaw18_GhostEdges.j0 k a2 (wrap64 (a0)) (wrap64 (a1)) t123 t127)))) = some r := by rw [if_pos rfl] at H; exact H
      clear H
      have H := H1
      clear H1
      replace H := Option.bind_eq_some_iff.mp H
      obtain ⟨t126, A90, H⟩ := H
      replace H : (if t126 = true then (chronobatelaw18_GhostEdges.j0 k a2 (wrap64 (a0)) (wrap64 (a1)) t123 true) else ((ghost_Fine.f k 1000001 (wrap64 (a1)) (wrap64 (a1))).bind fun t127 => (chronobatelaw18_GhostEdges.j0 k a2 (wrap64 (a0)) (wrap64 (a1)) t123 t127))) = some r := H
      have A9 := Aside0.mk A90
      clear A90
      by_cases c10 : t126 = true
      · subst c10
        have H1 : (chronobatelaw18_GhostEdges.j0 k a2 (wrap64 (a0)) (wrap64 (a1)) t123 true) = some r := by rw [if_pos rfl] at H; exact H
        clear H
        have H := H1
        clear H1
        have H' := Aside0.mk H
        clear H
        go_wp2_with (first | ((with_reducible refine gate_callee (f := 10) rfl ?_); refine goesL_ (some 25) rfl rfl Try.func10 (by kernel_rfl) rfl #[.int .i64 (wrap64 (a0)), .int .i64 (wrap64 (a1)), .int .i64 (wrap64 (a1))] rfl (by (try simp only [List.map_toArray, List.map_cons, List.map_nil]); first | done | rfl | (simp only [List.length_drop, List.length_take]; rfl)) ?_; (with_reducible refine (ghost_Fine.calls k (wrap64 (a0)) (wrap64 (a1)) (wrap64 (a1)) true _ A7.out).mono ?_); rintro e w11 ⟨rfl, hb⟩; refine ⟨_, rfl, ?_⟩; have n0_ := Aside0.mk (below_step (by repeat (first | (with_reducible first | exact HB.out | apply below_alloc | apply pw_below_drewN | apply below_drew1) | exact HB.out)) hb); clear HB; have HB := n0_; clear n0_; (try clear hb); (try clear hb2); (try clear hk); (try clear hi)) | (go_at_call 10; (with_reducible refine (ghost_Fine.calls k (-1) (wrap64 (a1)) (wrap64 (a1)) true _ A9.out).mono ?_); rintro e w12 ⟨rfl, hb⟩; have n0_ := Aside0.mk (below_step (by repeat (first | (with_reducible first | exact HB.out | apply below_alloc | apply pw_below_drewN | apply below_drew1) | exact HB.out)) hb); clear HB; have HB := n0_; clear n0_; (try clear hb); (try clear hb2); (try clear hk); (try clear hi)))
        go_meet
        case rel => exact ⟨_, (true), (by first | rfl | (simp; done) | (simp [*]; done)), H', ⟨by first | omega | exact Nat.le_refl _⟩, ⟨by repeat (first | (with_reducible first | exact HB.out | apply below_alloc | apply pw_below_drewN | apply below_drew1) | exact HB.out)⟩⟩
      · replace c10 := Bool.eq_false_iff.mpr c10
        subst c10
        have H1 : ((ghost_Fine.f k 1000001 (wrap64 (a1)) (wrap64 (a1))).bind fun t127 => (chronobatelaw18_GhostEdges.j0 k a2 (wrap64 (a0)) (wrap64 (a1)) t123 t127)) = some r := by rw [if_neg (show ¬ (false = true) by decide)] at H; exact H
        clear H
        have H := H1
        clear H1
        replace H := Option.bind_eq_some_iff.mp H
        obtain ⟨t127, A130, H⟩ := H
        replace H : (chronobatelaw18_GhostEdges.j0 k a2 (wrap64 (a0)) (wrap64 (a1)) t123 t127) = some r := H
        have A13 := Aside0.mk A130
        clear A130
        have H' := Aside0.mk H
        clear H
        go_wp2_with (first | ((with_reducible refine gate_callee (f := 10) rfl ?_); refine goesL_ (some 25) rfl rfl Try.func10 (by kernel_rfl) rfl #[.int .i64 (wrap64 (a0)), .int .i64 (wrap64 (a1)), .int .i64 (wrap64 (a1))] rfl (by (try simp only [List.map_toArray, List.map_cons, List.map_nil]); first | done | rfl | (simp only [List.length_drop, List.length_take]; rfl)) ?_; (with_reducible refine (ghost_Fine.calls k (wrap64 (a0)) (wrap64 (a1)) (wrap64 (a1)) true _ A7.out).mono ?_); rintro e w14 ⟨rfl, hb⟩; refine ⟨_, rfl, ?_⟩; have n0_ := Aside0.mk (below_step (by repeat (first | (with_reducible first | exact HB.out | apply below_alloc | apply pw_below_drewN | apply below_drew1) | exact HB.out)) hb); clear HB; have HB := n0_; clear n0_; (try clear hb); (try clear hb2); (try clear hk); (try clear hi)) | (go_at_call 10; (with_reducible refine (ghost_Fine.calls k (-1) (wrap64 (a1)) (wrap64 (a1)) false _ A9.out).mono ?_); rintro e w15 ⟨rfl, hb⟩; have n0_ := Aside0.mk (below_step (by repeat (first | (with_reducible first | exact HB.out | apply below_alloc | apply pw_below_drewN | apply below_drew1) | exact HB.out)) hb); clear HB; have HB := n0_; clear n0_; (try clear hb); (try clear hb2); (try clear hk); (try clear hi)) | (go_at_call 10; (with_reducible refine (ghost_Fine.calls k 1000001 (wrap64 (a1)) (wrap64 (a1)) t127 _ A13.out).mono ?_); rintro e w16 ⟨rfl, hb⟩; have n0_ := Aside0.mk (below_step (by repeat (first | (with_reducible first | exact HB.out | apply below_alloc | apply pw_below_drewN | apply below_drew1) | exact HB.out)) hb); clear HB; have HB := n0_; clear n0_; (try clear hb); (try clear hb2); (try clear hk); (try clear hi)))
        go_meet
        case rel => exact ⟨_, (t127), (by first | rfl | (simp; done) | (simp [*]; done)), H', ⟨by first | omega | exact Nat.le_refl _⟩, ⟨by repeat (first | (with_reducible first | exact HB.out | apply below_alloc | apply pw_below_drewN | apply below_drew1) | exact HB.out)⟩⟩
    · replace c8 := Bool.eq_false_iff.mpr c8
      subst c8
      have H1 : (chronobatelaw18_GhostEdges.j0 k a2 (wrap64 (a0)) (wrap64 (a1)) t123 true) = some r := by rw [if_neg (show ¬ (false = true) by decide)] at H; exact H
      clear H
      have H := H1
      clear H1
      have H' := Aside0.mk H
      clear H
      go_wp2_with (first | ((with_reducible refine gate_callee (f := 10) rfl ?_); refine goesL_ (some 25) rfl rfl Try.func10 (by kernel_rfl) rfl #[.int .i64 (wrap64 (a0)), .int .i64 (wrap64 (a1)), .int .i64 (wrap64 (a1))] rfl (by (try simp only [List.map_toArray, List.map_cons, List.map_nil]); first | done | rfl | (simp only [List.length_drop, List.length_take]; rfl)) ?_; (with_reducible refine (ghost_Fine.calls k (wrap64 (a0)) (wrap64 (a1)) (wrap64 (a1)) false _ A7.out).mono ?_); rintro e w17 ⟨rfl, hb⟩; refine ⟨_, rfl, ?_⟩; have n0_ := Aside0.mk (below_step (by repeat (first | (with_reducible first | exact HB.out | apply below_alloc | apply pw_below_drewN | apply below_drew1) | exact HB.out)) hb); clear HB; have HB := n0_; clear n0_; (try clear hb); (try clear hb2); (try clear hk); (try clear hi)))
      go_meet
      case rel => exact ⟨_, (true), (by first | rfl | (simp; done) | (simp [*]; done)), H', ⟨by first | omega | exact Nat.le_refl _⟩, ⟨by repeat (first | (with_reducible first | exact HB.out | apply below_alloc | apply pw_below_drewN | apply below_drew1) | exact HB.out)⟩⟩
  case rest =>
    clear HC5
    try clear c1
    try clear c2
    try clear p2
    try clear p6
    try clear c7
    try clear c8
    try clear c10
    obtain ⟨kq, x36_4, rfl, HA, HJ4, HB⟩ := hcut
    cases kq with
    | zero => exact absurd HA.out (by simp [chronobatelaw18_GhostEdges.j0])
    | succ kj4 =>
      have H := HA.out
      clear HA
      simp only [chronobatelaw18_GhostEdges.j0] at H
      by_cases c18 : x36_4 = true
      · subst c18
        have H1 : (some false) = some r := by rw [if_pos rfl] at H; exact H
        clear H
        have H := H1
        clear H1
        obtain rfl := Option.some.inj H
        go_wp2
        go_ret
        exact ⟨by first | rfl | (simp [errW_none, errW_some] <;> rfl) | (simp [*, errW_none, errW_some] <;> rfl), by repeat (first | (with_reducible first | exact HB.out | apply below_alloc | apply pw_below_drewN | apply below_drew1) | exact HB.out)⟩
      · replace c18 := Bool.eq_false_iff.mpr c18
        subst c18
        have H1 : ((ghost_Fine.f kj4 (wrap64 (a0)) (wrap64 (a1)) (wrap64 ((wrap64 (a1)) + t123))).bind fun t128 => (if t128 = true then ((ghost_Fine.f kj4 (wrap64 (a0)) (wrap64 (a1)) (wrap64 ((wrap64 ((wrap64 (a1)) + t123)) + 1))).bind fun t129 => (if t129 = true then (chronobatelaw18_GhostEdges.j1 kj4 a2 (wrap64 (a0)) (wrap64 (a1)) true) else ((ghost_Fine.f kj4 (wrap64 (a0)) (wrap64 (a1)) (wrap64 ((wrap64 (a1)) - t123))).bind fun t130 => (if t130 = true then (if (wrap64 ((wrap64 ((wrap64 (a1)) - t123)) - 1)) ≥ 0 then ((ghost_Fine.f kj4 (wrap64 (a0)) (wrap64 (a1)) (wrap64 ((wrap64 ((wrap64 (a1)) - t123)) - 1))).bind fun t131 => (chronobatelaw18_GhostEdges.j1 kj4 a2 (wrap64 (a0)) (wrap64 (a1)) t131)) else (chronobatelaw18_GhostEdges.j1 kj4 a2 (wrap64 (a0)) (wrap64 (a1)) false)) else (chronobatelaw18_GhostEdges.j1 kj4 a2 (wrap64 (a0)) (wrap64 (a1)) true))))) else (chronobatelaw18_GhostEdges.j1 kj4 a2 (wrap64 (a0)) (wrap64 (a1)) true))) = some r := by rw [if_neg (show ¬ (false = true) by decide)] at H; exact H
        clear H
        have H := H1
        clear H1
        have HC19 := Aside0.mk H
        clear H
        go_upto_region 6 with (fail)
        go_cut [77] (fun v77 wc => ∃ (kq : Nat) (x77_18 : Bool), v77 = .bool x77_18 ∧ Aside0 (chronobatelaw18_GhostEdges.j1 kq a2 (wrap64 (a0)) (wrap64 (a1)) x77_18 = some r) ∧ Aside0 (kq ≤ kj4) ∧ Aside0 (Below w.heap.size w wc))
        case first =>
          have H := HC19.out
          clear HC19
          replace H := Option.bind_eq_some_iff.mp H
          obtain ⟨t128, A200, H⟩ := H
          replace H : (if t128 = true then ((ghost_Fine.f kj4 (wrap64 (a0)) (wrap64 (a1)) (wrap64 ((wrap64 ((wrap64 (a1)) + t123)) + 1))).bind fun t129 => (if t129 = true then (chronobatelaw18_GhostEdges.j1 kj4 a2 (wrap64 (a0)) (wrap64 (a1)) true) else ((ghost_Fine.f kj4 (wrap64 (a0)) (wrap64 (a1)) (wrap64 ((wrap64 (a1)) - t123))).bind fun t130 => (if t130 = true then (if (wrap64 ((wrap64 ((wrap64 (a1)) - t123)) - 1)) ≥ 0 then ((ghost_Fine.f kj4 (wrap64 (a0)) (wrap64 (a1)) (wrap64 ((wrap64 ((wrap64 (a1)) - t123)) - 1))).bind fun t131 => (chronobatelaw18_GhostEdges.j1 kj4 a2 (wrap64 (a0)) (wrap64 (a1)) t131)) else (chronobatelaw18_GhostEdges.j1 kj4 a2 (wrap64 (a0)) (wrap64 (a1)) false)) else (chronobatelaw18_GhostEdges.j1 kj4 a2 (wrap64 (a0)) (wrap64 (a1)) true))))) else (chronobatelaw18_GhostEdges.j1 kj4 a2 (wrap64 (a0)) (wrap64 (a1)) true)) = some r := H
          have A20 := Aside0.mk A200
          clear A200
          by_cases c21 : t128 = true
          · subst c21
            have H1 : ((ghost_Fine.f kj4 (wrap64 (a0)) (wrap64 (a1)) (wrap64 ((wrap64 ((wrap64 (a1)) + t123)) + 1))).bind fun t129 => (if t129 = true then (chronobatelaw18_GhostEdges.j1 kj4 a2 (wrap64 (a0)) (wrap64 (a1)) true) else ((ghost_Fine.f kj4 (wrap64 (a0)) (wrap64 (a1)) (wrap64 ((wrap64 (a1)) - t123))).bind fun t130 => (if t130 = true then (if (wrap64 ((wrap64 ((wrap64 (a1)) - t123)) - 1)) ≥ 0 then ((ghost_Fine.f kj4 (wrap64 (a0)) (wrap64 (a1)) (wrap64 ((wrap64 ((wrap64 (a1)) - t123)) - 1))).bind fun t131 => (chronobatelaw18_GhostEdges.j1 kj4 a2 (wrap64 (a0)) (wrap64 (a1)) t131)) else (chronobatelaw18_GhostEdges.j1 kj4 a2 (wrap64 (a0)) (wrap64 (a1)) false)) else (chronobatelaw18_GhostEdges.j1 kj4 a2 (wrap64 (a0)) (wrap64 (a1)) true))))) = some r := by rw [if_pos rfl] at H; exact H
            clear H
            have H := H1
            clear H1
            replace H := Option.bind_eq_some_iff.mp H
            obtain ⟨t129, A220, H⟩ := H
            replace H : (if t129 = true then (chronobatelaw18_GhostEdges.j1 kj4 a2 (wrap64 (a0)) (wrap64 (a1)) true) else ((ghost_Fine.f kj4 (wrap64 (a0)) (wrap64 (a1)) (wrap64 ((wrap64 (a1)) - t123))).bind fun t130 => (if t130 = true then (if (wrap64 ((wrap64 ((wrap64 (a1)) - t123)) - 1)) ≥ 0 then ((ghost_Fine.f kj4 (wrap64 (a0)) (wrap64 (a1)) (wrap64 ((wrap64 ((wrap64 (a1)) - t123)) - 1))).bind fun t131 => (chronobatelaw18_GhostEdges.j1 kj4 a2 (wrap64 (a0)) (wrap64 (a1)) t131)) else (chronobatelaw18_GhostEdges.j1 kj4 a2 (wrap64 (a0)) (wrap64 (a1)) false)) else (chronobatelaw18_GhostEdges.j1 kj4 a2 (wrap64 (a0)) (wrap64 (a1)) true)))) = some r := H
            have A22 := Aside0.mk A220
            clear A220
            by_cases c23 : t129 = true
            · subst c23
              have H1 : (chronobatelaw18_GhostEdges.j1 kj4 a2 (wrap64 (a0)) (wrap64 (a1)) true) = some r := by rw [if_pos rfl] at H; exact H
              clear H
              have H := H1
              clear H1
              have H' := Aside0.mk H
              clear H
              go_wp2_with (first | ((with_reducible refine gate_callee (f := 10) rfl ?_); refine goesL_ (some 42) rfl rfl Try.func10 (by kernel_rfl) rfl #[.int .i64 (wrap64 (a0)), .int .i64 (wrap64 (a1)), .int .i64 (wrap64 ((wrap64 (a1)) + t123))] rfl (by (try simp only [List.map_toArray, List.map_cons, List.map_nil]); first | done | rfl | (simp only [List.length_drop, List.length_take]; rfl)) ?_; (with_reducible refine (ghost_Fine.calls kj4 (wrap64 (a0)) (wrap64 (a1)) (wrap64 ((wrap64 (a1)) + t123)) true _ A20.out).mono ?_); rintro e w24 ⟨rfl, hb⟩; refine ⟨_, rfl, ?_⟩; have n0_ := Aside0.mk (below_step (by repeat (first | (with_reducible first | exact HB.out | apply below_alloc | apply pw_below_drewN | apply below_drew1) | exact HB.out)) hb); clear HB; have HB := n0_; clear n0_; (try clear hb); (try clear hb2); (try clear hk); (try clear hi)) | (go_at_call 10; (with_reducible refine (ghost_Fine.calls kj4 (wrap64 (a0)) (wrap64 (a1)) (wrap64 ((wrap64 ((wrap64 (a1)) + t123)) + 1)) true _ A22.out).mono ?_); rintro e w25 ⟨rfl, hb⟩; have n0_ := Aside0.mk (below_step (by repeat (first | (with_reducible first | exact HB.out | apply below_alloc | apply pw_below_drewN | apply below_drew1) | exact HB.out)) hb); clear HB; have HB := n0_; clear n0_; (try clear hb); (try clear hb2); (try clear hk); (try clear hi)))
              go_meet
              case rel => exact ⟨_, (true), (by first | rfl | (simp; done) | (simp [*]; done)), H', ⟨by have := HJ4.out; first | omega | exact Nat.le_refl _⟩, ⟨by repeat (first | (with_reducible first | exact HB.out | apply below_alloc | apply pw_below_drewN | apply below_drew1) | exact HB.out)⟩⟩
            · replace c23 := Bool.eq_false_iff.mpr c23
              subst c23
              have H1 : ((ghost_Fine.f kj4 (wrap64 (a0)) (wrap64 (a1)) (wrap64 ((wrap64 (a1)) - t123))).bind fun t130 => (if t130 = true then (if (wrap64 ((wrap64 ((wrap64 (a1)) - t123)) - 1)) ≥ 0 then ((ghost_Fine.f kj4 (wrap64 (a0)) (wrap64 (a1)) (wrap64 ((wrap64 ((wrap64 (a1)) - t123)) - 1))).bind fun t131 => (chronobatelaw18_GhostEdges.j1 kj4 a2 (wrap64 (a0)) (wrap64 (a1)) t131)) else (chronobatelaw18_GhostEdges.j1 kj4 a2 (wrap64 (a0)) (wrap64 (a1)) false)) else (chronobatelaw18_GhostEdges.j1 kj4 a2 (wrap64 (a0)) (wrap64 (a1)) true))) = some r := by rw [if_neg (show ¬ (false = true) by decide)] at H; exact H
              clear H
              have H := H1
              clear H1
              replace H := Option.bind_eq_some_iff.mp H
              obtain ⟨t130, A260, H⟩ := H
              replace H : (if t130 = true then (if (wrap64 ((wrap64 ((wrap64 (a1)) - t123)) - 1)) ≥ 0 then ((ghost_Fine.f kj4 (wrap64 (a0)) (wrap64 (a1)) (wrap64 ((wrap64 ((wrap64 (a1)) - t123)) - 1))).bind fun t131 => (chronobatelaw18_GhostEdges.j1 kj4 a2 (wrap64 (a0)) (wrap64 (a1)) t131)) else (chronobatelaw18_GhostEdges.j1 kj4 a2 (wrap64 (a0)) (wrap64 (a1)) false)) else (chronobatelaw18_GhostEdges.j1 kj4 a2 (wrap64 (a0)) (wrap64 (a1)) true)) = some r := H
              have A26 := Aside0.mk A260
              clear A260
              by_cases c27 : t130 = true
              · subst c27
                have H1 : (if (wrap64 ((wrap64 ((wrap64 (a1)) - t123)) - 1)) ≥ 0 then ((ghost_Fine.f kj4 (wrap64 (a0)) (wrap64 (a1)) (wrap64 ((wrap64 ((wrap64 (a1)) - t123)) - 1))).bind fun t131 => (chronobatelaw18_GhostEdges.j1 kj4 a2 (wrap64 (a0)) (wrap64 (a1)) t131)) else (chronobatelaw18_GhostEdges.j1 kj4 a2 (wrap64 (a0)) (wrap64 (a1)) false)) = some r := by rw [if_pos rfl] at H; exact H
                clear H
                have H := H1
                clear H1
                by_cases c28 : (wrap64 ((wrap64 ((wrap64 (a1)) - t123)) - 1)) ≥ 0
                · rw [if_pos c28] at H
                  have c28b0 : decide (0 ≤ (wrap64 ((wrap64 ((wrap64 (a1)) - t123)) - 1))) = true := decide_eq_true c28
                  clear c28
                  (first | rw [c28b0] | (simp only [i64_w, i32_w]; rw [c28b0]) | skip)
                  replace H := Option.bind_eq_some_iff.mp H
                  obtain ⟨t131, A290, H⟩ := H
                  replace H : (chronobatelaw18_GhostEdges.j1 kj4 a2 (wrap64 (a0)) (wrap64 (a1)) t131) = some r := H
                  have A29 := Aside0.mk A290
                  clear A290
                  have H' := Aside0.mk H
                  clear H
                  go_wp2_with (first | ((with_reducible refine gate_callee (f := 10) rfl ?_); refine goesL_ (some 42) rfl rfl Try.func10 (by kernel_rfl) rfl #[.int .i64 (wrap64 (a0)), .int .i64 (wrap64 (a1)), .int .i64 (wrap64 ((wrap64 (a1)) + t123))] rfl (by (try simp only [List.map_toArray, List.map_cons, List.map_nil]); first | done | rfl | (simp only [List.length_drop, List.length_take]; rfl)) ?_; (with_reducible refine (ghost_Fine.calls kj4 (wrap64 (a0)) (wrap64 (a1)) (wrap64 ((wrap64 (a1)) + t123)) true _ A20.out).mono ?_); rintro e w30 ⟨rfl, hb⟩; refine ⟨_, rfl, ?_⟩; have n0_ := Aside0.mk (below_step (by repeat (first | (with_reducible first | exact HB.out | apply below_alloc | apply pw_below_drewN | apply below_drew1) | exact HB.out)) hb); clear HB; have HB := n0_; clear n0_; (try clear hb); (try clear hb2); (try clear hk); (try clear hi)) | (go_at_call 10; (with_reducible refine (ghost_Fine.calls kj4 (wrap64 (a0)) (wrap64 (a1)) (wrap64 ((wrap64 ((wrap64 (a1)) + t123)) + 1)) false _ A22.out).mono ?_); rintro e w31 ⟨rfl, hb⟩; have n0_ := Aside0.mk (below_step (by repeat (first | (with_reducible first | exact HB.out | apply below_alloc | apply pw_below_drewN | apply below_drew1) | exact HB.out)) hb); clear HB; have HB := n0_; clear n0_; (try clear hb); (try clear hb2); (try clear hk); (try clear hi)) | (go_at_call 10; (with_reducible refine (ghost_Fine.calls kj4 (wrap64 (a0)) (wrap64 (a1)) (wrap64 ((wrap64 (a1)) - t123)) true _ A26.out).mono ?_); rintro e w32 ⟨rfl, hb⟩; have n0_ := Aside0.mk (below_step (by repeat (first | (with_reducible first | exact HB.out | apply below_alloc | apply pw_below_drewN | apply below_drew1) | exact HB.out)) hb); clear HB; have HB := n0_; clear n0_; (try clear hb); (try clear hb2); (try clear hk); (try clear hi)) | (go_at_call 10; (with_reducible refine (ghost_Fine.calls kj4 (wrap64 (a0)) (wrap64 (a1)) (wrap64 ((wrap64 ((wrap64 (a1)) - t123)) - 1)) t131 _ A29.out).mono ?_); rintro e w33 ⟨rfl, hb⟩; have n0_ := Aside0.mk (below_step (by repeat (first | (with_reducible first | exact HB.out | apply below_alloc | apply pw_below_drewN | apply below_drew1) | exact HB.out)) hb); clear HB; have HB := n0_; clear n0_; (try clear hb); (try clear hb2); (try clear hk); (try clear hi)))
                  go_meet
                  case rel => exact ⟨_, (t131), (by first | rfl | (simp; done) | (simp [*]; done)), H', ⟨by have := HJ4.out; first | omega | exact Nat.le_refl _⟩, ⟨by repeat (first | (with_reducible first | exact HB.out | apply below_alloc | apply pw_below_drewN | apply below_drew1) | exact HB.out)⟩⟩
                · rw [if_neg c28] at H
                  have c28b0 : decide (0 ≤ (wrap64 ((wrap64 ((wrap64 (a1)) - t123)) - 1))) = false := decide_eq_false c28
                  clear c28
                  (first | rw [c28b0] | (simp only [i64_w, i32_w]; rw [c28b0]) | skip)
                  have H' := Aside0.mk H
                  clear H
                  go_wp2_with (first | ((with_reducible refine gate_callee (f := 10) rfl ?_); refine goesL_ (some 42) rfl rfl Try.func10 (by kernel_rfl) rfl #[.int .i64 (wrap64 (a0)), .int .i64 (wrap64 (a1)), .int .i64 (wrap64 ((wrap64 (a1)) + t123))] rfl (by (try simp only [List.map_toArray, List.map_cons, List.map_nil]); first | done | rfl | (simp only [List.length_drop, List.length_take]; rfl)) ?_; (with_reducible refine (ghost_Fine.calls kj4 (wrap64 (a0)) (wrap64 (a1)) (wrap64 ((wrap64 (a1)) + t123)) true _ A20.out).mono ?_); rintro e w34 ⟨rfl, hb⟩; refine ⟨_, rfl, ?_⟩; have n0_ := Aside0.mk (below_step (by repeat (first | (with_reducible first | exact HB.out | apply below_alloc | apply pw_below_drewN | apply below_drew1) | exact HB.out)) hb); clear HB; have HB := n0_; clear n0_; (try clear hb); (try clear hb2); (try clear hk); (try clear hi)) | (go_at_call 10; (with_reducible refine (ghost_Fine.calls kj4 (wrap64 (a0)) (wrap64 (a1)) (wrap64 ((wrap64 ((wrap64 (a1)) + t123)) + 1)) false _ A22.out).mono ?_); rintro e w35 ⟨rfl, hb⟩; have n0_ := Aside0.mk (below_step (by repeat (first | (with_reducible first | exact HB.out | apply below_alloc | apply pw_below_drewN | apply below_drew1) | exact HB.out)) hb); clear HB; have HB := n0_; clear n0_; (try clear hb); (try clear hb2); (try clear hk); (try clear hi)) | (go_at_call 10; (with_reducible refine (ghost_Fine.calls kj4 (wrap64 (a0)) (wrap64 (a1)) (wrap64 ((wrap64 (a1)) - t123)) true _ A26.out).mono ?_); rintro e w36 ⟨rfl, hb⟩; have n0_ := Aside0.mk (below_step (by repeat (first | (with_reducible first | exact HB.out | apply below_alloc | apply pw_below_drewN | apply below_drew1) | exact HB.out)) hb); clear HB; have HB := n0_; clear n0_; (try clear hb); (try clear hb2); (try clear hk); (try clear hi)))
                  go_meet
                  case rel => exact ⟨_, (false), (by first | rfl | (simp; done) | (simp [*]; done)), H', ⟨by have := HJ4.out; first | omega | exact Nat.le_refl _⟩, ⟨by repeat (first | (with_reducible first | exact HB.out | apply below_alloc | apply pw_below_drewN | apply below_drew1) | exact HB.out)⟩⟩
              · replace c27 := Bool.eq_false_iff.mpr c27
                subst c27
                have H1 : (chronobatelaw18_GhostEdges.j1 kj4 a2 (wrap64 (a0)) (wrap64 (a1)) true) = some r := by rw [if_neg (show ¬ (false = true) by decide)] at H; exact H
                clear H
                have H := H1
                clear H1
                have H' := Aside0.mk H
                clear H
                go_wp2_with (first | ((with_reducible refine gate_callee (f := 10) rfl ?_); refine goesL_ (some 42) rfl rfl Try.func10 (by kernel_rfl) rfl #[.int .i64 (wrap64 (a0)), .int .i64 (wrap64 (a1)), .int .i64 (wrap64 ((wrap64 (a1)) + t123))] rfl (by (try simp only [List.map_toArray, List.map_cons, List.map_nil]); first | done | rfl | (simp only [List.length_drop, List.length_take]; rfl)) ?_; (with_reducible refine (ghost_Fine.calls kj4 (wrap64 (a0)) (wrap64 (a1)) (wrap64 ((wrap64 (a1)) + t123)) true _ A20.out).mono ?_); rintro e w37 ⟨rfl, hb⟩; refine ⟨_, rfl, ?_⟩; have n0_ := Aside0.mk (below_step (by repeat (first | (with_reducible first | exact HB.out | apply below_alloc | apply pw_below_drewN | apply below_drew1) | exact HB.out)) hb); clear HB; have HB := n0_; clear n0_; (try clear hb); (try clear hb2); (try clear hk); (try clear hi)) | (go_at_call 10; (with_reducible refine (ghost_Fine.calls kj4 (wrap64 (a0)) (wrap64 (a1)) (wrap64 ((wrap64 ((wrap64 (a1)) + t123)) + 1)) false _ A22.out).mono ?_); rintro e w38 ⟨rfl, hb⟩; have n0_ := Aside0.mk (below_step (by repeat (first | (with_reducible first | exact HB.out | apply below_alloc | apply pw_below_drewN | apply below_drew1) | exact HB.out)) hb); clear HB; have HB := n0_; clear n0_; (try clear hb); (try clear hb2); (try clear hk); (try clear hi)) | (go_at_call 10; (with_reducible refine (ghost_Fine.calls kj4 (wrap64 (a0)) (wrap64 (a1)) (wrap64 ((wrap64 (a1)) - t123)) false _ A26.out).mono ?_); rintro e w39 ⟨rfl, hb⟩; have n0_ := Aside0.mk (below_step (by repeat (first | (with_reducible first | exact HB.out | apply below_alloc | apply pw_below_drewN | apply below_drew1) | exact HB.out)) hb); clear HB; have HB := n0_; clear n0_; (try clear hb); (try clear hb2); (try clear hk); (try clear hi)))
                go_meet
                case rel => exact ⟨_, (true), (by first | rfl | (simp; done) | (simp [*]; done)), H', ⟨by have := HJ4.out; first | omega | exact Nat.le_refl _⟩, ⟨by repeat (first | (with_reducible first | exact HB.out | apply below_alloc | apply pw_below_drewN | apply below_drew1) | exact HB.out)⟩⟩
          · replace c21 := Bool.eq_false_iff.mpr c21
            subst c21
            have H1 : (chronobatelaw18_GhostEdges.j1 kj4 a2 (wrap64 (a0)) (wrap64 (a1)) true) = some r := by rw [if_neg (show ¬ (false = true) by decide)] at H; exact H
            clear H
            have H := H1
            clear H1
            have H' := Aside0.mk H
            clear H
            go_wp2_with (first | ((with_reducible refine gate_callee (f := 10) rfl ?_); refine goesL_ (some 42) rfl rfl Try.func10 (by kernel_rfl) rfl #[.int .i64 (wrap64 (a0)), .int .i64 (wrap64 (a1)), .int .i64 (wrap64 ((wrap64 (a1)) + t123))] rfl (by (try simp only [List.map_toArray, List.map_cons, List.map_nil]); first | done | rfl | (simp only [List.length_drop, List.length_take]; rfl)) ?_; (with_reducible refine (ghost_Fine.calls kj4 (wrap64 (a0)) (wrap64 (a1)) (wrap64 ((wrap64 (a1)) + t123)) false _ A20.out).mono ?_); rintro e w40 ⟨rfl, hb⟩; refine ⟨_, rfl, ?_⟩; have n0_ := Aside0.mk (below_step (by repeat (first | (with_reducible first | exact HB.out | apply below_alloc | apply pw_below_drewN | apply below_drew1) | exact HB.out)) hb); clear HB; have HB := n0_; clear n0_; (try clear hb); (try clear hb2); (try clear hk); (try clear hi)))
            go_meet
            case rel => exact ⟨_, (true), (by first | rfl | (simp; done) | (simp [*]; done)), H', ⟨by have := HJ4.out; first | omega | exact Nat.le_refl _⟩, ⟨by repeat (first | (with_reducible first | exact HB.out | apply below_alloc | apply pw_below_drewN | apply below_drew1) | exact HB.out)⟩⟩
        case rest =>
          clear HC19
          try clear c1
          try clear c2
          try clear p2
          try clear p6
          try clear c7
          try clear c8
          try clear c10
          try clear c18
          try clear c20
          try clear c21
          try clear c23
          try clear c27
          try clear c28
          try clear c28b0
          try clear p2
          try clear p6
          obtain ⟨kq, x77_18, rfl, HA, HJ18, HB⟩ := hcut
          cases kq with
          | zero => exact absurd HA.out (by simp [chronobatelaw18_GhostEdges.j1])
          | succ kj18 =>
            have H := HA.out
            clear HA
            simp only [chronobatelaw18_GhostEdges.j1] at H
            by_cases c41 : x77_18 = true
            · subst c41
              have H1 : (some false) = some r := by rw [if_pos rfl] at H; exact H
              clear H
              have H := H1
              clear H1
              obtain rfl := Option.some.inj H
              go_wp2
              go_ret
              exact ⟨by first | rfl | (simp [errW_none, errW_some] <;> rfl) | (simp [*, errW_none, errW_some] <;> rfl), by repeat (first | (with_reducible first | exact HB.out | apply below_alloc | apply pw_below_drewN | apply below_drew1) | exact HB.out)⟩
            · replace c41 := Bool.eq_false_iff.mpr c41
              subst c41
              have H1 : ((chronobatelaw18_alive.f kj18).bind fun t132 => (if t132 = true then ((ghost_Fine.f kj18 (wrap64 (a0)) (wrap64 (a1)) (wrap64 ((wrap64 (a1)) + (wrap64 (a2))))).bind fun t133 => (if t133 = true then ((ghost_Fine.f kj18 (wrap64 ((wrap64 (a0)) + 1)) (wrap64 (a1)) (wrap64 ((wrap64 (a1)) + (wrap64 (a2))))).bind fun t134 => (some t134)) else (some true))) else (some false))) = some r := by rw [if_neg (show ¬ (false = true) by decide)] at H; exact H
              clear H
              have H := H1
              clear H1
              replace H := Option.bind_eq_some_iff.mp H
              obtain ⟨t132, A420, H⟩ := H
              replace H : (if t132 = true then ((ghost_Fine.f kj18 (wrap64 (a0)) (wrap64 (a1)) (wrap64 ((wrap64 (a1)) + (wrap64 (a2))))).bind fun t133 => (if t133 = true then ((ghost_Fine.f kj18 (wrap64 ((wrap64 (a0)) + 1)) (wrap64 (a1)) (wrap64 ((wrap64 (a1)) + (wrap64 (a2))))).bind fun t134 => (some t134)) else (some true))) else (some false)) = some r := H
              have A42 := Aside0.mk A420
              clear A420
              by_cases c43 : t132 = true
              · subst c43
                have H1 : ((ghost_Fine.f kj18 (wrap64 (a0)) (wrap64 (a1)) (wrap64 ((wrap64 (a1)) + (wrap64 (a2))))).bind fun t133 => (if t133 = true then ((ghost_Fine.f kj18 (wrap64 ((wrap64 (a0)) + 1)) (wrap64 (a1)) (wrap64 ((wrap64 (a1)) + (wrap64 (a2))))).bind fun t134 => (some t134)) else (some true))) = some r := by rw [if_pos rfl] at H; exact H
                clear H
                have H := H1
                clear H1
                replace H := Option.bind_eq_some_iff.mp H
                obtain ⟨t133, A440, H⟩ := H
                replace H : (if t133 = true then ((ghost_Fine.f kj18 (wrap64 ((wrap64 (a0)) + 1)) (wrap64 (a1)) (wrap64 ((wrap64 (a1)) + (wrap64 (a2))))).bind fun t134 => (some t134)) else (some true)) = some r := H
                have A44 := Aside0.mk A440
                clear A440
                by_cases c45 : t133 = true
                · subst c45
                  have H1 : ((ghost_Fine.f kj18 (wrap64 ((wrap64 (a0)) + 1)) (wrap64 (a1)) (wrap64 ((wrap64 (a1)) + (wrap64 (a2))))).bind fun t134 => (some t134)) = some r := by rw [if_pos rfl] at H; exact H
                  clear H
                  have H := H1
                  clear H1
                  replace H := Option.bind_eq_some_iff.mp H
                  obtain ⟨t134, A460, H⟩ := H
                  replace H : (some t134) = some r := H
                  have A46 := Aside0.mk A460
                  clear A460
                  obtain rfl := Option.some.inj H
                  go_wp2_with (first | ((with_reducible refine gate_callee (f := 9) rfl ?_); refine goesL_ (some 82) rfl rfl Try.func9 (by kernel_rfl) rfl #[] rfl (by (try simp only [List.map_toArray, List.map_cons, List.map_nil]); first | done | rfl | (simp only [List.length_drop, List.length_take]; rfl)) ?_; (with_reducible refine (chronobatelaw18_alive.calls kj18  true _ A42.out).mono ?_); rintro e w47 ⟨rfl, hb⟩; refine ⟨_, rfl, ?_⟩; have n0_ := Aside0.mk (below_step (by repeat (first | (with_reducible first | exact HB.out | apply below_alloc | apply pw_below_drewN | apply below_drew1) | exact HB.out)) hb); clear HB; have HB := n0_; clear n0_; (try clear hb); (try clear hb2); (try clear hk); (try clear hi)) | (go_at_call 10; (with_reducible refine (ghost_Fine.calls kj18 (wrap64 (a0)) (wrap64 (a1)) (wrap64 ((wrap64 (a1)) + (wrap64 (a2)))) true _ A44.out).mono ?_); rintro e w48 ⟨rfl, hb⟩; have n0_ := Aside0.mk (below_step (by repeat (first | (with_reducible first | exact HB.out | apply below_alloc | apply pw_below_drewN | apply below_drew1) | exact HB.out)) hb); clear HB; have HB := n0_; clear n0_; (try clear hb); (try clear hb2); (try clear hk); (try clear hi)) | (go_at_call 10; (with_reducible refine (ghost_Fine.calls kj18 (wrap64 ((wrap64 (a0)) + 1)) (wrap64 (a1)) (wrap64 ((wrap64 (a1)) + (wrap64 (a2)))) t134 _ A46.out).mono ?_); rintro e w49 ⟨rfl, hb⟩; have n0_ := Aside0.mk (below_step (by repeat (first | (with_reducible first | exact HB.out | apply below_alloc | apply pw_below_drewN | apply below_drew1) | exact HB.out)) hb); clear HB; have HB := n0_; clear n0_; (try clear hb); (try clear hb2); (try clear hk); (try clear hi)))
                  go_ret
                  exact ⟨by first | rfl | (simp [errW_none, errW_some] <;> rfl) | (simp [*, errW_none, errW_some] <;> rfl), by repeat (first | (with_reducible first | exact HB.out | apply below_alloc | apply pw_below_drewN | apply below_drew1) | exact HB.out)⟩
                · replace c45 := Bool.eq_false_iff.mpr c45
                  subst c45
                  have H1 : (some true) = some r := by rw [if_neg (show ¬ (false = true) by decide)] at H; exact H
                  clear H
                  have H := H1
                  clear H1
                  obtain rfl := Option.some.inj H
                  go_wp2_with (first | ((with_reducible refine gate_callee (f := 9) rfl ?_); refine goesL_ (some 82) rfl rfl Try.func9 (by kernel_rfl) rfl #[] rfl (by (try simp only [List.map_toArray, List.map_cons, List.map_nil]); first | done | rfl | (simp only [List.length_drop, List.length_take]; rfl)) ?_; (with_reducible refine (chronobatelaw18_alive.calls kj18  true _ A42.out).mono ?_); rintro e w50 ⟨rfl, hb⟩; refine ⟨_, rfl, ?_⟩; have n0_ := Aside0.mk (below_step (by repeat (first | (with_reducible first | exact HB.out | apply below_alloc | apply pw_below_drewN | apply below_drew1) | exact HB.out)) hb); clear HB; have HB := n0_; clear n0_; (try clear hb); (try clear hb2); (try clear hk); (try clear hi)) | (go_at_call 10; (with_reducible refine (ghost_Fine.calls kj18 (wrap64 (a0)) (wrap64 (a1)) (wrap64 ((wrap64 (a1)) + (wrap64 (a2)))) false _ A44.out).mono ?_); rintro e w51 ⟨rfl, hb⟩; have n0_ := Aside0.mk (below_step (by repeat (first | (with_reducible first | exact HB.out | apply below_alloc | apply pw_below_drewN | apply below_drew1) | exact HB.out)) hb); clear HB; have HB := n0_; clear n0_; (try clear hb); (try clear hb2); (try clear hk); (try clear hi)))
                  go_ret
                  exact ⟨by first | rfl | (simp [errW_none, errW_some] <;> rfl) | (simp [*, errW_none, errW_some] <;> rfl), by repeat (first | (with_reducible first | exact HB.out | apply below_alloc | apply pw_below_drewN | apply below_drew1) | exact HB.out)⟩
              · replace c43 := Bool.eq_false_iff.mpr c43
                subst c43
                have H1 : (some false) = some r := by rw [if_neg (show ¬ (false = true) by decide)] at H; exact H
                clear H
                have H := H1
                clear H1
                obtain rfl := Option.some.inj H
                go_wp2_with (first | ((with_reducible refine gate_callee (f := 9) rfl ?_); refine goesL_ (some 82) rfl rfl Try.func9 (by kernel_rfl) rfl #[] rfl (by (try simp only [List.map_toArray, List.map_cons, List.map_nil]); first | done | rfl | (simp only [List.length_drop, List.length_take]; rfl)) ?_; (with_reducible refine (chronobatelaw18_alive.calls kj18  false _ A42.out).mono ?_); rintro e w52 ⟨rfl, hb⟩; refine ⟨_, rfl, ?_⟩; have n0_ := Aside0.mk (below_step (by repeat (first | (with_reducible first | exact HB.out | apply below_alloc | apply pw_below_drewN | apply below_drew1) | exact HB.out)) hb); clear HB; have HB := n0_; clear n0_; (try clear hb); (try clear hb2); (try clear hk); (try clear hi)))
                go_ret
                exact ⟨by first | rfl | (simp [errW_none, errW_some] <;> rfl) | (simp [*, errW_none, errW_some] <;> rfl), by repeat (first | (with_reducible first | exact HB.out | apply below_alloc | apply pw_below_drewN | apply below_drew1) | exact HB.out)⟩

/-- THE ONE PURE STATEMENT of chronobatelaw18_GhostEdges: yours. -/
def chronobatelaw18_GhostEdges.Pure : Prop := ∀ (a0 : Int) (a1 : Int) (a2 : Int), (Lit.int .u16 a0).wf = true → (Lit.int .u32 a1).wf = true → (Lit.int .i16 a2).wf = true → ∃ k, chronobatelaw18_GhostEdges.f k a0 a1 a2 = some true
theorem chronobatelaw18_GhostEdges.walk (P : chronobatelaw18_GhostEdges.Pure) (a0 : Int) (a1 : Int) (a2 : Int) (w : World) (w0 : (Lit.int .u16 a0).wf = true) (w1 : (Lit.int .u32 a1).wf = true) (w2 : (Lit.int .i16 a2).wf = true) :
    Calls Try.prog 7 #[.int .u16 a0, .int .u32 a1, .int .i16 a2] w fun e w' => e = .returned (.bool true) ∧ Below w.heap.size w w' := by
  obtain ⟨k, h⟩ := P a0 a1 a2 w0 w1 w2
  refine (chronobatelaw18_GhostEdges.calls k a0 a1 a2 true w h).mono ?_
  rintro e w' ⟨rfl, hd⟩
  exact ⟨rfl, hd⟩

end Go.Proofs.Ytmniekljfhecaaa.G
