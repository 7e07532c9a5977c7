-- Written by a program of this session out of the translation (wip/patch_print.py, wip/print2.sh). Lean checks it.
import Derived.Test.YtnagappcpmnkbaaGx0
import Derived.Test.YtnagappcpmnkbaaGx6
import Derived.Test.YtnagappcpmnkbaaGx8
namespace Go.Proofs.Ytnagappcpmnkbaa.G
open Go.RowKit Go.Proofs.YtnagappcpmnkbaaW.PrintWords Go.Proofs.YtnagappcpmnkbaaW.PrintLast Go.Proofs.YtnagappcpmnkbaaW.PrintMore
attribute [local go_sem] max2_int min2_int max_two min_two max_three min_three max_four min_four   -- for this text's walks alone
set_option linter.unusedVariables false
set_option linter.unusedSimpArgs false

/-! ### chronobatelaw08_SampleOrder: function 9 -/
def chronobatelaw08_SampleOrder.j0 : Nat → Bool → Bool → Int → Int → Int → Int → Int → Int → Int → Int → Int → Int → Int → Int → Option (Bool)
  | 0, _, _, _, _, _, _, _, _, _, _, _, _, _, _ => none
  | k + 1, x7, x42, x177000, x177001, x177002, x177003, x178000, x178001, x178002, x178003, x179000, x179001, x179002, x179003 => if x42 = true then (some false) else ((chronobatelaw08_alive.f k).bind fun t185 => (if t185 = true then (if x7 = true then ((sample_Better.f x178000 x178001 x178002 x178003 x179000 x179001 x179002 x179003).bind fun t186 => (if t186 = true then ((sample_Better.f x177000 x177001 x177002 x177003 x179000 x179001 x179002 x179003).bind fun t187 => (some t187)) else (some true))) else (some true)) else (some false)))
def chronobatelaw08_SampleOrder.f (k : Nat) (a0_0 : Int) (a0_1 : Int) (a0_2 : Int) (a0_3 : Int) (a1_0 : Int) (a1_1 : Int) (a1_2 : Int) (a1_3 : Int) (a2_0 : Int) (a2_1 : Int) (a2_2 : Int) (a2_3 : Int) : Option (Bool) := (sample_Better.f a0_0 a0_1 a0_2 a0_3 a1_0 a1_1 a1_2 a1_3).bind fun t179 => ((sample_Better.f a1_0 a1_1 a1_2 a1_3 a0_0 a0_1 a0_2 a0_3).bind fun t180 => (if t179 = true then (if t180 = true then (chronobatelaw08_SampleOrder.j0 k t179 true a0_0 a0_1 a0_2 a0_3 a1_0 a1_1 a1_2 a1_3 a2_0 a2_1 a2_2 a2_3) else (if a0_1 = a1_1 then (if (true != (a0_2 != a1_2)) = true then (chronobatelaw08_SampleOrder.j0 k t179 true a0_0 a0_1 a0_2 a0_3 a1_0 a1_1 a1_2 a1_3 a2_0 a2_1 a2_2 a2_3) else ((sample_Better.f a0_0 a0_1 a0_2 a0_3 a0_0 a0_1 a0_2 a0_3).bind fun t181 => (chronobatelaw08_SampleOrder.j0 k t179 t181 a0_0 a0_1 a0_2 a0_3 a1_0 a1_1 a1_2 a1_3 a2_0 a2_1 a2_2 a2_3))) else (if (true != true) = true then (chronobatelaw08_SampleOrder.j0 k t179 true a0_0 a0_1 a0_2 a0_3 a1_0 a1_1 a1_2 a1_3 a2_0 a2_1 a2_2 a2_3) else ((sample_Better.f a0_0 a0_1 a0_2 a0_3 a0_0 a0_1 a0_2 a0_3).bind fun t182 => (chronobatelaw08_SampleOrder.j0 k t179 t182 a0_0 a0_1 a0_2 a0_3 a1_0 a1_1 a1_2 a1_3 a2_0 a2_1 a2_2 a2_3))))) else (if a0_1 = a1_1 then (if (t180 != (a0_2 != a1_2)) = true then (chronobatelaw08_SampleOrder.j0 k t179 true a0_0 a0_1 a0_2 a0_3 a1_0 a1_1 a1_2 a1_3 a2_0 a2_1 a2_2 a2_3) else ((sample_Better.f a0_0 a0_1 a0_2 a0_3 a0_0 a0_1 a0_2 a0_3).bind fun t183 => (chronobatelaw08_SampleOrder.j0 k t179 t183 a0_0 a0_1 a0_2 a0_3 a1_0 a1_1 a1_2 a1_3 a2_0 a2_1 a2_2 a2_3))) else (if (t180 != true) = true then (chronobatelaw08_SampleOrder.j0 k t179 true a0_0 a0_1 a0_2 a0_3 a1_0 a1_1 a1_2 a1_3 a2_0 a2_1 a2_2 a2_3) else ((sample_Better.f a0_0 a0_1 a0_2 a0_3 a0_0 a0_1 a0_2 a0_3).bind fun t184 => (chronobatelaw08_SampleOrder.j0 k t179 t184 a0_0 a0_1 a0_2 a0_3 a1_0 a1_1 a1_2 a1_3 a2_0 a2_1 a2_2 a2_3))))))
theorem chronobatelaw08_SampleOrder.mono_l : ∀ k, (∀ y0 y1 y2 y3 y4 y5 y6 y7 y8 y9 y10 y11 y12 y13, LeO (chronobatelaw08_SampleOrder.j0 k y0 y1 y2 y3 y4 y5 y6 y7 y8 y9 y10 y11 y12 y13) (chronobatelaw08_SampleOrder.j0 (k + 1) y0 y1 y2 y3 y4 y5 y6 y7 y8 y9 y10 y11 y12 y13))
  | 0 => fun _ _ _ _ _ _ _ _ _ _ _ _ _ _ r h => by simp [chronobatelaw08_SampleOrder.j0] at h
  | k + 1 => by
    have ih0 := chronobatelaw08_SampleOrder.mono_l k
    · intro y0 y1 y2 y3 y4 y5 y6 y7 y8 y9 y10 y11 y12 y13
      unfold chronobatelaw08_SampleOrder.j0
      repeat' first
      | (with_reducible exact ih0 _ _ _ _ _ _ _ _ _ _ _ _ _ _)
      | (with_reducible exact chronobatelaw08_alive.mono _)
      | (with_reducible exact LeO.refl _)
      | (with_reducible exact LeO.none _)
      | (with_reducible refine LeO.ite ?_ ?_)
      | (with_reducible refine LeO.bind ?_ (fun _ => ?_))
      | exact ih0 _ _ _ _ _ _ _ _ _ _ _ _ _ _
      | exact chronobatelaw08_alive.mono _
      | exact LeO.none _
      | refine LeO.ite ?_ ?_
      | refine LeO.bind ?_ (fun _ => ?_)
theorem chronobatelaw08_SampleOrder.mono : ∀ a0 a1 a2 a3 a4 a5 a6 a7 a8 a9 a10 a11 k, LeO (chronobatelaw08_SampleOrder.f k a0 a1 a2 a3 a4 a5 a6 a7 a8 a9 a10 a11) (chronobatelaw08_SampleOrder.f (k + 1) a0 a1 a2 a3 a4 a5 a6 a7 a8 a9 a10 a11) := by
  intro a0 a1 a2 a3 a4 a5 a6 a7 a8 a9 a10 a11 k
  have ih0 := chronobatelaw08_SampleOrder.mono_l k
  unfold chronobatelaw08_SampleOrder.f
  repeat' first
      | (with_reducible exact ih0 _ _ _ _ _ _ _ _ _ _ _ _ _ _)
      | (with_reducible exact chronobatelaw08_alive.mono _)
      | (with_reducible exact LeO.refl _)
      | (with_reducible exact LeO.none _)
      | (with_reducible refine LeO.ite ?_ ?_)
      | (with_reducible refine LeO.bind ?_ (fun _ => ?_))
      | exact ih0 _ _ _ _ _ _ _ _ _ _ _ _ _ _
      | exact chronobatelaw08_alive.mono _
      | exact LeO.none _
      | refine LeO.ite ?_ ?_
      | refine LeO.bind ?_ (fun _ => ?_)
def chronobatelaw08_SampleOrder.T1 : Bool × List (List Nat × List Nat) := (true, [([], []), ([], []), ([0, 1], [0, 1]), ([], []), ([], []), ([3, 4, 2], [3, 4]), ([2, 5, 0, 1, 2], [2]), ([5, 6, 0, 1, 2, 3, 4, 5, 6], [5])])
def chronobatelaw08_SampleOrder.B1 : List Nat := [0, 0, 3, 0, 0, 31, 63, 127]
theorem chronobatelaw08_SampleOrder.tab1 : rtab .any (opsOf Try.f9 1) = chronobatelaw08_SampleOrder.T1 := by kernel_rfl
theorem chronobatelaw08_SampleOrder.bits1 : waitsOk chronobatelaw08_SampleOrder.T1.2 chronobatelaw08_SampleOrder.B1 = true := by kernel_rfl
set_option maxHeartbeats 8000000 in
set_option maxRecDepth 100000 in
theorem chronobatelaw08_SampleOrder.calls (k : Nat) (a0_0 : Int) (a0_1 : Int) (a0_2 : Int) (a0_3 : Int) (a1_0 : Int) (a1_1 : Int) (a1_2 : Int) (a1_3 : Int) (a2_0 : Int) (a2_1 : Int) (a2_2 : Int) (a2_3 : Int) (r : Bool) (w : World) (h : chronobatelaw08_SampleOrder.f k a0_0 a0_1 a0_2 a0_3 a1_0 a1_1 a1_2 a1_3 a2_0 a2_1 a2_2 a2_3 = some r) :
    Calls Try.prog 9 #[.agg #[.int .i64 a0_0, .int .i64 a0_1, .int .i64 a0_2, .int .i64 a0_3], .agg #[.int .i64 a1_0, .int .i64 a1_1, .int .i64 a1_2, .int .i64 a1_3], .agg #[.int .i64 a2_0, .int .i64 a2_1, .int .i64 a2_2, .int .i64 a2_3]] w fun e w' => e = .returned (.bool r) ∧ Below w.heap.size w w' := by
  have hu38 := Try.underlying38
  have HB := Aside0.mk (Below.refl w.heap.size w)
  have H : ((sample_Better.f a0_0 a0_1 a0_2 a0_3 a1_0 a1_1 a1_2 a1_3).bind fun t179 => ((sample_Better.f a1_0 a1_1 a1_2 a1_3 a0_0 a0_1 a0_2 a0_3).bind fun t180 => (if t179 = true then (if t180 = true then (chronobatelaw08_SampleOrder.j0 k t179 true a0_0 a0_1 a0_2 a0_3 a1_0 a1_1 a1_2 a1_3 a2_0 a2_1 a2_2 a2_3) else (if a0_1 = a1_1 then (if (true != (a0_2 != a1_2)) = true then (chronobatelaw08_SampleOrder.j0 k t179 true a0_0 a0_1 a0_2 a0_3 a1_0 a1_1 a1_2 a1_3 a2_0 a2_1 a2_2 a2_3) else ((sample_Better.f a0_0 a0_1 a0_2 a0_3 a0_0 a0_1 a0_2 a0_3).bind fun t181 => (chronobatelaw08_SampleOrder.j0 k t179 t181 a0_0 a0_1 a0_2 a0_3 a1_0 a1_1 a1_2 a1_3 a2_0 a2_1 a2_2 a2_3))) else (if (true != true) = true then (chronobatelaw08_SampleOrder.j0 k t179 true a0_0 a0_1 a0_2 a0_3 a1_0 a1_1 a1_2 a1_3 a2_0 a2_1 a2_2 a2_3) else ((sample_Better.f a0_0 a0_1 a0_2 a0_3 a0_0 a0_1 a0_2 a0_3).bind fun t182 => (chronobatelaw08_SampleOrder.j0 k t179 t182 a0_0 a0_1 a0_2 a0_3 a1_0 a1_1 a1_2 a1_3 a2_0 a2_1 a2_2 a2_3))))) else (if a0_1 = a1_1 then (if (t180 != (a0_2 != a1_2)) = true then (chronobatelaw08_SampleOrder.j0 k t179 true a0_0 a0_1 a0_2 a0_3 a1_0 a1_1 a1_2 a1_3 a2_0 a2_1 a2_2 a2_3) else ((sample_Better.f a0_0 a0_1 a0_2 a0_3 a0_0 a0_1 a0_2 a0_3).bind fun t183 => (chronobatelaw08_SampleOrder.j0 k t179 t183 a0_0 a0_1 a0_2 a0_3 a1_0 a1_1 a1_2 a1_3 a2_0 a2_1 a2_2 a2_3))) else (if (t180 != true) = true then (chronobatelaw08_SampleOrder.j0 k t179 true a0_0 a0_1 a0_2 a0_3 a1_0 a1_1 a1_2 a1_3 a2_0 a2_1 a2_2 a2_3) else ((sample_Better.f a0_0 a0_1 a0_2 a0_3 a0_0 a0_1 a0_2 a0_3).bind fun t184 => (chronobatelaw08_SampleOrder.j0 k t179 t184 a0_0 a0_1 a0_2 a0_3 a1_0 a1_1 a1_2 a1_3 a2_0 a2_1 a2_2 a2_3))))))) = some r := h
  clear h
  replace H := Option.bind_eq_some_iff.mp H
  obtain ⟨t179, A40, H⟩ := H
  replace H : ((sample_Better.f a1_0 a1_1 a1_2 a1_3 a0_0 a0_1 a0_2 a0_3).bind fun t180 => (if t179 = true then (if t180 = true then (chronobatelaw08_SampleOrder.j0 k t179 true a0_0 a0_1 a0_2 a0_3 a1_0 a1_1 a1_2 a1_3 a2_0 a2_1 a2_2 a2_3) else (if a0_1 = a1_1 then (if (true != (a0_2 != a1_2)) = true then (chronobatelaw08_SampleOrder.j0 k t179 true a0_0 a0_1 a0_2 a0_3 a1_0 a1_1 a1_2 a1_3 a2_0 a2_1 a2_2 a2_3) else ((sample_Better.f a0_0 a0_1 a0_2 a0_3 a0_0 a0_1 a0_2 a0_3).bind fun t181 => (chronobatelaw08_SampleOrder.j0 k t179 t181 a0_0 a0_1 a0_2 a0_3 a1_0 a1_1 a1_2 a1_3 a2_0 a2_1 a2_2 a2_3))) else (if (true != true) = true then (chronobatelaw08_SampleOrder.j0 k t179 true a0_0 a0_1 a0_2 a0_3 a1_0 a1_1 a1_2 a1_3 a2_0 a2_1 a2_2 a2_3) else ((sample_Better.f a0_0 a0_1 a0_2 a0_3 a0_0 a0_1 a0_2 a0_3).bind fun t182 => (chronobatelaw08_SampleOrder.j0 k t179 t182 a0_0 a0_1 a0_2 a0_3 a1_0 a1_1 a1_2 a1_3 a2_0 a2_1 a2_2 a2_3))))) else (if a0_1 = a1_1 then (if (t180 != (a0_2 != a1_2)) = true then (chronobatelaw08_SampleOrder.j0 k t179 true a0_0 a0_1 a0_2 a0_3 a1_0 a1_1 a1_2 a1_3 a2_0 a2_1 a2_2 a2_3) else ((sample_Better.f a0_0 a0_1 a0_2 a0_3 a0_0 a0_1 a0_2 a0_3).bind fun t183 => (chronobatelaw08_SampleOrder.j0 k t179 t183 a0_0 a0_1 a0_2 a0_3 a1_0 a1_1 a1_2 a1_3 a2_0 a2_1 a2_2 a2_3))) else (if (t180 != true) = true then (chronobatelaw08_SampleOrder.j0 k t179 true a0_0 a0_1 a0_2 a0_3 a1_0 a1_1 a1_2 a1_3 a2_0 a2_1 a2_2 a2_3) else ((sample_Better.f a0_0 a0_1 a0_2 a0_3 a0_0 a0_1 a0_2 a0_3).bind fun t184 => (chronobatelaw08_SampleOrder.j0 k t179 t184 a0_0 a0_1 a0_2 a0_3 a1_0 a1_1 a1_2 a1_3 a2_0 a2_1 a2_2 a2_3)))))) = some r := H
  have A4 := Aside0.mk A40
  clear A40
  replace H := Option.bind_eq_some_iff.mp H
  obtain ⟨t180, A50, H⟩ := H
  replace H : (if t179 = true then (if t180 = true then (chronobatelaw08_SampleOrder.j0 k t179 true a0_0 a0_1 a0_2 a0_3 a1_0 a1_1 a1_2 a1_3 a2_0 a2_1 a2_2 a2_3) else (if a0_1 = a1_1 then (if (true != (a0_2 != a1_2)) = true then (chronobatelaw08_SampleOrder.j0 k t179 true a0_0 a0_1 a0_2 a0_3 a1_0 a1_1 a1_2 a1_3 a2_0 a2_1 a2_2 a2_3) else ((sample_Better.f a0_0 a0_1 a0_2 a0_3 a0_0 a0_1 a0_2 a0_3).bind fun t181 => (chronobatelaw08_SampleOrder.j0 k t179 t181 a0_0 a0_1 a0_2 a0_3 a1_0 a1_1 a1_2 a1_3 a2_0 a2_1 a2_2 a2_3))) else (if (true != true) = true then (chronobatelaw08_SampleOrder.j0 k t179 true a0_0 a0_1 a0_2 a0_3 a1_0 a1_1 a1_2 a1_3 a2_0 a2_1 a2_2 a2_3) else ((sample_Better.f a0_0 a0_1 a0_2 a0_3 a0_0 a0_1 a0_2 a0_3).bind fun t182 => (chronobatelaw08_SampleOrder.j0 k t179 t182 a0_0 a0_1 a0_2 a0_3 a1_0 a1_1 a1_2 a1_3 a2_0 a2_1 a2_2 a2_3))))) else (if a0_1 = a1_1 then (if (t180 != (a0_2 != a1_2)) = true then (chronobatelaw08_SampleOrder.j0 k t179 true a0_0 a0_1 a0_2 a0_3 a1_0 a1_1 a1_2 a1_3 a2_0 a2_1 a2_2 a2_3) else ((sample_Better.f a0_0 a0_1 a0_2 a0_3 a0_0 a0_1 a0_2 a0_3).bind fun t183 => (chronobatelaw08_SampleOrder.j0 k t179 t183 a0_0 a0_1 a0_2 a0_3 a1_0 a1_1 a1_2 a1_3 a2_0 a2_1 a2_2 a2_3))) else (if (t180 != true) = true then (chronobatelaw08_SampleOrder.j0 k t179 true a0_0 a0_1 a0_2 a0_3 a1_0 a1_1 a1_2 a1_3 a2_0 a2_1 a2_2 a2_3) else ((sample_Better.f a0_0 a0_1 a0_2 a0_3 a0_0 a0_1 a0_2 a0_3).bind fun t184 => (chronobatelaw08_SampleOrder.j0 k t179 t184 a0_0 a0_1 a0_2 a0_3 a1_0 a1_1 a1_2 a1_3 a2_0 a2_1 a2_2 a2_3))))) = some r := H
  have A5 := Aside0.mk A50
  clear A50
  have HC6 := Aside0.mk H
  clear H
  go_enter Try.func9, Try.ntmps9
  try go_wp2_with (first | ((with_reducible refine gate_dst (N := 3) rfl ?_); refine box_event ?hg (N := 3) ?hd (cs := #[.int .i64 a0_0, .int .i64 a0_1, .int .i64 a0_2, .int .i64 a0_3]) (t := 38) ?hr ?_; (case hd => rfl); (case hg => rfl); (case hr => first | (go_simp; done) | (go_simp; rfl)); intro gb176 hg w7 hbox hb; have n0_ := Aside0.mk (below_step (by repeat (first | (with_reducible first | exact HB.out | apply below_alloc | apply pw_below_drewN | apply below_drew1) | exact HB.out)) hb); have n1_ := Aside0.mk (hbox); have n2_ := Aside0.mk ((by rw [hg]; exact (below_size (by repeat (first | (with_reducible first | exact HB.out | apply below_alloc | apply pw_below_drewN | apply below_drew1) | exact HB.out))) : w.heap.size ≤ gb176)); have n3_ := Aside0.mk ((by rw [hg]; exact (below_size (by repeat (first | (with_reducible first | exact HB.out | apply below_alloc | apply pw_below_drewN | apply below_drew1) | exact HB.out))) : w.heap.size ≤ gb176)); clear HB; have HB := n0_; have BK176 := n1_; have GW176 := n2_; have GE176 := n3_; clear n0_ n1_ n2_ n3_; clear hb hbox hg) | ((with_reducible refine gate_dst (N := 4) rfl ?_); refine box_event ?hg (N := 4) ?hd (cs := #[.int .i64 a1_0, .int .i64 a1_1, .int .i64 a1_2, .int .i64 a1_3]) (t := 38) ?hr ?_; (case hd => rfl); (case hg => rfl); (case hr => first | (go_simp; done) | (go_simp; rfl)); intro gb177 hg w8 hbox hb; have n0_ := Aside0.mk (blk_below (g := gb176) (o := .cells #[.int .i64 a0_0, .int .i64 a0_1, .int .i64 a0_2, .int .i64 a0_3] 38 (0, 0)) (by (with_reducible repeat (first | refine blk_drewN ?_ _ | refine blk_drew ?_ | refine blk_alloc ?_ _)); exact BK176.out) hb); have n1_ := Aside0.mk (below_step (by repeat (first | (with_reducible first | exact HB.out | apply below_alloc | apply pw_below_drewN | apply below_drew1 | refine below_set ?_ GE176.out) | exact HB.out)) hb); have n2_ := Aside0.mk (hbox); have n3_ := Aside0.mk ((by rw [hg]; exact (below_size (by repeat (first | (with_reducible first | exact HB.out | apply below_alloc | apply pw_below_drewN | apply below_drew1 | refine below_set ?_ GE176.out) | exact HB.out))) : w.heap.size ≤ gb177)); have n4_ := Aside0.mk ((by rw [hg]; exact (below_size (by repeat (first | (with_reducible first | exact HB.out | apply below_alloc | apply pw_below_drewN | apply below_drew1 | refine below_set ?_ GE176.out) | exact HB.out))) : w.heap.size ≤ gb177)); have n5_ := Aside0.mk ((by rw [hg]; exact Nat.ne_of_lt (blk_lt (g := gb176) (o := .cells #[.int .i64 a0_0, .int .i64 a0_1, .int .i64 a0_2, .int .i64 a0_3] 38 (0, 0)) (by (with_reducible repeat (first | refine blk_drewN ?_ _ | refine blk_drew ?_ | refine blk_alloc ?_ _)); exact BK176.out)) : gb176 ≠ gb177)); have n6_ := Aside0.mk ((by rw [hg]; exact Nat.ne_of_gt (blk_lt (g := gb176) (o := .cells #[.int .i64 a0_0, .int .i64 a0_1, .int .i64 a0_2, .int .i64 a0_3] 38 (0, 0)) (by (with_reducible repeat (first | refine blk_drewN ?_ _ | refine blk_drew ?_ | refine blk_alloc ?_ _)); exact BK176.out)) : gb177 ≠ gb176)); clear BK176; clear HB; have BK176 := n0_; have HB := n1_; have BK177 := n2_; have GW177 := n3_; have GE177 := n4_; have NB176_177 := n5_; have NB177_176 := n6_; clear n0_ n1_ n2_ n3_ n4_ n5_ n6_; clear hb hbox hg) | ((with_reducible refine gate_dst (N := 5) rfl ?_); refine box_event ?hg (N := 5) ?hd (cs := #[.int .i64 a2_0, .int .i64 a2_1, .int .i64 a2_2, .int .i64 a2_3]) (t := 38) ?hr ?_; (case hd => rfl); (case hg => rfl); (case hr => first | (go_simp; done) | (go_simp; rfl)); intro gb178 hg w9 hbox hb; have n0_ := Aside0.mk (blk_below (g := gb176) (o := .cells #[.int .i64 a0_0, .int .i64 a0_1, .int .i64 a0_2, .int .i64 a0_3] 38 (0, 0)) (by (with_reducible repeat (first | refine blk_drewN ?_ _ | refine blk_drew ?_ | refine blk_alloc ?_ _)); exact BK176.out) hb); have n1_ := Aside0.mk (blk_below (g := gb177) (o := .cells #[.int .i64 a1_0, .int .i64 a1_1, .int .i64 a1_2, .int .i64 a1_3] 38 (0, 0)) (by (with_reducible repeat (first | refine blk_drewN ?_ _ | refine blk_drew ?_ | refine blk_alloc ?_ _)); exact BK177.out) hb); have n2_ := Aside0.mk (below_step (by repeat (first | (with_reducible first | exact HB.out | apply below_alloc | apply pw_below_drewN | apply below_drew1 | refine below_set ?_ GE176.out | refine below_set ?_ GE177.out) | exact HB.out)) hb); have n3_ := Aside0.mk (hbox); have n4_ := Aside0.mk ((by rw [hg]; exact (below_size (by repeat (first | (with_reducible first | exact HB.out | apply below_alloc | apply pw_below_drewN | apply below_drew1 | refine below_set ?_ GE176.out | refine below_set ?_ GE177.out) | exact HB.out))) : w.heap.size ≤ gb178)); have n5_ := Aside0.mk ((by rw [hg]; exact (below_size (by repeat (first | (with_reducible first | exact HB.out | apply below_alloc | apply pw_below_drewN | apply below_drew1 | refine below_set ?_ GE176.out | refine below_set ?_ GE177.out) | exact HB.out))) : w.heap.size ≤ gb178)); have n6_ := Aside0.mk ((by rw [hg]; exact Nat.ne_of_lt (blk_lt (g := gb176) (o := .cells #[.int .i64 a0_0, .int .i64 a0_1, .int .i64 a0_2, .int .i64 a0_3] 38 (0, 0)) (by (with_reducible repeat (first | refine blk_drewN ?_ _ | refine blk_drew ?_ | refine blk_alloc ?_ _)); exact BK176.out)) : gb176 ≠ gb178)); have n7_ := Aside0.mk ((by rw [hg]; exact Nat.ne_of_gt (blk_lt (g := gb176) (o := .cells #[.int .i64 a0_0, .int .i64 a0_1, .int .i64 a0_2, .int .i64 a0_3] 38 (0, 0)) (by (with_reducible repeat (first | refine blk_drewN ?_ _ | refine blk_drew ?_ | refine blk_alloc ?_ _)); exact BK176.out)) : gb178 ≠ gb176)); have n8_ := Aside0.mk ((by rw [hg]; exact Nat.ne_of_lt (blk_lt (g := gb177) (o := .cells #[.int .i64 a1_0, .int .i64 a1_1, .int .i64 a1_2, .int .i64 a1_3] 38 (0, 0)) (by (with_reducible repeat (first | refine blk_drewN ?_ _ | refine blk_drew ?_ | refine blk_alloc ?_ _)); exact BK177.out)) : gb177 ≠ gb178)); have n9_ := Aside0.mk ((by rw [hg]; exact Nat.ne_of_gt (blk_lt (g := gb177) (o := .cells #[.int .i64 a1_0, .int .i64 a1_1, .int .i64 a1_2, .int .i64 a1_3] 38 (0, 0)) (by (with_reducible repeat (first | refine blk_drewN ?_ _ | refine blk_drew ?_ | refine blk_alloc ?_ _)); exact BK177.out)) : gb178 ≠ gb177)); clear BK176; clear BK177; clear HB; have BK176 := n0_; have BK177 := n1_; have HB := n2_; have BK178 := n3_; have GW178 := n4_; have GE178 := n5_; have NB176_178 := n6_; have NB178_176 := n7_; have NB177_178 := n8_; have NB178_177 := n9_; clear n0_ n1_ n2_ n3_ n4_ n5_ n6_ n7_ n8_ n9_; clear hb hbox hg))
  have n0_ := Aside0.mk (blk_drew BK176.out)
  have n1_ := Aside0.mk (blk_drew BK177.out)
  have n2_ := Aside0.mk (blk_drew BK178.out)
  have n3_ := Aside0.mk (below_drew1 HB.out)
  clear BK176
  clear BK177
  clear BK178
  clear HB
  have BK176 := n0_
  have BK177 := n1_
  have BK178 := n2_
  have HB := n3_
  clear n0_ n1_ n2_ n3_
  refine start_ (n := 8) (S := fun w' => w'.cell? ⟨gb176, 0, none⟩ = some (.int .i64 a0_0) ∧ w'.cell? ⟨gb176, 1, none⟩ = some (.int .i64 a0_1) ∧ w'.cell? ⟨gb176, 2, none⟩ = some (.int .i64 a0_2) ∧ w'.cell? ⟨gb176, 3, none⟩ = some (.int .i64 a0_3) ∧ w'.cell? ⟨gb177, 0, none⟩ = some (.int .i64 a1_0) ∧ w'.cell? ⟨gb177, 1, none⟩ = some (.int .i64 a1_1) ∧ w'.cell? ⟨gb177, 2, none⟩ = some (.int .i64 a1_2) ∧ w'.cell? ⟨gb177, 3, none⟩ = some (.int .i64 a1_3)) (ds := []) #[false, false, false, false, false, false, false, false] (by kernel_rfl) rfl rfl ⟨(blk_cell BK176.out 0).trans rfl, (blk_cell BK176.out 1).trans rfl, (blk_cell BK176.out 2).trans rfl, (blk_cell BK176.out 3).trans rfl, (blk_cell BK177.out 0).trans rfl, (blk_cell BK177.out 1).trans rfl, (blk_cell BK177.out 2).trans rfl, (blk_cell BK177.out 3).trans rfl⟩ (fun hHeld => ?_); refine with_tabW chronobatelaw08_SampleOrder.tab1 chronobatelaw08_SampleOrder.bits1 (fun HT_ HW_ => ?_)
  generalize w9.drew = w10 at BK176 BK177 BK178 HB hHeld ⊢
  refine take_ (i := 0) (N := some 9) (v := ?_) (a' := ?_) #[true, false, false, false, false, false, false, false] rfl rfl (take_ofW HT_.out HW_.out (by kernel_rfl)) (fun _ _ _ h => h) (Or.inl ⟨by rfl, ?_⟩) hHeld ?_ ?_
  rotate_left
  · rintro w' ⟨s0, s1, s2, s3, s4, s5, s6, s7⟩
    go_simp
    with_reducible rfl
  rotate_left
  · simp only [Act.put, List.setIfInBounds_toArray, List.set_cons_zero, List.set_cons_succ, i64_w, i32_w]
    rfl
  refine take_ (i := 1) (N := some 10) (v := ?_) (a' := ?_) #[true, true, false, false, false, false, false, false] rfl rfl (take_ofW HT_.out HW_.out (by kernel_rfl)) (fun _ _ _ h => h) (Or.inl ⟨by rfl, ?_⟩) hHeld ?_ ?_
  rotate_left
  · rintro w' ⟨s0, s1, s2, s3, s4, s5, s6, s7⟩
    go_simp
    with_reducible rfl
  rotate_left
  · simp only [Act.put, List.setIfInBounds_toArray, List.set_cons_zero, List.set_cons_succ, i64_w, i32_w]
    rfl
  refine take_ (i := 3) (N := some 12) (v := ?_) (a' := ?_) #[true, true, false, true, false, false, false, false] rfl rfl (take_ofW HT_.out HW_.out (by kernel_rfl)) (fun _ _ _ h => h) (Or.inl ⟨by rfl, ?_⟩) hHeld ?_ ?_
  rotate_left
  · rintro w' ⟨s0, s1, s2, s3, s4, s5, s6, s7⟩
    go_simp
    with_reducible rfl
  rotate_left
  · simp only [Act.put, List.setIfInBounds_toArray, List.set_cons_zero, List.set_cons_succ, i64_w, i32_w]
    rfl
  refine take_ (i := 4) (N := some 13) (v := ?_) (a' := ?_) #[true, true, false, true, true, false, false, false] rfl rfl (take_ofW HT_.out HW_.out (by kernel_rfl)) (fun _ _ _ h => h) (Or.inl ⟨by rfl, ?_⟩) hHeld ?_ ?_
  rotate_left
  · rintro w' ⟨s0, s1, s2, s3, s4, s5, s6, s7⟩
    go_simp
    with_reducible rfl
  rotate_left
  · simp only [Act.put, List.setIfInBounds_toArray, List.set_cons_zero, List.set_cons_succ, i64_w, i32_w]
    rfl
  refine one_ (i := 2) (N := some 11) #[true, true, true, true, true, false, false, false] rfl rfl (one_of HT_.out (by kernel_rfl)) (by decide) (fun K hK => ?_)
  refine goes_ Try.func19 (by kernel_rfl) rfl #[.agg #[.int .i64 a0_0, .int .i64 a0_1, .int .i64 a0_2, .int .i64 a0_3], .agg #[.int .i64 a1_0, .int .i64 a1_1, .int .i64 a1_2, .int .i64 a1_3]] (by rfl) rfl rfl (by (try simp only [List.map_toArray, List.map_cons, List.map_nil]); first | done | rfl | (simp only [List.length_drop, List.length_take]; rfl)) ?_
  with_reducible refine (sample_Better.calls a0_0 a0_1 a0_2 a0_3 a1_0 a1_1 a1_2 a1_3 t179 _ A4.out).mono ?_
  rintro e w11 ⟨rfl, hb⟩
  refine ⟨_, rfl, ?_⟩
  have n0_ := Aside0.mk (blk_below (g := gb176) (o := .cells #[.int .i64 a0_0, .int .i64 a0_1, .int .i64 a0_2, .int .i64 a0_3] 38 (0, 0)) (by (with_reducible repeat (first | refine blk_drewN ?_ _ | refine blk_drew ?_ | refine blk_alloc ?_ _)); exact BK176.out) hb)
  have n1_ := Aside0.mk (blk_below (g := gb177) (o := .cells #[.int .i64 a1_0, .int .i64 a1_1, .int .i64 a1_2, .int .i64 a1_3] 38 (0, 0)) (by (with_reducible repeat (first | refine blk_drewN ?_ _ | refine blk_drew ?_ | refine blk_alloc ?_ _)); exact BK177.out) hb)
  have n2_ := Aside0.mk (blk_below (g := gb178) (o := .cells #[.int .i64 a2_0, .int .i64 a2_1, .int .i64 a2_2, .int .i64 a2_3] 38 (0, 0)) (by (with_reducible repeat (first | refine blk_drewN ?_ _ | refine blk_drew ?_ | refine blk_alloc ?_ _)); exact BK178.out) hb)
  have n3_ := Aside0.mk (below_step (by repeat (first | (with_reducible first | exact HB.out | apply below_alloc | apply pw_below_drewN | apply below_drew1 | refine below_set ?_ GE176.out | refine below_set ?_ GE177.out | refine below_set ?_ GE178.out) | exact HB.out)) hb)
  clear BK176
  clear BK177
  clear BK178
  clear HB
  have BK176 := n0_
  have BK177 := n1_
  have BK178 := n2_
  have HB := n3_
  clear n0_ n1_ n2_ n3_
  (try clear hb)
  (try clear hb2)
  (try clear hk)
  (try clear hi)
  refine hK.out _ _ ⟨(blk_cell BK176.out 0).trans rfl, (blk_cell BK176.out 1).trans rfl, (blk_cell BK176.out 2).trans rfl, (blk_cell BK176.out 3).trans rfl, (blk_cell BK177.out 0).trans rfl, (blk_cell BK177.out 1).trans rfl, (blk_cell BK177.out 2).trans rfl, (blk_cell BK177.out 3).trans rfl⟩ (fun hHeld => ?_)
  clear hK K
  refine norm_ (a' := ?_) ?_ ?_
  rotate_left
  · show Act.put _ (some 11) _ = _
    simp only [Act.put, List.setIfInBounds_toArray, List.set_cons_zero, List.set_cons_succ, i64_w, i32_w]
    rfl
  refine one_ (i := 5) (N := some 14) #[true, true, true, true, true, true, false, false] rfl rfl (one_of HT_.out (by kernel_rfl)) (by decide) (fun K hK => ?_)
  refine goes_ Try.func19 (by kernel_rfl) rfl #[.agg #[.int .i64 a1_0, .int .i64 a1_1, .int .i64 a1_2, .int .i64 a1_3], .agg #[.int .i64 a0_0, .int .i64 a0_1, .int .i64 a0_2, .int .i64 a0_3]] (by rfl) rfl rfl (by (try simp only [List.map_toArray, List.map_cons, List.map_nil]); first | done | rfl | (simp only [List.length_drop, List.length_take]; rfl)) ?_
  with_reducible refine (sample_Better.calls a1_0 a1_1 a1_2 a1_3 a0_0 a0_1 a0_2 a0_3 t180 _ A5.out).mono ?_
  rintro e w12 ⟨rfl, hb⟩
  refine ⟨_, rfl, ?_⟩
  have n0_ := Aside0.mk (blk_below (g := gb176) (o := .cells #[.int .i64 a0_0, .int .i64 a0_1, .int .i64 a0_2, .int .i64 a0_3] 38 (0, 0)) (by (with_reducible repeat (first | refine blk_drewN ?_ _ | refine blk_drew ?_ | refine blk_alloc ?_ _)); exact BK176.out) hb)
  have n1_ := Aside0.mk (blk_below (g := gb177) (o := .cells #[.int .i64 a1_0, .int .i64 a1_1, .int .i64 a1_2, .int .i64 a1_3] 38 (0, 0)) (by (with_reducible repeat (first | refine blk_drewN ?_ _ | refine blk_drew ?_ | refine blk_alloc ?_ _)); exact BK177.out) hb)
  have n2_ := Aside0.mk (blk_below (g := gb178) (o := .cells #[.int .i64 a2_0, .int .i64 a2_1, .int .i64 a2_2, .int .i64 a2_3] 38 (0, 0)) (by (with_reducible repeat (first | refine blk_drewN ?_ _ | refine blk_drew ?_ | refine blk_alloc ?_ _)); exact BK178.out) hb)
  have n3_ := Aside0.mk (below_step (by repeat (first | (with_reducible first | exact HB.out | apply below_alloc | apply pw_below_drewN | apply below_drew1 | refine below_set ?_ GE176.out | refine below_set ?_ GE177.out | refine below_set ?_ GE178.out) | exact HB.out)) hb)
  clear BK176
  clear BK177
  clear BK178
  clear HB
  have BK176 := n0_
  have BK177 := n1_
  have BK178 := n2_
  have HB := n3_
  clear n0_ n1_ n2_ n3_
  (try clear hb)
  (try clear hb2)
  (try clear hk)
  (try clear hi)
  refine hK.out _ _ ⟨(blk_cell BK176.out 0).trans rfl, (blk_cell BK176.out 1).trans rfl, (blk_cell BK176.out 2).trans rfl, (blk_cell BK176.out 3).trans rfl, (blk_cell BK177.out 0).trans rfl, (blk_cell BK177.out 1).trans rfl, (blk_cell BK177.out 2).trans rfl, (blk_cell BK177.out 3).trans rfl⟩ (fun hHeld => ?_)
  clear hK K
  refine norm_ (a' := ?_) ?_ ?_
  rotate_left
  · show Act.put _ (some 14) _ = _
    simp only [Act.put, List.setIfInBounds_toArray, List.set_cons_zero, List.set_cons_succ, i64_w, i32_w]
    rfl
  refine pure_ (i := 6) (N := some 7) (v := ?_) (a' := ?_) #[true, true, true, true, true, true, true, false] rfl rfl (any_of HT_.out (by kernel_rfl)) (fun _ _ _ h => h) (Or.inl ⟨by rfl, ?_⟩) ?_ ?_
  rotate_left
  · intro w'
    go_simp
    with_reducible rfl
  rotate_left
  · simp only [Act.put, List.setIfInBounds_toArray, List.set_cons_zero, List.set_cons_succ, i64_w, i32_w]
    rfl
  refine pure_ (i := 7) (N := some 8) (v := ?_) (a' := ?_) #[true, true, true, true, true, true, true, true] rfl rfl (any_of HT_.out (by kernel_rfl)) (fun _ _ _ h => h) (Or.inl ⟨by rfl, ?_⟩) ?_ ?_
  rotate_left
  · intro w'
    go_simp
    with_reducible rfl
  rotate_left
  · simp only [Act.put, List.setIfInBounds_toArray, List.set_cons_zero, List.set_cons_succ, i64_w, i32_w]
    rfl
  refine done_ (done_of HT_.out (by kernel_rfl)) ?_
  go_upto_region 2 with (fail)
  go_cut [42] (fun v42 wc => ∃ (kq : Nat) (x42_5 : Bool), v42 = .bool x42_5 ∧ Aside0 (chronobatelaw08_SampleOrder.j0 kq t179 x42_5 a0_0 a0_1 a0_2 a0_3 a1_0 a1_1 a1_2 a1_3 a2_0 a2_1 a2_2 a2_3 = some r) ∧ Aside0 (kq ≤ k) ∧ Aside0 (wc.heap[gb176]? = some (.cells #[.int .i64 a0_0, .int .i64 a0_1, .int .i64 a0_2, .int .i64 a0_3] 38 (0, 0))) ∧ Aside0 (wc.heap[gb177]? = some (.cells #[.int .i64 a1_0, .int .i64 a1_1, .int .i64 a1_2, .int .i64 a1_3] 38 (0, 0))) ∧ Aside0 (wc.heap[gb178]? = some (.cells #[.int .i64 a2_0, .int .i64 a2_1, .int .i64 a2_2, .int .i64 a2_3] 38 (0, 0))) ∧ Aside0 (Below w.heap.size w wc))
  case first =>
    have H := HC6.out
    clear HC6
    by_cases c13 : t179 = true
    · subst c13
      have H1 : (if t180 = true then (chronobatelaw08_SampleOrder.j0 k true true a0_0 a0_1 a0_2 a0_3 a1_0 a1_1 a1_2 a1_3 a2_0 a2_1 a2_2 a2_3) else (if a0_1 = a1_1 then (if (true != (a0_2 != a1_2)) = true then (chronobatelaw08_SampleOrder.j0 k true true a0_0 a0_1 a0_2 a0_3 a1_0 a1_1 a1_2 a1_3 a2_0 a2_1 a2_2 a2_3) else ((sample_Better.f a0_0 a0_1 a0_2 a0_3 a0_0 a0_1 a0_2 a0_3).bind fun t181 => (chronobatelaw08_SampleOrder.j0 k true t181 a0_0 a0_1 a0_2 a0_3 a1_0 a1_1 a1_2 a1_3 a2_0 a2_1 a2_2 a2_3))) else (if (true != true) = true then (chronobatelaw08_SampleOrder.j0 k true true a0_0 a0_1 a0_2 a0_3 a1_0 a1_1 a1_2 a1_3 a2_0 a2_1 a2_2 a2_3) else ((sample_Better.f a0_0 a0_1 a0_2 a0_3 a0_0 a0_1 a0_2 a0_3).bind fun t182 => (chronobatelaw08_SampleOrder.j0 k true t182 a0_0 a0_1 a0_2 a0_3 a1_0 a1_1 a1_2 a1_3 a2_0 a2_1 a2_2 a2_3))))) = some r := by rw [if_pos rfl] at H; exact H
      clear H
      have H := H1
      clear H1
      by_cases c14 : t180 = true
      · subst c14
        have H1 : (chronobatelaw08_SampleOrder.j0 k true true a0_0 a0_1 a0_2 a0_3 a1_0 a1_1 a1_2 a1_3 a2_0 a2_1 a2_2 a2_3) = some r := by rw [if_pos rfl] at H; exact H
        clear H
        have H := H1
        clear H1
        have H' := Aside0.mk H
        clear H
        go_wp2
        go_meet
        case rel => exact ⟨_, (true), (by first | rfl | (simp; done) | (simp [*]; done)), H', ⟨by first | omega | exact Nat.le_refl _⟩, ⟨by (with_reducible repeat (first | refine blk_drewN ?_ _ | refine blk_drew ?_ | refine blk_alloc ?_ _)); exact BK176.out⟩, ⟨by (with_reducible repeat (first | refine blk_drewN ?_ _ | refine blk_drew ?_ | refine blk_alloc ?_ _)); exact BK177.out⟩, ⟨by (with_reducible repeat (first | refine blk_drewN ?_ _ | refine blk_drew ?_ | refine blk_alloc ?_ _)); exact BK178.out⟩, ⟨by repeat (first | (with_reducible first | exact HB.out | apply below_alloc | apply pw_below_drewN | apply below_drew1 | refine below_set ?_ GE176.out | refine below_set ?_ GE177.out | refine below_set ?_ GE178.out) | exact HB.out)⟩⟩
      · replace c14 := Bool.eq_false_iff.mpr c14
        subst c14
        have H1 : (if a0_1 = a1_1 then (if (true != (a0_2 != a1_2)) = true then (chronobatelaw08_SampleOrder.j0 k true true a0_0 a0_1 a0_2 a0_3 a1_0 a1_1 a1_2 a1_3 a2_0 a2_1 a2_2 a2_3) else ((sample_Better.f a0_0 a0_1 a0_2 a0_3 a0_0 a0_1 a0_2 a0_3).bind fun t181 => (chronobatelaw08_SampleOrder.j0 k true t181 a0_0 a0_1 a0_2 a0_3 a1_0 a1_1 a1_2 a1_3 a2_0 a2_1 a2_2 a2_3))) else (if (true != true) = true then (chronobatelaw08_SampleOrder.j0 k true true a0_0 a0_1 a0_2 a0_3 a1_0 a1_1 a1_2 a1_3 a2_0 a2_1 a2_2 a2_3) else ((sample_Better.f a0_0 a0_1 a0_2 a0_3 a0_0 a0_1 a0_2 a0_3).bind fun t182 => (chronobatelaw08_SampleOrder.j0 k true t182 a0_0 a0_1 a0_2 a0_3 a1_0 a1_1 a1_2 a1_3 a2_0 a2_1 a2_2 a2_3)))) = some r := by rw [if_neg (show ¬ (false = true) by decide)] at H; exact H
        clear H
        have H := H1
        clear H1
        by_cases c15 : a0_1 = a1_1
        · rw [if_pos c15] at H
          have c15b0 : (a0_1 == a1_1) = true := beq_iff_eq.mpr c15
          have c15b1 : (a0_1 != a1_1) = false := bne_eq_false_iff_eq.mpr c15
          clear c15
          (first | rw [c15b0] | (simp only [i64_w, i32_w]; rw [c15b0]) | skip)
          by_cases c16 : (true != (a0_2 != a1_2)) = true
          · rw [if_pos c16] at H
            have c16b0 : (true != (a0_2 != a1_2)) = true := c16
            (try (have c16b1 : decide (true = (a0_2 != a1_2)) = false := by simpa using c16))
            (try (have c16b2 : (true == (a0_2 != a1_2)) = false := by simpa using c16))
            (try (have c16b3 : ¬ (true = (a0_2 != a1_2)) := by simpa using c16))
            clear c16
            have H' := Aside0.mk H
            clear H
            have hnb17 := NB176_177.out
            have hnc17 := NB177_176.out
            have hnb18 := NB176_178.out
            have hnc18 := NB178_176.out
            have hcz19_0 : w12.cell? ⟨gb176, 0, none⟩ = some (.int .i64 a0_0) := (blk_cell BK176.out 0).trans rfl
            have hcz19_1 : w12.cell? ⟨gb176, 1, none⟩ = some (.int .i64 a0_1) := (blk_cell BK176.out 1).trans rfl
            have hcz19_2 : w12.cell? ⟨gb176, 2, none⟩ = some (.int .i64 a0_2) := (blk_cell BK176.out 2).trans rfl
            have hcz19_3 : w12.cell? ⟨gb176, 3, none⟩ = some (.int .i64 a0_3) := (blk_cell BK176.out 3).trans rfl
            have hfz19_0 := blk_frozen BK176.out 0
            have hfz19_1 := blk_frozen BK176.out 1
            have hfz19_2 := blk_frozen BK176.out 2
            have hfz19_3 := blk_frozen BK176.out 3
            have hnb20 := NB177_178.out
            have hnc20 := NB178_177.out
            have hcz21_0 : w12.cell? ⟨gb177, 0, none⟩ = some (.int .i64 a1_0) := (blk_cell BK177.out 0).trans rfl
            have hcz21_1 : w12.cell? ⟨gb177, 1, none⟩ = some (.int .i64 a1_1) := (blk_cell BK177.out 1).trans rfl
            have hcz21_2 : w12.cell? ⟨gb177, 2, none⟩ = some (.int .i64 a1_2) := (blk_cell BK177.out 2).trans rfl
            have hcz21_3 : w12.cell? ⟨gb177, 3, none⟩ = some (.int .i64 a1_3) := (blk_cell BK177.out 3).trans rfl
            have hfz21_0 := blk_frozen BK177.out 0
            have hfz21_1 := blk_frozen BK177.out 1
            have hfz21_2 := blk_frozen BK177.out 2
            have hfz21_3 := blk_frozen BK177.out 3
            go_wp2
            go_meet
            case rel => exact ⟨_, (true), (by first | rfl | (simp; done) | (simp [*]; done)), H', ⟨by first | omega | exact Nat.le_refl _⟩, ⟨by (with_reducible repeat (first | refine blk_drewN ?_ _ | refine blk_drew ?_ | refine blk_alloc ?_ _)); exact BK176.out⟩, ⟨by (with_reducible repeat (first | refine blk_drewN ?_ _ | refine blk_drew ?_ | refine blk_alloc ?_ _)); exact BK177.out⟩, ⟨by (with_reducible repeat (first | refine blk_drewN ?_ _ | refine blk_drew ?_ | refine blk_alloc ?_ _)); exact BK178.out⟩, ⟨by repeat (first | (with_reducible first | exact HB.out | apply below_alloc | apply pw_below_drewN | apply below_drew1 | refine below_set ?_ GE176.out | refine below_set ?_ GE177.out | refine below_set ?_ GE178.out) | exact HB.out)⟩⟩
          · rw [if_neg c16] at H
            have c16b0 : (true != (a0_2 != a1_2)) = false := by simpa using c16
            (try (have c16b1 : decide (true = (a0_2 != a1_2)) = true := by simpa using c16))
            (try (have c16b2 : (true == (a0_2 != a1_2)) = true := by simpa using c16))
            clear c16
            replace H := Option.bind_eq_some_iff.mp H
            obtain ⟨t181, A220, H⟩ := H
            replace H : (chronobatelaw08_SampleOrder.j0 k true t181 a0_0 a0_1 a0_2 a0_3 a1_0 a1_1 a1_2 a1_3 a2_0 a2_1 a2_2 a2_3) = some r := H
            have A22 := Aside0.mk A220
            clear A220
            have H' := Aside0.mk H
            clear H
            have hnb23 := NB176_177.out
            have hnc23 := NB177_176.out
            have hnb24 := NB176_178.out
            have hnc24 := NB178_176.out
            have hcz25_0 : w12.cell? ⟨gb176, 0, none⟩ = some (.int .i64 a0_0) := (blk_cell BK176.out 0).trans rfl
            have hcz25_1 : w12.cell? ⟨gb176, 1, none⟩ = some (.int .i64 a0_1) := (blk_cell BK176.out 1).trans rfl
            have hcz25_2 : w12.cell? ⟨gb176, 2, none⟩ = some (.int .i64 a0_2) := (blk_cell BK176.out 2).trans rfl
            have hcz25_3 : w12.cell? ⟨gb176, 3, none⟩ = some (.int .i64 a0_3) := (blk_cell BK176.out 3).trans rfl
            have hfz25_0 := blk_frozen BK176.out 0
            have hfz25_1 := blk_frozen BK176.out 1
            have hfz25_2 := blk_frozen BK176.out 2
            have hfz25_3 := blk_frozen BK176.out 3
            have hnb26 := NB177_178.out
            have hnc26 := NB178_177.out
            have hcz27_0 : w12.cell? ⟨gb177, 0, none⟩ = some (.int .i64 a1_0) := (blk_cell BK177.out 0).trans rfl
            have hcz27_1 : w12.cell? ⟨gb177, 1, none⟩ = some (.int .i64 a1_1) := (blk_cell BK177.out 1).trans rfl
            have hcz27_2 : w12.cell? ⟨gb177, 2, none⟩ = some (.int .i64 a1_2) := (blk_cell BK177.out 2).trans rfl
            have hcz27_3 : w12.cell? ⟨gb177, 3, none⟩ = some (.int .i64 a1_3) := (blk_cell BK177.out 3).trans rfl
            have hfz27_0 := blk_frozen BK177.out 0
            have hfz27_1 := blk_frozen BK177.out 1
            have hfz27_2 := blk_frozen BK177.out 2
            have hfz27_3 := blk_frozen BK177.out 3
            go_wp2_with (first | (go_at_call 19; (with_reducible refine (sample_Better.calls a0_0 a0_1 a0_2 a0_3 a0_0 a0_1 a0_2 a0_3 t181 _ A22.out).mono ?_); rintro e w28 ⟨rfl, hb⟩; have n0_ := Aside0.mk (blk_below (g := gb176) (o := .cells #[.int .i64 a0_0, .int .i64 a0_1, .int .i64 a0_2, .int .i64 a0_3] 38 (0, 0)) (by (with_reducible repeat (first | refine blk_drewN ?_ _ | refine blk_drew ?_ | refine blk_alloc ?_ _)); exact BK176.out) hb); have n1_ := Aside0.mk (blk_below (g := gb177) (o := .cells #[.int .i64 a1_0, .int .i64 a1_1, .int .i64 a1_2, .int .i64 a1_3] 38 (0, 0)) (by (with_reducible repeat (first | refine blk_drewN ?_ _ | refine blk_drew ?_ | refine blk_alloc ?_ _)); exact BK177.out) hb); have n2_ := Aside0.mk (blk_below (g := gb178) (o := .cells #[.int .i64 a2_0, .int .i64 a2_1, .int .i64 a2_2, .int .i64 a2_3] 38 (0, 0)) (by (with_reducible repeat (first | refine blk_drewN ?_ _ | refine blk_drew ?_ | refine blk_alloc ?_ _)); exact BK178.out) hb); have n3_ := Aside0.mk (below_step (by repeat (first | (with_reducible first | exact HB.out | apply below_alloc | apply pw_below_drewN | apply below_drew1 | refine below_set ?_ GE176.out | refine below_set ?_ GE177.out | refine below_set ?_ GE178.out) | exact HB.out)) hb); clear BK176; clear BK177; clear BK178; clear HB; have BK176 := n0_; have BK177 := n1_; have BK178 := n2_; have HB := n3_; clear n0_ n1_ n2_ n3_; (try clear hb); (try clear hb2); (try clear hk); (try clear hi)))
            go_meet
            case rel => exact ⟨_, (t181), (by first | rfl | (simp; done) | (simp [*]; done)), H', ⟨by first | omega | exact Nat.le_refl _⟩, ⟨by (with_reducible repeat (first | refine blk_drewN ?_ _ | refine blk_drew ?_ | refine blk_alloc ?_ _)); exact BK176.out⟩, ⟨by (with_reducible repeat (first | refine blk_drewN ?_ _ | refine blk_drew ?_ | refine blk_alloc ?_ _)); exact BK177.out⟩, ⟨by (with_reducible repeat (first | refine blk_drewN ?_ _ | refine blk_drew ?_ | refine blk_alloc ?_ _)); exact BK178.out⟩, ⟨by repeat (first | (with_reducible first | exact HB.out | apply below_alloc | apply pw_below_drewN | apply below_drew1 | refine below_set ?_ GE176.out | refine below_set ?_ GE177.out | refine below_set ?_ GE178.out) | exact HB.out)⟩⟩
        · rw [if_neg c15] at H
          have c15b0 : (a0_1 == a1_1) = false := beq_eq_false_iff_ne.mpr c15
          have c15b1 : (a0_1 != a1_1) = true := bne_iff_ne.mpr c15
          (first | rw [c15b0] | (simp only [i64_w, i32_w]; rw [c15b0]) | skip)
          by_cases c29 : (true != true) = true
          · exact absurd c29 (by decide)
          · rw [if_neg c29] at H
            have c29b0 : (true != true) = false := rfl
            (try (have c29b1 : decide (true = true) = true := rfl))
            (try (have c29b2 : (true == true) = true := rfl))
            clear c29
            replace H := Option.bind_eq_some_iff.mp H
            obtain ⟨t182, A350, H⟩ := H
            replace H : (chronobatelaw08_SampleOrder.j0 k true t182 a0_0 a0_1 a0_2 a0_3 a1_0 a1_1 a1_2 a1_3 a2_0 a2_1 a2_2 a2_3) = some r := H
            have A35 := Aside0.mk A350
            clear A350
            have H' := Aside0.mk H
            clear H
            have hnb36 := NB176_177.out
            have hnc36 := NB177_176.out
            have hnb37 := NB176_178.out
            have hnc37 := NB178_176.out
            have hcz38_0 : w12.cell? ⟨gb176, 0, none⟩ = some (.int .i64 a0_0) := (blk_cell BK176.out 0).trans rfl
            have hcz38_1 : w12.cell? ⟨gb176, 1, none⟩ = some (.int .i64 a0_1) := (blk_cell BK176.out 1).trans rfl
            have hcz38_2 : w12.cell? ⟨gb176, 2, none⟩ = some (.int .i64 a0_2) := (blk_cell BK176.out 2).trans rfl
            have hcz38_3 : w12.cell? ⟨gb176, 3, none⟩ = some (.int .i64 a0_3) := (blk_cell BK176.out 3).trans rfl
            have hfz38_0 := blk_frozen BK176.out 0
            have hfz38_1 := blk_frozen BK176.out 1
            have hfz38_2 := blk_frozen BK176.out 2
            have hfz38_3 := blk_frozen BK176.out 3
            have hnb39 := NB177_178.out
            have hnc39 := NB178_177.out
            have hcz40_0 : w12.cell? ⟨gb177, 0, none⟩ = some (.int .i64 a1_0) := (blk_cell BK177.out 0).trans rfl
            have hcz40_1 : w12.cell? ⟨gb177, 1, none⟩ = some (.int .i64 a1_1) := (blk_cell BK177.out 1).trans rfl
            have hcz40_2 : w12.cell? ⟨gb177, 2, none⟩ = some (.int .i64 a1_2) := (blk_cell BK177.out 2).trans rfl
            have hcz40_3 : w12.cell? ⟨gb177, 3, none⟩ = some (.int .i64 a1_3) := (blk_cell BK177.out 3).trans rfl
            have hfz40_0 := blk_frozen BK177.out 0
            have hfz40_1 := blk_frozen BK177.out 1
            have hfz40_2 := blk_frozen BK177.out 2
            have hfz40_3 := blk_frozen BK177.out 3
            go_wp2_with (first | (go_at_call 19; (with_reducible refine (sample_Better.calls a0_0 a0_1 a0_2 a0_3 a0_0 a0_1 a0_2 a0_3 t182 _ A35.out).mono ?_); rintro e w41 ⟨rfl, hb⟩; have n0_ := Aside0.mk (blk_below (g := gb176) (o := .cells #[.int .i64 a0_0, .int .i64 a0_1, .int .i64 a0_2, .int .i64 a0_3] 38 (0, 0)) (by (with_reducible repeat (first | refine blk_drewN ?_ _ | refine blk_drew ?_ | refine blk_alloc ?_ _)); exact BK176.out) hb); have n1_ := Aside0.mk (blk_below (g := gb177) (o := .cells #[.int .i64 a1_0, .int .i64 a1_1, .int .i64 a1_2, .int .i64 a1_3] 38 (0, 0)) (by (with_reducible repeat (first | refine blk_drewN ?_ _ | refine blk_drew ?_ | refine blk_alloc ?_ _)); exact BK177.out) hb); have n2_ := Aside0.mk (blk_below (g := gb178) (o := .cells #[.int .i64 a2_0, .int .i64 a2_1, .int .i64 a2_2, .int .i64 a2_3] 38 (0, 0)) (by (with_reducible repeat (first | refine blk_drewN ?_ _ | refine blk_drew ?_ | refine blk_alloc ?_ _)); exact BK178.out) hb); have n3_ := Aside0.mk (below_step (by repeat (first | (with_reducible first | exact HB.out | apply below_alloc | apply pw_below_drewN | apply below_drew1 | refine below_set ?_ GE176.out | refine below_set ?_ GE177.out | refine below_set ?_ GE178.out) | exact HB.out)) hb); clear BK176; clear BK177; clear BK178; clear HB; have BK176 := n0_; have BK177 := n1_; have BK178 := n2_; have HB := n3_; clear n0_ n1_ n2_ n3_; (try clear hb); (try clear hb2); (try clear hk); (try clear hi)))
            go_meet
            case rel => exact ⟨_, (t182), (by first | rfl | (simp; done) | (simp [*]; done)), H', ⟨by first | omega | exact Nat.le_refl _⟩, ⟨by (with_reducible repeat (first | refine blk_drewN ?_ _ | refine blk_drew ?_ | refine blk_alloc ?_ _)); exact BK176.out⟩, ⟨by (with_reducible repeat (first | refine blk_drewN ?_ _ | refine blk_drew ?_ | refine blk_alloc ?_ _)); exact BK177.out⟩, ⟨by (with_reducible repeat (first | refine blk_drewN ?_ _ | refine blk_drew ?_ | refine blk_alloc ?_ _)); exact BK178.out⟩, ⟨by repeat (first | (with_reducible first | exact HB.out | apply below_alloc | apply pw_below_drewN | apply below_drew1 | refine below_set ?_ GE176.out | refine below_set ?_ GE177.out | refine below_set ?_ GE178.out) | exact HB.out)⟩⟩
    · replace c13 := Bool.eq_false_iff.mpr c13
      subst c13
      have H1 : (if a0_1 = a1_1 then (if (t180 != (a0_2 != a1_2)) = true then (chronobatelaw08_SampleOrder.j0 k false true a0_0 a0_1 a0_2 a0_3 a1_0 a1_1 a1_2 a1_3 a2_0 a2_1 a2_2 a2_3) else ((sample_Better.f a0_0 a0_1 a0_2 a0_3 a0_0 a0_1 a0_2 a0_3).bind fun t183 => (chronobatelaw08_SampleOrder.j0 k false t183 a0_0 a0_1 a0_2 a0_3 a1_0 a1_1 a1_2 a1_3 a2_0 a2_1 a2_2 a2_3))) else (if (t180 != true) = true then (chronobatelaw08_SampleOrder.j0 k false true a0_0 a0_1 a0_2 a0_3 a1_0 a1_1 a1_2 a1_3 a2_0 a2_1 a2_2 a2_3) else ((sample_Better.f a0_0 a0_1 a0_2 a0_3 a0_0 a0_1 a0_2 a0_3).bind fun t184 => (chronobatelaw08_SampleOrder.j0 k false t184 a0_0 a0_1 a0_2 a0_3 a1_0 a1_1 a1_2 a1_3 a2_0 a2_1 a2_2 a2_3)))) = some r := by rw [if_neg (show ¬ (false = true) by decide)] at H; exact H
      clear H
      have H := H1
      clear H1
      by_cases c42 : a0_1 = a1_1
      · rw [if_pos c42] at H
        have c42b0 : (a0_1 == a1_1) = true := beq_iff_eq.mpr c42
        have c42b1 : (a0_1 != a1_1) = false := bne_eq_false_iff_eq.mpr c42
        clear c42
        by_cases c43 : (t180 != (a0_2 != a1_2)) = true
        · rw [if_pos c43] at H
          have c43b0 : (t180 != (a0_2 != a1_2)) = true := c43
          (try (have c43b1 : decide (t180 = (a0_2 != a1_2)) = false := by simpa using c43))
          (try (have c43b2 : (t180 == (a0_2 != a1_2)) = false := by simpa using c43))
          (try (have c43b3 : ¬ (t180 = (a0_2 != a1_2)) := by simpa using c43))
          clear c43
          have H' := Aside0.mk H
          clear H
          have hnb44 := NB176_177.out
          have hnc44 := NB177_176.out
          have hnb45 := NB176_178.out
          have hnc45 := NB178_176.out
          have hcz46_0 : w12.cell? ⟨gb176, 0, none⟩ = some (.int .i64 a0_0) := (blk_cell BK176.out 0).trans rfl
          have hcz46_1 : w12.cell? ⟨gb176, 1, none⟩ = some (.int .i64 a0_1) := (blk_cell BK176.out 1).trans rfl
          have hcz46_2 : w12.cell? ⟨gb176, 2, none⟩ = some (.int .i64 a0_2) := (blk_cell BK176.out 2).trans rfl
          have hcz46_3 : w12.cell? ⟨gb176, 3, none⟩ = some (.int .i64 a0_3) := (blk_cell BK176.out 3).trans rfl
          have hfz46_0 := blk_frozen BK176.out 0
          have hfz46_1 := blk_frozen BK176.out 1
          have hfz46_2 := blk_frozen BK176.out 2
          have hfz46_3 := blk_frozen BK176.out 3
          have hnb47 := NB177_178.out
          have hnc47 := NB178_177.out
          have hcz48_0 : w12.cell? ⟨gb177, 0, none⟩ = some (.int .i64 a1_0) := (blk_cell BK177.out 0).trans rfl
          have hcz48_1 : w12.cell? ⟨gb177, 1, none⟩ = some (.int .i64 a1_1) := (blk_cell BK177.out 1).trans rfl
          have hcz48_2 : w12.cell? ⟨gb177, 2, none⟩ = some (.int .i64 a1_2) := (blk_cell BK177.out 2).trans rfl
          have hcz48_3 : w12.cell? ⟨gb177, 3, none⟩ = some (.int .i64 a1_3) := (blk_cell BK177.out 3).trans rfl
          have hfz48_0 := blk_frozen BK177.out 0
          have hfz48_1 := blk_frozen BK177.out 1
          have hfz48_2 := blk_frozen BK177.out 2
          have hfz48_3 := blk_frozen BK177.out 3
          go_wp2
          go_meet
          case rel => exact ⟨_, (true), (by first | rfl | (simp; done) | (simp [*]; done)), H', ⟨by first | omega | exact Nat.le_refl _⟩, ⟨by (with_reducible repeat (first | refine blk_drewN ?_ _ | refine blk_drew ?_ | refine blk_alloc ?_ _)); exact BK176.out⟩, ⟨by (with_reducible repeat (first | refine blk_drewN ?_ _ | refine blk_drew ?_ | refine blk_alloc ?_ _)); exact BK177.out⟩, ⟨by (with_reducible repeat (first | refine blk_drewN ?_ _ | refine blk_drew ?_ | refine blk_alloc ?_ _)); exact BK178.out⟩, ⟨by repeat (first | (with_reducible first | exact HB.out | apply below_alloc | apply pw_below_drewN | apply below_drew1 | refine below_set ?_ GE176.out | refine below_set ?_ GE177.out | refine below_set ?_ GE178.out) | exact HB.out)⟩⟩
        · rw [if_neg c43] at H
          have c43b0 : (t180 != (a0_2 != a1_2)) = false := by simpa using c43
          (try (have c43b1 : decide (t180 = (a0_2 != a1_2)) = true := by simpa using c43))
          (try (have c43b2 : (t180 == (a0_2 != a1_2)) = true := by simpa using c43))
          clear c43
          replace H := Option.bind_eq_some_iff.mp H
          obtain ⟨t183, A490, H⟩ := H
          replace H : (chronobatelaw08_SampleOrder.j0 k false t183 a0_0 a0_1 a0_2 a0_3 a1_0 a1_1 a1_2 a1_3 a2_0 a2_1 a2_2 a2_3) = some r := H
          have A49 := Aside0.mk A490
          clear A490
          have H' := Aside0.mk H
          clear H
          have hnb50 := NB176_177.out
          have hnc50 := NB177_176.out
          have hnb51 := NB176_178.out
          have hnc51 := NB178_176.out
          have hcz52_0 : w12.cell? ⟨gb176, 0, none⟩ = some (.int .i64 a0_0) := (blk_cell BK176.out 0).trans rfl
          have hcz52_1 : w12.cell? ⟨gb176, 1, none⟩ = some (.int .i64 a0_1) := (blk_cell BK176.out 1).trans rfl
          have hcz52_2 : w12.cell? ⟨gb176, 2, none⟩ = some (.int .i64 a0_2) := (blk_cell BK176.out 2).trans rfl
          have hcz52_3 : w12.cell? ⟨gb176, 3, none⟩ = some (.int .i64 a0_3) := (blk_cell BK176.out 3).trans rfl
          have hfz52_0 := blk_frozen BK176.out 0
          have hfz52_1 := blk_frozen BK176.out 1
          have hfz52_2 := blk_frozen BK176.out 2
          have hfz52_3 := blk_frozen BK176.out 3
          have hnb53 := NB177_178.out
          have hnc53 := NB178_177.out
          have hcz54_0 : w12.cell? ⟨gb177, 0, none⟩ = some (.int .i64 a1_0) := (blk_cell BK177.out 0).trans rfl
          have hcz54_1 : w12.cell? ⟨gb177, 1, none⟩ = some (.int .i64 a1_1) := (blk_cell BK177.out 1).trans rfl
          have hcz54_2 : w12.cell? ⟨gb177, 2, none⟩ = some (.int .i64 a1_2) := (blk_cell BK177.out 2).trans rfl
          have hcz54_3 : w12.cell? ⟨gb177, 3, none⟩ = some (.int .i64 a1_3) := (blk_cell BK177.out 3).trans rfl
          have hfz54_0 := blk_frozen BK177.out 0
          have hfz54_1 := blk_frozen BK177.out 1
          have hfz54_2 := blk_frozen BK177.out 2
          have hfz54_3 := blk_frozen BK177.out 3
          go_wp2_with (first | (go_at_call 19; (with_reducible refine (sample_Better.calls a0_0 a0_1 a0_2 a0_3 a0_0 a0_1 a0_2 a0_3 t183 _ A49.out).mono ?_); rintro e w55 ⟨rfl, hb⟩; have n0_ := Aside0.mk (blk_below (g := gb176) (o := .cells #[.int .i64 a0_0, .int .i64 a0_1, .int .i64 a0_2, .int .i64 a0_3] 38 (0, 0)) (by (with_reducible repeat (first | refine blk_drewN ?_ _ | refine blk_drew ?_ | refine blk_alloc ?_ _)); exact BK176.out) hb); have n1_ := Aside0.mk (blk_below (g := gb177) (o := .cells #[.int .i64 a1_0, .int .i64 a1_1, .int .i64 a1_2, .int .i64 a1_3] 38 (0, 0)) (by (with_reducible repeat (first | refine blk_drewN ?_ _ | refine blk_drew ?_ | refine blk_alloc ?_ _)); exact BK177.out) hb); have n2_ := Aside0.mk (blk_below (g := gb178) (o := .cells #[.int .i64 a2_0, .int .i64 a2_1, .int .i64 a2_2, .int .i64 a2_3] 38 (0, 0)) (by (with_reducible repeat (first | refine blk_drewN ?_ _ | refine blk_drew ?_ | refine blk_alloc ?_ _)); exact BK178.out) hb); have n3_ := Aside0.mk (below_step (by repeat (first | (with_reducible first | exact HB.out | apply below_alloc | apply pw_below_drewN | apply below_drew1 | refine below_set ?_ GE176.out | refine below_set ?_ GE177.out | refine below_set ?_ GE178.out) | exact HB.out)) hb); clear BK176; clear BK177; clear BK178; clear HB; have BK176 := n0_; have BK177 := n1_; have BK178 := n2_; have HB := n3_; clear n0_ n1_ n2_ n3_; (try clear hb); (try clear hb2); (try clear hk); (try clear hi)))
          go_meet
          case rel => exact ⟨_, (t183), (by first | rfl | (simp; done) | (simp [*]; done)), H', ⟨by first | omega | exact Nat.le_refl _⟩, ⟨by (with_reducible repeat (first | refine blk_drewN ?_ _ | refine blk_drew ?_ | refine blk_alloc ?_ _)); exact BK176.out⟩, ⟨by (with_reducible repeat (first | refine blk_drewN ?_ _ | refine blk_drew ?_ | refine blk_alloc ?_ _)); exact BK177.out⟩, ⟨by (with_reducible repeat (first | refine blk_drewN ?_ _ | refine blk_drew ?_ | refine blk_alloc ?_ _)); exact BK178.out⟩, ⟨by repeat (first | (with_reducible first | exact HB.out | apply below_alloc | apply pw_below_drewN | apply below_drew1 | refine below_set ?_ GE176.out | refine below_set ?_ GE177.out | refine below_set ?_ GE178.out) | exact HB.out)⟩⟩
      · rw [if_neg c42] at H
        have c42b0 : (a0_1 == a1_1) = false := beq_eq_false_iff_ne.mpr c42
        have c42b1 : (a0_1 != a1_1) = true := bne_iff_ne.mpr c42
        by_cases c56 : (t180 != true) = true
        · rw [if_pos c56] at H
          have c56b0 : (t180 != true) = true := c56
          (try (have c56b1 : decide (t180 = true) = false := by simpa using c56))
          (try (have c56b2 : (t180 == true) = false := by simpa using c56))
          (try (have c56b3 : ¬ (t180 = true) := by simpa using c56))
          clear c56
          have H' := Aside0.mk H
          clear H
          have hnb57 := NB176_177.out
          have hnc57 := NB177_176.out
          have hnb58 := NB176_178.out
          have hnc58 := NB178_176.out
          have hcz59_0 : w12.cell? ⟨gb176, 0, none⟩ = some (.int .i64 a0_0) := (blk_cell BK176.out 0).trans rfl
          have hcz59_1 : w12.cell? ⟨gb176, 1, none⟩ = some (.int .i64 a0_1) := (blk_cell BK176.out 1).trans rfl
          have hcz59_2 : w12.cell? ⟨gb176, 2, none⟩ = some (.int .i64 a0_2) := (blk_cell BK176.out 2).trans rfl
          have hcz59_3 : w12.cell? ⟨gb176, 3, none⟩ = some (.int .i64 a0_3) := (blk_cell BK176.out 3).trans rfl
          have hfz59_0 := blk_frozen BK176.out 0
          have hfz59_1 := blk_frozen BK176.out 1
          have hfz59_2 := blk_frozen BK176.out 2
          have hfz59_3 := blk_frozen BK176.out 3
          have hnb60 := NB177_178.out
          have hnc60 := NB178_177.out
          have hcz61_0 : w12.cell? ⟨gb177, 0, none⟩ = some (.int .i64 a1_0) := (blk_cell BK177.out 0).trans rfl
          have hcz61_1 : w12.cell? ⟨gb177, 1, none⟩ = some (.int .i64 a1_1) := (blk_cell BK177.out 1).trans rfl
          have hcz61_2 : w12.cell? ⟨gb177, 2, none⟩ = some (.int .i64 a1_2) := (blk_cell BK177.out 2).trans rfl
          have hcz61_3 : w12.cell? ⟨gb177, 3, none⟩ = some (.int .i64 a1_3) := (blk_cell BK177.out 3).trans rfl
          have hfz61_0 := blk_frozen BK177.out 0
          have hfz61_1 := blk_frozen BK177.out 1
          have hfz61_2 := blk_frozen BK177.out 2
          have hfz61_3 := blk_frozen BK177.out 3
          go_wp2
          go_meet
          case rel => exact ⟨_, (true), (by first | rfl | (simp; done) | (simp [*]; done)), H', ⟨by first | omega | exact Nat.le_refl _⟩, ⟨by (with_reducible repeat (first | refine blk_drewN ?_ _ | refine blk_drew ?_ | refine blk_alloc ?_ _)); exact BK176.out⟩, ⟨by (with_reducible repeat (first | refine blk_drewN ?_ _ | refine blk_drew ?_ | refine blk_alloc ?_ _)); exact BK177.out⟩, ⟨by (with_reducible repeat (first | refine blk_drewN ?_ _ | refine blk_drew ?_ | refine blk_alloc ?_ _)); exact BK178.out⟩, ⟨by repeat (first | (with_reducible first | exact HB.out | apply below_alloc | apply pw_below_drewN | apply below_drew1 | refine below_set ?_ GE176.out | refine below_set ?_ GE177.out | refine below_set ?_ GE178.out) | exact HB.out)⟩⟩
        · rw [if_neg c56] at H
          have c56b0 : (t180 != true) = false := by simpa using c56
          (try (have c56b1 : decide (t180 = true) = true := by simpa using c56))
          (try (have c56b2 : (t180 == true) = true := by simpa using c56))
          clear c56
          replace H := Option.bind_eq_some_iff.mp H
          obtain ⟨t184, A620, H⟩ := H
          replace H : (chronobatelaw08_SampleOrder.j0 k false t184 a0_0 a0_1 a0_2 a0_3 a1_0 a1_1 a1_2 a1_3 a2_0 a2_1 a2_2 a2_3) = some r := H
          have A62 := Aside0.mk A620
          clear A620
          have H' := Aside0.mk H
          clear H
          have hnb63 := NB176_177.out
          have hnc63 := NB177_176.out
          have hnb64 := NB176_178.out
          have hnc64 := NB178_176.out
          have hcz65_0 : w12.cell? ⟨gb176, 0, none⟩ = some (.int .i64 a0_0) := (blk_cell BK176.out 0).trans rfl
          have hcz65_1 : w12.cell? ⟨gb176, 1, none⟩ = some (.int .i64 a0_1) := (blk_cell BK176.out 1).trans rfl
          have hcz65_2 : w12.cell? ⟨gb176, 2, none⟩ = some (.int .i64 a0_2) := (blk_cell BK176.out 2).trans rfl
          have hcz65_3 : w12.cell? ⟨gb176, 3, none⟩ = some (.int .i64 a0_3) := (blk_cell BK176.out 3).trans rfl
          have hfz65_0 := blk_frozen BK176.out 0
          have hfz65_1 := blk_frozen BK176.out 1
          have hfz65_2 := blk_frozen BK176.out 2
          have hfz65_3 := blk_frozen BK176.out 3
          have hnb66 := NB177_178.out
          have hnc66 := NB178_177.out
          have hcz67_0 : w12.cell? ⟨gb177, 0, none⟩ = some (.int .i64 a1_0) := (blk_cell BK177.out 0).trans rfl
          have hcz67_1 : w12.cell? ⟨gb177, 1, none⟩ = some (.int .i64 a1_1) := (blk_cell BK177.out 1).trans rfl
          have hcz67_2 : w12.cell? ⟨gb177, 2, none⟩ = some (.int .i64 a1_2) := (blk_cell BK177.out 2).trans rfl
          have hcz67_3 : w12.cell? ⟨gb177, 3, none⟩ = some (.int .i64 a1_3) := (blk_cell BK177.out 3).trans rfl
          have hfz67_0 := blk_frozen BK177.out 0
          have hfz67_1 := blk_frozen BK177.out 1
          have hfz67_2 := blk_frozen BK177.out 2
          have hfz67_3 := blk_frozen BK177.out 3
          go_wp2_with (first | (go_at_call 19; (with_reducible refine (sample_Better.calls a0_0 a0_1 a0_2 a0_3 a0_0 a0_1 a0_2 a0_3 t184 _ A62.out).mono ?_); rintro e w68 ⟨rfl, hb⟩; have n0_ := Aside0.mk (blk_below (g := gb176) (o := .cells #[.int .i64 a0_0, .int .i64 a0_1, .int .i64 a0_2, .int .i64 a0_3] 38 (0, 0)) (by (with_reducible repeat (first | refine blk_drewN ?_ _ | refine blk_drew ?_ | refine blk_alloc ?_ _)); exact BK176.out) hb); have n1_ := Aside0.mk (blk_below (g := gb177) (o := .cells #[.int .i64 a1_0, .int .i64 a1_1, .int .i64 a1_2, .int .i64 a1_3] 38 (0, 0)) (by (with_reducible repeat (first | refine blk_drewN ?_ _ | refine blk_drew ?_ | refine blk_alloc ?_ _)); exact BK177.out) hb); have n2_ := Aside0.mk (blk_below (g := gb178) (o := .cells #[.int .i64 a2_0, .int .i64 a2_1, .int .i64 a2_2, .int .i64 a2_3] 38 (0, 0)) (by (with_reducible repeat (first | refine blk_drewN ?_ _ | refine blk_drew ?_ | refine blk_alloc ?_ _)); exact BK178.out) hb); have n3_ := Aside0.mk (below_step (by repeat (first | (with_reducible first | exact HB.out | apply below_alloc | apply pw_below_drewN | apply below_drew1 | refine below_set ?_ GE176.out | refine below_set ?_ GE177.out | refine below_set ?_ GE178.out) | exact HB.out)) hb); clear BK176; clear BK177; clear BK178; clear HB; have BK176 := n0_; have BK177 := n1_; have BK178 := n2_; have HB := n3_; clear n0_ n1_ n2_ n3_; (try clear hb); (try clear hb2); (try clear hk); (try clear hi)))
          go_meet
          case rel => exact ⟨_, (t184), (by first | rfl | (simp; done) | (simp [*]; done)), H', ⟨by first | omega | exact Nat.le_refl _⟩, ⟨by (with_reducible repeat (first | refine blk_drewN ?_ _ | refine blk_drew ?_ | refine blk_alloc ?_ _)); exact BK176.out⟩, ⟨by (with_reducible repeat (first | refine blk_drewN ?_ _ | refine blk_drew ?_ | refine blk_alloc ?_ _)); exact BK177.out⟩, ⟨by (with_reducible repeat (first | refine blk_drewN ?_ _ | refine blk_drew ?_ | refine blk_alloc ?_ _)); exact BK178.out⟩, ⟨by repeat (first | (with_reducible first | exact HB.out | apply below_alloc | apply pw_below_drewN | apply below_drew1 | refine below_set ?_ GE176.out | refine below_set ?_ GE177.out | refine below_set ?_ GE178.out) | exact HB.out)⟩⟩
  case rest =>
    clear HC6
    try clear c1
    try clear c2
    try clear p2
    try clear c3
    try clear c4
    try clear c5
    try clear c6
    try clear c9
    try clear c13
    try clear c14
    try clear c15
    try clear c15b0
    try clear c15b1
    try clear c16
    try clear c16b0
    try clear c16b1
    try clear c16b2
    try clear c17
    try clear c18
    try clear c19
    try clear c20
    try clear c23
    try clear c24
    try clear c26
    try clear c29
    try clear c29b0
    try clear c29b1
    try clear c29b2
    try clear c30
    try clear c31
    try clear c33
    try clear c36
    try clear c37
    try clear c39
    try clear c42
    try clear c42b0
    try clear c42b1
    try clear c43
    try clear c43b0
    try clear c43b1
    try clear c43b2
    try clear c44
    try clear c45
    try clear c47
    try clear c50
    try clear c51
    try clear c53
    try clear c56
    try clear c56b0
    try clear c56b1
    try clear c56b2
    try clear c57
    try clear c58
    try clear c60
    try clear c63
    try clear c64
    try clear c66
    try clear hcz19_0
    try clear hcz19_1
    try clear hcz19_2
    try clear hcz19_3
    try clear hcz21_0
    try clear hcz21_1
    try clear hcz21_2
    try clear hcz21_3
    try clear hcz25_0
    try clear hcz25_1
    try clear hcz25_2
    try clear hcz25_3
    try clear hcz27_0
    try clear hcz27_1
    try clear hcz27_2
    try clear hcz27_3
    try clear hcz32_0
    try clear hcz32_1
    try clear hcz32_2
    try clear hcz32_3
    try clear hcz34_0
    try clear hcz34_1
    try clear hcz34_2
    try clear hcz34_3
    try clear hcz38_0
    try clear hcz38_1
    try clear hcz38_2
    try clear hcz38_3
    try clear hcz40_0
    try clear hcz40_1
    try clear hcz40_2
    try clear hcz40_3
    try clear hcz46_0
    try clear hcz46_1
    try clear hcz46_2
    try clear hcz46_3
    try clear hcz48_0
    try clear hcz48_1
    try clear hcz48_2
    try clear hcz48_3
    try clear hcz52_0
    try clear hcz52_1
    try clear hcz52_2
    try clear hcz52_3
    try clear hcz54_0
    try clear hcz54_1
    try clear hcz54_2
    try clear hcz54_3
    try clear hcz59_0
    try clear hcz59_1
    try clear hcz59_2
    try clear hcz59_3
    try clear hcz61_0
    try clear hcz61_1
    try clear hcz61_2
    try clear hcz61_3
    try clear hcz65_0
    try clear hcz65_1
    try clear hcz65_2
    try clear hcz65_3
    try clear hcz67_0
    try clear hcz67_1
    try clear hcz67_2
    try clear hcz67_3
    try clear hfz19_0
    try clear hfz19_1
    try clear hfz19_2
    try clear hfz19_3
    try clear hfz21_0
    try clear hfz21_1
    try clear hfz21_2
    try clear hfz21_3
    try clear hfz25_0
    try clear hfz25_1
    try clear hfz25_2
    try clear hfz25_3
    try clear hfz27_0
    try clear hfz27_1
    try clear hfz27_2
    try clear hfz27_3
    try clear hfz32_0
    try clear hfz32_1
    try clear hfz32_2
    try clear hfz32_3
    try clear hfz34_0
    try clear hfz34_1
    try clear hfz34_2
    try clear hfz34_3
    try clear hfz38_0
    try clear hfz38_1
    try clear hfz38_2
    try clear hfz38_3
    try clear hfz40_0
    try clear hfz40_1
    try clear hfz40_2
    try clear hfz40_3
    try clear hfz46_0
    try clear hfz46_1
    try clear hfz46_2
    try clear hfz46_3
    try clear hfz48_0
    try clear hfz48_1
    try clear hfz48_2
    try clear hfz48_3
    try clear hfz52_0
    try clear hfz52_1
    try clear hfz52_2
    try clear hfz52_3
    try clear hfz54_0
    try clear hfz54_1
    try clear hfz54_2
    try clear hfz54_3
    try clear hfz59_0
    try clear hfz59_1
    try clear hfz59_2
    try clear hfz59_3
    try clear hfz61_0
    try clear hfz61_1
    try clear hfz61_2
    try clear hfz61_3
    try clear hfz65_0
    try clear hfz65_1
    try clear hfz65_2
    try clear hfz65_3
    try clear hfz67_0
    try clear hfz67_1
    try clear hfz67_2
    try clear hfz67_3
    obtain ⟨kq, x42_5, rfl, HA, HJ5, BK176, BK177, BK178, HB⟩ := hcut
    cases kq with
    | zero => exact absurd HA.out (by simp [chronobatelaw08_SampleOrder.j0])
    | succ kj5 =>
      have H := HA.out
      clear HA
      simp only [chronobatelaw08_SampleOrder.j0] at H
      by_cases c69 : x42_5 = true
      · subst c69
        have H1 : (some false) = some r := by rw [if_pos rfl] at H; exact H
        clear H
        have H := H1
        clear H1
        obtain rfl := Option.some.inj H
        go_wp2
        go_ret
        exact ⟨by first | rfl | (simp [errW_none, errW_some] <;> rfl) | (simp [*, errW_none, errW_some] <;> rfl), by repeat (first | (with_reducible first | exact HB.out | apply below_alloc | apply pw_below_drewN | apply below_drew1 | refine below_set ?_ GE176.out | refine below_set ?_ GE177.out | refine below_set ?_ GE178.out) | exact HB.out)⟩
      · replace c69 := Bool.eq_false_iff.mpr c69
        subst c69
        have H1 : ((chronobatelaw08_alive.f kj5).bind fun t185 => (if t185 = true then (if t179 = true then ((sample_Better.f a1_0 a1_1 a1_2 a1_3 a2_0 a2_1 a2_2 a2_3).bind fun t186 => (if t186 = true then ((sample_Better.f a0_0 a0_1 a0_2 a0_3 a2_0 a2_1 a2_2 a2_3).bind fun t187 => (some t187)) else (some true))) else (some true)) else (some false))) = some r := by rw [if_neg (show ¬ (false = true) by decide)] at H; exact H
        clear H
        have H := H1
        clear H1
        replace H := Option.bind_eq_some_iff.mp H
        obtain ⟨t185, A700, H⟩ := H
        replace H : (if t185 = true then (if t179 = true then ((sample_Better.f a1_0 a1_1 a1_2 a1_3 a2_0 a2_1 a2_2 a2_3).bind fun t186 => (if t186 = true then ((sample_Better.f a0_0 a0_1 a0_2 a0_3 a2_0 a2_1 a2_2 a2_3).bind fun t187 => (some t187)) else (some true))) else (some true)) else (some false)) = some r := H
        have A70 := Aside0.mk A700
        clear A700
        by_cases c71 : t185 = true
        · subst c71
          have H1 : (if t179 = true then ((sample_Better.f a1_0 a1_1 a1_2 a1_3 a2_0 a2_1 a2_2 a2_3).bind fun t186 => (if t186 = true then ((sample_Better.f a0_0 a0_1 a0_2 a0_3 a2_0 a2_1 a2_2 a2_3).bind fun t187 => (some t187)) else (some true))) else (some true)) = some r := by rw [if_pos rfl] at H; exact H
          clear H
          have H := H1
          clear H1
          by_cases c72 : t179 = true
          · subst c72
            have H1 : ((sample_Better.f a1_0 a1_1 a1_2 a1_3 a2_0 a2_1 a2_2 a2_3).bind fun t186 => (if t186 = true then ((sample_Better.f a0_0 a0_1 a0_2 a0_3 a2_0 a2_1 a2_2 a2_3).bind fun t187 => (some t187)) else (some true))) = some r := by rw [if_pos rfl] at H; exact H
            clear H
            have H := H1
            clear H1
            replace H := Option.bind_eq_some_iff.mp H
            obtain ⟨t186, A730, H⟩ := H
            replace H : (if t186 = true then ((sample_Better.f a0_0 a0_1 a0_2 a0_3 a2_0 a2_1 a2_2 a2_3).bind fun t187 => (some t187)) else (some true)) = some r := H
            have A73 := Aside0.mk A730
            clear A730
            by_cases c74 : t186 = true
            · subst c74
              have H1 : ((sample_Better.f a0_0 a0_1 a0_2 a0_3 a2_0 a2_1 a2_2 a2_3).bind fun t187 => (some t187)) = some r := by rw [if_pos rfl] at H; exact H
              clear H
              have H := H1
              clear H1
              replace H := Option.bind_eq_some_iff.mp H
              obtain ⟨t187, A750, H⟩ := H
              replace H : (some t187) = some r := H
              have A75 := Aside0.mk A750
              clear A750
              obtain rfl := Option.some.inj H
              go_wp2_with (first | ((with_reducible refine gate_callee (f := 13) rfl ?_); refine goesL_ (some 43) rfl rfl Try.func13 (by kernel_rfl) rfl #[] rfl (by (try simp only [List.map_toArray, List.map_cons, List.map_nil]); first | done | rfl | (simp only [List.length_drop, List.length_take]; rfl)) ?_; (with_reducible refine (chronobatelaw08_alive.calls kj5  true _ A70.out).mono ?_); rintro e w76 ⟨rfl, hb⟩; refine ⟨_, rfl, ?_⟩; have n0_ := Aside0.mk (blk_below (g := gb176) (o := .cells #[.int .i64 a0_0, .int .i64 a0_1, .int .i64 a0_2, .int .i64 a0_3] 38 (0, 0)) (by (with_reducible repeat (first | refine blk_drewN ?_ _ | refine blk_drew ?_ | refine blk_alloc ?_ _)); exact BK176.out) hb); have n1_ := Aside0.mk (blk_below (g := gb177) (o := .cells #[.int .i64 a1_0, .int .i64 a1_1, .int .i64 a1_2, .int .i64 a1_3] 38 (0, 0)) (by (with_reducible repeat (first | refine blk_drewN ?_ _ | refine blk_drew ?_ | refine blk_alloc ?_ _)); exact BK177.out) hb); have n2_ := Aside0.mk (blk_below (g := gb178) (o := .cells #[.int .i64 a2_0, .int .i64 a2_1, .int .i64 a2_2, .int .i64 a2_3] 38 (0, 0)) (by (with_reducible repeat (first | refine blk_drewN ?_ _ | refine blk_drew ?_ | refine blk_alloc ?_ _)); exact BK178.out) hb); have n3_ := Aside0.mk (below_step (by repeat (first | (with_reducible first | exact HB.out | apply below_alloc | apply pw_below_drewN | apply below_drew1 | refine below_set ?_ GE176.out | refine below_set ?_ GE177.out | refine below_set ?_ GE178.out) | exact HB.out)) hb); clear BK176; clear BK177; clear BK178; clear HB; have BK176 := n0_; have BK177 := n1_; have BK178 := n2_; have HB := n3_; clear n0_ n1_ n2_ n3_; (try clear hb); (try clear hb2); (try clear hk); (try clear hi); have hnb77 := NB177_176.out; have hnc77 := NB176_177.out; have hnb78 := NB177_178.out; have hnc78 := NB178_177.out; have hcz79_0 : w76.cell? ⟨gb177, 0, none⟩ = some (.int .i64 a1_0) := (blk_cell BK177.out 0).trans rfl; have hcz79_1 : w76.cell? ⟨gb177, 1, none⟩ = some (.int .i64 a1_1) := (blk_cell BK177.out 1).trans rfl; have hcz79_2 : w76.cell? ⟨gb177, 2, none⟩ = some (.int .i64 a1_2) := (blk_cell BK177.out 2).trans rfl; have hcz79_3 : w76.cell? ⟨gb177, 3, none⟩ = some (.int .i64 a1_3) := (blk_cell BK177.out 3).trans rfl; have hfz79_0 := blk_frozen BK177.out 0; have hfz79_1 := blk_frozen BK177.out 1; have hfz79_2 := blk_frozen BK177.out 2; have hfz79_3 := blk_frozen BK177.out 3; have hnb80 := NB178_176.out; have hnc80 := NB176_178.out; have hcz81_0 : w76.cell? ⟨gb178, 0, none⟩ = some (.int .i64 a2_0) := (blk_cell BK178.out 0).trans rfl; have hcz81_1 : w76.cell? ⟨gb178, 1, none⟩ = some (.int .i64 a2_1) := (blk_cell BK178.out 1).trans rfl; have hcz81_2 : w76.cell? ⟨gb178, 2, none⟩ = some (.int .i64 a2_2) := (blk_cell BK178.out 2).trans rfl; have hcz81_3 : w76.cell? ⟨gb178, 3, none⟩ = some (.int .i64 a2_3) := (blk_cell BK178.out 3).trans rfl; have hfz81_0 := blk_frozen BK178.out 0; have hfz81_1 := blk_frozen BK178.out 1; have hfz81_2 := blk_frozen BK178.out 2; have hfz81_3 := blk_frozen BK178.out 3) | (go_at_call 19; (with_reducible refine (sample_Better.calls a1_0 a1_1 a1_2 a1_3 a2_0 a2_1 a2_2 a2_3 true _ A73.out).mono ?_); rintro e w82 ⟨rfl, hb⟩; have n0_ := Aside0.mk (blk_below (g := gb176) (o := .cells #[.int .i64 a0_0, .int .i64 a0_1, .int .i64 a0_2, .int .i64 a0_3] 38 (0, 0)) (by (with_reducible repeat (first | refine blk_drewN ?_ _ | refine blk_drew ?_ | refine blk_alloc ?_ _)); exact BK176.out) hb); have n1_ := Aside0.mk (blk_below (g := gb177) (o := .cells #[.int .i64 a1_0, .int .i64 a1_1, .int .i64 a1_2, .int .i64 a1_3] 38 (0, 0)) (by (with_reducible repeat (first | refine blk_drewN ?_ _ | refine blk_drew ?_ | refine blk_alloc ?_ _)); exact BK177.out) hb); have n2_ := Aside0.mk (blk_below (g := gb178) (o := .cells #[.int .i64 a2_0, .int .i64 a2_1, .int .i64 a2_2, .int .i64 a2_3] 38 (0, 0)) (by (with_reducible repeat (first | refine blk_drewN ?_ _ | refine blk_drew ?_ | refine blk_alloc ?_ _)); exact BK178.out) hb); have n3_ := Aside0.mk (below_step (by repeat (first | (with_reducible first | exact HB.out | apply below_alloc | apply pw_below_drewN | apply below_drew1 | refine below_set ?_ GE176.out | refine below_set ?_ GE177.out | refine below_set ?_ GE178.out) | exact HB.out)) hb); clear BK176; clear BK177; clear BK178; clear HB; have BK176 := n0_; have BK177 := n1_; have BK178 := n2_; have HB := n3_; clear n0_ n1_ n2_ n3_; (try clear hb); (try clear hb2); (try clear hk); (try clear hi); have hcz83_0 : w82.cell? ⟨gb176, 0, none⟩ = some (.int .i64 a0_0) := (blk_cell BK176.out 0).trans rfl; have hcz83_1 : w82.cell? ⟨gb176, 1, none⟩ = some (.int .i64 a0_1) := (blk_cell BK176.out 1).trans rfl; have hcz83_2 : w82.cell? ⟨gb176, 2, none⟩ = some (.int .i64 a0_2) := (blk_cell BK176.out 2).trans rfl; have hcz83_3 : w82.cell? ⟨gb176, 3, none⟩ = some (.int .i64 a0_3) := (blk_cell BK176.out 3).trans rfl; have hfz83_0 := blk_frozen BK176.out 0; have hfz83_1 := blk_frozen BK176.out 1; have hfz83_2 := blk_frozen BK176.out 2; have hfz83_3 := blk_frozen BK176.out 3; have hcz84_0 : w82.cell? ⟨gb178, 0, none⟩ = some (.int .i64 a2_0) := (blk_cell BK178.out 0).trans rfl; have hcz84_1 : w82.cell? ⟨gb178, 1, none⟩ = some (.int .i64 a2_1) := (blk_cell BK178.out 1).trans rfl; have hcz84_2 : w82.cell? ⟨gb178, 2, none⟩ = some (.int .i64 a2_2) := (blk_cell BK178.out 2).trans rfl; have hcz84_3 : w82.cell? ⟨gb178, 3, none⟩ = some (.int .i64 a2_3) := (blk_cell BK178.out 3).trans rfl; have hfz84_0 := blk_frozen BK178.out 0; have hfz84_1 := blk_frozen BK178.out 1; have hfz84_2 := blk_frozen BK178.out 2; have hfz84_3 := blk_frozen BK178.out 3) | (go_at_call 19; (with_reducible refine (sample_Better.calls a0_0 a0_1 a0_2 a0_3 a2_0 a2_1 a2_2 a2_3 t187 _ A75.out).mono ?_); rintro e w85 ⟨rfl, hb⟩; have n0_ := Aside0.mk (blk_below (g := gb176) (o := .cells #[.int .i64 a0_0, .int .i64 a0_1, .int .i64 a0_2, .int .i64 a0_3] 38 (0, 0)) (by (with_reducible repeat (first | refine blk_drewN ?_ _ | refine blk_drew ?_ | refine blk_alloc ?_ _)); exact BK176.out) hb); have n1_ := Aside0.mk (blk_below (g := gb177) (o := .cells #[.int .i64 a1_0, .int .i64 a1_1, .int .i64 a1_2, .int .i64 a1_3] 38 (0, 0)) (by (with_reducible repeat (first | refine blk_drewN ?_ _ | refine blk_drew ?_ | refine blk_alloc ?_ _)); exact BK177.out) hb); have n2_ := Aside0.mk (blk_below (g := gb178) (o := .cells #[.int .i64 a2_0, .int .i64 a2_1, .int .i64 a2_2, .int .i64 a2_3] 38 (0, 0)) (by (with_reducible repeat (first | refine blk_drewN ?_ _ | refine blk_drew ?_ | refine blk_alloc ?_ _)); exact BK178.out) hb); have n3_ := Aside0.mk (below_step (by repeat (first | (with_reducible first | exact HB.out | apply below_alloc | apply pw_below_drewN | apply below_drew1 | refine below_set ?_ GE176.out | refine below_set ?_ GE177.out | refine below_set ?_ GE178.out) | exact HB.out)) hb); clear BK176; clear BK177; clear BK178; clear HB; have BK176 := n0_; have BK177 := n1_; have BK178 := n2_; have HB := n3_; clear n0_ n1_ n2_ n3_; (try clear hb); (try clear hb2); (try clear hk); (try clear hi)))
              go_ret
              exact ⟨by first | rfl | (simp [errW_none, errW_some] <;> rfl) | (simp [*, errW_none, errW_some] <;> rfl), by repeat (first | (with_reducible first | exact HB.out | apply below_alloc | apply pw_below_drewN | apply below_drew1 | refine below_set ?_ GE176.out | refine below_set ?_ GE177.out | refine below_set ?_ GE178.out) | exact HB.out)⟩
            · replace c74 := Bool.eq_false_iff.mpr c74
              subst c74
              have H1 : (some true) = some r := by rw [if_neg (show ¬ (false = true) by decide)] at H; exact H
              clear H
              have H := H1
              clear H1
              obtain rfl := Option.some.inj H
              go_wp2_with (first | ((with_reducible refine gate_callee (f := 13) rfl ?_); refine goesL_ (some 43) rfl rfl Try.func13 (by kernel_rfl) rfl #[] rfl (by (try simp only [List.map_toArray, List.map_cons, List.map_nil]); first | done | rfl | (simp only [List.length_drop, List.length_take]; rfl)) ?_; (with_reducible refine (chronobatelaw08_alive.calls kj5  true _ A70.out).mono ?_); rintro e w86 ⟨rfl, hb⟩; refine ⟨_, rfl, ?_⟩; have n0_ := Aside0.mk (blk_below (g := gb176) (o := .cells #[.int .i64 a0_0, .int .i64 a0_1, .int .i64 a0_2, .int .i64 a0_3] 38 (0, 0)) (by (with_reducible repeat (first | refine blk_drewN ?_ _ | refine blk_drew ?_ | refine blk_alloc ?_ _)); exact BK176.out) hb); have n1_ := Aside0.mk (blk_below (g := gb177) (o := .cells #[.int .i64 a1_0, .int .i64 a1_1, .int .i64 a1_2, .int .i64 a1_3] 38 (0, 0)) (by (with_reducible repeat (first | refine blk_drewN ?_ _ | refine blk_drew ?_ | refine blk_alloc ?_ _)); exact BK177.out) hb); have n2_ := Aside0.mk (blk_below (g := gb178) (o := .cells #[.int .i64 a2_0, .int .i64 a2_1, .int .i64 a2_2, .int .i64 a2_3] 38 (0, 0)) (by (with_reducible repeat (first | refine blk_drewN ?_ _ | refine blk_drew ?_ | refine blk_alloc ?_ _)); exact BK178.out) hb); have n3_ := Aside0.mk (below_step (by repeat (first | (with_reducible first | exact HB.out | apply below_alloc | apply pw_below_drewN | apply below_drew1 | refine below_set ?_ GE176.out | refine below_set ?_ GE177.out | refine below_set ?_ GE178.out) | exact HB.out)) hb); clear BK176; clear BK177; clear BK178; clear HB; have BK176 := n0_; have BK177 := n1_; have BK178 := n2_; have HB := n3_; clear n0_ n1_ n2_ n3_; (try clear hb); (try clear hb2); (try clear hk); (try clear hi); have hnb87 := NB177_176.out; have hnc87 := NB176_177.out; have hnb88 := NB177_178.out; have hnc88 := NB178_177.out; have hcz89_0 : w86.cell? ⟨gb177, 0, none⟩ = some (.int .i64 a1_0) := (blk_cell BK177.out 0).trans rfl; have hcz89_1 : w86.cell? ⟨gb177, 1, none⟩ = some (.int .i64 a1_1) := (blk_cell BK177.out 1).trans rfl; have hcz89_2 : w86.cell? ⟨gb177, 2, none⟩ = some (.int .i64 a1_2) := (blk_cell BK177.out 2).trans rfl; have hcz89_3 : w86.cell? ⟨gb177, 3, none⟩ = some (.int .i64 a1_3) := (blk_cell BK177.out 3).trans rfl; have hfz89_0 := blk_frozen BK177.out 0; have hfz89_1 := blk_frozen BK177.out 1; have hfz89_2 := blk_frozen BK177.out 2; have hfz89_3 := blk_frozen BK177.out 3; have hnb90 := NB178_176.out; have hnc90 := NB176_178.out; have hcz91_0 : w86.cell? ⟨gb178, 0, none⟩ = some (.int .i64 a2_0) := (blk_cell BK178.out 0).trans rfl; have hcz91_1 : w86.cell? ⟨gb178, 1, none⟩ = some (.int .i64 a2_1) := (blk_cell BK178.out 1).trans rfl; have hcz91_2 : w86.cell? ⟨gb178, 2, none⟩ = some (.int .i64 a2_2) := (blk_cell BK178.out 2).trans rfl; have hcz91_3 : w86.cell? ⟨gb178, 3, none⟩ = some (.int .i64 a2_3) := (blk_cell BK178.out 3).trans rfl; have hfz91_0 := blk_frozen BK178.out 0; have hfz91_1 := blk_frozen BK178.out 1; have hfz91_2 := blk_frozen BK178.out 2; have hfz91_3 := blk_frozen BK178.out 3) | (go_at_call 19; (with_reducible refine (sample_Better.calls a1_0 a1_1 a1_2 a1_3 a2_0 a2_1 a2_2 a2_3 false _ A73.out).mono ?_); rintro e w92 ⟨rfl, hb⟩; have n0_ := Aside0.mk (blk_below (g := gb176) (o := .cells #[.int .i64 a0_0, .int .i64 a0_1, .int .i64 a0_2, .int .i64 a0_3] 38 (0, 0)) (by (with_reducible repeat (first | refine blk_drewN ?_ _ | refine blk_drew ?_ | refine blk_alloc ?_ _)); exact BK176.out) hb); have n1_ := Aside0.mk (blk_below (g := gb177) (o := .cells #[.int .i64 a1_0, .int .i64 a1_1, .int .i64 a1_2, .int .i64 a1_3] 38 (0, 0)) (by (with_reducible repeat (first | refine blk_drewN ?_ _ | refine blk_drew ?_ | refine blk_alloc ?_ _)); exact BK177.out) hb); have n2_ := Aside0.mk (blk_below (g := gb178) (o := .cells #[.int .i64 a2_0, .int .i64 a2_1, .int .i64 a2_2, .int .i64 a2_3] 38 (0, 0)) (by (with_reducible repeat (first | refine blk_drewN ?_ _ | refine blk_drew ?_ | refine blk_alloc ?_ _)); exact BK178.out) hb); have n3_ := Aside0.mk (below_step (by repeat (first | (with_reducible first | exact HB.out | apply below_alloc | apply pw_below_drewN | apply below_drew1 | refine below_set ?_ GE176.out | refine below_set ?_ GE177.out | refine below_set ?_ GE178.out) | exact HB.out)) hb); clear BK176; clear BK177; clear BK178; clear HB; have BK176 := n0_; have BK177 := n1_; have BK178 := n2_; have HB := n3_; clear n0_ n1_ n2_ n3_; (try clear hb); (try clear hb2); (try clear hk); (try clear hi)))
              go_ret
              exact ⟨by first | rfl | (simp [errW_none, errW_some] <;> rfl) | (simp [*, errW_none, errW_some] <;> rfl), by repeat (first | (with_reducible first | exact HB.out | apply below_alloc | apply pw_below_drewN | apply below_drew1 | refine below_set ?_ GE176.out | refine below_set ?_ GE177.out | refine below_set ?_ GE178.out) | exact HB.out)⟩
          · replace c72 := Bool.eq_false_iff.mpr c72
            subst c72
            have H1 : (some true) = some r := by rw [if_neg (show ¬ (false = true) by decide)] at H; exact H
            clear H
            have H := H1
            clear H1
            obtain rfl := Option.some.inj H
            go_wp2_with (first | ((with_reducible refine gate_callee (f := 13) rfl ?_); refine goesL_ (some 43) rfl rfl Try.func13 (by kernel_rfl) rfl #[] rfl (by (try simp only [List.map_toArray, List.map_cons, List.map_nil]); first | done | rfl | (simp only [List.length_drop, List.length_take]; rfl)) ?_; (with_reducible refine (chronobatelaw08_alive.calls kj5  true _ A70.out).mono ?_); rintro e w93 ⟨rfl, hb⟩; refine ⟨_, rfl, ?_⟩; have n0_ := Aside0.mk (blk_below (g := gb176) (o := .cells #[.int .i64 a0_0, .int .i64 a0_1, .int .i64 a0_2, .int .i64 a0_3] 38 (0, 0)) (by (with_reducible repeat (first | refine blk_drewN ?_ _ | refine blk_drew ?_ | refine blk_alloc ?_ _)); exact BK176.out) hb); have n1_ := Aside0.mk (blk_below (g := gb177) (o := .cells #[.int .i64 a1_0, .int .i64 a1_1, .int .i64 a1_2, .int .i64 a1_3] 38 (0, 0)) (by (with_reducible repeat (first | refine blk_drewN ?_ _ | refine blk_drew ?_ | refine blk_alloc ?_ _)); exact BK177.out) hb); have n2_ := Aside0.mk (blk_below (g := gb178) (o := .cells #[.int .i64 a2_0, .int .i64 a2_1, .int .i64 a2_2, .int .i64 a2_3] 38 (0, 0)) (by (with_reducible repeat (first | refine blk_drewN ?_ _ | refine blk_drew ?_ | refine blk_alloc ?_ _)); exact BK178.out) hb); have n3_ := Aside0.mk (below_step (by repeat (first | (with_reducible first | exact HB.out | apply below_alloc | apply pw_below_drewN | apply below_drew1 | refine below_set ?_ GE176.out | refine below_set ?_ GE177.out | refine below_set ?_ GE178.out) | exact HB.out)) hb); clear BK176; clear BK177; clear BK178; clear HB; have BK176 := n0_; have BK177 := n1_; have BK178 := n2_; have HB := n3_; clear n0_ n1_ n2_ n3_; (try clear hb); (try clear hb2); (try clear hk); (try clear hi)))
            go_ret
            exact ⟨by first | rfl | (simp [errW_none, errW_some] <;> rfl) | (simp [*, errW_none, errW_some] <;> rfl), by repeat (first | (with_reducible first | exact HB.out | apply below_alloc | apply pw_below_drewN | apply below_drew1 | refine below_set ?_ GE176.out | refine below_set ?_ GE177.out | refine below_set ?_ GE178.out) | exact HB.out)⟩
        · replace c71 := Bool.eq_false_iff.mpr c71
          subst c71
          have H1 : (some false) = some r := by rw [if_neg (show ¬ (false = true) by decide)] at H; exact H
          clear H
          have H := H1
          clear H1
          obtain rfl := Option.some.inj H
          go_wp2_with (first | ((with_reducible refine gate_callee (f := 13) rfl ?_); refine goesL_ (some 43) rfl rfl Try.func13 (by kernel_rfl) rfl #[] rfl (by (try simp only [List.map_toArray, List.map_cons, List.map_nil]); first | done | rfl | (simp only [List.length_drop, List.length_take]; rfl)) ?_; (with_reducible refine (chronobatelaw08_alive.calls kj5  false _ A70.out).mono ?_); rintro e w94 ⟨rfl, hb⟩; refine ⟨_, rfl, ?_⟩; have n0_ := Aside0.mk (blk_below (g := gb176) (o := .cells #[.int .i64 a0_0, .int .i64 a0_1, .int .i64 a0_2, .int .i64 a0_3] 38 (0, 0)) (by (with_reducible repeat (first | refine blk_drewN ?_ _ | refine blk_drew ?_ | refine blk_alloc ?_ _)); exact BK176.out) hb); have n1_ := Aside0.mk (blk_below (g := gb177) (o := .cells #[.int .i64 a1_0, .int .i64 a1_1, .int .i64 a1_2, .int .i64 a1_3] 38 (0, 0)) (by (with_reducible repeat (first | refine blk_drewN ?_ _ | refine blk_drew ?_ | refine blk_alloc ?_ _)); exact BK177.out) hb); have n2_ := Aside0.mk (blk_below (g := gb178) (o := .cells #[.int .i64 a2_0, .int .i64 a2_1, .int .i64 a2_2, .int .i64 a2_3] 38 (0, 0)) (by (with_reducible repeat (first | refine blk_drewN ?_ _ | refine blk_drew ?_ | refine blk_alloc ?_ _)); exact BK178.out) hb); have n3_ := Aside0.mk (below_step (by repeat (first | (with_reducible first | exact HB.out | apply below_alloc | apply pw_below_drewN | apply below_drew1 | refine below_set ?_ GE176.out | refine below_set ?_ GE177.out | refine below_set ?_ GE178.out) | exact HB.out)) hb); clear BK176; clear BK177; clear BK178; clear HB; have BK176 := n0_; have BK177 := n1_; have BK178 := n2_; have HB := n3_; clear n0_ n1_ n2_ n3_; (try clear hb); (try clear hb2); (try clear hk); (try clear hi)))
          go_ret
          exact ⟨by first | rfl | (simp [errW_none, errW_some] <;> rfl) | (simp [*, errW_none, errW_some] <;> rfl), by repeat (first | (with_reducible first | exact HB.out | apply below_alloc | apply pw_below_drewN | apply below_drew1 | refine below_set ?_ GE176.out | refine below_set ?_ GE177.out | refine below_set ?_ GE178.out) | exact HB.out)⟩

end Go.Proofs.Ytnagappcpmnkbaa.G
