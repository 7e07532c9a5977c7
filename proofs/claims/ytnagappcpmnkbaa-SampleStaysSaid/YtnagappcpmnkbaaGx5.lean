-- Written by a program of this session out of the translation (wip/patch_print.py, wip/print2.sh). Lean checks it.
import Derived.Test.YtnagappcpmnkbaaGx0
import Derived.Test.YtnagappcpmnkbaaGx2
import Derived.Test.YtnagappcpmnkbaaGx4
namespace Go.Proofs.Ytnagappcpmnkbaa.G
open Go.RowKit Go.Proofs.YtnagappcpmnkbaaW.PrintWords Go.Proofs.YtnagappcpmnkbaaW.PrintLast Go.Proofs.YtnagappcpmnkbaaW.PrintMore
attribute [local go_sem] max2_int min2_int max_two min_two max_three min_three max_four min_four   -- for this text's walks alone
set_option linter.unusedVariables false
set_option linter.unusedSimpArgs false

/-! ### stamp_From: function 14 -/
def stamp_From.f (k : Nat) (a0 : Int) : Option (Int) := if (wrap64 (a0 - (wrap64 ((wrap64 (Int.tdiv a0 1000000000)) * 1000000000)))) < 0 then ((bits_Mul64.f (IntKind.u64.wrap (wrap64 ((wrap64 (a0 - (wrap64 ((wrap64 (Int.tdiv a0 1000000000)) * 1000000000)))) + 1000000000))) 4294967296).bind fun bt108 => ((bits_Div64.f k bt108.1 bt108.2 1000000000).bind fun bt110 => (some (IntKind.u64.wrap ((IntKind.u64.wrap ((IntKind.u64.wrap (wrap64 ((wrap64 (Int.tdiv a0 1000000000)) - 1))) * 4294967296)) + bt110.1))))) else ((bits_Mul64.f (IntKind.u64.wrap (wrap64 (a0 - (wrap64 ((wrap64 (Int.tdiv a0 1000000000)) * 1000000000))))) 4294967296).bind fun bt112 => ((bits_Div64.f k bt112.1 bt112.2 1000000000).bind fun bt114 => (some (IntKind.u64.wrap ((IntKind.u64.wrap ((IntKind.u64.wrap (wrap64 (Int.tdiv a0 1000000000))) * 4294967296)) + bt114.1)))))
theorem stamp_From.mono : ∀ a0 k, LeO (stamp_From.f k a0) (stamp_From.f (k + 1) a0) := by
  intro a0 k
  unfold stamp_From.f
  repeat' first
      | (with_reducible exact bits_Div64.mono _ _ _ _)
      | (with_reducible exact LeO.refl _)
      | (with_reducible exact LeO.none _)
      | (with_reducible refine LeO.ite ?_ ?_)
      | (with_reducible refine LeO.bind ?_ (fun _ => ?_))
      | exact bits_Div64.mono _ _ _ _
      | exact LeO.none _
      | refine LeO.ite ?_ ?_
      | refine LeO.bind ?_ (fun _ => ?_)
set_option maxHeartbeats 8000000 in
set_option maxRecDepth 100000 in
theorem stamp_From.calls (k : Nat) (a0 : Int) (r : Int) (w : World) (h : stamp_From.f k a0 = some r) :
    Calls Try.prog 14 #[.int .i64 a0] w fun e w' => e = .returned (.int .u64 r) ∧ Drawn0 w w' := by
  have H : (if (wrap64 (a0 - (wrap64 ((wrap64 (Int.tdiv a0 1000000000)) * 1000000000)))) < 0 then ((bits_Mul64.f (IntKind.u64.wrap (wrap64 ((wrap64 (a0 - (wrap64 ((wrap64 (Int.tdiv a0 1000000000)) * 1000000000)))) + 1000000000))) 4294967296).bind fun bt108 => ((bits_Div64.f k bt108.1 bt108.2 1000000000).bind fun bt110 => (some (IntKind.u64.wrap ((IntKind.u64.wrap ((IntKind.u64.wrap (wrap64 ((wrap64 (Int.tdiv a0 1000000000)) - 1))) * 4294967296)) + bt110.1))))) else ((bits_Mul64.f (IntKind.u64.wrap (wrap64 (a0 - (wrap64 ((wrap64 (Int.tdiv a0 1000000000)) * 1000000000))))) 4294967296).bind fun bt112 => ((bits_Div64.f k bt112.1 bt112.2 1000000000).bind fun bt114 => (some (IntKind.u64.wrap ((IntKind.u64.wrap ((IntKind.u64.wrap (wrap64 (Int.tdiv a0 1000000000))) * 4294967296)) + bt114.1)))))) = some r := h
  clear h
  by_cases c2 : (wrap64 (a0 - (wrap64 ((wrap64 (Int.tdiv a0 1000000000)) * 1000000000)))) < 0
  · rw [if_pos c2] at H
    have c2b0 : decide ((wrap64 (a0 - (wrap64 ((wrap64 (Int.tdiv a0 1000000000)) * 1000000000)))) < 0) = true := decide_eq_true c2
    clear c2
    replace H := Option.bind_eq_some_iff.mp H
    obtain ⟨⟨t108, t109⟩, A30, H⟩ := H
    replace H : ((bits_Div64.f k t108 t109 1000000000).bind fun bt110 => (some (IntKind.u64.wrap ((IntKind.u64.wrap ((IntKind.u64.wrap (wrap64 ((wrap64 (Int.tdiv a0 1000000000)) - 1))) * 4294967296)) + bt110.1)))) = some r := H
    have A3 := Aside0.mk A30
    clear A30
    replace H := Option.bind_eq_some_iff.mp H
    obtain ⟨⟨t110, t111⟩, A40, H⟩ := H
    replace H : (some (IntKind.u64.wrap ((IntKind.u64.wrap ((IntKind.u64.wrap (wrap64 ((wrap64 (Int.tdiv a0 1000000000)) - 1))) * 4294967296)) + t110))) = some r := H
    have A4 := Aside0.mk A40
    clear A40
    obtain rfl := Option.some.inj H
    go_enter Try.func14, Try.ntmps14
    go_wp2_with (first | ((with_reducible refine gate_callee (f := 30) rfl ?_); refine goesL_ (some 24) rfl rfl Try.func30 (by kernel_rfl) rfl #[.int .u64 (IntKind.u64.wrap (wrap64 ((wrap64 (a0 - (wrap64 ((wrap64 (Int.tdiv a0 1000000000)) * 1000000000)))) + 1000000000))), .int .u64 4294967296] rfl (by (try simp only [List.map_toArray, List.map_cons, List.map_nil]); first | done | rfl | (simp only [List.length_drop, List.length_take]; rfl)) ?_; (with_reducible refine (bits_Mul64.calls (IntKind.u64.wrap (wrap64 ((wrap64 (a0 - (wrap64 ((wrap64 (Int.tdiv a0 1000000000)) * 1000000000)))) + 1000000000))) 4294967296 t108 t109 _ A3.out).mono ?_); rintro e w' ⟨rfl, ⟨nd, rfl⟩⟩; refine ⟨_, rfl, ?_⟩) | ((with_reducible refine gate_callee (f := 31) rfl ?_); refine goesL_ (some 30) rfl rfl Try.func31 (by kernel_rfl) rfl #[.int .u64 t108, .int .u64 t109, .int .u64 1000000000] rfl (by (try simp only [List.map_toArray, List.map_cons, List.map_nil]); first | done | rfl | (simp only [List.length_drop, List.length_take]; rfl)) ?_; (with_reducible refine (bits_Div64.calls k t108 t109 1000000000 t110 t111 _ A4.out).mono ?_); rintro e w' ⟨rfl, ⟨nd, rfl⟩⟩; refine ⟨_, rfl, ?_⟩))
    go_ret
    exact ⟨by first | rfl | (simp; done) | (simp [*]; done), by repeat (first | exact Drawn0.refl _ | apply Drawn0.step)⟩
  · rw [if_neg c2] at H
    have c2b0 : decide ((wrap64 (a0 - (wrap64 ((wrap64 (Int.tdiv a0 1000000000)) * 1000000000)))) < 0) = false := decide_eq_false c2
    clear c2
    replace H := Option.bind_eq_some_iff.mp H
    obtain ⟨⟨t112, t113⟩, A50, H⟩ := H
    replace H : ((bits_Div64.f k t112 t113 1000000000).bind fun bt114 => (some (IntKind.u64.wrap ((IntKind.u64.wrap ((IntKind.u64.wrap (wrap64 (Int.tdiv a0 1000000000))) * 4294967296)) + bt114.1)))) = some r := H
    have A5 := Aside0.mk A50
    clear A50
    replace H := Option.bind_eq_some_iff.mp H
    obtain ⟨⟨t114, t115⟩, A60, H⟩ := H
    replace H : (some (IntKind.u64.wrap ((IntKind.u64.wrap ((IntKind.u64.wrap (wrap64 (Int.tdiv a0 1000000000))) * 4294967296)) + t114))) = some r := H
    have A6 := Aside0.mk A60
    clear A60
    obtain rfl := Option.some.inj H
    go_enter Try.func14, Try.ntmps14
    go_wp2_with (first | ((with_reducible refine gate_callee (f := 30) rfl ?_); refine goesL_ (some 24) rfl rfl Try.func30 (by kernel_rfl) rfl #[.int .u64 (IntKind.u64.wrap (wrap64 (a0 - (wrap64 ((wrap64 (Int.tdiv a0 1000000000)) * 1000000000))))), .int .u64 4294967296] rfl (by (try simp only [List.map_toArray, List.map_cons, List.map_nil]); first | done | rfl | (simp only [List.length_drop, List.length_take]; rfl)) ?_; (with_reducible refine (bits_Mul64.calls (IntKind.u64.wrap (wrap64 (a0 - (wrap64 ((wrap64 (Int.tdiv a0 1000000000)) * 1000000000))))) 4294967296 t112 t113 _ A5.out).mono ?_); rintro e w' ⟨rfl, ⟨nd, rfl⟩⟩; refine ⟨_, rfl, ?_⟩) | ((with_reducible refine gate_callee (f := 31) rfl ?_); refine goesL_ (some 30) rfl rfl Try.func31 (by kernel_rfl) rfl #[.int .u64 t112, .int .u64 t113, .int .u64 1000000000] rfl (by (try simp only [List.map_toArray, List.map_cons, List.map_nil]); first | done | rfl | (simp only [List.length_drop, List.length_take]; rfl)) ?_; (with_reducible refine (bits_Div64.calls k t112 t113 1000000000 t114 t115 _ A6.out).mono ?_); rintro e w' ⟨rfl, ⟨nd, rfl⟩⟩; refine ⟨_, rfl, ?_⟩))
    go_ret
    exact ⟨by first | rfl | (simp; done) | (simp [*]; done), by repeat (first | exact Drawn0.refl _ | apply Drawn0.step)⟩

/-! ### stamp_halves: function 35 -/
def stamp_halves.f (a0 : Int) : Option (Int × Int) := some ((a0 / 4294967296) % 4294967296, (a0) % 4294967296)
set_option maxHeartbeats 8000000 in
set_option maxRecDepth 100000 in
theorem stamp_halves.calls (a0 : Int) (r1 : Int) (r2 : Int) (w : World) (h : stamp_halves.f a0 = some (r1, r2)) :
    Calls Try.prog 35 #[.int .u64 a0] w fun e w' => e = .returned (.agg #[.int .u32 r1, .int .u32 r2]) ∧ Below w.heap.size w w' := by
  have hu61 := Try.underlying61
  have HB := Aside0.mk (Below.refl w.heap.size w)
  have H : (some ((a0 / 4294967296) % 4294967296, (a0) % 4294967296)) = some (r1, r2) := h
  clear h
  simp only [Option.some.injEq, Prod.mk.injEq] at H
  obtain ⟨rfl, rfl⟩ := H
  go_enter Try.func35, Try.ntmps35
  go_wp2_with (first | ((with_reducible refine gate_dst (N := 2) rfl ?_); refine box_event ?hg (N := 2) ?hd (cs := #[.int .u32 0, .int .u32 0]) (t := 61) ?hr ?_; (case hd => rfl); (case hg => rfl); (case hr => first | (go_simp; done) | (go_simp; rfl)); intro gb116 hg w2 hbox hb; have n0_ := Aside0.mk (below_step (by repeat (first | (with_reducible first | exact HB.out | apply below_alloc | apply pw_below_drewN | apply below_drew1) | exact HB.out)) hb); have n1_ := Aside0.mk (hbox); have n2_ := Aside0.mk ((by rw [hg]; exact (below_size (by repeat (first | (with_reducible first | exact HB.out | apply below_alloc | apply pw_below_drewN | apply below_drew1) | exact HB.out))) : w.heap.size ≤ gb116)); have n3_ := Aside0.mk ((by rw [hg]; exact (below_size (by repeat (first | (with_reducible first | exact HB.out | apply below_alloc | apply pw_below_drewN | apply below_drew1) | exact HB.out))) : w.heap.size ≤ gb116)); clear HB; have HB := n0_; have BK116 := n1_; have GW116 := n2_; have GE116 := n3_; clear n0_ n1_ n2_ n3_; clear hb hbox hg; have hcz3_0 : w2.cell? ⟨gb116, 0, none⟩ = some (.int .u32 0) := (blk_cell BK116.out 0).trans rfl; have hcz3_1 : w2.cell? ⟨gb116, 1, none⟩ = some (.int .u32 0) := (blk_cell BK116.out 1).trans rfl; have hfz3_0 := blk_frozen BK116.out 0; have hfz3_1 := blk_frozen BK116.out 1))
  refine bodyPost_ret (results_cell_row rfl _ _ gb116 61 #[.int .u32 ((a0 / 4294967296) % 4294967296), .int .u32 ((a0) % 4294967296)] (0, 0) _ rfl (by (with_reducible repeat (first | refine blk_drewN ?_ _ | refine blk_drew ?_ | refine blk_alloc ?_ _)); refine blk_put (cs := #[.int .u32 ((a0 / 4294967296) % 4294967296), .int .u32 0]) ?_ 1 _ rfl; (with_reducible repeat (first | refine blk_drewN ?_ _ | refine blk_drew ?_ | refine blk_alloc ?_ _)); refine blk_put (cs := #[.int .u32 0, .int .u32 0]) ?_ 0 _ rfl; (with_reducible repeat (first | refine blk_drewN ?_ _ | refine blk_drew ?_ | refine blk_alloc ?_ _)); exact BK116.out) Try.underlying61 rfl (by kernel_rfl)) rfl ?_
  exact ⟨by first | rfl | (simp [errW_none, errW_some] <;> rfl) | (simp [*, errW_none, errW_some] <;> rfl), by repeat (first | (with_reducible first | exact HB.out | apply below_alloc | apply pw_below_drewN | apply below_drew1 | refine below_set ?_ GE116.out) | exact HB.out)⟩

end Go.Proofs.Ytnagappcpmnkbaa.G
