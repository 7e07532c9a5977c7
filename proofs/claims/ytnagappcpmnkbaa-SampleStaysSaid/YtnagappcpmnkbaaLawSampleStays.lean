/- 'Rows.SampleStaysSaid' is proved: for every input the law returns true and its arguments read as before. No conditions. Laid by a program of this session (wip/row3.py). -/
import Derived.Test.YtnagappcpmnkbaaRows
import Derived.Test.YtnagappcpmnkbaaTSampleStays
import Derived.Test.YtnagappcpmnkbaaLAg
import Derived.WalkKit
import Derived.ProofKit
import Derived.OpenShut
import Derived.ShutString
import Derived.ChangeOld
import Derived.Below
import Derived.SizedLaws
namespace Go.Proofs.Ytnagappcpmnkbaa.sampleStays
open Go.ChangeShapes Go.WideShapes Go.ChangeAt Go.RowKit Go.Proofs.Ytnagappcpmnkbaa.L
open Go.ChangeMaps (open_string shut_string)
set_option linter.unusedVariables false
theorem own : ownKnob Try.prog.godebug = none := by kernel_rfl
theorem laidOut : laidOutB Try.prog = true := by kernel_rfl
set_option maxRecDepth 100000 in
theorem lifted (os : Os) (started : os.Started) (H : Type) (enc : TypeId × Value → H) :
    ReturnsInHanded {} Try.checked os 5 .any (Rows.sampleStaysSpec.pre6 enc Try.prog Try.f5 Rows.sampleStaysRow.domain false) (Rows.sampleStaysSpec.post enc Try.prog Try.f5 false true false false) := by
  refine returnsInHanded_of_change_sized (C := Try.checked) own started (by kernel_rfl) Try.func5
    (ChangeSpec.witness6 (enc := enc) (C := Try.checked) false ⟨#[], #[.int .i64 0, .agg #[.int .u32 0, .int .u32 0, .int .u32 0], .int .u32 0], []⟩ 8 (by kernel_rfl) (by kernel_rfl) (by kernel_rfl) (by kernel_rfl)) ?_
  intro W base args ds gs before hval0 hW hcnd hsz0 _
  have hsz : (DataW.weightsEach Try.prog (Try.f5.params.toList ++ Rows.sampleStaysSpec.plain.varTypes Try.prog) (ds ++ gs)).all (· ≤ reachBytes) = true := hsz0
  have hval : ∀ (j : Nat) t v, Try.f5.params[j]? = some t → args[j]? = some v → Value.okWide Try.prog W .any base t v := hval0
  have hW' := hW
  obtain ⟨p, q, hA0, hV, rfl, hfz, hnd⟩ := hW
  have hA : DataW.TrodAll enc Try.prog W 0 (fun _ => true) true Try.f5.params.toList args.toList ds p := hA0
  rw [Try.params5] at hA hval hsz
  obtain ⟨v0, vs0, d0, ds0, p0, q0, hargs, rfl, rfl, h0, r0⟩ := trodAll_cons hA
  obtain ⟨v1, vs1, d1, ds1, p1, q1, rfl, rfl, rfl, h1, r1⟩ := trodAll_cons r0
  obtain ⟨v2, vs2, d2, ds2, p2, q2, rfl, rfl, rfl, h2, r2⟩ := trodAll_cons r1
  obtain ⟨rfl, rfl, rfl⟩ := trodAll_nil r2
  obtain rfl : args = #[v0, v1, v2] := by cases args; simp_all
  obtain ⟨rfl, rfl⟩ := trodVars_none hV
  obtain ⟨a0, rfl, rfl, rfl, w0⟩ := open_int Try.underlying2 (hval 0 2 v0 rfl rfl) h0
  have k1 := h1
  have lt1 : ∀ x ∈ p1, x.block < W.heap.size := by obtain ⟨m, hm⟩ := k1; exact DataW.trod_lt m _ _ _ hm
  obtain ⟨a1_0, a1_1, a1_2, rfl, w1_0, w1_1, w1_2⟩ : ∃ a1_0 a1_1 a1_2, v1 = .agg #[.int .u32 a1_0, .int .u32 a1_1, .int .u32 a1_2] ∧ (Lit.int .u32 a1_0).wf = true ∧ (Lit.int .u32 a1_1).wf = true ∧ (Lit.int .u32 a1_2).wf = true := by
    obtain ⟨xs, rfl, hl, hw⟩ := agg_ints (us := [29, 29, 29]) [.u32, .u32, .u32] (by kernel_rfl) (by kernel_rfl) (by kernel_rfl) (by kernel_rfl) (hval 1 30 v1 rfl rfl)
    obtain ⟨a1_0, a1_1, a1_2, rfl⟩ := len3 hl
    exact ⟨_, _, _, rfl, hw 0 _ _ rfl rfl, hw 1 _ _ rfl rfl, hw 2 _ _ rfl rfl⟩
  obtain ⟨a2, rfl, rfl, rfl, w2⟩ := open_int Try.underlying29 (hval 2 29 v2 rfl rfl) h2
  clear hA0 hval0 hsz0 hsz
  refine (Go.SX.law_run (P := Try.prog) (cfg := TSampleStays.cfg) (bs := []) (ρ := (Go.SX.mkEnv TSampleStays.F [a0, a1_0, a1_1, a1_2, a2] [])) (TSampleStays.cfg_ok _ (fun j h => Go.SX.mkEnv_f (by show 0 ≤ j; omega))) (fuel := 100000) (f := 5) (args := TSampleStays.args) (mem := TSampleStays.mem) (pc := []) (by rw [TSampleStays.tree_eq]; exact TSampleStays.tree_holds _ (Go.SX.wf_inR w0) (Go.SX.wf_inR w1_0) (Go.SX.wf_inR w1_1) (Go.SX.wf_inR w1_2) (Go.SX.wf_inR w2) (fun j h => Go.SX.mkEnv_f (by show 0 ≤ j; omega))) rfl (fun _ h => by cases h) (Go.SX.dvl_mk (Go.SX.dv_int_mk (Go.SX.wf_inR w0)) (Go.SX.dvl_mk (Go.SX.dv_agg_mk (Go.SX.dvl_mk (Go.SX.dv_int_mk (Go.SX.wf_inR w1_0)) (Go.SX.dvl_mk (Go.SX.dv_int_mk (Go.SX.wf_inR w1_1)) (Go.SX.dvl_mk (Go.SX.dv_int_mk (Go.SX.wf_inR w1_2)) Go.SX.dvl_none)))) (Go.SX.dvl_mk (Go.SX.dv_int_mk (Go.SX.wf_inR w2)) Go.SX.dvl_none))) (Go.SX.RelM.foreign rfl Go.SX.mrel_nil rfl)).mono fun e W' ⟨he, bel⟩ => ?_
  subst he
  exact ⟨_, rfl, _, _, _, [], _, [], hW', trodAll_mk1 (shut_bool Try.underlying4 _), (trodAll_cons_mk (shut_int Try.underlying2 w0) (trodAll_cons_mk (Below.trod laidOut (by kernel_rfl) (of_decide_eq_true (by kernel_rfl)) k1 bel lt1) (trodAll_cons_mk (shut_int Try.underlying29 w2) trodAll_mk0))), rfl, bel.frame _, fun h => by cases h⟩
theorem over : Rows.sampleStaysRow.holds Try.pinned (OpenSpec.ofChange Rows.sampleStaysSpec) :=
  OpenClaim.holds_of_wide 5 Try.f5 rfl rfl rfl rfl rfl rfl rfl ⟨rfl, rfl, rfl, rfl, rfl⟩ rfl rfl rfl rfl rfl (by kernel_rfl) Try.func5 (by kernel_rfl)
    (of_decide_eq_true (by kernel_rfl)) (by unfold Func.isWrapper; first | (rw [if_pos (by decide +kernel)]; kernel_rfl) | (rw [if_neg (by decide +kernel)]; exact ⟨rfl, rfl⟩))
    (fun os started H enc _ => lifted os started H enc)
theorem proved : Rows.SampleStaysSaid := over
#print axioms proved
end Go.Proofs.Ytnagappcpmnkbaa.sampleStays
namespace Go.Proofs.Ytnagappcpmnkbaa
/-- The row, under a short name, for the claim. -/
theorem sampleStays_holds : Rows.SampleStaysSaid := sampleStays.proved
end Go.Proofs.Ytnagappcpmnkbaa
