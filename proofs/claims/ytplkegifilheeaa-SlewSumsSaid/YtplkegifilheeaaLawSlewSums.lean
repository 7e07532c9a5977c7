/- 'Rows.SlewSumsSaid' is proved: for every input the law returns true and its arguments read as before. No conditions. Laid by a program of this session (wip/row3.py). -/
import Derived.Test.YtplkegifilheeaaRows
import Derived.Test.YtplkegifilheeaaTSlewSums
import Derived.Test.YtplkegifilheeaaLAg
import Derived.WalkKit
import Derived.ProofKit
import Derived.OpenShut
import Derived.ShutString
import Derived.ChangeOld
import Derived.Below
import Derived.SizedLaws
namespace Go.Proofs.Ytplkegifilheeaa.slewSums
open Go.ChangeShapes Go.WideShapes Go.ChangeAt Go.RowKit Go.Proofs.Ytplkegifilheeaa.L
open Go.ChangeMaps (open_string shut_string)
set_option linter.unusedVariables false
theorem own : ownKnob Try.prog.godebug = none := by kernel_rfl
theorem laidOut : laidOutB Try.prog = true := by kernel_rfl
set_option maxRecDepth 100000 in
theorem lifted (os : Os) (started : os.Started) (H : Type) (enc : TypeId × Value → H) :
    ReturnsInHanded {} Try.checked os 5 .any (Rows.slewSumsSpec.pre6 enc Try.prog Try.f5 Rows.slewSumsRow.domain false) (Rows.slewSumsSpec.post enc Try.prog Try.f5 false true false false) := by
  refine returnsInHanded_of_change_sized (C := Try.checked) own started (by kernel_rfl) Try.func5
    (ChangeSpec.witness6 (enc := enc) (C := Try.checked) false ⟨#[], #[.agg #[.int .i64 0, .int .i64 0], .int .u16 0, .agg #[.int .i64 0, .int .i64 0, .int .i64 0, .int .i64 0]], []⟩ 8 (by kernel_rfl) (by kernel_rfl) (by kernel_rfl) (by kernel_rfl)) ?_
  intro W base args ds gs before hval0 hW hcnd hsz0 _
  have hsz : (DataW.weightsEach Try.prog (Try.f5.params.toList ++ Rows.slewSumsSpec.plain.varTypes Try.prog) (ds ++ gs)).all (· ≤ reachBytes) = true := hsz0
  have hval : ∀ (j : Nat) t v, Try.f5.params[j]? = some t → args[j]? = some v → Value.okWide Try.prog W .any base t v := hval0
  have hW' := hW
  obtain ⟨p, q, hA0, hV, rfl, hfz, hnd⟩ := hW
  have hA : DataW.TrodAll enc Try.prog W 0 (fun _ => true) true Try.f5.params.toList args.toList ds p := hA0
  rw [Try.params5] at hA hval hsz
  obtain ⟨v0, vs0, d0, ds0, p0, q0, hargs, rfl, rfl, h0, r0⟩ := trodAll_cons hA
  obtain ⟨v1, vs1, d1, ds1, p1, q1, rfl, rfl, rfl, h1, r1⟩ := trodAll_cons r0
  obtain ⟨v2, vs2, d2, ds2, p2, q2, rfl, rfl, rfl, h2, r2⟩ := trodAll_cons r1
  obtain ⟨rfl, rfl, rfl⟩ := trodAll_nil r2
  obtain rfl : args = #[v0, v1, v2] := by cases args; simp_all
  obtain ⟨rfl, rfl⟩ := trodVars_none hV
  have k0 := h0
  have lt0 : ∀ x ∈ p0, x.block < W.heap.size := by obtain ⟨m, hm⟩ := k0; exact DataW.trod_lt m _ _ _ hm
  obtain ⟨a0_0, a0_1, rfl, w0_0, w0_1⟩ : ∃ a0_0 a0_1, v0 = .agg #[.int .i64 a0_0, .int .i64 a0_1] ∧ (Lit.int .i64 a0_0).wf = true ∧ (Lit.int .i64 a0_1).wf = true := by
    obtain ⟨xs, rfl, hl, hw⟩ := agg_ints (us := [2, 2]) [.i64, .i64] (by kernel_rfl) (by kernel_rfl) (by kernel_rfl) (by kernel_rfl) (hval 0 33 v0 rfl rfl)
    obtain ⟨a0_0, a0_1, rfl⟩ := len2 hl
    exact ⟨_, _, rfl, hw 0 _ _ rfl rfl, hw 1 _ _ rfl rfl⟩
  obtain ⟨a1, rfl, rfl, rfl, w1⟩ := open_int Try.underlying22 (hval 1 22 v1 rfl rfl) h1
  have k2 := h2
  have lt2 : ∀ x ∈ p2, x.block < W.heap.size := by obtain ⟨m, hm⟩ := k2; exact DataW.trod_lt m _ _ _ hm
  obtain ⟨a2_0, a2_1, a2_2, a2_3, rfl, w2_0, w2_1, w2_2, w2_3⟩ : ∃ a2_0 a2_1 a2_2 a2_3, v2 = .agg #[.int .i64 a2_0, .int .i64 a2_1, .int .i64 a2_2, .int .i64 a2_3] ∧ (Lit.int .i64 a2_0).wf = true ∧ (Lit.int .i64 a2_1).wf = true ∧ (Lit.int .i64 a2_2).wf = true ∧ (Lit.int .i64 a2_3).wf = true := by
    obtain ⟨xs, rfl, hl, hw⟩ := agg_ints (us := [2, 2, 2, 2]) [.i64, .i64, .i64, .i64] (by kernel_rfl) (by kernel_rfl) (by kernel_rfl) (by kernel_rfl) (hval 2 36 v2 rfl rfl)
    obtain ⟨a2_0, a2_1, a2_2, a2_3, rfl⟩ := len4 hl
    exact ⟨_, _, _, _, rfl, hw 0 _ _ rfl rfl, hw 1 _ _ rfl rfl, hw 2 _ _ rfl rfl, hw 3 _ _ rfl rfl⟩
  clear hA0 hval0 hsz0 hsz
  refine (Go.SX.law_run (P := Try.prog) (cfg := TSlewSums.cfg) (bs := []) (ρ := (Go.SX.mkEnv TSlewSums.F [a0_0, a0_1, a1, a2_0, a2_1, a2_2, a2_3] [])) (TSlewSums.cfg_ok _ (fun j h => Go.SX.mkEnv_f (by show 0 ≤ j; omega))) (fuel := 100000) (f := 5) (args := TSlewSums.args) (mem := TSlewSums.mem) (pc := TSlewSums.pc) (by rw [TSlewSums.tree_eq]; exact TSlewSums.tree_holds _ (Go.SX.wf_inR w0_0) (Go.SX.wf_inR w0_1) (Go.SX.wf_inR w1) (Go.SX.wf_inR w2_0) (Go.SX.wf_inR w2_1) (Go.SX.wf_inR w2_2) (Go.SX.wf_inR w2_3) (fun j h => Go.SX.mkEnv_f (by show 0 ≤ j; omega))) rfl (TSlewSums.pc_ok _ (Go.SX.wf_inR w0_0) (Go.SX.wf_inR w0_1) (Go.SX.wf_inR w1) (Go.SX.wf_inR w2_0) (Go.SX.wf_inR w2_1) (Go.SX.wf_inR w2_2) (Go.SX.wf_inR w2_3) (fun j h => Go.SX.mkEnv_f (by show 0 ≤ j; omega))) (Go.SX.dvl_mk (Go.SX.dv_agg_mk (Go.SX.dvl_mk (Go.SX.dv_int_mk (Go.SX.wf_inR w0_0)) (Go.SX.dvl_mk (Go.SX.dv_int_mk (Go.SX.wf_inR w0_1)) Go.SX.dvl_none))) (Go.SX.dvl_mk (Go.SX.dv_int_mk (Go.SX.wf_inR w1)) (Go.SX.dvl_mk (Go.SX.dv_agg_mk (Go.SX.dvl_mk (Go.SX.dv_int_mk (Go.SX.wf_inR w2_0)) (Go.SX.dvl_mk (Go.SX.dv_int_mk (Go.SX.wf_inR w2_1)) (Go.SX.dvl_mk (Go.SX.dv_int_mk (Go.SX.wf_inR w2_2)) (Go.SX.dvl_mk (Go.SX.dv_int_mk (Go.SX.wf_inR w2_3)) Go.SX.dvl_none))))) Go.SX.dvl_none))) (Go.SX.RelM.foreign rfl Go.SX.mrel_nil rfl)).mono fun e W' ⟨he, bel⟩ => ?_
  subst he
  exact ⟨_, rfl, _, _, _, [], _, [], hW', trodAll_mk1 (shut_bool Try.underlying4 _), (trodAll_cons_mk (Below.trod laidOut (by kernel_rfl) (of_decide_eq_true (by kernel_rfl)) k0 bel lt0) (trodAll_cons_mk (shut_int Try.underlying22 w1) (trodAll_cons_mk (Below.trod laidOut (by kernel_rfl) (of_decide_eq_true (by kernel_rfl)) k2 bel lt2) trodAll_mk0))), rfl, bel.frame _, fun h => by cases h⟩
theorem over : Rows.slewSumsRow.holds Try.pinned (OpenSpec.ofChange Rows.slewSumsSpec) :=
  OpenClaim.holds_of_wide 5 Try.f5 rfl rfl rfl rfl rfl rfl rfl ⟨rfl, rfl, rfl, rfl, rfl⟩ rfl rfl rfl rfl rfl (by kernel_rfl) Try.func5 (by kernel_rfl)
    (of_decide_eq_true (by kernel_rfl)) (by unfold Func.isWrapper; first | (rw [if_pos (by decide +kernel)]; kernel_rfl) | (rw [if_neg (by decide +kernel)]; exact ⟨rfl, rfl⟩))
    (fun os started H enc _ => lifted os started H enc)
theorem proved : Rows.SlewSumsSaid := over
#print axioms proved
end Go.Proofs.Ytplkegifilheeaa.slewSums
namespace Go.Proofs.Ytplkegifilheeaa
/-- The row, under a short name, for the claim. -/
theorem slewSums_holds : Rows.SlewSumsSaid := slewSums.proved
end Go.Proofs.Ytplkegifilheeaa
