/- 'Rows.SaneOthersSaid' is proved: for every input the law returns true and its arguments read as before. No conditions. Laid by a program of this session (wip/row3.py). -/
import Derived.Test.YthbmnjcpdjaokaaRows
import Derived.Test.YthbmnjcpdjaokaaTSaneOthers
import Derived.Test.YthbmnjcpdjaokaaLAg
import Derived.WalkKit
import Derived.ProofKit
import Derived.OpenShut
import Derived.ShutString
import Derived.ChangeOld
import Derived.Below
import Derived.SizedLaws
namespace Go.Proofs.Ythbmnjcpdjaokaa.saneOthers
open Go.ChangeShapes Go.WideShapes Go.ChangeAt Go.RowKit Go.Proofs.Ythbmnjcpdjaokaa.L
open Go.ChangeMaps (open_string shut_string)
set_option linter.unusedVariables false
theorem own : ownKnob Try.prog.godebug = none := by kernel_rfl
theorem laidOut : laidOutB Try.prog = true := by kernel_rfl
set_option maxRecDepth 100000 in
theorem lifted (os : Os) (started : os.Started) (H : Type) (enc : TypeId × Value → H) :
    ReturnsInHanded {} Try.checked os 4 .any (Rows.saneOthersSpec.pre6 enc Try.prog Try.f4 Rows.saneOthersRow.domain false) (Rows.saneOthersSpec.post enc Try.prog Try.f4 false true false false) := by
  refine returnsInHanded_of_change_sized (C := Try.checked) own started (by kernel_rfl) Try.func4
    (ChangeSpec.witness6 (enc := enc) (C := Try.checked) false ⟨#[], #[.agg #[.int .u8 0, .int .u8 0, .int .u8 0, .int .u8 0, .int .i8 0, .int .i8 0, .int .u32 0, .int .u32 0, .int .u32 0, .int .u64 0, .int .u64 0, .int .u64 0, .int .u64 0], .int .u64 0, .int .u64 0], []⟩ 8 (by kernel_rfl) (by kernel_rfl) (by kernel_rfl) (by kernel_rfl)) ?_
  intro W base args ds gs before hval0 hW hcnd hsz0 _
  have hsz : (DataW.weightsEach Try.prog (Try.f4.params.toList ++ Rows.saneOthersSpec.plain.varTypes Try.prog) (ds ++ gs)).all (· ≤ reachBytes) = true := hsz0
  have hval : ∀ (j : Nat) t v, Try.f4.params[j]? = some t → args[j]? = some v → Value.okWide Try.prog W .any base t v := hval0
  have hW' := hW
  obtain ⟨p, q, hA0, hV, rfl, hfz, hnd⟩ := hW
  have hA : DataW.TrodAll enc Try.prog W 0 (fun _ => true) true Try.f4.params.toList args.toList ds p := hA0
  rw [Try.params4] at hA hval hsz
  obtain ⟨v0, vs0, d0, ds0, p0, q0, hargs, rfl, rfl, h0, r0⟩ := trodAll_cons hA
  obtain ⟨v1, vs1, d1, ds1, p1, q1, rfl, rfl, rfl, h1, r1⟩ := trodAll_cons r0
  obtain ⟨v2, vs2, d2, ds2, p2, q2, rfl, rfl, rfl, h2, r2⟩ := trodAll_cons r1
  obtain ⟨rfl, rfl, rfl⟩ := trodAll_nil r2
  obtain rfl : args = #[v0, v1, v2] := by cases args; simp_all
  obtain ⟨rfl, rfl⟩ := trodVars_none hV
  have k0 := h0
  have lt0 : ∀ x ∈ p0, x.block < W.heap.size := by obtain ⟨m, hm⟩ := k0; exact DataW.trod_lt m _ _ _ hm
  obtain ⟨a0_0, a0_1, a0_2, a0_3, a0_4, a0_5, a0_6, a0_7, a0_8, a0_9, a0_10, a0_11, a0_12, rfl, w0_0, w0_1, w0_2, w0_3, w0_4, w0_5, w0_6, w0_7, w0_8, w0_9, w0_10, w0_11, w0_12⟩ : ∃ a0_0 a0_1 a0_2 a0_3 a0_4 a0_5 a0_6 a0_7 a0_8 a0_9 a0_10 a0_11 a0_12, v0 = .agg #[.int .u8 a0_0, .int .u8 a0_1, .int .u8 a0_2, .int .u8 a0_3, .int .i8 a0_4, .int .i8 a0_5, .int .u32 a0_6, .int .u32 a0_7, .int .u32 a0_8, .int .u64 a0_9, .int .u64 a0_10, .int .u64 a0_11, .int .u64 a0_12] ∧ (Lit.int .u8 a0_0).wf = true ∧ (Lit.int .u8 a0_1).wf = true ∧ (Lit.int .u8 a0_2).wf = true ∧ (Lit.int .u8 a0_3).wf = true ∧ (Lit.int .i8 a0_4).wf = true ∧ (Lit.int .i8 a0_5).wf = true ∧ (Lit.int .u32 a0_6).wf = true ∧ (Lit.int .u32 a0_7).wf = true ∧ (Lit.int .u32 a0_8).wf = true ∧ (Lit.int .u64 a0_9).wf = true ∧ (Lit.int .u64 a0_10).wf = true ∧ (Lit.int .u64 a0_11).wf = true ∧ (Lit.int .u64 a0_12).wf = true := by
    obtain ⟨xs, rfl, hl, hw⟩ := agg_ints (us := [5, 5, 5, 5, 27, 27, 28, 28, 28, 22, 22, 22, 22]) [.u8, .u8, .u8, .u8, .i8, .i8, .u32, .u32, .u32, .u64, .u64, .u64, .u64] (by kernel_rfl) (by kernel_rfl) (by kernel_rfl) (by kernel_rfl) (hval 0 30 v0 rfl rfl)
    obtain ⟨a0_0, a0_1, a0_2, a0_3, a0_4, a0_5, a0_6, a0_7, a0_8, a0_9, a0_10, a0_11, a0_12, rfl⟩ := len13 hl
    exact ⟨_, _, _, _, _, _, _, _, _, _, _, _, _, rfl, hw 0 _ _ rfl rfl, hw 1 _ _ rfl rfl, hw 2 _ _ rfl rfl, hw 3 _ _ rfl rfl, hw 4 _ _ rfl rfl, hw 5 _ _ rfl rfl, hw 6 _ _ rfl rfl, hw 7 _ _ rfl rfl, hw 8 _ _ rfl rfl, hw 9 _ _ rfl rfl, hw 10 _ _ rfl rfl, hw 11 _ _ rfl rfl, hw 12 _ _ rfl rfl⟩
  obtain ⟨a1, rfl, rfl, rfl, w1⟩ := open_int Try.underlying22 (hval 1 22 v1 rfl rfl) h1
  obtain ⟨a2, rfl, rfl, rfl, w2⟩ := open_int Try.underlying22 (hval 2 22 v2 rfl rfl) h2
  clear hA0 hval0 hsz0 hsz
  refine (Go.SX.law_run (P := Try.prog) (cfg := TSaneOthers.cfg) (bs := []) (ρ := (Go.SX.mkEnv TSaneOthers.F [a0_0, a0_1, a0_2, a0_3, a0_4, a0_5, a0_6, a0_7, a0_8, a0_9, a0_10, a0_11, a0_12, a1, a2] [])) (TSaneOthers.cfg_ok _ (fun j h => Go.SX.mkEnv_f (by show 0 ≤ j; omega))) (N := fun _ _ => True) (hN := trivial) (fuel := 100000) (f := 4) (args := TSaneOthers.args) (mem := TSaneOthers.mem) (pc := TSaneOthers.pc) (by rw [TSaneOthers.tree_eq]; exact TSaneOthers.tree_holds _ (Go.SX.wf_inR w0_0) (Go.SX.wf_inR w0_1) (Go.SX.wf_inR w0_2) (Go.SX.wf_inR w0_3) (Go.SX.wf_inR w0_4) (Go.SX.wf_inR w0_5) (Go.SX.wf_inR w0_6) (Go.SX.wf_inR w0_7) (Go.SX.wf_inR w0_8) (Go.SX.wf_inR w0_9) (Go.SX.wf_inR w0_10) (Go.SX.wf_inR w0_11) (Go.SX.wf_inR w0_12) (Go.SX.wf_inR w1) (Go.SX.wf_inR w2) (fun j h => Go.SX.mkEnv_f (by show 0 ≤ j; omega))) rfl (TSaneOthers.pc_ok _ (Go.SX.wf_inR w0_0) (Go.SX.wf_inR w0_1) (Go.SX.wf_inR w0_2) (Go.SX.wf_inR w0_3) (Go.SX.wf_inR w0_4) (Go.SX.wf_inR w0_5) (Go.SX.wf_inR w0_6) (Go.SX.wf_inR w0_7) (Go.SX.wf_inR w0_8) (Go.SX.wf_inR w0_9) (Go.SX.wf_inR w0_10) (Go.SX.wf_inR w0_11) (Go.SX.wf_inR w0_12) (Go.SX.wf_inR w1) (Go.SX.wf_inR w2) (fun j h => Go.SX.mkEnv_f (by show 0 ≤ j; omega))) (Go.SX.dvl_mk (Go.SX.dv_agg_mk (Go.SX.dvl_mk (Go.SX.dv_int_mk (Go.SX.wf_inR w0_0)) (Go.SX.dvl_mk (Go.SX.dv_int_mk (Go.SX.wf_inR w0_1)) (Go.SX.dvl_mk (Go.SX.dv_int_mk (Go.SX.wf_inR w0_2)) (Go.SX.dvl_mk (Go.SX.dv_int_mk (Go.SX.wf_inR w0_3)) (Go.SX.dvl_mk (Go.SX.dv_int_mk (Go.SX.wf_inR w0_4)) (Go.SX.dvl_mk (Go.SX.dv_int_mk (Go.SX.wf_inR w0_5)) (Go.SX.dvl_mk (Go.SX.dv_int_mk (Go.SX.wf_inR w0_6)) (Go.SX.dvl_mk (Go.SX.dv_int_mk (Go.SX.wf_inR w0_7)) (Go.SX.dvl_mk (Go.SX.dv_int_mk (Go.SX.wf_inR w0_8)) (Go.SX.dvl_mk (Go.SX.dv_int_mk (Go.SX.wf_inR w0_9)) (Go.SX.dvl_mk (Go.SX.dv_int_mk (Go.SX.wf_inR w0_10)) (Go.SX.dvl_mk (Go.SX.dv_int_mk (Go.SX.wf_inR w0_11)) (Go.SX.dvl_mk (Go.SX.dv_int_mk (Go.SX.wf_inR w0_12)) Go.SX.dvl_none)))))))))))))) (Go.SX.dvl_mk (Go.SX.dv_int_mk (Go.SX.wf_inR w1)) (Go.SX.dvl_mk (Go.SX.dv_int_mk (Go.SX.wf_inR w2)) Go.SX.dvl_none))) (Go.SX.RelM.foreign rfl Go.SX.mrel_nil rfl)).mono fun e W' ⟨he, bel⟩ => ?_
  subst he
  exact ⟨_, rfl, _, _, _, [], _, [], hW', trodAll_mk1 (shut_bool Try.underlying4 _), (trodAll_cons_mk (Below.trod laidOut (by kernel_rfl) (of_decide_eq_true (by kernel_rfl)) k0 bel lt0) (trodAll_cons_mk (shut_int Try.underlying22 w1) (trodAll_cons_mk (shut_int Try.underlying22 w2) trodAll_mk0))), rfl, bel.frame _, fun h => by cases h⟩
theorem over : Rows.saneOthersRow.holds Try.pinned (OpenSpec.ofChange Rows.saneOthersSpec) :=
  OpenClaim.holds_of_wide 4 Try.f4 rfl rfl rfl rfl rfl rfl rfl ⟨rfl, rfl, rfl, rfl, rfl⟩ rfl rfl rfl rfl rfl (by kernel_rfl) Try.func4 (by kernel_rfl)
    (of_decide_eq_true (by kernel_rfl)) (by unfold Func.isWrapper; first | (rw [if_pos (by decide +kernel)]; kernel_rfl) | (rw [if_neg (by decide +kernel)]; exact ⟨rfl, rfl⟩))
    (fun os started H enc _ => lifted os started H enc)
theorem proved : Rows.SaneOthersSaid := over
#print axioms proved
end Go.Proofs.Ythbmnjcpdjaokaa.saneOthers
namespace Go.Proofs.Ythbmnjcpdjaokaa
/-- The row, under a short name, for the claim. -/
theorem saneOthers_holds : Rows.SaneOthersSaid := saneOthers.proved
end Go.Proofs.Ythbmnjcpdjaokaa
