/- 'Rows.SlewActsSaid' is proved: for every input the law returns true and its arguments read as before. No conditions. Laid by a program of this session (wip/row3.py). -/
import Derived.Test.YtplkegifilheeaaRows
import Derived.Test.YtplkegifilheeaaTSlewActs
import Derived.Test.YtplkegifilheeaaLAg
import Derived.WalkKit
import Derived.ProofKit
import Derived.OpenShut
import Derived.ShutString
import Derived.ChangeOld
import Derived.Below
import Derived.SizedLaws
import Derived.Test.YtplkegifilheeaaSXo
namespace Go.Proofs.Ytplkegifilheeaa.slewActs
open Go.ChangeShapes Go.WideShapes Go.ChangeAt Go.RowKit Go.Proofs.Ytplkegifilheeaa.L
open Go.ChangeMaps (open_string shut_string)
set_option linter.unusedVariables false
theorem own : ownKnob Try.prog.godebug = none := by kernel_rfl
theorem laidOut : laidOutB Try.prog = true := by kernel_rfl
set_option maxRecDepth 100000 in
theorem lifted (os : Os) (started : os.Started) (H : Type) (enc : TypeId × Value → H) :
    ReturnsInHanded {} Try.checked os 7 .any (Rows.slewActsSpec.pre6 enc Try.prog Try.f7 Rows.slewActsRow.domain false) (Rows.slewActsSpec.post enc Try.prog Try.f7 false true false false) := by
  refine returnsInHanded_of_change_sized (C := Try.checked) own started (by kernel_rfl) Try.func7
    (ChangeSpec.witness6 (enc := enc) (C := Try.checked) false ⟨#[], #[.agg #[.int .i64 0, .int .i64 0], .int .i64 0, .slice none 0 0], []⟩ 8 (by kernel_rfl) (by kernel_rfl) (by kernel_rfl) (by kernel_rfl)) ?_
  intro W base args ds gs before hval0 hW hcnd hsz0 _
  have hsz : (DataW.weightsEach Try.prog (Try.f7.params.toList ++ Rows.slewActsSpec.plain.varTypes Try.prog) (ds ++ gs)).all (· ≤ reachBytes) = true := hsz0
  have hval : ∀ (j : Nat) t v, Try.f7.params[j]? = some t → args[j]? = some v → Value.okWide Try.prog W .any base t v := hval0
  have hW' := hW
  obtain ⟨p, q, hA0, hV, rfl, hfz, hnd⟩ := hW
  have hA : DataW.TrodAll enc Try.prog W 0 (fun _ => true) true Try.f7.params.toList args.toList ds p := hA0
  rw [Try.params7] at hA hval hsz
  obtain ⟨v0, vs0, d0, ds0, p0, q0, hargs, rfl, rfl, h0, r0⟩ := trodAll_cons hA
  obtain ⟨v1, vs1, d1, ds1, p1, q1, rfl, rfl, rfl, h1, r1⟩ := trodAll_cons r0
  obtain ⟨v2, vs2, d2, ds2, p2, q2, rfl, rfl, rfl, h2, r2⟩ := trodAll_cons r1
  obtain ⟨rfl, rfl, rfl⟩ := trodAll_nil r2
  obtain rfl : args = #[v0, v1, v2] := by cases args; simp_all
  obtain ⟨rfl, rfl⟩ := trodVars_none hV
  have k0 := h0
  have lt0 : ∀ x ∈ p0, x.block < W.heap.size := by obtain ⟨m, hm⟩ := k0; exact DataW.trod_lt m _ _ _ hm
  obtain ⟨a0_0, a0_1, rfl, w0_0, w0_1⟩ : ∃ a0_0 a0_1, v0 = .agg #[.int .i64 a0_0, .int .i64 a0_1] ∧ (Lit.int .i64 a0_0).wf = true ∧ (Lit.int .i64 a0_1).wf = true := by
    obtain ⟨xs, rfl, hl, hw⟩ := agg_ints (us := [2, 2]) [.i64, .i64] (by kernel_rfl) (by kernel_rfl) (by kernel_rfl) (by kernel_rfl) (hval 0 33 v0 rfl rfl)
    obtain ⟨a0_0, a0_1, rfl⟩ := len2 hl
    exact ⟨_, _, rfl, hw 0 _ _ rfl rfl, hw 1 _ _ rfl rfl⟩
  obtain ⟨a1, rfl, rfl, rfl, w1⟩ := open_int Try.underlying3 (hval 1 3 v1 rfl rfl) h1
  obtain ⟨a2, len2, cap2, rfl⟩ := okWide_slice Try.underlying45 (hval 2 45 v2 rfl rfl)
  have k2 := h2
  have lt2 : ∀ x ∈ p2, x.block < W.heap.size := by obtain ⟨m, hm⟩ := k2; exact DataW.trod_lt m _ _ _ hm
  obtain ⟨g2, x2⟩ : ∃ g, Go.SX.IsRows [.i64, .i64, .i64] W a2 len2 cap2 g := by
    obtain ⟨fuel, hf⟩ := h2
    exact Go.SX.open_aggs Try.underlying45 (by kernel_rfl) hf
  clear hA0 hval0 hsz0 hsz
  refine (Go.SX.law_run (P := Try.prog) (cfg := TSlewActs.cfg) (bs := [Go.SX.entOf a2 len2 cap2]) (ρ := (Go.SX.mkEnv TSlewActs.F [a0_0, a0_1, a1, (len2 : Int), (cap2 : Int)] [(Go.SX.rowOf g2 cap2 0), (Go.SX.rowOf g2 cap2 1), (Go.SX.rowOf g2 cap2 2)])) (TSlewActs.cfg_ok _ (fun j h h2 => Go.SX.mkEnv_f (by show 3 ≤ j; omega))) (N := fun _ _ => True) (hN := trivial) (fuel := 100000) (f := 7) (args := TSlewActs.args) (mem := TSlewActs.mem) (pc := []) (by rw [TSlewActs.tree_eq]; exact TSlewActs.tree_holds _ (Go.SX.wf_inR w0_0) (Go.SX.wf_inR w0_1) (Go.SX.wf_inR w1) (Int.natCast_nonneg _) (Go.SX.rows_le x2) (fun i h0 h1 => Go.SX.rows_inR x2 (q := 0) rfl i h0 h1) (fun i h0 h1 => Go.SX.rows_inR x2 (q := 1) rfl i h0 h1) (fun i h0 h1 => Go.SX.rows_inR x2 (q := 2) rfl i h0 h1) (fun j h h2 => Go.SX.mkEnv_f (by show 3 ≤ j; omega))) rfl (fun _ h => by cases h) (Go.SX.dvl_mk (Go.SX.dv_agg_mk (Go.SX.dvl_mk (Go.SX.dv_int_mk (Go.SX.wf_inR w0_0)) (Go.SX.dvl_mk (Go.SX.dv_int_mk (Go.SX.wf_inR w0_1)) Go.SX.dvl_none))) (Go.SX.dvl_mk (Go.SX.dv_int_mk (Go.SX.wf_inR w1)) (Go.SX.dvl_mk rfl Go.SX.dvl_none))) (Go.SX.RelM.foreign rfl (Go.SX.mrel_one (Go.SX.orel_rows (row := [(.i64, 0), (.i64, 1), (.i64, 2)]) x2 rfl (by decide) rfl rfl (fun q p hq i hi => by rcases q with _ | _ | _ | q <;> first | (cases hq; exact Go.SX.rowOf_get _ hi) | (cases hq)))) rfl)).mono fun e W' ⟨he, bel⟩ => ?_
  subst he
  exact ⟨_, rfl, _, _, _, [], _, [], hW', trodAll_mk1 (shut_bool Try.underlying4 _), (trodAll_cons_mk (Below.trod laidOut (by kernel_rfl) (of_decide_eq_true (by kernel_rfl)) k0 bel lt0) (trodAll_cons_mk (shut_int Try.underlying3 w1) (trodAll_cons_mk (Below.trod laidOut (by kernel_rfl) (of_decide_eq_true (by kernel_rfl)) k2 bel lt2) trodAll_mk0))), rfl, bel.frame _, fun h => by cases h⟩
theorem over : Rows.slewActsRow.holds Try.pinned (OpenSpec.ofChange Rows.slewActsSpec) :=
  OpenClaim.holds_of_wide 7 Try.f7 rfl rfl rfl rfl rfl rfl rfl ⟨rfl, rfl, rfl, rfl, rfl⟩ rfl rfl rfl rfl rfl (by kernel_rfl) Try.func7 (by kernel_rfl)
    (of_decide_eq_true (by kernel_rfl)) (by unfold Func.isWrapper; first | (rw [if_pos (by decide +kernel)]; kernel_rfl) | (rw [if_neg (by decide +kernel)]; exact ⟨rfl, rfl⟩))
    (fun os started H enc _ => lifted os started H enc)
theorem proved : Rows.SlewActsSaid := over
#print axioms proved
end Go.Proofs.Ytplkegifilheeaa.slewActs
namespace Go.Proofs.Ytplkegifilheeaa
/-- The row, under a short name, for the claim. -/
theorem slewActs_holds : Rows.SlewActsSaid := slewActs.proved
end Go.Proofs.Ytplkegifilheeaa
