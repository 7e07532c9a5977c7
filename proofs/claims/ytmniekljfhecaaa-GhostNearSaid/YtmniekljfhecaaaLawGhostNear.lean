/- 'Rows.GhostNearSaid' is proved: for every input the law returns true and its arguments read as before. No conditions. Laid by a program of this session (wip/row3.py). -/
import Derived.Test.YtmniekljfhecaaaRows
import Derived.Test.YtmniekljfhecaaaTGhostNear
import Derived.Test.YtmniekljfhecaaaLAg
import Derived.WalkKit
import Derived.ProofKit
import Derived.OpenShut
import Derived.ShutString
import Derived.ChangeOld
import Derived.Below
import Derived.SizedLaws
import Derived.Test.YtmniekljfhecaaaSXo
namespace Go.Proofs.Ytmniekljfhecaaa.ghostNear
open Go.ChangeShapes Go.WideShapes Go.ChangeAt Go.RowKit Go.Proofs.Ytmniekljfhecaaa.L
open Go.ChangeMaps (open_string shut_string)
set_option linter.unusedVariables false
theorem own : ownKnob Try.prog.godebug = none := by kernel_rfl
theorem laidOut : laidOutB Try.prog = true := by kernel_rfl
set_option maxRecDepth 100000 in
theorem lifted (os : Os) (started : os.Started) (H : Type) (enc : TypeId × Value → H) :
    ReturnsInHanded {} Try.checked os 8 .any (Rows.ghostNearSpec.pre6 enc Try.prog Try.f8 Rows.ghostNearRow.domain false) (Rows.ghostNearSpec.post enc Try.prog Try.f8 false true false false) := by
  refine returnsInHanded_of_change_sized (C := Try.checked) own started (by kernel_rfl) Try.func8
    (ChangeSpec.witness6 (enc := enc) (C := Try.checked) false ⟨#[], #[.int .u16 0, .slice none 0 0], []⟩ 8 (by kernel_rfl) (by kernel_rfl) (by kernel_rfl) (by kernel_rfl)) ?_
  intro W base args ds gs before hval0 hW hcnd hsz0 _
  have hsz : (DataW.weightsEach Try.prog (Try.f8.params.toList ++ Rows.ghostNearSpec.plain.varTypes Try.prog) (ds ++ gs)).all (· ≤ reachBytes) = true := hsz0
  have hval : ∀ (j : Nat) t v, Try.f8.params[j]? = some t → args[j]? = some v → Value.okWide Try.prog W .any base t v := hval0
  have hW' := hW
  obtain ⟨p, q, hA0, hV, rfl, hfz, hnd⟩ := hW
  have hA : DataW.TrodAll enc Try.prog W 0 (fun _ => true) true Try.f8.params.toList args.toList ds p := hA0
  rw [Try.params8] at hA hval hsz
  obtain ⟨v0, vs0, d0, ds0, p0, q0, hargs, rfl, rfl, h0, r0⟩ := trodAll_cons hA
  obtain ⟨v1, vs1, d1, ds1, p1, q1, rfl, rfl, rfl, h1, r1⟩ := trodAll_cons r0
  obtain ⟨rfl, rfl, rfl⟩ := trodAll_nil r1
  obtain rfl : args = #[v0, v1] := by cases args; simp_all
  obtain ⟨rfl, rfl⟩ := trodVars_none hV
  obtain ⟨a0, rfl, rfl, rfl, w0⟩ := open_int Try.underlying24 (hval 0 24 v0 rfl rfl) h0
  obtain ⟨a1, len1, cap1, rfl⟩ := okWide_slice Try.underlying49 (hval 1 49 v1 rfl rfl)
  have k1 := h1
  have lt1 : ∀ x ∈ p1, x.block < W.heap.size := by obtain ⟨m, hm⟩ := k1; exact DataW.trod_lt m _ _ _ hm
  obtain ⟨g1, x1⟩ : ∃ g, Go.SX.IsRows [.u32, .u32] W a1 len1 cap1 g := by
    obtain ⟨fuel, hf⟩ := h1
    exact Go.SX.open_aggs Try.underlying49 (by kernel_rfl) hf
  clear hA0 hval0 hsz0 hsz
  refine (Go.SX.law_run (P := Try.prog) (cfg := TGhostNear.cfg) (bs := [Go.SX.entOf a1 len1 cap1]) (ρ := (Go.SX.mkEnv TGhostNear.F [a0, (len1 : Int), (cap1 : Int)] [(Go.SX.rowOf g1 cap1 0), (Go.SX.rowOf g1 cap1 1)])) (TGhostNear.cfg_ok _ (fun j h => Go.SX.mkEnv_f (by show 2 ≤ j; omega))) (fuel := 100000) (f := 8) (args := TGhostNear.args) (mem := TGhostNear.mem) (pc := TGhostNear.pc) (by rw [TGhostNear.tree_eq]; exact TGhostNear.tree_holds _ (Go.SX.wf_inR w0) (Int.natCast_nonneg _) (Go.SX.rows_le x1) (fun i h0 h1 => Go.SX.rows_inR x1 (q := 0) rfl i h0 h1) (fun i h0 h1 => Go.SX.rows_inR x1 (q := 1) rfl i h0 h1) (fun j h => Go.SX.mkEnv_f (by show 2 ≤ j; omega))) rfl (TGhostNear.pc_ok _ (Go.SX.wf_inR w0) (Int.natCast_nonneg _) (Go.SX.rows_le x1) (fun i h0 h1 => Go.SX.rows_inR x1 (q := 0) rfl i h0 h1) (fun i h0 h1 => Go.SX.rows_inR x1 (q := 1) rfl i h0 h1) (fun j h => Go.SX.mkEnv_f (by show 2 ≤ j; omega))) (Go.SX.dvl_mk (Go.SX.dv_int_mk (Go.SX.wf_inR w0)) (Go.SX.dvl_mk rfl Go.SX.dvl_none)) (Go.SX.RelM.foreign rfl (Go.SX.mrel_one (Go.SX.orel_rows x1 rfl (by decide) rfl rfl (fun q p hq i hi => by rcases q with _ | _ | q <;> first | (cases hq; exact Go.SX.rowOf_get _ hi) | (cases hq)))) rfl)).mono fun e W' ⟨he, bel⟩ => ?_
  subst he
  exact ⟨_, rfl, _, _, _, [], _, [], hW', trodAll_mk1 (shut_bool Try.underlying4 _), (trodAll_cons_mk (shut_int Try.underlying24 w0) (trodAll_cons_mk (Below.trod laidOut (by kernel_rfl) (of_decide_eq_true (by kernel_rfl)) k1 bel lt1) trodAll_mk0)), rfl, bel.frame _, fun h => by cases h⟩
theorem over : Rows.ghostNearRow.holds Try.pinned (OpenSpec.ofChange Rows.ghostNearSpec) :=
  OpenClaim.holds_of_wide 8 Try.f8 rfl rfl rfl rfl rfl rfl rfl ⟨rfl, rfl, rfl, rfl, rfl⟩ rfl rfl rfl rfl rfl (by kernel_rfl) Try.func8 (by kernel_rfl)
    (of_decide_eq_true (by kernel_rfl)) (by unfold Func.isWrapper; first | (rw [if_pos (by decide +kernel)]; kernel_rfl) | (rw [if_neg (by decide +kernel)]; exact ⟨rfl, rfl⟩))
    (fun os started H enc _ => lifted os started H enc)
theorem proved : Rows.GhostNearSaid := over
#print axioms proved
end Go.Proofs.Ytmniekljfhecaaa.ghostNear
namespace Go.Proofs.Ytmniekljfhecaaa
/-- The row, under a short name, for the claim. -/
theorem ghostNear_holds : Rows.GhostNearSaid := ghostNear.proved
end Go.Proofs.Ytmniekljfhecaaa
