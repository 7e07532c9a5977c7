/- 'Rows.GhostScalesSaid' is proved: for every input the law returns true and its arguments read as before. No conditions. Laid by a program of this session (wip/row2.py). -/
import Derived.Test.YtmniekljfhecaaaRows
import Derived.Test.YtmniekljfhecaaaGx10
import Derived.Test.YtmniekljfhecaaaPureGhostScales
import Derived.Test.YtmniekljfhecaaaLAg
import Derived.WalkKit
import Derived.ProofKit
import Derived.OpenShut
import Derived.ShutString
import Derived.ChangeOld
import Derived.Below
import Derived.SizedLaws
import Derived.Test.YtmniekljfhecaaaWSized
namespace Go.Proofs.Ytmniekljfhecaaa.ghostScales
open Go.ChangeShapes Go.WideShapes Go.ChangeAt Go.RowKit Go.Proofs.Ytmniekljfhecaaa.L
open Go.ChangeMaps (open_string shut_string)
set_option linter.unusedVariables false
theorem own : ownKnob Try.prog.godebug = none := by kernel_rfl
theorem laidOut : laidOutB Try.prog = true := by kernel_rfl
set_option maxRecDepth 100000 in
theorem lifted (os : Os) (started : os.Started) (H : Type) (enc : TypeId × Value → H) :
    ReturnsInHanded {} Try.checked os 4 .any (Rows.ghostScalesSpec.pre6 enc Try.prog Try.f4 Rows.ghostScalesRow.domain false) (Rows.ghostScalesSpec.post enc Try.prog Try.f4 false true false false) := by
  refine returnsInHanded_of_change_sized (C := Try.checked) own started (by kernel_rfl) Try.func4
    (ChangeSpec.witness6 (enc := enc) (C := Try.checked) false ⟨#[], #[.int .u16 0, .agg #[.int .u32 0, .int .u32 0], .agg #[.int .u32 0, .int .u32 0]], []⟩ 8 (by kernel_rfl) (by kernel_rfl) (by kernel_rfl) (by kernel_rfl)) ?_
  intro W base args ds gs before hval0 hW hcnd hsz0 _
  have hsz : (DataW.weightsEach Try.prog (Try.f4.params.toList ++ Rows.ghostScalesSpec.plain.varTypes Try.prog) (ds ++ gs)).all (· ≤ reachBytes) = true := hsz0
  have hval : ∀ (j : Nat) t v, Try.f4.params[j]? = some t → args[j]? = some v → Value.okWide Try.prog W .any base t v := hval0
  have hW' := hW
  obtain ⟨p, q, hA0, hV, rfl, hfz, hnd⟩ := hW
  have hA : DataW.TrodAll enc Try.prog W 0 (fun _ => true) true Try.f4.params.toList args.toList ds p := hA0
  rw [Try.params4] at hA hval hsz
  obtain ⟨v0, vs0, d0, ds0, p0, q0, hargs, rfl, rfl, h0, r0⟩ := trodAll_cons hA
  obtain ⟨v1, vs1, d1, ds1, p1, q1, rfl, rfl, rfl, h1, r1⟩ := trodAll_cons r0
  obtain ⟨v2, vs2, d2, ds2, p2, q2, rfl, rfl, rfl, h2, r2⟩ := trodAll_cons r1
  obtain ⟨rfl, rfl, rfl⟩ := trodAll_nil r2
  obtain rfl : args = #[v0, v1, v2] := by cases args; simp_all
  obtain ⟨rfl, rfl⟩ := trodVars_none hV
  obtain ⟨a0, rfl, rfl, rfl, w0⟩ := open_int Try.underlying24 (hval 0 24 v0 rfl rfl) h0
  have k1 := h1
  have lt1 : ∀ x ∈ p1, x.block < W.heap.size := by obtain ⟨m, hm⟩ := k1; exact DataW.trod_lt m _ _ _ hm
  obtain ⟨a1_0, a1_1, rfl, w1_0, w1_1⟩ : ∃ a1_0 a1_1, v1 = .agg #[.int .u32 a1_0, .int .u32 a1_1] ∧ (Lit.int .u32 a1_0).wf = true ∧ (Lit.int .u32 a1_1).wf = true := by
    obtain ⟨xs, rfl, hl, hw⟩ := agg_ints (us := [25, 25]) [.u32, .u32] (by kernel_rfl) (by kernel_rfl) (by kernel_rfl) (by kernel_rfl) (hval 1 26 v1 rfl rfl)
    obtain ⟨a1_0, a1_1, rfl⟩ := len2 hl
    exact ⟨_, _, rfl, hw 0 _ _ rfl rfl, hw 1 _ _ rfl rfl⟩
  have k2 := h2
  have lt2 : ∀ x ∈ p2, x.block < W.heap.size := by obtain ⟨m, hm⟩ := k2; exact DataW.trod_lt m _ _ _ hm
  obtain ⟨a2_0, a2_1, rfl, w2_0, w2_1⟩ : ∃ a2_0 a2_1, v2 = .agg #[.int .u32 a2_0, .int .u32 a2_1] ∧ (Lit.int .u32 a2_0).wf = true ∧ (Lit.int .u32 a2_1).wf = true := by
    obtain ⟨xs, rfl, hl, hw⟩ := agg_ints (us := [25, 25]) [.u32, .u32] (by kernel_rfl) (by kernel_rfl) (by kernel_rfl) (by kernel_rfl) (hval 2 26 v2 rfl rfl)
    obtain ⟨a2_0, a2_1, rfl⟩ := len2 hl
    exact ⟨_, _, rfl, hw 0 _ _ rfl rfl, hw 1 _ _ rfl rfl⟩
  clear hA0 hval0 hsz0 hsz
  obtain ⟨k, hk⟩ := Pure.GhostScales a0 a1_0 a1_1 a2_0 a2_1 w0 w1_0 w1_1 w2_0 w2_1
  refine (G.chronobatelaw18_GhostScales.calls k a0 a1_0 a1_1 a2_0 a2_1 true W  hk).mono fun e W' ⟨he, bel0⟩ => ?_
  have bel := bel0
  subst he
  exact ⟨_, rfl, _, _, _, [], _, [], hW', trodAll_mk1 (shut_bool Try.underlying4 _), (trodAll_cons_mk (shut_int Try.underlying24 w0) (trodAll_cons_mk (Below.trod laidOut (by kernel_rfl) (of_decide_eq_true (by kernel_rfl)) k1 bel lt1) (trodAll_cons_mk (Below.trod laidOut (by kernel_rfl) (of_decide_eq_true (by kernel_rfl)) k2 bel lt2) trodAll_mk0))), rfl, bel.frame _, fun h => by cases h⟩
theorem over : Rows.ghostScalesRow.holds Try.pinned (OpenSpec.ofChange Rows.ghostScalesSpec) :=
  OpenClaim.holds_of_wide 4 Try.f4 rfl rfl rfl rfl rfl rfl rfl ⟨rfl, rfl, rfl, rfl, rfl⟩ rfl rfl rfl rfl rfl (by kernel_rfl) Try.func4 (by kernel_rfl)
    (of_decide_eq_true (by kernel_rfl)) (by unfold Func.isWrapper; first | (rw [if_pos (by decide +kernel)]; kernel_rfl) | (rw [if_neg (by decide +kernel)]; exact ⟨rfl, rfl⟩))
    (fun os started H enc _ => lifted os started H enc)
theorem proved : Rows.GhostScalesSaid := over
#print axioms proved
end Go.Proofs.Ytmniekljfhecaaa.ghostScales
namespace Go.Proofs.Ytmniekljfhecaaa
/-- The row, under a short name, for the claim. -/
theorem ghostScales_holds : Rows.GhostScalesSaid := ghostScales.proved
end Go.Proofs.Ytmniekljfhecaaa
