/- 'Rows.StampSumsSaid' is proved: for every input the law returns true and its arguments read as before. No conditions. Laid by a program of this session (wip/row2.py). -/
import Derived.Test.YtampkfchofijbaaRows
import Derived.Test.YtampkfchofijbaaGx5
import Derived.Test.YtampkfchofijbaaPureStampSums
import Derived.Test.YtampkfchofijbaaLAg
import Derived.WalkKit
import Derived.ProofKit
import Derived.OpenShut
import Derived.ShutString
import Derived.ChangeOld
import Derived.Below
import Derived.SizedLaws
import Derived.Test.YtampkfchofijbaaWSized
namespace Go.Proofs.Ytampkfchofijbaa.stampSums
open Go.ChangeShapes Go.WideShapes Go.ChangeAt Go.RowKit Go.Proofs.Ytampkfchofijbaa.L
open Go.ChangeMaps (open_string shut_string)
set_option linter.unusedVariables false
theorem own : ownKnob Try.prog.godebug = none := by kernel_rfl
theorem laidOut : laidOutB Try.prog = true := by kernel_rfl
set_option maxRecDepth 100000 in
theorem lifted (os : Os) (started : os.Started) (H : Type) (enc : TypeId × Value → H) :
    ReturnsInHanded {} Try.checked os 5 .any (Rows.stampSumsSpec.pre6 enc Try.prog Try.f5 Rows.stampSumsRow.domain false) (Rows.stampSumsSpec.post enc Try.prog Try.f5 false true false false) := by
  refine returnsInHanded_of_change_sized (C := Try.checked) own started (by kernel_rfl) Try.func5
    (ChangeSpec.witness6 (enc := enc) (C := Try.checked) false ⟨#[], #[.int .u64 0, .agg #[.int .i32 0, .int .i32 0]], []⟩ 8 (by kernel_rfl) (by kernel_rfl) (by kernel_rfl) (by kernel_rfl)) ?_
  intro W base args ds gs before hval0 hW hcnd hsz0 _
  have hsz : (DataW.weightsEach Try.prog (Try.f5.params.toList ++ Rows.stampSumsSpec.plain.varTypes Try.prog) (ds ++ gs)).all (· ≤ reachBytes) = true := hsz0
  have hval : ∀ (j : Nat) t v, Try.f5.params[j]? = some t → args[j]? = some v → Value.okWide Try.prog W .any base t v := hval0
  have hW' := hW
  obtain ⟨p, q, hA0, hV, rfl, hfz, hnd⟩ := hW
  have hA : DataW.TrodAll enc Try.prog W 0 (fun _ => true) true Try.f5.params.toList args.toList ds p := hA0
  rw [Try.params5] at hA hval hsz
  obtain ⟨v0, vs0, d0, ds0, p0, q0, hargs, rfl, rfl, h0, r0⟩ := trodAll_cons hA
  obtain ⟨v1, vs1, d1, ds1, p1, q1, rfl, rfl, rfl, h1, r1⟩ := trodAll_cons r0
  obtain ⟨rfl, rfl, rfl⟩ := trodAll_nil r1
  obtain rfl : args = #[v0, v1] := by cases args; simp_all
  obtain ⟨rfl, rfl⟩ := trodVars_none hV
  obtain ⟨a0, rfl, rfl, rfl, w0⟩ := open_int Try.underlying23 (hval 0 23 v0 rfl rfl) h0
  have k1 := h1
  have lt1 : ∀ x ∈ p1, x.block < W.heap.size := by obtain ⟨m, hm⟩ := k1; exact DataW.trod_lt m _ _ _ hm
  obtain ⟨a1_0, a1_1, rfl, w1_0, w1_1⟩ : ∃ a1_0 a1_1, v1 = .agg #[.int .i32 a1_0, .int .i32 a1_1] ∧ (Lit.int .i32 a1_0).wf = true ∧ (Lit.int .i32 a1_1).wf = true := by
    obtain ⟨xs, rfl, hl, hw⟩ := agg_ints (us := [21, 21]) [.i32, .i32] (by kernel_rfl) (by kernel_rfl) (by kernel_rfl) (by kernel_rfl) (hval 1 30 v1 rfl rfl)
    obtain ⟨a1_0, a1_1, rfl⟩ := len2 hl
    exact ⟨_, _, rfl, hw 0 _ _ rfl rfl, hw 1 _ _ rfl rfl⟩
  clear hA0 hval0 hsz0 hsz
  obtain ⟨k, hk⟩ := Pure.StampSums a0 a1_0 a1_1 w0 w1_0 w1_1
  refine (G.chronobatelaw02_StampSums.calls k a0 a1_0 a1_1 true W  hk).mono fun e W' ⟨he, bel0⟩ => ?_
  have bel := bel0
  subst he
  exact ⟨_, rfl, _, _, _, [], _, [], hW', trodAll_mk1 (shut_bool Try.underlying4 _), (trodAll_cons_mk (shut_int Try.underlying23 w0) (trodAll_cons_mk (Below.trod laidOut (by kernel_rfl) (of_decide_eq_true (by kernel_rfl)) k1 bel lt1) trodAll_mk0)), rfl, bel.frame _, fun h => by cases h⟩
theorem over : Rows.stampSumsRow.holds Try.pinned (OpenSpec.ofChange Rows.stampSumsSpec) :=
  OpenClaim.holds_of_wide 5 Try.f5 rfl rfl rfl rfl rfl rfl rfl ⟨rfl, rfl, rfl, rfl, rfl⟩ rfl rfl rfl rfl rfl (by kernel_rfl) Try.func5 (by kernel_rfl)
    (of_decide_eq_true (by kernel_rfl)) (by unfold Func.isWrapper; first | (rw [if_pos (by decide +kernel)]; kernel_rfl) | (rw [if_neg (by decide +kernel)]; exact ⟨rfl, rfl⟩))
    (fun os started H enc _ => lifted os started H enc)
theorem proved : Rows.StampSumsSaid := over
#print axioms proved
end Go.Proofs.Ytampkfchofijbaa.stampSums
namespace Go.Proofs.Ytampkfchofijbaa
/-- The row, under a short name, for the claim. -/
theorem stampSums_holds : Rows.StampSumsSaid := stampSums.proved
end Go.Proofs.Ytampkfchofijbaa
