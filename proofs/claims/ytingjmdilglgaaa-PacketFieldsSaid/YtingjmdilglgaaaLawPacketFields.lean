/- 'Rows.PacketFieldsSaid' is proved: for every input the law returns true and its arguments read as before. No conditions. Laid by a program of this session (wip/row2.py). -/
import Derived.Test.YtingjmdilglgaaaRows
import Derived.Test.YtingjmdilglgaaaGx5
import Derived.Test.YtingjmdilglgaaaPurePacketFields
import Derived.Test.YtingjmdilglgaaaLAg
import Derived.WalkKit
import Derived.ProofKit
import Derived.OpenShut
import Derived.ShutString
import Derived.ChangeOld
import Derived.Below
import Derived.SizedLaws
import Derived.Test.YtingjmdilglgaaaWSized
namespace Go.Proofs.Ytingjmdilglgaaa.packetFields
open Go.ChangeShapes Go.WideShapes Go.ChangeAt Go.RowKit Go.Proofs.Ytingjmdilglgaaa.L
open Go.ChangeMaps (open_string shut_string)
set_option linter.unusedVariables false
theorem own : ownKnob Try.prog.godebug = none := by kernel_rfl
theorem laidOut : laidOutB Try.prog = true := by kernel_rfl
set_option maxRecDepth 100000 in
theorem lifted (os : Os) (started : os.Started) (H : Type) (enc : TypeId × Value → H) :
    ReturnsInHanded {} Try.checked os 4 .any (Rows.packetFieldsSpec.pre6 enc Try.prog Try.f4 Rows.packetFieldsRow.domain false) (Rows.packetFieldsSpec.post enc Try.prog Try.f4 false true false false) := by
  refine returnsInHanded_of_change_sized (C := Try.checked) own started (by kernel_rfl) Try.func4
    (ChangeSpec.witness6 (enc := enc) (C := Try.checked) false ⟨#[], #[.agg #[.int .u8 0, .int .u8 0, .int .u8 0, .int .u8 0, .int .i8 0, .int .i8 0, .int .u32 0, .int .u32 0, .int .u32 0, .int .u64 0, .int .u64 0, .int .u64 0, .int .u64 0], .int .u8 0], []⟩ 8 (by kernel_rfl) (by kernel_rfl) (by kernel_rfl) (by kernel_rfl)) ?_
  intro W base args ds gs before hval0 hW hcnd hsz0 _
  have hsz : (DataW.weightsEach Try.prog (Try.f4.params.toList ++ Rows.packetFieldsSpec.plain.varTypes Try.prog) (ds ++ gs)).all (· ≤ reachBytes) = true := hsz0
  have hval : ∀ (j : Nat) t v, Try.f4.params[j]? = some t → args[j]? = some v → Value.okWide Try.prog W .any base t v := hval0
  have hW' := hW
  obtain ⟨p, q, hA0, hV, rfl, hfz, hnd⟩ := hW
  have hA : DataW.TrodAll enc Try.prog W 0 (fun _ => true) true Try.f4.params.toList args.toList ds p := hA0
  rw [Try.params4] at hA hval hsz
  obtain ⟨v0, vs0, d0, ds0, p0, q0, hargs, rfl, rfl, h0, r0⟩ := trodAll_cons hA
  obtain ⟨v1, vs1, d1, ds1, p1, q1, rfl, rfl, rfl, h1, r1⟩ := trodAll_cons r0
  obtain ⟨rfl, rfl, rfl⟩ := trodAll_nil r1
  obtain rfl : args = #[v0, v1] := by cases args; simp_all
  obtain ⟨rfl, rfl⟩ := trodVars_none hV
  have k0 := h0
  have lt0 : ∀ x ∈ p0, x.block < W.heap.size := by obtain ⟨m, hm⟩ := k0; exact DataW.trod_lt m _ _ _ hm
  obtain ⟨a0_0, a0_1, a0_2, a0_3, a0_4, a0_5, a0_6, a0_7, a0_8, a0_9, a0_10, a0_11, a0_12, rfl, w0_0, w0_1, w0_2, w0_3, w0_4, w0_5, w0_6, w0_7, w0_8, w0_9, w0_10, w0_11, w0_12⟩ : ∃ a0_0 a0_1 a0_2 a0_3 a0_4 a0_5 a0_6 a0_7 a0_8 a0_9 a0_10 a0_11 a0_12, v0 = .agg #[.int .u8 a0_0, .int .u8 a0_1, .int .u8 a0_2, .int .u8 a0_3, .int .i8 a0_4, .int .i8 a0_5, .int .u32 a0_6, .int .u32 a0_7, .int .u32 a0_8, .int .u64 a0_9, .int .u64 a0_10, .int .u64 a0_11, .int .u64 a0_12] ∧ (Lit.int .u8 a0_0).wf = true ∧ (Lit.int .u8 a0_1).wf = true ∧ (Lit.int .u8 a0_2).wf = true ∧ (Lit.int .u8 a0_3).wf = true ∧ (Lit.int .i8 a0_4).wf = true ∧ (Lit.int .i8 a0_5).wf = true ∧ (Lit.int .u32 a0_6).wf = true ∧ (Lit.int .u32 a0_7).wf = true ∧ (Lit.int .u32 a0_8).wf = true ∧ (Lit.int .u64 a0_9).wf = true ∧ (Lit.int .u64 a0_10).wf = true ∧ (Lit.int .u64 a0_11).wf = true ∧ (Lit.int .u64 a0_12).wf = true := by
    obtain ⟨xs, rfl, hl, hw⟩ := agg_ints (us := [5, 5, 5, 5, 22, 22, 23, 23, 23, 24, 24, 24, 24]) [.u8, .u8, .u8, .u8, .i8, .i8, .u32, .u32, .u32, .u64, .u64, .u64, .u64] (by kernel_rfl) (by kernel_rfl) (by kernel_rfl) (by kernel_rfl) (hval 0 26 v0 rfl rfl)
    obtain ⟨a0_0, a0_1, a0_2, a0_3, a0_4, a0_5, a0_6, a0_7, a0_8, a0_9, a0_10, a0_11, a0_12, rfl⟩ := len13 hl
    exact ⟨_, _, _, _, _, _, _, _, _, _, _, _, _, rfl, hw 0 _ _ rfl rfl, hw 1 _ _ rfl rfl, hw 2 _ _ rfl rfl, hw 3 _ _ rfl rfl, hw 4 _ _ rfl rfl, hw 5 _ _ rfl rfl, hw 6 _ _ rfl rfl, hw 7 _ _ rfl rfl, hw 8 _ _ rfl rfl, hw 9 _ _ rfl rfl, hw 10 _ _ rfl rfl, hw 11 _ _ rfl rfl, hw 12 _ _ rfl rfl⟩
  obtain ⟨a1, rfl, rfl, rfl, w1⟩ := open_int Try.underlying5 (hval 1 5 v1 rfl rfl) h1
  clear hA0 hval0 hsz0 hsz
  obtain ⟨k, hk⟩ := Pure.PacketFields a0_0 a0_1 a0_2 a0_3 a0_4 a0_5 a0_6 a0_7 a0_8 a0_9 a0_10 a0_11 a0_12 a1 w0_0 w0_1 w0_2 w0_3 w0_4 w0_5 w0_6 w0_7 w0_8 w0_9 w0_10 w0_11 w0_12 w1
  refine (G.chronobatelaw03_PacketFields.calls k a0_0 a0_1 a0_2 a0_3 a0_4 a0_5 a0_6 a0_7 a0_8 a0_9 a0_10 a0_11 a0_12 a1 true W  hk).mono fun e W' ⟨he, bel0⟩ => ?_
  have bel := bel0
  subst he
  exact ⟨_, rfl, _, _, _, [], _, [], hW', trodAll_mk1 (shut_bool Try.underlying4 _), (trodAll_cons_mk (Below.trod laidOut (by kernel_rfl) (of_decide_eq_true (by kernel_rfl)) k0 bel lt0) (trodAll_cons_mk (shut_int Try.underlying5 w1) trodAll_mk0)), rfl, bel.frame _, fun h => by cases h⟩
theorem over : Rows.packetFieldsRow.holds Try.pinned (OpenSpec.ofChange Rows.packetFieldsSpec) :=
  OpenClaim.holds_of_wide 4 Try.f4 rfl rfl rfl rfl rfl rfl rfl ⟨rfl, rfl, rfl, rfl, rfl⟩ rfl rfl rfl rfl rfl (by kernel_rfl) Try.func4 (by kernel_rfl)
    (of_decide_eq_true (by kernel_rfl)) (by unfold Func.isWrapper; first | (rw [if_pos (by decide +kernel)]; kernel_rfl) | (rw [if_neg (by decide +kernel)]; exact ⟨rfl, rfl⟩))
    (fun os started H enc _ => lifted os started H enc)
theorem proved : Rows.PacketFieldsSaid := over
#print axioms proved
end Go.Proofs.Ytingjmdilglgaaa.packetFields
namespace Go.Proofs.Ytingjmdilglgaaa
/-- The row, under a short name, for the claim. -/
theorem packetFields_holds : Rows.PacketFieldsSaid := packetFields.proved
end Go.Proofs.Ytingjmdilglgaaa
