/- 'Rows.ServerAnswersSaid' is proved: for every input the law returns true and its arguments read as before. No conditions. Laid by a program of this session (wip/row3.py). -/
import Derived.Test.YtemallghdmkpaaaRows
import Derived.Test.YtemallghdmkpaaaTServerAnswers
import Derived.Test.YtemallghdmkpaaaLAg
import Derived.WalkKit
import Derived.ProofKit
import Derived.OpenShut
import Derived.ShutString
import Derived.ChangeOld
import Derived.Below
import Derived.SizedLaws
import Derived.Test.YtemallghdmkpaaaWSized
namespace Go.Proofs.Ytemallghdmkpaaa.serverAnswers
open Go.ChangeShapes Go.WideShapes Go.ChangeAt Go.RowKit Go.Proofs.Ytemallghdmkpaaa.L
open Go.ChangeMaps (open_string shut_string)
set_option linter.unusedVariables false
theorem own : ownKnob Try.prog.godebug = none := by kernel_rfl
theorem laidOut : laidOutB Try.prog = true := by kernel_rfl
set_option maxRecDepth 100000 in
theorem lifted (os : Os) (started : os.Started) (H : Type) (enc : TypeId × Value → H) :
    ReturnsInHanded {} Try.checked os 4 .any (Rows.serverAnswersSpec.pre6 enc Try.prog Try.f4 Rows.serverAnswersRow.domain false) (Rows.serverAnswersSpec.post enc Try.prog Try.f4 false true false false) := by
  refine returnsInHanded_of_change_sized (C := Try.checked) own started (by kernel_rfl) Try.func4
    (ChangeSpec.witness6 (enc := enc) (C := Try.checked) false ⟨#[], #[.agg #[.int .i64 0, .int .i64 0, .int .i64 0, .int .i64 0, .int .i64 0, .int .u64 0], .slice none 0 0, .int .i64 0], []⟩ 8 (by kernel_rfl) (by kernel_rfl) (by kernel_rfl) (by kernel_rfl)) ?_
  intro W base args ds gs before hval0 hW hcnd hsz0 _
  have hsz : (DataW.weightsEach Try.prog (Try.f4.params.toList ++ Rows.serverAnswersSpec.plain.varTypes Try.prog) (ds ++ gs)).all (· ≤ reachBytes) = true := hsz0
  have hval : ∀ (j : Nat) t v, Try.f4.params[j]? = some t → args[j]? = some v → Value.okWide Try.prog W .any base t v := hval0
  have hW' := hW
  obtain ⟨p, q, hA0, hV, rfl, hfz, hnd⟩ := hW
  have hA : DataW.TrodAll enc Try.prog W 0 (fun _ => true) true Try.f4.params.toList args.toList ds p := hA0
  rw [Try.params4] at hA hval hsz
  obtain ⟨v0, vs0, d0, ds0, p0, q0, hargs, rfl, rfl, h0, r0⟩ := trodAll_cons hA
  obtain ⟨v1, vs1, d1, ds1, p1, q1, rfl, rfl, rfl, h1, r1⟩ := trodAll_cons r0
  obtain ⟨v2, vs2, d2, ds2, p2, q2, rfl, rfl, rfl, h2, r2⟩ := trodAll_cons r1
  obtain ⟨rfl, rfl, rfl⟩ := trodAll_nil r2
  obtain rfl : args = #[v0, v1, v2] := by cases args; simp_all
  obtain ⟨rfl, rfl⟩ := trodVars_none hV
  have k0 := h0
  have lt0 : ∀ x ∈ p0, x.block < W.heap.size := by obtain ⟨m, hm⟩ := k0; exact DataW.trod_lt m _ _ _ hm
  obtain ⟨a0_0, a0_1, a0_2, a0_3, a0_4, a0_5, rfl, w0_0, w0_1, w0_2, w0_3, w0_4, w0_5⟩ : ∃ a0_0 a0_1 a0_2 a0_3 a0_4 a0_5, v0 = .agg #[.int .i64 a0_0, .int .i64 a0_1, .int .i64 a0_2, .int .i64 a0_3, .int .i64 a0_4, .int .u64 a0_5] ∧ (Lit.int .i64 a0_0).wf = true ∧ (Lit.int .i64 a0_1).wf = true ∧ (Lit.int .i64 a0_2).wf = true ∧ (Lit.int .i64 a0_3).wf = true ∧ (Lit.int .i64 a0_4).wf = true ∧ (Lit.int .u64 a0_5).wf = true := by
    obtain ⟨xs, rfl, hl, hw⟩ := agg_ints (us := [3, 2, 2, 2, 2, 22]) [.i64, .i64, .i64, .i64, .i64, .u64] (by kernel_rfl) (by kernel_rfl) (by kernel_rfl) (by kernel_rfl) (hval 0 24 v0 rfl rfl)
    obtain ⟨a0_0, a0_1, a0_2, a0_3, a0_4, a0_5, rfl⟩ := len6 hl
    exact ⟨_, _, _, _, _, _, rfl, hw 0 _ _ rfl rfl, hw 1 _ _ rfl rfl, hw 2 _ _ rfl rfl, hw 3 _ _ rfl rfl, hw 4 _ _ rfl rfl, hw 5 _ _ rfl rfl⟩
  obtain ⟨a1, len1, cap1, rfl⟩ := okWide_slice Try.underlying29 (hval 1 29 v1 rfl rfl)
  have k1 := h1
  have lt1 : ∀ x ∈ p1, x.block < W.heap.size := by obtain ⟨m, hm⟩ := k1; exact DataW.trod_lt m _ _ _ hm
  obtain ⟨z1, x1⟩ : ∃ zs, Go.SX.IsRow .u8 W a1 len1 cap1 zs := by
    obtain ⟨fuel, hf⟩ := h1
    rcases open_ints Try.underlying29 Try.underlying5 (by kernel_rfl) hf with ⟨hcs, _⟩ | ⟨x, l, c, zs, hcs, _, hl, hm, hz, _, hcell, hwz⟩
    · simp [Value.cells] at hcs
      obtain ⟨rfl, rfl, rfl⟩ := hcs
      exact ⟨[], .inl ⟨rfl, rfl, rfl, rfl⟩⟩
    · simp [Value.cells] at hcs
      obtain ⟨rfl, rfl, rfl⟩ := hcs
      exact ⟨zs, .inr ⟨_, rfl, hl, hm, by simpa using hz, hcell, hwz⟩⟩
  have y1 : len1 * 1 ≤ 140737488351232 := Go.Proofs.YtemallghdmkpaaaW.PrintWords.sized_ints hsz (j := 1) (t := 29) rfl rfl Try.underlying29 Try.underlying5 (by kernel_rfl) (by kernel_rfl) k1
  obtain ⟨a2, rfl, rfl, rfl, w2⟩ := open_int Try.underlying2 (hval 2 2 v2 rfl rfl) h2
  clear hA0 hval0 hsz0 hsz
  refine (Go.SX.law_run (P := Try.prog) (cfg := TServerAnswers.cfg) (bs := [Go.SX.entOf a1 len1 cap1]) (ρ := (Go.SX.mkEnv TServerAnswers.F [a0_0, a0_1, a0_2, a0_3, a0_4, a0_5, (len1 : Int), (cap1 : Int), a2] [z1])) (TServerAnswers.cfg_ok _ (fun j h => Go.SX.mkEnv_f (by show 1 ≤ j; omega))) (N := fun _ _ => True) (hN := trivial) (fuel := 100000) (f := 4) (args := TServerAnswers.args) (mem := TServerAnswers.mem) (pc := []) (by rw [TServerAnswers.tree_eq]; exact TServerAnswers.tree_holds _ (Go.SX.wf_inR w0_0) (Go.SX.wf_inR w0_1) (Go.SX.wf_inR w0_2) (Go.SX.wf_inR w0_3) (Go.SX.wf_inR w0_4) (Go.SX.wf_inR w0_5) (Int.natCast_nonneg _) (Go.SX.row_le x1) (show ((len1 : Int)) * 1 ≤ 140737488351232 by omega) (fun i h0 h1 => Go.SX.row_inR x1 i h0 h1) (Go.SX.wf_inR w2) (fun j h => Go.SX.mkEnv_f (by show 1 ≤ j; omega))) rfl (fun _ h => by cases h) (Go.SX.dvl_mk (Go.SX.dv_agg_mk (Go.SX.dvl_mk (Go.SX.dv_int_mk (Go.SX.wf_inR w0_0)) (Go.SX.dvl_mk (Go.SX.dv_int_mk (Go.SX.wf_inR w0_1)) (Go.SX.dvl_mk (Go.SX.dv_int_mk (Go.SX.wf_inR w0_2)) (Go.SX.dvl_mk (Go.SX.dv_int_mk (Go.SX.wf_inR w0_3)) (Go.SX.dvl_mk (Go.SX.dv_int_mk (Go.SX.wf_inR w0_4)) (Go.SX.dvl_mk (Go.SX.dv_int_mk (Go.SX.wf_inR w0_5)) Go.SX.dvl_none))))))) (Go.SX.dvl_mk rfl (Go.SX.dvl_mk (Go.SX.dv_int_mk (Go.SX.wf_inR w2)) Go.SX.dvl_none))) (Go.SX.RelM.foreign rfl (Go.SX.mrel_one (Go.SX.orel_row x1 rfl rfl (fun _ _ => rfl))) rfl)).mono fun e W' ⟨he, bel⟩ => ?_
  subst he
  exact ⟨_, rfl, _, _, _, [], _, [], hW', trodAll_mk1 (shut_bool Try.underlying4 _), (trodAll_cons_mk (Below.trod laidOut (by kernel_rfl) (of_decide_eq_true (by kernel_rfl)) k0 bel lt0) (trodAll_cons_mk (Below.trod laidOut (by kernel_rfl) (of_decide_eq_true (by kernel_rfl)) k1 bel lt1) (trodAll_cons_mk (shut_int Try.underlying2 w2) trodAll_mk0))), rfl, bel.frame _, fun h => by cases h⟩
theorem over : Rows.serverAnswersRow.holds Try.pinned (OpenSpec.ofChange Rows.serverAnswersSpec) :=
  OpenClaim.holds_of_wide 4 Try.f4 rfl rfl rfl rfl rfl rfl rfl ⟨rfl, rfl, rfl, rfl, rfl⟩ rfl rfl rfl rfl rfl (by kernel_rfl) Try.func4 (by kernel_rfl)
    (of_decide_eq_true (by kernel_rfl)) (by unfold Func.isWrapper; first | (rw [if_pos (by decide +kernel)]; kernel_rfl) | (rw [if_neg (by decide +kernel)]; exact ⟨rfl, rfl⟩))
    (fun os started H enc _ => lifted os started H enc)
theorem proved : Rows.ServerAnswersSaid := over
#print axioms proved
end Go.Proofs.Ytemallghdmkpaaa.serverAnswers
namespace Go.Proofs.Ytemallghdmkpaaa
/-- The row, under a short name, for the claim. -/
theorem serverAnswers_holds : Rows.ServerAnswersSaid := serverAnswers.proved
end Go.Proofs.Ytemallghdmkpaaa
