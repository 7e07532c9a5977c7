/- 'Rows.SaneGoodSaid' is proved: for every input the law returns true and its arguments read as before. No conditions. Laid by a program of this session (wip/row3.py). -/
import Derived.Test.YthbmnjcpdjaokaaRows
import Derived.Test.YthbmnjcpdjaokaaTSaneGood
import Derived.Test.YthbmnjcpdjaokaaLAg
import Derived.WalkKit
import Derived.ProofKit
import Derived.OpenShut
import Derived.ShutString
import Derived.ChangeOld
import Derived.Below
import Derived.SizedLaws
import Derived.Test.YthbmnjcpdjaokaaWSized
namespace Go.Proofs.Ythbmnjcpdjaokaa.saneGood
open Go.ChangeShapes Go.WideShapes Go.ChangeAt Go.RowKit Go.Proofs.Ythbmnjcpdjaokaa.L
open Go.ChangeMaps (open_string shut_string)
set_option linter.unusedVariables false
theorem own : ownKnob Try.prog.godebug = none := by kernel_rfl
theorem laidOut : laidOutB Try.prog = true := by kernel_rfl
set_option maxRecDepth 100000 in
theorem lifted (os : Os) (started : os.Started) (H : Type) (enc : TypeId × Value → H) :
    ReturnsInHanded {} Try.checked os 3 .any (Rows.saneGoodSpec.pre6 enc Try.prog Try.f3 Rows.saneGoodRow.domain false) (Rows.saneGoodSpec.post enc Try.prog Try.f3 false true false false) := by
  refine returnsInHanded_of_change_sized (C := Try.checked) own started (by kernel_rfl) Try.func3
    (ChangeSpec.witness6 (enc := enc) (C := Try.checked) false ⟨#[], #[.agg #[.int .u64 0, .int .u64 0, .int .u64 0], .slice none 0 0], []⟩ 8 (by kernel_rfl) (by kernel_rfl) (by kernel_rfl) (by kernel_rfl)) ?_
  intro W base args ds gs before hval0 hW hcnd hsz0 _
  have hsz : (DataW.weightsEach Try.prog (Try.f3.params.toList ++ Rows.saneGoodSpec.plain.varTypes Try.prog) (ds ++ gs)).all (· ≤ reachBytes) = true := hsz0
  have hval : ∀ (j : Nat) t v, Try.f3.params[j]? = some t → args[j]? = some v → Value.okWide Try.prog W .any base t v := hval0
  have hW' := hW
  obtain ⟨p, q, hA0, hV, rfl, hfz, hnd⟩ := hW
  have hA : DataW.TrodAll enc Try.prog W 0 (fun _ => true) true Try.f3.params.toList args.toList ds p := hA0
  rw [Try.params3] at hA hval hsz
  obtain ⟨v0, vs0, d0, ds0, p0, q0, hargs, rfl, rfl, h0, r0⟩ := trodAll_cons hA
  obtain ⟨v1, vs1, d1, ds1, p1, q1, rfl, rfl, rfl, h1, r1⟩ := trodAll_cons r0
  obtain ⟨rfl, rfl, rfl⟩ := trodAll_nil r1
  obtain rfl : args = #[v0, v1] := by cases args; simp_all
  obtain ⟨rfl, rfl⟩ := trodVars_none hV
  have k0 := h0
  have lt0 : ∀ x ∈ p0, x.block < W.heap.size := by obtain ⟨m, hm⟩ := k0; exact DataW.trod_lt m _ _ _ hm
  obtain ⟨a0_0, a0_1, a0_2, rfl, w0_0, w0_1, w0_2⟩ : ∃ a0_0 a0_1 a0_2, v0 = .agg #[.int .u64 a0_0, .int .u64 a0_1, .int .u64 a0_2] ∧ (Lit.int .u64 a0_0).wf = true ∧ (Lit.int .u64 a0_1).wf = true ∧ (Lit.int .u64 a0_2).wf = true := by
    obtain ⟨xs, rfl, hl, hw⟩ := agg_ints (us := [22, 22, 22]) [.u64, .u64, .u64] (by kernel_rfl) (by kernel_rfl) (by kernel_rfl) (by kernel_rfl) (hval 0 23 v0 rfl rfl)
    obtain ⟨a0_0, a0_1, a0_2, rfl⟩ := len3 hl
    exact ⟨_, _, _, rfl, hw 0 _ _ rfl rfl, hw 1 _ _ rfl rfl, hw 2 _ _ rfl rfl⟩
  obtain ⟨a1, len1, cap1, rfl⟩ := okWide_slice Try.underlying24 (hval 1 24 v1 rfl rfl)
  have k1 := h1
  have lt1 : ∀ x ∈ p1, x.block < W.heap.size := by obtain ⟨m, hm⟩ := k1; exact DataW.trod_lt m _ _ _ hm
  obtain ⟨z1, x1⟩ : ∃ zs, Go.SX.IsRow .u8 W a1 len1 cap1 zs := by
    obtain ⟨fuel, hf⟩ := h1
    rcases open_ints Try.underlying24 Try.underlying5 (by kernel_rfl) hf with ⟨hcs, _⟩ | ⟨x, l, c, zs, hcs, _, hl, hm, hz, _, hcell, hwz⟩
    · simp [Value.cells] at hcs
      obtain ⟨rfl, rfl, rfl⟩ := hcs
      exact ⟨[], .inl ⟨rfl, rfl, rfl, rfl⟩⟩
    · simp [Value.cells] at hcs
      obtain ⟨rfl, rfl, rfl⟩ := hcs
      exact ⟨zs, .inr ⟨_, rfl, hl, hm, by simpa using hz, hcell, hwz⟩⟩
  have y1 : len1 * 1 ≤ 140737488351232 := Go.Proofs.YthbmnjcpdjaokaaW.PrintWords.sized_ints hsz (j := 1) (t := 24) rfl rfl Try.underlying24 Try.underlying5 (by kernel_rfl) (by kernel_rfl) k1
  clear hA0 hval0 hsz0 hsz
  refine (Go.SX.law_run (P := Try.prog) (cfg := TSaneGood.cfg) (bs := [Go.SX.entOf a1 len1 cap1]) (ρ := (Go.SX.mkEnv TSaneGood.F [a0_0, a0_1, a0_2, (len1 : Int), (cap1 : Int)] [z1])) (TSaneGood.cfg_ok _ (fun j h => Go.SX.mkEnv_f (by show 1 ≤ j; omega))) (N := fun _ _ => True) (hN := trivial) (fuel := 100000) (f := 3) (args := TSaneGood.args) (mem := TSaneGood.mem) (pc := TSaneGood.pc) (by rw [TSaneGood.tree_eq]; exact TSaneGood.tree_holds _ (Go.SX.wf_inR w0_0) (Go.SX.wf_inR w0_1) (Go.SX.wf_inR w0_2) (Int.natCast_nonneg _) (Go.SX.row_le x1) (show ((len1 : Int)) * 1 ≤ 140737488351232 by omega) (fun i h0 h1 => Go.SX.row_inR x1 i h0 h1) (fun j h => Go.SX.mkEnv_f (by show 1 ≤ j; omega))) rfl (TSaneGood.pc_ok _ (Go.SX.wf_inR w0_0) (Go.SX.wf_inR w0_1) (Go.SX.wf_inR w0_2) (Int.natCast_nonneg _) (Go.SX.row_le x1) (show ((len1 : Int)) * 1 ≤ 140737488351232 by omega) (fun i h0 h1 => Go.SX.row_inR x1 i h0 h1) (fun j h => Go.SX.mkEnv_f (by show 1 ≤ j; omega))) (Go.SX.dvl_mk (Go.SX.dv_agg_mk (Go.SX.dvl_mk (Go.SX.dv_int_mk (Go.SX.wf_inR w0_0)) (Go.SX.dvl_mk (Go.SX.dv_int_mk (Go.SX.wf_inR w0_1)) (Go.SX.dvl_mk (Go.SX.dv_int_mk (Go.SX.wf_inR w0_2)) Go.SX.dvl_none)))) (Go.SX.dvl_mk rfl Go.SX.dvl_none)) (Go.SX.RelM.foreign rfl (Go.SX.mrel_one (Go.SX.orel_row x1 rfl rfl (fun _ _ => rfl))) rfl)).mono fun e W' ⟨he, bel⟩ => ?_
  subst he
  exact ⟨_, rfl, _, _, _, [], _, [], hW', trodAll_mk1 (shut_bool Try.underlying4 _), (trodAll_cons_mk (Below.trod laidOut (by kernel_rfl) (of_decide_eq_true (by kernel_rfl)) k0 bel lt0) (trodAll_cons_mk (Below.trod laidOut (by kernel_rfl) (of_decide_eq_true (by kernel_rfl)) k1 bel lt1) trodAll_mk0)), rfl, bel.frame _, fun h => by cases h⟩
theorem over : Rows.saneGoodRow.holds Try.pinned (OpenSpec.ofChange Rows.saneGoodSpec) :=
  OpenClaim.holds_of_wide 3 Try.f3 rfl rfl rfl rfl rfl rfl rfl ⟨rfl, rfl, rfl, rfl, rfl⟩ rfl rfl rfl rfl rfl (by kernel_rfl) Try.func3 (by kernel_rfl)
    (of_decide_eq_true (by kernel_rfl)) (by unfold Func.isWrapper; first | (rw [if_pos (by decide +kernel)]; kernel_rfl) | (rw [if_neg (by decide +kernel)]; exact ⟨rfl, rfl⟩))
    (fun os started H enc _ => lifted os started H enc)
theorem proved : Rows.SaneGoodSaid := over
#print axioms proved
end Go.Proofs.Ythbmnjcpdjaokaa.saneGood
namespace Go.Proofs.Ythbmnjcpdjaokaa
/-- The row, under a short name, for the claim. -/
theorem saneGood_holds : Rows.SaneGoodSaid := saneGood.proved
end Go.Proofs.Ythbmnjcpdjaokaa
