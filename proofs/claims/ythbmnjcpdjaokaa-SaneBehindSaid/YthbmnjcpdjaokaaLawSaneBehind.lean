/- 'Rows.SaneBehindSaid' is proved: for every input the law returns true and its arguments read as before. No conditions. Laid by a program of this session (wip/row3.py). -/
import Derived.Test.YthbmnjcpdjaokaaRows
import Derived.Test.YthbmnjcpdjaokaaTSaneBehind
import Derived.Test.YthbmnjcpdjaokaaLAg
import Derived.WalkKit
import Derived.ProofKit
import Derived.OpenShut
import Derived.ShutString
import Derived.ChangeOld
import Derived.Below
import Derived.SizedLaws
import Derived.Test.YthbmnjcpdjaokaaWSized
namespace Go.Proofs.Ythbmnjcpdjaokaa.saneBehind
open Go.ChangeShapes Go.WideShapes Go.ChangeAt Go.RowKit Go.Proofs.Ythbmnjcpdjaokaa.L
open Go.ChangeMaps (open_string shut_string)
set_option linter.unusedVariables false
theorem own : ownKnob Try.prog.godebug = none := by kernel_rfl
theorem laidOut : laidOutB Try.prog = true := by kernel_rfl
set_option maxRecDepth 100000 in
theorem lifted (os : Os) (started : os.Started) (H : Type) (enc : TypeId × Value → H) :
    ReturnsInHanded {} Try.checked os 5 .any (Rows.saneBehindSpec.pre6 enc Try.prog Try.f5 Rows.saneBehindRow.domain false) (Rows.saneBehindSpec.post enc Try.prog Try.f5 false true false false) := by
  refine returnsInHanded_of_change_sized (C := Try.checked) own started (by kernel_rfl) Try.func5
    (ChangeSpec.witness6 (enc := enc) (C := Try.checked) false ⟨#[], #[.slice none 0 0, .slice none 0 0, .int .u64 0], []⟩ 8 (by kernel_rfl) (by kernel_rfl) (by kernel_rfl) (by kernel_rfl)) ?_
  intro W base args ds gs before hval0 hW hcnd hsz0 _
  have hsz : (DataW.weightsEach Try.prog (Try.f5.params.toList ++ Rows.saneBehindSpec.plain.varTypes Try.prog) (ds ++ gs)).all (· ≤ reachBytes) = true := hsz0
  have hval : ∀ (j : Nat) t v, Try.f5.params[j]? = some t → args[j]? = some v → Value.okWide Try.prog W .any base t v := hval0
  have hW' := hW
  obtain ⟨p, q, hA0, hV, rfl, hfz, hnd⟩ := hW
  have hA : DataW.TrodAll enc Try.prog W 0 (fun _ => true) true Try.f5.params.toList args.toList ds p := hA0
  rw [Try.params5] at hA hval hsz
  obtain ⟨v0, vs0, d0, ds0, p0, q0, hargs, rfl, rfl, h0, r0⟩ := trodAll_cons hA
  obtain ⟨v1, vs1, d1, ds1, p1, q1, rfl, rfl, rfl, h1, r1⟩ := trodAll_cons r0
  obtain ⟨v2, vs2, d2, ds2, p2, q2, rfl, rfl, rfl, h2, r2⟩ := trodAll_cons r1
  obtain ⟨rfl, rfl, rfl⟩ := trodAll_nil r2
  obtain rfl : args = #[v0, v1, v2] := by cases args; simp_all
  obtain ⟨rfl, rfl⟩ := trodVars_none hV
  obtain ⟨a0, len0, cap0, rfl⟩ := okWide_slice Try.underlying24 (hval 0 24 v0 rfl rfl)
  have k0 := h0
  have lt0 : ∀ x ∈ p0, x.block < W.heap.size := by obtain ⟨m, hm⟩ := k0; exact DataW.trod_lt m _ _ _ hm
  obtain ⟨z0, x0⟩ : ∃ zs, Go.SX.IsRow .u8 W a0 len0 cap0 zs := by
    obtain ⟨fuel, hf⟩ := h0
    rcases open_ints Try.underlying24 Try.underlying5 (by kernel_rfl) hf with ⟨hcs, _⟩ | ⟨x, l, c, zs, hcs, _, hl, hm, hz, _, hcell, hwz⟩
    · simp [Value.cells] at hcs
      obtain ⟨rfl, rfl, rfl⟩ := hcs
      exact ⟨[], .inl ⟨rfl, rfl, rfl, rfl⟩⟩
    · simp [Value.cells] at hcs
      obtain ⟨rfl, rfl, rfl⟩ := hcs
      exact ⟨zs, .inr ⟨_, rfl, hl, hm, by simpa using hz, hcell, hwz⟩⟩
  have y0 : len0 * 1 ≤ 140737488351232 := Go.Proofs.YthbmnjcpdjaokaaW.PrintWords.sized_ints hsz (j := 0) (t := 24) rfl rfl Try.underlying24 Try.underlying5 (by kernel_rfl) (by kernel_rfl) k0
  obtain ⟨a1, len1, cap1, rfl⟩ := okWide_slice Try.underlying24 (hval 1 24 v1 rfl rfl)
  have k1 := h1
  have lt1 : ∀ x ∈ p1, x.block < W.heap.size := by obtain ⟨m, hm⟩ := k1; exact DataW.trod_lt m _ _ _ hm
  obtain ⟨z1, x1⟩ : ∃ zs, Go.SX.IsRow .u8 W a1 len1 cap1 zs := by
    obtain ⟨fuel, hf⟩ := h1
    rcases open_ints Try.underlying24 Try.underlying5 (by kernel_rfl) hf with ⟨hcs, _⟩ | ⟨x, l, c, zs, hcs, _, hl, hm, hz, _, hcell, hwz⟩
    · simp [Value.cells] at hcs
      obtain ⟨rfl, rfl, rfl⟩ := hcs
      exact ⟨[], .inl ⟨rfl, rfl, rfl, rfl⟩⟩
    · simp [Value.cells] at hcs
      obtain ⟨rfl, rfl, rfl⟩ := hcs
      exact ⟨zs, .inr ⟨_, rfl, hl, hm, by simpa using hz, hcell, hwz⟩⟩
  have y1 : len1 * 1 ≤ 140737488351232 := Go.Proofs.YthbmnjcpdjaokaaW.PrintWords.sized_ints hsz (j := 1) (t := 24) rfl rfl Try.underlying24 Try.underlying5 (by kernel_rfl) (by kernel_rfl) k1
  obtain ⟨a2, rfl, rfl, rfl, w2⟩ := open_int Try.underlying22 (hval 2 22 v2 rfl rfl) h2
  clear hA0 hval0 hsz0 hsz
  by_cases hk : 48 ≤ len0
  · refine (Go.SX.law_run (P := Try.prog) (cfg := TSaneBehind.cfg [48]) (bs := [Go.SX.entOf a0 len0 cap0, Go.SX.entOf a1 len1 cap1]) (ρ := (Go.SX.mkEnv TSaneBehind.F [(len0 : Int), (cap0 : Int), (len1 : Int), (cap1 : Int), a2] [z0, z1])) (TSaneBehind.cfg_ok _ _ (fun j h h2 => Go.SX.mkEnv_f (by show 2 ≤ j; omega))) (N := fun _ _ => True) (hN := trivial) (fuel := 100000) (f := 5) (args := TSaneBehind.args) (mem := TSaneBehind.mem) (pc := TSaneBehind.pc) (TSaneBehind.main_holds _) rfl (TSaneBehind.pc_ok _ (show (48 : Int) ≤ (len0 : Int) by omega) (show ((len0 : Int)) * 1 ≤ 140737488351232 by omega) (show (0 : Int) ≤ (len1 : Int) from Int.natCast_nonneg _) (show ((len1 : Int)) * 1 ≤ 140737488351232 by omega)) (Go.SX.dvl_mk rfl (Go.SX.dvl_mk rfl (Go.SX.dvl_mk (Go.SX.dv_int_mk (Go.SX.wf_inR w2)) Go.SX.dvl_none))) (Go.SX.RelM.foreign rfl (Go.SX.mrel_two (Go.SX.orel_row x0 rfl rfl (fun _ _ => rfl)) (Go.SX.orel_row x1 rfl rfl (fun _ _ => rfl))) rfl)).mono fun e W' ⟨he, bel⟩ => ?_
    subst he
    exact ⟨_, rfl, _, _, _, [], _, [], hW', trodAll_mk1 (shut_bool Try.underlying4 _), (trodAll_cons_mk (Below.trod laidOut (by kernel_rfl) (of_decide_eq_true (by kernel_rfl)) k0 bel lt0) (trodAll_cons_mk (Below.trod laidOut (by kernel_rfl) (of_decide_eq_true (by kernel_rfl)) k1 bel lt1) (trodAll_cons_mk (shut_int Try.underlying22 w2) trodAll_mk0))), rfl, bel.frame _, fun h => by cases h⟩
  · have hk : len0 < 48 := by omega
    by_cases hs : 48 ≤ len0 + len1
    · refine (Go.SX.law_run (P := Try.prog) (cfg := TSaneBehind.cfg [max len0 (48 - len0), min len0 (48 - len0)]) (bs := [Go.SX.entOf a0 len0 cap0, Go.SX.entOf a1 len1 cap1]) (ρ := (Go.SX.mkEnv TSaneBehind.F [(len0 : Int), (cap0 : Int), (len1 : Int), (cap1 : Int), a2] [z0, z1])) (TSaneBehind.cfg_ok _ _ (fun j h h2 => Go.SX.mkEnv_f (by show 2 ≤ j; omega))) (N := fun _ _ => True) (hN := trivial) (fuel := 100000) (f := 5) (args := TSaneBehind.args) (mem := TSaneBehind.memK len0) (pc := TSaneBehind.pcA len0) (TSaneBehind.A_holds hk _) rfl (TSaneBehind.pcA_ok _ hk (show (0 : Int) ≤ (len1 : Int) from Int.natCast_nonneg _) (show ((len1 : Int)) * 1 ≤ 140737488351232 by omega) (show (48 : Int) ≤ (len0 : Int) + (len1 : Int) by omega)) (Go.SX.dvl_mk rfl (Go.SX.dvl_mk rfl (Go.SX.dvl_mk (Go.SX.dv_int_mk (Go.SX.wf_inR w2)) Go.SX.dvl_none))) (Go.SX.RelM.foreign rfl (Go.SX.mrel_two (Go.SX.orel_row x0 rfl rfl (fun _ _ => rfl)) (Go.SX.orel_row x1 rfl rfl (fun _ _ => rfl))) rfl)).mono fun e W' ⟨he, bel⟩ => ?_
      subst he
      exact ⟨_, rfl, _, _, _, [], _, [], hW', trodAll_mk1 (shut_bool Try.underlying4 _), (trodAll_cons_mk (Below.trod laidOut (by kernel_rfl) (of_decide_eq_true (by kernel_rfl)) k0 bel lt0) (trodAll_cons_mk (Below.trod laidOut (by kernel_rfl) (of_decide_eq_true (by kernel_rfl)) k1 bel lt1) (trodAll_cons_mk (shut_int Try.underlying22 w2) trodAll_mk0))), rfl, bel.frame _, fun h => by cases h⟩
    · refine (Go.SX.law_run (P := Try.prog) (cfg := TSaneBehind.cfg [max len0 (48 - len0), min len0 (48 - len0)]) (bs := [Go.SX.entOf a0 len0 cap0, Go.SX.entOf a1 len1 cap1]) (ρ := (Go.SX.mkEnv TSaneBehind.F [(len0 : Int), (cap0 : Int), (len1 : Int), (cap1 : Int), a2] [z0, z1])) (TSaneBehind.cfg_ok _ _ (fun j h h2 => Go.SX.mkEnv_f (by show 2 ≤ j; omega))) (N := fun _ _ => True) (hN := trivial) (fuel := 100000) (f := 5) (args := TSaneBehind.args) (mem := TSaneBehind.memK len0) (pc := TSaneBehind.pcB len0) (TSaneBehind.B_holds hk _) rfl (TSaneBehind.pcB_ok _ hk (show (0 : Int) ≤ (len1 : Int) from Int.natCast_nonneg _) (show ((len1 : Int)) * 1 ≤ 140737488351232 by omega) (show (len0 : Int) + (len1 : Int) < 48 by omega)) (Go.SX.dvl_mk rfl (Go.SX.dvl_mk rfl (Go.SX.dvl_mk (Go.SX.dv_int_mk (Go.SX.wf_inR w2)) Go.SX.dvl_none))) (Go.SX.RelM.foreign rfl (Go.SX.mrel_two (Go.SX.orel_row x0 rfl rfl (fun _ _ => rfl)) (Go.SX.orel_row x1 rfl rfl (fun _ _ => rfl))) rfl)).mono fun e W' ⟨he, bel⟩ => ?_
      subst he
      exact ⟨_, rfl, _, _, _, [], _, [], hW', trodAll_mk1 (shut_bool Try.underlying4 _), (trodAll_cons_mk (Below.trod laidOut (by kernel_rfl) (of_decide_eq_true (by kernel_rfl)) k0 bel lt0) (trodAll_cons_mk (Below.trod laidOut (by kernel_rfl) (of_decide_eq_true (by kernel_rfl)) k1 bel lt1) (trodAll_cons_mk (shut_int Try.underlying22 w2) trodAll_mk0))), rfl, bel.frame _, fun h => by cases h⟩
theorem over : Rows.saneBehindRow.holds Try.pinned (OpenSpec.ofChange Rows.saneBehindSpec) :=
  OpenClaim.holds_of_wide 5 Try.f5 rfl rfl rfl rfl rfl rfl rfl ⟨rfl, rfl, rfl, rfl, rfl⟩ rfl rfl rfl rfl rfl (by kernel_rfl) Try.func5 (by kernel_rfl)
    (of_decide_eq_true (by kernel_rfl)) (by unfold Func.isWrapper; first | (rw [if_pos (by decide +kernel)]; kernel_rfl) | (rw [if_neg (by decide +kernel)]; exact ⟨rfl, rfl⟩))
    (fun os started H enc _ => lifted os started H enc)
theorem proved : Rows.SaneBehindSaid := over
#print axioms proved
end Go.Proofs.Ythbmnjcpdjaokaa.saneBehind
namespace Go.Proofs.Ythbmnjcpdjaokaa
/-- The row, under a short name, for the claim. -/
theorem saneBehind_holds : Rows.SaneBehindSaid := saneBehind.proved
end Go.Proofs.Ythbmnjcpdjaokaa
