/- 'Rows.PeerActsSaid' is proved: for every input the law returns true and its arguments read as before. No conditions. Laid by a program of this session (wip/row3.py). -/
import Derived.Test.YtableianhaojcaaRows
import Derived.Test.YtableianhaojcaaTPeerActs
import Derived.Test.YtableianhaojcaaLAg
import Derived.WalkKit
import Derived.ProofKit
import Derived.OpenShut
import Derived.ShutString
import Derived.ChangeOld
import Derived.Below
import Derived.SizedLaws
import Derived.Test.YtableianhaojcaaSXo
namespace Go.Proofs.Ytableianhaojcaa.peerActs
open Go.ChangeShapes Go.WideShapes Go.ChangeAt Go.RowKit Go.Proofs.Ytableianhaojcaa.L
open Go.ChangeMaps (open_string shut_string)
set_option linter.unusedVariables false
theorem own : ownKnob Try.prog.godebug = none := by kernel_rfl
theorem laidOut : laidOutB Try.prog = true := by kernel_rfl
set_option maxRecDepth 100000 in
theorem lifted (os : Os) (started : os.Started) (H : Type) (enc : TypeId × Value → H) :
    ReturnsInHanded {} Try.checked os 7 .any (Rows.peerActsSpec.pre6 enc Try.prog Try.f7 Rows.peerActsRow.domain false) (Rows.peerActsSpec.post enc Try.prog Try.f7 false true false false) := by
  refine returnsInHanded_of_change_sized (C := Try.checked) own started (by kernel_rfl) Try.func7
    (ChangeSpec.witness6 (enc := enc) (C := Try.checked) false ⟨#[], #[.agg #[.slice none 0 0, .int .i64 0, .int .i64 0, .int .i64 0, .int .i64 0, .int .i64 0], .int .i64 0, .slice none 0 0], []⟩ 8 (by kernel_rfl) (by kernel_rfl) (by kernel_rfl) (by kernel_rfl)) ?_
  intro W base args ds gs before hval0 hW hcnd hsz0 _
  have hsz : (DataW.weightsEach Try.prog (Try.f7.params.toList ++ Rows.peerActsSpec.plain.varTypes Try.prog) (ds ++ gs)).all (· ≤ reachBytes) = true := hsz0
  have hval : ∀ (j : Nat) t v, Try.f7.params[j]? = some t → args[j]? = some v → Value.okWide Try.prog W .any base t v := hval0
  have hW' := hW
  obtain ⟨p, q, hA0, hV, rfl, hfz, hnd⟩ := hW
  have hA : DataW.TrodAll enc Try.prog W 0 (fun _ => true) true Try.f7.params.toList args.toList ds p := hA0
  rw [Try.params7] at hA hval hsz
  obtain ⟨v0, vs0, d0, ds0, p0, q0, hargs, rfl, rfl, h0, r0⟩ := trodAll_cons hA
  obtain ⟨v1, vs1, d1, ds1, p1, q1, rfl, rfl, rfl, h1, r1⟩ := trodAll_cons r0
  obtain ⟨v2, vs2, d2, ds2, p2, q2, rfl, rfl, rfl, h2, r2⟩ := trodAll_cons r1
  obtain ⟨rfl, rfl, rfl⟩ := trodAll_nil r2
  obtain rfl : args = #[v0, v1, v2] := by cases args; simp_all
  obtain ⟨rfl, rfl⟩ := trodVars_none hV
  have k0 := h0
  have lt0 : ∀ x ∈ p0, x.block < W.heap.size := by obtain ⟨m, hm⟩ := k0; exact DataW.trod_lt m _ _ _ hm
  obtain ⟨cs0, rfl, cl0, cf0⟩ := Go.SX.open_mixed (ks := [.sl .i64, .int .i64, .int .i64, .int .i64, .int .i64, .int .i64]) Try.underlying24 (by kernel_rfl) (by kernel_rfl) (hval 0 24 v0 rfl rfl) h0
  obtain ⟨c0_0, r0_0, e0_0, n0_0⟩ := Go.SX.lenN cl0
  subst e0_0
  obtain ⟨c0_1, r0_1, e0_1, n0_1⟩ := Go.SX.lenN n0_0
  subst e0_1
  obtain ⟨c0_2, r0_2, e0_2, n0_2⟩ := Go.SX.lenN n0_1
  subst e0_2
  obtain ⟨c0_3, r0_3, e0_3, n0_3⟩ := Go.SX.lenN n0_2
  subst e0_3
  obtain ⟨c0_4, r0_4, e0_4, n0_4⟩ := Go.SX.lenN n0_3
  subst e0_4
  obtain ⟨c0_5, r0_5, e0_5, n0_5⟩ := Go.SX.lenN n0_4
  subst e0_5
  obtain rfl := List.eq_nil_of_length_eq_zero n0_5
  obtain ⟨_, ec0_0, ef0_0⟩ := cf0 0 _ rfl
  cases ec0_0
  obtain ⟨b0_0, len0_0, cap0_0, z0_0, rfl, x0_0⟩ := ef0_0
  obtain ⟨_, ec0_1, ef0_1⟩ := cf0 1 _ rfl
  cases ec0_1
  obtain ⟨a0_1, rfl, w0_1⟩ := ef0_1
  obtain ⟨_, ec0_2, ef0_2⟩ := cf0 2 _ rfl
  cases ec0_2
  obtain ⟨a0_2, rfl, w0_2⟩ := ef0_2
  obtain ⟨_, ec0_3, ef0_3⟩ := cf0 3 _ rfl
  cases ec0_3
  obtain ⟨a0_3, rfl, w0_3⟩ := ef0_3
  obtain ⟨_, ec0_4, ef0_4⟩ := cf0 4 _ rfl
  cases ec0_4
  obtain ⟨a0_4, rfl, w0_4⟩ := ef0_4
  obtain ⟨_, ec0_5, ef0_5⟩ := cf0 5 _ rfl
  cases ec0_5
  obtain ⟨a0_5, rfl, w0_5⟩ := ef0_5
  obtain ⟨a1, rfl, rfl, rfl, w1⟩ := open_int Try.underlying2 (hval 1 2 v1 rfl rfl) h1
  obtain ⟨a2, len2, cap2, rfl⟩ := okWide_slice Try.underlying43 (hval 2 43 v2 rfl rfl)
  have k2 := h2
  have lt2 : ∀ x ∈ p2, x.block < W.heap.size := by obtain ⟨m, hm⟩ := k2; exact DataW.trod_lt m _ _ _ hm
  obtain ⟨g2, x2⟩ : ∃ g, Go.SX.IsMixes [.int .i64, .int .i64, .int .i64, .int .u64, .sl .u8] W a2 len2 cap2 g := by
    obtain ⟨fuel, hf⟩ := h2
    exact Go.SX.open_mixes Try.underlying43 Try.underlying45 (by kernel_rfl) (by kernel_rfl) hf
  clear hA0 hval0 hsz0 hsz
  refine (Go.SX.law_run (P := Try.prog) (cfg := TPeerActs.cfg) (bs := [Go.SX.entOf b0_0 len0_0 cap0_0, Go.SX.entOf a2 len2 cap2]) (ρ := (Go.SX.mkEnv (TPeerActs.FR z0_0 W) [(len0_0 : Int), (cap0_0 : Int), a0_1, a0_2, a0_3, a0_4, a0_5, a1, (len2 : Int), (cap2 : Int)] [z0_0, (Go.SX.colOfV Go.SX.intOf g2 cap2 0), (Go.SX.colOfV Go.SX.intOf g2 cap2 1), (Go.SX.colOfV Go.SX.intOf g2 cap2 2), (Go.SX.colOfV Go.SX.intOf g2 cap2 3), (Go.SX.colOfV Go.SX.encB g2 cap2 4), (Go.SX.colOfV Go.SX.encO g2 cap2 4), (Go.SX.colOfV Go.SX.encN g2 cap2 4), (Go.SX.colOfV Go.SX.encC g2 cap2 4)])) (TPeerActs.cfg_ok _ (fun j h h2 => (Go.SX.mkEnv_f (by show 9 ≤ j; omega)).trans (TPeerActs.FR_low _ _ h2)) (TPeerActs.env_chk _ _ _ _)) (N := TPeerActs.N (Go.SX.mkEnv (TPeerActs.FR z0_0 W) [(len0_0 : Int), (cap0_0 : Int), a0_1, a0_2, a0_3, a0_4, a0_5, a1, (len2 : Int), (cap2 : Int)] [z0_0, (Go.SX.colOfV Go.SX.intOf g2 cap2 0), (Go.SX.colOfV Go.SX.intOf g2 cap2 1), (Go.SX.colOfV Go.SX.intOf g2 cap2 2), (Go.SX.colOfV Go.SX.intOf g2 cap2 3), (Go.SX.colOfV Go.SX.encB g2 cap2 4), (Go.SX.colOfV Go.SX.encO g2 cap2 4), (Go.SX.colOfV Go.SX.encN g2 cap2 4), (Go.SX.colOfV Go.SX.encC g2 cap2 4)]).f) (hN := ⟨fun i => Go.SX.mixes_xok x2 (q := 4) rfl i.toNat, TPeerActs.env_why _ _ _ _⟩) (fuel := 100000) (f := 7) (args := TPeerActs.args) (mem := TPeerActs.mem) (pc := []) (by rw [TPeerActs.tree_eq]; exact TPeerActs.tree_holds _ (Int.natCast_nonneg _) (Go.SX.row_le x0_0) (fun i h0 h1 => Go.SX.row_inR x0_0 i h0 h1) (Go.SX.wf_inR w0_1) (Go.SX.wf_inR w0_2) (Go.SX.wf_inR w0_3) (Go.SX.wf_inR w0_4) (Go.SX.wf_inR w0_5) (Go.SX.wf_inR w1) (Int.natCast_nonneg _) (Go.SX.mixes_le x2) (fun i h0 h1 => Go.SX.mixes_inR x2 (q := 0) rfl i h0 h1) (fun i h0 h1 => Go.SX.mixes_inR x2 (q := 1) rfl i h0 h1) (fun i h0 h1 => Go.SX.mixes_inR x2 (q := 2) rfl i h0 h1) (fun i h0 h1 => Go.SX.mixes_inR x2 (q := 3) rfl i h0 h1) (fun j h h2 => (Go.SX.mkEnv_f (by show 9 ≤ j; omega)).trans (TPeerActs.FR_low _ _ h2)) (TPeerActs.env_chk _ _ _ _)) rfl (fun _ h => by cases h) (Go.SX.dvl_mk (Go.SX.dv_agg_mk (Go.SX.dvl_mk rfl (Go.SX.dvl_mk (Go.SX.dv_int_mk (Go.SX.wf_inR w0_1)) (Go.SX.dvl_mk (Go.SX.dv_int_mk (Go.SX.wf_inR w0_2)) (Go.SX.dvl_mk (Go.SX.dv_int_mk (Go.SX.wf_inR w0_3)) (Go.SX.dvl_mk (Go.SX.dv_int_mk (Go.SX.wf_inR w0_4)) (Go.SX.dvl_mk (Go.SX.dv_int_mk (Go.SX.wf_inR w0_5)) Go.SX.dvl_none))))))) (Go.SX.dvl_mk (Go.SX.dv_int_mk (Go.SX.wf_inR w1)) (Go.SX.dvl_mk rfl Go.SX.dvl_none))) (Go.SX.RelM.foreign rfl (Go.SX.mrel_two (Go.SX.orel_row x0_0 rfl rfl (fun _ _ => rfl)) (Go.SX.orel_mixes x2 rfl (by decide) rfl rfl (fun q p hq => by rcases q with _ | _ | _ | _ | _ | q <;> first | (cases hq; exact Go.SX.col_int x2 (q := 0) rfl (fun _ _ => rfl)) | (cases hq; exact Go.SX.col_int x2 (q := 1) rfl (fun _ _ => rfl)) | (cases hq; exact Go.SX.col_int x2 (q := 2) rfl (fun _ _ => rfl)) | (cases hq; exact Go.SX.col_int x2 (q := 3) rfl (fun _ _ => rfl)) | (cases hq; exact Go.SX.col_sl x2 (q := 4) rfl (fun _ _ => rfl) (fun _ _ => rfl) (fun _ _ => rfl) (fun _ _ => rfl)) | (cases hq)))) rfl)).mono fun e W' ⟨he, bel⟩ => ?_
  subst he
  exact ⟨_, rfl, _, _, _, [], _, [], hW', trodAll_mk1 (shut_bool Try.underlying4 _), (trodAll_cons_mk (Below.trod laidOut (by kernel_rfl) (of_decide_eq_true (by kernel_rfl)) k0 bel lt0) (trodAll_cons_mk (shut_int Try.underlying2 w1) (trodAll_cons_mk (Below.trod laidOut (by kernel_rfl) (of_decide_eq_true (by kernel_rfl)) k2 bel lt2) trodAll_mk0))), rfl, bel.frame _, fun h => by cases h⟩
theorem over : Rows.peerActsRow.holds Try.pinned (OpenSpec.ofChange Rows.peerActsSpec) :=
  OpenClaim.holds_of_wide 7 Try.f7 rfl rfl rfl rfl rfl rfl rfl ⟨rfl, rfl, rfl, rfl, rfl⟩ rfl rfl rfl rfl rfl (by kernel_rfl) Try.func7 (by kernel_rfl)
    (of_decide_eq_true (by kernel_rfl)) (by unfold Func.isWrapper; first | (rw [if_pos (by decide +kernel)]; kernel_rfl) | (rw [if_neg (by decide +kernel)]; exact ⟨rfl, rfl⟩))
    (fun os started H enc _ => lifted os started H enc)
theorem proved : Rows.PeerActsSaid := over
#print axioms proved
end Go.Proofs.Ytableianhaojcaa.peerActs
namespace Go.Proofs.Ytableianhaojcaa
/-- The row, under a short name, for the claim. -/
theorem peerActs_holds : Rows.PeerActsSaid := peerActs.proved
end Go.Proofs.Ytableianhaojcaa
