/- 'SaneNamesCardSaid' is proved: for every input the law returns true and its arguments read as before; what the package's names read as at the call is tied to the program's text. No conditions. Laid by a program of this session (wip/row3.py). -/
import Derived.Test.YthbmnjcpdjaokaaDoorRows
import Derived.Test.YthbmnjcpdjaokaaDoorTSaneNames
import Derived.Test.YthbmnjcpdjaokaaDoorLAg
import Derived.WalkKit
import Derived.ProofKit
import Derived.OpenShut
import Derived.ShutString
import Derived.ChangeOld
import Derived.Below
import Derived.SizedLaws
import Derived.LaidMore
import Derived.Handed
import Derived.Stop.Joined
import Derived.SevenTiedAt
import Derived.Test.YthbmnjcpdjaokaaDoorTie
import Derived.Test.YthbmnjcpdjaokaaDoorCards
namespace Go.Proofs.YthbmnjcpdjaokaaDoor.saneNames
open Go.ChangeShapes Go.WideShapes Go.ChangeAt Go.RowKit Go.Proofs.YthbmnjcpdjaokaaDoor.L
open Go.ChangeMaps (open_string shut_string)
set_option linter.unusedVariables false
theorem own : ownKnob Tryd.prog.godebug = none := by kernel_rfl
abbrev laid : List (String × DataW Unit) := [("chronobate/sane.names", Rows.laid_chronobate_sane_names)]
theorem gNames : Tryd.prog.globalNamed "chronobate/sane.names" = some 0 := by kernel_rfl
theorem tNames : (Tryd.prog.globals[0]?).map (·.type) = some 46 := by kernel_rfl
theorem door_met (os : Os) (args : Array Value) : laidMetH Tryd.prog laid ((World.doorLaid Tryd.prog 4000 os).forCall (fun _ _ => 0) ⟨#[], args, []⟩).memory :=
  laidMetH_of_parts3 (fuel := 8) (laidMet_of_run' 8 (by kernel_rfl) (by kernel_rfl)) (by kernel_rfl) (by kernel_rfl)
def bytes : List (List UInt8) := [[116, 97, 107, 101, 110], [115, 104, 111, 114, 116], [117, 110, 107, 110, 111, 119, 110], [114, 101, 116, 105, 114, 101, 100], [105, 100, 108, 101], [118, 101, 114, 115, 105, 111, 110], [109, 111, 100, 101], [111, 114, 105, 103, 105, 110], [107, 105, 115, 115], [108, 101, 97, 112], [115, 116, 114, 97, 116, 117, 109], [122, 101, 114, 111], [115, 108, 111, 119]]
theorem of_laid {W : World} (h : laidMetH Tryd.prog laid W) : ∃ T, W.heap[0]? = some (.cells HClone.vals.toArray T (0, 0)) := by
  rw [MakeChecks.laidMetH_plain _ _ _ (by kernel_rfl)] at h
  obtain ⟨ps, ⟨g0, t0, cs0, f0, p0, q0, hg0, ht0, hv0, hd0, _, hps⟩, _, hcell⟩ := h
  obtain rfl := Option.some.inj (gNames.symm.trans hg0)
  obtain rfl := Option.some.inj (tNames.symm.trans ht0)
  obtain ⟨xs, m, rfl, hx, hlen, hn, hel⟩ := DataW.trod_array Tryd.underlying46 hd0
  have c46 : Tryd.prog.cellsOf 46 = 13 := by kernel_rfl
  have c9 : Tryd.prog.cellsOf 9 = 1 := by kernel_rfl
  rw [c46] at hlen
  simp only [Prod.mk.injEq] at hx
  have hx1 : xs.map (·.1) = bytes.map fun b => (.lit (.string b) : DataW Unit) := by
    have h2 : DataW.agg (bytes.map fun b => (.lit (.string b) : DataW Unit)) = .agg (xs.map (·.1)) := hx.1
    exact (DataW.agg.inj h2).symm
  have hv : HClone.vals = bytes.map fun b => Value.string ⟨b.toArray⟩ := rfl
  have hbl : bytes.length = 13 := rfl
  have hcs : cs0.toList = HClone.vals := by
    refine List.ext_getElem? fun i => ?_
    by_cases hi : i < 13
    · have hxi : xs[i]? = some xs[i] := List.getElem?_eq_getElem (by omega)
      have h1 := (hel i hi).trans hxi
      rw [c9, Nat.mul_one] at h1
      obtain ⟨s, h2, h3, _⟩ := DataW.trod_string Tryd.underlying9 h1
      have h4 : cs0.toList[i]? = some (.string s) := by
        have := congrArg (fun l => l[0]?) h2
        simpa [List.getElem?_take, List.getElem?_drop] using this
      have h5 := congrArg (fun l => l[i]?) hx1
      simp only [List.getElem?_map, hxi, h3, Option.map_some] at h5
      cases hb : bytes[i]? with
      | none => rw [hb] at h5; cases h5
      | some b =>
        rw [hb] at h5
        simp only [Option.map_some, Option.some.injEq, DataW.lit.injEq, Lit.string.injEq] at h5
        rw [h4, hv, List.getElem?_map, hb, ← h5]
        rfl
    · rw [List.getElem?_eq_none (by omega), hv, List.getElem?_eq_none (by simp [hbl]; omega)]
  obtain ⟨⟨c, t, hc⟩, _⟩ := hcell 0 0 (by rw [hps]; simp [MemPlace.row, show cs0.size = 13 by rw [← hlen]; simp])
  refine ⟨t, ?_⟩
  have : cs0 = c := by
    simp only [World.var?, gNames, Option.bind_some, hc, Option.some.injEq] at hv0
    exact hv0.symm
  rw [hc, ← this, ← hcs]
theorem pos0 {W : World} (h : ∃ T, W.heap[0]? = some (.cells HClone.vals.toArray T (0, 0))) : 0 < W.heap.size := by
  obtain ⟨T, h⟩ := h
  by_cases h0 : 0 < W.heap.size
  · exact h0
  · rw [Array.getElem?_eq_none (by omega)] at h; cases h
set_option maxRecDepth 100000 in
theorem lifted (os : Os) (started : os.Started) (H : Type) (enc : TypeId × Value → H) :
    ReturnsInHanded {} Tryd.checked os 4 .any (fun w args => (Rows.saneNamesSpec.pre enc Tryd.prog Tryd.f4 [] false w args ∧ laidMetH Tryd.prog laid w) ∧ sizedMet enc Tryd.prog Tryd.f4 (OpenSpec.ofChange Rows.saneNamesSpec) false w args)
      (Rows.saneNamesSpec.post enc Tryd.prog Tryd.f4 false true false false) := by
  refine returnsInHanded_of_change_and (C := Tryd.checked) (X := fun w _ => laidMetH Tryd.prog laid w) (fun _ _ _ hh h => h.of_heap hh) own started (by kernel_rfl) Tryd.func4
    (ChangeSpec.witness_shaped (enc := enc) (C := Tryd.checked) (os := os) (X := fun w _ => laidMetH Tryd.prog laid w) false (World.doorLaid Tryd.prog 4000 os) #[.int .u8 0] 8 rfl (World.shaped_of_RefB (by kernel_rfl) (by kernel_rfl)) (by kernel_rfl) (by kernel_rfl) (by kernel_rfl) (door_met os _)) ?_
  intro W base args ds gs before hval0 hW hcnd hsz0 hL _
  have hsz : (DataW.weightsEach Tryd.prog (Tryd.f4.params.toList ++ Rows.saneNamesSpec.plain.varTypes Tryd.prog) (ds ++ gs)).all (· ≤ reachBytes) = true := hsz0
  have hval : ∀ (j : Nat) t v, Tryd.f4.params[j]? = some t → args[j]? = some v → Value.okWide Tryd.prog W .any base t v := hval0
  have hW' := hW
  obtain ⟨p, q, hA0, hV, rfl, hfz, hnd⟩ := hW
  have hA : DataW.TrodAll enc Tryd.prog W 0 (fun _ => true) true Tryd.f4.params.toList args.toList ds p := hA0
  rw [Tryd.params4] at hA hval hsz
  obtain ⟨v0, vs0, d0, ds0, p0, q0, hargs, rfl, rfl, h0, r0⟩ := trodAll_cons hA
  obtain ⟨rfl, rfl, rfl⟩ := trodAll_nil r0
  obtain rfl : args = #[v0] := by cases args; simp_all
  obtain ⟨rfl, rfl⟩ := trodVars_none hV
  obtain ⟨a0, rfl, rfl, rfl, w0⟩ := open_int Tryd.underlying5 (hval 0 5 v0 rfl rfl) h0
  clear hA0 hval0 hsz0 hsz
  obtain ⟨t, ht, hg⟩ := TSaneNames.tree_ex (a0 % 13).toNat (by omega)
  refine (Go.SX.law_run (P := Tryd.prog) (cfg := TSaneNames.cfg) (bs := []) (ρ := (Go.SX.mkEnv TSaneNames.F [a0] [])) (TSaneNames.cfg_ok _ (fun j h h2 => Go.SX.mkEnv_f (by show 0 ≤ j; omega))) (N := HClone.N) (hN := ⟨pos0 (of_laid hL), of_laid hL⟩) (fuel := 100000) (f := 4) (args := TSaneNames.args) (mem := TSaneNames.mem) (pc := TSaneNames.pcOf (a0 % 13).toNat) (by rw [ht]; exact TSaneNames.good_holds hg (fun _ _ => True) _) rfl (TSaneNames.pc_ok (Go.SX.mkEnv TSaneNames.F [a0] []) (Go.SX.wf_inR w0)) (Go.SX.dvl_mk (Go.SX.dv_int_mk (Go.SX.wf_inR w0)) Go.SX.dvl_none) (Go.SX.RelM.foreign rfl Go.SX.mrel_nil rfl)).mono fun e W' ⟨he, bel⟩ => ?_
  subst he
  exact ⟨_, rfl, _, _, _, [], _, [], hW', trodAll_mk1 (shut_bool Tryd.underlying4 _), (trodAll_cons_mk (shut_int Tryd.underlying5 w0) trodAll_mk0), rfl, bel.frame _, fun h => by cases h⟩
theorem over : Rows.saneNamesRow.holds Tryd.pinned (OpenSpec.ofChange Rows.saneNamesSpec) :=
  OpenClaim.holds_of_wide 4 Tryd.f4 rfl rfl rfl rfl rfl rfl rfl ⟨rfl, rfl, rfl, rfl, rfl⟩ rfl rfl rfl rfl rfl (by kernel_rfl) Tryd.func4 (by kernel_rfl)
    (of_decide_eq_true (by kernel_rfl)) (by unfold Func.isWrapper; first | (rw [if_pos (by decide +kernel)]; kernel_rfl) | (rw [if_neg (by decide +kernel)]; exact ⟨rfl, rfl⟩))
    (fun os started H enc _ => lifted os started H enc)
/-- The card. -/
theorem card_holds : Rows.SaneNamesCardSaid :=
  Claim7.holds_tied_plain_at .later [] [.widerDeep] true (true, "328467d418e23ec691dd52f05ac631342f16a8ec591b18a5859ff12ef2bc35ca") false
    over (fun _ h => by cases h) (by kernel_rfl) (fun _ h => by cases h) saneNames_row_tie rfl ⟨rfl, rfl⟩ (by kernel_rfl) rfl
    (fun f fn hf hfn => by
      obtain rfl : f = 4 := Option.some.inj ((show Tryd.prog.funcNamed "chronobate/chronobatelaw04.SaneNames" = some 4 by kernel_rfl).symm.trans hf) |>.symm
      obtain rfl : fn = Tryd.f4 := (Option.some.inj (Tryd.func4.symm.trans hfn)).symm
      exact ⟨by kernel_rfl, fun j t ht => by
        rw [Tryd.params4] at ht
        have hm : t ∈ [5] := by simpa using Array.mem_of_getElem? ht
        have hall : ([5].all fun u => !Tryd.prog.wantsStandIn u) = true := by kernel_rfl
        exact (show Tryd.prog.wantsStandIn t = false by simpa using List.all_eq_true.1 hall t hm)⟩)
    (by kernel_rfl)
#print axioms card_holds
end Go.Proofs.YthbmnjcpdjaokaaDoor.saneNames
namespace Go.Proofs.YthbmnjcpdjaokaaDoor
/-- The card, under a short name, for the claim. -/
theorem saneNames_holds : Rows.SaneNamesCardSaid := saneNames.card_holds
end Go.Proofs.YthbmnjcpdjaokaaDoor
