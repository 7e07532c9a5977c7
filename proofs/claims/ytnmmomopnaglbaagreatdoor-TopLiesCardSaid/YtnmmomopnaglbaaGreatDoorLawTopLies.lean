/- 'TopLiesCardSaid' is proved: for every input the law returns true and its arguments read as before; what the packages' names read as at the call is tied to the program's text. No conditions. Laid by a program of this session (wip/row3.py). -/
import Derived.Test.YtnmmomopnaglbaaGreatDoorRows
import Derived.Test.YtnmmomopnaglbaaGreatDoorLw
import Derived.Test.YtnmmomopnaglbaaGreatDoorLj
import Derived.WalkKit
import Derived.ProofKit
import Derived.OpenShut
import Derived.ShutString
import Derived.ChangeOld
import Derived.Below
import Derived.SizedLaws
import Derived.Lay
import Derived.MakeChecks
import Derived.Handed
import Derived.Stop.Joined
import Derived.SevenTiedAt
import Derived.Test.YtnmmomopnaglbaaGreatDoorTie
import Derived.Test.YtnmmomopnaglbaaGreatDoorCards
import Derived.Test.YtnmmomopnaglbaaGreatDoorWSized
namespace Go.Proofs.YtnmmomopnaglbaaGreatDoor.topLies
open Go.ChangeShapes Go.WideShapes Go.ChangeAt Go.RowKit
open Go.ChangeMaps (open_string shut_string)
set_option linter.unusedVariables false
theorem own : ownKnob Tryz.prog.godebug = none := by kernel_rfl
theorem laidOut : laidOutB Tryz.prog = true := Lj.laidOut
abbrev laid : List (String × DataW Unit) := Rows.topLiesRow.laid
theorem plainLaid : (laid.all fun x => x.2.handleName?.isNone) = true := by kernel_rfl
theorem door_met (os : Os) (args : Array Value) : laidMetH Tryz.prog laid ((World.laidAll Tryz.prog os laid).forCall (fun _ _ => 0) ⟨#[], args, []⟩).memory := by
  rw [MakeChecks.laidMetH_plain _ _ _ plainLaid]
  exact laidMet_laidAll _ (by kernel_rfl) (by kernel_rfl)
/-- One listed variable's own cells. -/
theorem laid_at {W : World} {n : String} {d : DataW Unit} : ∀ {l : List (String × DataW Unit)} {ps : List MemPlace}, DataW.LaidVars Tryz.prog W l ps → (n, d) ∈ l →
    ∃ g t cs fuel p, Tryz.prog.globalNamed n = some g ∧ (Tryz.prog.globals[g]?).map (·.type) = some t ∧ W.var? Tryz.prog n = some cs ∧ DataW.trod (fun _ => ()) Tryz.prog W 0 (fun _ => true) false fuel t cs.toList = some (d, p) ∧ ∀ x ∈ MemPlace.row ⟨g, 0, none⟩ cs.size, x ∈ ps
  | [], _, _, h => by cases h
  | (n', d') :: r, ps, hl, h => by
    obtain ⟨g, t, cs, fuel, p, q, h1, h2, h3, h4, h5, rfl⟩ := hl
    rcases List.mem_cons.1 h with h | h
    · cases h
      exact ⟨g, t, cs, fuel, p, h1, h2, h3, h4, fun x hx => List.mem_append_left _ (List.mem_append_left _ hx)⟩
    · obtain ⟨g', t', cs', fuel', p', k1, k2, k3, k4, k5⟩ := laid_at h5 h
      exact ⟨g', t', cs', fuel', p', k1, k2, k3, k4, fun x hx => List.mem_append_right _ (k5 x hx)⟩
/-- .. as a block of the heap. -/
theorem laid_block {W : World} {n : String} {d : DataW Unit} {g : Nat} {t : TypeId} (h : laidMetH Tryz.prog laid W) (hm : (n, d) ∈ laid) (hg : Tryz.prog.globalNamed n = some g) (ht : (Tryz.prog.globals[g]?).map (·.type) = some t) :
    ∃ cs fuel p, DataW.trod (fun _ => ()) Tryz.prog W 0 (fun _ => true) false fuel t cs.toList = some (d, p) ∧ (0 < cs.size → ∃ T, W.heap[g]? = some (.cells cs T (0, 0))) := by
  rw [MakeChecks.laidMetH_plain _ _ _ plainLaid] at h
  obtain ⟨ps, hl, _, hcell⟩ := h
  obtain ⟨g', t', cs, fuel, p, k1, k2, k3, k4, k5⟩ := laid_at hl hm
  obtain rfl := Option.some.inj (hg.symm.trans k1)
  obtain rfl := Option.some.inj (ht.symm.trans k2)
  refine ⟨cs, fuel, p, k4, fun h0 => ?_⟩
  obtain ⟨⟨c, T, hc⟩, _⟩ := hcell g 0 (k5 _ (by simp [MemPlace.row]; omega))
  refine ⟨T, ?_⟩
  simp only [World.var?, hg, Option.bind_some, hc, Option.some.injEq] at k3
  rw [hc, k3]
theorem gNames : Tryz.prog.globalNamed "chronobate/sane.names" = some 0 := by kernel_rfl
theorem tNames : (Tryz.prog.globals[0]?).map (·.type) = some 266 := by kernel_rfl
theorem gSpace : Tryz.prog.globalNamed "strings.asciiSpace" = some 1 := by kernel_rfl
theorem tSpace : (Tryz.prog.globals[1]?).map (·.type) = some 286 := by kernel_rfl
def bytes : List (List UInt8) := [[116, 97, 107, 101, 110], [115, 104, 111, 114, 116], [117, 110, 107, 110, 111, 119, 110], [114, 101, 116, 105, 114, 101, 100], [105, 100, 108, 101], [118, 101, 114, 115, 105, 111, 110], [109, 111, 100, 101], [111, 114, 105, 103, 105, 110], [107, 105, 115, 115], [108, 101, 97, 112], [115, 116, 114, 97, 116, 117, 109], [122, 101, 114, 111], [115, 108, 111, 119]]
theorem of_names {W : World} (h : laidMetH Tryz.prog laid W) : ∃ T, W.heap[0]? = some (.cells EH.vals.toArray T (0, 0)) := by
  obtain ⟨cs0, f0, p0, hd0, hb⟩ := laid_block (n := "chronobate/sane.names") (d := Rows.laid_chronobate_sane_names) h (by simp [laid, Rows.topLiesRow]) gNames tNames
  obtain ⟨xs, m, rfl, hx, hlen, hn, hel⟩ := DataW.trod_array Tryz.underlying266 hd0
  have c46 : Tryz.prog.cellsOf 266 = 13 := by kernel_rfl
  have c9 : Tryz.prog.cellsOf 9 = 1 := by kernel_rfl
  rw [c46] at hlen
  simp only [Prod.mk.injEq] at hx
  have hx1 : xs.map (·.1) = bytes.map fun b => (.lit (.string b) : DataW Unit) := by
    have h2 : DataW.agg (bytes.map fun b => (.lit (.string b) : DataW Unit)) = .agg (xs.map (·.1)) := hx.1
    exact (DataW.agg.inj h2).symm
  have hv : EH.vals = bytes.map fun b => Value.string ⟨b.toArray⟩ := rfl
  have hbl : bytes.length = 13 := rfl
  have hcs : cs0.toList = EH.vals := by
    refine List.ext_getElem? fun i => ?_
    by_cases hi : i < 13
    · have hxi : xs[i]? = some xs[i] := List.getElem?_eq_getElem (by omega)
      have h1 := (hel i hi).trans hxi
      rw [c9, Nat.mul_one] at h1
      obtain ⟨s, h2, h3, _⟩ := DataW.trod_string Tryz.underlying9 h1
      have h4 : cs0.toList[i]? = some (.string s) := by
        have := congrArg (fun l => l[0]?) h2
        simpa [List.getElem?_take, List.getElem?_drop] using this
      have h5 := congrArg (fun l => l[i]?) hx1
      simp only [List.getElem?_map, hxi, h3, Option.map_some] at h5
      cases hb' : bytes[i]? with
      | none => rw [hb'] at h5; cases h5
      | some b =>
        rw [hb'] at h5
        simp only [Option.map_some, Option.some.injEq, DataW.lit.injEq, Lit.string.injEq] at h5
        rw [h4, hv, List.getElem?_map, hb', ← h5]
        rfl
    · rw [List.getElem?_eq_none (by omega), hv, List.getElem?_eq_none (by simp [hbl]; omega)]
  obtain ⟨T, hT⟩ := hb (by rw [show cs0.size = 13 by rw [← hlen]; simp]; omega)
  exact ⟨T, by rw [hT, ← hcs]⟩
theorem spaceData : (Rows.laid_strings_asciiSpace : DataW Unit) = .agg (Lib.asciiSpaceTab.map fun b => (.lit (.int .u8 b) : DataW Unit)) := by kernel_rfl
theorem of_space {W : World} (h : laidMetH Tryz.prog laid W) : ∃ T, W.heap[1]? = some (.cells EH.space.toArray T (0, 0)) := by
  obtain ⟨cs0, f0, p0, hd0, hb⟩ := laid_block (n := "strings.asciiSpace") (d := Rows.laid_strings_asciiSpace) h (by simp [laid, Rows.topLiesRow]) gSpace tSpace
  obtain ⟨xs, m, rfl, hx, hlen, hn, hel⟩ := DataW.trod_array Tryz.underlying286 hd0
  have c46 : Tryz.prog.cellsOf 286 = 256 := by kernel_rfl
  have c9 : Tryz.prog.cellsOf 5 = 1 := by kernel_rfl
  rw [c46] at hlen
  simp only [Prod.mk.injEq] at hx
  have hx1 : xs.map (·.1) = Lib.asciiSpaceTab.map fun b => (.lit (.int .u8 b) : DataW Unit) := by
    exact (DataW.agg.inj (spaceData.symm.trans hx.1)).symm
  have hbl : Lib.asciiSpaceTab.length = 256 := by kernel_rfl
  have hcs : cs0.toList = EH.space := by
    refine List.ext_getElem? fun i => ?_
    by_cases hi : i < 256
    · have hxi : xs[i]? = some xs[i] := List.getElem?_eq_getElem (by omega)
      have h1 := (hel i hi).trans hxi
      rw [c9, Nat.mul_one] at h1
      obtain ⟨s, h2, h3, _⟩ := DataW.trod_int Tryz.underlying5 h1
      have h4 : cs0.toList[i]? = some (.int .u8 s) := by
        have := congrArg (fun l => l[0]?) h2
        simpa [List.getElem?_take, List.getElem?_drop] using this
      have h5 := congrArg (fun l => l[i]?) hx1
      simp only [List.getElem?_map, hxi, h3, Option.map_some] at h5
      cases hb' : Lib.asciiSpaceTab[i]? with
      | none => rw [hb'] at h5; cases h5
      | some b =>
        rw [hb'] at h5
        simp only [Option.map_some, Option.some.injEq, DataW.lit.injEq, Lit.int.injEq, true_and] at h5
        rw [h4, EH.space, List.getElem?_map, hb', ← h5]
        rfl
    · rw [List.getElem?_eq_none (by omega), EH.space, List.getElem?_eq_none (by simp [hbl]; omega)]
  obtain ⟨T, hT⟩ := hb (by rw [show cs0.size = 256 by rw [← hlen]; simp]; omega)
  exact ⟨T, by rw [hT, ← hcs]⟩
set_option maxRecDepth 100000 in
theorem lifted (os : Os) (started : os.Started) (H : Type) (enc : TypeId × Value → H) :
    ReturnsInHanded {} Tryz.checked os 4 .any (fun w args => (Rows.topLiesSpec.pre enc Tryz.prog Tryz.f4 [] false w args ∧ laidMetH Tryz.prog laid w) ∧ sizedMet enc Tryz.prog Tryz.f4 (OpenSpec.ofChange Rows.topLiesSpec) false w args)
      (Rows.topLiesSpec.post enc Tryz.prog Tryz.f4 false true false false) := by
  refine returnsInHanded_of_change_and (C := Tryz.checked) (X := fun w _ => laidMetH Tryz.prog laid w) (fun _ _ _ hh h => h.of_heap hh) own started (by kernel_rfl) Tryz.func4
    (ChangeSpec.witness_shaped (enc := enc) (C := Tryz.checked) (os := os) (X := fun w _ => laidMetH Tryz.prog laid w) false (World.laidAll Tryz.prog os laid) #[.slice none 0 0, .slice none 0 0, .slice none 0 0] 8 (World.laidAll_os _ _ _) (World.shaped_of_ZipB (by kernel_rfl) (by kernel_rfl)) (by kernel_rfl) (by kernel_rfl) (by kernel_rfl) (door_met os _)) ?_
  intro W base args ds gs before hval0 hW hcnd hsz0 hL _
  have hsz : (DataW.weightsEach Tryz.prog (Tryz.f4.params.toList ++ Rows.topLiesSpec.plain.varTypes Tryz.prog) (ds ++ gs)).all (· ≤ reachBytes) = true := hsz0
  have hval : ∀ (j : Nat) t v, Tryz.f4.params[j]? = some t → args[j]? = some v → Value.okWide Tryz.prog W .any base t v := hval0
  have hW' := hW
  obtain ⟨p, q, hA0, hV, rfl, hfz, hnd⟩ := hW
  have hA : DataW.TrodAll enc Tryz.prog W 0 (fun _ => true) true Tryz.f4.params.toList args.toList ds p := hA0
  rw [Tryz.params4] at hA hval hsz
  obtain ⟨v0, vs0, d0, ds0, p0, q0, hargs, rfl, rfl, h0, r0⟩ := trodAll_cons hA
  obtain ⟨v1, vs1, d1, ds1, p1, q1, rfl, rfl, rfl, h1, r1⟩ := trodAll_cons r0
  obtain ⟨v2, vs2, d2, ds2, p2, q2, rfl, rfl, rfl, h2, r2⟩ := trodAll_cons r1
  obtain ⟨rfl, rfl, rfl⟩ := trodAll_nil r2
  obtain rfl : args = #[v0, v1, v2] := by cases args; simp_all
  obtain ⟨rfl, rfl⟩ := trodVars_none hV
  obtain ⟨a0, len0, cap0, rfl⟩ := okWide_slice Tryz.underlying34 (hval 0 34 v0 rfl rfl)
  have k0 := h0
  have lt0 : ∀ x ∈ p0, x.block < W.heap.size := by obtain ⟨m, hm⟩ := k0; exact DataW.trod_lt m _ _ _ hm
  obtain ⟨z0, x0⟩ : ∃ zs, Go.SX.IsRow .i64 W a0 len0 cap0 zs := by
    obtain ⟨fuel, hf⟩ := h0
    rcases open_ints Tryz.underlying34 Tryz.underlying2 (by kernel_rfl) hf with ⟨hcs, _⟩ | ⟨x, l, c, zs, hcs, _, hl, hm, hz, _, hcell, hwz⟩
    · simp [Value.cells] at hcs
      obtain ⟨rfl, rfl, rfl⟩ := hcs
      exact ⟨[], .inl ⟨rfl, rfl, rfl, rfl⟩⟩
    · simp [Value.cells] at hcs
      obtain ⟨rfl, rfl, rfl⟩ := hcs
      exact ⟨zs, .inr ⟨_, rfl, hl, hm, by simpa using hz, hcell, hwz⟩⟩
  have y0 : len0 * 8 ≤ 140737488351232 := Go.Proofs.YtnmmomopnaglbaaGreatDoorW.PrintWords.sized_ints hsz (j := 0) (t := 34) rfl rfl Tryz.underlying34 Tryz.underlying2 (by kernel_rfl) (by kernel_rfl) k0
  obtain ⟨a1, len1, cap1, rfl⟩ := okWide_slice Tryz.underlying34 (hval 1 34 v1 rfl rfl)
  have k1 := h1
  have lt1 : ∀ x ∈ p1, x.block < W.heap.size := by obtain ⟨m, hm⟩ := k1; exact DataW.trod_lt m _ _ _ hm
  obtain ⟨z1, x1⟩ : ∃ zs, Go.SX.IsRow .i64 W a1 len1 cap1 zs := by
    obtain ⟨fuel, hf⟩ := h1
    rcases open_ints Tryz.underlying34 Tryz.underlying2 (by kernel_rfl) hf with ⟨hcs, _⟩ | ⟨x, l, c, zs, hcs, _, hl, hm, hz, _, hcell, hwz⟩
    · simp [Value.cells] at hcs
      obtain ⟨rfl, rfl, rfl⟩ := hcs
      exact ⟨[], .inl ⟨rfl, rfl, rfl, rfl⟩⟩
    · simp [Value.cells] at hcs
      obtain ⟨rfl, rfl, rfl⟩ := hcs
      exact ⟨zs, .inr ⟨_, rfl, hl, hm, by simpa using hz, hcell, hwz⟩⟩
  have y1 : len1 * 8 ≤ 140737488351232 := Go.Proofs.YtnmmomopnaglbaaGreatDoorW.PrintWords.sized_ints hsz (j := 1) (t := 34) rfl rfl Tryz.underlying34 Tryz.underlying2 (by kernel_rfl) (by kernel_rfl) k1
  obtain ⟨a2, len2, cap2, rfl⟩ := okWide_slice Tryz.underlying34 (hval 2 34 v2 rfl rfl)
  have k2 := h2
  have lt2 : ∀ x ∈ p2, x.block < W.heap.size := by obtain ⟨m, hm⟩ := k2; exact DataW.trod_lt m _ _ _ hm
  obtain ⟨z2, x2⟩ : ∃ zs, Go.SX.IsRow .i64 W a2 len2 cap2 zs := by
    obtain ⟨fuel, hf⟩ := h2
    rcases open_ints Tryz.underlying34 Tryz.underlying2 (by kernel_rfl) hf with ⟨hcs, _⟩ | ⟨x, l, c, zs, hcs, _, hl, hm, hz, _, hcell, hwz⟩
    · simp [Value.cells] at hcs
      obtain ⟨rfl, rfl, rfl⟩ := hcs
      exact ⟨[], .inl ⟨rfl, rfl, rfl, rfl⟩⟩
    · simp [Value.cells] at hcs
      obtain ⟨rfl, rfl, rfl⟩ := hcs
      exact ⟨zs, .inr ⟨_, rfl, hl, hm, by simpa using hz, hcell, hwz⟩⟩
  have y2 : len2 * 8 ≤ 140737488351232 := Go.Proofs.YtnmmomopnaglbaaGreatDoorW.PrintWords.sized_ints hsz (j := 2) (t := 34) rfl rfl Tryz.underlying34 Tryz.underlying2 (by kernel_rfl) (by kernel_rfl) k2
  clear hA0 hval0 hsz0 hsz
  refine (Lt.topLies a0 a1 a2 len0 cap0 len1 cap1 len2 cap2 z0 z1 z2 W ⟨of_names hL, of_space hL⟩ x0 x1 x2 y0 y1 y2).mono fun e W' ⟨he, bel⟩ => ?_
  subst he
  exact ⟨_, rfl, _, _, _, [], _, [], hW', trodAll_mk1 (shut_bool Tryz.underlying4 _), (trodAll_cons_mk (Below.trod laidOut (by kernel_rfl) (of_decide_eq_true (by kernel_rfl)) k0 bel lt0) (trodAll_cons_mk (Below.trod laidOut (by kernel_rfl) (of_decide_eq_true (by kernel_rfl)) k1 bel lt1) (trodAll_cons_mk (Below.trod laidOut (by kernel_rfl) (of_decide_eq_true (by kernel_rfl)) k2 bel lt2) trodAll_mk0))), rfl, bel.frame _, fun h => by cases h⟩
theorem over : Rows.topLiesRow.holds Tryz.pinned (OpenSpec.ofChange Rows.topLiesSpec) :=
  OpenClaim.holds_of_wide 4 Tryz.f4 rfl rfl rfl rfl rfl rfl rfl ⟨rfl, rfl, rfl, rfl, rfl⟩ rfl rfl rfl rfl rfl (by kernel_rfl) Tryz.func4 Lj.facts
    (of_decide_eq_true (by kernel_rfl)) (by unfold Func.isWrapper; first | (rw [if_pos (by decide +kernel)]; kernel_rfl) | (rw [if_neg (by decide +kernel)]; exact ⟨rfl, rfl⟩))
    (fun os started H enc _ => lifted os started H enc)
/-- The card. -/
theorem card_holds : Rows.TopLiesCardSaid :=
  Claim7.holds_tied_plain_at .later [] [.data, .data, .data, .data, .sentinel, .sentinel, .widerDeep, .listed, .data, .pinned] true (true, "fa518a29a27daf5b9688d86295e6a447407aa60cdc27d662c0cac427d9b57131") true
    over (fun _ h => by cases h) (by kernel_rfl) (fun _ h => by cases h) topLies_row_tie rfl ⟨rfl, rfl⟩ (by kernel_rfl) rfl
    (fun f fn hf hfn => by
      obtain rfl : f = 4 := Option.some.inj ((show Tryz.prog.funcNamed "chronobate/chronobatetop.TopLies" = some 4 by kernel_rfl).symm.trans hf) |>.symm
      obtain rfl : fn = Tryz.f4 := (Option.some.inj (Tryz.func4.symm.trans hfn)).symm
      exact ⟨by kernel_rfl, fun j t ht => by
        rw [Tryz.params4] at ht
        have hm : t ∈ [34, 34, 34] := by simpa using Array.mem_of_getElem? ht
        have hall : ([34, 34, 34].all fun u => !Tryz.prog.wantsStandIn u) = true := by kernel_rfl
        exact (show Tryz.prog.wantsStandIn t = false by simpa using List.all_eq_true.1 hall t hm)⟩)
    (by kernel_rfl)
#print axioms card_holds
end Go.Proofs.YtnmmomopnaglbaaGreatDoor.topLies
namespace Go.Proofs.YtnmmomopnaglbaaGreatDoor
/-- The card, under a short name, for the claim. -/
theorem topLies_holds : Rows.TopLiesCardSaid := topLies.card_holds
end Go.Proofs.YtnmmomopnaglbaaGreatDoor
