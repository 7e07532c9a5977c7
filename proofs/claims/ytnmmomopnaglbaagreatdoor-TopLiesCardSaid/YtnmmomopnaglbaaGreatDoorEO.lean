/- What calls of the program come to, with everything known: each as a contract. No conditions. -/
import Derived.Test.YtnmmomopnaglbaaGreatDoorEH
import Derived.Test.YtnmmomopnaglbaaGreatDoorE0
import Derived.Test.YtnmmomopnaglbaaGreatDoorE1
import Derived.Test.YtnmmomopnaglbaaGreatDoorE2
import Derived.Test.YtnmmomopnaglbaaGreatDoorE3
import Derived.Test.YtnmmomopnaglbaaGreatDoorE4
import Derived.Test.YtnmmomopnaglbaaGreatDoorE5
import Derived.Test.YtnmmomopnaglbaaGreatDoorE6
import Derived.Test.YtnmmomopnaglbaaGreatDoorE7
import Derived.Test.YtnmmomopnaglbaaGreatDoorE8
import Derived.Test.YtnmmomopnaglbaaGreatDoorE9
import Derived.Test.YtnmmomopnaglbaaGreatDoorE10
import Derived.Test.YtnmmomopnaglbaaGreatDoorE11
import Derived.Test.YtnmmomopnaglbaaGreatDoorE12
import Derived.Test.YtnmmomopnaglbaaGreatDoorE13
import Derived.Test.YtnmmomopnaglbaaGreatDoorE14
import Derived.Test.YtnmmomopnaglbaaGreatDoorE15
import Derived.Test.YtnmmomopnaglbaaGreatDoorE16
import Derived.Test.YtnmmomopnaglbaaGreatDoorE17
import Derived.Test.YtnmmomopnaglbaaGreatDoorE18
import Derived.Test.YtnmmomopnaglbaaGreatDoorE19
namespace Go.Proofs.YtnmmomopnaglbaaGreatDoor.EO
open Go Go.SX Go.Proofs.YtnmmomopnaglbaaGreatDoor
set_option maxRecDepth 100000
set_option linter.unusedVariables false
theorem ok0 : SumOkN Tryz.prog EH.F EH.N 14 ED.p0 := sumN_one (EH.cfg_ok EH.nil_ok) E.t0
theorem ok1 : SumOkN Tryz.prog EH.F EH.N 173 ED.p1 := EH.index ⟨#[115, 101, 114, 118, 101, 114, 32, 55, 10, 113, 117, 111, 114, 117, 109, 32, 49, 10, 112, 111, 108, 108, 32, 52, 32, 49, 54, 10, 100, 101, 108, 97, 121, 32, 49, 48, 48, 48, 10, 115, 108, 101, 119, 32, 53, 48, 48, 10]⟩ 10 8 (by kernel_rfl) (by kernel_rfl)
theorem ok2 : SumOkN Tryz.prog EH.F EH.N 173 ED.p2 := EH.index ⟨#[115, 101, 114, 118, 101, 114, 32, 55]⟩ 35 (-1) (by kernel_rfl) (by kernel_rfl)
theorem ok3 : SumOkN Tryz.prog EH.F EH.N 101 ED.p3 := sumN_one (EH.cfg_ok (EH.cons_ok ok2 EH.nil_ok)) E.t3
theorem ok4 : SumOkN Tryz.prog EH.F EH.N 102 ED.p4 := sumN_one (EH.cfg_ok EH.nil_ok) E.t4
theorem ok5 : SumOkN Tryz.prog EH.F EH.N 103 ED.p5 := EH.fields ⟨#[115, 101, 114, 118, 101, 114, 32, 55]⟩ [[115, 101, 114, 118, 101, 114], [55]] (by decide) (by kernel_rfl) (by kernel_rfl) (by decide)
theorem ok6 : SumOkN Tryz.prog EH.F EH.N 173 ED.p6 := EH.index ⟨#[113, 117, 111, 114, 117, 109, 32, 49, 10, 112, 111, 108, 108, 32, 52, 32, 49, 54, 10, 100, 101, 108, 97, 121, 32, 49, 48, 48, 48, 10, 115, 108, 101, 119, 32, 53, 48, 48, 10]⟩ 10 8 (by kernel_rfl) (by kernel_rfl)
theorem ok7 : SumOkN Tryz.prog EH.F EH.N 173 ED.p7 := EH.index ⟨#[113, 117, 111, 114, 117, 109, 32, 49]⟩ 35 (-1) (by kernel_rfl) (by kernel_rfl)
theorem ok8 : SumOkN Tryz.prog EH.F EH.N 101 ED.p8 := sumN_one (EH.cfg_ok (EH.cons_ok ok7 EH.nil_ok)) E.t8
theorem ok9 : SumOkN Tryz.prog EH.F EH.N 102 ED.p9 := sumN_one (EH.cfg_ok EH.nil_ok) E.t9
theorem ok10 : SumOkN Tryz.prog EH.F EH.N 103 ED.p10 := EH.fields ⟨#[113, 117, 111, 114, 117, 109, 32, 49]⟩ [[113, 117, 111, 114, 117, 109], [49]] (by decide) (by kernel_rfl) (by kernel_rfl) (by decide)
theorem ok11 : SumOkN Tryz.prog EH.F EH.N 173 ED.p11 := EH.index ⟨#[112, 111, 108, 108, 32, 52, 32, 49, 54, 10, 100, 101, 108, 97, 121, 32, 49, 48, 48, 48, 10, 115, 108, 101, 119, 32, 53, 48, 48, 10]⟩ 10 9 (by kernel_rfl) (by kernel_rfl)
theorem ok12 : SumOkN Tryz.prog EH.F EH.N 173 ED.p12 := EH.index ⟨#[112, 111, 108, 108, 32, 52, 32, 49, 54]⟩ 35 (-1) (by kernel_rfl) (by kernel_rfl)
theorem ok13 : SumOkN Tryz.prog EH.F EH.N 101 ED.p13 := sumN_one (EH.cfg_ok (EH.cons_ok ok12 EH.nil_ok)) E.t13
theorem ok14 : SumOkN Tryz.prog EH.F EH.N 102 ED.p14 := sumN_one (EH.cfg_ok EH.nil_ok) E.t14
theorem ok15 : SumOkN Tryz.prog EH.F EH.N 103 ED.p15 := EH.fields ⟨#[112, 111, 108, 108, 32, 52, 32, 49, 54]⟩ [[112, 111, 108, 108], [52], [49, 54]] (by decide) (by kernel_rfl) (by kernel_rfl) (by decide)
theorem ok16 : SumOkN Tryz.prog EH.F EH.N 173 ED.p16 := EH.index ⟨#[100, 101, 108, 97, 121, 32, 49, 48, 48, 48, 10, 115, 108, 101, 119, 32, 53, 48, 48, 10]⟩ 10 10 (by kernel_rfl) (by kernel_rfl)
theorem ok17 : SumOkN Tryz.prog EH.F EH.N 173 ED.p17 := EH.index ⟨#[100, 101, 108, 97, 121, 32, 49, 48, 48, 48]⟩ 35 (-1) (by kernel_rfl) (by kernel_rfl)
theorem ok18 : SumOkN Tryz.prog EH.F EH.N 101 ED.p18 := sumN_one (EH.cfg_ok (EH.cons_ok ok17 EH.nil_ok)) E.t18
theorem ok19 : SumOkN Tryz.prog EH.F EH.N 102 ED.p19 := sumN_one (EH.cfg_ok EH.nil_ok) E.t19
theorem ok20 : SumOkN Tryz.prog EH.F EH.N 103 ED.p20 := EH.fields ⟨#[100, 101, 108, 97, 121, 32, 49, 48, 48, 48]⟩ [[100, 101, 108, 97, 121], [49, 48, 48, 48]] (by decide) (by kernel_rfl) (by kernel_rfl) (by decide)
theorem ok21 : SumOkN Tryz.prog EH.F EH.N 173 ED.p21 := EH.index ⟨#[115, 108, 101, 119, 32, 53, 48, 48, 10]⟩ 10 8 (by kernel_rfl) (by kernel_rfl)
theorem ok22 : SumOkN Tryz.prog EH.F EH.N 173 ED.p22 := EH.index ⟨#[115, 108, 101, 119, 32, 53, 48, 48]⟩ 35 (-1) (by kernel_rfl) (by kernel_rfl)
theorem ok23 : SumOkN Tryz.prog EH.F EH.N 101 ED.p23 := sumN_one (EH.cfg_ok (EH.cons_ok ok22 EH.nil_ok)) E.t23
theorem ok24 : SumOkN Tryz.prog EH.F EH.N 102 ED.p24 := sumN_one (EH.cfg_ok EH.nil_ok) E.t24
theorem ok25 : SumOkN Tryz.prog EH.F EH.N 103 ED.p25 := EH.fields ⟨#[115, 108, 101, 119, 32, 53, 48, 48]⟩ [[115, 108, 101, 119], [53, 48, 48]] (by decide) (by kernel_rfl) (by kernel_rfl) (by decide)
theorem ok26 : SumOkN Tryz.prog EH.F EH.N 173 ED.p26 := EH.index ⟨#[]⟩ 10 (-1) (by kernel_rfl) (by kernel_rfl)
theorem ok27 : SumOkN Tryz.prog EH.F EH.N 173 ED.p27 := EH.index ⟨#[]⟩ 35 (-1) (by kernel_rfl) (by kernel_rfl)
theorem ok28 : SumOkN Tryz.prog EH.F EH.N 101 ED.p28 := sumN_one (EH.cfg_ok (EH.cons_ok ok27 EH.nil_ok)) E.t28
theorem ok29 : SumOkN Tryz.prog EH.F EH.N 102 ED.p29 := sumN_one (EH.cfg_ok EH.nil_ok) E.t29
theorem ok30 : SumOkN Tryz.prog EH.F EH.N 103 ED.p30 := EH.fields ⟨#[]⟩ [] (by decide) (by kernel_rfl) (by kernel_rfl) (by decide)
theorem hb75 : Tryz.f75.body = some (EB.bodyOf Tryz.f75) := by kernel_rfl
theorem hb170 : Tryz.f170.body = some (EB.bodyOf Tryz.f170) := by kernel_rfl
theorem sp75 : spineC (EB.bodyOf Tryz.f75) = (spineC (EB.bodyOf Tryz.f75)).take 6 ++ .block 0 (.rangeFunc (.tmp 13) #[14] (EB.asgOf (spineC (EB.bodyOf Tryz.f75))[6]?) (EB.rndOf (spineC (EB.bodyOf Tryz.f75))[6]?)) :: (spineC (EB.bodyOf Tryz.f75)).drop 7 := by kernel_rfl
theorem ok31 : SumOkN Tryz.prog EH.F EH.N 75 ED.p31 := by
  intro S w0 bs ρ w vs v mem' hN hF hvs hm hp
  cases hp
  exact comes_range (caps := (.cons (.ptr 5 0) (.cons (.ptr 6 0) (.cons (.ptr 7 0) .nil)))) ((EH.cfg_ok (EH.cons_ok ok1 (EH.cons_ok ok3 (EH.cons_ok ok4 (EH.cons_ok ok5 (EH.cons_ok ok6 (EH.cons_ok ok8 (EH.cons_ok ok9 (EH.cons_ok ok10 (EH.cons_ok ok11 (EH.cons_ok ok13 (EH.cons_ok ok14 (EH.cons_ok ok15 (EH.cons_ok ok16 (EH.cons_ok ok18 (EH.cons_ok ok19 (EH.cons_ok ok20 (EH.cons_ok ok21 (EH.cons_ok ok23 (EH.cons_ok ok24 (EH.cons_ok ok25 (EH.cons_ok ok26 (EH.cons_ok ok28 (EH.cons_ok ok29 (EH.cons_ok ok30 EH.nil_ok))))))))))))))))))))))))) ρ.f hF) EH.stays hN rfl Tryz.func75 hb75 sp75 E.rp31 (by kernel_rfl) Tryz.func170 hb170 (by kernel_rfl) (by kernel_rfl) (fun L => ⟨_, E.ri31 L, fun l hl => by simpa using hl⟩) E.rr31 hvs hm
theorem hb76 : Tryz.f76.body = some (EB.bodyOf Tryz.f76) := by kernel_rfl
theorem sp76 : spineC (EB.bodyOf Tryz.f76) = (spineC (EB.bodyOf Tryz.f76)).take 3 ++ .region 3 (EB.opsOf (spineC (EB.bodyOf Tryz.f76))[3]?) true :: (spineC (EB.bodyOf Tryz.f76)).drop 4 := by kernel_rfl
theorem wtbl : tblT Tryz.prog (EB.opsOf (spineC (EB.bodyOf Tryz.f76))[3]?) [4, 11, 21, 28, 35] ED.wst.mem (strike ED.wst.mem []) (stepA Tryz.prog (EB.cfg []) 100000 (EB.opsOf (spineC (EB.bodyOf Tryz.f76))[3]?) ED.wst.mem.length) 39 [ED.we] = some ED.wf := nexts_tbl (f := 36) (n := 3) E.wn3 (nexts_tbl (f := 35) (n := 1) E.wn4 (nexts_tbl (f := 34) (n := 1) E.wn5 (nexts_tbl (f := 33) (n := 1) E.wn6 (nexts_tbl (f := 32) (n := 1) E.wn7 (nexts_tbl (f := 31) (n := 1) E.wn8 (nexts_tbl (f := 30) (n := 1) E.wn9 (nexts_tbl (f := 29) (n := 1) E.wn10 (nexts_tbl (f := 27) (n := 2) E.wn12 (nexts_tbl (f := 24) (n := 3) E.wn15 (tbl_done (f := 23) E.wd))))))))))
theorem wsz : ((EB.opsOf (spineC (EB.bodyOf Tryz.f76))[3]?)).size + 1 = 39 := by kernel_rfl
theorem wstart : startT Tryz.prog (EB.opsOf (spineC (EB.bodyOf Tryz.f76))[3]?) [4, 11, 21, 28, 35] ED.wst.mem (strike ED.wst.mem []) (stepA Tryz.prog (EB.cfg []) 100000 (EB.opsOf (spineC (EB.bodyOf Tryz.f76))[3]?) ED.wst.mem.length) ED.wst = some ED.wf := start_tbl E.ws (by rw [wsz]; exact wtbl)
theorem ok32 : SumOkN Tryz.prog EH.F EH.N 76 ED.p32 := by
  intro S w0 bs ρ w vs v mem' hN hF hvs hm hp
  cases hp
  exact comes_tbl ((EH.cfg_ok EH.nil_ok) ρ.f hF) hN rfl Tryz.func76 hb76 sp76 E.wp wstart E.wl hvs hm
theorem ok33 : SumOkN Tryz.prog EH.F EH.N 147 ED.p33 := EH.atoi ⟨#[55]⟩ 7 (by decide) (by kernel_rfl) (by kernel_rfl)
theorem ok34 : SumOkN Tryz.prog EH.F EH.N 77 ED.p34 := sumN_one (EH.cfg_ok (EH.cons_ok ok33 EH.nil_ok)) E.t34
theorem ok35 : SumOkN Tryz.prog EH.F EH.N 147 ED.p35 := EH.atoi ⟨#[49]⟩ 1 (by decide) (by kernel_rfl) (by kernel_rfl)
theorem ok36 : SumOkN Tryz.prog EH.F EH.N 77 ED.p36 := sumN_one (EH.cfg_ok (EH.cons_ok ok35 EH.nil_ok)) E.t36
theorem ok37 : SumOkN Tryz.prog EH.F EH.N 147 ED.p37 := EH.atoi ⟨#[52]⟩ 4 (by decide) (by kernel_rfl) (by kernel_rfl)
theorem ok38 : SumOkN Tryz.prog EH.F EH.N 147 ED.p38 := EH.atoi ⟨#[49, 54]⟩ 16 (by decide) (by kernel_rfl) (by kernel_rfl)
theorem ok39 : SumOkN Tryz.prog EH.F EH.N 77 ED.p39 := sumN_one (EH.cfg_ok (EH.cons_ok ok37 (EH.cons_ok ok38 EH.nil_ok))) E.t39
theorem ok40 : SumOkN Tryz.prog EH.F EH.N 147 ED.p40 := EH.atoi ⟨#[49, 48, 48, 48]⟩ 1000 (by decide) (by kernel_rfl) (by kernel_rfl)
theorem ok41 : SumOkN Tryz.prog EH.F EH.N 77 ED.p41 := sumN_one (EH.cfg_ok (EH.cons_ok ok40 EH.nil_ok)) E.t41
theorem ok42 : SumOkN Tryz.prog EH.F EH.N 147 ED.p42 := EH.atoi ⟨#[53, 48, 48]⟩ 500 (by decide) (by kernel_rfl) (by kernel_rfl)
theorem ok43 : SumOkN Tryz.prog EH.F EH.N 77 ED.p43 := sumN_one (EH.cfg_ok (EH.cons_ok ok42 EH.nil_ok)) E.t43
theorem ok44 : SumOkN Tryz.prog EH.F EH.N 78 ED.p44 := sumN_one (EH.cfg_ok EH.nil_ok) E.t44
theorem hb44 : Tryz.f44.body = some (EB.bodyOf Tryz.f44) := by kernel_rfl
theorem sp44 : spineC (EB.bodyOf Tryz.f44) = (spineC (EB.bodyOf Tryz.f44)).take 8 ++ .region 13 (EB.opsOf (spineC (EB.bodyOf Tryz.f44))[8]?) false :: .block 2 (.loop (EB.loopOf (spineC (EB.bodyOf Tryz.f44))[9]?)) :: (spineC (EB.bodyOf Tryz.f44)).drop 10 := by kernel_rfl
theorem lb44 : spineC (EB.loopOf (spineC (EB.bodyOf Tryz.f44))[9]?) = [.region 14 (EB.opsOf (spineC (EB.loopOf (spineC (EB.bodyOf Tryz.f44))[9]?))[0]?) false, ((spineC (EB.loopOf (spineC (EB.bodyOf Tryz.f44))[9]?))[1]?.getD .skip), .block 3 (EB.blkOf (spineC (EB.loopOf (spineC (EB.bodyOf Tryz.f44))[9]?))[2]?)] := by kernel_rfl
theorem cb44 : spineC (EB.blkOf (spineC (EB.loopOf (spineC (EB.bodyOf Tryz.f44))[9]?))[2]?) = .region 15 (EB.opsOf (spineC (EB.blkOf (spineC (EB.loopOf (spineC (EB.bodyOf Tryz.f44))[9]?))[2]?))[0]?) false :: (spineC (EB.blkOf (spineC (EB.loopOf (spineC (EB.bodyOf Tryz.f44))[9]?))[2]?)).drop 1 := by kernel_rfl
theorem ok45 : SumOkN Tryz.prog EH.F EH.N 44 ED.p45 := by
  intro S w0 bs ρ w vs v mem' hN hF hvs hm hp
  cases hp
  refine comes_maploop (N := EH.N) (F := ρ.f) (cfg := (EB.cfg [(75, ED.p31), (76, ED.p32), (77, ED.p34), (77, ED.p36), (77, ED.p39), (77, ED.p41), (77, ED.p43), (78, ED.p44)])) (f := 44) (fn := Tryz.f44) (c := EB.bodyOf Tryz.f44) (id := 2) (rr := 13) (ra := 14) (rb := 15) (j := 3) (opsR := (EB.opsOf (spineC (EB.bodyOf Tryz.f44))[8]?)) (opsA := (EB.opsOf (spineC (EB.loopOf (spineC (EB.bodyOf Tryz.f44))[9]?))[0]?)) (opsB := (EB.opsOf (spineC (EB.blkOf (spineC (EB.loopOf (spineC (EB.bodyOf Tryz.f44))[9]?))[2]?))[0]?)) (b := (EB.loopOf (spineC (EB.bodyOf Tryz.f44))[9]?)) (cB := (EB.blkOf (spineC (EB.loopOf (spineC (EB.bodyOf Tryz.f44))[9]?))[2]?)) (cnd := ((spineC (EB.loopOf (spineC (EB.bodyOf Tryz.f44))[9]?))[1]?.getD .skip)) (pre := (spineC (EB.bodyOf Tryz.f44)).take 8) (post := (spineC (EB.bodyOf Tryz.f44)).drop 10) (restB := (spineC (EB.blkOf (spineC (EB.loopOf (spineC (EB.bodyOf Tryz.f44))[9]?))[2]?)).drop 1) (args := ED.a45) (mem := ED.m45) (fuel := 100000) (ks := [(.s ⟨#[100, 101, 108, 97, 121]⟩), (.s ⟨#[112, 111, 108, 108]⟩), (.s ⟨#[113, 117, 111, 114, 117, 109]⟩), (.s ⟨#[115, 101, 114, 118, 101, 114]⟩), (.s ⟨#[115, 108, 101, 119]⟩)]) (vs := [(.ptr 10 0), (.ptr 13 0), (.ptr 16 0), (.ptr 19 0), (.ptr 21 0)]) (st1 := ED.x45) (st2 := ED.y45) (v := ED.v45) (m := ED.n45) (oR := EB.opOf (EB.opsOf (spineC (EB.bodyOf Tryz.f44))[8]?) 1) (oA := EB.opOf (EB.opsOf (spineC (EB.loopOf (spineC (EB.bodyOf Tryz.f44))[9]?))[0]?) 0) (oB := EB.opOf (EB.opsOf (spineC (EB.blkOf (spineC (EB.loopOf (spineC (EB.bodyOf Tryz.f44))[9]?))[2]?))[0]?) 0) (nR := 1) (tm := 48) (ti := 49) (tn := 50) (te := 52) (T := 165) (kt := 9) (et := 171) (im := 9) (k := ED.y45.mem.length + 1) (h0 := (⟨ED.y45.slots.set 49 (some (.ptr ED.y45.mem.length 0)), ED.y45.mem.set 9 .dead ++ [.dead], []⟩ : ASt)) (heads := ED.z45) ?hcfg ?hst ?hN ?hρ ?hfn ?hc ?hsp ?hsR ?hoR ?hRop ?hRg ?hRd ?hT ?hb ?hoA ?hAop ?hAg ?hAd ?hcB ?hoB ?hBop ?hBg ?hBd ?hpre ?hR1 ?hpc ?hown ?hmap ?him ?hks ?hh0 ?hk ?hti0 ?hround ?hlast ?hvs ?hm
  case hcfg => exact (EH.cfg_ok (EH.cons_ok ok31 (EH.cons_ok ok32 (EH.cons_ok ok34 (EH.cons_ok ok36 (EH.cons_ok ok39 (EH.cons_ok ok41 (EH.cons_ok ok43 (EH.cons_ok ok44 EH.nil_ok))))))))) ρ.f hF
  case hst => exact EH.stays
  case hN => exact hN
  case hρ => rfl
  case hfn => exact Tryz.func44
  case hc => exact hb44
  case hsp => exact sp44
  case hsR => kernel_rfl
  case hoR => kernel_rfl
  case hRop => kernel_rfl
  case hRg => kernel_rfl
  case hRd => kernel_rfl
  case hT => kernel_rfl
  case hb => exact lb44
  case hoA => kernel_rfl
  case hAop => kernel_rfl
  case hAg => kernel_rfl
  case hAd => kernel_rfl
  case hcB => exact cb44
  case hoB => kernel_rfl
  case hBop => kernel_rfl
  case hBg => kernel_rfl
  case hBd => kernel_rfl
  case hpre => exact E.mp45
  case hR1 => exact E.mo45
  case hpc => rfl
  case hown => kernel_rfl
  case hmap => kernel_rfl
  case him => kernel_rfl
  case hks => exact fun h => by cases h
  case hh0 => rfl
  case hk => rfl
  case hti0 => exact of_decide_eq_true (by kernel_rfl)
  case hround => exact closedM_spec E.mc45
  case hlast => exact lastAll_spec E.ml45
  case hvs => exact hvs
  case hm => exact hm
theorem ok46 : SumOkN Tryz.prog EH.F EH.N 46 ED.p46 := sumN_one (EH.cfg_ok EH.nil_ok) E.t46
theorem ok47 : SumOkN Tryz.prog EH.F EH.N 49 ED.p47 := sumN_one (EH.cfg_ok EH.nil_ok) E.t47
theorem ok48 : SumOkN Tryz.prog EH.F EH.N 51 ED.p48 := sumN_one (EH.cfg_ok EH.nil_ok) E.t48
theorem ok49 : SumOkN Tryz.prog EH.F EH.N 50 ED.p49 := sumN_one (EH.cfg_ok EH.nil_ok) E.t49
theorem ok50 : SumOkN Tryz.prog EH.F EH.N 23 ED.p50 := sumN_one (EH.cfg_ok (EH.cons_ok ok45 (EH.cons_ok ok46 (EH.cons_ok ok44 (EH.cons_ok ok47 (EH.cons_ok ok48 (EH.cons_ok ok49 EH.nil_ok))))))) E.t50
theorem ok51 : SumOkN Tryz.prog EH.F EH.N 37 ED.p51 := sumN_one (EH.cfg_ok EH.nil_ok) E.t51
theorem ok52 : SumOkN Tryz.prog EH.F EH.N 15 ED.p52 := sumN_one (EH.cfg_ok (EH.cons_ok ok50 (EH.cons_ok ok51 EH.nil_ok))) E.t52
theorem ok53 : SumOkN Tryz.prog EH.F EH.N 37 ED.p53 := sumN_one (EH.cfg_ok EH.nil_ok) E.t53
theorem ok54 : SumOkN Tryz.prog EH.F EH.N 28 ED.p54 := sumN_one (EH.cfg_ok (EH.cons_ok ok53 EH.nil_ok)) E.t54
theorem ok55 : SumOkN Tryz.prog EH.F EH.N 58 ED.p55 := sumN_one (EH.cfg_ok EH.nil_ok) E.t55
theorem ok56 : SumOkN Tryz.prog EH.F EH.N 29 ED.p56 := sumN_one (EH.cfg_ok (EH.cons_ok ok55 EH.nil_ok)) E.t56
theorem ok57 : SumOkN Tryz.prog EH.F EH.N 113 ED.p57 := sumN_one (EH.cfg_ok EH.nil_ok) E.t57
theorem ok58 : SumOkN Tryz.prog EH.F EH.N 86 ED.p58 := sumN_one (EH.cfg_ok (EH.cons_ok ok57 EH.nil_ok)) E.t58
theorem ok59 : SumOkN Tryz.prog EH.F EH.N 161 ED.p59 := sumN_one (EH.cfg_ok EH.nil_ok) E.t59
theorem ok60 : SumOkN Tryz.prog EH.F EH.N 124 ED.p60 := sumN_one (EH.cfg_ok (EH.cons_ok ok59 EH.nil_ok)) E.t60
theorem ok61 : SumOkN Tryz.prog EH.F EH.N 64 ED.p61 := sumN_one (EH.cfg_ok (EH.cons_ok ok60 EH.nil_ok)) E.t61
theorem ok62 : SumOkN Tryz.prog EH.F EH.N 153 ED.p62 := sumN_one (EH.cfg_ok EH.nil_ok) E.t62
theorem ok63 : SumOkN Tryz.prog EH.F EH.N 87 ED.p63 := sumN_one (EH.cfg_ok (EH.cons_ok ok62 EH.nil_ok)) E.t63
theorem ok64 : SumOkN Tryz.prog EH.F EH.N 62 ED.p64 := sumN_one (EH.cfg_ok (EH.cons_ok ok58 (EH.cons_ok ok61 (EH.cons_ok ok63 EH.nil_ok)))) E.t64
theorem ok65 : SumOkN Tryz.prog EH.F EH.N 51 ED.p65 := sumN_one (EH.cfg_ok EH.nil_ok) E.t65
theorem ok66 : SumOkN Tryz.prog EH.F EH.N 50 ED.p66 := sumN_one (EH.cfg_ok EH.nil_ok) E.t66
theorem hb65 : Tryz.f65.body = some (EB.bodyOf Tryz.f65) := by kernel_rfl
theorem sp65 : spineC (EB.bodyOf Tryz.f65) = (spineC (EB.bodyOf Tryz.f65)).take 5 ++ .region 5 (EB.opsOf (spineC (EB.bodyOf Tryz.f65))[5]?) false :: .block 0 (.loop (EB.loopOf (spineC (EB.bodyOf Tryz.f65))[6]?)) :: (spineC (EB.bodyOf Tryz.f65)).drop 7 := by kernel_rfl
theorem lb65 : spineC (EB.loopOf (spineC (EB.bodyOf Tryz.f65))[6]?) = [.region 6 (EB.opsOf (spineC (EB.loopOf (spineC (EB.bodyOf Tryz.f65))[6]?))[0]?) false, ((spineC (EB.loopOf (spineC (EB.bodyOf Tryz.f65))[6]?))[1]?.getD .skip), .block 1 (EB.blkOf (spineC (EB.loopOf (spineC (EB.bodyOf Tryz.f65))[6]?))[2]?)] := by kernel_rfl
theorem cb65 : spineC (EB.blkOf (spineC (EB.loopOf (spineC (EB.bodyOf Tryz.f65))[6]?))[2]?) = .region 7 (EB.opsOf (spineC (EB.blkOf (spineC (EB.loopOf (spineC (EB.bodyOf Tryz.f65))[6]?))[2]?))[0]?) false :: (spineC (EB.blkOf (spineC (EB.loopOf (spineC (EB.bodyOf Tryz.f65))[6]?))[2]?)).drop 1 := by kernel_rfl
theorem ok67 : SumOkN Tryz.prog EH.F EH.N 65 ED.p67 := by
  intro S w0 bs ρ w vs v mem' hN hF hvs hm hp
  cases hp
  refine comes_maploop (N := EH.N) (F := ρ.f) (cfg := (EB.cfg [])) (f := 65) (fn := Tryz.f65) (c := EB.bodyOf Tryz.f65) (id := 0) (rr := 5) (ra := 6) (rb := 7) (j := 1) (opsR := (EB.opsOf (spineC (EB.bodyOf Tryz.f65))[5]?)) (opsA := (EB.opsOf (spineC (EB.loopOf (spineC (EB.bodyOf Tryz.f65))[6]?))[0]?)) (opsB := (EB.opsOf (spineC (EB.blkOf (spineC (EB.loopOf (spineC (EB.bodyOf Tryz.f65))[6]?))[2]?))[0]?)) (b := (EB.loopOf (spineC (EB.bodyOf Tryz.f65))[6]?)) (cB := (EB.blkOf (spineC (EB.loopOf (spineC (EB.bodyOf Tryz.f65))[6]?))[2]?)) (cnd := ((spineC (EB.loopOf (spineC (EB.bodyOf Tryz.f65))[6]?))[1]?.getD .skip)) (pre := (spineC (EB.bodyOf Tryz.f65)).take 5) (post := (spineC (EB.bodyOf Tryz.f65)).drop 7) (restB := (spineC (EB.blkOf (spineC (EB.loopOf (spineC (EB.bodyOf Tryz.f65))[6]?))[2]?)).drop 1) (args := ED.a67) (mem := ED.m67) (fuel := 100000) (ks := [(.i .i64 0)]) (vs := [(.agg (.cons (.int .i64 (.lit 1500000001)) (.cons (.int .i64 (.lit 2)) .nil)))]) (st1 := ED.x67) (st2 := ED.y67) (v := ED.v67) (m := ED.n67) (oR := EB.opOf (EB.opsOf (spineC (EB.bodyOf Tryz.f65))[5]?) 4) (oA := EB.opOf (EB.opsOf (spineC (EB.loopOf (spineC (EB.bodyOf Tryz.f65))[6]?))[0]?) 0) (oB := EB.opOf (EB.opsOf (spineC (EB.blkOf (spineC (EB.loopOf (spineC (EB.bodyOf Tryz.f65))[6]?))[2]?))[0]?) 0) (nR := 4) (tm := 14) (ti := 15) (tn := 16) (te := 18) (T := 180) (kt := 3) (et := 200) (im := 1) (k := ED.y67.mem.length + 1) (h0 := (⟨ED.y67.slots.set 15 (some (.ptr ED.y67.mem.length 0)), ED.y67.mem.set 1 .dead ++ [.dead], []⟩ : ASt)) (heads := ED.z67) ?hcfg ?hst ?hN ?hρ ?hfn ?hc ?hsp ?hsR ?hoR ?hRop ?hRg ?hRd ?hT ?hb ?hoA ?hAop ?hAg ?hAd ?hcB ?hoB ?hBop ?hBg ?hBd ?hpre ?hR1 ?hpc ?hown ?hmap ?him ?hks ?hh0 ?hk ?hti0 ?hround ?hlast ?hvs ?hm
  case hcfg => exact (EH.cfg_ok EH.nil_ok) ρ.f hF
  case hst => exact EH.stays
  case hN => exact hN
  case hρ => rfl
  case hfn => exact Tryz.func65
  case hc => exact hb65
  case hsp => exact sp65
  case hsR => kernel_rfl
  case hoR => kernel_rfl
  case hRop => kernel_rfl
  case hRg => kernel_rfl
  case hRd => kernel_rfl
  case hT => kernel_rfl
  case hb => exact lb65
  case hoA => kernel_rfl
  case hAop => kernel_rfl
  case hAg => kernel_rfl
  case hAd => kernel_rfl
  case hcB => exact cb65
  case hoB => kernel_rfl
  case hBop => kernel_rfl
  case hBg => kernel_rfl
  case hBd => kernel_rfl
  case hpre => exact E.mp67
  case hR1 => exact E.mo67
  case hpc => rfl
  case hown => kernel_rfl
  case hmap => kernel_rfl
  case him => kernel_rfl
  case hks => exact fun h => by cases h
  case hh0 => rfl
  case hk => rfl
  case hti0 => exact of_decide_eq_true (by kernel_rfl)
  case hround => exact closedM_spec E.mc67
  case hlast => exact lastAll_spec E.ml67
  case hvs => exact hvs
  case hm => exact hm
theorem ok68 : SumOkN Tryz.prog EH.F EH.N 34 ED.p68 := sumN_one (EH.cfg_ok (EH.cons_ok ok64 (EH.cons_ok ok65 (EH.cons_ok ok66 (EH.cons_ok ok61 (EH.cons_ok ok67 EH.nil_ok)))))) E.t68
theorem ok69 : SumOkN Tryz.prog EH.F EH.N 68 ED.p69 := sumN_one (EH.cfg_ok EH.nil_ok) E.t69
theorem ok70 : SumOkN Tryz.prog EH.F EH.N 93 ED.p70 := sumN_one (EH.cfg_ok EH.nil_ok) E.t70
theorem ok71 : SumOkN Tryz.prog EH.F EH.N 188 ED.p71 := sumN_one (EH.cfg_ok EH.nil_ok) E.t71
theorem ok72 : SumOkN Tryz.prog EH.F EH.N 153 ED.p72 := sumN_one (EH.cfg_ok EH.nil_ok) E.t72
theorem ok73 : SumOkN Tryz.prog EH.F EH.N 277 ED.p73 := sumN_one (EH.cfg_ok (EH.cons_ok ok72 EH.nil_ok)) E.t73
theorem ok74 : SumOkN Tryz.prog EH.F EH.N 276 ED.p74 := sumN_one (EH.cfg_ok (EH.cons_ok ok69 (EH.cons_ok ok71 (EH.cons_ok ok73 EH.nil_ok)))) E.t74
theorem ok75 : SumOkN Tryz.prog EH.F EH.N 67 ED.p75 := sumN_one (EH.cfg_ok (EH.cons_ok ok70 (EH.cons_ok ok74 EH.nil_ok))) E.t75
theorem ok76 : SumOkN Tryz.prog EH.F EH.N 36 ED.p76 := sumN_one (EH.cfg_ok (EH.cons_ok ok75 (EH.cons_ok ok69 EH.nil_ok))) E.t76
theorem ok77 : SumOkN Tryz.prog EH.F EH.N 16 ED.p77 := sumN_one (EH.cfg_ok (EH.cons_ok ok54 (EH.cons_ok ok56 (EH.cons_ok ok68 (EH.cons_ok ok76 EH.nil_ok))))) E.t77
theorem ok78 : SumOkN Tryz.prog EH.F EH.N 38 ED.p78 := sumN_one (EH.cfg_ok EH.nil_ok) E.t78
theorem ok79 : SumOkN Tryz.prog EH.F EH.N 39 ED.p79 := sumN_one (EH.cfg_ok (EH.cons_ok ok61 EH.nil_ok)) E.t79
theorem ok80 : SumOkN Tryz.prog EH.F EH.N 37 ED.p80 := sumN_one (EH.cfg_ok EH.nil_ok) E.t80
theorem ok81 : SumOkN Tryz.prog EH.F EH.N 17 ED.p81 := sumN_one (EH.cfg_ok (EH.cons_ok ok78 (EH.cons_ok ok79 (EH.cons_ok ok80 EH.nil_ok)))) E.t81
theorem ok82 : SumOkN Tryz.prog EH.F EH.N 28 ED.p82 := sumN_one (EH.cfg_ok (EH.cons_ok ok53 EH.nil_ok)) E.t82
theorem ok83 : SumOkN Tryz.prog EH.F EH.N 58 ED.p83 := sumN_one (EH.cfg_ok EH.nil_ok) E.t83
theorem ok84 : SumOkN Tryz.prog EH.F EH.N 29 ED.p84 := sumN_one (EH.cfg_ok (EH.cons_ok ok83 EH.nil_ok)) E.t84
theorem ok85 : SumOkN Tryz.prog EH.F EH.N 161 ED.p85 := sumN_one (EH.cfg_ok EH.nil_ok) E.t85
theorem ok86 : SumOkN Tryz.prog EH.F EH.N 124 ED.p86 := sumN_one (EH.cfg_ok (EH.cons_ok ok85 EH.nil_ok)) E.t86
theorem ok87 : SumOkN Tryz.prog EH.F EH.N 64 ED.p87 := sumN_one (EH.cfg_ok (EH.cons_ok ok86 EH.nil_ok)) E.t87
theorem ok88 : SumOkN Tryz.prog EH.F EH.N 118 ED.p88 := sumN_one (EH.cfg_ok (EH.cons_ok ok86 EH.nil_ok)) E.t88
theorem ok89 : SumOkN Tryz.prog EH.F EH.N 93 ED.p89 := sumN_one (EH.cfg_ok EH.nil_ok) E.t89
theorem ok90 : SumOkN Tryz.prog EH.F EH.N 113 ED.p90 := sumN_one (EH.cfg_ok EH.nil_ok) E.t90
theorem ok91 : SumOkN Tryz.prog EH.F EH.N 188 ED.p91 := sumN_one (EH.cfg_ok EH.nil_ok) E.t91
theorem ok92 : SumOkN Tryz.prog EH.F EH.N 161 ED.p92 := sumN_one (EH.cfg_ok EH.nil_ok) E.t92
theorem ok93 : SumOkN Tryz.prog EH.F EH.N 188 ED.p93 := sumN_one (EH.cfg_ok EH.nil_ok) E.t93
theorem ok94 : SumOkN Tryz.prog EH.F EH.N 161 ED.p94 := sumN_one (EH.cfg_ok EH.nil_ok) E.t94
theorem ok95 : SumOkN Tryz.prog EH.F EH.N 37 ED.p95 := sumN_one (EH.cfg_ok EH.nil_ok) E.t95
theorem ok96 : SumOkN Tryz.prog EH.F EH.N 37 ED.p96 := sumN_one (EH.cfg_ok EH.nil_ok) E.t96
theorem ok97 : SumOkN Tryz.prog EH.F EH.N 119 ED.p97 := sumN_one (EH.cfg_ok (EH.cons_ok ok89 (EH.cons_ok ok90 (EH.cons_ok ok91 (EH.cons_ok ok92 (EH.cons_ok ok93 (EH.cons_ok ok94 (EH.cons_ok ok95 (EH.cons_ok ok96 EH.nil_ok))))))))) E.t97
theorem ok98 : SumOkN Tryz.prog EH.F EH.N 37 ED.p98 := sumN_one (EH.cfg_ok EH.nil_ok) E.t98
theorem ok99 : SumOkN Tryz.prog EH.F EH.N 37 ED.p99 := sumN_one (EH.cfg_ok EH.nil_ok) E.t99
theorem hb191 : Tryz.f191.body = some (EB.bodyOf Tryz.f191) := by kernel_rfl
theorem hb239 : Tryz.f239.body = some (EB.bodyOf Tryz.f239) := by kernel_rfl
theorem sp191 : spineC (EB.bodyOf Tryz.f191) = (spineC (EB.bodyOf Tryz.f191)).take 2 ++ .block 0 (.rangeFunc (.tmp 15) #[16] (EB.asgOf (spineC (EB.bodyOf Tryz.f191))[2]?) (EB.rndOf (spineC (EB.bodyOf Tryz.f191))[2]?)) :: (spineC (EB.bodyOf Tryz.f191)).drop 3 := by kernel_rfl
theorem ok100 : SumOkN Tryz.prog EH.F EH.N 191 ED.p100 := by
  intro S w0 bs ρ w vs v mem' hN hF hvs hm hp
  cases hp
  exact comes_range (caps := (.cons (.ptr 5 0) (.cons (.ptr 6 0) (.cons (.ptr 7 0) .nil)))) ((EH.cfg_ok (EH.cons_ok ok98 (EH.cons_ok ok53 (EH.cons_ok ok99 EH.nil_ok)))) ρ.f hF) EH.stays hN rfl Tryz.func191 hb191 sp191 E.rp100 (by kernel_rfl) Tryz.func239 hb239 (by kernel_rfl) (by kernel_rfl) (fun L => ⟨_, E.ri100 L, fun l hl => by simpa using hl⟩) E.rr100 hvs hm
theorem ok101 : SumOkN Tryz.prog EH.F EH.N 159 ED.p101 := sumN_one (EH.cfg_ok (EH.cons_ok ok100 EH.nil_ok)) E.t101
theorem ok102 : SumOkN Tryz.prog EH.F EH.N 74 ED.p102 := sumN_one (EH.cfg_ok EH.nil_ok) E.t102
theorem ok103 : SumOkN Tryz.prog EH.F EH.N 43 ED.p103 := sumN_one (EH.cfg_ok (EH.cons_ok ok102 EH.nil_ok)) E.t103
theorem ok104 : SumOkN Tryz.prog EH.F EH.N 21 ED.p104 := sumN_one (EH.cfg_ok (EH.cons_ok ok103 EH.nil_ok)) E.t104
theorem ok105 : SumOkN Tryz.prog EH.F EH.N 10 ED.p105 := sumN_one (EH.cfg_ok (EH.cons_ok ok104 EH.nil_ok)) E.t105
theorem ok106 : SumOkN Tryz.prog EH.F EH.N 121 ED.p106 := sumN_one (EH.cfg_ok (EH.cons_ok ok101 (EH.cons_ok ok105 EH.nil_ok))) E.t106
theorem ok107 : SumOkN Tryz.prog EH.F EH.N 122 ED.p107 := sumN_one (EH.cfg_ok (EH.cons_ok ok86 EH.nil_ok)) E.t107
theorem ok108 : SumOkN Tryz.prog EH.F EH.N 88 ED.p108 := sumN_one (EH.cfg_ok (EH.cons_ok ok87 (EH.cons_ok ok88 (EH.cons_ok ok97 (EH.cons_ok ok106 (EH.cons_ok ok107 EH.nil_ok)))))) E.t108
theorem ok109 : SumOkN Tryz.prog EH.F EH.N 51 ED.p109 := sumN_one (EH.cfg_ok EH.nil_ok) E.t109
theorem ok110 : SumOkN Tryz.prog EH.F EH.N 50 ED.p110 := sumN_one (EH.cfg_ok EH.nil_ok) E.t110
theorem ok111 : SumOkN Tryz.prog EH.F EH.N 161 ED.p111 := sumN_one (EH.cfg_ok EH.nil_ok) E.t111
theorem ok112 : SumOkN Tryz.prog EH.F EH.N 124 ED.p112 := sumN_one (EH.cfg_ok (EH.cons_ok ok111 EH.nil_ok)) E.t112
theorem ok113 : SumOkN Tryz.prog EH.F EH.N 64 ED.p113 := sumN_one (EH.cfg_ok (EH.cons_ok ok112 EH.nil_ok)) E.t113
theorem ok114 : SumOkN Tryz.prog EH.F EH.N 65 ED.p114 := by
  intro S w0 bs ρ w vs v mem' hN hF hvs hm hp
  cases hp
  refine comes_maploop (N := EH.N) (F := ρ.f) (cfg := (EB.cfg [])) (f := 65) (fn := Tryz.f65) (c := EB.bodyOf Tryz.f65) (id := 0) (rr := 5) (ra := 6) (rb := 7) (j := 1) (opsR := (EB.opsOf (spineC (EB.bodyOf Tryz.f65))[5]?)) (opsA := (EB.opsOf (spineC (EB.loopOf (spineC (EB.bodyOf Tryz.f65))[6]?))[0]?)) (opsB := (EB.opsOf (spineC (EB.blkOf (spineC (EB.loopOf (spineC (EB.bodyOf Tryz.f65))[6]?))[2]?))[0]?)) (b := (EB.loopOf (spineC (EB.bodyOf Tryz.f65))[6]?)) (cB := (EB.blkOf (spineC (EB.loopOf (spineC (EB.bodyOf Tryz.f65))[6]?))[2]?)) (cnd := ((spineC (EB.loopOf (spineC (EB.bodyOf Tryz.f65))[6]?))[1]?.getD .skip)) (pre := (spineC (EB.bodyOf Tryz.f65)).take 5) (post := (spineC (EB.bodyOf Tryz.f65)).drop 7) (restB := (spineC (EB.blkOf (spineC (EB.loopOf (spineC (EB.bodyOf Tryz.f65))[6]?))[2]?)).drop 1) (args := ED.a114) (mem := ED.m114) (fuel := 100000) (ks := [(.i .i64 0)]) (vs := [(.agg (.cons (.int .i64 (.lit 4500000000)) (.cons (.int .i64 (.lit 3)) .nil)))]) (st1 := ED.x114) (st2 := ED.y114) (v := ED.v114) (m := ED.n114) (oR := EB.opOf (EB.opsOf (spineC (EB.bodyOf Tryz.f65))[5]?) 4) (oA := EB.opOf (EB.opsOf (spineC (EB.loopOf (spineC (EB.bodyOf Tryz.f65))[6]?))[0]?) 0) (oB := EB.opOf (EB.opsOf (spineC (EB.blkOf (spineC (EB.loopOf (spineC (EB.bodyOf Tryz.f65))[6]?))[2]?))[0]?) 0) (nR := 4) (tm := 14) (ti := 15) (tn := 16) (te := 18) (T := 180) (kt := 3) (et := 200) (im := 1) (k := ED.y114.mem.length + 1) (h0 := (⟨ED.y114.slots.set 15 (some (.ptr ED.y114.mem.length 0)), ED.y114.mem.set 1 .dead ++ [.dead], []⟩ : ASt)) (heads := ED.z114) ?hcfg ?hst ?hN ?hρ ?hfn ?hc ?hsp ?hsR ?hoR ?hRop ?hRg ?hRd ?hT ?hb ?hoA ?hAop ?hAg ?hAd ?hcB ?hoB ?hBop ?hBg ?hBd ?hpre ?hR1 ?hpc ?hown ?hmap ?him ?hks ?hh0 ?hk ?hti0 ?hround ?hlast ?hvs ?hm
  case hcfg => exact (EH.cfg_ok EH.nil_ok) ρ.f hF
  case hst => exact EH.stays
  case hN => exact hN
  case hρ => rfl
  case hfn => exact Tryz.func65
  case hc => exact hb65
  case hsp => exact sp65
  case hsR => kernel_rfl
  case hoR => kernel_rfl
  case hRop => kernel_rfl
  case hRg => kernel_rfl
  case hRd => kernel_rfl
  case hT => kernel_rfl
  case hb => exact lb65
  case hoA => kernel_rfl
  case hAop => kernel_rfl
  case hAg => kernel_rfl
  case hAd => kernel_rfl
  case hcB => exact cb65
  case hoB => kernel_rfl
  case hBop => kernel_rfl
  case hBg => kernel_rfl
  case hBd => kernel_rfl
  case hpre => exact E.mp114
  case hR1 => exact E.mo114
  case hpc => rfl
  case hown => kernel_rfl
  case hmap => kernel_rfl
  case him => kernel_rfl
  case hks => exact fun h => by cases h
  case hh0 => rfl
  case hk => rfl
  case hti0 => exact of_decide_eq_true (by kernel_rfl)
  case hround => exact closedM_spec E.mc114
  case hlast => exact lastAll_spec E.ml114
  case hvs => exact hvs
  case hm => exact hm
theorem ok115 : SumOkN Tryz.prog EH.F EH.N 34 ED.p115 := sumN_one (EH.cfg_ok (EH.cons_ok ok108 (EH.cons_ok ok109 (EH.cons_ok ok110 (EH.cons_ok ok113 (EH.cons_ok ok114 EH.nil_ok)))))) E.t115
theorem ok116 : SumOkN Tryz.prog EH.F EH.N 38 ED.p116 := sumN_one (EH.cfg_ok EH.nil_ok) E.t116
theorem ok117 : SumOkN Tryz.prog EH.F EH.N 39 ED.p117 := sumN_one (EH.cfg_ok (EH.cons_ok ok113 EH.nil_ok)) E.t117
theorem ok118 : SumOkN Tryz.prog EH.F EH.N 37 ED.p118 := sumN_one (EH.cfg_ok EH.nil_ok) E.t118
theorem ok119 : SumOkN Tryz.prog EH.F EH.N 17 ED.p119 := sumN_one (EH.cfg_ok (EH.cons_ok ok116 (EH.cons_ok ok117 (EH.cons_ok ok118 EH.nil_ok)))) E.t119
theorem ok120 : SumOkN Tryz.prog EH.F EH.N 61 ED.p120 := sumN_one (EH.cfg_ok (EH.cons_ok ok119 EH.nil_ok)) E.t120
theorem ok121 : SumOkN Tryz.prog EH.F EH.N 33 ED.p121 := sumN_one (EH.cfg_ok (EH.cons_ok ok115 (EH.cons_ok ok120 EH.nil_ok))) E.t121
theorem ok122 : SumOkN Tryz.prog EH.F EH.N 113 ED.p122 := sumN_one (EH.cfg_ok EH.nil_ok) E.t122
theorem ok123 : SumOkN Tryz.prog EH.F EH.N 86 ED.p123 := sumN_one (EH.cfg_ok (EH.cons_ok ok122 EH.nil_ok)) E.t123
theorem ok124 : SumOkN Tryz.prog EH.F EH.N 87 ED.p124 := sumN_one (EH.cfg_ok EH.nil_ok) E.t124
theorem ok125 : SumOkN Tryz.prog EH.F EH.N 62 ED.p125 := sumN_one (EH.cfg_ok (EH.cons_ok ok123 (EH.cons_ok ok113 (EH.cons_ok ok124 EH.nil_ok)))) E.t125
theorem ok126 : SumOkN Tryz.prog EH.F EH.N 50 ED.p126 := sumN_one (EH.cfg_ok EH.nil_ok) E.t126
theorem ok127 : SumOkN Tryz.prog EH.F EH.N 65 ED.p127 := by
  intro S w0 bs ρ w vs v mem' hN hF hvs hm hp
  cases hp
  refine comes_maploop (N := EH.N) (F := ρ.f) (cfg := (EB.cfg [])) (f := 65) (fn := Tryz.f65) (c := EB.bodyOf Tryz.f65) (id := 0) (rr := 5) (ra := 6) (rb := 7) (j := 1) (opsR := (EB.opsOf (spineC (EB.bodyOf Tryz.f65))[5]?)) (opsA := (EB.opsOf (spineC (EB.loopOf (spineC (EB.bodyOf Tryz.f65))[6]?))[0]?)) (opsB := (EB.opsOf (spineC (EB.blkOf (spineC (EB.loopOf (spineC (EB.bodyOf Tryz.f65))[6]?))[2]?))[0]?)) (b := (EB.loopOf (spineC (EB.bodyOf Tryz.f65))[6]?)) (cB := (EB.blkOf (spineC (EB.loopOf (spineC (EB.bodyOf Tryz.f65))[6]?))[2]?)) (cnd := ((spineC (EB.loopOf (spineC (EB.bodyOf Tryz.f65))[6]?))[1]?.getD .skip)) (pre := (spineC (EB.bodyOf Tryz.f65)).take 5) (post := (spineC (EB.bodyOf Tryz.f65)).drop 7) (restB := (spineC (EB.blkOf (spineC (EB.loopOf (spineC (EB.bodyOf Tryz.f65))[6]?))[2]?)).drop 1) (args := ED.a127) (mem := ED.m127) (fuel := 100000) (ks := [(.i .i64 0)]) (vs := [(.agg (.cons (.int .i64 (.lit 4500000000)) (.cons (.int .i64 (.lit 4)) .nil)))]) (st1 := ED.x127) (st2 := ED.y127) (v := ED.v127) (m := ED.n127) (oR := EB.opOf (EB.opsOf (spineC (EB.bodyOf Tryz.f65))[5]?) 4) (oA := EB.opOf (EB.opsOf (spineC (EB.loopOf (spineC (EB.bodyOf Tryz.f65))[6]?))[0]?) 0) (oB := EB.opOf (EB.opsOf (spineC (EB.blkOf (spineC (EB.loopOf (spineC (EB.bodyOf Tryz.f65))[6]?))[2]?))[0]?) 0) (nR := 4) (tm := 14) (ti := 15) (tn := 16) (te := 18) (T := 180) (kt := 3) (et := 200) (im := 1) (k := ED.y127.mem.length + 1) (h0 := (⟨ED.y127.slots.set 15 (some (.ptr ED.y127.mem.length 0)), ED.y127.mem.set 1 .dead ++ [.dead], []⟩ : ASt)) (heads := ED.z127) ?hcfg ?hst ?hN ?hρ ?hfn ?hc ?hsp ?hsR ?hoR ?hRop ?hRg ?hRd ?hT ?hb ?hoA ?hAop ?hAg ?hAd ?hcB ?hoB ?hBop ?hBg ?hBd ?hpre ?hR1 ?hpc ?hown ?hmap ?him ?hks ?hh0 ?hk ?hti0 ?hround ?hlast ?hvs ?hm
  case hcfg => exact (EH.cfg_ok EH.nil_ok) ρ.f hF
  case hst => exact EH.stays
  case hN => exact hN
  case hρ => rfl
  case hfn => exact Tryz.func65
  case hc => exact hb65
  case hsp => exact sp65
  case hsR => kernel_rfl
  case hoR => kernel_rfl
  case hRop => kernel_rfl
  case hRg => kernel_rfl
  case hRd => kernel_rfl
  case hT => kernel_rfl
  case hb => exact lb65
  case hoA => kernel_rfl
  case hAop => kernel_rfl
  case hAg => kernel_rfl
  case hAd => kernel_rfl
  case hcB => exact cb65
  case hoB => kernel_rfl
  case hBop => kernel_rfl
  case hBg => kernel_rfl
  case hBd => kernel_rfl
  case hpre => exact E.mp127
  case hR1 => exact E.mo127
  case hpc => rfl
  case hown => kernel_rfl
  case hmap => kernel_rfl
  case him => kernel_rfl
  case hks => exact fun h => by cases h
  case hh0 => rfl
  case hk => rfl
  case hti0 => exact of_decide_eq_true (by kernel_rfl)
  case hround => exact closedM_spec E.mc127
  case hlast => exact lastAll_spec E.ml127
  case hvs => exact hvs
  case hm => exact hm
theorem ok128 : SumOkN Tryz.prog EH.F EH.N 34 ED.p128 := sumN_one (EH.cfg_ok (EH.cons_ok ok125 (EH.cons_ok ok109 (EH.cons_ok ok126 (EH.cons_ok ok113 (EH.cons_ok ok127 EH.nil_ok)))))) E.t128
theorem ok129 : SumOkN Tryz.prog EH.F EH.N 16 ED.p129 := sumN_one (EH.cfg_ok (EH.cons_ok ok82 (EH.cons_ok ok84 (EH.cons_ok ok121 (EH.cons_ok ok128 EH.nil_ok))))) E.t129
theorem ok130 : SumOkN Tryz.prog EH.F EH.N 38 ED.p130 := sumN_one (EH.cfg_ok EH.nil_ok) E.t130
theorem ok131 : SumOkN Tryz.prog EH.F EH.N 39 ED.p131 := sumN_one (EH.cfg_ok (EH.cons_ok ok113 EH.nil_ok)) E.t131
theorem ok132 : SumOkN Tryz.prog EH.F EH.N 17 ED.p132 := sumN_one (EH.cfg_ok (EH.cons_ok ok130 (EH.cons_ok ok131 (EH.cons_ok ok118 EH.nil_ok)))) E.t132
theorem ok133 : SumOkN Tryz.prog EH.F EH.N 28 ED.p133 := sumN_one (EH.cfg_ok (EH.cons_ok ok53 EH.nil_ok)) E.t133
theorem ok134 : SumOkN Tryz.prog EH.F EH.N 58 ED.p134 := sumN_one (EH.cfg_ok EH.nil_ok) E.t134
theorem ok135 : SumOkN Tryz.prog EH.F EH.N 29 ED.p135 := sumN_one (EH.cfg_ok (EH.cons_ok ok134 EH.nil_ok)) E.t135
theorem ok136 : SumOkN Tryz.prog EH.F EH.N 113 ED.p136 := sumN_one (EH.cfg_ok EH.nil_ok) E.t136
theorem ok137 : SumOkN Tryz.prog EH.F EH.N 86 ED.p137 := sumN_one (EH.cfg_ok (EH.cons_ok ok136 EH.nil_ok)) E.t137
theorem ok138 : SumOkN Tryz.prog EH.F EH.N 124 ED.p138 := sumN_one (EH.cfg_ok (EH.cons_ok ok59 EH.nil_ok)) E.t138
theorem ok139 : SumOkN Tryz.prog EH.F EH.N 64 ED.p139 := sumN_one (EH.cfg_ok (EH.cons_ok ok138 EH.nil_ok)) E.t139
theorem ok140 : SumOkN Tryz.prog EH.F EH.N 87 ED.p140 := sumN_one (EH.cfg_ok EH.nil_ok) E.t140
theorem ok141 : SumOkN Tryz.prog EH.F EH.N 62 ED.p141 := sumN_one (EH.cfg_ok (EH.cons_ok ok137 (EH.cons_ok ok139 (EH.cons_ok ok140 EH.nil_ok)))) E.t141
theorem ok142 : SumOkN Tryz.prog EH.F EH.N 50 ED.p142 := sumN_one (EH.cfg_ok EH.nil_ok) E.t142
theorem ok143 : SumOkN Tryz.prog EH.F EH.N 65 ED.p143 := by
  intro S w0 bs ρ w vs v mem' hN hF hvs hm hp
  cases hp
  refine comes_maploop (N := EH.N) (F := ρ.f) (cfg := (EB.cfg [])) (f := 65) (fn := Tryz.f65) (c := EB.bodyOf Tryz.f65) (id := 0) (rr := 5) (ra := 6) (rb := 7) (j := 1) (opsR := (EB.opsOf (spineC (EB.bodyOf Tryz.f65))[5]?)) (opsA := (EB.opsOf (spineC (EB.loopOf (spineC (EB.bodyOf Tryz.f65))[6]?))[0]?)) (opsB := (EB.opsOf (spineC (EB.blkOf (spineC (EB.loopOf (spineC (EB.bodyOf Tryz.f65))[6]?))[2]?))[0]?)) (b := (EB.loopOf (spineC (EB.bodyOf Tryz.f65))[6]?)) (cB := (EB.blkOf (spineC (EB.loopOf (spineC (EB.bodyOf Tryz.f65))[6]?))[2]?)) (cnd := ((spineC (EB.loopOf (spineC (EB.bodyOf Tryz.f65))[6]?))[1]?.getD .skip)) (pre := (spineC (EB.bodyOf Tryz.f65)).take 5) (post := (spineC (EB.bodyOf Tryz.f65)).drop 7) (restB := (spineC (EB.blkOf (spineC (EB.loopOf (spineC (EB.bodyOf Tryz.f65))[6]?))[2]?)).drop 1) (args := ED.a143) (mem := ED.m143) (fuel := 100000) (ks := [(.i .i64 0)]) (vs := [(.agg (.cons (.int .i64 (.lit 4500000000)) (.cons (.int .i64 (.lit 5)) .nil)))]) (st1 := ED.x143) (st2 := ED.y143) (v := ED.v143) (m := ED.n143) (oR := EB.opOf (EB.opsOf (spineC (EB.bodyOf Tryz.f65))[5]?) 4) (oA := EB.opOf (EB.opsOf (spineC (EB.loopOf (spineC (EB.bodyOf Tryz.f65))[6]?))[0]?) 0) (oB := EB.opOf (EB.opsOf (spineC (EB.blkOf (spineC (EB.loopOf (spineC (EB.bodyOf Tryz.f65))[6]?))[2]?))[0]?) 0) (nR := 4) (tm := 14) (ti := 15) (tn := 16) (te := 18) (T := 180) (kt := 3) (et := 200) (im := 1) (k := ED.y143.mem.length + 1) (h0 := (⟨ED.y143.slots.set 15 (some (.ptr ED.y143.mem.length 0)), ED.y143.mem.set 1 .dead ++ [.dead], []⟩ : ASt)) (heads := ED.z143) ?hcfg ?hst ?hN ?hρ ?hfn ?hc ?hsp ?hsR ?hoR ?hRop ?hRg ?hRd ?hT ?hb ?hoA ?hAop ?hAg ?hAd ?hcB ?hoB ?hBop ?hBg ?hBd ?hpre ?hR1 ?hpc ?hown ?hmap ?him ?hks ?hh0 ?hk ?hti0 ?hround ?hlast ?hvs ?hm
  case hcfg => exact (EH.cfg_ok EH.nil_ok) ρ.f hF
  case hst => exact EH.stays
  case hN => exact hN
  case hρ => rfl
  case hfn => exact Tryz.func65
  case hc => exact hb65
  case hsp => exact sp65
  case hsR => kernel_rfl
  case hoR => kernel_rfl
  case hRop => kernel_rfl
  case hRg => kernel_rfl
  case hRd => kernel_rfl
  case hT => kernel_rfl
  case hb => exact lb65
  case hoA => kernel_rfl
  case hAop => kernel_rfl
  case hAg => kernel_rfl
  case hAd => kernel_rfl
  case hcB => exact cb65
  case hoB => kernel_rfl
  case hBop => kernel_rfl
  case hBg => kernel_rfl
  case hBd => kernel_rfl
  case hpre => exact E.mp143
  case hR1 => exact E.mo143
  case hpc => rfl
  case hown => kernel_rfl
  case hmap => kernel_rfl
  case him => kernel_rfl
  case hks => exact fun h => by cases h
  case hh0 => rfl
  case hk => rfl
  case hti0 => exact of_decide_eq_true (by kernel_rfl)
  case hround => exact closedM_spec E.mc143
  case hlast => exact lastAll_spec E.ml143
  case hvs => exact hvs
  case hm => exact hm
theorem ok144 : SumOkN Tryz.prog EH.F EH.N 34 ED.p144 := sumN_one (EH.cfg_ok (EH.cons_ok ok141 (EH.cons_ok ok109 (EH.cons_ok ok142 (EH.cons_ok ok139 (EH.cons_ok ok143 EH.nil_ok)))))) E.t144
theorem ok145 : SumOkN Tryz.prog EH.F EH.N 16 ED.p145 := sumN_one (EH.cfg_ok (EH.cons_ok ok133 (EH.cons_ok ok135 (EH.cons_ok ok144 EH.nil_ok)))) E.t145
theorem ok146 : SumOkN Tryz.prog EH.F EH.N 38 ED.p146 := sumN_one (EH.cfg_ok EH.nil_ok) E.t146
theorem ok147 : SumOkN Tryz.prog EH.F EH.N 39 ED.p147 := sumN_one (EH.cfg_ok (EH.cons_ok ok139 EH.nil_ok)) E.t147
theorem ok148 : SumOkN Tryz.prog EH.F EH.N 37 ED.p148 := sumN_one (EH.cfg_ok EH.nil_ok) E.t148
theorem ok149 : SumOkN Tryz.prog EH.F EH.N 17 ED.p149 := sumN_one (EH.cfg_ok (EH.cons_ok ok146 (EH.cons_ok ok147 (EH.cons_ok ok148 EH.nil_ok)))) E.t149
theorem ok150 : SumOkN Tryz.prog EH.F EH.N 28 ED.p150 := sumN_one (EH.cfg_ok (EH.cons_ok ok53 EH.nil_ok)) E.t150
theorem ok151 : SumOkN Tryz.prog EH.F EH.N 113 ED.p151 := sumN_one (EH.cfg_ok EH.nil_ok) E.t151
theorem ok152 : SumOkN Tryz.prog EH.F EH.N 86 ED.p152 := sumN_one (EH.cfg_ok (EH.cons_ok ok151 EH.nil_ok)) E.t152
theorem ok153 : SumOkN Tryz.prog EH.F EH.N 124 ED.p153 := sumN_one (EH.cfg_ok (EH.cons_ok ok85 EH.nil_ok)) E.t153
theorem ok154 : SumOkN Tryz.prog EH.F EH.N 64 ED.p154 := sumN_one (EH.cfg_ok (EH.cons_ok ok153 EH.nil_ok)) E.t154
theorem ok155 : SumOkN Tryz.prog EH.F EH.N 87 ED.p155 := sumN_one (EH.cfg_ok EH.nil_ok) E.t155
theorem ok156 : SumOkN Tryz.prog EH.F EH.N 62 ED.p156 := sumN_one (EH.cfg_ok (EH.cons_ok ok152 (EH.cons_ok ok154 (EH.cons_ok ok155 EH.nil_ok)))) E.t156
theorem ok157 : SumOkN Tryz.prog EH.F EH.N 50 ED.p157 := sumN_one (EH.cfg_ok EH.nil_ok) E.t157
theorem ok158 : SumOkN Tryz.prog EH.F EH.N 65 ED.p158 := by
  intro S w0 bs ρ w vs v mem' hN hF hvs hm hp
  cases hp
  refine comes_maploop (N := EH.N) (F := ρ.f) (cfg := (EB.cfg [])) (f := 65) (fn := Tryz.f65) (c := EB.bodyOf Tryz.f65) (id := 0) (rr := 5) (ra := 6) (rb := 7) (j := 1) (opsR := (EB.opsOf (spineC (EB.bodyOf Tryz.f65))[5]?)) (opsA := (EB.opsOf (spineC (EB.loopOf (spineC (EB.bodyOf Tryz.f65))[6]?))[0]?)) (opsB := (EB.opsOf (spineC (EB.blkOf (spineC (EB.loopOf (spineC (EB.bodyOf Tryz.f65))[6]?))[2]?))[0]?)) (b := (EB.loopOf (spineC (EB.bodyOf Tryz.f65))[6]?)) (cB := (EB.blkOf (spineC (EB.loopOf (spineC (EB.bodyOf Tryz.f65))[6]?))[2]?)) (cnd := ((spineC (EB.loopOf (spineC (EB.bodyOf Tryz.f65))[6]?))[1]?.getD .skip)) (pre := (spineC (EB.bodyOf Tryz.f65)).take 5) (post := (spineC (EB.bodyOf Tryz.f65)).drop 7) (restB := (spineC (EB.blkOf (spineC (EB.loopOf (spineC (EB.bodyOf Tryz.f65))[6]?))[2]?)).drop 1) (args := ED.a158) (mem := ED.m158) (fuel := 100000) (ks := [(.i .i64 0)]) (vs := [(.agg (.cons (.int .i64 (.lit 4500000000)) (.cons (.int .i64 (.lit 6)) .nil)))]) (st1 := ED.x158) (st2 := ED.y158) (v := ED.v158) (m := ED.n158) (oR := EB.opOf (EB.opsOf (spineC (EB.bodyOf Tryz.f65))[5]?) 4) (oA := EB.opOf (EB.opsOf (spineC (EB.loopOf (spineC (EB.bodyOf Tryz.f65))[6]?))[0]?) 0) (oB := EB.opOf (EB.opsOf (spineC (EB.blkOf (spineC (EB.loopOf (spineC (EB.bodyOf Tryz.f65))[6]?))[2]?))[0]?) 0) (nR := 4) (tm := 14) (ti := 15) (tn := 16) (te := 18) (T := 180) (kt := 3) (et := 200) (im := 1) (k := ED.y158.mem.length + 1) (h0 := (⟨ED.y158.slots.set 15 (some (.ptr ED.y158.mem.length 0)), ED.y158.mem.set 1 .dead ++ [.dead], []⟩ : ASt)) (heads := ED.z158) ?hcfg ?hst ?hN ?hρ ?hfn ?hc ?hsp ?hsR ?hoR ?hRop ?hRg ?hRd ?hT ?hb ?hoA ?hAop ?hAg ?hAd ?hcB ?hoB ?hBop ?hBg ?hBd ?hpre ?hR1 ?hpc ?hown ?hmap ?him ?hks ?hh0 ?hk ?hti0 ?hround ?hlast ?hvs ?hm
  case hcfg => exact (EH.cfg_ok EH.nil_ok) ρ.f hF
  case hst => exact EH.stays
  case hN => exact hN
  case hρ => rfl
  case hfn => exact Tryz.func65
  case hc => exact hb65
  case hsp => exact sp65
  case hsR => kernel_rfl
  case hoR => kernel_rfl
  case hRop => kernel_rfl
  case hRg => kernel_rfl
  case hRd => kernel_rfl
  case hT => kernel_rfl
  case hb => exact lb65
  case hoA => kernel_rfl
  case hAop => kernel_rfl
  case hAg => kernel_rfl
  case hAd => kernel_rfl
  case hcB => exact cb65
  case hoB => kernel_rfl
  case hBop => kernel_rfl
  case hBg => kernel_rfl
  case hBd => kernel_rfl
  case hpre => exact E.mp158
  case hR1 => exact E.mo158
  case hpc => rfl
  case hown => kernel_rfl
  case hmap => kernel_rfl
  case him => kernel_rfl
  case hks => exact fun h => by cases h
  case hh0 => rfl
  case hk => rfl
  case hti0 => exact of_decide_eq_true (by kernel_rfl)
  case hround => exact closedM_spec E.mc158
  case hlast => exact lastAll_spec E.ml158
  case hvs => exact hvs
  case hm => exact hm
theorem ok159 : SumOkN Tryz.prog EH.F EH.N 34 ED.p159 := sumN_one (EH.cfg_ok (EH.cons_ok ok156 (EH.cons_ok ok109 (EH.cons_ok ok157 (EH.cons_ok ok154 (EH.cons_ok ok158 EH.nil_ok)))))) E.t159
theorem ok160 : SumOkN Tryz.prog EH.F EH.N 16 ED.p160 := sumN_one (EH.cfg_ok (EH.cons_ok ok150 (EH.cons_ok ok135 (EH.cons_ok ok159 EH.nil_ok)))) E.t160
theorem ok161 : SumOkN Tryz.prog EH.F EH.N 38 ED.p161 := sumN_one (EH.cfg_ok EH.nil_ok) E.t161
theorem ok162 : SumOkN Tryz.prog EH.F EH.N 39 ED.p162 := sumN_one (EH.cfg_ok (EH.cons_ok ok154 EH.nil_ok)) E.t162
theorem ok163 : SumOkN Tryz.prog EH.F EH.N 37 ED.p163 := sumN_one (EH.cfg_ok EH.nil_ok) E.t163
theorem ok164 : SumOkN Tryz.prog EH.F EH.N 17 ED.p164 := sumN_one (EH.cfg_ok (EH.cons_ok ok161 (EH.cons_ok ok162 (EH.cons_ok ok163 EH.nil_ok)))) E.t164
theorem ok165 : SumOkN Tryz.prog EH.F EH.N 28 ED.p165 := sumN_one (EH.cfg_ok (EH.cons_ok ok53 EH.nil_ok)) E.t165
theorem ok166 : SumOkN Tryz.prog EH.F EH.N 113 ED.p166 := sumN_one (EH.cfg_ok EH.nil_ok) E.t166
theorem ok167 : SumOkN Tryz.prog EH.F EH.N 86 ED.p167 := sumN_one (EH.cfg_ok (EH.cons_ok ok166 EH.nil_ok)) E.t167
theorem ok168 : SumOkN Tryz.prog EH.F EH.N 161 ED.p168 := sumN_one (EH.cfg_ok EH.nil_ok) E.t168
theorem ok169 : SumOkN Tryz.prog EH.F EH.N 124 ED.p169 := sumN_one (EH.cfg_ok (EH.cons_ok ok168 EH.nil_ok)) E.t169
theorem ok170 : SumOkN Tryz.prog EH.F EH.N 64 ED.p170 := sumN_one (EH.cfg_ok (EH.cons_ok ok169 EH.nil_ok)) E.t170
theorem ok171 : SumOkN Tryz.prog EH.F EH.N 87 ED.p171 := sumN_one (EH.cfg_ok EH.nil_ok) E.t171
theorem ok172 : SumOkN Tryz.prog EH.F EH.N 62 ED.p172 := sumN_one (EH.cfg_ok (EH.cons_ok ok167 (EH.cons_ok ok170 (EH.cons_ok ok171 EH.nil_ok)))) E.t172
theorem ok173 : SumOkN Tryz.prog EH.F EH.N 50 ED.p173 := sumN_one (EH.cfg_ok EH.nil_ok) E.t173
theorem ok174 : SumOkN Tryz.prog EH.F EH.N 65 ED.p174 := by
  intro S w0 bs ρ w vs v mem' hN hF hvs hm hp
  cases hp
  refine comes_maploop (N := EH.N) (F := ρ.f) (cfg := (EB.cfg [])) (f := 65) (fn := Tryz.f65) (c := EB.bodyOf Tryz.f65) (id := 0) (rr := 5) (ra := 6) (rb := 7) (j := 1) (opsR := (EB.opsOf (spineC (EB.bodyOf Tryz.f65))[5]?)) (opsA := (EB.opsOf (spineC (EB.loopOf (spineC (EB.bodyOf Tryz.f65))[6]?))[0]?)) (opsB := (EB.opsOf (spineC (EB.blkOf (spineC (EB.loopOf (spineC (EB.bodyOf Tryz.f65))[6]?))[2]?))[0]?)) (b := (EB.loopOf (spineC (EB.bodyOf Tryz.f65))[6]?)) (cB := (EB.blkOf (spineC (EB.loopOf (spineC (EB.bodyOf Tryz.f65))[6]?))[2]?)) (cnd := ((spineC (EB.loopOf (spineC (EB.bodyOf Tryz.f65))[6]?))[1]?.getD .skip)) (pre := (spineC (EB.bodyOf Tryz.f65)).take 5) (post := (spineC (EB.bodyOf Tryz.f65)).drop 7) (restB := (spineC (EB.blkOf (spineC (EB.loopOf (spineC (EB.bodyOf Tryz.f65))[6]?))[2]?)).drop 1) (args := ED.a174) (mem := ED.m174) (fuel := 100000) (ks := [(.i .i64 0)]) (vs := [(.agg (.cons (.int .i64 (.lit 4500000000)) (.cons (.int .i64 (.lit 7)) .nil)))]) (st1 := ED.x174) (st2 := ED.y174) (v := ED.v174) (m := ED.n174) (oR := EB.opOf (EB.opsOf (spineC (EB.bodyOf Tryz.f65))[5]?) 4) (oA := EB.opOf (EB.opsOf (spineC (EB.loopOf (spineC (EB.bodyOf Tryz.f65))[6]?))[0]?) 0) (oB := EB.opOf (EB.opsOf (spineC (EB.blkOf (spineC (EB.loopOf (spineC (EB.bodyOf Tryz.f65))[6]?))[2]?))[0]?) 0) (nR := 4) (tm := 14) (ti := 15) (tn := 16) (te := 18) (T := 180) (kt := 3) (et := 200) (im := 1) (k := ED.y174.mem.length + 1) (h0 := (⟨ED.y174.slots.set 15 (some (.ptr ED.y174.mem.length 0)), ED.y174.mem.set 1 .dead ++ [.dead], []⟩ : ASt)) (heads := ED.z174) ?hcfg ?hst ?hN ?hρ ?hfn ?hc ?hsp ?hsR ?hoR ?hRop ?hRg ?hRd ?hT ?hb ?hoA ?hAop ?hAg ?hAd ?hcB ?hoB ?hBop ?hBg ?hBd ?hpre ?hR1 ?hpc ?hown ?hmap ?him ?hks ?hh0 ?hk ?hti0 ?hround ?hlast ?hvs ?hm
  case hcfg => exact (EH.cfg_ok EH.nil_ok) ρ.f hF
  case hst => exact EH.stays
  case hN => exact hN
  case hρ => rfl
  case hfn => exact Tryz.func65
  case hc => exact hb65
  case hsp => exact sp65
  case hsR => kernel_rfl
  case hoR => kernel_rfl
  case hRop => kernel_rfl
  case hRg => kernel_rfl
  case hRd => kernel_rfl
  case hT => kernel_rfl
  case hb => exact lb65
  case hoA => kernel_rfl
  case hAop => kernel_rfl
  case hAg => kernel_rfl
  case hAd => kernel_rfl
  case hcB => exact cb65
  case hoB => kernel_rfl
  case hBop => kernel_rfl
  case hBg => kernel_rfl
  case hBd => kernel_rfl
  case hpre => exact E.mp174
  case hR1 => exact E.mo174
  case hpc => rfl
  case hown => kernel_rfl
  case hmap => kernel_rfl
  case him => kernel_rfl
  case hks => exact fun h => by cases h
  case hh0 => rfl
  case hk => rfl
  case hti0 => exact of_decide_eq_true (by kernel_rfl)
  case hround => exact closedM_spec E.mc174
  case hlast => exact lastAll_spec E.ml174
  case hvs => exact hvs
  case hm => exact hm
theorem ok175 : SumOkN Tryz.prog EH.F EH.N 34 ED.p175 := sumN_one (EH.cfg_ok (EH.cons_ok ok172 (EH.cons_ok ok109 (EH.cons_ok ok173 (EH.cons_ok ok170 (EH.cons_ok ok174 EH.nil_ok)))))) E.t175
theorem ok176 : SumOkN Tryz.prog EH.F EH.N 16 ED.p176 := sumN_one (EH.cfg_ok (EH.cons_ok ok165 (EH.cons_ok ok135 (EH.cons_ok ok175 EH.nil_ok)))) E.t176
theorem ok177 : SumOkN Tryz.prog EH.F EH.N 38 ED.p177 := sumN_one (EH.cfg_ok EH.nil_ok) E.t177
theorem ok178 : SumOkN Tryz.prog EH.F EH.N 39 ED.p178 := sumN_one (EH.cfg_ok (EH.cons_ok ok170 EH.nil_ok)) E.t178
theorem ok179 : SumOkN Tryz.prog EH.F EH.N 37 ED.p179 := sumN_one (EH.cfg_ok EH.nil_ok) E.t179
theorem ok180 : SumOkN Tryz.prog EH.F EH.N 17 ED.p180 := sumN_one (EH.cfg_ok (EH.cons_ok ok177 (EH.cons_ok ok178 (EH.cons_ok ok179 EH.nil_ok)))) E.t180
theorem ok181 : SumOkN Tryz.prog EH.F EH.N 28 ED.p181 := sumN_one (EH.cfg_ok (EH.cons_ok ok53 EH.nil_ok)) E.t181
theorem ok182 : SumOkN Tryz.prog EH.F EH.N 113 ED.p182 := sumN_one (EH.cfg_ok EH.nil_ok) E.t182
theorem ok183 : SumOkN Tryz.prog EH.F EH.N 86 ED.p183 := sumN_one (EH.cfg_ok (EH.cons_ok ok182 EH.nil_ok)) E.t183
theorem ok184 : SumOkN Tryz.prog EH.F EH.N 161 ED.p184 := sumN_one (EH.cfg_ok EH.nil_ok) E.t184
theorem ok185 : SumOkN Tryz.prog EH.F EH.N 124 ED.p185 := sumN_one (EH.cfg_ok (EH.cons_ok ok184 EH.nil_ok)) E.t185
theorem ok186 : SumOkN Tryz.prog EH.F EH.N 64 ED.p186 := sumN_one (EH.cfg_ok (EH.cons_ok ok185 EH.nil_ok)) E.t186
theorem ok187 : SumOkN Tryz.prog EH.F EH.N 87 ED.p187 := sumN_one (EH.cfg_ok EH.nil_ok) E.t187
theorem ok188 : SumOkN Tryz.prog EH.F EH.N 62 ED.p188 := sumN_one (EH.cfg_ok (EH.cons_ok ok183 (EH.cons_ok ok186 (EH.cons_ok ok187 EH.nil_ok)))) E.t188
theorem ok189 : SumOkN Tryz.prog EH.F EH.N 50 ED.p189 := sumN_one (EH.cfg_ok EH.nil_ok) E.t189
theorem ok190 : SumOkN Tryz.prog EH.F EH.N 65 ED.p190 := by
  intro S w0 bs ρ w vs v mem' hN hF hvs hm hp
  cases hp
  refine comes_maploop (N := EH.N) (F := ρ.f) (cfg := (EB.cfg [])) (f := 65) (fn := Tryz.f65) (c := EB.bodyOf Tryz.f65) (id := 0) (rr := 5) (ra := 6) (rb := 7) (j := 1) (opsR := (EB.opsOf (spineC (EB.bodyOf Tryz.f65))[5]?)) (opsA := (EB.opsOf (spineC (EB.loopOf (spineC (EB.bodyOf Tryz.f65))[6]?))[0]?)) (opsB := (EB.opsOf (spineC (EB.blkOf (spineC (EB.loopOf (spineC (EB.bodyOf Tryz.f65))[6]?))[2]?))[0]?)) (b := (EB.loopOf (spineC (EB.bodyOf Tryz.f65))[6]?)) (cB := (EB.blkOf (spineC (EB.loopOf (spineC (EB.bodyOf Tryz.f65))[6]?))[2]?)) (cnd := ((spineC (EB.loopOf (spineC (EB.bodyOf Tryz.f65))[6]?))[1]?.getD .skip)) (pre := (spineC (EB.bodyOf Tryz.f65)).take 5) (post := (spineC (EB.bodyOf Tryz.f65)).drop 7) (restB := (spineC (EB.blkOf (spineC (EB.loopOf (spineC (EB.bodyOf Tryz.f65))[6]?))[2]?)).drop 1) (args := ED.a190) (mem := ED.m190) (fuel := 100000) (ks := [(.i .i64 0)]) (vs := [(.agg (.cons (.int .i64 (.lit 4500000000)) (.cons (.int .i64 (.lit 8)) .nil)))]) (st1 := ED.x190) (st2 := ED.y190) (v := ED.v190) (m := ED.n190) (oR := EB.opOf (EB.opsOf (spineC (EB.bodyOf Tryz.f65))[5]?) 4) (oA := EB.opOf (EB.opsOf (spineC (EB.loopOf (spineC (EB.bodyOf Tryz.f65))[6]?))[0]?) 0) (oB := EB.opOf (EB.opsOf (spineC (EB.blkOf (spineC (EB.loopOf (spineC (EB.bodyOf Tryz.f65))[6]?))[2]?))[0]?) 0) (nR := 4) (tm := 14) (ti := 15) (tn := 16) (te := 18) (T := 180) (kt := 3) (et := 200) (im := 1) (k := ED.y190.mem.length + 1) (h0 := (⟨ED.y190.slots.set 15 (some (.ptr ED.y190.mem.length 0)), ED.y190.mem.set 1 .dead ++ [.dead], []⟩ : ASt)) (heads := ED.z190) ?hcfg ?hst ?hN ?hρ ?hfn ?hc ?hsp ?hsR ?hoR ?hRop ?hRg ?hRd ?hT ?hb ?hoA ?hAop ?hAg ?hAd ?hcB ?hoB ?hBop ?hBg ?hBd ?hpre ?hR1 ?hpc ?hown ?hmap ?him ?hks ?hh0 ?hk ?hti0 ?hround ?hlast ?hvs ?hm
  case hcfg => exact (EH.cfg_ok EH.nil_ok) ρ.f hF
  case hst => exact EH.stays
  case hN => exact hN
  case hρ => rfl
  case hfn => exact Tryz.func65
  case hc => exact hb65
  case hsp => exact sp65
  case hsR => kernel_rfl
  case hoR => kernel_rfl
  case hRop => kernel_rfl
  case hRg => kernel_rfl
  case hRd => kernel_rfl
  case hT => kernel_rfl
  case hb => exact lb65
  case hoA => kernel_rfl
  case hAop => kernel_rfl
  case hAg => kernel_rfl
  case hAd => kernel_rfl
  case hcB => exact cb65
  case hoB => kernel_rfl
  case hBop => kernel_rfl
  case hBg => kernel_rfl
  case hBd => kernel_rfl
  case hpre => exact E.mp190
  case hR1 => exact E.mo190
  case hpc => rfl
  case hown => kernel_rfl
  case hmap => kernel_rfl
  case him => kernel_rfl
  case hks => exact fun h => by cases h
  case hh0 => rfl
  case hk => rfl
  case hti0 => exact of_decide_eq_true (by kernel_rfl)
  case hround => exact closedM_spec E.mc190
  case hlast => exact lastAll_spec E.ml190
  case hvs => exact hvs
  case hm => exact hm
theorem ok191 : SumOkN Tryz.prog EH.F EH.N 34 ED.p191 := sumN_one (EH.cfg_ok (EH.cons_ok ok188 (EH.cons_ok ok109 (EH.cons_ok ok189 (EH.cons_ok ok186 (EH.cons_ok ok190 EH.nil_ok)))))) E.t191
theorem ok192 : SumOkN Tryz.prog EH.F EH.N 16 ED.p192 := sumN_one (EH.cfg_ok (EH.cons_ok ok181 (EH.cons_ok ok135 (EH.cons_ok ok191 EH.nil_ok)))) E.t192
theorem ok193 : SumOkN Tryz.prog EH.F EH.N 38 ED.p193 := sumN_one (EH.cfg_ok EH.nil_ok) E.t193
theorem ok194 : SumOkN Tryz.prog EH.F EH.N 39 ED.p194 := sumN_one (EH.cfg_ok (EH.cons_ok ok186 EH.nil_ok)) E.t194
theorem ok195 : SumOkN Tryz.prog EH.F EH.N 37 ED.p195 := sumN_one (EH.cfg_ok EH.nil_ok) E.t195
theorem ok196 : SumOkN Tryz.prog EH.F EH.N 17 ED.p196 := sumN_one (EH.cfg_ok (EH.cons_ok ok193 (EH.cons_ok ok194 (EH.cons_ok ok195 EH.nil_ok)))) E.t196
theorem ok197 : SumOkN Tryz.prog EH.F EH.N 28 ED.p197 := sumN_one (EH.cfg_ok (EH.cons_ok ok53 EH.nil_ok)) E.t197
theorem ok198 : SumOkN Tryz.prog EH.F EH.N 113 ED.p198 := sumN_one (EH.cfg_ok EH.nil_ok) E.t198
theorem ok199 : SumOkN Tryz.prog EH.F EH.N 86 ED.p199 := sumN_one (EH.cfg_ok (EH.cons_ok ok198 EH.nil_ok)) E.t199
theorem ok200 : SumOkN Tryz.prog EH.F EH.N 161 ED.p200 := sumN_one (EH.cfg_ok EH.nil_ok) E.t200
theorem ok201 : SumOkN Tryz.prog EH.F EH.N 124 ED.p201 := sumN_one (EH.cfg_ok (EH.cons_ok ok200 EH.nil_ok)) E.t201
theorem ok202 : SumOkN Tryz.prog EH.F EH.N 64 ED.p202 := sumN_one (EH.cfg_ok (EH.cons_ok ok201 EH.nil_ok)) E.t202
theorem ok203 : SumOkN Tryz.prog EH.F EH.N 87 ED.p203 := sumN_one (EH.cfg_ok EH.nil_ok) E.t203
theorem ok204 : SumOkN Tryz.prog EH.F EH.N 62 ED.p204 := sumN_one (EH.cfg_ok (EH.cons_ok ok199 (EH.cons_ok ok202 (EH.cons_ok ok203 EH.nil_ok)))) E.t204
theorem ok205 : SumOkN Tryz.prog EH.F EH.N 50 ED.p205 := sumN_one (EH.cfg_ok EH.nil_ok) E.t205
theorem ok206 : SumOkN Tryz.prog EH.F EH.N 65 ED.p206 := by
  intro S w0 bs ρ w vs v mem' hN hF hvs hm hp
  cases hp
  refine comes_maploop (N := EH.N) (F := ρ.f) (cfg := (EB.cfg [])) (f := 65) (fn := Tryz.f65) (c := EB.bodyOf Tryz.f65) (id := 0) (rr := 5) (ra := 6) (rb := 7) (j := 1) (opsR := (EB.opsOf (spineC (EB.bodyOf Tryz.f65))[5]?)) (opsA := (EB.opsOf (spineC (EB.loopOf (spineC (EB.bodyOf Tryz.f65))[6]?))[0]?)) (opsB := (EB.opsOf (spineC (EB.blkOf (spineC (EB.loopOf (spineC (EB.bodyOf Tryz.f65))[6]?))[2]?))[0]?)) (b := (EB.loopOf (spineC (EB.bodyOf Tryz.f65))[6]?)) (cB := (EB.blkOf (spineC (EB.loopOf (spineC (EB.bodyOf Tryz.f65))[6]?))[2]?)) (cnd := ((spineC (EB.loopOf (spineC (EB.bodyOf Tryz.f65))[6]?))[1]?.getD .skip)) (pre := (spineC (EB.bodyOf Tryz.f65)).take 5) (post := (spineC (EB.bodyOf Tryz.f65)).drop 7) (restB := (spineC (EB.blkOf (spineC (EB.loopOf (spineC (EB.bodyOf Tryz.f65))[6]?))[2]?)).drop 1) (args := ED.a206) (mem := ED.m206) (fuel := 100000) (ks := [(.i .i64 0)]) (vs := [(.agg (.cons (.int .i64 (.lit 4500000000)) (.cons (.int .i64 (.lit 9)) .nil)))]) (st1 := ED.x206) (st2 := ED.y206) (v := ED.v206) (m := ED.n206) (oR := EB.opOf (EB.opsOf (spineC (EB.bodyOf Tryz.f65))[5]?) 4) (oA := EB.opOf (EB.opsOf (spineC (EB.loopOf (spineC (EB.bodyOf Tryz.f65))[6]?))[0]?) 0) (oB := EB.opOf (EB.opsOf (spineC (EB.blkOf (spineC (EB.loopOf (spineC (EB.bodyOf Tryz.f65))[6]?))[2]?))[0]?) 0) (nR := 4) (tm := 14) (ti := 15) (tn := 16) (te := 18) (T := 180) (kt := 3) (et := 200) (im := 1) (k := ED.y206.mem.length + 1) (h0 := (⟨ED.y206.slots.set 15 (some (.ptr ED.y206.mem.length 0)), ED.y206.mem.set 1 .dead ++ [.dead], []⟩ : ASt)) (heads := ED.z206) ?hcfg ?hst ?hN ?hρ ?hfn ?hc ?hsp ?hsR ?hoR ?hRop ?hRg ?hRd ?hT ?hb ?hoA ?hAop ?hAg ?hAd ?hcB ?hoB ?hBop ?hBg ?hBd ?hpre ?hR1 ?hpc ?hown ?hmap ?him ?hks ?hh0 ?hk ?hti0 ?hround ?hlast ?hvs ?hm
  case hcfg => exact (EH.cfg_ok EH.nil_ok) ρ.f hF
  case hst => exact EH.stays
  case hN => exact hN
  case hρ => rfl
  case hfn => exact Tryz.func65
  case hc => exact hb65
  case hsp => exact sp65
  case hsR => kernel_rfl
  case hoR => kernel_rfl
  case hRop => kernel_rfl
  case hRg => kernel_rfl
  case hRd => kernel_rfl
  case hT => kernel_rfl
  case hb => exact lb65
  case hoA => kernel_rfl
  case hAop => kernel_rfl
  case hAg => kernel_rfl
  case hAd => kernel_rfl
  case hcB => exact cb65
  case hoB => kernel_rfl
  case hBop => kernel_rfl
  case hBg => kernel_rfl
  case hBd => kernel_rfl
  case hpre => exact E.mp206
  case hR1 => exact E.mo206
  case hpc => rfl
  case hown => kernel_rfl
  case hmap => kernel_rfl
  case him => kernel_rfl
  case hks => exact fun h => by cases h
  case hh0 => rfl
  case hk => rfl
  case hti0 => exact of_decide_eq_true (by kernel_rfl)
  case hround => exact closedM_spec E.mc206
  case hlast => exact lastAll_spec E.ml206
  case hvs => exact hvs
  case hm => exact hm
theorem ok207 : SumOkN Tryz.prog EH.F EH.N 34 ED.p207 := sumN_one (EH.cfg_ok (EH.cons_ok ok204 (EH.cons_ok ok109 (EH.cons_ok ok205 (EH.cons_ok ok202 (EH.cons_ok ok206 EH.nil_ok)))))) E.t207
theorem ok208 : SumOkN Tryz.prog EH.F EH.N 16 ED.p208 := sumN_one (EH.cfg_ok (EH.cons_ok ok197 (EH.cons_ok ok135 (EH.cons_ok ok207 EH.nil_ok)))) E.t208
theorem ok209 : SumOkN Tryz.prog EH.F EH.N 38 ED.p209 := sumN_one (EH.cfg_ok EH.nil_ok) E.t209
theorem ok210 : SumOkN Tryz.prog EH.F EH.N 39 ED.p210 := sumN_one (EH.cfg_ok (EH.cons_ok ok202 EH.nil_ok)) E.t210
theorem ok211 : SumOkN Tryz.prog EH.F EH.N 37 ED.p211 := sumN_one (EH.cfg_ok EH.nil_ok) E.t211
theorem ok212 : SumOkN Tryz.prog EH.F EH.N 17 ED.p212 := sumN_one (EH.cfg_ok (EH.cons_ok ok209 (EH.cons_ok ok210 (EH.cons_ok ok211 EH.nil_ok)))) E.t212
theorem ok213 : SumOkN Tryz.prog EH.F EH.N 28 ED.p213 := sumN_one (EH.cfg_ok (EH.cons_ok ok53 EH.nil_ok)) E.t213
theorem ok214 : SumOkN Tryz.prog EH.F EH.N 113 ED.p214 := sumN_one (EH.cfg_ok EH.nil_ok) E.t214
theorem ok215 : SumOkN Tryz.prog EH.F EH.N 86 ED.p215 := sumN_one (EH.cfg_ok (EH.cons_ok ok214 EH.nil_ok)) E.t215
theorem ok216 : SumOkN Tryz.prog EH.F EH.N 161 ED.p216 := sumN_one (EH.cfg_ok EH.nil_ok) E.t216
theorem ok217 : SumOkN Tryz.prog EH.F EH.N 124 ED.p217 := sumN_one (EH.cfg_ok (EH.cons_ok ok216 EH.nil_ok)) E.t217
theorem ok218 : SumOkN Tryz.prog EH.F EH.N 64 ED.p218 := sumN_one (EH.cfg_ok (EH.cons_ok ok217 EH.nil_ok)) E.t218
theorem ok219 : SumOkN Tryz.prog EH.F EH.N 87 ED.p219 := sumN_one (EH.cfg_ok EH.nil_ok) E.t219
theorem ok220 : SumOkN Tryz.prog EH.F EH.N 62 ED.p220 := sumN_one (EH.cfg_ok (EH.cons_ok ok215 (EH.cons_ok ok218 (EH.cons_ok ok219 EH.nil_ok)))) E.t220
theorem ok221 : SumOkN Tryz.prog EH.F EH.N 50 ED.p221 := sumN_one (EH.cfg_ok EH.nil_ok) E.t221
theorem ok222 : SumOkN Tryz.prog EH.F EH.N 65 ED.p222 := by
  intro S w0 bs ρ w vs v mem' hN hF hvs hm hp
  cases hp
  refine comes_maploop (N := EH.N) (F := ρ.f) (cfg := (EB.cfg [])) (f := 65) (fn := Tryz.f65) (c := EB.bodyOf Tryz.f65) (id := 0) (rr := 5) (ra := 6) (rb := 7) (j := 1) (opsR := (EB.opsOf (spineC (EB.bodyOf Tryz.f65))[5]?)) (opsA := (EB.opsOf (spineC (EB.loopOf (spineC (EB.bodyOf Tryz.f65))[6]?))[0]?)) (opsB := (EB.opsOf (spineC (EB.blkOf (spineC (EB.loopOf (spineC (EB.bodyOf Tryz.f65))[6]?))[2]?))[0]?)) (b := (EB.loopOf (spineC (EB.bodyOf Tryz.f65))[6]?)) (cB := (EB.blkOf (spineC (EB.loopOf (spineC (EB.bodyOf Tryz.f65))[6]?))[2]?)) (cnd := ((spineC (EB.loopOf (spineC (EB.bodyOf Tryz.f65))[6]?))[1]?.getD .skip)) (pre := (spineC (EB.bodyOf Tryz.f65)).take 5) (post := (spineC (EB.bodyOf Tryz.f65)).drop 7) (restB := (spineC (EB.blkOf (spineC (EB.loopOf (spineC (EB.bodyOf Tryz.f65))[6]?))[2]?)).drop 1) (args := ED.a222) (mem := ED.m222) (fuel := 100000) (ks := [(.i .i64 0)]) (vs := [(.agg (.cons (.int .i64 (.lit 4500000000)) (.cons (.int .i64 (.lit 10)) .nil)))]) (st1 := ED.x222) (st2 := ED.y222) (v := ED.v222) (m := ED.n222) (oR := EB.opOf (EB.opsOf (spineC (EB.bodyOf Tryz.f65))[5]?) 4) (oA := EB.opOf (EB.opsOf (spineC (EB.loopOf (spineC (EB.bodyOf Tryz.f65))[6]?))[0]?) 0) (oB := EB.opOf (EB.opsOf (spineC (EB.blkOf (spineC (EB.loopOf (spineC (EB.bodyOf Tryz.f65))[6]?))[2]?))[0]?) 0) (nR := 4) (tm := 14) (ti := 15) (tn := 16) (te := 18) (T := 180) (kt := 3) (et := 200) (im := 1) (k := ED.y222.mem.length + 1) (h0 := (⟨ED.y222.slots.set 15 (some (.ptr ED.y222.mem.length 0)), ED.y222.mem.set 1 .dead ++ [.dead], []⟩ : ASt)) (heads := ED.z222) ?hcfg ?hst ?hN ?hρ ?hfn ?hc ?hsp ?hsR ?hoR ?hRop ?hRg ?hRd ?hT ?hb ?hoA ?hAop ?hAg ?hAd ?hcB ?hoB ?hBop ?hBg ?hBd ?hpre ?hR1 ?hpc ?hown ?hmap ?him ?hks ?hh0 ?hk ?hti0 ?hround ?hlast ?hvs ?hm
  case hcfg => exact (EH.cfg_ok EH.nil_ok) ρ.f hF
  case hst => exact EH.stays
  case hN => exact hN
  case hρ => rfl
  case hfn => exact Tryz.func65
  case hc => exact hb65
  case hsp => exact sp65
  case hsR => kernel_rfl
  case hoR => kernel_rfl
  case hRop => kernel_rfl
  case hRg => kernel_rfl
  case hRd => kernel_rfl
  case hT => kernel_rfl
  case hb => exact lb65
  case hoA => kernel_rfl
  case hAop => kernel_rfl
  case hAg => kernel_rfl
  case hAd => kernel_rfl
  case hcB => exact cb65
  case hoB => kernel_rfl
  case hBop => kernel_rfl
  case hBg => kernel_rfl
  case hBd => kernel_rfl
  case hpre => exact E.mp222
  case hR1 => exact E.mo222
  case hpc => rfl
  case hown => kernel_rfl
  case hmap => kernel_rfl
  case him => kernel_rfl
  case hks => exact fun h => by cases h
  case hh0 => rfl
  case hk => rfl
  case hti0 => exact of_decide_eq_true (by kernel_rfl)
  case hround => exact closedM_spec E.mc222
  case hlast => exact lastAll_spec E.ml222
  case hvs => exact hvs
  case hm => exact hm
theorem ok223 : SumOkN Tryz.prog EH.F EH.N 34 ED.p223 := sumN_one (EH.cfg_ok (EH.cons_ok ok220 (EH.cons_ok ok109 (EH.cons_ok ok221 (EH.cons_ok ok218 (EH.cons_ok ok222 EH.nil_ok)))))) E.t223
theorem ok224 : SumOkN Tryz.prog EH.F EH.N 16 ED.p224 := sumN_one (EH.cfg_ok (EH.cons_ok ok213 (EH.cons_ok ok135 (EH.cons_ok ok223 EH.nil_ok)))) E.t224
theorem ok225 : SumOkN Tryz.prog EH.F EH.N 38 ED.p225 := sumN_one (EH.cfg_ok EH.nil_ok) E.t225
theorem ok226 : SumOkN Tryz.prog EH.F EH.N 39 ED.p226 := sumN_one (EH.cfg_ok (EH.cons_ok ok218 EH.nil_ok)) E.t226
theorem ok227 : SumOkN Tryz.prog EH.F EH.N 37 ED.p227 := sumN_one (EH.cfg_ok EH.nil_ok) E.t227
theorem ok228 : SumOkN Tryz.prog EH.F EH.N 17 ED.p228 := sumN_one (EH.cfg_ok (EH.cons_ok ok225 (EH.cons_ok ok226 (EH.cons_ok ok227 EH.nil_ok)))) E.t228
theorem ok229 : SumOkN Tryz.prog EH.F EH.N 28 ED.p229 := sumN_one (EH.cfg_ok (EH.cons_ok ok53 EH.nil_ok)) E.t229
theorem ok230 : SumOkN Tryz.prog EH.F EH.N 113 ED.p230 := sumN_one (EH.cfg_ok EH.nil_ok) E.t230
theorem ok231 : SumOkN Tryz.prog EH.F EH.N 86 ED.p231 := sumN_one (EH.cfg_ok (EH.cons_ok ok230 EH.nil_ok)) E.t231
theorem ok232 : SumOkN Tryz.prog EH.F EH.N 161 ED.p232 := sumN_one (EH.cfg_ok EH.nil_ok) E.t232
theorem ok233 : SumOkN Tryz.prog EH.F EH.N 124 ED.p233 := sumN_one (EH.cfg_ok (EH.cons_ok ok232 EH.nil_ok)) E.t233
theorem ok234 : SumOkN Tryz.prog EH.F EH.N 64 ED.p234 := sumN_one (EH.cfg_ok (EH.cons_ok ok233 EH.nil_ok)) E.t234
theorem ok235 : SumOkN Tryz.prog EH.F EH.N 153 ED.p235 := sumN_one (EH.cfg_ok EH.nil_ok) E.t235
theorem ok236 : SumOkN Tryz.prog EH.F EH.N 87 ED.p236 := sumN_one (EH.cfg_ok (EH.cons_ok ok235 EH.nil_ok)) E.t236
theorem ok237 : SumOkN Tryz.prog EH.F EH.N 62 ED.p237 := sumN_one (EH.cfg_ok (EH.cons_ok ok231 (EH.cons_ok ok234 (EH.cons_ok ok236 EH.nil_ok)))) E.t237
theorem ok238 : SumOkN Tryz.prog EH.F EH.N 51 ED.p238 := sumN_one (EH.cfg_ok EH.nil_ok) E.t238
theorem ok239 : SumOkN Tryz.prog EH.F EH.N 50 ED.p239 := sumN_one (EH.cfg_ok EH.nil_ok) E.t239
theorem ok240 : SumOkN Tryz.prog EH.F EH.N 65 ED.p240 := by
  intro S w0 bs ρ w vs v mem' hN hF hvs hm hp
  cases hp
  refine comes_maploop (N := EH.N) (F := ρ.f) (cfg := (EB.cfg [])) (f := 65) (fn := Tryz.f65) (c := EB.bodyOf Tryz.f65) (id := 0) (rr := 5) (ra := 6) (rb := 7) (j := 1) (opsR := (EB.opsOf (spineC (EB.bodyOf Tryz.f65))[5]?)) (opsA := (EB.opsOf (spineC (EB.loopOf (spineC (EB.bodyOf Tryz.f65))[6]?))[0]?)) (opsB := (EB.opsOf (spineC (EB.blkOf (spineC (EB.loopOf (spineC (EB.bodyOf Tryz.f65))[6]?))[2]?))[0]?)) (b := (EB.loopOf (spineC (EB.bodyOf Tryz.f65))[6]?)) (cB := (EB.blkOf (spineC (EB.loopOf (spineC (EB.bodyOf Tryz.f65))[6]?))[2]?)) (cnd := ((spineC (EB.loopOf (spineC (EB.bodyOf Tryz.f65))[6]?))[1]?.getD .skip)) (pre := (spineC (EB.bodyOf Tryz.f65)).take 5) (post := (spineC (EB.bodyOf Tryz.f65)).drop 7) (restB := (spineC (EB.blkOf (spineC (EB.loopOf (spineC (EB.bodyOf Tryz.f65))[6]?))[2]?)).drop 1) (args := ED.a240) (mem := ED.m240) (fuel := 100000) (ks := [(.i .i64 0)]) (vs := [(.agg (.cons (.int .i64 (.lit 5500000001)) (.cons (.int .i64 (.lit 11)) .nil)))]) (st1 := ED.x240) (st2 := ED.y240) (v := ED.v240) (m := ED.n240) (oR := EB.opOf (EB.opsOf (spineC (EB.bodyOf Tryz.f65))[5]?) 4) (oA := EB.opOf (EB.opsOf (spineC (EB.loopOf (spineC (EB.bodyOf Tryz.f65))[6]?))[0]?) 0) (oB := EB.opOf (EB.opsOf (spineC (EB.blkOf (spineC (EB.loopOf (spineC (EB.bodyOf Tryz.f65))[6]?))[2]?))[0]?) 0) (nR := 4) (tm := 14) (ti := 15) (tn := 16) (te := 18) (T := 180) (kt := 3) (et := 200) (im := 1) (k := ED.y240.mem.length + 1) (h0 := (⟨ED.y240.slots.set 15 (some (.ptr ED.y240.mem.length 0)), ED.y240.mem.set 1 .dead ++ [.dead], []⟩ : ASt)) (heads := ED.z240) ?hcfg ?hst ?hN ?hρ ?hfn ?hc ?hsp ?hsR ?hoR ?hRop ?hRg ?hRd ?hT ?hb ?hoA ?hAop ?hAg ?hAd ?hcB ?hoB ?hBop ?hBg ?hBd ?hpre ?hR1 ?hpc ?hown ?hmap ?him ?hks ?hh0 ?hk ?hti0 ?hround ?hlast ?hvs ?hm
  case hcfg => exact (EH.cfg_ok EH.nil_ok) ρ.f hF
  case hst => exact EH.stays
  case hN => exact hN
  case hρ => rfl
  case hfn => exact Tryz.func65
  case hc => exact hb65
  case hsp => exact sp65
  case hsR => kernel_rfl
  case hoR => kernel_rfl
  case hRop => kernel_rfl
  case hRg => kernel_rfl
  case hRd => kernel_rfl
  case hT => kernel_rfl
  case hb => exact lb65
  case hoA => kernel_rfl
  case hAop => kernel_rfl
  case hAg => kernel_rfl
  case hAd => kernel_rfl
  case hcB => exact cb65
  case hoB => kernel_rfl
  case hBop => kernel_rfl
  case hBg => kernel_rfl
  case hBd => kernel_rfl
  case hpre => exact E.mp240
  case hR1 => exact E.mo240
  case hpc => rfl
  case hown => kernel_rfl
  case hmap => kernel_rfl
  case him => kernel_rfl
  case hks => exact fun h => by cases h
  case hh0 => rfl
  case hk => rfl
  case hti0 => exact of_decide_eq_true (by kernel_rfl)
  case hround => exact closedM_spec E.mc240
  case hlast => exact lastAll_spec E.ml240
  case hvs => exact hvs
  case hm => exact hm
theorem ok241 : SumOkN Tryz.prog EH.F EH.N 34 ED.p241 := sumN_one (EH.cfg_ok (EH.cons_ok ok237 (EH.cons_ok ok238 (EH.cons_ok ok239 (EH.cons_ok ok234 (EH.cons_ok ok240 EH.nil_ok)))))) E.t241
theorem ok242 : SumOkN Tryz.prog EH.F EH.N 68 ED.p242 := sumN_one (EH.cfg_ok EH.nil_ok) E.t242
theorem ok243 : SumOkN Tryz.prog EH.F EH.N 93 ED.p243 := sumN_one (EH.cfg_ok EH.nil_ok) E.t243
theorem ok244 : SumOkN Tryz.prog EH.F EH.N 188 ED.p244 := sumN_one (EH.cfg_ok EH.nil_ok) E.t244
theorem ok245 : SumOkN Tryz.prog EH.F EH.N 153 ED.p245 := sumN_one (EH.cfg_ok EH.nil_ok) E.t245
theorem ok246 : SumOkN Tryz.prog EH.F EH.N 277 ED.p246 := sumN_one (EH.cfg_ok (EH.cons_ok ok245 EH.nil_ok)) E.t246
theorem ok247 : SumOkN Tryz.prog EH.F EH.N 276 ED.p247 := sumN_one (EH.cfg_ok (EH.cons_ok ok242 (EH.cons_ok ok244 (EH.cons_ok ok246 EH.nil_ok)))) E.t247
theorem ok248 : SumOkN Tryz.prog EH.F EH.N 67 ED.p248 := sumN_one (EH.cfg_ok (EH.cons_ok ok243 (EH.cons_ok ok247 EH.nil_ok))) E.t248
theorem ok249 : SumOkN Tryz.prog EH.F EH.N 36 ED.p249 := sumN_one (EH.cfg_ok (EH.cons_ok ok248 (EH.cons_ok ok242 EH.nil_ok))) E.t249
theorem ok250 : SumOkN Tryz.prog EH.F EH.N 16 ED.p250 := sumN_one (EH.cfg_ok (EH.cons_ok ok229 (EH.cons_ok ok135 (EH.cons_ok ok241 (EH.cons_ok ok249 EH.nil_ok))))) E.t250
theorem ok251 : SumOkN Tryz.prog EH.F EH.N 38 ED.p251 := sumN_one (EH.cfg_ok EH.nil_ok) E.t251
theorem ok252 : SumOkN Tryz.prog EH.F EH.N 39 ED.p252 := sumN_one (EH.cfg_ok (EH.cons_ok ok234 EH.nil_ok)) E.t252
theorem ok253 : SumOkN Tryz.prog EH.F EH.N 37 ED.p253 := sumN_one (EH.cfg_ok EH.nil_ok) E.t253
theorem ok254 : SumOkN Tryz.prog EH.F EH.N 17 ED.p254 := sumN_one (EH.cfg_ok (EH.cons_ok ok251 (EH.cons_ok ok252 (EH.cons_ok ok253 EH.nil_ok)))) E.t254
theorem ok255 : SumOkN Tryz.prog EH.F EH.N 28 ED.p255 := sumN_one (EH.cfg_ok (EH.cons_ok ok53 EH.nil_ok)) E.t255
theorem ok256 : SumOkN Tryz.prog EH.F EH.N 58 ED.p256 := sumN_one (EH.cfg_ok EH.nil_ok) E.t256
theorem ok257 : SumOkN Tryz.prog EH.F EH.N 29 ED.p257 := sumN_one (EH.cfg_ok (EH.cons_ok ok256 EH.nil_ok)) E.t257
theorem ok258 : SumOkN Tryz.prog EH.F EH.N 161 ED.p258 := sumN_one (EH.cfg_ok EH.nil_ok) E.t258
theorem ok259 : SumOkN Tryz.prog EH.F EH.N 124 ED.p259 := sumN_one (EH.cfg_ok (EH.cons_ok ok258 EH.nil_ok)) E.t259
theorem ok260 : SumOkN Tryz.prog EH.F EH.N 64 ED.p260 := sumN_one (EH.cfg_ok (EH.cons_ok ok259 EH.nil_ok)) E.t260
theorem ok261 : SumOkN Tryz.prog EH.F EH.N 118 ED.p261 := sumN_one (EH.cfg_ok (EH.cons_ok ok259 EH.nil_ok)) E.t261
theorem ok262 : SumOkN Tryz.prog EH.F EH.N 93 ED.p262 := sumN_one (EH.cfg_ok EH.nil_ok) E.t262
theorem ok263 : SumOkN Tryz.prog EH.F EH.N 113 ED.p263 := sumN_one (EH.cfg_ok EH.nil_ok) E.t263
theorem ok264 : SumOkN Tryz.prog EH.F EH.N 188 ED.p264 := sumN_one (EH.cfg_ok EH.nil_ok) E.t264
theorem ok265 : SumOkN Tryz.prog EH.F EH.N 161 ED.p265 := sumN_one (EH.cfg_ok EH.nil_ok) E.t265
theorem ok266 : SumOkN Tryz.prog EH.F EH.N 188 ED.p266 := sumN_one (EH.cfg_ok EH.nil_ok) E.t266
theorem ok267 : SumOkN Tryz.prog EH.F EH.N 161 ED.p267 := sumN_one (EH.cfg_ok EH.nil_ok) E.t267
theorem ok268 : SumOkN Tryz.prog EH.F EH.N 37 ED.p268 := sumN_one (EH.cfg_ok EH.nil_ok) E.t268
theorem ok269 : SumOkN Tryz.prog EH.F EH.N 37 ED.p269 := sumN_one (EH.cfg_ok EH.nil_ok) E.t269
theorem ok270 : SumOkN Tryz.prog EH.F EH.N 119 ED.p270 := sumN_one (EH.cfg_ok (EH.cons_ok ok262 (EH.cons_ok ok263 (EH.cons_ok ok264 (EH.cons_ok ok265 (EH.cons_ok ok266 (EH.cons_ok ok267 (EH.cons_ok ok268 (EH.cons_ok ok269 EH.nil_ok))))))))) E.t270
theorem ok271 : SumOkN Tryz.prog EH.F EH.N 37 ED.p271 := sumN_one (EH.cfg_ok EH.nil_ok) E.t271
theorem ok272 : SumOkN Tryz.prog EH.F EH.N 37 ED.p272 := sumN_one (EH.cfg_ok EH.nil_ok) E.t272
theorem ok273 : SumOkN Tryz.prog EH.F EH.N 37 ED.p273 := sumN_one (EH.cfg_ok EH.nil_ok) E.t273
theorem ok274 : SumOkN Tryz.prog EH.F EH.N 37 ED.p274 := sumN_one (EH.cfg_ok EH.nil_ok) E.t274
theorem ok275 : SumOkN Tryz.prog EH.F EH.N 191 ED.p275 := by
  intro S w0 bs ρ w vs v mem' hN hF hvs hm hp
  cases hp
  exact comes_range (caps := (.cons (.ptr 5 0) (.cons (.ptr 6 0) (.cons (.ptr 7 0) .nil)))) ((EH.cfg_ok (EH.cons_ok ok271 (EH.cons_ok ok272 (EH.cons_ok ok273 (EH.cons_ok ok274 EH.nil_ok))))) ρ.f hF) EH.stays hN rfl Tryz.func191 hb191 sp191 E.rp275 (by kernel_rfl) Tryz.func239 hb239 (by kernel_rfl) (by kernel_rfl) (fun L => ⟨_, E.ri275 L, fun l hl => by simpa using hl⟩) E.rr275 hvs hm
theorem ok276 : SumOkN Tryz.prog EH.F EH.N 159 ED.p276 := sumN_one (EH.cfg_ok (EH.cons_ok ok275 EH.nil_ok)) E.t276
theorem ok277 : SumOkN Tryz.prog EH.F EH.N 74 ED.p277 := sumN_one (EH.cfg_ok EH.nil_ok) E.t277
theorem ok278 : SumOkN Tryz.prog EH.F EH.N 43 ED.p278 := sumN_one (EH.cfg_ok (EH.cons_ok ok277 EH.nil_ok)) E.t278
theorem ok279 : SumOkN Tryz.prog EH.F EH.N 21 ED.p279 := sumN_one (EH.cfg_ok (EH.cons_ok ok278 EH.nil_ok)) E.t279
theorem ok280 : SumOkN Tryz.prog EH.F EH.N 10 ED.p280 := sumN_one (EH.cfg_ok (EH.cons_ok ok279 EH.nil_ok)) E.t280
theorem ok281 : SumOkN Tryz.prog EH.F EH.N 121 ED.p281 := sumN_one (EH.cfg_ok (EH.cons_ok ok276 (EH.cons_ok ok280 EH.nil_ok))) E.t281
theorem ok282 : SumOkN Tryz.prog EH.F EH.N 122 ED.p282 := sumN_one (EH.cfg_ok (EH.cons_ok ok259 EH.nil_ok)) E.t282
theorem ok283 : SumOkN Tryz.prog EH.F EH.N 88 ED.p283 := sumN_one (EH.cfg_ok (EH.cons_ok ok260 (EH.cons_ok ok261 (EH.cons_ok ok270 (EH.cons_ok ok281 (EH.cons_ok ok282 EH.nil_ok)))))) E.t283
theorem ok284 : SumOkN Tryz.prog EH.F EH.N 51 ED.p284 := sumN_one (EH.cfg_ok EH.nil_ok) E.t284
theorem ok285 : SumOkN Tryz.prog EH.F EH.N 50 ED.p285 := sumN_one (EH.cfg_ok EH.nil_ok) E.t285
theorem ok286 : SumOkN Tryz.prog EH.F EH.N 124 ED.p286 := sumN_one (EH.cfg_ok (EH.cons_ok ok111 EH.nil_ok)) E.t286
theorem ok287 : SumOkN Tryz.prog EH.F EH.N 64 ED.p287 := sumN_one (EH.cfg_ok (EH.cons_ok ok286 EH.nil_ok)) E.t287
theorem ok288 : SumOkN Tryz.prog EH.F EH.N 65 ED.p288 := by
  intro S w0 bs ρ w vs v mem' hN hF hvs hm hp
  cases hp
  refine comes_maploop (N := EH.N) (F := ρ.f) (cfg := (EB.cfg [])) (f := 65) (fn := Tryz.f65) (c := EB.bodyOf Tryz.f65) (id := 0) (rr := 5) (ra := 6) (rb := 7) (j := 1) (opsR := (EB.opsOf (spineC (EB.bodyOf Tryz.f65))[5]?)) (opsA := (EB.opsOf (spineC (EB.loopOf (spineC (EB.bodyOf Tryz.f65))[6]?))[0]?)) (opsB := (EB.opsOf (spineC (EB.blkOf (spineC (EB.loopOf (spineC (EB.bodyOf Tryz.f65))[6]?))[2]?))[0]?)) (b := (EB.loopOf (spineC (EB.bodyOf Tryz.f65))[6]?)) (cB := (EB.blkOf (spineC (EB.loopOf (spineC (EB.bodyOf Tryz.f65))[6]?))[2]?)) (cnd := ((spineC (EB.loopOf (spineC (EB.bodyOf Tryz.f65))[6]?))[1]?.getD .skip)) (pre := (spineC (EB.bodyOf Tryz.f65)).take 5) (post := (spineC (EB.bodyOf Tryz.f65)).drop 7) (restB := (spineC (EB.blkOf (spineC (EB.loopOf (spineC (EB.bodyOf Tryz.f65))[6]?))[2]?)).drop 1) (args := ED.a288) (mem := ED.m288) (fuel := 100000) (ks := [(.i .i64 0)]) (vs := [(.agg (.cons (.int .i64 (.lit 8500000000)) (.cons (.int .i64 (.lit 12)) .nil)))]) (st1 := ED.x288) (st2 := ED.y288) (v := ED.v288) (m := ED.n288) (oR := EB.opOf (EB.opsOf (spineC (EB.bodyOf Tryz.f65))[5]?) 4) (oA := EB.opOf (EB.opsOf (spineC (EB.loopOf (spineC (EB.bodyOf Tryz.f65))[6]?))[0]?) 0) (oB := EB.opOf (EB.opsOf (spineC (EB.blkOf (spineC (EB.loopOf (spineC (EB.bodyOf Tryz.f65))[6]?))[2]?))[0]?) 0) (nR := 4) (tm := 14) (ti := 15) (tn := 16) (te := 18) (T := 180) (kt := 3) (et := 200) (im := 1) (k := ED.y288.mem.length + 1) (h0 := (⟨ED.y288.slots.set 15 (some (.ptr ED.y288.mem.length 0)), ED.y288.mem.set 1 .dead ++ [.dead], []⟩ : ASt)) (heads := ED.z288) ?hcfg ?hst ?hN ?hρ ?hfn ?hc ?hsp ?hsR ?hoR ?hRop ?hRg ?hRd ?hT ?hb ?hoA ?hAop ?hAg ?hAd ?hcB ?hoB ?hBop ?hBg ?hBd ?hpre ?hR1 ?hpc ?hown ?hmap ?him ?hks ?hh0 ?hk ?hti0 ?hround ?hlast ?hvs ?hm
  case hcfg => exact (EH.cfg_ok EH.nil_ok) ρ.f hF
  case hst => exact EH.stays
  case hN => exact hN
  case hρ => rfl
  case hfn => exact Tryz.func65
  case hc => exact hb65
  case hsp => exact sp65
  case hsR => kernel_rfl
  case hoR => kernel_rfl
  case hRop => kernel_rfl
  case hRg => kernel_rfl
  case hRd => kernel_rfl
  case hT => kernel_rfl
  case hb => exact lb65
  case hoA => kernel_rfl
  case hAop => kernel_rfl
  case hAg => kernel_rfl
  case hAd => kernel_rfl
  case hcB => exact cb65
  case hoB => kernel_rfl
  case hBop => kernel_rfl
  case hBg => kernel_rfl
  case hBd => kernel_rfl
  case hpre => exact E.mp288
  case hR1 => exact E.mo288
  case hpc => rfl
  case hown => kernel_rfl
  case hmap => kernel_rfl
  case him => kernel_rfl
  case hks => exact fun h => by cases h
  case hh0 => rfl
  case hk => rfl
  case hti0 => exact of_decide_eq_true (by kernel_rfl)
  case hround => exact closedM_spec E.mc288
  case hlast => exact lastAll_spec E.ml288
  case hvs => exact hvs
  case hm => exact hm
theorem ok289 : SumOkN Tryz.prog EH.F EH.N 34 ED.p289 := sumN_one (EH.cfg_ok (EH.cons_ok ok283 (EH.cons_ok ok284 (EH.cons_ok ok285 (EH.cons_ok ok287 (EH.cons_ok ok288 EH.nil_ok)))))) E.t289
theorem ok290 : SumOkN Tryz.prog EH.F EH.N 38 ED.p290 := sumN_one (EH.cfg_ok EH.nil_ok) E.t290
theorem ok291 : SumOkN Tryz.prog EH.F EH.N 39 ED.p291 := sumN_one (EH.cfg_ok (EH.cons_ok ok287 EH.nil_ok)) E.t291
theorem ok292 : SumOkN Tryz.prog EH.F EH.N 37 ED.p292 := sumN_one (EH.cfg_ok EH.nil_ok) E.t292
theorem ok293 : SumOkN Tryz.prog EH.F EH.N 17 ED.p293 := sumN_one (EH.cfg_ok (EH.cons_ok ok290 (EH.cons_ok ok291 (EH.cons_ok ok292 EH.nil_ok)))) E.t293
theorem ok294 : SumOkN Tryz.prog EH.F EH.N 61 ED.p294 := sumN_one (EH.cfg_ok (EH.cons_ok ok293 EH.nil_ok)) E.t294
theorem ok295 : SumOkN Tryz.prog EH.F EH.N 33 ED.p295 := sumN_one (EH.cfg_ok (EH.cons_ok ok289 (EH.cons_ok ok294 EH.nil_ok))) E.t295
theorem ok296 : SumOkN Tryz.prog EH.F EH.N 113 ED.p296 := sumN_one (EH.cfg_ok EH.nil_ok) E.t296
theorem ok297 : SumOkN Tryz.prog EH.F EH.N 86 ED.p297 := sumN_one (EH.cfg_ok (EH.cons_ok ok296 EH.nil_ok)) E.t297
theorem ok298 : SumOkN Tryz.prog EH.F EH.N 87 ED.p298 := sumN_one (EH.cfg_ok EH.nil_ok) E.t298
theorem ok299 : SumOkN Tryz.prog EH.F EH.N 62 ED.p299 := sumN_one (EH.cfg_ok (EH.cons_ok ok297 (EH.cons_ok ok287 (EH.cons_ok ok298 EH.nil_ok)))) E.t299
theorem ok300 : SumOkN Tryz.prog EH.F EH.N 50 ED.p300 := sumN_one (EH.cfg_ok EH.nil_ok) E.t300
theorem ok301 : SumOkN Tryz.prog EH.F EH.N 65 ED.p301 := by
  intro S w0 bs ρ w vs v mem' hN hF hvs hm hp
  cases hp
  refine comes_maploop (N := EH.N) (F := ρ.f) (cfg := (EB.cfg [])) (f := 65) (fn := Tryz.f65) (c := EB.bodyOf Tryz.f65) (id := 0) (rr := 5) (ra := 6) (rb := 7) (j := 1) (opsR := (EB.opsOf (spineC (EB.bodyOf Tryz.f65))[5]?)) (opsA := (EB.opsOf (spineC (EB.loopOf (spineC (EB.bodyOf Tryz.f65))[6]?))[0]?)) (opsB := (EB.opsOf (spineC (EB.blkOf (spineC (EB.loopOf (spineC (EB.bodyOf Tryz.f65))[6]?))[2]?))[0]?)) (b := (EB.loopOf (spineC (EB.bodyOf Tryz.f65))[6]?)) (cB := (EB.blkOf (spineC (EB.loopOf (spineC (EB.bodyOf Tryz.f65))[6]?))[2]?)) (cnd := ((spineC (EB.loopOf (spineC (EB.bodyOf Tryz.f65))[6]?))[1]?.getD .skip)) (pre := (spineC (EB.bodyOf Tryz.f65)).take 5) (post := (spineC (EB.bodyOf Tryz.f65)).drop 7) (restB := (spineC (EB.blkOf (spineC (EB.loopOf (spineC (EB.bodyOf Tryz.f65))[6]?))[2]?)).drop 1) (args := ED.a301) (mem := ED.m301) (fuel := 100000) (ks := [(.i .i64 0)]) (vs := [(.agg (.cons (.int .i64 (.lit 8500000000)) (.cons (.int .i64 (.lit 13)) .nil)))]) (st1 := ED.x301) (st2 := ED.y301) (v := ED.v301) (m := ED.n301) (oR := EB.opOf (EB.opsOf (spineC (EB.bodyOf Tryz.f65))[5]?) 4) (oA := EB.opOf (EB.opsOf (spineC (EB.loopOf (spineC (EB.bodyOf Tryz.f65))[6]?))[0]?) 0) (oB := EB.opOf (EB.opsOf (spineC (EB.blkOf (spineC (EB.loopOf (spineC (EB.bodyOf Tryz.f65))[6]?))[2]?))[0]?) 0) (nR := 4) (tm := 14) (ti := 15) (tn := 16) (te := 18) (T := 180) (kt := 3) (et := 200) (im := 1) (k := ED.y301.mem.length + 1) (h0 := (⟨ED.y301.slots.set 15 (some (.ptr ED.y301.mem.length 0)), ED.y301.mem.set 1 .dead ++ [.dead], []⟩ : ASt)) (heads := ED.z301) ?hcfg ?hst ?hN ?hρ ?hfn ?hc ?hsp ?hsR ?hoR ?hRop ?hRg ?hRd ?hT ?hb ?hoA ?hAop ?hAg ?hAd ?hcB ?hoB ?hBop ?hBg ?hBd ?hpre ?hR1 ?hpc ?hown ?hmap ?him ?hks ?hh0 ?hk ?hti0 ?hround ?hlast ?hvs ?hm
  case hcfg => exact (EH.cfg_ok EH.nil_ok) ρ.f hF
  case hst => exact EH.stays
  case hN => exact hN
  case hρ => rfl
  case hfn => exact Tryz.func65
  case hc => exact hb65
  case hsp => exact sp65
  case hsR => kernel_rfl
  case hoR => kernel_rfl
  case hRop => kernel_rfl
  case hRg => kernel_rfl
  case hRd => kernel_rfl
  case hT => kernel_rfl
  case hb => exact lb65
  case hoA => kernel_rfl
  case hAop => kernel_rfl
  case hAg => kernel_rfl
  case hAd => kernel_rfl
  case hcB => exact cb65
  case hoB => kernel_rfl
  case hBop => kernel_rfl
  case hBg => kernel_rfl
  case hBd => kernel_rfl
  case hpre => exact E.mp301
  case hR1 => exact E.mo301
  case hpc => rfl
  case hown => kernel_rfl
  case hmap => kernel_rfl
  case him => kernel_rfl
  case hks => exact fun h => by cases h
  case hh0 => rfl
  case hk => rfl
  case hti0 => exact of_decide_eq_true (by kernel_rfl)
  case hround => exact closedM_spec E.mc301
  case hlast => exact lastAll_spec E.ml301
  case hvs => exact hvs
  case hm => exact hm
theorem ok302 : SumOkN Tryz.prog EH.F EH.N 34 ED.p302 := sumN_one (EH.cfg_ok (EH.cons_ok ok299 (EH.cons_ok ok284 (EH.cons_ok ok300 (EH.cons_ok ok287 (EH.cons_ok ok301 EH.nil_ok)))))) E.t302
theorem ok303 : SumOkN Tryz.prog EH.F EH.N 16 ED.p303 := sumN_one (EH.cfg_ok (EH.cons_ok ok255 (EH.cons_ok ok257 (EH.cons_ok ok295 (EH.cons_ok ok302 EH.nil_ok))))) E.t303
theorem ok304 : SumOkN Tryz.prog EH.F EH.N 38 ED.p304 := sumN_one (EH.cfg_ok EH.nil_ok) E.t304
theorem ok305 : SumOkN Tryz.prog EH.F EH.N 39 ED.p305 := sumN_one (EH.cfg_ok (EH.cons_ok ok287 EH.nil_ok)) E.t305
theorem ok306 : SumOkN Tryz.prog EH.F EH.N 17 ED.p306 := sumN_one (EH.cfg_ok (EH.cons_ok ok304 (EH.cons_ok ok305 (EH.cons_ok ok292 EH.nil_ok)))) E.t306
theorem ok307 : SumOkN Tryz.prog EH.F EH.N 18 ED.p307 := sumN_one (EH.cfg_ok EH.nil_ok) E.t307
theorem ok308 : SumOkN Tryz.prog EH.F EH.N 95 ED.p308 := EH.names_ok
theorem ok309 : SumOkN Tryz.prog EH.F EH.N 72 ED.p309 := sumN_one (EH.cfg_ok (EH.cons_ok ok308 EH.nil_ok)) E.t309
theorem ok310 : SumOkN Tryz.prog EH.F EH.N 20 ED.p310 := sumN_one (EH.cfg_ok (EH.cons_ok ok309 EH.nil_ok)) E.t310
theorem hb8 : Tryz.f8.body = some (EB.bodyOf Tryz.f8) := by kernel_rfl
theorem sp8 : spineC (EB.bodyOf Tryz.f8) = (spineC (EB.bodyOf Tryz.f8)).take 6 ++ .block 0 (.loop (EB.loopOf (spineC (EB.bodyOf Tryz.f8))[6]?)) :: (spineC (EB.bodyOf Tryz.f8)).drop 7 := by kernel_rfl
theorem ok311 : SumOkN Tryz.prog EH.F EH.N 8 ED.p311 := by
  intro S w0 bs ρ w vs v mem' hN hF hvs hm hp
  cases hp
  exact comes_loop (n := 10) (hs := ED.l311) ((EH.cfg_ok (EH.cons_ok ok52 (EH.cons_ok ok77 (EH.cons_ok ok81 (EH.cons_ok ok129 (EH.cons_ok ok132 (EH.cons_ok ok145 (EH.cons_ok ok149 (EH.cons_ok ok160 (EH.cons_ok ok164 (EH.cons_ok ok176 (EH.cons_ok ok180 (EH.cons_ok ok192 (EH.cons_ok ok196 (EH.cons_ok ok208 (EH.cons_ok ok212 (EH.cons_ok ok224 (EH.cons_ok ok228 (EH.cons_ok ok250 (EH.cons_ok ok254 (EH.cons_ok ok303 (EH.cons_ok ok306 (EH.cons_ok ok307 (EH.cons_ok ok310 EH.nil_ok)))))))))))))))))))))))) ρ.f hF) hN rfl Tryz.func8 hb8 sp8 E.lp311 (fun i hi => match i, hi with
    | 0, _ => E.lr311_0
    | 1, _ => E.lr311_1
    | 2, _ => E.lr311_2
    | 3, _ => E.lr311_3
    | 4, _ => E.lr311_4
    | 5, _ => E.lr311_5
    | 6, _ => E.lr311_6
    | 7, _ => E.lr311_7
    | 8, _ => E.lr311_8
    | 9, _ => E.lr311_9
    | n + 10, h => absurd h (by omega)) E.ll311 hvs hm
theorem ok312 : SumOkN Tryz.prog EH.F EH.N 7 ED.p312 := sumN_one (EH.cfg_ok (EH.cons_ok ok0 (EH.cons_ok ok311 EH.nil_ok))) E.t312
end Go.Proofs.YtnmmomopnaglbaaGreatDoor.EO
