/- What calls of the program come to, with everything known. No conditions. -/
import Derived.Test.YtnmmomopnaglbaaGreatDoorEB
import Derived.Test.YtnmmomopnaglbaaGreatDoorEDw
namespace Go.Proofs.YtnmmomopnaglbaaGreatDoor.E
open Go Go.SX Go.Proofs.YtnmmomopnaglbaaGreatDoor
set_option maxRecDepth 100000
set_option maxHeartbeats 40000000 in
theorem wn3 : nextsT Tryz.prog (EB.opsOf (spineC (EB.bodyOf Tryz.f76))[3]?) [4, 11, 21, 28, 35] ED.wst.mem (strike ED.wst.mem []) (stepA Tryz.prog (EB.cfg []) 100000 (EB.opsOf (spineC (EB.bodyOf Tryz.f76))[3]?) ED.wst.mem.length) 3 [ED.we] = some ED.wl3 := by kernel_rfl
set_option maxHeartbeats 40000000 in
theorem t262 : (callS Tryz.prog (EB.cfg []) 100000 93 ED.a262 ED.m262 []).one = some (ED.v262, ED.n262) := by kernel_rfl
set_option maxHeartbeats 40000000 in
theorem t295 : (callS Tryz.prog (EB.cfg [(34, ED.p289), (61, ED.p294)]) 100000 33 ED.a295 ED.m295 []).one = some (ED.v295, ED.n295) := by kernel_rfl
set_option maxHeartbeats 40000000 in
theorem t205 : (callS Tryz.prog (EB.cfg []) 100000 50 ED.a205 ED.m205 []).one = some (ED.v205, ED.n205) := by kernel_rfl
end Go.Proofs.YtnmmomopnaglbaaGreatDoor.E
