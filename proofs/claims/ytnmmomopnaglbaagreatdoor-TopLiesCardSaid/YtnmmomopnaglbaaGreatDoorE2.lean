/- What calls of the program come to, with everything known. No conditions. -/
import Derived.Test.YtnmmomopnaglbaaGreatDoorEB
import Derived.Test.YtnmmomopnaglbaaGreatDoorEDw
namespace Go.Proofs.YtnmmomopnaglbaaGreatDoor.E
open Go Go.SX Go.Proofs.YtnmmomopnaglbaaGreatDoor
set_option maxRecDepth 100000
set_option maxHeartbeats 40000000 in
theorem wn5 : nextsT Tryz.prog (EB.opsOf (spineC (EB.bodyOf Tryz.f76))[3]?) [4, 11, 21, 28, 35] ED.wst.mem (strike ED.wst.mem []) (stepA Tryz.prog (EB.cfg []) 100000 (EB.opsOf (spineC (EB.bodyOf Tryz.f76))[3]?) ED.wst.mem.length) 1 ED.wl4 = some ED.wl5 := by kernel_rfl
set_option maxHeartbeats 40000000 in
theorem wn7 : nextsT Tryz.prog (EB.opsOf (spineC (EB.bodyOf Tryz.f76))[3]?) [4, 11, 21, 28, 35] ED.wst.mem (strike ED.wst.mem []) (stepA Tryz.prog (EB.cfg []) 100000 (EB.opsOf (spineC (EB.bodyOf Tryz.f76))[3]?) ED.wst.mem.length) 1 ED.wl6 = some ED.wl7 := by kernel_rfl
set_option maxHeartbeats 40000000 in
theorem t52 : (callS Tryz.prog (EB.cfg [(23, ED.p50), (37, ED.p51)]) 100000 15 ED.a52 ED.m52 []).one = some (ED.v52, ED.n52) := by kernel_rfl
end Go.Proofs.YtnmmomopnaglbaaGreatDoor.E
