/- What calls of the program come to, with everything known. No conditions. -/
import Derived.Test.YtnmmomopnaglbaaGreatDoorEB
import Derived.Test.YtnmmomopnaglbaaGreatDoorEDw
namespace Go.Proofs.YtnmmomopnaglbaaGreatDoor.E
open Go Go.SX Go.Proofs.YtnmmomopnaglbaaGreatDoor
set_option maxRecDepth 100000
set_option maxHeartbeats 40000000 in
theorem wn15 : nextsT Tryz.prog (EB.opsOf (spineC (EB.bodyOf Tryz.f76))[3]?) [4, 11, 21, 28, 35] ED.wst.mem (strike ED.wst.mem []) (stepA Tryz.prog (EB.cfg []) 100000 (EB.opsOf (spineC (EB.bodyOf Tryz.f76))[3]?) ED.wst.mem.length) 3 ED.wl12 = some ED.wl15 := by kernel_rfl
set_option maxHeartbeats 40000000 in
theorem wn10 : nextsT Tryz.prog (EB.opsOf (spineC (EB.bodyOf Tryz.f76))[3]?) [4, 11, 21, 28, 35] ED.wst.mem (strike ED.wst.mem []) (stepA Tryz.prog (EB.cfg []) 100000 (EB.opsOf (spineC (EB.bodyOf Tryz.f76))[3]?) ED.wst.mem.length) 1 ED.wl9 = some ED.wl10 := by kernel_rfl
end Go.Proofs.YtnmmomopnaglbaaGreatDoor.E
