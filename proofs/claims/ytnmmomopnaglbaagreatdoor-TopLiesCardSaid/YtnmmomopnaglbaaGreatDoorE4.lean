/- What calls of the program come to, with everything known. No conditions. -/
import Derived.Test.YtnmmomopnaglbaaGreatDoorEB
import Derived.Test.YtnmmomopnaglbaaGreatDoorEDw
namespace Go.Proofs.YtnmmomopnaglbaaGreatDoor.E
open Go Go.SX Go.Proofs.YtnmmomopnaglbaaGreatDoor
set_option maxRecDepth 100000
set_option maxHeartbeats 40000000 in
theorem wn4 : nextsT Tryz.prog (EB.opsOf (spineC (EB.bodyOf Tryz.f76))[3]?) [4, 11, 21, 28, 35] ED.wst.mem (strike ED.wst.mem []) (stepA Tryz.prog (EB.cfg []) 100000 (EB.opsOf (spineC (EB.bodyOf Tryz.f76))[3]?) ED.wst.mem.length) 1 ED.wl3 = some ED.wl4 := by kernel_rfl
set_option maxHeartbeats 40000000 in
theorem wn9 : nextsT Tryz.prog (EB.opsOf (spineC (EB.bodyOf Tryz.f76))[3]?) [4, 11, 21, 28, 35] ED.wst.mem (strike ED.wst.mem []) (stepA Tryz.prog (EB.cfg []) 100000 (EB.opsOf (spineC (EB.bodyOf Tryz.f76))[3]?) ED.wst.mem.length) 1 ED.wl8 = some ED.wl9 := by kernel_rfl
set_option maxHeartbeats 40000000 in
theorem t145 : (callS Tryz.prog (EB.cfg [(28, ED.p133), (29, ED.p135), (34, ED.p144)]) 100000 16 ED.a145 ED.m145 []).one = some (ED.v145, ED.n145) := by kernel_rfl
set_option maxHeartbeats 40000000 in
theorem t71 : (callS Tryz.prog (EB.cfg []) 100000 188 ED.a71 ED.m71 []).one = some (ED.v71, ED.n71) := by kernel_rfl
end Go.Proofs.YtnmmomopnaglbaaGreatDoor.E
