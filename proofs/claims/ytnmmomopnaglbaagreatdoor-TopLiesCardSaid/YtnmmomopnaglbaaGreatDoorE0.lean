/- What calls of the program come to, with everything known. No conditions. -/
import Derived.Test.YtnmmomopnaglbaaGreatDoorEB
import Derived.Test.YtnmmomopnaglbaaGreatDoorEDw
namespace Go.Proofs.YtnmmomopnaglbaaGreatDoor.E
open Go Go.SX Go.Proofs.YtnmmomopnaglbaaGreatDoor
set_option maxRecDepth 100000
set_option maxHeartbeats 40000000 in
theorem wn12 : nextsT Tryz.prog (EB.opsOf (spineC (EB.bodyOf Tryz.f76))[3]?) [4, 11, 21, 28, 35] ED.wst.mem (strike ED.wst.mem []) (stepA Tryz.prog (EB.cfg []) 100000 (EB.opsOf (spineC (EB.bodyOf Tryz.f76))[3]?) ED.wst.mem.length) 2 ED.wl10 = some ED.wl12 := by kernel_rfl
set_option maxHeartbeats 40000000 in
theorem t108 : (callS Tryz.prog (EB.cfg [(64, ED.p87), (118, ED.p88), (119, ED.p97), (121, ED.p106), (122, ED.p107)]) 100000 88 ED.a108 ED.m108 []).one = some (ED.v108, ED.n108) := by kernel_rfl
set_option maxHeartbeats 40000000 in
theorem t47 : (callS Tryz.prog (EB.cfg []) 100000 49 ED.a47 ED.m47 []).one = some (ED.v47, ED.n47) := by kernel_rfl
end Go.Proofs.YtnmmomopnaglbaaGreatDoor.E
