/- What calls of the program come to, with everything known. No conditions. -/
import Derived.Test.YtnmmomopnaglbaaGreatDoorEB
import Derived.Test.YtnmmomopnaglbaaGreatDoorEDw
namespace Go.Proofs.YtnmmomopnaglbaaGreatDoor.E
open Go Go.SX Go.Proofs.YtnmmomopnaglbaaGreatDoor
set_option maxRecDepth 100000
set_option maxHeartbeats 40000000 in
theorem t89 : (callS Tryz.prog (EB.cfg []) 100000 93 ED.a89 ED.m89 []).one = some (ED.v89, ED.n89) := by kernel_rfl
set_option maxHeartbeats 40000000 in
theorem t70 : (callS Tryz.prog (EB.cfg []) 100000 93 ED.a70 ED.m70 []).one = some (ED.v70, ED.n70) := by kernel_rfl
set_option maxHeartbeats 40000000 in
theorem t294 : (callS Tryz.prog (EB.cfg [(17, ED.p293)]) 100000 61 ED.a294 ED.m294 []).one = some (ED.v294, ED.n294) := by kernel_rfl
set_option maxHeartbeats 40000000 in
theorem t200 : (callS Tryz.prog (EB.cfg []) 100000 161 ED.a200 ED.m200 []).one = some (ED.v200, ED.n200) := by kernel_rfl
end Go.Proofs.YtnmmomopnaglbaaGreatDoor.E
