/- What calls of the program come to, with everything known. No conditions. -/
import Derived.Test.YtnmmomopnaglbaaGreatDoorEB
import Derived.Test.YtnmmomopnaglbaaGreatDoorEDw
namespace Go.Proofs.YtnmmomopnaglbaaGreatDoor.E
open Go Go.SX Go.Proofs.YtnmmomopnaglbaaGreatDoor
set_option maxRecDepth 100000
set_option maxHeartbeats 40000000 in
theorem t243 : (callS Tryz.prog (EB.cfg []) 100000 93 ED.a243 ED.m243 []).one = some (ED.v243, ED.n243) := by kernel_rfl
set_option maxHeartbeats 40000000 in
theorem t39 : (callS Tryz.prog (EB.cfg [(147, ED.p37), (147, ED.p38)]) 100000 77 ED.a39 ED.m39 []).one = some (ED.v39, ED.n39) := by kernel_rfl
set_option maxHeartbeats 40000000 in
theorem t121 : (callS Tryz.prog (EB.cfg [(34, ED.p115), (61, ED.p120)]) 100000 33 ED.a121 ED.m121 []).one = some (ED.v121, ED.n121) := by kernel_rfl
set_option maxHeartbeats 40000000 in
theorem t285 : (callS Tryz.prog (EB.cfg []) 100000 50 ED.a285 ED.m285 []).one = some (ED.v285, ED.n285) := by kernel_rfl
set_option maxHeartbeats 40000000 in
theorem t167 : (callS Tryz.prog (EB.cfg [(113, ED.p166)]) 100000 86 ED.a167 ED.m167 []).one = some (ED.v167, ED.n167) := by kernel_rfl
end Go.Proofs.YtnmmomopnaglbaaGreatDoor.E
