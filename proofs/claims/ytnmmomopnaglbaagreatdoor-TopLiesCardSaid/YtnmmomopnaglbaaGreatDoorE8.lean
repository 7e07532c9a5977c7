/- What calls of the program come to, with everything known. No conditions. -/
import Derived.Test.YtnmmomopnaglbaaGreatDoorEB
import Derived.Test.YtnmmomopnaglbaaGreatDoorEDw
namespace Go.Proofs.YtnmmomopnaglbaaGreatDoor.E
open Go Go.SX Go.Proofs.YtnmmomopnaglbaaGreatDoor
set_option maxRecDepth 100000
set_option maxHeartbeats 40000000 in
theorem t34 : (callS Tryz.prog (EB.cfg [(147, ED.p33)]) 100000 77 ED.a34 ED.m34 []).one = some (ED.v34, ED.n34) := by kernel_rfl
set_option maxHeartbeats 40000000 in
theorem t120 : (callS Tryz.prog (EB.cfg [(17, ED.p119)]) 100000 61 ED.a120 ED.m120 []).one = some (ED.v120, ED.n120) := by kernel_rfl
set_option maxHeartbeats 40000000 in
theorem t283 : (callS Tryz.prog (EB.cfg [(64, ED.p260), (118, ED.p261), (119, ED.p270), (121, ED.p281), (122, ED.p282)]) 100000 88 ED.a283 ED.m283 []).one = some (ED.v283, ED.n283) := by kernel_rfl
set_option maxHeartbeats 40000000 in
theorem t303 : (callS Tryz.prog (EB.cfg [(28, ED.p255), (29, ED.p257), (33, ED.p295), (34, ED.p302)]) 100000 16 ED.a303 ED.m303 []).one = some (ED.v303, ED.n303) := by kernel_rfl
set_option maxHeartbeats 40000000 in
theorem t86 : (callS Tryz.prog (EB.cfg [(161, ED.p85)]) 100000 124 ED.a86 ED.m86 []).one = some (ED.v86, ED.n86) := by kernel_rfl
end Go.Proofs.YtnmmomopnaglbaaGreatDoor.E
