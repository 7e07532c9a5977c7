/- What calls of the program come to, with everything known. No conditions. -/
import Derived.Test.YtnmmomopnaglbaaGreatDoorEB
import Derived.Test.YtnmmomopnaglbaaGreatDoorEDw
namespace Go.Proofs.YtnmmomopnaglbaaGreatDoor.E
open Go Go.SX Go.Proofs.YtnmmomopnaglbaaGreatDoor
set_option maxRecDepth 100000
set_option maxHeartbeats 40000000 in
theorem t270 : (callS Tryz.prog (EB.cfg [(93, ED.p262), (113, ED.p263), (188, ED.p264), (161, ED.p265), (188, ED.p266), (161, ED.p267), (37, ED.p268), (37, ED.p269)]) 100000 119 ED.a270 ED.m270 []).one = some (ED.v270, ED.n270) := by kernel_rfl
set_option maxHeartbeats 40000000 in
theorem t249 : (callS Tryz.prog (EB.cfg [(67, ED.p248), (68, ED.p242)]) 100000 36 ED.a249 ED.m249 []).one = some (ED.v249, ED.n249) := by kernel_rfl
set_option maxHeartbeats 40000000 in
theorem t250 : (callS Tryz.prog (EB.cfg [(28, ED.p229), (29, ED.p135), (34, ED.p241), (36, ED.p249)]) 100000 16 ED.a250 ED.m250 []).one = some (ED.v250, ED.n250) := by kernel_rfl
set_option maxHeartbeats 40000000 in
theorem t176 : (callS Tryz.prog (EB.cfg [(28, ED.p165), (29, ED.p135), (34, ED.p175)]) 100000 16 ED.a176 ED.m176 []).one = some (ED.v176, ED.n176) := by kernel_rfl
set_option maxHeartbeats 40000000 in
theorem t97 : (callS Tryz.prog (EB.cfg [(93, ED.p89), (113, ED.p90), (188, ED.p91), (161, ED.p92), (188, ED.p93), (161, ED.p94), (37, ED.p95), (37, ED.p96)]) 100000 119 ED.a97 ED.m97 []).one = some (ED.v97, ED.n97) := by kernel_rfl
set_option maxHeartbeats 40000000 in
theorem t208 : (callS Tryz.prog (EB.cfg [(28, ED.p197), (29, ED.p135), (34, ED.p207)]) 100000 16 ED.a208 ED.m208 []).one = some (ED.v208, ED.n208) := by kernel_rfl
set_option maxHeartbeats 40000000 in
theorem t224 : (callS Tryz.prog (EB.cfg [(28, ED.p213), (29, ED.p135), (34, ED.p223)]) 100000 16 ED.a224 ED.m224 []).one = some (ED.v224, ED.n224) := by kernel_rfl
end Go.Proofs.YtnmmomopnaglbaaGreatDoor.E
