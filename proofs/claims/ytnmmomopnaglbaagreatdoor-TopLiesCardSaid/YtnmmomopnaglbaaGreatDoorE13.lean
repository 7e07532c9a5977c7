/- What calls of the program come to, with everything known. No conditions. -/
import Derived.Test.YtnmmomopnaglbaaGreatDoorEB
import Derived.Test.YtnmmomopnaglbaaGreatDoorEDw
namespace Go.Proofs.YtnmmomopnaglbaaGreatDoor.E
open Go Go.SX Go.Proofs.YtnmmomopnaglbaaGreatDoor
set_option maxRecDepth 100000
set_option maxHeartbeats 40000000 in
theorem t192 : (callS Tryz.prog (EB.cfg [(28, ED.p181), (29, ED.p135), (34, ED.p191)]) 100000 16 ED.a192 ED.m192 []).one = some (ED.v192, ED.n192) := by kernel_rfl
set_option maxHeartbeats 40000000 in
theorem t41 : (callS Tryz.prog (EB.cfg [(147, ED.p40)]) 100000 77 ED.a41 ED.m41 []).one = some (ED.v41, ED.n41) := by kernel_rfl
set_option maxHeartbeats 40000000 in
theorem t50 : (callS Tryz.prog (EB.cfg [(44, ED.p45), (46, ED.p46), (78, ED.p44), (49, ED.p47), (51, ED.p48), (50, ED.p49)]) 100000 23 ED.a50 ED.m50 []).one = some (ED.v50, ED.n50) := by kernel_rfl
set_option maxHeartbeats 40000000 in
theorem t160 : (callS Tryz.prog (EB.cfg [(28, ED.p150), (29, ED.p135), (34, ED.p159)]) 100000 16 ED.a160 ED.m160 []).one = some (ED.v160, ED.n160) := by kernel_rfl
set_option maxHeartbeats 40000000 in
theorem t77 : (callS Tryz.prog (EB.cfg [(28, ED.p54), (29, ED.p56), (34, ED.p68), (36, ED.p76)]) 100000 16 ED.a77 ED.m77 []).one = some (ED.v77, ED.n77) := by kernel_rfl
set_option maxHeartbeats 40000000 in
theorem t43 : (callS Tryz.prog (EB.cfg [(147, ED.p42)]) 100000 77 ED.a43 ED.m43 []).one = some (ED.v43, ED.n43) := by kernel_rfl
set_option maxHeartbeats 40000000 in
theorem t259 : (callS Tryz.prog (EB.cfg [(161, ED.p258)]) 100000 124 ED.a259 ED.m259 []).one = some (ED.v259, ED.n259) := by kernel_rfl
set_option maxHeartbeats 40000000 in
theorem t36 : (callS Tryz.prog (EB.cfg [(147, ED.p35)]) 100000 77 ED.a36 ED.m36 []).one = some (ED.v36, ED.n36) := by kernel_rfl
set_option maxHeartbeats 40000000 in
theorem t75 : (callS Tryz.prog (EB.cfg [(93, ED.p70), (276, ED.p74)]) 100000 67 ED.a75 ED.m75 []).one = some (ED.v75, ED.n75) := by kernel_rfl
set_option maxHeartbeats 40000000 in
theorem t146 : (callS Tryz.prog (EB.cfg []) 100000 38 ED.a146 ED.m146 []).one = some (ED.v146, ED.n146) := by kernel_rfl
end Go.Proofs.YtnmmomopnaglbaaGreatDoor.E
