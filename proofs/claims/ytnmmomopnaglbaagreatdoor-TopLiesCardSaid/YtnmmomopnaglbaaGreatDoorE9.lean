/- What calls of the program come to, with everything known. No conditions. -/
import Derived.Test.YtnmmomopnaglbaaGreatDoorEB
import Derived.Test.YtnmmomopnaglbaaGreatDoorEDw
namespace Go.Proofs.YtnmmomopnaglbaaGreatDoor.E
open Go Go.SX Go.Proofs.YtnmmomopnaglbaaGreatDoor
set_option maxRecDepth 100000
set_option maxHeartbeats 40000000 in
theorem t62 : (callS Tryz.prog (EB.cfg []) 100000 153 ED.a62 ED.m62 []).one = some (ED.v62, ED.n62) := by kernel_rfl
set_option maxHeartbeats 40000000 in
theorem t235 : (callS Tryz.prog (EB.cfg []) 100000 153 ED.a235 ED.m235 []).one = some (ED.v235, ED.n235) := by kernel_rfl
set_option maxHeartbeats 40000000 in
theorem t245 : (callS Tryz.prog (EB.cfg []) 100000 153 ED.a245 ED.m245 []).one = some (ED.v245, ED.n245) := by kernel_rfl
set_option maxHeartbeats 40000000 in
theorem t72 : (callS Tryz.prog (EB.cfg []) 100000 153 ED.a72 ED.m72 []).one = some (ED.v72, ED.n72) := by kernel_rfl
set_option maxHeartbeats 40000000 in
theorem lr311_0 : pieceT Tryz.prog (EB.cfg [(15, ED.p52), (16, ED.p77), (17, ED.p81), (16, ED.p129), (17, ED.p132), (16, ED.p145), (17, ED.p149), (16, ED.p160), (17, ED.p164), (16, ED.p176), (17, ED.p180), (16, ED.p192), (17, ED.p196), (16, ED.p208), (17, ED.p212), (16, ED.p224), (17, ED.p228), (16, ED.p250), (17, ED.p254), (16, ED.p303), (17, ED.p306), (18, ED.p307), (20, ED.p310)]) 100000 (EB.loopOf (spineC (EB.bodyOf Tryz.f8))[6]?) ED.m311.length (ED.l311 0) = some (ED.l311 1) := by kernel_rfl
set_option maxHeartbeats 40000000 in
theorem t248 : (callS Tryz.prog (EB.cfg [(93, ED.p243), (276, ED.p247)]) 100000 67 ED.a248 ED.m248 []).one = some (ED.v248, ED.n248) := by kernel_rfl
end Go.Proofs.YtnmmomopnaglbaaGreatDoor.E
