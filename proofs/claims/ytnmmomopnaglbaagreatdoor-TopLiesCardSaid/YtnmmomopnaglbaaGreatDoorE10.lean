/- What calls of the program come to, with everything known. No conditions. -/
import Derived.Test.YtnmmomopnaglbaaGreatDoorEB
import Derived.Test.YtnmmomopnaglbaaGreatDoorEDw
namespace Go.Proofs.YtnmmomopnaglbaaGreatDoor.E
open Go Go.SX Go.Proofs.YtnmmomopnaglbaaGreatDoor
set_option maxRecDepth 100000
set_option maxHeartbeats 40000000 in
theorem lr311_1 : pieceT Tryz.prog (EB.cfg [(15, ED.p52), (16, ED.p77), (17, ED.p81), (16, ED.p129), (17, ED.p132), (16, ED.p145), (17, ED.p149), (16, ED.p160), (17, ED.p164), (16, ED.p176), (17, ED.p180), (16, ED.p192), (17, ED.p196), (16, ED.p208), (17, ED.p212), (16, ED.p224), (17, ED.p228), (16, ED.p250), (17, ED.p254), (16, ED.p303), (17, ED.p306), (18, ED.p307), (20, ED.p310)]) 100000 (EB.loopOf (spineC (EB.bodyOf Tryz.f8))[6]?) ED.m311.length (ED.l311 1) = some (ED.l311 2) := by kernel_rfl
set_option maxHeartbeats 40000000 in
theorem lr311_2 : pieceT Tryz.prog (EB.cfg [(15, ED.p52), (16, ED.p77), (17, ED.p81), (16, ED.p129), (17, ED.p132), (16, ED.p145), (17, ED.p149), (16, ED.p160), (17, ED.p164), (16, ED.p176), (17, ED.p180), (16, ED.p192), (17, ED.p196), (16, ED.p208), (17, ED.p212), (16, ED.p224), (17, ED.p228), (16, ED.p250), (17, ED.p254), (16, ED.p303), (17, ED.p306), (18, ED.p307), (20, ED.p310)]) 100000 (EB.loopOf (spineC (EB.bodyOf Tryz.f8))[6]?) ED.m311.length (ED.l311 2) = some (ED.l311 3) := by kernel_rfl
set_option maxHeartbeats 40000000 in
theorem lr311_3 : pieceT Tryz.prog (EB.cfg [(15, ED.p52), (16, ED.p77), (17, ED.p81), (16, ED.p129), (17, ED.p132), (16, ED.p145), (17, ED.p149), (16, ED.p160), (17, ED.p164), (16, ED.p176), (17, ED.p180), (16, ED.p192), (17, ED.p196), (16, ED.p208), (17, ED.p212), (16, ED.p224), (17, ED.p228), (16, ED.p250), (17, ED.p254), (16, ED.p303), (17, ED.p306), (18, ED.p307), (20, ED.p310)]) 100000 (EB.loopOf (spineC (EB.bodyOf Tryz.f8))[6]?) ED.m311.length (ED.l311 3) = some (ED.l311 4) := by kernel_rfl
set_option maxHeartbeats 40000000 in
theorem lr311_4 : pieceT Tryz.prog (EB.cfg [(15, ED.p52), (16, ED.p77), (17, ED.p81), (16, ED.p129), (17, ED.p132), (16, ED.p145), (17, ED.p149), (16, ED.p160), (17, ED.p164), (16, ED.p176), (17, ED.p180), (16, ED.p192), (17, ED.p196), (16, ED.p208), (17, ED.p212), (16, ED.p224), (17, ED.p228), (16, ED.p250), (17, ED.p254), (16, ED.p303), (17, ED.p306), (18, ED.p307), (20, ED.p310)]) 100000 (EB.loopOf (spineC (EB.bodyOf Tryz.f8))[6]?) ED.m311.length (ED.l311 4) = some (ED.l311 5) := by kernel_rfl
set_option maxHeartbeats 40000000 in
theorem lr311_5 : pieceT Tryz.prog (EB.cfg [(15, ED.p52), (16, ED.p77), (17, ED.p81), (16, ED.p129), (17, ED.p132), (16, ED.p145), (17, ED.p149), (16, ED.p160), (17, ED.p164), (16, ED.p176), (17, ED.p180), (16, ED.p192), (17, ED.p196), (16, ED.p208), (17, ED.p212), (16, ED.p224), (17, ED.p228), (16, ED.p250), (17, ED.p254), (16, ED.p303), (17, ED.p306), (18, ED.p307), (20, ED.p310)]) 100000 (EB.loopOf (spineC (EB.bodyOf Tryz.f8))[6]?) ED.m311.length (ED.l311 5) = some (ED.l311 6) := by kernel_rfl
set_option maxHeartbeats 40000000 in
theorem t185 : (callS Tryz.prog (EB.cfg [(161, ED.p184)]) 100000 124 ED.a185 ED.m185 []).one = some (ED.v185, ED.n185) := by kernel_rfl
end Go.Proofs.YtnmmomopnaglbaaGreatDoor.E
