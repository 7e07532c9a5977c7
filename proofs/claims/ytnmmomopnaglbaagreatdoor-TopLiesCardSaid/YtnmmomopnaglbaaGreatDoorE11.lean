/- What calls of the program come to, with everything known. No conditions. -/
import Derived.Test.YtnmmomopnaglbaaGreatDoorEB
import Derived.Test.YtnmmomopnaglbaaGreatDoorEDw
namespace Go.Proofs.YtnmmomopnaglbaaGreatDoor.E
open Go Go.SX Go.Proofs.YtnmmomopnaglbaaGreatDoor
set_option maxRecDepth 100000
set_option maxHeartbeats 40000000 in
theorem lr311_6 : pieceT Tryz.prog (EB.cfg [(15, ED.p52), (16, ED.p77), (17, ED.p81), (16, ED.p129), (17, ED.p132), (16, ED.p145), (17, ED.p149), (16, ED.p160), (17, ED.p164), (16, ED.p176), (17, ED.p180), (16, ED.p192), (17, ED.p196), (16, ED.p208), (17, ED.p212), (16, ED.p224), (17, ED.p228), (16, ED.p250), (17, ED.p254), (16, ED.p303), (17, ED.p306), (18, ED.p307), (20, ED.p310)]) 100000 (EB.loopOf (spineC (EB.bodyOf Tryz.f8))[6]?) ED.m311.length (ED.l311 6) = some (ED.l311 7) := by kernel_rfl
set_option maxHeartbeats 40000000 in
theorem lr311_7 : pieceT Tryz.prog (EB.cfg [(15, ED.p52), (16, ED.p77), (17, ED.p81), (16, ED.p129), (17, ED.p132), (16, ED.p145), (17, ED.p149), (16, ED.p160), (17, ED.p164), (16, ED.p176), (17, ED.p180), (16, ED.p192), (17, ED.p196), (16, ED.p208), (17, ED.p212), (16, ED.p224), (17, ED.p228), (16, ED.p250), (17, ED.p254), (16, ED.p303), (17, ED.p306), (18, ED.p307), (20, ED.p310)]) 100000 (EB.loopOf (spineC (EB.bodyOf Tryz.f8))[6]?) ED.m311.length (ED.l311 7) = some (ED.l311 8) := by kernel_rfl
set_option maxHeartbeats 40000000 in
theorem lr311_8 : pieceT Tryz.prog (EB.cfg [(15, ED.p52), (16, ED.p77), (17, ED.p81), (16, ED.p129), (17, ED.p132), (16, ED.p145), (17, ED.p149), (16, ED.p160), (17, ED.p164), (16, ED.p176), (17, ED.p180), (16, ED.p192), (17, ED.p196), (16, ED.p208), (17, ED.p212), (16, ED.p224), (17, ED.p228), (16, ED.p250), (17, ED.p254), (16, ED.p303), (17, ED.p306), (18, ED.p307), (20, ED.p310)]) 100000 (EB.loopOf (spineC (EB.bodyOf Tryz.f8))[6]?) ED.m311.length (ED.l311 8) = some (ED.l311 9) := by kernel_rfl
set_option maxHeartbeats 40000000 in
theorem lr311_9 : pieceT Tryz.prog (EB.cfg [(15, ED.p52), (16, ED.p77), (17, ED.p81), (16, ED.p129), (17, ED.p132), (16, ED.p145), (17, ED.p149), (16, ED.p160), (17, ED.p164), (16, ED.p176), (17, ED.p180), (16, ED.p192), (17, ED.p196), (16, ED.p208), (17, ED.p212), (16, ED.p224), (17, ED.p228), (16, ED.p250), (17, ED.p254), (16, ED.p303), (17, ED.p306), (18, ED.p307), (20, ED.p310)]) 100000 (EB.loopOf (spineC (EB.bodyOf Tryz.f8))[6]?) ED.m311.length (ED.l311 9) = some (ED.l311 10) := by kernel_rfl
set_option maxHeartbeats 40000000 in
theorem t129 : (callS Tryz.prog (EB.cfg [(28, ED.p82), (29, ED.p84), (33, ED.p121), (34, ED.p128)]) 100000 16 ED.a129 ED.m129 []).one = some (ED.v129, ED.n129) := by kernel_rfl
set_option maxHeartbeats 40000000 in
theorem t153 : (callS Tryz.prog (EB.cfg [(161, ED.p85)]) 100000 124 ED.a153 ED.m153 []).one = some (ED.v153, ED.n153) := by kernel_rfl
end Go.Proofs.YtnmmomopnaglbaaGreatDoor.E
