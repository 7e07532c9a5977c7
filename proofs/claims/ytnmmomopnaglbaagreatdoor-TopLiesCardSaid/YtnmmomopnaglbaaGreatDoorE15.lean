/- What calls of the program come to, with everything known. No conditions. -/
import Derived.Test.YtnmmomopnaglbaaGreatDoorEB
import Derived.Test.YtnmmomopnaglbaaGreatDoorEDw
namespace Go.Proofs.YtnmmomopnaglbaaGreatDoor.E
open Go Go.SX Go.Proofs.YtnmmomopnaglbaaGreatDoor
set_option maxRecDepth 100000
set_option maxHeartbeats 40000000 in
theorem t64 : (callS Tryz.prog (EB.cfg [(86, ED.p58), (64, ED.p61), (87, ED.p63)]) 100000 62 ED.a64 ED.m64 []).one = some (ED.v64, ED.n64) := by kernel_rfl
set_option maxHeartbeats 40000000 in
theorem t165 : (callS Tryz.prog (EB.cfg [(37, ED.p53)]) 100000 28 ED.a165 ED.m165 []).one = some (ED.v165, ED.n165) := by kernel_rfl
set_option maxHeartbeats 40000000 in
theorem ri31 (L : Nat) : iterT Tryz.prog (EB.cfg [(173, ED.p1), (101, ED.p3), (102, ED.p4), (103, ED.p5), (173, ED.p6), (101, ED.p8), (102, ED.p9), (103, ED.p10), (173, ED.p11), (101, ED.p13), (102, ED.p14), (103, ED.p15), (173, ED.p16), (101, ED.p18), (102, ED.p19), (103, ED.p20), (173, ED.p21), (101, ED.p23), (102, ED.p24), (103, ED.p25), (173, ED.p26), (101, ED.p28), (102, ED.p29), (103, ED.p30)]) 100000 1000 Tryz.f170 (EB.bodyOf Tryz.f170) (.fnx (.yield L) .nil :: ((.cons (.ptr 5 0) (.cons (.ptr 6 0) (.cons (.ptr 7 0) .nil))) : AV).members) ED.r31.mem (roundT Tryz.prog (EB.cfg [(173, ED.p1), (101, ED.p3), (102, ED.p4), (103, ED.p5), (173, ED.p6), (101, ED.p8), (102, ED.p9), (103, ED.p10), (173, ED.p11), (101, ED.p13), (102, ED.p14), (103, ED.p15), (173, ED.p16), (101, ED.p18), (102, ED.p19), (103, ED.p20), (173, ED.p21), (101, ED.p23), (102, ED.p24), (103, ED.p25), (173, ED.p26), (101, ED.p28), (102, ED.p29), (103, ED.p30)]) 100000 1000 (EB.asgOf (spineC (EB.bodyOf Tryz.f75))[6]?) (EB.rndOf (spineC (EB.bodyOf Tryz.f75))[6]?) ED.r31.slots 14) = some (ED.rm31, [L, L, L, L, L, L]) := by kernel_rfl
set_option maxHeartbeats 40000000 in
theorem ri100 (L : Nat) : iterT Tryz.prog (EB.cfg [(37, ED.p98), (37, ED.p53), (37, ED.p99)]) 100000 1000 Tryz.f239 (EB.bodyOf Tryz.f239) (.fnx (.yield L) .nil :: ((.cons (.ptr 5 0) (.cons (.ptr 6 0) (.cons (.ptr 7 0) .nil))) : AV).members) ED.r100.mem (roundT Tryz.prog (EB.cfg [(37, ED.p98), (37, ED.p53), (37, ED.p99)]) 100000 1000 (EB.asgOf (spineC (EB.bodyOf Tryz.f191))[2]?) (EB.rndOf (spineC (EB.bodyOf Tryz.f191))[2]?) ED.r100.slots 16) = some (ED.rm100, [L]) := by kernel_rfl
set_option maxHeartbeats 40000000 in
theorem ri275 (L : Nat) : iterT Tryz.prog (EB.cfg [(37, ED.p271), (37, ED.p272), (37, ED.p273), (37, ED.p274)]) 100000 1000 Tryz.f239 (EB.bodyOf Tryz.f239) (.fnx (.yield L) .nil :: ((.cons (.ptr 5 0) (.cons (.ptr 6 0) (.cons (.ptr 7 0) .nil))) : AV).members) ED.r275.mem (roundT Tryz.prog (EB.cfg [(37, ED.p271), (37, ED.p272), (37, ED.p273), (37, ED.p274)]) 100000 1000 (EB.asgOf (spineC (EB.bodyOf Tryz.f191))[2]?) (EB.rndOf (spineC (EB.bodyOf Tryz.f191))[2]?) ED.r275.slots 16) = some (ED.rm275, [L, L]) := by kernel_rfl
set_option maxHeartbeats 40000000 in
theorem ll311 : (lastT Tryz.prog (EB.cfg [(15, ED.p52), (16, ED.p77), (17, ED.p81), (16, ED.p129), (17, ED.p132), (16, ED.p145), (17, ED.p149), (16, ED.p160), (17, ED.p164), (16, ED.p176), (17, ED.p180), (16, ED.p192), (17, ED.p196), (16, ED.p208), (17, ED.p212), (16, ED.p224), (17, ED.p228), (16, ED.p250), (17, ED.p254), (16, ED.p303), (17, ED.p306), (18, ED.p307), (20, ED.p310)]) 100000 Tryz.f8 ED.m311.length 0 (EB.loopOf (spineC (EB.bodyOf Tryz.f8))[6]?) ((spineC (EB.bodyOf Tryz.f8)).drop 7) (ED.l311 10)).one = some (ED.v311, ED.n311) := by kernel_rfl
set_option maxHeartbeats 40000000 in
theorem t237 : (callS Tryz.prog (EB.cfg [(86, ED.p231), (64, ED.p234), (87, ED.p236)]) 100000 62 ED.a237 ED.m237 []).one = some (ED.v237, ED.n237) := by kernel_rfl
set_option maxHeartbeats 40000000 in
theorem t255 : (callS Tryz.prog (EB.cfg [(37, ED.p53)]) 100000 28 ED.a255 ED.m255 []).one = some (ED.v255, ED.n255) := by kernel_rfl
set_option maxHeartbeats 40000000 in
theorem t213 : (callS Tryz.prog (EB.cfg [(37, ED.p53)]) 100000 28 ED.a213 ED.m213 []).one = some (ED.v213, ED.n213) := by kernel_rfl
set_option maxHeartbeats 40000000 in
theorem t229 : (callS Tryz.prog (EB.cfg [(37, ED.p53)]) 100000 28 ED.a229 ED.m229 []).one = some (ED.v229, ED.n229) := by kernel_rfl
set_option maxHeartbeats 40000000 in
theorem t181 : (callS Tryz.prog (EB.cfg [(37, ED.p53)]) 100000 28 ED.a181 ED.m181 []).one = some (ED.v181, ED.n181) := by kernel_rfl
set_option maxHeartbeats 40000000 in
theorem t150 : (callS Tryz.prog (EB.cfg [(37, ED.p53)]) 100000 28 ED.a150 ED.m150 []).one = some (ED.v150, ED.n150) := by kernel_rfl
set_option maxHeartbeats 40000000 in
theorem t54 : (callS Tryz.prog (EB.cfg [(37, ED.p53)]) 100000 28 ED.a54 ED.m54 []).one = some (ED.v54, ED.n54) := by kernel_rfl
set_option maxHeartbeats 40000000 in
theorem t115 : (callS Tryz.prog (EB.cfg [(88, ED.p108), (51, ED.p109), (50, ED.p110), (64, ED.p113), (65, ED.p114)]) 100000 34 ED.a115 ED.m115 []).one = some (ED.v115, ED.n115) := by kernel_rfl
set_option maxHeartbeats 40000000 in
theorem t307 : (callS Tryz.prog (EB.cfg []) 100000 18 ED.a307 ED.m307 []).one = some (ED.v307, ED.n307) := by kernel_rfl
end Go.Proofs.YtnmmomopnaglbaaGreatDoor.E
