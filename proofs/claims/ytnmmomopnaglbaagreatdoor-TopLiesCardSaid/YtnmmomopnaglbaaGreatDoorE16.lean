/- What calls of the program come to, with everything known. No conditions. -/
import Derived.Test.YtnmmomopnaglbaaGreatDoorEB
import Derived.Test.YtnmmomopnaglbaaGreatDoorEDw
namespace Go.Proofs.YtnmmomopnaglbaaGreatDoor.E
open Go Go.SX Go.Proofs.YtnmmomopnaglbaaGreatDoor
set_option maxRecDepth 100000
set_option maxHeartbeats 40000000 in
theorem t289 : (callS Tryz.prog (EB.cfg [(88, ED.p283), (51, ED.p284), (50, ED.p285), (64, ED.p287), (65, ED.p288)]) 100000 34 ED.a289 ED.m289 []).one = some (ED.v289, ED.n289) := by kernel_rfl
set_option maxHeartbeats 40000000 in
theorem t133 : (callS Tryz.prog (EB.cfg [(37, ED.p53)]) 100000 28 ED.a133 ED.m133 []).one = some (ED.v133, ED.n133) := by kernel_rfl
set_option maxHeartbeats 40000000 in
theorem ml45 : lastAll Tryz.prog (EB.cfg [(75, ED.p31), (76, ED.p32), (77, ED.p34), (77, ED.p36), (77, ED.p39), (77, ED.p41), (77, ED.p43), (78, ED.p44)]) 100000 Tryz.f44 (EB.opsOf (spineC (EB.loopOf (spineC (EB.bodyOf Tryz.f44))[9]?))[0]?) ((spineC (EB.loopOf (spineC (EB.bodyOf Tryz.f44))[9]?))[1]?.getD .skip) ((spineC (EB.bodyOf Tryz.f44)).drop 10) 50 ED.m45.length 2 9 (.mp [(.s ⟨#[100, 101, 108, 97, 121]⟩), (.s ⟨#[112, 111, 108, 108]⟩), (.s ⟨#[113, 117, 111, 114, 117, 109]⟩), (.s ⟨#[115, 101, 114, 118, 101, 114]⟩), (.s ⟨#[115, 108, 101, 119]⟩)] [(.ptr 10 0), (.ptr 13 0), (.ptr 16 0), (.ptr 19 0), (.ptr 21 0)]) ED.z45 ED.v45 ED.n45 = true := by kernel_rfl
set_option maxHeartbeats 40000000 in
theorem t125 : (callS Tryz.prog (EB.cfg [(86, ED.p123), (64, ED.p113), (87, ED.p124)]) 100000 62 ED.a125 ED.m125 []).one = some (ED.v125, ED.n125) := by kernel_rfl
set_option maxHeartbeats 40000000 in
theorem t241 : (callS Tryz.prog (EB.cfg [(62, ED.p237), (51, ED.p238), (50, ED.p239), (64, ED.p234), (65, ED.p240)]) 100000 34 ED.a241 ED.m241 []).one = some (ED.v241, ED.n241) := by kernel_rfl
set_option maxHeartbeats 40000000 in
theorem t302 : (callS Tryz.prog (EB.cfg [(62, ED.p299), (51, ED.p284), (50, ED.p300), (64, ED.p287), (65, ED.p301)]) 100000 34 ED.a302 ED.m302 []).one = some (ED.v302, ED.n302) := by kernel_rfl
set_option maxHeartbeats 40000000 in
theorem t299 : (callS Tryz.prog (EB.cfg [(86, ED.p297), (64, ED.p287), (87, ED.p298)]) 100000 62 ED.a299 ED.m299 []).one = some (ED.v299, ED.n299) := by kernel_rfl
set_option maxHeartbeats 40000000 in
theorem t207 : (callS Tryz.prog (EB.cfg [(62, ED.p204), (51, ED.p109), (50, ED.p205), (64, ED.p202), (65, ED.p206)]) 100000 34 ED.a207 ED.m207 []).one = some (ED.v207, ED.n207) := by kernel_rfl
set_option maxHeartbeats 40000000 in
theorem lp311 : pieceL Tryz.prog (EB.cfg [(15, ED.p52), (16, ED.p77), (17, ED.p81), (16, ED.p129), (17, ED.p132), (16, ED.p145), (17, ED.p149), (16, ED.p160), (17, ED.p164), (16, ED.p176), (17, ED.p180), (16, ED.p192), (17, ED.p196), (16, ED.p208), (17, ED.p212), (16, ED.p224), (17, ED.p228), (16, ED.p250), (17, ED.p254), (16, ED.p303), (17, ED.p306), (18, ED.p307), (20, ED.p310)]) 100000 ((spineC (EB.bodyOf Tryz.f8)).take 6) ED.m311.length (begA Tryz.f8 ED.a311 ED.m311) = some (ED.l311 0) := by kernel_rfl
set_option maxHeartbeats 40000000 in
theorem wp : pieceL Tryz.prog (EB.cfg []) 100000 ((spineC (EB.bodyOf Tryz.f76)).take 3) ED.m32.length (begA Tryz.f76 ED.a32 ED.m32) = some ED.wst := by kernel_rfl
set_option maxHeartbeats 40000000 in
theorem ws : satT Tryz.prog (EB.opsOf (spineC (EB.bodyOf Tryz.f76))[3]?) [4, 11, 21, 28, 35] ED.wst.mem (strike ED.wst.mem []) true (EB.opsOf (spineC (EB.bodyOf Tryz.f76))[3]?).size (Array.replicate (EB.opsOf (spineC (EB.bodyOf Tryz.f76))[3]?).size false) ED.wst = some ED.we := by kernel_rfl
set_option maxHeartbeats 40000000 in
theorem t226 : (callS Tryz.prog (EB.cfg [(64, ED.p218)]) 100000 39 ED.a226 ED.m226 []).one = some (ED.v226, ED.n226) := by kernel_rfl
set_option maxHeartbeats 40000000 in
theorem t68 : (callS Tryz.prog (EB.cfg [(62, ED.p64), (51, ED.p65), (50, ED.p66), (64, ED.p61), (65, ED.p67)]) 100000 34 ED.a68 ED.m68 []).one = some (ED.v68, ED.n68) := by kernel_rfl
set_option maxHeartbeats 40000000 in
theorem t188 : (callS Tryz.prog (EB.cfg [(86, ED.p183), (64, ED.p186), (87, ED.p187)]) 100000 62 ED.a188 ED.m188 []).one = some (ED.v188, ED.n188) := by kernel_rfl
set_option maxHeartbeats 40000000 in
theorem t312 : (callS Tryz.prog (EB.cfg [(14, ED.p0), (8, ED.p311)]) 100000 7 ED.a312 ED.m312 []).one = some (ED.v312, ED.n312) := by kernel_rfl
set_option maxHeartbeats 40000000 in
theorem t156 : (callS Tryz.prog (EB.cfg [(86, ED.p152), (64, ED.p154), (87, ED.p155)]) 100000 62 ED.a156 ED.m156 []).one = some (ED.v156, ED.n156) := by kernel_rfl
set_option maxHeartbeats 40000000 in
theorem t191 : (callS Tryz.prog (EB.cfg [(62, ED.p188), (51, ED.p109), (50, ED.p189), (64, ED.p186), (65, ED.p190)]) 100000 34 ED.a191 ED.m191 []).one = some (ED.v191, ED.n191) := by kernel_rfl
set_option maxHeartbeats 40000000 in
theorem t151 : (callS Tryz.prog (EB.cfg []) 100000 113 ED.a151 ED.m151 []).one = some (ED.v151, ED.n151) := by kernel_rfl
set_option maxHeartbeats 40000000 in
theorem t220 : (callS Tryz.prog (EB.cfg [(86, ED.p215), (64, ED.p218), (87, ED.p219)]) 100000 62 ED.a220 ED.m220 []).one = some (ED.v220, ED.n220) := by kernel_rfl
set_option maxHeartbeats 40000000 in
theorem t263 : (callS Tryz.prog (EB.cfg []) 100000 113 ED.a263 ED.m263 []).one = some (ED.v263, ED.n263) := by kernel_rfl
set_option maxHeartbeats 40000000 in
theorem t214 : (callS Tryz.prog (EB.cfg []) 100000 113 ED.a214 ED.m214 []).one = some (ED.v214, ED.n214) := by kernel_rfl
set_option maxHeartbeats 40000000 in
theorem t204 : (callS Tryz.prog (EB.cfg [(86, ED.p199), (64, ED.p202), (87, ED.p203)]) 100000 62 ED.a204 ED.m204 []).one = some (ED.v204, ED.n204) := by kernel_rfl
set_option maxHeartbeats 40000000 in
theorem t223 : (callS Tryz.prog (EB.cfg [(62, ED.p220), (51, ED.p109), (50, ED.p221), (64, ED.p218), (65, ED.p222)]) 100000 34 ED.a223 ED.m223 []).one = some (ED.v223, ED.n223) := by kernel_rfl
set_option maxHeartbeats 40000000 in
theorem t172 : (callS Tryz.prog (EB.cfg [(86, ED.p167), (64, ED.p170), (87, ED.p171)]) 100000 62 ED.a172 ED.m172 []).one = some (ED.v172, ED.n172) := by kernel_rfl
set_option maxHeartbeats 40000000 in
theorem t159 : (callS Tryz.prog (EB.cfg [(62, ED.p156), (51, ED.p109), (50, ED.p157), (64, ED.p154), (65, ED.p158)]) 100000 34 ED.a159 ED.m159 []).one = some (ED.v159, ED.n159) := by kernel_rfl
set_option maxHeartbeats 40000000 in
theorem t175 : (callS Tryz.prog (EB.cfg [(62, ED.p172), (51, ED.p109), (50, ED.p173), (64, ED.p170), (65, ED.p174)]) 100000 34 ED.a175 ED.m175 []).one = some (ED.v175, ED.n175) := by kernel_rfl
set_option maxHeartbeats 40000000 in
theorem t79 : (callS Tryz.prog (EB.cfg [(64, ED.p61)]) 100000 39 ED.a79 ED.m79 []).one = some (ED.v79, ED.n79) := by kernel_rfl
end Go.Proofs.YtnmmomopnaglbaaGreatDoor.E
