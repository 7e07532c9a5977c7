/- What calls of the program come to, with everything known. No conditions. -/
import Derived.Test.YtnmmomopnaglbaaGreatDoorEB
import Derived.Test.YtnmmomopnaglbaaGreatDoorEDw
namespace Go.Proofs.YtnmmomopnaglbaaGreatDoor.E
open Go Go.SX Go.Proofs.YtnmmomopnaglbaaGreatDoor
set_option maxRecDepth 100000
set_option maxHeartbeats 40000000 in
theorem t296 : (callS Tryz.prog (EB.cfg []) 100000 113 ED.a296 ED.m296 []).one = some (ED.v296, ED.n296) := by kernel_rfl
set_option maxHeartbeats 40000000 in
theorem t309 : (callS Tryz.prog (EB.cfg [(95, ED.p308)]) 100000 72 ED.a309 ED.m309 []).one = some (ED.v309, ED.n309) := by kernel_rfl
set_option maxHeartbeats 40000000 in
theorem t141 : (callS Tryz.prog (EB.cfg [(86, ED.p137), (64, ED.p139), (87, ED.p140)]) 100000 62 ED.a141 ED.m141 []).one = some (ED.v141, ED.n141) := by kernel_rfl
set_option maxHeartbeats 40000000 in
theorem t166 : (callS Tryz.prog (EB.cfg []) 100000 113 ED.a166 ED.m166 []).one = some (ED.v166, ED.n166) := by kernel_rfl
set_option maxHeartbeats 40000000 in
theorem t90 : (callS Tryz.prog (EB.cfg []) 100000 113 ED.a90 ED.m90 []).one = some (ED.v90, ED.n90) := by kernel_rfl
set_option maxHeartbeats 40000000 in
theorem t198 : (callS Tryz.prog (EB.cfg []) 100000 113 ED.a198 ED.m198 []).one = some (ED.v198, ED.n198) := by kernel_rfl
set_option maxHeartbeats 40000000 in
theorem t57 : (callS Tryz.prog (EB.cfg []) 100000 113 ED.a57 ED.m57 []).one = some (ED.v57, ED.n57) := by kernel_rfl
set_option maxHeartbeats 40000000 in
theorem t182 : (callS Tryz.prog (EB.cfg []) 100000 113 ED.a182 ED.m182 []).one = some (ED.v182, ED.n182) := by kernel_rfl
set_option maxHeartbeats 40000000 in
theorem t230 : (callS Tryz.prog (EB.cfg []) 100000 113 ED.a230 ED.m230 []).one = some (ED.v230, ED.n230) := by kernel_rfl
set_option maxHeartbeats 40000000 in
theorem t128 : (callS Tryz.prog (EB.cfg [(62, ED.p125), (51, ED.p109), (50, ED.p126), (64, ED.p113), (65, ED.p127)]) 100000 34 ED.a128 ED.m128 []).one = some (ED.v128, ED.n128) := by kernel_rfl
set_option maxHeartbeats 40000000 in
theorem t122 : (callS Tryz.prog (EB.cfg []) 100000 113 ED.a122 ED.m122 []).one = some (ED.v122, ED.n122) := by kernel_rfl
set_option maxHeartbeats 40000000 in
theorem t136 : (callS Tryz.prog (EB.cfg []) 100000 113 ED.a136 ED.m136 []).one = some (ED.v136, ED.n136) := by kernel_rfl
set_option maxHeartbeats 40000000 in
theorem t144 : (callS Tryz.prog (EB.cfg [(62, ED.p141), (51, ED.p109), (50, ED.p142), (64, ED.p139), (65, ED.p143)]) 100000 34 ED.a144 ED.m144 []).one = some (ED.v144, ED.n144) := by kernel_rfl
set_option maxHeartbeats 40000000 in
theorem t305 : (callS Tryz.prog (EB.cfg [(64, ED.p287)]) 100000 39 ED.a305 ED.m305 []).one = some (ED.v305, ED.n305) := by kernel_rfl
set_option maxHeartbeats 40000000 in
theorem mp45 : pieceL Tryz.prog (EB.cfg [(75, ED.p31), (76, ED.p32), (77, ED.p34), (77, ED.p36), (77, ED.p39), (77, ED.p41), (77, ED.p43), (78, ED.p44)]) 100000 ((spineC (EB.bodyOf Tryz.f44)).take 8) ED.m45.length (begA Tryz.f44 ED.a45 ED.m45) = some ED.x45 := by kernel_rfl
set_option maxHeartbeats 40000000 in
theorem t291 : (callS Tryz.prog (EB.cfg [(64, ED.p287)]) 100000 39 ED.a291 ED.m291 []).one = some (ED.v291, ED.n291) := by kernel_rfl
set_option maxHeartbeats 40000000 in
theorem t252 : (callS Tryz.prog (EB.cfg [(64, ED.p234)]) 100000 39 ED.a252 ED.m252 []).one = some (ED.v252, ED.n252) := by kernel_rfl
set_option maxHeartbeats 40000000 in
theorem t210 : (callS Tryz.prog (EB.cfg [(64, ED.p202)]) 100000 39 ED.a210 ED.m210 []).one = some (ED.v210, ED.n210) := by kernel_rfl
set_option maxHeartbeats 40000000 in
theorem t162 : (callS Tryz.prog (EB.cfg [(64, ED.p154)]) 100000 39 ED.a162 ED.m162 []).one = some (ED.v162, ED.n162) := by kernel_rfl
set_option maxHeartbeats 40000000 in
theorem t194 : (callS Tryz.prog (EB.cfg [(64, ED.p186)]) 100000 39 ED.a194 ED.m194 []).one = some (ED.v194, ED.n194) := by kernel_rfl
set_option maxHeartbeats 40000000 in
theorem t131 : (callS Tryz.prog (EB.cfg [(64, ED.p113)]) 100000 39 ED.a131 ED.m131 []).one = some (ED.v131, ED.n131) := by kernel_rfl
set_option maxHeartbeats 40000000 in
theorem t147 : (callS Tryz.prog (EB.cfg [(64, ED.p139)]) 100000 39 ED.a147 ED.m147 []).one = some (ED.v147, ED.n147) := by kernel_rfl
set_option maxHeartbeats 40000000 in
theorem t117 : (callS Tryz.prog (EB.cfg [(64, ED.p113)]) 100000 39 ED.a117 ED.m117 []).one = some (ED.v117, ED.n117) := by kernel_rfl
set_option maxHeartbeats 40000000 in
theorem rp31 : pieceL Tryz.prog (EB.cfg [(173, ED.p1), (101, ED.p3), (102, ED.p4), (103, ED.p5), (173, ED.p6), (101, ED.p8), (102, ED.p9), (103, ED.p10), (173, ED.p11), (101, ED.p13), (102, ED.p14), (103, ED.p15), (173, ED.p16), (101, ED.p18), (102, ED.p19), (103, ED.p20), (173, ED.p21), (101, ED.p23), (102, ED.p24), (103, ED.p25), (173, ED.p26), (101, ED.p28), (102, ED.p29), (103, ED.p30)]) 100000 ((spineC (EB.bodyOf Tryz.f75)).take 6) ED.m31.length (begA Tryz.f75 ED.a31 ED.m31) = some ED.r31 := by kernel_rfl
set_option maxHeartbeats 40000000 in
theorem rr31 : (restL Tryz.prog (EB.cfg [(173, ED.p1), (101, ED.p3), (102, ED.p4), (103, ED.p5), (173, ED.p6), (101, ED.p8), (102, ED.p9), (103, ED.p10), (173, ED.p11), (101, ED.p13), (102, ED.p14), (103, ED.p15), (173, ED.p16), (101, ED.p18), (102, ED.p19), (103, ED.p20), (173, ED.p21), (101, ED.p23), (102, ED.p24), (103, ED.p25), (173, ED.p26), (101, ED.p28), (102, ED.p29), (103, ED.p30)]) 100000 Tryz.f75 ED.m31.length ((spineC (EB.bodyOf Tryz.f75)).drop 7) { ED.r31 with mem := ED.rm31 }).one = some (ED.v31, ED.n31) := by kernel_rfl
set_option maxHeartbeats 40000000 in
theorem rp100 : pieceL Tryz.prog (EB.cfg [(37, ED.p98), (37, ED.p53), (37, ED.p99)]) 100000 ((spineC (EB.bodyOf Tryz.f191)).take 2) ED.m100.length (begA Tryz.f191 ED.a100 ED.m100) = some ED.r100 := by kernel_rfl
set_option maxHeartbeats 40000000 in
theorem rr100 : (restL Tryz.prog (EB.cfg [(37, ED.p98), (37, ED.p53), (37, ED.p99)]) 100000 Tryz.f191 ED.m100.length ((spineC (EB.bodyOf Tryz.f191)).drop 3) { ED.r100 with mem := ED.rm100 }).one = some (ED.v100, ED.n100) := by kernel_rfl
set_option maxHeartbeats 40000000 in
theorem rp275 : pieceL Tryz.prog (EB.cfg [(37, ED.p271), (37, ED.p272), (37, ED.p273), (37, ED.p274)]) 100000 ((spineC (EB.bodyOf Tryz.f191)).take 2) ED.m275.length (begA Tryz.f191 ED.a275 ED.m275) = some ED.r275 := by kernel_rfl
set_option maxHeartbeats 40000000 in
theorem rr275 : (restL Tryz.prog (EB.cfg [(37, ED.p271), (37, ED.p272), (37, ED.p273), (37, ED.p274)]) 100000 Tryz.f191 ED.m275.length ((spineC (EB.bodyOf Tryz.f191)).drop 3) { ED.r275 with mem := ED.rm275 }).one = some (ED.v275, ED.n275) := by kernel_rfl
set_option maxHeartbeats 40000000 in
theorem wl : (runL Tryz.prog (EB.cfg []) 100000 ((spineC (EB.bodyOf Tryz.f76)).drop 4) ED.wf (finK Tryz.prog Tryz.f76 ED.m32.length)).one = some (ED.v32, ED.n32) := by kernel_rfl
set_option maxHeartbeats 40000000 in
theorem t238 : (callS Tryz.prog (EB.cfg []) 100000 51 ED.a238 ED.m238 []).one = some (ED.v238, ED.n238) := by kernel_rfl
set_option maxHeartbeats 40000000 in
theorem t65 : (callS Tryz.prog (EB.cfg []) 100000 51 ED.a65 ED.m65 []).one = some (ED.v65, ED.n65) := by kernel_rfl
set_option maxHeartbeats 40000000 in
theorem t306 : (callS Tryz.prog (EB.cfg [(38, ED.p304), (39, ED.p305), (37, ED.p292)]) 100000 17 ED.a306 ED.m306 []).one = some (ED.v306, ED.n306) := by kernel_rfl
set_option maxHeartbeats 40000000 in
theorem t228 : (callS Tryz.prog (EB.cfg [(38, ED.p225), (39, ED.p226), (37, ED.p227)]) 100000 17 ED.a228 ED.m228 []).one = some (ED.v228, ED.n228) := by kernel_rfl
set_option maxHeartbeats 40000000 in
theorem t293 : (callS Tryz.prog (EB.cfg [(38, ED.p290), (39, ED.p291), (37, ED.p292)]) 100000 17 ED.a293 ED.m293 []).one = some (ED.v293, ED.n293) := by kernel_rfl
set_option maxHeartbeats 40000000 in
theorem t267 : (callS Tryz.prog (EB.cfg []) 100000 161 ED.a267 ED.m267 []).one = some (ED.v267, ED.n267) := by kernel_rfl
set_option maxHeartbeats 40000000 in
theorem t232 : (callS Tryz.prog (EB.cfg []) 100000 161 ED.a232 ED.m232 []).one = some (ED.v232, ED.n232) := by kernel_rfl
set_option maxHeartbeats 40000000 in
theorem t216 : (callS Tryz.prog (EB.cfg []) 100000 161 ED.a216 ED.m216 []).one = some (ED.v216, ED.n216) := by kernel_rfl
set_option maxHeartbeats 40000000 in
theorem t265 : (callS Tryz.prog (EB.cfg []) 100000 161 ED.a265 ED.m265 []).one = some (ED.v265, ED.n265) := by kernel_rfl
set_option maxHeartbeats 40000000 in
theorem t59 : (callS Tryz.prog (EB.cfg []) 100000 161 ED.a59 ED.m59 []).one = some (ED.v59, ED.n59) := by kernel_rfl
set_option maxHeartbeats 40000000 in
theorem t264 : (callS Tryz.prog (EB.cfg []) 100000 188 ED.a264 ED.m264 []).one = some (ED.v264, ED.n264) := by kernel_rfl
set_option maxHeartbeats 40000000 in
theorem t184 : (callS Tryz.prog (EB.cfg []) 100000 161 ED.a184 ED.m184 []).one = some (ED.v184, ED.n184) := by kernel_rfl
set_option maxHeartbeats 40000000 in
theorem t300 : (callS Tryz.prog (EB.cfg []) 100000 50 ED.a300 ED.m300 []).one = some (ED.v300, ED.n300) := by kernel_rfl
set_option maxHeartbeats 40000000 in
theorem t239 : (callS Tryz.prog (EB.cfg []) 100000 50 ED.a239 ED.m239 []).one = some (ED.v239, ED.n239) := by kernel_rfl
set_option maxHeartbeats 40000000 in
theorem t189 : (callS Tryz.prog (EB.cfg []) 100000 50 ED.a189 ED.m189 []).one = some (ED.v189, ED.n189) := by kernel_rfl
set_option maxHeartbeats 40000000 in
theorem t66 : (callS Tryz.prog (EB.cfg []) 100000 50 ED.a66 ED.m66 []).one = some (ED.v66, ED.n66) := by kernel_rfl
set_option maxHeartbeats 40000000 in
theorem t173 : (callS Tryz.prog (EB.cfg []) 100000 50 ED.a173 ED.m173 []).one = some (ED.v173, ED.n173) := by kernel_rfl
set_option maxHeartbeats 40000000 in
theorem t49 : (callS Tryz.prog (EB.cfg []) 100000 50 ED.a49 ED.m49 []).one = some (ED.v49, ED.n49) := by kernel_rfl
set_option maxHeartbeats 40000000 in
theorem t254 : (callS Tryz.prog (EB.cfg [(38, ED.p251), (39, ED.p252), (37, ED.p253)]) 100000 17 ED.a254 ED.m254 []).one = some (ED.v254, ED.n254) := by kernel_rfl
set_option maxHeartbeats 40000000 in
theorem t142 : (callS Tryz.prog (EB.cfg []) 100000 50 ED.a142 ED.m142 []).one = some (ED.v142, ED.n142) := by kernel_rfl
set_option maxHeartbeats 40000000 in
theorem t157 : (callS Tryz.prog (EB.cfg []) 100000 50 ED.a157 ED.m157 []).one = some (ED.v157, ED.n157) := by kernel_rfl
set_option maxHeartbeats 40000000 in
theorem t44 : (callS Tryz.prog (EB.cfg []) 100000 78 ED.a44 ED.m44 []).one = some (ED.v44, ED.n44) := by kernel_rfl
end Go.Proofs.YtnmmomopnaglbaaGreatDoor.E
