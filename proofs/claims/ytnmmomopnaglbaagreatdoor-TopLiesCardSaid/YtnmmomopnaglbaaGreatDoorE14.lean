/- What calls of the program come to, with everything known. No conditions. -/
import Derived.Test.YtnmmomopnaglbaaGreatDoorEB
import Derived.Test.YtnmmomopnaglbaaGreatDoorEDw
namespace Go.Proofs.YtnmmomopnaglbaaGreatDoor.E
open Go Go.SX Go.Proofs.YtnmmomopnaglbaaGreatDoor
set_option maxRecDepth 100000
set_option maxHeartbeats 40000000 in
theorem t76 : (callS Tryz.prog (EB.cfg [(67, ED.p75), (68, ED.p69)]) 100000 36 ED.a76 ED.m76 []).one = some (ED.v76, ED.n76) := by kernel_rfl
set_option maxHeartbeats 40000000 in
theorem t286 : (callS Tryz.prog (EB.cfg [(161, ED.p111)]) 100000 124 ED.a286 ED.m286 []).one = some (ED.v286, ED.n286) := by kernel_rfl
set_option maxHeartbeats 40000000 in
theorem t217 : (callS Tryz.prog (EB.cfg [(161, ED.p216)]) 100000 124 ED.a217 ED.m217 []).one = some (ED.v217, ED.n217) := by kernel_rfl
set_option maxHeartbeats 40000000 in
theorem t201 : (callS Tryz.prog (EB.cfg [(161, ED.p200)]) 100000 124 ED.a201 ED.m201 []).one = some (ED.v201, ED.n201) := by kernel_rfl
set_option maxHeartbeats 40000000 in
theorem t233 : (callS Tryz.prog (EB.cfg [(161, ED.p232)]) 100000 124 ED.a233 ED.m233 []).one = some (ED.v233, ED.n233) := by kernel_rfl
set_option maxHeartbeats 40000000 in
theorem t169 : (callS Tryz.prog (EB.cfg [(161, ED.p168)]) 100000 124 ED.a169 ED.m169 []).one = some (ED.v169, ED.n169) := by kernel_rfl
set_option maxHeartbeats 40000000 in
theorem t138 : (callS Tryz.prog (EB.cfg [(161, ED.p59)]) 100000 124 ED.a138 ED.m138 []).one = some (ED.v138, ED.n138) := by kernel_rfl
set_option maxHeartbeats 40000000 in
theorem t60 : (callS Tryz.prog (EB.cfg [(161, ED.p59)]) 100000 124 ED.a60 ED.m60 []).one = some (ED.v60, ED.n60) := by kernel_rfl
set_option maxHeartbeats 40000000 in
theorem t112 : (callS Tryz.prog (EB.cfg [(161, ED.p111)]) 100000 124 ED.a112 ED.m112 []).one = some (ED.v112, ED.n112) := by kernel_rfl
set_option maxHeartbeats 40000000 in
theorem t197 : (callS Tryz.prog (EB.cfg [(37, ED.p53)]) 100000 28 ED.a197 ED.m197 []).one = some (ED.v197, ED.n197) := by kernel_rfl
set_option maxHeartbeats 40000000 in
theorem t82 : (callS Tryz.prog (EB.cfg [(37, ED.p53)]) 100000 28 ED.a82 ED.m82 []).one = some (ED.v82, ED.n82) := by kernel_rfl
set_option maxHeartbeats 40000000 in
theorem t178 : (callS Tryz.prog (EB.cfg [(64, ED.p170)]) 100000 39 ED.a178 ED.m178 []).one = some (ED.v178, ED.n178) := by kernel_rfl
end Go.Proofs.YtnmmomopnaglbaaGreatDoor.E
