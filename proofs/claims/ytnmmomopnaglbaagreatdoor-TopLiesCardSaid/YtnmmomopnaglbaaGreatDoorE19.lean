/- What calls of the program come to, with everything known. No conditions. -/
import Derived.Test.YtnmmomopnaglbaaGreatDoorEB
import Derived.Test.YtnmmomopnaglbaaGreatDoorEDw
namespace Go.Proofs.YtnmmomopnaglbaaGreatDoor.E
open Go Go.SX Go.Proofs.YtnmmomopnaglbaaGreatDoor
set_option maxRecDepth 100000
set_option maxHeartbeats 40000000 in
theorem t46 : (callS Tryz.prog (EB.cfg []) 100000 46 ED.a46 ED.m46 []).one = some (ED.v46, ED.n46) := by kernel_rfl
set_option maxHeartbeats 40000000 in
theorem t56 : (callS Tryz.prog (EB.cfg [(58, ED.p55)]) 100000 29 ED.a56 ED.m56 []).one = some (ED.v56, ED.n56) := by kernel_rfl
set_option maxHeartbeats 40000000 in
theorem t29 : (callS Tryz.prog (EB.cfg []) 100000 102 ED.a29 ED.m29 []).one = some (ED.v29, ED.n29) := by kernel_rfl
set_option maxHeartbeats 40000000 in
theorem mo45 : opsP Tryz.prog (EB.cfg [(75, ED.p31), (76, ED.p32), (77, ED.p34), (77, ED.p36), (77, ED.p39), (77, ED.p41), (77, ED.p43), (78, ED.p44)]) 100000 (EB.opsOf (spineC (EB.bodyOf Tryz.f44))[8]?) ED.m45.length (List.range 1) ED.x45 = some ED.y45 := by kernel_rfl
set_option maxHeartbeats 40000000 in
theorem mo67 : opsP Tryz.prog (EB.cfg []) 100000 (EB.opsOf (spineC (EB.bodyOf Tryz.f65))[5]?) ED.m67.length (List.range 4) ED.x67 = some ED.y67 := by kernel_rfl
set_option maxHeartbeats 40000000 in
theorem mo114 : opsP Tryz.prog (EB.cfg []) 100000 (EB.opsOf (spineC (EB.bodyOf Tryz.f65))[5]?) ED.m114.length (List.range 4) ED.x114 = some ED.y114 := by kernel_rfl
set_option maxHeartbeats 40000000 in
theorem mo127 : opsP Tryz.prog (EB.cfg []) 100000 (EB.opsOf (spineC (EB.bodyOf Tryz.f65))[5]?) ED.m127.length (List.range 4) ED.x127 = some ED.y127 := by kernel_rfl
set_option maxHeartbeats 40000000 in
theorem mo143 : opsP Tryz.prog (EB.cfg []) 100000 (EB.opsOf (spineC (EB.bodyOf Tryz.f65))[5]?) ED.m143.length (List.range 4) ED.x143 = some ED.y143 := by kernel_rfl
set_option maxHeartbeats 40000000 in
theorem mo158 : opsP Tryz.prog (EB.cfg []) 100000 (EB.opsOf (spineC (EB.bodyOf Tryz.f65))[5]?) ED.m158.length (List.range 4) ED.x158 = some ED.y158 := by kernel_rfl
set_option maxHeartbeats 40000000 in
theorem mo174 : opsP Tryz.prog (EB.cfg []) 100000 (EB.opsOf (spineC (EB.bodyOf Tryz.f65))[5]?) ED.m174.length (List.range 4) ED.x174 = some ED.y174 := by kernel_rfl
set_option maxHeartbeats 40000000 in
theorem mo190 : opsP Tryz.prog (EB.cfg []) 100000 (EB.opsOf (spineC (EB.bodyOf Tryz.f65))[5]?) ED.m190.length (List.range 4) ED.x190 = some ED.y190 := by kernel_rfl
set_option maxHeartbeats 40000000 in
theorem mo206 : opsP Tryz.prog (EB.cfg []) 100000 (EB.opsOf (spineC (EB.bodyOf Tryz.f65))[5]?) ED.m206.length (List.range 4) ED.x206 = some ED.y206 := by kernel_rfl
set_option maxHeartbeats 40000000 in
theorem mo222 : opsP Tryz.prog (EB.cfg []) 100000 (EB.opsOf (spineC (EB.bodyOf Tryz.f65))[5]?) ED.m222.length (List.range 4) ED.x222 = some ED.y222 := by kernel_rfl
set_option maxHeartbeats 40000000 in
theorem mo240 : opsP Tryz.prog (EB.cfg []) 100000 (EB.opsOf (spineC (EB.bodyOf Tryz.f65))[5]?) ED.m240.length (List.range 4) ED.x240 = some ED.y240 := by kernel_rfl
set_option maxHeartbeats 40000000 in
theorem mo288 : opsP Tryz.prog (EB.cfg []) 100000 (EB.opsOf (spineC (EB.bodyOf Tryz.f65))[5]?) ED.m288.length (List.range 4) ED.x288 = some ED.y288 := by kernel_rfl
set_option maxHeartbeats 40000000 in
theorem mo301 : opsP Tryz.prog (EB.cfg []) 100000 (EB.opsOf (spineC (EB.bodyOf Tryz.f65))[5]?) ED.m301.length (List.range 4) ED.x301 = some ED.y301 := by kernel_rfl
end Go.Proofs.YtnmmomopnaglbaaGreatDoor.E
