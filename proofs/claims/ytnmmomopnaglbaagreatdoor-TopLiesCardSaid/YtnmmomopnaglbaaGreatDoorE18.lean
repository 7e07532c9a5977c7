/- What calls of the program come to, with everything known. No conditions. -/
import Derived.Test.YtnmmomopnaglbaaGreatDoorEB
import Derived.Test.YtnmmomopnaglbaaGreatDoorEDw
namespace Go.Proofs.YtnmmomopnaglbaaGreatDoor.E
open Go Go.SX Go.Proofs.YtnmmomopnaglbaaGreatDoor
set_option maxRecDepth 100000
set_option maxHeartbeats 40000000 in
theorem t92 : (callS Tryz.prog (EB.cfg []) 100000 161 ED.a92 ED.m92 []).one = some (ED.v92, ED.n92) := by kernel_rfl
set_option maxHeartbeats 40000000 in
theorem t126 : (callS Tryz.prog (EB.cfg []) 100000 50 ED.a126 ED.m126 []).one = some (ED.v126, ED.n126) := by kernel_rfl
set_option maxHeartbeats 40000000 in
theorem t110 : (callS Tryz.prog (EB.cfg []) 100000 50 ED.a110 ED.m110 []).one = some (ED.v110, ED.n110) := by kernel_rfl
set_option maxHeartbeats 40000000 in
theorem t221 : (callS Tryz.prog (EB.cfg []) 100000 50 ED.a221 ED.m221 []).one = some (ED.v221, ED.n221) := by kernel_rfl
set_option maxHeartbeats 40000000 in
theorem t85 : (callS Tryz.prog (EB.cfg []) 100000 161 ED.a85 ED.m85 []).one = some (ED.v85, ED.n85) := by kernel_rfl
set_option maxHeartbeats 40000000 in
theorem t258 : (callS Tryz.prog (EB.cfg []) 100000 161 ED.a258 ED.m258 []).one = some (ED.v258, ED.n258) := by kernel_rfl
set_option maxHeartbeats 40000000 in
theorem t94 : (callS Tryz.prog (EB.cfg []) 100000 161 ED.a94 ED.m94 []).one = some (ED.v94, ED.n94) := by kernel_rfl
set_option maxHeartbeats 40000000 in
theorem t168 : (callS Tryz.prog (EB.cfg []) 100000 161 ED.a168 ED.m168 []).one = some (ED.v168, ED.n168) := by kernel_rfl
set_option maxHeartbeats 40000000 in
theorem t91 : (callS Tryz.prog (EB.cfg []) 100000 188 ED.a91 ED.m91 []).one = some (ED.v91, ED.n91) := by kernel_rfl
set_option maxHeartbeats 40000000 in
theorem t247 : (callS Tryz.prog (EB.cfg [(68, ED.p242), (188, ED.p244), (277, ED.p246)]) 100000 276 ED.a247 ED.m247 []).one = some (ED.v247, ED.n247) := by kernel_rfl
set_option maxHeartbeats 40000000 in
theorem t111 : (callS Tryz.prog (EB.cfg []) 100000 161 ED.a111 ED.m111 []).one = some (ED.v111, ED.n111) := by kernel_rfl
set_option maxHeartbeats 40000000 in
theorem t63 : (callS Tryz.prog (EB.cfg [(153, ED.p62)]) 100000 87 ED.a63 ED.m63 []).one = some (ED.v63, ED.n63) := by kernel_rfl
set_option maxHeartbeats 40000000 in
theorem t4 : (callS Tryz.prog (EB.cfg []) 100000 102 ED.a4 ED.m4 []).one = some (ED.v4, ED.n4) := by kernel_rfl
set_option maxHeartbeats 40000000 in
theorem t212 : (callS Tryz.prog (EB.cfg [(38, ED.p209), (39, ED.p210), (37, ED.p211)]) 100000 17 ED.a212 ED.m212 []).one = some (ED.v212, ED.n212) := by kernel_rfl
set_option maxHeartbeats 40000000 in
theorem t74 : (callS Tryz.prog (EB.cfg [(68, ED.p69), (188, ED.p71), (277, ED.p73)]) 100000 276 ED.a74 ED.m74 []).one = some (ED.v74, ED.n74) := by kernel_rfl
set_option maxHeartbeats 40000000 in
theorem wd : doneT (EB.opsOf (spineC (EB.bodyOf Tryz.f76))[3]?) ED.wl15 = some ED.wf := by kernel_rfl
set_option maxHeartbeats 40000000 in
theorem t236 : (callS Tryz.prog (EB.cfg [(153, ED.p235)]) 100000 87 ED.a236 ED.m236 []).one = some (ED.v236, ED.n236) := by kernel_rfl
set_option maxHeartbeats 40000000 in
theorem t244 : (callS Tryz.prog (EB.cfg []) 100000 188 ED.a244 ED.m244 []).one = some (ED.v244, ED.n244) := by kernel_rfl
set_option maxHeartbeats 40000000 in
theorem t196 : (callS Tryz.prog (EB.cfg [(38, ED.p193), (39, ED.p194), (37, ED.p195)]) 100000 17 ED.a196 ED.m196 []).one = some (ED.v196, ED.n196) := by kernel_rfl
set_option maxHeartbeats 40000000 in
theorem t180 : (callS Tryz.prog (EB.cfg [(38, ED.p177), (39, ED.p178), (37, ED.p179)]) 100000 17 ED.a180 ED.m180 []).one = some (ED.v180, ED.n180) := by kernel_rfl
set_option maxHeartbeats 40000000 in
theorem t266 : (callS Tryz.prog (EB.cfg []) 100000 188 ED.a266 ED.m266 []).one = some (ED.v266, ED.n266) := by kernel_rfl
set_option maxHeartbeats 40000000 in
theorem t164 : (callS Tryz.prog (EB.cfg [(38, ED.p161), (39, ED.p162), (37, ED.p163)]) 100000 17 ED.a164 ED.m164 []).one = some (ED.v164, ED.n164) := by kernel_rfl
set_option maxHeartbeats 40000000 in
theorem t93 : (callS Tryz.prog (EB.cfg []) 100000 188 ED.a93 ED.m93 []).one = some (ED.v93, ED.n93) := by kernel_rfl
set_option maxHeartbeats 40000000 in
theorem t310 : (callS Tryz.prog (EB.cfg [(72, ED.p309)]) 100000 20 ED.a310 ED.m310 []).one = some (ED.v310, ED.n310) := by kernel_rfl
set_option maxHeartbeats 40000000 in
theorem t14 : (callS Tryz.prog (EB.cfg []) 100000 102 ED.a14 ED.m14 []).one = some (ED.v14, ED.n14) := by kernel_rfl
set_option maxHeartbeats 40000000 in
theorem t149 : (callS Tryz.prog (EB.cfg [(38, ED.p146), (39, ED.p147), (37, ED.p148)]) 100000 17 ED.a149 ED.m149 []).one = some (ED.v149, ED.n149) := by kernel_rfl
set_option maxHeartbeats 40000000 in
theorem mc67 : closedM Tryz.prog (EB.cfg []) 100000 (EB.opsOf (spineC (EB.loopOf (spineC (EB.bodyOf Tryz.f65))[6]?))[0]?) (EB.opsOf (spineC (EB.blkOf (spineC (EB.loopOf (spineC (EB.bodyOf Tryz.f65))[6]?))[2]?))[0]?) ((spineC (EB.loopOf (spineC (EB.bodyOf Tryz.f65))[6]?))[1]?.getD .skip) ((spineC (EB.blkOf (spineC (EB.loopOf (spineC (EB.bodyOf Tryz.f65))[6]?))[2]?)).drop 1) 16 18 15 (ED.y67.mem.length + 1) ((⟨ED.y67.slots.set 15 (some (.ptr ED.y67.mem.length 0)), ED.y67.mem.set 1 .dead ++ [.dead], []⟩ : ASt) :: ED.z67) ED.z67 [(.i .i64 0)] [(.agg (.cons (.int .i64 (.lit 1500000001)) (.cons (.int .i64 (.lit 2)) .nil)))] = true := by kernel_rfl
set_option maxHeartbeats 40000000 in
theorem ml67 : lastAll Tryz.prog (EB.cfg []) 100000 Tryz.f65 (EB.opsOf (spineC (EB.loopOf (spineC (EB.bodyOf Tryz.f65))[6]?))[0]?) ((spineC (EB.loopOf (spineC (EB.bodyOf Tryz.f65))[6]?))[1]?.getD .skip) ((spineC (EB.bodyOf Tryz.f65)).drop 7) 16 ED.m67.length 0 1 (.mp [(.i .i64 0)] [(.agg (.cons (.int .i64 (.lit 1500000001)) (.cons (.int .i64 (.lit 2)) .nil)))]) ED.z67 ED.v67 ED.n67 = true := by kernel_rfl
set_option maxHeartbeats 40000000 in
theorem mc114 : closedM Tryz.prog (EB.cfg []) 100000 (EB.opsOf (spineC (EB.loopOf (spineC (EB.bodyOf Tryz.f65))[6]?))[0]?) (EB.opsOf (spineC (EB.blkOf (spineC (EB.loopOf (spineC (EB.bodyOf Tryz.f65))[6]?))[2]?))[0]?) ((spineC (EB.loopOf (spineC (EB.bodyOf Tryz.f65))[6]?))[1]?.getD .skip) ((spineC (EB.blkOf (spineC (EB.loopOf (spineC (EB.bodyOf Tryz.f65))[6]?))[2]?)).drop 1) 16 18 15 (ED.y114.mem.length + 1) ((⟨ED.y114.slots.set 15 (some (.ptr ED.y114.mem.length 0)), ED.y114.mem.set 1 .dead ++ [.dead], []⟩ : ASt) :: ED.z114) ED.z114 [(.i .i64 0)] [(.agg (.cons (.int .i64 (.lit 4500000000)) (.cons (.int .i64 (.lit 3)) .nil)))] = true := by kernel_rfl
set_option maxHeartbeats 40000000 in
theorem ml114 : lastAll Tryz.prog (EB.cfg []) 100000 Tryz.f65 (EB.opsOf (spineC (EB.loopOf (spineC (EB.bodyOf Tryz.f65))[6]?))[0]?) ((spineC (EB.loopOf (spineC (EB.bodyOf Tryz.f65))[6]?))[1]?.getD .skip) ((spineC (EB.bodyOf Tryz.f65)).drop 7) 16 ED.m114.length 0 1 (.mp [(.i .i64 0)] [(.agg (.cons (.int .i64 (.lit 4500000000)) (.cons (.int .i64 (.lit 3)) .nil)))]) ED.z114 ED.v114 ED.n114 = true := by kernel_rfl
set_option maxHeartbeats 40000000 in
theorem mc127 : closedM Tryz.prog (EB.cfg []) 100000 (EB.opsOf (spineC (EB.loopOf (spineC (EB.bodyOf Tryz.f65))[6]?))[0]?) (EB.opsOf (spineC (EB.blkOf (spineC (EB.loopOf (spineC (EB.bodyOf Tryz.f65))[6]?))[2]?))[0]?) ((spineC (EB.loopOf (spineC (EB.bodyOf Tryz.f65))[6]?))[1]?.getD .skip) ((spineC (EB.blkOf (spineC (EB.loopOf (spineC (EB.bodyOf Tryz.f65))[6]?))[2]?)).drop 1) 16 18 15 (ED.y127.mem.length + 1) ((⟨ED.y127.slots.set 15 (some (.ptr ED.y127.mem.length 0)), ED.y127.mem.set 1 .dead ++ [.dead], []⟩ : ASt) :: ED.z127) ED.z127 [(.i .i64 0)] [(.agg (.cons (.int .i64 (.lit 4500000000)) (.cons (.int .i64 (.lit 4)) .nil)))] = true := by kernel_rfl
set_option maxHeartbeats 40000000 in
theorem ml127 : lastAll Tryz.prog (EB.cfg []) 100000 Tryz.f65 (EB.opsOf (spineC (EB.loopOf (spineC (EB.bodyOf Tryz.f65))[6]?))[0]?) ((spineC (EB.loopOf (spineC (EB.bodyOf Tryz.f65))[6]?))[1]?.getD .skip) ((spineC (EB.bodyOf Tryz.f65)).drop 7) 16 ED.m127.length 0 1 (.mp [(.i .i64 0)] [(.agg (.cons (.int .i64 (.lit 4500000000)) (.cons (.int .i64 (.lit 4)) .nil)))]) ED.z127 ED.v127 ED.n127 = true := by kernel_rfl
set_option maxHeartbeats 40000000 in
theorem mc143 : closedM Tryz.prog (EB.cfg []) 100000 (EB.opsOf (spineC (EB.loopOf (spineC (EB.bodyOf Tryz.f65))[6]?))[0]?) (EB.opsOf (spineC (EB.blkOf (spineC (EB.loopOf (spineC (EB.bodyOf Tryz.f65))[6]?))[2]?))[0]?) ((spineC (EB.loopOf (spineC (EB.bodyOf Tryz.f65))[6]?))[1]?.getD .skip) ((spineC (EB.blkOf (spineC (EB.loopOf (spineC (EB.bodyOf Tryz.f65))[6]?))[2]?)).drop 1) 16 18 15 (ED.y143.mem.length + 1) ((⟨ED.y143.slots.set 15 (some (.ptr ED.y143.mem.length 0)), ED.y143.mem.set 1 .dead ++ [.dead], []⟩ : ASt) :: ED.z143) ED.z143 [(.i .i64 0)] [(.agg (.cons (.int .i64 (.lit 4500000000)) (.cons (.int .i64 (.lit 5)) .nil)))] = true := by kernel_rfl
set_option maxHeartbeats 40000000 in
theorem ml143 : lastAll Tryz.prog (EB.cfg []) 100000 Tryz.f65 (EB.opsOf (spineC (EB.loopOf (spineC (EB.bodyOf Tryz.f65))[6]?))[0]?) ((spineC (EB.loopOf (spineC (EB.bodyOf Tryz.f65))[6]?))[1]?.getD .skip) ((spineC (EB.bodyOf Tryz.f65)).drop 7) 16 ED.m143.length 0 1 (.mp [(.i .i64 0)] [(.agg (.cons (.int .i64 (.lit 4500000000)) (.cons (.int .i64 (.lit 5)) .nil)))]) ED.z143 ED.v143 ED.n143 = true := by kernel_rfl
set_option maxHeartbeats 40000000 in
theorem mc158 : closedM Tryz.prog (EB.cfg []) 100000 (EB.opsOf (spineC (EB.loopOf (spineC (EB.bodyOf Tryz.f65))[6]?))[0]?) (EB.opsOf (spineC (EB.blkOf (spineC (EB.loopOf (spineC (EB.bodyOf Tryz.f65))[6]?))[2]?))[0]?) ((spineC (EB.loopOf (spineC (EB.bodyOf Tryz.f65))[6]?))[1]?.getD .skip) ((spineC (EB.blkOf (spineC (EB.loopOf (spineC (EB.bodyOf Tryz.f65))[6]?))[2]?)).drop 1) 16 18 15 (ED.y158.mem.length + 1) ((⟨ED.y158.slots.set 15 (some (.ptr ED.y158.mem.length 0)), ED.y158.mem.set 1 .dead ++ [.dead], []⟩ : ASt) :: ED.z158) ED.z158 [(.i .i64 0)] [(.agg (.cons (.int .i64 (.lit 4500000000)) (.cons (.int .i64 (.lit 6)) .nil)))] = true := by kernel_rfl
set_option maxHeartbeats 40000000 in
theorem ml158 : lastAll Tryz.prog (EB.cfg []) 100000 Tryz.f65 (EB.opsOf (spineC (EB.loopOf (spineC (EB.bodyOf Tryz.f65))[6]?))[0]?) ((spineC (EB.loopOf (spineC (EB.bodyOf Tryz.f65))[6]?))[1]?.getD .skip) ((spineC (EB.bodyOf Tryz.f65)).drop 7) 16 ED.m158.length 0 1 (.mp [(.i .i64 0)] [(.agg (.cons (.int .i64 (.lit 4500000000)) (.cons (.int .i64 (.lit 6)) .nil)))]) ED.z158 ED.v158 ED.n158 = true := by kernel_rfl
set_option maxHeartbeats 40000000 in
theorem mc174 : closedM Tryz.prog (EB.cfg []) 100000 (EB.opsOf (spineC (EB.loopOf (spineC (EB.bodyOf Tryz.f65))[6]?))[0]?) (EB.opsOf (spineC (EB.blkOf (spineC (EB.loopOf (spineC (EB.bodyOf Tryz.f65))[6]?))[2]?))[0]?) ((spineC (EB.loopOf (spineC (EB.bodyOf Tryz.f65))[6]?))[1]?.getD .skip) ((spineC (EB.blkOf (spineC (EB.loopOf (spineC (EB.bodyOf Tryz.f65))[6]?))[2]?)).drop 1) 16 18 15 (ED.y174.mem.length + 1) ((⟨ED.y174.slots.set 15 (some (.ptr ED.y174.mem.length 0)), ED.y174.mem.set 1 .dead ++ [.dead], []⟩ : ASt) :: ED.z174) ED.z174 [(.i .i64 0)] [(.agg (.cons (.int .i64 (.lit 4500000000)) (.cons (.int .i64 (.lit 7)) .nil)))] = true := by kernel_rfl
set_option maxHeartbeats 40000000 in
theorem ml174 : lastAll Tryz.prog (EB.cfg []) 100000 Tryz.f65 (EB.opsOf (spineC (EB.loopOf (spineC (EB.bodyOf Tryz.f65))[6]?))[0]?) ((spineC (EB.loopOf (spineC (EB.bodyOf Tryz.f65))[6]?))[1]?.getD .skip) ((spineC (EB.bodyOf Tryz.f65)).drop 7) 16 ED.m174.length 0 1 (.mp [(.i .i64 0)] [(.agg (.cons (.int .i64 (.lit 4500000000)) (.cons (.int .i64 (.lit 7)) .nil)))]) ED.z174 ED.v174 ED.n174 = true := by kernel_rfl
set_option maxHeartbeats 40000000 in
theorem mc190 : closedM Tryz.prog (EB.cfg []) 100000 (EB.opsOf (spineC (EB.loopOf (spineC (EB.bodyOf Tryz.f65))[6]?))[0]?) (EB.opsOf (spineC (EB.blkOf (spineC (EB.loopOf (spineC (EB.bodyOf Tryz.f65))[6]?))[2]?))[0]?) ((spineC (EB.loopOf (spineC (EB.bodyOf Tryz.f65))[6]?))[1]?.getD .skip) ((spineC (EB.blkOf (spineC (EB.loopOf (spineC (EB.bodyOf Tryz.f65))[6]?))[2]?)).drop 1) 16 18 15 (ED.y190.mem.length + 1) ((⟨ED.y190.slots.set 15 (some (.ptr ED.y190.mem.length 0)), ED.y190.mem.set 1 .dead ++ [.dead], []⟩ : ASt) :: ED.z190) ED.z190 [(.i .i64 0)] [(.agg (.cons (.int .i64 (.lit 4500000000)) (.cons (.int .i64 (.lit 8)) .nil)))] = true := by kernel_rfl
set_option maxHeartbeats 40000000 in
theorem ml190 : lastAll Tryz.prog (EB.cfg []) 100000 Tryz.f65 (EB.opsOf (spineC (EB.loopOf (spineC (EB.bodyOf Tryz.f65))[6]?))[0]?) ((spineC (EB.loopOf (spineC (EB.bodyOf Tryz.f65))[6]?))[1]?.getD .skip) ((spineC (EB.bodyOf Tryz.f65)).drop 7) 16 ED.m190.length 0 1 (.mp [(.i .i64 0)] [(.agg (.cons (.int .i64 (.lit 4500000000)) (.cons (.int .i64 (.lit 8)) .nil)))]) ED.z190 ED.v190 ED.n190 = true := by kernel_rfl
set_option maxHeartbeats 40000000 in
theorem mc206 : closedM Tryz.prog (EB.cfg []) 100000 (EB.opsOf (spineC (EB.loopOf (spineC (EB.bodyOf Tryz.f65))[6]?))[0]?) (EB.opsOf (spineC (EB.blkOf (spineC (EB.loopOf (spineC (EB.bodyOf Tryz.f65))[6]?))[2]?))[0]?) ((spineC (EB.loopOf (spineC (EB.bodyOf Tryz.f65))[6]?))[1]?.getD .skip) ((spineC (EB.blkOf (spineC (EB.loopOf (spineC (EB.bodyOf Tryz.f65))[6]?))[2]?)).drop 1) 16 18 15 (ED.y206.mem.length + 1) ((⟨ED.y206.slots.set 15 (some (.ptr ED.y206.mem.length 0)), ED.y206.mem.set 1 .dead ++ [.dead], []⟩ : ASt) :: ED.z206) ED.z206 [(.i .i64 0)] [(.agg (.cons (.int .i64 (.lit 4500000000)) (.cons (.int .i64 (.lit 9)) .nil)))] = true := by kernel_rfl
set_option maxHeartbeats 40000000 in
theorem ml206 : lastAll Tryz.prog (EB.cfg []) 100000 Tryz.f65 (EB.opsOf (spineC (EB.loopOf (spineC (EB.bodyOf Tryz.f65))[6]?))[0]?) ((spineC (EB.loopOf (spineC (EB.bodyOf Tryz.f65))[6]?))[1]?.getD .skip) ((spineC (EB.bodyOf Tryz.f65)).drop 7) 16 ED.m206.length 0 1 (.mp [(.i .i64 0)] [(.agg (.cons (.int .i64 (.lit 4500000000)) (.cons (.int .i64 (.lit 9)) .nil)))]) ED.z206 ED.v206 ED.n206 = true := by kernel_rfl
set_option maxHeartbeats 40000000 in
theorem mc222 : closedM Tryz.prog (EB.cfg []) 100000 (EB.opsOf (spineC (EB.loopOf (spineC (EB.bodyOf Tryz.f65))[6]?))[0]?) (EB.opsOf (spineC (EB.blkOf (spineC (EB.loopOf (spineC (EB.bodyOf Tryz.f65))[6]?))[2]?))[0]?) ((spineC (EB.loopOf (spineC (EB.bodyOf Tryz.f65))[6]?))[1]?.getD .skip) ((spineC (EB.blkOf (spineC (EB.loopOf (spineC (EB.bodyOf Tryz.f65))[6]?))[2]?)).drop 1) 16 18 15 (ED.y222.mem.length + 1) ((⟨ED.y222.slots.set 15 (some (.ptr ED.y222.mem.length 0)), ED.y222.mem.set 1 .dead ++ [.dead], []⟩ : ASt) :: ED.z222) ED.z222 [(.i .i64 0)] [(.agg (.cons (.int .i64 (.lit 4500000000)) (.cons (.int .i64 (.lit 10)) .nil)))] = true := by kernel_rfl
set_option maxHeartbeats 40000000 in
theorem ml222 : lastAll Tryz.prog (EB.cfg []) 100000 Tryz.f65 (EB.opsOf (spineC (EB.loopOf (spineC (EB.bodyOf Tryz.f65))[6]?))[0]?) ((spineC (EB.loopOf (spineC (EB.bodyOf Tryz.f65))[6]?))[1]?.getD .skip) ((spineC (EB.bodyOf Tryz.f65)).drop 7) 16 ED.m222.length 0 1 (.mp [(.i .i64 0)] [(.agg (.cons (.int .i64 (.lit 4500000000)) (.cons (.int .i64 (.lit 10)) .nil)))]) ED.z222 ED.v222 ED.n222 = true := by kernel_rfl
set_option maxHeartbeats 40000000 in
theorem mc240 : closedM Tryz.prog (EB.cfg []) 100000 (EB.opsOf (spineC (EB.loopOf (spineC (EB.bodyOf Tryz.f65))[6]?))[0]?) (EB.opsOf (spineC (EB.blkOf (spineC (EB.loopOf (spineC (EB.bodyOf Tryz.f65))[6]?))[2]?))[0]?) ((spineC (EB.loopOf (spineC (EB.bodyOf Tryz.f65))[6]?))[1]?.getD .skip) ((spineC (EB.blkOf (spineC (EB.loopOf (spineC (EB.bodyOf Tryz.f65))[6]?))[2]?)).drop 1) 16 18 15 (ED.y240.mem.length + 1) ((⟨ED.y240.slots.set 15 (some (.ptr ED.y240.mem.length 0)), ED.y240.mem.set 1 .dead ++ [.dead], []⟩ : ASt) :: ED.z240) ED.z240 [(.i .i64 0)] [(.agg (.cons (.int .i64 (.lit 5500000001)) (.cons (.int .i64 (.lit 11)) .nil)))] = true := by kernel_rfl
set_option maxHeartbeats 40000000 in
theorem ml240 : lastAll Tryz.prog (EB.cfg []) 100000 Tryz.f65 (EB.opsOf (spineC (EB.loopOf (spineC (EB.bodyOf Tryz.f65))[6]?))[0]?) ((spineC (EB.loopOf (spineC (EB.bodyOf Tryz.f65))[6]?))[1]?.getD .skip) ((spineC (EB.bodyOf Tryz.f65)).drop 7) 16 ED.m240.length 0 1 (.mp [(.i .i64 0)] [(.agg (.cons (.int .i64 (.lit 5500000001)) (.cons (.int .i64 (.lit 11)) .nil)))]) ED.z240 ED.v240 ED.n240 = true := by kernel_rfl
set_option maxHeartbeats 40000000 in
theorem mc288 : closedM Tryz.prog (EB.cfg []) 100000 (EB.opsOf (spineC (EB.loopOf (spineC (EB.bodyOf Tryz.f65))[6]?))[0]?) (EB.opsOf (spineC (EB.blkOf (spineC (EB.loopOf (spineC (EB.bodyOf Tryz.f65))[6]?))[2]?))[0]?) ((spineC (EB.loopOf (spineC (EB.bodyOf Tryz.f65))[6]?))[1]?.getD .skip) ((spineC (EB.blkOf (spineC (EB.loopOf (spineC (EB.bodyOf Tryz.f65))[6]?))[2]?)).drop 1) 16 18 15 (ED.y288.mem.length + 1) ((⟨ED.y288.slots.set 15 (some (.ptr ED.y288.mem.length 0)), ED.y288.mem.set 1 .dead ++ [.dead], []⟩ : ASt) :: ED.z288) ED.z288 [(.i .i64 0)] [(.agg (.cons (.int .i64 (.lit 8500000000)) (.cons (.int .i64 (.lit 12)) .nil)))] = true := by kernel_rfl
set_option maxHeartbeats 40000000 in
theorem ml288 : lastAll Tryz.prog (EB.cfg []) 100000 Tryz.f65 (EB.opsOf (spineC (EB.loopOf (spineC (EB.bodyOf Tryz.f65))[6]?))[0]?) ((spineC (EB.loopOf (spineC (EB.bodyOf Tryz.f65))[6]?))[1]?.getD .skip) ((spineC (EB.bodyOf Tryz.f65)).drop 7) 16 ED.m288.length 0 1 (.mp [(.i .i64 0)] [(.agg (.cons (.int .i64 (.lit 8500000000)) (.cons (.int .i64 (.lit 12)) .nil)))]) ED.z288 ED.v288 ED.n288 = true := by kernel_rfl
set_option maxHeartbeats 40000000 in
theorem mc301 : closedM Tryz.prog (EB.cfg []) 100000 (EB.opsOf (spineC (EB.loopOf (spineC (EB.bodyOf Tryz.f65))[6]?))[0]?) (EB.opsOf (spineC (EB.blkOf (spineC (EB.loopOf (spineC (EB.bodyOf Tryz.f65))[6]?))[2]?))[0]?) ((spineC (EB.loopOf (spineC (EB.bodyOf Tryz.f65))[6]?))[1]?.getD .skip) ((spineC (EB.blkOf (spineC (EB.loopOf (spineC (EB.bodyOf Tryz.f65))[6]?))[2]?)).drop 1) 16 18 15 (ED.y301.mem.length + 1) ((⟨ED.y301.slots.set 15 (some (.ptr ED.y301.mem.length 0)), ED.y301.mem.set 1 .dead ++ [.dead], []⟩ : ASt) :: ED.z301) ED.z301 [(.i .i64 0)] [(.agg (.cons (.int .i64 (.lit 8500000000)) (.cons (.int .i64 (.lit 13)) .nil)))] = true := by kernel_rfl
set_option maxHeartbeats 40000000 in
theorem ml301 : lastAll Tryz.prog (EB.cfg []) 100000 Tryz.f65 (EB.opsOf (spineC (EB.loopOf (spineC (EB.bodyOf Tryz.f65))[6]?))[0]?) ((spineC (EB.loopOf (spineC (EB.bodyOf Tryz.f65))[6]?))[1]?.getD .skip) ((spineC (EB.bodyOf Tryz.f65)).drop 7) 16 ED.m301.length 0 1 (.mp [(.i .i64 0)] [(.agg (.cons (.int .i64 (.lit 8500000000)) (.cons (.int .i64 (.lit 13)) .nil)))]) ED.z301 ED.v301 ED.n301 = true := by kernel_rfl
set_option maxHeartbeats 40000000 in
theorem t19 : (callS Tryz.prog (EB.cfg []) 100000 102 ED.a19 ED.m19 []).one = some (ED.v19, ED.n19) := by kernel_rfl
set_option maxHeartbeats 40000000 in
theorem t132 : (callS Tryz.prog (EB.cfg [(38, ED.p130), (39, ED.p131), (37, ED.p118)]) 100000 17 ED.a132 ED.m132 []).one = some (ED.v132, ED.n132) := by kernel_rfl
set_option maxHeartbeats 40000000 in
theorem t276 : (callS Tryz.prog (EB.cfg [(191, ED.p275)]) 100000 159 ED.a276 ED.m276 []).one = some (ED.v276, ED.n276) := by kernel_rfl
set_option maxHeartbeats 40000000 in
theorem t9 : (callS Tryz.prog (EB.cfg []) 100000 102 ED.a9 ED.m9 []).one = some (ED.v9, ED.n9) := by kernel_rfl
set_option maxHeartbeats 40000000 in
theorem t287 : (callS Tryz.prog (EB.cfg [(124, ED.p286)]) 100000 64 ED.a287 ED.m287 []).one = some (ED.v287, ED.n287) := by kernel_rfl
set_option maxHeartbeats 40000000 in
theorem t304 : (callS Tryz.prog (EB.cfg []) 100000 38 ED.a304 ED.m304 []).one = some (ED.v304, ED.n304) := by kernel_rfl
set_option maxHeartbeats 40000000 in
theorem t119 : (callS Tryz.prog (EB.cfg [(38, ED.p116), (39, ED.p117), (37, ED.p118)]) 100000 17 ED.a119 ED.m119 []).one = some (ED.v119, ED.n119) := by kernel_rfl
set_option maxHeartbeats 40000000 in
theorem t24 : (callS Tryz.prog (EB.cfg []) 100000 102 ED.a24 ED.m24 []).one = some (ED.v24, ED.n24) := by kernel_rfl
set_option maxHeartbeats 40000000 in
theorem t251 : (callS Tryz.prog (EB.cfg []) 100000 38 ED.a251 ED.m251 []).one = some (ED.v251, ED.n251) := by kernel_rfl
set_option maxHeartbeats 40000000 in
theorem t225 : (callS Tryz.prog (EB.cfg []) 100000 38 ED.a225 ED.m225 []).one = some (ED.v225, ED.n225) := by kernel_rfl
set_option maxHeartbeats 40000000 in
theorem t102 : (callS Tryz.prog (EB.cfg []) 100000 74 ED.a102 ED.m102 []).one = some (ED.v102, ED.n102) := by kernel_rfl
set_option maxHeartbeats 40000000 in
theorem t209 : (callS Tryz.prog (EB.cfg []) 100000 38 ED.a209 ED.m209 []).one = some (ED.v209, ED.n209) := by kernel_rfl
set_option maxHeartbeats 40000000 in
theorem t101 : (callS Tryz.prog (EB.cfg [(191, ED.p100)]) 100000 159 ED.a101 ED.m101 []).one = some (ED.v101, ED.n101) := by kernel_rfl
set_option maxHeartbeats 40000000 in
theorem t81 : (callS Tryz.prog (EB.cfg [(38, ED.p78), (39, ED.p79), (37, ED.p80)]) 100000 17 ED.a81 ED.m81 []).one = some (ED.v81, ED.n81) := by kernel_rfl
set_option maxHeartbeats 40000000 in
theorem t161 : (callS Tryz.prog (EB.cfg []) 100000 38 ED.a161 ED.m161 []).one = some (ED.v161, ED.n161) := by kernel_rfl
set_option maxHeartbeats 40000000 in
theorem t290 : (callS Tryz.prog (EB.cfg []) 100000 38 ED.a290 ED.m290 []).one = some (ED.v290, ED.n290) := by kernel_rfl
set_option maxHeartbeats 40000000 in
theorem t282 : (callS Tryz.prog (EB.cfg [(124, ED.p259)]) 100000 122 ED.a282 ED.m282 []).one = some (ED.v282, ED.n282) := by kernel_rfl
set_option maxHeartbeats 40000000 in
theorem t177 : (callS Tryz.prog (EB.cfg []) 100000 38 ED.a177 ED.m177 []).one = some (ED.v177, ED.n177) := by kernel_rfl
set_option maxHeartbeats 40000000 in
theorem t277 : (callS Tryz.prog (EB.cfg []) 100000 74 ED.a277 ED.m277 []).one = some (ED.v277, ED.n277) := by kernel_rfl
set_option maxHeartbeats 40000000 in
theorem t234 : (callS Tryz.prog (EB.cfg [(124, ED.p233)]) 100000 64 ED.a234 ED.m234 []).one = some (ED.v234, ED.n234) := by kernel_rfl
set_option maxHeartbeats 40000000 in
theorem t193 : (callS Tryz.prog (EB.cfg []) 100000 38 ED.a193 ED.m193 []).one = some (ED.v193, ED.n193) := by kernel_rfl
set_option maxHeartbeats 40000000 in
theorem t107 : (callS Tryz.prog (EB.cfg [(124, ED.p86)]) 100000 122 ED.a107 ED.m107 []).one = some (ED.v107, ED.n107) := by kernel_rfl
set_option maxHeartbeats 40000000 in
theorem t260 : (callS Tryz.prog (EB.cfg [(124, ED.p259)]) 100000 64 ED.a260 ED.m260 []).one = some (ED.v260, ED.n260) := by kernel_rfl
set_option maxHeartbeats 40000000 in
theorem t202 : (callS Tryz.prog (EB.cfg [(124, ED.p201)]) 100000 64 ED.a202 ED.m202 []).one = some (ED.v202, ED.n202) := by kernel_rfl
set_option maxHeartbeats 40000000 in
theorem t170 : (callS Tryz.prog (EB.cfg [(124, ED.p169)]) 100000 64 ED.a170 ED.m170 []).one = some (ED.v170, ED.n170) := by kernel_rfl
set_option maxHeartbeats 40000000 in
theorem t130 : (callS Tryz.prog (EB.cfg []) 100000 38 ED.a130 ED.m130 []).one = some (ED.v130, ED.n130) := by kernel_rfl
set_option maxHeartbeats 40000000 in
theorem t61 : (callS Tryz.prog (EB.cfg [(124, ED.p60)]) 100000 64 ED.a61 ED.m61 []).one = some (ED.v61, ED.n61) := by kernel_rfl
set_option maxHeartbeats 40000000 in
theorem t218 : (callS Tryz.prog (EB.cfg [(124, ED.p217)]) 100000 64 ED.a218 ED.m218 []).one = some (ED.v218, ED.n218) := by kernel_rfl
set_option maxHeartbeats 40000000 in
theorem t281 : (callS Tryz.prog (EB.cfg [(159, ED.p276), (10, ED.p280)]) 100000 121 ED.a281 ED.m281 []).one = some (ED.v281, ED.n281) := by kernel_rfl
set_option maxHeartbeats 40000000 in
theorem t298 : (callS Tryz.prog (EB.cfg []) 100000 87 ED.a298 ED.m298 []).one = some (ED.v298, ED.n298) := by kernel_rfl
set_option maxHeartbeats 40000000 in
theorem t186 : (callS Tryz.prog (EB.cfg [(124, ED.p185)]) 100000 64 ED.a186 ED.m186 []).one = some (ED.v186, ED.n186) := by kernel_rfl
set_option maxHeartbeats 40000000 in
theorem t154 : (callS Tryz.prog (EB.cfg [(124, ED.p153)]) 100000 64 ED.a154 ED.m154 []).one = some (ED.v154, ED.n154) := by kernel_rfl
set_option maxHeartbeats 40000000 in
theorem t280 : (callS Tryz.prog (EB.cfg [(21, ED.p279)]) 100000 10 ED.a280 ED.m280 []).one = some (ED.v280, ED.n280) := by kernel_rfl
set_option maxHeartbeats 40000000 in
theorem t139 : (callS Tryz.prog (EB.cfg [(124, ED.p138)]) 100000 64 ED.a139 ED.m139 []).one = some (ED.v139, ED.n139) := by kernel_rfl
set_option maxHeartbeats 40000000 in
theorem t113 : (callS Tryz.prog (EB.cfg [(124, ED.p112)]) 100000 64 ED.a113 ED.m113 []).one = some (ED.v113, ED.n113) := by kernel_rfl
set_option maxHeartbeats 40000000 in
theorem mp114 : pieceL Tryz.prog (EB.cfg []) 100000 ((spineC (EB.bodyOf Tryz.f65)).take 5) ED.m114.length (begA Tryz.f65 ED.a114 ED.m114) = some ED.x114 := by kernel_rfl
set_option maxHeartbeats 40000000 in
theorem mp127 : pieceL Tryz.prog (EB.cfg []) 100000 ((spineC (EB.bodyOf Tryz.f65)).take 5) ED.m127.length (begA Tryz.f65 ED.a127 ED.m127) = some ED.x127 := by kernel_rfl
set_option maxHeartbeats 40000000 in
theorem mp143 : pieceL Tryz.prog (EB.cfg []) 100000 ((spineC (EB.bodyOf Tryz.f65)).take 5) ED.m143.length (begA Tryz.f65 ED.a143 ED.m143) = some ED.x143 := by kernel_rfl
set_option maxHeartbeats 40000000 in
theorem mp158 : pieceL Tryz.prog (EB.cfg []) 100000 ((spineC (EB.bodyOf Tryz.f65)).take 5) ED.m158.length (begA Tryz.f65 ED.a158 ED.m158) = some ED.x158 := by kernel_rfl
set_option maxHeartbeats 40000000 in
theorem mp174 : pieceL Tryz.prog (EB.cfg []) 100000 ((spineC (EB.bodyOf Tryz.f65)).take 5) ED.m174.length (begA Tryz.f65 ED.a174 ED.m174) = some ED.x174 := by kernel_rfl
set_option maxHeartbeats 40000000 in
theorem mp190 : pieceL Tryz.prog (EB.cfg []) 100000 ((spineC (EB.bodyOf Tryz.f65)).take 5) ED.m190.length (begA Tryz.f65 ED.a190 ED.m190) = some ED.x190 := by kernel_rfl
set_option maxHeartbeats 40000000 in
theorem mp206 : pieceL Tryz.prog (EB.cfg []) 100000 ((spineC (EB.bodyOf Tryz.f65)).take 5) ED.m206.length (begA Tryz.f65 ED.a206 ED.m206) = some ED.x206 := by kernel_rfl
set_option maxHeartbeats 40000000 in
theorem mp222 : pieceL Tryz.prog (EB.cfg []) 100000 ((spineC (EB.bodyOf Tryz.f65)).take 5) ED.m222.length (begA Tryz.f65 ED.a222 ED.m222) = some ED.x222 := by kernel_rfl
set_option maxHeartbeats 40000000 in
theorem mp240 : pieceL Tryz.prog (EB.cfg []) 100000 ((spineC (EB.bodyOf Tryz.f65)).take 5) ED.m240.length (begA Tryz.f65 ED.a240 ED.m240) = some ED.x240 := by kernel_rfl
set_option maxHeartbeats 40000000 in
theorem mp288 : pieceL Tryz.prog (EB.cfg []) 100000 ((spineC (EB.bodyOf Tryz.f65)).take 5) ED.m288.length (begA Tryz.f65 ED.a288 ED.m288) = some ED.x288 := by kernel_rfl
set_option maxHeartbeats 40000000 in
theorem mp301 : pieceL Tryz.prog (EB.cfg []) 100000 ((spineC (EB.bodyOf Tryz.f65)).take 5) ED.m301.length (begA Tryz.f65 ED.a301 ED.m301) = some ED.x301 := by kernel_rfl
set_option maxHeartbeats 40000000 in
theorem t87 : (callS Tryz.prog (EB.cfg [(124, ED.p86)]) 100000 64 ED.a87 ED.m87 []).one = some (ED.v87, ED.n87) := by kernel_rfl
set_option maxHeartbeats 40000000 in
theorem t106 : (callS Tryz.prog (EB.cfg [(159, ED.p101), (10, ED.p105)]) 100000 121 ED.a106 ED.m106 []).one = some (ED.v106, ED.n106) := by kernel_rfl
set_option maxHeartbeats 40000000 in
theorem t78 : (callS Tryz.prog (EB.cfg []) 100000 38 ED.a78 ED.m78 []).one = some (ED.v78, ED.n78) := by kernel_rfl
set_option maxHeartbeats 40000000 in
theorem t246 : (callS Tryz.prog (EB.cfg [(153, ED.p245)]) 100000 277 ED.a246 ED.m246 []).one = some (ED.v246, ED.n246) := by kernel_rfl
set_option maxHeartbeats 40000000 in
theorem t187 : (callS Tryz.prog (EB.cfg []) 100000 87 ED.a187 ED.m187 []).one = some (ED.v187, ED.n187) := by kernel_rfl
set_option maxHeartbeats 40000000 in
theorem t155 : (callS Tryz.prog (EB.cfg []) 100000 87 ED.a155 ED.m155 []).one = some (ED.v155, ED.n155) := by kernel_rfl
set_option maxHeartbeats 40000000 in
theorem t261 : (callS Tryz.prog (EB.cfg [(124, ED.p259)]) 100000 118 ED.a261 ED.m261 []).one = some (ED.v261, ED.n261) := by kernel_rfl
set_option maxHeartbeats 40000000 in
theorem t105 : (callS Tryz.prog (EB.cfg [(21, ED.p104)]) 100000 10 ED.a105 ED.m105 []).one = some (ED.v105, ED.n105) := by kernel_rfl
set_option maxHeartbeats 40000000 in
theorem t116 : (callS Tryz.prog (EB.cfg []) 100000 38 ED.a116 ED.m116 []).one = some (ED.v116, ED.n116) := by kernel_rfl
set_option maxHeartbeats 40000000 in
theorem t124 : (callS Tryz.prog (EB.cfg []) 100000 87 ED.a124 ED.m124 []).one = some (ED.v124, ED.n124) := by kernel_rfl
set_option maxHeartbeats 40000000 in
theorem t73 : (callS Tryz.prog (EB.cfg [(153, ED.p72)]) 100000 277 ED.a73 ED.m73 []).one = some (ED.v73, ED.n73) := by kernel_rfl
set_option maxHeartbeats 40000000 in
theorem t203 : (callS Tryz.prog (EB.cfg []) 100000 87 ED.a203 ED.m203 []).one = some (ED.v203, ED.n203) := by kernel_rfl
set_option maxHeartbeats 40000000 in
theorem t83 : (callS Tryz.prog (EB.cfg []) 100000 58 ED.a83 ED.m83 []).one = some (ED.v83, ED.n83) := by kernel_rfl
set_option maxHeartbeats 40000000 in
theorem t134 : (callS Tryz.prog (EB.cfg []) 100000 58 ED.a134 ED.m134 []).one = some (ED.v134, ED.n134) := by kernel_rfl
set_option maxHeartbeats 40000000 in
theorem t219 : (callS Tryz.prog (EB.cfg []) 100000 87 ED.a219 ED.m219 []).one = some (ED.v219, ED.n219) := by kernel_rfl
set_option maxHeartbeats 40000000 in
theorem t140 : (callS Tryz.prog (EB.cfg []) 100000 87 ED.a140 ED.m140 []).one = some (ED.v140, ED.n140) := by kernel_rfl
set_option maxHeartbeats 40000000 in
theorem t171 : (callS Tryz.prog (EB.cfg []) 100000 87 ED.a171 ED.m171 []).one = some (ED.v171, ED.n171) := by kernel_rfl
set_option maxHeartbeats 40000000 in
theorem t256 : (callS Tryz.prog (EB.cfg []) 100000 58 ED.a256 ED.m256 []).one = some (ED.v256, ED.n256) := by kernel_rfl
set_option maxHeartbeats 40000000 in
theorem t297 : (callS Tryz.prog (EB.cfg [(113, ED.p296)]) 100000 86 ED.a297 ED.m297 []).one = some (ED.v297, ED.n297) := by kernel_rfl
set_option maxHeartbeats 40000000 in
theorem t88 : (callS Tryz.prog (EB.cfg [(124, ED.p86)]) 100000 118 ED.a88 ED.m88 []).one = some (ED.v88, ED.n88) := by kernel_rfl
set_option maxHeartbeats 40000000 in
theorem t215 : (callS Tryz.prog (EB.cfg [(113, ED.p214)]) 100000 86 ED.a215 ED.m215 []).one = some (ED.v215, ED.n215) := by kernel_rfl
set_option maxHeartbeats 40000000 in
theorem t135 : (callS Tryz.prog (EB.cfg [(58, ED.p134)]) 100000 29 ED.a135 ED.m135 []).one = some (ED.v135, ED.n135) := by kernel_rfl
set_option maxHeartbeats 40000000 in
theorem t199 : (callS Tryz.prog (EB.cfg [(113, ED.p198)]) 100000 86 ED.a199 ED.m199 []).one = some (ED.v199, ED.n199) := by kernel_rfl
set_option maxHeartbeats 40000000 in
theorem t278 : (callS Tryz.prog (EB.cfg [(74, ED.p277)]) 100000 43 ED.a278 ED.m278 []).one = some (ED.v278, ED.n278) := by kernel_rfl
set_option maxHeartbeats 40000000 in
theorem t84 : (callS Tryz.prog (EB.cfg [(58, ED.p83)]) 100000 29 ED.a84 ED.m84 []).one = some (ED.v84, ED.n84) := by kernel_rfl
set_option maxHeartbeats 40000000 in
theorem t103 : (callS Tryz.prog (EB.cfg [(74, ED.p102)]) 100000 43 ED.a103 ED.m103 []).one = some (ED.v103, ED.n103) := by kernel_rfl
set_option maxHeartbeats 40000000 in
theorem t231 : (callS Tryz.prog (EB.cfg [(113, ED.p230)]) 100000 86 ED.a231 ED.m231 []).one = some (ED.v231, ED.n231) := by kernel_rfl
set_option maxHeartbeats 40000000 in
theorem t257 : (callS Tryz.prog (EB.cfg [(58, ED.p256)]) 100000 29 ED.a257 ED.m257 []).one = some (ED.v257, ED.n257) := by kernel_rfl
set_option maxHeartbeats 40000000 in
theorem t152 : (callS Tryz.prog (EB.cfg [(113, ED.p151)]) 100000 86 ED.a152 ED.m152 []).one = some (ED.v152, ED.n152) := by kernel_rfl
set_option maxHeartbeats 40000000 in
theorem t123 : (callS Tryz.prog (EB.cfg [(113, ED.p122)]) 100000 86 ED.a123 ED.m123 []).one = some (ED.v123, ED.n123) := by kernel_rfl
set_option maxHeartbeats 40000000 in
theorem t183 : (callS Tryz.prog (EB.cfg [(113, ED.p182)]) 100000 86 ED.a183 ED.m183 []).one = some (ED.v183, ED.n183) := by kernel_rfl
set_option maxHeartbeats 40000000 in
theorem t55 : (callS Tryz.prog (EB.cfg []) 100000 58 ED.a55 ED.m55 []).one = some (ED.v55, ED.n55) := by kernel_rfl
set_option maxHeartbeats 40000000 in
theorem t58 : (callS Tryz.prog (EB.cfg [(113, ED.p57)]) 100000 86 ED.a58 ED.m58 []).one = some (ED.v58, ED.n58) := by kernel_rfl
set_option maxHeartbeats 40000000 in
theorem t284 : (callS Tryz.prog (EB.cfg []) 100000 51 ED.a284 ED.m284 []).one = some (ED.v284, ED.n284) := by kernel_rfl
set_option maxHeartbeats 40000000 in
theorem t137 : (callS Tryz.prog (EB.cfg [(113, ED.p136)]) 100000 86 ED.a137 ED.m137 []).one = some (ED.v137, ED.n137) := by kernel_rfl
set_option maxHeartbeats 40000000 in
theorem t98 : (callS Tryz.prog (EB.cfg []) 100000 37 ED.a98 ED.m98 []).one = some (ED.v98, ED.n98) := by kernel_rfl
set_option maxHeartbeats 40000000 in
theorem t104 : (callS Tryz.prog (EB.cfg [(43, ED.p103)]) 100000 21 ED.a104 ED.m104 []).one = some (ED.v104, ED.n104) := by kernel_rfl
set_option maxHeartbeats 40000000 in
theorem t3 : (callS Tryz.prog (EB.cfg [(173, ED.p2)]) 100000 101 ED.a3 ED.m3 []).one = some (ED.v3, ED.n3) := by kernel_rfl
set_option maxHeartbeats 40000000 in
theorem t279 : (callS Tryz.prog (EB.cfg [(43, ED.p278)]) 100000 21 ED.a279 ED.m279 []).one = some (ED.v279, ED.n279) := by kernel_rfl
set_option maxHeartbeats 40000000 in
theorem t48 : (callS Tryz.prog (EB.cfg []) 100000 51 ED.a48 ED.m48 []).one = some (ED.v48, ED.n48) := by kernel_rfl
set_option maxHeartbeats 40000000 in
theorem t227 : (callS Tryz.prog (EB.cfg []) 100000 37 ED.a227 ED.m227 []).one = some (ED.v227, ED.n227) := by kernel_rfl
set_option maxHeartbeats 40000000 in
theorem t8 : (callS Tryz.prog (EB.cfg [(173, ED.p7)]) 100000 101 ED.a8 ED.m8 []).one = some (ED.v8, ED.n8) := by kernel_rfl
set_option maxHeartbeats 40000000 in
theorem t23 : (callS Tryz.prog (EB.cfg [(173, ED.p22)]) 100000 101 ED.a23 ED.m23 []).one = some (ED.v23, ED.n23) := by kernel_rfl
set_option maxHeartbeats 40000000 in
theorem t269 : (callS Tryz.prog (EB.cfg []) 100000 37 ED.a269 ED.m269 []).one = some (ED.v269, ED.n269) := by kernel_rfl
set_option maxHeartbeats 40000000 in
theorem t271 : (callS Tryz.prog (EB.cfg []) 100000 37 ED.a271 ED.m271 []).one = some (ED.v271, ED.n271) := by kernel_rfl
set_option maxHeartbeats 40000000 in
theorem t51 : (callS Tryz.prog (EB.cfg []) 100000 37 ED.a51 ED.m51 []).one = some (ED.v51, ED.n51) := by kernel_rfl
set_option maxHeartbeats 40000000 in
theorem t292 : (callS Tryz.prog (EB.cfg []) 100000 37 ED.a292 ED.m292 []).one = some (ED.v292, ED.n292) := by kernel_rfl
set_option maxHeartbeats 40000000 in
theorem t253 : (callS Tryz.prog (EB.cfg []) 100000 37 ED.a253 ED.m253 []).one = some (ED.v253, ED.n253) := by kernel_rfl
set_option maxHeartbeats 40000000 in
theorem t13 : (callS Tryz.prog (EB.cfg [(173, ED.p12)]) 100000 101 ED.a13 ED.m13 []).one = some (ED.v13, ED.n13) := by kernel_rfl
set_option maxHeartbeats 40000000 in
theorem t28 : (callS Tryz.prog (EB.cfg [(173, ED.p27)]) 100000 101 ED.a28 ED.m28 []).one = some (ED.v28, ED.n28) := by kernel_rfl
set_option maxHeartbeats 40000000 in
theorem t53 : (callS Tryz.prog (EB.cfg []) 100000 37 ED.a53 ED.m53 []).one = some (ED.v53, ED.n53) := by kernel_rfl
set_option maxHeartbeats 40000000 in
theorem t18 : (callS Tryz.prog (EB.cfg [(173, ED.p17)]) 100000 101 ED.a18 ED.m18 []).one = some (ED.v18, ED.n18) := by kernel_rfl
set_option maxHeartbeats 40000000 in
theorem t96 : (callS Tryz.prog (EB.cfg []) 100000 37 ED.a96 ED.m96 []).one = some (ED.v96, ED.n96) := by kernel_rfl
set_option maxHeartbeats 40000000 in
theorem t211 : (callS Tryz.prog (EB.cfg []) 100000 37 ED.a211 ED.m211 []).one = some (ED.v211, ED.n211) := by kernel_rfl
set_option maxHeartbeats 40000000 in
theorem t99 : (callS Tryz.prog (EB.cfg []) 100000 37 ED.a99 ED.m99 []).one = some (ED.v99, ED.n99) := by kernel_rfl
set_option maxHeartbeats 40000000 in
theorem t109 : (callS Tryz.prog (EB.cfg []) 100000 51 ED.a109 ED.m109 []).one = some (ED.v109, ED.n109) := by kernel_rfl
set_option maxHeartbeats 40000000 in
theorem t242 : (callS Tryz.prog (EB.cfg []) 100000 68 ED.a242 ED.m242 []).one = some (ED.v242, ED.n242) := by kernel_rfl
set_option maxHeartbeats 40000000 in
theorem t272 : (callS Tryz.prog (EB.cfg []) 100000 37 ED.a272 ED.m272 []).one = some (ED.v272, ED.n272) := by kernel_rfl
set_option maxHeartbeats 40000000 in
theorem t163 : (callS Tryz.prog (EB.cfg []) 100000 37 ED.a163 ED.m163 []).one = some (ED.v163, ED.n163) := by kernel_rfl
set_option maxHeartbeats 40000000 in
theorem t268 : (callS Tryz.prog (EB.cfg []) 100000 37 ED.a268 ED.m268 []).one = some (ED.v268, ED.n268) := by kernel_rfl
set_option maxHeartbeats 40000000 in
theorem t0 : (callS Tryz.prog (EB.cfg []) 100000 14 ED.a0 ED.m0 []).one = some (ED.v0, ED.n0) := by kernel_rfl
set_option maxHeartbeats 40000000 in
theorem t69 : (callS Tryz.prog (EB.cfg []) 100000 68 ED.a69 ED.m69 []).one = some (ED.v69, ED.n69) := by kernel_rfl
set_option maxHeartbeats 40000000 in
theorem t148 : (callS Tryz.prog (EB.cfg []) 100000 37 ED.a148 ED.m148 []).one = some (ED.v148, ED.n148) := by kernel_rfl
set_option maxHeartbeats 40000000 in
theorem t179 : (callS Tryz.prog (EB.cfg []) 100000 37 ED.a179 ED.m179 []).one = some (ED.v179, ED.n179) := by kernel_rfl
set_option maxHeartbeats 40000000 in
theorem t195 : (callS Tryz.prog (EB.cfg []) 100000 37 ED.a195 ED.m195 []).one = some (ED.v195, ED.n195) := by kernel_rfl
set_option maxHeartbeats 40000000 in
theorem t118 : (callS Tryz.prog (EB.cfg []) 100000 37 ED.a118 ED.m118 []).one = some (ED.v118, ED.n118) := by kernel_rfl
set_option maxHeartbeats 40000000 in
theorem t273 : (callS Tryz.prog (EB.cfg []) 100000 37 ED.a273 ED.m273 []).one = some (ED.v273, ED.n273) := by kernel_rfl
set_option maxHeartbeats 40000000 in
theorem t80 : (callS Tryz.prog (EB.cfg []) 100000 37 ED.a80 ED.m80 []).one = some (ED.v80, ED.n80) := by kernel_rfl
set_option maxHeartbeats 40000000 in
theorem t95 : (callS Tryz.prog (EB.cfg []) 100000 37 ED.a95 ED.m95 []).one = some (ED.v95, ED.n95) := by kernel_rfl
set_option maxHeartbeats 40000000 in
theorem t274 : (callS Tryz.prog (EB.cfg []) 100000 37 ED.a274 ED.m274 []).one = some (ED.v274, ED.n274) := by kernel_rfl
end Go.Proofs.YtnmmomopnaglbaaGreatDoor.E
