/- What calls of the program come to, with everything known. No conditions. -/
import Derived.Test.YtnmmomopnaglbaaGreatDoorEB
import Derived.Test.YtnmmomopnaglbaaGreatDoorEDw
namespace Go.Proofs.YtnmmomopnaglbaaGreatDoor.E
open Go Go.SX Go.Proofs.YtnmmomopnaglbaaGreatDoor
set_option maxRecDepth 100000
set_option maxHeartbeats 40000000 in
theorem wn6 : nextsT Tryz.prog (EB.opsOf (spineC (EB.bodyOf Tryz.f76))[3]?) [4, 11, 21, 28, 35] ED.wst.mem (strike ED.wst.mem []) (stepA Tryz.prog (EB.cfg []) 100000 (EB.opsOf (spineC (EB.bodyOf Tryz.f76))[3]?) ED.wst.mem.length) 1 ED.wl5 = some ED.wl6 := by kernel_rfl
set_option maxHeartbeats 40000000 in
theorem wn8 : nextsT Tryz.prog (EB.opsOf (spineC (EB.bodyOf Tryz.f76))[3]?) [4, 11, 21, 28, 35] ED.wst.mem (strike ED.wst.mem []) (stepA Tryz.prog (EB.cfg []) 100000 (EB.opsOf (spineC (EB.bodyOf Tryz.f76))[3]?) ED.wst.mem.length) 1 ED.wl7 = some ED.wl8 := by kernel_rfl
set_option maxHeartbeats 40000000 in
theorem mc45 : closedM Tryz.prog (EB.cfg [(75, ED.p31), (76, ED.p32), (77, ED.p34), (77, ED.p36), (77, ED.p39), (77, ED.p41), (77, ED.p43), (78, ED.p44)]) 100000 (EB.opsOf (spineC (EB.loopOf (spineC (EB.bodyOf Tryz.f44))[9]?))[0]?) (EB.opsOf (spineC (EB.blkOf (spineC (EB.loopOf (spineC (EB.bodyOf Tryz.f44))[9]?))[2]?))[0]?) ((spineC (EB.loopOf (spineC (EB.bodyOf Tryz.f44))[9]?))[1]?.getD .skip) ((spineC (EB.blkOf (spineC (EB.loopOf (spineC (EB.bodyOf Tryz.f44))[9]?))[2]?)).drop 1) 50 52 49 (ED.y45.mem.length + 1) ((⟨ED.y45.slots.set 49 (some (.ptr ED.y45.mem.length 0)), ED.y45.mem.set 9 .dead ++ [.dead], []⟩ : ASt) :: ED.z45) ED.z45 [(.s ⟨#[100, 101, 108, 97, 121]⟩), (.s ⟨#[112, 111, 108, 108]⟩), (.s ⟨#[113, 117, 111, 114, 117, 109]⟩), (.s ⟨#[115, 101, 114, 118, 101, 114]⟩), (.s ⟨#[115, 108, 101, 119]⟩)] [(.ptr 10 0), (.ptr 13 0), (.ptr 16 0), (.ptr 19 0), (.ptr 21 0)] = true := by kernel_rfl
set_option maxHeartbeats 40000000 in
theorem mp67 : pieceL Tryz.prog (EB.cfg []) 100000 ((spineC (EB.bodyOf Tryz.f65)).take 5) ED.m67.length (begA Tryz.f65 ED.a67 ED.m67) = some ED.x67 := by kernel_rfl
end Go.Proofs.YtnmmomopnaglbaaGreatDoor.E
