/- The row's closed facts, one by one. -/
import Derived.Test.YtnmmomopnaglbaaGreatDoorCards
import Derived.ProofKit
namespace Go.Proofs.YtnmmomopnaglbaaGreatDoor.Lj
theorem inPlace : (Rows.topLiesRow.inPlace == Tryz.prog.inPlace 4) = true := by kernel_rfl
theorem unfollowed : (Rows.topLiesRow.unfollowed == Tryz.prog.unfollowed 4) = true := by kernel_rfl
theorem recurses : (Rows.topLiesRow.recurses == Tryz.prog.recurses 4) = true := by kernel_rfl
theorem named : (Rows.topLiesRow.named == Tryz.prog.varsNamed 4) = true := by kernel_rfl
theorem wf : Rows.topLiesRow.wf (OpenSpec.ofChange Rows.topLiesSpec) = true := by kernel_rfl
theorem laidOut : laidOutB Tryz.prog = true := by kernel_rfl
theorem rowed : mapsRowed Tryz.prog = true := by kernel_rfl
theorem facts : joinedFacts Tryz.prog 4 Tryz.f4 Rows.topLiesSpec Rows.topLiesRow = true := by
  unfold joinedFacts
  rw [inPlace, unfollowed, recurses, named, wf, laidOut, rowed]
  kernel_rfl
end Go.Proofs.YtnmmomopnaglbaaGreatDoor.Lj
