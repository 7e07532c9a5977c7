/- The example of layer 1's statements is true. -/
import Derived.Test.YtdflbfgmbcgljaaLRe1
namespace Go.Proofs.Ytdflbfgmbcgljaa.L
open Go.RowKit Go.Proofs.YtdflbfgmbcgljaaW.PrintWords Go.Proofs.YtdflbfgmbcgljaaW.PrintLast Go.Proofs.YtdflbfgmbcgljaaW.PrintMore Go.Proofs.Ytdflbfgmbcgljaa.G
theorem alive1 (k : Nat) (hk : 30 ≤ k) : chronobatelaw01_alive.f k = some true := by
  unfold chronobatelaw01_alive.f
  rw [sat_MulDiv_eq k hk (by unfold I64; omega) (by unfold I64; omega) (by unfold I64; omega) (by omega) (by omega), sat_Half_eq, sat_Mid_eq (by unfold I64; omega) (by unfold I64; omega), sat_Neg_eq (by unfold I64; omega)]
  decide
end Go.Proofs.Ytdflbfgmbcgljaa.L
