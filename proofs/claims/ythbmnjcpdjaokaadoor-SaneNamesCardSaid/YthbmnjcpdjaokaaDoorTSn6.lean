/- The law SaneNames, at some remainders: evaluated. No conditions. -/
import Derived.Test.YthbmnjcpdjaokaaDoorTSn
namespace Go.Proofs.YthbmnjcpdjaokaaDoor.TSaneNames
open Go Go.SX Go.Proofs.YthbmnjcpdjaokaaDoor
set_option maxRecDepth 100000
set_option maxHeartbeats 40000000 in
theorem at12 : good (callT Tryd.prog cfg 100000 0 4 args mem (pcOf 12)) = true := by kernel_rfl
end Go.Proofs.YthbmnjcpdjaokaaDoor.TSaneNames
