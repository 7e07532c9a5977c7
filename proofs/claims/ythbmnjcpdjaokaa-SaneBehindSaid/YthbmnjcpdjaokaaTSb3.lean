/- Part of the law SaneBehind: lengths one by one. No conditions. -/
import Derived.Test.YthbmnjcpdjaokaaTSb0
namespace Go.Proofs.Ythbmnjcpdjaokaa.TSaneBehind
open Go Go.SX Go.Proofs.Ythbmnjcpdjaokaa
set_option maxRecDepth 100000
set_option linter.unusedVariables false
set_option linter.unusedSimpArgs false
set_option maxHeartbeats 40000000 in
theorem A32_true : ((List.range 2).all fun j => allTrue (tA (32 + j))) = true := by kernel_rfl
set_option maxHeartbeats 40000000 in
theorem A34_true : ((List.range 2).all fun j => allTrue (tA (34 + j))) = true := by kernel_rfl
set_option maxHeartbeats 40000000 in
theorem A36_true : ((List.range 2).all fun j => allTrue (tA (36 + j))) = true := by kernel_rfl
set_option maxHeartbeats 40000000 in
theorem A38_true : ((List.range 2).all fun j => allTrue (tA (38 + j))) = true := by kernel_rfl
set_option maxHeartbeats 40000000 in
theorem A40_true : ((List.range 2).all fun j => allTrue (tA (40 + j))) = true := by kernel_rfl
set_option maxHeartbeats 40000000 in
theorem A42_true : ((List.range 2).all fun j => allTrue (tA (42 + j))) = true := by kernel_rfl
set_option maxHeartbeats 40000000 in
theorem A44_true : ((List.range 2).all fun j => allTrue (tA (44 + j))) = true := by kernel_rfl
set_option maxHeartbeats 40000000 in
theorem A46_true : ((List.range 2).all fun j => allTrue (tA (46 + j))) = true := by kernel_rfl
end Go.Proofs.Ythbmnjcpdjaokaa.TSaneBehind
