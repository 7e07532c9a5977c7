/- Part of the law SaneBehind: lengths one by one. No conditions. -/
import Derived.Test.YthbmnjcpdjaokaaTSb0
namespace Go.Proofs.Ythbmnjcpdjaokaa.TSaneBehind
open Go Go.SX Go.Proofs.Ythbmnjcpdjaokaa
set_option maxRecDepth 100000
set_option linter.unusedVariables false
set_option linter.unusedSimpArgs false
set_option maxHeartbeats 40000000 in
theorem A0_true : ((List.range 2).all fun j => allTrue (tA (0 + j))) = true := by kernel_rfl
set_option maxHeartbeats 40000000 in
theorem A2_true : ((List.range 2).all fun j => allTrue (tA (2 + j))) = true := by kernel_rfl
set_option maxHeartbeats 40000000 in
theorem A4_true : ((List.range 2).all fun j => allTrue (tA (4 + j))) = true := by kernel_rfl
set_option maxHeartbeats 40000000 in
theorem A6_true : ((List.range 2).all fun j => allTrue (tA (6 + j))) = true := by kernel_rfl
set_option maxHeartbeats 40000000 in
theorem A8_true : ((List.range 2).all fun j => allTrue (tA (8 + j))) = true := by kernel_rfl
set_option maxHeartbeats 40000000 in
theorem A10_true : ((List.range 2).all fun j => allTrue (tA (10 + j))) = true := by kernel_rfl
set_option maxHeartbeats 40000000 in
theorem A12_true : ((List.range 2).all fun j => allTrue (tA (12 + j))) = true := by kernel_rfl
set_option maxHeartbeats 40000000 in
theorem A14_true : ((List.range 2).all fun j => allTrue (tA (14 + j))) = true := by kernel_rfl
end Go.Proofs.Ythbmnjcpdjaokaa.TSaneBehind
