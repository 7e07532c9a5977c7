/- Part of the law SaneBehind: lengths one by one. No conditions. -/
import Derived.Test.YthbmnjcpdjaokaaTSb0
namespace Go.Proofs.Ythbmnjcpdjaokaa.TSaneBehind
open Go Go.SX Go.Proofs.Ythbmnjcpdjaokaa
set_option maxRecDepth 100000
set_option linter.unusedVariables false
set_option linter.unusedSimpArgs false
set_option maxHeartbeats 40000000 in
theorem A16_true : ((List.range 2).all fun j => allTrue (tA (16 + j))) = true := by kernel_rfl
set_option maxHeartbeats 40000000 in
theorem A18_true : ((List.range 2).all fun j => allTrue (tA (18 + j))) = true := by kernel_rfl
set_option maxHeartbeats 40000000 in
theorem A20_true : ((List.range 2).all fun j => allTrue (tA (20 + j))) = true := by kernel_rfl
set_option maxHeartbeats 40000000 in
theorem A22_true : ((List.range 2).all fun j => allTrue (tA (22 + j))) = true := by kernel_rfl
set_option maxHeartbeats 40000000 in
theorem A24_true : ((List.range 2).all fun j => allTrue (tA (24 + j))) = true := by kernel_rfl
set_option maxHeartbeats 40000000 in
theorem A26_true : ((List.range 2).all fun j => allTrue (tA (26 + j))) = true := by kernel_rfl
set_option maxHeartbeats 40000000 in
theorem A28_true : ((List.range 2).all fun j => allTrue (tA (28 + j))) = true := by kernel_rfl
set_option maxHeartbeats 40000000 in
theorem A30_true : ((List.range 2).all fun j => allTrue (tA (30 + j))) = true := by kernel_rfl
end Go.Proofs.Ythbmnjcpdjaokaa.TSaneBehind
