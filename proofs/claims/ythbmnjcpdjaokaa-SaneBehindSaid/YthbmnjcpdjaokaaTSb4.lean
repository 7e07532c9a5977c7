/- Part of the law SaneBehind: lengths one by one. No conditions. -/
import Derived.Test.YthbmnjcpdjaokaaTSb0
namespace Go.Proofs.Ythbmnjcpdjaokaa.TSaneBehind
open Go Go.SX Go.Proofs.Ythbmnjcpdjaokaa
set_option maxRecDepth 100000
set_option linter.unusedVariables false
set_option linter.unusedSimpArgs false
set_option maxHeartbeats 40000000 in
theorem B0_true : ((List.range 2).all fun j => allTrue (tB (0 + j))) = true := by kernel_rfl
set_option maxHeartbeats 40000000 in
theorem B2_true : ((List.range 2).all fun j => allTrue (tB (2 + j))) = true := by kernel_rfl
set_option maxHeartbeats 40000000 in
theorem B4_true : ((List.range 2).all fun j => allTrue (tB (4 + j))) = true := by kernel_rfl
set_option maxHeartbeats 40000000 in
theorem B6_true : ((List.range 2).all fun j => allTrue (tB (6 + j))) = true := by kernel_rfl
set_option maxHeartbeats 40000000 in
theorem B8_true : ((List.range 2).all fun j => allTrue (tB (8 + j))) = true := by kernel_rfl
set_option maxHeartbeats 40000000 in
theorem B10_true : ((List.range 2).all fun j => allTrue (tB (10 + j))) = true := by kernel_rfl
set_option maxHeartbeats 40000000 in
theorem B12_true : ((List.range 2).all fun j => allTrue (tB (12 + j))) = true := by kernel_rfl
set_option maxHeartbeats 40000000 in
theorem B14_true : ((List.range 2).all fun j => allTrue (tB (14 + j))) = true := by kernel_rfl
set_option maxHeartbeats 40000000 in
theorem B16_true : ((List.range 2).all fun j => allTrue (tB (16 + j))) = true := by kernel_rfl
set_option maxHeartbeats 40000000 in
theorem B18_true : ((List.range 2).all fun j => allTrue (tB (18 + j))) = true := by kernel_rfl
set_option maxHeartbeats 40000000 in
theorem B20_true : ((List.range 2).all fun j => allTrue (tB (20 + j))) = true := by kernel_rfl
set_option maxHeartbeats 40000000 in
theorem B22_true : ((List.range 2).all fun j => allTrue (tB (22 + j))) = true := by kernel_rfl
set_option maxHeartbeats 40000000 in
theorem B24_true : ((List.range 2).all fun j => allTrue (tB (24 + j))) = true := by kernel_rfl
set_option maxHeartbeats 40000000 in
theorem B26_true : ((List.range 2).all fun j => allTrue (tB (26 + j))) = true := by kernel_rfl
set_option maxHeartbeats 40000000 in
theorem B28_true : ((List.range 2).all fun j => allTrue (tB (28 + j))) = true := by kernel_rfl
set_option maxHeartbeats 40000000 in
theorem B30_true : ((List.range 2).all fun j => allTrue (tB (30 + j))) = true := by kernel_rfl
set_option maxHeartbeats 40000000 in
theorem B32_true : ((List.range 2).all fun j => allTrue (tB (32 + j))) = true := by kernel_rfl
set_option maxHeartbeats 40000000 in
theorem B34_true : ((List.range 2).all fun j => allTrue (tB (34 + j))) = true := by kernel_rfl
set_option maxHeartbeats 40000000 in
theorem B36_true : ((List.range 2).all fun j => allTrue (tB (36 + j))) = true := by kernel_rfl
set_option maxHeartbeats 40000000 in
theorem B38_true : ((List.range 2).all fun j => allTrue (tB (38 + j))) = true := by kernel_rfl
set_option maxHeartbeats 40000000 in
theorem B40_true : ((List.range 2).all fun j => allTrue (tB (40 + j))) = true := by kernel_rfl
set_option maxHeartbeats 40000000 in
theorem B42_true : ((List.range 2).all fun j => allTrue (tB (42 + j))) = true := by kernel_rfl
set_option maxHeartbeats 40000000 in
theorem B44_true : ((List.range 2).all fun j => allTrue (tB (44 + j))) = true := by kernel_rfl
set_option maxHeartbeats 40000000 in
theorem B46_true : ((List.range 2).all fun j => allTrue (tB (46 + j))) = true := by kernel_rfl
set_option maxHeartbeats 40000000 in
theorem main_true : allTrue (callT Try.prog (cfg [48]) 100000 0 5 args mem pc) = true := by kernel_rfl

end Go.Proofs.Ythbmnjcpdjaokaa.TSaneBehind
