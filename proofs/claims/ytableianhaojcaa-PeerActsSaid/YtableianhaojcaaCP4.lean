/- What calls come to, in letters. No conditions. -/
import Derived.Test.YtableianhaojcaaSX3
import Derived.Test.YtableianhaojcaaProg
import Derived.KernelRfl
import Derived.Test.YtableianhaojcaaCP1
import Derived.Test.YtableianhaojcaaB
import Derived.Test.YtableianhaojcaaCP3
/- What a call of (*chronobate.peer.Peer).Ask comes to, in letters. No conditions. -/
namespace Go.Proofs.Ytableianhaojcaa.Ask
open Go Go.SX Go.Proofs.Ytableianhaojcaa Go.Proofs.Ytableianhaojcaa.L Go.Proofs.Ytableianhaojcaa.B Go.RowKit Go.Proofs.YtableianhaojcaaW.PrintWords
set_option maxRecDepth 100000
set_option linter.unusedVariables false
set_option linter.unusedSimpArgs false
def args : List AV := [.ptr 0 0, .int .i64 (.var 20), .int .i64 (.var 21), .int .u64 (.var 22)]
def mem : List AObj := [.cells [.ptr 1 0, .int .i64 (.var 0), .int .i64 (.var 1), .int .i64 (.var 2), .int .i64 (.var 3), .int .i64 (.var 4), .int .u64 (.var 5)] 77 true none, .cells [.int .i64 (.var 6), .int .i64 (.var 7), .int .i64 (.var 8), .int .i64 (.var 9)] 98 true none]
def pc : List (SE × Bool) := []
def cfg : Cfg := { ok := [3, 4, 5, 6, 7, 8, 9, 10, 11, 12, 13, 14, 15, 16, 17, 18, 19, 20, 21, 22, 23, 24, 25, 26, 27, 28, 29, 30, 31, 32, 33, 34, 35, 36, 37, 38, 39, 40, 41, 42, 43, 44, 45, 46, 47, 48, 49, 50, 51, 52, 53, 54, 55, 56, 57, 58, 59, 60, 61, 62, 63, 64, 65, 66, 67, 68, 69, 70, 71, 72, 73, 74, 75, 76, 77, 78, 79, 80, 81, 82, 83, 84], sums := fun f a m => sums2 B.cus [(31, Query.pat)] f a m, loops := [] }
def x0 : AObj := (.cells [(.ptr 1 0), (.int .i64 (.var 0)), (.int .i64 (.var 1)), (.int .i64 (.var 2)), (.int .i64 (.var 3)), (.int .i64 (.var 4)), (.int .u64 (.var 5))] 77 true none)
def tree : Tree :=
(.ite (.cmp .lss (.var 20) (.lit 0))
 (.leaf (.tuple (.cons .nilslice (.cons (.int .i64 (.lit 3)) .nil))) [x0, (.cells [(.int .i64 (.var 6)), (.int .i64 (.var 7)), (.int .i64 (.var 8)), (.int .i64 (.var 9))] 98 true none)])
 (.ite (.cmp .lss (.lit 4611686018427387903) (.var 20))
 (.leaf (.tuple (.cons .nilslice (.cons (.int .i64 (.lit 3)) .nil))) [x0, (.cells [(.int .i64 (.var 6)), (.int .i64 (.var 7)), (.int .i64 (.var 8)), (.int .i64 (.var 9))] 98 true none)])
 (.ite (.cmp .eql (.var 0) (.lit 0))
 (.ite (.cmp .lss (.var 20) (.var 1))
 (.leaf (.tuple (.cons .nilslice (.cons (.int .i64 (.lit 9)) .nil))) [x0, (.cells [(.int .i64 (.var 6)), (.int .i64 (.var 7)), (.int .i64 (.var 8)), (.int .i64 (.var 9))] 98 true none)])
 (.ite (.cmp .eql (.var 22) (.lit 0))
 (.leaf (.tuple (.cons .nilslice (.cons (.int .i64 (.lit 2)) .nil))) [x0, (.cells [(.int .i64 (.var 6)), (.int .i64 (.var 7)), (.int .i64 (.var 8)), (.int .i64 (.var 9))] 98 true none)])
 (.leaf (.tuple (.cons (.row 2 0 (.lit 48) 0) (.cons (.int .i64 (.lit 0)) .nil))) [(.cells [(.ptr 1 0), (.int .i64 (.lit 1)), (.int .i64 (.var 1)), (.int .i64 (.var 2)), (.int .i64 (.var 20)), (.int .i64 (.var 21)), (.int .u64 (.var 22))] 77 true none), (.cells [(.int .i64 (.var 6)), (.int .i64 (.var 7)), (.int .i64 (.var 8)), (.int .i64 (.var 9))] 98 true none), (.cells [(.int .u8 (.lit 35)), (.int .u8 (.lit 0)), (.int .u8 (.lit 0)), (.int .u8 (.lit 0)), (.int .u8 (.lit 0)), (.int .u8 (.lit 0)), (.int .u8 (.lit 0)), (.int .u8 (.lit 0)), (.int .u8 (.lit 0)), (.int .u8 (.lit 0)), (.int .u8 (.lit 0)), (.int .u8 (.lit 0)), (.int .u8 (.lit 0)), (.int .u8 (.lit 0)), (.int .u8 (.lit 0)), (.int .u8 (.lit 0)), (.int .u8 (.lit 0)), (.int .u8 (.lit 0)), (.int .u8 (.lit 0)), (.int .u8 (.lit 0)), (.int .u8 (.lit 0)), (.int .u8 (.lit 0)), (.int .u8 (.lit 0)), (.int .u8 (.lit 0)), (.int .u8 (.lit 0)), (.int .u8 (.lit 0)), (.int .u8 (.lit 0)), (.int .u8 (.lit 0)), (.int .u8 (.lit 0)), (.int .u8 (.lit 0)), (.int .u8 (.lit 0)), (.int .u8 (.lit 0)), (.int .u8 (.lit 0)), (.int .u8 (.lit 0)), (.int .u8 (.lit 0)), (.int .u8 (.lit 0)), (.int .u8 (.lit 0)), (.int .u8 (.lit 0)), (.int .u8 (.lit 0)), (.int .u8 (.lit 0)), (.int .u8 (.conv .u8 (.bin .shr .u64 (.var 22) (.lit 56)))), (.int .u8 (.conv .u8 (.bin .shr .u64 (.var 22) (.lit 48)))), (.int .u8 (.conv .u8 (.bin .shr .u64 (.var 22) (.lit 40)))), (.int .u8 (.conv .u8 (.bin .shr .u64 (.var 22) (.lit 32)))), (.int .u8 (.conv .u8 (.bin .shr .u64 (.var 22) (.lit 24)))), (.int .u8 (.conv .u8 (.bin .shr .u64 (.var 22) (.lit 16)))), (.int .u8 (.conv .u8 (.bin .shr .u64 (.var 22) (.lit 8)))), (.int .u8 (.conv .u8 (.var 22)))] 5 true (some 1))])))
 (.leaf (.tuple (.cons .nilslice (.cons (.int .i64 (.lit 9)) .nil))) [x0, (.cells [(.int .i64 (.var 6)), (.int .i64 (.var 7)), (.int .i64 (.var 8)), (.int .i64 (.var 9))] 98 true none)]))))
def pat : Pat := ⟨args, mem, needs pc tree.toOut⟩
set_option maxHeartbeats 40000000 in
theorem tree_eq : callS Try.prog cfg 100000 13 args mem pc = tree := by kernel_rfl
theorem cfg_ok (G : Nat → List Int → Int) (hG : ∀ j, 100 ≤ j → j < 200 → G j = B.F j) : CfgOk Try.prog cfg G (fun _ _ => True) :=
  ⟨by kernel_rfl, okB_spec (by kernel_rfl), fun f a m out h S w0 bs ρ w vs v mem' _ hρ hvs hm hp => sums2_sound B.cus_ok (l := [(31, Query.pat)]) (fun p hp => by
    simp only [List.mem_cons, List.not_mem_nil, or_false] at hp
    rcases hp with rfl
    · exact Query.ok) h (fun j hj hj2 => by rw [hρ]; exact hG j hj hj2) hvs hm hp⟩
theorem ok : SumOk Try.prog B.F 13 pat := sum_run cfg_ok tree_eq rfl
end Go.Proofs.Ytableianhaojcaa.Ask

/- What a call of (*chronobate.chronobateref14.Peer).Ask comes to, in letters. No conditions. -/
namespace Go.Proofs.Ytableianhaojcaa.RAsk
open Go Go.SX Go.Proofs.Ytableianhaojcaa Go.Proofs.Ytableianhaojcaa.L Go.Proofs.Ytableianhaojcaa.B Go.RowKit Go.Proofs.YtableianhaojcaaW.PrintWords
set_option maxRecDepth 100000
set_option linter.unusedVariables false
set_option linter.unusedSimpArgs false
def args : List AV := [.ptr 0 0, .int .i64 (.var 20), .int .i64 (.var 21), .int .u64 (.var 22)]
def mem : List AObj := [.cells [.arg 1, .int .i64 (.var 0), .int .i64 (.var 1), .int .i64 (.var 2), .int .i64 (.var 3), .int .i64 (.var 4), .int .i64 (.var 5), .int .i64 (.var 6), .int .i64 (.var 7), .int .i64 (.var 8), .int .i64 (.var 9), .int .u64 (.var 10)] 64 true none, .sym (.var 11) (.var 12) [.int .i64 0] 3]
def pc : List (SE × Bool) := []
def cfg : Cfg := { ok := [3, 4, 5, 6, 7, 8, 9, 10, 11, 12, 13, 14, 15, 16, 17, 18, 19, 20, 21, 22, 23, 24, 25, 26, 27, 28, 29, 30, 31, 32, 33, 34, 35, 36, 37, 38, 39, 40, 41, 42, 43, 44, 45, 46, 47, 48, 49, 50, 51, 52, 53, 54, 55, 56, 57, 58, 59, 60, 61, 62, 63, 64, 65, 66, 67, 68, 69, 70, 71, 72, 73, 74, 75, 76, 77, 78, 79, 80, 81, 82, 83, 84], sums := fun f a m => sums2 B.cus [(41, RPut.pat)] f a m, loops := [] }
def x0 : AObj := (.cells [(.arg 1), (.int .i64 (.var 0)), (.int .i64 (.var 1)), (.int .i64 (.var 2)), (.int .i64 (.var 3)), (.int .i64 (.var 4)), (.int .i64 (.var 5)), (.int .i64 (.var 6)), (.int .i64 (.var 7)), (.int .i64 (.var 8)), (.int .i64 (.var 9)), (.int .u64 (.var 10))] 64 true none)
def tree : Tree :=
(.ite (.cmp .lss (.var 20) (.lit 0))
 (.leaf (.tuple (.cons .nilslice (.cons (.int .i64 (.lit 3)) .nil))) [x0, (.sym (.var 11) (.var 12) [(.int .i64 0)] 3)])
 (.ite (.cmp .lss (.lit 4611686018427387903) (.var 20))
 (.leaf (.tuple (.cons .nilslice (.cons (.int .i64 (.lit 3)) .nil))) [x0, (.sym (.var 11) (.var 12) [(.int .i64 0)] 3)])
 (.ite (.cmp .eql (.var 5) (.lit 0))
 (.ite (.cmp .lss (.var 20) (.var 7))
 (.leaf (.tuple (.cons .nilslice (.cons (.int .i64 (.lit 9)) .nil))) [x0, (.sym (.var 11) (.var 12) [(.int .i64 0)] 3)])
 (.ite (.cmp .eql (.var 22) (.lit 0))
 (.leaf (.tuple (.cons .nilslice (.cons (.int .i64 (.lit 2)) .nil))) [x0, (.sym (.var 11) (.var 12) [(.int .i64 0)] 3)])
 (.leaf (.tuple (.cons (.row 2 0 (.lit 48) 0) (.cons (.int .i64 (.lit 0)) .nil))) [(.cells [(.arg 1), (.int .i64 (.var 0)), (.int .i64 (.var 1)), (.int .i64 (.var 2)), (.int .i64 (.var 3)), (.int .i64 (.var 4)), (.int .i64 (.lit 1)), (.int .i64 (.var 6)), (.int .i64 (.var 7)), (.int .i64 (.var 20)), (.int .i64 (.var 21)), (.int .u64 (.var 22))] 64 true none), (.sym (.var 11) (.var 12) [(.int .i64 0)] 3), (.cells [(.int .u8 (.lit 35)), (.int .u8 (.lit 0)), (.int .u8 (.lit 0)), (.int .u8 (.lit 0)), (.int .u8 (.lit 0)), (.int .u8 (.lit 0)), (.int .u8 (.lit 0)), (.int .u8 (.lit 0)), (.int .u8 (.lit 0)), (.int .u8 (.lit 0)), (.int .u8 (.lit 0)), (.int .u8 (.lit 0)), (.int .u8 (.lit 0)), (.int .u8 (.lit 0)), (.int .u8 (.lit 0)), (.int .u8 (.lit 0)), (.int .u8 (.lit 0)), (.int .u8 (.lit 0)), (.int .u8 (.lit 0)), (.int .u8 (.lit 0)), (.int .u8 (.lit 0)), (.int .u8 (.lit 0)), (.int .u8 (.lit 0)), (.int .u8 (.lit 0)), (.int .u8 (.lit 0)), (.int .u8 (.lit 0)), (.int .u8 (.lit 0)), (.int .u8 (.lit 0)), (.int .u8 (.lit 0)), (.int .u8 (.lit 0)), (.int .u8 (.lit 0)), (.int .u8 (.lit 0)), (.int .u8 (.lit 0)), (.int .u8 (.lit 0)), (.int .u8 (.lit 0)), (.int .u8 (.lit 0)), (.int .u8 (.lit 0)), (.int .u8 (.lit 0)), (.int .u8 (.lit 0)), (.int .u8 (.lit 0)), (.int .u8 (.conv .u8 (.bin .shr .u64 (.var 22) (.lit 56)))), (.int .u8 (.conv .u8 (.bin .shr .u64 (.var 22) (.lit 48)))), (.int .u8 (.conv .u8 (.bin .shr .u64 (.var 22) (.lit 40)))), (.int .u8 (.conv .u8 (.bin .shr .u64 (.var 22) (.lit 32)))), (.int .u8 (.conv .u8 (.bin .shr .u64 (.var 22) (.lit 24)))), (.int .u8 (.conv .u8 (.bin .shr .u64 (.var 22) (.lit 16)))), (.int .u8 (.conv .u8 (.bin .shr .u64 (.var 22) (.lit 8)))), (.int .u8 (.conv .u8 (.var 22)))] 5 true (some 1))])))
 (.leaf (.tuple (.cons .nilslice (.cons (.int .i64 (.lit 9)) .nil))) [x0, (.sym (.var 11) (.var 12) [(.int .i64 0)] 3)]))))
def pat : Pat := ⟨args, mem, needs pc tree.toOut⟩
set_option maxHeartbeats 40000000 in
theorem tree_eq : callS Try.prog cfg 100000 22 args mem pc = tree := by kernel_rfl
theorem cfg_ok (G : Nat → List Int → Int) (hG : ∀ j, 100 ≤ j → j < 200 → G j = B.F j) : CfgOk Try.prog cfg G (fun _ _ => True) :=
  ⟨by kernel_rfl, okB_spec (by kernel_rfl), fun f a m out h S w0 bs ρ w vs v mem' _ hρ hvs hm hp => sums2_sound B.cus_ok (l := [(41, RPut.pat)]) (fun p hp => by
    simp only [List.mem_cons, List.not_mem_nil, or_false] at hp
    rcases hp with rfl
    · exact RPut.ok) h (fun j hj hj2 => by rw [hρ]; exact hG j hj hj2) hvs hm hp⟩
theorem ok : SumOk Try.prog B.F 22 pat := sum_run cfg_ok tree_eq rfl
end Go.Proofs.Ytableianhaojcaa.RAsk

/- What a call of (*chronobate.peer.Peer).Late comes to, in letters. No conditions. -/
namespace Go.Proofs.Ytableianhaojcaa.Late
open Go Go.SX Go.Proofs.Ytableianhaojcaa Go.Proofs.Ytableianhaojcaa.L Go.Proofs.Ytableianhaojcaa.B Go.RowKit Go.Proofs.YtableianhaojcaaW.PrintWords
set_option maxRecDepth 100000
set_option linter.unusedVariables false
set_option linter.unusedSimpArgs false
def args : List AV := [.ptr 0 0, .int .i64 (.var 20)]
def mem : List AObj := [.cells [.ptr 1 0, .int .i64 (.var 0), .int .i64 (.var 1), .int .i64 (.var 2), .int .i64 (.var 3), .int .i64 (.var 4), .int .u64 (.var 5)] 77 true none, .cells [.int .i64 (.var 6), .int .i64 (.var 7), .int .i64 (.var 8), .int .i64 (.var 9)] 98 true none]
def pc : List (SE × Bool) := []
def cfg : Cfg := { ok := [3, 4, 5, 6, 7, 8, 9, 10, 11, 12, 13, 14, 15, 16, 17, 18, 19, 20, 21, 22, 23, 24, 25, 26, 27, 28, 29, 30, 31, 32, 33, 34, 35, 36, 37, 38, 39, 40, 41, 42, 43, 44, 45, 46, 47, 48, 49, 50, 51, 52, 53, 54, 55, 56, 57, 58, 59, 60, 61, 62, 63, 64, 65, 66, 67, 68, 69, 70, 71, 72, 73, 74, 75, 76, 77, 78, 79, 80, 81, 82, 83, 84], sums := fun f a m => sums2 B.cus [] f a m, loops := [] }
def x0 : AObj := (.cells [(.ptr 1 0), (.int .i64 (.lit 0)), (.int .i64 (.bin .add .i64 (.var 3) (.lit 0))), (.int .i64 (.var 2)), (.int .i64 (.var 3)), (.int .i64 (.var 4)), (.int .u64 (.var 5))] 77 true none)
def x1 : AObj := (.cells [(.ptr 1 0), (.int .i64 (.var 0)), (.int .i64 (.var 1)), (.int .i64 (.var 2)), (.int .i64 (.var 3)), (.int .i64 (.var 4)), (.int .u64 (.var 5))] 77 true none)
def tree : Tree :=
(.ite (.cmp .eql (.var 0) (.lit 1))
 (.ite (.cmp .leq (.var 20) (.bin .add .i64 (.var 3) (.var 2)))
 (.leaf (.bool (.lit 0)) [x1, (.cells [(.int .i64 (.var 6)), (.int .i64 (.var 7)), (.int .i64 (.var 8)), (.int .i64 (.var 9))] 98 true none)])
 (.ite (.cmp .lss (.mn (.var 8) (.var 7)) (.lit 0))
 (.leaf (.bool (.lit 1)) [x0, (.cells [(.int .i64 (.var 6)), (.int .i64 (.var 7)), (.int .i64 (.lit 0)), (.int .i64 (.bin .add .i64 (.var 9) (.lit 1)))] 98 true none)])
 (.ite (.cmp .lss (.lit 1073741824) (.mx (.var 8) (.var 7)))
 (.leaf (.bool (.lit 1)) [x0, (.cells [(.int .i64 (.var 6)), (.int .i64 (.var 7)), (.int .i64 (.lit 0)), (.int .i64 (.bin .add .i64 (.var 9) (.lit 1)))] 98 true none)])
 (.leaf (.bool (.lit 1)) [(.cells [(.ptr 1 0), (.int .i64 (.lit 0)), (.int .i64 (.bin .add .i64 (.var 3) (.bin .mul .i64 (.mn (.bin .mul .i64 (.var 8) (.lit 2)) (.var 7)) (.lit 1000000000)))), (.int .i64 (.var 2)), (.int .i64 (.var 3)), (.int .i64 (.var 4)), (.int .u64 (.var 5))] 77 true none), (.cells [(.int .i64 (.var 6)), (.int .i64 (.var 7)), (.int .i64 (.mn (.bin .mul .i64 (.var 8) (.lit 2)) (.var 7))), (.int .i64 (.bin .add .i64 (.var 9) (.lit 1)))] 98 true none)]))))
 (.leaf (.bool (.lit 0)) [x1, (.cells [(.int .i64 (.var 6)), (.int .i64 (.var 7)), (.int .i64 (.var 8)), (.int .i64 (.var 9))] 98 true none)]))
def pat : Pat := ⟨args, mem, needs pc tree.toOut⟩
set_option maxHeartbeats 40000000 in
theorem tree_eq : callS Try.prog cfg 100000 14 args mem pc = tree := by kernel_rfl
theorem cfg_ok (G : Nat → List Int → Int) (hG : ∀ j, 100 ≤ j → j < 200 → G j = B.F j) : CfgOk Try.prog cfg G (fun _ _ => True) :=
  ⟨by kernel_rfl, okB_spec (by kernel_rfl), fun f a m out h S w0 bs ρ w vs v mem' _ hρ hvs hm hp => sums2_sound B.cus_ok (l := []) (fun p hp => by cases hp) h (fun j hj hj2 => by rw [hρ]; exact hG j hj hj2) hvs hm hp⟩
theorem ok : SumOk Try.prog B.F 14 pat := sum_run cfg_ok tree_eq rfl
end Go.Proofs.Ytableianhaojcaa.Late

/- What a call of (*chronobate.chronobateref14.Peer).Late comes to, in letters. No conditions. -/
namespace Go.Proofs.Ytableianhaojcaa.RLate
open Go Go.SX Go.Proofs.Ytableianhaojcaa Go.Proofs.Ytableianhaojcaa.L Go.Proofs.Ytableianhaojcaa.B Go.RowKit Go.Proofs.YtableianhaojcaaW.PrintWords
set_option maxRecDepth 100000
set_option linter.unusedVariables false
set_option linter.unusedSimpArgs false
def args : List AV := [.ptr 0 0, .int .i64 (.var 20)]
def mem : List AObj := [.cells [.arg 1, .int .i64 (.var 0), .int .i64 (.var 1), .int .i64 (.var 2), .int .i64 (.var 3), .int .i64 (.var 4), .int .i64 (.var 5), .int .i64 (.var 6), .int .i64 (.var 7), .int .i64 (.var 8), .int .i64 (.var 9), .int .u64 (.var 10)] 64 true none, .sym (.var 11) (.var 12) [.int .i64 0] 3]
def pc : List (SE × Bool) := []
def cfg : Cfg := { ok := [3, 4, 5, 6, 7, 8, 9, 10, 11, 12, 13, 14, 15, 16, 17, 18, 19, 20, 21, 22, 23, 24, 25, 26, 27, 28, 29, 30, 31, 32, 33, 34, 35, 36, 37, 38, 39, 40, 41, 42, 43, 44, 45, 46, 47, 48, 49, 50, 51, 52, 53, 54, 55, 56, 57, 58, 59, 60, 61, 62, 63, 64, 65, 66, 67, 68, 69, 70, 71, 72, 73, 74, 75, 76, 77, 78, 79, 80, 81, 82, 83, 84], sums := fun f a m => sums2 B.cus [(43, RNext.pat)] f a m, loops := [] }
def x0 : AObj := (.cells [(.arg 1), (.int .i64 (.var 0)), (.int .i64 (.var 1)), (.int .i64 (.var 2)), (.int .i64 (.var 3)), (.int .i64 (.var 4)), (.int .i64 (.lit 0)), (.int .i64 (.lit 0)), (.int .i64 (.bin .add .i64 (.var 8) (.lit 0))), (.int .i64 (.var 8)), (.int .i64 (.var 9)), (.int .u64 (.var 10))] 64 true none)
def x1 : AObj := (.cells [(.arg 1), (.int .i64 (.var 0)), (.int .i64 (.var 1)), (.int .i64 (.var 2)), (.int .i64 (.var 3)), (.int .i64 (.var 4)), (.int .i64 (.var 5)), (.int .i64 (.var 6)), (.int .i64 (.var 7)), (.int .i64 (.var 8)), (.int .i64 (.var 9)), (.int .u64 (.var 10))] 64 true none)
def tree : Tree :=
(.ite (.cmp .eql (.var 5) (.lit 1))
 (.ite (.cmp .leq (.var 20) (.bin .add .i64 (.var 8) (.bin .mul .i64 (.var 3) (.lit 1000000))))
 (.leaf (.bool (.lit 0)) [x1, (.sym (.var 11) (.var 12) [(.int .i64 0)] 3)])
 (.ite (.cmp .lss (.var 6) (.lit 0))
 (.leaf (.bool (.lit 1)) [x0, (.sym (.var 11) (.var 12) [(.int .i64 0)] 3)])
 (.ite (.cmp .lss (.var 2) (.lit 0))
 (.leaf (.bool (.lit 1)) [x0, (.sym (.var 11) (.var 12) [(.int .i64 0)] 3)])
 (.ite (.cmp .lss (.lit 1073741824) (.var 6))
 (.leaf (.bool (.lit 1)) [x0, (.sym (.var 11) (.var 12) [(.int .i64 0)] 3)])
 (.ite (.cmp .lss (.lit 1073741824) (.var 2))
 (.leaf (.bool (.lit 1)) [x0, (.sym (.var 11) (.var 12) [(.int .i64 0)] 3)])
 (.leaf (.bool (.lit 1)) [(.cells [(.arg 1), (.int .i64 (.var 0)), (.int .i64 (.var 1)), (.int .i64 (.var 2)), (.int .i64 (.var 3)), (.int .i64 (.var 4)), (.int .i64 (.lit 0)), (.int .i64 (.mn (.bin .mul .i64 (.var 6) (.lit 2)) (.var 2))), (.int .i64 (.bin .add .i64 (.var 8) (.bin .mul .i64 (.mn (.bin .mul .i64 (.var 6) (.lit 2)) (.var 2)) (.lit 1000000000)))), (.int .i64 (.var 8)), (.int .i64 (.var 9)), (.int .u64 (.var 10))] 64 true none), (.sym (.var 11) (.var 12) [(.int .i64 0)] 3)]))))))
 (.leaf (.bool (.lit 0)) [x1, (.sym (.var 11) (.var 12) [(.int .i64 0)] 3)]))
def pat : Pat := ⟨args, mem, needs pc tree.toOut⟩
set_option maxHeartbeats 40000000 in
theorem tree_eq : callS Try.prog cfg 100000 23 args mem pc = tree := by kernel_rfl
theorem cfg_ok (G : Nat → List Int → Int) (hG : ∀ j, 100 ≤ j → j < 200 → G j = B.F j) : CfgOk Try.prog cfg G (fun _ _ => True) :=
  ⟨by kernel_rfl, okB_spec (by kernel_rfl), fun f a m out h S w0 bs ρ w vs v mem' _ hρ hvs hm hp => sums2_sound B.cus_ok (l := [(43, RNext.pat)]) (fun p hp => by
    simp only [List.mem_cons, List.not_mem_nil, or_false] at hp
    rcases hp with rfl
    · exact RNext.ok) h (fun j hj hj2 => by rw [hρ]; exact hG j hj hj2) hvs hm hp⟩
theorem ok : SumOk Try.prog B.F 23 pat := sum_run cfg_ok tree_eq rfl
end Go.Proofs.Ytableianhaojcaa.RLate
