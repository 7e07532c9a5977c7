/- What a call of (*chronobate.slew.Clock).Adjust comes to, in letters. No conditions. -/
import Derived.Test.YtplkegifilheeaaSX3
import Derived.Test.YtplkegifilheeaaProg
import Derived.KernelRfl
import Derived.Test.YtplkegifilheeaaB
namespace Go.Proofs.Ytplkegifilheeaa.Adj
open Go Go.SX Go.Proofs.Ytplkegifilheeaa Go.Proofs.Ytplkegifilheeaa.L Go.Proofs.Ytplkegifilheeaa.B Go.RowKit Go.Proofs.YtplkegifilheeaaW.PrintWords
set_option maxRecDepth 100000
set_option linter.unusedVariables false
set_option linter.unusedSimpArgs false
def args : List AV := [.ptr 0 0, .int .i64 (.var 10), .int .i64 (.var 11)]
def mem : List AObj := [.cells [.int .i64 (.var 0), .int .i64 (.var 1), .int .i64 (.var 2), .int .i64 (.var 3), .int .i64 (.var 4)] 63 true (some 5)]
def pc : List (SE × Bool) := []
def cfg : Cfg := { ok := [3, 4, 5, 6, 7, 8, 9, 10, 11, 12, 13, 14, 15, 16, 17, 18, 19, 20, 21, 22, 23, 24, 25, 26, 27, 28, 29, 30, 31, 32, 33, 34, 35, 36, 37, 38], sums := fun f a m => sums2 B.cus [] f a m, loops := [] }
def tree : Tree :=
(.ite (.cmp .lss (.lit 4611686018427387903) (.var 10))
 (.leaf (.int .i64 (.lit 3)) [(.cells [(.int .i64 (.var 0)), (.int .i64 (.var 1)), (.int .i64 (.var 2)), (.int .i64 (.var 3)), (.int .i64 (.var 4))] 63 true (some 5))])
 (.ite (.cmp .lss (.var 10) (.var 0))
 (.leaf (.int .i64 (.lit 8)) [(.cells [(.int .i64 (.var 0)), (.int .i64 (.var 1)), (.int .i64 (.var 2)), (.int .i64 (.var 3)), (.int .i64 (.var 4))] 63 true (some 5))])
 (.leaf (.int .i64 (.lit 0)) [(.cells [(.int .i64 (.var 10)), (.int .i64 (.bin .add .i64 (.bin .add .i64 (.var 1) (.bin .sub .i64 (.var 10) (.var 0))) (.app 106 (.cons (.var 2) (.cons (.bin .sub .i64 (.lit 0) (.app 104 (.cons (.bin .sub .i64 (.var 10) (.var 0)) (.cons (.var 4) (.cons (.lit 1000000) .nil))))) (.cons (.app 104 (.cons (.bin .sub .i64 (.var 10) (.var 0)) (.cons (.var 4) (.cons (.lit 1000000) .nil)))) .nil)))))), (.int .i64 (.app 106 (.cons (.var 11) (.cons (.lit (-2305843009213693952)) (.cons (.lit 2305843009213693952) .nil))))), (.int .i64 (.bin .add .i64 (.var 3) (.app 106 (.cons (.var 2) (.cons (.bin .sub .i64 (.lit 0) (.app 104 (.cons (.bin .sub .i64 (.var 10) (.var 0)) (.cons (.var 4) (.cons (.lit 1000000) .nil))))) (.cons (.app 104 (.cons (.bin .sub .i64 (.var 10) (.var 0)) (.cons (.var 4) (.cons (.lit 1000000) .nil)))) .nil)))))), (.int .i64 (.var 4))] 63 true (some 5))])))
def pat : Pat := ⟨args, mem, needs pc tree.toOut⟩
set_option maxHeartbeats 40000000 in
theorem tree_eq : callS Try.prog cfg 100000 13 args mem pc = tree := by kernel_rfl
theorem cfg_ok (G : Nat → List Int → Int) (hG : ∀ j, 100 ≤ j → j < 200 → G j = B.F j) : CfgOk Try.prog cfg G (fun _ _ => True) :=
  ⟨by kernel_rfl, okB_spec (by kernel_rfl), fun f a m out h S w0 bs ρ w vs v mem' _ hρ hvs hm hp => sums2_sound B.cus_ok (l := []) (fun p hp => by cases hp) h (fun j hj hj2 => by rw [hρ]; exact hG j hj hj2) hvs hm hp⟩
theorem ok : SumOk Try.prog B.F 13 pat := sum_run cfg_ok tree_eq rfl
end Go.Proofs.Ytplkegifilheeaa.Adj
