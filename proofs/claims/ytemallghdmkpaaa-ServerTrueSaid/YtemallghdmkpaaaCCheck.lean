/- What a call of chronobate.server.Check comes to, in letters. No conditions. -/
import Derived.Test.YtemallghdmkpaaaSX3
import Derived.Test.YtemallghdmkpaaaProg
import Derived.KernelRfl
import Derived.Test.YtemallghdmkpaaaB
namespace Go.Proofs.Ytemallghdmkpaaa.Check
open Go Go.SX Go.Proofs.Ytemallghdmkpaaa
set_option maxRecDepth 100000
set_option linter.unusedVariables false
def args : List AV := [.agg (ofList [.int .i64 (.var 0), .int .i64 (.var 1), .int .i64 (.var 2), .int .i64 (.var 3), .int .i64 (.var 4), .int .u64 (.var 5)])]
def mem : List AObj := []
def pc : List (SE × Bool) := []
def cfg : Cfg := { ok := [3, 4, 5, 6, 7, 8, 9, 10, 11, 12, 13, 14, 15, 16, 17, 18, 19, 20, 21, 22, 23, 24, 25, 26, 27, 28, 29, 30, 31, 32, 33, 34, 35, 36, 37, 38, 39, 40, 41, 42, 43, 44, 45, 46, 47, 48, 49, 50, 67, 68, 69, 70, 71], sums := fun f a m => sums2 B.cus [] f a m, loops := [] }
def tree : Tree :=
(.ite (.cmp .lss (.var 0) (.lit 0))
 (.leaf (.int .i64 (.lit 10)) [])
 (.ite (.cmp .lss (.lit 3) (.var 0))
 (.leaf (.int .i64 (.lit 10)) [])
 (.ite (.cmp .lss (.mn (.mn (.var 1) (.var 2)) (.var 3)) (.lit 0))
 (.leaf (.int .i64 (.lit 3)) [])
 (.ite (.cmp .lss (.lit 1099511627776) (.mx (.mx (.var 1) (.var 2)) (.var 3)))
 (.leaf (.int .i64 (.lit 3)) [])
 (.ite (.cmp .lss (.var 4) (.lit (-1125899906842624)))
 (.leaf (.int .i64 (.lit 3)) [])
 (.ite (.cmp .lss (.lit 1125899906842624) (.var 4))
 (.leaf (.int .i64 (.lit 3)) [])
 (.leaf (.int .i64 (.lit 0)) [])))))))
def pat : Pat := ⟨args, mem, needs pc tree.toOut⟩
set_option maxHeartbeats 40000000 in
theorem tree_eq : callS Try.prog cfg 100000 8 args mem pc = tree := by kernel_rfl
theorem cfg_ok (G : Nat → List Int → Int) (hG : ∀ j, 100 ≤ j → G j = B.F j) : CfgOk Try.prog cfg G (fun _ _ => True) :=
  ⟨by kernel_rfl, okB_spec (by kernel_rfl), fun f a m out h S w0 bs ρ w vs v mem' _ hρ hvs hm hp => sums2_sound B.cus_ok (l := []) (fun p hp => by cases hp) h (fun j hj => by rw [hρ]; exact hG j hj) hvs hm hp⟩
theorem ok : SumOk Try.prog B.F 8 pat := sum_run cfg_ok tree_eq rfl
end Go.Proofs.Ytemallghdmkpaaa.Check
