/- What a call of chronobate.chronobatelaw14.alive comes to, in letters. No conditions. -/
import Derived.Test.YtableianhaojcaaSX3
import Derived.Test.YtableianhaojcaaProg
import Derived.KernelRfl
import Derived.Test.YtableianhaojcaaCP1
import Derived.Test.YtableianhaojcaaB
namespace Go.Proofs.Ytableianhaojcaa.Alive
open Go Go.SX Go.Proofs.Ytableianhaojcaa Go.Proofs.Ytableianhaojcaa.L Go.Proofs.Ytableianhaojcaa.B Go.RowKit Go.Proofs.YtableianhaojcaaW.PrintWords
set_option maxRecDepth 100000
set_option linter.unusedVariables false
set_option linter.unusedSimpArgs false
def args : List AV := []
def mem : List AObj := []
def pc : List (SE × Bool) := []
def cfg : Cfg := { ok := [3, 4, 5, 6, 7, 8, 9, 10, 11, 12, 13, 14, 15, 16, 17, 18, 19, 20, 21, 22, 23, 24, 25, 26, 27, 28, 29, 30, 31, 32, 33, 34, 35, 36, 37, 38, 39, 40, 41, 42, 43, 44, 45, 46, 47, 48, 49, 50, 51, 52, 53, 54, 55, 56, 57, 58, 59, 60, 61, 62, 63, 64, 65, 66, 67, 68, 69, 70, 71, 72, 73, 74, 75, 76, 77, 78, 79, 80, 81, 82, 83, 84], sums := sumsOf [(45, Put.pat), (31, Query.pat), (24, Good.pat)], loops := [] }
def tree : Tree :=
(.leaf (.bool (.lit 1)) [])
def pat : Pat := ⟨args, mem, needs pc tree.toOut⟩
set_option maxHeartbeats 40000000 in
theorem tree_eq : callS Try.prog cfg 100000 11 args mem pc = tree := by kernel_rfl
theorem cfg_ok (G : Nat → List Int → Int) (hG : ∀ j, 100 ≤ j → j < 200 → G j = B.F j) : CfgOk Try.prog cfg G (fun _ _ => True) :=
  ⟨by kernel_rfl, okB_spec (by kernel_rfl), fun f a m out h S w0 bs ρ w vs v mem' _ hρ hvs hm hp => sumsOf_sound (F := B.F) (l := [(45, Put.pat), (31, Query.pat), (24, Good.pat)]) (fun p hp => by
    simp only [List.mem_cons, List.not_mem_nil, or_false] at hp
    rcases hp with rfl | rfl | rfl
    · exact Put.ok
    · exact Query.ok
    · exact Good.ok) h (fun j hj hj2 => by rw [hρ]; exact hG j hj hj2) hvs hm hp⟩
theorem ok : SumOk Try.prog B.F 11 pat := sum_run cfg_ok tree_eq rfl
end Go.Proofs.Ytableianhaojcaa.Alive
