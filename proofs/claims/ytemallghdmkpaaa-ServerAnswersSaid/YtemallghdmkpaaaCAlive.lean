/- What a call of chronobate.chronobatelaw19.alive comes to, in letters. No conditions. -/
import Derived.Test.YtemallghdmkpaaaSX3
import Derived.Test.YtemallghdmkpaaaProg
import Derived.KernelRfl
import Derived.Test.YtemallghdmkpaaaCGetR
import Derived.Test.YtemallghdmkpaaaCLookR
import Derived.Test.YtemallghdmkpaaaCP1
import Derived.Test.YtemallghdmkpaaaB
namespace Go.Proofs.Ytemallghdmkpaaa.Alive
open Go Go.SX Go.Proofs.Ytemallghdmkpaaa Go.Proofs.Ytemallghdmkpaaa.L Go.Proofs.Ytemallghdmkpaaa.B Go.RowKit Go.Proofs.YtemallghdmkpaaaW.PrintWords
set_option maxRecDepth 100000
set_option linter.unusedVariables false
set_option linter.unusedSimpArgs false
def args : List AV := []
def mem : List AObj := []
def pc : List (SE × Bool) := []
def cfg : Cfg := { ok := [3, 4, 5, 6, 7, 8, 9, 10, 11, 12, 13, 14, 15, 16, 17, 18, 19, 20, 21, 22, 23, 24, 25, 26, 27, 28, 29, 30, 31, 32, 33, 34, 35, 36, 37, 38, 39, 40, 41, 42, 43, 44, 45, 46, 47, 48, 49, 50, 67, 68, 69, 70, 71], sums := sumsOf [(21, Put.pat), (11, Query.pat), (20, Good.pat), (17, GetR.pat), (16, LookR.pat)], loops := [] }
def tree : Tree :=
(.leaf (.bool (.lit 1)) [])
def pat : Pat := ⟨args, mem, needs pc tree.toOut⟩
set_option maxHeartbeats 40000000 in
theorem tree_eq : callS Try.prog cfg 100000 9 args mem pc = tree := by kernel_rfl
theorem cfg_ok (G : Nat → List Int → Int) (hG : ∀ j, 100 ≤ j → G j = B.F j) : CfgOk Try.prog cfg G (fun _ _ => True) :=
  ⟨by kernel_rfl, okB_spec (by kernel_rfl), fun f a m out h S w0 bs ρ w vs v mem' _ hρ hvs hm hp => sumsOf_sound (F := B.F) (l := [(21, Put.pat), (11, Query.pat), (20, Good.pat), (17, GetR.pat), (16, LookR.pat)]) (fun p hp => by
    simp only [List.mem_cons, List.not_mem_nil, or_false] at hp
    rcases hp with rfl | rfl | rfl | rfl | rfl
    · exact Put.ok
    · exact Query.ok
    · exact Good.ok
    · exact GetR.ok
    · exact LookR.ok) h (fun j hj => by rw [hρ]; exact hG j hj) hvs hm hp⟩
theorem ok : SumOk Try.prog B.F 9 pat := sum_run cfg_ok tree_eq rfl
end Go.Proofs.Ytemallghdmkpaaa.Alive
