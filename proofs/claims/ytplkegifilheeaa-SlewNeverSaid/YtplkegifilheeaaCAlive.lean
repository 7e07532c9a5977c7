/- What a call of chronobate.chronobatelaw07.alive comes to, in letters. No conditions. -/
import Derived.Test.YtplkegifilheeaaSX3
import Derived.Test.YtplkegifilheeaaProg
import Derived.KernelRfl
import Derived.Test.YtplkegifilheeaaB
namespace Go.Proofs.Ytplkegifilheeaa.Alive
open Go Go.SX Go.Proofs.Ytplkegifilheeaa Go.Proofs.Ytplkegifilheeaa.L Go.Proofs.Ytplkegifilheeaa.B Go.RowKit Go.Proofs.YtplkegifilheeaaW.PrintWords
set_option maxRecDepth 100000
set_option linter.unusedVariables false
set_option linter.unusedSimpArgs false
def args : List AV := []
def mem : List AObj := []
def pc : List (SE × Bool) := []
def cfg : Cfg := { ok := [3, 4, 5, 6, 7, 8, 9, 10, 11, 12, 13, 14, 15, 16, 17, 18, 19, 20, 21, 22, 23, 24, 25, 26, 27, 28, 29, 30, 31, 32, 33, 34, 35, 36, 37, 38], sums := sumsOf [], loops := [] }
def tree : Tree :=
(.leaf (.bool (.lit 1)) [])
def pat : Pat := ⟨args, mem, needs pc tree.toOut⟩
set_option maxHeartbeats 40000000 in
theorem tree_eq : callS Try.prog cfg 100000 12 args mem pc = tree := by kernel_rfl
theorem cfg_ok (G : Nat → List Int → Int) (hG : ∀ j, 100 ≤ j → j < 200 → G j = B.F j) : CfgOk Try.prog cfg G (fun _ _ => True) :=
  ⟨by kernel_rfl, okB_spec (by kernel_rfl), fun f a m out h S w0 bs ρ w vs v mem' _ hρ hvs hm hp => sumsOf_sound (F := B.F) (l := []) (fun p hp => by cases hp) h (fun j hj hj2 => by rw [hρ]; exact hG j hj hj2) hvs hm hp⟩
theorem ok : SumOk Try.prog B.F 12 pat := sum_run cfg_ok tree_eq rfl
end Go.Proofs.Ytplkegifilheeaa.Alive
