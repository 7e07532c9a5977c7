/- The tree of the law PeerNone, and that all its ends say true. No conditions. -/
import Derived.Test.YtableianhaojcaaSX3
import Derived.Test.YtableianhaojcaaProg
import Derived.KernelRfl
namespace Go.Proofs.Ytableianhaojcaa.TPeerNone
open Go Go.SX
set_option maxRecDepth 100000
set_option linter.unusedVariables false
set_option linter.unusedSimpArgs false
def cfg : Cfg := { ok := (List.range 82).map (· + 3), sums := fun _ _ => none, loops := [] }
def F : Nat → List Int → Int := fun _ _ => 0
theorem cfg_ok (G : Nat → List Int → Int) (_ : ∀ j, 100 ≤ j → G j = F j) : CfgOk Try.prog cfg G :=
  ⟨by kernel_rfl, okB_spec (by kernel_rfl), fun f args v h => by cases h⟩
def args : List AV := [.int .i64 (.var 0), .int .i64 (.var 1), .int .u64 (.var 2)]
def mem : List AObj := []
def tree : Tree :=
(.leaf (.bool (.lit 1)) [])
set_option maxHeartbeats 40000000 in
theorem tree_eq : callT Try.prog cfg 100000 0 4 args mem [] = tree := by kernel_rfl
theorem tree_holds (ρ : Env) (h0 : inR .i64 (ρ.v 0) = true) (h1 : inR .i64 (ρ.v 1) = true) (h2 : inR .u64 (ρ.v 2) = true) (hf : ∀ j, 100 ≤ j → ρ.f j = F j) : tree.holds (fun _ _ => True) saysTrue ρ := says1
end Go.Proofs.Ytableianhaojcaa.TPeerNone
