/- What a call of chronobate.chronobatelaw04.alive comes to, in letters. No conditions. -/
import Derived.Test.YthbmnjcpdjaokaaDoorSX3
import Derived.Test.YthbmnjcpdjaokaaDoorProg
import Derived.KernelRfl
import Derived.Test.YthbmnjcpdjaokaaDoorCGetR
import Derived.Test.YthbmnjcpdjaokaaDoorCLookR
import Derived.Test.YthbmnjcpdjaokaaDoorCP1
namespace Go.Proofs.YthbmnjcpdjaokaaDoor.Alive
open Go Go.SX Go.Proofs.YthbmnjcpdjaokaaDoor
set_option maxRecDepth 100000
set_option linter.unusedVariables false
set_option linter.unusedSimpArgs false
def args : List AV := []
def mem : List AObj := []
def pc : List (SE × Bool) := []
def cfg : Cfg := { ok := [3, 4, 5, 6, 7, 8, 9, 10, 11, 12, 13, 14, 15, 16, 17, 18, 19, 20, 21, 22, 23, 24, 25, 26, 48], sums := sumsOf [(24, Put.pat), (14, Good.pat), (10, GetR.pat), (5, LookR.pat)], loops := [] }
def tree : Tree :=
(.leaf (.bool (.lit 1)) [])
def pat : Pat := ⟨args, mem, needs pc tree.toOut⟩
set_option maxHeartbeats 40000000 in
theorem tree_eq : callS Tryd.prog cfg 100000 9 args mem pc = tree := by kernel_rfl
theorem cfg_ok (F G : Nat → List Int → Int) (hG : ∀ j, 100 ≤ j → j < 200 → G j = F j) : CfgOk Tryd.prog cfg G (fun _ _ => True) :=
  ⟨by kernel_rfl, okB_spec (by kernel_rfl), fun f a m out h S w0 bs ρ w vs v mem' _ hρ hvs hm hp => sumsOf_sound (F := F) (fun p hp => by
    simp only [List.mem_cons, List.not_mem_nil, or_false] at hp
    rcases hp with rfl | rfl | rfl | rfl
    · exact Put.ok F
    · exact Good.ok F
    · exact GetR.ok F
    · exact LookR.ok F) h (fun j hj hj2 => by rw [hρ]; exact hG j hj hj2) hvs hm hp⟩
theorem ok (F : Nat → List Int → Int) : SumOk Tryd.prog F 9 pat := sum_run (cfg_ok F) tree_eq rfl
end Go.Proofs.YthbmnjcpdjaokaaDoor.Alive
