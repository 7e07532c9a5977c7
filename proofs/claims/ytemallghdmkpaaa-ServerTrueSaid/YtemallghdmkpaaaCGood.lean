/- What a call of chronobate.sane.Good comes to, in letters. No conditions. -/
import Derived.Test.YtemallghdmkpaaaSX3
import Derived.Test.YtemallghdmkpaaaProg
import Derived.KernelRfl
import Derived.Test.YtemallghdmkpaaaCPut
import Derived.Test.YtemallghdmkpaaaB
namespace Go.Proofs.Ytemallghdmkpaaa.Good
open Go Go.SX Go.Proofs.Ytemallghdmkpaaa
set_option maxRecDepth 100000
set_option linter.unusedVariables false
def args : List AV := [.int .u64 (.var 0), .int .u64 (.var 1), .int .u64 (.var 2)]
def mem : List AObj := []
def pc : List (SE × Bool) := []
def cfg : Cfg := { ok := [3, 4, 5, 6, 7, 8, 9, 10, 11, 12, 13, 14, 15, 16, 17, 18, 19, 20, 21, 22, 23, 24, 25, 26, 27, 28, 29, 30, 31, 32, 33, 34, 35, 36, 37, 38, 39, 40, 41, 42, 43, 44, 45, 46, 47, 48, 49, 50, 67, 68, 69, 70, 71], sums := fun f a m => sums2 B.cus [(21, Put.pat)] f a m, loops := [] }
def tree : Tree :=
(.leaf (.row 0 0 (.lit 48) 0) [(.cells [(.int .u8 (.lit 36)), (.int .u8 (.lit 1)), (.int .u8 (.lit 0)), (.int .u8 (.lit 0)), (.int .u8 (.lit 0)), (.int .u8 (.lit 0)), (.int .u8 (.lit 0)), (.int .u8 (.lit 0)), (.int .u8 (.lit 0)), (.int .u8 (.lit 0)), (.int .u8 (.lit 0)), (.int .u8 (.lit 0)), (.int .u8 (.lit 0)), (.int .u8 (.lit 0)), (.int .u8 (.lit 0)), (.int .u8 (.lit 0)), (.int .u8 (.lit 0)), (.int .u8 (.lit 0)), (.int .u8 (.lit 0)), (.int .u8 (.lit 0)), (.int .u8 (.lit 0)), (.int .u8 (.lit 0)), (.int .u8 (.lit 0)), (.int .u8 (.lit 0)), (.int .u8 (.conv .u8 (.bin .shr .u64 (.var 0) (.lit 56)))), (.int .u8 (.conv .u8 (.bin .shr .u64 (.var 0) (.lit 48)))), (.int .u8 (.conv .u8 (.bin .shr .u64 (.var 0) (.lit 40)))), (.int .u8 (.conv .u8 (.bin .shr .u64 (.var 0) (.lit 32)))), (.int .u8 (.conv .u8 (.bin .shr .u64 (.var 0) (.lit 24)))), (.int .u8 (.conv .u8 (.bin .shr .u64 (.var 0) (.lit 16)))), (.int .u8 (.conv .u8 (.bin .shr .u64 (.var 0) (.lit 8)))), (.int .u8 (.conv .u8 (.var 0))), (.int .u8 (.conv .u8 (.bin .shr .u64 (.var 1) (.lit 56)))), (.int .u8 (.conv .u8 (.bin .shr .u64 (.var 1) (.lit 48)))), (.int .u8 (.conv .u8 (.bin .shr .u64 (.var 1) (.lit 40)))), (.int .u8 (.conv .u8 (.bin .shr .u64 (.var 1) (.lit 32)))), (.int .u8 (.conv .u8 (.bin .shr .u64 (.var 1) (.lit 24)))), (.int .u8 (.conv .u8 (.bin .shr .u64 (.var 1) (.lit 16)))), (.int .u8 (.conv .u8 (.bin .shr .u64 (.var 1) (.lit 8)))), (.int .u8 (.conv .u8 (.var 1))), (.int .u8 (.conv .u8 (.bin .shr .u64 (.var 2) (.lit 56)))), (.int .u8 (.conv .u8 (.bin .shr .u64 (.var 2) (.lit 48)))), (.int .u8 (.conv .u8 (.bin .shr .u64 (.var 2) (.lit 40)))), (.int .u8 (.conv .u8 (.bin .shr .u64 (.var 2) (.lit 32)))), (.int .u8 (.conv .u8 (.bin .shr .u64 (.var 2) (.lit 24)))), (.int .u8 (.conv .u8 (.bin .shr .u64 (.var 2) (.lit 16)))), (.int .u8 (.conv .u8 (.bin .shr .u64 (.var 2) (.lit 8)))), (.int .u8 (.conv .u8 (.var 2)))] 5 true (some 1))])
def pat : Pat := ⟨args, mem, needs pc tree.toOut⟩
set_option maxHeartbeats 40000000 in
theorem tree_eq : callS Try.prog cfg 100000 20 args mem pc = tree := by kernel_rfl
theorem cfg_ok (G : Nat → List Int → Int) (hG : ∀ j, 100 ≤ j → G j = B.F j) : CfgOk Try.prog cfg G (fun _ _ => True) :=
  ⟨by kernel_rfl, okB_spec (by kernel_rfl), fun f a m out h S w0 bs ρ w vs v mem' _ hρ hvs hm hp => sums2_sound B.cus_ok (l := [(21, Put.pat)]) (fun p hp => by
    simp only [List.mem_cons, List.not_mem_nil, or_false] at hp
    rcases hp with rfl
    · exact Put.ok) h (fun j hj => by rw [hρ]; exact hG j hj) hvs hm hp⟩
theorem ok : SumOk Try.prog B.F 20 pat := sum_run cfg_ok tree_eq rfl
end Go.Proofs.Ytemallghdmkpaaa.Good
