/- What a call of chronobate.packet.Put comes to, in letters. No conditions. -/
import Derived.Test.YtemallghdmkpaaaSX3
import Derived.Test.YtemallghdmkpaaaProg
import Derived.KernelRfl
import Derived.Test.YtemallghdmkpaaaB
namespace Go.Proofs.Ytemallghdmkpaaa.Put
open Go Go.SX Go.Proofs.Ytemallghdmkpaaa
set_option maxRecDepth 100000
set_option linter.unusedVariables false
def args : List AV := [.agg (ofList [.int .u8 (.var 0), .int .u8 (.var 1), .int .u8 (.var 2), .int .u8 (.var 3), .int .i8 (.var 4), .int .i8 (.var 5), .int .u32 (.var 6), .int .u32 (.var 7), .int .u32 (.var 8), .int .u64 (.var 9), .int .u64 (.var 10), .int .u64 (.var 11), .int .u64 (.var 12)])]
def mem : List AObj := []
def pc : List (SE × Bool) := []
def cfg : Cfg := { ok := [3, 4, 5, 6, 7, 8, 9, 10, 11, 12, 13, 14, 15, 16, 17, 18, 19, 20, 21, 22, 23, 24, 25, 26, 27, 28, 29, 30, 31, 32, 33, 34, 35, 36, 37, 38, 39, 40, 41, 42, 43, 44, 45, 46, 47, 48, 49, 50, 67, 68, 69, 70, 71], sums := fun f a m => sums2 B.cus [] f a m, loops := [] }
def tree : Tree :=
(.ite (.cmp .lss (.lit 3) (.var 0))
 (.leaf (.tuple (.cons .nilslice (.cons (.int .i64 (.lit 3)) .nil))) [])
 (.ite (.cmp .lss (.lit 7) (.mx (.var 1) (.var 2)))
 (.leaf (.tuple (.cons .nilslice (.cons (.int .i64 (.lit 3)) .nil))) [])
 (.leaf (.tuple (.cons (.row 0 0 (.lit 48) 0) (.cons (.int .i64 (.lit 0)) .nil))) [(.cells [(.int .u8 (.conv .u8 (.bin .or .u8 (.bin .or .u8 (.bin .shl .u8 (.var 0) (.lit 6)) (.bin .shl .u8 (.var 1) (.lit 3))) (.var 2)))), (.int .u8 (.conv .u8 (.var 3))), (.int .u8 (.conv .u8 (.var 4))), (.int .u8 (.conv .u8 (.var 5))), (.int .u8 (.conv .u8 (.bin .shr .u64 (.conv .u64 (.var 6)) (.lit 24)))), (.int .u8 (.conv .u8 (.bin .shr .u64 (.conv .u64 (.var 6)) (.lit 16)))), (.int .u8 (.conv .u8 (.bin .shr .u64 (.conv .u64 (.var 6)) (.lit 8)))), (.int .u8 (.conv .u8 (.var 6))), (.int .u8 (.conv .u8 (.bin .shr .u64 (.conv .u64 (.var 7)) (.lit 24)))), (.int .u8 (.conv .u8 (.bin .shr .u64 (.conv .u64 (.var 7)) (.lit 16)))), (.int .u8 (.conv .u8 (.bin .shr .u64 (.conv .u64 (.var 7)) (.lit 8)))), (.int .u8 (.conv .u8 (.var 7))), (.int .u8 (.conv .u8 (.bin .shr .u64 (.conv .u64 (.var 8)) (.lit 24)))), (.int .u8 (.conv .u8 (.bin .shr .u64 (.conv .u64 (.var 8)) (.lit 16)))), (.int .u8 (.conv .u8 (.bin .shr .u64 (.conv .u64 (.var 8)) (.lit 8)))), (.int .u8 (.conv .u8 (.var 8))), (.int .u8 (.conv .u8 (.bin .shr .u64 (.var 9) (.lit 56)))), (.int .u8 (.conv .u8 (.bin .shr .u64 (.var 9) (.lit 48)))), (.int .u8 (.conv .u8 (.bin .shr .u64 (.var 9) (.lit 40)))), (.int .u8 (.conv .u8 (.bin .shr .u64 (.var 9) (.lit 32)))), (.int .u8 (.conv .u8 (.bin .shr .u64 (.var 9) (.lit 24)))), (.int .u8 (.conv .u8 (.bin .shr .u64 (.var 9) (.lit 16)))), (.int .u8 (.conv .u8 (.bin .shr .u64 (.var 9) (.lit 8)))), (.int .u8 (.conv .u8 (.var 9))), (.int .u8 (.conv .u8 (.bin .shr .u64 (.var 10) (.lit 56)))), (.int .u8 (.conv .u8 (.bin .shr .u64 (.var 10) (.lit 48)))), (.int .u8 (.conv .u8 (.bin .shr .u64 (.var 10) (.lit 40)))), (.int .u8 (.conv .u8 (.bin .shr .u64 (.var 10) (.lit 32)))), (.int .u8 (.conv .u8 (.bin .shr .u64 (.var 10) (.lit 24)))), (.int .u8 (.conv .u8 (.bin .shr .u64 (.var 10) (.lit 16)))), (.int .u8 (.conv .u8 (.bin .shr .u64 (.var 10) (.lit 8)))), (.int .u8 (.conv .u8 (.var 10))), (.int .u8 (.conv .u8 (.bin .shr .u64 (.var 11) (.lit 56)))), (.int .u8 (.conv .u8 (.bin .shr .u64 (.var 11) (.lit 48)))), (.int .u8 (.conv .u8 (.bin .shr .u64 (.var 11) (.lit 40)))), (.int .u8 (.conv .u8 (.bin .shr .u64 (.var 11) (.lit 32)))), (.int .u8 (.conv .u8 (.bin .shr .u64 (.var 11) (.lit 24)))), (.int .u8 (.conv .u8 (.bin .shr .u64 (.var 11) (.lit 16)))), (.int .u8 (.conv .u8 (.bin .shr .u64 (.var 11) (.lit 8)))), (.int .u8 (.conv .u8 (.var 11))), (.int .u8 (.conv .u8 (.bin .shr .u64 (.var 12) (.lit 56)))), (.int .u8 (.conv .u8 (.bin .shr .u64 (.var 12) (.lit 48)))), (.int .u8 (.conv .u8 (.bin .shr .u64 (.var 12) (.lit 40)))), (.int .u8 (.conv .u8 (.bin .shr .u64 (.var 12) (.lit 32)))), (.int .u8 (.conv .u8 (.bin .shr .u64 (.var 12) (.lit 24)))), (.int .u8 (.conv .u8 (.bin .shr .u64 (.var 12) (.lit 16)))), (.int .u8 (.conv .u8 (.bin .shr .u64 (.var 12) (.lit 8)))), (.int .u8 (.conv .u8 (.var 12)))] 5 true (some 1))])))
def pat : Pat := ⟨args, mem, needs pc tree.toOut⟩
set_option maxHeartbeats 40000000 in
theorem tree_eq : callS Try.prog cfg 100000 21 args mem pc = tree := by kernel_rfl
theorem cfg_ok (G : Nat → List Int → Int) (hG : ∀ j, 100 ≤ j → G j = B.F j) : CfgOk Try.prog cfg G (fun _ _ => True) :=
  ⟨by kernel_rfl, okB_spec (by kernel_rfl), fun f a m out h S w0 bs ρ w vs v mem' _ hρ hvs hm hp => sums2_sound B.cus_ok (l := []) (fun p hp => by cases hp) h (fun j hj => by rw [hρ]; exact hG j hj) hvs hm hp⟩
theorem ok : SumOk Try.prog B.F 21 pat := sum_run cfg_ok tree_eq rfl
end Go.Proofs.Ytemallghdmkpaaa.Put
