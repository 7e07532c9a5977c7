/- What calls come to, in letters. No conditions. -/
import Derived.Test.YtemallghdmkpaaaSX3
import Derived.Test.YtemallghdmkpaaaProg
import Derived.KernelRfl
import Derived.Test.YtemallghdmkpaaaB
/- What a call of chronobate.packet.Put comes to, in letters. No conditions. -/
namespace Go.Proofs.Ytemallghdmkpaaa.Put
open Go Go.SX Go.Proofs.Ytemallghdmkpaaa Go.Proofs.Ytemallghdmkpaaa.L Go.Proofs.Ytemallghdmkpaaa.B Go.RowKit Go.Proofs.YtemallghdmkpaaaW.PrintWords
set_option maxRecDepth 100000
set_option linter.unusedVariables false
set_option linter.unusedSimpArgs false
def args : List AV := [.agg (ofList [.int .u8 (.var 0), .int .u8 (.var 1), .int .u8 (.var 2), .int .u8 (.var 3), .int .i8 (.var 4), .int .i8 (.var 5), .int .u32 (.var 6), .int .u32 (.var 7), .int .u32 (.var 8), .int .u64 (.var 9), .int .u64 (.var 10), .int .u64 (.var 11), .int .u64 (.var 12)])]
def mem : List AObj := []
def pc : List (SE × Bool) := []
def cfg : Cfg := { ok := [3, 4, 5, 6, 7, 8, 9, 10, 11, 12, 13, 14, 15, 16, 17, 18, 19, 20, 21, 22, 23, 24, 25, 26, 27, 28, 29, 30, 31, 32, 33, 34, 35, 36, 37, 38, 39, 40, 41, 42, 43, 44, 45, 46, 47, 48, 49, 50, 67, 68, 69, 70, 71], sums := fun f a m => sums2 B.cus [] f a m, loops := [] }
def tree : Tree :=
(.ite (.cmp .lss (.lit 3) (.var 0))
 (.leaf (.tuple (.cons .nilslice (.cons (.int .i64 (.lit 3)) .nil))) [])
 (.ite (.cmp .lss (.lit 7) (.mx (.var 1) (.var 2)))
 (.leaf (.tuple (.cons .nilslice (.cons (.int .i64 (.lit 3)) .nil))) [])
 (.leaf (.tuple (.cons (.row 0 0 (.lit 48) 0) (.cons (.int .i64 (.lit 0)) .nil))) [(.cells [(.int .u8 (.conv .u8 (.bin .or .u8 (.bin .or .u8 (.bin .shl .u8 (.var 0) (.lit 6)) (.bin .shl .u8 (.var 1) (.lit 3))) (.var 2)))), (.int .u8 (.conv .u8 (.var 3))), (.int .u8 (.conv .u8 (.var 4))), (.int .u8 (.conv .u8 (.var 5))), (.int .u8 (.conv .u8 (.bin .shr .u64 (.conv .u64 (.var 6)) (.lit 24)))), (.int .u8 (.conv .u8 (.bin .shr .u64 (.conv .u64 (.var 6)) (.lit 16)))), (.int .u8 (.conv .u8 (.bin .shr .u64 (.conv .u64 (.var 6)) (.lit 8)))), (.int .u8 (.conv .u8 (.var 6))), (.int .u8 (.conv .u8 (.bin .shr .u64 (.conv .u64 (.var 7)) (.lit 24)))), (.int .u8 (.conv .u8 (.bin .shr .u64 (.conv .u64 (.var 7)) (.lit 16)))), (.int .u8 (.conv .u8 (.bin .shr .u64 (.conv .u64 (.var 7)) (.lit 8)))), (.int .u8 (.conv .u8 (.var 7))), (.int .u8 (.conv .u8 (.bin .shr .u64 (.conv .u64 (.var 8)) (.lit 24)))), (.int .u8 (.conv .u8 (.bin .shr .u64 (.conv .u64 (.var 8)) (.lit 16)))), (.int .u8 (.conv .u8 (.bin .shr .u64 (.conv .u64 (.var 8)) (.lit 8)))), (.int .u8 (.conv .u8 (.var 8))), (.int .u8 (.conv .u8 (.bin .shr .u64 (.var 9) (.lit 56)))), (.int .u8 (.conv .u8 (.bin .shr .u64 (.var 9) (.lit 48)))), (.int .u8 (.conv .u8 (.bin .shr .u64 (.var 9) (.lit 40)))), (.int .u8 (.conv .u8 (.bin .shr .u64 (.var 9) (.lit 32)))), (.int .u8 (.conv .u8 (.bin .shr .u64 (.var 9) (.lit 24)))), (.int .u8 (.conv .u8 (.bin .shr .u64 (.var 9) (.lit 16)))), (.int .u8 (.conv .u8 (.bin .shr .u64 (.var 9) (.lit 8)))), (.int .u8 (.conv .u8 (.var 9))), (.int .u8 (.conv .u8 (.bin .shr .u64 (.var 10) (.lit 56)))), (.int .u8 (.conv .u8 (.bin .shr .u64 (.var 10) (.lit 48)))), (.int .u8 (.conv .u8 (.bin .shr .u64 (.var 10) (.lit 40)))), (.int .u8 (.conv .u8 (.bin .shr .u64 (.var 10) (.lit 32)))), (.int .u8 (.conv .u8 (.bin .shr .u64 (.var 10) (.lit 24)))), (.int .u8 (.conv .u8 (.bin .shr .u64 (.var 10) (.lit 16)))), (.int .u8 (.conv .u8 (.bin .shr .u64 (.var 10) (.lit 8)))), (.int .u8 (.conv .u8 (.var 10))), (.int .u8 (.conv .u8 (.bin .shr .u64 (.var 11) (.lit 56)))), (.int .u8 (.conv .u8 (.bin .shr .u64 (.var 11) (.lit 48)))), (.int .u8 (.conv .u8 (.bin .shr .u64 (.var 11) (.lit 40)))), (.int .u8 (.conv .u8 (.bin .shr .u64 (.var 11) (.lit 32)))), (.int .u8 (.conv .u8 (.bin .shr .u64 (.var 11) (.lit 24)))), (.int .u8 (.conv .u8 (.bin .shr .u64 (.var 11) (.lit 16)))), (.int .u8 (.conv .u8 (.bin .shr .u64 (.var 11) (.lit 8)))), (.int .u8 (.conv .u8 (.var 11))), (.int .u8 (.conv .u8 (.bin .shr .u64 (.var 12) (.lit 56)))), (.int .u8 (.conv .u8 (.bin .shr .u64 (.var 12) (.lit 48)))), (.int .u8 (.conv .u8 (.bin .shr .u64 (.var 12) (.lit 40)))), (.int .u8 (.conv .u8 (.bin .shr .u64 (.var 12) (.lit 32)))), (.int .u8 (.conv .u8 (.bin .shr .u64 (.var 12) (.lit 24)))), (.int .u8 (.conv .u8 (.bin .shr .u64 (.var 12) (.lit 16)))), (.int .u8 (.conv .u8 (.bin .shr .u64 (.var 12) (.lit 8)))), (.int .u8 (.conv .u8 (.var 12)))] 5 true (some 1))])))
def pat : Pat := ⟨args, mem, needs pc tree.toOut⟩
set_option maxHeartbeats 40000000 in
theorem tree_eq : callS Try.prog cfg 100000 21 args mem pc = tree := by kernel_rfl
theorem cfg_ok (G : Nat → List Int → Int) (hG : ∀ j, 100 ≤ j → G j = B.F j) : CfgOk Try.prog cfg G (fun _ _ => True) :=
  ⟨by kernel_rfl, okB_spec (by kernel_rfl), fun f a m out h S w0 bs ρ w vs v mem' _ hρ hvs hm hp => sums2_sound B.cus_ok (l := []) (fun p hp => by cases hp) h (fun j hj => by rw [hρ]; exact hG j hj) hvs hm hp⟩
theorem ok : SumOk Try.prog B.F 21 pat := sum_run cfg_ok tree_eq rfl
end Go.Proofs.Ytemallghdmkpaaa.Put

/- What a call of chronobate.packet.Query comes to, in letters. No conditions. -/
namespace Go.Proofs.Ytemallghdmkpaaa.Query
open Go Go.SX Go.Proofs.Ytemallghdmkpaaa Go.Proofs.Ytemallghdmkpaaa.L Go.Proofs.Ytemallghdmkpaaa.B Go.RowKit Go.Proofs.YtemallghdmkpaaaW.PrintWords
set_option maxRecDepth 100000
set_option linter.unusedVariables false
set_option linter.unusedSimpArgs false
def args : List AV := [.int .u64 (.var 0)]
def mem : List AObj := []
def pc : List (SE × Bool) := []
def cfg : Cfg := { ok := [3, 4, 5, 6, 7, 8, 9, 10, 11, 12, 13, 14, 15, 16, 17, 18, 19, 20, 21, 22, 23, 24, 25, 26, 27, 28, 29, 30, 31, 32, 33, 34, 35, 36, 37, 38, 39, 40, 41, 42, 43, 44, 45, 46, 47, 48, 49, 50, 67, 68, 69, 70, 71], sums := fun f a m => sums2 B.cus [(21, Put.pat)] f a m, loops := [] }
def tree : Tree :=
(.leaf (.row 0 0 (.lit 48) 0) [(.cells [(.int .u8 (.lit 35)), (.int .u8 (.lit 0)), (.int .u8 (.lit 0)), (.int .u8 (.lit 0)), (.int .u8 (.lit 0)), (.int .u8 (.lit 0)), (.int .u8 (.lit 0)), (.int .u8 (.lit 0)), (.int .u8 (.lit 0)), (.int .u8 (.lit 0)), (.int .u8 (.lit 0)), (.int .u8 (.lit 0)), (.int .u8 (.lit 0)), (.int .u8 (.lit 0)), (.int .u8 (.lit 0)), (.int .u8 (.lit 0)), (.int .u8 (.lit 0)), (.int .u8 (.lit 0)), (.int .u8 (.lit 0)), (.int .u8 (.lit 0)), (.int .u8 (.lit 0)), (.int .u8 (.lit 0)), (.int .u8 (.lit 0)), (.int .u8 (.lit 0)), (.int .u8 (.lit 0)), (.int .u8 (.lit 0)), (.int .u8 (.lit 0)), (.int .u8 (.lit 0)), (.int .u8 (.lit 0)), (.int .u8 (.lit 0)), (.int .u8 (.lit 0)), (.int .u8 (.lit 0)), (.int .u8 (.lit 0)), (.int .u8 (.lit 0)), (.int .u8 (.lit 0)), (.int .u8 (.lit 0)), (.int .u8 (.lit 0)), (.int .u8 (.lit 0)), (.int .u8 (.lit 0)), (.int .u8 (.lit 0)), (.int .u8 (.conv .u8 (.bin .shr .u64 (.var 0) (.lit 56)))), (.int .u8 (.conv .u8 (.bin .shr .u64 (.var 0) (.lit 48)))), (.int .u8 (.conv .u8 (.bin .shr .u64 (.var 0) (.lit 40)))), (.int .u8 (.conv .u8 (.bin .shr .u64 (.var 0) (.lit 32)))), (.int .u8 (.conv .u8 (.bin .shr .u64 (.var 0) (.lit 24)))), (.int .u8 (.conv .u8 (.bin .shr .u64 (.var 0) (.lit 16)))), (.int .u8 (.conv .u8 (.bin .shr .u64 (.var 0) (.lit 8)))), (.int .u8 (.conv .u8 (.var 0)))] 5 true (some 1))])
def pat : Pat := ⟨args, mem, needs pc tree.toOut⟩
set_option maxHeartbeats 40000000 in
theorem tree_eq : callS Try.prog cfg 100000 11 args mem pc = tree := by kernel_rfl
theorem cfg_ok (G : Nat → List Int → Int) (hG : ∀ j, 100 ≤ j → G j = B.F j) : CfgOk Try.prog cfg G (fun _ _ => True) :=
  ⟨by kernel_rfl, okB_spec (by kernel_rfl), fun f a m out h S w0 bs ρ w vs v mem' _ hρ hvs hm hp => sums2_sound B.cus_ok (l := [(21, Put.pat)]) (fun p hp => by
    simp only [List.mem_cons, List.not_mem_nil, or_false] at hp
    rcases hp with rfl
    · exact Put.ok) h (fun j hj => by rw [hρ]; exact hG j hj) hvs hm hp⟩
theorem ok : SumOk Try.prog B.F 11 pat := sum_run cfg_ok tree_eq rfl
end Go.Proofs.Ytemallghdmkpaaa.Query

/- What a call of chronobate.sane.Good comes to, in letters. No conditions. -/
namespace Go.Proofs.Ytemallghdmkpaaa.Good
open Go Go.SX Go.Proofs.Ytemallghdmkpaaa Go.Proofs.Ytemallghdmkpaaa.L Go.Proofs.Ytemallghdmkpaaa.B Go.RowKit Go.Proofs.YtemallghdmkpaaaW.PrintWords
set_option maxRecDepth 100000
set_option linter.unusedVariables false
set_option linter.unusedSimpArgs false
def args : List AV := [.int .u64 (.var 0), .int .u64 (.var 1), .int .u64 (.var 2)]
def mem : List AObj := []
def pc : List (SE × Bool) := []
def cfg : Cfg := { ok := [3, 4, 5, 6, 7, 8, 9, 10, 11, 12, 13, 14, 15, 16, 17, 18, 19, 20, 21, 22, 23, 24, 25, 26, 27, 28, 29, 30, 31, 32, 33, 34, 35, 36, 37, 38, 39, 40, 41, 42, 43, 44, 45, 46, 47, 48, 49, 50, 67, 68, 69, 70, 71], sums := fun f a m => sums2 B.cus [(21, Put.pat)] f a m, loops := [] }
def tree : Tree :=
(.leaf (.row 0 0 (.lit 48) 0) [(.cells [(.int .u8 (.lit 36)), (.int .u8 (.lit 1)), (.int .u8 (.lit 0)), (.int .u8 (.lit 0)), (.int .u8 (.lit 0)), (.int .u8 (.lit 0)), (.int .u8 (.lit 0)), (.int .u8 (.lit 0)), (.int .u8 (.lit 0)), (.int .u8 (.lit 0)), (.int .u8 (.lit 0)), (.int .u8 (.lit 0)), (.int .u8 (.lit 0)), (.int .u8 (.lit 0)), (.int .u8 (.lit 0)), (.int .u8 (.lit 0)), (.int .u8 (.lit 0)), (.int .u8 (.lit 0)), (.int .u8 (.lit 0)), (.int .u8 (.lit 0)), (.int .u8 (.lit 0)), (.int .u8 (.lit 0)), (.int .u8 (.lit 0)), (.int .u8 (.lit 0)), (.int .u8 (.conv .u8 (.bin .shr .u64 (.var 0) (.lit 56)))), (.int .u8 (.conv .u8 (.bin .shr .u64 (.var 0) (.lit 48)))), (.int .u8 (.conv .u8 (.bin .shr .u64 (.var 0) (.lit 40)))), (.int .u8 (.conv .u8 (.bin .shr .u64 (.var 0) (.lit 32)))), (.int .u8 (.conv .u8 (.bin .shr .u64 (.var 0) (.lit 24)))), (.int .u8 (.conv .u8 (.bin .shr .u64 (.var 0) (.lit 16)))), (.int .u8 (.conv .u8 (.bin .shr .u64 (.var 0) (.lit 8)))), (.int .u8 (.conv .u8 (.var 0))), (.int .u8 (.conv .u8 (.bin .shr .u64 (.var 1) (.lit 56)))), (.int .u8 (.conv .u8 (.bin .shr .u64 (.var 1) (.lit 48)))), (.int .u8 (.conv .u8 (.bin .shr .u64 (.var 1) (.lit 40)))), (.int .u8 (.conv .u8 (.bin .shr .u64 (.var 1) (.lit 32)))), (.int .u8 (.conv .u8 (.bin .shr .u64 (.var 1) (.lit 24)))), (.int .u8 (.conv .u8 (.bin .shr .u64 (.var 1) (.lit 16)))), (.int .u8 (.conv .u8 (.bin .shr .u64 (.var 1) (.lit 8)))), (.int .u8 (.conv .u8 (.var 1))), (.int .u8 (.conv .u8 (.bin .shr .u64 (.var 2) (.lit 56)))), (.int .u8 (.conv .u8 (.bin .shr .u64 (.var 2) (.lit 48)))), (.int .u8 (.conv .u8 (.bin .shr .u64 (.var 2) (.lit 40)))), (.int .u8 (.conv .u8 (.bin .shr .u64 (.var 2) (.lit 32)))), (.int .u8 (.conv .u8 (.bin .shr .u64 (.var 2) (.lit 24)))), (.int .u8 (.conv .u8 (.bin .shr .u64 (.var 2) (.lit 16)))), (.int .u8 (.conv .u8 (.bin .shr .u64 (.var 2) (.lit 8)))), (.int .u8 (.conv .u8 (.var 2)))] 5 true (some 1))])
def pat : Pat := ⟨args, mem, needs pc tree.toOut⟩
set_option maxHeartbeats 40000000 in
theorem tree_eq : callS Try.prog cfg 100000 20 args mem pc = tree := by kernel_rfl
theorem cfg_ok (G : Nat → List Int → Int) (hG : ∀ j, 100 ≤ j → G j = B.F j) : CfgOk Try.prog cfg G (fun _ _ => True) :=
  ⟨by kernel_rfl, okB_spec (by kernel_rfl), fun f a m out h S w0 bs ρ w vs v mem' _ hρ hvs hm hp => sums2_sound B.cus_ok (l := [(21, Put.pat)]) (fun p hp => by
    simp only [List.mem_cons, List.not_mem_nil, or_false] at hp
    rcases hp with rfl
    · exact Put.ok) h (fun j hj => by rw [hρ]; exact hG j hj) hvs hm hp⟩
theorem ok : SumOk Try.prog B.F 20 pat := sum_run cfg_ok tree_eq rfl
end Go.Proofs.Ytemallghdmkpaaa.Good

/- What a call of chronobate.chronobateref03.Put comes to, in letters. No conditions. -/
namespace Go.Proofs.Ytemallghdmkpaaa.RPut
open Go Go.SX Go.Proofs.Ytemallghdmkpaaa Go.Proofs.Ytemallghdmkpaaa.L Go.Proofs.Ytemallghdmkpaaa.B Go.RowKit Go.Proofs.YtemallghdmkpaaaW.PrintWords
set_option maxRecDepth 100000
set_option linter.unusedVariables false
set_option linter.unusedSimpArgs false
def args : List AV := [.agg (ofList [.int .u8 (.var 0), .int .u8 (.var 1), .int .u8 (.var 2), .int .u8 (.var 3), .int .i8 (.var 4), .int .i8 (.var 5), .int .u32 (.var 6), .int .u32 (.var 7), .int .u32 (.var 8), .int .u64 (.var 9), .int .u64 (.var 10), .int .u64 (.var 11), .int .u64 (.var 12)])]
def mem : List AObj := []
def pc : List (SE × Bool) := []
def cfg : Cfg := { ok := [3, 4, 5, 6, 7, 8, 9, 10, 11, 12, 13, 14, 15, 16, 17, 18, 19, 20, 21, 22, 23, 24, 25, 26, 27, 28, 29, 30, 31, 32, 33, 34, 35, 36, 37, 38, 39, 40, 41, 42, 43, 44, 45, 46, 47, 48, 49, 50, 67, 68, 69, 70, 71], sums := fun f a m => sums2 B.cus [] f a m, loops := [] }
def tree : Tree :=
(.leaf (.row 0 0 (.lit 48) 0) [(.cells [(.int .u8 (.bin .add .u8 (.bin .add .u8 (.bin .mul .u8 (.lit 64) (.var 0)) (.bin .mul .u8 (.lit 8) (.var 1))) (.var 2))), (.int .u8 (.var 3)), (.int .u8 (.conv .u8 (.var 4))), (.int .u8 (.conv .u8 (.var 5))), (.int .u8 (.conv .u8 (.bin .rem .u64 (.bin .quo .u64 (.bin .quo .u64 (.bin .quo .u64 (.conv .u64 (.var 6)) (.lit 256)) (.lit 256)) (.lit 256)) (.lit 256)))), (.int .u8 (.conv .u8 (.bin .rem .u64 (.bin .quo .u64 (.bin .quo .u64 (.conv .u64 (.var 6)) (.lit 256)) (.lit 256)) (.lit 256)))), (.int .u8 (.conv .u8 (.bin .rem .u64 (.bin .quo .u64 (.conv .u64 (.var 6)) (.lit 256)) (.lit 256)))), (.int .u8 (.conv .u8 (.bin .rem .u64 (.conv .u64 (.var 6)) (.lit 256)))), (.int .u8 (.conv .u8 (.bin .rem .u64 (.bin .quo .u64 (.bin .quo .u64 (.bin .quo .u64 (.conv .u64 (.var 7)) (.lit 256)) (.lit 256)) (.lit 256)) (.lit 256)))), (.int .u8 (.conv .u8 (.bin .rem .u64 (.bin .quo .u64 (.bin .quo .u64 (.conv .u64 (.var 7)) (.lit 256)) (.lit 256)) (.lit 256)))), (.int .u8 (.conv .u8 (.bin .rem .u64 (.bin .quo .u64 (.conv .u64 (.var 7)) (.lit 256)) (.lit 256)))), (.int .u8 (.conv .u8 (.bin .rem .u64 (.conv .u64 (.var 7)) (.lit 256)))), (.int .u8 (.conv .u8 (.bin .rem .u64 (.bin .quo .u64 (.bin .quo .u64 (.bin .quo .u64 (.conv .u64 (.var 8)) (.lit 256)) (.lit 256)) (.lit 256)) (.lit 256)))), (.int .u8 (.conv .u8 (.bin .rem .u64 (.bin .quo .u64 (.bin .quo .u64 (.conv .u64 (.var 8)) (.lit 256)) (.lit 256)) (.lit 256)))), (.int .u8 (.conv .u8 (.bin .rem .u64 (.bin .quo .u64 (.conv .u64 (.var 8)) (.lit 256)) (.lit 256)))), (.int .u8 (.conv .u8 (.bin .rem .u64 (.conv .u64 (.var 8)) (.lit 256)))), (.int .u8 (.conv .u8 (.bin .rem .u64 (.bin .quo .u64 (.bin .quo .u64 (.bin .quo .u64 (.bin .quo .u64 (.bin .quo .u64 (.bin .quo .u64 (.bin .quo .u64 (.var 9) (.lit 256)) (.lit 256)) (.lit 256)) (.lit 256)) (.lit 256)) (.lit 256)) (.lit 256)) (.lit 256)))), (.int .u8 (.conv .u8 (.bin .rem .u64 (.bin .quo .u64 (.bin .quo .u64 (.bin .quo .u64 (.bin .quo .u64 (.bin .quo .u64 (.bin .quo .u64 (.var 9) (.lit 256)) (.lit 256)) (.lit 256)) (.lit 256)) (.lit 256)) (.lit 256)) (.lit 256)))), (.int .u8 (.conv .u8 (.bin .rem .u64 (.bin .quo .u64 (.bin .quo .u64 (.bin .quo .u64 (.bin .quo .u64 (.bin .quo .u64 (.var 9) (.lit 256)) (.lit 256)) (.lit 256)) (.lit 256)) (.lit 256)) (.lit 256)))), (.int .u8 (.conv .u8 (.bin .rem .u64 (.bin .quo .u64 (.bin .quo .u64 (.bin .quo .u64 (.bin .quo .u64 (.var 9) (.lit 256)) (.lit 256)) (.lit 256)) (.lit 256)) (.lit 256)))), (.int .u8 (.conv .u8 (.bin .rem .u64 (.bin .quo .u64 (.bin .quo .u64 (.bin .quo .u64 (.var 9) (.lit 256)) (.lit 256)) (.lit 256)) (.lit 256)))), (.int .u8 (.conv .u8 (.bin .rem .u64 (.bin .quo .u64 (.bin .quo .u64 (.var 9) (.lit 256)) (.lit 256)) (.lit 256)))), (.int .u8 (.conv .u8 (.bin .rem .u64 (.bin .quo .u64 (.var 9) (.lit 256)) (.lit 256)))), (.int .u8 (.conv .u8 (.bin .rem .u64 (.var 9) (.lit 256)))), (.int .u8 (.conv .u8 (.bin .rem .u64 (.bin .quo .u64 (.bin .quo .u64 (.bin .quo .u64 (.bin .quo .u64 (.bin .quo .u64 (.bin .quo .u64 (.bin .quo .u64 (.var 10) (.lit 256)) (.lit 256)) (.lit 256)) (.lit 256)) (.lit 256)) (.lit 256)) (.lit 256)) (.lit 256)))), (.int .u8 (.conv .u8 (.bin .rem .u64 (.bin .quo .u64 (.bin .quo .u64 (.bin .quo .u64 (.bin .quo .u64 (.bin .quo .u64 (.bin .quo .u64 (.var 10) (.lit 256)) (.lit 256)) (.lit 256)) (.lit 256)) (.lit 256)) (.lit 256)) (.lit 256)))), (.int .u8 (.conv .u8 (.bin .rem .u64 (.bin .quo .u64 (.bin .quo .u64 (.bin .quo .u64 (.bin .quo .u64 (.bin .quo .u64 (.var 10) (.lit 256)) (.lit 256)) (.lit 256)) (.lit 256)) (.lit 256)) (.lit 256)))), (.int .u8 (.conv .u8 (.bin .rem .u64 (.bin .quo .u64 (.bin .quo .u64 (.bin .quo .u64 (.bin .quo .u64 (.var 10) (.lit 256)) (.lit 256)) (.lit 256)) (.lit 256)) (.lit 256)))), (.int .u8 (.conv .u8 (.bin .rem .u64 (.bin .quo .u64 (.bin .quo .u64 (.bin .quo .u64 (.var 10) (.lit 256)) (.lit 256)) (.lit 256)) (.lit 256)))), (.int .u8 (.conv .u8 (.bin .rem .u64 (.bin .quo .u64 (.bin .quo .u64 (.var 10) (.lit 256)) (.lit 256)) (.lit 256)))), (.int .u8 (.conv .u8 (.bin .rem .u64 (.bin .quo .u64 (.var 10) (.lit 256)) (.lit 256)))), (.int .u8 (.conv .u8 (.bin .rem .u64 (.var 10) (.lit 256)))), (.int .u8 (.conv .u8 (.bin .rem .u64 (.bin .quo .u64 (.bin .quo .u64 (.bin .quo .u64 (.bin .quo .u64 (.bin .quo .u64 (.bin .quo .u64 (.bin .quo .u64 (.var 11) (.lit 256)) (.lit 256)) (.lit 256)) (.lit 256)) (.lit 256)) (.lit 256)) (.lit 256)) (.lit 256)))), (.int .u8 (.conv .u8 (.bin .rem .u64 (.bin .quo .u64 (.bin .quo .u64 (.bin .quo .u64 (.bin .quo .u64 (.bin .quo .u64 (.bin .quo .u64 (.var 11) (.lit 256)) (.lit 256)) (.lit 256)) (.lit 256)) (.lit 256)) (.lit 256)) (.lit 256)))), (.int .u8 (.conv .u8 (.bin .rem .u64 (.bin .quo .u64 (.bin .quo .u64 (.bin .quo .u64 (.bin .quo .u64 (.bin .quo .u64 (.var 11) (.lit 256)) (.lit 256)) (.lit 256)) (.lit 256)) (.lit 256)) (.lit 256)))), (.int .u8 (.conv .u8 (.bin .rem .u64 (.bin .quo .u64 (.bin .quo .u64 (.bin .quo .u64 (.bin .quo .u64 (.var 11) (.lit 256)) (.lit 256)) (.lit 256)) (.lit 256)) (.lit 256)))), (.int .u8 (.conv .u8 (.bin .rem .u64 (.bin .quo .u64 (.bin .quo .u64 (.bin .quo .u64 (.var 11) (.lit 256)) (.lit 256)) (.lit 256)) (.lit 256)))), (.int .u8 (.conv .u8 (.bin .rem .u64 (.bin .quo .u64 (.bin .quo .u64 (.var 11) (.lit 256)) (.lit 256)) (.lit 256)))), (.int .u8 (.conv .u8 (.bin .rem .u64 (.bin .quo .u64 (.var 11) (.lit 256)) (.lit 256)))), (.int .u8 (.conv .u8 (.bin .rem .u64 (.var 11) (.lit 256)))), (.int .u8 (.conv .u8 (.bin .rem .u64 (.bin .quo .u64 (.bin .quo .u64 (.bin .quo .u64 (.bin .quo .u64 (.bin .quo .u64 (.bin .quo .u64 (.bin .quo .u64 (.var 12) (.lit 256)) (.lit 256)) (.lit 256)) (.lit 256)) (.lit 256)) (.lit 256)) (.lit 256)) (.lit 256)))), (.int .u8 (.conv .u8 (.bin .rem .u64 (.bin .quo .u64 (.bin .quo .u64 (.bin .quo .u64 (.bin .quo .u64 (.bin .quo .u64 (.bin .quo .u64 (.var 12) (.lit 256)) (.lit 256)) (.lit 256)) (.lit 256)) (.lit 256)) (.lit 256)) (.lit 256)))), (.int .u8 (.conv .u8 (.bin .rem .u64 (.bin .quo .u64 (.bin .quo .u64 (.bin .quo .u64 (.bin .quo .u64 (.bin .quo .u64 (.var 12) (.lit 256)) (.lit 256)) (.lit 256)) (.lit 256)) (.lit 256)) (.lit 256)))), (.int .u8 (.conv .u8 (.bin .rem .u64 (.bin .quo .u64 (.bin .quo .u64 (.bin .quo .u64 (.bin .quo .u64 (.var 12) (.lit 256)) (.lit 256)) (.lit 256)) (.lit 256)) (.lit 256)))), (.int .u8 (.conv .u8 (.bin .rem .u64 (.bin .quo .u64 (.bin .quo .u64 (.bin .quo .u64 (.var 12) (.lit 256)) (.lit 256)) (.lit 256)) (.lit 256)))), (.int .u8 (.conv .u8 (.bin .rem .u64 (.bin .quo .u64 (.bin .quo .u64 (.var 12) (.lit 256)) (.lit 256)) (.lit 256)))), (.int .u8 (.conv .u8 (.bin .rem .u64 (.bin .quo .u64 (.var 12) (.lit 256)) (.lit 256)))), (.int .u8 (.conv .u8 (.bin .rem .u64 (.var 12) (.lit 256))))] 5 true (some 1))])
def raw : Pat := ⟨args, mem, needs pc tree.toOut⟩
set_option maxHeartbeats 40000000 in
theorem tree_eq : callS Try.prog cfg 100000 27 args mem pc = tree := by kernel_rfl
theorem cfg_ok (G : Nat → List Int → Int) (hG : ∀ j, 100 ≤ j → G j = B.F j) : CfgOk Try.prog cfg G (fun _ _ => True) :=
  ⟨by kernel_rfl, okB_spec (by kernel_rfl), fun f a m out h S w0 bs ρ w vs v mem' _ hρ hvs hm hp => sums2_sound B.cus_ok (l := []) (fun p hp => by cases hp) h (fun j hj => by rw [hρ]; exact hG j hj) hvs hm hp⟩
theorem raw_ok : SumOk Try.prog B.F 27 raw := sum_run cfg_ok tree_eq rfl
def pat : Pat := ⟨args, mem, .done (.row 0 0 (.lit 48) 0) [.cells [(.int .u8 (.bin .add .u8 (.bin .add .u8 (.bin .mul .u8 (.lit 64) (.var 0)) (.bin .mul .u8 (.lit 8) (.var 1))) (.var 2))), (.int .u8 (.var 3)), (.int .u8 (.conv .u8 (.var 4))), (.int .u8 (.conv .u8 (.var 5))), (.int .u8 (.conv .u8 (.bin .shr .u64 (.conv .u64 (.var 6)) (.lit 24)))), (.int .u8 (.conv .u8 (.bin .shr .u64 (.conv .u64 (.var 6)) (.lit 16)))), (.int .u8 (.conv .u8 (.bin .shr .u64 (.conv .u64 (.var 6)) (.lit 8)))), (.int .u8 (.conv .u8 (.var 6))), (.int .u8 (.conv .u8 (.bin .shr .u64 (.conv .u64 (.var 7)) (.lit 24)))), (.int .u8 (.conv .u8 (.bin .shr .u64 (.conv .u64 (.var 7)) (.lit 16)))), (.int .u8 (.conv .u8 (.bin .shr .u64 (.conv .u64 (.var 7)) (.lit 8)))), (.int .u8 (.conv .u8 (.var 7))), (.int .u8 (.conv .u8 (.bin .shr .u64 (.conv .u64 (.var 8)) (.lit 24)))), (.int .u8 (.conv .u8 (.bin .shr .u64 (.conv .u64 (.var 8)) (.lit 16)))), (.int .u8 (.conv .u8 (.bin .shr .u64 (.conv .u64 (.var 8)) (.lit 8)))), (.int .u8 (.conv .u8 (.var 8))), (.int .u8 (.conv .u8 (.bin .shr .u64 (.var 9) (.lit 56)))), (.int .u8 (.conv .u8 (.bin .shr .u64 (.var 9) (.lit 48)))), (.int .u8 (.conv .u8 (.bin .shr .u64 (.var 9) (.lit 40)))), (.int .u8 (.conv .u8 (.bin .shr .u64 (.var 9) (.lit 32)))), (.int .u8 (.conv .u8 (.bin .shr .u64 (.var 9) (.lit 24)))), (.int .u8 (.conv .u8 (.bin .shr .u64 (.var 9) (.lit 16)))), (.int .u8 (.conv .u8 (.bin .shr .u64 (.var 9) (.lit 8)))), (.int .u8 (.conv .u8 (.var 9))), (.int .u8 (.conv .u8 (.bin .shr .u64 (.var 10) (.lit 56)))), (.int .u8 (.conv .u8 (.bin .shr .u64 (.var 10) (.lit 48)))), (.int .u8 (.conv .u8 (.bin .shr .u64 (.var 10) (.lit 40)))), (.int .u8 (.conv .u8 (.bin .shr .u64 (.var 10) (.lit 32)))), (.int .u8 (.conv .u8 (.bin .shr .u64 (.var 10) (.lit 24)))), (.int .u8 (.conv .u8 (.bin .shr .u64 (.var 10) (.lit 16)))), (.int .u8 (.conv .u8 (.bin .shr .u64 (.var 10) (.lit 8)))), (.int .u8 (.conv .u8 (.var 10))), (.int .u8 (.conv .u8 (.bin .shr .u64 (.var 11) (.lit 56)))), (.int .u8 (.conv .u8 (.bin .shr .u64 (.var 11) (.lit 48)))), (.int .u8 (.conv .u8 (.bin .shr .u64 (.var 11) (.lit 40)))), (.int .u8 (.conv .u8 (.bin .shr .u64 (.var 11) (.lit 32)))), (.int .u8 (.conv .u8 (.bin .shr .u64 (.var 11) (.lit 24)))), (.int .u8 (.conv .u8 (.bin .shr .u64 (.var 11) (.lit 16)))), (.int .u8 (.conv .u8 (.bin .shr .u64 (.var 11) (.lit 8)))), (.int .u8 (.conv .u8 (.var 11))), (.int .u8 (.conv .u8 (.bin .shr .u64 (.var 12) (.lit 56)))), (.int .u8 (.conv .u8 (.bin .shr .u64 (.var 12) (.lit 48)))), (.int .u8 (.conv .u8 (.bin .shr .u64 (.var 12) (.lit 40)))), (.int .u8 (.conv .u8 (.bin .shr .u64 (.var 12) (.lit 32)))), (.int .u8 (.conv .u8 (.bin .shr .u64 (.var 12) (.lit 24)))), (.int .u8 (.conv .u8 (.bin .shr .u64 (.var 12) (.lit 16)))), (.int .u8 (.conv .u8 (.bin .shr .u64 (.var 12) (.lit 8)))), (.int .u8 (.conv .u8 (.var 12)))] 5 true (some 1)]⟩
theorem ok : SumOk Try.prog B.F 27 pat := sum_refine raw_ok (by
  intro ρ bs w vs v m hF hvs hm hp
  cases hp
  have hv : dvl bs ρ args = some vs := hvs
  unfold args at hv
  have h6 : 0 ≤ den ρ (.conv .u64 (.var 6)) ∧ den ρ (.conv .u64 (.var 6)) < 18446744073709551616 := by simp only [den, u64_wrap]; omega
  have h7 : 0 ≤ den ρ (.conv .u64 (.var 7)) ∧ den ρ (.conv .u64 (.var 7)) < 18446744073709551616 := by simp only [den, u64_wrap]; omega
  have h8 : 0 ≤ den ρ (.conv .u64 (.var 8)) ∧ den ρ (.conv .u64 (.var 8)) < 18446744073709551616 := by simp only [den, u64_wrap]; omega
  have h9 : 0 ≤ den ρ (.var 9) ∧ den ρ (.var 9) < 18446744073709551616 := by have := u64_in (agg_in hv (i := 9) (k := .u64) (e := .var 9) rfl); omega
  have h10 : 0 ≤ den ρ (.var 10) ∧ den ρ (.var 10) < 18446744073709551616 := by have := u64_in (agg_in hv (i := 10) (k := .u64) (e := .var 10) rfl); omega
  have h11 : 0 ≤ den ρ (.var 11) ∧ den ρ (.var 11) < 18446744073709551616 := by have := u64_in (agg_in hv (i := 11) (k := .u64) (e := .var 11) rfl); omega
  have h12 : 0 ≤ den ρ (.var 12) ∧ den ρ (.var 12) < 18446744073709551616 := by have := u64_in (agg_in hv (i := 12) (k := .u64) (e := .var 12) rfl); omega
  exact ⟨_, _, rfl, fun _ => rfl, meq_one (dvl_c (fun _ => rfl) (dvl_c (fun _ => rfl) (dvl_c (fun _ => rfl) (dvl_c (fun _ => rfl) (dvl_c (dv_c (q3 h6)) (dvl_c (dv_c (q2 h6)) (dvl_c (dv_c (q1 h6)) (dvl_c (dv_c ((q0 h6).trans (wrap_narrow (k := .u8) (k' := .u64) rfl _))) (dvl_c (dv_c (q3 h7)) (dvl_c (dv_c (q2 h7)) (dvl_c (dv_c (q1 h7)) (dvl_c (dv_c ((q0 h7).trans (wrap_narrow (k := .u8) (k' := .u64) rfl _))) (dvl_c (dv_c (q3 h8)) (dvl_c (dv_c (q2 h8)) (dvl_c (dv_c (q1 h8)) (dvl_c (dv_c ((q0 h8).trans (wrap_narrow (k := .u8) (k' := .u64) rfl _))) (dvl_c (dv_c (q7 h9)) (dvl_c (dv_c (q6 h9)) (dvl_c (dv_c (q5 h9)) (dvl_c (dv_c (q4 h9)) (dvl_c (dv_c (q3 h9)) (dvl_c (dv_c (q2 h9)) (dvl_c (dv_c (q1 h9)) (dvl_c (dv_c (q0 h9)) (dvl_c (dv_c (q7 h10)) (dvl_c (dv_c (q6 h10)) (dvl_c (dv_c (q5 h10)) (dvl_c (dv_c (q4 h10)) (dvl_c (dv_c (q3 h10)) (dvl_c (dv_c (q2 h10)) (dvl_c (dv_c (q1 h10)) (dvl_c (dv_c (q0 h10)) (dvl_c (dv_c (q7 h11)) (dvl_c (dv_c (q6 h11)) (dvl_c (dv_c (q5 h11)) (dvl_c (dv_c (q4 h11)) (dvl_c (dv_c (q3 h11)) (dvl_c (dv_c (q2 h11)) (dvl_c (dv_c (q1 h11)) (dvl_c (dv_c (q0 h11)) (dvl_c (dv_c (q7 h12)) (dvl_c (dv_c (q6 h12)) (dvl_c (dv_c (q5 h12)) (dvl_c (dv_c (q4 h12)) (dvl_c (dv_c (q3 h12)) (dvl_c (dv_c (q2 h12)) (dvl_c (dv_c (q1 h12)) (dvl_c (dv_c (q0 h12)) dvl_e))))))))))))))))))))))))))))))))))))))))))))))))⟩)
end Go.Proofs.Ytemallghdmkpaaa.RPut

/- What a call of chronobate.chronobateref04.Good comes to, in letters. No conditions. -/
namespace Go.Proofs.Ytemallghdmkpaaa.RGood
open Go Go.SX Go.Proofs.Ytemallghdmkpaaa Go.Proofs.Ytemallghdmkpaaa.L Go.Proofs.Ytemallghdmkpaaa.B Go.RowKit Go.Proofs.YtemallghdmkpaaaW.PrintWords
set_option maxRecDepth 100000
set_option linter.unusedVariables false
set_option linter.unusedSimpArgs false
def args : List AV := [.int .u64 (.var 0), .int .u64 (.var 1), .int .u64 (.var 2)]
def mem : List AObj := []
def pc : List (SE × Bool) := []
def cfg : Cfg := { ok := [3, 4, 5, 6, 7, 8, 9, 10, 11, 12, 13, 14, 15, 16, 17, 18, 19, 20, 21, 22, 23, 24, 25, 26, 27, 28, 29, 30, 31, 32, 33, 34, 35, 36, 37, 38, 39, 40, 41, 42, 43, 44, 45, 46, 47, 48, 49, 50, 67, 68, 69, 70, 71], sums := fun f a m => sums2 B.cus [(27, RPut.pat)] f a m, loops := [] }
def tree : Tree :=
(.leaf (.row 0 0 (.lit 48) 0) [(.cells [(.int .u8 (.lit 36)), (.int .u8 (.lit 1)), (.int .u8 (.lit 0)), (.int .u8 (.lit 0)), (.int .u8 (.lit 0)), (.int .u8 (.lit 0)), (.int .u8 (.lit 0)), (.int .u8 (.lit 0)), (.int .u8 (.lit 0)), (.int .u8 (.lit 0)), (.int .u8 (.lit 0)), (.int .u8 (.lit 0)), (.int .u8 (.lit 0)), (.int .u8 (.lit 0)), (.int .u8 (.lit 0)), (.int .u8 (.lit 0)), (.int .u8 (.lit 0)), (.int .u8 (.lit 0)), (.int .u8 (.lit 0)), (.int .u8 (.lit 0)), (.int .u8 (.lit 0)), (.int .u8 (.lit 0)), (.int .u8 (.lit 0)), (.int .u8 (.lit 0)), (.int .u8 (.conv .u8 (.bin .shr .u64 (.var 0) (.lit 56)))), (.int .u8 (.conv .u8 (.bin .shr .u64 (.var 0) (.lit 48)))), (.int .u8 (.conv .u8 (.bin .shr .u64 (.var 0) (.lit 40)))), (.int .u8 (.conv .u8 (.bin .shr .u64 (.var 0) (.lit 32)))), (.int .u8 (.conv .u8 (.bin .shr .u64 (.var 0) (.lit 24)))), (.int .u8 (.conv .u8 (.bin .shr .u64 (.var 0) (.lit 16)))), (.int .u8 (.conv .u8 (.bin .shr .u64 (.var 0) (.lit 8)))), (.int .u8 (.conv .u8 (.var 0))), (.int .u8 (.conv .u8 (.bin .shr .u64 (.var 1) (.lit 56)))), (.int .u8 (.conv .u8 (.bin .shr .u64 (.var 1) (.lit 48)))), (.int .u8 (.conv .u8 (.bin .shr .u64 (.var 1) (.lit 40)))), (.int .u8 (.conv .u8 (.bin .shr .u64 (.var 1) (.lit 32)))), (.int .u8 (.conv .u8 (.bin .shr .u64 (.var 1) (.lit 24)))), (.int .u8 (.conv .u8 (.bin .shr .u64 (.var 1) (.lit 16)))), (.int .u8 (.conv .u8 (.bin .shr .u64 (.var 1) (.lit 8)))), (.int .u8 (.conv .u8 (.var 1))), (.int .u8 (.conv .u8 (.bin .shr .u64 (.var 2) (.lit 56)))), (.int .u8 (.conv .u8 (.bin .shr .u64 (.var 2) (.lit 48)))), (.int .u8 (.conv .u8 (.bin .shr .u64 (.var 2) (.lit 40)))), (.int .u8 (.conv .u8 (.bin .shr .u64 (.var 2) (.lit 32)))), (.int .u8 (.conv .u8 (.bin .shr .u64 (.var 2) (.lit 24)))), (.int .u8 (.conv .u8 (.bin .shr .u64 (.var 2) (.lit 16)))), (.int .u8 (.conv .u8 (.bin .shr .u64 (.var 2) (.lit 8)))), (.int .u8 (.conv .u8 (.var 2)))] 5 true (some 1))])
def pat : Pat := ⟨args, mem, needs pc tree.toOut⟩
set_option maxHeartbeats 40000000 in
theorem tree_eq : callS Try.prog cfg 100000 25 args mem pc = tree := by kernel_rfl
theorem cfg_ok (G : Nat → List Int → Int) (hG : ∀ j, 100 ≤ j → G j = B.F j) : CfgOk Try.prog cfg G (fun _ _ => True) :=
  ⟨by kernel_rfl, okB_spec (by kernel_rfl), fun f a m out h S w0 bs ρ w vs v mem' _ hρ hvs hm hp => sums2_sound B.cus_ok (l := [(27, RPut.pat)]) (fun p hp => by
    simp only [List.mem_cons, List.not_mem_nil, or_false] at hp
    rcases hp with rfl
    · exact RPut.ok) h (fun j hj => by rw [hρ]; exact hG j hj) hvs hm hp⟩
theorem ok : SumOk Try.prog B.F 25 pat := sum_run cfg_ok tree_eq rfl
end Go.Proofs.Ytemallghdmkpaaa.RGood

/- What a call of chronobate.server.Check comes to, in letters. No conditions. -/
namespace Go.Proofs.Ytemallghdmkpaaa.Check
open Go Go.SX Go.Proofs.Ytemallghdmkpaaa Go.Proofs.Ytemallghdmkpaaa.L Go.Proofs.Ytemallghdmkpaaa.B Go.RowKit Go.Proofs.YtemallghdmkpaaaW.PrintWords
set_option maxRecDepth 100000
set_option linter.unusedVariables false
set_option linter.unusedSimpArgs false
def args : List AV := [.agg (ofList [.int .i64 (.var 0), .int .i64 (.var 1), .int .i64 (.var 2), .int .i64 (.var 3), .int .i64 (.var 4), .int .u64 (.var 5)])]
def mem : List AObj := []
def pc : List (SE × Bool) := []
def cfg : Cfg := { ok := [3, 4, 5, 6, 7, 8, 9, 10, 11, 12, 13, 14, 15, 16, 17, 18, 19, 20, 21, 22, 23, 24, 25, 26, 27, 28, 29, 30, 31, 32, 33, 34, 35, 36, 37, 38, 39, 40, 41, 42, 43, 44, 45, 46, 47, 48, 49, 50, 67, 68, 69, 70, 71], sums := fun f a m => sums2 B.cus [] f a m, loops := [] }
def tree : Tree :=
(.ite (.cmp .lss (.var 0) (.lit 0))
 (.leaf (.int .i64 (.lit 10)) [])
 (.ite (.cmp .lss (.lit 3) (.var 0))
 (.leaf (.int .i64 (.lit 10)) [])
 (.ite (.cmp .lss (.mn (.mn (.var 1) (.var 2)) (.var 3)) (.lit 0))
 (.leaf (.int .i64 (.lit 3)) [])
 (.ite (.cmp .lss (.lit 1099511627776) (.mx (.mx (.var 1) (.var 2)) (.var 3)))
 (.leaf (.int .i64 (.lit 3)) [])
 (.ite (.cmp .lss (.var 4) (.lit (-1125899906842624)))
 (.leaf (.int .i64 (.lit 3)) [])
 (.ite (.cmp .lss (.lit 1125899906842624) (.var 4))
 (.leaf (.int .i64 (.lit 3)) [])
 (.leaf (.int .i64 (.lit 0)) [])))))))
def raw : Pat := ⟨args, mem, needs pc tree.toOut⟩
set_option maxHeartbeats 40000000 in
theorem tree_eq : callS Try.prog cfg 100000 8 args mem pc = tree := by kernel_rfl
theorem cfg_ok (G : Nat → List Int → Int) (hG : ∀ j, 100 ≤ j → G j = B.F j) : CfgOk Try.prog cfg G (fun _ _ => True) :=
  ⟨by kernel_rfl, okB_spec (by kernel_rfl), fun f a m out h S w0 bs ρ w vs v mem' _ hρ hvs hm hp => sums2_sound B.cus_ok (l := []) (fun p hp => by cases hp) h (fun j hj => by rw [hρ]; exact hG j hj) hvs hm hp⟩
theorem raw_ok : SumOk Try.prog B.F 8 raw := sum_run cfg_ok tree_eq rfl
theorem okc {o : Out} {ρ : Env} {v : AV} {m : List AObj} (h : ∃ n : Int, o.pick ρ = some (.int .i64 (.lit n), []) ∧ n = ck (ρ.v 0) (ρ.v 1) (ρ.v 2) (ρ.v 3) (ρ.v 4)) (hf : ∀ j, 100 ≤ j → ρ.f j = B.F j)
    (hp : (Out.done (.int .i64 (.app 130 (.cons (.var 0) (.cons (.var 1) (.cons (.var 2) (.cons (.var 3) (.cons (.var 4) .nil))))))) []).pick ρ = some (v, m)) : ∃ v' m', o.pick ρ = some (v', m') ∧ (∀ bs, dv bs ρ v' = dv bs ρ v) ∧ MEq ρ m' m := by
  obtain ⟨n, h1, h2⟩ := h
  cases hp
  refine ⟨_, _, h1, dv_c ?_, MEq.refl _ _⟩
  simp only [den, dens]
  rw [hf 130 (by omega), h2]
  rfl
theorem ite_ex {α : Type} {c : Prop} [Decidable c] {A B : Option α} {g : Int → α} {q : Int} (h1 : c → ∃ n, A = some (g n) ∧ n = q) (h2 : ¬ c → ∃ n, B = some (g n) ∧ n = q) : ∃ n, (if c then A else B) = some (g n) ∧ n = q := by
  split
  · exact h1 ‹_›
  · exact h2 ‹_›
def pat : Pat := ⟨args, mem, .done (.int .i64 (.app 130 (.cons (.var 0) (.cons (.var 1) (.cons (.var 2) (.cons (.var 3) (.cons (.var 4) .nil))))))) []⟩
theorem ok : SumOk Try.prog B.F 8 pat := sum_refine raw_ok (by
  intro ρ bs w vs v m hF hvs hm hp
  refine okc ?_ hF hp
  simp only [raw, pc, needs, tree, Tree.toOut, Out.pick, ev_lss, den, mn_lt, lt_mx]
  repeat' refine ite_ex (fun _ => ?_) (fun _ => ?_)
  all_goals exact ⟨_, rfl, by unfold ck; first | rw [if_pos (by omega)] | rw [if_neg (by omega), if_pos (by omega)] | rw [if_neg (by omega), if_neg (by omega)]⟩)
end Go.Proofs.Ytemallghdmkpaaa.Check

/- What a call of chronobate.chronobateref19.Check comes to, in letters. No conditions. -/
namespace Go.Proofs.Ytemallghdmkpaaa.RCheck
open Go Go.SX Go.Proofs.Ytemallghdmkpaaa Go.Proofs.Ytemallghdmkpaaa.L Go.Proofs.Ytemallghdmkpaaa.B Go.RowKit Go.Proofs.YtemallghdmkpaaaW.PrintWords
set_option maxRecDepth 100000
set_option linter.unusedVariables false
set_option linter.unusedSimpArgs false
def args : List AV := [.agg (ofList [.int .i64 (.var 0), .int .i64 (.var 1), .int .i64 (.var 2), .int .i64 (.var 3), .int .i64 (.var 4), .int .u64 (.var 5)])]
def mem : List AObj := []
def pc : List (SE × Bool) := []
def cfg : Cfg := { ok := [3, 4, 5, 6, 7, 8, 9, 10, 11, 12, 13, 14, 15, 16, 17, 18, 19, 20, 21, 22, 23, 24, 25, 26, 27, 28, 29, 30, 31, 32, 33, 34, 35, 36, 37, 38, 39, 40, 41, 42, 43, 44, 45, 46, 47, 48, 49, 50, 67, 68, 69, 70, 71], sums := fun f a m => sums2 B.cus [] f a m, loops := [] }
def tree : Tree :=
(.ite (.cmp .lss (.var 0) (.lit 0))
 (.leaf (.int .i64 (.lit 10)) [])
 (.ite (.cmp .lss (.lit 3) (.var 0))
 (.leaf (.int .i64 (.lit 10)) [])
 (.ite (.cmp .lss (.var 1) (.lit 0))
 (.leaf (.int .i64 (.lit 3)) [])
 (.ite (.cmp .lss (.lit 1099511627776) (.var 1))
 (.leaf (.int .i64 (.lit 3)) [])
 (.ite (.cmp .lss (.var 2) (.lit 0))
 (.leaf (.int .i64 (.lit 3)) [])
 (.ite (.cmp .lss (.lit 1099511627776) (.var 2))
 (.leaf (.int .i64 (.lit 3)) [])
 (.ite (.cmp .lss (.var 3) (.lit 0))
 (.leaf (.int .i64 (.lit 3)) [])
 (.ite (.cmp .lss (.lit 1099511627776) (.var 3))
 (.leaf (.int .i64 (.lit 3)) [])
 (.ite (.cmp .lss (.var 4) (.lit (-1125899906842624)))
 (.leaf (.int .i64 (.lit 3)) [])
 (.ite (.cmp .lss (.lit 1125899906842624) (.var 4))
 (.leaf (.int .i64 (.lit 3)) [])
 (.leaf (.int .i64 (.lit 0)) [])))))))))))
def raw : Pat := ⟨args, mem, needs pc tree.toOut⟩
set_option maxHeartbeats 40000000 in
theorem tree_eq : callS Try.prog cfg 100000 13 args mem pc = tree := by kernel_rfl
theorem cfg_ok (G : Nat → List Int → Int) (hG : ∀ j, 100 ≤ j → G j = B.F j) : CfgOk Try.prog cfg G (fun _ _ => True) :=
  ⟨by kernel_rfl, okB_spec (by kernel_rfl), fun f a m out h S w0 bs ρ w vs v mem' _ hρ hvs hm hp => sums2_sound B.cus_ok (l := []) (fun p hp => by cases hp) h (fun j hj => by rw [hρ]; exact hG j hj) hvs hm hp⟩
theorem raw_ok : SumOk Try.prog B.F 13 raw := sum_run cfg_ok tree_eq rfl
theorem okc {o : Out} {ρ : Env} {v : AV} {m : List AObj} (h : ∃ n : Int, o.pick ρ = some (.int .i64 (.lit n), []) ∧ n = ck (ρ.v 0) (ρ.v 1) (ρ.v 2) (ρ.v 3) (ρ.v 4)) (hf : ∀ j, 100 ≤ j → ρ.f j = B.F j)
    (hp : (Out.done (.int .i64 (.app 130 (.cons (.var 0) (.cons (.var 1) (.cons (.var 2) (.cons (.var 3) (.cons (.var 4) .nil))))))) []).pick ρ = some (v, m)) : ∃ v' m', o.pick ρ = some (v', m') ∧ (∀ bs, dv bs ρ v' = dv bs ρ v) ∧ MEq ρ m' m := by
  obtain ⟨n, h1, h2⟩ := h
  cases hp
  refine ⟨_, _, h1, dv_c ?_, MEq.refl _ _⟩
  simp only [den, dens]
  rw [hf 130 (by omega), h2]
  rfl
theorem ite_ex {α : Type} {c : Prop} [Decidable c] {A B : Option α} {g : Int → α} {q : Int} (h1 : c → ∃ n, A = some (g n) ∧ n = q) (h2 : ¬ c → ∃ n, B = some (g n) ∧ n = q) : ∃ n, (if c then A else B) = some (g n) ∧ n = q := by
  split
  · exact h1 ‹_›
  · exact h2 ‹_›
def pat : Pat := ⟨args, mem, .done (.int .i64 (.app 130 (.cons (.var 0) (.cons (.var 1) (.cons (.var 2) (.cons (.var 3) (.cons (.var 4) .nil))))))) []⟩
theorem ok : SumOk Try.prog B.F 13 pat := sum_refine raw_ok (by
  intro ρ bs w vs v m hF hvs hm hp
  refine okc ?_ hF hp
  simp only [raw, pc, needs, tree, Tree.toOut, Out.pick, ev_lss, den, mn_lt, lt_mx]
  repeat' refine ite_ex (fun _ => ?_) (fun _ => ?_)
  all_goals exact ⟨_, rfl, by unfold ck; first | rw [if_pos (by omega)] | rw [if_neg (by omega), if_pos (by omega)] | rw [if_neg (by omega), if_neg (by omega)]⟩)
end Go.Proofs.Ytemallghdmkpaaa.RCheck

/- What a call of chronobate.chronobateref19.some comes to, in letters. No conditions. -/
namespace Go.Proofs.Ytemallghdmkpaaa.RSome
open Go Go.SX Go.Proofs.Ytemallghdmkpaaa Go.Proofs.Ytemallghdmkpaaa.L Go.Proofs.Ytemallghdmkpaaa.B Go.RowKit Go.Proofs.YtemallghdmkpaaaW.PrintWords
set_option maxRecDepth 100000
set_option linter.unusedVariables false
set_option linter.unusedSimpArgs false
def args : List AV := [.int .u64 (.var 0)]
def mem : List AObj := []
def pc : List (SE × Bool) := []
def cfg : Cfg := { ok := [3, 4, 5, 6, 7, 8, 9, 10, 11, 12, 13, 14, 15, 16, 17, 18, 19, 20, 21, 22, 23, 24, 25, 26, 27, 28, 29, 30, 31, 32, 33, 34, 35, 36, 37, 38, 39, 40, 41, 42, 43, 44, 45, 46, 47, 48, 49, 50, 67, 68, 69, 70, 71], sums := fun f a m => sums2 B.cus [] f a m, loops := [] }
def tree : Tree :=
(.ite (.cmp .eql (.var 0) (.lit 0))
 (.leaf (.int .u64 (.lit 1)) [])
 (.leaf (.int .u64 (.var 0)) []))
def raw : Pat := ⟨args, mem, needs pc tree.toOut⟩
set_option maxHeartbeats 40000000 in
theorem tree_eq : callS Try.prog cfg 100000 26 args mem pc = tree := by kernel_rfl
theorem cfg_ok (G : Nat → List Int → Int) (hG : ∀ j, 100 ≤ j → G j = B.F j) : CfgOk Try.prog cfg G (fun _ _ => True) :=
  ⟨by kernel_rfl, okB_spec (by kernel_rfl), fun f a m out h S w0 bs ρ w vs v mem' _ hρ hvs hm hp => sums2_sound B.cus_ok (l := []) (fun p hp => by cases hp) h (fun j hj => by rw [hρ]; exact hG j hj) hvs hm hp⟩
theorem raw_ok : SumOk Try.prog B.F 26 raw := sum_run cfg_ok tree_eq rfl
def pat : Pat := ⟨args, mem, .done (.int .u64 (.mx (.lit 1) (.var 0))) []⟩
theorem ok : SumOk Try.prog B.F 26 pat := sum_refine raw_ok (by
  intro ρ bs w vs v m hF hvs hm hp
  cases hp
  have h0 := u64_in (dvl_in (l := args) hvs (i := 0) (k := .u64) (e := .var 0) rfl)
  simp only [den] at h0
  simp only [raw, pc, needs, tree, Tree.toOut, Out.pick, ev_eql, den]
  split
  · rename_i h
    exact ⟨_, _, rfl, dv_c (by show _ = (if ρ.v 0 > 1 then ρ.v 0 else 1); rw [if_neg (by omega)]; rfl), MEq.refl _ _⟩
  · exact ⟨_, _, rfl, dv_c (by show ρ.v 0 = (if ρ.v 0 > 1 then ρ.v 0 else 1); split <;> omega), MEq.refl _ _⟩)
end Go.Proofs.Ytemallghdmkpaaa.RSome
