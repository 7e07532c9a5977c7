/- What calls come to, in letters. No conditions. -/
import Derived.Test.YthbmnjcpdjaokaaDoorSX3
import Derived.Test.YthbmnjcpdjaokaaDoorProg
import Derived.KernelRfl
/- What a call of chronobate.packet.Put comes to, in letters. No conditions. -/
namespace Go.Proofs.YthbmnjcpdjaokaaDoor.Put
open Go Go.SX Go.Proofs.YthbmnjcpdjaokaaDoor
set_option maxRecDepth 100000
set_option linter.unusedVariables false
set_option linter.unusedSimpArgs false
def args : List AV := [.agg (ofList [.int .u8 (.var 0), .int .u8 (.var 1), .int .u8 (.var 2), .int .u8 (.var 3), .int .i8 (.var 4), .int .i8 (.var 5), .int .u32 (.var 6), .int .u32 (.var 7), .int .u32 (.var 8), .int .u64 (.var 9), .int .u64 (.var 10), .int .u64 (.var 11), .int .u64 (.var 12)])]
def mem : List AObj := []
def pc : List (SE × Bool) := []
def cfg : Cfg := { ok := [3, 4, 5, 6, 7, 8, 9, 10, 11, 12, 13, 14, 15, 16, 17, 18, 19, 20, 21, 22, 23, 24, 25, 26, 48], sums := sumsOf [], loops := [] }
def tree : Tree :=
(.ite (.cmp .lss (.lit 3) (.var 0))
 (.leaf (.tuple (.cons .nilslice (.cons (.int .i64 (.lit 3)) .nil))) [])
 (.ite (.cmp .lss (.lit 7) (.mx (.var 1) (.var 2)))
 (.leaf (.tuple (.cons .nilslice (.cons (.int .i64 (.lit 3)) .nil))) [])
 (.leaf (.tuple (.cons (.row 0 0 (.lit 48) 0) (.cons (.int .i64 (.lit 0)) .nil))) [(.cells [(.int .u8 (.conv .u8 (.bin .or .u8 (.bin .or .u8 (.bin .shl .u8 (.var 0) (.lit 6)) (.bin .shl .u8 (.var 1) (.lit 3))) (.var 2)))), (.int .u8 (.conv .u8 (.var 3))), (.int .u8 (.conv .u8 (.var 4))), (.int .u8 (.conv .u8 (.var 5))), (.int .u8 (.conv .u8 (.bin .shr .u64 (.conv .u64 (.var 6)) (.lit 24)))), (.int .u8 (.conv .u8 (.bin .shr .u64 (.conv .u64 (.var 6)) (.lit 16)))), (.int .u8 (.conv .u8 (.bin .shr .u64 (.conv .u64 (.var 6)) (.lit 8)))), (.int .u8 (.conv .u8 (.var 6))), (.int .u8 (.conv .u8 (.bin .shr .u64 (.conv .u64 (.var 7)) (.lit 24)))), (.int .u8 (.conv .u8 (.bin .shr .u64 (.conv .u64 (.var 7)) (.lit 16)))), (.int .u8 (.conv .u8 (.bin .shr .u64 (.conv .u64 (.var 7)) (.lit 8)))), (.int .u8 (.conv .u8 (.var 7))), (.int .u8 (.conv .u8 (.bin .shr .u64 (.conv .u64 (.var 8)) (.lit 24)))), (.int .u8 (.conv .u8 (.bin .shr .u64 (.conv .u64 (.var 8)) (.lit 16)))), (.int .u8 (.conv .u8 (.bin .shr .u64 (.conv .u64 (.var 8)) (.lit 8)))), (.int .u8 (.conv .u8 (.var 8))), (.int .u8 (.conv .u8 (.bin .shr .u64 (.var 9) (.lit 56)))), (.int .u8 (.conv .u8 (.bin .shr .u64 (.var 9) (.lit 48)))), (.int .u8 (.conv .u8 (.bin .shr .u64 (.var 9) (.lit 40)))), (.int .u8 (.conv .u8 (.bin .shr .u64 (.var 9) (.lit 32)))), (.int .u8 (.conv .u8 (.bin .shr .u64 (.var 9) (.lit 24)))), (.int .u8 (.conv .u8 (.bin .shr .u64 (.var 9) (.lit 16)))), (.int .u8 (.conv .u8 (.bin .shr .u64 (.var 9) (.lit 8)))), (.int .u8 (.conv .u8 (.var 9))), (.int .u8 (.conv .u8 (.bin .shr .u64 (.var 10) (.lit 56)))), (.int .u8 (.conv .u8 (.bin .shr .u64 (.var 10) (.lit 48)))), (.int .u8 (.conv .u8 (.bin .shr .u64 (.var 10) (.lit 40)))), (.int .u8 (.conv .u8 (.bin .shr .u64 (.var 10) (.lit 32)))), (.int .u8 (.conv .u8 (.bin .shr .u64 (.var 10) (.lit 24)))), (.int .u8 (.conv .u8 (.bin .shr .u64 (.var 10) (.lit 16)))), (.int .u8 (.conv .u8 (.bin .shr .u64 (.var 10) (.lit 8)))), (.int .u8 (.conv .u8 (.var 10))), (.int .u8 (.conv .u8 (.bin .shr .u64 (.var 11) (.lit 56)))), (.int .u8 (.conv .u8 (.bin .shr .u64 (.var 11) (.lit 48)))), (.int .u8 (.conv .u8 (.bin .shr .u64 (.var 11) (.lit 40)))), (.int .u8 (.conv .u8 (.bin .shr .u64 (.var 11) (.lit 32)))), (.int .u8 (.conv .u8 (.bin .shr .u64 (.var 11) (.lit 24)))), (.int .u8 (.conv .u8 (.bin .shr .u64 (.var 11) (.lit 16)))), (.int .u8 (.conv .u8 (.bin .shr .u64 (.var 11) (.lit 8)))), (.int .u8 (.conv .u8 (.var 11))), (.int .u8 (.conv .u8 (.bin .shr .u64 (.var 12) (.lit 56)))), (.int .u8 (.conv .u8 (.bin .shr .u64 (.var 12) (.lit 48)))), (.int .u8 (.conv .u8 (.bin .shr .u64 (.var 12) (.lit 40)))), (.int .u8 (.conv .u8 (.bin .shr .u64 (.var 12) (.lit 32)))), (.int .u8 (.conv .u8 (.bin .shr .u64 (.var 12) (.lit 24)))), (.int .u8 (.conv .u8 (.bin .shr .u64 (.var 12) (.lit 16)))), (.int .u8 (.conv .u8 (.bin .shr .u64 (.var 12) (.lit 8)))), (.int .u8 (.conv .u8 (.var 12)))] 5 true (some 1))])))
def pat : Pat := ⟨args, mem, needs pc tree.toOut⟩
set_option maxHeartbeats 40000000 in
theorem tree_eq : callS Tryd.prog cfg 100000 24 args mem pc = tree := by kernel_rfl
theorem cfg_ok (F G : Nat → List Int → Int) (hG : ∀ j, 100 ≤ j → j < 200 → G j = F j) : CfgOk Tryd.prog cfg G (fun _ _ => True) :=
  ⟨by kernel_rfl, okB_spec (by kernel_rfl), fun f a m out h S w0 bs ρ w vs v mem' _ hρ hvs hm hp => by cases h⟩
theorem ok (F : Nat → List Int → Int) : SumOk Tryd.prog F 24 pat := sum_run (cfg_ok F) tree_eq rfl
end Go.Proofs.YthbmnjcpdjaokaaDoor.Put

/- What a call of chronobate.sane.Good comes to, in letters. No conditions. -/
namespace Go.Proofs.YthbmnjcpdjaokaaDoor.Good
open Go Go.SX Go.Proofs.YthbmnjcpdjaokaaDoor
set_option maxRecDepth 100000
set_option linter.unusedVariables false
set_option linter.unusedSimpArgs false
def args : List AV := [.int .u64 (.var 0), .int .u64 (.var 1), .int .u64 (.var 2)]
def mem : List AObj := []
def pc : List (SE × Bool) := []
def cfg : Cfg := { ok := [3, 4, 5, 6, 7, 8, 9, 10, 11, 12, 13, 14, 15, 16, 17, 18, 19, 20, 21, 22, 23, 24, 25, 26, 48], sums := sumsOf [(24, Put.pat)], loops := [] }
def tree : Tree :=
(.leaf (.row 0 0 (.lit 48) 0) [(.cells [(.int .u8 (.lit 36)), (.int .u8 (.lit 1)), (.int .u8 (.lit 0)), (.int .u8 (.lit 0)), (.int .u8 (.lit 0)), (.int .u8 (.lit 0)), (.int .u8 (.lit 0)), (.int .u8 (.lit 0)), (.int .u8 (.lit 0)), (.int .u8 (.lit 0)), (.int .u8 (.lit 0)), (.int .u8 (.lit 0)), (.int .u8 (.lit 0)), (.int .u8 (.lit 0)), (.int .u8 (.lit 0)), (.int .u8 (.lit 0)), (.int .u8 (.lit 0)), (.int .u8 (.lit 0)), (.int .u8 (.lit 0)), (.int .u8 (.lit 0)), (.int .u8 (.lit 0)), (.int .u8 (.lit 0)), (.int .u8 (.lit 0)), (.int .u8 (.lit 0)), (.int .u8 (.conv .u8 (.bin .shr .u64 (.var 0) (.lit 56)))), (.int .u8 (.conv .u8 (.bin .shr .u64 (.var 0) (.lit 48)))), (.int .u8 (.conv .u8 (.bin .shr .u64 (.var 0) (.lit 40)))), (.int .u8 (.conv .u8 (.bin .shr .u64 (.var 0) (.lit 32)))), (.int .u8 (.conv .u8 (.bin .shr .u64 (.var 0) (.lit 24)))), (.int .u8 (.conv .u8 (.bin .shr .u64 (.var 0) (.lit 16)))), (.int .u8 (.conv .u8 (.bin .shr .u64 (.var 0) (.lit 8)))), (.int .u8 (.conv .u8 (.var 0))), (.int .u8 (.conv .u8 (.bin .shr .u64 (.var 1) (.lit 56)))), (.int .u8 (.conv .u8 (.bin .shr .u64 (.var 1) (.lit 48)))), (.int .u8 (.conv .u8 (.bin .shr .u64 (.var 1) (.lit 40)))), (.int .u8 (.conv .u8 (.bin .shr .u64 (.var 1) (.lit 32)))), (.int .u8 (.conv .u8 (.bin .shr .u64 (.var 1) (.lit 24)))), (.int .u8 (.conv .u8 (.bin .shr .u64 (.var 1) (.lit 16)))), (.int .u8 (.conv .u8 (.bin .shr .u64 (.var 1) (.lit 8)))), (.int .u8 (.conv .u8 (.var 1))), (.int .u8 (.conv .u8 (.bin .shr .u64 (.var 2) (.lit 56)))), (.int .u8 (.conv .u8 (.bin .shr .u64 (.var 2) (.lit 48)))), (.int .u8 (.conv .u8 (.bin .shr .u64 (.var 2) (.lit 40)))), (.int .u8 (.conv .u8 (.bin .shr .u64 (.var 2) (.lit 32)))), (.int .u8 (.conv .u8 (.bin .shr .u64 (.var 2) (.lit 24)))), (.int .u8 (.conv .u8 (.bin .shr .u64 (.var 2) (.lit 16)))), (.int .u8 (.conv .u8 (.bin .shr .u64 (.var 2) (.lit 8)))), (.int .u8 (.conv .u8 (.var 2)))] 5 true (some 1))])
def pat : Pat := ⟨args, mem, needs pc tree.toOut⟩
set_option maxHeartbeats 40000000 in
theorem tree_eq : callS Tryd.prog cfg 100000 14 args mem pc = tree := by kernel_rfl
theorem cfg_ok (F G : Nat → List Int → Int) (hG : ∀ j, 100 ≤ j → j < 200 → G j = F j) : CfgOk Tryd.prog cfg G (fun _ _ => True) :=
  ⟨by kernel_rfl, okB_spec (by kernel_rfl), fun f a m out h S w0 bs ρ w vs v mem' _ hρ hvs hm hp => sumsOf_sound (F := F) (fun p hp => by
    simp only [List.mem_cons, List.not_mem_nil, or_false] at hp
    rcases hp with rfl
    · exact Put.ok F) h (fun j hj hj2 => by rw [hρ]; exact hG j hj hj2) hvs hm hp⟩
theorem ok (F : Nat → List Int → Int) : SumOk Tryd.prog F 14 pat := sum_run (cfg_ok F) tree_eq rfl
end Go.Proofs.YthbmnjcpdjaokaaDoor.Good
