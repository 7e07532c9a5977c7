/- What calls come to, in letters. No conditions. -/
import Derived.Test.YtableianhaojcaaSX3
import Derived.Test.YtableianhaojcaaProg
import Derived.KernelRfl
import Derived.Test.YtableianhaojcaaB
/- What a call of chronobate.chronobateref13.Next comes to, in letters. No conditions. -/
namespace Go.Proofs.Ytableianhaojcaa.RNext
open Go Go.SX Go.Proofs.Ytableianhaojcaa Go.Proofs.Ytableianhaojcaa.L Go.Proofs.Ytableianhaojcaa.B Go.RowKit Go.Proofs.YtableianhaojcaaW.PrintWords
set_option maxRecDepth 100000
set_option linter.unusedVariables false
set_option linter.unusedSimpArgs false
def args : List AV := [.int .i64 (.var 0), .int .i64 (.var 1)]
def mem : List AObj := []
def pc : List (SE × Bool) := []
def cfg : Cfg := { ok := [3, 4, 5, 6, 7, 8, 9, 10, 11, 12, 13, 14, 15, 16, 17, 18, 19, 20, 21, 22, 23, 24, 25, 26, 27, 28, 29, 30, 31, 32, 33, 34, 35, 36, 37, 38, 39, 40, 41, 42, 43, 44, 45, 46, 47, 48, 49, 50, 51, 52, 53, 54, 55, 56, 57, 58, 59, 60, 61, 62, 63, 64, 65, 66, 67, 68, 69, 70, 71, 72, 73, 74, 75, 76, 77, 78, 79, 80, 81, 82, 83, 84], sums := fun f a m => sums2 B.cus [] f a m, loops := [] }
def tree : Tree :=
(.ite (.cmp .lss (.var 0) (.lit 0))
 (.leaf (.int .i64 (.lit 0)) [])
 (.ite (.cmp .lss (.var 1) (.lit 0))
 (.leaf (.int .i64 (.lit 0)) [])
 (.ite (.cmp .lss (.lit 1073741824) (.var 0))
 (.leaf (.int .i64 (.lit 0)) [])
 (.ite (.cmp .lss (.lit 1073741824) (.var 1))
 (.leaf (.int .i64 (.lit 0)) [])
 (.ite (.cmp .lss (.bin .mul .i64 (.var 0) (.lit 2)) (.var 1))
 (.leaf (.int .i64 (.bin .mul .i64 (.var 0) (.lit 2))) [])
 (.leaf (.int .i64 (.var 1)) []))))))
def raw : Pat := ⟨args, mem, needs pc tree.toOut⟩
set_option maxHeartbeats 40000000 in
theorem tree_eq : callS Try.prog cfg 100000 43 args mem pc = tree := by kernel_rfl
theorem cfg_ok (G : Nat → List Int → Int) (hG : ∀ j, 100 ≤ j → j < 200 → G j = B.F j) : CfgOk Try.prog cfg G (fun _ _ => True) :=
  ⟨by kernel_rfl, okB_spec (by kernel_rfl), fun f a m out h S w0 bs ρ w vs v mem' _ hρ hvs hm hp => sums2_sound B.cus_ok (l := []) (fun p hp => by cases hp) h (fun j hj hj2 => by rw [hρ]; exact hG j hj hj2) hvs hm hp⟩
theorem raw_ok : SumOk Try.prog B.F 43 raw := sum_run cfg_ok tree_eq rfl
def pat : Pat := ⟨args, mem, .ite (.cmp .lss (.var 0) (.lit 0)) (.done (.int .i64 (.lit 0)) []) (.ite (.cmp .lss (.var 1) (.lit 0)) (.done (.int .i64 (.lit 0)) []) (.ite (.cmp .lss (.lit 1073741824) (.var 0)) (.done (.int .i64 (.lit 0)) []) (.ite (.cmp .lss (.lit 1073741824) (.var 1)) (.done (.int .i64 (.lit 0)) []) (.done (.int .i64 (.mn (.bin .mul .i64 (.var 0) (.lit 2)) (.var 1))) []))))⟩
theorem ok : SumOk Try.prog B.F 43 pat := sum_refine raw_ok (by
  intro ρ bs w vs v m hF hvs hm hp
  refine like_pick ?_ hp
  refine ⟨rfl, fun _ => ⟨fun _ => rfl, MEq.refl _ _⟩, fun _ => ⟨rfl, fun _ => ⟨fun _ => rfl, MEq.refl _ _⟩, fun _ => ⟨rfl, fun _ => ⟨fun _ => rfl, MEq.refl _ _⟩, fun _ => ⟨rfl, fun _ => ⟨fun _ => rfl, MEq.refl _ _⟩, fun _ => ⟨fun h => ⟨dv_c ?_, MEq.refl _ _⟩, fun h => ⟨dv_c ?_, MEq.refl _ _⟩⟩⟩⟩⟩⟩
  · rw [ev_lss] at h
    show _ = if ρ.v 1 < den ρ (.bin .mul .i64 (.var 0) (.lit 2)) then ρ.v 1 else den ρ (.bin .mul .i64 (.var 0) (.lit 2))
    have h : den ρ (.bin .mul .i64 (.var 0) (.lit 2)) < ρ.v 1 := h
    rw [if_neg (by omega)]
  · rw [ev_lss'] at h
    show _ = if ρ.v 1 < den ρ (.bin .mul .i64 (.var 0) (.lit 2)) then ρ.v 1 else den ρ (.bin .mul .i64 (.var 0) (.lit 2))
    have h : ρ.v 1 ≤ den ρ (.bin .mul .i64 (.var 0) (.lit 2)) := h
    by_cases he : ρ.v 1 < den ρ (.bin .mul .i64 (.var 0) (.lit 2))
    · rw [if_pos he]; rfl
    · rw [if_neg he]; show ρ.v 1 = _; omega
)
end Go.Proofs.Ytableianhaojcaa.RNext

/- What a call of chronobate.chronobateref08.Make comes to, in letters. No conditions. -/
namespace Go.Proofs.Ytableianhaojcaa.RMake
open Go Go.SX Go.Proofs.Ytableianhaojcaa Go.Proofs.Ytableianhaojcaa.L Go.Proofs.Ytableianhaojcaa.B Go.RowKit Go.Proofs.YtableianhaojcaaW.PrintWords
set_option maxRecDepth 100000
set_option linter.unusedVariables false
set_option linter.unusedSimpArgs false
def args : List AV := [.int .i64 (.var 0), .int .i64 (.var 1), .int .u64 (.var 2), .int .u64 (.var 3)]
def mem : List AObj := []
def pc : List (SE × Bool) := []
def cfg : Cfg := { ok := [3, 4, 5, 6, 7, 8, 9, 10, 11, 12, 13, 14, 15, 16, 17, 18, 19, 20, 21, 22, 23, 24, 25, 26, 27, 28, 29, 30, 31, 32, 33, 34, 35, 36, 37, 38, 39, 40, 41, 42, 43, 44, 45, 46, 47, 48, 49, 50, 51, 52, 53, 54, 55, 56, 57, 58, 59, 60, 61, 62, 63, 64, 65, 66, 67, 68, 69, 70, 71, 72, 73, 74, 75, 76, 77, 78, 79, 80, 81, 82, 83, 84], sums := fun f a m => sums2 B.cus [] f a m, loops := [] }
def tree : Tree :=
(.ite (.cmp .lss (.app 123 (.cons (.app 123 (.cons (.var 1) (.cons (.var 0) .nil))) (.cons (.app 122 (.cons (.var 3) (.cons (.var 2) .nil))) .nil))) (.lit 0))
 (.leaf (.tuple (.cons (.int .i64 (.app 124 (.cons (.app 122 (.cons (.var 2) (.cons (.app 120 (.cons (.var 0) .nil)) .nil))) (.cons (.app 122 (.cons (.var 3) (.cons (.app 120 (.cons (.var 1) .nil)) .nil))) .nil)))) (.cons (.int .i64 (.lit 0)) .nil))) [])
 (.leaf (.tuple (.cons (.int .i64 (.app 124 (.cons (.app 122 (.cons (.var 2) (.cons (.app 120 (.cons (.var 0) .nil)) .nil))) (.cons (.app 122 (.cons (.var 3) (.cons (.app 120 (.cons (.var 1) .nil)) .nil))) .nil)))) (.cons (.int .i64 (.app 123 (.cons (.app 123 (.cons (.var 1) (.cons (.var 0) .nil))) (.cons (.app 122 (.cons (.var 3) (.cons (.var 2) .nil))) .nil)))) .nil))) []))
def raw : Pat := ⟨args, mem, needs pc tree.toOut⟩
set_option maxHeartbeats 40000000 in
theorem tree_eq : callS Try.prog cfg 100000 47 args mem pc = tree := by kernel_rfl
theorem cfg_ok (G : Nat → List Int → Int) (hG : ∀ j, 100 ≤ j → j < 200 → G j = B.F j) : CfgOk Try.prog cfg G (fun _ _ => True) :=
  ⟨by kernel_rfl, okB_spec (by kernel_rfl), fun f a m out h S w0 bs ρ w vs v mem' _ hρ hvs hm hp => sums2_sound B.cus_ok (l := []) (fun p hp => by cases hp) h (fun j hj hj2 => by rw [hρ]; exact hG j hj hj2) hvs hm hp⟩
theorem raw_ok : SumOk Try.prog B.F 47 raw := sum_run cfg_ok tree_eq rfl
def pat : Pat := ⟨args, mem, .done (.tuple (.cons (.int .i64 (.app 124 (.cons (.app 122 (.cons (.var 2) (.cons (.app 120 (.cons (.var 0) .nil)) .nil))) (.cons (.app 122 (.cons (.var 3) (.cons (.app 120 (.cons (.var 1) .nil)) .nil))) .nil)))) (.cons (.int .i64 (.mx (.lit 0) (.app 123 (.cons (.app 123 (.cons (.var 1) (.cons (.var 0) .nil))) (.cons (.app 122 (.cons (.var 3) (.cons (.var 2) .nil))) .nil))))) .nil))) []⟩
theorem ok : SumOk Try.prog B.F 47 pat := sum_refine raw_ok (by
  intro ρ bs w vs v m hF hvs hm hp
  refine like_pick ?_ hp
  refine ⟨fun h => ⟨tuple_c (dvs_c (fun _ => rfl) (dvs_c (dv_c ?_) (fun _ => rfl))), MEq.refl _ _⟩, fun h => ⟨tuple_c (dvs_c (fun _ => rfl) (dvs_c (dv_c ?_) (fun _ => rfl))), MEq.refl _ _⟩⟩
  · rw [ev_lss] at h
    have h : den ρ (.app 123 (.cons (.app 123 (.cons (.var 1) (.cons (.var 0) .nil))) (.cons (.app 122 (.cons (.var 3) (.cons (.var 2) .nil))) .nil))) < 0 := h
    show (0 : Int) = if den ρ (.app 123 (.cons (.app 123 (.cons (.var 1) (.cons (.var 0) .nil))) (.cons (.app 122 (.cons (.var 3) (.cons (.var 2) .nil))) .nil))) > 0 then den ρ (.app 123 (.cons (.app 123 (.cons (.var 1) (.cons (.var 0) .nil))) (.cons (.app 122 (.cons (.var 3) (.cons (.var 2) .nil))) .nil))) else 0
    rw [if_neg (by omega)]
  · rw [ev_lss'] at h
    have h : 0 ≤ den ρ (.app 123 (.cons (.app 123 (.cons (.var 1) (.cons (.var 0) .nil))) (.cons (.app 122 (.cons (.var 3) (.cons (.var 2) .nil))) .nil))) := h
    show _ = if den ρ (.app 123 (.cons (.app 123 (.cons (.var 1) (.cons (.var 0) .nil))) (.cons (.app 122 (.cons (.var 3) (.cons (.var 2) .nil))) .nil))) > 0 then den ρ (.app 123 (.cons (.app 123 (.cons (.var 1) (.cons (.var 0) .nil))) (.cons (.app 122 (.cons (.var 3) (.cons (.var 2) .nil))) .nil))) else 0
    by_cases he : den ρ (.app 123 (.cons (.app 123 (.cons (.var 1) (.cons (.var 0) .nil))) (.cons (.app 122 (.cons (.var 3) (.cons (.var 2) .nil))) .nil))) > 0
    · rw [if_pos he]
    · rw [if_neg he]; omega
)
end Go.Proofs.Ytableianhaojcaa.RMake

/- What a call of chronobate.sample.Make comes to, in letters. No conditions. -/
namespace Go.Proofs.Ytableianhaojcaa.Make
open Go Go.SX Go.Proofs.Ytableianhaojcaa Go.Proofs.Ytableianhaojcaa.L Go.Proofs.Ytableianhaojcaa.B Go.RowKit Go.Proofs.YtableianhaojcaaW.PrintWords
set_option maxRecDepth 100000
set_option linter.unusedVariables false
set_option linter.unusedSimpArgs false
def args : List AV := [.int .i64 (.var 0), .int .i64 (.var 1), .int .u64 (.var 2), .int .u64 (.var 3)]
def mem : List AObj := []
def pc : List (SE × Bool) := []
def cfg : Cfg := { ok := [3, 4, 5, 6, 7, 8, 9, 10, 11, 12, 13, 14, 15, 16, 17, 18, 19, 20, 21, 22, 23, 24, 25, 26, 27, 28, 29, 30, 31, 32, 33, 34, 35, 36, 37, 38, 39, 40, 41, 42, 43, 44, 45, 46, 47, 48, 49, 50, 51, 52, 53, 54, 55, 56, 57, 58, 59, 60, 61, 62, 63, 64, 65, 66, 67, 68, 69, 70, 71, 72, 73, 74, 75, 76, 77, 78, 79, 80, 81, 82, 83, 84], sums := fun f a m => sums2 B.cus [] f a m, loops := [] }
def tree : Tree :=
(.leaf (.tuple (.cons (.int .i64 (.app 124 (.cons (.app 122 (.cons (.var 2) (.cons (.app 120 (.cons (.var 0) .nil)) .nil))) (.cons (.app 122 (.cons (.var 3) (.cons (.app 120 (.cons (.var 1) .nil)) .nil))) .nil)))) (.cons (.int .i64 (.mx (.lit 0) (.app 123 (.cons (.app 123 (.cons (.var 1) (.cons (.var 0) .nil))) (.cons (.app 122 (.cons (.var 3) (.cons (.var 2) .nil))) .nil))))) .nil))) [])
def pat : Pat := ⟨args, mem, needs pc tree.toOut⟩
set_option maxHeartbeats 40000000 in
theorem tree_eq : callS Try.prog cfg 100000 36 args mem pc = tree := by kernel_rfl
theorem cfg_ok (G : Nat → List Int → Int) (hG : ∀ j, 100 ≤ j → j < 200 → G j = B.F j) : CfgOk Try.prog cfg G (fun _ _ => True) :=
  ⟨by kernel_rfl, okB_spec (by kernel_rfl), fun f a m out h S w0 bs ρ w vs v mem' _ hρ hvs hm hp => sums2_sound B.cus_ok (l := []) (fun p hp => by cases hp) h (fun j hj hj2 => by rw [hρ]; exact hG j hj hj2) hvs hm hp⟩
theorem ok : SumOk Try.prog B.F 36 pat := sum_run cfg_ok tree_eq rfl
end Go.Proofs.Ytableianhaojcaa.Make

/- What a call of (*chronobate.peer.Peer).Next comes to, in letters. No conditions. -/
namespace Go.Proofs.Ytableianhaojcaa.Nxt
open Go Go.SX Go.Proofs.Ytableianhaojcaa Go.Proofs.Ytableianhaojcaa.L Go.Proofs.Ytableianhaojcaa.B Go.RowKit Go.Proofs.YtableianhaojcaaW.PrintWords
set_option maxRecDepth 100000
set_option linter.unusedVariables false
set_option linter.unusedSimpArgs false
def args : List AV := [.ptr 0 0]
def mem : List AObj := [.cells [.ptr 1 0, .int .i64 (.var 0), .int .i64 (.var 1), .int .i64 (.var 2), .int .i64 (.var 3), .int .i64 (.var 4), .int .u64 (.var 5)] 77 true none, .cells [.int .i64 (.var 6), .int .i64 (.var 7), .int .i64 (.var 8), .int .i64 (.var 9)] 98 true none]
def pc : List (SE × Bool) := []
def cfg : Cfg := { ok := [3, 4, 5, 6, 7, 8, 9, 10, 11, 12, 13, 14, 15, 16, 17, 18, 19, 20, 21, 22, 23, 24, 25, 26, 27, 28, 29, 30, 31, 32, 33, 34, 35, 36, 37, 38, 39, 40, 41, 42, 43, 44, 45, 46, 47, 48, 49, 50, 51, 52, 53, 54, 55, 56, 57, 58, 59, 60, 61, 62, 63, 64, 65, 66, 67, 68, 69, 70, 71, 72, 73, 74, 75, 76, 77, 78, 79, 80, 81, 82, 83, 84], sums := fun f a m => sums2 B.cus [] f a m, loops := [] }
def tree : Tree :=
(.ite (.cmp .eql (.var 0) (.lit 0))
 (.leaf (.int .i64 (.mn (.var 1) (.lit 4611686018427387903))) [(.cells [(.ptr 1 0), (.int .i64 (.var 0)), (.int .i64 (.var 1)), (.int .i64 (.var 2)), (.int .i64 (.var 3)), (.int .i64 (.var 4)), (.int .u64 (.var 5))] 77 true none), (.cells [(.int .i64 (.var 6)), (.int .i64 (.var 7)), (.int .i64 (.var 8)), (.int .i64 (.var 9))] 98 true none)])
 (.ite (.cmp .eql (.var 0) (.lit 1))
 (.leaf (.int .i64 (.mn (.bin .add .i64 (.bin .add .i64 (.var 3) (.var 2)) (.lit 1)) (.lit 4611686018427387903))) [(.cells [(.ptr 1 0), (.int .i64 (.var 0)), (.int .i64 (.var 1)), (.int .i64 (.var 2)), (.int .i64 (.var 3)), (.int .i64 (.var 4)), (.int .u64 (.var 5))] 77 true none), (.cells [(.int .i64 (.var 6)), (.int .i64 (.var 7)), (.int .i64 (.var 8)), (.int .i64 (.var 9))] 98 true none)])
 (.leaf (.int .i64 (.lit 4611686018427387903)) [(.cells [(.ptr 1 0), (.int .i64 (.var 0)), (.int .i64 (.var 1)), (.int .i64 (.var 2)), (.int .i64 (.var 3)), (.int .i64 (.var 4)), (.int .u64 (.var 5))] 77 true none), (.cells [(.int .i64 (.var 6)), (.int .i64 (.var 7)), (.int .i64 (.var 8)), (.int .i64 (.var 9))] 98 true none)])))
def raw : Pat := ⟨args, mem, needs pc tree.toOut⟩
set_option maxHeartbeats 40000000 in
theorem tree_eq : callS Try.prog cfg 100000 12 args mem pc = tree := by kernel_rfl
theorem cfg_ok (G : Nat → List Int → Int) (hG : ∀ j, 100 ≤ j → j < 200 → G j = B.F j) : CfgOk Try.prog cfg G (fun _ _ => True) :=
  ⟨by kernel_rfl, okB_spec (by kernel_rfl), fun f a m out h S w0 bs ρ w vs v mem' _ hρ hvs hm hp => sums2_sound B.cus_ok (l := []) (fun p hp => by cases hp) h (fun j hj hj2 => by rw [hρ]; exact hG j hj hj2) hvs hm hp⟩
theorem raw_ok : SumOk Try.prog B.F 12 raw := sum_run cfg_ok tree_eq rfl
def pat : Pat := ⟨args, mem, .done (.int .i64 (.app 130 (.cons (.var 0) (.cons (.var 1) (.cons (.var 3) (.cons (.var 2) .nil)))))) [.cells [.ptr 1 0, .int .i64 (.var 0), .int .i64 (.var 1), .int .i64 (.var 2), .int .i64 (.var 3), .int .i64 (.var 4), .int .u64 (.var 5)] 77 true none, .cells [.int .i64 (.var 6), .int .i64 (.var 7), .int .i64 (.var 8), .int .i64 (.var 9)] 98 true none]⟩
theorem ok : SumOk Try.prog B.F 12 pat := sum_refine raw_ok (by
  intro ρ bs w vs v m hF hvs hm hp
  have e : ∀ l, ρ.f 130 l = nxF l := fun l => by rw [hF 130 (by omega) (by omega)]; rfl
  refine like_pick ?_ hp
  refine ⟨fun h => ⟨dv_c ?_, MEq.refl _ _⟩, fun h => ⟨fun h2 => ⟨dv_c ?_, MEq.refl _ _⟩, fun h2 => ⟨dv_c ?_, MEq.refl _ _⟩⟩⟩
  · rw [ev_eql] at h
    have h : ρ.v 0 = 0 := h
    show _ = ρ.f 130 [ρ.v 0, ρ.v 1, ρ.v 3, ρ.v 2]
    rw [e, nxF_eq, if_pos h]; rfl
  · rw [ev_eql'] at h
    rw [ev_eql] at h2
    have h : ¬ ρ.v 0 = 0 := h
    have h2 : ρ.v 0 = 1 := h2
    show _ = ρ.f 130 [ρ.v 0, ρ.v 1, ρ.v 3, ρ.v 2]
    rw [e, nxF_eq, if_neg h, if_pos h2]; rfl
  · rw [ev_eql'] at h h2
    have h : ¬ ρ.v 0 = 0 := h
    have h2 : ¬ ρ.v 0 = 1 := h2
    show _ = ρ.f 130 [ρ.v 0, ρ.v 1, ρ.v 3, ρ.v 2]
    rw [e, nxF_eq, if_neg h, if_neg h2]; rfl
)
end Go.Proofs.Ytableianhaojcaa.Nxt

/- What a call of (*chronobate.chronobateref14.Peer).Next comes to, in letters. No conditions. -/
namespace Go.Proofs.Ytableianhaojcaa.RNxt
open Go Go.SX Go.Proofs.Ytableianhaojcaa Go.Proofs.Ytableianhaojcaa.L Go.Proofs.Ytableianhaojcaa.B Go.RowKit Go.Proofs.YtableianhaojcaaW.PrintWords
set_option maxRecDepth 100000
set_option linter.unusedVariables false
set_option linter.unusedSimpArgs false
def args : List AV := [.ptr 0 0]
def mem : List AObj := [.cells [.arg 1, .int .i64 (.var 0), .int .i64 (.var 1), .int .i64 (.var 2), .int .i64 (.var 3), .int .i64 (.var 4), .int .i64 (.var 5), .int .i64 (.var 6), .int .i64 (.var 7), .int .i64 (.var 8), .int .i64 (.var 9), .int .u64 (.var 10)] 64 true none, .sym (.var 11) (.var 12) [.int .i64 0] 3]
def pc : List (SE × Bool) := []
def cfg : Cfg := { ok := [3, 4, 5, 6, 7, 8, 9, 10, 11, 12, 13, 14, 15, 16, 17, 18, 19, 20, 21, 22, 23, 24, 25, 26, 27, 28, 29, 30, 31, 32, 33, 34, 35, 36, 37, 38, 39, 40, 41, 42, 43, 44, 45, 46, 47, 48, 49, 50, 51, 52, 53, 54, 55, 56, 57, 58, 59, 60, 61, 62, 63, 64, 65, 66, 67, 68, 69, 70, 71, 72, 73, 74, 75, 76, 77, 78, 79, 80, 81, 82, 83, 84], sums := fun f a m => sums2 B.cus [] f a m, loops := [] }
def tree : Tree :=
(.ite (.cmp .eql (.var 5) (.lit 0))
 (.ite (.cmp .lss (.lit 4611686018427387903) (.var 7))
 (.leaf (.int .i64 (.lit 4611686018427387903)) [(.cells [(.arg 1), (.int .i64 (.var 0)), (.int .i64 (.var 1)), (.int .i64 (.var 2)), (.int .i64 (.var 3)), (.int .i64 (.var 4)), (.int .i64 (.var 5)), (.int .i64 (.var 6)), (.int .i64 (.var 7)), (.int .i64 (.var 8)), (.int .i64 (.var 9)), (.int .u64 (.var 10))] 64 true none), (.sym (.var 11) (.var 12) [(.int .i64 0)] 3)])
 (.leaf (.int .i64 (.var 7)) [(.cells [(.arg 1), (.int .i64 (.var 0)), (.int .i64 (.var 1)), (.int .i64 (.var 2)), (.int .i64 (.var 3)), (.int .i64 (.var 4)), (.int .i64 (.var 5)), (.int .i64 (.var 6)), (.int .i64 (.var 7)), (.int .i64 (.var 8)), (.int .i64 (.var 9)), (.int .u64 (.var 10))] 64 true none), (.sym (.var 11) (.var 12) [(.int .i64 0)] 3)]))
 (.ite (.cmp .eql (.var 5) (.lit 1))
 (.ite (.cmp .lss (.lit 4611686018427387903) (.bin .add .i64 (.bin .add .i64 (.var 8) (.bin .mul .i64 (.var 3) (.lit 1000000))) (.lit 1)))
 (.leaf (.int .i64 (.lit 4611686018427387903)) [(.cells [(.arg 1), (.int .i64 (.var 0)), (.int .i64 (.var 1)), (.int .i64 (.var 2)), (.int .i64 (.var 3)), (.int .i64 (.var 4)), (.int .i64 (.var 5)), (.int .i64 (.var 6)), (.int .i64 (.var 7)), (.int .i64 (.var 8)), (.int .i64 (.var 9)), (.int .u64 (.var 10))] 64 true none), (.sym (.var 11) (.var 12) [(.int .i64 0)] 3)])
 (.leaf (.int .i64 (.bin .add .i64 (.bin .add .i64 (.var 8) (.bin .mul .i64 (.var 3) (.lit 1000000))) (.lit 1))) [(.cells [(.arg 1), (.int .i64 (.var 0)), (.int .i64 (.var 1)), (.int .i64 (.var 2)), (.int .i64 (.var 3)), (.int .i64 (.var 4)), (.int .i64 (.var 5)), (.int .i64 (.var 6)), (.int .i64 (.var 7)), (.int .i64 (.var 8)), (.int .i64 (.var 9)), (.int .u64 (.var 10))] 64 true none), (.sym (.var 11) (.var 12) [(.int .i64 0)] 3)]))
 (.leaf (.int .i64 (.lit 4611686018427387903)) [(.cells [(.arg 1), (.int .i64 (.var 0)), (.int .i64 (.var 1)), (.int .i64 (.var 2)), (.int .i64 (.var 3)), (.int .i64 (.var 4)), (.int .i64 (.var 5)), (.int .i64 (.var 6)), (.int .i64 (.var 7)), (.int .i64 (.var 8)), (.int .i64 (.var 9)), (.int .u64 (.var 10))] 64 true none), (.sym (.var 11) (.var 12) [(.int .i64 0)] 3)])))
def raw : Pat := ⟨args, mem, needs pc tree.toOut⟩
set_option maxHeartbeats 40000000 in
theorem tree_eq : callS Try.prog cfg 100000 27 args mem pc = tree := by kernel_rfl
theorem cfg_ok (G : Nat → List Int → Int) (hG : ∀ j, 100 ≤ j → j < 200 → G j = B.F j) : CfgOk Try.prog cfg G (fun _ _ => True) :=
  ⟨by kernel_rfl, okB_spec (by kernel_rfl), fun f a m out h S w0 bs ρ w vs v mem' _ hρ hvs hm hp => sums2_sound B.cus_ok (l := []) (fun p hp => by cases hp) h (fun j hj hj2 => by rw [hρ]; exact hG j hj hj2) hvs hm hp⟩
theorem raw_ok : SumOk Try.prog B.F 27 raw := sum_run cfg_ok tree_eq rfl
def pat : Pat := ⟨args, mem, .done (.int .i64 (.app 130 (.cons (.var 5) (.cons (.var 7) (.cons (.var 8) (.cons (.bin .mul .i64 (.var 3) (.lit 1000000)) .nil)))))) [.cells [.arg 1, .int .i64 (.var 0), .int .i64 (.var 1), .int .i64 (.var 2), .int .i64 (.var 3), .int .i64 (.var 4), .int .i64 (.var 5), .int .i64 (.var 6), .int .i64 (.var 7), .int .i64 (.var 8), .int .i64 (.var 9), .int .u64 (.var 10)] 64 true none, .sym (.var 11) (.var 12) [.int .i64 0] 3]⟩
theorem ok : SumOk Try.prog B.F 27 pat := sum_refine raw_ok (by
  intro ρ bs w vs v m hF hvs hm hp
  have e : ∀ l, ρ.f 130 l = nxF l := fun l => by rw [hF 130 (by omega) (by omega)]; rfl
  refine like_pick ?_ hp
  refine ⟨fun h => ⟨fun h2 => ⟨dv_c ?_, MEq.refl _ _⟩, fun h2 => ⟨dv_c ?_, MEq.refl _ _⟩⟩, fun h => ⟨fun h2 => ⟨fun h3 => ⟨dv_c ?_, MEq.refl _ _⟩, fun h3 => ⟨dv_c ?_, MEq.refl _ _⟩⟩, fun h2 => ⟨dv_c ?_, MEq.refl _ _⟩⟩⟩
  · rw [ev_eql] at h
    rw [ev_lss] at h2
    have h : ρ.v 5 = 0 := h
    have h2 : 4611686018427387903 < ρ.v 7 := h2
    show _ = ρ.f 130 [ρ.v 5, ρ.v 7, ρ.v 8, binI .mul .i64 (ρ.v 3) 1000000]
    rw [e, nxF_eq, if_pos h, if_pos h2]; rfl
  · rw [ev_eql] at h
    rw [ev_lss'] at h2
    have h : ρ.v 5 = 0 := h
    have h2 : ρ.v 7 ≤ 4611686018427387903 := h2
    show _ = ρ.f 130 [ρ.v 5, ρ.v 7, ρ.v 8, binI .mul .i64 (ρ.v 3) 1000000]
    rw [e, nxF_eq, if_pos h, if_neg (by omega)]; rfl
  · rw [ev_eql'] at h
    rw [ev_eql] at h2
    rw [ev_lss] at h3
    have h : ¬ ρ.v 5 = 0 := h
    have h2 : ρ.v 5 = 1 := h2
    have h3 : 4611686018427387903 < binI .add .i64 (binI .add .i64 (ρ.v 8) (binI .mul .i64 (ρ.v 3) 1000000)) 1 := h3
    show _ = ρ.f 130 [ρ.v 5, ρ.v 7, ρ.v 8, binI .mul .i64 (ρ.v 3) 1000000]
    rw [e, nxF_eq, if_neg h, if_pos h2, if_pos h3]; rfl
  · rw [ev_eql'] at h
    rw [ev_eql] at h2
    rw [ev_lss'] at h3
    have h : ¬ ρ.v 5 = 0 := h
    have h2 : ρ.v 5 = 1 := h2
    have h3 : binI .add .i64 (binI .add .i64 (ρ.v 8) (binI .mul .i64 (ρ.v 3) 1000000)) 1 ≤ 4611686018427387903 := h3
    show _ = ρ.f 130 [ρ.v 5, ρ.v 7, ρ.v 8, binI .mul .i64 (ρ.v 3) 1000000]
    rw [e, nxF_eq, if_neg h, if_pos h2, if_neg (by omega)]; rfl
  · rw [ev_eql'] at h h2
    have h : ¬ ρ.v 5 = 0 := h
    have h2 : ¬ ρ.v 5 = 1 := h2
    show _ = ρ.f 130 [ρ.v 5, ρ.v 7, ρ.v 8, binI .mul .i64 (ρ.v 3) 1000000]
    rw [e, nxF_eq, if_neg h, if_neg h2]; rfl
)
end Go.Proofs.Ytableianhaojcaa.RNxt
