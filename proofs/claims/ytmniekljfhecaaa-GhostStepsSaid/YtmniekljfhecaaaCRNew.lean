/- What a call of chronobate.chronobateref18.New comes to, in letters. No conditions. -/
import Derived.Test.YtmniekljfhecaaaSX3
import Derived.Test.YtmniekljfhecaaaProg
import Derived.KernelRfl
import Derived.Test.YtmniekljfhecaaaB
namespace Go.Proofs.Ytmniekljfhecaaa.RNew
open Go Go.SX Go.Proofs.Ytmniekljfhecaaa Go.Proofs.Ytmniekljfhecaaa.L Go.Proofs.Ytmniekljfhecaaa.B Go.RowKit Go.Proofs.YtmniekljfhecaaaW.PrintWords
set_option maxRecDepth 100000
set_option linter.unusedVariables false
set_option linter.unusedSimpArgs false
def args : List AV := [.int .i64 (.var 0), .int .i64 (.var 1), .int .i64 (.var 2)]
def mem : List AObj := []
def pc : List (SE × Bool) := []
def cfg : Cfg := { ok := [3, 4, 5, 6, 7, 8, 9, 10, 11, 12, 13, 14, 15, 16, 17, 18, 19, 20, 21, 22, 23, 24, 25, 26, 27, 28, 29, 30, 31, 32], sums := fun f a m => sums2 B.cus [] f a m, loops := [] }
def tree : Tree :=
(.ite (.cmp .lss (.var 0) (.lit (-1152921504606846976)))
 (.leaf (.tuple (.cons .nilptr (.cons (.int .i64 (.lit 3)) .nil))) [])
 (.ite (.cmp .lss (.lit 1152921504606846976) (.var 0))
 (.leaf (.tuple (.cons .nilptr (.cons (.int .i64 (.lit 3)) .nil))) [])
 (.ite (.cmp .lss (.var 1) (.lit 0))
 (.leaf (.tuple (.cons .nilptr (.cons (.int .i64 (.lit 3)) .nil))) [])
 (.ite (.cmp .lss (.lit 1152921504606846976) (.var 1))
 (.leaf (.tuple (.cons .nilptr (.cons (.int .i64 (.lit 3)) .nil))) [])
 (.ite (.cmp .lss (.var 2) (.lit 0))
 (.leaf (.tuple (.cons .nilptr (.cons (.int .i64 (.lit 3)) .nil))) [])
 (.ite (.cmp .lss (.lit 1000000) (.var 2))
 (.leaf (.tuple (.cons .nilptr (.cons (.int .i64 (.lit 3)) .nil))) [])
 (.leaf (.tuple (.cons (.ptr 0 0) (.cons (.int .i64 (.lit 0)) .nil))) [(.cells [(.int .i64 (.var 0)), (.int .i64 (.var 1)), (.int .i64 (.var 2)), (.int .i64 (.lit 0)), (.int .i64 (.lit 0))] 42 true none)])))))))
def raw : Pat := ⟨args, mem, needs pc tree.toOut⟩
set_option maxHeartbeats 40000000 in
theorem tree_eq : callS Try.prog cfg 100000 18 args mem pc = tree := by kernel_rfl
theorem cfg_ok (G : Nat → List Int → Int) (hG : ∀ j, 100 ≤ j → j < 200 → G j = B.F j) : CfgOk Try.prog cfg G (fun _ _ => True) :=
  ⟨by kernel_rfl, okB_spec (by kernel_rfl), fun f a m out h S w0 bs ρ w vs v mem' _ hρ hvs hm hp => sums2_sound B.cus_ok (l := []) (fun p hp => by cases hp) h (fun j hj hj2 => by rw [hρ]; exact hG j hj hj2) hvs hm hp⟩
theorem raw_ok : SumOk Try.prog B.F 18 raw := sum_run cfg_ok tree_eq rfl
theorem ite_ex2 {α β : Type} {c : Prop} [Decidable c] {A B : Option (α × β)} {Q : α → β → Prop} (h1 : c → ∃ v m, A = some (v, m) ∧ Q v m) (h2 : ¬ c → ∃ v m, B = some (v, m) ∧ Q v m) : ∃ v m, (if c then A else B) = some (v, m) ∧ Q v m := by
  split
  · exact h1 ‹_›
  · exact h2 ‹_›
def pat : Pat := ⟨args, mem, (.ite (.cmp .neq (.app 160 (.cons (.var 0) (.cons (.var 1) (.cons (.var 2) .nil)))) (.lit 0)) (.done (.tuple (.cons .nilptr (.cons (.int .i64 (.lit 3)) .nil))) []) (.done (.tuple (.cons (.ptr 0 0) (.cons (.int .i64 (.lit 0)) .nil))) [.cells [.int .i64 (.var 0), .int .i64 (.var 1), .int .i64 (.var 2), .int .i64 (.lit 0), .int .i64 (.lit 0)] 42 true none]))⟩
theorem ok : SumOk Try.prog B.F 18 pat := sum_refine raw_ok (by
  intro ρ bs w vs v m hF hvs hm hp
  have hv : dvl bs ρ args = some vs := hvs
  unfold args at hv
  have i0 := i64_in (dvl_in hv (i := 0) (k := .i64) (e := .var 0) rfl)
  simp only [den] at i0
  have e111 : ∀ a, ρ.f 111 [a] = ab a := fun a => by rw [hF 111 (by omega) (by omega)]; rfl
  have hab : 1152921504606846976 < ab (ρ.v 0) ↔ ρ.v 0 < -1152921504606846976 ∨ 1152921504606846976 < ρ.v 0 := by
    unfold ab clamp
    split <;> (try split) <;> (try split) <;> omega
  have e160 : ρ.f 160 [ρ.v 0, ρ.v 1, ρ.v 2] = gn (ρ.v 0) (ρ.v 1) (ρ.v 2) := by rw [hF 160 (by omega) (by omega)]; rfl
  simp only [Out.pick, ev_neq, den, dens, e160] at hp
  simp only [raw, pc, needs, tree, Tree.toOut, Out.pick, ev_lss, den, dens, e111, hab]
  by_cases hg : gn (ρ.v 0) (ρ.v 1) (ρ.v 2) ≠ 0
  · rw [if_pos hg] at hp
    cases hp
    have hg' : ¬ ¬ (ρ.v 0 < -1152921504606846976 ∨ 1152921504606846976 < ρ.v 0 ∨ ρ.v 1 < 0 ∨ 1152921504606846976 < ρ.v 1 ∨ ρ.v 2 < 0 ∨ 1000000 < ρ.v 2) := fun h => hg (by unfold gn; rw [if_neg h])
    repeat' refine ite_ex2 (fun _ => ?_) (fun _ => ?_)
    all_goals first | exact ⟨_, _, rfl, fun _ => rfl, MEq.refl _ _⟩ | (exfalso; omega)
  · rw [if_neg hg] at hp
    cases hp
    have hg' : ¬ (ρ.v 0 < -1152921504606846976 ∨ 1152921504606846976 < ρ.v 0 ∨ ρ.v 1 < 0 ∨ 1152921504606846976 < ρ.v 1 ∨ ρ.v 2 < 0 ∨ 1000000 < ρ.v 2) := fun h => hg (by unfold gn; rw [if_pos h]; decide)
    repeat' refine ite_ex2 (fun _ => ?_) (fun _ => ?_)
    all_goals first | (exfalso; omega) | exact ⟨_, _, rfl, fun _ => rfl, MEq.refl _ _⟩)
end Go.Proofs.Ytmniekljfhecaaa.RNew
