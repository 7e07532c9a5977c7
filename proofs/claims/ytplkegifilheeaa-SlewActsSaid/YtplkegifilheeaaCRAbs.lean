/- What a call of chronobate.chronobateref01.Abs comes to, in letters. No conditions. -/
import Derived.Test.YtplkegifilheeaaSX3
import Derived.Test.YtplkegifilheeaaProg
import Derived.KernelRfl
import Derived.Test.YtplkegifilheeaaB
namespace Go.Proofs.Ytplkegifilheeaa.RAbs
open Go Go.SX Go.Proofs.Ytplkegifilheeaa Go.Proofs.Ytplkegifilheeaa.L Go.Proofs.Ytplkegifilheeaa.B Go.RowKit Go.Proofs.YtplkegifilheeaaW.PrintWords
set_option maxRecDepth 100000
set_option linter.unusedVariables false
set_option linter.unusedSimpArgs false
def args : List AV := [.int .i64 (.var 0)]
def mem : List AObj := []
def pc : List (SE × Bool) := []
def cfg : Cfg := { ok := [3, 4, 5, 6, 7, 8, 9, 10, 11, 12, 13, 14, 15, 16, 17, 18, 19, 20, 21, 22, 23, 24, 25, 26, 27, 28, 29, 30, 31, 32, 33, 34, 35, 36, 37, 38], sums := fun f a m => sums2 B.cus [] f a m, loops := [] }
def tree : Tree :=
(.ite (.cmp .lss (.var 0) (.lit 0))
 (.ite (.cmp .lss (.bin .add .i64 (.lit 9223372036854775807) (.var 0)) (.lit 0))
 (.leaf (.int .i64 (.lit 9223372036854775807)) [])
 (.leaf (.int .i64 (.bin .sub .i64 (.lit 0) (.var 0))) []))
 (.leaf (.int .i64 (.var 0)) []))
def raw : Pat := ⟨args, mem, needs pc tree.toOut⟩
set_option maxHeartbeats 40000000 in
theorem tree_eq : callS Try.prog cfg 100000 33 args mem pc = tree := by kernel_rfl
theorem cfg_ok (G : Nat → List Int → Int) (hG : ∀ j, 100 ≤ j → j < 200 → G j = B.F j) : CfgOk Try.prog cfg G (fun _ _ => True) :=
  ⟨by kernel_rfl, okB_spec (by kernel_rfl), fun f a m out h S w0 bs ρ w vs v mem' _ hρ hvs hm hp => sums2_sound B.cus_ok (l := []) (fun p hp => by cases hp) h (fun j hj hj2 => by rw [hρ]; exact hG j hj hj2) hvs hm hp⟩
theorem raw_ok : SumOk Try.prog B.F 33 raw := sum_run cfg_ok tree_eq rfl
theorem ite_ex2 {α β : Type} {c : Prop} [Decidable c] {A B : Option (α × β)} {Q : α → β → Prop} (h1 : c → ∃ v m, A = some (v, m) ∧ Q v m) (h2 : ¬ c → ∃ v m, B = some (v, m) ∧ Q v m) : ∃ v m, (if c then A else B) = some (v, m) ∧ Q v m := by
  split
  · exact h1 ‹_›
  · exact h2 ‹_›
theorem nR {d r : Int} (h0 : 0 ≤ d) (h1 : d ≤ 4611686018427387903) (r0 : 1 ≤ r) (r1 : r ≤ 500) : binI .add .i64 (binI .mul .i64 (binI .quo .i64 d 1000000) r) (binI .quo .i64 (binI .mul .i64 (binI .rem .i64 d 1000000) r) 1000000) = d * r / 1000000 ∧ 0 ≤ d * r / 1000000 ∧ d * r / 1000000 ≤ d / 2000 := by
  have m1 : 0 ≤ d * r := Int.mul_nonneg h0 (by omega)
  have m2 : d * r ≤ d * 500 := Int.mul_le_mul_of_nonneg_left r1 h0
  have e1 : binI .quo .i64 d 1000000 = d / 1000000 := by
    show IntKind.i64.wrap (d.tdiv 1000000) = _
    rw [Int.tdiv_eq_ediv_of_nonneg h0, wrap_i64 (by omega) (by omega)]
  have e2 : binI .rem .i64 d 1000000 = d % 1000000 := Int.tmod_eq_emod_of_nonneg h0
  have q0 : 0 ≤ d / 1000000 * r := Int.mul_nonneg (by omega) (by omega)
  have q1 : d / 1000000 * r ≤ d / 1000000 * 500 := Int.mul_le_mul_of_nonneg_left r1 (by omega)
  have s0 : 0 ≤ d % 1000000 * r := Int.mul_nonneg (by omega) (by omega)
  have s1 : d % 1000000 * r ≤ d % 1000000 * 500 := Int.mul_le_mul_of_nonneg_left r1 (by omega)
  have hs : d * r = 1000000 * (d / 1000000 * r) + d % 1000000 * r := by
    rw [← Int.mul_assoc, ← Int.add_mul]
    congr 1
    omega
  rw [e1, e2, mul_i64 (by omega) (by omega), mul_i64 (x := d % 1000000) (by omega) (by omega)]
  have e3 : binI .quo .i64 (d % 1000000 * r) 1000000 = d % 1000000 * r / 1000000 := by
    show IntKind.i64.wrap ((d % 1000000 * r).tdiv 1000000) = _
    rw [Int.tdiv_eq_ediv_of_nonneg s0, wrap_i64 (by omega) (by omega)]
  rw [e3, add_i64 (by omega) (by omega)]
  generalize d / 1000000 * r = A at *
  generalize d % 1000000 * r = B at *
  omega
def pat : Pat := ⟨args, mem, .done (.int .i64 (.app 111 (.cons (.var 0) .nil))) []⟩
theorem ok : SumOk Try.prog B.F 33 pat := sum_refine raw_ok (by
  intro ρ bs w vs v m hF hvs hm hp
  cases hp
  have hv : dvl bs ρ args = some vs := hvs
  unfold args at hv
  have i0 := i64_in (dvl_in hv (i := 0) (k := .i64) (e := .var 0) rfl)
  simp only [den] at i0
  have e111 : ρ.f 111 [ρ.v 0] = B.ab (ρ.v 0) := by rw [hF 111 (by omega) (by omega)]; rfl
  simp only [raw, pc, needs, tree, Tree.toOut, Out.pick, ev_lss, den]
  refine ite_ex2 (fun h => ?_) (fun h => ?_)
  · rw [add_i64 (by omega) (by omega)]
    refine ite_ex2 (fun h2 => ?_) (fun h2 => ?_)
    · exact ⟨_, _, rfl, dv_c (by simp only [den, dens, e111]; unfold B.ab clamp; rw [if_pos h]; split <;> (try split) <;> omega), MEq.refl _ _⟩
    · exact ⟨_, _, rfl, dv_c (by simp only [den, dens, e111]; rw [sub_i64 (by omega) (by omega)]; unfold B.ab clamp; rw [if_pos h]; split <;> (try split) <;> omega), MEq.refl _ _⟩
  · exact ⟨_, _, rfl, dv_c (by simp only [den, dens, e111]; unfold B.ab; rw [if_neg h]), MEq.refl _ _⟩)
end Go.Proofs.Ytplkegifilheeaa.RAbs
