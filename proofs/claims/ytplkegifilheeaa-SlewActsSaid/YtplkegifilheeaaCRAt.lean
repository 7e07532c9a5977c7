/- What a call of (*chronobate.chronobateref07.Clock).At comes to, in letters. No conditions. -/
import Derived.Test.YtplkegifilheeaaSX3
import Derived.Test.YtplkegifilheeaaProg
import Derived.KernelRfl
import Derived.Test.YtplkegifilheeaaCRAbs
import Derived.Test.YtplkegifilheeaaB
namespace Go.Proofs.Ytplkegifilheeaa.RAt
open Go Go.SX Go.Proofs.Ytplkegifilheeaa Go.Proofs.Ytplkegifilheeaa.L Go.Proofs.Ytplkegifilheeaa.B Go.RowKit Go.Proofs.YtplkegifilheeaaW.PrintWords
set_option maxRecDepth 100000
set_option linter.unusedVariables false
set_option linter.unusedSimpArgs false
def args : List AV := [.ptr 0 0, .int .i64 (.var 10)]
def mem : List AObj := [.cells [.int .i64 (.var 0), .int .i64 (.var 1), .int .i64 (.var 2), .int .i64 (.var 3), .int .i64 (.var 4)] 56 true none]
def pc : List (SE × Bool) := []
def cfg : Cfg := { ok := [3, 4, 5, 6, 7, 8, 9, 10, 11, 12, 13, 14, 15, 16, 17, 18, 19, 20, 21, 22, 23, 24, 25, 26, 27, 28, 29, 30, 31, 32, 33, 34, 35, 36, 37, 38], sums := fun f a m => sums2 B.cus [(33, RAbs.pat)] f a m, loops := [] }
def tree : Tree :=
(.ite (.cmp .lss (.lit 4611686018427387903) (.var 10))
 (.leaf (.tuple (.cons (.int .i64 (.lit 0)) (.cons (.int .i64 (.lit 0)) (.cons (.int .i64 (.lit 0)) (.cons (.int .i64 (.lit 3)) .nil))))) [(.cells [(.int .i64 (.var 0)), (.int .i64 (.var 1)), (.int .i64 (.var 2)), (.int .i64 (.var 3)), (.int .i64 (.var 4))] 56 true none)])
 (.ite (.cmp .lss (.var 10) (.var 1))
 (.leaf (.tuple (.cons (.int .i64 (.lit 0)) (.cons (.int .i64 (.lit 0)) (.cons (.int .i64 (.lit 0)) (.cons (.int .i64 (.lit 8)) .nil))))) [(.cells [(.int .i64 (.var 0)), (.int .i64 (.var 1)), (.int .i64 (.var 2)), (.int .i64 (.var 3)), (.int .i64 (.var 4))] 56 true none)])
 (.ite (.cmp .lss (.app 111 (.cons (.var 3) .nil)) (.bin .add .i64 (.bin .mul .i64 (.bin .quo .i64 (.bin .sub .i64 (.var 10) (.var 1)) (.lit 1000000)) (.var 0)) (.bin .quo .i64 (.bin .mul .i64 (.bin .rem .i64 (.bin .sub .i64 (.var 10) (.var 1)) (.lit 1000000)) (.var 0)) (.lit 1000000))))
 (.ite (.cmp .lss (.var 3) (.lit 0))
 (.leaf (.tuple (.cons (.int .i64 (.bin .add .i64 (.bin .add .i64 (.var 2) (.bin .sub .i64 (.var 10) (.var 1))) (.bin .sub .i64 (.lit 0) (.app 111 (.cons (.var 3) .nil))))) (.cons (.int .i64 (.bin .sub .i64 (.var 3) (.bin .sub .i64 (.lit 0) (.app 111 (.cons (.var 3) .nil))))) (.cons (.int .i64 (.bin .add .i64 (.var 4) (.bin .sub .i64 (.lit 0) (.app 111 (.cons (.var 3) .nil))))) (.cons (.int .i64 (.lit 0)) .nil))))) [(.cells [(.int .i64 (.var 0)), (.int .i64 (.var 1)), (.int .i64 (.var 2)), (.int .i64 (.var 3)), (.int .i64 (.var 4))] 56 true none)])
 (.leaf (.tuple (.cons (.int .i64 (.bin .add .i64 (.bin .add .i64 (.var 2) (.bin .sub .i64 (.var 10) (.var 1))) (.app 111 (.cons (.var 3) .nil)))) (.cons (.int .i64 (.bin .sub .i64 (.var 3) (.app 111 (.cons (.var 3) .nil)))) (.cons (.int .i64 (.bin .add .i64 (.var 4) (.app 111 (.cons (.var 3) .nil)))) (.cons (.int .i64 (.lit 0)) .nil))))) [(.cells [(.int .i64 (.var 0)), (.int .i64 (.var 1)), (.int .i64 (.var 2)), (.int .i64 (.var 3)), (.int .i64 (.var 4))] 56 true none)]))
 (.ite (.cmp .lss (.var 3) (.lit 0))
 (.leaf (.tuple (.cons (.int .i64 (.bin .add .i64 (.bin .add .i64 (.var 2) (.bin .sub .i64 (.var 10) (.var 1))) (.bin .sub .i64 (.lit 0) (.bin .add .i64 (.bin .mul .i64 (.bin .quo .i64 (.bin .sub .i64 (.var 10) (.var 1)) (.lit 1000000)) (.var 0)) (.bin .quo .i64 (.bin .mul .i64 (.bin .rem .i64 (.bin .sub .i64 (.var 10) (.var 1)) (.lit 1000000)) (.var 0)) (.lit 1000000)))))) (.cons (.int .i64 (.bin .sub .i64 (.var 3) (.bin .sub .i64 (.lit 0) (.bin .add .i64 (.bin .mul .i64 (.bin .quo .i64 (.bin .sub .i64 (.var 10) (.var 1)) (.lit 1000000)) (.var 0)) (.bin .quo .i64 (.bin .mul .i64 (.bin .rem .i64 (.bin .sub .i64 (.var 10) (.var 1)) (.lit 1000000)) (.var 0)) (.lit 1000000)))))) (.cons (.int .i64 (.bin .add .i64 (.var 4) (.bin .sub .i64 (.lit 0) (.bin .add .i64 (.bin .mul .i64 (.bin .quo .i64 (.bin .sub .i64 (.var 10) (.var 1)) (.lit 1000000)) (.var 0)) (.bin .quo .i64 (.bin .mul .i64 (.bin .rem .i64 (.bin .sub .i64 (.var 10) (.var 1)) (.lit 1000000)) (.var 0)) (.lit 1000000)))))) (.cons (.int .i64 (.lit 0)) .nil))))) [(.cells [(.int .i64 (.var 0)), (.int .i64 (.var 1)), (.int .i64 (.var 2)), (.int .i64 (.var 3)), (.int .i64 (.var 4))] 56 true none)])
 (.leaf (.tuple (.cons (.int .i64 (.bin .add .i64 (.bin .add .i64 (.var 2) (.bin .sub .i64 (.var 10) (.var 1))) (.bin .add .i64 (.bin .mul .i64 (.bin .quo .i64 (.bin .sub .i64 (.var 10) (.var 1)) (.lit 1000000)) (.var 0)) (.bin .quo .i64 (.bin .mul .i64 (.bin .rem .i64 (.bin .sub .i64 (.var 10) (.var 1)) (.lit 1000000)) (.var 0)) (.lit 1000000))))) (.cons (.int .i64 (.bin .sub .i64 (.var 3) (.bin .add .i64 (.bin .mul .i64 (.bin .quo .i64 (.bin .sub .i64 (.var 10) (.var 1)) (.lit 1000000)) (.var 0)) (.bin .quo .i64 (.bin .mul .i64 (.bin .rem .i64 (.bin .sub .i64 (.var 10) (.var 1)) (.lit 1000000)) (.var 0)) (.lit 1000000))))) (.cons (.int .i64 (.bin .add .i64 (.var 4) (.bin .add .i64 (.bin .mul .i64 (.bin .quo .i64 (.bin .sub .i64 (.var 10) (.var 1)) (.lit 1000000)) (.var 0)) (.bin .quo .i64 (.bin .mul .i64 (.bin .rem .i64 (.bin .sub .i64 (.var 10) (.var 1)) (.lit 1000000)) (.var 0)) (.lit 1000000))))) (.cons (.int .i64 (.lit 0)) .nil))))) [(.cells [(.int .i64 (.var 0)), (.int .i64 (.var 1)), (.int .i64 (.var 2)), (.int .i64 (.var 3)), (.int .i64 (.var 4))] 56 true none)])))))
def raw : Pat := ⟨args, mem, needs pc tree.toOut⟩
set_option maxHeartbeats 40000000 in
theorem tree_eq : callS Try.prog cfg 100000 21 args mem pc = tree := by kernel_rfl
theorem cfg_ok (G : Nat → List Int → Int) (hG : ∀ j, 100 ≤ j → j < 200 → G j = B.F j) : CfgOk Try.prog cfg G (fun _ _ => True) :=
  ⟨by kernel_rfl, okB_spec (by kernel_rfl), fun f a m out h S w0 bs ρ w vs v mem' _ hρ hvs hm hp => sums2_sound B.cus_ok (l := [(33, RAbs.pat)]) (fun p hp => by
    simp only [List.mem_cons, List.not_mem_nil, or_false] at hp
    rcases hp with rfl
    · exact RAbs.ok) h (fun j hj hj2 => by rw [hρ]; exact hG j hj hj2) hvs hm hp⟩
theorem raw_ok : SumOk Try.prog B.F 21 raw := sum_run cfg_ok tree_eq rfl
theorem ite_ex2 {α β : Type} {c : Prop} [Decidable c] {A B : Option (α × β)} {Q : α → β → Prop} (h1 : c → ∃ v m, A = some (v, m) ∧ Q v m) (h2 : ¬ c → ∃ v m, B = some (v, m) ∧ Q v m) : ∃ v m, (if c then A else B) = some (v, m) ∧ Q v m := by
  split
  · exact h1 ‹_›
  · exact h2 ‹_›
theorem nR {d r : Int} (h0 : 0 ≤ d) (h1 : d ≤ 4611686018427387903) (r0 : 1 ≤ r) (r1 : r ≤ 500) : binI .add .i64 (binI .mul .i64 (binI .quo .i64 d 1000000) r) (binI .quo .i64 (binI .mul .i64 (binI .rem .i64 d 1000000) r) 1000000) = d * r / 1000000 ∧ 0 ≤ d * r / 1000000 ∧ d * r / 1000000 ≤ d / 2000 := by
  have m1 : 0 ≤ d * r := Int.mul_nonneg h0 (by omega)
  have m2 : d * r ≤ d * 500 := Int.mul_le_mul_of_nonneg_left r1 h0
  have e1 : binI .quo .i64 d 1000000 = d / 1000000 := by
    show IntKind.i64.wrap (d.tdiv 1000000) = _
    rw [Int.tdiv_eq_ediv_of_nonneg h0, wrap_i64 (by omega) (by omega)]
  have e2 : binI .rem .i64 d 1000000 = d % 1000000 := Int.tmod_eq_emod_of_nonneg h0
  have q0 : 0 ≤ d / 1000000 * r := Int.mul_nonneg (by omega) (by omega)
  have q1 : d / 1000000 * r ≤ d / 1000000 * 500 := Int.mul_le_mul_of_nonneg_left r1 (by omega)
  have s0 : 0 ≤ d % 1000000 * r := Int.mul_nonneg (by omega) (by omega)
  have s1 : d % 1000000 * r ≤ d % 1000000 * 500 := Int.mul_le_mul_of_nonneg_left r1 (by omega)
  have hs : d * r = 1000000 * (d / 1000000 * r) + d % 1000000 * r := by
    rw [← Int.mul_assoc, ← Int.add_mul]
    congr 1
    omega
  rw [e1, e2, mul_i64 (by omega) (by omega), mul_i64 (x := d % 1000000) (by omega) (by omega)]
  have e3 : binI .quo .i64 (d % 1000000 * r) 1000000 = d % 1000000 * r / 1000000 := by
    show IntKind.i64.wrap ((d % 1000000 * r).tdiv 1000000) = _
    rw [Int.tdiv_eq_ediv_of_nonneg s0, wrap_i64 (by omega) (by omega)]
  rw [e3, add_i64 (by omega) (by omega)]
  generalize d / 1000000 * r = A at *
  generalize d % 1000000 * r = B at *
  omega
def pat : Pat := ⟨args, mem, (.need (.cmp .leq (.lit 0) (.var 1)) (.need (.cmp .leq (.lit 1) (.var 0)) (.need (.cmp .leq (.var 0) (.lit 500)) (.need (.cmp .leq (.lit (-2305843009213693952)) (.var 3)) (.need (.cmp .leq (.var 3) (.lit 2305843009213693952)) (.ite (.cmp .lss (.lit 4611686018427387903) (.var 10)) (.done (.tuple (.cons (.int .i64 (.lit 0)) (.cons (.int .i64 (.lit 0)) (.cons (.int .i64 (.lit 0)) (.cons (.int .i64 (.lit 3)) .nil))))) [.cells [.int .i64 (.var 0), .int .i64 (.var 1), .int .i64 (.var 2), .int .i64 (.var 3), .int .i64 (.var 4)] 56 true none]) (.ite (.cmp .lss (.var 10) (.var 1)) (.done (.tuple (.cons (.int .i64 (.lit 0)) (.cons (.int .i64 (.lit 0)) (.cons (.int .i64 (.lit 0)) (.cons (.int .i64 (.lit 8)) .nil))))) [.cells [.int .i64 (.var 0), .int .i64 (.var 1), .int .i64 (.var 2), .int .i64 (.var 3), .int .i64 (.var 4)] 56 true none]) (.done (.tuple (.cons (.int .i64 (.bin .add .i64 (.bin .add .i64 (.var 2) (.bin .sub .i64 (.var 10) (.var 1))) (.app 106 (.cons (.var 3) (.cons (.bin .sub .i64 (.lit 0) (.app 104 (.cons (.bin .sub .i64 (.var 10) (.var 1)) (.cons (.var 0) (.cons (.lit 1000000) .nil))))) (.cons (.app 104 (.cons (.bin .sub .i64 (.var 10) (.var 1)) (.cons (.var 0) (.cons (.lit 1000000) .nil)))) .nil)))))) (.cons (.int .i64 (.bin .sub .i64 (.var 3) (.app 106 (.cons (.var 3) (.cons (.bin .sub .i64 (.lit 0) (.app 104 (.cons (.bin .sub .i64 (.var 10) (.var 1)) (.cons (.var 0) (.cons (.lit 1000000) .nil))))) (.cons (.app 104 (.cons (.bin .sub .i64 (.var 10) (.var 1)) (.cons (.var 0) (.cons (.lit 1000000) .nil)))) .nil)))))) (.cons (.int .i64 (.bin .add .i64 (.var 4) (.app 106 (.cons (.var 3) (.cons (.bin .sub .i64 (.lit 0) (.app 104 (.cons (.bin .sub .i64 (.var 10) (.var 1)) (.cons (.var 0) (.cons (.lit 1000000) .nil))))) (.cons (.app 104 (.cons (.bin .sub .i64 (.var 10) (.var 1)) (.cons (.var 0) (.cons (.lit 1000000) .nil)))) .nil)))))) (.cons (.int .i64 (.lit 0)) .nil))))) [.cells [.int .i64 (.var 0), .int .i64 (.var 1), .int .i64 (.var 2), .int .i64 (.var 3), .int .i64 (.var 4)] 56 true none]))))))))⟩
theorem ok : SumOk Try.prog B.F 21 pat := sum_refine raw_ok (by
  intro ρ bs w vs v m hF hvs hm hp
  have hv : dvl bs ρ args = some vs := hvs
  unfold args at hv
  have i10 := i64_in (dvl_in hv (i := 1) (k := .i64) (e := .var 10) rfl)
  simp only [den] at i10
  simp only [Out.pick, ev_leq, den] at hp
  split at hp
  rotate_left
  · cases hp
  rename_i g0
  split at hp
  rotate_left
  · cases hp
  rename_i g1
  split at hp
  rotate_left
  · cases hp
  rename_i g2
  split at hp
  rotate_left
  · cases hp
  rename_i g3
  split at hp
  rotate_left
  · cases hp
  rename_i g4
  have e104 : ∀ a b c, ρ.f 104 [a, b, c] = if b < 0 ∨ c < 1 then 0 else md a b c := fun a b c => by rw [hF 104 (by omega) (by omega)]; rfl
  have e106 : ∀ a b c, ρ.f 106 [a, b, c] = B.clp a b c := fun a b c => by rw [hF 106 (by omega) (by omega)]; rfl
  have e111 : ρ.f 111 [ρ.v 3] = B.ab (ρ.v 3) := by rw [hF 111 (by omega) (by omega)]; rfl
  have hab : B.ab (ρ.v 3) = if ρ.v 3 < 0 then -ρ.v 3 else ρ.v 3 := by
    unfold B.ab
    split
    · rw [clamp_id (by unfold I64; omega)]
    · rfl
  simp only [ev_lss, den] at hp
  simp only [raw, pc, needs, tree, Tree.toOut, Out.pick, ev_lss, den, dens, e111, hab]
  refine ite_ex2 (fun h => ?_) (fun h => ?_)
  · rw [if_pos h] at hp
    cases hp
    exact ⟨_, _, rfl, fun _ => rfl, MEq.refl _ _⟩
  rw [if_neg h] at hp
  refine ite_ex2 (fun h2 => ?_) (fun h2 => ?_)
  · rw [if_pos h2] at hp
    cases hp
    exact ⟨_, _, rfl, fun _ => rfl, MEq.refl _ _⟩
  rw [if_neg h2] at hp
  cases hp
  have ed : binI .sub .i64 (ρ.v 10) (ρ.v 1) = ρ.v 10 - ρ.v 1 := sub_i64 (by omega) (by omega)
  obtain ⟨n1, n2, n3⟩ := nR (d := ρ.v 10 - ρ.v 1) (r := ρ.v 0) (by omega) (by omega) g1 g2
  have n4 : ρ.f 104 [ρ.v 10 - ρ.v 1, ρ.v 0, 1000000] = (ρ.v 10 - ρ.v 1) * ρ.v 0 / 1000000 := by
    rw [e104, if_neg (by omega)]
    unfold md
    exact clamp_id (by unfold I64; omega)
  simp only [ed, n1]
  generalize hR : (ρ.v 10 - ρ.v 1) * ρ.v 0 / 1000000 = R at *
  have e0 : binI .sub .i64 0 R = -R := by rw [sub_i64 (by omega) (by omega)]; omega
  have fin : ∀ x : SE, den ρ x = B.clp (ρ.v 3) (-R) R → (∀ bs, dv bs ρ (AV.tuple (.cons (.int .i64 (.bin .add .i64 (.bin .add .i64 (.var 2) (.bin .sub .i64 (.var 10) (.var 1))) x)) (.cons (.int .i64 (.bin .sub .i64 (.var 3) x)) (.cons (.int .i64 (.bin .add .i64 (.var 4) x)) (.cons (.int .i64 (.lit 0)) .nil))))) = dv bs ρ (AV.tuple (.cons (.int .i64 (.bin .add .i64 (.bin .add .i64 (.var 2) (.bin .sub .i64 (.var 10) (.var 1))) (.app 106 (.cons (.var 3) (.cons (.bin .sub .i64 (.lit 0) (.app 104 (.cons (.bin .sub .i64 (.var 10) (.var 1)) (.cons (.var 0) (.cons (.lit 1000000) .nil))))) (.cons (.app 104 (.cons (.bin .sub .i64 (.var 10) (.var 1)) (.cons (.var 0) (.cons (.lit 1000000) .nil)))) .nil)))))) (.cons (.int .i64 (.bin .sub .i64 (.var 3) (.app 106 (.cons (.var 3) (.cons (.bin .sub .i64 (.lit 0) (.app 104 (.cons (.bin .sub .i64 (.var 10) (.var 1)) (.cons (.var 0) (.cons (.lit 1000000) .nil))))) (.cons (.app 104 (.cons (.bin .sub .i64 (.var 10) (.var 1)) (.cons (.var 0) (.cons (.lit 1000000) .nil)))) .nil)))))) (.cons (.int .i64 (.bin .add .i64 (.var 4) (.app 106 (.cons (.var 3) (.cons (.bin .sub .i64 (.lit 0) (.app 104 (.cons (.bin .sub .i64 (.var 10) (.var 1)) (.cons (.var 0) (.cons (.lit 1000000) .nil))))) (.cons (.app 104 (.cons (.bin .sub .i64 (.var 10) (.var 1)) (.cons (.var 0) (.cons (.lit 1000000) .nil)))) .nil)))))) (.cons (.int .i64 (.lit 0)) .nil)))))) := fun x hx => by
    have hn : den ρ (.app 106 (.cons (.var 3) (.cons (.bin .sub .i64 (.lit 0) (.app 104 (.cons (.bin .sub .i64 (.var 10) (.var 1)) (.cons (.var 0) (.cons (.lit 1000000) .nil))))) (.cons (.app 104 (.cons (.bin .sub .i64 (.var 10) (.var 1)) (.cons (.var 0) (.cons (.lit 1000000) .nil)))) .nil)))) = B.clp (ρ.v 3) (-R) R := by
      show ρ.f 106 [ρ.v 3, binI .sub .i64 0 (ρ.f 104 [binI .sub .i64 (ρ.v 10) (ρ.v 1), ρ.v 0, 1000000]), ρ.f 104 [binI .sub .i64 (ρ.v 10) (ρ.v 1), ρ.v 0, 1000000]] = _
      rw [ed, n4, e0, e106]
    have hxn : den ρ x = den ρ (.app 106 (.cons (.var 3) (.cons (.bin .sub .i64 (.lit 0) (.app 104 (.cons (.bin .sub .i64 (.var 10) (.var 1)) (.cons (.var 0) (.cons (.lit 1000000) .nil))))) (.cons (.app 104 (.cons (.bin .sub .i64 (.var 10) (.var 1)) (.cons (.var 0) (.cons (.lit 1000000) .nil)))) .nil)))) := hx.trans hn.symm
    exact tuple_c (dvs_c (dv_c (by show binI .add .i64 _ (den ρ x) = binI .add .i64 _ (den ρ (.app 106 (.cons (.var 3) (.cons (.bin .sub .i64 (.lit 0) (.app 104 (.cons (.bin .sub .i64 (.var 10) (.var 1)) (.cons (.var 0) (.cons (.lit 1000000) .nil))))) (.cons (.app 104 (.cons (.bin .sub .i64 (.var 10) (.var 1)) (.cons (.var 0) (.cons (.lit 1000000) .nil)))) .nil))))); rw [hxn])) (dvs_c (dv_c (by show binI .sub .i64 _ (den ρ x) = binI .sub .i64 _ (den ρ (.app 106 (.cons (.var 3) (.cons (.bin .sub .i64 (.lit 0) (.app 104 (.cons (.bin .sub .i64 (.var 10) (.var 1)) (.cons (.var 0) (.cons (.lit 1000000) .nil))))) (.cons (.app 104 (.cons (.bin .sub .i64 (.var 10) (.var 1)) (.cons (.var 0) (.cons (.lit 1000000) .nil)))) .nil))))); rw [hxn])) (dvs_c (dv_c (by show binI .add .i64 _ (den ρ x) = binI .add .i64 _ (den ρ (.app 106 (.cons (.var 3) (.cons (.bin .sub .i64 (.lit 0) (.app 104 (.cons (.bin .sub .i64 (.var 10) (.var 1)) (.cons (.var 0) (.cons (.lit 1000000) .nil))))) (.cons (.app 104 (.cons (.bin .sub .i64 (.var 10) (.var 1)) (.cons (.var 0) (.cons (.lit 1000000) .nil)))) .nil))))); rw [hxn])) (fun _ => rfl))))
  have hN0 : den ρ (.bin .add .i64 (.bin .mul .i64 (.bin .quo .i64 (.bin .sub .i64 (.var 10) (.var 1)) (.lit 1000000)) (.var 0)) (.bin .quo .i64 (.bin .mul .i64 (.bin .rem .i64 (.bin .sub .i64 (.var 10) (.var 1)) (.lit 1000000)) (.var 0)) (.lit 1000000))) = R := by
    show binI .add .i64 (binI .mul .i64 (binI .quo .i64 (binI .sub .i64 (ρ.v 10) (ρ.v 1)) 1000000) (ρ.v 0)) (binI .quo .i64 (binI .mul .i64 (binI .rem .i64 (binI .sub .i64 (ρ.v 10) (ρ.v 1)) 1000000) (ρ.v 0)) 1000000) = R
    rw [ed, n1]
  have hA : den ρ (.app 111 (.cons (.var 3) .nil)) = if ρ.v 3 < 0 then -ρ.v 3 else ρ.v 3 := by show ρ.f 111 [ρ.v 3] = _; rw [e111, hab]
  refine ite_ex2 (fun h3 => ?_) (fun h3 => ?_)
  · refine ite_ex2 (fun h4 => ?_) (fun h4 => ?_)
    · exact ⟨_, _, rfl, fin (.bin .sub .i64 (.lit 0) (.app 111 (.cons (.var 3) .nil))) (by show binI .sub .i64 0 (den ρ (.app 111 (.cons (.var 3) .nil))) = _; rw [hA, if_pos h4, sub_i64 (by omega) (by omega)]; rw [if_pos h4] at h3; unfold B.clp; rw [if_neg (by omega), if_neg (by omega)]; omega), MEq.refl _ _⟩
    · exact ⟨_, _, rfl, fin (.app 111 (.cons (.var 3) .nil)) (by rw [hA, if_neg h4]; rw [if_neg h4] at h3; unfold B.clp; rw [if_neg (by omega), if_neg (by omega)]), MEq.refl _ _⟩
  · refine ite_ex2 (fun h4 => ?_) (fun h4 => ?_)
    · exact ⟨_, _, rfl, fin (.bin .sub .i64 (.lit 0) (.bin .add .i64 (.bin .mul .i64 (.bin .quo .i64 (.bin .sub .i64 (.var 10) (.var 1)) (.lit 1000000)) (.var 0)) (.bin .quo .i64 (.bin .mul .i64 (.bin .rem .i64 (.bin .sub .i64 (.var 10) (.var 1)) (.lit 1000000)) (.var 0)) (.lit 1000000)))) (by show binI .sub .i64 0 (den ρ (.bin .add .i64 (.bin .mul .i64 (.bin .quo .i64 (.bin .sub .i64 (.var 10) (.var 1)) (.lit 1000000)) (.var 0)) (.bin .quo .i64 (.bin .mul .i64 (.bin .rem .i64 (.bin .sub .i64 (.var 10) (.var 1)) (.lit 1000000)) (.var 0)) (.lit 1000000)))) = _; rw [hN0, e0]; rw [if_pos h4] at h3; unfold B.clp; split <;> (try split) <;> omega), MEq.refl _ _⟩
    · exact ⟨_, _, rfl, fin (.bin .add .i64 (.bin .mul .i64 (.bin .quo .i64 (.bin .sub .i64 (.var 10) (.var 1)) (.lit 1000000)) (.var 0)) (.bin .quo .i64 (.bin .mul .i64 (.bin .rem .i64 (.bin .sub .i64 (.var 10) (.var 1)) (.lit 1000000)) (.var 0)) (.lit 1000000))) (by rw [hN0]; rw [if_neg h4] at h3; unfold B.clp; split <;> (try split) <;> omega), MEq.refl _ _⟩)
end Go.Proofs.Ytplkegifilheeaa.RAt
