/- What a call of (*chronobate.chronobateref18.Ghost).Step comes to, in letters. No conditions. -/
import Derived.Test.YtmniekljfhecaaaSX3
import Derived.Test.YtmniekljfhecaaaProg
import Derived.KernelRfl
import Derived.Test.YtmniekljfhecaaaB
namespace Go.Proofs.Ytmniekljfhecaaa.RStep
open Go Go.SX Go.Proofs.Ytmniekljfhecaaa Go.Proofs.Ytmniekljfhecaaa.L Go.Proofs.Ytmniekljfhecaaa.B Go.RowKit Go.Proofs.YtmniekljfhecaaaW.PrintWords
set_option maxRecDepth 100000
set_option linter.unusedVariables false
set_option linter.unusedSimpArgs false
def args : List AV := [.ptr 0 0, .int .i64 (.var 10), .int .i64 (.var 11)]
def mem : List AObj := [.cells [.int .i64 (.var 0), .int .i64 (.var 1), .int .i64 (.var 2), .int .i64 (.var 3), .int .i64 (.var 4)] 42 true none]
def pc : List (SE × Bool) := []
def cfg : Cfg := { ok := [3, 4, 5, 6, 7, 8, 9, 10, 11, 12, 13, 14, 15, 16, 17, 18, 19, 20, 21, 22, 23, 24, 25, 26, 27, 28, 29, 30, 31, 32], sums := fun f a m => sums2 B.cus [] f a m, loops := [] }
def tree : Tree :=
(.ite (.cmp .lss (.var 10) (.lit 0))
 (.leaf (.int .i64 (.lit 3)) [(.cells [(.int .i64 (.var 0)), (.int .i64 (.var 1)), (.int .i64 (.var 2)), (.int .i64 (.var 3)), (.int .i64 (.var 4))] 42 true none)])
 (.ite (.cmp .lss (.var 11) (.lit 0))
 (.leaf (.int .i64 (.lit 3)) [(.cells [(.int .i64 (.var 0)), (.int .i64 (.var 1)), (.int .i64 (.var 2)), (.int .i64 (.var 3)), (.int .i64 (.var 4))] 42 true none)])
 (.ite (.cmp .lss (.lit 1125899906842624) (.var 10))
 (.leaf (.int .i64 (.lit 3)) [(.cells [(.int .i64 (.var 0)), (.int .i64 (.var 1)), (.int .i64 (.var 2)), (.int .i64 (.var 3)), (.int .i64 (.var 4))] 42 true none)])
 (.ite (.cmp .lss (.lit 1125899906842624) (.var 11))
 (.leaf (.int .i64 (.lit 3)) [(.cells [(.int .i64 (.var 0)), (.int .i64 (.var 1)), (.int .i64 (.var 2)), (.int .i64 (.var 3)), (.int .i64 (.var 4))] 42 true none)])
 (.ite (.not (.app 110 (.cons (.var 2) (.cons (.var 10) (.cons (.var 11) .nil)))))
 (.leaf (.int .i64 (.lit 9)) [(.cells [(.int .i64 (.var 0)), (.int .i64 (.var 1)), (.int .i64 (.var 2)), (.int .i64 (.var 3)), (.int .i64 (.var 4))] 42 true none)])
 (.ite (.cmp .lss (.lit 2305843009213693952) (.app 121 (.cons (.var 0) (.cons (.var 10) .nil))))
 (.leaf (.int .i64 (.lit 11)) [(.cells [(.int .i64 (.var 0)), (.int .i64 (.var 1)), (.int .i64 (.var 2)), (.int .i64 (.var 3)), (.int .i64 (.var 4))] 42 true none)])
 (.ite (.cmp .lss (.lit 2305843009213693952) (.app 121 (.cons (.var 1) (.cons (.var 11) .nil))))
 (.leaf (.int .i64 (.lit 11)) [(.cells [(.int .i64 (.var 0)), (.int .i64 (.var 1)), (.int .i64 (.var 2)), (.int .i64 (.var 3)), (.int .i64 (.var 4))] 42 true none)])
 (.leaf (.int .i64 (.lit 0)) [(.cells [(.int .i64 (.app 121 (.cons (.var 0) (.cons (.var 10) .nil)))), (.int .i64 (.app 121 (.cons (.var 1) (.cons (.var 11) .nil)))), (.int .i64 (.var 2)), (.int .i64 (.bin .add .i64 (.var 3) (.lit 1))), (.int .i64 (.bin .add .i64 (.var 4) (.bin .sub .i64 (.var 11) (.var 10))))] 42 true none)]))))))))
def raw : Pat := ⟨args, mem, needs pc tree.toOut⟩
set_option maxHeartbeats 40000000 in
theorem tree_eq : callS Try.prog cfg 100000 19 args mem pc = tree := by kernel_rfl
theorem cfg_ok (G : Nat → List Int → Int) (hG : ∀ j, 100 ≤ j → j < 200 → G j = B.F j) : CfgOk Try.prog cfg G (fun _ _ => True) :=
  ⟨by kernel_rfl, okB_spec (by kernel_rfl), fun f a m out h S w0 bs ρ w vs v mem' _ hρ hvs hm hp => sums2_sound B.cus_ok (l := []) (fun p hp => by cases hp) h (fun j hj hj2 => by rw [hρ]; exact hG j hj hj2) hvs hm hp⟩
theorem raw_ok : SumOk Try.prog B.F 19 raw := sum_run cfg_ok tree_eq rfl
theorem ite_ex2 {α β : Type} {c : Prop} [Decidable c] {A B : Option (α × β)} {Q : α → β → Prop} (h1 : c → ∃ v m, A = some (v, m) ∧ Q v m) (h2 : ¬ c → ∃ v m, B = some (v, m) ∧ Q v m) : ∃ v m, (if c then A else B) = some (v, m) ∧ Q v m := by
  split
  · exact h1 ‹_›
  · exact h2 ‹_›
def pat : Pat := ⟨args, mem, (.need (.cmp .leq (.lit (-2305843009213693952)) (.var 0)) (.need (.cmp .leq (.var 0) (.lit 2305843009213693952)) (.need (.cmp .leq (.lit (-2305843009213693952)) (.var 1)) (.need (.cmp .leq (.var 1) (.lit 2305843009213693952)) (.done (.int .i64 (.app 150 (.cons (.var 0) (.cons (.var 1) (.cons (.var 2) (.cons (.var 10) (.cons (.var 11) .nil))))))) [.cells [.int .i64 (.app 151 (.cons (.var 0) (.cons (.var 1) (.cons (.var 2) (.cons (.var 10) (.cons (.var 11) .nil)))))), .int .i64 (.app 152 (.cons (.var 0) (.cons (.var 1) (.cons (.var 2) (.cons (.var 10) (.cons (.var 11) .nil)))))), .int .i64 (.var 2), .int .i64 (.app 153 (.cons (.var 0) (.cons (.var 1) (.cons (.var 2) (.cons (.var 10) (.cons (.var 11) (.cons (.var 3) .nil))))))), .int .i64 (.app 154 (.cons (.var 0) (.cons (.var 1) (.cons (.var 2) (.cons (.var 10) (.cons (.var 11) (.cons (.var 4) .nil)))))))] 42 true none])))))⟩
theorem ok : SumOk Try.prog B.F 19 pat := sum_refine raw_ok (by
  intro ρ bs w vs v m hF hvs hm hp
  have hv : dvl bs ρ args = some vs := hvs
  unfold args at hv
  have i10 := i64_in (dvl_in hv (i := 1) (k := .i64) (e := .var 10) rfl)
  have i11 := i64_in (dvl_in hv (i := 2) (k := .i64) (e := .var 11) rfl)
  simp only [den] at i10 i11
  simp only [Out.pick, ev_leq, den] at hp
  split at hp
  rotate_left
  · cases hp
  rename_i q0
  split at hp
  rotate_left
  · cases hp
  rename_i q1
  split at hp
  rotate_left
  · cases hp
  rename_i q2
  split at hp
  rotate_left
  · cases hp
  rename_i q3
  cases hp
  have f : ∀ l, (ρ.f 150 l = B.F 150 l ∧ ρ.f 151 l = B.F 151 l ∧ ρ.f 152 l = B.F 152 l ∧ ρ.f 153 l = B.F 153 l ∧ ρ.f 154 l = B.F 154 l) := fun l => by
    rw [hF 150 (by omega) (by omega), hF 151 (by omega) (by omega), hF 152 (by omega) (by omega), hF 153 (by omega) (by omega), hF 154 (by omega) (by omega)]; exact ⟨rfl, rfl, rfl, rfl, rfl⟩
  have e110 : ∀ a b c, ρ.f 110 [a, b, c] = if Fine a b c then 1 else 0 := fun a b c => by rw [hF 110 (by omega) (by omega)]; rfl
  have e121 : ∀ a b, ρ.f 121 [a, b] = clamp (a + b) := fun a b => by rw [hF 121 (by omega) (by omega)]; rfl
  have e150 : ∀ a b c d e, ρ.f 150 [a, b, c, d, e] = cd a b c d e := fun a b c d e => (f _).1
  have e151 : ∀ a b c d e, ρ.f 151 [a, b, c, d, e] = if cd a b c d e = 0 then a + d else a := fun a b c d e => (f _).2.1
  have e152 : ∀ a b c d e, ρ.f 152 [a, b, c, d, e] = if cd a b c d e = 0 then b + e else b := fun a b c d e => (f _).2.2.1
  have e153 : ∀ a b c d e n, ρ.f 153 [a, b, c, d, e, n] = if cd a b c d e = 0 then IntKind.i64.wrap (n + 1) else n := fun a b c d e n => (f _).2.2.2.1
  have e154 : ∀ a b c d e n, ρ.f 154 [a, b, c, d, e, n] = if cd a b c d e = 0 then IntKind.i64.wrap (n + IntKind.i64.wrap (e - d)) else n := fun a b c d e n => (f _).2.2.2.2
  clear f
  simp only [raw, pc, needs, tree, Tree.toOut, Out.pick, ev_lss, ev_not, ev_app', den, dens, mn_lt, lt_mx, e110, e121]
  generalize hc : cd (ρ.v 0) (ρ.v 1) (ρ.v 2) (ρ.v 10) (ρ.v 11) = c at *
  have bad : c ≠ 0 → (∀ bs, dv bs ρ (.int .i64 (.lit c)) = dv bs ρ (.int .i64 (.app 150 (.cons (.var 0) (.cons (.var 1) (.cons (.var 2) (.cons (.var 10) (.cons (.var 11) .nil)))))))) ∧ MEq ρ [.cells [.int .i64 (.var 0), .int .i64 (.var 1), .int .i64 (.var 2), .int .i64 (.var 3), .int .i64 (.var 4)] 42 true none] [.cells [.int .i64 (.app 151 (.cons (.var 0) (.cons (.var 1) (.cons (.var 2) (.cons (.var 10) (.cons (.var 11) .nil)))))), .int .i64 (.app 152 (.cons (.var 0) (.cons (.var 1) (.cons (.var 2) (.cons (.var 10) (.cons (.var 11) .nil)))))), .int .i64 (.var 2), .int .i64 (.app 153 (.cons (.var 0) (.cons (.var 1) (.cons (.var 2) (.cons (.var 10) (.cons (.var 11) (.cons (.var 3) .nil))))))), .int .i64 (.app 154 (.cons (.var 0) (.cons (.var 1) (.cons (.var 2) (.cons (.var 10) (.cons (.var 11) (.cons (.var 4) .nil)))))))] 42 true none] := fun h => by
    refine ⟨dv_c (by simp only [den, dens, e150, hc]), meq_one (dvl_c (dv_c (by simp only [den, dens, e151, e152, e153, e154, hc, if_neg h])) (dvl_c (dv_c (by simp only [den, dens, e151, e152, e153, e154, hc, if_neg h])) (dvl_c (fun _ => rfl) (dvl_c (dv_c (by simp only [den, dens, e151, e152, e153, e154, hc, if_neg h])) (dvl_c (dv_c (by simp only [den, dens, e151, e152, e153, e154, hc, if_neg h])) dvl_e)))))⟩
  have good : c = 0 → (-9223372036854775808 ≤ ρ.v 0 + ρ.v 10 ∧ ρ.v 0 + ρ.v 10 ≤ 9223372036854775807) → (-9223372036854775808 ≤ ρ.v 1 + ρ.v 11 ∧ ρ.v 1 + ρ.v 11 ≤ 9223372036854775807) → (∀ bs, dv bs ρ (.int .i64 (.lit 0)) = dv bs ρ (.int .i64 (.app 150 (.cons (.var 0) (.cons (.var 1) (.cons (.var 2) (.cons (.var 10) (.cons (.var 11) .nil)))))))) ∧ MEq ρ [.cells [.int .i64 (.app 121 (.cons (.var 0) (.cons (.var 10) .nil))), .int .i64 (.app 121 (.cons (.var 1) (.cons (.var 11) .nil))), .int .i64 (.var 2), .int .i64 (.bin .add .i64 (.var 3) (.lit 1)), .int .i64 (.bin .add .i64 (.var 4) (.bin .sub .i64 (.var 11) (.var 10)))] 42 true none] [.cells [.int .i64 (.app 151 (.cons (.var 0) (.cons (.var 1) (.cons (.var 2) (.cons (.var 10) (.cons (.var 11) .nil)))))), .int .i64 (.app 152 (.cons (.var 0) (.cons (.var 1) (.cons (.var 2) (.cons (.var 10) (.cons (.var 11) .nil)))))), .int .i64 (.var 2), .int .i64 (.app 153 (.cons (.var 0) (.cons (.var 1) (.cons (.var 2) (.cons (.var 10) (.cons (.var 11) (.cons (.var 3) .nil))))))), .int .i64 (.app 154 (.cons (.var 0) (.cons (.var 1) (.cons (.var 2) (.cons (.var 10) (.cons (.var 11) (.cons (.var 4) .nil)))))))] 42 true none] := fun h r0 r1 => by
    have k0 : binI .add .i64 (ρ.v 0) (ρ.v 10) = ρ.v 0 + ρ.v 10 := add_i64 (by omega) (by omega)
    have k1 : binI .add .i64 (ρ.v 1) (ρ.v 11) = ρ.v 1 + ρ.v 11 := add_i64 (by omega) (by omega)
    have k2 : clamp (ρ.v 0 + ρ.v 10) = ρ.v 0 + ρ.v 10 := clamp_id r0
    have k3 : clamp (ρ.v 1 + ρ.v 11) = ρ.v 1 + ρ.v 11 := clamp_id r1
    refine ⟨dv_c (by simp only [den, dens, e150, hc, h]), meq_one (dvl_c (dv_c (by simp only [den, dens, e121, k0, k1, k2, k3, e151, e152, e153, e154, hc, h, if_true]; try rfl)) (dvl_c (dv_c (by simp only [den, dens, e121, k0, k1, k2, k3, e151, e152, e153, e154, hc, h, if_true]; try rfl)) (dvl_c (fun _ => rfl) (dvl_c (dv_c (by simp only [den, dens, e121, k0, k1, k2, k3, e151, e152, e153, e154, hc, h, if_true]; try rfl)) (dvl_c (dv_c (by simp only [den, dens, e121, k0, k1, k2, k3, e151, e152, e153, e154, hc, h, if_true]; try rfl)) dvl_e)))))⟩
  refine ite_ex2 (fun h => ?_) (fun h => ?_)
  · have hc' : c = 3 := by rw [← hc]; unfold cd; rw [if_pos (by omega)]
    subst hc'; exact ⟨_, _, rfl, bad (by omega)⟩
  refine ite_ex2 (fun h => ?_) (fun h => ?_)
  · have hc' : c = 3 := by rw [← hc]; unfold cd; rw [if_pos (by omega)]
    subst hc'; exact ⟨_, _, rfl, bad (by omega)⟩
  refine ite_ex2 (fun h => ?_) (fun h => ?_)
  · have hc' : c = 3 := by rw [← hc]; unfold cd; rw [if_pos (by omega)]
    subst hc'; exact ⟨_, _, rfl, bad (by omega)⟩
  refine ite_ex2 (fun h => ?_) (fun h => ?_)
  · have hc' : c = 3 := by rw [← hc]; unfold cd; rw [if_pos (by omega)]
    subst hc'; exact ⟨_, _, rfl, bad (by omega)⟩
  refine ite_ex2 (fun h => ?_) (fun h => ?_)
  · have hn : ¬ Fine (ρ.v 2) (ρ.v 10) (ρ.v 11) := fun hh => by rw [if_pos hh] at h; omega
    have hc' : c = 9 := by rw [← hc]; unfold cd; rw [if_neg (by omega), if_neg hn]
    subst hc'; exact ⟨_, _, rfl, bad (by omega)⟩
  have hy : Fine (ρ.v 2) (ρ.v 10) (ρ.v 11) := by
    by_cases hh : Fine (ρ.v 2) (ρ.v 10) (ρ.v 11)
    · exact hh
    · rw [if_neg hh] at h; exact absurd rfl h
  have k0 : binI .add .i64 (ρ.v 0) (ρ.v 10) = ρ.v 0 + ρ.v 10 := add_i64 (by omega) (by omega)
  have k1 : binI .add .i64 (ρ.v 1) (ρ.v 11) = ρ.v 1 + ρ.v 11 := add_i64 (by omega) (by omega)
  have k2 : clamp (ρ.v 0 + ρ.v 10) = ρ.v 0 + ρ.v 10 := clamp_id (by unfold I64; omega)
  have k3 : clamp (ρ.v 1 + ρ.v 11) = ρ.v 1 + ρ.v 11 := clamp_id (by unfold I64; omega)
  try simp only [k0, k1]
  try simp only [k2, k3]
  refine ite_ex2 (fun h => ?_) (fun h => ?_)
  · have hc' : c = 11 := by rw [← hc]; unfold cd; rw [if_neg (by omega), if_pos hy, if_pos (by omega)]
    subst hc'; exact ⟨_, _, rfl, bad (by omega)⟩
  refine ite_ex2 (fun h => ?_) (fun h => ?_)
  · have hc' : c = 11 := by rw [← hc]; unfold cd; rw [if_neg (by omega), if_pos hy, if_pos (by omega)]
    subst hc'; exact ⟨_, _, rfl, bad (by omega)⟩
  have hc' : c = 0 := by rw [← hc]; unfold cd; rw [if_neg (by omega), if_pos hy, if_neg (by omega)]
  exact ⟨_, _, rfl, good hc' (by omega) (by omega)⟩)
end Go.Proofs.Ytmniekljfhecaaa.RStep
