/- The tree of the law SlewEnds, and that all its ends say true. No conditions. -/
import Derived.Test.YtplkegifilheeaaSX3
import Derived.Test.YtplkegifilheeaaProg
import Derived.KernelRfl
import Derived.Test.YtplkegifilheeaaSX3
import Derived.Test.YtplkegifilheeaaLSa
namespace Go.Proofs.Ytplkegifilheeaa.TSlewEnds
open Go Go.SX
set_option maxRecDepth 100000
set_option linter.unusedVariables false
set_option linter.unusedSimpArgs false
open Go.Proofs.Ytplkegifilheeaa.L Go.Proofs.Ytplkegifilheeaa.G
open Go.Proofs.YtplkegifilheeaaW.PrintWords Go.Proofs.YtplkegifilheeaaW.PrintLast Go.Proofs.YtplkegifilheeaaW.PrintMore
def cfg0 : Cfg := { ok := (List.range 36).map (· + 3), sums := fun _ _ => none, loops := [] }
theorem cfg0_ok (G : Nat → List Int → Int) : CfgOk Try.prog cfg0 G :=
  ⟨by kernel_rfl, okB_spec (by kernel_rfl), fun f args v h => by cases h⟩
set_option maxHeartbeats 40000000 in
theorem alive_eq : callT Try.prog cfg0 100000 0 12 [] [] [] = .leaf (.bool (.lit 1)) [] := by kernel_rfl
theorem alive_calls (w : World) : Calls Try.prog 12 #[] w fun e w' => e = .returned (.bool true) ∧ RowKit.Below w.heap.size w w' :=
  law_run (I := fun _ _ => True) (ρ := ⟨fun _ => 0, fun _ _ => 0⟩) (cfg0_ok fun _ _ => 0) (by rw [alive_eq]; exact says1) rfl (fun _ h => by cases h) rfl (RelM.nil w _)
def clp (a lo hi : Int) : Int := if a < lo then lo else if a > hi then hi else a
def sums : FuncId → List AV → Option AV
  | 17, [.int .i64 a, .int .i64 b, .int .i64 c] => some (.tuple (ofList [.int .i64 (.app 104 (.cons a (.cons b (.cons c .nil)))), .int .i64 (.app 105 (.cons a (.cons b (.cons c .nil))))]))
  | 24, [.int .i64 a, .int .i64 b, .int .i64 c] => some (.int .i64 (.app 106 (.cons a (.cons b (.cons c .nil)))))
  | 12, [] => some (.bool (.lit 1))
  | _, _ => none
def cfg : Cfg := { ok := (List.range 36).map (· + 3), sums := sums, loops := [] }
def F : Nat → List Int → Int := fun j l =>
  match l with
  | [a, b, c] => if j = 104 then (if b < 0 ∨ c < 1 then 0 else md a b c) else if j = 105 then (if b < 0 ∨ c < 1 then 2 else 0) else if j = 106 then clp a b c else 0
  | _ => 0
theorem cfg_ok (G : Nat → List Int → Int) (hG : ∀ j, 100 ≤ j → G j = F j) : CfgOk Try.prog cfg G := by
  refine ⟨by kernel_rfl, okB_spec (by kernel_rfl), fun f args v h bs ρ w vs hρ hv => ?_⟩
  have h' : sums f args = some v := h
  unfold sums at h'
  split at h'
  · rename_i a b c
    cases h'
    obtain ⟨i0, us, rfl, hv1⟩ := dvl_int hv
    obtain ⟨i1, us, rfl, hv2⟩ := dvl_int hv1
    obtain ⟨i2, us, rfl, hv3⟩ := dvl_int hv2
    obtain rfl := dvl_end hv3
    have e4 : ρ.f 104 [den ρ a, den ρ b, den ρ c] = if den ρ b < 0 ∨ den ρ c < 1 then 0 else md (den ρ a) (den ρ b) (den ρ c) := by rw [hρ, hG 104 (by omega)]; rfl
    have e5 : ρ.f 105 [den ρ a, den ρ b, den ρ c] = if den ρ b < 0 ∨ den ρ c < 1 then 2 else 0 := by rw [hρ, hG 105 (by omega)]; rfl
    have hr := md_range (den ρ a) (den ρ b) (den ρ c)
    unfold I64 at hr
    refine ⟨_, dv_pair (by simp only [den, dens]; rw [e4]; exact in_i64 (by split <;> omega)) (by simp only [den, dens]; rw [e5]; exact in_i64 (by split <;> omega)), ?_⟩
    simp only [den, dens, e4, e5]
    by_cases hb : den ρ b < 0 ∨ den ρ c < 1
    · simp only [if_pos hb]
      exact sat_MulDiv.calls 30 _ _ _ _ _ w (sat_MulDiv_bad 30 (by omega) hb)
    · simp only [if_neg hb]
      exact sat_MulDiv.calls 30 _ _ _ _ _ w (sat_MulDiv_eq 30 (by omega) (i64_in i0) (i64_in i1) (i64_in i2) (by omega) (by omega))
  · rename_i a b c
    cases h'
    obtain ⟨i0, us, rfl, hv1⟩ := dvl_int hv
    obtain ⟨i1, us, rfl, hv2⟩ := dvl_int hv1
    obtain ⟨i2, us, rfl, hv3⟩ := dvl_int hv2
    obtain rfl := dvl_end hv3
    have e6 : ρ.f 106 [den ρ a, den ρ b, den ρ c] = clp (den ρ a) (den ρ b) (den ρ c) := by rw [hρ, hG 106 (by omega)]; rfl
    have j0 := i64_in i0
    have j1 := i64_in i1
    have j2 := i64_in i2
    refine ⟨_, dv_int_mk (by simp only [den, dens]; rw [e6]; exact in_i64 (by unfold clp; split <;> (try split) <;> omega)), ?_⟩
    simp only [den, dens, e6]
    exact (sat_Clamp.calls _ _ _ _ w (sat_Clamp_eq _ _ _)).mono fun e w' h => ⟨h.1, h.2.below⟩
  · cases h'
    obtain rfl := dvl_end hv
    exact ⟨.bool true, rfl, alive_calls w⟩
  · cases h'
def R : SE := .bin .add .i64 (.lit 1) (.conv .i64 (.bin .rem .u16 (.var 0) (.lit 500)))
def E : SE := .bin .quo .i64 (.bin .sub .i64 (.bin .add .i64 (.bin .mul .i64 (.mx (.conv .i64 (.var 1)) (.bin .sub .i64 (.lit 0) (.conv .i64 (.var 1)))) (.lit 1000000)) R) (.lit 1)) R
def pc : List (SE × Bool) := [(.cmp .lss R (.lit 1), false), (.cmp .lss (.lit 500) R, false), (.cmp .lss (.lit 4611686018427387903) E, false), (.cmp .lss E (.lit 0), false),
  (.cmp .lss (.lit 4611686018427387903) (.bin .add .i64 E (.conv .i64 (.var 2))), false), (.cmp .lss (.bin .add .i64 E (.conv .i64 (.var 2))) (.lit 0), false), (.cmp .neq R (.lit 0), true)]
def args : List AV := [.int .u16 (.var 0), .int .i32 (.var 1), .int .u16 (.var 2)]
def mem : List AObj := []
def tree : Tree :=
(.ite (.cmp .neq (.bin .sub .i64 (.app 106 (.cons (.conv .i64 (.var 1)) (.cons (.lit (-2305843009213693952)) (.cons (.lit 2305843009213693952) .nil)))) (.app 106 (.cons (.app 106 (.cons (.conv .i64 (.var 1)) (.cons (.lit (-2305843009213693952)) (.cons (.lit 2305843009213693952) .nil)))) (.cons (.bin .sub .i64 (.lit 0) (.app 104 (.cons (.bin .sub .i64 (.bin .quo .i64 (.bin .sub .i64 (.bin .add .i64 (.bin .mul .i64 (.mx (.conv .i64 (.var 1)) (.bin .sub .i64 (.lit 0) (.conv .i64 (.var 1)))) (.lit 1000000)) (.bin .add .i64 (.lit 1) (.conv .i64 (.bin .rem .u16 (.var 0) (.lit 500))))) (.lit 1)) (.bin .add .i64 (.lit 1) (.conv .i64 (.bin .rem .u16 (.var 0) (.lit 500))))) (.lit 0)) (.cons (.bin .add .i64 (.lit 1) (.conv .i64 (.bin .rem .u16 (.var 0) (.lit 500)))) (.cons (.lit 1000000) .nil))))) (.cons (.app 104 (.cons (.bin .sub .i64 (.bin .quo .i64 (.bin .sub .i64 (.bin .add .i64 (.bin .mul .i64 (.mx (.conv .i64 (.var 1)) (.bin .sub .i64 (.lit 0) (.conv .i64 (.var 1)))) (.lit 1000000)) (.bin .add .i64 (.lit 1) (.conv .i64 (.bin .rem .u16 (.var 0) (.lit 500))))) (.lit 1)) (.bin .add .i64 (.lit 1) (.conv .i64 (.bin .rem .u16 (.var 0) (.lit 500))))) (.lit 0)) (.cons (.bin .add .i64 (.lit 1) (.conv .i64 (.bin .rem .u16 (.var 0) (.lit 500)))) (.cons (.lit 1000000) .nil)))) .nil))))) (.lit 0))
 (.leaf (.bool (.lit 0)) [])
 (.ite (.cmp .neq (.bin .add .i64 (.bin .add .i64 (.bin .add .i64 (.lit 0) (.app 106 (.cons (.lit 0) (.cons (.bin .sub .i64 (.lit 0) (.app 104 (.cons (.lit 0) (.cons (.bin .add .i64 (.lit 1) (.conv .i64 (.bin .rem .u16 (.var 0) (.lit 500)))) (.cons (.lit 1000000) .nil))))) (.cons (.app 104 (.cons (.lit 0) (.cons (.bin .add .i64 (.lit 1) (.conv .i64 (.bin .rem .u16 (.var 0) (.lit 500)))) (.cons (.lit 1000000) .nil)))) .nil))))) (.bin .sub .i64 (.bin .quo .i64 (.bin .sub .i64 (.bin .add .i64 (.bin .mul .i64 (.mx (.conv .i64 (.var 1)) (.bin .sub .i64 (.lit 0) (.conv .i64 (.var 1)))) (.lit 1000000)) (.bin .add .i64 (.lit 1) (.conv .i64 (.bin .rem .u16 (.var 0) (.lit 500))))) (.lit 1)) (.bin .add .i64 (.lit 1) (.conv .i64 (.bin .rem .u16 (.var 0) (.lit 500))))) (.lit 0))) (.app 106 (.cons (.app 106 (.cons (.conv .i64 (.var 1)) (.cons (.lit (-2305843009213693952)) (.cons (.lit 2305843009213693952) .nil)))) (.cons (.bin .sub .i64 (.lit 0) (.app 104 (.cons (.bin .sub .i64 (.bin .quo .i64 (.bin .sub .i64 (.bin .add .i64 (.bin .mul .i64 (.mx (.conv .i64 (.var 1)) (.bin .sub .i64 (.lit 0) (.conv .i64 (.var 1)))) (.lit 1000000)) (.bin .add .i64 (.lit 1) (.conv .i64 (.bin .rem .u16 (.var 0) (.lit 500))))) (.lit 1)) (.bin .add .i64 (.lit 1) (.conv .i64 (.bin .rem .u16 (.var 0) (.lit 500))))) (.lit 0)) (.cons (.bin .add .i64 (.lit 1) (.conv .i64 (.bin .rem .u16 (.var 0) (.lit 500)))) (.cons (.lit 1000000) .nil))))) (.cons (.app 104 (.cons (.bin .sub .i64 (.bin .quo .i64 (.bin .sub .i64 (.bin .add .i64 (.bin .mul .i64 (.mx (.conv .i64 (.var 1)) (.bin .sub .i64 (.lit 0) (.conv .i64 (.var 1)))) (.lit 1000000)) (.bin .add .i64 (.lit 1) (.conv .i64 (.bin .rem .u16 (.var 0) (.lit 500))))) (.lit 1)) (.bin .add .i64 (.lit 1) (.conv .i64 (.bin .rem .u16 (.var 0) (.lit 500))))) (.lit 0)) (.cons (.bin .add .i64 (.lit 1) (.conv .i64 (.bin .rem .u16 (.var 0) (.lit 500)))) (.cons (.lit 1000000) .nil)))) .nil))))) (.bin .add .i64 (.bin .quo .i64 (.bin .sub .i64 (.bin .add .i64 (.bin .mul .i64 (.mx (.conv .i64 (.var 1)) (.bin .sub .i64 (.lit 0) (.conv .i64 (.var 1)))) (.lit 1000000)) (.bin .add .i64 (.lit 1) (.conv .i64 (.bin .rem .u16 (.var 0) (.lit 500))))) (.lit 1)) (.bin .add .i64 (.lit 1) (.conv .i64 (.bin .rem .u16 (.var 0) (.lit 500))))) (.conv .i64 (.var 1))))
 (.leaf (.bool (.lit 0)) [])
 (.ite (.cmp .neq (.bin .add .i64 (.bin .add .i64 (.bin .add .i64 (.lit 0) (.app 106 (.cons (.lit 0) (.cons (.bin .sub .i64 (.lit 0) (.app 104 (.cons (.lit 0) (.cons (.bin .add .i64 (.lit 1) (.conv .i64 (.bin .rem .u16 (.var 0) (.lit 500)))) (.cons (.lit 1000000) .nil))))) (.cons (.app 104 (.cons (.lit 0) (.cons (.bin .add .i64 (.lit 1) (.conv .i64 (.bin .rem .u16 (.var 0) (.lit 500)))) (.cons (.lit 1000000) .nil)))) .nil))))) (.bin .sub .i64 (.bin .add .i64 (.bin .quo .i64 (.bin .sub .i64 (.bin .add .i64 (.bin .mul .i64 (.mx (.conv .i64 (.var 1)) (.bin .sub .i64 (.lit 0) (.conv .i64 (.var 1)))) (.lit 1000000)) (.bin .add .i64 (.lit 1) (.conv .i64 (.bin .rem .u16 (.var 0) (.lit 500))))) (.lit 1)) (.bin .add .i64 (.lit 1) (.conv .i64 (.bin .rem .u16 (.var 0) (.lit 500))))) (.conv .i64 (.var 2))) (.lit 0))) (.app 106 (.cons (.app 106 (.cons (.conv .i64 (.var 1)) (.cons (.lit (-2305843009213693952)) (.cons (.lit 2305843009213693952) .nil)))) (.cons (.bin .sub .i64 (.lit 0) (.app 104 (.cons (.bin .sub .i64 (.bin .add .i64 (.bin .quo .i64 (.bin .sub .i64 (.bin .add .i64 (.bin .mul .i64 (.mx (.conv .i64 (.var 1)) (.bin .sub .i64 (.lit 0) (.conv .i64 (.var 1)))) (.lit 1000000)) (.bin .add .i64 (.lit 1) (.conv .i64 (.bin .rem .u16 (.var 0) (.lit 500))))) (.lit 1)) (.bin .add .i64 (.lit 1) (.conv .i64 (.bin .rem .u16 (.var 0) (.lit 500))))) (.conv .i64 (.var 2))) (.lit 0)) (.cons (.bin .add .i64 (.lit 1) (.conv .i64 (.bin .rem .u16 (.var 0) (.lit 500)))) (.cons (.lit 1000000) .nil))))) (.cons (.app 104 (.cons (.bin .sub .i64 (.bin .add .i64 (.bin .quo .i64 (.bin .sub .i64 (.bin .add .i64 (.bin .mul .i64 (.mx (.conv .i64 (.var 1)) (.bin .sub .i64 (.lit 0) (.conv .i64 (.var 1)))) (.lit 1000000)) (.bin .add .i64 (.lit 1) (.conv .i64 (.bin .rem .u16 (.var 0) (.lit 500))))) (.lit 1)) (.bin .add .i64 (.lit 1) (.conv .i64 (.bin .rem .u16 (.var 0) (.lit 500))))) (.conv .i64 (.var 2))) (.lit 0)) (.cons (.bin .add .i64 (.lit 1) (.conv .i64 (.bin .rem .u16 (.var 0) (.lit 500)))) (.cons (.lit 1000000) .nil)))) .nil))))) (.bin .add .i64 (.bin .add .i64 (.bin .add .i64 (.bin .add .i64 (.lit 0) (.app 106 (.cons (.lit 0) (.cons (.bin .sub .i64 (.lit 0) (.app 104 (.cons (.lit 0) (.cons (.bin .add .i64 (.lit 1) (.conv .i64 (.bin .rem .u16 (.var 0) (.lit 500)))) (.cons (.lit 1000000) .nil))))) (.cons (.app 104 (.cons (.lit 0) (.cons (.bin .add .i64 (.lit 1) (.conv .i64 (.bin .rem .u16 (.var 0) (.lit 500)))) (.cons (.lit 1000000) .nil)))) .nil))))) (.bin .sub .i64 (.bin .quo .i64 (.bin .sub .i64 (.bin .add .i64 (.bin .mul .i64 (.mx (.conv .i64 (.var 1)) (.bin .sub .i64 (.lit 0) (.conv .i64 (.var 1)))) (.lit 1000000)) (.bin .add .i64 (.lit 1) (.conv .i64 (.bin .rem .u16 (.var 0) (.lit 500))))) (.lit 1)) (.bin .add .i64 (.lit 1) (.conv .i64 (.bin .rem .u16 (.var 0) (.lit 500))))) (.lit 0))) (.app 106 (.cons (.app 106 (.cons (.conv .i64 (.var 1)) (.cons (.lit (-2305843009213693952)) (.cons (.lit 2305843009213693952) .nil)))) (.cons (.bin .sub .i64 (.lit 0) (.app 104 (.cons (.bin .sub .i64 (.bin .quo .i64 (.bin .sub .i64 (.bin .add .i64 (.bin .mul .i64 (.mx (.conv .i64 (.var 1)) (.bin .sub .i64 (.lit 0) (.conv .i64 (.var 1)))) (.lit 1000000)) (.bin .add .i64 (.lit 1) (.conv .i64 (.bin .rem .u16 (.var 0) (.lit 500))))) (.lit 1)) (.bin .add .i64 (.lit 1) (.conv .i64 (.bin .rem .u16 (.var 0) (.lit 500))))) (.lit 0)) (.cons (.bin .add .i64 (.lit 1) (.conv .i64 (.bin .rem .u16 (.var 0) (.lit 500)))) (.cons (.lit 1000000) .nil))))) (.cons (.app 104 (.cons (.bin .sub .i64 (.bin .quo .i64 (.bin .sub .i64 (.bin .add .i64 (.bin .mul .i64 (.mx (.conv .i64 (.var 1)) (.bin .sub .i64 (.lit 0) (.conv .i64 (.var 1)))) (.lit 1000000)) (.bin .add .i64 (.lit 1) (.conv .i64 (.bin .rem .u16 (.var 0) (.lit 500))))) (.lit 1)) (.bin .add .i64 (.lit 1) (.conv .i64 (.bin .rem .u16 (.var 0) (.lit 500))))) (.lit 0)) (.cons (.bin .add .i64 (.lit 1) (.conv .i64 (.bin .rem .u16 (.var 0) (.lit 500)))) (.cons (.lit 1000000) .nil)))) .nil))))) (.conv .i64 (.var 2))))
 (.leaf (.bool (.lit 0)) [])
 (.ite (.cmp .eql (.bin .quo .i64 (.bin .sub .i64 (.bin .add .i64 (.bin .mul .i64 (.mx (.conv .i64 (.var 1)) (.bin .sub .i64 (.lit 0) (.conv .i64 (.var 1)))) (.lit 1000000)) (.bin .add .i64 (.lit 1) (.conv .i64 (.bin .rem .u16 (.var 0) (.lit 500))))) (.lit 1)) (.bin .add .i64 (.lit 1) (.conv .i64 (.bin .rem .u16 (.var 0) (.lit 500))))) (.lit 0))
 (.leaf (.bool (.lit 1)) [])
 (.ite (.cmp .lss (.lit 4611686018427387903) (.bin .sub .i64 (.bin .quo .i64 (.bin .sub .i64 (.bin .add .i64 (.bin .mul .i64 (.mx (.conv .i64 (.var 1)) (.bin .sub .i64 (.lit 0) (.conv .i64 (.var 1)))) (.lit 1000000)) (.bin .add .i64 (.lit 1) (.conv .i64 (.bin .rem .u16 (.var 0) (.lit 500))))) (.lit 1)) (.bin .add .i64 (.lit 1) (.conv .i64 (.bin .rem .u16 (.var 0) (.lit 500))))) (.lit 1)))
 (.leaf (.bool (.lit 0)) [])
 (.ite (.cmp .lss (.bin .sub .i64 (.bin .quo .i64 (.bin .sub .i64 (.bin .add .i64 (.bin .mul .i64 (.mx (.conv .i64 (.var 1)) (.bin .sub .i64 (.lit 0) (.conv .i64 (.var 1)))) (.lit 1000000)) (.bin .add .i64 (.lit 1) (.conv .i64 (.bin .rem .u16 (.var 0) (.lit 500))))) (.lit 1)) (.bin .add .i64 (.lit 1) (.conv .i64 (.bin .rem .u16 (.var 0) (.lit 500))))) (.lit 1)) (.lit 0))
 (.leaf (.bool (.lit 0)) [])
 (.leaf (.bool (.cmp .neq (.bin .sub .i64 (.app 106 (.cons (.conv .i64 (.var 1)) (.cons (.lit (-2305843009213693952)) (.cons (.lit 2305843009213693952) .nil)))) (.app 106 (.cons (.app 106 (.cons (.conv .i64 (.var 1)) (.cons (.lit (-2305843009213693952)) (.cons (.lit 2305843009213693952) .nil)))) (.cons (.bin .sub .i64 (.lit 0) (.app 104 (.cons (.bin .sub .i64 (.bin .sub .i64 (.bin .quo .i64 (.bin .sub .i64 (.bin .add .i64 (.bin .mul .i64 (.mx (.conv .i64 (.var 1)) (.bin .sub .i64 (.lit 0) (.conv .i64 (.var 1)))) (.lit 1000000)) (.bin .add .i64 (.lit 1) (.conv .i64 (.bin .rem .u16 (.var 0) (.lit 500))))) (.lit 1)) (.bin .add .i64 (.lit 1) (.conv .i64 (.bin .rem .u16 (.var 0) (.lit 500))))) (.lit 1)) (.lit 0)) (.cons (.bin .add .i64 (.lit 1) (.conv .i64 (.bin .rem .u16 (.var 0) (.lit 500)))) (.cons (.lit 1000000) .nil))))) (.cons (.app 104 (.cons (.bin .sub .i64 (.bin .sub .i64 (.bin .quo .i64 (.bin .sub .i64 (.bin .add .i64 (.bin .mul .i64 (.mx (.conv .i64 (.var 1)) (.bin .sub .i64 (.lit 0) (.conv .i64 (.var 1)))) (.lit 1000000)) (.bin .add .i64 (.lit 1) (.conv .i64 (.bin .rem .u16 (.var 0) (.lit 500))))) (.lit 1)) (.bin .add .i64 (.lit 1) (.conv .i64 (.bin .rem .u16 (.var 0) (.lit 500))))) (.lit 1)) (.lit 0)) (.cons (.bin .add .i64 (.lit 1) (.conv .i64 (.bin .rem .u16 (.var 0) (.lit 500)))) (.cons (.lit 1000000) .nil)))) .nil))))) (.lit 0))) [])))))))
set_option maxHeartbeats 40000000 in
theorem tree_eq : callT Try.prog cfg 100000 0 3 args mem pc = tree := by kernel_rfl
theorem f104 (a b c : Int) : F 104 [a, b, c] = if b < 0 ∨ c < 1 then 0 else md a b c := Eq.trans rfl rfl
theorem f106 (a b c : Int) : F 106 [a, b, c] = clp a b c := Eq.trans rfl rfl
theorem clp_mem {a lo hi : Int} (h : lo ≤ hi) : lo ≤ clp a lo hi ∧ clp a lo hi ≤ hi := by
  unfold clp; split <;> (try split) <;> omega
theorem clp_same (a : Int) : clp a 0 0 = 0 := by
  unfold clp; split <;> (try split) <;> omega
theorem clp_id {a lo hi : Int} (h : lo ≤ a) (h' : a ≤ hi) : clp a lo hi = a := by
  unfold clp; rw [if_neg (by omega), if_neg (by omega)]
theorem md0 (r : Int) : md 0 r 1000000 = 0 := by unfold md; rw [Int.zero_mul]; decide
theorem mdv {t r : Int} (t0 : 0 ≤ t) (t1 : t ≤ 9000000000000000000) (r0 : 1 ≤ r) (r1 : r ≤ 500) : md t r 1000000 = t * r / 1000000 ∧ 0 ≤ t * r / 1000000 ∧ t * r / 1000000 ≤ t / 2000 := by
  have h0 : 0 ≤ t * r := Int.mul_nonneg t0 (by omega)
  have h1 : t * r ≤ t * 500 := Int.mul_le_mul_of_nonneg_left r1 t0
  refine ⟨?_, by omega, by omega⟩
  unfold md
  exact clamp_id (by unfold I64; omega)
theorem rate_in {x : Int} (h : inR .u16 x = true) : ∃ r, binI .add .i64 1 (IntKind.i64.wrap (binI .rem .u16 x 500)) = r ∧ 1 ≤ r ∧ r ≤ 500 := by
  have b := u16_in h
  have e : binI .rem .u16 x 500 = x % 500 := Int.tmod_eq_emod_of_nonneg b.1
  refine ⟨1 + x % 500, ?_, by omega, by omega⟩
  rw [e, wrap_i64 (by omega) (by omega), add_i64 (by omega) (by omega)]
theorem rate_ok {r : Int} (h : 1 ≤ r) : ¬ (r < 0 ∨ (1000000 : Int) < 1) := by omega
theorem s00 : binI .sub .i64 0 0 = 0 := Eq.trans rfl rfl
theorem a00 : binI .add .i64 0 0 = 0 := Eq.trans rfl rfl
theorem a0 {x : Int} (h0 : -9223372036854775808 ≤ x) (h1 : x ≤ 9223372036854775807) : binI .add .i64 0 x = x := by
  rw [add_i64 (by omega) (by omega)]; omega
theorem a0' {x : Int} (h0 : -9223372036854775808 ≤ x) (h1 : x ≤ 9223372036854775807) : binI .add .i64 x 0 = x := by
  rw [add_i64 (by omega) (by omega)]; omega
theorem s0' {x : Int} (h0 : -9223372036854775808 ≤ x) (h1 : x ≤ 9223372036854775807) : binI .sub .i64 x 0 = x := by
  rw [sub_i64 (by omega) (by omega)]; omega
theorem ss {x : Int} : binI .sub .i64 x x = 0 := by
  rw [sub_i64 (by omega) (by omega)]; omega
theorem neg_i64 {x : Int} (h0 : -9223372036854775807 ≤ x) (h1 : x ≤ 9223372036854775807) : binI .sub .i64 0 x = -x := by
  rw [sub_i64 (by omega) (by omega)]; omega
theorem ends_in {a b : Int} (h0 : inR .u16 a = true) (h1 : inR .i32 b = true) : ∃ r s e, binI .add .i64 1 (IntKind.i64.wrap (binI .rem .u16 a 500)) = r ∧ 1 ≤ r ∧ r ≤ 500 ∧ IntKind.i64.wrap b = b ∧ -2147483648 ≤ b ∧ b ≤ 2147483648 ∧
    (if binI .sub .i64 0 b > b then binI .sub .i64 0 b else b) = s ∧ 0 ≤ s ∧ s ≤ 2147483648 ∧ (s = b ∨ s = -b) ∧ b ≤ s ∧ -b ≤ s ∧
    binI .quo .i64 (binI .sub .i64 (binI .add .i64 (binI .mul .i64 s 1000000) r) 1) r = e ∧ 0 ≤ e ∧ e ≤ 2147483648000499 ∧ s * 1000000 ≤ e * r ∧ e * r ≤ s * 1000000 + r - 1 := by
  obtain ⟨r, hr, r0, r1⟩ := rate_in h0
  have bb := i32_in h1
  have hn : binI .sub .i64 0 b = -b := neg_i64 (by omega) (by omega)
  obtain ⟨s, hs, s0, s1, s2, s3, s4⟩ : ∃ s, (if binI .sub .i64 0 b > b then binI .sub .i64 0 b else b) = s ∧ 0 ≤ s ∧ s ≤ 2147483648 ∧ (s = b ∨ s = -b) ∧ b ≤ s ∧ -b ≤ s := by
    rw [hn]
    exact ⟨_, rfl, by split <;> omega, by split <;> omega, by split <;> omega, by split <;> omega, by split <;> omega⟩
  have e1 : binI .mul .i64 s 1000000 = s * 1000000 := mul_i64 (by omega) (by omega)
  have e2 : binI .add .i64 (s * 1000000) r = s * 1000000 + r := add_i64 (by omega) (by omega)
  have e3 : binI .sub .i64 (s * 1000000 + r) 1 = s * 1000000 + r - 1 := sub_i64 (by omega) (by omega)
  have n0 : 0 ≤ s * 1000000 + r - 1 := by omega
  have q0 := Int.ediv_nonneg n0 (show 0 ≤ r by omega)
  have q1 : (s * 1000000 + r - 1) / r ≤ s * 1000000 + r - 1 := Int.ediv_le_self _ n0
  have q2 := Int.ediv_mul_le (s * 1000000 + r - 1) (show r ≠ 0 by omega)
  have q3 := Int.lt_ediv_add_one_mul_self (s * 1000000 + r - 1) (show 0 < r by omega)
  rw [Int.add_mul, Int.one_mul] at q3
  have e4 : binI .quo .i64 (s * 1000000 + r - 1) r = (s * 1000000 + r - 1) / r := by
    show IntKind.i64.wrap (Int.tdiv _ _) = _
    rw [Int.tdiv_eq_ediv_of_nonneg n0]
    exact wrap_i64 (by omega) (by omega)
  exact ⟨r, s, _, hr, r0, r1, wrap_i64 (by omega) (by omega), by omega, by omega, hs, s0, s1, s2, s3, s4, by rw [e1, e2, e3]; exact e4, q0, by omega, by omega, q2⟩
theorem pc_ok (ρ : Env) (h0 : inR .u16 (ρ.v 0) = true) (h1 : inR .i32 (ρ.v 1) = true) (h2 : inR .u16 (ρ.v 2) = true) (hf : ∀ j, 100 ≤ j → ρ.f j = F j) : ∀ p ∈ pc, evB ρ p.1 = p.2 := by
  obtain ⟨r, s, e, hr, r0, r1, hb, b0, b1, hs, s0, s1, s2, s3, s4, he, e0, e1, w0, w1⟩ := ends_in h0 h1
  have c2 := u16_in h2
  have hc : IntKind.i64.wrap (ρ.v 2) = ρ.v 2 := wrap_i64 (by omega) (by omega)
  have hR : den ρ R = r := by simp only [R, den, hr]
  have hE : den ρ E = e := by
    have hR' := hR
    simp only [R, den] at hR'
    simp only [E, R, den, hR', hb, hs, he]
  have hA : den ρ (.bin .add .i64 E (.conv .i64 (.var 2))) = e + ρ.v 2 := by
    simp only [den, hE, hc]
    exact add_i64 (by omega) (by omega)
  intro p hp
  simp only [pc, List.mem_cons, List.not_mem_nil, or_false] at hp
  rcases hp with rfl | rfl | rfl | rfl | rfl | rfl | rfl
  · show evB ρ (.cmp .lss R (.lit 1)) = false
    rw [ev_lss', hR]; simp only [den]; omega
  · show evB ρ (.cmp .lss (.lit 500) R) = false
    rw [ev_lss', hR]; simp only [den]; omega
  · show evB ρ (.cmp .lss (.lit 4611686018427387903) E) = false
    rw [ev_lss', hE]; simp only [den]; omega
  · show evB ρ (.cmp .lss E (.lit 0)) = false
    rw [ev_lss', hE]; simp only [den]; omega
  · show evB ρ (.cmp .lss (.lit 4611686018427387903) _) = false
    rw [ev_lss', hA]; simp only [den]; omega
  · show evB ρ (.cmp .lss _ (.lit 0)) = false
    rw [ev_lss', hA]; simp only [den]; omega
  · show evB ρ (.cmp .neq R (.lit 0)) = true
    rw [ev_neq, hR]; simp only [den]; omega
set_option maxHeartbeats 4000000 in
theorem tree_holds (ρ : Env) (h0 : inR .u16 (ρ.v 0) = true) (h1 : inR .i32 (ρ.v 1) = true) (h2 : inR .u16 (ρ.v 2) = true) (hf : ∀ j, 100 ≤ j → ρ.f j = F j) : tree.holds (fun _ _ => True) saysTrue ρ := by
  obtain ⟨r, s, e, hr, r0, r1, hb, b0, b1, hs, s0, s1, s2, s3, s4, he, e0, e1, w0, w1⟩ := ends_in h0 h1
  have c2 := u16_in h2
  have hc : IntKind.i64.wrap (ρ.v 2) = ρ.v 2 := wrap_i64 (by omega) (by omega)
  unfold tree
  simp only [Tree.holds, ev_lss, ev_lss', ev_neq, ev_neq', ev_eql, ev_eql', saysTrue, ev_lit0, ev_lit1, den, dens, hf 104 (by omega), hf 106 (by omega), f104, f106, hr, hb, hs, he, hc, if_neg (rate_ok r0)]
  generalize ρ.v 1 = b at *
  generalize ρ.v 2 = c at *
  have x1 : binI .sub .i64 e 0 = e := s0' (by omega) (by omega)
  have x2 : binI .add .i64 e c = e + c := add_i64 (by omega) (by omega)
  have x3 : binI .sub .i64 (e + c) 0 = e + c := s0' (by omega) (by omega)
  have x4 : binI .sub .i64 e 1 = e - 1 := sub_i64 (by omega) (by omega)
  have x5 : binI .sub .i64 (e - 1) 0 = e - 1 := s0' (by omega) (by omega)
  have y1 : clp b (-2305843009213693952) 2305843009213693952 = b := clp_id (by omega) (by omega)
  obtain ⟨m1, _, m1'⟩ := mdv (t := e) (r := r) (by omega) (by omega) r0 r1
  obtain ⟨m2, _, m2'⟩ := mdv (t := e + c) (r := r) (by omega) (by omega) r0 r1
  have g2 : (e + c) * r = e * r + c * r := Int.add_mul _ _ _
  have g3 : 0 ≤ c * r := Int.mul_nonneg (by omega) (by omega)
  have g4 : (e - 1) * r = e * r - r := by rw [Int.sub_mul, Int.one_mul]
  have z1 : clp b (binI .sub .i64 0 (e * r / 1000000)) (e * r / 1000000) = b := by
    rw [neg_i64 (by omega) (by omega)]
    exact clp_id (by omega) (by omega)
  have z2 : clp b (binI .sub .i64 0 ((e + c) * r / 1000000)) ((e + c) * r / 1000000) = b := by
    rw [g2] at m2' ⊢
    rw [neg_i64 (by omega) (by omega)]
    exact clp_id (by omega) (by omega)
  have k1 : binI .sub .i64 b b = 0 := ss
  have k2 : binI .add .i64 0 e = e := a0 (by omega) (by omega)
  have k3 : binI .add .i64 e b = e + b := add_i64 (by omega) (by omega)
  have k4 : binI .add .i64 0 (e + c) = e + c := a0 (by omega) (by omega)
  have k5 : binI .add .i64 (e + c) b = e + c + b := add_i64 (by omega) (by omega)
  have k6 : binI .add .i64 (e + b) c = e + b + c := add_i64 (by omega) (by omega)
  have z3 : 1 ≤ e → binI .sub .i64 b (clp b (binI .sub .i64 0 (md (e - 1) r 1000000)) (md (e - 1) r 1000000)) ≠ 0 := fun he1 => by
    obtain ⟨m3, m3', m3''⟩ := mdv (t := e - 1) (r := r) (by omega) (by omega) r0 r1
    rw [m3, g4] at *
    have hq : (e * r - r) / 1000000 < s := by omega
    rw [neg_i64 (by omega) (by omega)]
    have hm := clp_mem (a := b) (lo := -((e * r - r) / 1000000)) (hi := (e * r - r) / 1000000) (by omega)
    rw [sub_i64 (by omega) (by omega)]
    omega
  simp only [x1, x2, x3, x4, x5, y1, m1, m2, z1, z2, k1, k2, k3, k4, k5, k6, md0, s00, clp_same, a00]
  repeat' (first | exact trivial | exact z3 (by omega) | (refine ⟨fun _ => ?_, fun _ => ?_⟩) | omega)
end Go.Proofs.Ytplkegifilheeaa.TSlewEnds
