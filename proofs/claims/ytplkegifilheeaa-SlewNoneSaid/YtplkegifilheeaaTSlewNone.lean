/- The tree of the law SlewNone, and that all its ends say true. No conditions. -/
import Derived.Test.YtplkegifilheeaaSXp
import Derived.Test.YtplkegifilheeaaProg
import Derived.KernelRfl
import Derived.Test.YtplkegifilheeaaSXs
import Derived.Test.YtplkegifilheeaaLSa
namespace Go.Proofs.Ytplkegifilheeaa.TSlewNone
open Go Go.SX
set_option maxRecDepth 100000
set_option linter.unusedVariables false
set_option linter.unusedSimpArgs false
open Go.Proofs.Ytplkegifilheeaa.L Go.Proofs.Ytplkegifilheeaa.G
open Go.Proofs.YtplkegifilheeaaW.PrintWords Go.Proofs.YtplkegifilheeaaW.PrintLast Go.Proofs.YtplkegifilheeaaW.PrintMore
def cfg0 : Cfg := { ok := (List.range 36).map (· + 3), sums := fun _ _ => none, loops := [] }
theorem cfg0_ok (G : Nat → List Int → Int) : CfgOk Try.prog cfg0 G :=
  ⟨by kernel_rfl, okB_spec (by kernel_rfl), fun f args v h => by cases h⟩
set_option maxHeartbeats 40000000 in
theorem alive_eq : callT Try.prog cfg0 100000 0 12 [] [] [] = .leaf (.bool (.lit 1)) [] := by kernel_rfl
theorem alive_calls (w : World) : Calls Try.prog 12 #[] w fun e w' => e = .returned (.bool true) ∧ RowKit.Below w.heap.size w w' :=
  law_run (I := fun _ _ => True) (ρ := ⟨fun _ => 0, fun _ _ => 0⟩) (cfg0_ok fun _ _ => 0) (by rw [alive_eq]; exact says1) rfl (fun _ h => by cases h) rfl (RelM.nil w _)
def clp (a lo hi : Int) : Int := if a < lo then lo else if a > hi then hi else a
def sums : FuncId → List AV → Option AV
  | 17, [.int .i64 a, .int .i64 b, .int .i64 c] => some (.tuple (ofList [.int .i64 (.app 104 (.cons a (.cons b (.cons c .nil)))), .int .i64 (.app 105 (.cons a (.cons b (.cons c .nil))))]))
  | 24, [.int .i64 a, .int .i64 b, .int .i64 c] => some (.int .i64 (.app 106 (.cons a (.cons b (.cons c .nil)))))
  | 12, [] => some (.bool (.lit 1))
  | _, _ => none
def cfg : Cfg := { ok := (List.range 36).map (· + 3), sums := sums, loops := [] }
def F : Nat → List Int → Int := fun j l =>
  match l with
  | [a, b, c] => if j = 104 then (if b < 0 ∨ c < 1 then 0 else md a b c) else if j = 105 then (if b < 0 ∨ c < 1 then 2 else 0) else if j = 106 then clp a b c else 0
  | _ => 0
theorem cfg_ok (G : Nat → List Int → Int) (hG : ∀ j, 100 ≤ j → G j = F j) : CfgOk Try.prog cfg G := by
  refine ⟨by kernel_rfl, okB_spec (by kernel_rfl), fun f args v h bs ρ w vs hρ hv => ?_⟩
  have h' : sums f args = some v := h
  unfold sums at h'
  split at h'
  · rename_i a b c
    cases h'
    obtain ⟨i0, us, rfl, hv1⟩ := dvl_int hv
    obtain ⟨i1, us, rfl, hv2⟩ := dvl_int hv1
    obtain ⟨i2, us, rfl, hv3⟩ := dvl_int hv2
    obtain rfl := dvl_end hv3
    have e4 : ρ.f 104 [den ρ a, den ρ b, den ρ c] = if den ρ b < 0 ∨ den ρ c < 1 then 0 else md (den ρ a) (den ρ b) (den ρ c) := by rw [hρ, hG 104 (by omega)]; rfl
    have e5 : ρ.f 105 [den ρ a, den ρ b, den ρ c] = if den ρ b < 0 ∨ den ρ c < 1 then 2 else 0 := by rw [hρ, hG 105 (by omega)]; rfl
    have hr := md_range (den ρ a) (den ρ b) (den ρ c)
    unfold I64 at hr
    refine ⟨_, dv_pair (by simp only [den, dens]; rw [e4]; exact in_i64 (by split <;> omega)) (by simp only [den, dens]; rw [e5]; exact in_i64 (by split <;> omega)), ?_⟩
    simp only [den, dens, e4, e5]
    by_cases hb : den ρ b < 0 ∨ den ρ c < 1
    · simp only [if_pos hb]
      exact sat_MulDiv.calls 30 _ _ _ _ _ w (sat_MulDiv_bad 30 (by omega) hb)
    · simp only [if_neg hb]
      exact sat_MulDiv.calls 30 _ _ _ _ _ w (sat_MulDiv_eq 30 (by omega) (i64_in i0) (i64_in i1) (i64_in i2) (by omega) (by omega))
  · rename_i a b c
    cases h'
    obtain ⟨i0, us, rfl, hv1⟩ := dvl_int hv
    obtain ⟨i1, us, rfl, hv2⟩ := dvl_int hv1
    obtain ⟨i2, us, rfl, hv3⟩ := dvl_int hv2
    obtain rfl := dvl_end hv3
    have e6 : ρ.f 106 [den ρ a, den ρ b, den ρ c] = clp (den ρ a) (den ρ b) (den ρ c) := by rw [hρ, hG 106 (by omega)]; rfl
    have j0 := i64_in i0
    have j1 := i64_in i1
    have j2 := i64_in i2
    refine ⟨_, dv_int_mk (by simp only [den, dens]; rw [e6]; exact in_i64 (by unfold clp; split <;> (try split) <;> omega)), ?_⟩
    simp only [den, dens, e6]
    exact (sat_Clamp.calls _ _ _ _ w (sat_Clamp_eq _ _ _)).mono fun e w' h => ⟨h.1, h.2.below⟩
  · cases h'
    obtain rfl := dvl_end hv
    exact ⟨.bool true, rfl, alive_calls w⟩
  · cases h'
def args : List AV := [.int .i64 (.var 0), .int .i64 (.var 1)]
def mem : List AObj := []
def tree : Tree :=
(.leaf (.bool (.lit 1)) [])
set_option maxHeartbeats 40000000 in
theorem tree_eq : callT Try.prog cfg 100000 0 8 args mem [] = tree := by kernel_rfl
theorem tree_holds (ρ : Env) (h0 : inR .i64 (ρ.v 0) = true) (h1 : inR .i64 (ρ.v 1) = true) (hf : ∀ j, 100 ≤ j → ρ.f j = F j) : tree.holds (fun _ _ => True) saysTrue ρ := says1
end Go.Proofs.Ytplkegifilheeaa.TSlewNone
