/- The tree of the law SlewForgets, and that all its ends say true. No conditions. -/
import Derived.Test.YtplkegifilheeaaSX3
import Derived.Test.YtplkegifilheeaaProg
import Derived.KernelRfl
import Derived.Test.YtplkegifilheeaaSX3
import Derived.Test.YtplkegifilheeaaLSa
namespace Go.Proofs.Ytplkegifilheeaa.TSlewForgets
open Go Go.SX
set_option maxRecDepth 100000
set_option linter.unusedVariables false
set_option linter.unusedSimpArgs false
open Go.Proofs.Ytplkegifilheeaa.L Go.Proofs.Ytplkegifilheeaa.G
open Go.Proofs.YtplkegifilheeaaW.PrintWords Go.Proofs.YtplkegifilheeaaW.PrintLast Go.Proofs.YtplkegifilheeaaW.PrintMore
def cfg0 : Cfg := { ok := (List.range 36).map (· + 3), sums := fun _ _ => none, loops := [] }
theorem cfg0_ok (G : Nat → List Int → Int) : CfgOk Try.prog cfg0 G :=
  ⟨by kernel_rfl, okB_spec (by kernel_rfl), fun f args v h => by cases h⟩
set_option maxHeartbeats 40000000 in
theorem alive_eq : callT Try.prog cfg0 100000 0 12 [] [] [] = .leaf (.bool (.lit 1)) [] := by kernel_rfl
theorem alive_calls (w : World) : Calls Try.prog 12 #[] w fun e w' => e = .returned (.bool true) ∧ RowKit.Below w.heap.size w w' :=
  law_run (I := fun _ _ => True) (ρ := ⟨fun _ => 0, fun _ _ => 0⟩) (cfg0_ok fun _ _ => 0) (by rw [alive_eq]; exact says1) rfl (fun _ h => by cases h) rfl (RelM.nil w _)
def clp (a lo hi : Int) : Int := if a < lo then lo else if a > hi then hi else a
def sums : FuncId → List AV → Option AV
  | 17, [.int .i64 a, .int .i64 b, .int .i64 c] => some (.tuple (ofList [.int .i64 (.app 104 (.cons a (.cons b (.cons c .nil)))), .int .i64 (.app 105 (.cons a (.cons b (.cons c .nil))))]))
  | 24, [.int .i64 a, .int .i64 b, .int .i64 c] => some (.int .i64 (.app 106 (.cons a (.cons b (.cons c .nil)))))
  | 12, [] => some (.bool (.lit 1))
  | _, _ => none
def cfg : Cfg := { ok := (List.range 36).map (· + 3), sums := sums, loops := [] }
def F : Nat → List Int → Int := fun j l =>
  match l with
  | [a, b, c] => if j = 104 then (if b < 0 ∨ c < 1 then 0 else md a b c) else if j = 105 then (if b < 0 ∨ c < 1 then 2 else 0) else if j = 106 then clp a b c else 0
  | _ => 0
theorem cfg_ok (G : Nat → List Int → Int) (hG : ∀ j, 100 ≤ j → G j = F j) : CfgOk Try.prog cfg G := by
  refine ⟨by kernel_rfl, okB_spec (by kernel_rfl), fun f args v h bs ρ w vs hρ hv => ?_⟩
  have h' : sums f args = some v := h
  unfold sums at h'
  split at h'
  · rename_i a b c
    cases h'
    obtain ⟨i0, us, rfl, hv1⟩ := dvl_int hv
    obtain ⟨i1, us, rfl, hv2⟩ := dvl_int hv1
    obtain ⟨i2, us, rfl, hv3⟩ := dvl_int hv2
    obtain rfl := dvl_end hv3
    have e4 : ρ.f 104 [den ρ a, den ρ b, den ρ c] = if den ρ b < 0 ∨ den ρ c < 1 then 0 else md (den ρ a) (den ρ b) (den ρ c) := by rw [hρ, hG 104 (by omega)]; rfl
    have e5 : ρ.f 105 [den ρ a, den ρ b, den ρ c] = if den ρ b < 0 ∨ den ρ c < 1 then 2 else 0 := by rw [hρ, hG 105 (by omega)]; rfl
    have hr := md_range (den ρ a) (den ρ b) (den ρ c)
    unfold I64 at hr
    refine ⟨_, dv_pair (by simp only [den, dens]; rw [e4]; exact in_i64 (by split <;> omega)) (by simp only [den, dens]; rw [e5]; exact in_i64 (by split <;> omega)), ?_⟩
    simp only [den, dens, e4, e5]
    by_cases hb : den ρ b < 0 ∨ den ρ c < 1
    · simp only [if_pos hb]
      exact sat_MulDiv.calls 30 _ _ _ _ _ w (sat_MulDiv_bad 30 (by omega) hb)
    · simp only [if_neg hb]
      exact sat_MulDiv.calls 30 _ _ _ _ _ w (sat_MulDiv_eq 30 (by omega) (i64_in i0) (i64_in i1) (i64_in i2) (by omega) (by omega))
  · rename_i a b c
    cases h'
    obtain ⟨i0, us, rfl, hv1⟩ := dvl_int hv
    obtain ⟨i1, us, rfl, hv2⟩ := dvl_int hv1
    obtain ⟨i2, us, rfl, hv3⟩ := dvl_int hv2
    obtain rfl := dvl_end hv3
    have e6 : ρ.f 106 [den ρ a, den ρ b, den ρ c] = clp (den ρ a) (den ρ b) (den ρ c) := by rw [hρ, hG 106 (by omega)]; rfl
    have j0 := i64_in i0
    have j1 := i64_in i1
    have j2 := i64_in i2
    refine ⟨_, dv_int_mk (by simp only [den, dens]; rw [e6]; exact in_i64 (by unfold clp; split <;> (try split) <;> omega)), ?_⟩
    simp only [den, dens, e6]
    exact (sat_Clamp.calls _ _ _ _ w (sat_Clamp_eq _ _ _)).mono fun e w' h => ⟨h.1, h.2.below⟩
  · cases h'
    obtain rfl := dvl_end hv
    exact ⟨.bool true, rfl, alive_calls w⟩
  · cases h'
def args : List AV := [.int .u16 (.var 0), .agg (ofList [.int .i64 (.var 1), .int .i64 (.var 2)]), .int .u32 (.var 3)]
def mem : List AObj := []
def tree : Tree :=
(.ite (.cmp .lss (.bin .add .i64 (.lit 1) (.conv .i64 (.bin .rem .u16 (.var 0) (.lit 500)))) (.lit 1))
 (.leaf (.bool (.lit 1)) [])
 (.ite (.cmp .lss (.lit 500) (.bin .add .i64 (.lit 1) (.conv .i64 (.bin .rem .u16 (.var 0) (.lit 500)))))
 (.leaf (.bool (.lit 1)) [])
 (.ite (.cmp .lss (.lit 4611686018427387903) (.conv .i64 (.var 3)))
 (.leaf (.bool (.lit 0)) [])
 (.ite (.cmp .lss (.conv .i64 (.var 3)) (.lit 0))
 (.leaf (.bool (.lit 0)) [])
 (.ite (.cmp .neq (.bin .add .i64 (.bin .add .i64 (.bin .add .i64 (.bin .add .i64 (.bin .add .i64 (.lit 0) (.app 106 (.cons (.lit 0) (.cons (.bin .sub .i64 (.lit 0) (.app 104 (.cons (.lit 0) (.cons (.bin .add .i64 (.lit 1) (.conv .i64 (.bin .rem .u16 (.var 0) (.lit 500)))) (.cons (.lit 1000000) .nil))))) (.cons (.app 104 (.cons (.lit 0) (.cons (.bin .add .i64 (.lit 1) (.conv .i64 (.bin .rem .u16 (.var 0) (.lit 500)))) (.cons (.lit 1000000) .nil)))) .nil))))) (.lit 0)) (.app 106 (.cons (.app 106 (.cons (.var 1) (.cons (.lit (-2305843009213693952)) (.cons (.lit 2305843009213693952) .nil)))) (.cons (.bin .sub .i64 (.lit 0) (.app 104 (.cons (.lit 0) (.cons (.bin .add .i64 (.lit 1) (.conv .i64 (.bin .rem .u16 (.var 0) (.lit 500)))) (.cons (.lit 1000000) .nil))))) (.cons (.app 104 (.cons (.lit 0) (.cons (.bin .add .i64 (.lit 1) (.conv .i64 (.bin .rem .u16 (.var 0) (.lit 500)))) (.cons (.lit 1000000) .nil)))) .nil))))) (.bin .sub .i64 (.conv .i64 (.var 3)) (.lit 0))) (.app 106 (.cons (.app 106 (.cons (.var 2) (.cons (.lit (-2305843009213693952)) (.cons (.lit 2305843009213693952) .nil)))) (.cons (.bin .sub .i64 (.lit 0) (.app 104 (.cons (.bin .sub .i64 (.conv .i64 (.var 3)) (.lit 0)) (.cons (.bin .add .i64 (.lit 1) (.conv .i64 (.bin .rem .u16 (.var 0) (.lit 500)))) (.cons (.lit 1000000) .nil))))) (.cons (.app 104 (.cons (.bin .sub .i64 (.conv .i64 (.var 3)) (.lit 0)) (.cons (.bin .add .i64 (.lit 1) (.conv .i64 (.bin .rem .u16 (.var 0) (.lit 500)))) (.cons (.lit 1000000) .nil)))) .nil))))) (.bin .add .i64 (.bin .add .i64 (.bin .add .i64 (.lit 0) (.app 106 (.cons (.lit 0) (.cons (.bin .sub .i64 (.lit 0) (.app 104 (.cons (.lit 0) (.cons (.bin .add .i64 (.lit 1) (.conv .i64 (.bin .rem .u16 (.var 0) (.lit 500)))) (.cons (.lit 1000000) .nil))))) (.cons (.app 104 (.cons (.lit 0) (.cons (.bin .add .i64 (.lit 1) (.conv .i64 (.bin .rem .u16 (.var 0) (.lit 500)))) (.cons (.lit 1000000) .nil)))) .nil))))) (.bin .sub .i64 (.conv .i64 (.var 3)) (.lit 0))) (.app 106 (.cons (.app 106 (.cons (.var 2) (.cons (.lit (-2305843009213693952)) (.cons (.lit 2305843009213693952) .nil)))) (.cons (.bin .sub .i64 (.lit 0) (.app 104 (.cons (.bin .sub .i64 (.conv .i64 (.var 3)) (.lit 0)) (.cons (.bin .add .i64 (.lit 1) (.conv .i64 (.bin .rem .u16 (.var 0) (.lit 500)))) (.cons (.lit 1000000) .nil))))) (.cons (.app 104 (.cons (.bin .sub .i64 (.conv .i64 (.var 3)) (.lit 0)) (.cons (.bin .add .i64 (.lit 1) (.conv .i64 (.bin .rem .u16 (.var 0) (.lit 500)))) (.cons (.lit 1000000) .nil)))) .nil))))))
 (.leaf (.bool (.lit 0)) [])
 (.ite (.cmp .lss (.lit 4611686018427387903) (.bin .add .i64 (.conv .i64 (.var 3)) (.lit 5000000)))
 (.ite (.cmp .eql (.lit 0) (.bin .add .i64 (.bin .add .i64 (.bin .add .i64 (.bin .add .i64 (.bin .add .i64 (.bin .add .i64 (.lit 0) (.app 106 (.cons (.lit 0) (.cons (.bin .sub .i64 (.lit 0) (.app 104 (.cons (.lit 0) (.cons (.bin .add .i64 (.lit 1) (.conv .i64 (.bin .rem .u16 (.var 0) (.lit 500)))) (.cons (.lit 1000000) .nil))))) (.cons (.app 104 (.cons (.lit 0) (.cons (.bin .add .i64 (.lit 1) (.conv .i64 (.bin .rem .u16 (.var 0) (.lit 500)))) (.cons (.lit 1000000) .nil)))) .nil))))) (.lit 0)) (.app 106 (.cons (.app 106 (.cons (.var 1) (.cons (.lit (-2305843009213693952)) (.cons (.lit 2305843009213693952) .nil)))) (.cons (.bin .sub .i64 (.lit 0) (.app 104 (.cons (.lit 0) (.cons (.bin .add .i64 (.lit 1) (.conv .i64 (.bin .rem .u16 (.var 0) (.lit 500)))) (.cons (.lit 1000000) .nil))))) (.cons (.app 104 (.cons (.lit 0) (.cons (.bin .add .i64 (.lit 1) (.conv .i64 (.bin .rem .u16 (.var 0) (.lit 500)))) (.cons (.lit 1000000) .nil)))) .nil))))) (.bin .sub .i64 (.conv .i64 (.var 3)) (.lit 0))) (.app 106 (.cons (.app 106 (.cons (.var 2) (.cons (.lit (-2305843009213693952)) (.cons (.lit 2305843009213693952) .nil)))) (.cons (.bin .sub .i64 (.lit 0) (.app 104 (.cons (.bin .sub .i64 (.conv .i64 (.var 3)) (.lit 0)) (.cons (.bin .add .i64 (.lit 1) (.conv .i64 (.bin .rem .u16 (.var 0) (.lit 500)))) (.cons (.lit 1000000) .nil))))) (.cons (.app 104 (.cons (.bin .sub .i64 (.conv .i64 (.var 3)) (.lit 0)) (.cons (.bin .add .i64 (.lit 1) (.conv .i64 (.bin .rem .u16 (.var 0) (.lit 500)))) (.cons (.lit 1000000) .nil)))) .nil))))) (.lit 5000000)))
 (.leaf (.bool (.cmp .eql (.bin .sub .i64 (.app 106 (.cons (.lit 0) (.cons (.lit (-2305843009213693952)) (.cons (.lit 2305843009213693952) .nil)))) (.app 106 (.cons (.app 106 (.cons (.lit 0) (.cons (.lit (-2305843009213693952)) (.cons (.lit 2305843009213693952) .nil)))) (.cons (.bin .sub .i64 (.lit 0) (.app 104 (.cons (.bin .sub .i64 (.conv .i64 (.var 3)) (.conv .i64 (.var 3))) (.cons (.bin .add .i64 (.lit 1) (.conv .i64 (.bin .rem .u16 (.var 0) (.lit 500)))) (.cons (.lit 1000000) .nil))))) (.cons (.app 104 (.cons (.bin .sub .i64 (.conv .i64 (.var 3)) (.conv .i64 (.var 3))) (.cons (.bin .add .i64 (.lit 1) (.conv .i64 (.bin .rem .u16 (.var 0) (.lit 500)))) (.cons (.lit 1000000) .nil)))) .nil))))) (.lit 0))) [])
 (.leaf (.bool (.lit 0)) []))
 (.ite (.cmp .lss (.bin .add .i64 (.conv .i64 (.var 3)) (.lit 5000000)) (.conv .i64 (.var 3)))
 (.ite (.cmp .eql (.lit 0) (.bin .add .i64 (.bin .add .i64 (.bin .add .i64 (.bin .add .i64 (.bin .add .i64 (.bin .add .i64 (.lit 0) (.app 106 (.cons (.lit 0) (.cons (.bin .sub .i64 (.lit 0) (.app 104 (.cons (.lit 0) (.cons (.bin .add .i64 (.lit 1) (.conv .i64 (.bin .rem .u16 (.var 0) (.lit 500)))) (.cons (.lit 1000000) .nil))))) (.cons (.app 104 (.cons (.lit 0) (.cons (.bin .add .i64 (.lit 1) (.conv .i64 (.bin .rem .u16 (.var 0) (.lit 500)))) (.cons (.lit 1000000) .nil)))) .nil))))) (.lit 0)) (.app 106 (.cons (.app 106 (.cons (.var 1) (.cons (.lit (-2305843009213693952)) (.cons (.lit 2305843009213693952) .nil)))) (.cons (.bin .sub .i64 (.lit 0) (.app 104 (.cons (.lit 0) (.cons (.bin .add .i64 (.lit 1) (.conv .i64 (.bin .rem .u16 (.var 0) (.lit 500)))) (.cons (.lit 1000000) .nil))))) (.cons (.app 104 (.cons (.lit 0) (.cons (.bin .add .i64 (.lit 1) (.conv .i64 (.bin .rem .u16 (.var 0) (.lit 500)))) (.cons (.lit 1000000) .nil)))) .nil))))) (.bin .sub .i64 (.conv .i64 (.var 3)) (.lit 0))) (.app 106 (.cons (.app 106 (.cons (.var 2) (.cons (.lit (-2305843009213693952)) (.cons (.lit 2305843009213693952) .nil)))) (.cons (.bin .sub .i64 (.lit 0) (.app 104 (.cons (.bin .sub .i64 (.conv .i64 (.var 3)) (.lit 0)) (.cons (.bin .add .i64 (.lit 1) (.conv .i64 (.bin .rem .u16 (.var 0) (.lit 500)))) (.cons (.lit 1000000) .nil))))) (.cons (.app 104 (.cons (.bin .sub .i64 (.conv .i64 (.var 3)) (.lit 0)) (.cons (.bin .add .i64 (.lit 1) (.conv .i64 (.bin .rem .u16 (.var 0) (.lit 500)))) (.cons (.lit 1000000) .nil)))) .nil))))) (.lit 5000000)))
 (.leaf (.bool (.cmp .eql (.bin .sub .i64 (.app 106 (.cons (.lit 0) (.cons (.lit (-2305843009213693952)) (.cons (.lit 2305843009213693952) .nil)))) (.app 106 (.cons (.app 106 (.cons (.lit 0) (.cons (.lit (-2305843009213693952)) (.cons (.lit 2305843009213693952) .nil)))) (.cons (.bin .sub .i64 (.lit 0) (.app 104 (.cons (.bin .sub .i64 (.conv .i64 (.var 3)) (.conv .i64 (.var 3))) (.cons (.bin .add .i64 (.lit 1) (.conv .i64 (.bin .rem .u16 (.var 0) (.lit 500)))) (.cons (.lit 1000000) .nil))))) (.cons (.app 104 (.cons (.bin .sub .i64 (.conv .i64 (.var 3)) (.conv .i64 (.var 3))) (.cons (.bin .add .i64 (.lit 1) (.conv .i64 (.bin .rem .u16 (.var 0) (.lit 500)))) (.cons (.lit 1000000) .nil)))) .nil))))) (.lit 0))) [])
 (.leaf (.bool (.lit 0)) []))
 (.ite (.cmp .eql (.bin .add .i64 (.bin .add .i64 (.bin .add .i64 (.bin .add .i64 (.bin .add .i64 (.bin .add .i64 (.bin .add .i64 (.lit 0) (.app 106 (.cons (.lit 0) (.cons (.bin .sub .i64 (.lit 0) (.app 104 (.cons (.lit 0) (.cons (.bin .add .i64 (.lit 1) (.conv .i64 (.bin .rem .u16 (.var 0) (.lit 500)))) (.cons (.lit 1000000) .nil))))) (.cons (.app 104 (.cons (.lit 0) (.cons (.bin .add .i64 (.lit 1) (.conv .i64 (.bin .rem .u16 (.var 0) (.lit 500)))) (.cons (.lit 1000000) .nil)))) .nil))))) (.lit 0)) (.app 106 (.cons (.app 106 (.cons (.var 1) (.cons (.lit (-2305843009213693952)) (.cons (.lit 2305843009213693952) .nil)))) (.cons (.bin .sub .i64 (.lit 0) (.app 104 (.cons (.lit 0) (.cons (.bin .add .i64 (.lit 1) (.conv .i64 (.bin .rem .u16 (.var 0) (.lit 500)))) (.cons (.lit 1000000) .nil))))) (.cons (.app 104 (.cons (.lit 0) (.cons (.bin .add .i64 (.lit 1) (.conv .i64 (.bin .rem .u16 (.var 0) (.lit 500)))) (.cons (.lit 1000000) .nil)))) .nil))))) (.bin .sub .i64 (.conv .i64 (.var 3)) (.lit 0))) (.app 106 (.cons (.app 106 (.cons (.var 2) (.cons (.lit (-2305843009213693952)) (.cons (.lit 2305843009213693952) .nil)))) (.cons (.bin .sub .i64 (.lit 0) (.app 104 (.cons (.bin .sub .i64 (.conv .i64 (.var 3)) (.lit 0)) (.cons (.bin .add .i64 (.lit 1) (.conv .i64 (.bin .rem .u16 (.var 0) (.lit 500)))) (.cons (.lit 1000000) .nil))))) (.cons (.app 104 (.cons (.bin .sub .i64 (.conv .i64 (.var 3)) (.lit 0)) (.cons (.bin .add .i64 (.lit 1) (.conv .i64 (.bin .rem .u16 (.var 0) (.lit 500)))) (.cons (.lit 1000000) .nil)))) .nil))))) (.bin .sub .i64 (.bin .add .i64 (.conv .i64 (.var 3)) (.lit 5000000)) (.conv .i64 (.var 3)))) (.app 106 (.cons (.app 106 (.cons (.lit 0) (.cons (.lit (-2305843009213693952)) (.cons (.lit 2305843009213693952) .nil)))) (.cons (.bin .sub .i64 (.lit 0) (.app 104 (.cons (.bin .sub .i64 (.bin .add .i64 (.conv .i64 (.var 3)) (.lit 5000000)) (.conv .i64 (.var 3))) (.cons (.bin .add .i64 (.lit 1) (.conv .i64 (.bin .rem .u16 (.var 0) (.lit 500)))) (.cons (.lit 1000000) .nil))))) (.cons (.app 104 (.cons (.bin .sub .i64 (.bin .add .i64 (.conv .i64 (.var 3)) (.lit 5000000)) (.conv .i64 (.var 3))) (.cons (.bin .add .i64 (.lit 1) (.conv .i64 (.bin .rem .u16 (.var 0) (.lit 500)))) (.cons (.lit 1000000) .nil)))) .nil))))) (.bin .add .i64 (.bin .add .i64 (.bin .add .i64 (.bin .add .i64 (.bin .add .i64 (.bin .add .i64 (.lit 0) (.app 106 (.cons (.lit 0) (.cons (.bin .sub .i64 (.lit 0) (.app 104 (.cons (.lit 0) (.cons (.bin .add .i64 (.lit 1) (.conv .i64 (.bin .rem .u16 (.var 0) (.lit 500)))) (.cons (.lit 1000000) .nil))))) (.cons (.app 104 (.cons (.lit 0) (.cons (.bin .add .i64 (.lit 1) (.conv .i64 (.bin .rem .u16 (.var 0) (.lit 500)))) (.cons (.lit 1000000) .nil)))) .nil))))) (.lit 0)) (.app 106 (.cons (.app 106 (.cons (.var 1) (.cons (.lit (-2305843009213693952)) (.cons (.lit 2305843009213693952) .nil)))) (.cons (.bin .sub .i64 (.lit 0) (.app 104 (.cons (.lit 0) (.cons (.bin .add .i64 (.lit 1) (.conv .i64 (.bin .rem .u16 (.var 0) (.lit 500)))) (.cons (.lit 1000000) .nil))))) (.cons (.app 104 (.cons (.lit 0) (.cons (.bin .add .i64 (.lit 1) (.conv .i64 (.bin .rem .u16 (.var 0) (.lit 500)))) (.cons (.lit 1000000) .nil)))) .nil))))) (.bin .sub .i64 (.conv .i64 (.var 3)) (.lit 0))) (.app 106 (.cons (.app 106 (.cons (.var 2) (.cons (.lit (-2305843009213693952)) (.cons (.lit 2305843009213693952) .nil)))) (.cons (.bin .sub .i64 (.lit 0) (.app 104 (.cons (.bin .sub .i64 (.conv .i64 (.var 3)) (.lit 0)) (.cons (.bin .add .i64 (.lit 1) (.conv .i64 (.bin .rem .u16 (.var 0) (.lit 500)))) (.cons (.lit 1000000) .nil))))) (.cons (.app 104 (.cons (.bin .sub .i64 (.conv .i64 (.var 3)) (.lit 0)) (.cons (.bin .add .i64 (.lit 1) (.conv .i64 (.bin .rem .u16 (.var 0) (.lit 500)))) (.cons (.lit 1000000) .nil)))) .nil))))) (.lit 5000000)))
 (.leaf (.bool (.cmp .eql (.bin .sub .i64 (.app 106 (.cons (.lit 0) (.cons (.lit (-2305843009213693952)) (.cons (.lit 2305843009213693952) .nil)))) (.app 106 (.cons (.app 106 (.cons (.lit 0) (.cons (.lit (-2305843009213693952)) (.cons (.lit 2305843009213693952) .nil)))) (.cons (.bin .sub .i64 (.lit 0) (.app 104 (.cons (.bin .sub .i64 (.conv .i64 (.var 3)) (.conv .i64 (.var 3))) (.cons (.bin .add .i64 (.lit 1) (.conv .i64 (.bin .rem .u16 (.var 0) (.lit 500)))) (.cons (.lit 1000000) .nil))))) (.cons (.app 104 (.cons (.bin .sub .i64 (.conv .i64 (.var 3)) (.conv .i64 (.var 3))) (.cons (.bin .add .i64 (.lit 1) (.conv .i64 (.bin .rem .u16 (.var 0) (.lit 500)))) (.cons (.lit 1000000) .nil)))) .nil))))) (.lit 0))) [])
 (.leaf (.bool (.lit 0)) [])))))))))
set_option maxHeartbeats 40000000 in
theorem tree_eq : callT Try.prog cfg 100000 0 4 args mem [] = tree := by kernel_rfl
theorem f104 (a b c : Int) : F 104 [a, b, c] = if b < 0 ∨ c < 1 then 0 else md a b c := Eq.trans rfl rfl
theorem f106 (a b c : Int) : F 106 [a, b, c] = clp a b c := Eq.trans rfl rfl
theorem clp_mem {a lo hi : Int} (h : lo ≤ hi) : lo ≤ clp a lo hi ∧ clp a lo hi ≤ hi := by
  unfold clp; split <;> (try split) <;> omega
theorem clp_same (a : Int) : clp a 0 0 = 0 := by
  unfold clp; split <;> (try split) <;> omega
theorem clp_id {a lo hi : Int} (h : lo ≤ a) (h' : a ≤ hi) : clp a lo hi = a := by
  unfold clp; rw [if_neg (by omega), if_neg (by omega)]
theorem md0 (r : Int) : md 0 r 1000000 = 0 := by unfold md; rw [Int.zero_mul]; decide
theorem mdv {t r : Int} (t0 : 0 ≤ t) (t1 : t ≤ 9000000000000000000) (r0 : 1 ≤ r) (r1 : r ≤ 500) : md t r 1000000 = t * r / 1000000 ∧ 0 ≤ t * r / 1000000 ∧ t * r / 1000000 ≤ t / 2000 := by
  have h0 : 0 ≤ t * r := Int.mul_nonneg t0 (by omega)
  have h1 : t * r ≤ t * 500 := Int.mul_le_mul_of_nonneg_left r1 t0
  refine ⟨?_, by omega, by omega⟩
  unfold md
  exact clamp_id (by unfold I64; omega)
theorem rate_in {x : Int} (h : inR .u16 x = true) : ∃ r, binI .add .i64 1 (IntKind.i64.wrap (binI .rem .u16 x 500)) = r ∧ 1 ≤ r ∧ r ≤ 500 := by
  have b := u16_in h
  have e : binI .rem .u16 x 500 = x % 500 := Int.tmod_eq_emod_of_nonneg b.1
  refine ⟨1 + x % 500, ?_, by omega, by omega⟩
  rw [e, wrap_i64 (by omega) (by omega), add_i64 (by omega) (by omega)]
theorem rate_ok {r : Int} (h : 1 ≤ r) : ¬ (r < 0 ∨ (1000000 : Int) < 1) := by omega
theorem s00 : binI .sub .i64 0 0 = 0 := Eq.trans rfl rfl
theorem a00 : binI .add .i64 0 0 = 0 := Eq.trans rfl rfl
theorem a0 {x : Int} (h0 : -9223372036854775808 ≤ x) (h1 : x ≤ 9223372036854775807) : binI .add .i64 0 x = x := by
  rw [add_i64 (by omega) (by omega)]; omega
theorem a0' {x : Int} (h0 : -9223372036854775808 ≤ x) (h1 : x ≤ 9223372036854775807) : binI .add .i64 x 0 = x := by
  rw [add_i64 (by omega) (by omega)]; omega
theorem s0' {x : Int} (h0 : -9223372036854775808 ≤ x) (h1 : x ≤ 9223372036854775807) : binI .sub .i64 x 0 = x := by
  rw [sub_i64 (by omega) (by omega)]; omega
theorem ss {x : Int} : binI .sub .i64 x x = 0 := by
  rw [sub_i64 (by omega) (by omega)]; omega
theorem neg_i64 {x : Int} (h0 : -9223372036854775807 ≤ x) (h1 : x ≤ 9223372036854775807) : binI .sub .i64 0 x = -x := by
  rw [sub_i64 (by omega) (by omega)]; omega
set_option maxHeartbeats 4000000 in
theorem tree_holds (ρ : Env) (h0 : inR .u16 (ρ.v 0) = true) (h1 : inR .i64 (ρ.v 1) = true) (h2 : inR .i64 (ρ.v 2) = true) (h3 : inR .u32 (ρ.v 3) = true) (hf : ∀ j, 100 ≤ j → ρ.f j = F j) : tree.holds (fun _ _ => True) saysTrue ρ := by
  have b3 := u32_in h3
  obtain ⟨r, hr, r0, r1⟩ := rate_in h0
  have ht : IntKind.i64.wrap (ρ.v 3) = ρ.v 3 := wrap_i64 (by omega) (by omega)
  unfold tree
  simp only [Tree.holds, ev_lss, ev_lss', ev_neq, ev_neq', ev_eql, ev_eql', saysTrue, ev_lit0, ev_lit1, den, dens, hf 104 (by omega), hf 106 (by omega), f104, f106, hr, ht, if_neg (rate_ok r0)]
  generalize ρ.v 3 = t at *
  obtain ⟨e1, m0, m1⟩ := mdv (t := t) (r := r) (by omega) (by omega) r0 r1
  obtain ⟨e2, k0, k1⟩ := mdv (t := 5000000) (r := r) (by omega) (by omega) r0 r1
  generalize t * r / 1000000 = m at *
  have p1 := clp_mem (a := ρ.v 1) (lo := -2305843009213693952) (hi := 2305843009213693952) (by omega)
  have p2 := clp_mem (a := ρ.v 2) (lo := -2305843009213693952) (hi := 2305843009213693952) (by omega)
  generalize clp (ρ.v 1) (-2305843009213693952) 2305843009213693952 = p at *
  generalize clp (ρ.v 2) (-2305843009213693952) 2305843009213693952 = q at *
  have z : clp 0 (-2305843009213693952) 2305843009213693952 = 0 := clp_id (by omega) (by omega)
  have n1 := clp_mem (a := q) (lo := -m) (hi := m) (by omega)
  have x1 : binI .sub .i64 t 0 = t := s0' (by omega) (by omega)
  have x2 : binI .sub .i64 0 m = -m := neg_i64 (by omega) (by omega)
  have x3 : binI .add .i64 0 t = t := a0 (by omega) (by omega)
  have x4 : binI .add .i64 t 5000000 = t + 5000000 := add_i64 (by omega) (by omega)
  have x5 : binI .sub .i64 (t + 5000000) t = 5000000 := by rw [sub_i64 (by omega) (by omega)]; omega
  have x6 : binI .add .i64 t (clp q (-m) m) = t + clp q (-m) m := add_i64 (by omega) (by omega)
  have x7 : binI .add .i64 (t + clp q (-m) m) 0 = t + clp q (-m) m := a0' (by omega) (by omega)
  have x8 : binI .add .i64 (t + clp q (-m) m) 5000000 = t + clp q (-m) m + 5000000 := add_i64 (by omega) (by omega)
  have x9 : ∀ k : Int, 0 ≤ k → k ≤ 2500 → clp 0 (binI .sub .i64 0 k) k = 0 := fun k h0 h1 => by
    rw [neg_i64 (by omega) (by omega)]
    exact clp_id (by omega) (by omega)
  have x10 : binI .add .i64 (t + clp q (-m) m + 5000000) 0 = t + clp q (-m) m + 5000000 := a0' (by omega) (by omega)
  have x11 := x9 _ k0 (by omega)
  simp only [md0, s00, clp_same, a00, x1, e1, x2, x3, z, x4, x5, e2, x6, x7, x8, x11, x10, ss]
  repeat' (first | exact trivial | (refine ⟨fun _ => ?_, fun _ => ?_⟩) | omega)
end Go.Proofs.Ytplkegifilheeaa.TSlewForgets
