/- The tree of the law SampleStays, and that all its ends say true. No conditions. -/
import Derived.Test.YtnagappcpmnkbaaSX3
import Derived.Test.YtnagappcpmnkbaaProg
import Derived.KernelRfl
import Derived.Test.YtnagappcpmnkbaaSX3
import Derived.Test.YtnagappcpmnkbaaLSn
namespace Go.Proofs.Ytnagappcpmnkbaa.TSampleStays
open Go Go.SX
set_option maxRecDepth 100000
set_option linter.unusedVariables false
set_option linter.unusedSimpArgs false
open Go.Proofs.Ytnagappcpmnkbaa.L Go.Proofs.Ytnagappcpmnkbaa.G
open Go.Proofs.YtnagappcpmnkbaaW.PrintWords Go.Proofs.YtnagappcpmnkbaaW.PrintLast Go.Proofs.YtnagappcpmnkbaaW.PrintMore
def sums : FuncId → List AV → Option AV
  | 14, [.int .i64 n] => some (.int .u64 (.app 101 (.cons n .nil)))
  | 11, [.int .i64 s, .int .i64 c, .int .u64 r, .int .u64 x] => some (.tuple (ofList [.int .i64 (.app 102 (.cons s (.cons c (.cons r (.cons x .nil))))), .int .i64 (.app 103 (.cons s (.cons c (.cons r (.cons x .nil)))))]))
  | 13, [] => some (.bool (.lit 1))
  | _, _ => none
def cfg : Cfg := { ok := (List.range 37).map (· + 3), sums := sums, loops := [] }
def F : Nat → List Int → Int := fun j l =>
  match l with
  | [n] => if j = 101 then fr n else 0
  | [s, c, r, x] => if j = 102 then (df r (fr s) + df x (fr c)) / 2 else if j = 103 then mx 0 (clamp (clamp (c - s) - df x r)) else 0
  | _ => 0
theorem cfg_ok (G : Nat → List Int → Int) (hG : ∀ j, 100 ≤ j → G j = F j) : CfgOk Try.prog cfg G := by
  refine ⟨by kernel_rfl, okB_spec (by kernel_rfl), fun f args v h bs ρ w vs hρ hv => ?_⟩
  have h' : sums f args = some v := h
  unfold sums at h'
  split at h'
  · rename_i n
    cases h'
    obtain ⟨i0, us, rfl, hv1⟩ := dvl_int hv
    obtain rfl := dvl_end hv1
    have e : ρ.f 101 [den ρ n] = fr (den ρ n) := by rw [hρ, hG 101 (by omega)]; rfl
    have hr := fr_range (den ρ n)
    unfold U64 at hr
    refine ⟨.int .u64 (fr (den ρ n)), ?_, (stamp_From.calls 30 _ _ w (stamp_From_eq 30 (by omega) (i64_in i0))).mono fun e w' h => ⟨h.1, h.2.below⟩⟩
    rw [dv_int_mk (by simp only [den, dens]; rw [e]; exact in_u64 hr)]
    simp only [den, dens, e]
  · rename_i s c r x
    cases h'
    obtain ⟨i0, us, rfl, hv1⟩ := dvl_int hv
    obtain ⟨i1, us, rfl, hv2⟩ := dvl_int hv1
    obtain ⟨i2, us, rfl, hv3⟩ := dvl_int hv2
    obtain ⟨i3, us, rfl, hv4⟩ := dvl_int hv3
    obtain rfl := dvl_end hv4
    have e2 : ρ.f 102 [den ρ s, den ρ c, den ρ r, den ρ x] = (df (den ρ r) (fr (den ρ s)) + df (den ρ x) (fr (den ρ c))) / 2 := by rw [hρ, hG 102 (by omega)]; rfl
    have e3 : ρ.f 103 [den ρ s, den ρ c, den ρ r, den ρ x] = mx 0 (clamp (clamp (den ρ c - den ρ s) - df (den ρ x) (den ρ r))) := by rw [hρ, hG 103 (by omega)]; rfl
    have hr := df_range (den ρ r) (fr (den ρ s))
    have hr' := df_range (den ρ x) (fr (den ρ c))
    have hc := clamp_range (clamp (den ρ c - den ρ s) - df (den ρ x) (den ρ r))
    unfold I64 at hc
    refine ⟨_, dv_pair (by simp only [den, dens]; rw [e2]; exact in_i64 (by omega)) (by simp only [den, dens]; rw [e3]; exact in_i64 (by rw [mx0]; split <;> omega)), ?_⟩
    simp only [den, dens, e2, e3]
    exact sample_Make.calls 30 _ _ _ _ _ _ w (sample_Make_eq 30 (by omega) (i64_in i0) (i64_in i1) (u64_in i2) (u64_in i3))
  · cases h'
    obtain rfl := dvl_end hv
    exact ⟨.bool true, rfl, chronobatelaw08_alive.calls 30 _ w (alive8 30 (by omega))⟩
  · cases h'
def args : List AV := [.int .i64 (.var 0), .agg (ofList [.int .u32 (.var 1), .int .u32 (.var 2), .int .u32 (.var 3)]), .int .u32 (.var 4)]
def mem : List AObj := []
def tree : Tree :=
(.ite (.cmp .leq (.bin .sub .i64 (.app 103 (.cons (.bin .rem .i64 (.var 0) (.lit 576460752303423488)) (.cons (.bin .add .i64 (.bin .add .i64 (.bin .add .i64 (.bin .rem .i64 (.var 0) (.lit 576460752303423488)) (.conv .i64 (.var 1))) (.bin .add .i64 (.conv .i64 (.var 2)) (.conv .i64 (.var 4)))) (.conv .i64 (.var 3))) (.cons (.app 101 (.cons (.bin .add .i64 (.bin .rem .i64 (.var 0) (.lit 576460752303423488)) (.conv .i64 (.var 1))) .nil)) (.cons (.app 101 (.cons (.bin .add .i64 (.bin .add .i64 (.bin .rem .i64 (.var 0) (.lit 576460752303423488)) (.conv .i64 (.var 1))) (.bin .add .i64 (.conv .i64 (.var 2)) (.conv .i64 (.var 4)))) .nil)) .nil))))) (.lit 4)) (.app 103 (.cons (.bin .rem .i64 (.var 0) (.lit 576460752303423488)) (.cons (.bin .add .i64 (.bin .add .i64 (.bin .add .i64 (.bin .rem .i64 (.var 0) (.lit 576460752303423488)) (.conv .i64 (.var 1))) (.conv .i64 (.var 2))) (.conv .i64 (.var 3))) (.cons (.app 101 (.cons (.bin .add .i64 (.bin .rem .i64 (.var 0) (.lit 576460752303423488)) (.conv .i64 (.var 1))) .nil)) (.cons (.app 101 (.cons (.bin .add .i64 (.bin .add .i64 (.bin .rem .i64 (.var 0) (.lit 576460752303423488)) (.conv .i64 (.var 1))) (.conv .i64 (.var 2))) .nil)) .nil))))))
 (.ite (.cmp .leq (.app 103 (.cons (.bin .rem .i64 (.var 0) (.lit 576460752303423488)) (.cons (.bin .add .i64 (.bin .add .i64 (.bin .add .i64 (.bin .rem .i64 (.var 0) (.lit 576460752303423488)) (.conv .i64 (.var 1))) (.conv .i64 (.var 2))) (.conv .i64 (.var 3))) (.cons (.app 101 (.cons (.bin .add .i64 (.bin .rem .i64 (.var 0) (.lit 576460752303423488)) (.conv .i64 (.var 1))) .nil)) (.cons (.app 101 (.cons (.bin .add .i64 (.bin .add .i64 (.bin .rem .i64 (.var 0) (.lit 576460752303423488)) (.conv .i64 (.var 1))) (.conv .i64 (.var 2))) .nil)) .nil))))) (.bin .add .i64 (.app 103 (.cons (.bin .rem .i64 (.var 0) (.lit 576460752303423488)) (.cons (.bin .add .i64 (.bin .add .i64 (.bin .add .i64 (.bin .rem .i64 (.var 0) (.lit 576460752303423488)) (.conv .i64 (.var 1))) (.bin .add .i64 (.conv .i64 (.var 2)) (.conv .i64 (.var 4)))) (.conv .i64 (.var 3))) (.cons (.app 101 (.cons (.bin .add .i64 (.bin .rem .i64 (.var 0) (.lit 576460752303423488)) (.conv .i64 (.var 1))) .nil)) (.cons (.app 101 (.cons (.bin .add .i64 (.bin .add .i64 (.bin .rem .i64 (.var 0) (.lit 576460752303423488)) (.conv .i64 (.var 1))) (.bin .add .i64 (.conv .i64 (.var 2)) (.conv .i64 (.var 4)))) .nil)) .nil))))) (.lit 4)))
 (.ite (.cmp .leq (.bin .sub .i64 (.bin .add .i64 (.app 103 (.cons (.bin .rem .i64 (.var 0) (.lit 576460752303423488)) (.cons (.bin .add .i64 (.bin .add .i64 (.bin .add .i64 (.bin .rem .i64 (.var 0) (.lit 576460752303423488)) (.conv .i64 (.var 1))) (.conv .i64 (.var 2))) (.conv .i64 (.var 3))) (.cons (.app 101 (.cons (.bin .add .i64 (.bin .rem .i64 (.var 0) (.lit 576460752303423488)) (.conv .i64 (.var 1))) .nil)) (.cons (.app 101 (.cons (.bin .add .i64 (.bin .add .i64 (.bin .rem .i64 (.var 0) (.lit 576460752303423488)) (.conv .i64 (.var 1))) (.conv .i64 (.var 2))) .nil)) .nil))))) (.conv .i64 (.var 4))) (.lit 4)) (.app 103 (.cons (.bin .rem .i64 (.var 0) (.lit 576460752303423488)) (.cons (.bin .add .i64 (.bin .add .i64 (.bin .add .i64 (.bin .rem .i64 (.var 0) (.lit 576460752303423488)) (.bin .add .i64 (.conv .i64 (.var 1)) (.conv .i64 (.var 4)))) (.conv .i64 (.var 2))) (.conv .i64 (.var 3))) (.cons (.app 101 (.cons (.bin .add .i64 (.bin .rem .i64 (.var 0) (.lit 576460752303423488)) (.bin .add .i64 (.conv .i64 (.var 1)) (.conv .i64 (.var 4)))) .nil)) (.cons (.app 101 (.cons (.bin .add .i64 (.bin .add .i64 (.bin .rem .i64 (.var 0) (.lit 576460752303423488)) (.bin .add .i64 (.conv .i64 (.var 1)) (.conv .i64 (.var 4)))) (.conv .i64 (.var 2))) .nil)) .nil))))))
 (.leaf (.bool (.cmp .leq (.app 103 (.cons (.bin .rem .i64 (.var 0) (.lit 576460752303423488)) (.cons (.bin .add .i64 (.bin .add .i64 (.bin .add .i64 (.bin .rem .i64 (.var 0) (.lit 576460752303423488)) (.bin .add .i64 (.conv .i64 (.var 1)) (.conv .i64 (.var 4)))) (.conv .i64 (.var 2))) (.conv .i64 (.var 3))) (.cons (.app 101 (.cons (.bin .add .i64 (.bin .rem .i64 (.var 0) (.lit 576460752303423488)) (.bin .add .i64 (.conv .i64 (.var 1)) (.conv .i64 (.var 4)))) .nil)) (.cons (.app 101 (.cons (.bin .add .i64 (.bin .add .i64 (.bin .rem .i64 (.var 0) (.lit 576460752303423488)) (.bin .add .i64 (.conv .i64 (.var 1)) (.conv .i64 (.var 4)))) (.conv .i64 (.var 2))) .nil)) .nil))))) (.bin .add .i64 (.bin .add .i64 (.app 103 (.cons (.bin .rem .i64 (.var 0) (.lit 576460752303423488)) (.cons (.bin .add .i64 (.bin .add .i64 (.bin .add .i64 (.bin .rem .i64 (.var 0) (.lit 576460752303423488)) (.conv .i64 (.var 1))) (.conv .i64 (.var 2))) (.conv .i64 (.var 3))) (.cons (.app 101 (.cons (.bin .add .i64 (.bin .rem .i64 (.var 0) (.lit 576460752303423488)) (.conv .i64 (.var 1))) .nil)) (.cons (.app 101 (.cons (.bin .add .i64 (.bin .add .i64 (.bin .rem .i64 (.var 0) (.lit 576460752303423488)) (.conv .i64 (.var 1))) (.conv .i64 (.var 2))) .nil)) .nil))))) (.conv .i64 (.var 4))) (.lit 4)))) [])
 (.leaf (.bool (.lit 0)) []))
 (.leaf (.bool (.lit 0)) []))
 (.leaf (.bool (.lit 0)) []))
set_option maxHeartbeats 40000000 in
theorem tree_eq : callT Try.prog cfg 100000 0 5 args mem [] = tree := by kernel_rfl
theorem stays {t d y b : Int} (ht : -576460752303423488 < t ∧ t < 576460752303423488) (hd : 0 ≤ d ∧ d ≤ 8589934590) (hy : 0 ≤ y ∧ y ≤ 8589934590) (hb : 0 ≤ b ∧ b ≤ 8589934590) :
    0 ≤ F 103 [t, t + d + y + b, fr (t + d), fr (t + d + y)] ∧ d + b - 2 ≤ F 103 [t, t + d + y + b, fr (t + d), fr (t + d + y)] ∧ F 103 [t, t + d + y + b, fr (t + d), fr (t + d + y)] ≤ d + b + 2 := by
  have e : F 103 [t, t + d + y + b, fr (t + d), fr (t + d + y)] = mx 0 (clamp (clamp (t + d + y + b - t) - df (fr (t + d + y)) (fr (t + d)))) := rfl
  rw [e]
  have h := df_near (t + d) y (by omega) (by omega)
  rw [clamp_id (n := t + d + y + b - t) (by unfold I64; omega)]
  generalize df (fr (t + d + y)) (fr (t + d)) = q at *
  rw [clamp_id (by unfold I64; omega), mx0]
  split <;> omega
set_option maxHeartbeats 4000000 in
theorem tree_holds (ρ : Env) (h0 : inR .i64 (ρ.v 0) = true) (h1 : inR .u32 (ρ.v 1) = true) (h2 : inR .u32 (ρ.v 2) = true) (h3 : inR .u32 (ρ.v 3) = true) (h4 : inR .u32 (ρ.v 4) = true) (hf : ∀ j, 100 ≤ j → ρ.f j = F j) : tree.holds (fun _ _ => True) saysTrue ρ := by
  have b1 := u32_in h1
  have b2 := u32_in h2
  have b3 := u32_in h3
  have b4 := u32_in h4
  have ht := tmod_range (ρ.v 0) 576460752303423488 (by omega)
  unfold tree
  simp only [Tree.holds, ev_leq, ev_leq', saysTrue, ev_lit1, ev_lit0, den, dens, rem_i64, hf 101 (by omega), hf 103 (by omega)]
  have f1 : ∀ n, F 101 [n] = fr n := fun n => rfl
  simp only [f1]
  generalize Int.tmod (ρ.v 0) 576460752303423488 = t at *
  have w1 : IntKind.i64.wrap (ρ.v 1) = ρ.v 1 := wrap_i64 (by omega) (by omega)
  have w2 : IntKind.i64.wrap (ρ.v 2) = ρ.v 2 := wrap_i64 (by omega) (by omega)
  have w3 : IntKind.i64.wrap (ρ.v 3) = ρ.v 3 := wrap_i64 (by omega) (by omega)
  have w4 : IntKind.i64.wrap (ρ.v 4) = ρ.v 4 := wrap_i64 (by omega) (by omega)
  simp only [w1, w2, w3, w4]
  generalize ρ.v 1 = d at *
  generalize ρ.v 2 = y at *
  generalize ρ.v 3 = b at *
  generalize ρ.v 4 = m at *
  have a1 : binI .add .i64 t d = t + d := add_i64 (by omega) (by omega)
  have a2 : binI .add .i64 (t + d) y = t + d + y := add_i64 (by omega) (by omega)
  have a3 : binI .add .i64 (t + d + y) b = t + d + y + b := add_i64 (by omega) (by omega)
  have a4 : binI .add .i64 y m = y + m := add_i64 (by omega) (by omega)
  have a5 : binI .add .i64 (t + d) (y + m) = t + d + (y + m) := add_i64 (by omega) (by omega)
  have a6 : binI .add .i64 (t + d + (y + m)) b = t + d + (y + m) + b := add_i64 (by omega) (by omega)
  have a7 : binI .add .i64 d m = d + m := add_i64 (by omega) (by omega)
  have a8 : binI .add .i64 t (d + m) = t + (d + m) := add_i64 (by omega) (by omega)
  have a9 : binI .add .i64 (t + (d + m)) y = t + (d + m) + y := add_i64 (by omega) (by omega)
  have a10 : binI .add .i64 (t + (d + m) + y) b = t + (d + m) + y + b := add_i64 (by omega) (by omega)
  simp only [a1, a2, a3, a4, a5, a6, a7, a8, a9, a10]
  have A := stays (t := t) (d := d) (y := y) (b := b) ht (by omega) (by omega) (by omega)
  have B := stays (t := t) (d := d) (y := y + m) (b := b) ht (by omega) (by omega) (by omega)
  have C := stays (t := t) (d := d + m) (y := y) (b := b) ht (by omega) (by omega) (by omega)
  generalize F 103 [t, t + d + y + b, fr (t + d), fr (t + d + y)] = x at *
  generalize F 103 [t, t + d + (y + m) + b, fr (t + d), fr (t + d + (y + m))] = z at *
  generalize F 103 [t, t + (d + m) + y + b, fr (t + (d + m)), fr (t + (d + m) + y)] = u at *
  have s1 : binI .sub .i64 z 4 = z - 4 := sub_i64 (by omega) (by omega)
  have s2 : binI .add .i64 z 4 = z + 4 := add_i64 (by omega) (by omega)
  have s3 : binI .add .i64 x m = x + m := add_i64 (by omega) (by omega)
  have s4 : binI .sub .i64 (x + m) 4 = x + m - 4 := sub_i64 (by omega) (by omega)
  have s5 : binI .add .i64 (x + m) 4 = x + m + 4 := add_i64 (by omega) (by omega)
  simp only [s1, s2, s3, s4, s5]
  omega
end Go.Proofs.Ytnagappcpmnkbaa.TSampleStays
