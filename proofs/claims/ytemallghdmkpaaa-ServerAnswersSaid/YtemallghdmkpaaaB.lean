/- Contracts by hand, in letters: stamps, sums that stop at the ends. No conditions. -/
import Derived.Test.YtemallghdmkpaaaSX3
import Derived.Test.YtemallghdmkpaaaLSa
import Derived.Test.YtemallghdmkpaaaLRe1
import Derived.Test.YtemallghdmkpaaaLSt
namespace Go.Proofs.Ytemallghdmkpaaa.B
open Go Go.SX Go.Proofs.Ytemallghdmkpaaa Go.Proofs.Ytemallghdmkpaaa.L Go.Proofs.Ytemallghdmkpaaa.G
open Go.Proofs.YtemallghdmkpaaaW.PrintWords Go.Proofs.YtemallghdmkpaaaW.PrintLast Go.Proofs.YtemallghdmkpaaaW.PrintMore
set_option linter.unusedVariables false
set_option linter.unusedSimpArgs false
theorem in_u64' {x : Int} (h : U64 x) : inR .u64 x = true := in_u64 (by unfold U64 at h; omega)
theorem u64_in' {x : Int} (h : inR .u64 x = true) : U64 x := by have := u64_in h; unfold U64; omega
/-- What is wrong with a way. -/
def ck (k a b c e : Int) : Int := if k < 0 ∨ 3 < k then 10 else if a < 0 ∨ 1099511627776 < a ∨ b < 0 ∨ 1099511627776 < b ∨ c < 0 ∨ 1099511627776 < c ∨ e < -1125899906842624 ∨ 1125899906842624 < e then 3 else 0
def F : Nat → List Int → Int := fun j l =>
  if j = 120 then fr (l.getD 0 0)
  else if j = 121 then clamp ((l.getD 0 0) + (l.getD 1 0))
  else if j = 122 then df (l.getD 0 0) (l.getD 1 0)
  else if j = 130 then ck (l.getD 0 0) (l.getD 1 0) (l.getD 2 0) (l.getD 3 0) (l.getD 4 0)
  else 0
def cus : FuncId → List AV → Option AV
  | 32, [.int .i64 a] => some (.int .u64 (.app 120 (.cons a .nil)))
  | 23, [.int .i64 a] => some (.int .u64 (.app 120 (.cons a .nil)))
  | 30, [.int .i64 a, .int .i64 b] => some (.int .i64 (.app 121 (.cons a (.cons b .nil))))
  | 24, [.int .i64 a, .int .i64 b] => some (.int .i64 (.app 121 (.cons a (.cons b .nil))))
  | 31, [.int .u64 a, .int .u64 b] => some (.int .i64 (.app 122 (.cons a (.cons b .nil))))
  | _, _ => none
theorem cus_ok : CusOk Try.prog F cus := by
  intro f args v h bs ρ w vs hF hv
  unfold cus at h
  split at h
  · rename_i a
    cases h
    have hv0 := hv
    obtain ⟨i0, us, rfl, hv1⟩ := dvl_int hv0
    obtain rfl := dvl_end hv1
    have e0 : ρ.f 120 [den ρ a] = fr (den ρ a) := by rw [hF 120 (by omega)]; rfl
    refine ⟨_, dv_int_mk (by simp only [den, dens]; rw [e0]; exact in_u64' (fr_range _)), ?_⟩
    simp only [den, dens, e0]
    exact (stamp_From.calls 30 _ _ w (stamp_From_eq 30 (by omega) (i64_in i0))).mono fun e w' h => ⟨h.1, h.2.below⟩
  · rename_i a
    cases h
    have hv0 := hv
    obtain ⟨i0, us, rfl, hv1⟩ := dvl_int hv0
    obtain rfl := dvl_end hv1
    have e0 : ρ.f 120 [den ρ a] = fr (den ρ a) := by rw [hF 120 (by omega)]; rfl
    refine ⟨_, dv_int_mk (by simp only [den, dens]; rw [e0]; exact in_u64' (fr_range _)), ?_⟩
    simp only [den, dens, e0]
    exact (chronobateref02_From.calls _ _ w (ref2_From_eq (i64_in i0))).mono fun e w' h => ⟨h.1, h.2.below⟩
  · rename_i a b
    cases h
    have hv0 := hv
    obtain ⟨i0, us, rfl, hv1⟩ := dvl_int hv0
    obtain ⟨i1, us, rfl, hv2⟩ := dvl_int hv1
    obtain rfl := dvl_end hv2
    have e0 : ρ.f 121 [den ρ a, den ρ b] = clamp ((den ρ a) + (den ρ b)) := by rw [hF 121 (by omega)]; rfl
    refine ⟨_, dv_int_mk (by simp only [den, dens]; rw [e0]; exact in_i64 (clamp_range _)), ?_⟩
    simp only [den, dens, e0]
    exact (sat_Add.calls _ _ _ w (sat_Add_eq (i64_in i0) (i64_in i1))).mono fun e w' h => ⟨h.1, h.2.below⟩
  · rename_i a b
    cases h
    have hv0 := hv
    obtain ⟨i0, us, rfl, hv1⟩ := dvl_int hv0
    obtain ⟨i1, us, rfl, hv2⟩ := dvl_int hv1
    obtain rfl := dvl_end hv2
    have e0 : ρ.f 121 [den ρ a, den ρ b] = clamp ((den ρ a) + (den ρ b)) := by rw [hF 121 (by omega)]; rfl
    refine ⟨_, dv_int_mk (by simp only [den, dens]; rw [e0]; exact in_i64 (clamp_range _)), ?_⟩
    simp only [den, dens, e0]
    exact (chronobateref01_Add.calls 1 _ _ _ w (ref1_Add 1 (by omega) (i64_in i0) (i64_in i1))).mono fun e w' h => ⟨h.1, h.2.below⟩
  · rename_i a b
    cases h
    have hv0 := hv
    obtain ⟨i0, us, rfl, hv1⟩ := dvl_int hv0
    obtain ⟨i1, us, rfl, hv2⟩ := dvl_int hv1
    obtain rfl := dvl_end hv2
    have e0 : ρ.f 122 [den ρ a, den ρ b] = df (den ρ a) (den ρ b) := by rw [hF 122 (by omega)]; rfl
    refine ⟨_, dv_int_mk (by simp only [den, dens]; rw [e0]; exact in_i64 (by have := df_range (den ρ a) (den ρ b); omega)), ?_⟩
    simp only [den, dens, e0]
    exact (stamp_Diff.calls 30 _ _ _ w (stamp_Diff_eq 30 (by omega) (u64_in' i0) (u64_in' i1)))
  · cases h
end Go.Proofs.Ytemallghdmkpaaa.B
