/- Contracts by hand, in letters: stamps, sums that stop at the ends. No conditions. -/
import Derived.Test.YtplkegifilheeaaSX3
import Derived.Test.YtplkegifilheeaaLSa
namespace Go.Proofs.Ytplkegifilheeaa.B
open Go Go.SX Go.Proofs.Ytplkegifilheeaa Go.Proofs.Ytplkegifilheeaa.L Go.Proofs.Ytplkegifilheeaa.G
open Go.Proofs.YtplkegifilheeaaW.PrintWords Go.Proofs.YtplkegifilheeaaW.PrintLast Go.Proofs.YtplkegifilheeaaW.PrintMore
set_option linter.unusedVariables false
set_option linter.unusedSimpArgs false
theorem in_u64' {x : Int} (h : U64 x) : inR .u64 x = true := in_u64 (by unfold U64 at h; omega)
theorem mid_range {a b : Int} (h0 : -9223372036854775808 ≤ a ∧ a ≤ 9223372036854775807) (h1 : -9223372036854775808 ≤ b ∧ b ≤ 9223372036854775807) : -9223372036854775808 ≤ (a + b) / 2 ∧ (a + b) / 2 ≤ 9223372036854775807 := by omega
theorem u64_in' {x : Int} (h : inR .u64 x = true) : U64 x := by have := u64_in h; unfold U64; omega
def clp (a lo hi : Int) : Int := if a < lo then lo else if a > hi then hi else a
theorem clp_range {a b c : Int} (h0 : -9223372036854775808 ≤ a ∧ a ≤ 9223372036854775807) (h1 : -9223372036854775808 ≤ b ∧ b ≤ 9223372036854775807) (h2 : -9223372036854775808 ≤ c ∧ c ≤ 9223372036854775807) : -9223372036854775808 ≤ clp a b c ∧ clp a b c ≤ 9223372036854775807 := by unfold clp; split <;> (try split) <;> omega

def F : Nat → List Int → Int := fun j l =>
  if j = 104 then (if (l.getD 1 0) < 0 ∨ (l.getD 2 0) < 1 then 0 else md (l.getD 0 0) (l.getD 1 0) (l.getD 2 0))
  else if j = 105 then (if (l.getD 1 0) < 0 ∨ (l.getD 2 0) < 1 then 2 else 0)
  else if j = 106 then clp (l.getD 0 0) (l.getD 1 0) (l.getD 2 0)
  else 0
def cus : FuncId → List AV → Option AV
  | 17, [.int .i64 a, .int .i64 b, .int .i64 c] => some (.tuple (ofList [.int .i64 (.app 104 (.cons a (.cons b (.cons c .nil)))), .int .i64 (.app 105 (.cons a (.cons b (.cons c .nil))))]))
  | 24, [.int .i64 a, .int .i64 b, .int .i64 c] => some (.int .i64 (.app 106 (.cons a (.cons b (.cons c .nil)))))
  | _, _ => none
theorem cus_ok : CusOk Try.prog F cus := by
  intro f args v h bs ρ w vs hF hv
  unfold cus at h
  split at h
  · rename_i a b c
    cases h
    have hv0 := hv
    obtain ⟨i0, us, rfl, hv1⟩ := dvl_int hv0
    obtain ⟨i1, us, rfl, hv2⟩ := dvl_int hv1
    obtain ⟨i2, us, rfl, hv3⟩ := dvl_int hv2
    obtain rfl := dvl_end hv3
    have e0 : ρ.f 104 [den ρ a, den ρ b, den ρ c] = (if (den ρ b) < 0 ∨ (den ρ c) < 1 then 0 else md (den ρ a) (den ρ b) (den ρ c)) := by rw [hF 104 (by omega) (by omega)]; rfl
    have e1 : ρ.f 105 [den ρ a, den ρ b, den ρ c] = (if (den ρ b) < 0 ∨ (den ρ c) < 1 then 2 else 0) := by rw [hF 105 (by omega) (by omega)]; rfl
    have hr := md_range (den ρ a) (den ρ b) (den ρ c)
    unfold I64 at hr
    refine ⟨_, dv_pair (by simp only [den, dens]; rw [e0]; exact in_i64 (by split <;> omega)) (by simp only [den, dens]; rw [e1]; exact in_i64 (by split <;> omega)), ?_⟩
    simp only [den, dens, e0, e1]
    by_cases hb : den ρ b < 0 ∨ den ρ c < 1
    · simp only [if_pos hb]
      exact (sat_MulDiv.calls 30 _ _ _ _ _ w (sat_MulDiv_bad 30 (by omega) hb)).mono fun e w' h => ⟨h.1, by first | exact h.2 | exact h.2.below⟩
    · simp only [if_neg hb]
      exact (sat_MulDiv.calls 30 _ _ _ _ _ w (sat_MulDiv_eq 30 (by omega) (i64_in i0) (i64_in i1) (i64_in i2) (by omega) (by omega))).mono fun e w' h => ⟨h.1, by first | exact h.2 | exact h.2.below⟩
  · rename_i a b c
    cases h
    have hv0 := hv
    obtain ⟨i0, us, rfl, hv1⟩ := dvl_int hv0
    obtain ⟨i1, us, rfl, hv2⟩ := dvl_int hv1
    obtain ⟨i2, us, rfl, hv3⟩ := dvl_int hv2
    obtain rfl := dvl_end hv3
    have e0 : ρ.f 106 [den ρ a, den ρ b, den ρ c] = clp (den ρ a) (den ρ b) (den ρ c) := by rw [hF 106 (by omega) (by omega)]; rfl
    refine ⟨_, dv_int_mk (by simp only [den, dens]; rw [e0]; exact in_i64 (clp_range (i64_in i0) (i64_in i1) (i64_in i2))), ?_⟩
    simp only [den, dens, e0]
    exact (sat_Clamp.calls _ _ _ _ w (sat_Clamp_eq _ _ _)).mono fun e w' h => ⟨h.1, by first | exact h.2 | exact h.2.below⟩
  · cases h
end Go.Proofs.Ytplkegifilheeaa.B
