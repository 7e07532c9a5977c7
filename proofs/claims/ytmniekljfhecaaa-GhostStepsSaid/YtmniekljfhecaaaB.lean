/- Contracts by hand, in letters: stamps, sums that stop at the ends. No conditions. -/
import Derived.Test.YtmniekljfhecaaaSX3
import Derived.Test.YtmniekljfhecaaaLSa
import Derived.Test.YtmniekljfhecaaaLRe1
import Derived.Test.YtmniekljfhecaaaLGh
namespace Go.Proofs.Ytmniekljfhecaaa.B
open Go Go.SX Go.Proofs.Ytmniekljfhecaaa Go.Proofs.Ytmniekljfhecaaa.L Go.Proofs.Ytmniekljfhecaaa.G
open Go.Proofs.YtmniekljfhecaaaW.PrintWords Go.Proofs.YtmniekljfhecaaaW.PrintLast Go.Proofs.YtmniekljfhecaaaW.PrintMore
set_option linter.unusedVariables false
set_option linter.unusedSimpArgs false
theorem in_u64' {x : Int} (h : U64 x) : inR .u64 x = true := in_u64 (by unfold U64 at h; omega)
theorem mid_range {a b : Int} (h0 : -9223372036854775808 ≤ a ∧ a ≤ 9223372036854775807) (h1 : -9223372036854775808 ≤ b ∧ b ≤ 9223372036854775807) : -9223372036854775808 ≤ (a + b) / 2 ∧ (a + b) / 2 ≤ 9223372036854775807 := by omega
theorem u64_in' {x : Int} (h : inR .u64 x = true) : U64 x := by have := u64_in h; unfold U64; omega
def ab (a : Int) : Int := if a < 0 then clamp (-a) else a
theorem ab_range {a : Int} (h : -9223372036854775808 ≤ a ∧ a ≤ 9223372036854775807) : -9223372036854775808 ≤ ab a ∧ ab a ≤ 9223372036854775807 := by unfold ab; split; exact clamp_range _; exact h
/-- What is wrong with a step. -/
def cd (t h r a b : Int) : Int := if a < 0 ∨ b < 0 ∨ 1125899906842624 < a ∨ 1125899906842624 < b then 3 else if Fine r a b then (if 2305843009213693952 < t + a ∨ 2305843009213693952 < h + b then 11 else 0) else 9
/-- What is wrong with a ghost. -/
def gn (t h r : Int) : Int := if t < -1152921504606846976 ∨ 1152921504606846976 < t ∨ h < 0 ∨ 1152921504606846976 < h ∨ r < 0 ∨ 1000000 < r then 3 else 0
def F : Nat → List Int → Int := fun j l =>
  if j = 110 then (if Fine (l.getD 0 0) (l.getD 1 0) (l.getD 2 0) then 1 else 0)
  else if j = 111 then ab (l.getD 0 0)
  else if j = 121 then clamp ((l.getD 0 0) + (l.getD 1 0))
  else if j = 150 then cd (l.getD 0 0) (l.getD 1 0) (l.getD 2 0) (l.getD 3 0) (l.getD 4 0)
  else if j = 151 then (if cd (l.getD 0 0) (l.getD 1 0) (l.getD 2 0) (l.getD 3 0) (l.getD 4 0) = 0 then l.getD 0 0 + l.getD 3 0 else l.getD 0 0)
  else if j = 152 then (if cd (l.getD 0 0) (l.getD 1 0) (l.getD 2 0) (l.getD 3 0) (l.getD 4 0) = 0 then l.getD 1 0 + l.getD 4 0 else l.getD 1 0)
  else if j = 153 then (if cd (l.getD 0 0) (l.getD 1 0) (l.getD 2 0) (l.getD 3 0) (l.getD 4 0) = 0 then IntKind.i64.wrap (l.getD 5 0 + 1) else l.getD 5 0)
  else if j = 154 then (if cd (l.getD 0 0) (l.getD 1 0) (l.getD 2 0) (l.getD 3 0) (l.getD 4 0) = 0 then IntKind.i64.wrap (l.getD 5 0 + IntKind.i64.wrap (l.getD 4 0 - l.getD 3 0)) else l.getD 5 0)
  else if j = 160 then gn (l.getD 0 0) (l.getD 1 0) (l.getD 2 0)
  else 0
def cus : FuncId → List AV → Option AV
  | 10, [.int .i64 a, .int .i64 b, .int .i64 c] => some (.bool (.app 110 (.cons a (.cons b (.cons c .nil)))))
  | 11, [.int .i64 a, .int .i64 b, .int .i64 c] => some (.bool (.app 110 (.cons a (.cons b (.cons c .nil)))))
  | 21, [.int .i64 a] => some (.int .i64 (.app 111 (.cons a .nil)))
  | 27, [.int .i64 a, .int .i64 b] => some (.int .i64 (.app 121 (.cons a (.cons b .nil))))
  | _, _ => none
theorem cus_ok : CusOk Try.prog F cus := by
  intro f args v h bs ρ w vs hF hv
  unfold cus at h
  split at h
  · rename_i a b c
    cases h
    have hv0 := hv
    obtain ⟨i0, us, rfl, hv1⟩ := dvl_int hv0
    obtain ⟨i1, us, rfl, hv2⟩ := dvl_int hv1
    obtain ⟨i2, us, rfl, hv3⟩ := dvl_int hv2
    obtain rfl := dvl_end hv3
    have e0 : ρ.f 110 [den ρ a, den ρ b, den ρ c] = (if Fine (den ρ a) (den ρ b) (den ρ c) then 1 else 0) := by rw [hF 110 (by omega) (by omega)]; rfl
    refine ⟨.bool (decide (Fine (den ρ a) (den ρ b) (den ρ c))), ?_, (ghost_Fine.calls 30 _ _ _ _ w (ghost_Fine_eq 30 (by omega) (i64_in i1) (i64_in i2))).mono fun e w' h => ⟨h.1, by first | exact h.2 | exact h.2.below⟩⟩
    show some (Value.bool (ρ.f 110 [den ρ a, den ρ b, den ρ c] != 0)) = _
    rw [e0]
    by_cases hF : Fine (den ρ a) (den ρ b) (den ρ c) <;> simp [hF]
  · rename_i a b c
    cases h
    have hv0 := hv
    obtain ⟨i0, us, rfl, hv1⟩ := dvl_int hv0
    obtain ⟨i1, us, rfl, hv2⟩ := dvl_int hv1
    obtain ⟨i2, us, rfl, hv3⟩ := dvl_int hv2
    obtain rfl := dvl_end hv3
    have e0 : ρ.f 110 [den ρ a, den ρ b, den ρ c] = (if Fine (den ρ a) (den ρ b) (den ρ c) then 1 else 0) := by rw [hF 110 (by omega) (by omega)]; rfl
    refine ⟨.bool (decide (Fine (den ρ a) (den ρ b) (den ρ c))), ?_, (chronobateref18_Fine.calls 30 _ _ _ _ w (ref18_Fine_eq 30 (by omega) (i64_in i1) (i64_in i2))).mono fun e w' h => ⟨h.1, by first | exact h.2 | exact h.2.below⟩⟩
    show some (Value.bool (ρ.f 110 [den ρ a, den ρ b, den ρ c] != 0)) = _
    rw [e0]
    by_cases hF : Fine (den ρ a) (den ρ b) (den ρ c) <;> simp [hF]
  · rename_i a
    cases h
    have hv0 := hv
    obtain ⟨i0, us, rfl, hv1⟩ := dvl_int hv0
    obtain rfl := dvl_end hv1
    have e0 : ρ.f 111 [den ρ a] = ab (den ρ a) := by rw [hF 111 (by omega) (by omega)]; rfl
    refine ⟨_, dv_int_mk (by simp only [den, dens]; rw [e0]; exact in_i64 (ab_range (i64_in i0))), ?_⟩
    simp only [den, dens, e0]
    exact (sat_Abs.calls _ _ w (sat_Abs_eq (i64_in i0))).mono fun e w' h => ⟨h.1, by first | exact h.2 | exact h.2.below⟩
  · rename_i a b
    cases h
    have hv0 := hv
    obtain ⟨i0, us, rfl, hv1⟩ := dvl_int hv0
    obtain ⟨i1, us, rfl, hv2⟩ := dvl_int hv1
    obtain rfl := dvl_end hv2
    have e0 : ρ.f 121 [den ρ a, den ρ b] = clamp ((den ρ a) + (den ρ b)) := by rw [hF 121 (by omega) (by omega)]; rfl
    refine ⟨_, dv_int_mk (by simp only [den, dens]; rw [e0]; exact in_i64 (clamp_range _)), ?_⟩
    simp only [den, dens, e0]
    exact (chronobateref01_Add.calls 1 _ _ _ w (ref1_Add 1 (by omega) (i64_in i0) (i64_in i1))).mono fun e w' h => ⟨h.1, by first | exact h.2 | exact h.2.below⟩
  · cases h
end Go.Proofs.Ytmniekljfhecaaa.B
