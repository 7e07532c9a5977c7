/- Contracts by hand, in letters: stamps, sums that stop at the ends. No conditions. -/
import Derived.Test.YtableianhaojcaaSX3
import Derived.Test.YtableianhaojcaaLSt
namespace Go.Proofs.Ytableianhaojcaa.B
open Go Go.SX Go.Proofs.Ytableianhaojcaa Go.Proofs.Ytableianhaojcaa.L Go.Proofs.Ytableianhaojcaa.G
open Go.Proofs.YtableianhaojcaaW.PrintWords Go.Proofs.YtableianhaojcaaW.PrintLast Go.Proofs.YtableianhaojcaaW.PrintMore
set_option linter.unusedVariables false
set_option linter.unusedSimpArgs false
theorem in_u64' {x : Int} (h : U64 x) : inR .u64 x = true := in_u64 (by unfold U64 at h; omega)
theorem mid_range {a b : Int} (h0 : -9223372036854775808 ≤ a ∧ a ≤ 9223372036854775807) (h1 : -9223372036854775808 ≤ b ∧ b ≤ 9223372036854775807) : -9223372036854775808 ≤ (a + b) / 2 ∧ (a + b) / 2 ≤ 9223372036854775807 := by omega
theorem u64_in' {x : Int} (h : inR .u64 x = true) : U64 x := by have := u64_in h; unfold U64; omega

/-- When something is to be done: of a state, when it is due, when was asked, the patience. -/
def nxF (l : List Int) : Int :=
  if l.getD 0 0 = 0 then (if 4611686018427387903 < l.getD 1 0 then 4611686018427387903 else l.getD 1 0)
  else if l.getD 0 0 = 1 then (if 4611686018427387903 < binI .add .i64 (binI .add .i64 (l.getD 2 0) (l.getD 3 0)) 1 then 4611686018427387903 else binI .add .i64 (binI .add .i64 (l.getD 2 0) (l.getD 3 0)) 1)
  else 4611686018427387903
theorem nxF_eq (a b c d : Int) : nxF [a, b, c, d] = if a = 0 then (if 4611686018427387903 < b then 4611686018427387903 else b) else if a = 1 then (if 4611686018427387903 < binI .add .i64 (binI .add .i64 c d) 1 then 4611686018427387903 else binI .add .i64 (binI .add .i64 c d) 1) else 4611686018427387903 := rfl
def F : Nat → List Int → Int := fun j l =>
  if j = 120 then fr (l.getD 0 0)
  else if j = 122 then df (l.getD 0 0) (l.getD 1 0)
  else if j = 123 then clamp ((l.getD 0 0) - (l.getD 1 0))
  else if j = 124 then ((l.getD 0 0) + (l.getD 1 0)) / 2
  else if j = 130 then nxF l
  else 0
def cus : FuncId → List AV → Option AV
  | 55, [.int .i64 a] => some (.int .u64 (.app 120 (.cons a .nil)))
  | 71, [.int .i64 a] => some (.int .u64 (.app 120 (.cons a .nil)))
  | 54, [.int .u64 a, .int .u64 b] => some (.int .i64 (.app 122 (.cons a (.cons b .nil))))
  | 70, [.int .u64 a, .int .u64 b] => some (.int .i64 (.app 122 (.cons a (.cons b .nil))))
  | 56, [.int .i64 a, .int .i64 b] => some (.int .i64 (.app 123 (.cons a (.cons b .nil))))
  | 72, [.int .i64 a, .int .i64 b] => some (.int .i64 (.app 123 (.cons a (.cons b .nil))))
  | 57, [.int .i64 a, .int .i64 b] => some (.int .i64 (.app 124 (.cons a (.cons b .nil))))
  | 73, [.int .i64 a, .int .i64 b] => some (.int .i64 (.app 124 (.cons a (.cons b .nil))))
  | _, _ => none
theorem cus_ok : CusOk Try.prog F cus := by
  intro f args v h bs ρ w vs hF hv
  unfold cus at h
  split at h
  · rename_i a
    cases h
    have hv0 := hv
    obtain ⟨i0, us, rfl, hv1⟩ := dvl_int hv0
    obtain rfl := dvl_end hv1
    have e0 : ρ.f 120 [den ρ a] = fr (den ρ a) := by rw [hF 120 (by omega) (by omega)]; rfl
    refine ⟨_, dv_int_mk (by simp only [den, dens]; rw [e0]; exact in_u64' (fr_range _)), ?_⟩
    simp only [den, dens, e0]
    exact (stamp_From.calls 30 _ _ w (stamp_From_eq 30 (by omega) (i64_in i0))).mono fun e w' h => ⟨h.1, h.2.below⟩
  · rename_i a
    cases h
    have hv0 := hv
    obtain ⟨i0, us, rfl, hv1⟩ := dvl_int hv0
    obtain rfl := dvl_end hv1
    have e0 : ρ.f 120 [den ρ a] = fr (den ρ a) := by rw [hF 120 (by omega) (by omega)]; rfl
    refine ⟨_, dv_int_mk (by simp only [den, dens]; rw [e0]; exact in_u64' (fr_range _)), ?_⟩
    simp only [den, dens, e0]
    exact (chronobateref02_From.calls _ _ w (ref2_From_eq (i64_in i0))).mono fun e w' h => ⟨h.1, h.2.below⟩
  · rename_i a b
    cases h
    have hv0 := hv
    obtain ⟨i0, us, rfl, hv1⟩ := dvl_int hv0
    obtain ⟨i1, us, rfl, hv2⟩ := dvl_int hv1
    obtain rfl := dvl_end hv2
    have e0 : ρ.f 122 [den ρ a, den ρ b] = df (den ρ a) (den ρ b) := by rw [hF 122 (by omega) (by omega)]; rfl
    refine ⟨_, dv_int_mk (by simp only [den, dens]; rw [e0]; exact in_i64 (by have := df_range (den ρ a) (den ρ b); omega)), ?_⟩
    simp only [den, dens, e0]
    exact (stamp_Diff.calls 30 _ _ _ w (stamp_Diff_eq 30 (by omega) (u64_in' i0) (u64_in' i1)))
  · rename_i a b
    cases h
    have hv0 := hv
    obtain ⟨i0, us, rfl, hv1⟩ := dvl_int hv0
    obtain ⟨i1, us, rfl, hv2⟩ := dvl_int hv1
    obtain rfl := dvl_end hv2
    have e0 : ρ.f 122 [den ρ a, den ρ b] = df (den ρ a) (den ρ b) := by rw [hF 122 (by omega) (by omega)]; rfl
    refine ⟨_, dv_int_mk (by simp only [den, dens]; rw [e0]; exact in_i64 (by have := df_range (den ρ a) (den ρ b); omega)), ?_⟩
    simp only [den, dens, e0]
    exact (chronobateref02_Diff.calls _ _ _ w (ref2_Diff_eq (u64_in' i0) (u64_in' i1))).mono fun e w' h => ⟨h.1, h.2.below⟩
  · rename_i a b
    cases h
    have hv0 := hv
    obtain ⟨i0, us, rfl, hv1⟩ := dvl_int hv0
    obtain ⟨i1, us, rfl, hv2⟩ := dvl_int hv1
    obtain rfl := dvl_end hv2
    have e0 : ρ.f 123 [den ρ a, den ρ b] = clamp ((den ρ a) - (den ρ b)) := by rw [hF 123 (by omega) (by omega)]; rfl
    refine ⟨_, dv_int_mk (by simp only [den, dens]; rw [e0]; exact in_i64 (clamp_range _)), ?_⟩
    simp only [den, dens, e0]
    exact (sat_Sub.calls _ _ _ w (sat_Sub_eq (i64_in i0) (i64_in i1))).mono fun e w' h => ⟨h.1, h.2.below⟩
  · rename_i a b
    cases h
    have hv0 := hv
    obtain ⟨i0, us, rfl, hv1⟩ := dvl_int hv0
    obtain ⟨i1, us, rfl, hv2⟩ := dvl_int hv1
    obtain rfl := dvl_end hv2
    have e0 : ρ.f 123 [den ρ a, den ρ b] = clamp ((den ρ a) - (den ρ b)) := by rw [hF 123 (by omega) (by omega)]; rfl
    refine ⟨_, dv_int_mk (by simp only [den, dens]; rw [e0]; exact in_i64 (clamp_range _)), ?_⟩
    simp only [den, dens, e0]
    exact (chronobateref01_Sub.calls 1 _ _ _ w (ref1_Sub 1 (by omega) (i64_in i0) (i64_in i1))).mono fun e w' h => ⟨h.1, h.2.below⟩
  · rename_i a b
    cases h
    have hv0 := hv
    obtain ⟨i0, us, rfl, hv1⟩ := dvl_int hv0
    obtain ⟨i1, us, rfl, hv2⟩ := dvl_int hv1
    obtain rfl := dvl_end hv2
    have e0 : ρ.f 124 [den ρ a, den ρ b] = ((den ρ a) + (den ρ b)) / 2 := by rw [hF 124 (by omega) (by omega)]; rfl
    refine ⟨_, dv_int_mk (by simp only [den, dens]; rw [e0]; exact in_i64 (mid_range (i64_in i0) (i64_in i1))), ?_⟩
    simp only [den, dens, e0]
    exact (sat_Mid.calls _ _ _ w (sat_Mid_eq (i64_in i0) (i64_in i1))).mono fun e w' h => ⟨h.1, h.2.below⟩
  · rename_i a b
    cases h
    have hv0 := hv
    obtain ⟨i0, us, rfl, hv1⟩ := dvl_int hv0
    obtain ⟨i1, us, rfl, hv2⟩ := dvl_int hv1
    obtain rfl := dvl_end hv2
    have e0 : ρ.f 124 [den ρ a, den ρ b] = ((den ρ a) + (den ρ b)) / 2 := by rw [hF 124 (by omega) (by omega)]; rfl
    refine ⟨_, dv_int_mk (by simp only [den, dens]; rw [e0]; exact in_i64 (mid_range (i64_in i0) (i64_in i1))), ?_⟩
    simp only [den, dens, e0]
    exact (chronobateref01_Mid.calls _ _ _ w (ref1_Mid (i64_in i0) (i64_in i1))).mono fun e w' h => ⟨h.1, h.2.below⟩
  · cases h
end Go.Proofs.Ytableianhaojcaa.B
