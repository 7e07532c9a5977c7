/- Plain lemmas on samples: how far off a clock is, how long an answer took. No conditions. -/
import Derived.Test.YtnagappcpmnkbaaLSt
import Derived.Test.YtnagappcpmnkbaaGx6
import Derived.Test.YtnagappcpmnkbaaGx7
import Derived.Test.YtnagappcpmnkbaaGx8
import Derived.Test.YtnagappcpmnkbaaGx9
namespace Go.Proofs.Ytnagappcpmnkbaa.L
open Go.RowKit Go.Proofs.Ytnagappcpmnkbaa.G Go.Proofs.YtnagappcpmnkbaaW.PrintWords Go.Proofs.YtnagappcpmnkbaaW.PrintLast Go.Proofs.YtnagappcpmnkbaaW.PrintMore
set_option linter.unusedVariables false
set_option linter.unusedSimpArgs false
theorem df_i64 (a b : Int) : I64 (df a b) := by
  have h := df_range a b
  unfold I64
  omega
theorem mx0 (x : Int) : mx 0 x = if x < 0 then 0 else x := by
  unfold mx
  split <;> split <;> omega
theorem sample_Make_eq (k : Nat) (hk : 30 ≤ k) {s c r x : Int} (hs : I64 s) (hc : I64 c) (hr : U64 r) (hx : U64 x) :
    sample_Make.f k s c r x = some ((df r (fr s) + df x (fr c)) / 2, mx 0 (clamp (clamp (c - s) - df x r))) := by
  unfold sample_Make.f
  rw [stamp_From_eq k hk hs, bsome, stamp_Diff_eq k hk hr (fr_range _), bsome, stamp_From_eq k hk hc, bsome, stamp_Diff_eq k hk hx (fr_range _), bsome, sat_Sub_eq hc hs, bsome, stamp_Diff_eq k hk hx hr, bsome, sat_Sub_eq (clamp_range _) (df_i64 _ _), bsome, sat_Mid_eq (df_i64 _ _) (df_i64 _ _), bsome]
theorem sample_Now_eq {o d t s n : Int} (ho : I64 o) (hs : I64 s) (hn : I64 n) : sample_Now.f o d t s n = some (clamp (o - clamp (n - s))) := by
  unfold sample_Now.f
  rw [sat_Sub_eq hn hs, bsome, sat_Sub_eq ho (clamp_range _), bsome]
theorem sample_Fresh_eq {o d t s h l : Int} (ht : I64 t) (hh : I64 h) : sample_Fresh.f o d t s h l = some (decide (t ≤ h ∧ clamp (h - t) ≤ l)) := by
  unfold sample_Fresh.f sample_hold.f sample_moment_after.f sample_moment_since.f
  rw [bsome, bsome]
  by_cases c : t > h
  · rw [if_pos (decide_eq_true c), decide_eq_false (by omega)]
  · rw [if_neg (by rw [decide_eq_false c]; decide), sat_Sub_eq hh ht, bsome, bsome]
    exact congrArg some (decide_eq_decide.2 ⟨fun z => ⟨by omega, z⟩, fun z => z.2⟩)
theorem ref8_Now_eq (k : Nat) (hk : 1 ≤ k) {o d t s n : Int} (ho : I64 o) (hs : I64 s) (hn : I64 n) : chronobateref08_Now.f k o d t s n = some (clamp (o - clamp (n - s))) := by
  unfold chronobateref08_Now.f
  rw [ref1_Sub k hk hn hs, bsome, ref1_Sub k hk ho (clamp_range _), bsome]
theorem ref8_Fresh_eq (k : Nat) (hk : 1 ≤ k) {o d t s h l : Int} (ht : I64 t) (hh : I64 h) : chronobateref08_Fresh.f k o d t s h l = some (decide (t ≤ h ∧ clamp (h - t) ≤ l)) := by
  unfold chronobateref08_Fresh.f
  by_cases c : t ≤ h
  · rw [if_pos c, ref1_Sub k hk hh ht, bsome]
    exact congrArg some (decide_eq_decide.2 ⟨fun z => ⟨c, z⟩, fun z => z.2⟩)
  · rw [if_neg c, decide_eq_false (by omega)]
/-- One sample is better than another one. -/
def Btr (d1 t1 d2 t2 : Int) : Prop := d1 < d2 ∨ d1 = d2 ∧ t1 > t2
instance (d1 t1 d2 t2 : Int) : Decidable (Btr d1 t1 d2 t2) := by unfold Btr; infer_instance
theorem sample_Better_eq (o d t s p e u v : Int) : sample_Better.f o d t s p e u v = some (decide (Btr d t e u)) := by
  unfold sample_Better.f sample_hold.f sample_moment_after.f
  rw [bsome, bsome]
  dsimp only
  by_cases h : d = e
  · rw [if_pos h, bsome]
    exact congrArg some (decide_eq_decide.2 (by unfold Btr; omega))
  · rw [if_neg h]
    exact congrArg some (decide_eq_decide.2 (by unfold Btr; omega))
theorem ref8_Better_eq (o d t s p e u v : Int) : chronobateref08_Better.f o d t s p e u v = some (decide (Btr d t e u)) := by
  unfold chronobateref08_Better.f
  by_cases h1 : d < e
  · rw [if_pos h1, decide_eq_true (by unfold Btr; omega)]
  · rw [if_neg h1]
    by_cases h : d = e
    · rw [if_pos h]
      exact congrArg some (decide_eq_decide.2 (by unfold Btr; omega))
    · rw [if_neg h, decide_eq_false (by unfold Btr; omega)]
theorem alive8 (k : Nat) (hk : 30 ≤ k) : chronobatelaw08_alive.f k = some true := by
  unfold chronobatelaw08_alive.f
  rw [stamp_From_eq k hk (by unfold I64; omega), bsome, sample_Make_eq k hk (by unfold I64; omega) (by unfold I64; omega) (fr_range _) (fr_range _), bsome]
  decide +kernel
theorem wf_u32' {n : Int} (h : (Lit.int .u32 n).wf = true) : 0 ≤ n ∧ n < 4294967296 := by
  have hmin : IntKind.u32.min = 0 := rfl
  have hmax : IntKind.u32.max = 4294967295 := rfl
  simp only [Lit.wf, Bool.and_eq_true, decide_eq_true_eq] at h
  omega
theorem wf_i32 {n : Int} (h : (Lit.int .i32 n).wf = true) : -2147483648 ≤ n ∧ n ≤ 2147483647 := by
  have hmin : IntKind.i32.min = -2147483648 := rfl
  have hmax : IntKind.i32.max = 2147483647 := rfl
  simp only [Lit.wf, Bool.and_eq_true, decide_eq_true_eq] at h
  omega
end Go.Proofs.Ytnagappcpmnkbaa.L
