/- A clock that is off by so much is told that, up to half of what one way took longer. No conditions. -/
import Derived.Test.YtnagappcpmnkbaaLSm
import Derived.Test.YtnagappcpmnkbaaGx15
namespace Go.Proofs.Ytnagappcpmnkbaa.Pure
open Go.RowKit Go.Proofs.Ytnagappcpmnkbaa.G Go.Proofs.YtnagappcpmnkbaaW.PrintWords Go.Proofs.YtnagappcpmnkbaaW.PrintLast Go.Proofs.YtnagappcpmnkbaaW.PrintMore Go.Proofs.Ytnagappcpmnkbaa.L
set_option linter.unusedVariables false
set_option linter.unusedSimpArgs false
theorem SampleTrue (off at_ th st_ ba : Int) (w0 : (Lit.int .i64 off).wf = true) (w1 : (Lit.int .i64 at_).wf = true) (w2 : (Lit.int .u32 th).wf = true) (w3 : (Lit.int .u32 st_).wf = true) (w4 : (Lit.int .u32 ba).wf = true) : ∃ k, chronobatelaw08_SampleTrue.f k off at_ th st_ ba = some true := by
  have ht := wf_u32' w2
  have hs := wf_u32' w3
  have hb := wf_u32' w4
  have ho := tmod_range off 576460752303423488 (by omega)
  have ha := tmod_range at_ 576460752303423488 (by omega)
  refine ⟨30, ?_⟩
  unfold chronobatelaw08_SampleTrue.f
  generalize Int.tmod off 576460752303423488 = o at *
  generalize Int.tmod at_ 576460752303423488 = a at *
  have i1 : I64 (a + th) := by unfold I64; omega
  have i2 : I64 (a + th + st_) := by unfold I64; omega
  have i3 : I64 (a + th + st_ + ba) := by unfold I64; omega
  have i4 : I64 (a - o) := by unfold I64; omega
  have i5 : I64 (a + th + st_ + ba - o) := by unfold I64; omega
  have hd : (th - ba) / 2 ≤ Int.tdiv (th - ba) 2 ∧ Int.tdiv (th - ba) 2 ≤ (th - ba) / 2 + 1 := by
    have z := tdiv_cases (th - ba) 2 (by omega)
    by_cases c : 0 ≤ th - ba
    · rw [(z.1 c).1]
      omega
    · rw [(z.2 (by omega)).1]
      omega
  generalize hD : Int.tdiv (th - ba) 2 = D at *
  rw [w64_id (n := th) (by unfold I64; omega), w64_id (n := st_) (by unfold I64; omega), w64_id (n := ba) (by unfold I64; omega), w64_id i1, w64_id i2, w64_id i3, w64_id i4, w64_id i5, w64_id (n := th - ba) (by unfold I64; omega), hD, w64_id (n := D) (by unfold I64; omega), w64_id (n := o + D) (by unfold I64; omega), w64_id (n := o + D - 4) (by unfold I64; omega), w64_id (n := o + D + 4) (by unfold I64; omega), w64_id (n := th + ba) (by unfold I64; omega), w64_id (n := th + ba - 4) (by unfold I64; omega), w64_id (n := th + ba + 4) (by unfold I64; omega)]
  rw [stamp_From_eq 30 (by omega) i1, bsome, stamp_From_eq 30 (by omega) i2, bsome, sample_Make_eq 30 (by omega) i4 i5 (fr_range _) (fr_range _), bsome, alive8 30 (by omega), bsome, if_pos rfl]
  have e1 := df_near (a - o) (th + o) (by omega) (by omega)
  have e2 := df_near (a + th + st_ + ba - o) (o - ba) (by omega) (by omega)
  have e3 := df_near (a + th) st_ (by omega) (by omega)
  rw [show a - o + (th + o) = a + th by omega] at e1
  rw [show a + th + st_ + ba - o + (o - ba) = a + th + st_ by omega] at e2
  rw [show a + th + st_ + ba - o - (a - o) = th + st_ + ba by omega, clamp_id (n := th + st_ + ba) (by unfold I64; omega)]
  generalize df (fr (a + th)) (fr (a - o)) = p at *
  generalize df (fr (a + th + st_)) (fr (a + th + st_ + ba - o)) = q at *
  generalize df (fr (a + th + st_)) (fr (a + th)) = r at *
  rw [clamp_id (n := th + st_ + ba - r) (by unfold I64; omega), mx0, mx0]
  rw [if_pos (by omega), if_pos (by omega), if_pos (by split <;> split <;> omega), decide_eq_true (by split <;> omega)]
end Go.Proofs.Ytnagappcpmnkbaa.Pure
