/- Of later nanoseconds the stamp is no earlier, as far as half a round; a stamp is nothing away from itself; the other way about it is the other sign, or 1 less. No conditions. -/
import Derived.Test.YtampkfchofijbaaLSt
namespace Go.Proofs.Ytampkfchofijbaa.Pure
open Go.RowKit Go.Proofs.Ytampkfchofijbaa.G Go.Proofs.YtampkfchofijbaaW.PrintWords Go.Proofs.YtampkfchofijbaaW.PrintLast Go.Proofs.YtampkfchofijbaaW.PrintMore Go.Proofs.Ytampkfchofijbaa.L
set_option linter.unusedVariables false
set_option linter.unusedSimpArgs false
theorem StampOrder (a y s t : Int) (w0 : (Lit.int .i64 a).wf = true) (w1 : (Lit.int .u32 y).wf = true) (w2 : (Lit.int .u64 s).wf = true) (w3 : (Lit.int .u64 t).wf = true) : ∃ k, chronobatelaw02_StampOrder.f k a y s t = some true := by
  have h1 : 0 ≤ y ∧ y ≤ 4294967295 := by
    have hmin : IntKind.u32.min = 0 := rfl
    have hmax : IntKind.u32.max = 4294967295 := rfl
    simp only [Lit.wf, Bool.and_eq_true, decide_eq_true_eq] at w1
    omega
  have h2 := u64_of_wf w2
  have h3 := u64_of_wf w3
  refine ⟨100, ?_⟩
  unfold chronobatelaw02_StampOrder.f
  have ht := tmod_range a 2305843009213693952 (by omega)
  generalize Int.tmod a 2305843009213693952 = n at *
  rw [w64_id (n := y) (by unfold I64; omega), w64_id (n := n + y) (by unfold I64; omega), alive2 100 (by omega), stamp_From_eq 100 (by omega) (a := n + y) (by unfold I64; omega), stamp_From_eq 100 (by omega) (a := n) (by unfold I64; omega), stamp_Diff_eq 100 (by omega) h2 h3, stamp_Diff_eq 100 (by omega) h3 h2, stamp_Diff_eq 100 (by omega) h2 h2]
  simp only [Option.bind_some]
  have e0 : ¬ wrap64 (IntKind.u64.wrap (fr (n + y) - fr n)) < 0 := by
    have ew : ∀ x : Int, wrap64 (x % 18446744073709551616) = wrap64 x := fun x => by unfold wrap64; omega
    have h1' := st_far n y
    have h4 := st_mono n y h1.1
    rw [wu64, ew, wfr, w64_id (n := st (n + y) - st n) (by unfold I64; omega)]
    omega
  have e1 : df s s = 0 := df_self s
  rw [if_neg e0, if_pos e1]
  simp only [if_true]
  by_cases hh : IntKind.u64.wrap (s - t) = 9223372036854775808
  · rw [if_pos hh]
  · rw [if_neg hh]
    have e2 : wrap64 (df s t + df t s) = 0 ∨ wrap64 (df s t + df t s) = -1 := by
      have h4 := df_range s t
      have h5 := df_range t s
      rw [w64_id (n := df s t + df t s) (by unfold I64; omega)]
      have e3 : wrap64 (t - s) = -wrap64 (s - t) := by
        rw [wu64] at hh
        unfold U64 at h2 h3
        unfold wrap64
        omega
      unfold df
      rw [e3]
      generalize wrap64 (s - t) = x
      omega
    rcases e2 with e2 | e2
    · rw [if_pos e2]
    · rw [e2]
      rfl
end Go.Proofs.Ytampkfchofijbaa.Pure
