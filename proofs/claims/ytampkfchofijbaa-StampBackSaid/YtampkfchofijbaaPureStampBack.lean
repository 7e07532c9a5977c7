/- Nanoseconds of the first round come back, or 1 less; those that are not far from others are found next to these. No conditions. -/
import Derived.Test.YtampkfchofijbaaLSt
namespace Go.Proofs.Ytampkfchofijbaa.Pure
open Go.RowKit Go.Proofs.Ytampkfchofijbaa.G Go.Proofs.YtampkfchofijbaaW.PrintWords Go.Proofs.YtampkfchofijbaaW.PrintLast Go.Proofs.YtampkfchofijbaaW.PrintMore Go.Proofs.Ytampkfchofijbaa.L
set_option linter.unusedVariables false
set_option linter.unusedSimpArgs false
theorem StampBack : chronobatelaw02_StampBack.Pure := by
  intro a base by_ w0 w1 w2
  have h0 := i64_of_wf w0
  refine ⟨100, ?_⟩
  have tail : chronobatelaw02_StampBack.j0 100 base by_ false = some true := by
    simp only [chronobatelaw02_StampBack.j0, Bool.false_eq_true, if_false]
    have ht := tmod_range base 2305843009213693952 (by omega)
    have ht2 := tmod_range by_ 2147483648000000000 (by omega)
    generalize Int.tmod base 2305843009213693952 = b at *
    generalize Int.tmod by_ 2147483648000000000 = y at *
    rw [w64_id (n := b + y) (by unfold I64; omega), w64_id (n := b + y - b) (by unfold I64; omega), alive2 99 (by omega), stamp_From_eq 99 (by omega) (a := b + y) (by unfold I64; omega), stamp_From_eq 99 (by omega) (a := b) (by unfold I64; omega)]
    simp only [Option.bind_some, if_true]
    rw [stamp_Diff_eq 99 (by omega) (fr_range _) (fr_range _), stamp_Near_eq 99 (by omega) (by unfold I64; omega) (fr_range _)]
    simp only [Option.bind_some]
    have e := df_near b y ht2.1 ht2.2
    rw [near2 (by unfold I64; omega) (by unfold I64; omega) (by omega) (by omega)]
    rw [clamp_id (n := b + df (fr (b + y)) (fr b)) (by unfold I64; omega), near2 (by unfold I64; omega) (by unfold I64; omega) (by omega) (by omega)]
    rfl
  unfold chronobatelaw02_StampBack.f
  rw [Int.tmod_eq_emod_of_nonneg (show 0 ≤ IntKind.u64.wrap a by rw [wu64]; omega)]
  have hn : 0 ≤ IntKind.u64.wrap a % 4294967296000000000 ∧ IntKind.u64.wrap a % 4294967296000000000 < 4294967296000000000 := by omega
  generalize IntKind.u64.wrap a % 4294967296000000000 = n at *
  rw [w64_id (n := n) (by unfold I64; omega), stamp_From_eq 100 (by omega) (by unfold I64; omega)]
  rw [bsome]
  rw [stamp_Ns_eq (fr_range _)]
  rw [bsome]
  have e := ns_back n hn.1 hn.2
  by_cases h : fr n * 1000000000 / 4294967296 = n
  · rw [if_pos h]
    exact tail
  · rw [if_neg h, w64_id (n := n - 1) (by unfold I64; omega)]
    have e2 : (fr n * 1000000000 / 4294967296 != n - 1) = false := by
      rw [bne_eq_false_iff_eq]
      omega
    rw [e2]
    exact tail
end Go.Proofs.Ytampkfchofijbaa.Pure
