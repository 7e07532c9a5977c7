/- Of two samples one is better, if they differ; never both; better goes on. No conditions. -/
import Derived.Test.YtnagappcpmnkbaaLSm
import Derived.Test.YtnagappcpmnkbaaGx11
namespace Go.Proofs.Ytnagappcpmnkbaa.Pure
open Go.RowKit Go.Proofs.Ytnagappcpmnkbaa.G Go.Proofs.YtnagappcpmnkbaaW.PrintWords Go.Proofs.YtnagappcpmnkbaaW.PrintLast Go.Proofs.YtnagappcpmnkbaaW.PrintMore Go.Proofs.Ytnagappcpmnkbaa.L
set_option linter.unusedVariables false
set_option linter.unusedSimpArgs false
theorem order_j0 (k : Nat) (hk : 31 ≤ k) (q : Bool) {o d t s p e u v m f x y : Int} (hq : q = decide (Btr d t e u)) : chronobatelaw08_SampleOrder.j0 k q false o d t s p e u v m f x y = some true := by
  obtain ⟨k, rfl⟩ : ∃ m, k = m + 1 := ⟨k - 1, by omega⟩
  simp only [chronobatelaw08_SampleOrder.j0, Bool.false_eq_true, if_false]
  rw [alive8 k (by omega), bsome, if_pos rfl, sample_Better_eq, bsome, sample_Better_eq, bsome, hq]
  by_cases h1 : Btr d t e u
  · rw [decide_eq_true h1, if_pos rfl]
    by_cases h2 : Btr e u f x
    · rw [decide_eq_true h2, if_pos rfl, decide_eq_true (by unfold Btr at *; omega)]
    · rw [decide_eq_false h2, if_neg (by decide)]
  · rw [decide_eq_false h1, if_neg (by decide)]
theorem SampleOrder (o d t s p e u v m f x y : Int) (w0 : (Lit.int .i64 o).wf = true) (w1 : (Lit.int .i64 d).wf = true) (w2 : (Lit.int .i64 t).wf = true) (w3 : (Lit.int .i64 s).wf = true) (w4 : (Lit.int .i64 p).wf = true) (w5 : (Lit.int .i64 e).wf = true) (w6 : (Lit.int .i64 u).wf = true) (w7 : (Lit.int .i64 v).wf = true) (w8 : (Lit.int .i64 m).wf = true) (w9 : (Lit.int .i64 f).wf = true) (w10 : (Lit.int .i64 x).wf = true) (w11 : (Lit.int .i64 y).wf = true) : ∃ k, chronobatelaw08_SampleOrder.f k o d t s p e u v m f x y = some true := by
  refine ⟨40, ?_⟩
  unfold chronobatelaw08_SampleOrder.f
  rw [sample_Better_eq, bsome, sample_Better_eq, bsome, sample_Better_eq]
  have self : decide (Btr d t d t) = false := decide_eq_false (by unfold Btr; omega)
  rw [self]
  have z := fun q hq => order_j0 40 (by omega) q (o := o) (d := d) (t := t) (s := s) (p := p) (e := e) (u := u) (v := v) (m := m) (f := f) (x := x) (y := y) hq
  by_cases h1 : Btr d t e u
  · have h2 : ¬ Btr e u d t := by unfold Btr at *; omega
    rw [decide_eq_true h1, decide_eq_false h2, if_pos rfl, if_neg (by decide)]
    by_cases c : d = e
    · have c2 : (t != u) = true := bne_iff_ne.2 (by unfold Btr at *; omega)
      rw [if_pos c, c2, if_neg (by decide)]
      exact z true (decide_eq_true h1).symm
    · rw [if_neg c, if_neg (by decide)]
      exact z true (decide_eq_true h1).symm
  · rw [decide_eq_false h1, if_neg (by decide)]
    by_cases c : d = e
    · by_cases c3 : t = u
      · have h2 : ¬ Btr e u d t := by unfold Btr at *; omega
        have c2 : (t != u) = false := bne_eq_false_iff_eq.2 c3
        rw [if_pos c, c2, decide_eq_false h2, if_neg (by decide)]
        exact z false (decide_eq_false h1).symm
      · have h2 : Btr e u d t := by unfold Btr at *; omega
        have c2 : (t != u) = true := bne_iff_ne.2 c3
        rw [if_pos c, c2, decide_eq_true h2, if_neg (by decide)]
        exact z false (decide_eq_false h1).symm
    · have h2 : Btr e u d t := by unfold Btr at *; omega
      rw [if_neg c, decide_eq_true h2, if_neg (by decide)]
      exact z false (decide_eq_false h1).symm
end Go.Proofs.Ytnagappcpmnkbaa.Pure
