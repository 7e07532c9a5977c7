/- Just so far as the rate's part lets it, and no nanosecond further, a counter is fine. No conditions. -/
import Derived.Test.YtmniekljfhecaaaLGh
import Derived.Test.YtmniekljfhecaaaGx9
namespace Go.Proofs.Ytmniekljfhecaaa.Pure
open Go.RowKit Go.Proofs.Ytmniekljfhecaaa.G Go.Proofs.YtmniekljfhecaaaW.PrintWords Go.Proofs.YtmniekljfhecaaaW.PrintLast Go.Proofs.YtmniekljfhecaaaW.PrintMore Go.Proofs.Ytmniekljfhecaaa.L
set_option linter.unusedVariables false
set_option linter.unusedSimpArgs false
theorem fine_true {r t h : Int} (h0 : Fine r t h) : decide (Fine r t h) = true := decide_eq_true h0
theorem fine_false {r t h : Int} (h0 : ¬ Fine r t h) : decide (Fine r t h) = false := decide_eq_false h0
theorem edges_j1 (k : Nat) (hk : 2 ≤ k) {r t o : Int} (hr : 0 ≤ r ∧ r ≤ 65535) (ht : 0 ≤ t ∧ t < 4294967296) (ho : -32768 ≤ o ∧ o ≤ 32767) : chronobatelaw18_GhostEdges.j1 k o r t false = some true := by
  obtain ⟨k, rfl⟩ : ∃ m, k = m + 1 := ⟨k - 1, by omega⟩
  simp only [chronobatelaw18_GhostEdges.j1, Bool.false_eq_true, if_false]
  have i1 : I64 t := by unfold I64; omega
  have i2 : I64 (t + o) := by unfold I64; omega
  rw [alive18 k (by omega), bsome, if_pos rfl, w64_id (n := o) (by unfold I64; omega), w64_id i2, w64_id (n := r + 1) (by unfold I64; omega), ghost_Fine_eq k (by omega) i1 i2, bsome]
  by_cases hf : Fine r t (t + o)
  · rw [fine_true hf, if_pos rfl, ghost_Fine_eq k (by omega) i1 i2, bsome]
    have hg : Fine (r + 1) t (t + o) := by
      unfold Fine at hf ⊢
      rw [Int.add_mul]
      generalize r * t = q at *
      omega
    rw [fine_true hg]
  · rw [fine_false hf]
    rfl
theorem GhostEdges : chronobatelaw18_GhostEdges.Pure := by
  intro r t o w0 w1 w2
  have hr := wf_u16 w0
  have ht := wf_u32' w1
  have ho := wf_i16 w2
  refine ⟨40, ?_⟩
  unfold chronobatelaw18_GhostEdges.f
  have i1 : I64 t := by unfold I64; omega
  rw [w64_id i1, w64_id (n := r) (by unfold I64; omega), sat_MulDiv_eq 40 (by omega) i1 (by unfold I64; omega) (by unfold I64; omega) (by omega) (by omega), bsome]
  have hq := mul_le_both hr.1 hr.2 ht.1 (show t ≤ t by omega)
  have em : md t r 1000000 = r * t / 1000000 := by
    unfold md
    rw [Int.mul_comm t r, clamp_id]
    unfold I64
    omega
  rw [em]
  have f1 : Fine r t t := by unfold Fine; omega
  have f2 : ¬ Fine (-1) t t := by unfold Fine; omega
  have f3 : ¬ Fine 1000001 t t := by unfold Fine; omega
  rw [ghost_Fine_eq 40 (by omega) i1 i1, bsome, fine_true f1, if_pos rfl, ghost_Fine_eq 40 (by omega) i1 i1, bsome, fine_false f2, if_neg (by decide), ghost_Fine_eq 40 (by omega) i1 i1, bsome, fine_false f3]
  simp only [chronobatelaw18_GhostEdges.j0, Bool.false_eq_true, if_false]
  have g1 : Fine r t (t + r * t / 1000000) := by
    unfold Fine
    generalize r * t = q at *
    omega
  have g2 : ¬ Fine r t (t + r * t / 1000000 + 1) := by
    unfold Fine
    generalize r * t = q at *
    omega
  have g3 : Fine r t (t - r * t / 1000000) := by
    unfold Fine
    generalize r * t = q at *
    omega
  have g4 : ¬ Fine r t (t - r * t / 1000000 - 1) := by
    unfold Fine
    generalize r * t = q at *
    omega
  have b : 0 ≤ r * t / 1000000 ∧ r * t / 1000000 ≤ 300000000000 := by omega
  generalize r * t / 1000000 = m at *
  have j1 : I64 (t + m) := by unfold I64; omega
  have j2 : I64 (t + m + 1) := by unfold I64; omega
  have j3 : I64 (t - m) := by unfold I64; omega
  have j4 : I64 (t - m - 1) := by unfold I64; omega
  rw [w64_id j1, w64_id j2, w64_id j3, w64_id j4, ghost_Fine_eq 39 (by omega) i1 j1, bsome, fine_true g1, if_pos rfl, ghost_Fine_eq 39 (by omega) i1 j2, bsome, fine_false g2, if_neg (by decide), ghost_Fine_eq 39 (by omega) i1 j3, bsome, fine_true g3, if_pos rfl]
  by_cases c : t - m - 1 ≥ 0
  · rw [if_pos c, ghost_Fine_eq 39 (by omega) i1 j4, bsome, fine_false g4]
    exact edges_j1 39 (by omega) hr ht ho
  · rw [if_neg c]
    exact edges_j1 39 (by omega) hr ht ho
end Go.Proofs.Ytmniekljfhecaaa.Pure
