/- A counter that is fine for a step is for the same step so many times longer; for two steps as for both. No conditions. -/
import Derived.Test.YtmniekljfhecaaaLGh
import Derived.Test.YtmniekljfhecaaaGx10
namespace Go.Proofs.Ytmniekljfhecaaa.Pure
open Go.RowKit Go.Proofs.Ytmniekljfhecaaa.G Go.Proofs.YtmniekljfhecaaaW.PrintWords Go.Proofs.YtmniekljfhecaaaW.PrintLast Go.Proofs.YtmniekljfhecaaaW.PrintMore Go.Proofs.Ytmniekljfhecaaa.L
set_option linter.unusedVariables false
set_option linter.unusedSimpArgs false
theorem scales_j0 (k : Nat) (hk : 2 ≤ k) {r a b c d : Int} (hr : 0 ≤ r ∧ r ≤ 65535) (ha : 0 ≤ a ∧ a < 4294967296) (hb : 0 ≤ b ∧ b < 4294967296) (hc : 0 ≤ c ∧ c < 4294967296) (hd : 0 ≤ d ∧ d < 4294967296) :
    chronobatelaw18_GhostScales.j0 k r (decide (Fine r a b)) (decide (Fine r c d)) false a b c d = some true := by
  obtain ⟨k, rfl⟩ : ∃ m, k = m + 1 := ⟨k - 1, by omega⟩
  simp only [chronobatelaw18_GhostScales.j0, Bool.false_eq_true, if_false]
  rw [alive18 k (by omega), bsome, if_pos rfl]
  by_cases f : Fine r a b
  · rw [decide_eq_true f, if_pos rfl]
    by_cases g : Fine r c d
    · have i1 : I64 (a + c) := by unfold I64; omega
      have i2 : I64 (b + d) := by unfold I64; omega
      have h : Fine r (a + c) (b + d) := by
        unfold Fine at f g ⊢
        rw [Int.mul_add]
        generalize r * a = p at *
        generalize r * c = q at *
        omega
      rw [decide_eq_true g, if_pos rfl, w64_id i1, w64_id i2, ghost_Fine_eq k (by omega) i1 i2, bsome, decide_eq_true h]
    · rw [decide_eq_false g, if_neg (by decide)]
  · rw [decide_eq_false f, if_neg (by decide)]
theorem GhostScales (r a b c d : Int) (w0 : (Lit.int .u16 r).wf = true) (w1 : (Lit.int .u32 a).wf = true) (w2 : (Lit.int .u32 b).wf = true) (w3 : (Lit.int .u32 c).wf = true) (w4 : (Lit.int .u32 d).wf = true) : ∃ k, chronobatelaw18_GhostScales.f k r a b c d = some true := by
  have hr := wf_u16 w0
  have ha := wf_u32' w1
  have hb := wf_u32' w2
  have hc := wf_u32' w3
  have hd := wf_u32' w4
  have ia : I64 a := by unfold I64; omega
  have ib : I64 b := by unfold I64; omega
  have ic : I64 c := by unfold I64; omega
  have id_ : I64 d := by unfold I64; omega
  have ia' : I64 (1000 * a) := by unfold I64; omega
  have ib' : I64 (1000 * b) := by unfold I64; omega
  refine ⟨10, ?_⟩
  unfold chronobatelaw18_GhostScales.f
  rw [w64_id (n := r) (by unfold I64; omega), w64_id ia, w64_id ib, w64_id ic, w64_id id_, w64_id ia', w64_id ib', ghost_Fine_eq 10 (by omega) ia ib, bsome, ghost_Fine_eq 10 (by omega) ic id_, bsome]
  have z := scales_j0 10 (by omega) hr ha hb hc hd
  by_cases f : Fine r a b
  · have h : Fine r (1000 * a) (1000 * b) := by
      unfold Fine at f ⊢
      rw [Int.mul_left_comm]
      generalize r * a = q at *
      omega
    rw [if_pos (decide_eq_true f), ghost_Fine_eq 10 (by omega) ia' ib', bsome, decide_eq_true h]
    exact z
  · rw [if_neg (by rw [decide_eq_false f]; decide)]
    exact z
end Go.Proofs.Ytmniekljfhecaaa.Pure
