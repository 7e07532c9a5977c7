/- Plain lemmas on what a fine counter is, in the program's words and in the reference's. No conditions. -/
import Derived.Test.YtmniekljfhecaaaLSa
import Derived.Test.YtmniekljfhecaaaGx2
import Derived.Test.YtmniekljfhecaaaGx3
import Derived.Test.YtmniekljfhecaaaGx4
namespace Go.Proofs.Ytmniekljfhecaaa.L
open Go.RowKit Go.Proofs.Ytmniekljfhecaaa.G Go.Proofs.YtmniekljfhecaaaW.PrintWords Go.Proofs.YtmniekljfhecaaaW.PrintLast Go.Proofs.YtmniekljfhecaaaW.PrintMore
set_option linter.unusedVariables false
set_option linter.unusedSimpArgs false
/-- A counter is fine. -/
def Fine (r t h : Int) : Prop := 0 ≤ r ∧ r ≤ 1000000 ∧ 0 ≤ t ∧ 0 ≤ h ∧ (h - t) * 1000000 ≤ r * t ∧ (t - h) * 1000000 ≤ r * t
instance (r t h : Int) : Decidable (Fine r t h) := by unfold Fine; infer_instance
theorem lex_le {A B : Int} : (if A / 18446744073709551616 < B / 18446744073709551616 then some true else if A / 18446744073709551616 = B / 18446744073709551616 then some (decide (A % 18446744073709551616 ≤ B % 18446744073709551616)) else some false) = some (decide (A ≤ B)) := by
  by_cases h : A ≤ B
  · rw [decide_eq_true h]
    by_cases h1 : A / 18446744073709551616 < B / 18446744073709551616
    · rw [if_pos h1]
    · rw [if_neg h1, if_pos (by omega), decide_eq_true (by omega)]
  · rw [decide_eq_false h, if_neg (by omega)]
    by_cases h1 : A / 18446744073709551616 = B / 18446744073709551616
    · rw [if_pos h1, decide_eq_false (by omega)]
    · rw [if_neg h1]
theorem ghost_Fine_eq (k : Nat) (hk : 1 ≤ k) {r t h : Int} (ht : I64 t) (hh : I64 h) : ghost_Fine.f k r t h = some (decide (Fine r t h)) := by
  obtain ⟨k, rfl⟩ : ∃ m, k = m + 1 := ⟨k - 1, by omega⟩
  have bad : ¬ (0 ≤ r ∧ r ≤ 1000000 ∧ 0 ≤ t ∧ 0 ≤ h) → ghost_Fine.j0 (k + 1) r t h true = some (decide (Fine r t h)) := by
    intro hb
    simp only [ghost_Fine.j0, if_true]
    rw [decide_eq_false (fun hf => hb ⟨hf.1, hf.2.1, hf.2.2.1, hf.2.2.2.1⟩)]
  unfold ghost_Fine.f
  by_cases h1 : r < 0
  · rw [if_pos h1, bad (by omega)]
  rw [if_neg h1]
  by_cases h2 : r > 1000000
  · rw [if_pos h2, bad (by omega)]
  rw [if_neg h2]
  by_cases h3 : mn t h < 0
  · rw [decide_eq_true h3, bad (by unfold mn at h3; split at h3 <;> omega)]
  rw [decide_eq_false h3]
  have h4 : 0 ≤ t ∧ 0 ≤ h := by unfold mn at h3; split at h3 <;> omega
  unfold I64 at ht hh
  simp only [ghost_Fine.j0, Bool.false_eq_true, if_false]
  rw [w64_id (by unfold I64; omega), sat_Abs_eq (by unfold I64; omega), bsome]
  have e0 : (if h - t < 0 then clamp (-(h - t)) else h - t) = if h - t < 0 then t - h else h - t := by
    split
    · rw [clamp_id (by unfold I64; omega)]
      omega
    · rfl
  rw [e0]
  generalize hs : (if h - t < 0 then t - h else h - t) = s
  have hs2 : 0 ≤ s ∧ s ≤ 9223372036854775807 ∧ (s = h - t ∨ s = t - h) ∧ h - t ≤ s ∧ t - h ≤ s := by
    subst hs
    split <;> omega
  rw [wu64_id (n := s) (by unfold U64; omega), wu64_id (n := r) (by unfold U64; omega), wu64_id (n := t) (by unfold U64; omega), mul64 (by unfold U64; omega) (by unfold U64; omega), bsome, mul64 (by unfold U64; omega) (by unfold U64; omega), bsome, lex_le]
  have e : s * 1000000 ≤ r * t ↔ Fine r t h := by
    unfold Fine
    generalize r * t = q
    omega
  rw [decide_eq_decide.2 e]
theorem ref18_most {r t : Int} (h1 : 0 ≤ r) (h2 : r ≤ 1000000) (h3 : 0 ≤ t) (h4 : t ≤ 9223372036854775807) :
    wrap64 ((wrap64 ((wrap64 (Int.tdiv t 1000000)) * r)) + (wrap64 (Int.tdiv (wrap64 ((Int.tmod t 1000000) * r)) 1000000))) = r * t / 1000000 := by
  rw [Int.tdiv_eq_ediv_of_nonneg h3, Int.tmod_eq_emod_of_nonneg h3]
  have hd : 0 ≤ t / 1000000 ∧ t / 1000000 ≤ 9223372036854 := by omega
  have hm : 0 ≤ t % 1000000 ∧ t % 1000000 ≤ 999999 := by omega
  have b1 := mul_le_both hd.1 hd.2 h1 h2
  have b2 := mul_le_both hm.1 hm.2 h1 h2
  have et : r * t = t / 1000000 * r * 1000000 + t % 1000000 * r := by
    have e := Int.emod_add_mul_ediv t 1000000
    calc r * t = r * (t % 1000000 + 1000000 * (t / 1000000)) := by rw [e]
      _ = t / 1000000 * r * 1000000 + t % 1000000 * r := by
        rw [Int.mul_add, Int.mul_comm r (t % 1000000), Int.mul_left_comm r 1000000, Int.mul_comm r (t / 1000000)]
        omega
  rw [et, w64_id (n := t / 1000000) (by unfold I64; omega)]
  generalize t / 1000000 * r = A at *
  generalize t % 1000000 * r = B at *
  have hA : A * 1000000 + B ≤ 9223372036854775807000000 := by
    rw [← et]
    exact Int.le_trans (mul_le_both h1 h2 h3 h4).2 (by decide)
  have hAB : 0 ≤ A + B / 1000000 ∧ A + B / 1000000 ≤ 9223372036854775807 := by omega
  rw [w64_id (n := A) (by unfold I64; omega), w64_id (n := B) (by unfold I64; omega), Int.tdiv_eq_ediv_of_nonneg b2.1, w64_id (n := B / 1000000) (by unfold I64; omega), w64_id (by unfold I64; omega)]
  omega
theorem ref18_Fine_eq (k : Nat) (hk : 1 ≤ k) {r t h : Int} (ht : I64 t) (hh : I64 h) : chronobateref18_Fine.f k r t h = some (decide (Fine r t h)) := by
  obtain ⟨k, rfl⟩ : ∃ m, k = m + 1 := ⟨k - 1, by omega⟩
  have bad : ¬ (0 ≤ r ∧ r ≤ 1000000 ∧ 0 ≤ t ∧ 0 ≤ h) → chronobateref18_Fine.j0 (k + 1) r t h true = some (decide (Fine r t h)) := by
    intro hb
    simp only [chronobateref18_Fine.j0, if_true]
    rw [decide_eq_false (fun hf => hb ⟨hf.1, hf.2.1, hf.2.2.1, hf.2.2.2.1⟩)]
  unfold I64 at ht hh
  unfold chronobateref18_Fine.f
  by_cases h1 : r < 0
  · rw [if_pos h1, bad (by omega)]
  rw [if_neg h1]
  by_cases h2 : r > 1000000
  · rw [if_pos h2, bad (by omega)]
  rw [if_neg h2]
  by_cases h3 : t < 0
  · rw [if_pos h3, bad (by omega)]
  rw [if_neg h3]
  by_cases h4 : h < 0
  · rw [decide_eq_true h4, bad (by omega)]
  rw [decide_eq_false h4]
  simp only [chronobateref18_Fine.j0, Bool.false_eq_true, if_false]
  rw [w64_id (n := h - t) (by unfold I64; omega), w64_id (n := -(h - t)) (by unfold I64; omega), ref18_most (by omega) (by omega) (by omega) (by omega)]
  have e : (if h - t < 0 then -(h - t) else h - t) ≤ r * t / 1000000 ↔ Fine r t h := by
    unfold Fine
    generalize r * t = q
    split <;> omega
  by_cases h5 : h - t < 0
  · rw [if_pos h5] at e
    rw [if_pos h5, decide_eq_decide.2 e]
  · rw [if_neg h5] at e
    rw [if_neg h5, decide_eq_decide.2 e]
theorem alive18 (k : Nat) (hk : 1 ≤ k) : chronobatelaw18_alive.f k = some true := by
  have i : ∀ n : Int, 0 ≤ n → n ≤ 20000 → I64 n := fun n h0 h1 => by unfold I64; omega
  unfold chronobatelaw18_alive.f
  rw [ghost_Fine_eq k hk (i _ (by omega) (by omega)) (i _ (by omega) (by omega)), ghost_Fine_eq k hk (i _ (by omega) (by omega)) (i _ (by omega) (by omega)), ghost_Fine_eq k hk (i _ (by omega) (by omega)) (i _ (by omega) (by omega)), ghost_Fine_eq k hk (i _ (by omega) (by omega)) (i _ (by omega) (by omega))]
  decide
theorem wf_u16 {n : Int} (h : (Lit.int .u16 n).wf = true) : 0 ≤ n ∧ n ≤ 65535 := by
  have hmin : IntKind.u16.min = 0 := rfl
  have hmax : IntKind.u16.max = 65535 := rfl
  simp only [Lit.wf, Bool.and_eq_true, decide_eq_true_eq] at h
  omega
theorem wf_i16 {n : Int} (h : (Lit.int .i16 n).wf = true) : -32768 ≤ n ∧ n ≤ 32767 := by
  have hmin : IntKind.i16.min = -32768 := rfl
  have hmax : IntKind.i16.max = 32767 := rfl
  simp only [Lit.wf, Bool.and_eq_true, decide_eq_true_eq] at h
  omega
theorem wf_u32' {n : Int} (h : (Lit.int .u32 n).wf = true) : 0 ≤ n ∧ n < 4294967296 := by
  have hmin : IntKind.u32.min = 0 := rfl
  have hmax : IntKind.u32.max = 4294967295 := rfl
  simp only [Lit.wf, Bool.and_eq_true, decide_eq_true_eq] at h
  omega
end Go.Proofs.Ytmniekljfhecaaa.L
