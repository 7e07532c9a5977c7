/- Plain lemmas on the reference's bytes of a packet: they are the program's. No conditions. -/
import Derived.Test.YtingjmdilglgaaaLPg
import Derived.Test.YtingjmdilglgaaaGx2
import Derived.Test.YtingjmdilglgaaaGx3
namespace Go.Proofs.Ytingjmdilglgaaa.L
open Go.RowKit Go.Proofs.Ytingjmdilglgaaa.G Go.Proofs.YtingjmdilglgaaaW.PrintWords Go.Proofs.YtingjmdilglgaaaW.PrintLast Go.Proofs.YtingjmdilglgaaaW.PrintMore
set_option linter.unusedVariables false
set_option linter.unusedSimpArgs false
theorem ref3_put_l0 (acc : List Int) : ∀ (d k : Nat) (y : Int) (s : List Int), U64 y → d < k → d + s.length ≤ 100 → acc.length ≤ 1000 →
    chronobateref03_put.l0 k acc y (List.replicate d 0 ++ s) ((d : Int) - 1) = some (acc ++ (wb d y ++ s)) := by
  intro d
  induction d with
  | zero =>
    intro k y s hy hk hd ha
    obtain ⟨k, rfl⟩ : ∃ m, k = m + 1 := ⟨k - 1, by omega⟩
    simp only [chronobateref03_put.l0]
    rw [if_neg (by omega), if_pos (by simp; omega)]
    rfl
  | succ d ih =>
    intro k y s hy hk hd ha
    obtain ⟨k, rfl⟩ : ∃ m, k = m + 1 := ⟨k - 1, by omega⟩
    have hy' := hy
    unfold U64 at hy'
    simp only [chronobateref03_put.l0]
    have e1 : ((d + 1 : Nat) : Int) - 1 = (d : Int) := by omega
    have e2 : wrap64 ((d : Int) - 1) = (d : Int) - 1 := by unfold wrap64; omega
    rw [e1, if_pos (by omega), if_pos (by omega), if_pos (by simp; omega), e2, Int.toNat_natCast, Int.tdiv_eq_ediv_of_nonneg hy'.1, Int.tmod_eq_emod_of_nonneg hy'.1, Int.emod_emod, wu64_id (n := y / 256) (by unfold U64; omega)]
    have e3 : (List.replicate (d + 1) (0 : Int) ++ s).set d (y % 256) = List.replicate d 0 ++ (y % 256 :: s) := by
      rw [List.replicate_succ', List.append_assoc, List.set_append_right _ _ (by simp)]
      simp
    rw [e3]
    rw [ih k (y / 256) (y % 256 :: s) (by unfold U64; omega) (by omega) (by simp; omega) ha, wb]
    simp
theorem ref3_put_f (k n : Nat) (hn : n ≤ 8) (hk : n < k) (acc : List Int) (ha : acc.length ≤ 1000) {y : Int} (hy : U64 y) : chronobateref03_put.f k acc y n = some (acc ++ wb n y) := by
  unfold chronobateref03_put.f
  have e : wrap64 ((n : Int) - 1) = (n : Int) - 1 := by unfold wrap64; omega
  rw [if_pos (by omega), if_pos (by omega), e, Int.toNat_natCast]
  have z := ref3_put_l0 acc n k y [] hy hk (by simp; omega) ha
  rw [List.append_nil, List.append_nil] at z
  exact z
theorem ref3_Put_f (k : Nat) (hk : 20 ≤ k) (a0 a1 a2 a3 a4 a5 a6 a7 a8 a9 a10 a11 a12 : Int) (h0 : 0 ≤ a0 ∧ a0 ≤ 3) (h1 : 0 ≤ a1 ∧ a1 ≤ 7) (h2 : 0 ≤ a2 ∧ a2 ≤ 7) (h3 : 0 ≤ a3 ∧ a3 ≤ 255)
    (h6 : 0 ≤ a6 ∧ a6 < 4294967296) (h7 : 0 ≤ a7 ∧ a7 < 4294967296) (h8 : 0 ≤ a8 ∧ a8 < 4294967296) (h9 : U64 a9) (h10 : U64 a10) (h11 : U64 a11) (h12 : U64 a12) :
    chronobateref03_Put.f k a0 a1 a2 a3 a4 a5 a6 a7 a8 a9 a10 a11 a12 = some (put48 (64 * a0 + 8 * a1 + a2) a3 a4 a5 a6 a7 a8 a9 a10 a11 a12) := by
  unfold chronobateref03_Put.f
  have p4 := fun acc (ha : List.length acc ≤ 1000) {y : Int} (hy : U64 y) => ref3_put_f k 4 (by omega) (by omega) acc ha hy
  have p8 := fun acc (ha : List.length acc ≤ 1000) {y : Int} (hy : U64 y) => ref3_put_f k 8 (by omega) (by omega) acc ha hy
  simp only [Int.cast_ofNat_Int] at p4 p8
  rw [wu64_id (n := a6) (by unfold U64; omega), wu64_id (n := a7) (by unfold U64; omega), wu64_id (n := a8) (by unfold U64; omega)]
  rw [p4 _ (by simp) (by unfold U64; omega)]
  simp only [Option.bind_some]
  rw [p4 _ (by simp [wb_length]) (by unfold U64; omega)]
  simp only [Option.bind_some]
  rw [p4 _ (by simp [wb_length]) (by unfold U64; omega)]
  simp only [Option.bind_some]
  rw [p8 _ (by simp [wb_length]) h9]
  simp only [Option.bind_some]
  rw [p8 _ (by simp [wb_length]) h10]
  simp only [Option.bind_some]
  rw [p8 _ (by simp [wb_length]) h11]
  simp only [Option.bind_some]
  rw [p8 _ (by simp [wb_length]) h12]
  simp only [Option.bind_some]
  have w1 : ∀ c : Int, wb 1 c = [c % 256] := fun c => by simp [wb]
  have e1 : (((64 * a0) % 256 + (8 * a1) % 256) % 256 + a2) % 256 = (64 * a0 + 8 * a1 + a2) % 256 := by omega
  simp only [put48, List.flatMap_cons, List.flatMap_nil, List.append_nil, w1, Int.emod_emod, e1, Int.emod_eq_of_lt h3.1 (show a3 < 256 by omega)]
  simp [List.append_assoc]
theorem ref3_Check_f (a0 a1 a2 a3 a4 a5 a6 a7 a8 a9 a10 a11 a12 : Int) : chronobateref03_Check.f a0 a1 a2 a3 a4 a5 a6 a7 a8 a9 a10 a11 a12 = some (if a0 ≤ 3 ∧ a1 ≤ 7 ∧ a2 ≤ 7 then 0 else 3) := by
  unfold chronobateref03_Check.f
  by_cases h0 : a0 > 3
  · rw [if_pos h0, if_neg (by omega)]
  · rw [if_neg h0]
    by_cases h1 : a1 > 7
    · rw [if_pos h1, if_neg (by omega)]
    · rw [if_neg h1]
      by_cases h2 : a2 > 7
      · rw [if_pos h2, if_neg (by omega)]
      · rw [if_neg h2, if_pos (by omega)]
end Go.Proofs.Ytingjmdilglgaaa.L
