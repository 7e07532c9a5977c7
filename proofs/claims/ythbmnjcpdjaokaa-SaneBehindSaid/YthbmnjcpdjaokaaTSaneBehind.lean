/- The law SaneBehind: all its ends say true, for 48 bytes and more, and for each smaller length. No conditions. -/
import Derived.Test.YthbmnjcpdjaokaaTSb1
import Derived.Test.YthbmnjcpdjaokaaTSb2
import Derived.Test.YthbmnjcpdjaokaaTSb3
import Derived.Test.YthbmnjcpdjaokaaTSb4
namespace Go.Proofs.Ythbmnjcpdjaokaa.TSaneBehind
open Go Go.SX Go.Proofs.Ythbmnjcpdjaokaa
set_option maxRecDepth 100000
set_option linter.unusedVariables false
set_option linter.unusedSimpArgs false
theorem A_true {k : Nat} (h : k < 48) : allTrue (tA k) = true := by
  exact
  if h0 : k < 2 then by
    have e : k = 0 + (k - 0) := by omega
    rw [e]; exact List.all_eq_true.1 A0_true _ (List.mem_range.2 (by omega))
  else
  if h2 : k < 4 then by
    have e : k = 2 + (k - 2) := by omega
    rw [e]; exact List.all_eq_true.1 A2_true _ (List.mem_range.2 (by omega))
  else
  if h4 : k < 6 then by
    have e : k = 4 + (k - 4) := by omega
    rw [e]; exact List.all_eq_true.1 A4_true _ (List.mem_range.2 (by omega))
  else
  if h6 : k < 8 then by
    have e : k = 6 + (k - 6) := by omega
    rw [e]; exact List.all_eq_true.1 A6_true _ (List.mem_range.2 (by omega))
  else
  if h8 : k < 10 then by
    have e : k = 8 + (k - 8) := by omega
    rw [e]; exact List.all_eq_true.1 A8_true _ (List.mem_range.2 (by omega))
  else
  if h10 : k < 12 then by
    have e : k = 10 + (k - 10) := by omega
    rw [e]; exact List.all_eq_true.1 A10_true _ (List.mem_range.2 (by omega))
  else
  if h12 : k < 14 then by
    have e : k = 12 + (k - 12) := by omega
    rw [e]; exact List.all_eq_true.1 A12_true _ (List.mem_range.2 (by omega))
  else
  if h14 : k < 16 then by
    have e : k = 14 + (k - 14) := by omega
    rw [e]; exact List.all_eq_true.1 A14_true _ (List.mem_range.2 (by omega))
  else
  if h16 : k < 18 then by
    have e : k = 16 + (k - 16) := by omega
    rw [e]; exact List.all_eq_true.1 A16_true _ (List.mem_range.2 (by omega))
  else
  if h18 : k < 20 then by
    have e : k = 18 + (k - 18) := by omega
    rw [e]; exact List.all_eq_true.1 A18_true _ (List.mem_range.2 (by omega))
  else
  if h20 : k < 22 then by
    have e : k = 20 + (k - 20) := by omega
    rw [e]; exact List.all_eq_true.1 A20_true _ (List.mem_range.2 (by omega))
  else
  if h22 : k < 24 then by
    have e : k = 22 + (k - 22) := by omega
    rw [e]; exact List.all_eq_true.1 A22_true _ (List.mem_range.2 (by omega))
  else
  if h24 : k < 26 then by
    have e : k = 24 + (k - 24) := by omega
    rw [e]; exact List.all_eq_true.1 A24_true _ (List.mem_range.2 (by omega))
  else
  if h26 : k < 28 then by
    have e : k = 26 + (k - 26) := by omega
    rw [e]; exact List.all_eq_true.1 A26_true _ (List.mem_range.2 (by omega))
  else
  if h28 : k < 30 then by
    have e : k = 28 + (k - 28) := by omega
    rw [e]; exact List.all_eq_true.1 A28_true _ (List.mem_range.2 (by omega))
  else
  if h30 : k < 32 then by
    have e : k = 30 + (k - 30) := by omega
    rw [e]; exact List.all_eq_true.1 A30_true _ (List.mem_range.2 (by omega))
  else
  if h32 : k < 34 then by
    have e : k = 32 + (k - 32) := by omega
    rw [e]; exact List.all_eq_true.1 A32_true _ (List.mem_range.2 (by omega))
  else
  if h34 : k < 36 then by
    have e : k = 34 + (k - 34) := by omega
    rw [e]; exact List.all_eq_true.1 A34_true _ (List.mem_range.2 (by omega))
  else
  if h36 : k < 38 then by
    have e : k = 36 + (k - 36) := by omega
    rw [e]; exact List.all_eq_true.1 A36_true _ (List.mem_range.2 (by omega))
  else
  if h38 : k < 40 then by
    have e : k = 38 + (k - 38) := by omega
    rw [e]; exact List.all_eq_true.1 A38_true _ (List.mem_range.2 (by omega))
  else
  if h40 : k < 42 then by
    have e : k = 40 + (k - 40) := by omega
    rw [e]; exact List.all_eq_true.1 A40_true _ (List.mem_range.2 (by omega))
  else
  if h42 : k < 44 then by
    have e : k = 42 + (k - 42) := by omega
    rw [e]; exact List.all_eq_true.1 A42_true _ (List.mem_range.2 (by omega))
  else
  if h44 : k < 46 then by
    have e : k = 44 + (k - 44) := by omega
    rw [e]; exact List.all_eq_true.1 A44_true _ (List.mem_range.2 (by omega))
  else
  if h46 : k < 48 then by
    have e : k = 46 + (k - 46) := by omega
    rw [e]; exact List.all_eq_true.1 A46_true _ (List.mem_range.2 (by omega))
  else absurd h (by omega)
theorem B_true {k : Nat} (h : k < 48) : allTrue (tB k) = true := by
  exact
  if h0 : k < 2 then by
    have e : k = 0 + (k - 0) := by omega
    rw [e]; exact List.all_eq_true.1 B0_true _ (List.mem_range.2 (by omega))
  else
  if h2 : k < 4 then by
    have e : k = 2 + (k - 2) := by omega
    rw [e]; exact List.all_eq_true.1 B2_true _ (List.mem_range.2 (by omega))
  else
  if h4 : k < 6 then by
    have e : k = 4 + (k - 4) := by omega
    rw [e]; exact List.all_eq_true.1 B4_true _ (List.mem_range.2 (by omega))
  else
  if h6 : k < 8 then by
    have e : k = 6 + (k - 6) := by omega
    rw [e]; exact List.all_eq_true.1 B6_true _ (List.mem_range.2 (by omega))
  else
  if h8 : k < 10 then by
    have e : k = 8 + (k - 8) := by omega
    rw [e]; exact List.all_eq_true.1 B8_true _ (List.mem_range.2 (by omega))
  else
  if h10 : k < 12 then by
    have e : k = 10 + (k - 10) := by omega
    rw [e]; exact List.all_eq_true.1 B10_true _ (List.mem_range.2 (by omega))
  else
  if h12 : k < 14 then by
    have e : k = 12 + (k - 12) := by omega
    rw [e]; exact List.all_eq_true.1 B12_true _ (List.mem_range.2 (by omega))
  else
  if h14 : k < 16 then by
    have e : k = 14 + (k - 14) := by omega
    rw [e]; exact List.all_eq_true.1 B14_true _ (List.mem_range.2 (by omega))
  else
  if h16 : k < 18 then by
    have e : k = 16 + (k - 16) := by omega
    rw [e]; exact List.all_eq_true.1 B16_true _ (List.mem_range.2 (by omega))
  else
  if h18 : k < 20 then by
    have e : k = 18 + (k - 18) := by omega
    rw [e]; exact List.all_eq_true.1 B18_true _ (List.mem_range.2 (by omega))
  else
  if h20 : k < 22 then by
    have e : k = 20 + (k - 20) := by omega
    rw [e]; exact List.all_eq_true.1 B20_true _ (List.mem_range.2 (by omega))
  else
  if h22 : k < 24 then by
    have e : k = 22 + (k - 22) := by omega
    rw [e]; exact List.all_eq_true.1 B22_true _ (List.mem_range.2 (by omega))
  else
  if h24 : k < 26 then by
    have e : k = 24 + (k - 24) := by omega
    rw [e]; exact List.all_eq_true.1 B24_true _ (List.mem_range.2 (by omega))
  else
  if h26 : k < 28 then by
    have e : k = 26 + (k - 26) := by omega
    rw [e]; exact List.all_eq_true.1 B26_true _ (List.mem_range.2 (by omega))
  else
  if h28 : k < 30 then by
    have e : k = 28 + (k - 28) := by omega
    rw [e]; exact List.all_eq_true.1 B28_true _ (List.mem_range.2 (by omega))
  else
  if h30 : k < 32 then by
    have e : k = 30 + (k - 30) := by omega
    rw [e]; exact List.all_eq_true.1 B30_true _ (List.mem_range.2 (by omega))
  else
  if h32 : k < 34 then by
    have e : k = 32 + (k - 32) := by omega
    rw [e]; exact List.all_eq_true.1 B32_true _ (List.mem_range.2 (by omega))
  else
  if h34 : k < 36 then by
    have e : k = 34 + (k - 34) := by omega
    rw [e]; exact List.all_eq_true.1 B34_true _ (List.mem_range.2 (by omega))
  else
  if h36 : k < 38 then by
    have e : k = 36 + (k - 36) := by omega
    rw [e]; exact List.all_eq_true.1 B36_true _ (List.mem_range.2 (by omega))
  else
  if h38 : k < 40 then by
    have e : k = 38 + (k - 38) := by omega
    rw [e]; exact List.all_eq_true.1 B38_true _ (List.mem_range.2 (by omega))
  else
  if h40 : k < 42 then by
    have e : k = 40 + (k - 40) := by omega
    rw [e]; exact List.all_eq_true.1 B40_true _ (List.mem_range.2 (by omega))
  else
  if h42 : k < 44 then by
    have e : k = 42 + (k - 42) := by omega
    rw [e]; exact List.all_eq_true.1 B42_true _ (List.mem_range.2 (by omega))
  else
  if h44 : k < 46 then by
    have e : k = 44 + (k - 44) := by omega
    rw [e]; exact List.all_eq_true.1 B44_true _ (List.mem_range.2 (by omega))
  else
  if h46 : k < 48 then by
    have e : k = 46 + (k - 46) := by omega
    rw [e]; exact List.all_eq_true.1 B46_true _ (List.mem_range.2 (by omega))
  else absurd h (by omega)
theorem main_holds (ρ : Env) : (callT Try.prog (cfg [48]) 100000 0 5 args mem pc).holds (fun _ _ => True) saysTrue ρ := allTrue_holds main_true
theorem A_holds {k : Nat} (h : k < 48) (ρ : Env) : (tA k).holds (fun _ _ => True) saysTrue ρ := allTrue_holds (A_true h)
theorem B_holds {k : Nat} (h : k < 48) (ρ : Env) : (tB k).holds (fun _ _ => True) saysTrue ρ := allTrue_holds (B_true h)
theorem pc_ok (ρ : Env) (h0 : 48 ≤ ρ.v 0) (h1 : ρ.v 0 * 1 ≤ 140737488351232) (h2 : 0 ≤ ρ.v 2) (h3 : ρ.v 2 * 1 ≤ 140737488351232) : ∀ p ∈ pc, evB ρ p.1 = p.2 := by
  have s : binI .add .i64 (ρ.v 0) (ρ.v 2) = ρ.v 0 + ρ.v 2 := add_i64 (by omega) (by omega)
  intro p hp
  unfold pc at hp
  simp only [List.mem_cons, List.not_mem_nil, or_false] at hp
  rcases hp with rfl | rfl | rfl | rfl | rfl | rfl | rfl | rfl
  · rw [ev_leq]; simp only [den]; omega
  · rw [ev_leq]; simp only [den]; omega
  · rw [ev_leq]; simp only [den]; omega
  · rw [ev_lss']; simp only [den]; omega
  · rw [ev_leq]; simp only [den]; rw [s]; omega
  · rw [ev_leq]; simp only [den]; rw [s]; omega
  · rw [ev_leq]; simp only [den]; rw [s]; omega
  · rw [ev_lss']; simp only [den]; rw [s]; omega
theorem S_den {ρ : Env} {k : Nat} (h : k < 48) (h2 : 0 ≤ ρ.v 2) (h3 : ρ.v 2 * 1 ≤ 140737488351232) : den ρ (S k) = k + ρ.v 2 := by
  unfold S
  split
  · rename_i e; subst e; simp only [den]; omega
  · simp only [den]; exact add_i64 (by omega) (by omega)
theorem pcA_ok (ρ : Env) {k : Nat} (h : k < 48) (h2 : 0 ≤ ρ.v 2) (h3 : ρ.v 2 * 1 ≤ 140737488351232) (h4 : 48 ≤ k + ρ.v 2) : ∀ p ∈ pcA k, evB ρ p.1 = p.2 := by
  have s := S_den h h2 h3
  intro p hp
  unfold pcA at hp
  simp only [List.mem_cons, List.not_mem_nil, or_false] at hp
  rcases hp with rfl | rfl | rfl | rfl | rfl | rfl
  · rw [ev_leq]; simp only [den]; omega
  · rw [ev_leq]; simp only [den]; omega
  · rw [ev_leq, s]; simp only [den]; omega
  · rw [ev_leq, s]; simp only [den]; omega
  · rw [ev_leq, s]; simp only [den]; omega
  · rw [ev_lss', s]; simp only [den]; omega
theorem pcB_ok (ρ : Env) {k : Nat} (h : k < 48) (h2 : 0 ≤ ρ.v 2) (h3 : ρ.v 2 * 1 ≤ 140737488351232) (h4 : k + ρ.v 2 < 48) : ∀ p ∈ pcB k, evB ρ p.1 = p.2 := by
  have s := S_den h h2 h3
  intro p hp
  unfold pcB at hp
  simp only [List.mem_cons, List.not_mem_nil, or_false] at hp
  rcases hp with rfl | rfl | rfl | rfl | rfl
  · rw [ev_leq]; simp only [den]; omega
  · rw [ev_leq, s]; simp only [den]; omega
  · rw [ev_leq, s]; simp only [den]; omega
  · rw [ev_leq, s]; simp only [den]; omega
  · rw [ev_lss, s]; simp only [den]; omega
end Go.Proofs.Ythbmnjcpdjaokaa.TSaneBehind
