/- The tree of the law SaneGood, and that all its ends say true. No conditions. -/
import Derived.Test.YthbmnjcpdjaokaaSX3
import Derived.Test.YthbmnjcpdjaokaaProg
import Derived.KernelRfl
import Derived.Test.YthbmnjcpdjaokaaCAlive
import Derived.Test.YthbmnjcpdjaokaaCLookB
import Derived.Test.YthbmnjcpdjaokaaCP1
namespace Go.Proofs.Ythbmnjcpdjaokaa.TSaneGood
open Go Go.SX Go.Proofs.Ythbmnjcpdjaokaa
set_option maxRecDepth 100000
set_option linter.unusedVariables false
set_option linter.unusedSimpArgs false

def loops : List LoopSpec := []
def cfg : Cfg := { ok := [3, 4, 5, 6, 7, 8, 9, 10, 11, 12, 13, 14, 15, 16, 17, 18, 19, 20, 21, 22, 23, 24, 25], sums := sumsOf [(8, Alive.pat), (6, Good.pat), (7, RGood.pat), (9, LookB.pat)], loops := loops }
def F : Nat → List Int → Int := fun _ _ => 0
theorem cfg_ok (G : Nat → List Int → Int) (hG : ∀ j, 100 ≤ j → G j = F j) : CfgOk Try.prog cfg G (fun _ _ => True) :=
  ⟨by kernel_rfl, okB_spec (by kernel_rfl), fun f a m out h S w0 bs ρ w vs v mem' _ hρ hvs hm hp => sumsOf_sound (F := F) (l := [(8, Alive.pat), (6, Good.pat), (7, RGood.pat), (9, LookB.pat)]) (fun p hp => by
    simp only [List.mem_cons, List.not_mem_nil, or_false] at hp
    rcases hp with rfl | rfl | rfl | rfl
    · exact Alive.ok F
    · exact Good.ok F
    · exact RGood.ok F
    · exact LookB.ok F) h (fun j hj => by rw [hρ]; exact hG j hj) hvs hm hp⟩
def pc : List (SE × Bool) := [((.cmp .leq (.lit 0) (.var 3)), true),
 ((.cmp .leq (.lit 0) (.bin .add .i64 (.lit 48) (.var 3))), true),
 ((.cmp .leq (.bin .add .i64 (.lit 48) (.var 3)) (.lit 9223372036854775807)), true),
 ((.cmp .lss (.bin .add .i64 (.lit 48) (.var 3)) (.lit 48)), false),
 ((.cmp .eql (.conv .u64 (.var 0)) (.var 0)), true),
 ((.cmp .eql (.conv .u64 (.var 1)) (.var 1)), true),
 ((.cmp .eql (.conv .u64 (.var 2)) (.var 2)), true)]
def args : List AV := [.agg (Go.SX.ofList [.int .u64 (.var 0), .int .u64 (.var 1), .int .u64 (.var 2)]), .arg 0]
def mem : List AObj := [.sym (.var 3) (.var 4) [.int .u8 0] 5]
def tree : Tree :=
(.ite (.cmp .lss (.lit 1000) (.var 3))
 (.leaf (.bool (.cmp .lss (.lit 1000) (.var 3))) [])
 (.both (.both (.both (.both (.ite (.cmp .eql (.var 0) (.lit 0))
 (.leaf (.bool (.lit 1)) [])
 (.ite (.cmp .neq (.mn (.conv .u64 (.var 1)) (.conv .u64 (.var 2))) (.lit 0))
 (.ite (.cmp .eql (.var 1) (.lit 0))
 (.leaf (.bool (.lit 0)) [])
 (.ite (.cmp .eql (.var 2) (.lit 0))
 (.leaf (.bool (.lit 0)) [])
 (.leaf (.bool (.cmp .eql (.conv .u64 (.var 2)) (.var 2))) [])))
 (.ite (.cmp .eql (.var 1) (.lit 0))
 (.leaf (.bool (.lit 1)) [])
 (.ite (.cmp .eql (.var 2) (.lit 0))
 (.leaf (.bool (.lit 1)) [])
 (.leaf (.bool (.lit 0)) [])))))
 (.ite (.cmp .eql (.var 0) (.lit 0))
 (.leaf (.bool (.lit 1)) [])
 (.ite (.cmp .neq (.mn (.conv .u64 (.var 1)) (.conv .u64 (.var 2))) (.lit 0))
 (.ite (.cmp .eql (.var 1) (.lit 0))
 (.leaf (.bool (.lit 0)) [])
 (.ite (.cmp .eql (.var 2) (.lit 0))
 (.leaf (.bool (.lit 0)) [])
 (.leaf (.bool (.cmp .eql (.conv .u64 (.var 2)) (.var 2))) [])))
 (.ite (.cmp .eql (.var 1) (.lit 0))
 (.leaf (.bool (.lit 1)) [])
 (.ite (.cmp .eql (.var 2) (.lit 0))
 (.leaf (.bool (.lit 1)) [])
 (.leaf (.bool (.lit 0)) []))))))
 (.ite (.cmp .eql (.var 0) (.lit 0))
 (.leaf (.bool (.lit 1)) [])
 (.ite (.cmp .neq (.mn (.conv .u64 (.var 1)) (.conv .u64 (.var 2))) (.lit 0))
 (.ite (.cmp .eql (.var 1) (.lit 0))
 (.leaf (.bool (.lit 0)) [])
 (.ite (.cmp .eql (.var 2) (.lit 0))
 (.leaf (.bool (.lit 0)) [])
 (.leaf (.bool (.cmp .eql (.conv .u64 (.var 2)) (.var 2))) [])))
 (.ite (.cmp .eql (.var 1) (.lit 0))
 (.leaf (.bool (.lit 1)) [])
 (.ite (.cmp .eql (.var 2) (.lit 0))
 (.leaf (.bool (.lit 1)) [])
 (.leaf (.bool (.lit 0)) []))))))
 (.ite (.cmp .eql (.var 0) (.lit 0))
 (.leaf (.bool (.lit 1)) [])
 (.ite (.cmp .neq (.mn (.conv .u64 (.var 1)) (.conv .u64 (.var 2))) (.lit 0))
 (.ite (.cmp .eql (.var 1) (.lit 0))
 (.leaf (.bool (.lit 0)) [])
 (.ite (.cmp .eql (.var 2) (.lit 0))
 (.leaf (.bool (.lit 0)) [])
 (.leaf (.bool (.cmp .eql (.conv .u64 (.var 2)) (.var 2))) [])))
 (.ite (.cmp .eql (.var 1) (.lit 0))
 (.leaf (.bool (.lit 1)) [])
 (.ite (.cmp .eql (.var 2) (.lit 0))
 (.leaf (.bool (.lit 1)) [])
 (.leaf (.bool (.lit 0)) []))))))
 (.ite (.cmp .eql (.var 0) (.lit 0))
 (.leaf (.bool (.lit 1)) [])
 (.ite (.cmp .neq (.mn (.conv .u64 (.var 1)) (.conv .u64 (.var 2))) (.lit 0))
 (.ite (.cmp .eql (.var 1) (.lit 0))
 (.leaf (.bool (.lit 0)) [])
 (.ite (.cmp .eql (.var 2) (.lit 0))
 (.leaf (.bool (.lit 0)) [])
 (.leaf (.bool (.cmp .eql (.conv .u64 (.var 2)) (.var 2))) [])))
 (.ite (.cmp .eql (.var 1) (.lit 0))
 (.leaf (.bool (.lit 1)) [])
 (.ite (.cmp .eql (.var 2) (.lit 0))
 (.leaf (.bool (.lit 1)) [])
 (.leaf (.bool (.lit 0)) [])))))))
set_option maxHeartbeats 40000000 in
theorem tree_eq : callT Try.prog cfg 100000 0 3 args mem pc = tree := by kernel_rfl
theorem pc_ok (ρ : Env) (h0 : inR .u64 (ρ.v 0) = true) (h1 : inR .u64 (ρ.v 1) = true) (h2 : inR .u64 (ρ.v 2) = true) (h3 : 0 ≤ ρ.v 3) (h4 : ρ.v 3 ≤ ρ.v 4) (h5 : ρ.v 3 * 1 ≤ 140737488351232) (_ : ∀ i : Int, 0 ≤ i → i < ρ.v 3 → inR .u8 (ρ.f 0 [i]) = true) (hf : ∀ j, 100 ≤ j → ρ.f j = F j) : ∀ p ∈ pc, evB ρ p.1 = p.2 := by
  have b0 := u64_in h0
  have b1 := u64_in h1
  have b2 := u64_in h2
  have s : binI .add .i64 48 (ρ.v 3) = 48 + ρ.v 3 := add_i64 (by omega) (by omega)
  intro p hp
  unfold pc at hp
  simp only [List.mem_cons, List.not_mem_nil, or_false] at hp
  rcases hp with rfl | rfl | rfl | rfl | rfl | rfl | rfl
  · rw [ev_leq]; simp only [den]; omega
  · rw [ev_leq]; simp only [den]; rw [s]; omega
  · rw [ev_leq]; simp only [den]; rw [s]; omega
  · rw [ev_lss']; simp only [den]; rw [s]; omega
  · rw [ev_eql]; simp only [den, u64_wrap]; omega
  · rw [ev_eql]; simp only [den, u64_wrap]; omega
  · rw [ev_eql]; simp only [den, u64_wrap]; omega
theorem tree_holds (ρ : Env) (h0 : inR .u64 (ρ.v 0) = true) (h1 : inR .u64 (ρ.v 1) = true) (h2 : inR .u64 (ρ.v 2) = true) (h3 : 0 ≤ ρ.v 3) (h4 : ρ.v 3 ≤ ρ.v 4) (h5 : ρ.v 3 * 1 ≤ 140737488351232) (_ : ∀ i : Int, 0 ≤ i → i < ρ.v 3 → inR .u8 (ρ.f 0 [i]) = true) (hf : ∀ j, 100 ≤ j → ρ.f j = F j) : tree.holds (fun _ _ => True) saysTrue ρ := by
  have b0 := u64_in h0
  have b1 := u64_in h1
  have b2 := u64_in h2
  have mn0 : evB ρ (.cmp .neq (.mn (.conv .u64 (.var 1)) (.conv .u64 (.var 2))) (.lit 0)) = true ↔ ρ.v 1 ≠ 0 ∧ ρ.v 2 ≠ 0 := by
    rw [ev_neq]
    show (if IntKind.u64.wrap (ρ.v 2) < IntKind.u64.wrap (ρ.v 1) then IntKind.u64.wrap (ρ.v 2) else IntKind.u64.wrap (ρ.v 1)) ≠ 0 ↔ _
    simp only [u64_wrap]
    have e1 : ρ.v 1 % 18446744073709551616 = ρ.v 1 := by omega
    have e2 : ρ.v 2 % 18446744073709551616 = ρ.v 2 := by omega
    rw [e1, e2]
    split <;> omega
  have mn1 : evB ρ (.cmp .neq (.mn (.conv .u64 (.var 1)) (.conv .u64 (.var 2))) (.lit 0)) = false ↔ ¬ (ρ.v 1 ≠ 0 ∧ ρ.v 2 ≠ 0) := by
    rw [← mn0]; simp
  unfold tree
  simp only [Tree.holds, mn0, mn1, ev_eql, ev_eql', ev_lss, ev_lss', ev_leq, ev_leq', den]
  repeat' first | apply And.intro | intro _
  all_goals first
    | exact says1
    | (exfalso; omega)
    | (show evB ρ _ = true; rw [ev_lss]; simp only [den]; omega)
    | (show evB ρ _ = true; rw [ev_eql]; simp only [den, u64_wrap]; omega)
end Go.Proofs.Ythbmnjcpdjaokaa.TSaneGood
