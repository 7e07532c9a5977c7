/- The tree of the law ServerKinds, and that all its ends say true. No conditions. -/
import Derived.Test.YtemallghdmkpaaaSX3
import Derived.Test.YtemallghdmkpaaaProg
import Derived.KernelRfl
import Derived.Test.YtemallghdmkpaaaCAlive
import Derived.Test.YtemallghdmkpaaaCQuery
import Derived.Test.YtemallghdmkpaaaCGetA
import Derived.Test.YtemallghdmkpaaaCAnsR
import Derived.Test.YtemallghdmkpaaaCAnsA
import Derived.Test.YtemallghdmkpaaaCLookR
import Derived.Test.YtemallghdmkpaaaCCheck
import Derived.Test.YtemallghdmkpaaaB
namespace Go.Proofs.Ytemallghdmkpaaa.TServerKinds
open Go Go.SX Go.Proofs.Ytemallghdmkpaaa Go.Proofs.Ytemallghdmkpaaa.L Go.RowKit Go.Proofs.YtemallghdmkpaaaW.PrintWords
set_option maxRecDepth 100000
set_option linter.unusedVariables false
set_option linter.unusedSimpArgs false

def loops : List LoopSpec := []
def cfg : Cfg := { ok := [3, 4, 5, 6, 7, 8, 9, 10, 11, 12, 13, 14, 15, 16, 17, 18, 19, 20, 21, 22, 23, 24, 25, 26, 27, 28, 29, 30, 31, 32, 33, 34, 35, 36, 37, 38, 39, 40, 41, 42, 43, 44, 45, 46, 47, 48, 49, 50, 67, 68, 69, 70, 71], sums := sums2 B.cus [(9, Alive.pat), (11, Query.pat), (17, GetA.pat), (10, AnsR.pat), (10, AnsA.pat), (16, LookR.pat), (8, Check.pat)], loops := loops }
abbrev F : Nat → List Int → Int := B.F
theorem cfg_ok (G : Nat → List Int → Int) (hG : ∀ j, 100 ≤ j → G j = B.F j) : CfgOk Try.prog cfg G (fun _ _ => True) :=
  ⟨by kernel_rfl, okB_spec (by kernel_rfl), fun f a m out h S w0 bs ρ w vs v mem' _ hρ hvs hm hp => sums2_sound B.cus_ok (l := [(9, Alive.pat), (11, Query.pat), (17, GetA.pat), (10, AnsR.pat), (10, AnsA.pat), (16, LookR.pat), (8, Check.pat)]) (fun p hp => by
    simp only [List.mem_cons, List.not_mem_nil, or_false] at hp
    rcases hp with rfl | rfl | rfl | rfl | rfl | rfl | rfl
    · exact Alive.ok
    · exact Query.ok
    · exact GetA.ok
    · exact AnsR.ok
    · exact AnsA.ok
    · exact LookR.ok
    · exact Check.ok) h (fun j hj => by rw [hρ]; exact hG j hj) hvs hm hp⟩
def args : List AV := [.agg (Go.SX.ofList [.int .i64 (.var 0), .int .i64 (.var 1), .int .i64 (.var 2), .int .i64 (.var 3), .int .i64 (.var 4), .int .u64 (.var 5)]), .int .u64 (.var 6), .arg 0]
def mem : List AObj := [.sym (.var 7) (.var 8) [.int .u8 0] 5]
def tree : Tree :=
(.ite (.cmp .lss (.lit 500) (.var 7))
 (.leaf (.bool (.lit 1)) [])
 (.ite (.cmp .eql (.var 6) (.lit 0))
 (.leaf (.bool (.lit 1)) [])
 (.ite (.cmp .lss (.mn (.mn (.var 1) (.var 2)) (.var 3)) (.lit 0))
 (.leaf (.bool (.lit 1)) [])
 (.ite (.cmp .lss (.lit 1099511627776) (.mx (.mx (.var 1) (.var 2)) (.var 3)))
 (.leaf (.bool (.lit 1)) [])
 (.ite (.cmp .lss (.var 4) (.lit (-1125899906842624)))
 (.leaf (.bool (.lit 1)) [])
 (.ite (.cmp .lss (.lit 1125899906842624) (.var 4))
 (.leaf (.bool (.lit 1)) [])
 (.ite (.cmp .eql (.conv .u64 (.var 6)) (.var 6))
 (.ite (.cmp .neq (.mn (.conv .u64 (.mx (.lit 1) (.app 120 (.cons (.app 121 (.cons (.lit 5) (.cons (.var 4) .nil))) .nil)))) (.conv .u64 (.mx (.lit 1) (.app 120 (.cons (.app 121 (.cons (.app 121 (.cons (.lit 5) (.cons (.var 2) .nil))) (.cons (.var 4) .nil))) .nil))))) (.lit 0))
 (.ite (.cmp .lss (.var 7) (.lit 48))
 (.ite (.cmp .neq (.mn (.conv .u64 (.mx (.lit 1) (.var 5))) (.conv .u64 (.mx (.lit 1) (.var 5)))) (.lit 0))
 (.leaf (.bool (.lit 1)) [])
 (.leaf (.bool (.lit 0)) []))
 (.need (.cmp .lss (.lit 4) (.var 8)) (.need (.cmp .leq (.lit 8) (.var 8)) (.need (.cmp .lss (.lit 8) (.var 8)) (.need (.cmp .leq (.lit 12) (.var 8)) (.need (.cmp .lss (.lit 12) (.var 8)) (.need (.cmp .leq (.lit 16) (.var 8)) (.need (.cmp .lss (.lit 16) (.var 8)) (.need (.cmp .leq (.lit 24) (.var 8)) (.need (.cmp .lss (.lit 24) (.var 8)) (.need (.cmp .leq (.lit 32) (.var 8)) (.need (.cmp .lss (.lit 32) (.var 8)) (.need (.cmp .leq (.lit 40) (.var 8)) (.need (.cmp .lss (.lit 40) (.var 8)) (.need (.cmp .leq (.lit 48) (.var 8)) (.ite (.cmp .neq (.var 7) (.lit 48))
 (.ite (.cmp .neq (.mn (.conv .u64 (.mx (.lit 1) (.var 5))) (.conv .u64 (.mx (.lit 1) (.var 5)))) (.lit 0))
 (.leaf (.bool (.lit 1)) [])
 (.leaf (.bool (.lit 0)) []))
 (.ite (.cmp .neq (.bin .and .u8 (.bin .shr .u8 (.app 0 (.cons (.lit 0) .nil)) (.lit 3)) (.lit 7)) (.lit 4))
 (.ite (.cmp .neq (.mn (.conv .u64 (.mx (.lit 1) (.var 5))) (.conv .u64 (.mx (.lit 1) (.var 5)))) (.lit 0))
 (.leaf (.bool (.lit 1)) [])
 (.leaf (.bool (.lit 0)) []))
 (.ite (.cmp .neq (.bin .and .u8 (.app 0 (.cons (.lit 0) .nil)) (.lit 7)) (.lit 3))
 (.ite (.cmp .neq (.mn (.conv .u64 (.mx (.lit 1) (.var 5))) (.conv .u64 (.mx (.lit 1) (.var 5)))) (.lit 0))
 (.leaf (.bool (.lit 1)) [])
 (.leaf (.bool (.lit 0)) []))
 (.ite (.cmp .neq (.mn (.conv .u64 (.mx (.lit 1) (.var 5))) (.conv .u64 (.mx (.lit 1) (.var 5)))) (.lit 0))
 (.leaf (.bool (.lit 1)) [])
 (.leaf (.bool (.lit 0)) []))))))))))))))))))))
 (.leaf (.bool (.lit 0)) []))
 (.leaf (.bool (.lit 0)) []))))))))
set_option maxHeartbeats 40000000 in
theorem tree_eq : callT Try.prog cfg 100000 0 6 args mem [] = tree := by kernel_rfl
theorem tf {ρ : Env} {c : SE} {p : Prop} (h : evB ρ c = true) (h' : evB ρ c = false) : p := by rw [h] at h'; cases h'
theorem mx1 (ρ : Env) (A : SE) (hA : 0 ≤ den ρ A ∧ den ρ A < 18446744073709551616) : 1 ≤ den ρ (.conv .u64 (.mx (.lit 1) A)) := by
  show 1 ≤ IntKind.u64.wrap (if den ρ A > 1 then den ρ A else 1)
  rw [u64_wrap]
  split <;> omega
theorem some_ne (ρ : Env) (A B : SE) (hA : 0 ≤ den ρ A ∧ den ρ A < 18446744073709551616) (hB : 0 ≤ den ρ B ∧ den ρ B < 18446744073709551616) :
    evB ρ (.cmp .neq (.mn (.conv .u64 (.mx (.lit 1) A)) (.conv .u64 (.mx (.lit 1) B))) (.lit 0)) = true := by
  rw [ev_neq]
  have e1 := mx1 ρ A hA
  have e2 := mx1 ρ B hB
  show (if den ρ (.conv .u64 (.mx (.lit 1) B)) < den ρ (.conv .u64 (.mx (.lit 1) A)) then den ρ (.conv .u64 (.mx (.lit 1) B)) else den ρ (.conv .u64 (.mx (.lit 1) A))) ≠ 0
  generalize den ρ (.conv .u64 (.mx (.lit 1) B)) = y at *
  generalize den ρ (.conv .u64 (.mx (.lit 1) A)) = x at *
  split <;> omega
theorem tree_holds (ρ : Env) (h0 : inR .i64 (ρ.v 0) = true) (h1 : inR .i64 (ρ.v 1) = true) (h2 : inR .i64 (ρ.v 2) = true) (h3 : inR .i64 (ρ.v 3) = true) (h4 : inR .i64 (ρ.v 4) = true) (h5 : inR .u64 (ρ.v 5) = true) (h6 : inR .u64 (ρ.v 6) = true)
    (h7 : 0 ≤ ρ.v 7) (h8 : ρ.v 7 ≤ ρ.v 8) (_ : ρ.v 7 * 1 ≤ 140737488351232) (_ : ∀ i : Int, 0 ≤ i → i < ρ.v 7 → inR .u8 (ρ.f 0 [i]) = true) (hf : ∀ j, 100 ≤ j → ρ.f j = F j) : tree.holds (fun _ _ => True) saysTrue ρ := by
  have b6 := u64_in h6
  have f120 : ∀ a, 0 ≤ ρ.f 120 [a] ∧ ρ.f 120 [a] < 18446744073709551616 := fun a => by
    rw [hf 120 (by omega)]
    have := fr_range a
    unfold U64 at this
    have e : F 120 [a] = fr a := rfl
    rw [e]; omega
  have b5 := u64_in h5
  have c6 : evB ρ (.cmp .eql (.conv .u64 (.var 6)) (.var 6)) = true := by rw [ev_eql]; simp only [den, u64_wrap]; omega
  have s5 : evB ρ (.cmp .neq (.mn (.conv .u64 (.mx (.lit 1) (.var 5))) (.conv .u64 (.mx (.lit 1) (.var 5)))) (.lit 0)) = true := some_ne ρ (.var 5) (.var 5) (by simp only [den]; omega) (by simp only [den]; omega)
  have d : ∀ {t : Tree}, t.holds (fun _ _ => True) saysTrue ρ → ∀ {e : Tree}, (Tree.ite (.cmp .neq (.mn (.conv .u64 (.mx (.lit 1) (.var 5))) (.conv .u64 (.mx (.lit 1) (.var 5)))) (.lit 0)) t e).holds (fun _ _ => True) saysTrue ρ := fun ht => ⟨fun _ => ht, fun h => tf s5 h⟩
  have l1 : ∀ {m : List AObj}, (Tree.leaf (.bool (.lit 1)) m).holds (fun _ _ => True) saysTrue ρ := says1
  have g120 : ∀ a : SE, 0 ≤ den ρ (.app 120 (.cons a .nil)) ∧ den ρ (.app 120 (.cons a .nil)) < 18446744073709551616 := fun a => f120 _
  unfold tree
  refine ⟨fun _ => says1, fun _ => ⟨fun _ => says1, fun _ => ⟨fun _ => says1, fun _ => ⟨fun _ => says1, fun _ => ⟨fun _ => says1, fun _ => ⟨fun _ => says1, fun _ => ⟨fun _ => ⟨fun _ => ⟨fun _ => d l1, fun h => ?_⟩, fun h => tf (some_ne ρ _ _ (g120 _) (g120 _)) h⟩, fun h => tf c6 h⟩⟩⟩⟩⟩⟩⟩
  rw [ev_lss'] at h
  simp only [den] at h
  iterate 14 refine ⟨by simp only [ev_lss, ev_leq, den]; omega, ?_⟩
  exact ⟨fun _ => d l1, fun _ => ⟨fun _ => d l1, fun _ => ⟨fun _ => d l1, fun _ => d l1⟩⟩⟩
end Go.Proofs.Ytemallghdmkpaaa.TServerKinds
