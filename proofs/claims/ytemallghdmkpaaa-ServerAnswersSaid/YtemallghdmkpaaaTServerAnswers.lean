/- The tree of the law ServerAnswers, and that all its ends say true. No conditions. -/
import Derived.Test.YtemallghdmkpaaaSX3
import Derived.Test.YtemallghdmkpaaaProg
import Derived.KernelRfl
import Derived.Test.YtemallghdmkpaaaCAlive
import Derived.Test.YtemallghdmkpaaaCAnsA
import Derived.Test.YtemallghdmkpaaaCP1
import Derived.Test.YtemallghdmkpaaaCRAnsA
import Derived.Test.YtemallghdmkpaaaB
namespace Go.Proofs.Ytemallghdmkpaaa.TServerAnswers
open Go Go.SX Go.Proofs.Ytemallghdmkpaaa Go.Proofs.Ytemallghdmkpaaa.L Go.RowKit Go.Proofs.YtemallghdmkpaaaW.PrintWords
set_option maxRecDepth 100000
set_option linter.unusedVariables false
set_option linter.unusedSimpArgs false

def loops : List LoopSpec := []
def cfg : Cfg := { ok := [3, 4, 5, 6, 7, 8, 9, 10, 11, 12, 13, 14, 15, 16, 17, 18, 19, 20, 21, 22, 23, 24, 25, 26, 27, 28, 29, 30, 31, 32, 33, 34, 35, 36, 37, 38, 39, 40, 41, 42, 43, 44, 45, 46, 47, 48, 49, 50, 67, 68, 69, 70, 71], sums := sums2 B.cus [(9, Alive.pat), (10, AnsA.pat), (12, RAnsA.pat), (8, Check.pat), (13, RCheck.pat)], loops := loops }
abbrev F : Nat → List Int → Int := B.F
theorem cfg_ok (G : Nat → List Int → Int) (hG : ∀ j, 100 ≤ j → G j = B.F j) : CfgOk Try.prog cfg G (fun _ _ => True) :=
  ⟨by kernel_rfl, okB_spec (by kernel_rfl), fun f a m out h S w0 bs ρ w vs v mem' _ hρ hvs hm hp => sums2_sound B.cus_ok (l := [(9, Alive.pat), (10, AnsA.pat), (12, RAnsA.pat), (8, Check.pat), (13, RCheck.pat)]) (fun p hp => by
    simp only [List.mem_cons, List.not_mem_nil, or_false] at hp
    rcases hp with rfl | rfl | rfl | rfl | rfl
    · exact Alive.ok
    · exact AnsA.ok
    · exact RAnsA.ok
    · exact Check.ok
    · exact RCheck.ok) h (fun j hj => by rw [hρ]; exact hG j hj) hvs hm hp⟩
def args : List AV := [.agg (Go.SX.ofList [.int .i64 (.var 0), .int .i64 (.var 1), .int .i64 (.var 2), .int .i64 (.var 3), .int .i64 (.var 4), .int .u64 (.var 5)]), .arg 0, .int .i64 (.var 8)]
def mem : List AObj := [.sym (.var 6) (.var 7) [.int .u8 0] 5]
def tree : Tree :=
(.ite (.cmp .lss (.var 6) (.lit 48))
 (.ite (.cmp .neq (.app 130 (.cons (.var 0) (.cons (.var 1) (.cons (.var 2) (.cons (.var 3) (.cons (.var 4) .nil)))))) (.lit 0))
 (.leaf (.bool (.lit 1)) [])
 (.ite (.cmp .eql (.var 0) (.lit 2))
 (.leaf (.bool (.lit 1)) [])
 (.ite (.cmp .neq (.var 6) (.lit 48))
 (.leaf (.bool (.lit 1)) [])
 (.leaf (.bool (.lit 1)) []))))
 (.ite (.cmp .neq (.app 130 (.cons (.var 0) (.cons (.var 1) (.cons (.var 2) (.cons (.var 3) (.cons (.var 4) .nil)))))) (.lit 0))
 (.leaf (.bool (.lit 1)) [])
 (.ite (.cmp .neq (.var 6) (.lit 48))
 (.ite (.cmp .eql (.var 0) (.lit 2))
 (.leaf (.bool (.lit 1)) [])
 (.leaf (.bool (.lit 1)) []))
 (.ite (.cmp .neq (.bin .and .u8 (.bin .shr .u8 (.app 0 (.cons (.lit 0) .nil)) (.lit 3)) (.lit 7)) (.lit 4))
 (.ite (.cmp .eql (.var 0) (.lit 2))
 (.leaf (.bool (.lit 1)) [])
 (.leaf (.bool (.lit 1)) []))
 (.ite (.cmp .neq (.bin .and .u8 (.app 0 (.cons (.lit 0) .nil)) (.lit 7)) (.lit 3))
 (.ite (.cmp .eql (.var 0) (.lit 2))
 (.leaf (.bool (.lit 1)) [])
 (.leaf (.bool (.lit 1)) []))
 (.ite (.cmp .eql (.var 0) (.lit 0))
 (.ite (.cmp .eql (.var 0) (.lit 2))
 (.leaf (.bool (.lit 0)) [])
 (.leaf (.bool (.lit 1)) []))
 (.ite (.cmp .eql (.var 0) (.lit 1))
 (.ite (.cmp .eql (.var 0) (.lit 2))
 (.leaf (.bool (.lit 0)) [])
 (.leaf (.bool (.lit 1)) []))
 (.ite (.cmp .eql (.var 0) (.lit 2))
 (.leaf (.bool (.lit 1)) [])
 (.ite (.cmp .eql (.var 0) (.lit 3))
 (.leaf (.bool (.lit 1)) [])
 (.fail 22))))))))))
set_option maxHeartbeats 40000000 in
theorem tree_eq : callT Try.prog cfg 100000 0 4 args mem [] = tree := by kernel_rfl
theorem tree_holds (ρ : Env) (h0 : inR .i64 (ρ.v 0) = true) (h1 : inR .i64 (ρ.v 1) = true) (h2 : inR .i64 (ρ.v 2) = true) (h3 : inR .i64 (ρ.v 3) = true) (h4 : inR .i64 (ρ.v 4) = true) (h5 : inR .u64 (ρ.v 5) = true)
    (h6 : 0 ≤ ρ.v 6) (h7 : ρ.v 6 ≤ ρ.v 7) (_ : ρ.v 6 * 1 ≤ 140737488351232) (_ : ∀ i : Int, 0 ≤ i → i < ρ.v 6 → inR .u8 (ρ.f 0 [i]) = true) (h10 : inR .i64 (ρ.v 8) = true) (hf : ∀ j, 100 ≤ j → ρ.f j = F j) : tree.holds (fun _ _ => True) saysTrue ρ := by
  have l1 : ∀ {m : List AObj}, (Tree.leaf (.bool (.lit 1)) m).holds (fun _ _ => True) saysTrue ρ := says1
  have c : ρ.f 130 [ρ.v 0, ρ.v 1, ρ.v 2, ρ.v 3, ρ.v 4] = 0 → 0 ≤ ρ.v 0 ∧ ρ.v 0 ≤ 3 := fun h => by
    rw [hf 130 (by omega)] at h
    have h : B.ck (ρ.v 0) (ρ.v 1) (ρ.v 2) (ρ.v 3) (ρ.v 4) = 0 := h
    unfold B.ck at h
    split at h
    · omega
    · omega
  unfold tree
  refine ⟨fun _ => ⟨fun _ => l1, fun _ => ⟨fun _ => l1, fun _ => ⟨fun _ => l1, fun _ => l1⟩⟩⟩, fun _ => ⟨fun _ => l1, fun g => ⟨fun _ => ⟨fun _ => l1, fun _ => l1⟩, fun _ => ⟨fun _ => ⟨fun _ => l1, fun _ => l1⟩, fun _ => ⟨fun _ => ⟨fun _ => l1, fun _ => l1⟩,
    fun _ => ⟨fun k0 => ⟨fun k2 => ?_, fun _ => l1⟩, fun k0 => ⟨fun k1 => ⟨fun k2 => ?_, fun _ => l1⟩, fun k1 => ⟨fun _ => l1, fun k2 => ⟨fun _ => l1, fun k3 => ?_⟩⟩⟩⟩⟩⟩⟩⟩⟩
  all_goals exfalso
  all_goals simp only [ev_eql, ev_eql', ev_neq', den, dens] at *
  · omega
  · omega
  · have := c g; omega
end Go.Proofs.Ytemallghdmkpaaa.TServerAnswers
