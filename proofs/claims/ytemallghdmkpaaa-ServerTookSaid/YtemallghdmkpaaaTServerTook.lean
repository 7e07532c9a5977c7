/- The tree of the law ServerTook, and that all its ends say true. No conditions. -/
import Derived.Test.YtemallghdmkpaaaSX3
import Derived.Test.YtemallghdmkpaaaProg
import Derived.KernelRfl
import Derived.Test.YtemallghdmkpaaaCAlive
namespace Go.Proofs.Ytemallghdmkpaaa.TServerTook
open Go Go.SX Go.Proofs.Ytemallghdmkpaaa
set_option maxRecDepth 100000
set_option linter.unusedVariables false
set_option linter.unusedSimpArgs false

def loops : List LoopSpec := []
def cfg : Cfg := { ok := [3, 4, 5, 6, 7, 8, 9, 10, 11, 12, 13, 14, 15, 16, 17, 18, 19, 20, 21, 22, 23, 24, 25, 26, 27, 28, 29, 30, 31, 32, 33, 34, 35, 36, 37, 38, 39, 40, 41, 42, 43, 44, 45, 46, 47, 48, 49, 50, 67, 68, 69, 70, 71], sums := sumsOf [(9, Alive.pat)], loops := loops }
def F : Nat → List Int → Int := fun _ _ => 0
theorem cfg_ok (G : Nat → List Int → Int) (hG : ∀ j, 100 ≤ j → G j = F j) : CfgOk Try.prog cfg G (fun _ _ => True) :=
  ⟨by kernel_rfl, okB_spec (by kernel_rfl), fun f a m out h S w0 bs ρ w vs v mem' _ hρ hvs hm hp => sumsOf_sound (F := F) (l := [(9, Alive.pat)]) (fun p hp => by
    simp only [List.mem_cons, List.not_mem_nil, or_false] at hp
    rcases hp with rfl
    · exact Alive.ok F) h (fun j hj => by rw [hρ]; exact hG j hj) hvs hm hp⟩
def args : List AV := [.agg (Go.SX.ofList [.int .i64 (.var 0), .int .i64 (.var 1), .int .i64 (.var 2), .int .i64 (.var 3), .int .i64 (.var 4), .int .u64 (.var 5)]), .int .u32 (.var 6)]
def mem : List AObj := []
def tree : Tree :=
(.ite (.cmp .lss (.var 0) (.lit 0))
 (.leaf (.bool (.lit 1)) [])
 (.ite (.cmp .lss (.lit 3) (.var 0))
 (.leaf (.bool (.lit 1)) [])
 (.ite (.cmp .lss (.mn (.mn (.var 1) (.var 2)) (.var 3)) (.lit 0))
 (.leaf (.bool (.lit 1)) [])
 (.ite (.cmp .lss (.lit 1099511627776) (.mx (.mx (.var 1) (.var 2)) (.var 3)))
 (.leaf (.bool (.lit 1)) [])
 (.ite (.cmp .lss (.var 4) (.lit (-1125899906842624)))
 (.leaf (.bool (.lit 1)) [])
 (.ite (.cmp .lss (.lit 1125899906842624) (.var 4))
 (.leaf (.bool (.lit 1)) [])
 (.ite (.cmp .lss (.mn (.mn (.bin .add .i64 (.var 1) (.conv .i64 (.var 6))) (.var 2)) (.var 3)) (.lit 0))
 (.leaf (.bool (.cmp .lss (.lit 1099511627776) (.bin .add .i64 (.var 1) (.conv .i64 (.var 6))))) [])
 (.ite (.cmp .lss (.lit 1099511627776) (.mx (.mx (.bin .add .i64 (.var 1) (.conv .i64 (.var 6))) (.var 2)) (.var 3)))
 (.leaf (.bool (.cmp .lss (.lit 1099511627776) (.bin .add .i64 (.var 1) (.conv .i64 (.var 6))))) [])
 (.leaf (.bool (.cmp .eql (.bin .add .i64 (.bin .add .i64 (.bin .add .i64 (.var 1) (.conv .i64 (.var 6))) (.var 2)) (.var 3)) (.bin .add .i64 (.bin .add .i64 (.bin .add .i64 (.var 1) (.var 2)) (.var 3)) (.conv .i64 (.var 6))))) [])))))))))
set_option maxHeartbeats 40000000 in
theorem tree_eq : callT Try.prog cfg 100000 0 5 args mem [] = tree := by kernel_rfl
theorem mn_lt (a b x : Int) : (if b < a then b else a) < x ↔ a < x ∨ b < x := by split <;> omega
theorem le_mn (a b x : Int) : x ≤ (if b < a then b else a) ↔ x ≤ a ∧ x ≤ b := by split <;> omega
theorem lt_mx (a b x : Int) : x < (if b > a then b else a) ↔ x < a ∨ x < b := by split <;> omega
theorem mx_le (a b x : Int) : (if b > a then b else a) ≤ x ↔ a ≤ x ∧ b ≤ x := by split <;> omega
theorem tree_holds (ρ : Env) (h0 : inR .i64 (ρ.v 0) = true) (h1 : inR .i64 (ρ.v 1) = true) (h2 : inR .i64 (ρ.v 2) = true) (h3 : inR .i64 (ρ.v 3) = true) (h4 : inR .i64 (ρ.v 4) = true) (h5 : inR .u64 (ρ.v 5) = true) (h6 : inR .u32 (ρ.v 6) = true) (hf : ∀ j, 100 ≤ j → ρ.f j = F j) : tree.holds (fun _ _ => True) saysTrue ρ := by
  have b6 := u32_in h6
  have w : IntKind.i64.wrap (ρ.v 6) = ρ.v 6 := wrap_i64 (by omega) (by omega)
  unfold tree
  refine ⟨fun _ => says1, fun _ => ⟨fun _ => says1, fun _ => ⟨fun _ => says1, fun g1 => ⟨fun _ => says1, fun g2 => ⟨fun _ => says1, fun _ => ⟨fun _ => says1, fun _ => ?_⟩⟩⟩⟩⟩⟩
  rw [ev_lss'] at g1 g2
  simp only [den, le_mn, mx_le] at g1 g2
  have a1 : binI .add .i64 (ρ.v 1) (ρ.v 6) = ρ.v 1 + ρ.v 6 := add_i64 (by omega) (by omega)
  have a2 : binI .add .i64 (ρ.v 1 + ρ.v 6) (ρ.v 2) = ρ.v 1 + ρ.v 6 + ρ.v 2 := add_i64 (by omega) (by omega)
  have a3 : binI .add .i64 (ρ.v 1 + ρ.v 6 + ρ.v 2) (ρ.v 3) = ρ.v 1 + ρ.v 6 + ρ.v 2 + ρ.v 3 := add_i64 (by omega) (by omega)
  have a4 : binI .add .i64 (ρ.v 1) (ρ.v 2) = ρ.v 1 + ρ.v 2 := add_i64 (by omega) (by omega)
  have a5 : binI .add .i64 (ρ.v 1 + ρ.v 2) (ρ.v 3) = ρ.v 1 + ρ.v 2 + ρ.v 3 := add_i64 (by omega) (by omega)
  have a6 : binI .add .i64 (ρ.v 1 + ρ.v 2 + ρ.v 3) (ρ.v 6) = ρ.v 1 + ρ.v 2 + ρ.v 3 + ρ.v 6 := add_i64 (by omega) (by omega)
  refine ⟨fun h => ?_, fun h => ⟨fun h' => ?_, fun h' => ?_⟩⟩
  · exfalso; rw [ev_lss] at h; simp only [den, w, a1, mn_lt] at h; omega
  · show evB ρ (.cmp .lss _ _) = true
    rw [ev_lss] at h' ⊢
    simp only [den, w, a1, lt_mx] at h' ⊢
    omega
  · show evB ρ (.cmp .eql _ _) = true
    rw [ev_eql]
    simp only [den, w, a1, a2, a3, a4, a5, a6]
    omega
end Go.Proofs.Ytemallghdmkpaaa.TServerTook
