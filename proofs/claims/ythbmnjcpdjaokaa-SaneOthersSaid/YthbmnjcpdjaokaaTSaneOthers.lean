/- The tree of the law SaneOthers, and that all its ends say true. No conditions. -/
import Derived.Test.YthbmnjcpdjaokaaSX3
import Derived.Test.YthbmnjcpdjaokaaProg
import Derived.KernelRfl
import Derived.Test.YthbmnjcpdjaokaaCAlive
import Derived.Test.YthbmnjcpdjaokaaCGetR
import Derived.Test.YthbmnjcpdjaokaaCLookR
import Derived.Test.YthbmnjcpdjaokaaCP1
namespace Go.Proofs.Ythbmnjcpdjaokaa.TSaneOthers
open Go Go.SX Go.Proofs.Ythbmnjcpdjaokaa
set_option maxRecDepth 100000
set_option linter.unusedVariables false
set_option linter.unusedSimpArgs false

def loops : List LoopSpec := []
def cfg : Cfg := { ok := [3, 4, 5, 6, 7, 8, 9, 10, 11, 12, 13, 14, 15, 16, 17, 18, 19, 20, 21, 22, 23, 24, 25], sums := sumsOf [(8, Alive.pat), (11, Put.pat), (13, GetR.pat), (9, LookR.pat)], loops := loops }
def F : Nat → List Int → Int := fun _ _ => 0
theorem cfg_ok (G : Nat → List Int → Int) (hG : ∀ j, 100 ≤ j → G j = F j) : CfgOk Try.prog cfg G (fun _ _ => True) :=
  ⟨by kernel_rfl, okB_spec (by kernel_rfl), fun f a m out h S w0 bs ρ w vs v mem' _ hρ hvs hm hp => sumsOf_sound (F := F) (l := [(8, Alive.pat), (11, Put.pat), (13, GetR.pat), (9, LookR.pat)]) (fun p hp => by
    simp only [List.mem_cons, List.not_mem_nil, or_false] at hp
    rcases hp with rfl | rfl | rfl | rfl
    · exact Alive.ok F
    · exact Put.ok F
    · exact GetR.ok F
    · exact LookR.ok F) h (fun j hj => by rw [hρ]; exact hG j hj) hvs hm hp⟩
def pc : List (SE × Bool) := [((.cmp .lss (.lit 3) (.bin .rem .u8 (.var 0) (.lit 3))), false),
 ((.cmp .eql (.bin .and .u8 (.bin .shr .u8 (.bin .or .u8 (.bin .or .u8 (.bin .shl .u8 (.bin .rem .u8 (.var 0) (.lit 3)) (.lit 6)) (.lit 32)) (.lit 4)) (.lit 3)) (.lit 7)) (.lit 4)), true),
 ((.cmp .eql (.bin .and .u8 (.bin .or .u8 (.bin .or .u8 (.bin .shl .u8 (.bin .rem .u8 (.var 0) (.lit 3)) (.lit 6)) (.lit 32)) (.lit 4)) (.lit 7)) (.lit 4)), true),
 ((.cmp .eql (.conv .u64 (.var 13)) (.var 13)), true),
 ((.cmp .neq (.bin .add .u8 (.lit 1) (.bin .rem .u8 (.var 3) (.lit 15))) (.lit 0)), true),
 ((.cmp .neq (.bin .shr .u8 (.bin .or .u8 (.bin .or .u8 (.bin .shl .u8 (.bin .rem .u8 (.var 0) (.lit 3)) (.lit 6)) (.lit 32)) (.lit 4)) (.lit 6)) (.lit 3)), true),
 ((.cmp .leq (.bin .add .u8 (.lit 1) (.bin .rem .u8 (.var 3) (.lit 15))) (.lit 15)), true),
 ((.cmp .neq (.mn (.conv .u64 (.mx (.lit 1) (.var 11))) (.conv .u64 (.mx (.lit 1) (.var 12)))) (.lit 0)), true),
 ((.not (.and (.cmp .eql (.bin .shr .u8 (.bin .or .u8 (.bin .or .u8 (.bin .shl .u8 (.bin .rem .u8 (.var 0) (.lit 3)) (.lit 6)) (.lit 32)) (.lit 4)) (.lit 6)) (.bin .rem .u8 (.var 0) (.lit 3))) (.and (.cmp .eql (.bin .and .u8 (.bin .shr .u8 (.bin .or .u8 (.bin .or .u8 (.bin .shl .u8 (.bin .rem .u8 (.var 0) (.lit 3)) (.lit 6)) (.lit 32)) (.lit 4)) (.lit 3)) (.lit 7)) (.lit 4)) (.and (.cmp .eql (.bin .and .u8 (.bin .or .u8 (.bin .or .u8 (.bin .shl .u8 (.bin .rem .u8 (.var 0) (.lit 3)) (.lit 6)) (.lit 32)) (.lit 4)) (.lit 7)) (.lit 4)) (.and (.cmp .eql (.conv .i8 (.var 4)) (.var 4)) (.and (.cmp .eql (.conv .i8 (.var 5)) (.var 5)) (.and (.cmp .eql (.conv .u32 (.var 6)) (.var 6)) (.and (.cmp .eql (.conv .u32 (.var 7)) (.var 7)) (.and (.cmp .eql (.conv .u32 (.var 8)) (.var 8)) (.and (.cmp .eql (.conv .u64 (.var 9)) (.var 9)) (.and (.cmp .eql (.conv .u64 (.var 13)) (.var 13)) (.and (.cmp .eql (.conv .u64 (.mx (.lit 1) (.var 11))) (.mx (.lit 1) (.var 11))) (.cmp .eql (.conv .u64 (.mx (.lit 1) (.var 12))) (.mx (.lit 1) (.var 12))))))))))))))), false),
 ((.cmp .eql (.bin .and .u8 (.bin .shr .u8 (.bin .or .u8 (.bin .or .u8 (.bin .shl .u8 (.bin .rem .u8 (.var 0) (.lit 3)) (.lit 6)) (.lit 24)) (.lit 4)) (.lit 3)) (.lit 7)) (.lit 4)), false),
 ((.cmp .eql (.bin .and .u8 (.bin .shr .u8 (.bin .or .u8 (.bin .or .u8 (.bin .shl .u8 (.bin .rem .u8 (.var 0) (.lit 3)) (.lit 6)) (.lit 32)) (.lit 5)) (.lit 3)) (.lit 7)) (.lit 4)), true),
 ((.cmp .eql (.bin .and .u8 (.bin .or .u8 (.bin .or .u8 (.bin .shl .u8 (.bin .rem .u8 (.var 0) (.lit 3)) (.lit 6)) (.lit 32)) (.lit 5)) (.lit 7)) (.lit 4)), false),
 ((.cmp .neq (.mn (.lit 0) (.conv .u64 (.mx (.lit 1) (.var 12)))) (.lit 0)), false),
 ((.cmp .neq (.mn (.conv .u64 (.mx (.lit 1) (.var 11))) (.lit 0)) (.lit 0)), false)]
def args : List AV := [.agg (Go.SX.ofList [.int .u8 (.var 0), .int .u8 (.var 1), .int .u8 (.var 2), .int .u8 (.var 3), .int .i8 (.var 4), .int .i8 (.var 5), .int .u32 (.var 6), .int .u32 (.var 7), .int .u32 (.var 8), .int .u64 (.var 9), .int .u64 (.var 10), .int .u64 (.var 11), .int .u64 (.var 12)]), .int .u64 (.var 13), .int .u64 (.var 14)]
def mem : List AObj := []
def tree : Tree :=
(.ite (.cmp .eql (.var 13) (.lit 0))
 (.leaf (.bool (.lit 1)) [])
 (.ite (.cmp .eql (.var 14) (.lit 0))
 (.ite (.cmp .neq (.var 14) (.var 13))
 (.leaf (.bool (.lit 1)) [])
 (.leaf (.bool (.lit 1)) []))
 (.ite (.cmp .eql (.conv .u64 (.var 13)) (.var 14))
 (.ite (.cmp .neq (.var 14) (.var 13))
 (.leaf (.bool (.lit 0)) [])
 (.leaf (.bool (.lit 1)) []))
 (.ite (.cmp .neq (.var 14) (.var 13))
 (.leaf (.bool (.lit 1)) [])
 (.leaf (.bool (.lit 1)) [])))))
set_option maxHeartbeats 40000000 in
theorem tree_eq : callT Try.prog cfg 100000 0 4 args mem pc = tree := by kernel_rfl
theorem mxe (ρ : Env) (i : Nat) (h : inR .u64 (ρ.v i) = true) : den ρ (.conv .u64 (.mx (.lit 1) (.var i))) = den ρ (.mx (.lit 1) (.var i)) ∧ 1 ≤ den ρ (.mx (.lit 1) (.var i)) := by
  have b := u64_in h
  show IntKind.u64.wrap (if ρ.v i > 1 then ρ.v i else 1) = (if ρ.v i > 1 then ρ.v i else 1) ∧ 1 ≤ (if ρ.v i > 1 then ρ.v i else 1)
  rw [u64_wrap]
  split <;> omega
theorem pc_ok (ρ : Env) (h0 : inR .u8 (ρ.v 0) = true) (h1 : inR .u8 (ρ.v 1) = true) (h2 : inR .u8 (ρ.v 2) = true) (h3 : inR .u8 (ρ.v 3) = true) (h4 : inR .i8 (ρ.v 4) = true) (h5 : inR .i8 (ρ.v 5) = true) (h6 : inR .u32 (ρ.v 6) = true) (h7 : inR .u32 (ρ.v 7) = true) (h8 : inR .u32 (ρ.v 8) = true) (h9 : inR .u64 (ρ.v 9) = true) (h10 : inR .u64 (ρ.v 10) = true) (h11 : inR .u64 (ρ.v 11) = true) (h12 : inR .u64 (ρ.v 12) = true) (h13 : inR .u64 (ρ.v 13) = true) (h14 : inR .u64 (ρ.v 14) = true) (hf : ∀ j, 100 ≤ j → ρ.f j = F j) : ∀ p ∈ pc, evB ρ p.1 = p.2 := by
  have b0 := u8_inR h0
  have b3 := u8_inR h3
  have b4 := i8_inR h4
  have b5 := i8_inR h5
  have b6 := u32_in h6
  have b7 := u32_in h7
  have b8 := u32_in h8
  have b9 := u64_in h9
  have b13 := u64_in h13
  obtain ⟨m11, n11⟩ := mxe ρ 11 h11
  obtain ⟨m12, n12⟩ := mxe ρ 12 h12
  have hr : binI .rem .u8 (ρ.v 0) 3 = 0 ∨ binI .rem .u8 (ρ.v 0) 3 = 1 ∨ binI .rem .u8 (ρ.v 0) 3 = 2 := by
    show (ρ.v 0).tmod 3 = 0 ∨ (ρ.v 0).tmod 3 = 1 ∨ (ρ.v 0).tmod 3 = 2
    rw [Int.tmod_eq_emod_of_nonneg b0.1]
    omega
  have hs : binI .add .u8 1 (binI .rem .u8 (ρ.v 3) 15) = 1 + (ρ.v 3) % 15 := by
    show IntKind.u8.wrap (1 + (ρ.v 3).tmod 15) = _
    rw [Int.tmod_eq_emod_of_nonneg b3.1, u8_wrap]
    omega
  have mn0 : ∀ a b : SE, 0 ≤ den ρ a → 0 ≤ den ρ b → (den ρ a = 0 ∨ den ρ b = 0) → den ρ (.mn a b) = 0 := fun a b h1 h2 h => by
    show (if den ρ b < den ρ a then den ρ b else den ρ a) = 0
    split <;> omega
  have mn1 : ∀ a b : SE, 1 ≤ den ρ a → 1 ≤ den ρ b → den ρ (.mn a b) ≠ 0 := fun a b h1 h2 => by
    show (if den ρ b < den ρ a then den ρ b else den ρ a) ≠ 0
    split <;> omega
  intro p hp
  unfold pc at hp
  simp only [List.mem_cons, List.not_mem_nil, or_false] at hp
  rcases hp with rfl | rfl | rfl | rfl | rfl | rfl | rfl | rfl | rfl | rfl | rfl | rfl | rfl | rfl
  · rw [ev_lss']; simp only [den]; omega
  · rw [ev_eql]; simp only [den]; rcases hr with e | e | e <;> rw [e] <;> decide +kernel
  · rw [ev_eql]; simp only [den]; rcases hr with e | e | e <;> rw [e] <;> decide +kernel
  · rw [ev_eql]; simp only [den, u64_wrap]; omega
  · rw [ev_neq]; simp only [den]; rw [hs]; omega
  · rw [ev_neq]; simp only [den]; rcases hr with e | e | e <;> rw [e] <;> decide +kernel
  · rw [ev_leq]; simp only [den]; rw [hs]; omega
  · rw [ev_neq]; exact mn1 _ _ (by rw [m11]; exact n11) (by rw [m12]; exact n12)
  · rw [ev_not']
    simp only [ev_and, ev_eql]
    refine ⟨?_, ?_, ?_, ?_, ?_, ?_, ?_, ?_, ?_, ?_, m11, m12⟩
    · simp only [den]; rcases hr with e | e | e <;> rw [e] <;> decide +kernel
    · simp only [den]; rcases hr with e | e | e <;> rw [e] <;> decide +kernel
    · simp only [den]; rcases hr with e | e | e <;> rw [e] <;> decide +kernel
    · simp only [den, i8_wrap]; omega
    · simp only [den, i8_wrap]; omega
    · simp only [den, u32_wrap]; omega
    · simp only [den, u32_wrap]; omega
    · simp only [den, u32_wrap]; omega
    · simp only [den, u64_wrap]; omega
    · simp only [den, u64_wrap]; omega
  · rw [ev_eql']; simp only [den]; rcases hr with e | e | e <;> rw [e] <;> decide +kernel
  · rw [ev_eql]; simp only [den]; rcases hr with e | e | e <;> rw [e] <;> decide +kernel
  · rw [ev_eql']; simp only [den]; rcases hr with e | e | e <;> rw [e] <;> decide +kernel
  · rw [ev_neq']; exact mn0 _ _ (by simp only [den]; omega) (by rw [m12]; omega) (.inl rfl)
  · rw [ev_neq']; exact mn0 _ _ (by rw [m11]; omega) (by simp only [den]; omega) (.inr rfl)
theorem tree_holds (ρ : Env) (h0 : inR .u8 (ρ.v 0) = true) (h1 : inR .u8 (ρ.v 1) = true) (h2 : inR .u8 (ρ.v 2) = true) (h3 : inR .u8 (ρ.v 3) = true) (h4 : inR .i8 (ρ.v 4) = true) (h5 : inR .i8 (ρ.v 5) = true) (h6 : inR .u32 (ρ.v 6) = true) (h7 : inR .u32 (ρ.v 7) = true) (h8 : inR .u32 (ρ.v 8) = true) (h9 : inR .u64 (ρ.v 9) = true) (h10 : inR .u64 (ρ.v 10) = true) (h11 : inR .u64 (ρ.v 11) = true) (h12 : inR .u64 (ρ.v 12) = true) (h13 : inR .u64 (ρ.v 13) = true) (h14 : inR .u64 (ρ.v 14) = true) (hf : ∀ j, 100 ≤ j → ρ.f j = F j) : tree.holds (fun _ _ => True) saysTrue ρ := by
  have l1 : ∀ {m : List AObj}, (Tree.leaf (.bool (.lit 1)) m).holds (fun _ _ => True) saysTrue ρ := says1
  have b13 := u64_in h13
  unfold tree
  refine ⟨fun _ => l1, fun _ => ⟨fun _ => ⟨fun _ => l1, fun _ => l1⟩, fun _ => ⟨fun g => ⟨fun k => ?_, fun _ => l1⟩, fun _ => ⟨fun _ => l1, fun _ => l1⟩⟩⟩⟩
  exfalso
  rw [ev_eql] at g
  rw [ev_neq] at k
  simp only [den, u64_wrap] at g k
  omega
end Go.Proofs.Ythbmnjcpdjaokaa.TSaneOthers
