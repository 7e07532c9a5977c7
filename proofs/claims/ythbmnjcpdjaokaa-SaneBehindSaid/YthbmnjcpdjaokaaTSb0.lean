/- The law SaneBehind: all its ends say true, for 48 bytes and more, and for each smaller length. No conditions. -/
import Derived.Test.YthbmnjcpdjaokaaSX3
import Derived.Test.YthbmnjcpdjaokaaProg
import Derived.KernelRfl
import Derived.Test.YthbmnjcpdjaokaaCAlive
import Derived.Test.YthbmnjcpdjaokaaCLookA
import Derived.Test.YthbmnjcpdjaokaaCLookB
namespace Go.Proofs.Ythbmnjcpdjaokaa.TSaneBehind
open Go Go.SX Go.Proofs.Ythbmnjcpdjaokaa
set_option maxRecDepth 100000
set_option linter.unusedVariables false
set_option linter.unusedSimpArgs false
def cfg (p : List Nat) : Cfg := { ok := [3, 4, 5, 6, 7, 8, 9, 10, 11, 12, 13, 14, 15, 16, 17, 18, 19, 20, 21, 22, 23, 24, 25], sums := sumsOf [(8, Alive.pat), (9, LookB.pat), (9, LookA.pat)], loops := [], pre := p }
def F : Nat → List Int → Int := fun _ _ => 0
theorem cfg_ok (q : List Nat) (G : Nat → List Int → Int) (hG : ∀ j, 100 ≤ j → j < 200 → G j = F j) : CfgOk Try.prog (cfg q) G (fun _ _ => True) :=
  ⟨by kernel_rfl, okB_spec (by kernel_rfl), fun f a m out h S w0 bs ρ w vs v mem' _ hρ hvs hm hp => sumsOf_sound (F := F) (l := [(8, Alive.pat), (9, LookB.pat), (9, LookA.pat)]) (fun p hp => by
    simp only [List.mem_cons, List.not_mem_nil, or_false] at hp
    rcases hp with rfl | rfl | rfl
    · exact Alive.ok F
    · exact LookB.ok F
    · exact LookA.ok F) h (fun j hj hj2 => by rw [hρ]; exact hG j hj hj2) hvs hm hp⟩
/-- All ends say true, whatever the letters are. -/
def allTrue : Tree → Bool
  | .ite _ a b => allTrue a && allTrue b
  | .leaf (.bool (.lit 1)) _ => true
  | _ => false
theorem allTrue_holds {ρ : Env} : ∀ {t : Tree}, allTrue t = true → t.holds (fun _ _ => True) saysTrue ρ := by
  intro t
  induction t with
  | ite c a b iha ihb => intro h; simp only [allTrue, Bool.and_eq_true] at h; exact ⟨fun _ => iha h.1, fun _ => ihb h.2⟩
  | leaf v m =>
    intro h
    unfold allTrue at h
    split at h
    · rename_i e; cases e
    · rename_i e; cases e; exact says1
    · cases h
  | need c t ih => intro h; cases h
  | both a b iha ihb => intro h; cases h
  | fail n => intro h; cases h
  | loop i θ b ih => intro h; cases h
  | again i θ => intro h; cases h
def args : List AV := [.arg 0, .arg 1, .int .u64 (.var 4)]
def mem : List AObj := [.sym (.var 0) (.var 1) [.int .u8 0] 5, .sym (.var 2) (.var 3) [.int .u8 1] 5]
def pc : List (SE × Bool) := [((.cmp .leq (.lit 0) (.var 0)), true),
 ((.cmp .leq (.lit 0) (.var 2)), true),
 ((.cmp .leq (.lit 48) (.var 0)), true),
 ((.cmp .lss (.var 0) (.lit 48)), false),
 ((.cmp .leq (.lit 0) (.bin .add .i64 (.var 0) (.var 2))), true),
 ((.cmp .leq (.lit 48) (.bin .add .i64 (.var 0) (.var 2))), true),
 ((.cmp .leq (.bin .add .i64 (.var 0) (.var 2)) (.lit 9223372036854775807)), true),
 ((.cmp .lss (.bin .add .i64 (.var 0) (.var 2)) (.lit 48)), false)]
def memK (k : Nat) : List AObj := [.sym (.lit k) (.var 1) [.int .u8 0] 5, .sym (.var 2) (.var 3) [.int .u8 1] 5]
def S (k : Nat) : SE := if k = 0 then .var 2 else .bin .add .i64 (.lit k) (.var 2)
def pcA (k : Nat) : List (SE × Bool) := [(.cmp .leq (.lit 0) (.var 2), true), (.cmp .leq (.lit (48 - k : Int)) (.var 2), true), (.cmp .leq (.lit 0) (S k), true), (.cmp .leq (.lit 48) (S k), true), (.cmp .leq (S k) (.lit 9223372036854775807), true), (.cmp .lss (S k) (.lit 48), false)]
def pcB (k : Nat) : List (SE × Bool) := [(.cmp .leq (.lit 0) (.var 2), true), (.cmp .leq (.lit 0) (S k), true), (.cmp .leq (.lit k) (S k), true), (.cmp .leq (S k) (.lit 9223372036854775807), true), (.cmp .lss (S k) (.lit 48), true)]
noncomputable def tA (k : Nat) : Tree := callT Try.prog (cfg [max k (48 - k), min k (48 - k)]) 100000 0 5 args (memK k) (pcA k)
noncomputable def tB (k : Nat) : Tree := callT Try.prog (cfg [max k (48 - k), min k (48 - k)]) 100000 0 5 args (memK k) (pcB k)
end Go.Proofs.Ythbmnjcpdjaokaa.TSaneBehind
