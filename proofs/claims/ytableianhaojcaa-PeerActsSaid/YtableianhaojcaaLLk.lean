/- What sane.Look and the reference's tell of bytes: with one letter for the reason. No conditions. -/
import Derived.Test.YtableianhaojcaaSXy
import Derived.Test.YtableianhaojcaaCLookA
import Derived.Test.YtableianhaojcaaCRLookA
namespace Go.Proofs.Ytableianhaojcaa.Lk
open Go Go.SX Go.Proofs.Ytableianhaojcaa
set_option maxRecDepth 100000
set_option linter.unusedVariables false
def A : AV := (.agg (.cons (.int .u8 (.bin .shr .u8 (.app 0 (.cons (.lit 0) .nil)) (.lit 6))) (.cons (.int .u8 (.bin .and .u8 (.bin .shr .u8 (.app 0 (.cons (.lit 0) .nil)) (.lit 3)) (.lit 7))) (.cons (.int .u8 (.bin .and .u8 (.app 0 (.cons (.lit 0) .nil)) (.lit 7))) (.cons (.int .u8 (.app 0 (.cons (.lit 1) .nil))) (.cons (.int .i8 (.conv .i8 (.app 0 (.cons (.lit 2) .nil)))) (.cons (.int .i8 (.conv .i8 (.app 0 (.cons (.lit 3) .nil)))) (.cons (.int .u32 (.conv .u32 (.bin .or .u64 (.bin .shl .u64 (.bin .or .u64 (.bin .shl .u64 (.bin .or .u64 (.bin .shl .u64 (.bin .or .u64 (.lit 0) (.conv .u64 (.app 0 (.cons (.lit 4) .nil)))) (.lit 8)) (.conv .u64 (.app 0 (.cons (.lit 5) .nil)))) (.lit 8)) (.conv .u64 (.app 0 (.cons (.lit 6) .nil)))) (.lit 8)) (.conv .u64 (.app 0 (.cons (.lit 7) .nil)))))) (.cons (.int .u32 (.conv .u32 (.bin .or .u64 (.bin .shl .u64 (.bin .or .u64 (.bin .shl .u64 (.bin .or .u64 (.bin .shl .u64 (.bin .or .u64 (.lit 0) (.conv .u64 (.app 0 (.cons (.lit 8) .nil)))) (.lit 8)) (.conv .u64 (.app 0 (.cons (.lit 9) .nil)))) (.lit 8)) (.conv .u64 (.app 0 (.cons (.lit 10) .nil)))) (.lit 8)) (.conv .u64 (.app 0 (.cons (.lit 11) .nil)))))) (.cons (.int .u32 (.conv .u32 (.bin .or .u64 (.bin .shl .u64 (.bin .or .u64 (.bin .shl .u64 (.bin .or .u64 (.bin .shl .u64 (.bin .or .u64 (.lit 0) (.conv .u64 (.app 0 (.cons (.lit 12) .nil)))) (.lit 8)) (.conv .u64 (.app 0 (.cons (.lit 13) .nil)))) (.lit 8)) (.conv .u64 (.app 0 (.cons (.lit 14) .nil)))) (.lit 8)) (.conv .u64 (.app 0 (.cons (.lit 15) .nil)))))) (.cons (.int .u64 (.bin .or .u64 (.bin .shl .u64 (.bin .or .u64 (.bin .shl .u64 (.bin .or .u64 (.bin .shl .u64 (.bin .or .u64 (.bin .shl .u64 (.bin .or .u64 (.bin .shl .u64 (.bin .or .u64 (.bin .shl .u64 (.bin .or .u64 (.bin .shl .u64 (.bin .or .u64 (.lit 0) (.conv .u64 (.app 0 (.cons (.lit 16) .nil)))) (.lit 8)) (.conv .u64 (.app 0 (.cons (.lit 17) .nil)))) (.lit 8)) (.conv .u64 (.app 0 (.cons (.lit 18) .nil)))) (.lit 8)) (.conv .u64 (.app 0 (.cons (.lit 19) .nil)))) (.lit 8)) (.conv .u64 (.app 0 (.cons (.lit 20) .nil)))) (.lit 8)) (.conv .u64 (.app 0 (.cons (.lit 21) .nil)))) (.lit 8)) (.conv .u64 (.app 0 (.cons (.lit 22) .nil)))) (.lit 8)) (.conv .u64 (.app 0 (.cons (.lit 23) .nil))))) (.cons (.int .u64 (.bin .or .u64 (.bin .shl .u64 (.bin .or .u64 (.bin .shl .u64 (.bin .or .u64 (.bin .shl .u64 (.bin .or .u64 (.bin .shl .u64 (.bin .or .u64 (.bin .shl .u64 (.bin .or .u64 (.bin .shl .u64 (.bin .or .u64 (.bin .shl .u64 (.bin .or .u64 (.lit 0) (.conv .u64 (.app 0 (.cons (.lit 24) .nil)))) (.lit 8)) (.conv .u64 (.app 0 (.cons (.lit 25) .nil)))) (.lit 8)) (.conv .u64 (.app 0 (.cons (.lit 26) .nil)))) (.lit 8)) (.conv .u64 (.app 0 (.cons (.lit 27) .nil)))) (.lit 8)) (.conv .u64 (.app 0 (.cons (.lit 28) .nil)))) (.lit 8)) (.conv .u64 (.app 0 (.cons (.lit 29) .nil)))) (.lit 8)) (.conv .u64 (.app 0 (.cons (.lit 30) .nil)))) (.lit 8)) (.conv .u64 (.app 0 (.cons (.lit 31) .nil))))) (.cons (.int .u64 (.bin .or .u64 (.bin .shl .u64 (.bin .or .u64 (.bin .shl .u64 (.bin .or .u64 (.bin .shl .u64 (.bin .or .u64 (.bin .shl .u64 (.bin .or .u64 (.bin .shl .u64 (.bin .or .u64 (.bin .shl .u64 (.bin .or .u64 (.bin .shl .u64 (.bin .or .u64 (.lit 0) (.conv .u64 (.app 0 (.cons (.lit 32) .nil)))) (.lit 8)) (.conv .u64 (.app 0 (.cons (.lit 33) .nil)))) (.lit 8)) (.conv .u64 (.app 0 (.cons (.lit 34) .nil)))) (.lit 8)) (.conv .u64 (.app 0 (.cons (.lit 35) .nil)))) (.lit 8)) (.conv .u64 (.app 0 (.cons (.lit 36) .nil)))) (.lit 8)) (.conv .u64 (.app 0 (.cons (.lit 37) .nil)))) (.lit 8)) (.conv .u64 (.app 0 (.cons (.lit 38) .nil)))) (.lit 8)) (.conv .u64 (.app 0 (.cons (.lit 39) .nil))))) (.cons (.int .u64 (.bin .or .u64 (.bin .shl .u64 (.bin .or .u64 (.bin .shl .u64 (.bin .or .u64 (.bin .shl .u64 (.bin .or .u64 (.bin .shl .u64 (.bin .or .u64 (.bin .shl .u64 (.bin .or .u64 (.bin .shl .u64 (.bin .or .u64 (.bin .shl .u64 (.bin .or .u64 (.lit 0) (.conv .u64 (.app 0 (.cons (.lit 40) .nil)))) (.lit 8)) (.conv .u64 (.app 0 (.cons (.lit 41) .nil)))) (.lit 8)) (.conv .u64 (.app 0 (.cons (.lit 42) .nil)))) (.lit 8)) (.conv .u64 (.app 0 (.cons (.lit 43) .nil)))) (.lit 8)) (.conv .u64 (.app 0 (.cons (.lit 44) .nil)))) (.lit 8)) (.conv .u64 (.app 0 (.cons (.lit 45) .nil)))) (.lit 8)) (.conv .u64 (.app 0 (.cons (.lit 46) .nil)))) (.lit 8)) (.conv .u64 (.app 0 (.cons (.lit 47) .nil))))) .nil))))))))))))))
def Z : AV := (.agg (.cons (.int .u8 (.lit 0)) (.cons (.int .u8 (.lit 0)) (.cons (.int .u8 (.lit 0)) (.cons (.int .u8 (.lit 0)) (.cons (.int .i8 (.lit 0)) (.cons (.int .i8 (.lit 0)) (.cons (.int .u32 (.lit 0)) (.cons (.int .u32 (.lit 0)) (.cons (.int .u32 (.lit 0)) (.cons (.int .u64 (.lit 0)) (.cons (.int .u64 (.lit 0)) (.cons (.int .u64 (.lit 0)) (.cons (.int .u64 (.lit 0)) .nil))))))))))))))
def why (ρ : Env) (t : Tree) : Int := t.toOut.why ρ
theorem wi {ρ : Env} {c : SE} {a b a' b' : Tree} (h1 : why ρ a = why ρ a') (h2 : why ρ b = why ρ b') : why ρ (.ite c a b) = why ρ (.ite c a' b') := by
  show (if evB ρ c = true then why ρ a else why ρ b) = if evB ρ c = true then why ρ a' else why ρ b'
  rw [h1, h2]
theorem wn {ρ : Env} {x y : SE} {a b a' b' : Tree} (h1 : why ρ a = why ρ b') (h2 : why ρ b = why ρ a') : why ρ (.ite (.cmp .neq x y) a b) = why ρ (.ite (.cmp .eql x y) a' b') := by
  show (if evB ρ (.cmp .neq x y) = true then why ρ a else why ρ b) = if evB ρ (.cmp .eql x y) = true then why ρ a' else why ρ b'
  by_cases h : den ρ x = den ρ y
  · rw [if_neg (by rw [ev_neq]; exact fun e => e h), if_pos (by rw [ev_eql]; exact h), h2]
  · rw [if_pos (by rw [ev_neq]; exact h), if_neg (by rw [ev_eql]; exact h), h1]
theorem we {ρ : Env} {x y : SE} {a b a' b' : Tree} (h1 : why ρ a = why ρ b') (h2 : why ρ b = why ρ a') : why ρ (.ite (.cmp .eql x y) a b) = why ρ (.ite (.cmp .neq x y) a' b') := (wn h2.symm h1.symm).symm
theorem wlt {ρ : Env} {x y : SE} {a b a' b' : Tree} (h1 : why ρ a = why ρ b') (h2 : why ρ b = why ρ a') : why ρ (.ite (.cmp .lss x y) a b) = why ρ (.ite (.cmp .leq y x) a' b') := by
  show (if evB ρ (.cmp .lss x y) = true then why ρ a else why ρ b) = if evB ρ (.cmp .leq y x) = true then why ρ a' else why ρ b'
  by_cases h : den ρ x < den ρ y
  · rw [if_pos (by rw [ev_lss]; exact h), if_neg (by rw [ev_leq]; omega), h1]
  · rw [if_neg (by rw [ev_lss]; exact h), if_pos (by rw [ev_leq]; omega), h2]
theorem wk {ρ : Env} {x k z : SE} {a b c a' c' d' : Tree} (h1 : why ρ a = why ρ a') (h2 : why ρ b = why ρ a') (h3 : why ρ a = why ρ d') (h4 : why ρ c = why ρ c') :
    why ρ (.ite (.cmp .neq x k) a (.ite (.cmp .eql k z) b c)) = why ρ (.ite (.cmp .eql k z) a' (.ite (.cmp .eql x k) c' d')) := by
  show (if evB ρ (.cmp .neq x k) = true then why ρ a else if evB ρ (.cmp .eql k z) = true then why ρ b else why ρ c) = if evB ρ (.cmp .eql k z) = true then why ρ a' else if evB ρ (.cmp .eql x k) = true then why ρ c' else why ρ d'
  by_cases h : evB ρ (.cmp .eql k z) = true
  · rw [if_pos h, if_pos h, h1, h2]; exact ite_self _
  · rw [if_neg h, if_neg h]
    by_cases e : den ρ x = den ρ k
    · rw [if_neg (by rw [ev_neq]; exact fun f => f e), if_pos (by rw [ev_eql]; exact e), h4]
    · rw [if_pos (by rw [ev_neq]; exact e), if_neg (by rw [ev_eql]; exact e), h3]
theorem wmn {ρ : Env} {x1 x2 y1 y2 : SE} {z1 z2 t t' z : Tree} (h1 : why ρ z1 = why ρ z) (h2 : why ρ z2 = why ρ z) (h3 : why ρ t = why ρ t') :
    why ρ (.ite (.cmp .eql (.bin .or .u64 x1 x2) (.lit 0)) z1 (.ite (.cmp .eql (.bin .or .u64 y1 y2) (.lit 0)) z2 t)) = why ρ (.ite (.cmp .neq (.mn (.bin .or .u64 x1 x2) (.bin .or .u64 y1 y2)) (.lit 0)) t' z) := by
  have p : ∀ a b, 0 ≤ den ρ (.bin .or .u64 a b) := fun a b => by
    show 0 ≤ IntKind.u64.wrap _
    rw [u64_wrap]; omega
  have px := p x1 x2
  have py := p y1 y2
  generalize SE.bin .or .u64 x1 x2 = x at *
  generalize SE.bin .or .u64 y1 y2 = y at *
  show (if evB ρ (.cmp .eql x (.lit 0)) = true then why ρ z1 else if evB ρ (.cmp .eql y (.lit 0)) = true then why ρ z2 else why ρ t) = if evB ρ (.cmp .neq (.mn x y) (.lit 0)) = true then why ρ t' else why ρ z
  have key : den ρ (.mn x y) = 0 ↔ (den ρ x = 0 ∨ den ρ y = 0) := by
    show (if den ρ y < den ρ x then den ρ y else den ρ x) = 0 ↔ _
    split <;> omega
  by_cases a : den ρ x = 0
  · rw [if_pos (by rw [ev_eql]; exact a), if_neg (by rw [ev_neq]; exact fun h => h (key.2 (.inl a))), h1]
  · rw [if_neg (by rw [ev_eql]; exact a)]
    by_cases b : den ρ y = 0
    · rw [if_pos (by rw [ev_eql]; exact b), if_neg (by rw [ev_neq]; exact fun h => h (key.2 (.inr b))), h2]
    · rw [if_neg (by rw [ev_eql]; exact b), if_pos (by rw [ev_neq]; exact fun h => (key.1 h).elim a b), h3]
set_option maxHeartbeats 4000000 in
theorem why_eq (ρ : Env) : RLookA.pat.out.why ρ = LookA.pat.out.why ρ := by
  show why ρ RLookA.tree = why ρ LookA.tree
  unfold RLookA.tree LookA.tree
  repeat' first
    | with_reducible refine wmn ?_ ?_ ?_
    | with_reducible refine wi ?_ ?_
    | with_reducible refine wk ?_ ?_ ?_ ?_
    | with_reducible refine wn ?_ ?_
    | with_reducible refine we ?_ ?_
    | with_reducible refine wlt ?_ ?_
    | rfl
end Go.Proofs.Ytableianhaojcaa.Lk
