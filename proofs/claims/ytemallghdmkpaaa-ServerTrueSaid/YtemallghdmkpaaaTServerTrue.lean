/- The tree of the law ServerTrue, and that all its ends say true. No conditions. -/
import Derived.Test.YtemallghdmkpaaaSX3
import Derived.Test.YtemallghdmkpaaaProg
import Derived.KernelRfl
import Derived.Test.YtemallghdmkpaaaCAlive
import Derived.Test.YtemallghdmkpaaaCQuery
import Derived.Test.YtemallghdmkpaaaCAnsR
import Derived.Test.YtemallghdmkpaaaCCheck
import Derived.Test.YtemallghdmkpaaaCLookR
import Derived.Test.YtemallghdmkpaaaB
namespace Go.Proofs.Ytemallghdmkpaaa.TServerTrue
open Go Go.SX Go.Proofs.Ytemallghdmkpaaa Go.Proofs.Ytemallghdmkpaaa.L Go.RowKit Go.Proofs.YtemallghdmkpaaaW.PrintWords
set_option maxRecDepth 100000
set_option linter.unusedVariables false
set_option linter.unusedSimpArgs false

def loops : List LoopSpec := []
def cfg : Cfg := { ok := [3, 4, 5, 6, 7, 8, 9, 10, 11, 12, 13, 14, 15, 16, 17, 18, 19, 20, 21, 22, 23, 24, 25, 26, 27, 28, 29, 30, 31, 32, 33, 34, 35, 36, 37, 38, 39, 40, 41, 42, 43, 44, 45, 46, 47, 48, 49, 50, 67, 68, 69, 70, 71], sums := sums2 B.cus [(9, Alive.pat), (11, Query.pat), (10, AnsR.pat), (8, Check.pat), (16, LookR.pat)], loops := loops }
abbrev F : Nat → List Int → Int := B.F
theorem cfg_ok (G : Nat → List Int → Int) (hG : ∀ j, 100 ≤ j → G j = B.F j) : CfgOk Try.prog cfg G (fun _ _ => True) :=
  ⟨by kernel_rfl, okB_spec (by kernel_rfl), fun f a m out h S w0 bs ρ w vs v mem' _ hρ hvs hm hp => sums2_sound B.cus_ok (l := [(9, Alive.pat), (11, Query.pat), (10, AnsR.pat), (8, Check.pat), (16, LookR.pat)]) (fun p hp => by
    simp only [List.mem_cons, List.not_mem_nil, or_false] at hp
    rcases hp with rfl | rfl | rfl | rfl | rfl
    · exact Alive.ok
    · exact Query.ok
    · exact AnsR.ok
    · exact Check.ok
    · exact LookR.ok) h (fun j hj => by rw [hρ]; exact hG j hj) hvs hm hp⟩
def args : List AV := [.agg (Go.SX.ofList [.int .i64 (.var 0), .int .i64 (.var 1), .int .i64 (.var 2), .int .i64 (.var 3), .int .i64 (.var 4), .int .u64 (.var 5)]), .int .u64 (.var 6), .int .i64 (.var 7)]
def mem : List AObj := []
def tree : Tree :=
(.ite (.cmp .lss (.mn (.mn (.var 1) (.var 2)) (.var 3)) (.lit 0))
 (.leaf (.bool (.lit 1)) [])
 (.ite (.cmp .lss (.lit 1099511627776) (.mx (.mx (.var 1) (.var 2)) (.var 3)))
 (.leaf (.bool (.lit 1)) [])
 (.ite (.cmp .lss (.var 4) (.lit (-1125899906842624)))
 (.leaf (.bool (.lit 1)) [])
 (.ite (.cmp .lss (.lit 1125899906842624) (.var 4))
 (.leaf (.bool (.lit 1)) [])
 (.ite (.cmp .eql (.var 6) (.lit 0))
 (.leaf (.bool (.lit 1)) [])
 (.ite (.cmp .eql (.conv .u64 (.var 6)) (.var 6))
 (.ite (.cmp .neq (.mn (.conv .u64 (.mx (.lit 1) (.app 120 (.cons (.app 121 (.cons (.bin .rem .i64 (.var 7) (.lit 1152921504606846976)) (.cons (.var 4) .nil))) .nil)))) (.conv .u64 (.mx (.lit 1) (.app 120 (.cons (.app 121 (.cons (.app 121 (.cons (.bin .rem .i64 (.var 7) (.lit 1152921504606846976)) (.cons (.var 2) .nil))) (.cons (.var 4) .nil))) .nil))))) (.lit 0))
 (.ite (.cmp .eql (.bin .add .u64 (.var 6) (.lit 1)) (.lit 0))
 (.ite (.cmp .leq (.bin .sub .i64 (.bin .add .i64 (.bin .rem .i64 (.var 7) (.lit 1152921504606846976)) (.var 4)) (.lit 2)) (.app 121 (.cons (.bin .rem .i64 (.var 7) (.lit 1152921504606846976)) (.cons (.app 122 (.cons (.conv .u64 (.mx (.lit 1) (.app 120 (.cons (.app 121 (.cons (.bin .rem .i64 (.var 7) (.lit 1152921504606846976)) (.cons (.var 4) .nil))) .nil)))) (.cons (.app 120 (.cons (.bin .rem .i64 (.var 7) (.lit 1152921504606846976)) .nil)) .nil))) .nil))))
 (.ite (.cmp .leq (.app 121 (.cons (.bin .rem .i64 (.var 7) (.lit 1152921504606846976)) (.cons (.app 122 (.cons (.conv .u64 (.mx (.lit 1) (.app 120 (.cons (.app 121 (.cons (.bin .rem .i64 (.var 7) (.lit 1152921504606846976)) (.cons (.var 4) .nil))) .nil)))) (.cons (.app 120 (.cons (.bin .rem .i64 (.var 7) (.lit 1152921504606846976)) .nil)) .nil))) .nil))) (.bin .add .i64 (.bin .add .i64 (.bin .rem .i64 (.var 7) (.lit 1152921504606846976)) (.var 4)) (.lit 2)))
 (.ite (.cmp .leq (.bin .sub .i64 (.bin .add .i64 (.bin .add .i64 (.bin .rem .i64 (.var 7) (.lit 1152921504606846976)) (.var 2)) (.var 4)) (.lit 2)) (.app 121 (.cons (.bin .rem .i64 (.var 7) (.lit 1152921504606846976)) (.cons (.app 122 (.cons (.conv .u64 (.mx (.lit 1) (.app 120 (.cons (.app 121 (.cons (.app 121 (.cons (.bin .rem .i64 (.var 7) (.lit 1152921504606846976)) (.cons (.var 2) .nil))) (.cons (.var 4) .nil))) .nil)))) (.cons (.app 120 (.cons (.bin .rem .i64 (.var 7) (.lit 1152921504606846976)) .nil)) .nil))) .nil))))
 (.leaf (.bool (.cmp .leq (.app 121 (.cons (.bin .rem .i64 (.var 7) (.lit 1152921504606846976)) (.cons (.app 122 (.cons (.conv .u64 (.mx (.lit 1) (.app 120 (.cons (.app 121 (.cons (.app 121 (.cons (.bin .rem .i64 (.var 7) (.lit 1152921504606846976)) (.cons (.var 2) .nil))) (.cons (.var 4) .nil))) .nil)))) (.cons (.app 120 (.cons (.bin .rem .i64 (.var 7) (.lit 1152921504606846976)) .nil)) .nil))) .nil))) (.bin .add .i64 (.bin .add .i64 (.bin .add .i64 (.bin .rem .i64 (.var 7) (.lit 1152921504606846976)) (.var 2)) (.var 4)) (.lit 2)))) [])
 (.leaf (.bool (.lit 0)) []))
 (.leaf (.bool (.lit 0)) []))
 (.leaf (.bool (.lit 0)) []))
 (.ite (.cmp .eql (.conv .u64 (.var 6)) (.bin .add .u64 (.var 6) (.lit 1)))
 (.leaf (.bool (.lit 0)) [])
 (.ite (.cmp .leq (.bin .sub .i64 (.bin .add .i64 (.bin .rem .i64 (.var 7) (.lit 1152921504606846976)) (.var 4)) (.lit 2)) (.app 121 (.cons (.bin .rem .i64 (.var 7) (.lit 1152921504606846976)) (.cons (.app 122 (.cons (.conv .u64 (.mx (.lit 1) (.app 120 (.cons (.app 121 (.cons (.bin .rem .i64 (.var 7) (.lit 1152921504606846976)) (.cons (.var 4) .nil))) .nil)))) (.cons (.app 120 (.cons (.bin .rem .i64 (.var 7) (.lit 1152921504606846976)) .nil)) .nil))) .nil))))
 (.ite (.cmp .leq (.app 121 (.cons (.bin .rem .i64 (.var 7) (.lit 1152921504606846976)) (.cons (.app 122 (.cons (.conv .u64 (.mx (.lit 1) (.app 120 (.cons (.app 121 (.cons (.bin .rem .i64 (.var 7) (.lit 1152921504606846976)) (.cons (.var 4) .nil))) .nil)))) (.cons (.app 120 (.cons (.bin .rem .i64 (.var 7) (.lit 1152921504606846976)) .nil)) .nil))) .nil))) (.bin .add .i64 (.bin .add .i64 (.bin .rem .i64 (.var 7) (.lit 1152921504606846976)) (.var 4)) (.lit 2)))
 (.ite (.cmp .leq (.bin .sub .i64 (.bin .add .i64 (.bin .add .i64 (.bin .rem .i64 (.var 7) (.lit 1152921504606846976)) (.var 2)) (.var 4)) (.lit 2)) (.app 121 (.cons (.bin .rem .i64 (.var 7) (.lit 1152921504606846976)) (.cons (.app 122 (.cons (.conv .u64 (.mx (.lit 1) (.app 120 (.cons (.app 121 (.cons (.app 121 (.cons (.bin .rem .i64 (.var 7) (.lit 1152921504606846976)) (.cons (.var 2) .nil))) (.cons (.var 4) .nil))) .nil)))) (.cons (.app 120 (.cons (.bin .rem .i64 (.var 7) (.lit 1152921504606846976)) .nil)) .nil))) .nil))))
 (.leaf (.bool (.cmp .leq (.app 121 (.cons (.bin .rem .i64 (.var 7) (.lit 1152921504606846976)) (.cons (.app 122 (.cons (.conv .u64 (.mx (.lit 1) (.app 120 (.cons (.app 121 (.cons (.app 121 (.cons (.bin .rem .i64 (.var 7) (.lit 1152921504606846976)) (.cons (.var 2) .nil))) (.cons (.var 4) .nil))) .nil)))) (.cons (.app 120 (.cons (.bin .rem .i64 (.var 7) (.lit 1152921504606846976)) .nil)) .nil))) .nil))) (.bin .add .i64 (.bin .add .i64 (.bin .add .i64 (.bin .rem .i64 (.var 7) (.lit 1152921504606846976)) (.var 2)) (.var 4)) (.lit 2)))) [])
 (.leaf (.bool (.lit 0)) []))
 (.leaf (.bool (.lit 0)) []))
 (.leaf (.bool (.lit 0)) []))))
 (.ite (.cmp .eql (.bin .add .u64 (.var 6) (.lit 1)) (.lit 0))
 (.leaf (.bool (.lit 0)) [])
 (.ite (.cmp .eql (.conv .u64 (.var 6)) (.bin .add .u64 (.var 6) (.lit 1)))
 (.leaf (.bool (.lit 0)) [])
 (.leaf (.bool (.lit 0)) []))))
 (.ite (.cmp .eql (.bin .add .u64 (.var 6) (.lit 1)) (.lit 0))
 (.leaf (.bool (.lit 0)) [])
 (.ite (.cmp .eql (.conv .u64 (.var 6)) (.bin .add .u64 (.var 6) (.lit 1)))
 (.ite (.cmp .neq (.mn (.conv .u64 (.mx (.lit 1) (.app 120 (.cons (.app 121 (.cons (.bin .rem .i64 (.var 7) (.lit 1152921504606846976)) (.cons (.var 4) .nil))) .nil)))) (.conv .u64 (.mx (.lit 1) (.app 120 (.cons (.app 121 (.cons (.app 121 (.cons (.bin .rem .i64 (.var 7) (.lit 1152921504606846976)) (.cons (.var 2) .nil))) (.cons (.var 4) .nil))) .nil))))) (.lit 0))
 (.leaf (.bool (.lit 0)) [])
 (.leaf (.bool (.lit 0)) []))
 (.leaf (.bool (.lit 0)) [])))))))))
set_option maxHeartbeats 40000000 in
theorem tree_eq : callT Try.prog cfg 100000 0 7 args mem [] = tree := by kernel_rfl
theorem tf {ρ : Env} {c : SE} {p : Prop} (h : evB ρ c = true) (h' : evB ρ c = false) : p := by rw [h] at h'; cases h'
theorem mx1 (ρ : Env) (A : SE) (hA : 0 ≤ den ρ A ∧ den ρ A < 18446744073709551616) : 1 ≤ den ρ (.conv .u64 (.mx (.lit 1) A)) := by
  show 1 ≤ IntKind.u64.wrap (if den ρ A > 1 then den ρ A else 1)
  rw [u64_wrap]
  split <;> omega
theorem some_ne (ρ : Env) (A B : SE) (hA : 0 ≤ den ρ A ∧ den ρ A < 18446744073709551616) (hB : 0 ≤ den ρ B ∧ den ρ B < 18446744073709551616) :
    evB ρ (.cmp .neq (.mn (.conv .u64 (.mx (.lit 1) A)) (.conv .u64 (.mx (.lit 1) B))) (.lit 0)) = true := by
  rw [ev_neq]
  have e1 := mx1 ρ A hA
  have e2 := mx1 ρ B hB
  show (if den ρ (.conv .u64 (.mx (.lit 1) B)) < den ρ (.conv .u64 (.mx (.lit 1) A)) then den ρ (.conv .u64 (.mx (.lit 1) B)) else den ρ (.conv .u64 (.mx (.lit 1) A))) ≠ 0
  generalize den ρ (.conv .u64 (.mx (.lit 1) B)) = y at *
  generalize den ρ (.conv .u64 (.mx (.lit 1) A)) = x at *
  split <;> omega
/-- A stamp that is not 0 is near what the clock showed. -/
theorem near2 (t e : Int) (ht : -1152921504606846976 < t ∧ t < 1152921504606846976) (he : -1125899906842624 ≤ e ∧ e ≤ 1125899906842624 + 1099511627776) :
    t + e - 2 ≤ clamp (t + df ((if fr (clamp (t + e)) > 1 then fr (clamp (t + e)) else 1) % 18446744073709551616) (fr t)) ∧ clamp (t + df ((if fr (clamp (t + e)) > 1 then fr (clamp (t + e)) else 1) % 18446744073709551616) (fr t)) ≤ t + e + 2 := by
  have hc : clamp (t + e) = t + e := clamp_id (by unfold I64; omega)
  rw [hc]
  have hr := fr_range (t + e)
  unfold U64 at hr
  have h3 := st_far t e
  have hD : wrap64 (fr (t + e) - fr t) = st (t + e) - st t := by rw [wfr, w64_id (by unfold I64; omega)]
  generalize fr (t + e) = a at *
  generalize st (t + e) - st t = D at *
  have fin : ∀ x, (x = D ∨ x = D + 1) → t + e - 2 ≤ clamp (t + x * 1000000000 / 4294967296) ∧ clamp (t + x * 1000000000 / 4294967296) ≤ t + e + 2 := fun x hx => by
    rw [clamp_id (by unfold I64; omega)]
    omega
  have hs : (if a > 1 then a else 1) % 18446744073709551616 = a ∨ ((if a > 1 then a else 1) % 18446744073709551616 = 1 ∧ a = 0) := by split <;> omega
  unfold df
  rcases hs with hs | ⟨hs, ha⟩
  · rw [hs, hD]
    exact fin D (.inl rfl)
  · have hD' : wrap64 (1 - fr t) = D + 1 := by
      subst ha
      unfold wrap64 at hD ⊢
      omega
    rw [hs, hD']
    exact fin (D + 1) (.inr rfl)
theorem tree_holds (ρ : Env) (h0 : inR .i64 (ρ.v 0) = true) (h1 : inR .i64 (ρ.v 1) = true) (h2 : inR .i64 (ρ.v 2) = true) (h3 : inR .i64 (ρ.v 3) = true) (h4 : inR .i64 (ρ.v 4) = true) (h5 : inR .u64 (ρ.v 5) = true) (h6 : inR .u64 (ρ.v 6) = true) (h7 : inR .i64 (ρ.v 7) = true)
    (hf : ∀ j, 100 ≤ j → ρ.f j = F j) : tree.holds (fun _ _ => True) saysTrue ρ := by
  have b6 := u64_in h6
  have b7 := tmod_range (ρ.v 7) 1152921504606846976 (by omega)
  have e120 : ∀ a, ρ.f 120 [a] = fr a := fun a => by rw [hf 120 (by omega)]; rfl
  have e121 : ∀ a b, ρ.f 121 [a, b] = clamp (a + b) := fun a b => by rw [hf 121 (by omega)]; rfl
  have e122 : ∀ a b, ρ.f 122 [a, b] = df a b := fun a b => by rw [hf 122 (by omega)]; rfl
  have f120 : ∀ a, 0 ≤ ρ.f 120 [a] ∧ ρ.f 120 [a] < 18446744073709551616 := fun a => by
    rw [e120]
    have := fr_range a
    unfold U64 at this
    omega
  have c6 : evB ρ (.cmp .eql (.conv .u64 (.var 6)) (.var 6)) = true := by rw [ev_eql]; simp only [den, u64_wrap]; omega
  have l1 : ∀ {m : List AObj}, (Tree.leaf (.bool (.lit 1)) m).holds (fun _ _ => True) saysTrue ρ := says1
  have g120 : ∀ a : SE, 0 ≤ den ρ (.app 120 (.cons a .nil)) ∧ den ρ (.app 120 (.cons a .nil)) < 18446744073709551616 := fun a => f120 _
  unfold tree
  refine ⟨fun _ => says1, fun g1 => ⟨fun _ => says1, fun g2 => ⟨fun _ => says1, fun g3 => ⟨fun _ => says1, fun g4 => ⟨fun _ => says1, fun g5 => ⟨fun _ => ⟨fun _ => ?_, fun h => tf (some_ne ρ _ _ (g120 _) (g120 _)) h⟩, fun h => tf c6 h⟩⟩⟩⟩⟩⟩
  rw [ev_lss'] at g1 g2 g3 g4
  simp only [den, le_mn, mx_le] at g1 g2 g3 g4
  have q1 : binI .add .i64 ((ρ.v 7).tmod 1152921504606846976) (ρ.v 4) = (ρ.v 7).tmod 1152921504606846976 + ρ.v 4 := add_i64 (by omega) (by omega)
  have q2 : binI .sub .i64 ((ρ.v 7).tmod 1152921504606846976 + ρ.v 4) 2 = (ρ.v 7).tmod 1152921504606846976 + ρ.v 4 - 2 := sub_i64 (by omega) (by omega)
  have q3 : binI .add .i64 ((ρ.v 7).tmod 1152921504606846976 + ρ.v 4) 2 = (ρ.v 7).tmod 1152921504606846976 + ρ.v 4 + 2 := add_i64 (by omega) (by omega)
  have q4 : binI .add .i64 ((ρ.v 7).tmod 1152921504606846976) (ρ.v 2) = (ρ.v 7).tmod 1152921504606846976 + ρ.v 2 := add_i64 (by omega) (by omega)
  have q5 : binI .add .i64 ((ρ.v 7).tmod 1152921504606846976 + ρ.v 2) (ρ.v 4) = (ρ.v 7).tmod 1152921504606846976 + ρ.v 2 + ρ.v 4 := add_i64 (by omega) (by omega)
  have q6 : binI .sub .i64 ((ρ.v 7).tmod 1152921504606846976 + ρ.v 2 + ρ.v 4) 2 = (ρ.v 7).tmod 1152921504606846976 + ρ.v 2 + ρ.v 4 - 2 := sub_i64 (by omega) (by omega)
  have q7 : binI .add .i64 ((ρ.v 7).tmod 1152921504606846976 + ρ.v 2 + ρ.v 4) 2 = (ρ.v 7).tmod 1152921504606846976 + ρ.v 2 + ρ.v 4 + 2 := add_i64 (by omega) (by omega)
  have n1 := near2 ((ρ.v 7).tmod 1152921504606846976) (ρ.v 4) b7 (by omega)
  have n2 := near2 ((ρ.v 7).tmod 1152921504606846976) (ρ.v 2 + ρ.v 4) b7 (by omega)
  have e2 : clamp (clamp ((ρ.v 7).tmod 1152921504606846976 + ρ.v 2) + ρ.v 4) = clamp ((ρ.v 7).tmod 1152921504606846976 + (ρ.v 2 + ρ.v 4)) := by
    rw [clamp_id (n := (ρ.v 7).tmod 1152921504606846976 + ρ.v 2) (by unfold I64; omega)]; congr 1; omega
  have k : ∀ {c : SE} {t e : Tree}, evB ρ c = true → t.holds (fun _ _ => True) saysTrue ρ → (Tree.ite c t e).holds (fun _ _ => True) saysTrue ρ := fun hc ht => ⟨fun _ => ht, fun h => tf hc h⟩
  have c7 : ∀ {t e : Tree}, (evB ρ (.cmp .eql (.conv .u64 (.var 6)) (.bin .add .u64 (.var 6) (.lit 1))) = false) := by
    intro t e
    rw [ev_eql']
    simp only [den, u64_wrap]
    show ρ.v 6 % 18446744073709551616 ≠ IntKind.u64.wrap (ρ.v 6 + 1)
    rw [u64_wrap]
    omega
  refine ⟨fun _ => ?_, fun _ => ⟨fun h => tf h (c7 (t := .fail 0) (e := .fail 0)), fun _ => ?_⟩⟩
  all_goals
    refine k ?_ (k ?_ (k ?_ ?_))
    · rw [ev_leq]; simp only [den, dens, rem_i64, q1, q2, q3, q4, q5, q6, q7, e120, e121, e122, u64_wrap, e2]; omega
    · rw [ev_leq]; simp only [den, dens, rem_i64, q1, q2, q3, q4, q5, q6, q7, e120, e121, e122, u64_wrap, e2]; omega
    · rw [ev_leq]; simp only [den, dens, rem_i64, q1, q2, q3, q4, q5, q6, q7, e120, e121, e122, u64_wrap, e2]; omega
    · show evB ρ _ = true
      rw [ev_leq]; simp only [den, dens, rem_i64, q1, q2, q3, q4, q5, q6, q7, e120, e121, e122, u64_wrap, e2]; omega
end Go.Proofs.Ytemallghdmkpaaa.TServerTrue
