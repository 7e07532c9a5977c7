/- The tree of the law PeerKept, and that all its ends say true. No conditions. -/
import Derived.Test.YtableianhaojcaaSX3
import Derived.Test.YtableianhaojcaaProg
import Derived.KernelRfl
import Derived.Test.YtableianhaojcaaCAlive
import Derived.Test.YtableianhaojcaaCLookA
import Derived.Test.YtableianhaojcaaCP1
import Derived.Test.YtableianhaojcaaB
import Derived.Test.YtableianhaojcaaLCf
namespace Go.Proofs.Ytableianhaojcaa.TPeerKept
open Go Go.SX Go.Proofs.Ytableianhaojcaa Go.Proofs.Ytableianhaojcaa.L Go.RowKit Go.Proofs.YtableianhaojcaaW.PrintWords
set_option maxRecDepth 100000
set_option linter.unusedVariables false
set_option linter.unusedSimpArgs false

def spc (f : FuncId) (a : List AV) (m : List AObj) : Option Out :=
  if f = 28 then match a with
    | [.agg (.cons (.arg i) (.cons (.int .i64 q) (.cons (.int .i64 le) (.cons (.int .i64 mo) (.cons (.int .i64 de) (.cons (.int .i64 sl) .nil))))))] => match m[i]? with
      | some (.sym n _ [.int .i64 0] _) => some (.done (.int .i64 (.app 200 (.cons n (.cons q (.cons le (.cons mo (.cons de (.cons sl .nil)))))))) m)
      | _ => none
    | _ => none
  else none
def loops : List LoopSpec := []
def cfg : Cfg := { ok := [3, 4, 5, 6, 7, 8, 9, 10, 11, 12, 13, 14, 15, 16, 17, 18, 19, 20, 21, 22, 23, 24, 25, 26, 27, 28, 29, 30, 31, 32, 33, 34, 35, 36, 37, 38, 39, 40, 41, 42, 43, 44, 45, 46, 47, 48, 49, 50, 51, 52, 53, 54, 55, 56, 57, 58, 59, 60, 61, 62, 63, 64, 65, 66, 67, 68, 69, 70, 71, 72, 73, 74, 75, 76, 77, 78, 79, 80, 81, 82, 83, 84], sums := fun f a m => match spc f a m with | some o => some o | none => sums2 B.cus [(11, Alive.pat), (31, Query.pat), (20, LookA.pat)] f a m, loops := loops }
abbrev F : Nat → List Int → Int := B.F
theorem spc_ok {S : Nat → Prop} {w0 w : World} {bs : List Ent} {ρ : Env} {f : FuncId} {a : List AV} {m mem' : List AObj} {out : Out} {vs : List Value} {v : AV} (hC : ∀ l, ρ.f 200 l = chkF (fun i => ρ.f 0 [i]) l) (ho : spc f a m = some out) (hvs : dvl bs ρ a = some vs)
    (hm : RelM bs ρ S w0 m w) (hp : out.pick ρ = some (v, mem')) : Go.SX.Comes Try.prog S w0 bs ρ f vs w v mem' := by
  unfold spc at ho
  split at ho
  · rename_i hf
    subst hf
    split at ho
    · split at ho
      · rename_i hid
        cases ho
        cases hp
        exact chk_comes hC hid hvs hm
      · cases ho
    · cases ho
  · cases ho
theorem cfg_ok (G : Nat → List Int → Int) (hG : ∀ j, 100 ≤ j → j < 200 → G j = F j) (hC : ∀ l, G 200 l = chkF (fun i => G 0 [i]) l) : CfgOk Try.prog cfg G (fun _ _ => True) :=
  ⟨by kernel_rfl, okB_spec (by kernel_rfl), fun f a m out h S w0 bs ρ w vs v mem' _ hρ hvs hm hp => by
    have h' : (match spc f a m with | some o => some o | none => sums2 B.cus [(11, Alive.pat), (31, Query.pat), (20, LookA.pat)] f a m) = some out := h
    split at h'
    · rename_i o ho
      cases h'
      exact spc_ok (by rw [hρ]; exact hC) ho hvs hm hp
    · exact sums2_sound B.cus_ok (l := [(11, Alive.pat), (31, Query.pat), (20, LookA.pat)]) (fun p hp => by
    simp only [List.mem_cons, List.not_mem_nil, or_false] at hp
    rcases hp with rfl | rfl | rfl
    · exact Alive.ok
    · exact Query.ok
    · exact LookA.ok) h' (fun j hj hj2 => by rw [hρ]; exact hG j hj hj2) hvs hm hp⟩
def FR (z : List Int) : Nat → List Int → Int := fun j l => if j = 200 then chkF (fun i => z.getD i.toNat 0) l else B.F j l
theorem FR_low (z : List Int) {j : Nat} (h : j < 200) : FR z j = F j := by
  funext l
  unfold FR
  rw [if_neg (by omega)]
theorem env_chk (vals z : List Int) (rest : List (List Int)) (hr : rest.length < 100 := by simp) : ∀ l, (mkEnv (FR z) vals (z :: rest)).f 200 l = chkF (fun i => (mkEnv (FR z) vals (z :: rest)).f 0 [i]) l := by
  intro l
  have e1 : (mkEnv (FR z) vals (z :: rest)).f 200 l = FR z 200 l := by rw [mkEnv_f (by simp; omega)]
  rw [e1]
  unfold FR
  rw [if_pos rfl]
  rfl
def args : List AV := [.agg (Go.SX.ofList [.arg 0, .int .i64 (.var 2), .int .i64 (.var 3), .int .i64 (.var 4), .int .i64 (.var 5), .int .i64 (.var 6)]), .arg 1, .agg (Go.SX.ofList [.int .i64 (.var 9), .int .i64 (.var 10), .int .i64 (.var 11)])]
def mem : List AObj := [.sym (.var 0) (.var 1) [.int .i64 0] 3, .sym (.var 7) (.var 8) [.int .u8 1] 5]
def tree : Tree :=
(.ite (.cmp .lss (.lit 50) (.var 0))
 (.leaf (.bool (.lit 1)) [])
 (.ite (.cmp .lss (.lit 500) (.var 7))
 (.leaf (.bool (.lit 1)) [])
 (.ite (.cmp .eql (.conv .u64 (.var 11)) (.lit 0))
 (.leaf (.bool (.lit 1)) [])
 (.ite (.cmp .neq (.app 200 (.cons (.var 0) (.cons (.var 2) (.cons (.var 3) (.cons (.var 4) (.cons (.var 5) (.cons (.var 6) .nil))))))) (.lit 0))
 (.leaf (.bool (.lit 1)) [])
 (.ite (.cmp .leq (.lit 4) (.var 3))
 (.ite (.cmp .lss (.lit 1024) (.var 3))
 (.leaf (.bool (.lit 1)) [])
 (.ite (.cmp .leq (.lit 4) (.var 4))
 (.ite (.cmp .lss (.lit 1024) (.var 4))
 (.leaf (.bool (.lit 1)) [])
 (.ite (.cmp .lss (.var 4) (.var 3))
 (.leaf (.bool (.lit 1)) [])
 (.ite (.cmp .lss (.var 7) (.lit 48))
 (.leaf (.bool (.lit 1)) [])
 (.ite (.cmp .eql (.bin .and .u8 (.bin .shr .u8 (.app 1 (.cons (.lit 0) .nil)) (.lit 3)) (.lit 7)) (.lit 4))
 (.ite (.cmp .eql (.bin .and .u8 (.app 1 (.cons (.lit 0) .nil)) (.lit 7)) (.lit 4))
 (.ite (.cmp .eql (.bin .or .u64 (.bin .shl .u64 (.bin .or .u64 (.bin .shl .u64 (.bin .or .u64 (.bin .shl .u64 (.bin .or .u64 (.bin .shl .u64 (.bin .or .u64 (.bin .shl .u64 (.bin .or .u64 (.bin .shl .u64 (.bin .or .u64 (.bin .shl .u64 (.bin .or .u64 (.lit 0) (.conv .u64 (.app 1 (.cons (.lit 24) .nil)))) (.lit 8)) (.conv .u64 (.app 1 (.cons (.lit 25) .nil)))) (.lit 8)) (.conv .u64 (.app 1 (.cons (.lit 26) .nil)))) (.lit 8)) (.conv .u64 (.app 1 (.cons (.lit 27) .nil)))) (.lit 8)) (.conv .u64 (.app 1 (.cons (.lit 28) .nil)))) (.lit 8)) (.conv .u64 (.app 1 (.cons (.lit 29) .nil)))) (.lit 8)) (.conv .u64 (.app 1 (.cons (.lit 30) .nil)))) (.lit 8)) (.conv .u64 (.app 1 (.cons (.lit 31) .nil)))) (.conv .u64 (.var 11)))
 (.ite (.cmp .neq (.app 1 (.cons (.lit 1) .nil)) (.lit 0))
 (.ite (.cmp .neq (.bin .shr .u8 (.app 1 (.cons (.lit 0) .nil)) (.lit 6)) (.lit 3))
 (.ite (.cmp .leq (.app 1 (.cons (.lit 1) .nil)) (.lit 15))
 (.ite (.cmp .neq (.mn (.bin .or .u64 (.bin .shl .u64 (.bin .or .u64 (.bin .shl .u64 (.bin .or .u64 (.bin .shl .u64 (.bin .or .u64 (.bin .shl .u64 (.bin .or .u64 (.bin .shl .u64 (.bin .or .u64 (.bin .shl .u64 (.bin .or .u64 (.bin .shl .u64 (.bin .or .u64 (.lit 0) (.conv .u64 (.app 1 (.cons (.lit 32) .nil)))) (.lit 8)) (.conv .u64 (.app 1 (.cons (.lit 33) .nil)))) (.lit 8)) (.conv .u64 (.app 1 (.cons (.lit 34) .nil)))) (.lit 8)) (.conv .u64 (.app 1 (.cons (.lit 35) .nil)))) (.lit 8)) (.conv .u64 (.app 1 (.cons (.lit 36) .nil)))) (.lit 8)) (.conv .u64 (.app 1 (.cons (.lit 37) .nil)))) (.lit 8)) (.conv .u64 (.app 1 (.cons (.lit 38) .nil)))) (.lit 8)) (.conv .u64 (.app 1 (.cons (.lit 39) .nil)))) (.bin .or .u64 (.bin .shl .u64 (.bin .or .u64 (.bin .shl .u64 (.bin .or .u64 (.bin .shl .u64 (.bin .or .u64 (.bin .shl .u64 (.bin .or .u64 (.bin .shl .u64 (.bin .or .u64 (.bin .shl .u64 (.bin .or .u64 (.bin .shl .u64 (.bin .or .u64 (.lit 0) (.conv .u64 (.app 1 (.cons (.lit 40) .nil)))) (.lit 8)) (.conv .u64 (.app 1 (.cons (.lit 41) .nil)))) (.lit 8)) (.conv .u64 (.app 1 (.cons (.lit 42) .nil)))) (.lit 8)) (.conv .u64 (.app 1 (.cons (.lit 43) .nil)))) (.lit 8)) (.conv .u64 (.app 1 (.cons (.lit 44) .nil)))) (.lit 8)) (.conv .u64 (.app 1 (.cons (.lit 45) .nil)))) (.lit 8)) (.conv .u64 (.app 1 (.cons (.lit 46) .nil)))) (.lit 8)) (.conv .u64 (.app 1 (.cons (.lit 47) .nil))))) (.lit 0))
 (.ite (.cmp .lss (.bin .add .i64 (.lit 0) (.bin .mul .i64 (.var 5) (.lit 1000000))) (.lit 0))
 (.leaf (.bool (.lit 0)) [])
 (.ite (.cmp .eql (.mn (.bin .add .i64 (.lit 0) (.bin .mul .i64 (.var 3) (.lit 1000000000))) (.lit 4611686018427387903)) (.bin .mul .i64 (.var 3) (.lit 1000000000)))
 (.leaf (.bool (.lit 1)) [])
 (.leaf (.bool (.lit 0)) [])))
 (.leaf (.bool (.lit 1)) []))
 (.leaf (.bool (.lit 1)) []))
 (.leaf (.bool (.lit 1)) []))
 (.leaf (.bool (.lit 1)) []))
 (.leaf (.bool (.lit 1)) []))
 (.leaf (.bool (.lit 1)) []))
 (.leaf (.bool (.lit 1)) [])))))
 (.leaf (.bool (.lit 1)) [])))
 (.leaf (.bool (.lit 1)) []))))))
set_option maxHeartbeats 40000000 in
theorem tree_eq : callT Try.prog cfg 100000 0 6 args mem [] = tree := by kernel_rfl
theorem tree_holds (ρ : Env) (h0 : 0 ≤ ρ.v 0) (h1 : ρ.v 0 ≤ ρ.v 1) (_ : ∀ i : Int, 0 ≤ i → i < ρ.v 0 → inR .i64 (ρ.f 0 [i]) = true) (h2 : inR .i64 (ρ.v 2) = true) (h3 : inR .i64 (ρ.v 3) = true) (h4 : inR .i64 (ρ.v 4) = true) (h5 : inR .i64 (ρ.v 5) = true) (h6 : inR .i64 (ρ.v 6) = true)
    (_ : 0 ≤ ρ.v 7) (_ : ρ.v 7 ≤ ρ.v 8) (_ : ρ.v 7 * 1 ≤ 140737488351232) (_ : ∀ i : Int, 0 ≤ i → i < ρ.v 7 → inR .u8 (ρ.f 1 [i]) = true) (h9 : inR .i64 (ρ.v 9) = true) (h10 : inR .i64 (ρ.v 10) = true) (h11 : inR .i64 (ρ.v 11) = true)
    (hf : ∀ j, 100 ≤ j → j < 200 → ρ.f j = F j) (hC : ∀ l, ρ.f 200 l = chkF (fun i => ρ.f 0 [i]) l) : tree.holds (fun _ _ => True) saysTrue ρ := by
  have l1 : ∀ {m : List AObj}, (Tree.leaf (.bool (.lit 1)) m).holds (fun _ _ => True) saysTrue ρ := says1
  have t : ∀ {c : SE} {t e : Tree}, t.holds (fun _ _ => True) saysTrue ρ → e.holds (fun _ _ => True) saysTrue ρ → (Tree.ite c t e).holds (fun _ _ => True) saysTrue ρ := fun a b => ⟨fun _ => a, fun _ => b⟩
  unfold tree
  refine t l1 (t l1 (t l1 ⟨fun _ => l1, fun g => ?_⟩))
  rw [ev_neq'] at g
  simp only [den, dens] at g
  rw [hC] at g
  have k := (chkF_spec (fun i => ρ.f 0 [i]) (ρ.v 0) (ρ.v 2) (ρ.v 3) (ρ.v 4) (ρ.v 5) (ρ.v 6) h0).2.2 g
  unfold CfgIn at k
  have a1 : binI .mul .i64 (ρ.v 5) 1000000 = ρ.v 5 * 1000000 := mul_i64 (by omega) (by omega)
  have a2 : binI .add .i64 0 (ρ.v 5 * 1000000) = ρ.v 5 * 1000000 := by rw [add_i64 (by omega) (by omega)]; omega
  have a3 : binI .mul .i64 (ρ.v 3) 1000000000 = ρ.v 3 * 1000000000 := mul_i64 (by omega) (by omega)
  have a4 : binI .add .i64 0 (ρ.v 3 * 1000000000) = ρ.v 3 * 1000000000 := by rw [add_i64 (by omega) (by omega)]; omega
  refine t (t l1 (t (t l1 (t l1 (t l1 (t (t (t (t (t (t (t ⟨fun h => ?_, fun _ => ⟨fun _ => l1, fun h => ?_⟩⟩ l1) l1) l1) l1) l1) l1) l1)))) l1)) l1
  · exfalso
    rw [ev_lss] at h
    simp only [den, a1, a2] at h
    omega
  · exfalso
    rw [ev_eql'] at h
    apply h
    show (if (4611686018427387903 : Int) < binI .add .i64 0 (binI .mul .i64 (ρ.v 3) 1000000000) then 4611686018427387903 else binI .add .i64 0 (binI .mul .i64 (ρ.v 3) 1000000000)) = binI .mul .i64 (ρ.v 3) 1000000000
    rw [a3, a4]
    split <;> omega
end Go.Proofs.Ytableianhaojcaa.TPeerKept
