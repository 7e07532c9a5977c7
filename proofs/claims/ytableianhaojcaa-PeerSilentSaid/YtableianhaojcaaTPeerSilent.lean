/- The tree of the law PeerSilent, and that all its ends say true. No conditions. -/
import Derived.Test.YtableianhaojcaaSX3
import Derived.Test.YtableianhaojcaaProg
import Derived.KernelRfl
import Derived.Test.YtableianhaojcaaCAlive
import Derived.Test.YtableianhaojcaaCLookA
import Derived.Test.YtableianhaojcaaCLookR
import Derived.Test.YtableianhaojcaaCP1
import Derived.Test.YtableianhaojcaaB
import Derived.Test.YtableianhaojcaaLCf
namespace Go.Proofs.Ytableianhaojcaa.TPeerSilent
open Go Go.SX Go.Proofs.Ytableianhaojcaa Go.Proofs.Ytableianhaojcaa.L Go.RowKit Go.Proofs.YtableianhaojcaaW.PrintWords
set_option maxRecDepth 100000
set_option linter.unusedVariables false
set_option linter.unusedSimpArgs false

def spc (f : FuncId) (a : List AV) (m : List AObj) : Option Out :=
  if f = 28 then match a with
    | [.agg (.cons (.arg i) (.cons (.int .i64 q) (.cons (.int .i64 le) (.cons (.int .i64 mo) (.cons (.int .i64 de) (.cons (.int .i64 sl) .nil))))))] => match m[i]? with
      | some (.sym n _ [.int .i64 0] _) => some (.done (.int .i64 (.app 200 (.cons n (.cons q (.cons le (.cons mo (.cons de (.cons sl .nil)))))))) m)
      | _ => none
    | _ => none
  else none
def loops : List LoopSpec := [{ key := 6, slots := [(39, some (.int .u8 (.var 20))), (7, some (.int .i64 (.var 21))), (8, none), (9, none), (10, none), (11, none), (12, none), (40, none), (41, none), (42, none), (43, none), (44, none), (45, none), (46, none), (47, none), (48, none), (49, none), (50, none), (51, none), (52, none), (53, none), (54, none), (55, none), (56, none), (57, none), (58, none), (59, none), (60, none), (61, none), (62, none), (63, none), (64, none), (65, none), (66, none), (67, none), (68, none), (69, none), (70, none), (71, none), (72, none), (73, none), (74, none), (75, none), (76, none), (77, none), (78, none), (79, none), (80, none), (81, none), (82, none), (83, none), (84, none), (85, none), (86, none), (87, none), (88, none), (89, none), (90, none), (91, none), (92, none), (93, none), (94, none), (95, none), (96, none), (97, none), (98, none), (99, none)], cells := [(3, 2, .int .i64 (.var 21)), (3, 3, .int .i64 (.var 22)), (4, 2, .int .i64 (.var 23)), (4, 4, .int .i64 (.var 24)), (4, 6, .int .u64 (.var 26))], meas := .bin .sub .i64 (.lit 30) (.var 20), facts := [(.cmp .lss (.mn (.var 21) (.var 4)) (.lit 0), false), (.cmp .lss (.lit 1073741824) (.mx (.var 21) (.var 4)), false)] }]
def cfg : Cfg := { ok := [3, 4, 5, 6, 7, 8, 9, 10, 11, 12, 13, 14, 15, 16, 17, 18, 19, 20, 21, 22, 23, 24, 25, 26, 27, 28, 29, 30, 31, 32, 33, 34, 35, 36, 37, 38, 39, 40, 41, 42, 43, 44, 45, 46, 47, 48, 49, 50, 51, 52, 53, 54, 55, 56, 57, 58, 59, 60, 61, 62, 63, 64, 65, 66, 67, 68, 69, 70, 71, 72, 73, 74, 75, 76, 77, 78, 79, 80, 81, 82, 83, 84], sums := fun f a m => match spc f a m with | some o => some o | none => sums2 B.cus [(11, Alive.pat), (31, Query.pat), (24, Good.pat), (20, LookR.pat), (20, LookA.pat)] f a m, loops := loops }
abbrev F : Nat → List Int → Int := B.F
theorem spc_ok {S : Nat → Prop} {w0 w : World} {bs : List Ent} {ρ : Env} {f : FuncId} {a : List AV} {m mem' : List AObj} {out : Out} {vs : List Value} {v : AV} (hC : ∀ l, ρ.f 200 l = chkF (fun i => ρ.f 0 [i]) l) (ho : spc f a m = some out) (hvs : dvl bs ρ a = some vs)
    (hm : RelM bs ρ S w0 m w) (hp : out.pick ρ = some (v, mem')) : Go.SX.Comes Try.prog S w0 bs ρ f vs w v mem' := by
  unfold spc at ho
  split at ho
  · rename_i hf
    subst hf
    split at ho
    · split at ho
      · rename_i hid
        cases ho
        cases hp
        exact chk_comes hC hid hvs hm
      · cases ho
    · cases ho
  · cases ho
theorem cfg_ok (G : Nat → List Int → Int) (hG : ∀ j, 100 ≤ j → j < 200 → G j = F j) (hC : ∀ l, G 200 l = chkF (fun i => G 0 [i]) l) : CfgOk Try.prog cfg G (fun _ _ => True) :=
  ⟨by kernel_rfl, okB_spec (by kernel_rfl), fun f a m out h S w0 bs ρ w vs v mem' _ hρ hvs hm hp => by
    have h' : (match spc f a m with | some o => some o | none => sums2 B.cus [(11, Alive.pat), (31, Query.pat), (24, Good.pat), (20, LookR.pat), (20, LookA.pat)] f a m) = some out := h
    split at h'
    · rename_i o ho
      cases h'
      exact spc_ok (by rw [hρ]; exact hC) ho hvs hm hp
    · exact sums2_sound B.cus_ok (l := [(11, Alive.pat), (31, Query.pat), (24, Good.pat), (20, LookR.pat), (20, LookA.pat)]) (fun p hp => by
    simp only [List.mem_cons, List.not_mem_nil, or_false] at hp
    rcases hp with rfl | rfl | rfl | rfl | rfl
    · exact Alive.ok
    · exact Query.ok
    · exact Good.ok
    · exact LookR.ok
    · exact LookA.ok) h' (fun j hj hj2 => by rw [hρ]; exact hG j hj hj2) hvs hm hp⟩
def FR (z : List Int) : Nat → List Int → Int := fun j l => if j = 200 then chkF (fun i => z.getD i.toNat 0) l else B.F j l
theorem FR_low (z : List Int) {j : Nat} (h : j < 200) : FR z j = F j := by
  funext l
  unfold FR
  rw [if_neg (by omega)]
theorem env_chk (vals z : List Int) (rest : List (List Int)) (hr : rest.length < 100 := by simp) : ∀ l, (mkEnv (FR z) vals (z :: rest)).f 200 l = chkF (fun i => (mkEnv (FR z) vals (z :: rest)).f 0 [i]) l := by
  intro l
  have e1 : (mkEnv (FR z) vals (z :: rest)).f 200 l = FR z 200 l := by rw [mkEnv_f (by simp; omega)]
  rw [e1]
  unfold FR
  rw [if_pos rfl]
  rfl
def args : List AV := [.agg (Go.SX.ofList [.arg 0, .int .i64 (.var 2), .int .i64 (.var 3), .int .i64 (.var 4), .int .i64 (.var 5), .int .i64 (.var 6)]), .int .u8 (.var 7)]
def mem : List AObj := [.sym (.var 0) (.var 1) [.int .i64 0] 3]
def tree : Tree :=
(.ite (.cmp .neq (.app 200 (.cons (.var 0) (.cons (.var 2) (.cons (.var 3) (.cons (.var 4) (.cons (.var 5) (.cons (.var 6) .nil))))))) (.lit 0))
 (.leaf (.bool (.lit 1)) [])
 (.ite (.cmp .leq (.lit 4) (.var 3))
 (.ite (.cmp .lss (.lit 1024) (.var 3))
 (.leaf (.bool (.lit 1)) [])
 (.ite (.cmp .leq (.lit 4) (.var 4))
 (.ite (.cmp .lss (.lit 1024) (.var 4))
 (.leaf (.bool (.lit 1)) [])
 (.ite (.cmp .lss (.var 4) (.var 3))
 (.leaf (.bool (.lit 1)) [])
 (.ite (.cmp .lss (.lit 50) (.var 0))
 (.leaf (.bool (.lit 1)) [])
 (.need (.not (.cmp .lss (.mn (.var 3) (.var 4)) (.lit 0))) (.need (.not (.cmp .lss (.lit 1073741824) (.mx (.var 3) (.var 4)))) (.loop 6 [(1006, (.bin .sub .i64 (.lit 30) (.lit 0))), (20, (.lit 0)), (21, (.var 3)), (21, (.var 3)), (22, (.lit 0)), (23, (.lit 0)), (24, (.lit 0)), (26, (.lit 0))]
 (.ite (.cmp .lss (.var 20) (.bin .rem .u8 (.var 7) (.lit 20)))
 (.ite (.cmp .lss (.mn (.var 23) (.lit 4611686018427387903)) (.lit 0))
 (.leaf (.bool (.lit 0)) [])
 (.ite (.cmp .lss (.lit 4611686018427387903) (.mn (.var 23) (.lit 4611686018427387903)))
 (.leaf (.bool (.lit 0)) [])
 (.ite (.cmp .lss (.mn (.var 23) (.lit 4611686018427387903)) (.var 23))
 (.leaf (.bool (.lit 0)) [])
 (.ite (.cmp .eql (.bin .add .u64 (.conv .u64 (.var 20)) (.lit 1)) (.lit 0))
 (.leaf (.bool (.lit 0)) [])
 (.ite (.cmp .leq (.bin .add .i64 (.bin .add .i64 (.mn (.var 23) (.lit 4611686018427387903)) (.bin .mul .i64 (.var 5) (.lit 1000000))) (.lit 1)) (.bin .add .i64 (.mn (.var 23) (.lit 4611686018427387903)) (.bin .mul .i64 (.var 5) (.lit 1000000))))
 (.leaf (.bool (.lit 0)) [])
 (.ite (.cmp .neq (.mn (.bin .add .i64 (.mn (.var 23) (.lit 4611686018427387903)) (.bin .mul .i64 (.mn (.bin .mul .i64 (.lit 2) (.var 21)) (.var 4)) (.lit 1000000000))) (.lit 4611686018427387903)) (.bin .add .i64 (.mn (.var 23) (.lit 4611686018427387903)) (.bin .mul .i64 (.mn (.bin .mul .i64 (.lit 2) (.var 21)) (.var 4)) (.lit 1000000000))))
 (.leaf (.bool (.lit 0)) [])
 (.need (.not (.cmp .lss (.mn (.mn (.bin .mul .i64 (.lit 2) (.var 21)) (.var 4)) (.var 4)) (.lit 0))) (.need (.not (.cmp .lss (.lit 1073741824) (.mx (.mn (.bin .mul .i64 (.lit 2) (.var 21)) (.var 4)) (.var 4)))) (.again 6 [(1006, (.bin .sub .i64 (.lit 30) (.bin .add .u8 (.var 20) (.lit 1)))), (20, (.bin .add .u8 (.var 20) (.lit 1))), (21, (.mn (.bin .mul .i64 (.lit 2) (.var 21)) (.var 4))), (21, (.mn (.bin .mul .i64 (.lit 2) (.var 21)) (.var 4))), (22, (.bin .add .i64 (.var 22) (.lit 1))), (23, (.bin .add .i64 (.mn (.var 23) (.lit 4611686018427387903)) (.bin .mul .i64 (.mn (.bin .mul .i64 (.lit 2) (.var 21)) (.var 4)) (.lit 1000000000)))), (24, (.mn (.var 23) (.lit 4611686018427387903))), (26, (.bin .add .u64 (.conv .u64 (.var 20)) (.lit 1)))])))))))))
 (.leaf (.bool (.lit 1)) []))))))))
 (.leaf (.bool (.lit 1)) [])))
 (.leaf (.bool (.lit 1)) [])))
set_option maxHeartbeats 40000000 in
theorem tree_eq : callT Try.prog cfg 100000 0 3 args mem [] = tree := by kernel_rfl
def Inv : Nat → Env → Prop := fun _ ρ => (0 ≤ ρ.v 7 ∧ ρ.v 7 ≤ 255) ∧ (4 ≤ ρ.v 3 ∧ ρ.v 3 ≤ ρ.v 4 ∧ ρ.v 4 ≤ 1024) ∧ (1 ≤ ρ.v 5 ∧ ρ.v 5 ≤ 1022000) ∧ (0 ≤ ρ.v 20 ∧ ρ.v 20 ≤ 20) ∧ (4 ≤ ρ.v 21 ∧ ρ.v 21 ≤ ρ.v 4) ∧ (0 ≤ ρ.v 23 ∧ ρ.v 23 ≤ ρ.v 20 * 1024000000000) ∧ ρ.v 1006 = 30 - ρ.v 20
theorem tf {ρ : Env} {c : SE} {p : Prop} (h : evB ρ c = true) (h' : evB ρ c = false) : p := by rw [h] at h'; cases h'
theorem tree_holds (ρ : Env) (h0 : 0 ≤ ρ.v 0) (h1 : ρ.v 0 ≤ ρ.v 1) (_ : ∀ i : Int, 0 ≤ i → i < ρ.v 0 → inR .i64 (ρ.f 0 [i]) = true) (h2 : inR .i64 (ρ.v 2) = true) (h3 : inR .i64 (ρ.v 3) = true) (h4 : inR .i64 (ρ.v 4) = true) (h5 : inR .i64 (ρ.v 5) = true) (h6 : inR .i64 (ρ.v 6) = true)
    (h7 : inR .u8 (ρ.v 7) = true) (hf : ∀ j, 100 ≤ j → j < 200 → ρ.f j = F j) (hC : ∀ l, ρ.f 200 l = chkF (fun i => ρ.f 0 [i]) l) : tree.holds Inv saysTrue ρ := by
  have l1 : ∀ {ρ : Env} {m : List AObj}, (Tree.leaf (.bool (.lit 1)) m).holds Inv saysTrue ρ := says1
  have b7 := u8_inR h7
  unfold tree
  refine ⟨fun _ => l1, fun g => ?_⟩
  rw [ev_neq'] at g
  simp only [den, dens] at g
  rw [hC] at g
  have k := (chkF_spec (fun i => ρ.f 0 [i]) (ρ.v 0) (ρ.v 2) (ρ.v 3) (ρ.v 4) (ρ.v 5) (ρ.v 6) h0).2.2 g
  unfold CfgIn at k
  clear g hC
  refine ⟨fun _ => ⟨fun _ => l1, fun _ => ⟨fun _ => ⟨fun _ => l1, fun _ => ⟨fun _ => l1, fun _ => ⟨fun _ => l1, fun _ => ⟨?_, ?_, ?_, fun ρ' hf' hI => ?_⟩⟩⟩⟩, fun _ => l1⟩⟩, fun _ => l1⟩
  · rw [ev_not, ev_lss']; simp only [den, le_mn]; omega
  · rw [ev_not, ev_lss']; simp only [den, mx_le]; omega
  · refine ⟨⟨b7.1, b7.2⟩, ?_, ?_, ?_, ?_, ?_, ?_⟩
    · show 4 ≤ ρ.v 3 ∧ ρ.v 3 ≤ ρ.v 4 ∧ ρ.v 4 ≤ 1024; omega
    · show 1 ≤ ρ.v 5 ∧ ρ.v 5 ≤ 1022000; omega
    · show 0 ≤ (0 : Int) ∧ (0 : Int) ≤ 20; omega
    · show 4 ≤ ρ.v 3 ∧ ρ.v 3 ≤ ρ.v 4; omega
    · show 0 ≤ (0 : Int) ∧ (0 : Int) ≤ 0 * 1024000000000; omega
    · show binI .sub .i64 30 0 = 30 - 0; exact sub_i64 (by omega) (by omega)
  · obtain ⟨i7, i34, i5, i20, i21, i23, im⟩ := hI
    have dB : ∀ op k a b, den ρ' (.bin op k a b) = binI op k (den ρ' a) (den ρ' b) := fun _ _ _ _ => rfl
    have dC : ∀ k a, den ρ' (.conv k a) = k.wrap (den ρ' a) := fun _ _ => rfl
    have dL : ∀ n, den ρ' (.lit n) = n := fun _ => rfl
    have dV : ∀ n, den ρ' (.var n) = ρ'.v n := fun _ => rfl
    have m0 : den ρ' (.mn (.var 23) (.lit 4611686018427387903)) = ρ'.v 23 := by
      show (if (4611686018427387903 : Int) < ρ'.v 23 then 4611686018427387903 else ρ'.v 23) = _
      rw [if_neg (by omega)]
    have a0 : binI .mul .i64 2 (ρ'.v 21) = 2 * ρ'.v 21 := mul_i64 (by omega) (by omega)
    obtain ⟨W, hW, w0, w1⟩ : ∃ W, den ρ' (.mn (.bin .mul .i64 (.lit 2) (.var 21)) (.var 4)) = W ∧ 4 ≤ W ∧ W ≤ ρ'.v 4 := by
      refine ⟨_, rfl, ?_⟩
      show 4 ≤ (if ρ'.v 4 < binI .mul .i64 2 (ρ'.v 21) then ρ'.v 4 else binI .mul .i64 2 (ρ'.v 21)) ∧ (if ρ'.v 4 < binI .mul .i64 2 (ρ'.v 21) then ρ'.v 4 else binI .mul .i64 2 (ρ'.v 21)) ≤ ρ'.v 4
      rw [a0]
      split <;> omega
    have a1 : binI .mul .i64 (ρ'.v 5) 1000000 = ρ'.v 5 * 1000000 := mul_i64 (by omega) (by omega)
    have a2 : binI .add .i64 (ρ'.v 23) (ρ'.v 5 * 1000000) = ρ'.v 23 + ρ'.v 5 * 1000000 := add_i64 (by omega) (by omega)
    have a3 : binI .add .i64 (ρ'.v 23 + ρ'.v 5 * 1000000) 1 = ρ'.v 23 + ρ'.v 5 * 1000000 + 1 := add_i64 (by omega) (by omega)
    have a4 : binI .mul .i64 W 1000000000 = W * 1000000000 := mul_i64 (by omega) (by omega)
    have a5 : binI .add .i64 (ρ'.v 23) (W * 1000000000) = ρ'.v 23 + W * 1000000000 := add_i64 (by omega) (by omega)
    have mW : den ρ' (.mn (.bin .add .i64 (.mn (.var 23) (.lit 4611686018427387903)) (.bin .mul .i64 (.mn (.bin .mul .i64 (.lit 2) (.var 21)) (.var 4)) (.lit 1000000000))) (.lit 4611686018427387903)) = ρ'.v 23 + W * 1000000000 := by
      show (if (4611686018427387903 : Int) < den ρ' (.bin .add .i64 (.mn (.var 23) (.lit 4611686018427387903)) (.bin .mul .i64 (.mn (.bin .mul .i64 (.lit 2) (.var 21)) (.var 4)) (.lit 1000000000))) then 4611686018427387903 else den ρ' (.bin .add .i64 (.mn (.var 23) (.lit 4611686018427387903)) (.bin .mul .i64 (.mn (.bin .mul .i64 (.lit 2) (.var 21)) (.var 4)) (.lit 1000000000)))) = _
      simp only [dB, m0, hW, dL, a4, a5]
      rw [if_neg (by omega)]
    have a6 : IntKind.u64.wrap (ρ'.v 20) = ρ'.v 20 := by rw [u64_wrap]; omega
    have a7 : binI .add .u64 (ρ'.v 20) 1 = ρ'.v 20 + 1 := by show IntKind.u64.wrap (ρ'.v 20 + 1) = _; rw [u64_wrap]; omega
    have a8 : binI .add .u8 (ρ'.v 20) 1 = ρ'.v 20 + 1 := by show IntKind.u8.wrap (ρ'.v 20 + 1) = _; rw [u8_wrap]; omega
    have a9 : binI .rem .u8 (ρ'.v 7) 20 = ρ'.v 7 % 20 := Int.tmod_eq_emod_of_nonneg i7.1
    refine ⟨fun c => ?_, fun _ => l1⟩
    rw [ev_lss] at c
    simp only [dB, dL, dV, a9] at c
    refine ⟨fun h => ?_, fun _ => ⟨fun h => ?_, fun _ => ⟨fun h => ?_, fun _ => ⟨fun h => ?_, fun _ => ⟨fun h => ?_, fun _ => ⟨fun h => ?_, fun _ => ⟨?_, ?_, ?_, ?_⟩⟩⟩⟩⟩⟩⟩
    · exfalso; rw [ev_lss] at h; simp only [m0, dL] at h; omega
    · exfalso; rw [ev_lss] at h; simp only [m0, dL] at h; omega
    · exfalso; rw [ev_lss] at h; simp only [m0, dV] at h; omega
    · exfalso; rw [ev_eql] at h; simp only [dB, dC, dL, dV, a6, a7] at h; omega
    · exfalso; rw [ev_leq] at h; simp only [dB, dL, dV, m0, a1, a2, a3] at h; omega
    · exfalso; rw [ev_neq] at h; apply h; rw [mW]; simp only [dB, dL, m0, hW, a4, a5]
    · rw [ev_not, ev_lss']
      show 0 ≤ (if ρ'.v 4 < den ρ' (.mn (.bin .mul .i64 (.lit 2) (.var 21)) (.var 4)) then ρ'.v 4 else den ρ' (.mn (.bin .mul .i64 (.lit 2) (.var 21)) (.var 4)))
      rw [hW, le_mn]; omega
    · rw [ev_not, ev_lss']
      show (if ρ'.v 4 > den ρ' (.mn (.bin .mul .i64 (.lit 2) (.var 21)) (.var 4)) then ρ'.v 4 else den ρ' (.mn (.bin .mul .i64 (.lit 2) (.var 21)) (.var 4))) ≤ 1073741824
      rw [hW, mx_le]; omega
    · refine ⟨i7, i34, i5, ?_, ?_, ?_, ?_⟩
      · show 0 ≤ binI .add .u8 (ρ'.v 20) 1 ∧ binI .add .u8 (ρ'.v 20) 1 ≤ 20
        rw [a8]; omega
      · show 4 ≤ den ρ' (.mn (.bin .mul .i64 (.lit 2) (.var 21)) (.var 4)) ∧ den ρ' (.mn (.bin .mul .i64 (.lit 2) (.var 21)) (.var 4)) ≤ ρ'.v 4
        rw [hW]; omega
      · show 0 ≤ den ρ' (.bin .add .i64 (.mn (.var 23) (.lit 4611686018427387903)) (.bin .mul .i64 (.mn (.bin .mul .i64 (.lit 2) (.var 21)) (.var 4)) (.lit 1000000000))) ∧ den ρ' (.bin .add .i64 (.mn (.var 23) (.lit 4611686018427387903)) (.bin .mul .i64 (.mn (.bin .mul .i64 (.lit 2) (.var 21)) (.var 4)) (.lit 1000000000))) ≤ binI .add .u8 (ρ'.v 20) 1 * 1024000000000
        simp only [dB, m0, hW, dL, a4, a5, a8]
        omega
      · show binI .sub .i64 30 (binI .add .u8 (ρ'.v 20) 1) = 30 - binI .add .u8 (ρ'.v 20) 1
        rw [a8]; exact sub_i64 (by omega) (by omega)
    · show (binI .sub .i64 30 (binI .add .u8 (ρ'.v 20) 1)).toNat < (ρ'.v 1006).toNat
      rw [a8, sub_i64 (by omega) (by omega), im]
      omega
end Go.Proofs.Ytableianhaojcaa.TPeerSilent
