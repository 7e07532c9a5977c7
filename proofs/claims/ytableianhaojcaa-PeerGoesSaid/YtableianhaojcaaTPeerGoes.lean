/- The tree of the law PeerGoes, and that all its ends say true. No conditions. -/
import Derived.Test.YtableianhaojcaaSX3
import Derived.Test.YtableianhaojcaaProg
import Derived.KernelRfl
import Derived.Test.YtableianhaojcaaCAlive
import Derived.Test.YtableianhaojcaaCLookR
import Derived.Test.YtableianhaojcaaCP1
import Derived.Test.YtableianhaojcaaB
import Derived.Test.YtableianhaojcaaLCf
namespace Go.Proofs.Ytableianhaojcaa.TPeerGoes
open Go Go.SX Go.Proofs.Ytableianhaojcaa Go.Proofs.Ytableianhaojcaa.L Go.RowKit Go.Proofs.YtableianhaojcaaW.PrintWords
set_option maxRecDepth 100000
set_option linter.unusedVariables false
set_option linter.unusedSimpArgs false

def spc (f : FuncId) (a : List AV) (m : List AObj) : Option Out :=
  if f = 28 then match a with
    | [.agg (.cons (.arg i) (.cons (.int .i64 q) (.cons (.int .i64 le) (.cons (.int .i64 mo) (.cons (.int .i64 de) (.cons (.int .i64 sl) .nil))))))] => match m[i]? with
      | some (.sym n _ [.int .i64 0] _) => some (.done (.int .i64 (.app 200 (.cons n (.cons q (.cons le (.cons mo (.cons de (.cons sl .nil)))))))) m)
      | _ => none
    | _ => none
  else none
def loops : List LoopSpec := [{ key := 5, slots := [(45, some (.int .i64 (.var 20))), (7, none), (8, none), (9, none), (10, none), (11, none), (12, none), (13, none), (14, none), (15, none), (46, none), (47, none), (48, none), (49, none), (50, none), (51, none), (52, none), (53, none), (54, none), (55, none), (56, none), (57, none), (58, none), (59, none), (60, none), (61, none), (62, none), (63, none), (64, none), (65, none), (66, none), (67, none), (68, none), (69, none), (70, none), (71, none), (72, none), (73, none), (74, none), (75, none), (76, none), (77, none), (78, none), (79, none), (80, none), (81, none), (82, none), (83, none), (84, none), (85, none), (86, none), (87, none), (88, none), (89, none), (90, none), (91, none), (92, none), (93, none), (94, none), (95, none), (96, none), (97, none), (98, none), (99, none), (100, none), (101, none), (102, none), (103, none), (104, none), (105, none), (106, none), (107, none), (108, none), (109, none), (110, none), (111, none), (112, none), (113, none), (114, none), (115, none), (116, none), (117, none), (118, none), (119, none), (120, none), (121, none), (122, none), (123, none), (124, none), (125, none), (126, none), (127, none), (128, none), (129, none), (130, none), (131, none), (132, none), (133, none), (134, none), (135, none), (136, none), (137, none), (138, none), (139, none), (140, none), (141, none), (142, none), (143, none), (144, none), (145, none), (146, none), (147, none), (148, none), (149, none), (150, none), (151, none), (152, none), (153, none)], cells := [(5, 2, .int .i64 (.var 23)), (5, 4, .int .i64 (.var 24)), (5, 5, .int .i64 (.var 25)), (5, 6, .int .u64 (.var 26))], meas := .bin .sub .i64 (.var 7) (.var 20), facts := [] }]
def cfg : Cfg := { ok := [3, 4, 5, 6, 7, 8, 9, 10, 11, 12, 13, 14, 15, 16, 17, 18, 19, 20, 21, 22, 23, 24, 25, 26, 27, 28, 29, 30, 31, 32, 33, 34, 35, 36, 37, 38, 39, 40, 41, 42, 43, 44, 45, 46, 47, 48, 49, 50, 51, 52, 53, 54, 55, 56, 57, 58, 59, 60, 61, 62, 63, 64, 65, 66, 67, 68, 69, 70, 71, 72, 73, 74, 75, 76, 77, 78, 79, 80, 81, 82, 83, 84], sums := fun f a m => match spc f a m with | some o => some o | none => sums2 B.cus [(11, Alive.pat), (31, Query.pat), (24, Good.pat), (20, LookR.pat)] f a m, loops := loops }
abbrev F : Nat → List Int → Int := B.F
theorem spc_ok {S : Nat → Prop} {w0 w : World} {bs : List Ent} {ρ : Env} {f : FuncId} {a : List AV} {m mem' : List AObj} {out : Out} {vs : List Value} {v : AV} (hC : ∀ l, ρ.f 200 l = chkF (fun i => ρ.f 0 [i]) l) (ho : spc f a m = some out) (hvs : dvl bs ρ a = some vs)
    (hm : RelM bs ρ S w0 m w) (hp : out.pick ρ = some (v, mem')) : Go.SX.Comes Try.prog S w0 bs ρ f vs w v mem' := by
  unfold spc at ho
  split at ho
  · rename_i hf
    subst hf
    split at ho
    · split at ho
      · rename_i hid
        cases ho
        cases hp
        exact chk_comes hC hid hvs hm
      · cases ho
    · cases ho
  · cases ho
theorem cfg_ok (G : Nat → List Int → Int) (hG : ∀ j, 100 ≤ j → j < 200 → G j = F j) (hC : ∀ l, G 200 l = chkF (fun i => G 0 [i]) l) : CfgOk Try.prog cfg G (fun _ _ => True) :=
  ⟨by kernel_rfl, okB_spec (by kernel_rfl), fun f a m out h S w0 bs ρ w vs v mem' _ hρ hvs hm hp => by
    have h' : (match spc f a m with | some o => some o | none => sums2 B.cus [(11, Alive.pat), (31, Query.pat), (24, Good.pat), (20, LookR.pat)] f a m) = some out := h
    split at h'
    · rename_i o ho
      cases h'
      exact spc_ok (by rw [hρ]; exact hC) ho hvs hm hp
    · exact sums2_sound B.cus_ok (l := [(11, Alive.pat), (31, Query.pat), (24, Good.pat), (20, LookR.pat)]) (fun p hp => by
    simp only [List.mem_cons, List.not_mem_nil, or_false] at hp
    rcases hp with rfl | rfl | rfl | rfl
    · exact Alive.ok
    · exact Query.ok
    · exact Good.ok
    · exact LookR.ok) h' (fun j hj hj2 => by rw [hρ]; exact hG j hj hj2) hvs hm hp⟩
def FR (z : List Int) : Nat → List Int → Int := fun j l => if j = 200 then chkF (fun i => z.getD i.toNat 0) l else B.F j l
theorem FR_low (z : List Int) {j : Nat} (h : j < 200) : FR z j = F j := by
  funext l
  unfold FR
  rw [if_neg (by omega)]
theorem env_chk (vals z : List Int) (rest : List (List Int)) (hr : rest.length < 100 := by simp) : ∀ l, (mkEnv (FR z) vals (z :: rest)).f 200 l = chkF (fun i => (mkEnv (FR z) vals (z :: rest)).f 0 [i]) l := by
  intro l
  have e1 : (mkEnv (FR z) vals (z :: rest)).f 200 l = FR z 200 l := by rw [mkEnv_f (by simp; omega)]
  rw [e1]
  unfold FR
  rw [if_pos rfl]
  rfl
def args : List AV := [.agg (Go.SX.ofList [.arg 0, .int .i64 (.var 2), .int .i64 (.var 3), .int .i64 (.var 4), .int .i64 (.var 5), .int .i64 (.var 6)]), .arg 1]
def mem : List AObj := [.sym (.var 0) (.var 1) [.int .i64 0] 3, .sym (.var 7) (.var 8) [.int .u16 1] 67]
def tree : Tree :=
(.ite (.cmp .neq (.app 200 (.cons (.var 0) (.cons (.var 2) (.cons (.var 3) (.cons (.var 4) (.cons (.var 5) (.cons (.var 6) .nil))))))) (.lit 0))
 (.leaf (.bool (.lit 1)) [])
 (.ite (.cmp .leq (.lit 4) (.var 3))
 (.ite (.cmp .lss (.lit 1024) (.var 3))
 (.leaf (.bool (.lit 1)) [])
 (.ite (.cmp .leq (.lit 4) (.var 4))
 (.ite (.cmp .lss (.lit 1024) (.var 4))
 (.leaf (.bool (.lit 1)) [])
 (.ite (.cmp .lss (.var 4) (.var 3))
 (.leaf (.bool (.lit 1)) [])
 (.ite (.cmp .lss (.lit 50) (.var 7))
 (.leaf (.bool (.lit 1)) [])
 (.ite (.cmp .lss (.lit 50) (.var 0))
 (.leaf (.bool (.lit 1)) [])
 (.loop 5 [(1005, (.bin .sub .i64 (.var 7) (.lit 0))), (20, (.lit 0)), (23, (.lit 0)), (24, (.lit 0)), (25, (.lit 0)), (26, (.lit 0))]
 (.ite (.cmp .lss (.var 20) (.var 7))
 (.need (.cmp .leq (.lit 0) (.var 20)) (.ite (.cmp .lss (.bin .add .i64 (.mn (.var 23) (.lit 4611686018427387903)) (.conv .i64 (.app 1 (.cons (.var 20) .nil)))) (.var 23))
 (.leaf (.bool (.lit 0)) [])
 (.ite (.cmp .leq (.var 23) (.bin .sub .i64 (.mn (.var 23) (.lit 4611686018427387903)) (.lit 1)))
 (.leaf (.bool (.lit 0)) [])
 (.ite (.cmp .lss (.bin .add .i64 (.mn (.var 23) (.lit 4611686018427387903)) (.conv .i64 (.app 1 (.cons (.var 20) .nil)))) (.lit 0))
 (.leaf (.bool (.lit 0)) [])
 (.ite (.cmp .lss (.lit 4611686018427387903) (.bin .add .i64 (.mn (.var 23) (.lit 4611686018427387903)) (.conv .i64 (.app 1 (.cons (.var 20) .nil)))))
 (.leaf (.bool (.lit 0)) [])
 (.ite (.cmp .eql (.conv .u64 (.bin .add .i64 (.var 20) (.lit 1))) (.lit 0))
 (.leaf (.bool (.lit 0)) [])
 (.ite (.cmp .neq (.mn (.bin .add .i64 (.bin .add .i64 (.bin .add .i64 (.mn (.var 23) (.lit 4611686018427387903)) (.conv .i64 (.app 1 (.cons (.var 20) .nil)))) (.bin .mul .i64 (.var 5) (.lit 1000000))) (.lit 1)) (.lit 4611686018427387903)) (.bin .add .i64 (.bin .add .i64 (.bin .add .i64 (.mn (.var 23) (.lit 4611686018427387903)) (.conv .i64 (.app 1 (.cons (.var 20) .nil)))) (.bin .mul .i64 (.var 5) (.lit 1000000))) (.lit 1)))
 (.leaf (.bool (.lit 0)) [])
 (.ite (.cmp .neq (.mx (.lit 0) (.app 123 (.cons (.app 123 (.cons (.bin .add .i64 (.bin .add .i64 (.mn (.var 23) (.lit 4611686018427387903)) (.conv .i64 (.app 1 (.cons (.var 20) .nil)))) (.bin .mul .i64 (.var 5) (.lit 1000000))) (.cons (.bin .add .i64 (.mn (.var 23) (.lit 4611686018427387903)) (.conv .i64 (.app 1 (.cons (.var 20) .nil)))) .nil))) (.cons (.app 122 (.cons (.lit 5) (.cons (.lit 5) .nil))) .nil)))) (.bin .mul .i64 (.var 5) (.lit 1000000)))
 (.leaf (.bool (.lit 0)) [])
 (.ite (.cmp .neq (.mn (.bin .add .i64 (.bin .add .i64 (.mn (.var 23) (.lit 4611686018427387903)) (.conv .i64 (.app 1 (.cons (.var 20) .nil)))) (.bin .mul .i64 (.var 3) (.lit 1000000000))) (.lit 4611686018427387903)) (.bin .add .i64 (.bin .add .i64 (.mn (.var 23) (.lit 4611686018427387903)) (.conv .i64 (.app 1 (.cons (.var 20) .nil)))) (.bin .mul .i64 (.var 3) (.lit 1000000000))))
 (.leaf (.bool (.lit 0)) [])
 (.again 5 [(1005, (.bin .sub .i64 (.var 7) (.bin .add .i64 (.var 20) (.lit 1)))), (20, (.bin .add .i64 (.var 20) (.lit 1))), (23, (.bin .add .i64 (.bin .add .i64 (.mn (.var 23) (.lit 4611686018427387903)) (.conv .i64 (.app 1 (.cons (.var 20) .nil)))) (.bin .mul .i64 (.var 3) (.lit 1000000000)))), (24, (.bin .add .i64 (.mn (.var 23) (.lit 4611686018427387903)) (.conv .i64 (.app 1 (.cons (.var 20) .nil))))), (25, (.bin .add .i64 (.mn (.var 23) (.lit 4611686018427387903)) (.conv .i64 (.app 1 (.cons (.var 20) .nil))))), (26, (.conv .u64 (.bin .add .i64 (.var 20) (.lit 1))))]))))))))))
 (.leaf (.bool (.lit 1)) [])))))))
 (.leaf (.bool (.lit 1)) [])))
 (.leaf (.bool (.lit 1)) [])))
set_option maxHeartbeats 40000000 in
theorem tree_eq : callT Try.prog cfg 100000 0 8 args mem [] = tree := by kernel_rfl
def Inv : Nat → Env → Prop := fun _ ρ => (0 ≤ ρ.v 7 ∧ ρ.v 7 ≤ 50) ∧ (4 ≤ ρ.v 3 ∧ ρ.v 3 ≤ 1024) ∧ (1 ≤ ρ.v 5 ∧ ρ.v 5 ≤ 1022000) ∧ (0 ≤ ρ.v 20 ∧ ρ.v 20 ≤ ρ.v 7) ∧ (0 ≤ ρ.v 23 ∧ ρ.v 23 ≤ ρ.v 20 * 1025000000000) ∧ (∀ i : Int, 0 ≤ i → i < ρ.v 7 → inR .u16 (ρ.f 1 [i]) = true) ∧ ρ.v 1005 = ρ.v 7 - ρ.v 20
theorem mnMax (ρ : Env) (e : SE) (h : den ρ e ≤ 4611686018427387903) : den ρ (.mn e (.lit 4611686018427387903)) = den ρ e := by
  show (if (4611686018427387903 : Int) < den ρ e then 4611686018427387903 else den ρ e) = _
  rw [if_neg (by omega)]
theorem tree_holds (ρ : Env) (h0 : 0 ≤ ρ.v 0) (h1 : ρ.v 0 ≤ ρ.v 1) (_ : ∀ i : Int, 0 ≤ i → i < ρ.v 0 → inR .i64 (ρ.f 0 [i]) = true) (h2 : inR .i64 (ρ.v 2) = true) (h3 : inR .i64 (ρ.v 3) = true) (h4 : inR .i64 (ρ.v 4) = true) (h5 : inR .i64 (ρ.v 5) = true) (h6 : inR .i64 (ρ.v 6) = true)
    (h7 : 0 ≤ ρ.v 7) (_ : ρ.v 7 ≤ ρ.v 8) (_ : ρ.v 7 * 2 ≤ 140737488351232) (h8 : ∀ i : Int, 0 ≤ i → i < ρ.v 7 → inR .u16 (ρ.f 1 [i]) = true) (hf : ∀ j, 100 ≤ j → j < 200 → ρ.f j = F j) (hC : ∀ l, ρ.f 200 l = chkF (fun i => ρ.f 0 [i]) l) : tree.holds Inv saysTrue ρ := by
  have l1 : ∀ {ρ : Env} {m : List AObj}, (Tree.leaf (.bool (.lit 1)) m).holds Inv saysTrue ρ := says1
  unfold tree
  refine ⟨fun _ => l1, fun g => ?_⟩
  rw [ev_neq'] at g
  simp only [den, dens] at g
  rw [hC] at g
  have k := (chkF_spec (fun i => ρ.f 0 [i]) (ρ.v 0) (ρ.v 2) (ρ.v 3) (ρ.v 4) (ρ.v 5) (ρ.v 6) h0).2.2 g
  unfold CfgIn at k
  clear g hC
  refine ⟨fun _ => ⟨fun _ => l1, fun _ => ⟨fun _ => ⟨fun _ => l1, fun _ => ⟨fun _ => l1, fun _ => ⟨fun _ => l1, fun hn => ⟨fun _ => l1, fun _ => ⟨?_, fun ρ' hf' hI => ?_⟩⟩⟩⟩⟩, fun _ => l1⟩⟩, fun _ => l1⟩
  · rw [ev_lss'] at hn
    simp only [den] at hn
    refine ⟨⟨h7, hn⟩, ?_, ?_, ?_, ?_, h8, ?_⟩
    · show 4 ≤ ρ.v 3 ∧ ρ.v 3 ≤ 1024; omega
    · show 1 ≤ ρ.v 5 ∧ ρ.v 5 ≤ 1022000; omega
    · show 0 ≤ (0 : Int) ∧ (0 : Int) ≤ ρ.v 7; omega
    · show 0 ≤ (0 : Int) ∧ (0 : Int) ≤ 0 * 1025000000000; omega
    · show binI .sub .i64 (ρ.v 7) 0 = ρ.v 7 - 0; exact sub_i64 (by omega) (by omega)
  · obtain ⟨i7, i3, i5, i20, i23, i8, im⟩ := hI
    have dB : ∀ op k a b, den ρ' (.bin op k a b) = binI op k (den ρ' a) (den ρ' b) := fun _ _ _ _ => rfl
    have dC : ∀ k a, den ρ' (.conv k a) = k.wrap (den ρ' a) := fun _ _ => rfl
    have dL : ∀ n, den ρ' (.lit n) = n := fun _ => rfl
    have dV : ∀ n, den ρ' (.var n) = ρ'.v n := fun _ => rfl
    have dA : den ρ' (.app 1 (.cons (.var 20) .nil)) = ρ'.f 1 [ρ'.v 20] := rfl
    have m0 : den ρ' (.mn (.var 23) (.lit 4611686018427387903)) = ρ'.v 23 := mnMax ρ' (.var 23) (by rw [dV]; omega)
    refine ⟨fun c => ?_, fun _ => l1⟩
    rw [ev_lss] at c
    simp only [dV] at c
    have bw := u16_in (i8 (ρ'.v 20) i20.1 c)
    generalize hwv : ρ'.f 1 [ρ'.v 20] = W at *
    have aw : IntKind.i64.wrap W = W := wrap_i64 (by omega) (by omega)
    have a0 : binI .add .i64 (ρ'.v 23) W = ρ'.v 23 + W := add_i64 (by omega) (by omega)
    have a1 : binI .mul .i64 (ρ'.v 5) 1000000 = ρ'.v 5 * 1000000 := mul_i64 (by omega) (by omega)
    have a2 : binI .add .i64 (ρ'.v 23 + W) (ρ'.v 5 * 1000000) = ρ'.v 23 + W + ρ'.v 5 * 1000000 := add_i64 (by omega) (by omega)
    have a3 : binI .add .i64 (ρ'.v 23 + W + ρ'.v 5 * 1000000) 1 = ρ'.v 23 + W + ρ'.v 5 * 1000000 + 1 := add_i64 (by omega) (by omega)
    have a4 : binI .mul .i64 (ρ'.v 3) 1000000000 = ρ'.v 3 * 1000000000 := mul_i64 (by omega) (by omega)
    have a5 : binI .add .i64 (ρ'.v 23 + W) (ρ'.v 3 * 1000000000) = ρ'.v 23 + W + ρ'.v 3 * 1000000000 := add_i64 (by omega) (by omega)
    have a6 : binI .sub .i64 (ρ'.v 23) 1 = ρ'.v 23 - 1 := sub_i64 (by omega) (by omega)
    have a7 : binI .add .i64 (ρ'.v 20) 1 = ρ'.v 20 + 1 := add_i64 (by omega) (by omega)
    have a8 : IntKind.u64.wrap (ρ'.v 20 + 1) = ρ'.v 20 + 1 := by rw [u64_wrap]; omega
    have e122 : ρ'.f 122 [5, 5] = 0 := by rw [hf', hf 122 (by omega) (by omega)]; exact df_self 5
    have e123 : ∀ a b, ρ'.f 123 [a, b] = clamp (a - b) := fun a b => by rw [hf', hf 123 (by omega) (by omega)]; rfl
    refine ⟨by rw [ev_leq]; simp only [dL, dV]; omega, fun h => ?_, fun _ => ⟨fun h => ?_, fun _ => ⟨fun h => ?_, fun _ => ⟨fun h => ?_, fun _ => ⟨fun h => ?_, fun _ => ⟨fun h => ?_, fun _ => ⟨fun h => ?_, fun _ => ⟨fun h => ?_, fun _ => ⟨?_, ?_⟩⟩⟩⟩⟩⟩⟩⟩⟩
    · exfalso; rw [ev_lss] at h; simp only [dB, dC, m0, dA, hwv, dV, aw, a0] at h; omega
    · exfalso; rw [ev_leq] at h; simp only [dB, m0, dV, dL, a6] at h; omega
    · exfalso; rw [ev_lss] at h; simp only [dB, dC, m0, dA, hwv, dV, dL, aw, a0] at h; omega
    · exfalso; rw [ev_lss] at h; simp only [dB, dC, m0, dA, hwv, dV, dL, aw, a0] at h; omega
    · exfalso; rw [ev_eql] at h; simp only [dB, dC, dV, dL, a7, a8] at h; omega
    · exfalso; rw [ev_neq] at h; apply h
      rw [mnMax ρ' _ (by simp only [dB, dC, m0, dA, hwv, dV, dL, aw, a0, a1, a2, a3]; omega)]
    · exfalso; rw [ev_neq] at h; apply h
      show (if ρ'.f 123 [ρ'.f 123 [den ρ' (.bin .add .i64 (.bin .add .i64 (.mn (.var 23) (.lit 4611686018427387903)) (.conv .i64 (.app 1 (.cons (.var 20) .nil)))) (.bin .mul .i64 (.var 5) (.lit 1000000))), den ρ' (.bin .add .i64 (.mn (.var 23) (.lit 4611686018427387903)) (.conv .i64 (.app 1 (.cons (.var 20) .nil))))], ρ'.f 122 [5, 5]] > 0 then
        ρ'.f 123 [ρ'.f 123 [den ρ' (.bin .add .i64 (.bin .add .i64 (.mn (.var 23) (.lit 4611686018427387903)) (.conv .i64 (.app 1 (.cons (.var 20) .nil)))) (.bin .mul .i64 (.var 5) (.lit 1000000))), den ρ' (.bin .add .i64 (.mn (.var 23) (.lit 4611686018427387903)) (.conv .i64 (.app 1 (.cons (.var 20) .nil))))], ρ'.f 122 [5, 5]] else 0) = den ρ' (.bin .mul .i64 (.var 5) (.lit 1000000))
      simp only [dB, dC, m0, dA, hwv, dV, dL, aw, a0, a1, a2, e122, e123]
      rw [clamp_id (n := ρ'.v 23 + W + ρ'.v 5 * 1000000 - (ρ'.v 23 + W)) (by unfold I64; omega), clamp_id (by unfold I64; omega)]
      split <;> omega
    · exfalso; rw [ev_neq] at h; apply h
      rw [mnMax ρ' _ (by simp only [dB, dC, m0, dA, hwv, dV, dL, aw, a0, a4, a5]; omega)]
    · refine ⟨i7, i3, i5, ?_, ?_, i8, ?_⟩
      · show 0 ≤ binI .add .i64 (ρ'.v 20) 1 ∧ binI .add .i64 (ρ'.v 20) 1 ≤ ρ'.v 7
        rw [a7]; omega
      · show 0 ≤ den ρ' (.bin .add .i64 (.bin .add .i64 (.mn (.var 23) (.lit 4611686018427387903)) (.conv .i64 (.app 1 (.cons (.var 20) .nil)))) (.bin .mul .i64 (.var 3) (.lit 1000000000))) ∧
          den ρ' (.bin .add .i64 (.bin .add .i64 (.mn (.var 23) (.lit 4611686018427387903)) (.conv .i64 (.app 1 (.cons (.var 20) .nil)))) (.bin .mul .i64 (.var 3) (.lit 1000000000))) ≤ binI .add .i64 (ρ'.v 20) 1 * 1025000000000
        simp only [dB, dC, m0, dA, hwv, dV, dL, aw, a0, a4, a5, a7]
        omega
      · show binI .sub .i64 (ρ'.v 7) (binI .add .i64 (ρ'.v 20) 1) = ρ'.v 7 - binI .add .i64 (ρ'.v 20) 1
        rw [a7]; exact sub_i64 (by omega) (by omega)
    · show (binI .sub .i64 (ρ'.v 7) (binI .add .i64 (ρ'.v 20) 1)).toNat < (ρ'.v 1005).toNat
      rw [a7, sub_i64 (by omega) (by omega), im]
      omega
end Go.Proofs.Ytableianhaojcaa.TPeerGoes
