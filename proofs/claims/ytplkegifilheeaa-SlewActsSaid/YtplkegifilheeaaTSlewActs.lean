/- The tree of the law SlewActs, and that all its ends say true. No conditions. -/
import Derived.Test.YtplkegifilheeaaSX3
import Derived.Test.YtplkegifilheeaaProg
import Derived.KernelRfl
import Derived.Test.YtplkegifilheeaaCAdj
import Derived.Test.YtplkegifilheeaaCAlive
import Derived.Test.YtplkegifilheeaaCLeft
import Derived.Test.YtplkegifilheeaaCRAdj
import Derived.Test.YtplkegifilheeaaCRAt
import Derived.Test.YtplkegifilheeaaCRead
import Derived.Test.YtplkegifilheeaaCSlewed
import Derived.Test.YtplkegifilheeaaB
namespace Go.Proofs.Ytplkegifilheeaa.TSlewActs
open Go Go.SX Go.Proofs.Ytplkegifilheeaa Go.Proofs.Ytplkegifilheeaa.L Go.RowKit Go.Proofs.YtplkegifilheeaaW.PrintWords
set_option maxRecDepth 100000
set_option linter.unusedVariables false
set_option linter.unusedSimpArgs false


def loops : List LoopSpec := [{ key := 8, slots := [(61, some (.int .i64 (.var 20))), (12, none), (13, none), (14, none), (15, none), (16, none), (17, none), (18, none), (19, none), (20, none), (21, none), (22, none), (62, none), (63, none), (64, none), (65, none), (66, none), (67, none), (68, none), (69, none), (70, none), (71, none), (72, none), (73, none), (74, none), (75, none), (76, none), (77, none), (78, none), (79, none), (80, none), (81, none), (82, none), (83, none), (84, none), (85, none), (86, none), (87, none), (88, none), (89, none), (90, none), (91, none), (92, none), (93, none), (94, none), (95, none), (96, none), (97, none), (98, none), (99, none), (100, none), (101, none), (102, none), (103, none), (104, none), (105, none), (106, none), (107, none), (108, none), (109, none), (110, none), (111, none), (112, none), (113, none), (114, none), (115, none), (116, none), (117, none), (118, none), (119, none), (120, none), (121, none), (122, none), (123, none), (124, none), (125, none), (126, none), (127, none), (128, none), (129, none), (130, none), (131, none), (132, none), (133, none), (134, none), (135, none), (136, none), (137, none), (138, none), (139, none), (140, none), (141, none), (142, none), (143, none), (144, none), (145, none), (146, none), (147, none), (148, none)], cells := [(2, 0, .int .i64 (.var 21)), (2, 1, .int .i64 (.var 22)), (2, 2, .int .i64 (.var 23)), (2, 3, .int .i64 (.var 24)), (3, 1, .int .i64 (.var 21)), (3, 2, .int .i64 (.var 22)), (3, 3, .int .i64 (.var 23)), (3, 4, .int .i64 (.var 24))], meas := .bin .sub .i64 (.var 3) (.var 20), facts := [] }]
def cfg : Cfg := { ok := [3, 4, 5, 6, 7, 8, 9, 10, 11, 12, 13, 14, 15, 16, 17, 18, 19, 20, 21, 22, 23, 24, 25, 26, 27, 28, 29, 30, 31, 32, 33, 34, 35, 36, 37, 38], sums := sums2 B.cus [(12, Alive.pat), (13, Adj.pat), (15, Read.pat), (14, Left.pat), (16, Slewed.pat), (21, RAt.pat), (20, RAdj.pat)], loops := loops, hints := [(11, [2, 3])], writers := [(11, [5, 11])] }
abbrev F : Nat → List Int → Int := B.F
theorem cfg_ok (G : Nat → List Int → Int) (hG : ∀ j, 100 ≤ j → j < 200 → G j = B.F j) : CfgOk Try.prog cfg G (fun _ _ => True) :=
  ⟨by kernel_rfl, okB_spec (by kernel_rfl), fun f a m out h S w0 bs ρ w vs v mem' _ hρ hvs hm hp => sums2_sound B.cus_ok (l := [(12, Alive.pat), (13, Adj.pat), (15, Read.pat), (14, Left.pat), (16, Slewed.pat), (21, RAt.pat), (20, RAdj.pat)]) (fun p hp => by
    simp only [List.mem_cons, List.not_mem_nil, or_false] at hp
    rcases hp with rfl | rfl | rfl | rfl | rfl | rfl | rfl
    · exact Alive.ok
    · exact Adj.ok
    · exact Read.ok
    · exact Left.ok
    · exact Slewed.ok
    · exact RAt.ok
    · exact RAdj.ok) h (fun j hj hj2 => by rw [hρ]; exact hG j hj hj2) hvs hm hp⟩
def args : List AV := [.agg (Go.SX.ofList [.int .i64 (.var 0), .int .i64 (.var 1)]), .int .i64 (.var 2), .arg 0]
def mem : List AObj := [.sym (.var 3) (.var 4) [(.int .i64 0), (.int .i64 1), (.int .i64 2)] 50]
def tree : Tree :=
(.ite (.cmp .lss (.var 0) (.lit 0))
 (.leaf (.bool (.lit 1)) [])
 (.ite (.cmp .lss (.lit 4611686018427387903) (.var 0))
 (.leaf (.bool (.lit 1)) [])
 (.ite (.cmp .lss (.var 1) (.lit (-2305843009213693952)))
 (.leaf (.bool (.lit 1)) [])
 (.ite (.cmp .lss (.lit 2305843009213693952) (.var 1))
 (.leaf (.bool (.lit 1)) [])
 (.ite (.cmp .lss (.var 2) (.lit 1))
 (.leaf (.bool (.lit 1)) [])
 (.ite (.cmp .lss (.lit 500) (.var 2))
 (.leaf (.bool (.lit 1)) [])
 (.ite (.cmp .lss (.lit 300) (.var 3))
 (.leaf (.bool (.lit 1)) [])
 (.loop 8 [(1008, (.bin .sub .i64 (.var 3) (.lit 0))), (20, (.lit 0)), (21, (.var 0)), (22, (.var 1)), (23, (.lit 0)), (24, (.lit 0)), (21, (.var 0)), (22, (.var 1)), (23, (.lit 0)), (24, (.lit 0))]
 (.ite (.cmp .lss (.var 20) (.var 3))
 (.need (.cmp .leq (.lit 0) (.var 20)) (.ite (.cmp .eql (.app 0 (.cons (.var 20) .nil)) (.lit 1))
 (.ite (.cmp .lss (.lit 4611686018427387903) (.app 1 (.cons (.var 20) .nil)))
 (.need (.cmp .leq (.lit 0) (.var 21)) (.need (.cmp .leq (.lit 1) (.var 2)) (.need (.cmp .leq (.var 2) (.lit 500)) (.need (.cmp .leq (.lit (-2305843009213693952)) (.var 23)) (.need (.cmp .leq (.var 23) (.lit 2305843009213693952)) (.again 8 [(1008, (.bin .sub .i64 (.var 3) (.bin .add .i64 (.var 20) (.lit 1)))), (20, (.bin .add .i64 (.var 20) (.lit 1))), (21, (.var 21)), (22, (.var 22)), (23, (.var 23)), (24, (.var 24)), (21, (.var 21)), (22, (.var 22)), (23, (.var 23)), (24, (.var 24))]))))))
 (.ite (.cmp .lss (.app 1 (.cons (.var 20) .nil)) (.var 21))
 (.need (.cmp .leq (.lit 0) (.var 21)) (.need (.cmp .leq (.lit 1) (.var 2)) (.need (.cmp .leq (.var 2) (.lit 500)) (.need (.cmp .leq (.lit (-2305843009213693952)) (.var 23)) (.need (.cmp .leq (.var 23) (.lit 2305843009213693952)) (.again 8 [(1008, (.bin .sub .i64 (.var 3) (.bin .add .i64 (.var 20) (.lit 1)))), (20, (.bin .add .i64 (.var 20) (.lit 1))), (21, (.var 21)), (22, (.var 22)), (23, (.var 23)), (24, (.var 24)), (21, (.var 21)), (22, (.var 22)), (23, (.var 23)), (24, (.var 24))]))))))
 (.need (.cmp .leq (.lit 0) (.var 21)) (.need (.cmp .leq (.lit 1) (.var 2)) (.need (.cmp .leq (.var 2) (.lit 500)) (.need (.cmp .leq (.lit (-2305843009213693952)) (.var 23)) (.need (.cmp .leq (.var 23) (.lit 2305843009213693952)) (.need (.cmp .leq (.lit 0) (.app 1 (.cons (.var 20) .nil))) (.need (.cmp .leq (.lit (-2305843009213693952)) (.app 106 (.cons (.app 2 (.cons (.var 20) .nil)) (.cons (.lit (-2305843009213693952)) (.cons (.lit 2305843009213693952) .nil))))) (.need (.cmp .leq (.app 106 (.cons (.app 2 (.cons (.var 20) .nil)) (.cons (.lit (-2305843009213693952)) (.cons (.lit 2305843009213693952) .nil)))) (.lit 2305843009213693952)) (.again 8 [(1008, (.bin .sub .i64 (.var 3) (.bin .add .i64 (.var 20) (.lit 1)))), (20, (.bin .add .i64 (.var 20) (.lit 1))), (21, (.app 1 (.cons (.var 20) .nil))), (22, (.bin .add .i64 (.bin .add .i64 (.var 22) (.bin .sub .i64 (.app 1 (.cons (.var 20) .nil)) (.var 21))) (.app 106 (.cons (.var 23) (.cons (.bin .sub .i64 (.lit 0) (.app 104 (.cons (.bin .sub .i64 (.app 1 (.cons (.var 20) .nil)) (.var 21)) (.cons (.var 2) (.cons (.lit 1000000) .nil))))) (.cons (.app 104 (.cons (.bin .sub .i64 (.app 1 (.cons (.var 20) .nil)) (.var 21)) (.cons (.var 2) (.cons (.lit 1000000) .nil)))) .nil)))))), (23, (.app 106 (.cons (.app 2 (.cons (.var 20) .nil)) (.cons (.lit (-2305843009213693952)) (.cons (.lit 2305843009213693952) .nil))))), (24, (.bin .add .i64 (.var 24) (.app 106 (.cons (.var 23) (.cons (.bin .sub .i64 (.lit 0) (.app 104 (.cons (.bin .sub .i64 (.app 1 (.cons (.var 20) .nil)) (.var 21)) (.cons (.var 2) (.cons (.lit 1000000) .nil))))) (.cons (.app 104 (.cons (.bin .sub .i64 (.app 1 (.cons (.var 20) .nil)) (.var 21)) (.cons (.var 2) (.cons (.lit 1000000) .nil)))) .nil)))))), (21, (.app 1 (.cons (.var 20) .nil))), (22, (.bin .add .i64 (.bin .add .i64 (.var 22) (.bin .sub .i64 (.app 1 (.cons (.var 20) .nil)) (.var 21))) (.app 106 (.cons (.var 23) (.cons (.bin .sub .i64 (.lit 0) (.app 104 (.cons (.bin .sub .i64 (.app 1 (.cons (.var 20) .nil)) (.var 21)) (.cons (.var 2) (.cons (.lit 1000000) .nil))))) (.cons (.app 104 (.cons (.bin .sub .i64 (.app 1 (.cons (.var 20) .nil)) (.var 21)) (.cons (.var 2) (.cons (.lit 1000000) .nil)))) .nil)))))), (23, (.app 106 (.cons (.app 2 (.cons (.var 20) .nil)) (.cons (.lit (-2305843009213693952)) (.cons (.lit 2305843009213693952) .nil))))), (24, (.bin .add .i64 (.var 24) (.app 106 (.cons (.var 23) (.cons (.bin .sub .i64 (.lit 0) (.app 104 (.cons (.bin .sub .i64 (.app 1 (.cons (.var 20) .nil)) (.var 21)) (.cons (.var 2) (.cons (.lit 1000000) .nil))))) (.cons (.app 104 (.cons (.bin .sub .i64 (.app 1 (.cons (.var 20) .nil)) (.var 21)) (.cons (.var 2) (.cons (.lit 1000000) .nil)))) .nil))))))])))))))))))
 (.ite (.cmp .lss (.lit 4611686018427387903) (.app 1 (.cons (.var 20) .nil)))
 (.need (.cmp .leq (.lit 0) (.var 21)) (.need (.cmp .leq (.lit 1) (.var 2)) (.need (.cmp .leq (.var 2) (.lit 500)) (.need (.cmp .leq (.lit (-2305843009213693952)) (.var 23)) (.need (.cmp .leq (.var 23) (.lit 2305843009213693952)) (.again 8 [(1008, (.bin .sub .i64 (.var 3) (.bin .add .i64 (.var 20) (.lit 1)))), (20, (.bin .add .i64 (.var 20) (.lit 1))), (21, (.var 21)), (22, (.var 22)), (23, (.var 23)), (24, (.var 24)), (21, (.var 21)), (22, (.var 22)), (23, (.var 23)), (24, (.var 24))]))))))
 (.ite (.cmp .lss (.app 1 (.cons (.var 20) .nil)) (.var 21))
 (.need (.cmp .leq (.lit 0) (.var 21)) (.need (.cmp .leq (.lit 1) (.var 2)) (.need (.cmp .leq (.var 2) (.lit 500)) (.need (.cmp .leq (.lit (-2305843009213693952)) (.var 23)) (.need (.cmp .leq (.var 23) (.lit 2305843009213693952)) (.again 8 [(1008, (.bin .sub .i64 (.var 3) (.bin .add .i64 (.var 20) (.lit 1)))), (20, (.bin .add .i64 (.var 20) (.lit 1))), (21, (.var 21)), (22, (.var 22)), (23, (.var 23)), (24, (.var 24)), (21, (.var 21)), (22, (.var 22)), (23, (.var 23)), (24, (.var 24))]))))))
 (.need (.cmp .leq (.lit 0) (.var 21)) (.need (.cmp .leq (.lit 1) (.var 2)) (.need (.cmp .leq (.var 2) (.lit 500)) (.need (.cmp .leq (.lit (-2305843009213693952)) (.var 23)) (.need (.cmp .leq (.var 23) (.lit 2305843009213693952)) (.again 8 [(1008, (.bin .sub .i64 (.var 3) (.bin .add .i64 (.var 20) (.lit 1)))), (20, (.bin .add .i64 (.var 20) (.lit 1))), (21, (.var 21)), (22, (.var 22)), (23, (.var 23)), (24, (.var 24)), (21, (.var 21)), (22, (.var 22)), (23, (.var 23)), (24, (.var 24))]))))))))))
 (.leaf (.bool (.lit 1)) []))))))))))
set_option maxHeartbeats 40000000 in
theorem tree_eq : callT Try.prog cfg 100000 0 7 args mem [] = tree := by kernel_rfl
def Inv : Nat → Env → Prop := fun _ ρ => (0 ≤ ρ.v 20 ∧ ρ.v 20 ≤ ρ.v 3 ∧ ρ.v 3 ≤ 300) ∧ (1 ≤ ρ.v 2 ∧ ρ.v 2 ≤ 500) ∧ (0 ≤ ρ.v 21 ∧ ρ.v 21 ≤ 4611686018427387903) ∧ (-2305843009213693952 ≤ ρ.v 23 ∧ ρ.v 23 ≤ 2305843009213693952) ∧ ρ.v 1008 = ρ.v 3 - ρ.v 20
theorem clp_b (a : Int) : -2305843009213693952 ≤ B.clp a (-2305843009213693952) 2305843009213693952 ∧ B.clp a (-2305843009213693952) 2305843009213693952 ≤ 2305843009213693952 := by unfold B.clp; split <;> (try split) <;> omega
theorem again_ok {ρ' : Env} (hI : Inv 8 ρ') (hlt : ρ'.v 20 < ρ'.v 3) {e c d b : SE} (he : 0 ≤ den ρ' e ∧ den ρ' e ≤ 4611686018427387903) (hd : -2305843009213693952 ≤ den ρ' d ∧ den ρ' d ≤ 2305843009213693952) :
    (Tree.again 8 [(1008, (.bin .sub .i64 (.var 3) (.bin .add .i64 (.var 20) (.lit 1)))), (20, (.bin .add .i64 (.var 20) (.lit 1))), (21, e), (22, c), (23, d), (24, b), (21, e), (22, c), (23, d), (24, b)]).holds Inv saysTrue ρ' := by
  obtain ⟨i20, i2, i21, i23, im⟩ := hI
  have a7 : binI .add .i64 (ρ'.v 20) 1 = ρ'.v 20 + 1 := add_i64 (by omega) (by omega)
  refine ⟨⟨?_, i2, he, hd, ?_⟩, ?_⟩
  · show 0 ≤ binI .add .i64 (ρ'.v 20) 1 ∧ binI .add .i64 (ρ'.v 20) 1 ≤ ρ'.v 3 ∧ ρ'.v 3 ≤ 300
    rw [a7]; omega
  · show binI .sub .i64 (ρ'.v 3) (binI .add .i64 (ρ'.v 20) 1) = ρ'.v 3 - binI .add .i64 (ρ'.v 20) 1
    rw [a7]; exact sub_i64 (by omega) (by omega)
  · show (binI .sub .i64 (ρ'.v 3) (binI .add .i64 (ρ'.v 20) 1)).toNat < (ρ'.v 1008).toNat
    rw [a7, sub_i64 (by omega) (by omega), im]
    omega
theorem tree_holds (ρ : Env) (h0 : inR .i64 (ρ.v 0) = true) (h1 : inR .i64 (ρ.v 1) = true) (h2 : inR .i64 (ρ.v 2) = true) (h3 : 0 ≤ ρ.v 3) (h4 : ρ.v 3 ≤ ρ.v 4) (_ : ∀ i : Int, 0 ≤ i → i < ρ.v 3 → inR .i64 (ρ.f 0 [i]) = true) (_ : ∀ i : Int, 0 ≤ i → i < ρ.v 3 → inR .i64 (ρ.f 1 [i]) = true) (_ : ∀ i : Int, 0 ≤ i → i < ρ.v 3 → inR .i64 (ρ.f 2 [i]) = true)
    (hf : ∀ j, 100 ≤ j → j < 200 → ρ.f j = F j) : tree.holds Inv saysTrue ρ := by
  have l1 : ∀ {ρ : Env} {m : List AObj}, (Tree.leaf (.bool (.lit 1)) m).holds Inv saysTrue ρ := says1
  unfold tree
  refine ⟨fun _ => l1, fun n1 => ⟨fun _ => l1, fun n2 => ⟨fun _ => l1, fun n3 => ⟨fun _ => l1, fun n4 => ⟨fun _ => l1, fun n5 => ⟨fun _ => l1, fun n6 => ⟨fun _ => l1, fun n7 => ⟨?_, fun ρ' hf' hI => ?_⟩⟩⟩⟩⟩⟩⟩⟩
  · rw [ev_lss'] at n1 n2 n3 n4 n5 n6 n7
    simp only [den] at n1 n2 n3 n4 n5 n6 n7
    refine ⟨?_, ?_, ?_, ?_, ?_⟩
    · show 0 ≤ (0 : Int) ∧ (0 : Int) ≤ ρ.v 3 ∧ ρ.v 3 ≤ 300; omega
    · show 1 ≤ ρ.v 2 ∧ ρ.v 2 ≤ 500; omega
    · show 0 ≤ ρ.v 0 ∧ ρ.v 0 ≤ 4611686018427387903; omega
    · show -2305843009213693952 ≤ (0 : Int) ∧ (0 : Int) ≤ 2305843009213693952; omega
    · show binI .sub .i64 (ρ.v 3) 0 = ρ.v 3 - 0; exact sub_i64 (by omega) (by omega)
  · have hI0 := hI
    obtain ⟨i20, i2, i21, i23, im⟩ := hI
    have q1 : evB ρ' (.cmp .leq (.lit 0) (.var 21)) = true := by rw [ev_leq]; simp only [den]; omega
    have q2 : evB ρ' (.cmp .leq (.lit 1) (.var 2)) = true := by rw [ev_leq]; simp only [den]; omega
    have q3 : evB ρ' (.cmp .leq (.var 2) (.lit 500)) = true := by rw [ev_leq]; simp only [den]; omega
    have q4 : evB ρ' (.cmp .leq (.lit (-2305843009213693952)) (.var 23)) = true := by rw [ev_leq]; simp only [den]; omega
    have q5 : evB ρ' (.cmp .leq (.var 23) (.lit 2305843009213693952)) = true := by rw [ev_leq]; simp only [den]; omega
    have e0 : ∀ a b c : Int, ρ'.f 106 [a, b, c] = B.clp a b c := fun a b c => by rw [hf', hf 106 (by omega) (by omega)]; rfl
    have e106 : den ρ' (.app 106 (.cons (.app 2 (.cons (.var 20) .nil)) (.cons (.lit (-2305843009213693952)) (.cons (.lit 2305843009213693952) .nil)))) = B.clp (ρ'.f 2 [ρ'.v 20]) (-2305843009213693952) 2305843009213693952 := by
      simp only [den, dens, e0]
    refine ⟨fun c => ⟨by rw [ev_leq]; simp only [den]; omega, ?_⟩, fun _ => l1⟩
    rw [ev_lss] at c
    simp only [den] at c
    refine ⟨fun _ => ⟨fun _ => ⟨q1, q2, q3, q4, q5, again_ok hI0 c i21 i23⟩, fun a1 => ⟨fun _ => ⟨q1, q2, q3, q4, q5, again_ok hI0 c i21 i23⟩, fun a2 => ⟨q1, q2, q3, q4, q5, ?_, ?_, ?_, again_ok hI0 c ?_ ?_⟩⟩⟩, fun _ => ⟨fun _ => ⟨q1, q2, q3, q4, q5, again_ok hI0 c i21 i23⟩, fun a1 => ⟨fun _ => ⟨q1, q2, q3, q4, q5, again_ok hI0 c i21 i23⟩, fun a2 => ⟨q1, q2, q3, q4, q5, again_ok hI0 c i21 i23⟩⟩⟩⟩
    all_goals (rw [ev_lss'] at a1 a2; simp only [den, dens] at a1 a2)
    · rw [ev_leq]; simp only [den, dens]; omega
    · rw [ev_leq, e106]; exact (clp_b _).1
    · rw [ev_leq, e106]; exact (clp_b _).2
    · simp only [den, dens]; omega
    · rw [e106]; exact clp_b _
end Go.Proofs.Ytplkegifilheeaa.TSlewActs
