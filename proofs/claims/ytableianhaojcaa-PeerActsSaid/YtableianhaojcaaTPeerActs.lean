/- The tree of the law PeerActs, and that all its ends say true. No conditions. -/
import Derived.Test.YtableianhaojcaaSX3
import Derived.Test.YtableianhaojcaaProg
import Derived.KernelRfl
import Derived.Test.YtableianhaojcaaCAlive
import Derived.Test.YtableianhaojcaaCP1
import Derived.Test.YtableianhaojcaaCP3
import Derived.Test.YtableianhaojcaaCP4
import Derived.Test.YtableianhaojcaaCP5
import Derived.Test.YtableianhaojcaaB
import Derived.Test.YtableianhaojcaaLCg
import Derived.Test.YtableianhaojcaaSXo
import Derived.Test.YtableianhaojcaaLLk
namespace Go.Proofs.Ytableianhaojcaa.TPeerActs
open Go Go.SX Go.Proofs.Ytableianhaojcaa Go.Proofs.Ytableianhaojcaa.L Go.RowKit Go.Proofs.YtableianhaojcaaW.PrintWords
set_option maxRecDepth 100000
set_option linter.unusedVariables false
set_option linter.unusedSimpArgs false

def spc (f : FuncId) (a : List AV) (m : List AObj) : Option Out :=
  if f = 28 ∨ f = 40 then match a with
    | [.agg (.cons (.arg i) (.cons (.int .i64 q) (.cons (.int .i64 le) (.cons (.int .i64 mo) (.cons (.int .i64 de) (.cons (.int .i64 sl) .nil))))))] => match m[i]? with
      | some (.sym n _ [.int .i64 0] _) => some (.done (.int .i64 (.app 200 (.cons n (.cons q (.cons le (.cons mo (.cons de (.cons sl .nil)))))))) m)
      | _ => none
    | _ => none
  else none
def loops : List LoopSpec := [{ key := 10, slots := [(59, some (.int .i64 (.var 20))), (12, none), (13, none), (14, none), (15, none), (16, none), (17, none), (18, none), (19, none), (20, none), (21, none), (60, none), (61, none), (62, none), (63, none), (64, none), (65, none), (66, none), (67, none), (68, none), (69, none), (70, none), (71, none), (72, none), (73, none), (74, none), (75, none), (76, none), (77, none), (78, none), (79, none), (80, none), (81, none), (82, none), (83, none), (84, none), (85, none), (86, none), (87, none), (88, none), (89, none), (90, none), (91, none), (92, none), (93, none), (94, none), (95, none), (96, none), (97, none), (98, none), (99, none), (100, none), (101, none), (102, none), (103, none), (104, none), (105, none), (106, none), (107, none), (108, none), (109, none), (110, none), (111, none), (112, none), (113, none), (114, none), (115, none), (116, none), (117, none), (118, none), (119, none), (120, none), (121, none), (122, none), (123, none), (124, none), (125, none), (126, none), (127, none), (128, none), (129, none), (130, none), (131, none), (132, none), (133, none), (134, none), (135, none), (136, none), (137, none), (138, none), (139, none), (140, none), (141, none), (142, none), (143, none), (144, none), (145, none), (146, none), (147, none), (148, none), (149, none), (150, none), (151, none), (152, none), (153, none), (154, none), (155, none), (156, none), (157, none), (158, none), (159, none), (160, none), (161, none), (162, none), (163, none), (164, none), (165, none), (166, none), (167, none), (168, none), (169, none), (170, none), (171, none), (172, none), (173, none), (174, none), (175, none), (176, none), (177, none), (178, none), (179, none), (180, none), (181, none), (182, none), (183, none), (184, none), (185, none), (186, none), (187, none), (188, none), (189, none), (190, none), (191, none), (192, none), (193, none)], cells := [(4, 2, .int .i64 (.var 21)), (4, 3, .int .i64 (.var 22)), (5, 1, .int .i64 (.var 27)), (5, 2, .int .i64 (.var 23)), (5, 4, .int .i64 (.var 24)), (5, 5, .int .i64 (.var 25)), (5, 6, .int .u64 (.var 26)), (7, 6, .int .i64 (.var 27)), (7, 7, .int .i64 (.var 21)), (7, 8, .int .i64 (.var 23)), (7, 9, .int .i64 (.var 24)), (7, 10, .int .i64 (.var 25)), (7, 11, .int .u64 (.var 26))], meas := .bin .sub .i64 (.var 8) (.var 20), facts := [(.cmp .lss (.mn (.var 21) (.var 4)) (.lit 0), false), (.cmp .lss (.lit 1073741824) (.mx (.var 21) (.var 4)), false), (.cmp .lss (.var 21) (.lit 0), false), (.cmp .lss (.var 4) (.lit 0), false), (.cmp .lss (.lit 1073741824) (.var 21), false), (.cmp .lss (.lit 1073741824) (.var 4), false), (.cmp .eql (.conv .u64 (.var 26)) (.var 26), true)] }]
def cfg : Cfg := { ok := [3, 4, 5, 6, 7, 8, 9, 10, 11, 12, 13, 14, 15, 16, 17, 18, 19, 20, 21, 22, 23, 24, 25, 26, 27, 28, 29, 30, 31, 32, 33, 34, 35, 36, 37, 38, 39, 40, 41, 42, 43, 44, 45, 46, 47, 48, 49, 50, 51, 52, 53, 54, 55, 56, 57, 58, 59, 60, 61, 62, 63, 64, 65, 66, 67, 68, 69, 70, 71, 72, 73, 74, 75, 76, 77, 78, 79, 80, 81, 82, 83, 84], sums := fun f a m => match spc f a m with | some o => some o | none => match mrgA (5, 6, 7, 8) [20, 46] Lk.A Lk.Z f a m with | some o => some o | none => sums2 B.cus [(11, Alive.pat), (24, Good.pat), (36, Make.pat), (47, RMake.pat), (12, Nxt.pat), (27, RNxt.pat), (17, AnsR.pat), (25, RAnsR.pat), (13, Ask.pat), (22, RAsk.pat), (14, Late.pat), (23, RLate.pat)] f a m, loops := loops, hints := [(19, [4, 5, 7])], writers := [(19, [3, 7])] }
abbrev F : Nat → List Int → Int := B.F
theorem spc_ok {S : Nat → Prop} {w0 w : World} {bs : List Ent} {ρ : Env} {f : FuncId} {a : List AV} {m mem' : List AObj} {out : Out} {vs : List Value} {v : AV} (hC : ∀ l, ρ.f 200 l = chkF (fun i => ρ.f 0 [i]) l) (ho : spc f a m = some out) (hvs : dvl bs ρ a = some vs)
    (hm : RelM bs ρ S w0 m w) (hp : out.pick ρ = some (v, mem')) : Go.SX.Comes Try.prog S w0 bs ρ f vs w v mem' := by
  unfold spc at ho
  split at ho
  · rename_i hf
    split at ho
    · split at ho
      · rename_i hid
        cases ho
        cases hp
        rcases hf with rfl | rfl
        · exact chk_comes hC hid hvs hm
        · exact Cg.ref_comes hC hid hvs hm
      · cases ho
    · cases ho
  · cases ho
def N (G : Nat → List Int → Int) (S : Nat → Prop) (w0 : World) : Prop := (∀ i : Int, XOk (G 202) S w0 (G 5 [i]) (G 6 [i]) (G 7 [i]) (G 8 [i])) ∧ ∀ l, G 203 l = whyL LookA.pat.out (G 202) l
theorem cfg_ok (G : Nat → List Int → Int) (hG : ∀ j, 100 ≤ j → j < 200 → G j = F j) (hC : ∀ l, G 200 l = chkF (fun i => G 0 [i]) l) : CfgOk Try.prog cfg G (N G) :=
  ⟨by kernel_rfl, okB_spec (by kernel_rfl), fun f a m out h S w0 bs ρ w vs v mem' hN hρ hvs hm hp => by
    have h' : (match spc f a m with | some o => some o | none => match mrgA (5, 6, 7, 8) [20, 46] Lk.A Lk.Z f a m with | some o => some o | none => sums2 B.cus [(11, Alive.pat), (24, Good.pat), (36, Make.pat), (47, RMake.pat), (12, Nxt.pat), (27, RNxt.pat), (17, AnsR.pat), (25, RAnsR.pat), (13, Ask.pat), (22, RAsk.pat), (14, Late.pat), (23, RLate.pat)] f a m) = some out := h
    split at h'
    · rename_i o ho
      cases h'
      exact spc_ok (by rw [hρ]; exact hC) ho hvs hm hp
    · split at h'
      · rename_i o ho
        cases h'
        refine mrgA_sound (F := F) (u8 := 5) (l := [20, 46]) (A := Lk.A) (Z := Lk.Z) (by kernel_rfl) (by kernel_rfl) (fun f hf => ?_) ho (fun j hj hj2 => by rw [hρ]; exact hG j hj hj2) (by rw [hρ]; exact hN.1) hvs hm hp
        simp only [List.mem_cons, List.not_mem_nil, or_false] at hf
        rcases hf with rfl | rfl
        · exact ⟨LookA.pat.out, LookA.ok, by kernel_rfl, fun b o n k c => by rw [← whyL_tx LookA.pat.out (by kernel_rfl), hρ]; exact hN.2 _⟩
        · exact ⟨RLookA.pat.out, RLookA.ok, by kernel_rfl, fun b o n k c => by rw [Lk.why_eq, ← whyL_tx LookA.pat.out (by kernel_rfl), hρ]; exact hN.2 _⟩
      · exact sums2_sound B.cus_ok (l := [(11, Alive.pat), (24, Good.pat), (36, Make.pat), (47, RMake.pat), (12, Nxt.pat), (27, RNxt.pat), (17, AnsR.pat), (25, RAnsR.pat), (13, Ask.pat), (22, RAsk.pat), (14, Late.pat), (23, RLate.pat)]) (fun p hp => by
    simp only [List.mem_cons, List.not_mem_nil, or_false] at hp
    rcases hp with rfl | rfl | rfl | rfl | rfl | rfl | rfl | rfl | rfl | rfl | rfl | rfl
    · exact Alive.ok
    · exact Good.ok
    · exact Make.ok
    · exact RMake.ok
    · exact Nxt.ok
    · exact RNxt.ok
    · exact AnsR.ok
    · exact RAnsR.ok
    · exact Ask.ok
    · exact RAsk.ok
    · exact Late.ok
    · exact RLate.ok) h' (fun j hj hj2 => by rw [hρ]; exact hG j hj hj2) hvs hm hp⟩
def FR (z : List Int) (W : World) : Nat → List Int → Int := fun j l => if j = 200 then chkF (fun i => z.getD i.toNat 0) l else if j = 202 then byteAt W l else if j = 203 then whyL LookA.pat.out (byteAt W) l else B.F j l
theorem FR_low (z : List Int) (W : World) {j : Nat} (h : j < 200) : FR z W j = F j := by
  funext l
  unfold FR
  rw [if_neg (by omega), if_neg (by omega), if_neg (by omega)]
theorem env_chk (vals z : List Int) (rest : List (List Int)) (W : World) (hr : rest.length < 100 := by simp) : ∀ l, (mkEnv (FR z W) vals (z :: rest)).f 200 l = chkF (fun i => (mkEnv (FR z W) vals (z :: rest)).f 0 [i]) l := by
  intro l
  have e1 : (mkEnv (FR z W) vals (z :: rest)).f 200 l = FR z W 200 l := by rw [mkEnv_f (by simp; omega)]
  rw [e1]
  unfold FR
  rw [if_pos rfl]
  rfl
theorem env_why (vals z : List Int) (rest : List (List Int)) (W : World) (hr : rest.length < 100 := by simp) : ∀ l, (mkEnv (FR z W) vals (z :: rest)).f 203 l = whyL LookA.pat.out ((mkEnv (FR z W) vals (z :: rest)).f 202) l := by
  intro l
  have e1 : (mkEnv (FR z W) vals (z :: rest)).f 203 = FR z W 203 := mkEnv_f (by simp; omega)
  have e2 : (mkEnv (FR z W) vals (z :: rest)).f 202 = FR z W 202 := mkEnv_f (by simp; omega)
  have e3 : FR z W 202 = byteAt W := by
    funext l
    unfold FR
    rw [if_neg (by omega), if_pos rfl]
  rw [e1, e2, e3]
  unfold FR
  rw [if_neg (by omega), if_neg (by omega), if_pos rfl]
def args : List AV := [.agg (Go.SX.ofList [.arg 0, .int .i64 (.var 2), .int .i64 (.var 3), .int .i64 (.var 4), .int .i64 (.var 5), .int .i64 (.var 6)]), .int .i64 (.var 7), .arg 1]
def mem : List AObj := [.sym (.var 0) (.var 1) [.int .i64 0] 3, .sym (.var 8) (.var 9) [.int .i64 1, .int .i64 2, .int .i64 3, .int .u64 4, .sl 5 6 7 8] 45]
abbrev e0_ : Tree := (.need (.not (.cmp .lss (.mn (.var 3) (.var 4)) (.lit 0))) (.need (.not (.cmp .lss (.lit 1073741824) (.mx (.var 3) (.var 4)))) (.need (.not (.cmp .lss (.var 3) (.lit 0))) (.need (.not (.cmp .lss (.var 4) (.lit 0))) (.need (.not (.cmp .lss (.lit 1073741824) (.var 3))) (.need (.not (.cmp .lss (.lit 1073741824) (.var 4))) (.need (.cmp .eql (.conv .u64 (.var 26)) (.var 26)) (.again 10 [(1010, (.bin .sub .i64 (.var 8) (.bin .add .i64 (.var 20) (.lit 1)))), (20, (.bin .add .i64 (.var 20) (.lit 1))), (21, (.var 3)), (22, (.lit 0)), (27, (.lit 0)), (23, (.bin .add .i64 (.var 24) (.bin .mul .i64 (.var 3) (.lit 1000000000)))), (24, (.var 24)), (25, (.var 25)), (26, (.var 26)), (27, (.lit 0)), (21, (.var 3)), (23, (.bin .add .i64 (.var 24) (.bin .mul .i64 (.var 3) (.lit 1000000000)))), (24, (.var 24)), (25, (.var 25)), (26, (.var 26))]))))))))
abbrev e1_ : Tree := (.need (.not (.cmp .lss (.mn (.var 21) (.var 4)) (.lit 0))) (.need (.not (.cmp .lss (.lit 1073741824) (.mx (.var 21) (.var 4)))) (.need (.not (.cmp .lss (.var 21) (.lit 0))) (.need (.not (.cmp .lss (.var 4) (.lit 0))) (.need (.not (.cmp .lss (.lit 1073741824) (.var 21))) (.need (.not (.cmp .lss (.lit 1073741824) (.var 4))) (.need (.cmp .eql (.conv .u64 (.var 26)) (.var 26)) (.again 10 [(1010, (.bin .sub .i64 (.var 8) (.bin .add .i64 (.var 20) (.lit 1)))), (20, (.bin .add .i64 (.var 20) (.lit 1))), (21, (.var 21)), (22, (.var 22)), (27, (.var 27)), (23, (.var 23)), (24, (.var 24)), (25, (.var 25)), (26, (.var 26)), (27, (.var 27)), (21, (.var 21)), (23, (.var 23)), (24, (.var 24)), (25, (.var 25)), (26, (.var 26))]))))))))
def tree : Tree :=
(.ite (.cmp .lss (.lit 50) (.var 0))
 (.leaf (.bool (.lit 1)) [])
 (.ite (.cmp .lss (.lit 100) (.var 8))
 (.leaf (.bool (.lit 1)) [])
 (.ite (.cmp .neq (.app 200 (.cons (.var 0) (.cons (.var 2) (.cons (.var 3) (.cons (.var 4) (.cons (.var 5) (.cons (.var 6) .nil))))))) (.lit 0))
 (.ite (.cmp .neq (.lit 0) (.cmp .eql (.app 200 (.cons (.var 0) (.cons (.var 2) (.cons (.var 3) (.cons (.var 4) (.cons (.var 5) (.cons (.var 6) .nil))))))) (.lit 0)))
 (.leaf (.bool (.lit 0)) [])
 (.leaf (.bool (.lit 1)) []))
 (.ite (.cmp .lss (.var 7) (.lit 0))
 (.leaf (.bool (.lit 1)) [])
 (.ite (.cmp .lss (.lit 4611686018427387903) (.var 7))
 (.leaf (.bool (.lit 1)) [])
 (.ite (.cmp .leq (.lit 4) (.var 3))
 (.ite (.cmp .lss (.lit 1024) (.var 3))
 (.leaf (.bool (.lit 0)) [])
 (.ite (.cmp .leq (.lit 4) (.var 4))
 (.ite (.cmp .lss (.lit 1024) (.var 4))
 (.leaf (.bool (.lit 0)) [])
 (.ite (.cmp .lss (.var 4) (.var 3))
 (.leaf (.bool (.lit 0)) [])
 (.need (.not (.cmp .lss (.mn (.var 3) (.var 4)) (.lit 0))) (.need (.not (.cmp .lss (.lit 1073741824) (.mx (.var 3) (.var 4)))) (.need (.not (.cmp .lss (.var 3) (.lit 0))) (.need (.not (.cmp .lss (.var 4) (.lit 0))) (.need (.not (.cmp .lss (.lit 1073741824) (.var 3))) (.need (.not (.cmp .lss (.lit 1073741824) (.var 4))) (.need (.cmp .eql (.conv .u64 (.lit 0)) (.lit 0)) (.loop 10 [(1010, (.bin .sub .i64 (.var 8) (.lit 0))), (20, (.lit 0)), (21, (.var 3)), (22, (.lit 0)), (27, (.lit 0)), (23, (.var 7)), (24, (.lit 0)), (25, (.lit 0)), (26, (.lit 0)), (27, (.lit 0)), (21, (.var 3)), (23, (.var 7)), (24, (.lit 0)), (25, (.lit 0)), (26, (.lit 0))]
 (.ite (.cmp .lss (.var 20) (.var 8))
 (.need (.cmp .leq (.lit 0) (.var 20)) (.ite (.cmp .eql (.app 1 (.cons (.var 20) .nil)) (.lit 0))
 (.ite (.cmp .lss (.app 2 (.cons (.var 20) .nil)) (.lit 0))
 e1_
 (.ite (.cmp .lss (.lit 4611686018427387903) (.app 2 (.cons (.var 20) .nil)))
 e1_
 (.ite (.cmp .eql (.var 27) (.lit 0))
 (.ite (.cmp .lss (.app 2 (.cons (.var 20) .nil)) (.var 23))
 e1_
 (.ite (.cmp .eql (.app 4 (.cons (.var 20) .nil)) (.lit 0))
 e1_
 (.need (.not (.cmp .lss (.mn (.var 21) (.var 4)) (.lit 0))) (.need (.not (.cmp .lss (.lit 1073741824) (.mx (.var 21) (.var 4)))) (.need (.not (.cmp .lss (.var 21) (.lit 0))) (.need (.not (.cmp .lss (.var 4) (.lit 0))) (.need (.not (.cmp .lss (.lit 1073741824) (.var 21))) (.need (.not (.cmp .lss (.lit 1073741824) (.var 4))) (.need (.cmp .eql (.conv .u64 (.app 4 (.cons (.var 20) .nil))) (.app 4 (.cons (.var 20) .nil))) (.again 10 [(1010, (.bin .sub .i64 (.var 8) (.bin .add .i64 (.var 20) (.lit 1)))), (20, (.bin .add .i64 (.var 20) (.lit 1))), (21, (.var 21)), (22, (.var 22)), (27, (.lit 1)), (23, (.var 23)), (24, (.app 2 (.cons (.var 20) .nil))), (25, (.app 3 (.cons (.var 20) .nil))), (26, (.app 4 (.cons (.var 20) .nil))), (27, (.lit 1)), (21, (.var 21)), (23, (.var 23)), (24, (.app 2 (.cons (.var 20) .nil))), (25, (.app 3 (.cons (.var 20) .nil))), (26, (.app 4 (.cons (.var 20) .nil)))]))))))))))
 e1_)))
 (.ite (.cmp .eql (.app 1 (.cons (.var 20) .nil)) (.lit 1))
 (.ite (.cmp .eql (.var 27) (.lit 1))
 (.ite (.cmp .leq (.app 2 (.cons (.var 20) .nil)) (.bin .add .i64 (.var 24) (.bin .mul .i64 (.var 5) (.lit 1000000))))
 e1_
 (.need (.not (.cmp .lss (.mn (.mn (.bin .mul .i64 (.var 21) (.lit 2)) (.var 4)) (.var 4)) (.lit 0))) (.need (.not (.cmp .lss (.lit 1073741824) (.mx (.mn (.bin .mul .i64 (.var 21) (.lit 2)) (.var 4)) (.var 4)))) (.need (.not (.cmp .lss (.mn (.bin .mul .i64 (.var 21) (.lit 2)) (.var 4)) (.lit 0))) (.need (.not (.cmp .lss (.var 4) (.lit 0))) (.need (.not (.cmp .lss (.lit 1073741824) (.mn (.bin .mul .i64 (.var 21) (.lit 2)) (.var 4)))) (.need (.not (.cmp .lss (.lit 1073741824) (.var 4))) (.need (.cmp .eql (.conv .u64 (.var 26)) (.var 26)) (.again 10 [(1010, (.bin .sub .i64 (.var 8) (.bin .add .i64 (.var 20) (.lit 1)))), (20, (.bin .add .i64 (.var 20) (.lit 1))), (21, (.mn (.bin .mul .i64 (.var 21) (.lit 2)) (.var 4))), (22, (.bin .add .i64 (.var 22) (.lit 1))), (27, (.lit 0)), (23, (.bin .add .i64 (.var 24) (.bin .mul .i64 (.mn (.bin .mul .i64 (.var 21) (.lit 2)) (.var 4)) (.lit 1000000000)))), (24, (.var 24)), (25, (.var 25)), (26, (.var 26)), (27, (.lit 0)), (21, (.mn (.bin .mul .i64 (.var 21) (.lit 2)) (.var 4))), (23, (.bin .add .i64 (.var 24) (.bin .mul .i64 (.mn (.bin .mul .i64 (.var 21) (.lit 2)) (.var 4)) (.lit 1000000000)))), (24, (.var 24)), (25, (.var 25)), (26, (.var 26))])))))))))
 e1_)
 (.ite (.cmp .eql (.app 1 (.cons (.var 20) .nil)) (.lit 2))
 (.ite (.cmp .eql (.var 27) (.lit 2))
 e1_
 (.ite (.cmp .eql (.var 27) (.lit 0))
 e1_
 (.ite (.cmp .eql (.app 203 (.cons (.app 5 (.cons (.var 20) .nil)) (.cons (.app 6 (.cons (.var 20) .nil)) (.cons (.app 7 (.cons (.var 20) .nil)) (.cons (.var 26) .nil))))) (.lit 0))
 (.ite (.cmp .eql (.var 27) (.lit 1))
 (.ite (.cmp .lss (.bin .add .i64 (.var 24) (.bin .mul .i64 (.var 5) (.lit 1000000))) (.app 2 (.cons (.var 20) .nil)))
 e1_
 e0_)
 e0_)
 (.ite (.cmp .eql (.app 203 (.cons (.app 5 (.cons (.var 20) .nil)) (.cons (.app 6 (.cons (.var 20) .nil)) (.cons (.app 7 (.cons (.var 20) .nil)) (.cons (.var 26) .nil))))) (.lit 8))
 (.need (.not (.cmp .lss (.mn (.var 21) (.var 4)) (.lit 0))) (.need (.not (.cmp .lss (.lit 1073741824) (.mx (.var 21) (.var 4)))) (.need (.not (.cmp .lss (.var 21) (.lit 0))) (.need (.not (.cmp .lss (.var 4) (.lit 0))) (.need (.not (.cmp .lss (.lit 1073741824) (.var 21))) (.need (.not (.cmp .lss (.lit 1073741824) (.var 4))) (.need (.cmp .eql (.conv .u64 (.var 26)) (.var 26)) (.again 10 [(1010, (.bin .sub .i64 (.var 8) (.bin .add .i64 (.var 20) (.lit 1)))), (20, (.bin .add .i64 (.var 20) (.lit 1))), (21, (.var 21)), (22, (.var 22)), (27, (.lit 2)), (23, (.var 23)), (24, (.var 24)), (25, (.var 25)), (26, (.var 26)), (27, (.lit 2)), (21, (.var 21)), (23, (.var 23)), (24, (.var 24)), (25, (.var 25)), (26, (.var 26))]))))))))
 e1_))))
 (.ite (.cmp .eql (.app 1 (.cons (.var 20) .nil)) (.lit 3))
 (.ite (.cmp .eql (.var 27) (.lit 2))
 e1_
 (.ite (.cmp .eql (.var 27) (.lit 0))
 e1_
 (.ite (.cmp .eql (.var 26) (.lit 0))
 e1_
 (.ite (.cmp .neq (.conv .u64 (.app 4 (.cons (.var 20) .nil))) (.lit 0))
 (.ite (.cmp .eql (.var 27) (.lit 1))
 (.ite (.cmp .lss (.bin .add .i64 (.var 24) (.bin .mul .i64 (.var 5) (.lit 1000000))) (.app 2 (.cons (.var 20) .nil)))
 e1_
 e0_)
 e0_)
 e1_))))
 (.ite (.cmp .eql (.app 1 (.cons (.var 20) .nil)) (.lit 4))
 (.ite (.cmp .eql (.var 27) (.lit 0))
 e1_
 e1_)
 e1_))))))
 (.leaf (.bool (.lit 1)) []))))))))))))
 (.leaf (.bool (.lit 0)) [])))
 (.leaf (.bool (.lit 0)) [])))))))
set_option maxHeartbeats 40000000 in
theorem tree_eq : callT Try.prog cfg 100000 0 7 args mem [] = tree := by kernel_rfl
def Inv : Nat → Env → Prop := fun _ ρ => (0 ≤ ρ.v 8 ∧ ρ.v 8 ≤ 100) ∧ (4 ≤ ρ.v 3 ∧ ρ.v 3 ≤ ρ.v 4 ∧ ρ.v 4 ≤ 1024) ∧ (0 ≤ ρ.v 20 ∧ ρ.v 20 ≤ ρ.v 8) ∧ (0 ≤ ρ.v 21 ∧ ρ.v 21 ≤ 1024) ∧ IntKind.u64.wrap (ρ.v 26) = ρ.v 26 ∧ (∀ i : Int, 0 ≤ i → i < ρ.v 8 → inR .u64 (ρ.f 4 [i]) = true) ∧ ρ.v 1010 = ρ.v 8 - ρ.v 20
theorem needs6 {ρ : Env} (h3 : 4 ≤ ρ.v 3 ∧ ρ.v 3 ≤ ρ.v 4 ∧ ρ.v 4 ≤ 1024) {n k : SE} (hn : 0 ≤ den ρ n ∧ den ρ n ≤ 1024) (hk : IntKind.u64.wrap (den ρ k) = den ρ k) {t : Tree} (ht : t.holds Inv saysTrue ρ) :
    (Tree.need (.not (.cmp .lss (.mn n (.var 4)) (.lit 0))) (.need (.not (.cmp .lss (.lit 1073741824) (.mx n (.var 4)))) (.need (.not (.cmp .lss n (.lit 0))) (.need (.not (.cmp .lss (.var 4) (.lit 0))) (.need (.not (.cmp .lss (.lit 1073741824) n)) (.need (.not (.cmp .lss (.lit 1073741824) (.var 4))) (.need (.cmp .eql (.conv .u64 k) k) t))))))).holds Inv saysTrue ρ := by
  have dV : ∀ n, den ρ (.var n) = ρ.v n := fun _ => rfl
  have dL : ∀ n, den ρ (.lit n) = n := fun _ => rfl
  refine ⟨?_, ?_, ?_, ?_, ?_, ?_, by rw [ev_eql]; exact hk, ht⟩
  · rw [ev_not, ev_lss']
    show 0 ≤ if ρ.v 4 < den ρ n then ρ.v 4 else den ρ n
    split <;> omega
  · rw [ev_not, ev_lss']
    show (if ρ.v 4 > den ρ n then ρ.v 4 else den ρ n) ≤ 1073741824
    split <;> omega
  · rw [ev_not, ev_lss']; simp only [dL]; omega
  · rw [ev_not, ev_lss']; simp only [dL, dV]; omega
  · rw [ev_not, ev_lss']; simp only [dL]; omega
  · rw [ev_not, ev_lss']; simp only [dL, dV]; omega
theorem ag {ρ : Env} (hI : Inv 10 ρ) (c : ρ.v 20 < ρ.v 8) {n t st d se cc k : SE} (hn : 0 ≤ den ρ n ∧ den ρ n ≤ 1024) (hk : IntKind.u64.wrap (den ρ k) = den ρ k) :
    (Tree.need (.not (.cmp .lss (.mn n (.var 4)) (.lit 0))) (.need (.not (.cmp .lss (.lit 1073741824) (.mx n (.var 4)))) (.need (.not (.cmp .lss n (.lit 0))) (.need (.not (.cmp .lss (.var 4) (.lit 0))) (.need (.not (.cmp .lss (.lit 1073741824) n)) (.need (.not (.cmp .lss (.lit 1073741824) (.var 4))) (.need (.cmp .eql (.conv .u64 k) k)
      (.again 10 [(1010, .bin .sub .i64 (.var 8) (.bin .add .i64 (.var 20) (.lit 1))), (20, .bin .add .i64 (.var 20) (.lit 1)), (21, n), (22, t), (27, st), (23, d), (24, se), (25, cc), (26, k), (27, st), (21, n), (23, d), (24, se), (25, cc), (26, k)])))))))).holds Inv saysTrue ρ := by
  obtain ⟨i8, i3, i20, i21, i26, i4, im⟩ := hI
  have a7 : binI .add .i64 (ρ.v 20) 1 = ρ.v 20 + 1 := add_i64 (by omega) (by omega)
  refine needs6 i3 hn hk ⟨⟨i8, i3, ?_, hn, hk, i4, ?_⟩, ?_⟩
  · show 0 ≤ binI .add .i64 (ρ.v 20) 1 ∧ binI .add .i64 (ρ.v 20) 1 ≤ ρ.v 8
    rw [a7]; omega
  · show binI .sub .i64 (ρ.v 8) (binI .add .i64 (ρ.v 20) 1) = ρ.v 8 - binI .add .i64 (ρ.v 20) 1
    rw [a7]; exact sub_i64 (by omega) (by omega)
  · show (binI .sub .i64 (ρ.v 8) (binI .add .i64 (ρ.v 20) 1)).toNat < (ρ.v 1010).toNat
    rw [a7, sub_i64 (by omega) (by omega), im]
    omega
theorem iteAny {ρ : Env} {c : SE} {t e : Tree} (h1 : t.holds Inv saysTrue ρ) (h2 : e.holds Inv saysTrue ρ) : (Tree.ite c t e).holds Inv saysTrue ρ := ⟨fun _ => h1, fun _ => h2⟩
theorem nx {ρ : Env} {x : SE} {l1 l2 t e : Tree} (h1 : t.holds Inv saysTrue ρ) (h2 : e.holds Inv saysTrue ρ) :
    (Tree.ite (.cmp .lss (.lit 4611686018427387903) x) (.ite (.cmp .neq (.mn x (.lit 4611686018427387903)) (.lit 4611686018427387903)) l1 t) (.ite (.cmp .neq (.mn x (.lit 4611686018427387903)) x) l2 e)).holds Inv saysTrue ρ := by
  refine ⟨fun h => ⟨fun h3 => ?_, fun _ => h1⟩, fun h => ⟨fun h3 => ?_, fun _ => h2⟩⟩
  · exfalso
    rw [ev_lss] at h
    rw [ev_neq] at h3
    apply h3
    show (if (4611686018427387903 : Int) < den ρ x then 4611686018427387903 else den ρ x) = 4611686018427387903
    have h : (4611686018427387903 : Int) < den ρ x := h
    rw [if_pos h]
  · exfalso
    rw [ev_lss'] at h
    rw [ev_neq] at h3
    apply h3
    show (if (4611686018427387903 : Int) < den ρ x then 4611686018427387903 else den ρ x) = den ρ x
    have h : den ρ x ≤ (4611686018427387903 : Int) := h
    rw [if_neg (by omega)]
theorem iteE0 {ρ : Env} {x : SE} {t e : Tree} (h1 : den ρ x = 0 → t.holds Inv saysTrue ρ) (h2 : den ρ x ≠ 0 → e.holds Inv saysTrue ρ) : (Tree.ite (.cmp .eql x (.lit 0)) t e).holds Inv saysTrue ρ :=
  ⟨fun h => h1 (by rw [ev_eql] at h; exact h), fun h => h2 (by rw [ev_eql'] at h; exact h)⟩
theorem iteMn {ρ : Env} {x y : SE} (hx : 0 ≤ den ρ x) (hy : 0 ≤ den ρ y) {t e : Tree} (h1 : den ρ x ≠ 0 ∧ den ρ y ≠ 0 → t.holds Inv saysTrue ρ) (h2 : den ρ x = 0 ∨ den ρ y = 0 → e.holds Inv saysTrue ρ) : (Tree.ite (.cmp .neq (.mn x y) (.lit 0)) t e).holds Inv saysTrue ρ := by
  have key : den ρ (.mn x y) = 0 ↔ (den ρ x = 0 ∨ den ρ y = 0) := by
    show (if den ρ y < den ρ x then den ρ y else den ρ x) = 0 ↔ _
    split <;> omega
  refine ⟨fun h => h1 ?_, fun h => h2 ?_⟩
  · rw [ev_neq] at h
    have h : den ρ (.mn x y) ≠ 0 := h
    rw [ne_eq, key] at h
    omega
  · rw [ev_neq'] at h
    exact key.1 h
theorem or_pos {ρ : Env} (a b : SE) : 0 ≤ den ρ (.bin .or .u64 a b) := by
  show 0 ≤ IntKind.u64.wrap _
  rw [u64_wrap]; omega
theorem conv_pos {ρ : Env} (a : SE) : 0 ≤ den ρ (.conv .u64 a) := by
  show 0 ≤ IntKind.u64.wrap _
  rw [u64_wrap]; omega
set_option maxHeartbeats 8000000 in
theorem tree_holds (ρ : Env) (h0 : 0 ≤ ρ.v 0) (h1 : ρ.v 0 ≤ ρ.v 1) (_ : ∀ i : Int, 0 ≤ i → i < ρ.v 0 → inR .i64 (ρ.f 0 [i]) = true) (h2 : inR .i64 (ρ.v 2) = true) (h3 : inR .i64 (ρ.v 3) = true) (h4 : inR .i64 (ρ.v 4) = true) (h5 : inR .i64 (ρ.v 5) = true) (h6 : inR .i64 (ρ.v 6) = true) (h7 : inR .i64 (ρ.v 7) = true)
    (h8 : 0 ≤ ρ.v 8) (_ : ρ.v 8 ≤ ρ.v 9) (_ : ∀ i : Int, 0 ≤ i → i < ρ.v 8 → inR .i64 (ρ.f 1 [i]) = true) (_ : ∀ i : Int, 0 ≤ i → i < ρ.v 8 → inR .i64 (ρ.f 2 [i]) = true) (_ : ∀ i : Int, 0 ≤ i → i < ρ.v 8 → inR .i64 (ρ.f 3 [i]) = true)
    (g4 : ∀ i : Int, 0 ≤ i → i < ρ.v 8 → inR .u64 (ρ.f 4 [i]) = true) (hf : ∀ j, 100 ≤ j → j < 200 → ρ.f j = F j) (hC : ∀ l, ρ.f 200 l = chkF (fun i => ρ.f 0 [i]) l) : tree.holds Inv saysTrue ρ := by
  have l1 : ∀ {ρ : Env} {m : List AObj}, (Tree.leaf (.bool (.lit 1)) m).holds Inv saysTrue ρ := says1
  unfold tree
  refine ⟨fun _ => l1, fun _ => ⟨fun _ => l1, fun h100 => ⟨fun g => ⟨fun h => ?_, fun _ => l1⟩, fun g => ⟨fun _ => l1, fun _ => ⟨fun _ => l1, fun _ => ?_⟩⟩⟩⟩⟩
  · exfalso
    rw [ev_neq] at g h
    have g : ρ.f 200 [ρ.v 0, ρ.v 2, ρ.v 3, ρ.v 4, ρ.v 5, ρ.v 6] ≠ 0 := g
    have h : (0 : Int) ≠ ofB (ρ.f 200 [ρ.v 0, ρ.v 2, ρ.v 3, ρ.v 4, ρ.v 5, ρ.v 6] == 0) := h
    apply h
    rw [beq_eq_false_iff_ne.2 g]
    rfl
  · rw [ev_neq'] at g
    simp only [den, dens] at g
    rw [hC] at g
    have k := (chkF_spec (fun i => ρ.f 0 [i]) (ρ.v 0) (ρ.v 2) (ρ.v 3) (ρ.v 4) (ρ.v 5) (ρ.v 6) h0).2.2 g
    unfold CfgIn at k
    clear g hC
    rw [ev_lss'] at h100
    have h100 : ρ.v 8 ≤ 100 := h100
    refine ⟨fun _ => ⟨fun h => ?_, fun _ => ⟨fun _ => ⟨fun h => ?_, fun _ => ⟨fun h => ?_, fun _ => needs6 (by omega) (n := .var 3) (by show 0 ≤ ρ.v 3 ∧ ρ.v 3 ≤ 1024; omega) (k := .lit 0) rfl ⟨?_, fun ρ' hf' hI => ?_⟩⟩⟩, fun h => ?_⟩⟩, fun h => ?_⟩
    · exfalso; rw [ev_lss] at h; simp only [den] at h; omega
    · exfalso; rw [ev_lss] at h; simp only [den] at h; omega
    · exfalso; rw [ev_lss] at h; simp only [den] at h; omega
    · refine ⟨⟨h8, h100⟩, by show 4 ≤ ρ.v 3 ∧ ρ.v 3 ≤ ρ.v 4 ∧ ρ.v 4 ≤ 1024; omega, ⟨Int.le_refl _, h8⟩, by show 0 ≤ ρ.v 3 ∧ ρ.v 3 ≤ 1024; omega, rfl, g4, ?_⟩
      show binI .sub .i64 (ρ.v 8) 0 = ρ.v 8 - 0
      exact sub_i64 (by omega) (by omega)
    · have hI' := hI
      obtain ⟨i8, i3, i20, i21, i26, i4, im⟩ := hI'
      refine ⟨fun c => ?_, fun _ => l1⟩
      rw [ev_lss] at c
      have c : ρ'.v 20 < ρ'.v 8 := c
      have b21 : 0 ≤ den ρ' (.var 21) ∧ den ρ' (.var 21) ≤ 1024 := i21
      have b3 : 0 ≤ den ρ' (.var 3) ∧ den ρ' (.var 3) ≤ 1024 := by show 0 ≤ ρ'.v 3 ∧ ρ'.v 3 ≤ 1024; omega
      have bmn : 0 ≤ den ρ' (.mn (.bin .mul .i64 (.var 21) (.lit 2)) (.var 4)) ∧ den ρ' (.mn (.bin .mul .i64 (.var 21) (.lit 2)) (.var 4)) ≤ 1024 := by
        show 0 ≤ (if ρ'.v 4 < binI .mul .i64 (ρ'.v 21) 2 then ρ'.v 4 else binI .mul .i64 (ρ'.v 21) 2) ∧ (if ρ'.v 4 < binI .mul .i64 (ρ'.v 21) 2 then ρ'.v 4 else binI .mul .i64 (ρ'.v 21) 2) ≤ 1024
        rw [mul_i64 (by omega) (by omega)]
        split <;> omega
      have k26 : IntKind.u64.wrap (den ρ' (.var 26)) = den ρ' (.var 26) := i26
      have kf4 : IntKind.u64.wrap (den ρ' (.app 4 (.cons (.var 20) .nil))) = den ρ' (.app 4 (.cons (.var 20) .nil)) := by
        have := u64_in (i4 (ρ'.v 20) i20.1 c)
        show IntKind.u64.wrap (ρ'.f 4 [ρ'.v 20]) = ρ'.f 4 [ρ'.v 20]
        rw [u64_wrap]; omega
      refine ⟨by rw [ev_leq]; exact i20.1, ?_⟩
      clear im i8 i20 i21 i26 i4 g4 h2 h3 h4 h5 h6 h7
      repeat' first
        | with_reducible exact l1
        | with_reducible exact ag hI c b21 k26
        | with_reducible exact ag hI c b3 k26
        | with_reducible exact ag hI c bmn k26
        | with_reducible exact ag hI c b21 kf4
        | with_reducible refine nx ?_ ?_
        | with_reducible refine iteMn (or_pos _ _) (or_pos _ _) (fun _ => ?_) (fun _ => ?_)
        | with_reducible refine iteMn (conv_pos _) (conv_pos _) (fun _ => ?_) (fun _ => ?_)
        | with_reducible refine iteE0 (fun _ => ?_) (fun _ => ?_)
        | with_reducible refine iteAny ?_ ?_
      all_goals (exfalso; omega)
    · exfalso; rw [ev_leq'] at h; simp only [den] at h; omega
    · exfalso; rw [ev_leq'] at h; simp only [den] at h; omega
end Go.Proofs.Ytableianhaojcaa.TPeerActs
