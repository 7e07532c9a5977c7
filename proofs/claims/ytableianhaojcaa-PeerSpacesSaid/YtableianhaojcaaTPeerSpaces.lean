/- The tree of the law PeerSpaces, and that all its ends say true. No conditions. -/
import Derived.Test.YtableianhaojcaaSX3
import Derived.Test.YtableianhaojcaaProg
import Derived.KernelRfl
import Derived.Test.YtableianhaojcaaCAlive
import Derived.Test.YtableianhaojcaaCGetR
import Derived.Test.YtableianhaojcaaCLookA
import Derived.Test.YtableianhaojcaaCP1
import Derived.Test.YtableianhaojcaaB
import Derived.Test.YtableianhaojcaaLCf
import Derived.Test.YtableianhaojcaaSXo
namespace Go.Proofs.Ytableianhaojcaa.TPeerSpaces
open Go Go.SX Go.Proofs.Ytableianhaojcaa Go.Proofs.Ytableianhaojcaa.L Go.RowKit Go.Proofs.YtableianhaojcaaW.PrintWords
set_option maxRecDepth 100000
set_option linter.unusedVariables false
set_option linter.unusedSimpArgs false

def spc (f : FuncId) (a : List AV) (m : List AObj) : Option Out :=
  if f = 28 then match a with
    | [.agg (.cons (.arg i) (.cons (.int .i64 q) (.cons (.int .i64 le) (.cons (.int .i64 mo) (.cons (.int .i64 de) (.cons (.int .i64 sl) .nil))))))] => match m[i]? with
      | some (.sym n _ [.int .i64 0] _) => some (.done (.int .i64 (.app 200 (.cons n (.cons q (.cons le (.cons mo (.cons de (.cons sl .nil)))))))) m)
      | _ => none
    | _ => none
  else none
def loops : List LoopSpec := [{ key := 8, slots := [(39, some (.int .i64 (.var 20))), (7, some (.int .i64 (.var 30))), (8, some (.bool (.var 31))), (9, none), (10, none), (11, none), (12, none), (13, none), (14, none), (40, none), (41, none), (42, none), (43, none), (44, none), (45, none), (46, none), (47, none), (48, none), (49, none), (50, none), (51, none), (52, none), (53, none), (54, none), (55, none), (56, none), (57, none), (58, none), (59, none), (60, none), (61, none), (62, none), (63, none), (64, none), (65, none), (66, none), (67, none), (68, none), (69, none), (70, none), (71, none), (72, none), (73, none), (74, none), (75, none), (76, none), (77, none), (78, none), (79, none), (80, none), (81, none), (82, none), (83, none), (84, none), (85, none), (86, none), (87, none), (88, none), (89, none), (90, none), (91, none), (92, none), (93, none), (94, none), (95, none), (96, none), (97, none), (98, none), (99, none), (100, none), (101, none), (102, none), (103, none), (104, none), (105, none), (106, none), (107, none), (108, none), (109, none), (110, none), (111, none), (112, none), (113, none), (114, none), (115, none), (116, none), (117, none), (118, none), (119, none), (120, none), (121, none), (122, none), (123, none)], cells := [(4, 2, .int .i64 (.var 21)), (4, 3, .int .i64 (.var 22)), (5, 1, .int .i64 (.var 27)), (5, 2, .int .i64 (.var 23)), (5, 4, .int .i64 (.var 24)), (5, 5, .int .i64 (.var 25)), (5, 6, .int .u64 (.var 26))], meas := .bin .sub .i64 (.var 7) (.var 20), facts := [(.cmp .lss (.mn (.var 21) (.var 4)) (.lit 0), false), (.cmp .lss (.lit 1073741824) (.mx (.var 21) (.var 4)), false), (.cmp .lss (.var 21) (.var 3), false), (.cmp .lss (.var 4) (.var 21), false), (.cmp .lss (.var 4) (.var 3), false)] }]
def cfg : Cfg := { ok := [3, 4, 5, 6, 7, 8, 9, 10, 11, 12, 13, 14, 15, 16, 17, 18, 19, 20, 21, 22, 23, 24, 25, 26, 27, 28, 29, 30, 31, 32, 33, 34, 35, 36, 37, 38, 39, 40, 41, 42, 43, 44, 45, 46, 47, 48, 49, 50, 51, 52, 53, 54, 55, 56, 57, 58, 59, 60, 61, 62, 63, 64, 65, 66, 67, 68, 69, 70, 71, 72, 73, 74, 75, 76, 77, 78, 79, 80, 81, 82, 83, 84], sums := fun f a m => match spc f a m with | some o => some o | none => match xsA (5, 6, 7, 8) [(20, LookA.pat.out)] f a m with | some o => some o | none => sums2 B.cus [(11, Alive.pat), (31, Query.pat), (19, GetR.pat)] f a m, loops := loops }
abbrev F : Nat → List Int → Int := B.F
theorem spc_ok {S : Nat → Prop} {w0 w : World} {bs : List Ent} {ρ : Env} {f : FuncId} {a : List AV} {m mem' : List AObj} {out : Out} {vs : List Value} {v : AV} (hC : ∀ l, ρ.f 200 l = chkF (fun i => ρ.f 0 [i]) l) (ho : spc f a m = some out) (hvs : dvl bs ρ a = some vs)
    (hm : RelM bs ρ S w0 m w) (hp : out.pick ρ = some (v, mem')) : Go.SX.Comes Try.prog S w0 bs ρ f vs w v mem' := by
  unfold spc at ho
  split at ho
  · rename_i hf
    subst hf
    split at ho
    · split at ho
      · rename_i hid
        cases ho
        cases hp
        exact chk_comes hC hid hvs hm
      · cases ho
    · cases ho
  · cases ho
def N (G : Nat → List Int → Int) (S : Nat → Prop) (w0 : World) : Prop := ∀ i : Int, XOk (G 202) S w0 (G 5 [i]) (G 6 [i]) (G 7 [i]) (G 8 [i])
theorem cfg_ok (G : Nat → List Int → Int) (hG : ∀ j, 100 ≤ j → j < 200 → G j = F j) (hC : ∀ l, G 200 l = chkF (fun i => G 0 [i]) l) : CfgOk Try.prog cfg G (N G) :=
  ⟨by kernel_rfl, okB_spec (by kernel_rfl), fun f a m out h S w0 bs ρ w vs v mem' hN hρ hvs hm hp => by
    have h' : (match spc f a m with | some o => some o | none => match xsA (5, 6, 7, 8) [(20, LookA.pat.out)] f a m with | some o => some o | none => sums2 B.cus [(11, Alive.pat), (31, Query.pat), (19, GetR.pat)] f a m) = some out := h
    split at h'
    · rename_i o ho
      cases h'
      exact spc_ok (by rw [hρ]; exact hC) ho hvs hm hp
    · split at h'
      · rename_i o ho
        cases h'
        refine xsA_sound (F := F) (l := [(20, LookA.pat.out)]) (u8 := 5) (fun p hp => ?_) ho (fun j hj hj2 => by rw [hρ]; exact hG j hj hj2) (by rw [hρ]; exact hN) hvs hm hp
        simp only [List.mem_cons, List.not_mem_nil, or_false] at hp
        rcases hp with rfl
        · exact ⟨LookA.ok, by kernel_rfl⟩
      · exact sums2_sound B.cus_ok (l := [(11, Alive.pat), (31, Query.pat), (19, GetR.pat)]) (fun p hp => by
    simp only [List.mem_cons, List.not_mem_nil, or_false] at hp
    rcases hp with rfl | rfl | rfl
    · exact Alive.ok
    · exact Query.ok
    · exact GetR.ok) h' (fun j hj hj2 => by rw [hρ]; exact hG j hj hj2) hvs hm hp⟩
def FR (z : List Int) (W : World) : Nat → List Int → Int := fun j l => if j = 200 then chkF (fun i => z.getD i.toNat 0) l else if j = 202 then byteAt W l else B.F j l
theorem FR_low (z : List Int) (W : World) {j : Nat} (h : j < 200) : FR z W j = F j := by
  funext l
  unfold FR
  rw [if_neg (by omega), if_neg (by omega)]
theorem env_chk (vals z : List Int) (rest : List (List Int)) (W : World) (hr : rest.length < 100 := by simp) : ∀ l, (mkEnv (FR z W) vals (z :: rest)).f 200 l = chkF (fun i => (mkEnv (FR z W) vals (z :: rest)).f 0 [i]) l := by
  intro l
  have e1 : (mkEnv (FR z W) vals (z :: rest)).f 200 l = FR z W 200 l := by rw [mkEnv_f (by simp; omega)]
  rw [e1]
  unfold FR
  rw [if_pos rfl]
  rfl
def args : List AV := [.agg (Go.SX.ofList [.arg 0, .int .i64 (.var 2), .int .i64 (.var 3), .int .i64 (.var 4), .int .i64 (.var 5), .int .i64 (.var 6)]), .arg 1]
def mem : List AObj := [.sym (.var 0) (.var 1) [.int .i64 0] 3, .sym (.var 7) (.var 8) [.int .i64 1, .int .i64 2, .int .i64 3, .int .u64 4, .sl 5 6 7 8] 45]
def tree : Tree :=
(.ite (.cmp .lss (.lit 50) (.var 0))
 (.leaf (.bool (.lit 1)) [])
 (.ite (.cmp .lss (.lit 200) (.var 7))
 (.leaf (.bool (.lit 1)) [])
 (.ite (.cmp .neq (.app 200 (.cons (.var 0) (.cons (.var 2) (.cons (.var 3) (.cons (.var 4) (.cons (.var 5) (.cons (.var 6) .nil))))))) (.lit 0))
 (.leaf (.bool (.lit 1)) [])
 (.ite (.cmp .leq (.lit 4) (.var 3))
 (.ite (.cmp .lss (.lit 1024) (.var 3))
 (.leaf (.bool (.lit 1)) [])
 (.ite (.cmp .leq (.lit 4) (.var 4))
 (.ite (.cmp .lss (.lit 1024) (.var 4))
 (.leaf (.bool (.lit 1)) [])
 (.ite (.cmp .lss (.var 4) (.var 3))
 (.leaf (.bool (.lit 1)) [])
 (.need (.not (.cmp .lss (.mn (.var 3) (.var 4)) (.lit 0))) (.need (.not (.cmp .lss (.lit 1073741824) (.mx (.var 3) (.var 4)))) (.need (.not (.cmp .lss (.var 3) (.var 3))) (.need (.not (.cmp .lss (.var 4) (.var 3))) (.need (.not (.cmp .lss (.var 4) (.var 3))) (.loop 8 [(1008, (.bin .sub .i64 (.var 7) (.lit 0))), (20, (.lit 0)), (30, (.lit 0)), (31, (.lit 0)), (21, (.var 3)), (22, (.lit 0)), (27, (.lit 0)), (23, (.lit 0)), (24, (.lit 0)), (25, (.lit 0)), (26, (.lit 0))]
 (.ite (.cmp .lss (.var 20) (.var 7))
 (.need (.cmp .leq (.lit 0) (.var 20)) (.ite (.cmp .eql (.app 1 (.cons (.var 20) .nil)) (.lit 0))
 (.ite (.cmp .lss (.app 2 (.cons (.var 20) .nil)) (.lit 0))
 (.need (.not (.cmp .lss (.mn (.var 21) (.var 4)) (.lit 0))) (.need (.not (.cmp .lss (.lit 1073741824) (.mx (.var 21) (.var 4)))) (.need (.not (.cmp .lss (.var 21) (.var 3))) (.need (.not (.cmp .lss (.var 4) (.var 21))) (.need (.not (.cmp .lss (.var 4) (.var 3))) (.again 8 [(1008, (.bin .sub .i64 (.var 7) (.bin .add .i64 (.var 20) (.lit 1)))), (20, (.bin .add .i64 (.var 20) (.lit 1))), (30, (.var 30)), (31, (.var 31)), (21, (.var 21)), (22, (.var 22)), (27, (.var 27)), (23, (.var 23)), (24, (.var 24)), (25, (.var 25)), (26, (.var 26))]))))))
 (.ite (.cmp .lss (.lit 4611686018427387903) (.app 2 (.cons (.var 20) .nil)))
 (.need (.not (.cmp .lss (.mn (.var 21) (.var 4)) (.lit 0))) (.need (.not (.cmp .lss (.lit 1073741824) (.mx (.var 21) (.var 4)))) (.need (.not (.cmp .lss (.var 21) (.var 3))) (.need (.not (.cmp .lss (.var 4) (.var 21))) (.need (.not (.cmp .lss (.var 4) (.var 3))) (.again 8 [(1008, (.bin .sub .i64 (.var 7) (.bin .add .i64 (.var 20) (.lit 1)))), (20, (.bin .add .i64 (.var 20) (.lit 1))), (30, (.var 30)), (31, (.var 31)), (21, (.var 21)), (22, (.var 22)), (27, (.var 27)), (23, (.var 23)), (24, (.var 24)), (25, (.var 25)), (26, (.var 26))]))))))
 (.ite (.cmp .eql (.var 27) (.lit 0))
 (.ite (.cmp .lss (.app 2 (.cons (.var 20) .nil)) (.var 23))
 (.need (.not (.cmp .lss (.mn (.var 21) (.var 4)) (.lit 0))) (.need (.not (.cmp .lss (.lit 1073741824) (.mx (.var 21) (.var 4)))) (.need (.not (.cmp .lss (.var 21) (.var 3))) (.need (.not (.cmp .lss (.var 4) (.var 21))) (.need (.not (.cmp .lss (.var 4) (.var 3))) (.again 8 [(1008, (.bin .sub .i64 (.var 7) (.bin .add .i64 (.var 20) (.lit 1)))), (20, (.bin .add .i64 (.var 20) (.lit 1))), (30, (.var 30)), (31, (.var 31)), (21, (.var 21)), (22, (.var 22)), (27, (.var 27)), (23, (.var 23)), (24, (.var 24)), (25, (.var 25)), (26, (.var 26))]))))))
 (.ite (.cmp .eql (.app 4 (.cons (.var 20) .nil)) (.lit 0))
 (.need (.not (.cmp .lss (.mn (.var 21) (.var 4)) (.lit 0))) (.need (.not (.cmp .lss (.lit 1073741824) (.mx (.var 21) (.var 4)))) (.need (.not (.cmp .lss (.var 21) (.var 3))) (.need (.not (.cmp .lss (.var 4) (.var 21))) (.need (.not (.cmp .lss (.var 4) (.var 3))) (.again 8 [(1008, (.bin .sub .i64 (.var 7) (.bin .add .i64 (.var 20) (.lit 1)))), (20, (.bin .add .i64 (.var 20) (.lit 1))), (30, (.var 30)), (31, (.var 31)), (21, (.var 21)), (22, (.var 22)), (27, (.var 27)), (23, (.var 23)), (24, (.var 24)), (25, (.var 25)), (26, (.var 26))]))))))
 (.ite (.cmp .neq (.conv .u64 (.app 4 (.cons (.var 20) .nil))) (.app 4 (.cons (.var 20) .nil)))
 (.leaf (.bool (.lit 0)) [])
 (.ite (.var 31)
 (.ite (.cmp .lss (.app 2 (.cons (.var 20) .nil)) (.bin .add .i64 (.var 30) (.bin .mul .i64 (.var 3) (.lit 1000000000))))
 (.leaf (.bool (.lit 0)) [])
 (.need (.not (.cmp .lss (.mn (.var 21) (.var 4)) (.lit 0))) (.need (.not (.cmp .lss (.lit 1073741824) (.mx (.var 21) (.var 4)))) (.need (.not (.cmp .lss (.var 21) (.var 3))) (.need (.not (.cmp .lss (.var 4) (.var 21))) (.need (.not (.cmp .lss (.var 4) (.var 3))) (.again 8 [(1008, (.bin .sub .i64 (.var 7) (.bin .add .i64 (.var 20) (.lit 1)))), (20, (.bin .add .i64 (.var 20) (.lit 1))), (30, (.app 2 (.cons (.var 20) .nil))), (31, (.lit 1)), (21, (.var 21)), (22, (.var 22)), (27, (.lit 1)), (23, (.var 23)), (24, (.app 2 (.cons (.var 20) .nil))), (25, (.app 3 (.cons (.var 20) .nil))), (26, (.app 4 (.cons (.var 20) .nil)))])))))))
 (.need (.not (.cmp .lss (.mn (.var 21) (.var 4)) (.lit 0))) (.need (.not (.cmp .lss (.lit 1073741824) (.mx (.var 21) (.var 4)))) (.need (.not (.cmp .lss (.var 21) (.var 3))) (.need (.not (.cmp .lss (.var 4) (.var 21))) (.need (.not (.cmp .lss (.var 4) (.var 3))) (.again 8 [(1008, (.bin .sub .i64 (.var 7) (.bin .add .i64 (.var 20) (.lit 1)))), (20, (.bin .add .i64 (.var 20) (.lit 1))), (30, (.app 2 (.cons (.var 20) .nil))), (31, (.lit 1)), (21, (.var 21)), (22, (.var 22)), (27, (.lit 1)), (23, (.var 23)), (24, (.app 2 (.cons (.var 20) .nil))), (25, (.app 3 (.cons (.var 20) .nil))), (26, (.app 4 (.cons (.var 20) .nil)))]))))))))))
 (.need (.not (.cmp .lss (.mn (.var 21) (.var 4)) (.lit 0))) (.need (.not (.cmp .lss (.lit 1073741824) (.mx (.var 21) (.var 4)))) (.need (.not (.cmp .lss (.var 21) (.var 3))) (.need (.not (.cmp .lss (.var 4) (.var 21))) (.need (.not (.cmp .lss (.var 4) (.var 3))) (.again 8 [(1008, (.bin .sub .i64 (.var 7) (.bin .add .i64 (.var 20) (.lit 1)))), (20, (.bin .add .i64 (.var 20) (.lit 1))), (30, (.var 30)), (31, (.var 31)), (21, (.var 21)), (22, (.var 22)), (27, (.var 27)), (23, (.var 23)), (24, (.var 24)), (25, (.var 25)), (26, (.var 26))])))))))))
 (.ite (.cmp .eql (.app 1 (.cons (.var 20) .nil)) (.lit 1))
 (.ite (.cmp .eql (.var 27) (.lit 1))
 (.ite (.cmp .leq (.app 2 (.cons (.var 20) .nil)) (.bin .add .i64 (.var 24) (.bin .mul .i64 (.var 5) (.lit 1000000))))
 (.need (.not (.cmp .lss (.mn (.var 21) (.var 4)) (.lit 0))) (.need (.not (.cmp .lss (.lit 1073741824) (.mx (.var 21) (.var 4)))) (.need (.not (.cmp .lss (.var 21) (.var 3))) (.need (.not (.cmp .lss (.var 4) (.var 21))) (.need (.not (.cmp .lss (.var 4) (.var 3))) (.again 8 [(1008, (.bin .sub .i64 (.var 7) (.bin .add .i64 (.var 20) (.lit 1)))), (20, (.bin .add .i64 (.var 20) (.lit 1))), (30, (.var 30)), (31, (.var 31)), (21, (.var 21)), (22, (.var 22)), (27, (.var 27)), (23, (.var 23)), (24, (.var 24)), (25, (.var 25)), (26, (.var 26))]))))))
 (.ite (.cmp .lss (.mn (.bin .mul .i64 (.lit 2) (.var 21)) (.var 4)) (.var 3))
 (.leaf (.bool (.lit 0)) [])
 (.ite (.cmp .lss (.var 4) (.mn (.bin .mul .i64 (.lit 2) (.var 21)) (.var 4)))
 (.leaf (.bool (.lit 0)) [])
 (.need (.not (.cmp .lss (.mn (.mn (.bin .mul .i64 (.lit 2) (.var 21)) (.var 4)) (.var 4)) (.lit 0))) (.need (.not (.cmp .lss (.lit 1073741824) (.mx (.mn (.bin .mul .i64 (.lit 2) (.var 21)) (.var 4)) (.var 4)))) (.need (.not (.cmp .lss (.mn (.bin .mul .i64 (.lit 2) (.var 21)) (.var 4)) (.var 3))) (.need (.not (.cmp .lss (.var 4) (.mn (.bin .mul .i64 (.lit 2) (.var 21)) (.var 4)))) (.need (.not (.cmp .lss (.var 4) (.var 3))) (.again 8 [(1008, (.bin .sub .i64 (.var 7) (.bin .add .i64 (.var 20) (.lit 1)))), (20, (.bin .add .i64 (.var 20) (.lit 1))), (30, (.var 30)), (31, (.var 31)), (21, (.mn (.bin .mul .i64 (.lit 2) (.var 21)) (.var 4))), (22, (.bin .add .i64 (.var 22) (.lit 1))), (27, (.lit 0)), (23, (.bin .add .i64 (.var 24) (.bin .mul .i64 (.mn (.bin .mul .i64 (.lit 2) (.var 21)) (.var 4)) (.lit 1000000000)))), (24, (.var 24)), (25, (.var 25)), (26, (.var 26))])))))))))
 (.need (.not (.cmp .lss (.mn (.var 21) (.var 4)) (.lit 0))) (.need (.not (.cmp .lss (.lit 1073741824) (.mx (.var 21) (.var 4)))) (.need (.not (.cmp .lss (.var 21) (.var 3))) (.need (.not (.cmp .lss (.var 4) (.var 21))) (.need (.not (.cmp .lss (.var 4) (.var 3))) (.again 8 [(1008, (.bin .sub .i64 (.var 7) (.bin .add .i64 (.var 20) (.lit 1)))), (20, (.bin .add .i64 (.var 20) (.lit 1))), (30, (.var 30)), (31, (.var 31)), (21, (.var 21)), (22, (.var 22)), (27, (.var 27)), (23, (.var 23)), (24, (.var 24)), (25, (.var 25)), (26, (.var 26))])))))))
 (.ite (.cmp .eql (.var 27) (.lit 2))
 (.need (.not (.cmp .lss (.mn (.var 21) (.var 4)) (.lit 0))) (.need (.not (.cmp .lss (.lit 1073741824) (.mx (.var 21) (.var 4)))) (.need (.not (.cmp .lss (.var 21) (.var 3))) (.need (.not (.cmp .lss (.var 4) (.var 21))) (.need (.not (.cmp .lss (.var 4) (.var 3))) (.again 8 [(1008, (.bin .sub .i64 (.var 7) (.bin .add .i64 (.var 20) (.lit 1)))), (20, (.bin .add .i64 (.var 20) (.lit 1))), (30, (.var 30)), (31, (.var 31)), (21, (.var 21)), (22, (.var 22)), (27, (.var 27)), (23, (.var 23)), (24, (.var 24)), (25, (.var 25)), (26, (.var 26))]))))))
 (.ite (.cmp .eql (.var 27) (.lit 0))
 (.need (.not (.cmp .lss (.mn (.var 21) (.var 4)) (.lit 0))) (.need (.not (.cmp .lss (.lit 1073741824) (.mx (.var 21) (.var 4)))) (.need (.not (.cmp .lss (.var 21) (.var 3))) (.need (.not (.cmp .lss (.var 4) (.var 21))) (.need (.not (.cmp .lss (.var 4) (.var 3))) (.again 8 [(1008, (.bin .sub .i64 (.var 7) (.bin .add .i64 (.var 20) (.lit 1)))), (20, (.bin .add .i64 (.var 20) (.lit 1))), (30, (.var 30)), (31, (.var 31)), (21, (.var 21)), (22, (.var 22)), (27, (.var 27)), (23, (.var 23)), (24, (.var 24)), (25, (.var 25)), (26, (.var 26))]))))))
 (.ite (.cmp .lss (.app 7 (.cons (.var 20) .nil)) (.lit 48))
 (.need (.not (.cmp .lss (.mn (.var 21) (.var 4)) (.lit 0))) (.need (.not (.cmp .lss (.lit 1073741824) (.mx (.var 21) (.var 4)))) (.need (.not (.cmp .lss (.var 21) (.var 3))) (.need (.not (.cmp .lss (.var 4) (.var 21))) (.need (.not (.cmp .lss (.var 4) (.var 3))) (.again 8 [(1008, (.bin .sub .i64 (.var 7) (.bin .add .i64 (.var 20) (.lit 1)))), (20, (.bin .add .i64 (.var 20) (.lit 1))), (30, (.var 30)), (31, (.var 31)), (21, (.var 21)), (22, (.var 22)), (27, (.var 27)), (23, (.var 23)), (24, (.var 24)), (25, (.var 25)), (26, (.var 26))]))))))
 (.ite (.cmp .eql (.bin .and .u8 (.bin .shr .u8 (.app 202 (.cons (.app 5 (.cons (.var 20) .nil)) (.cons (.app 6 (.cons (.var 20) .nil)) (.cons (.lit 0) .nil)))) (.lit 3)) (.lit 7)) (.lit 4))
 (.ite (.cmp .eql (.bin .and .u8 (.app 202 (.cons (.app 5 (.cons (.var 20) .nil)) (.cons (.app 6 (.cons (.var 20) .nil)) (.cons (.lit 0) .nil)))) (.lit 7)) (.lit 4))
 (.ite (.cmp .eql (.var 26) (.lit 0))
 (.need (.not (.cmp .lss (.mn (.var 21) (.var 4)) (.lit 0))) (.need (.not (.cmp .lss (.lit 1073741824) (.mx (.var 21) (.var 4)))) (.need (.not (.cmp .lss (.var 21) (.var 3))) (.need (.not (.cmp .lss (.var 4) (.var 21))) (.need (.not (.cmp .lss (.var 4) (.var 3))) (.again 8 [(1008, (.bin .sub .i64 (.var 7) (.bin .add .i64 (.var 20) (.lit 1)))), (20, (.bin .add .i64 (.var 20) (.lit 1))), (30, (.var 30)), (31, (.var 31)), (21, (.var 21)), (22, (.var 22)), (27, (.var 27)), (23, (.var 23)), (24, (.var 24)), (25, (.var 25)), (26, (.var 26))]))))))
 (.ite (.cmp .eql (.bin .or .u64 (.bin .shl .u64 (.bin .or .u64 (.bin .shl .u64 (.bin .or .u64 (.bin .shl .u64 (.bin .or .u64 (.bin .shl .u64 (.bin .or .u64 (.bin .shl .u64 (.bin .or .u64 (.bin .shl .u64 (.bin .or .u64 (.bin .shl .u64 (.bin .or .u64 (.lit 0) (.conv .u64 (.app 202 (.cons (.app 5 (.cons (.var 20) .nil)) (.cons (.app 6 (.cons (.var 20) .nil)) (.cons (.lit 24) .nil)))))) (.lit 8)) (.conv .u64 (.app 202 (.cons (.app 5 (.cons (.var 20) .nil)) (.cons (.app 6 (.cons (.var 20) .nil)) (.cons (.lit 25) .nil)))))) (.lit 8)) (.conv .u64 (.app 202 (.cons (.app 5 (.cons (.var 20) .nil)) (.cons (.app 6 (.cons (.var 20) .nil)) (.cons (.lit 26) .nil)))))) (.lit 8)) (.conv .u64 (.app 202 (.cons (.app 5 (.cons (.var 20) .nil)) (.cons (.app 6 (.cons (.var 20) .nil)) (.cons (.lit 27) .nil)))))) (.lit 8)) (.conv .u64 (.app 202 (.cons (.app 5 (.cons (.var 20) .nil)) (.cons (.app 6 (.cons (.var 20) .nil)) (.cons (.lit 28) .nil)))))) (.lit 8)) (.conv .u64 (.app 202 (.cons (.app 5 (.cons (.var 20) .nil)) (.cons (.app 6 (.cons (.var 20) .nil)) (.cons (.lit 29) .nil)))))) (.lit 8)) (.conv .u64 (.app 202 (.cons (.app 5 (.cons (.var 20) .nil)) (.cons (.app 6 (.cons (.var 20) .nil)) (.cons (.lit 30) .nil)))))) (.lit 8)) (.conv .u64 (.app 202 (.cons (.app 5 (.cons (.var 20) .nil)) (.cons (.app 6 (.cons (.var 20) .nil)) (.cons (.lit 31) .nil)))))) (.var 26))
 (.ite (.cmp .neq (.app 202 (.cons (.app 5 (.cons (.var 20) .nil)) (.cons (.app 6 (.cons (.var 20) .nil)) (.cons (.lit 1) .nil)))) (.lit 0))
 (.ite (.cmp .neq (.bin .shr .u8 (.app 202 (.cons (.app 5 (.cons (.var 20) .nil)) (.cons (.app 6 (.cons (.var 20) .nil)) (.cons (.lit 0) .nil)))) (.lit 6)) (.lit 3))
 (.ite (.cmp .leq (.app 202 (.cons (.app 5 (.cons (.var 20) .nil)) (.cons (.app 6 (.cons (.var 20) .nil)) (.cons (.lit 1) .nil)))) (.lit 15))
 (.ite (.cmp .neq (.mn (.bin .or .u64 (.bin .shl .u64 (.bin .or .u64 (.bin .shl .u64 (.bin .or .u64 (.bin .shl .u64 (.bin .or .u64 (.bin .shl .u64 (.bin .or .u64 (.bin .shl .u64 (.bin .or .u64 (.bin .shl .u64 (.bin .or .u64 (.bin .shl .u64 (.bin .or .u64 (.lit 0) (.conv .u64 (.app 202 (.cons (.app 5 (.cons (.var 20) .nil)) (.cons (.app 6 (.cons (.var 20) .nil)) (.cons (.lit 32) .nil)))))) (.lit 8)) (.conv .u64 (.app 202 (.cons (.app 5 (.cons (.var 20) .nil)) (.cons (.app 6 (.cons (.var 20) .nil)) (.cons (.lit 33) .nil)))))) (.lit 8)) (.conv .u64 (.app 202 (.cons (.app 5 (.cons (.var 20) .nil)) (.cons (.app 6 (.cons (.var 20) .nil)) (.cons (.lit 34) .nil)))))) (.lit 8)) (.conv .u64 (.app 202 (.cons (.app 5 (.cons (.var 20) .nil)) (.cons (.app 6 (.cons (.var 20) .nil)) (.cons (.lit 35) .nil)))))) (.lit 8)) (.conv .u64 (.app 202 (.cons (.app 5 (.cons (.var 20) .nil)) (.cons (.app 6 (.cons (.var 20) .nil)) (.cons (.lit 36) .nil)))))) (.lit 8)) (.conv .u64 (.app 202 (.cons (.app 5 (.cons (.var 20) .nil)) (.cons (.app 6 (.cons (.var 20) .nil)) (.cons (.lit 37) .nil)))))) (.lit 8)) (.conv .u64 (.app 202 (.cons (.app 5 (.cons (.var 20) .nil)) (.cons (.app 6 (.cons (.var 20) .nil)) (.cons (.lit 38) .nil)))))) (.lit 8)) (.conv .u64 (.app 202 (.cons (.app 5 (.cons (.var 20) .nil)) (.cons (.app 6 (.cons (.var 20) .nil)) (.cons (.lit 39) .nil)))))) (.bin .or .u64 (.bin .shl .u64 (.bin .or .u64 (.bin .shl .u64 (.bin .or .u64 (.bin .shl .u64 (.bin .or .u64 (.bin .shl .u64 (.bin .or .u64 (.bin .shl .u64 (.bin .or .u64 (.bin .shl .u64 (.bin .or .u64 (.bin .shl .u64 (.bin .or .u64 (.lit 0) (.conv .u64 (.app 202 (.cons (.app 5 (.cons (.var 20) .nil)) (.cons (.app 6 (.cons (.var 20) .nil)) (.cons (.lit 40) .nil)))))) (.lit 8)) (.conv .u64 (.app 202 (.cons (.app 5 (.cons (.var 20) .nil)) (.cons (.app 6 (.cons (.var 20) .nil)) (.cons (.lit 41) .nil)))))) (.lit 8)) (.conv .u64 (.app 202 (.cons (.app 5 (.cons (.var 20) .nil)) (.cons (.app 6 (.cons (.var 20) .nil)) (.cons (.lit 42) .nil)))))) (.lit 8)) (.conv .u64 (.app 202 (.cons (.app 5 (.cons (.var 20) .nil)) (.cons (.app 6 (.cons (.var 20) .nil)) (.cons (.lit 43) .nil)))))) (.lit 8)) (.conv .u64 (.app 202 (.cons (.app 5 (.cons (.var 20) .nil)) (.cons (.app 6 (.cons (.var 20) .nil)) (.cons (.lit 44) .nil)))))) (.lit 8)) (.conv .u64 (.app 202 (.cons (.app 5 (.cons (.var 20) .nil)) (.cons (.app 6 (.cons (.var 20) .nil)) (.cons (.lit 45) .nil)))))) (.lit 8)) (.conv .u64 (.app 202 (.cons (.app 5 (.cons (.var 20) .nil)) (.cons (.app 6 (.cons (.var 20) .nil)) (.cons (.lit 46) .nil)))))) (.lit 8)) (.conv .u64 (.app 202 (.cons (.app 5 (.cons (.var 20) .nil)) (.cons (.app 6 (.cons (.var 20) .nil)) (.cons (.lit 47) .nil))))))) (.lit 0))
 (.ite (.cmp .eql (.var 27) (.lit 1))
 (.ite (.cmp .lss (.bin .add .i64 (.var 24) (.bin .mul .i64 (.var 5) (.lit 1000000))) (.app 2 (.cons (.var 20) .nil)))
 (.need (.not (.cmp .lss (.mn (.var 21) (.var 4)) (.lit 0))) (.need (.not (.cmp .lss (.lit 1073741824) (.mx (.var 21) (.var 4)))) (.need (.not (.cmp .lss (.var 21) (.var 3))) (.need (.not (.cmp .lss (.var 4) (.var 21))) (.need (.not (.cmp .lss (.var 4) (.var 3))) (.again 8 [(1008, (.bin .sub .i64 (.var 7) (.bin .add .i64 (.var 20) (.lit 1)))), (20, (.bin .add .i64 (.var 20) (.lit 1))), (30, (.var 30)), (31, (.var 31)), (21, (.var 21)), (22, (.var 22)), (27, (.var 27)), (23, (.var 23)), (24, (.var 24)), (25, (.var 25)), (26, (.var 26))]))))))
 (.need (.not (.cmp .lss (.mn (.var 3) (.var 4)) (.lit 0))) (.need (.not (.cmp .lss (.lit 1073741824) (.mx (.var 3) (.var 4)))) (.need (.not (.cmp .lss (.var 3) (.var 3))) (.need (.not (.cmp .lss (.var 4) (.var 3))) (.need (.not (.cmp .lss (.var 4) (.var 3))) (.again 8 [(1008, (.bin .sub .i64 (.var 7) (.bin .add .i64 (.var 20) (.lit 1)))), (20, (.bin .add .i64 (.var 20) (.lit 1))), (30, (.var 30)), (31, (.var 31)), (21, (.var 3)), (22, (.lit 0)), (27, (.lit 0)), (23, (.bin .add .i64 (.var 24) (.bin .mul .i64 (.var 3) (.lit 1000000000)))), (24, (.var 24)), (25, (.var 25)), (26, (.var 26))])))))))
 (.need (.not (.cmp .lss (.mn (.var 3) (.var 4)) (.lit 0))) (.need (.not (.cmp .lss (.lit 1073741824) (.mx (.var 3) (.var 4)))) (.need (.not (.cmp .lss (.var 3) (.var 3))) (.need (.not (.cmp .lss (.var 4) (.var 3))) (.need (.not (.cmp .lss (.var 4) (.var 3))) (.again 8 [(1008, (.bin .sub .i64 (.var 7) (.bin .add .i64 (.var 20) (.lit 1)))), (20, (.bin .add .i64 (.var 20) (.lit 1))), (30, (.var 30)), (31, (.var 31)), (21, (.var 3)), (22, (.lit 0)), (27, (.lit 0)), (23, (.bin .add .i64 (.var 24) (.bin .mul .i64 (.var 3) (.lit 1000000000)))), (24, (.var 24)), (25, (.var 25)), (26, (.var 26))])))))))
 (.need (.not (.cmp .lss (.mn (.var 21) (.var 4)) (.lit 0))) (.need (.not (.cmp .lss (.lit 1073741824) (.mx (.var 21) (.var 4)))) (.need (.not (.cmp .lss (.var 21) (.var 3))) (.need (.not (.cmp .lss (.var 4) (.var 21))) (.need (.not (.cmp .lss (.var 4) (.var 3))) (.again 8 [(1008, (.bin .sub .i64 (.var 7) (.bin .add .i64 (.var 20) (.lit 1)))), (20, (.bin .add .i64 (.var 20) (.lit 1))), (30, (.var 30)), (31, (.var 31)), (21, (.var 21)), (22, (.var 22)), (27, (.var 27)), (23, (.var 23)), (24, (.var 24)), (25, (.var 25)), (26, (.var 26))])))))))
 (.need (.not (.cmp .lss (.mn (.var 21) (.var 4)) (.lit 0))) (.need (.not (.cmp .lss (.lit 1073741824) (.mx (.var 21) (.var 4)))) (.need (.not (.cmp .lss (.var 21) (.var 3))) (.need (.not (.cmp .lss (.var 4) (.var 21))) (.need (.not (.cmp .lss (.var 4) (.var 3))) (.again 8 [(1008, (.bin .sub .i64 (.var 7) (.bin .add .i64 (.var 20) (.lit 1)))), (20, (.bin .add .i64 (.var 20) (.lit 1))), (30, (.var 30)), (31, (.var 31)), (21, (.var 21)), (22, (.var 22)), (27, (.var 27)), (23, (.var 23)), (24, (.var 24)), (25, (.var 25)), (26, (.var 26))])))))))
 (.need (.not (.cmp .lss (.mn (.var 21) (.var 4)) (.lit 0))) (.need (.not (.cmp .lss (.lit 1073741824) (.mx (.var 21) (.var 4)))) (.need (.not (.cmp .lss (.var 21) (.var 3))) (.need (.not (.cmp .lss (.var 4) (.var 21))) (.need (.not (.cmp .lss (.var 4) (.var 3))) (.again 8 [(1008, (.bin .sub .i64 (.var 7) (.bin .add .i64 (.var 20) (.lit 1)))), (20, (.bin .add .i64 (.var 20) (.lit 1))), (30, (.var 30)), (31, (.var 31)), (21, (.var 21)), (22, (.var 22)), (27, (.var 27)), (23, (.var 23)), (24, (.var 24)), (25, (.var 25)), (26, (.var 26))])))))))
 (.need (.not (.cmp .lss (.mn (.var 21) (.var 4)) (.lit 0))) (.need (.not (.cmp .lss (.lit 1073741824) (.mx (.var 21) (.var 4)))) (.need (.not (.cmp .lss (.var 21) (.var 3))) (.need (.not (.cmp .lss (.var 4) (.var 21))) (.need (.not (.cmp .lss (.var 4) (.var 3))) (.again 8 [(1008, (.bin .sub .i64 (.var 7) (.bin .add .i64 (.var 20) (.lit 1)))), (20, (.bin .add .i64 (.var 20) (.lit 1))), (30, (.var 30)), (31, (.var 31)), (21, (.var 21)), (22, (.var 22)), (27, (.lit 2)), (23, (.var 23)), (24, (.var 24)), (25, (.var 25)), (26, (.var 26))])))))))
 (.need (.not (.cmp .lss (.mn (.var 21) (.var 4)) (.lit 0))) (.need (.not (.cmp .lss (.lit 1073741824) (.mx (.var 21) (.var 4)))) (.need (.not (.cmp .lss (.var 21) (.var 3))) (.need (.not (.cmp .lss (.var 4) (.var 21))) (.need (.not (.cmp .lss (.var 4) (.var 3))) (.again 8 [(1008, (.bin .sub .i64 (.var 7) (.bin .add .i64 (.var 20) (.lit 1)))), (20, (.bin .add .i64 (.var 20) (.lit 1))), (30, (.var 30)), (31, (.var 31)), (21, (.var 21)), (22, (.var 22)), (27, (.var 27)), (23, (.var 23)), (24, (.var 24)), (25, (.var 25)), (26, (.var 26))]))))))))
 (.need (.not (.cmp .lss (.mn (.var 21) (.var 4)) (.lit 0))) (.need (.not (.cmp .lss (.lit 1073741824) (.mx (.var 21) (.var 4)))) (.need (.not (.cmp .lss (.var 21) (.var 3))) (.need (.not (.cmp .lss (.var 4) (.var 21))) (.need (.not (.cmp .lss (.var 4) (.var 3))) (.again 8 [(1008, (.bin .sub .i64 (.var 7) (.bin .add .i64 (.var 20) (.lit 1)))), (20, (.bin .add .i64 (.var 20) (.lit 1))), (30, (.var 30)), (31, (.var 31)), (21, (.var 21)), (22, (.var 22)), (27, (.var 27)), (23, (.var 23)), (24, (.var 24)), (25, (.var 25)), (26, (.var 26))])))))))
 (.need (.not (.cmp .lss (.mn (.var 21) (.var 4)) (.lit 0))) (.need (.not (.cmp .lss (.lit 1073741824) (.mx (.var 21) (.var 4)))) (.need (.not (.cmp .lss (.var 21) (.var 3))) (.need (.not (.cmp .lss (.var 4) (.var 21))) (.need (.not (.cmp .lss (.var 4) (.var 3))) (.again 8 [(1008, (.bin .sub .i64 (.var 7) (.bin .add .i64 (.var 20) (.lit 1)))), (20, (.bin .add .i64 (.var 20) (.lit 1))), (30, (.var 30)), (31, (.var 31)), (21, (.var 21)), (22, (.var 22)), (27, (.var 27)), (23, (.var 23)), (24, (.var 24)), (25, (.var 25)), (26, (.var 26))])))))))))))))
 (.leaf (.bool (.lit 1)) []))))))))))
 (.leaf (.bool (.lit 1)) [])))
 (.leaf (.bool (.lit 1)) [])))))
set_option maxHeartbeats 40000000 in
theorem tree_eq : callT Try.prog cfg 100000 0 5 args mem [] = tree := by kernel_rfl
def Inv : Nat → Env → Prop := fun _ ρ => (0 ≤ ρ.v 7 ∧ ρ.v 7 ≤ 200) ∧ (4 ≤ ρ.v 3 ∧ ρ.v 3 ≤ ρ.v 4 ∧ ρ.v 4 ≤ 1024) ∧ (0 ≤ ρ.v 20 ∧ ρ.v 20 ≤ ρ.v 7) ∧ (ρ.v 3 ≤ ρ.v 21 ∧ ρ.v 21 ≤ ρ.v 4) ∧ (ρ.v 27 = 0 ∨ ρ.v 27 = 1 ∨ ρ.v 27 = 2) ∧ (0 ≤ ρ.v 24 ∧ ρ.v 24 ≤ 4611686018427387903) ∧
  (ρ.v 31 ≠ 0 → ρ.v 24 = ρ.v 30 ∧ (ρ.v 27 = 0 → ρ.v 30 + ρ.v 3 * 1000000000 ≤ ρ.v 23)) ∧ (∀ i : Int, 0 ≤ i → i < ρ.v 7 → inR .i64 (ρ.f 2 [i]) = true ∧ inR .u64 (ρ.f 4 [i]) = true) ∧ ρ.v 1008 = ρ.v 7 - ρ.v 20
theorem ag3 {ρ : Env} (hI : Inv 8 ρ) (c : ρ.v 20 < ρ.v 7) {l s n t st d se cc k : SE} (hn : ρ.v 3 ≤ den ρ n ∧ den ρ n ≤ ρ.v 4) (hst : den ρ st = 0 ∨ den ρ st = 1 ∨ den ρ st = 2) (hse : 0 ≤ den ρ se ∧ den ρ se ≤ 4611686018427387903)
    (hs : den ρ s ≠ 0 → den ρ se = den ρ l ∧ (den ρ st = 0 → den ρ l + ρ.v 3 * 1000000000 ≤ den ρ d)) :
    (Tree.need (.not (.cmp .lss n (.var 3))) (.need (.not (.cmp .lss (.var 4) n)) (.need (.not (.cmp .lss (.var 4) (.var 3))) (.again 8 [(1008, .bin .sub .i64 (.var 7) (.bin .add .i64 (.var 20) (.lit 1))), (20, .bin .add .i64 (.var 20) (.lit 1)), (30, l), (31, s), (21, n), (22, t), (27, st), (23, d), (24, se), (25, cc), (26, k)])))).holds Inv saysTrue ρ := by
  obtain ⟨i7, i3, i20, i21, i27, i24, i31, i8, im⟩ := hI
  have dV : ∀ n, den ρ (.var n) = ρ.v n := fun _ => rfl
  have a7 : binI .add .i64 (ρ.v 20) 1 = ρ.v 20 + 1 := add_i64 (by omega) (by omega)
  refine ⟨by rw [ev_not, ev_lss']; exact hn.1, by rw [ev_not, ev_lss']; exact hn.2, by rw [ev_not, ev_lss']; simp only [dV]; omega, ⟨i7, i3, ?_, hn, hst, hse, hs, i8, ?_⟩, ?_⟩
  · show 0 ≤ binI .add .i64 (ρ.v 20) 1 ∧ binI .add .i64 (ρ.v 20) 1 ≤ ρ.v 7
    rw [a7]; omega
  · show binI .sub .i64 (ρ.v 7) (binI .add .i64 (ρ.v 20) 1) = ρ.v 7 - binI .add .i64 (ρ.v 20) 1
    rw [a7]; exact sub_i64 (by omega) (by omega)
  · show (binI .sub .i64 (ρ.v 7) (binI .add .i64 (ρ.v 20) 1)).toNat < (ρ.v 1008).toNat
    rw [a7, sub_i64 (by omega) (by omega), im]
    omega
theorem ag5 {ρ : Env} (hI : Inv 8 ρ) (c : ρ.v 20 < ρ.v 7) {l s n t st d se cc k : SE} (hn : ρ.v 3 ≤ den ρ n ∧ den ρ n ≤ ρ.v 4) (hst : den ρ st = 0 ∨ den ρ st = 1 ∨ den ρ st = 2) (hse : 0 ≤ den ρ se ∧ den ρ se ≤ 4611686018427387903)
    (hs : den ρ s ≠ 0 → den ρ se = den ρ l ∧ (den ρ st = 0 → den ρ l + ρ.v 3 * 1000000000 ≤ den ρ d)) :
    (Tree.need (.not (.cmp .lss (.mn n (.var 4)) (.lit 0))) (.need (.not (.cmp .lss (.lit 1073741824) (.mx n (.var 4)))) (.need (.not (.cmp .lss n (.var 3))) (.need (.not (.cmp .lss (.var 4) n)) (.need (.not (.cmp .lss (.var 4) (.var 3))) (.again 8 [(1008, .bin .sub .i64 (.var 7) (.bin .add .i64 (.var 20) (.lit 1))), (20, .bin .add .i64 (.var 20) (.lit 1)), (30, l), (31, s), (21, n), (22, t), (27, st), (23, d), (24, se), (25, cc), (26, k)])))))).holds Inv saysTrue ρ := by
  have hI' := hI
  obtain ⟨i7, i3, i20, i21, i27, i24, i31, i8, im⟩ := hI'
  refine ⟨?_, ?_, ag3 hI c hn hst hse hs⟩
  · rw [ev_not, ev_lss']
    show 0 ≤ if ρ.v 4 < den ρ n then ρ.v 4 else den ρ n
    split <;> omega
  · rw [ev_not, ev_lss']
    show (if ρ.v 4 > den ρ n then ρ.v 4 else den ρ n) ≤ 1073741824
    split <;> omega
theorem tree_holds (ρ : Env) (h0 : 0 ≤ ρ.v 0) (h1 : ρ.v 0 ≤ ρ.v 1) (_ : ∀ i : Int, 0 ≤ i → i < ρ.v 0 → inR .i64 (ρ.f 0 [i]) = true) (h2 : inR .i64 (ρ.v 2) = true) (h3 : inR .i64 (ρ.v 3) = true) (h4 : inR .i64 (ρ.v 4) = true) (h5 : inR .i64 (ρ.v 5) = true) (h6 : inR .i64 (ρ.v 6) = true)
    (h7 : 0 ≤ ρ.v 7) (_ : ρ.v 7 ≤ ρ.v 8) (_ : ∀ i : Int, 0 ≤ i → i < ρ.v 7 → inR .i64 (ρ.f 1 [i]) = true) (g2 : ∀ i : Int, 0 ≤ i → i < ρ.v 7 → inR .i64 (ρ.f 2 [i]) = true) (_ : ∀ i : Int, 0 ≤ i → i < ρ.v 7 → inR .i64 (ρ.f 3 [i]) = true)
    (g4 : ∀ i : Int, 0 ≤ i → i < ρ.v 7 → inR .u64 (ρ.f 4 [i]) = true) (hf : ∀ j, 100 ≤ j → j < 200 → ρ.f j = F j) (hC : ∀ l, ρ.f 200 l = chkF (fun i => ρ.f 0 [i]) l) : tree.holds Inv saysTrue ρ := by
  have l1 : ∀ {ρ : Env} {m : List AObj}, (Tree.leaf (.bool (.lit 1)) m).holds Inv saysTrue ρ := says1
  unfold tree
  refine ⟨fun _ => l1, fun _ => ⟨fun _ => l1, fun h200 => ⟨fun _ => l1, fun _ => ⟨fun e1 => ⟨fun _ => l1, fun e2 => ⟨fun e3 => ⟨fun _ => l1, fun e4 => ⟨fun _ => l1, fun e5 => ⟨?_, ?_, ?_, ?_, ?_, ?_, fun ρ' hf' hI => ?_⟩⟩⟩, fun _ => l1⟩⟩, fun _ => l1⟩⟩⟩⟩
  all_goals (try (rw [ev_lss'] at h200 e2 e4 e5; rw [ev_leq] at e1 e3; simp only [den] at h200 e1 e2 e3 e4 e5))
  · rw [ev_not, ev_lss']
    show 0 ≤ if ρ.v 4 < ρ.v 3 then ρ.v 4 else ρ.v 3
    split <;> omega
  · rw [ev_not, ev_lss']
    show (if ρ.v 4 > ρ.v 3 then ρ.v 4 else ρ.v 3) ≤ 1073741824
    split <;> omega
  · rw [ev_not, ev_lss']; exact Int.le_refl _
  · rw [ev_not, ev_lss']; exact e5
  · rw [ev_not, ev_lss']; exact e5
  · refine ⟨⟨h7, h200⟩, ⟨e1, e5, e4⟩, ⟨Int.le_refl _, h7⟩, ⟨Int.le_refl _, e5⟩, .inl rfl, ⟨Int.le_refl _, show (0 : Int) ≤ 4611686018427387903 by decide⟩, fun h => absurd rfl h, fun i h8 h9 => ⟨g2 i h8 h9, g4 i h8 h9⟩, ?_⟩
    show binI .sub .i64 (ρ.v 7) 0 = ρ.v 7 - 0
    exact sub_i64 (by omega) (by omega)
  · have hI' := hI
    obtain ⟨i7, i3, i20, i21, i27, i24, i31, i8, im⟩ := hI'
    have dB : ∀ op k a b, den ρ' (.bin op k a b) = binI op k (den ρ' a) (den ρ' b) := fun _ _ _ _ => rfl
    have dC : ∀ k a, den ρ' (.conv k a) = k.wrap (den ρ' a) := fun _ _ => rfl
    have dL : ∀ n, den ρ' (.lit n) = n := fun _ => rfl
    have dV : ∀ n, den ρ' (.var n) = ρ'.v n := fun _ => rfl
    have dA : ∀ j, den ρ' (.app j (.cons (.var 20) .nil)) = ρ'.f j [ρ'.v 20] := fun _ => rfl
    refine ⟨fun c => ?_, fun _ => l1⟩
    rw [ev_lss] at c
    simp only [dV] at c
    have K := ag5 (l := .var 30) (s := .var 31) (n := .var 21) (t := .var 22) (st := .var 27) (d := .var 23) (se := .var 24) (cc := .var 25) (k := .var 26) hI c i21 i27 i24 i31
    have Kk := ag5 (l := .var 30) (s := .var 31) (n := .var 21) (t := .var 22) (st := .lit 2) (d := .var 23) (se := .var 24) (cc := .var 25) (k := .var 26) hI c i21 (.inr (.inr rfl)) i24 (fun h => ⟨(i31 h).1, fun h2 => absurd h2 (show (2 : Int) ≠ 0 by decide)⟩)
    obtain ⟨b2, b4⟩ := i8 (ρ'.v 20) i20.1 c
    have b2 := i64_in b2
    have b4 := u64_in b4
    have a4 : binI .mul .i64 (ρ'.v 3) 1000000000 = ρ'.v 3 * 1000000000 := mul_i64 (by omega) (by omega)
    have A : (0 ≤ ρ'.f 2 [ρ'.v 20] ∧ ρ'.f 2 [ρ'.v 20] ≤ 4611686018427387903) → _ := fun h => ag5 (l := .app 2 (.cons (.var 20) .nil)) (s := .lit 1) (n := .var 21) (t := .var 22) (st := .lit 1) (d := .var 23) (se := .app 2 (.cons (.var 20) .nil)) (cc := .app 3 (.cons (.var 20) .nil)) (k := .app 4 (.cons (.var 20) .nil)) hI c i21 (.inr (.inl rfl)) h
      (fun _ => ⟨rfl, fun h2 => absurd h2 (show (1 : Int) ≠ 0 by decide)⟩)
    have G : ρ'.v 27 = 1 → _ := fun h1 => ag5 (l := .var 30) (s := .var 31) (n := .var 3) (t := .lit 0) (st := .lit 0) (d := .bin .add .i64 (.var 24) (.bin .mul .i64 (.var 3) (.lit 1000000000))) (se := .var 24) (cc := .var 25) (k := .var 26) hI c ⟨Int.le_refl _, i3.2.1⟩ (.inl rfl) i24
      (fun h => ⟨(i31 h).1, fun _ => by
        have := (i31 h).1
        simp only [dB, dV, dL]
        rw [a4, add_i64 (by omega) (by omega)]
        omega⟩)
    refine ⟨by rw [ev_leq]; exact i20.1, ⟨fun _ => ⟨fun _ => K, fun h0 => ⟨fun _ => K, fun h1 => ⟨fun h2 => ⟨fun _ => K, fun h3 => ⟨fun _ => K, fun _ => ⟨fun h5 => ?_, fun _ => ⟨fun h6 => ⟨fun h7 => ?_, fun _ => ?_⟩, fun _ => ?_⟩⟩⟩⟩, fun _ => K⟩⟩⟩, fun _ => ⟨fun _ => ⟨fun h1 => ⟨fun _ => K, fun _ => ⟨fun h2 => ?_, fun h2 => ⟨fun h3 => ?_, fun h3 => ?_⟩⟩⟩, fun _ => K⟩,
      fun _ => ⟨fun _ => K, fun n2 => ⟨fun _ => K, fun n0 => ⟨fun _ => K, fun _ => ⟨fun _ => ⟨fun _ => ⟨fun _ => K, fun _ => ⟨fun _ => ⟨fun _ => ⟨fun _ => ⟨fun _ => ⟨fun _ => ⟨fun h1 => ⟨fun _ => K, fun _ => ?_⟩, fun n1 => ?_⟩, fun _ => K⟩, fun _ => K⟩, fun _ => K⟩, fun _ => Kk⟩, fun _ => K⟩⟩, fun _ => K⟩, fun _ => K⟩⟩⟩⟩⟩⟩⟩
    · exfalso
      rw [ev_neq] at h5
      simp only [dC, dA] at h5
      rw [u64_wrap] at h5
      omega
    · exfalso
      rw [ev_lss] at h7
      rw [ev_eql] at h2
      rw [ev_lss'] at h3 h1
      have h6 : ρ'.v 31 ≠ 0 := by simpa [evB, den] using h6
      simp only [dB, dA, dV, dL] at h7 h2 h3 h1
      have i30 := i31 h6
      have := i30.2 h2
      rw [a4, add_i64 (by omega) (by omega)] at h7
      omega
    · rw [ev_lss'] at h0 h1
      simp only [dA, dL] at h0 h1
      exact A ⟨h0, h1⟩
    · rw [ev_lss'] at h0 h1
      simp only [dA, dL] at h0 h1
      exact A ⟨h0, h1⟩
    · exfalso
      rw [ev_lss] at h2
      have a9 : binI .mul .i64 2 (ρ'.v 21) = 2 * ρ'.v 21 := mul_i64 (by omega) (by omega)
      have h2 : (if ρ'.v 4 < binI .mul .i64 2 (ρ'.v 21) then ρ'.v 4 else binI .mul .i64 2 (ρ'.v 21)) < ρ'.v 3 := h2
      rw [a9] at h2
      split at h2 <;> omega
    · exfalso
      rw [ev_lss] at h3
      have h3 : ρ'.v 4 < (if ρ'.v 4 < binI .mul .i64 2 (ρ'.v 21) then ρ'.v 4 else binI .mul .i64 2 (ρ'.v 21)) := h3
      split at h3 <;> omega
    · rw [ev_eql] at h1
      rw [ev_lss'] at h2 h3
      simp only [dV, dL] at h1
      generalize hn : SE.mn (.bin .mul .i64 (.lit 2) (.var 21)) (.var 4) = n at *
      refine ag5 (l := .var 30) (s := .var 31) (n := n) (t := .bin .add .i64 (.var 22) (.lit 1)) (st := .lit 0) (d := .bin .add .i64 (.var 24) (.bin .mul .i64 n (.lit 1000000000))) (se := .var 24) (cc := .var 25) (k := .var 26) hI c ⟨h2, h3⟩ (.inl rfl) i24 (fun h => ⟨(i31 h).1, fun _ => ?_⟩)
      have := (i31 h).1
      simp only [dV] at h2 h3
      simp only [dB, dV, dL]
      rw [mul_i64 (by omega) (by omega), add_i64 (by omega) (by omega)]
      omega
    · rw [ev_eql] at h1
      exact G h1
    · exfalso
      rw [ev_eql'] at n0 n1 n2
      simp only [dV, dL] at n0 n1 n2
      omega
end Go.Proofs.Ytableianhaojcaa.TPeerSpaces
