/- The tree of the law SlewLooks, and that all its ends say true. No conditions. -/
import Derived.Test.YtplkegifilheeaaSX3
import Derived.Test.YtplkegifilheeaaProg
import Derived.KernelRfl
import Derived.Test.YtplkegifilheeaaSX3
import Derived.Test.YtplkegifilheeaaLSa
namespace Go.Proofs.Ytplkegifilheeaa.TSlewLooks
open Go Go.SX
set_option maxRecDepth 100000
set_option linter.unusedVariables false
set_option linter.unusedSimpArgs false
open Go.Proofs.Ytplkegifilheeaa.L Go.Proofs.Ytplkegifilheeaa.G
open Go.Proofs.YtplkegifilheeaaW.PrintWords Go.Proofs.YtplkegifilheeaaW.PrintLast Go.Proofs.YtplkegifilheeaaW.PrintMore
def cfg0 : Cfg := { ok := (List.range 36).map (· + 3), sums := fun _ _ => none, loops := [] }
theorem cfg0_ok (G : Nat → List Int → Int) : CfgOk Try.prog cfg0 G :=
  ⟨by kernel_rfl, okB_spec (by kernel_rfl), fun f args v h => by cases h⟩
set_option maxHeartbeats 40000000 in
theorem alive_eq : callT Try.prog cfg0 100000 0 12 [] [] [] = .leaf (.bool (.lit 1)) [] := by kernel_rfl
theorem alive_calls (w : World) : Calls Try.prog 12 #[] w fun e w' => e = .returned (.bool true) ∧ RowKit.Below w.heap.size w w' :=
  law_run (I := fun _ _ => True) (ρ := ⟨fun _ => 0, fun _ _ => 0⟩) (cfg0_ok fun _ _ => 0) (by rw [alive_eq]; exact says1) rfl (fun _ h => by cases h) rfl (RelM.nil w _)
def clp (a lo hi : Int) : Int := if a < lo then lo else if a > hi then hi else a
def sums : FuncId → List AV → Option AV
  | 17, [.int .i64 a, .int .i64 b, .int .i64 c] => some (.tuple (ofList [.int .i64 (.app 104 (.cons a (.cons b (.cons c .nil)))), .int .i64 (.app 105 (.cons a (.cons b (.cons c .nil))))]))
  | 24, [.int .i64 a, .int .i64 b, .int .i64 c] => some (.int .i64 (.app 106 (.cons a (.cons b (.cons c .nil)))))
  | 12, [] => some (.bool (.lit 1))
  | _, _ => none
def R : SE := .bin .add .i64 (.lit 1) (.conv .i64 (.bin .rem .u16 (.var 2) (.lit 500)))
def H : SE := .conv .i64 (.bin .rem .u64 (.conv .u64 (.var 0)) (.lit 2305843009213693952))
def C : SE := .bin .rem .i64 (.var 1) (.lit 1152921504606846976)
def pc : List (SE × Bool) := [(.cmp .lss R (.lit 1), false), (.cmp .lss (.lit 500) R, false), (.cmp .lss H (.lit 0), false), (.cmp .lss (.lit 4611686018427387903) H, false),
  (.cmp .lss C (.lit (-2305843009213693952)), false), (.cmp .lss (.lit 2305843009213693952) C, false)]
def forget : List (Nat × Option AV) := ((List.range 9).map (· + 11) ++ (List.range 58).map (· + 55)).map fun i => (i, none)
def spec : LoopSpec := { key := 7, slots := (54, some (.int .i64 (.var 10))) :: forget, cells := [], meas := .bin .sub .i64 (.var 3) (.var 10), facts := [] }
def cfg : Cfg := { ok := (List.range 36).map (· + 3), sums := sums, loops := [spec] }
def F : Nat → List Int → Int := fun j l =>
  match l with
  | [a, b, c] => if j = 104 then (if b < 0 ∨ c < 1 then 0 else md a b c) else if j = 105 then (if b < 0 ∨ c < 1 then 2 else 0) else if j = 106 then clp a b c else 0
  | _ => 0
theorem cfg_ok (G : Nat → List Int → Int) (hG : ∀ j, 100 ≤ j → G j = F j) : CfgOk Try.prog cfg G := by
  refine ⟨by kernel_rfl, okB_spec (by kernel_rfl), fun f args v h bs ρ w vs hρ hv => ?_⟩
  have h' : sums f args = some v := h
  unfold sums at h'
  split at h'
  · rename_i a b c
    cases h'
    obtain ⟨i0, us, rfl, hv1⟩ := dvl_int hv
    obtain ⟨i1, us, rfl, hv2⟩ := dvl_int hv1
    obtain ⟨i2, us, rfl, hv3⟩ := dvl_int hv2
    obtain rfl := dvl_end hv3
    have e4 : ρ.f 104 [den ρ a, den ρ b, den ρ c] = if den ρ b < 0 ∨ den ρ c < 1 then 0 else md (den ρ a) (den ρ b) (den ρ c) := by rw [hρ, hG 104 (by omega)]; rfl
    have e5 : ρ.f 105 [den ρ a, den ρ b, den ρ c] = if den ρ b < 0 ∨ den ρ c < 1 then 2 else 0 := by rw [hρ, hG 105 (by omega)]; rfl
    have hr := md_range (den ρ a) (den ρ b) (den ρ c)
    unfold I64 at hr
    refine ⟨_, dv_pair (by simp only [den, dens]; rw [e4]; exact in_i64 (by split <;> omega)) (by simp only [den, dens]; rw [e5]; exact in_i64 (by split <;> omega)), ?_⟩
    simp only [den, dens, e4, e5]
    by_cases hb : den ρ b < 0 ∨ den ρ c < 1
    · simp only [if_pos hb]
      exact sat_MulDiv.calls 30 _ _ _ _ _ w (sat_MulDiv_bad 30 (by omega) hb)
    · simp only [if_neg hb]
      exact sat_MulDiv.calls 30 _ _ _ _ _ w (sat_MulDiv_eq 30 (by omega) (i64_in i0) (i64_in i1) (i64_in i2) (by omega) (by omega))
  · rename_i a b c
    cases h'
    obtain ⟨i0, us, rfl, hv1⟩ := dvl_int hv
    obtain ⟨i1, us, rfl, hv2⟩ := dvl_int hv1
    obtain ⟨i2, us, rfl, hv3⟩ := dvl_int hv2
    obtain rfl := dvl_end hv3
    have e6 : ρ.f 106 [den ρ a, den ρ b, den ρ c] = clp (den ρ a) (den ρ b) (den ρ c) := by rw [hρ, hG 106 (by omega)]; rfl
    have j0 := i64_in i0
    have j1 := i64_in i1
    have j2 := i64_in i2
    refine ⟨_, dv_int_mk (by simp only [den, dens]; rw [e6]; exact in_i64 (by unfold clp; split <;> (try split) <;> omega)), ?_⟩
    simp only [den, dens, e6]
    exact (sat_Clamp.calls _ _ _ _ w (sat_Clamp_eq _ _ _)).mono fun e w' h => ⟨h.1, h.2.below⟩
  · cases h'
    obtain rfl := dvl_end hv
    exact ⟨.bool true, rfl, alive_calls w⟩
  · cases h'
def args : List AV := [.agg (ofList [.int .i64 (.var 0), .int .i64 (.var 1)]), .int .u16 (.var 2), .arg 0]
def mem : List AObj := [.sym (.var 3) (.var 4) [(.u32, 0)] 34]
def tree : Tree :=
(.ite (.cmp .lss (.lit 100) (.var 3))
 (.leaf (.bool (.lit 1)) [])
 (.loop 7 [(1007, (.bin .sub .i64 (.var 3) (.lit 0))), (10, (.lit 0))]
 (.ite (.cmp .lss (.var 10) (.var 3))
 (.need (.cmp .leq (.lit 0) (.var 10)) (.ite (.cmp .lss (.lit 4611686018427387903) (.bin .add .i64 (.conv .i64 (.bin .rem .u64 (.conv .u64 (.var 0)) (.lit 2305843009213693952))) (.conv .i64 (.app 0 (.cons (.var 10) .nil)))))
 (.leaf (.bool (.lit 0)) [])
 (.ite (.cmp .lss (.bin .add .i64 (.conv .i64 (.bin .rem .u64 (.conv .u64 (.var 0)) (.lit 2305843009213693952))) (.conv .i64 (.app 0 (.cons (.var 10) .nil)))) (.conv .i64 (.bin .rem .u64 (.conv .u64 (.var 0)) (.lit 2305843009213693952))))
 (.leaf (.bool (.lit 0)) [])
 (.ite (.cmp .neq (.bin .add .i64 (.bin .add .i64 (.bin .rem .i64 (.var 1) (.lit 1152921504606846976)) (.bin .sub .i64 (.bin .add .i64 (.conv .i64 (.bin .rem .u64 (.conv .u64 (.var 0)) (.lit 2305843009213693952))) (.conv .i64 (.app 0 (.cons (.var 10) .nil)))) (.conv .i64 (.bin .rem .u64 (.conv .u64 (.var 0)) (.lit 2305843009213693952))))) (.app 106 (.cons (.lit 0) (.cons (.bin .sub .i64 (.lit 0) (.app 104 (.cons (.bin .sub .i64 (.bin .add .i64 (.conv .i64 (.bin .rem .u64 (.conv .u64 (.var 0)) (.lit 2305843009213693952))) (.conv .i64 (.app 0 (.cons (.var 10) .nil)))) (.conv .i64 (.bin .rem .u64 (.conv .u64 (.var 0)) (.lit 2305843009213693952)))) (.cons (.bin .add .i64 (.lit 1) (.conv .i64 (.bin .rem .u16 (.var 2) (.lit 500)))) (.cons (.lit 1000000) .nil))))) (.cons (.app 104 (.cons (.bin .sub .i64 (.bin .add .i64 (.conv .i64 (.bin .rem .u64 (.conv .u64 (.var 0)) (.lit 2305843009213693952))) (.conv .i64 (.app 0 (.cons (.var 10) .nil)))) (.conv .i64 (.bin .rem .u64 (.conv .u64 (.var 0)) (.lit 2305843009213693952)))) (.cons (.bin .add .i64 (.lit 1) (.conv .i64 (.bin .rem .u16 (.var 2) (.lit 500)))) (.cons (.lit 1000000) .nil)))) .nil))))) (.bin .add .i64 (.bin .rem .i64 (.var 1) (.lit 1152921504606846976)) (.conv .i64 (.app 0 (.cons (.var 10) .nil)))))
 (.leaf (.bool (.lit 0)) [])
 (.ite (.cmp .neq (.bin .sub .i64 (.lit 0) (.app 106 (.cons (.lit 0) (.cons (.bin .sub .i64 (.lit 0) (.app 104 (.cons (.bin .sub .i64 (.bin .add .i64 (.conv .i64 (.bin .rem .u64 (.conv .u64 (.var 0)) (.lit 2305843009213693952))) (.conv .i64 (.app 0 (.cons (.var 10) .nil)))) (.conv .i64 (.bin .rem .u64 (.conv .u64 (.var 0)) (.lit 2305843009213693952)))) (.cons (.bin .add .i64 (.lit 1) (.conv .i64 (.bin .rem .u16 (.var 2) (.lit 500)))) (.cons (.lit 1000000) .nil))))) (.cons (.app 104 (.cons (.bin .sub .i64 (.bin .add .i64 (.conv .i64 (.bin .rem .u64 (.conv .u64 (.var 0)) (.lit 2305843009213693952))) (.conv .i64 (.app 0 (.cons (.var 10) .nil)))) (.conv .i64 (.bin .rem .u64 (.conv .u64 (.var 0)) (.lit 2305843009213693952)))) (.cons (.bin .add .i64 (.lit 1) (.conv .i64 (.bin .rem .u16 (.var 2) (.lit 500)))) (.cons (.lit 1000000) .nil)))) .nil))))) (.lit 0))
 (.leaf (.bool (.lit 0)) [])
 (.ite (.cmp .neq (.bin .add .i64 (.lit 0) (.app 106 (.cons (.lit 0) (.cons (.bin .sub .i64 (.lit 0) (.app 104 (.cons (.bin .sub .i64 (.bin .add .i64 (.conv .i64 (.bin .rem .u64 (.conv .u64 (.var 0)) (.lit 2305843009213693952))) (.conv .i64 (.app 0 (.cons (.var 10) .nil)))) (.conv .i64 (.bin .rem .u64 (.conv .u64 (.var 0)) (.lit 2305843009213693952)))) (.cons (.bin .add .i64 (.lit 1) (.conv .i64 (.bin .rem .u16 (.var 2) (.lit 500)))) (.cons (.lit 1000000) .nil))))) (.cons (.app 104 (.cons (.bin .sub .i64 (.bin .add .i64 (.conv .i64 (.bin .rem .u64 (.conv .u64 (.var 0)) (.lit 2305843009213693952))) (.conv .i64 (.app 0 (.cons (.var 10) .nil)))) (.conv .i64 (.bin .rem .u64 (.conv .u64 (.var 0)) (.lit 2305843009213693952)))) (.cons (.bin .add .i64 (.lit 1) (.conv .i64 (.bin .rem .u16 (.var 2) (.lit 500)))) (.cons (.lit 1000000) .nil)))) .nil))))) (.lit 0))
 (.leaf (.bool (.lit 0)) [])
 (.again 7 [(1007, (.bin .sub .i64 (.var 3) (.bin .add .i64 (.var 10) (.lit 1)))), (10, (.bin .add .i64 (.var 10) (.lit 1)))])))))))
 (.leaf (.bool (.lit 1)) []))))
set_option maxHeartbeats 40000000 in
theorem tree_eq : callT Try.prog cfg 100000 0 9 args mem pc = tree := by kernel_rfl
theorem f104 (a b c : Int) : F 104 [a, b, c] = if b < 0 ∨ c < 1 then 0 else md a b c := Eq.trans rfl rfl
theorem f106 (a b c : Int) : F 106 [a, b, c] = clp a b c := Eq.trans rfl rfl
theorem clp_mem {a lo hi : Int} (h : lo ≤ hi) : lo ≤ clp a lo hi ∧ clp a lo hi ≤ hi := by
  unfold clp; split <;> (try split) <;> omega
theorem clp_same (a : Int) : clp a 0 0 = 0 := by
  unfold clp; split <;> (try split) <;> omega
theorem clp_id {a lo hi : Int} (h : lo ≤ a) (h' : a ≤ hi) : clp a lo hi = a := by
  unfold clp; rw [if_neg (by omega), if_neg (by omega)]
theorem md0 (r : Int) : md 0 r 1000000 = 0 := by unfold md; rw [Int.zero_mul]; decide
theorem mdv {t r : Int} (t0 : 0 ≤ t) (t1 : t ≤ 9000000000000000000) (r0 : 1 ≤ r) (r1 : r ≤ 500) : md t r 1000000 = t * r / 1000000 ∧ 0 ≤ t * r / 1000000 ∧ t * r / 1000000 ≤ t / 2000 := by
  have h0 : 0 ≤ t * r := Int.mul_nonneg t0 (by omega)
  have h1 : t * r ≤ t * 500 := Int.mul_le_mul_of_nonneg_left r1 t0
  refine ⟨?_, by omega, by omega⟩
  unfold md
  exact clamp_id (by unfold I64; omega)
theorem rate_in {x : Int} (h : inR .u16 x = true) : ∃ r, binI .add .i64 1 (IntKind.i64.wrap (binI .rem .u16 x 500)) = r ∧ 1 ≤ r ∧ r ≤ 500 := by
  have b := u16_in h
  have e : binI .rem .u16 x 500 = x % 500 := Int.tmod_eq_emod_of_nonneg b.1
  refine ⟨1 + x % 500, ?_, by omega, by omega⟩
  rw [e, wrap_i64 (by omega) (by omega), add_i64 (by omega) (by omega)]
theorem rate_ok {r : Int} (h : 1 ≤ r) : ¬ (r < 0 ∨ (1000000 : Int) < 1) := by omega
theorem s00 : binI .sub .i64 0 0 = 0 := Eq.trans rfl rfl
theorem a00 : binI .add .i64 0 0 = 0 := Eq.trans rfl rfl
theorem a0 {x : Int} (h0 : -9223372036854775808 ≤ x) (h1 : x ≤ 9223372036854775807) : binI .add .i64 0 x = x := by
  rw [add_i64 (by omega) (by omega)]; omega
theorem a0' {x : Int} (h0 : -9223372036854775808 ≤ x) (h1 : x ≤ 9223372036854775807) : binI .add .i64 x 0 = x := by
  rw [add_i64 (by omega) (by omega)]; omega
theorem s0' {x : Int} (h0 : -9223372036854775808 ≤ x) (h1 : x ≤ 9223372036854775807) : binI .sub .i64 x 0 = x := by
  rw [sub_i64 (by omega) (by omega)]; omega
theorem ss {x : Int} : binI .sub .i64 x x = 0 := by
  rw [sub_i64 (by omega) (by omega)]; omega
theorem neg_i64 {x : Int} (h0 : -9223372036854775807 ≤ x) (h1 : x ≤ 9223372036854775807) : binI .sub .i64 0 x = -x := by
  rw [sub_i64 (by omega) (by omega)]; omega
theorem h_in {a : Int} : ∃ h, IntKind.i64.wrap (binI .rem .u64 (IntKind.u64.wrap a) 2305843009213693952) = h ∧ 0 ≤ h ∧ h < 2305843009213693952 := by
  have e : binI .rem .u64 (IntKind.u64.wrap a) 2305843009213693952 = IntKind.u64.wrap a % 2305843009213693952 := Int.tmod_eq_emod_of_nonneg (by rw [u64_wrap]; omega)
  have w : IntKind.i64.wrap (IntKind.u64.wrap a % 2305843009213693952) = IntKind.u64.wrap a % 2305843009213693952 := wrap_i64 (by omega) (by omega)
  exact ⟨IntKind.u64.wrap a % 2305843009213693952, by rw [e]; exact w, by omega, by omega⟩
theorem d_in {a : Int} : ∃ d, IntKind.i64.wrap (IntKind.u32.wrap a) = d ∧ 0 ≤ d ∧ d < 4294967296 := by
  have e := u32_wrap a
  exact ⟨_, wrap_i64 (by omega) (by omega), by omega, by omega⟩
theorem t_in (a m : Int) (hm : 0 < m) : ∃ c, binI .rem .i64 a m = c ∧ -m < c ∧ c < m := by
  refine ⟨_, rfl, ?_⟩
  rw [rem_i64]
  rcases Int.lt_or_le a 0 with h | h
  · have e : a = -(-a) := by omega
    rw [e, Int.neg_tmod, Int.tmod_eq_emod_of_nonneg (by omega)]
    have := Int.emod_nonneg (-a) (show m ≠ 0 by omega)
    have := Int.emod_lt_of_pos (-a) hm
    omega
  · rw [Int.tmod_eq_emod_of_nonneg h]
    have := Int.emod_nonneg a (show m ≠ 0 by omega)
    have := Int.emod_lt_of_pos a hm
    omega
theorem pc_ok (ρ : Env) (h0 : inR .i64 (ρ.v 0) = true) (h1 : inR .i64 (ρ.v 1) = true) (h2 : inR .u16 (ρ.v 2) = true) (h3 : 0 ≤ ρ.v 3) (h4 : ρ.v 3 ≤ ρ.v 4) (h5 : ρ.v 3 * 4 ≤ 140737488351232) (h6 : ∀ i : Int, 0 ≤ i → i < ρ.v 3 → inR .u32 (ρ.f 0 [i]) = true) (hf : ∀ j, 100 ≤ j → ρ.f j = F j) : ∀ p ∈ pc, evB ρ p.1 = p.2 := by
  obtain ⟨r, hr, r0, r1⟩ := rate_in h2
  obtain ⟨h, hh, hh0, hh1⟩ := h_in (a := ρ.v 0)
  obtain ⟨c, hc, c0, c1⟩ := t_in (ρ.v 1) 1152921504606846976 (by omega)
  have hR : den ρ R = r := by simp only [R, den, hr]
  have hH : den ρ H = h := by simp only [H, den, hh]
  have hC : den ρ C = c := by simp only [C, den, hc]
  intro p hp
  simp only [pc, List.mem_cons, List.not_mem_nil, or_false] at hp
  rcases hp with rfl | rfl | rfl | rfl | rfl | rfl <;> (dsimp only; rw [ev_lss']; simp only [hR, hH, hC, den]; omega)
def Inv : Nat → Env → Prop := fun _ ρ => inR .u16 (ρ.v 2) = true ∧ 0 ≤ ρ.v 10 ∧ ρ.v 10 ≤ ρ.v 3 ∧ ρ.v 3 ≤ 100 ∧ ρ.v 1007 = ρ.v 3 - ρ.v 10 ∧ (∀ i : Int, 0 ≤ i → i < ρ.v 3 → inR .u32 (ρ.f 0 [i]) = true) ∧ (∀ j, 100 ≤ j → ρ.f j = F j)
set_option maxHeartbeats 4000000 in
theorem tree_holds (ρ : Env) (h0 : inR .i64 (ρ.v 0) = true) (h1 : inR .i64 (ρ.v 1) = true) (h2 : inR .u16 (ρ.v 2) = true) (h3 : 0 ≤ ρ.v 3) (h4 : ρ.v 3 ≤ ρ.v 4) (h5 : ρ.v 3 * 4 ≤ 140737488351232) (h6 : ∀ i : Int, 0 ≤ i → i < ρ.v 3 → inR .u32 (ρ.f 0 [i]) = true) (hf : ∀ j, 100 ≤ j → ρ.f j = F j) : tree.holds Inv saysTrue ρ := by
  unfold tree
  refine ⟨fun _ => says1, fun hn => ⟨?_, fun ρ' hf' hI => ?_⟩⟩
  · rw [ev_lss'] at hn
    simp only [den] at hn
    refine ⟨h2, ?_, ?_, ?_, ?_, h6, hf⟩
    · show (0 : Int) ≤ 0; omega
    · show 0 ≤ ρ.v 3; exact h3
    · show ρ.v 3 ≤ 100; exact hn
    · show binI .sub .i64 (ρ.v 3) 0 = ρ.v 3 - 0
      exact sub_i64 (by omega) (by omega)
  · obtain ⟨g2, i0, i1, l1, hm, g6, gf⟩ := hI
    clear hn h0 h1 h2 h3 h4 h5 h6 hf hf'
    obtain ⟨r, hr, r0, r1⟩ := rate_in g2
    obtain ⟨h, hh, hh0, hh1⟩ := h_in (a := ρ'.v 0)
    obtain ⟨c, hc, c0, c1⟩ := t_in (ρ'.v 1) 1152921504606846976 (by omega)
    refine ⟨fun hlt => ⟨?_, ?_⟩, fun _ => says1⟩
    · rw [ev_leq]; simp only [den]; exact i0
    · rw [ev_lss] at hlt
      simp only [den] at hlt
      have b := u32_in (g6 _ i0 hlt)
      have hw : IntKind.i64.wrap (ρ'.f 0 [ρ'.v 10]) = ρ'.f 0 [ρ'.v 10] := wrap_i64 (by omega) (by omega)
      simp only [Tree.holds, ev_lss, ev_lss', ev_neq, ev_neq', saysTrue, ev_lit0, den, dens, gf 104 (by omega), gf 106 (by omega), f104, f106, hr, hh, hc, hw, if_neg (rate_ok r0)]
      have hi : binI .add .i64 (ρ'.v 10) 1 = ρ'.v 10 + 1 := add_i64 (by omega) (by omega)
      have hs : binI .sub .i64 (ρ'.v 3) (ρ'.v 10 + 1) = ρ'.v 3 - (ρ'.v 10 + 1) := sub_i64 (by omega) (by omega)
      have hA : Inv 7 (ρ'.sub [(1007, (.bin .sub .i64 (.var 3) (.bin .add .i64 (.var 10) (.lit 1)))), (10, (.bin .add .i64 (.var 10) (.lit 1)))]) ∧
          (Env.v (ρ'.sub [(1007, (.bin .sub .i64 (.var 3) (.bin .add .i64 (.var 10) (.lit 1)))), (10, (.bin .add .i64 (.var 10) (.lit 1)))]) (1000 + 7)).toNat < (ρ'.v (1000 + 7)).toNat := by
        refine ⟨⟨g2, ?_, ?_, l1, ?_, g6, gf⟩, ?_⟩
        · show 0 ≤ binI .add .i64 (ρ'.v 10) 1; omega
        · show binI .add .i64 (ρ'.v 10) 1 ≤ ρ'.v 3; omega
        · show binI .sub .i64 (ρ'.v 3) (binI .add .i64 (ρ'.v 10) 1) = ρ'.v 3 - binI .add .i64 (ρ'.v 10) 1
          rw [hi]; exact hs
        · show (binI .sub .i64 (ρ'.v 3) (binI .add .i64 (ρ'.v 10) 1)).toNat < (ρ'.v 1007).toNat
          rw [hi, hs, hm]; omega
      generalize ρ'.f 0 [ρ'.v 10] = x at *
      obtain ⟨e1, m0, m1⟩ := mdv (t := x) (r := r) (by omega) (by omega) r0 r1
      have x1 : binI .add .i64 h x = h + x := add_i64 (by omega) (by omega)
      have x2 : binI .sub .i64 (h + x) h = x := by rw [sub_i64 (by omega) (by omega)]; omega
      have x3 : binI .add .i64 c x = c + x := add_i64 (by omega) (by omega)
      have x4 : binI .add .i64 (c + x) 0 = c + x := a0' (by omega) (by omega)
      have x5 : clp 0 (binI .sub .i64 0 (x * r / 1000000)) (x * r / 1000000) = 0 := by
        rw [neg_i64 (by omega) (by omega)]
        exact clp_id (by omega) (by omega)
      simp only [x1, x2, e1, x3, x4, x5, s00, a00]
      repeat' (first | exact hA | exact trivial | (refine ⟨fun _ => ?_, fun _ => ?_⟩) | omega)
end Go.Proofs.Ytplkegifilheeaa.TSlewLooks
