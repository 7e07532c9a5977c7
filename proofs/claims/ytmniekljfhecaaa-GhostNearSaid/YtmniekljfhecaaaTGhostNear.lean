/- The tree of the law GhostNear, and that all its ends say true. No conditions. -/
import Derived.Test.YtmniekljfhecaaaSX3
import Derived.Test.YtmniekljfhecaaaProg
import Derived.KernelRfl
import Derived.Test.YtmniekljfhecaaaLGh
namespace Go.Proofs.Ytmniekljfhecaaa.TGhostNear
open Go Go.SX
set_option maxRecDepth 100000
set_option linter.unusedVariables false
set_option linter.unusedSimpArgs false
open Go.Proofs.Ytmniekljfhecaaa.L Go.Proofs.Ytmniekljfhecaaa.G
open Go.Proofs.YtmniekljfhecaaaW.PrintWords Go.Proofs.YtmniekljfhecaaaW.PrintLast Go.Proofs.YtmniekljfhecaaaW.PrintMore
def cfg0 : Cfg := { ok := (List.range 30).map (· + 3), sums := fun _ _ => none, loops := [] }
theorem cfg0_ok (G : Nat → List Int → Int) : CfgOk Try.prog cfg0 G :=
  ⟨by kernel_rfl, okB_spec (by kernel_rfl), fun f args v h => by cases h⟩
set_option maxHeartbeats 40000000 in
theorem alive_eq : callT Try.prog cfg0 100000 0 9 [] [] [] = .leaf (.bool (.lit 1)) [] := by kernel_rfl
theorem alive_calls (w : World) : Calls Try.prog 9 #[] w fun e w' => e = .returned (.bool true) ∧ RowKit.Below w.heap.size w w' :=
  law_run (I := fun _ _ => True) (ρ := ⟨fun _ => 0, fun _ _ => 0⟩) (cfg0_ok fun _ _ => 0) (by rw [alive_eq]; exact says1) rfl (fun _ h => by cases h) rfl (RelM.nil w _)
def sums : FuncId → List AV → Option AV
  | 10, [.int .i64 r, .int .i64 a, .int .i64 b] => some (.bool (.app 110 (.cons r (.cons a (.cons b .nil)))))
  | 20, [.int .i64 a, .int .i64 b, .int .i64 c] => some (.tuple (ofList [.int .i64 (.app 104 (.cons a (.cons b (.cons c .nil)))), .int .i64 (.app 105 (.cons a (.cons b (.cons c .nil))))]))
  | 21, [.int .i64 a] => some (.int .i64 (.app 111 (.cons a .nil)))
  | 22, [.int .i64 a, .int .i64 b] => some (.int .i64 (.app 112 (.cons a (.cons b .nil))))
  | 9, [] => some (.bool (.lit 1))
  | _, _ => none
def Rt : SE := .conv .i64 (.bin .rem .u16 (.var 0) (.lit 1000))
def pc : List (SE × Bool) := [(.cmp .lss Rt (.lit 0), false), (.cmp .lss (.lit 1000000) Rt, false)]
def forget : List (Nat × Option AV) := ([9, 10, 11, 12] ++ (List.range 28).map (· + 42)).map fun i => (i, none)
def spec : LoopSpec := { key := 6, slots := [(41, some (.int .i64 (.var 10)))] ++ forget, cells := [(1, 0, .int .i64 (.var 11)), (1, 1, .int .i64 (.var 12)), (1, 5, .int .i64 (.var 10))], meas := .bin .sub .i64 (.var 1) (.var 10), facts := [] }
def cfg : Cfg := { ok := (List.range 30).map (· + 3), sums := sums, loops := [spec] }
def F : Nat → List Int → Int := fun j l =>
  match l with
  | [a, b, c] => if j = 104 then (if b < 0 ∨ c < 1 then 0 else md a b c) else if j = 105 then (if b < 0 ∨ c < 1 then 2 else 0) else if j = 110 then (if Fine a b c then 1 else 0) else 0
  | [a] => if j = 111 then (if a < 0 then clamp (-a) else a) else 0
  | [a, b] => if j = 112 then clamp (a - b) else 0
  | _ => 0
theorem cfg_ok (G : Nat → List Int → Int) (hG : ∀ j, 100 ≤ j → G j = F j) : CfgOk Try.prog cfg G := by
  refine ⟨by kernel_rfl, okB_spec (by kernel_rfl), fun f args v h bs ρ w vs hρ hv => ?_⟩
  have h' : sums f args = some v := h
  unfold sums at h'
  split at h'
  · rename_i r a b
    cases h'
    obtain ⟨i0, us, rfl, hv1⟩ := dvl_int hv
    obtain ⟨i1, us, rfl, hv2⟩ := dvl_int hv1
    obtain ⟨i2, us, rfl, hv3⟩ := dvl_int hv2
    obtain rfl := dvl_end hv3
    have e : ρ.f 110 [den ρ r, den ρ a, den ρ b] = if Fine (den ρ r) (den ρ a) (den ρ b) then 1 else 0 := by rw [hρ, hG 110 (by omega)]; rfl
    refine ⟨.bool (decide (Fine (den ρ r) (den ρ a) (den ρ b))), ?_, (ghost_Fine.calls 30 _ _ _ _ w (ghost_Fine_eq 30 (by omega) (i64_in i1) (i64_in i2))).mono fun e w' h => ⟨h.1, by first | exact h.2 | exact h.2.below⟩⟩
    show some (Value.bool (den ρ (.app 110 (.cons r (.cons a (.cons b .nil)))) != 0)) = _
    simp only [den, dens, e]
    by_cases hF : Fine (den ρ r) (den ρ a) (den ρ b) <;> simp [hF]
  · rename_i a b c
    cases h'
    obtain ⟨i0, us, rfl, hv1⟩ := dvl_int hv
    obtain ⟨i1, us, rfl, hv2⟩ := dvl_int hv1
    obtain ⟨i2, us, rfl, hv3⟩ := dvl_int hv2
    obtain rfl := dvl_end hv3
    have e4 : ρ.f 104 [den ρ a, den ρ b, den ρ c] = if den ρ b < 0 ∨ den ρ c < 1 then 0 else md (den ρ a) (den ρ b) (den ρ c) := by rw [hρ, hG 104 (by omega)]; rfl
    have e5 : ρ.f 105 [den ρ a, den ρ b, den ρ c] = if den ρ b < 0 ∨ den ρ c < 1 then 2 else 0 := by rw [hρ, hG 105 (by omega)]; rfl
    have hr := md_range (den ρ a) (den ρ b) (den ρ c)
    unfold I64 at hr
    refine ⟨_, dv_pair (by simp only [den, dens]; rw [e4]; exact in_i64 (by split <;> omega)) (by simp only [den, dens]; rw [e5]; exact in_i64 (by split <;> omega)), ?_⟩
    simp only [den, dens, e4, e5]
    by_cases hb : den ρ b < 0 ∨ den ρ c < 1
    · simp only [if_pos hb]
      exact sat_MulDiv.calls 30 _ _ _ _ _ w (sat_MulDiv_bad 30 (by omega) hb)
    · simp only [if_neg hb]
      exact sat_MulDiv.calls 30 _ _ _ _ _ w (sat_MulDiv_eq 30 (by omega) (i64_in i0) (i64_in i1) (i64_in i2) (by omega) (by omega))
  · rename_i a
    cases h'
    obtain ⟨i0, us, rfl, hv1⟩ := dvl_int hv
    obtain rfl := dvl_end hv1
    have e1 : ρ.f 111 [den ρ a] = if den ρ a < 0 then clamp (-den ρ a) else den ρ a := by rw [hρ, hG 111 (by omega)]; rfl
    have j0 := i64_in i0
    have hr := clamp_range (-den ρ a)
    unfold I64 at hr
    refine ⟨_, dv_int_mk (by simp only [den, dens]; rw [e1]; exact in_i64 (by split <;> omega)), ?_⟩
    simp only [den, dens, e1]
    exact (sat_Abs.calls _ _ w (sat_Abs_eq (i64_in i0))).mono fun e w' h => ⟨h.1, by first | exact h.2 | exact h.2.below⟩
  · rename_i a b
    cases h'
    obtain ⟨i0, us, rfl, hv1⟩ := dvl_int hv
    obtain ⟨i1, us, rfl, hv2⟩ := dvl_int hv1
    obtain rfl := dvl_end hv2
    have e1 : ρ.f 112 [den ρ a, den ρ b] = clamp (den ρ a - den ρ b) := by rw [hρ, hG 112 (by omega)]; rfl
    have hr := clamp_range (den ρ a - den ρ b)
    unfold I64 at hr
    refine ⟨_, dv_int_mk (by simp only [den, dens]; rw [e1]; exact in_i64 hr), ?_⟩
    simp only [den, dens, e1]
    exact (sat_Sub.calls _ _ _ w (sat_Sub_eq (i64_in i0) (i64_in i1))).mono fun e w' h => ⟨h.1, by first | exact h.2 | exact h.2.below⟩
  · cases h'
    obtain rfl := dvl_end hv
    exact ⟨.bool true, rfl, alive_calls w⟩
  · cases h'
def args : List AV := [.int .u16 (.var 0), .arg 0]
def mem : List AObj := [.sym (.var 1) (.var 2) [(.u32, 0), (.u32, 1)] 26]
def tree : Tree :=
(.ite (.cmp .lss (.lit 1152921504606846976) (.app 111 (.cons (.lit 0) .nil)))
 (.leaf (.bool (.lit 1)) [])
 (.ite (.cmp .lss (.lit 300) (.var 1))
 (.leaf (.bool (.lit 1)) [])
 (.loop 6 [(1006, (.bin .sub .i64 (.var 1) (.lit 0))), (10, (.lit 0)), (11, (.lit 0)), (12, (.lit 0)), (10, (.lit 0))]
 (.ite (.cmp .lss (.var 10) (.var 1))
 (.need (.cmp .leq (.lit 0) (.var 10)) (.need (.cmp .neq (.bin .add .i64 (.bin .mul .i64 (.lit 2) (.bin .quo .i64 (.bin .mul .i64 (.conv .i64 (.app 0 (.cons (.var 10) .nil))) (.conv .i64 (.bin .rem .u16 (.var 0) (.lit 1000)))) (.lit 1000000))) (.lit 1)) (.lit 0)) (.ite (.cmp .lss (.mn (.conv .i64 (.app 0 (.cons (.var 10) .nil))) (.mx (.lit 0) (.bin .sub .i64 (.bin .add .i64 (.conv .i64 (.app 0 (.cons (.var 10) .nil))) (.bin .rem .i64 (.conv .i64 (.app 1 (.cons (.var 10) .nil))) (.bin .add .i64 (.bin .mul .i64 (.lit 2) (.bin .quo .i64 (.bin .mul .i64 (.conv .i64 (.app 0 (.cons (.var 10) .nil))) (.conv .i64 (.bin .rem .u16 (.var 0) (.lit 1000)))) (.lit 1000000))) (.lit 1)))) (.bin .quo .i64 (.bin .mul .i64 (.conv .i64 (.app 0 (.cons (.var 10) .nil))) (.conv .i64 (.bin .rem .u16 (.var 0) (.lit 1000)))) (.lit 1000000))))) (.lit 0))
 (.leaf (.bool (.lit 0)) [])
 (.ite (.cmp .lss (.lit 1125899906842624) (.mx (.conv .i64 (.app 0 (.cons (.var 10) .nil))) (.mx (.lit 0) (.bin .sub .i64 (.bin .add .i64 (.conv .i64 (.app 0 (.cons (.var 10) .nil))) (.bin .rem .i64 (.conv .i64 (.app 1 (.cons (.var 10) .nil))) (.bin .add .i64 (.bin .mul .i64 (.lit 2) (.bin .quo .i64 (.bin .mul .i64 (.conv .i64 (.app 0 (.cons (.var 10) .nil))) (.conv .i64 (.bin .rem .u16 (.var 0) (.lit 1000)))) (.lit 1000000))) (.lit 1)))) (.bin .quo .i64 (.bin .mul .i64 (.conv .i64 (.app 0 (.cons (.var 10) .nil))) (.conv .i64 (.bin .rem .u16 (.var 0) (.lit 1000)))) (.lit 1000000))))))
 (.leaf (.bool (.lit 0)) [])
 (.ite (.not (.app 110 (.cons (.conv .i64 (.bin .rem .u16 (.var 0) (.lit 1000))) (.cons (.conv .i64 (.app 0 (.cons (.var 10) .nil))) (.cons (.mx (.lit 0) (.bin .sub .i64 (.bin .add .i64 (.conv .i64 (.app 0 (.cons (.var 10) .nil))) (.bin .rem .i64 (.conv .i64 (.app 1 (.cons (.var 10) .nil))) (.bin .add .i64 (.bin .mul .i64 (.lit 2) (.bin .quo .i64 (.bin .mul .i64 (.conv .i64 (.app 0 (.cons (.var 10) .nil))) (.conv .i64 (.bin .rem .u16 (.var 0) (.lit 1000)))) (.lit 1000000))) (.lit 1)))) (.bin .quo .i64 (.bin .mul .i64 (.conv .i64 (.app 0 (.cons (.var 10) .nil))) (.conv .i64 (.bin .rem .u16 (.var 0) (.lit 1000)))) (.lit 1000000)))) .nil)))))
 (.leaf (.bool (.lit 0)) [])
 (.ite (.cmp .lss (.lit 2305843009213693952) (.mx (.bin .add .i64 (.var 11) (.conv .i64 (.app 0 (.cons (.var 10) .nil)))) (.bin .add .i64 (.var 12) (.mx (.lit 0) (.bin .sub .i64 (.bin .add .i64 (.conv .i64 (.app 0 (.cons (.var 10) .nil))) (.bin .rem .i64 (.conv .i64 (.app 1 (.cons (.var 10) .nil))) (.bin .add .i64 (.bin .mul .i64 (.lit 2) (.bin .quo .i64 (.bin .mul .i64 (.conv .i64 (.app 0 (.cons (.var 10) .nil))) (.conv .i64 (.bin .rem .u16 (.var 0) (.lit 1000)))) (.lit 1000000))) (.lit 1)))) (.bin .quo .i64 (.bin .mul .i64 (.conv .i64 (.app 0 (.cons (.var 10) .nil))) (.conv .i64 (.bin .rem .u16 (.var 0) (.lit 1000)))) (.lit 1000000)))))))
 (.leaf (.bool (.lit 0)) [])
 (.again 6 [(1006, (.bin .sub .i64 (.var 1) (.bin .add .i64 (.var 10) (.lit 1)))), (10, (.bin .add .i64 (.var 10) (.lit 1))), (11, (.bin .add .i64 (.var 11) (.conv .i64 (.app 0 (.cons (.var 10) .nil))))), (12, (.bin .add .i64 (.var 12) (.mx (.lit 0) (.bin .sub .i64 (.bin .add .i64 (.conv .i64 (.app 0 (.cons (.var 10) .nil))) (.bin .rem .i64 (.conv .i64 (.app 1 (.cons (.var 10) .nil))) (.bin .add .i64 (.bin .mul .i64 (.lit 2) (.bin .quo .i64 (.bin .mul .i64 (.conv .i64 (.app 0 (.cons (.var 10) .nil))) (.conv .i64 (.bin .rem .u16 (.var 0) (.lit 1000)))) (.lit 1000000))) (.lit 1)))) (.bin .quo .i64 (.bin .mul .i64 (.conv .i64 (.app 0 (.cons (.var 10) .nil))) (.conv .i64 (.bin .rem .u16 (.var 0) (.lit 1000)))) (.lit 1000000)))))), (10, (.bin .add .i64 (.var 10) (.lit 1)))])))))))
 (.ite (.cmp .leq (.app 111 (.cons (.app 112 (.cons (.var 12) (.cons (.var 11) .nil))) .nil)) (.app 104 (.cons (.var 11) (.cons (.conv .i64 (.bin .rem .u16 (.var 0) (.lit 1000))) (.cons (.lit 1000000) .nil)))))
 (.ite (.cmp .eql (.bin .sub .i64 (.bin .sub .i64 (.var 12) (.lit 0)) (.bin .sub .i64 (.var 11) (.lit 0))) (.bin .sub .i64 (.var 12) (.var 11)))
 (.leaf (.bool (.cmp .eql (.var 10) (.var 1))) [])
 (.leaf (.bool (.lit 0)) []))
 (.leaf (.bool (.lit 0)) []))))))
set_option maxHeartbeats 40000000 in
theorem tree_eq : callT Try.prog cfg 100000 0 8 args mem pc = tree := by kernel_rfl
theorem f104 (a b c : Int) : F 104 [a, b, c] = if b < 0 ∨ c < 1 then 0 else md a b c := Eq.trans rfl rfl
theorem f110 (a b c : Int) : F 110 [a, b, c] = if Fine a b c then 1 else 0 := Eq.trans rfl rfl
theorem f111 (a : Int) : F 111 [a] = if a < 0 then clamp (-a) else a := Eq.trans rfl rfl
theorem f112 (a b : Int) : F 112 [a, b] = clamp (a - b) := Eq.trans rfl rfl
theorem rt_in {a : Int} (h : inR .u16 a = true) : IntKind.i64.wrap (binI .rem .u16 a 1000) = a % 1000 := by
  have b := u16_in h
  have e : binI .rem .u16 a 1000 = a % 1000 := Int.tmod_eq_emod_of_nonneg b.1
  rw [e]
  exact wrap_i64 (by omega) (by omega)
theorem pc_ok (ρ : Env) (h0 : inR .u16 (ρ.v 0) = true) (h1 : 0 ≤ ρ.v 1) (h2 : ρ.v 1 ≤ ρ.v 2) (h3 : ∀ i : Int, 0 ≤ i → i < ρ.v 1 → inR .u32 (ρ.f 0 [i]) = true) (h4 : ∀ i : Int, 0 ≤ i → i < ρ.v 1 → inR .u32 (ρ.f 1 [i]) = true) (hf : ∀ j, 100 ≤ j → ρ.f j = F j) : ∀ p ∈ pc, evB ρ p.1 = p.2 := by
  have h := rt_in h0
  intro p hp
  simp only [pc, List.mem_cons, List.not_mem_nil, or_false] at hp
  rcases hp with rfl | rfl <;> (dsimp only; rw [ev_lss']; simp only [Rt, den, h]; omega)
def Inv : Nat → Env → Prop := fun _ ρ => inR .u16 (ρ.v 0) = true ∧ 0 ≤ ρ.v 10 ∧ ρ.v 10 ≤ ρ.v 1 ∧ ρ.v 1 ≤ 300 ∧ ρ.v 1006 = ρ.v 1 - ρ.v 10 ∧ (∀ i : Int, 0 ≤ i → i < ρ.v 1 → inR .u32 (ρ.f 0 [i]) = true) ∧ (∀ i : Int, 0 ≤ i → i < ρ.v 1 → inR .u32 (ρ.f 1 [i]) = true) ∧ (∀ j, 100 ≤ j → ρ.f j = F j) ∧
  0 ≤ ρ.v 11 ∧ ρ.v 11 ≤ ρ.v 10 * 4294967295 ∧ (ρ.v 12 - ρ.v 11) * 1000000 ≤ (ρ.v 0 % 1000) * ρ.v 11 ∧ (ρ.v 11 - ρ.v 12) * 1000000 ≤ (ρ.v 0 % 1000) * ρ.v 11
set_option maxHeartbeats 4000000 in
theorem tree_holds (ρ : Env) (h0 : inR .u16 (ρ.v 0) = true) (h1 : 0 ≤ ρ.v 1) (h2 : ρ.v 1 ≤ ρ.v 2) (h3 : ∀ i : Int, 0 ≤ i → i < ρ.v 1 → inR .u32 (ρ.f 0 [i]) = true) (h4 : ∀ i : Int, 0 ≤ i → i < ρ.v 1 → inR .u32 (ρ.f 1 [i]) = true) (hf : ∀ j, 100 ≤ j → ρ.f j = F j) : tree.holds Inv saysTrue ρ := by
  unfold tree
  refine ⟨fun _ => says1, fun _ => ⟨fun _ => says1, fun hn => ⟨?_, fun ρ' hf' hI => ?_⟩⟩⟩
  · rw [ev_lss'] at hn
    simp only [den] at hn
    refine ⟨h0, ?_, ?_, ?_, ?_, h3, h4, hf, ?_, ?_, ?_, ?_⟩
    · show (0 : Int) ≤ 0; omega
    · show 0 ≤ ρ.v 1; exact h1
    · show ρ.v 1 ≤ 300; exact hn
    · show binI .sub .i64 (ρ.v 1) 0 = ρ.v 1 - 0
      exact sub_i64 (by omega) (by omega)
    · show (0 : Int) ≤ 0; omega
    · show (0 : Int) ≤ 0 * 4294967295; omega
    · show ((0 : Int) - 0) * 1000000 ≤ (ρ.v 0 % 1000) * 0; rw [Int.mul_zero]; omega
    · show ((0 : Int) - 0) * 1000000 ≤ (ρ.v 0 % 1000) * 0; rw [Int.mul_zero]; omega
  · obtain ⟨g0, i0, i1, l1, hm, g3, g4, gf, t0, t1, n1, n2⟩ := hI
    have hr := rt_in g0
    have hA : ∀ (e3 e4 : SE) (r : List (Nat × SE)) (d y : Int), subV r 0 = .var 0 → subV r 1 = .var 1 → den ρ' e3 = ρ'.v 11 + d → den ρ' e4 = ρ'.v 12 + y → ρ'.v 10 < ρ'.v 1 → 0 ≤ d → d ≤ 4294967295 → (y - d) * 1000000 ≤ (ρ'.v 0 % 1000) * d → (d - y) * 1000000 ≤ (ρ'.v 0 % 1000) * d →
        Inv 6 (ρ'.sub ((1006, (.bin .sub .i64 (.var 1) (.bin .add .i64 (.var 10) (.lit 1)))) :: (10, (.bin .add .i64 (.var 10) (.lit 1))) :: (11, e3) :: (12, e4) :: r)) ∧
          (Env.v (ρ'.sub ((1006, (.bin .sub .i64 (.var 1) (.bin .add .i64 (.var 10) (.lit 1)))) :: (10, (.bin .add .i64 (.var 10) (.lit 1))) :: (11, e3) :: (12, e4) :: r)) (1000 + 6)).toNat < (ρ'.v (1000 + 6)).toNat := by
      intro e3 e4 r d y s0 s1 d3 d4 hlt d0 d1 y1 y2
      have hi : binI .add .i64 (ρ'.v 10) 1 = ρ'.v 10 + 1 := add_i64 (by omega) (by omega)
      have hs : binI .sub .i64 (ρ'.v 1) (ρ'.v 10 + 1) = ρ'.v 1 - (ρ'.v 10 + 1) := sub_i64 (by omega) (by omega)
      generalize hθ : ρ'.sub ((1006, (.bin .sub .i64 (.var 1) (.bin .add .i64 (.var 10) (.lit 1)))) :: (10, (.bin .add .i64 (.var 10) (.lit 1))) :: (11, e3) :: (12, e4) :: r) = σ
      have q0 : σ.v 0 = ρ'.v 0 := by
        rw [← hθ]; show den ρ' (subV r 0) = _
        rw [s0]; rfl
      have q1 : σ.v 1 = ρ'.v 1 := by
        rw [← hθ]; show den ρ' (subV r 1) = _
        rw [s1]; rfl
      have q10 : σ.v 10 = ρ'.v 10 + 1 := by rw [← hθ]; exact hi
      have q11 : σ.v 11 = ρ'.v 11 + d := by rw [← hθ]; exact d3
      have q12 : σ.v 12 = ρ'.v 12 + y := by rw [← hθ]; exact d4
      have qm : σ.v 1006 = ρ'.v 1 - (ρ'.v 10 + 1) := by
        rw [← hθ]; show binI .sub .i64 (ρ'.v 1) (binI .add .i64 (ρ'.v 10) 1) = _
        rw [hi]; exact hs
      have qf : σ.f = ρ'.f := by rw [← hθ]; rfl
      have hmul : (ρ'.v 0 % 1000) * (ρ'.v 11 + d) = (ρ'.v 0 % 1000) * ρ'.v 11 + (ρ'.v 0 % 1000) * d := Int.mul_add _ _ _
      refine ⟨⟨?_, ?_, ?_, ?_, ?_, ?_, ?_, ?_, ?_, ?_, ?_, ?_⟩, ?_⟩
      · rw [q0]; exact g0
      · rw [q10]; omega
      · rw [q10, q1]; omega
      · rw [q1]; exact l1
      · rw [qm, q1, q10]
      · rw [qf, q1]; exact g3
      · rw [qf, q1]; exact g4
      · rw [qf]; exact gf
      · rw [q11]; omega
      · rw [q11, q10]; omega
      · rw [q12, q11, q0, hmul]; omega
      · rw [q12, q11, q0, hmul]; omega
      · show (σ.v 1006).toNat < (ρ'.v 1006).toNat
        rw [qm, hm]; omega
    have rr : 0 ≤ ρ'.v 0 % 1000 ∧ ρ'.v 0 % 1000 ≤ 999 := by omega
    have rt : (ρ'.v 0 % 1000) * ρ'.v 11 ≤ 999 * ρ'.v 11 := Int.mul_le_mul_of_nonneg_right rr.2 t0
    have rt0 : 0 ≤ (ρ'.v 0 % 1000) * ρ'.v 11 := Int.mul_nonneg rr.1 t0
    refine ⟨fun hlt => ⟨by rw [ev_leq]; simp only [den]; exact i0, ?_⟩, fun hge => ?_⟩
    · rw [ev_lss] at hlt
      simp only [den] at hlt
      have b0 := u32_in (g3 _ i0 hlt)
      have b1 := u32_in (g4 _ i0 hlt)
      have hw0 : IntKind.i64.wrap (ρ'.f 0 [ρ'.v 10]) = ρ'.f 0 [ρ'.v 10] := wrap_i64 (by omega) (by omega)
      have hw1 : IntKind.i64.wrap (ρ'.f 1 [ρ'.v 10]) = ρ'.f 1 [ρ'.v 10] := wrap_i64 (by omega) (by omega)
      generalize hd : ρ'.f 0 [ρ'.v 10] = d at *
      generalize he : ρ'.f 1 [ρ'.v 10] = e at *
      generalize hrr : ρ'.v 0 % 1000 = r at *
      have dr : d * r ≤ d * 999 := Int.mul_le_mul_of_nonneg_left rr.2 b0.1
      have dr0 : 0 ≤ d * r := Int.mul_nonneg b0.1 rr.1
      have x1 : binI .mul .i64 d r = d * r := mul_i64 (by omega) (by omega)
      have x2 : binI .quo .i64 (d * r) 1000000 = d * r / 1000000 := by
        show IntKind.i64.wrap (Int.tdiv _ _) = _
        rw [Int.tdiv_eq_ediv_of_nonneg dr0]
        exact wrap_i64 (by omega) (by omega)
      obtain ⟨m, hmm, m0, m1, m2⟩ : ∃ m, d * r / 1000000 = m ∧ 0 ≤ m ∧ m ≤ d ∧ m * 1000000 ≤ d * r := ⟨_, rfl, by omega, by omega, by omega⟩
      have x3 : binI .mul .i64 2 m = 2 * m := mul_i64 (by omega) (by omega)
      have x4 : binI .add .i64 (2 * m) 1 = 2 * m + 1 := add_i64 (by omega) (by omega)
      obtain ⟨x, hx, x0, x1'⟩ : ∃ x, binI .rem .i64 e (2 * m + 1) = x ∧ 0 ≤ x ∧ x ≤ 2 * m := by
        refine ⟨_, rfl, ?_⟩
        rw [rem_i64, Int.tmod_eq_emod_of_nonneg b1.1]
        have := Int.emod_nonneg e (show 2 * m + 1 ≠ 0 by omega)
        have := Int.emod_lt_of_pos e (show 0 < 2 * m + 1 by omega)
        omega
      have x5 : binI .add .i64 d x = d + x := add_i64 (by omega) (by omega)
      have x6 : binI .sub .i64 (d + x) m = d + x - m := sub_i64 (by omega) (by omega)
      have x7 : (if d + x - m > 0 then d + x - m else 0) = d + x - m := by split <;> omega
      have x8 : binI .add .i64 (ρ'.v 11) d = ρ'.v 11 + d := add_i64 (by omega) (by omega)
      have x9 : binI .add .i64 (ρ'.v 12) (d + x - m) = ρ'.v 12 + (d + x - m) := add_i64 (by omega) (by omega)
      have hc : r * d = d * r := Int.mul_comm _ _
      have hF : Fine r d (d + x - m) := ⟨by omega, by omega, by omega, by omega, by rw [hc]; omega, by rw [hc]; omega⟩
      refine ⟨?_, fun h => ?_, fun _ => ⟨fun h => ?_, fun _ => ⟨fun h => ?_, fun _ => ⟨fun h => ?_, fun _ => ?_⟩⟩⟩⟩
      · rw [ev_neq]; simp only [den, dens, hw0, hw1, hr, hd, he, hrr, x1, x2, hmm, x3, x4]; omega
      · exfalso; rw [ev_lss] at h; simp only [den, dens, hw0, hw1, hr, hd, he, hrr, x1, x2, hmm, x3, x4, hx, x5, x6, x7] at h
        split at h <;> omega
      · exfalso; rw [ev_lss] at h; simp only [den, dens, hw0, hw1, hr, hd, he, hrr, x1, x2, hmm, x3, x4, hx, x5, x6, x7] at h
        split at h <;> omega
      · exfalso; rw [ev_not, ev_app'] at h; simp only [den, dens, hw0, hw1, hr, hd, he, hrr, x1, x2, hmm, x3, x4, hx, x5, x6, x7, gf 110 (by omega), f110, if_pos hF] at h
        omega
      · exfalso; rw [ev_lss] at h; simp only [den, dens, hw0, hw1, hr, hd, he, hrr, x1, x2, hmm, x3, x4, hx, x5, x6, x7, x8, x9] at h
        split at h <;> omega
      · refine hA _ _ _ d (d + x - m) rfl rfl ?_ ?_ hlt b0.1 b0.2 ?_ ?_
        · simp only [den, dens, hw0, hd, x8]
        · simp only [den, dens, hw0, hw1, hr, hd, he, hrr, x1, x2, hmm, x3, x4, hx, x5, x6, x7, x9]
        · first | (rw [hrr, hc]; omega) | (rw [hc]; omega)
        · first | (rw [hrr, hc]; omega) | (rw [hc]; omega)
    · rw [ev_lss'] at hge
      simp only [den] at hge
      generalize hrr : ρ'.v 0 % 1000 = r at *
      have hc : ρ'.v 11 * r = r * ρ'.v 11 := Int.mul_comm _ _
      have y1 : clamp (ρ'.v 12 - ρ'.v 11) = ρ'.v 12 - ρ'.v 11 := clamp_id (by unfold I64; omega)
      have y2 : md (ρ'.v 11) r 1000000 = r * ρ'.v 11 / 1000000 := by
        unfold md; rw [hc]; exact clamp_id (by unfold I64; omega)
      have y3 : ¬ (r < 0 ∨ (1000000 : Int) < 1) := by omega
      have y4 : clamp (-(ρ'.v 12 - ρ'.v 11)) = -(ρ'.v 12 - ρ'.v 11) := clamp_id (by unfold I64; omega)
      have z1 : binI .sub .i64 (ρ'.v 12) 0 = ρ'.v 12 := by rw [sub_i64 (by omega) (by omega)]; omega
      have z2 : binI .sub .i64 (ρ'.v 11) 0 = ρ'.v 11 := by rw [sub_i64 (by omega) (by omega)]; omega
      have z3 : binI .sub .i64 (ρ'.v 12) (ρ'.v 11) = ρ'.v 12 - ρ'.v 11 := sub_i64 (by omega) (by omega)
      refine ⟨fun _ => ⟨fun _ => ?_, fun h => ?_⟩, fun h => ?_⟩
      · show evB ρ' (.cmp .eql (.var 10) (.var 1)) = true
        rw [ev_eql]; simp only [den]; omega
      · exfalso; rw [ev_eql'] at h; simp only [den, z1, z2, z3] at h; exact h rfl
      · exfalso; rw [ev_leq'] at h
        simp only [den, dens, gf 104 (by omega), gf 111 (by omega), gf 112 (by omega), f104, f111, f112, hr, hrr, y1, y2, y4, if_neg y3] at h
        split at h <;> omega
end Go.Proofs.Ytmniekljfhecaaa.TGhostNear
