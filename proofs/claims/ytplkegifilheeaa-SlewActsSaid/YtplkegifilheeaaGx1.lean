-- Written by a program of this session out of the translation (wip/patch_print.py, wip/print2.sh). Lean checks it.
import Derived.Test.YtplkegifilheeaaGx0
namespace Go.Proofs.Ytplkegifilheeaa.G
open Go.RowKit Go.Proofs.YtplkegifilheeaaW.PrintWords Go.Proofs.YtplkegifilheeaaW.PrintLast Go.Proofs.YtplkegifilheeaaW.PrintMore
attribute [local go_sem] max2_int min2_int max_two min_two max_three min_three max_four min_four   -- for this text's walks alone
set_option linter.unusedVariables false
set_option linter.unusedSimpArgs false

/-! ### chronobatelaw07_rate: function 10 -/
def chronobatelaw07_rate.f (a0 : Int) : Option (Int) := some (wrap64 (1 + (wrap64 (Int.tmod a0 500))))
set_option maxHeartbeats 8000000 in
set_option maxRecDepth 100000 in
theorem chronobatelaw07_rate.calls (a0 : Int) (r : Int) (w : World) (h : chronobatelaw07_rate.f a0 = some r) :
    Calls Try.prog 10 #[.int .u16 a0] w fun e w' => e = .returned (.int .i64 r) ∧ Drawn0 w w' := by
  have H : (some (wrap64 (1 + (wrap64 (Int.tmod a0 500))))) = some r := h
  clear h
  obtain rfl := Option.some.inj H
  go_enter Try.func10, Try.ntmps10
  go_wp2
  go_ret
  exact ⟨by first | rfl | (simp; done) | (simp [*]; done), by repeat (first | exact Drawn0.refl _ | apply Drawn0.step)⟩

-- NOT PRINTED: function 11 (slew_New)

/-! ### bits_Mul64: function 29 -/
def bits_Mul64.f (a0 : Int) (a1 : Int) : Option (Int × Int) := some (IntKind.u64.wrap ((IntKind.u64.wrap ((IntKind.u64.wrap ((a0 / 4294967296) * (a1 / 4294967296))) + ((IntKind.u64.wrap ((IntKind.u64.wrap ((a0 / 4294967296) * (Go.bits .and .u64 a1 4294967295))) + ((IntKind.u64.wrap ((Go.bits .and .u64 a0 4294967295) * (Go.bits .and .u64 a1 4294967295))) / 4294967296))) / 4294967296))) + ((IntKind.u64.wrap ((Go.bits .and .u64 (IntKind.u64.wrap ((IntKind.u64.wrap ((a0 / 4294967296) * (Go.bits .and .u64 a1 4294967295))) + ((IntKind.u64.wrap ((Go.bits .and .u64 a0 4294967295) * (Go.bits .and .u64 a1 4294967295))) / 4294967296))) 4294967295) + (IntKind.u64.wrap ((Go.bits .and .u64 a0 4294967295) * (a1 / 4294967296))))) / 4294967296)), IntKind.u64.wrap (a0 * a1))
set_option maxHeartbeats 8000000 in
set_option maxRecDepth 100000 in
theorem bits_Mul64.calls (a0 : Int) (a1 : Int) (r1 : Int) (r2 : Int) (w : World) (h : bits_Mul64.f a0 a1 = some (r1, r2)) :
    Calls Try.prog 29 #[.int .u64 a0, .int .u64 a1] w fun e w' => e = .returned (.tuple #[.int .u64 r1, .int .u64 r2]) ∧ Drawn0 w w' := by
  have H : (some (IntKind.u64.wrap ((IntKind.u64.wrap ((IntKind.u64.wrap ((a0 / 4294967296) * (a1 / 4294967296))) + ((IntKind.u64.wrap ((IntKind.u64.wrap ((a0 / 4294967296) * (Go.bits .and .u64 a1 4294967295))) + ((IntKind.u64.wrap ((Go.bits .and .u64 a0 4294967295) * (Go.bits .and .u64 a1 4294967295))) / 4294967296))) / 4294967296))) + ((IntKind.u64.wrap ((Go.bits .and .u64 (IntKind.u64.wrap ((IntKind.u64.wrap ((a0 / 4294967296) * (Go.bits .and .u64 a1 4294967295))) + ((IntKind.u64.wrap ((Go.bits .and .u64 a0 4294967295) * (Go.bits .and .u64 a1 4294967295))) / 4294967296))) 4294967295) + (IntKind.u64.wrap ((Go.bits .and .u64 a0 4294967295) * (a1 / 4294967296))))) / 4294967296)), IntKind.u64.wrap (a0 * a1))) = some (r1, r2) := h
  clear h
  simp only [Option.some.injEq, Prod.mk.injEq] at H
  obtain ⟨rfl, rfl⟩ := H
  go_enter Try.func29, Try.ntmps29
  go_wp2
  go_ret2
  exact ⟨by first | rfl | (simp; done) | (simp [*]; done), by repeat (first | exact Drawn0.refl _ | apply Drawn0.step)⟩

/-! ### sat_end: function 30 -/
def sat_end.f (a0 : Int) : Option (Int) := some (Go.bits .xor .i64 9223372036854775807 (a0 / 9223372036854775808))
set_option maxHeartbeats 8000000 in
set_option maxRecDepth 100000 in
theorem sat_end.calls (a0 : Int) (r : Int) (w : World) (h : sat_end.f a0 = some r) :
    Calls Try.prog 30 #[.int .i64 a0] w fun e w' => e = .returned (.int .i64 r) ∧ Drawn0 w w' := by
  have H : (some (Go.bits .xor .i64 9223372036854775807 (a0 / 9223372036854775808))) = some r := h
  clear h
  obtain rfl := Option.some.inj H
  go_enter Try.func30, Try.ntmps30
  go_wp2
  go_ret
  exact ⟨by first | rfl | (simp; done) | (simp [*]; done), by repeat (first | exact Drawn0.refl _ | apply Drawn0.step)⟩

/-! ### bits_Len64: function 37 -/
theorem len8_cell : ∀ n : Fin 256, (Lib.len8tab[n.val]'(by rw [Lib.len8tab_size]; exact n.isLt)).toNat = Lib.bitLen n.val ∧ Lib.bitLen n.val ≤ 8 := by decide +kernel
theorem len_end (a x S : Int) (h : x.toNat < Lib.len8tab.size) (hx0 : 0 ≤ x) (hx1 : x < 256) (hS0 : 0 ≤ S) (hS : S ≤ 56) (hb : ((Lib.bitLen a.toNat : Nat) : Int) = S + (Lib.bitLen x.toNat : Nat)) :
    wrap64 (S + wrap64 ((Lib.len8tab[x.toNat]'h).toNat : Int)) = ((Lib.bitLen a.toNat : Nat) : Int) := by
  have c := len8_cell ⟨x.toNat, by omega⟩
  rw [hb]
  have c1 : (Lib.len8tab[x.toNat]'h).toNat = Lib.bitLen x.toNat := c.1
  have c2 : Lib.bitLen x.toNat ≤ 8 := c.2
  rw [c1]
  unfold wrap64
  omega
def bits_Len64.f (a0 : Int) : Option (Int) := if 0 ≤ a0 then (if a0 ≤ 18446744073709551615 then some ((Lib.bitLen a0.toNat : Nat) : Int) else none) else none
set_option maxHeartbeats 4000000 in
set_option maxRecDepth 100000 in
theorem bits_Len64.calls (a0 : Int) (r : Int) (w : World) (h : bits_Len64.f a0 = some r) :
    Calls Try.prog 37 #[.int .u64 a0] w fun e w' => e = .returned (.int .i64 r) ∧ Drawn0 w w' := by
  have q : (0 ≤ a0 ∧ a0 ≤ 18446744073709551615) ∧ r = ((Lib.bitLen a0.toNat : Nat) : Int) := by
    unfold bits_Len64.f at h
    by_cases h0 : 0 ≤ a0
    · rw [if_pos h0] at h
      by_cases h1 : a0 ≤ 18446744073709551615
      · rw [if_pos h1] at h
        exact ⟨⟨h0, h1⟩, (Option.some.inj h).symm⟩
      · rw [if_neg h1] at h
        cases h
    · rw [if_neg h0] at h
      cases h
  obtain ⟨⟨h0, h1⟩, rfl⟩ := q
  clear h
  have hsz : Lib.len8tab.size = 256 := Lib.len8tab_size
  go_enter Try.func37, Try.ntmps37
  go_wp2
  all_goals (go_ret; refine ⟨congrArg Ending.returned (congrArg (Value.int IntKind.i64) ?_), Drawn0.refl _⟩)
  all_goals first
    | (refine len_end a0 (a0 / 4294967296 / 65536 / 256) 56 _ (by omega) (by omega) (by omega) (by omega) ?_
       rw [Lib.bitLen_shift56 a0.toNat (by omega) (by omega), show (a0 / 4294967296 / 65536 / 256).toNat = a0.toNat / 72057594037927936 by omega]
       omega)
    | (refine len_end a0 (a0 / 4294967296 / 65536) 48 _ (by omega) (by omega) (by omega) (by omega) ?_
       rw [Lib.bitLen_shift48 a0.toNat (by omega) (by omega), show (a0 / 4294967296 / 65536).toNat = a0.toNat / 281474976710656 by omega]
       omega)
    | (refine len_end a0 (a0 / 4294967296 / 256) 40 _ (by omega) (by omega) (by omega) (by omega) ?_
       rw [Lib.bitLen_shift40 a0.toNat (by omega) (by omega), show (a0 / 4294967296 / 256).toNat = a0.toNat / 1099511627776 by omega]
       omega)
    | (refine len_end a0 (a0 / 4294967296) 32 _ (by omega) (by omega) (by omega) (by omega) ?_
       rw [Lib.bitLen_shift32 a0.toNat (by omega) (by omega), show (a0 / 4294967296).toNat = a0.toNat / 4294967296 by omega]
       omega)
    | (refine len_end a0 (a0 / 65536 / 256) 24 _ (by omega) (by omega) (by omega) (by omega) ?_
       rw [Lib.bitLen_shift24 a0.toNat (by omega) (by omega), show (a0 / 65536 / 256).toNat = a0.toNat / 16777216 by omega]
       omega)
    | (refine len_end a0 (a0 / 65536) 16 _ (by omega) (by omega) (by omega) (by omega) ?_
       rw [Lib.bitLen_shift16 a0.toNat (by omega) (by omega), show (a0 / 65536).toNat = a0.toNat / 65536 by omega]
       omega)
    | (refine len_end a0 (a0 / 256) 8 _ (by omega) (by omega) (by omega) (by omega) ?_
       rw [Lib.bitLen_shift8 a0.toNat (by omega) (by omega), show (a0 / 256).toNat = a0.toNat / 256 by omega]
       omega)
    | (have z := len_end a0 a0 0 (by omega) (by omega) (by omega) (by omega) (by omega) (by omega)
       rw [Int.zero_add] at z
       exact z)

/-! ### bits_LeadingZeros64: function 35 -/
def bits_LeadingZeros64.f (a0 : Int) : Option (Int) := (bits_Len64.f a0).bind fun t101 => (some (wrap64 (64 - t101)))
set_option maxHeartbeats 8000000 in
set_option maxRecDepth 100000 in
theorem bits_LeadingZeros64.calls (a0 : Int) (r : Int) (w : World) (h : bits_LeadingZeros64.f a0 = some r) :
    Calls Try.prog 35 #[.int .u64 a0] w fun e w' => e = .returned (.int .i64 r) ∧ Drawn0 w w' := by
  have H : ((bits_Len64.f a0).bind fun t101 => (some (wrap64 (64 - t101)))) = some r := h
  clear h
  replace H := Option.bind_eq_some_iff.mp H
  obtain ⟨t101, A20, H⟩ := H
  replace H : (some (wrap64 (64 - t101))) = some r := H
  have A2 := Aside0.mk A20
  clear A20
  obtain rfl := Option.some.inj H
  go_enter Try.func35, Try.ntmps35
  go_wp2_with (first | ((with_reducible refine gate_callee (f := 37) rfl ?_); refine goesL_ (some 4) rfl rfl Try.func37 (by kernel_rfl) rfl #[.int .u64 a0] rfl (by (try simp only [List.map_toArray, List.map_cons, List.map_nil]); first | done | rfl | (simp only [List.length_drop, List.length_take]; rfl)) ?_; (with_reducible refine (bits_Len64.calls a0 t101 _ A2.out).mono ?_); rintro e w' ⟨rfl, ⟨nd, rfl⟩⟩; refine ⟨_, rfl, ?_⟩))
  go_ret
  exact ⟨by first | rfl | (simp; done) | (simp [*]; done), by repeat (first | exact Drawn0.refl _ | apply Drawn0.step)⟩

end Go.Proofs.Ytplkegifilheeaa.G
