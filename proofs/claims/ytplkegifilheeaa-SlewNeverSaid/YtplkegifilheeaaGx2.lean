-- Written by a program of this session out of the translation (wip/patch_print.py, wip/print2.sh). Lean checks it.
import Derived.Test.YtplkegifilheeaaGx0
namespace Go.Proofs.Ytplkegifilheeaa.G
open Go.RowKit Go.Proofs.YtplkegifilheeaaW.PrintWords Go.Proofs.YtplkegifilheeaaW.PrintLast Go.Proofs.YtplkegifilheeaaW.PrintMore
attribute [local go_sem] max2_int min2_int max_two min_two max_three min_three max_four min_four   -- for this text's walks alone
set_option linter.unusedVariables false
set_option linter.unusedSimpArgs false

/-! ### bits_Len64: function 37 -/
theorem len8_cell : ∀ n : Fin 256, (Lib.len8tab[n.val]'(by rw [Lib.len8tab_size]; exact n.isLt)).toNat = Lib.bitLen n.val ∧ Lib.bitLen n.val ≤ 8 := by decide +kernel
theorem len_end (a x S : Int) (h : x.toNat < Lib.len8tab.size) (hx0 : 0 ≤ x) (hx1 : x < 256) (hS0 : 0 ≤ S) (hS : S ≤ 56) (hb : ((Lib.bitLen a.toNat : Nat) : Int) = S + (Lib.bitLen x.toNat : Nat)) :
    wrap64 (S + wrap64 ((Lib.len8tab[x.toNat]'h).toNat : Int)) = ((Lib.bitLen a.toNat : Nat) : Int) := by
  have c := len8_cell ⟨x.toNat, by omega⟩
  rw [hb]
  have c1 : (Lib.len8tab[x.toNat]'h).toNat = Lib.bitLen x.toNat := c.1
  have c2 : Lib.bitLen x.toNat ≤ 8 := c.2
  rw [c1]
  unfold wrap64
  omega
def bits_Len64.f (a0 : Int) : Option (Int) := if 0 ≤ a0 then (if a0 ≤ 18446744073709551615 then some ((Lib.bitLen a0.toNat : Nat) : Int) else none) else none
set_option maxHeartbeats 4000000 in
set_option maxRecDepth 100000 in
theorem bits_Len64.calls (a0 : Int) (r : Int) (w : World) (h : bits_Len64.f a0 = some r) :
    Calls Try.prog 37 #[.int .u64 a0] w fun e w' => e = .returned (.int .i64 r) ∧ Drawn0 w w' := by
  have q : (0 ≤ a0 ∧ a0 ≤ 18446744073709551615) ∧ r = ((Lib.bitLen a0.toNat : Nat) : Int) := by
    unfold bits_Len64.f at h
    by_cases h0 : 0 ≤ a0
    · rw [if_pos h0] at h
      by_cases h1 : a0 ≤ 18446744073709551615
      · rw [if_pos h1] at h
        exact ⟨⟨h0, h1⟩, (Option.some.inj h).symm⟩
      · rw [if_neg h1] at h
        cases h
    · rw [if_neg h0] at h
      cases h
  obtain ⟨⟨h0, h1⟩, rfl⟩ := q
  clear h
  have hsz : Lib.len8tab.size = 256 := Lib.len8tab_size
  go_enter Try.func37, Try.ntmps37
  go_wp2
  all_goals (go_ret; refine ⟨congrArg Ending.returned (congrArg (Value.int IntKind.i64) ?_), Drawn0.refl _⟩)
  all_goals first
    | (refine len_end a0 (a0 / 4294967296 / 65536 / 256) 56 _ (by omega) (by omega) (by omega) (by omega) ?_
       rw [Lib.bitLen_shift56 a0.toNat (by omega) (by omega), show (a0 / 4294967296 / 65536 / 256).toNat = a0.toNat / 72057594037927936 by omega]
       omega)
    | (refine len_end a0 (a0 / 4294967296 / 65536) 48 _ (by omega) (by omega) (by omega) (by omega) ?_
       rw [Lib.bitLen_shift48 a0.toNat (by omega) (by omega), show (a0 / 4294967296 / 65536).toNat = a0.toNat / 281474976710656 by omega]
       omega)
    | (refine len_end a0 (a0 / 4294967296 / 256) 40 _ (by omega) (by omega) (by omega) (by omega) ?_
       rw [Lib.bitLen_shift40 a0.toNat (by omega) (by omega), show (a0 / 4294967296 / 256).toNat = a0.toNat / 1099511627776 by omega]
       omega)
    | (refine len_end a0 (a0 / 4294967296) 32 _ (by omega) (by omega) (by omega) (by omega) ?_
       rw [Lib.bitLen_shift32 a0.toNat (by omega) (by omega), show (a0 / 4294967296).toNat = a0.toNat / 4294967296 by omega]
       omega)
    | (refine len_end a0 (a0 / 65536 / 256) 24 _ (by omega) (by omega) (by omega) (by omega) ?_
       rw [Lib.bitLen_shift24 a0.toNat (by omega) (by omega), show (a0 / 65536 / 256).toNat = a0.toNat / 16777216 by omega]
       omega)
    | (refine len_end a0 (a0 / 65536) 16 _ (by omega) (by omega) (by omega) (by omega) ?_
       rw [Lib.bitLen_shift16 a0.toNat (by omega) (by omega), show (a0 / 65536).toNat = a0.toNat / 65536 by omega]
       omega)
    | (refine len_end a0 (a0 / 256) 8 _ (by omega) (by omega) (by omega) (by omega) ?_
       rw [Lib.bitLen_shift8 a0.toNat (by omega) (by omega), show (a0 / 256).toNat = a0.toNat / 256 by omega]
       omega)
    | (have z := len_end a0 a0 0 (by omega) (by omega) (by omega) (by omega) (by omega) (by omega)
       rw [Int.zero_add] at z
       exact z)

/-! ### bits_LeadingZeros64: function 35 -/
def bits_LeadingZeros64.f (a0 : Int) : Option (Int) := (bits_Len64.f a0).bind fun t101 => (some (wrap64 (64 - t101)))
set_option maxHeartbeats 8000000 in
set_option maxRecDepth 100000 in
theorem bits_LeadingZeros64.calls (a0 : Int) (r : Int) (w : World) (h : bits_LeadingZeros64.f a0 = some r) :
    Calls Try.prog 35 #[.int .u64 a0] w fun e w' => e = .returned (.int .i64 r) ∧ Drawn0 w w' := by
  have H : ((bits_Len64.f a0).bind fun t101 => (some (wrap64 (64 - t101)))) = some r := h
  clear h
  replace H := Option.bind_eq_some_iff.mp H
  obtain ⟨t101, A20, H⟩ := H
  replace H : (some (wrap64 (64 - t101))) = some r := H
  have A2 := Aside0.mk A20
  clear A20
  obtain rfl := Option.some.inj H
  go_enter Try.func35, Try.ntmps35
  go_wp2_with (first | ((with_reducible refine gate_callee (f := 37) rfl ?_); refine goesL_ (some 4) rfl rfl Try.func37 (by kernel_rfl) rfl #[.int .u64 a0] rfl (by (try simp only [List.map_toArray, List.map_cons, List.map_nil]); first | done | rfl | (simp only [List.length_drop, List.length_take]; rfl)) ?_; (with_reducible refine (bits_Len64.calls a0 t101 _ A2.out).mono ?_); rintro e w' ⟨rfl, ⟨nd, rfl⟩⟩; refine ⟨_, rfl, ?_⟩))
  go_ret
  exact ⟨by first | rfl | (simp; done) | (simp [*]; done), by repeat (first | exact Drawn0.refl _ | apply Drawn0.step)⟩

end Go.Proofs.Ytplkegifilheeaa.G
