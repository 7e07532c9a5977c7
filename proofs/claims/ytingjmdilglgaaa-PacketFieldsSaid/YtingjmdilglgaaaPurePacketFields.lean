/- Each part of a packet stands in bytes of its own: with one part turned, these alone are others. No conditions. -/
import Derived.Test.YtingjmdilglgaaaLAl3
import Derived.Test.YtingjmdilglgaaaGx5
namespace Go.Proofs.Ytingjmdilglgaaa.Pure
open Go.RowKit Go.Proofs.Ytingjmdilglgaaa.G Go.Proofs.YtingjmdilglgaaaW.PrintWords Go.Proofs.YtingjmdilglgaaaW.PrintLast Go.Proofs.YtingjmdilglgaaaW.PrintMore Go.Proofs.Ytingjmdilglgaaa.L
set_option linter.unusedVariables false
set_option linter.unusedSimpArgs false
theorem rd_left {A B : List Int} {i : Nat} (h : i < A.length) : rd (A ++ B) i = rd A i := by
  simp [rd, List.getD_eq_getElem?_getD, List.getElem?_append_left h]
theorem rd_right {A B : List Int} {i : Nat} (h : A.length ≤ i) : rd (A ++ B) i = rd B ((i - A.length : Nat) : Int) := by
  simp only [rd, List.getD_eq_getElem?_getD, Int.toNat_natCast]
  rw [List.getElem?_append_right h]
/-- The bytes of a number's complement are others, each. -/
theorem wb_turn (s : Nat) : ∀ x : Int, wb s (256 ^ s - 1 - x) = (wb s x).map (fun c => 255 - c) := by
  induction s with
  | zero => intro x; rfl
  | succ s ih =>
    intro x
    have hp : (256 : Int) ^ (s + 1) = 256 * 256 ^ s := by rw [Int.pow_succ, Int.mul_comm]
    rw [wb, wb, List.map_append, ← ih, hp]
    generalize (256 : Int) ^ s = P
    have e1 : (256 * P - 1 - x) / 256 = P - 1 - x / 256 := by omega
    have e2 : (256 * P - 1 - x) % 256 = 255 - x % 256 := by omega
    rw [e1, e2]
    rfl
theorem turn_ne {l : List Int} (hb : Bytes l) (i : Nat) (hi : i < l.length) : rd l i ≠ rd (l.map (fun c => 255 - c)) i := by
  have h := rd_byte hb i
  have e : rd (l.map (fun c => 255 - c)) i = 255 - rd l i := by
    simp [rd, List.getD_eq_getElem?_getD, List.getElem?_eq_getElem hi]
  rw [e]
  omega
/-- The loop over both lists' bytes. -/
theorem fields_l0 {A B B' C : List Int} (hB : B'.length = B.length) (hlen : A.length + B.length + C.length = 48) (hne : ∀ i : Nat, i < B.length → rd B i ≠ rd B' i) :
    ∀ (d k i : Nat), i + d = 48 → d + 61 < k → chronobatelaw03_PacketFields.l0 k (A ++ (B ++ C)) (A.length : Int) ((A.length + B.length : Nat) : Int) (A ++ (B' ++ C)) 48 i = some true := by
  intro d
  induction d with
  | zero =>
    intro k i hi hk
    obtain ⟨k, rfl⟩ : ∃ m, k = m + 1 := ⟨k - 1, by omega⟩
    simp only [chronobatelaw03_PacketFields.l0]
    rw [if_neg (by omega), alive3 k (by omega)]
    rfl
  | succ d ih =>
    intro k i hi hk
    obtain ⟨k, rfl⟩ : ∃ m, k = m + 1 := ⟨k - 1, by omega⟩
    have hl1 : (A ++ (B ++ C)).length = 48 := by simp; omega
    have hl2 : (A ++ (B' ++ C)).length = 48 := by simp; omega
    have hn := ih k (i + 1) (by omega) (by omega)
    have ew : wrap64 ((i : Int) + 1) = ((i + 1 : Nat) : Int) := by unfold wrap64; omega
    simp only [chronobatelaw03_PacketFields.l0]
    rw [if_pos (by omega), ew]
    by_cases h1 : A.length ≤ i
    · rw [if_pos (by omega), if_pos (by omega), if_pos (by omega), if_pos (by omega)]
      rw [rd_right h1, rd_right h1]
      by_cases h2 : i < A.length + B.length
      · rw [rd_left (by omega), rd_left (by omega)]
        have := hne (i - A.length) (by omega)
        have e1 : decide ((i : Int) < ((A.length + B.length : Nat) : Int)) = true := decide_eq_true (by omega)
        have e2 : (rd B ((i - A.length : Nat) : Int) != rd B' ((i - A.length : Nat) : Int)) = true := bne_iff_ne.2 this
        rw [e1, e2, if_neg (by decide)]
        exact hn
      · rw [rd_right (by omega), rd_right (by omega), hB, if_neg (by simp; omega)]
        exact hn
    · rw [if_neg (by omega), if_pos (by omega), if_pos (by omega), if_pos (by omega), rd_left (by omega), rd_left (by omega), if_neg (by simp)]
      exact hn
theorem xor1_u8 {x : Int} (m : Nat) (h : 0 ≤ x ∧ x ≤ m) (hm : m = 3 ∨ m = 7) : 0 ≤ Go.bits .xor .u8 x 1 ∧ Go.bits .xor .u8 x 1 ≤ m ∧ Go.bits .xor .u8 x 1 ≠ x := by
  rcases hm with rfl | rfl
  · have : x = 0 ∨ x = 1 ∨ x = 2 ∨ x = 3 := by omega
    rcases this with rfl | rfl | rfl | rfl <;> decide +kernel
  · have : x = 0 ∨ x = 1 ∨ x = 2 ∨ x = 3 ∨ x = 4 ∨ x = 5 ∨ x = 6 ∨ x = 7 := by omega
    rcases this with rfl | rfl | rfl | rfl | rfl | rfl | rfl | rfl <;> decide +kernel
theorem nat_turn (n : Nat) : ∀ a : Nat, a < 2 ^ n → (2 ^ n - 1) ^^^ a = 2 ^ n - 1 - a := by
  intro a ha
  apply Nat.eq_of_testBit_eq
  intro i
  rw [Nat.testBit_xor, Nat.testBit_two_pow_sub_one, Nat.sub_sub, Nat.add_comm 1, Nat.testBit_two_pow_sub_succ ha]
  by_cases hi : i < n
  · simp [hi]
  · have : a.testBit i = false := Nat.testBit_lt_two_pow (Nat.lt_of_lt_of_le ha (Nat.pow_le_pow_right (by omega) (by omega)))
    simp [hi, this]
theorem turn_u8 {x : Int} (h : 0 ≤ x ∧ x ≤ 255) : Go.bits .xor .u8 255 x = 255 - x := by
  rw [u8_xor 255 x (by omega) (by omega) (by omega) (by omega), show (255 : Int).toNat = 2 ^ 8 - 1 from rfl, nat_turn 8 x.toNat (by omega)]
  omega
theorem turn_u32 {x : Int} (h : 0 ≤ x ∧ x < 4294967296) : Go.bits .xor .u32 4294967295 x = 4294967295 - x := by
  rw [u32_xor 4294967295 x (by omega) (by omega) (by omega) (by omega), show (4294967295 : Int).toNat = 2 ^ 32 - 1 from rfl, nat_turn 32 x.toNat (by omega)]
  omega
theorem turn_u64 {x : Int} (h : U64 x) : Go.bits .xor .u64 18446744073709551615 x = 18446744073709551615 - x := by
  unfold U64 at h
  rw [u64_xor 18446744073709551615 x (by omega) (by omega) (by omega) (by omega), show (18446744073709551615 : Int).toNat = 2 ^ 64 - 1 from rfl, nat_turn 64 x.toNat (by omega)]
  omega
theorem turn_i8 : ∀ n : Fin 256, Go.bits .xor .i8 (-1) ((n.val : Int) - 128) = -1 - ((n.val : Int) - 128) := by decide +kernel
theorem turn_i8' {x : Int} (h : -128 ≤ x ∧ x ≤ 127) : Go.bits .xor .i8 (-1) x = -1 - x := by
  have z := turn_i8 ⟨(x + 128).toNat, by omega⟩
  rw [show ((((⟨(x + 128).toNat, by omega⟩ : Fin 256).val : Nat) : Int)) - 128 = x by show (((x + 128).toNat : Nat) : Int) - 128 = x; omega] at z
  exact z
/-- One part turned: the law's answer. -/
theorem fields_j1 (k : Nat) (hk : 140 ≤ k) {A B B' C b : List Int} (hb : b = A ++ (B ++ C)) (hB : B'.length = B.length) (hlen : A.length + B.length + C.length = 48) (hne : ∀ i : Nat, i < B.length → rd B i ≠ rd B' i) (fr too : Int) (hfr : fr = A.length) (hto : too = ((A.length + B.length : Nat) : Int))
    {a0 a1 a2 a3 a4 a5 a6 a7 a8 a9 a10 a11 a12 : Int} (hp : ∀ k, 60 ≤ k → packet_Put.f k a0 a1 a2 a3 a4 a5 a6 a7 a8 a9 a10 a11 a12 = some (A ++ (B' ++ C), 0)) :
    chronobatelaw03_PacketFields.j1 k b fr too a0 a1 a2 a3 a4 a5 a6 a7 a8 a9 a10 a11 a12 = some true := by
  obtain ⟨k, rfl⟩ : ∃ m, k = m + 1 + 1 := ⟨k - 2, by omega⟩
  subst hb hfr hto
  have hl1 : (A ++ (B ++ C)).length = 48 := by simp; omega
  have hl2 : (A ++ (B' ++ C)).length = 48 := by simp; omega
  simp only [chronobatelaw03_PacketFields.j1]
  rw [hp (k + 1) (by omega)]
  simp only [Option.bind_some]
  simp only [if_true]
  rw [hl2, show (((48 : Nat) : Int) != 48) = false from rfl]
  simp only [chronobatelaw03_PacketFields.j2, Bool.false_eq_true, if_false]
  rw [hl1]
  exact fields_l0 hB hlen hne 48 k 0 (by omega) (by omega)
theorem one_ne {x y : Int} (h : x % 256 ≠ y % 256) : ∀ i : Nat, i < (wb 1 x).length → rd (wb 1 x) i ≠ rd (wb 1 y) i := by
  intro i hi
  rw [wb_length] at hi
  obtain rfl : i = 0 := by omega
  have e : ∀ z : Int, rd (wb 1 z) ((0 : Nat) : Int) = z % 256 := fun z => rfl
  rw [e, e]
  exact h
theorem many_ne (s : Nat) (x : Int) : ∀ i : Nat, i < (wb s x).length → rd (wb s x) i ≠ rd (wb s (256 ^ s - 1 - x)) i := by
  intro i hi
  rw [wb_turn]
  exact turn_ne (wb_byte s x) i hi
theorem put48_split (h a3 a4 a5 a6 a7 a8 a9 a10 a11 a12 : Int) : put48 h a3 a4 a5 a6 a7 a8 a9 a10 a11 a12 = wb 1 h ++ (wb 1 a3 ++ (wb 1 (a4 % 256) ++ (wb 1 (a5 % 256) ++ (wb 4 a6 ++ (wb 4 a7 ++ (wb 4 a8 ++ (wb 8 a9 ++ (wb 8 a10 ++ (wb 8 a11 ++ wb 8 a12))))))))) := by
  simp [put48, List.flatMap_cons, List.append_assoc]
theorem PacketFields (a0 a1 a2 a3 a4 a5 a6 a7 a8 a9 a10 a11 a12 v : Int) (w0 : (Lit.int .u8 a0).wf = true) (w1 : (Lit.int .u8 a1).wf = true) (w2 : (Lit.int .u8 a2).wf = true) (w3 : (Lit.int .u8 a3).wf = true) (w4 : (Lit.int .i8 a4).wf = true) (w5 : (Lit.int .i8 a5).wf = true) (w6 : (Lit.int .u32 a6).wf = true) (w7 : (Lit.int .u32 a7).wf = true) (w8 : (Lit.int .u32 a8).wf = true) (w9 : (Lit.int .u64 a9).wf = true) (w10 : (Lit.int .u64 a10).wf = true) (w11 : (Lit.int .u64 a11).wf = true) (w12 : (Lit.int .u64 a12).wf = true) (wv : (Lit.int .u8 v).wf = true) :
    ∃ k, chronobatelaw03_PacketFields.f k a0 a1 a2 a3 a4 a5 a6 a7 a8 a9 a10 a11 a12 v = some true := by
  have h0 := wf_u8 w0
  have h1 := wf_u8 w1
  have h2 := wf_u8 w2
  have h3 := wf_u8 w3
  have h4 := wf_i8 w4
  have h5 := wf_i8 w5
  have h6 := wf_u32 w6
  have h7 := wf_u32 w7
  have h8 := wf_u32 w8
  have h10 := u64_of_wf w10
  have h12 := u64_of_wf w12
  have hv := wf_u8 wv
  refine ⟨200, ?_⟩
  unfold chronobatelaw03_PacketFields.f
  by_cases hok : a0 ≤ 3 ∧ a1 ≤ 7 ∧ a2 ≤ 7
  · obtain ⟨g0, g1, g2⟩ := hok
    rw [put_ok 200 (by omega) a0 a1 a2 a3 a4 a5 a6 a7 a8 a9 a10 a11 a12 ⟨h0.1, g0⟩ ⟨h1.1, g1⟩ ⟨h2.1, g2⟩ h3 h6 h7 h8]
    simp only [Option.bind_some]
    simp only [if_true]
    rw [put48_length, show (((48 : Nat) : Int) != 48) = false from rfl]
    simp only [chronobatelaw03_PacketFields.j0, Bool.false_eq_true, if_false]
    have hm : Int.tmod v 11 = v % 11 := Int.tmod_eq_emod_of_nonneg hv.1
    rw [hm]
    have hs := put48_split
    by_cases c0 : v % 11 = 0
    · rw [if_pos c0]
      have hx := xor1_u8 3 ⟨h0.1, g0⟩ (.inl rfl)
      refine fields_j1 199 (by omega) (A := []) (B := wb 1 (64 * a0 + 8 * a1 + a2)) (B' := wb 1 (64 * Go.bits .xor .u8 a0 1 + 8 * a1 + a2)) (C := wb 1 a3 ++ (wb 1 (a4 % 256) ++ (wb 1 (a5 % 256) ++ (wb 4 a6 ++ (wb 4 a7 ++ (wb 4 a8 ++ (wb 8 a9 ++ (wb 8 a10 ++ (wb 8 a11 ++ (wb 8 a12)))))))))) (hs ..) (by simp [wb_length]) (by simp [wb_length]) (one_ne (by omega)) 0 1 rfl (by simp [wb_length]) (fun k hk => ?_)
      rw [put_ok k hk _ a1 a2 a3 a4 a5 a6 a7 a8 a9 a10 a11 a12 ⟨hx.1, hx.2.1⟩ ⟨h1.1, g1⟩ ⟨h2.1, g2⟩ h3 h6 h7 h8, hs]
      rfl
    rw [if_neg c0]
    by_cases c1 : v % 11 = 1
    · rw [if_pos c1]
      have hx := xor1_u8 7 ⟨h1.1, g1⟩ (.inr rfl)
      refine fields_j1 199 (by omega) (A := []) (B := wb 1 (64 * a0 + 8 * a1 + a2)) (B' := wb 1 (64 * a0 + 8 * Go.bits .xor .u8 a1 1 + a2)) (C := wb 1 a3 ++ (wb 1 (a4 % 256) ++ (wb 1 (a5 % 256) ++ (wb 4 a6 ++ (wb 4 a7 ++ (wb 4 a8 ++ (wb 8 a9 ++ (wb 8 a10 ++ (wb 8 a11 ++ (wb 8 a12)))))))))) (hs ..) (by simp [wb_length]) (by simp [wb_length]) (one_ne (by omega)) 0 1 rfl (by simp [wb_length]) (fun k hk => ?_)
      rw [put_ok k hk a0 _ a2 a3 a4 a5 a6 a7 a8 a9 a10 a11 a12 ⟨h0.1, g0⟩ ⟨hx.1, hx.2.1⟩ ⟨h2.1, g2⟩ h3 h6 h7 h8, hs]
      rfl
    rw [if_neg c1]
    by_cases c2 : v % 11 = 2
    · rw [if_pos c2]
      have hx := xor1_u8 7 ⟨h2.1, g2⟩ (.inr rfl)
      refine fields_j1 199 (by omega) (A := []) (B := wb 1 (64 * a0 + 8 * a1 + a2)) (B' := wb 1 (64 * a0 + 8 * a1 + Go.bits .xor .u8 a2 1)) (C := wb 1 a3 ++ (wb 1 (a4 % 256) ++ (wb 1 (a5 % 256) ++ (wb 4 a6 ++ (wb 4 a7 ++ (wb 4 a8 ++ (wb 8 a9 ++ (wb 8 a10 ++ (wb 8 a11 ++ (wb 8 a12)))))))))) (hs ..) (by simp [wb_length]) (by simp [wb_length]) (one_ne (by omega)) 0 1 rfl (by simp [wb_length]) (fun k hk => ?_)
      rw [put_ok k hk a0 a1 _ a3 a4 a5 a6 a7 a8 a9 a10 a11 a12 ⟨h0.1, g0⟩ ⟨h1.1, g1⟩ ⟨hx.1, hx.2.1⟩ h3 h6 h7 h8, hs]
      rfl
    rw [if_neg c2]
    by_cases c3 : v % 11 = 3
    · rw [if_pos c3, turn_u8 h3]
      refine fields_j1 199 (by omega) (A := wb 1 (64 * a0 + 8 * a1 + a2)) (B := wb 1 a3) (B' := wb 1 (255 - a3)) (C := wb 1 (a4 % 256) ++ (wb 1 (a5 % 256) ++ (wb 4 a6 ++ (wb 4 a7 ++ (wb 4 a8 ++ (wb 8 a9 ++ (wb 8 a10 ++ (wb 8 a11 ++ (wb 8 a12))))))))) (hs ..) (by simp [wb_length]) (by simp [wb_length]) (one_ne (by omega)) 1 2 (by simp [wb_length]) (by simp [wb_length]) (fun k hk => ?_)
      rw [put_ok k hk a0 a1 a2 _ a4 a5 a6 a7 a8 a9 a10 a11 a12 ⟨h0.1, g0⟩ ⟨h1.1, g1⟩ ⟨h2.1, g2⟩ (by omega) h6 h7 h8, hs]
    rw [if_neg c3]
    by_cases c4 : v % 11 = 4
    · rw [if_pos c4, turn_i8' h4]
      refine fields_j1 199 (by omega) (A := wb 1 (64 * a0 + 8 * a1 + a2) ++ wb 1 a3) (B := wb 1 (a4 % 256)) (B' := wb 1 ((-1 - a4) % 256)) (C := wb 1 (a5 % 256) ++ (wb 4 a6 ++ (wb 4 a7 ++ (wb 4 a8 ++ (wb 8 a9 ++ (wb 8 a10 ++ (wb 8 a11 ++ (wb 8 a12)))))))) (by rw [hs]; simp only [List.append_assoc]) (by simp [wb_length]) (by simp [wb_length]) (one_ne (by omega)) 2 3 (by simp [wb_length]) (by simp [wb_length]) (fun k hk => ?_)
      rw [put_ok k hk a0 a1 a2 a3 _ a5 a6 a7 a8 a9 a10 a11 a12 ⟨h0.1, g0⟩ ⟨h1.1, g1⟩ ⟨h2.1, g2⟩ h3 h6 h7 h8, hs]
      simp only [List.append_assoc]
    rw [if_neg c4]
    by_cases c5 : v % 11 = 5
    · rw [if_pos c5, turn_i8' h5]
      refine fields_j1 199 (by omega) (A := wb 1 (64 * a0 + 8 * a1 + a2) ++ (wb 1 a3 ++ wb 1 (a4 % 256))) (B := wb 1 (a5 % 256)) (B' := wb 1 ((-1 - a5) % 256)) (C := wb 4 a6 ++ (wb 4 a7 ++ (wb 4 a8 ++ (wb 8 a9 ++ (wb 8 a10 ++ (wb 8 a11 ++ (wb 8 a12))))))) (by rw [hs]; simp only [List.append_assoc]) (by simp [wb_length]) (by simp [wb_length]) (one_ne (by omega)) 3 4 (by simp [wb_length]) (by simp [wb_length]) (fun k hk => ?_)
      rw [put_ok k hk a0 a1 a2 a3 a4 _ a6 a7 a8 a9 a10 a11 a12 ⟨h0.1, g0⟩ ⟨h1.1, g1⟩ ⟨h2.1, g2⟩ h3 h6 h7 h8, hs]
      simp only [List.append_assoc]
    rw [if_neg c5]
    by_cases c6 : v % 11 = 6
    · rw [if_pos c6, turn_u32 h6]
      refine fields_j1 199 (by omega) (A := wb 1 (64 * a0 + 8 * a1 + a2) ++ (wb 1 a3 ++ (wb 1 (a4 % 256) ++ wb 1 (a5 % 256)))) (B := wb 4 a6) (B' := wb 4 (256 ^ 4 - 1 - a6)) (C := wb 4 a7 ++ (wb 4 a8 ++ (wb 8 a9 ++ (wb 8 a10 ++ (wb 8 a11 ++ (wb 8 a12)))))) (by rw [hs]; simp only [List.append_assoc]) (by simp [wb_length]) (by simp [wb_length]) (many_ne 4 a6) 4 8 (by simp [wb_length]) (by simp [wb_length]) (fun k hk => ?_)
      rw [put_ok k hk a0 a1 a2 a3 a4 a5 _ a7 a8 a9 a10 a11 a12 ⟨h0.1, g0⟩ ⟨h1.1, g1⟩ ⟨h2.1, g2⟩ h3 (by omega) h7 h8, hs, show (256 : Int) ^ 4 - 1 = 4294967295 by decide]
      simp only [List.append_assoc]
    rw [if_neg c6]
    by_cases c7 : v % 11 = 7
    · rw [if_pos c7, turn_u32 h7]
      refine fields_j1 199 (by omega) (A := wb 1 (64 * a0 + 8 * a1 + a2) ++ (wb 1 a3 ++ (wb 1 (a4 % 256) ++ (wb 1 (a5 % 256) ++ wb 4 a6)))) (B := wb 4 a7) (B' := wb 4 (256 ^ 4 - 1 - a7)) (C := wb 4 a8 ++ (wb 8 a9 ++ (wb 8 a10 ++ (wb 8 a11 ++ (wb 8 a12))))) (by rw [hs]; simp only [List.append_assoc]) (by simp [wb_length]) (by simp [wb_length]) (many_ne 4 a7) 8 12 (by simp [wb_length]) (by simp [wb_length]) (fun k hk => ?_)
      rw [put_ok k hk a0 a1 a2 a3 a4 a5 a6 _ a8 a9 a10 a11 a12 ⟨h0.1, g0⟩ ⟨h1.1, g1⟩ ⟨h2.1, g2⟩ h3 h6 (by omega) h8, hs, show (256 : Int) ^ 4 - 1 = 4294967295 by decide]
      simp only [List.append_assoc]
    rw [if_neg c7]
    by_cases c8 : v % 11 = 8
    · rw [if_pos c8, turn_u32 h8]
      refine fields_j1 199 (by omega) (A := wb 1 (64 * a0 + 8 * a1 + a2) ++ (wb 1 a3 ++ (wb 1 (a4 % 256) ++ (wb 1 (a5 % 256) ++ (wb 4 a6 ++ wb 4 a7))))) (B := wb 4 a8) (B' := wb 4 (256 ^ 4 - 1 - a8)) (C := wb 8 a9 ++ (wb 8 a10 ++ (wb 8 a11 ++ (wb 8 a12)))) (by rw [hs]; simp only [List.append_assoc]) (by simp [wb_length]) (by simp [wb_length]) (many_ne 4 a8) 12 16 (by simp [wb_length]) (by simp [wb_length]) (fun k hk => ?_)
      rw [put_ok k hk a0 a1 a2 a3 a4 a5 a6 a7 _ a9 a10 a11 a12 ⟨h0.1, g0⟩ ⟨h1.1, g1⟩ ⟨h2.1, g2⟩ h3 h6 h7 (by omega), hs, show (256 : Int) ^ 4 - 1 = 4294967295 by decide]
      simp only [List.append_assoc]
    rw [if_neg c8]
    by_cases c9 : v % 11 = 9
    · rw [if_pos c9, turn_u64 h10]
      refine fields_j1 199 (by omega) (A := wb 1 (64 * a0 + 8 * a1 + a2) ++ (wb 1 a3 ++ (wb 1 (a4 % 256) ++ (wb 1 (a5 % 256) ++ (wb 4 a6 ++ (wb 4 a7 ++ (wb 4 a8 ++ wb 8 a9))))))) (B := wb 8 a10) (B' := wb 8 (256 ^ 8 - 1 - a10)) (C := wb 8 a11 ++ (wb 8 a12)) (by rw [hs]; simp only [List.append_assoc]) (by simp [wb_length]) (by simp [wb_length]) (many_ne 8 a10) 24 32 (by simp [wb_length]) (by simp [wb_length]) (fun k hk => ?_)
      rw [put_ok k hk a0 a1 a2 a3 a4 a5 a6 a7 a8 a9 _ a11 a12 ⟨h0.1, g0⟩ ⟨h1.1, g1⟩ ⟨h2.1, g2⟩ h3 h6 h7 h8, hs, show (256 : Int) ^ 8 - 1 = 18446744073709551615 by decide]
      simp only [List.append_assoc]
    rw [if_neg c9, turn_u64 h12]
    refine fields_j1 199 (by omega) (A := wb 1 (64 * a0 + 8 * a1 + a2) ++ (wb 1 a3 ++ (wb 1 (a4 % 256) ++ (wb 1 (a5 % 256) ++ (wb 4 a6 ++ (wb 4 a7 ++ (wb 4 a8 ++ (wb 8 a9 ++ (wb 8 a10 ++ wb 8 a11))))))))) (B := wb 8 a12) (B' := wb 8 (256 ^ 8 - 1 - a12)) (C := []) (by rw [hs]; simp only [List.append_assoc, List.append_nil]) (by simp [wb_length]) (by simp [wb_length]) (many_ne 8 a12) 40 48 (by simp [wb_length]) (by simp [wb_length]) (fun k hk => ?_)
    rw [put_ok k hk a0 a1 a2 a3 a4 a5 a6 a7 a8 a9 a10 a11 _ ⟨h0.1, g0⟩ ⟨h1.1, g1⟩ ⟨h2.1, g2⟩ h3 h6 h7 h8, hs, show (256 : Int) ^ 8 - 1 = 18446744073709551615 by decide]
    simp only [List.append_assoc, List.append_nil]
  · rw [put_bad 200 a0 a1 a2 a3 a4 a5 a6 a7 a8 a9 a10 a11 a12 hok]
    simp only [Option.bind_some]
    rw [if_neg (by omega)]
    simp only [chronobatelaw03_PacketFields.j0, if_true]
    rw [alive3 199 (by omega)]
    rfl
end Go.Proofs.Ytingjmdilglgaaa.Pure
