/- A packet is got of its bytes, whatever stands behind; what is got of any bytes has just the first 48. No conditions. -/
import Derived.Test.YtingjmdilglgaaaLAl3
import Derived.Test.YtingjmdilglgaaaGx11
namespace Go.Proofs.Ytingjmdilglgaaa.Pure
open Go.RowKit Go.Proofs.Ytingjmdilglgaaa.G Go.Proofs.YtingjmdilglgaaaW.PrintWords Go.Proofs.YtingjmdilglgaaaW.PrintLast Go.Proofs.YtingjmdilglgaaaW.PrintMore Go.Proofs.Ytingjmdilglgaaa.L
set_option linter.unusedVariables false
set_option linter.unusedSimpArgs false
theorem back_j2 (k : Nat) (hk : 100 ≤ k) {l : List Int} (hb : Bytes l) (hm : l.length ≤ 2000) : chronobatelaw03_PacketBack.j2 k l = some true := by
  obtain ⟨k, rfl⟩ : ∃ m, k = m + 1 := ⟨k - 1, by omega⟩
  simp only [chronobatelaw03_PacketBack.j2]
  by_cases h : 48 ≤ l.length
  · rw [get_f k (by omega) hb h (by omega), bsome]
    have r0 := rd_byte hb 0
    have r1 := rd_byte hb 1
    have b1 := wd4 hb 8 4 rfl (by omega)
    have b2 := wd4 hb 12 8 rfl (by omega)
    have b3 := wd4 hb 16 12 rfl (by omega)
    simp only [get48, if_true]
    rw [put_ok k (by omega) _ _ _ _ _ _ _ _ _ _ _ _ _ (by omega) (by omega) (by omega) r1 b1 b2 b3, bsome, put_get hb h, alive3 k (by omega), bsome]
    simp only [if_true]
    rw [if_pos (by omega), if_pos (by omega)]
    simp
  · rw [get_short k (by omega), bsome]
    rw [if_neg (by decide), alive3 k (by omega), bsome, if_pos rfl, if_pos rfl, decide_eq_true (by omega)]
theorem back_j1 (k : Nat) (hk : 102 ≤ k) {l c : List Int} (hb : Bytes l) (hm : l.length ≤ 2000) (hc : c.length = 48) : chronobatelaw03_PacketBack.j1 k l c false = some true := by
  obtain ⟨k, rfl⟩ : ∃ m, k = m + 1 := ⟨k - 1, by omega⟩
  simp only [chronobatelaw03_PacketBack.j1, Bool.false_eq_true, if_false]
  rw [if_pos (by omega), get_short k (by rw [List.length_take]; omega), bsome, if_pos rfl]
  exact back_j2 k (by omega) hb hm
theorem back_j0_true (k : Nat) (hk : 100 ≤ k) (l m : List Int) (a0 a1 a2 a3 a4 a5 a6 a7 a8 a9 a10 a11 a12 : Int) : chronobatelaw03_PacketBack.j0 k l m true a0 a1 a2 a3 a4 a5 a6 a7 a8 a9 a10 a11 a12 = some true := by
  obtain ⟨k, rfl⟩ : ∃ m, k = m + 1 := ⟨k - 1, by omega⟩
  simp only [chronobatelaw03_PacketBack.j0, if_true]
  rw [alive3 k (by omega), bsome]
theorem PacketBack (a0 a1 a2 a3 a4 a5 a6 a7 a8 a9 a10 a11 a12 : Int) (l m : List Int) (w0 : (Lit.int .u8 a0).wf = true) (w1 : (Lit.int .u8 a1).wf = true) (w2 : (Lit.int .u8 a2).wf = true) (w3 : (Lit.int .u8 a3).wf = true) (w4 : (Lit.int .i8 a4).wf = true) (w5 : (Lit.int .i8 a5).wf = true) (w6 : (Lit.int .u32 a6).wf = true) (w7 : (Lit.int .u32 a7).wf = true) (w8 : (Lit.int .u32 a8).wf = true) (w9 : (Lit.int .u64 a9).wf = true) (w10 : (Lit.int .u64 a10).wf = true) (w11 : (Lit.int .u64 a11).wf = true) (w12 : (Lit.int .u64 a12).wf = true)
    (hm1 : l.length ≤ maxLen) (y1 : l.length * 1 ≤ 140737488351232) (hw1 : ∀ x ∈ l, (Lit.int .u8 x).wf = true) (hm2 : m.length ≤ maxLen) (y2 : m.length * 1 ≤ 140737488351232) (hw2 : ∀ x ∈ m, (Lit.int .u8 x).wf = true) :
    ∃ k, chronobatelaw03_PacketBack.f k a0 a1 a2 a3 a4 a5 a6 a7 a8 a9 a10 a11 a12 l m = some true := by
  have h0 := wf_u8 w0
  have h1 := wf_u8 w1
  have h2 := wf_u8 w2
  have h3 := wf_u8 w3
  have h6 := wf_u32 w6
  have h7 := wf_u32 w7
  have h8 := wf_u32 w8
  have hb := bytes_of_wf hw1
  have hbm := bytes_of_wf hw2
  refine ⟨200, ?_⟩
  unfold chronobatelaw03_PacketBack.f
  by_cases c1 : (l.length : Int) > 2000
  · rw [if_pos c1, back_j0_true 200 (by omega)]
  rw [if_neg c1]
  by_cases c2 : (m.length : Int) > 2000
  · rw [decide_eq_true c2, back_j0_true 200 (by omega)]
  rw [decide_eq_false c2]
  simp only [chronobatelaw03_PacketBack.j0, Bool.false_eq_true, if_false]
  by_cases hok : a0 ≤ 3 ∧ a1 ≤ 7 ∧ a2 ≤ 7
  · obtain ⟨g0, g1, g2⟩ := hok
    rw [put_ok 199 (by omega) a0 a1 a2 a3 a4 a5 a6 a7 a8 a9 a10 a11 a12 ⟨h0.1, g0⟩ ⟨h1.1, g1⟩ ⟨h2.1, g2⟩ h3 h6 h7 h8, bsome, if_pos rfl, bsome]
    have hl := put48_length (64 * a0 + 8 * a1 + a2) a3 a4 a5 a6 a7 a8 a9 a10 a11 a12
    have hp := put48_byte (64 * a0 + 8 * a1 + a2) a3 a4 a5 a6 a7 a8 a9 a10 a11 a12
    have hg := get_put (64 * a0 + 8 * a1 + a2) a3 a4 a5 a6 a7 a8 a9 a10 a11 a12 m (by omega) h3 (wf_i8 w4) (wf_i8 w5) h6 h7 h8 (u64_of_wf w9) (u64_of_wf w10) (u64_of_wf w11) (u64_of_wf w12)
    have e0 : (64 * a0 + 8 * a1 + a2) / 64 = a0 := by omega
    have e1 : (64 * a0 + 8 * a1 + a2) / 8 % 8 = a1 := by omega
    have e2 : (64 * a0 + 8 * a1 + a2) % 8 = a2 := by omega
    rw [e0, e1, e2] at hg
    have hbb : Bytes (put48 (64 * a0 + 8 * a1 + a2) a3 a4 a5 a6 a7 a8 a9 a10 a11 a12 ++ m) := fun c hc => (List.mem_append.1 hc).elim (hp c) (hbm c)
    generalize hP : put48 (64 * a0 + 8 * a1 + a2) a3 a4 a5 a6 a7 a8 a9 a10 a11 a12 = P at hl hg hbb ⊢
    dsimp only
    have hlm : (P ++ m).length = 48 + m.length := by rw [List.length_append, hl]
    rw [if_pos (by simp; omega), bsome, List.nil_append, if_pos (by omega), get_f 199 (by omega) hbb (by omega) (by omega), hg, bsome]
    simp only [if_true, beq_self_eq_true, Bool.not_true, Bool.or_false, Bool.false_eq_true, if_false, hl]
    exact back_j1 199 (by omega) hb (by omega) hl
  · rw [put_bad 199 a0 a1 a2 a3 a4 a5 a6 a7 a8 a9 a10 a11 a12 hok, bsome, if_neg (by decide)]
    exact back_j2 199 (by omega) hb (by omega)
end Go.Proofs.Ytingjmdilglgaaa.Pure
