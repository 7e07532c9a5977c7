/- Of any packet the bytes are the reference's, or both tell why there are none. No conditions. -/
import Derived.Test.YtingjmdilglgaaaLAl3
import Derived.Test.YtingjmdilglgaaaLRp
import Derived.Test.YtingjmdilglgaaaGx4
namespace Go.Proofs.Ytingjmdilglgaaa.Pure
open Go.RowKit Go.Proofs.Ytingjmdilglgaaa.G Go.Proofs.YtingjmdilglgaaaW.PrintWords Go.Proofs.YtingjmdilglgaaaW.PrintLast Go.Proofs.YtingjmdilglgaaaW.PrintMore Go.Proofs.Ytingjmdilglgaaa.L
set_option linter.unusedVariables false
set_option linter.unusedSimpArgs false
theorem PacketPuts (a0 a1 a2 a3 a4 a5 a6 a7 a8 a9 a10 a11 a12 : Int) (w0 : (Lit.int .u8 a0).wf = true) (w1 : (Lit.int .u8 a1).wf = true) (w2 : (Lit.int .u8 a2).wf = true) (w3 : (Lit.int .u8 a3).wf = true) (w4 : (Lit.int .i8 a4).wf = true) (w5 : (Lit.int .i8 a5).wf = true) (w6 : (Lit.int .u32 a6).wf = true) (w7 : (Lit.int .u32 a7).wf = true) (w8 : (Lit.int .u32 a8).wf = true) (w9 : (Lit.int .u64 a9).wf = true) (w10 : (Lit.int .u64 a10).wf = true) (w11 : (Lit.int .u64 a11).wf = true) (w12 : (Lit.int .u64 a12).wf = true) :
    ∃ k, chronobatelaw03_PacketPuts.f k a0 a1 a2 a3 a4 a5 a6 a7 a8 a9 a10 a11 a12 = some true := by
  have h0 := wf_u8 w0
  have h1 := wf_u8 w1
  have h2 := wf_u8 w2
  have h3 := wf_u8 w3
  have h6 := wf_u32 w6
  have h7 := wf_u32 w7
  have h8 := wf_u32 w8
  refine ⟨200, ?_⟩
  unfold chronobatelaw03_PacketPuts.f
  rw [ref3_Check_f]
  by_cases hok : a0 ≤ 3 ∧ a1 ≤ 7 ∧ a2 ≤ 7
  · rw [if_pos hok]
    obtain ⟨g0, g1, g2⟩ := hok
    rw [put_ok 200 (by omega) a0 a1 a2 a3 a4 a5 a6 a7 a8 a9 a10 a11 a12 ⟨h0.1, g0⟩ ⟨h1.1, g1⟩ ⟨h2.1, g2⟩ h3 h6 h7 h8, check_ok a0 a1 a2 a3 a4 a5 a6 a7 a8 a9 a10 a11 a12 g0 g1 g2]
    simp only [Option.bind_some]
    simp only [if_true, show ((0 : Int) != 0) = false from rfl, chronobatelaw03_PacketPuts.j0, Bool.false_eq_true, if_false]
    rw [alive3 199 (by omega), ref3_Put_f 199 (by omega) a0 a1 a2 a3 a4 a5 a6 a7 a8 a9 a10 a11 a12 ⟨h0.1, g0⟩ ⟨h1.1, g1⟩ ⟨h2.1, g2⟩ h3 h6 h7 h8 (u64_of_wf w9) (u64_of_wf w10) (u64_of_wf w11) (u64_of_wf w12)]
    simp
  · rw [if_neg hok, put_bad 200 a0 a1 a2 a3 a4 a5 a6 a7 a8 a9 a10 a11 a12 hok, check_bad a0 a1 a2 a3 a4 a5 a6 a7 a8 a9 a10 a11 a12 hok]
    simp only [Option.bind_some]
    simp only [if_true, show ((3 : Int) != 3) = false from rfl, chronobatelaw03_PacketPuts.j0, Bool.false_eq_true, if_false]
    rw [if_neg (by omega), alive3 199 (by omega)]
    rfl
end Go.Proofs.Ytingjmdilglgaaa.Pure
