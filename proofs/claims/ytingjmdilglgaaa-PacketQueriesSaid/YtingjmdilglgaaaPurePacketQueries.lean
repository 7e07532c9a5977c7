/- Of any cookie what is asked is 48 bytes: version 4, mode 3, the cookie, and 0 in all else. No conditions. -/
import Derived.Test.YtingjmdilglgaaaLAl3
import Derived.Test.YtingjmdilglgaaaGx12
namespace Go.Proofs.Ytingjmdilglgaaa.Pure
open Go.RowKit Go.Proofs.Ytingjmdilglgaaa.G Go.Proofs.YtingjmdilglgaaaW.PrintWords Go.Proofs.YtingjmdilglgaaaW.PrintLast Go.Proofs.YtingjmdilglgaaaW.PrintMore Go.Proofs.Ytingjmdilglgaaa.L
set_option linter.unusedVariables false
set_option linter.unusedSimpArgs false
theorem PacketQueries : chronobatelaw03_PacketQueries.Pure := by
  intro c w0
  have h0 := u64_of_wf w0
  refine ⟨100, ?_⟩
  unfold chronobatelaw03_PacketQueries.f
  have hlen := put48_length 35 0 0 0 0 0 0 0 0 0 c
  have hg := get_put 35 0 0 0 0 0 0 0 0 0 c [] (by omega) (by omega) (by omega) (by omega) (by omega) (by omega) (by omega) (by unfold U64; omega) (by unfold U64; omega) (by unfold U64; omega) h0
  rw [List.append_nil] at hg
  rw [alive3 100 (by omega), query_f 100 (by omega), bsome, get_f 100 (by omega) (put48_byte 35 0 0 0 0 0 0 0 0 0 c) (by omega) (by omega), hg, bsome, bsome]
  rw [if_pos rfl, if_pos (by omega), if_pos rfl]
  simp
end Go.Proofs.Ytingjmdilglgaaa.Pure
