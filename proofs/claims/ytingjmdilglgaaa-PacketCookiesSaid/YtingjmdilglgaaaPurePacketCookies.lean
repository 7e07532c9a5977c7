/- Two queries differ just if their cookies do, and in the last eight bytes alone. No conditions. -/
import Derived.Test.YtingjmdilglgaaaLAl3
import Derived.Lib.Bytes
import Derived.Test.YtingjmdilglgaaaGx20
namespace Go.Proofs.Ytingjmdilglgaaa.Pure
open Go.RowKit Go.Proofs.Ytingjmdilglgaaa.G Go.Proofs.YtingjmdilglgaaaW.PrintWords Go.Proofs.YtingjmdilglgaaaW.PrintLast Go.Proofs.YtingjmdilglgaaaW.PrintMore Go.Proofs.Ytingjmdilglgaaa.L
set_option linter.unusedVariables false
set_option linter.unusedSimpArgs false
theorem byteOf_inj {c d : Int} (hc : 0 ≤ c ∧ c ≤ 255) (hd : 0 ≤ d ∧ d ≤ 255) (h : Go.Lib.bytesOf [c] = Go.Lib.bytesOf [d]) : c = d := by
  simp only [Go.Lib.bytesOf, List.map_cons, List.map_nil, List.cons.injEq, and_true] at h
  have e := congrArg UInt8.toNat h
  simp at e
  omega
theorem bytesOf_inj : ∀ {l m : List Int}, Bytes l → Bytes m → Go.Lib.bytesOf l = Go.Lib.bytesOf m → l = m
  | [], [], _, _, _ => rfl
  | [], d :: m, _, _, h => by simp [Go.Lib.bytesOf] at h
  | c :: l, [], _, _, h => by simp [Go.Lib.bytesOf] at h
  | c :: l, d :: m, hl, hm, h => by
    simp only [Go.Lib.bytesOf, List.map_cons, List.cons.injEq] at h
    rw [byteOf_inj (hl c (List.mem_cons_self ..)) (hm d (List.mem_cons_self ..)) (by simp only [Go.Lib.bytesOf, List.map_cons, List.map_nil, h.1]), bytesOf_inj (fun x hx => hl x (List.mem_cons_of_mem _ hx)) (fun x hx => hm x (List.mem_cons_of_mem _ hx)) h.2]
theorem PacketCookies (a b : Int) (w0 : (Lit.int .u64 a).wf = true) (w1 : (Lit.int .u64 b).wf = true) : ∃ k, chronobatelaw03_PacketCookies.f k a b = some true := by
  have ha := u64_of_wf w0
  have hb := u64_of_wf w1
  refine ⟨100, ?_⟩
  unfold chronobatelaw03_PacketCookies.f
  rw [query_f 100 (by omega) a, bsome, query_f 100 (by omega) b, bsome, alive3 100 (by omega), bsome]
  have t : ∀ c : Int, (put48 35 0 0 0 0 0 0 0 0 0 c).take 40 = (put48 35 0 0 0 0 0 0 0 0 0 0).take 40 := fun c => rfl
  have d : ∀ c : Int, (put48 35 0 0 0 0 0 0 0 0 0 c).drop 40 = wb 8 c := fun c => rfl
  rw [t a, t b, d a, d b, put48_length, put48_length]
  have e : ((strOfNums (wb 8 a)).toList == (strOfNums (wb 8 b)).toList) = (a == b) := by
    by_cases h : a = b
    · rw [h, beq_self_eq_true, beq_self_eq_true]
    · rw [beq_eq_false_iff_ne.2 h, beq_eq_false_iff_ne, Go.Lib.strOfNums_toList, Go.Lib.strOfNums_toList]
      intro z
      have z2 := congrArg wd (bytesOf_inj (wb_byte 8 a) (wb_byte 8 b) z)
      rw [wd_wb, wd_wb, show (256 : Int) ^ 8 = 18446744073709551616 from rfl] at z2
      unfold U64 at ha hb
      omega
  rw [e, beq_self_eq_true, beq_self_eq_true, if_pos ⟨rfl, rfl, rfl, rfl, rfl⟩]
end Go.Proofs.Ytingjmdilglgaaa.Pure
