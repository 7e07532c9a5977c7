/- Plain lemmas on bytes of packets: what 'word', 'Get' come to; a packet comes back out of its bytes, and bytes out of their packet. No conditions. -/
import Derived.Test.YtingjmdilglgaaaLPk
import Derived.Test.YtingjmdilglgaaaGx6
import Derived.Test.YtingjmdilglgaaaGx7
namespace Go.Proofs.Ytingjmdilglgaaa.L
open Go.RowKit Go.Proofs.Ytingjmdilglgaaa.G Go.Proofs.YtingjmdilglgaaaW.PrintWords Go.Proofs.YtingjmdilglgaaaW.PrintLast Go.Proofs.YtingjmdilglgaaaW.PrintMore
set_option linter.unusedVariables false
set_option linter.unusedSimpArgs false

/-- Bytes: each from 0 to 255. -/
def Bytes (l : List Int) : Prop := ∀ c ∈ l, 0 ≤ c ∧ c ≤ 255
theorem Bytes.part {l : List Int} (h : Bytes l) (m n : Nat) : Bytes ((l.take m).drop n) := fun c hc => h c (List.mem_of_mem_take (List.mem_of_mem_drop hc))
theorem Bytes.taken {l : List Int} (h : Bytes l) (m : Nat) : Bytes (l.take m) := fun c hc => h c (List.mem_of_mem_take hc)
theorem bytes_of_wf {l : List Int} (h : ∀ x ∈ l, (Lit.int .u8 x).wf = true) : Bytes l := by
  intro c hc
  have w := h c hc
  have hmin : IntKind.u8.min = 0 := rfl
  have hmax : IntKind.u8.max = 255 := rfl
  simp only [Lit.wf, Bool.and_eq_true, decide_eq_true_eq] at w
  omega
theorem rd_byte {l : List Int} (h : Bytes l) (i : Int) : 0 ≤ rd l i ∧ rd l i ≤ 255 := by
  unfold rd
  rw [List.getD_eq_getElem?_getD]
  rcases Nat.lt_or_ge i.toNat l.length with hi | hi
  · rw [List.getElem?_eq_getElem hi]
    exact h _ (List.getElem_mem hi)
  · rw [List.getElem?_eq_none hi]
    simp
theorem wd_take {l : List Int} (i : Nat) (hi : i < l.length) : wd (l.take (i + 1)) = wd (l.take i) * 256 + rd l i := by
  rw [List.take_succ_eq_append_getElem hi, wd_snoc]
  simp [rd, List.getD_eq_getElem?_getD, List.getElem?_eq_getElem hi]
theorem wd_small {l : List Int} (h : Bytes l) (hl : l.length ≤ 8) (i : Nat) (hi : i < l.length) : 0 ≤ wd (l.take i) ∧ wd (l.take i) < 72057594037927936 := by
  have hb := wd_bound (l.take i) (h.taken i)
  have hlen : (l.take i).length ≤ 7 := by rw [List.length_take]; omega
  have hp : (256 : Int) ^ (l.take i).length ≤ 256 ^ 7 := by
    have : ((256 ^ (l.take i).length : Nat) : Int) ≤ ((256 ^ 7 : Nat) : Int) := Int.ofNat_le.2 (Nat.pow_le_pow_right (by omega) hlen)
    simpa using this
  exact ⟨hb.1, Int.lt_of_lt_of_le hb.2 hp⟩
/-- A byte behind a number. -/
theorem or_byte {x c : Int} (h0 : 0 ≤ x) (h1 : x < 72057594037927936) (h2 : 0 ≤ c) (h3 : c ≤ 255) : Go.bits .or .u64 (IntKind.u64.wrap (x * 256)) (IntKind.u64.wrap c) = x * 256 + c := by
  rw [wu64_id (n := x * 256) (by unfold U64; omega), wu64_id (n := c) (by unfold U64; omega), u64_join 8 (by unfold U64; omega) (by unfold U64; omega) (by omega) (by omega)]
theorem word_l0 {l : List Int} (hb : Bytes l) (hl : l.length ≤ 8) : ∀ (d k i : Nat), i + d = l.length → d < k → packet_word.l0 k (wd (l.take i)) l (l.length : Int) i = some (wd l) := by
  intro d
  induction d with
  | zero =>
    intro k i hi hk
    obtain ⟨k, rfl⟩ : ∃ m, k = m + 1 := ⟨k - 1, by omega⟩
    simp only [packet_word.l0]
    rw [if_neg (by omega), List.take_of_length_le (by omega)]
  | succ d ih =>
    intro k i hi hk
    obtain ⟨k, rfl⟩ : ∃ m, k = m + 1 := ⟨k - 1, by omega⟩
    have hs := wd_small hb hl i (by omega)
    have hc := rd_byte hb i
    simp only [packet_word.l0]
    rw [if_pos (by omega), if_pos (by omega), if_pos (by omega), or_byte hs.1 hs.2 hc.1 hc.2, ← wd_take i (by omega), show wrap64 ((i : Int) + 1) = ((i + 1 : Nat) : Int) by unfold wrap64; omega]
    exact ih k (i + 1) (by omega) (by omega)
theorem word_f (k : Nat) (hk : 10 ≤ k) {l : List Int} (hb : Bytes l) (a n : Nat) (hn : n ≤ 8) (hl : a + n ≤ l.length) (hmax : l.length ≤ 140737488355328) : packet_word.f k l a n = some (wd ((l.take (a + n)).drop a)) := by
  unfold packet_word.f
  have e1 : wrap64 ((a : Int) + (n : Int)) = ((a + n : Nat) : Int) := by unfold wrap64; omega
  rw [e1, if_pos (by omega), if_pos (by omega), if_pos (by omega), Int.toNat_natCast, Int.toNat_natCast]
  have hlen : ((l.take (a + n)).drop a).length = n := by rw [List.length_drop, List.length_take]; omega
  have z := word_l0 (hb.part (a + n) a) (by omega) n k 0 (by omega) (by omega)
  rw [show ((0 : Nat) : Int) = 0 from rfl, List.take_zero] at z
  exact z
theorem and7 {x : Int} (h : 0 ≤ x ∧ x ≤ 255) : Go.bits .and .u8 x 7 = x % 8 := by
  rw [u8_and x 7 (by omega) (by omega) (by omega) (by omega), show (7 : Int).toNat = 7 from rfl, nat_mask3]
  omega
/-- The packet that bytes begin with. -/
def get48 (l : List Int) : Int × Int × Int × Int × Int × Int × Int × Int × Int × Int × Int × Int × Int × Int :=
  (rd l 0 / 64, rd l 0 / 8 % 8, rd l 0 % 8, rd l 1, IntKind.i8.wrap (rd l 2), IntKind.i8.wrap (rd l 3), wd ((l.take 8).drop 4), wd ((l.take 12).drop 8), wd ((l.take 16).drop 12), wd ((l.take 24).drop 16), wd ((l.take 32).drop 24), wd ((l.take 40).drop 32), wd ((l.take 48).drop 40), 0)
theorem wd4 {l : List Int} (hb : Bytes l) (m n : Nat) (hm : m = n + 4) (hl : m ≤ l.length) : 0 ≤ wd ((l.take m).drop n) ∧ wd ((l.take m).drop n) < 4294967296 := by
  have h := wd_bound _ (hb.part m n)
  rw [show ((l.take m).drop n).length = 4 by rw [List.length_drop, List.length_take]; omega] at h
  exact h
theorem wd8 {l : List Int} (hb : Bytes l) (m n : Nat) (hm : m = n + 8) (hl : m ≤ l.length) : 0 ≤ wd ((l.take m).drop n) ∧ wd ((l.take m).drop n) < 18446744073709551616 := by
  have h := wd_bound _ (hb.part m n)
  rw [show ((l.take m).drop n).length = 8 by rw [List.length_drop, List.length_take]; omega] at h
  exact h
theorem get_short (k : Nat) {l : List Int} (h : l.length < 48) : packet_Get.f k l = some (0, 0, 0, 0, 0, 0, 0, 0, 0, 0, 0, 0, 0, 5) := by
  unfold packet_Get.f
  rw [if_pos (by omega)]
theorem get_f (k : Nat) (hk : 10 ≤ k) {l : List Int} (hb : Bytes l) (h : 48 ≤ l.length) (hmax : l.length ≤ 140737488355328) : packet_Get.f k l = some (get48 l) := by
  unfold packet_Get.f
  rw [if_neg (by omega), if_pos (by omega), if_pos (by omega), if_pos (by omega), if_pos (by omega)]
  have w4 := fun a (ha : a + 4 ≤ l.length) => word_f k hk hb a 4 (by omega) ha hmax
  have w8 := fun a (ha : a + 8 ≤ l.length) => word_f k hk hb a 8 (by omega) ha hmax
  have e1 := w4 4 (by omega)
  have e2 := w4 8 (by omega)
  have e3 := w4 12 (by omega)
  have e4 := w8 16 (by omega)
  have e5 := w8 24 (by omega)
  have e6 := w8 32 (by omega)
  have e7 := w8 40 (by omega)
  simp only [Int.cast_ofNat_Int, Nat.reduceAdd] at e1 e2 e3 e4 e5 e6 e7
  rw [e1, e2, e3, e4, e5, e6, e7]
  simp only [Option.bind_some]
  have hc := rd_byte hb 0
  have b1 := wd4 hb 8 4 rfl (by omega)
  have b2 := wd4 hb 12 8 rfl (by omega)
  have b3 := wd4 hb 16 12 rfl (by omega)
  rw [and7 (x := rd l 0 / 8) (by omega), and7 (x := rd l 0) hc, Int.emod_eq_of_lt b1.1 b1.2, Int.emod_eq_of_lt b2.1 b2.2, Int.emod_eq_of_lt b3.1 b3.2]
  rfl
theorem i8_back {a : Int} (h : -128 ≤ a ∧ a ≤ 127) : IntKind.i8.wrap (a % 256) = a := by
  have e : ∀ n : Int, IntKind.i8.wrap n = (n + 128) % 256 - 128 := by
    intro n
    simp only [IntKind.wrap, IntKind.bits, IntKind.signed]
    simp
    split <;> omega
  rw [e]
  omega
theorem i8_byte {a : Int} (h : 0 ≤ a ∧ a ≤ 255) : IntKind.i8.wrap a % 256 = a ∧ -128 ≤ IntKind.i8.wrap a ∧ IntKind.i8.wrap a ≤ 127 := by
  have e : ∀ n : Int, IntKind.i8.wrap n = (n + 128) % 256 - 128 := by
    intro n
    simp only [IntKind.wrap, IntKind.bits, IntKind.signed]
    simp
    split <;> omega
  rw [e]
  omega
theorem rd_append {l m : List Int} {i : Nat} (h : i < l.length) : rd (l ++ m) i = rd l i := by
  simp [rd, List.getD_eq_getElem?_getD, List.getElem?_append_left h]
/-- What is got of a packet's bytes, whatever stands behind. -/
theorem get_put (h a3 a4 a5 a6 a7 a8 a9 a10 a11 a12 : Int) (m : List Int) (h0 : 0 ≤ h ∧ h ≤ 255) (h3 : 0 ≤ a3 ∧ a3 ≤ 255) (h4 : -128 ≤ a4 ∧ a4 ≤ 127) (h5 : -128 ≤ a5 ∧ a5 ≤ 127)
    (h6 : 0 ≤ a6 ∧ a6 < 4294967296) (h7 : 0 ≤ a7 ∧ a7 < 4294967296) (h8 : 0 ≤ a8 ∧ a8 < 4294967296) (h9 : U64 a9) (h10 : U64 a10) (h11 : U64 a11) (h12 : U64 a12) :
    get48 (put48 h a3 a4 a5 a6 a7 a8 a9 a10 a11 a12 ++ m) = (h / 64, h / 8 % 8, h % 8, a3, a4, a5, a6, a7, a8, a9, a10, a11, a12, 0) := by
  have hl := put48_length h a3 a4 a5 a6 a7 a8 a9 a10 a11 a12
  have part : ∀ q n, q ≤ 48 → (((put48 h a3 a4 a5 a6 a7 a8 a9 a10 a11 a12 ++ m).take q).drop n) = ((put48 h a3 a4 a5 a6 a7 a8 a9 a10 a11 a12).take q).drop n := by
    intro q n hq
    rw [List.take_append_of_le_length (by omega)]
  unfold get48
  rw [part 8 4 (by omega), part 12 8 (by omega), part 16 12 (by omega), part 24 16 (by omega), part 32 24 (by omega), part 40 32 (by omega), part 48 40 (by omega)]
  rw [show ((put48 h a3 a4 a5 a6 a7 a8 a9 a10 a11 a12).take 8).drop 4 = wb 4 a6 from rfl, show ((put48 h a3 a4 a5 a6 a7 a8 a9 a10 a11 a12).take 12).drop 8 = wb 4 a7 from rfl, show ((put48 h a3 a4 a5 a6 a7 a8 a9 a10 a11 a12).take 16).drop 12 = wb 4 a8 from rfl, show ((put48 h a3 a4 a5 a6 a7 a8 a9 a10 a11 a12).take 24).drop 16 = wb 8 a9 from rfl, show ((put48 h a3 a4 a5 a6 a7 a8 a9 a10 a11 a12).take 32).drop 24 = wb 8 a10 from rfl, show ((put48 h a3 a4 a5 a6 a7 a8 a9 a10 a11 a12).take 40).drop 32 = wb 8 a11 from rfl, show ((put48 h a3 a4 a5 a6 a7 a8 a9 a10 a11 a12).take 48).drop 40 = wb 8 a12 from rfl]
  rw [wd_wb, wd_wb, wd_wb, wd_wb, wd_wb, wd_wb, wd_wb]
  have r0 : rd (put48 h a3 a4 a5 a6 a7 a8 a9 a10 a11 a12 ++ m) 0 = h % 256 := rfl
  have r1 : rd (put48 h a3 a4 a5 a6 a7 a8 a9 a10 a11 a12 ++ m) 1 = a3 % 256 := rfl
  have r2 : rd (put48 h a3 a4 a5 a6 a7 a8 a9 a10 a11 a12 ++ m) 2 = a4 % 256 % 256 := rfl
  have r3 : rd (put48 h a3 a4 a5 a6 a7 a8 a9 a10 a11 a12 ++ m) 3 = a5 % 256 % 256 := rfl
  unfold U64 at h9 h10 h11 h12
  rw [r0, r1, r2, r3, Int.emod_eq_of_lt h0.1 (by omega), Int.emod_eq_of_lt h3.1 (by omega), Int.emod_emod, Int.emod_emod, i8_back h4, i8_back h5]
  rw [show (256 : Int) ^ 4 = 4294967296 from rfl, show (256 : Int) ^ 8 = 18446744073709551616 from rfl, Int.emod_eq_of_lt h6.1 h6.2, Int.emod_eq_of_lt h7.1 h7.2, Int.emod_eq_of_lt h8.1 h8.2, Int.emod_eq_of_lt h9.1 (by omega), Int.emod_eq_of_lt h10.1 (by omega), Int.emod_eq_of_lt h11.1 (by omega), Int.emod_eq_of_lt h12.1 (by omega)]
theorem take_split (l : List Int) (m n : Nat) (h : n ≤ m) : l.take m = l.take n ++ (l.take m).drop n := by
  have e := List.take_append_drop n (l.take m)
  rw [List.take_take, Nat.min_eq_left h] at e
  exact e.symm
/-- The bytes of what is got of bytes are just their first 48. -/
theorem put_get {l : List Int} (hb : Bytes l) (h : 48 ≤ l.length) :
    put48 (64 * (rd l 0 / 64) + 8 * (rd l 0 / 8 % 8) + rd l 0 % 8) (rd l 1) (IntKind.i8.wrap (rd l 2)) (IntKind.i8.wrap (rd l 3)) (wd ((l.take 8).drop 4)) (wd ((l.take 12).drop 8)) (wd ((l.take 16).drop 12)) (wd ((l.take 24).drop 16)) (wd ((l.take 32).drop 24)) (wd ((l.take 40).drop 32)) (wd ((l.take 48).drop 40)) = l.take 48 := by
  have hr0 := rd_byte hb 0
  have hr1 := rd_byte hb 1
  have hr2 := rd_byte hb 2
  have hr3 := rd_byte hb 3
  have b4 : ∀ m n, m = n + 4 → m ≤ l.length → wb 4 (wd ((l.take m).drop n)) = (l.take m).drop n := by
    intro m n hm hl
    have z := wb_wd _ (hb.part m n)
    rw [show ((l.take m).drop n).length = 4 by rw [List.length_drop, List.length_take]; omega] at z
    exact z
  have b8 : ∀ m n, m = n + 8 → m ≤ l.length → wb 8 (wd ((l.take m).drop n)) = (l.take m).drop n := by
    intro m n hm hl
    have z := wb_wd _ (hb.part m n)
    rw [show ((l.take m).drop n).length = 8 by rw [List.length_drop, List.length_take]; omega] at z
    exact z
  unfold put48
  simp only [List.flatMap_cons, List.flatMap_nil, List.append_nil]
  rw [b4 8 4 rfl (by omega), b4 12 8 rfl (by omega), b4 16 12 rfl (by omega), b8 24 16 rfl (by omega), b8 32 24 rfl (by omega), b8 40 32 rfl (by omega), b8 48 40 rfl (by omega)]
  conv => rhs; rw [take_split l 48 40 (by omega), take_split l 40 32 (by omega), take_split l 32 24 (by omega), take_split l 24 16 (by omega), take_split l 16 12 (by omega), take_split l 12 8 (by omega), take_split l 8 4 (by omega)]
  have e4 : l.take 4 = [rd l 0, rd l 1, rd l 2, rd l 3] := by
    rcases l with _ | ⟨c0, _ | ⟨c1, _ | ⟨c2, _ | ⟨c3, t⟩⟩⟩⟩
    · simp at h
    · simp at h
    · simp at h
    · simp at h
    · rfl
  rw [e4]
  have w1 : ∀ c : Int, wb 1 c = [c % 256] := fun c => by simp [wb]
  rw [w1, w1, w1, w1, Int.emod_emod, Int.emod_emod, (i8_byte hr2).1, (i8_byte hr3).1, Int.emod_eq_of_lt hr1.1 (by omega), show (64 * (rd l 0 / 64) + 8 * (rd l 0 / 8 % 8) + rd l 0 % 8) % 256 = rd l 0 by omega]
  simp [List.append_assoc]
end Go.Proofs.Ytingjmdilglgaaa.L
