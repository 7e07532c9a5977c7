/- Plain lemmas on bytes of packets: what 'words', 'Put', 'Query' come to. No conditions. -/
import Derived.Test.YtingjmdilglgaaaLAr
import Derived.Test.YtingjmdilglgaaaGx2
namespace Go.Proofs.Ytingjmdilglgaaa.L
open Go.RowKit Go.Proofs.Ytingjmdilglgaaa.G Go.Proofs.YtingjmdilglgaaaW.PrintWords Go.Proofs.YtingjmdilglgaaaW.PrintLast Go.Proofs.YtingjmdilglgaaaW.PrintMore
set_option linter.unusedVariables false
set_option linter.unusedSimpArgs false

/-- The bytes of a number, the highest first. -/
def wb : Nat → Int → List Int
  | 0, _ => []
  | s + 1, x => wb s (x / 256) ++ [x % 256]
/-- The number that bytes are. -/
def wd (l : List Int) : Int := l.foldl (fun x c => x * 256 + c) 0
theorem wb_length (s : Nat) (x : Int) : (wb s x).length = s := by
  induction s generalizing x with
  | zero => rfl
  | succ s ih => simp [wb, ih]
theorem wd_snoc (l : List Int) (c : Int) : wd (l ++ [c]) = wd l * 256 + c := by simp [wd]
theorem wd_wb (s : Nat) (x : Int) : wd (wb s x) = x % (256 : Int) ^ s := by
  induction s generalizing x with
  | zero => simp [wb, wd, Int.emod_one]
  | succ s ih =>
    rw [wb, wd_snoc, ih]
    have h1 := Int.emod_add_mul_ediv x ((256 : Int) ^ (s + 1))
    have e1 : x / 256 / (256 : Int) ^ s = x / (256 : Int) ^ (s + 1) := by
      rw [Int.ediv_ediv_of_nonneg (by omega), Int.pow_succ, Int.mul_comm]
    have h2 := Int.emod_add_mul_ediv (x / 256) ((256 : Int) ^ s)
    rw [e1] at h2
    have h3 := Int.emod_add_mul_ediv x 256
    have e2 : (256 : Int) ^ (s + 1) * (x / (256 : Int) ^ (s + 1)) = 256 * ((256 : Int) ^ s * (x / (256 : Int) ^ (s + 1))) := by
      rw [Int.pow_succ, ← Int.mul_assoc, Int.mul_comm 256]
    rw [e2] at h1
    generalize (256 : Int) ^ s * (x / (256 : Int) ^ (s + 1)) = q at *
    omega
theorem wb_byte (s : Nat) (x : Int) : ∀ c ∈ wb s x, 0 ≤ c ∧ c ≤ 255 := by
  induction s generalizing x with
  | zero => intro c hc; simp [wb] at hc
  | succ s ih =>
    intro c hc
    rw [wb, List.mem_append] at hc
    rcases hc with hc | hc
    · exact ih _ _ hc
    · simp at hc
      omega
theorem wb_wd (l : List Int) (h : ∀ c ∈ l, 0 ≤ c ∧ c ≤ 255) : wb l.length (wd l) = l := by
  obtain ⟨r, rfl⟩ : ∃ r, l = r.reverse := ⟨l.reverse, by simp⟩
  induction r with
  | nil => rfl
  | cons c r ih =>
    have hc := h c (by simp)
    rw [List.reverse_cons] at h ⊢
    rw [List.length_append, List.length_singleton, wd_snoc, wb]
    have e1 : (wd r.reverse * 256 + c) / 256 = wd r.reverse := by omega
    have e2 : (wd r.reverse * 256 + c) % 256 = c := by omega
    rw [e1, e2, ih (fun d hd => h d (by simp [List.mem_append] at hd ⊢; exact .inl hd))]
theorem wd_bound (l : List Int) (h : ∀ c ∈ l, 0 ≤ c ∧ c ≤ 255) : 0 ≤ wd l ∧ wd l < (256 : Int) ^ l.length := by
  have e := wd_wb l.length (wd l)
  rw [wb_wd l h] at e
  have hp : (0 : Int) < 256 ^ l.length := Int.pow_pos (by omega)
  exact ⟨by rw [e]; exact Int.emod_nonneg _ (by omega), by rw [e]; exact Int.emod_lt_of_pos _ hp⟩

/-- One byte as the program reckons it. -/
def byteAt (size : Nat) (x : Int) (i : Nat) : Int := x / 2 ^ (8 * (size - 1 - i)) % 256
theorem map_byteAt (s : Nat) (x : Int) : (List.range' 0 s).map (byteAt s x) = wb s x := by
  induction s generalizing x with
  | zero => rfl
  | succ s ih =>
    rw [List.range'_concat, List.map_append, wb, ← ih]
    congr 1
    · apply List.map_congr_left
      intro i hi
      have hi' : i < s := by simpa [List.mem_range'_1] using hi
      unfold byteAt
      rw [show 8 * (s + 1 - 1 - i) = 8 + 8 * (s - 1 - i) by omega, Int.pow_add, Int.ediv_ediv_of_nonneg (by decide)]
      rfl
    · simp [byteAt]
theorem shr_byte (size : Nat) (x : Int) (i : Nat) (hs : size ≤ 8) (hi : i < size) :
    (shr .u64 x (wrap64 (8 * (wrap64 ((wrap64 ((size : Int) - 1)) - i))))) % 256 = byteAt size x i := by
  have e1 : wrap64 ((size : Int) - 1) = (size : Int) - 1 := by unfold wrap64; omega
  have e2 : wrap64 ((size : Int) - 1 - i) = (size : Int) - 1 - i := by unfold wrap64; omega
  have e3 : wrap64 (8 * ((size : Int) - 1 - i)) = 8 * ((size : Int) - 1 - i) := by unfold wrap64; omega
  rw [e1, e2, e3]
  unfold shr byteAt
  have e4 : min (8 * ((size : Int) - 1 - i)).toNat IntKind.u64.bits = 8 * (size - 1 - i) := by
    have : IntKind.u64.bits = 64 := rfl
    rw [this]
    omega
  rw [e4]

theorem words_l1 (size : Nat) (hs : size ≤ 8) (xs : List Int) (x len j : Int) : ∀ (d k i : Nat) (acc : List Int), i + d = size → acc.length + d < 140737488355328 →
    packet_words.l1 (k + d + 1) acc size x xs len j size i = packet_words.l0 k (acc ++ (List.range' i d).map (byteAt size x)) size xs len (wrap64 (j + 1)) := by
  intro d
  induction d with
  | zero =>
    intro k i acc hi _
    simp only [packet_words.l1]
    rw [if_neg (by omega)]
    simp
  | succ d ih =>
    intro k i acc hi hl
    have e1 : wrap64 ((size : Int) - 1) = (size : Int) - 1 := by unfold wrap64; omega
    have e2 : wrap64 ((size : Int) - 1 - i) = (size : Int) - 1 - i := by unfold wrap64; omega
    have e3 : wrap64 (8 * ((size : Int) - 1 - i)) = 8 * ((size : Int) - 1 - i) := by unfold wrap64; omega
    have e4 : wrap64 ((i : Int) + 1) = ((i + 1 : Nat) : Int) := by unfold wrap64; omega
    rw [show k + (d + 1) + 1 = (k + d + 1) + 1 by omega]
    generalize hm : k + d + 1 = m
    simp only [packet_words.l1]
    rw [← hm, if_pos (by omega), if_pos (by rw [e1, e2, e3]; omega), if_pos (by omega), shr_byte size x i hs (by omega), e4, ih k (i + 1) _ (by omega) (by simp; omega)]
    simp [List.range'_succ]
theorem words_l0 (size : Nat) (hs : size ≤ 8) (xs : List Int) (hx : xs.length ≤ 100) : ∀ (d k j : Nat) (acc : List Int), j + d = xs.length → acc.length + d * size < 140737488355328 → d * (size + 2) < k →
    packet_words.l0 k acc size xs (xs.length : Int) j = some (acc ++ (xs.drop j).flatMap (wb size)) := by
  intro d
  induction d with
  | zero =>
    intro k j acc hj _ hk
    obtain ⟨k, rfl⟩ : ∃ m, k = m + 1 := ⟨k - 1, by omega⟩
    simp only [packet_words.l0]
    rw [if_neg (by omega), List.drop_of_length_le (by omega)]
    simp
  | succ d ih =>
    intro k j acc hj hl hk
    have em : (d + 1) * (size + 2) = d * (size + 2) + size + 2 := by rw [Nat.add_mul]; omega
    have em2 : (d + 1) * size = d * size + size := by rw [Nat.add_mul]; omega
    obtain ⟨k, rfl⟩ : ∃ m, k = (m + size + 1) + 1 := ⟨k - size - 2, by omega⟩
    generalize hm : k + size + 1 = m
    simp only [packet_words.l0]
    rw [← hm, if_pos (by omega), if_pos (by omega), if_pos (by omega)]
    have e4 : wrap64 ((j : Int) + 1) = ((j + 1 : Nat) : Int) := by unfold wrap64; omega
    have z := words_l1 size hs xs (rd xs (j : Int)) (xs.length : Int) (j : Int) size k 0 acc (by omega) (by omega)
    rw [show ((0 : Nat) : Int) = 0 from rfl] at z
    rw [z, map_byteAt, e4, ih k (j + 1) _ (by omega) (by simp [wb_length]; omega) (by omega)]
    have hj' : j < xs.length := by omega
    rw [List.drop_eq_getElem_cons hj', List.flatMap_cons]
    have er : rd xs (j : Int) = xs[j] := by simp [rd, List.getD_eq_getElem?_getD, List.getElem?_eq_getElem hj']
    rw [er, List.append_assoc]
theorem words_f (k size : Nat) (hs : size ≤ 8) (acc xs : List Int) (hx : xs.length ≤ 100) (ha : acc.length ≤ 1000) (hk : xs.length * (size + 2) < k) :
    packet_words.f k acc size xs = some (acc ++ xs.flatMap (wb size)) := by
  unfold packet_words.f
  have z := words_l0 size hs xs hx xs.length k 0 acc (by omega) (by have : xs.length * size ≤ 100 * 8 := Nat.mul_le_mul hx hs; omega) hk
  rw [show ((0 : Nat) : Int) = 0 from rfl] at z
  rw [z]
  simp

/-- A packet's 48 bytes. -/
def put48 (h a3 a4 a5 a6 a7 a8 a9 a10 a11 a12 : Int) : List Int :=
  [h, a3, a4 % 256, a5 % 256].flatMap (wb 1) ++ [a6, a7, a8].flatMap (wb 4) ++ [a9, a10, a11, a12].flatMap (wb 8)
theorem put48_length (h a3 a4 a5 a6 a7 a8 a9 a10 a11 a12 : Int) : (put48 h a3 a4 a5 a6 a7 a8 a9 a10 a11 a12).length = 48 := by
  simp [put48, wb_length, List.flatMap_cons]
theorem put48_byte (h a3 a4 a5 a6 a7 a8 a9 a10 a11 a12 : Int) : ∀ c ∈ put48 h a3 a4 a5 a6 a7 a8 a9 a10 a11 a12, 0 ≤ c ∧ c ≤ 255 := by
  intro c hc
  simp only [put48, List.mem_append, List.mem_flatMap] at hc
  rcases hc with (⟨_, _, h⟩ | ⟨_, _, h⟩) | ⟨_, _, h⟩ <;> exact wb_byte _ _ _ h

theorem or_join (a0 a1 a2 : Int) (h0 : 0 ≤ a0 ∧ a0 ≤ 3) (h1 : 0 ≤ a1 ∧ a1 ≤ 7) (h2 : 0 ≤ a2 ∧ a2 ≤ 7) :
    Go.bits .or .u8 (Go.bits .or .u8 ((a0 * 64) % 256) ((a1 * 8) % 256)) a2 = 64 * a0 + 8 * a1 + a2 := by
  rw [u8_or (a0 * 64 % 256) (a1 * 8 % 256) (by omega) (by omega) (by omega) (by omega), nat_join 6 _ _ (by omega) (by omega)]
  rw [u8_or _ a2 (by omega) (by omega) (by omega) (by omega), nat_join 3 _ _ (by omega) (by omega)]
  omega
theorem u64_id (x : Int) (h0 : 0 ≤ x) (h1 : x < 18446744073709551616) : IntKind.u64.wrap x = x := wu64_id (by unfold U64; omega)
theorem check_ok (a0 a1 a2 a3 a4 a5 a6 a7 a8 a9 a10 a11 a12 : Int) (h0 : a0 ≤ 3) (h1 : a1 ≤ 7) (h2 : a2 ≤ 7) :
    packet_Check.f a0 a1 a2 a3 a4 a5 a6 a7 a8 a9 a10 a11 a12 = some 0 := by
  unfold packet_Check.f
  rw [if_neg (by omega), if_neg (by unfold mx; split <;> omega)]
theorem check_bad (a0 a1 a2 a3 a4 a5 a6 a7 a8 a9 a10 a11 a12 : Int) (h : ¬ (a0 ≤ 3 ∧ a1 ≤ 7 ∧ a2 ≤ 7)) :
    packet_Check.f a0 a1 a2 a3 a4 a5 a6 a7 a8 a9 a10 a11 a12 = some 3 := by
  unfold packet_Check.f
  by_cases h0 : a0 > 3
  · rw [if_pos h0]
  · rw [if_neg h0, if_pos (by unfold mx; split <;> omega)]
theorem put_ok (k : Nat) (hk : 60 ≤ k) (a0 a1 a2 a3 a4 a5 a6 a7 a8 a9 a10 a11 a12 : Int) (h0 : 0 ≤ a0 ∧ a0 ≤ 3) (h1 : 0 ≤ a1 ∧ a1 ≤ 7) (h2 : 0 ≤ a2 ∧ a2 ≤ 7) (h3 : 0 ≤ a3 ∧ a3 ≤ 255)
    (h6 : 0 ≤ a6 ∧ a6 < 4294967296) (h7 : 0 ≤ a7 ∧ a7 < 4294967296) (h8 : 0 ≤ a8 ∧ a8 < 4294967296) :
    packet_Put.f k a0 a1 a2 a3 a4 a5 a6 a7 a8 a9 a10 a11 a12 = some (put48 (64 * a0 + 8 * a1 + a2) a3 a4 a5 a6 a7 a8 a9 a10 a11 a12, 0) := by
  unfold packet_Put.f
  rw [check_ok _ _ _ _ _ _ _ _ _ _ _ _ _ h0.2 h1.2 h2.2]
  simp only [Option.bind_some, if_true]
  rw [or_join a0 a1 a2 h0 h1 h2, u64_id _ (by omega) (by omega), u64_id a3 (by omega) (by omega), u64_id a6 h6.1 (by omega), u64_id a7 h7.1 (by omega), u64_id a8 h8.1 (by omega)]
  have z1 := words_f k 1 (by omega) [] [64 * a0 + 8 * a1 + a2, a3, a4 % 256, a5 % 256] (by simp) (by simp) (by simp; omega)
  have z2 := words_f k 4 (by omega) ([] ++ [64 * a0 + 8 * a1 + a2, a3, a4 % 256, a5 % 256].flatMap (wb 1)) [a6, a7, a8] (by simp) (by simp [List.flatMap_cons, wb_length]) (by simp; omega)
  have z3 := words_f k 8 (by omega) (([] ++ [64 * a0 + 8 * a1 + a2, a3, a4 % 256, a5 % 256].flatMap (wb 1)) ++ [a6, a7, a8].flatMap (wb 4)) [a9, a10, a11, a12] (by simp) (by simp [List.flatMap_cons, wb_length]) (by simp; omega)
  rw [show ((1 : Nat) : Int) = 1 from rfl] at z1
  rw [show ((4 : Nat) : Int) = 4 from rfl] at z2
  rw [show ((8 : Nat) : Int) = 8 from rfl] at z3
  rw [z1]
  simp only [Option.bind_some]
  rw [z2]
  simp only [Option.bind_some]
  rw [z3]
  rfl
theorem put_bad (k : Nat) (a0 a1 a2 a3 a4 a5 a6 a7 a8 a9 a10 a11 a12 : Int) (h : ¬ (a0 ≤ 3 ∧ a1 ≤ 7 ∧ a2 ≤ 7)) :
    packet_Put.f k a0 a1 a2 a3 a4 a5 a6 a7 a8 a9 a10 a11 a12 = some ([], 3) := by
  unfold packet_Put.f
  rw [check_bad _ _ _ _ _ _ _ _ _ _ _ _ _ h]
  rfl
theorem query_f (k : Nat) (hk : 60 ≤ k) (c : Int) : packet_Query.f k c = some (put48 35 0 0 0 0 0 0 0 0 0 c) := by
  unfold packet_Query.f
  rw [put_ok k hk 0 4 3 0 0 0 0 0 0 0 0 0 c (by omega) (by omega) (by omega) (by omega) (by omega) (by omega) (by omega)]
  rfl
end Go.Proofs.Ytingjmdilglgaaa.L
