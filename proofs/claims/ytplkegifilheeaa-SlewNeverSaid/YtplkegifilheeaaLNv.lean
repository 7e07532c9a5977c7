/- The plain law of SlewNever (no program in sight): two readings of a clock that is only slewed are as far apart as the counter, but for the rate's part, and 1. -/
import Derived.Below
namespace Go.SlewPlain
/-- The rate's part of a way. -/
def part (r d : Int) : Int := d * r / 1000000
def clampI (l m : Int) : Int := if l < -m then -m else if m < l then m else l
/-- What a clock with the base (kh, kc) and so much to correct tells at h. -/
def readC (r kh kc kl h : Int) : Int := kc + (h - kh) + clampI kl (part r (h - kh))

theorem part_nonneg {r d : Int} (hr : 0 ≤ r) (hd : 0 ≤ d) : 0 ≤ part r d := by
  have : 0 ≤ d * r := Int.mul_nonneg hd hr
  unfold part; omega
theorem part_add (r a b : Int) : part r a + part r b ≤ part r (a + b) ∧ part r (a + b) ≤ part r a + part r b + 1 := by
  unfold part
  rw [Int.add_mul]
  generalize a * r = x
  generalize b * r = y
  omega
theorem part_small {r d : Int} (hr : r ≤ 500) (hd : 0 ≤ d) : 2000 * part r d ≤ d := by
  have : d * r ≤ d * 500 := Int.mul_le_mul_of_nonneg_left hr hd
  unfold part
  omega
theorem clampI_le {l m : Int} (hm : 0 ≤ m) : -m ≤ clampI l m ∧ clampI l m ≤ m := by
  unfold clampI; split <;> (try split) <;> omega
theorem clampI_mono {l m n : Int} (hm : 0 ≤ m) (hn : m ≤ n) : clampI l n - clampI l m ≤ n - m ∧ clampI l m - clampI l n ≤ n - m := by
  unfold clampI
  split <;> split <;> (try split) <;> (try split) <;> omega

/-- What is known of a reading (hj, cj) that was taken, of a clock with the base (kh, kc) now: A: the base came behind it; B: it was told by this base. -/
def Rel (r kh kc kl hj cj : Int) : Prop :=
  (hj ≤ kh ∧ -part r (kh - hj) ≤ kc - cj - (kh - hj) ∧ kc - cj - (kh - hj) ≤ part r (kh - hj)) ∨ (kh ≤ hj ∧ cj = readC r kh kc kl hj)
/-- What the law asks of two readings. -/
def Fine (r d x : Int) : Prop := d - part r d - 1 ≤ x ∧ x ≤ d + part r d + 1 ∧ 0 ≤ x ∧ (2 ≤ d → 1 ≤ x)
theorem fine_of {r d x : Int} (hr0 : 0 ≤ r) (hr : r ≤ 500) (hd : 0 ≤ d) (h0 : d = 0 → x = 0) (h1 : d - part r d - 1 ≤ x) (h2 : x ≤ d + part r d + 1) : Fine r d x := by
  have := part_small hr hd
  have := part_nonneg hr0 hd
  refine ⟨h1, h2, ?_, fun h => ?_⟩
  · by_cases h : d = 0
    · have := h0 h; omega
    · omega
  · omega
/-- A reading now, and one before. -/
theorem read_fine {r kh kc kl hj cj h : Int} (hr0 : 0 ≤ r) (hr : r ≤ 500) (hk : kh ≤ h) (hjh : hj ≤ h) (hR : Rel r kh kc kl hj cj) : Fine r (h - hj) (readC r kh kc kl h - cj) := by
  have p1 := part_nonneg hr0 (show 0 ≤ h - kh by omega)
  have c1 := clampI_le (l := kl) p1
  rcases hR with ⟨a1, a2, a3⟩ | ⟨b1, b2⟩
  · have p2 := part_add r (kh - hj) (h - kh)
    have e : kh - hj + (h - kh) = h - hj := by omega
    rw [e] at p2
    have p3 := part_nonneg hr0 (show 0 ≤ kh - hj by omega)
    refine fine_of hr0 hr (by omega) (fun h0 => ?_) ?_ ?_
    · have h1 : h = kh := by omega
      have h2 : hj = kh := by omega
      subst h1
      rw [h2] at a2 a3
      have z : part r (h - h) = 0 := by unfold part; simp
      rw [z] at a2 a3
      unfold readC
      rw [z]
      have := clampI_le (l := kl) (m := 0) (by omega)
      omega
    · unfold readC; omega
    · unfold readC; omega
  · have p2 := part_add r (hj - kh) (h - hj)
    have e : hj - kh + (h - hj) = h - kh := by omega
    rw [e] at p2
    have p3 := part_nonneg hr0 (show 0 ≤ hj - kh by omega)
    have p4 := part_nonneg hr0 (show 0 ≤ h - hj by omega)
    have m := clampI_mono (l := kl) (m := part r (hj - kh)) (n := part r (h - kh)) p3 (by omega)
    refine fine_of hr0 hr (by omega) (fun h0 => ?_) ?_ ?_
    · have h1 : hj = h := by omega
      rw [b2, h1]; omega
    · rw [b2]; unfold readC; omega
    · rw [b2]; unfold readC; omega
/-- The reading that has just been taken is known of the same base; the ones before stay so. -/
theorem rel_new {r kh kc kl h : Int} (hk : kh ≤ h) : Rel r kh kc kl h (readC r kh kc kl h) := .inr ⟨hk, rfl⟩
/-- Behind an adjustment the base is the reading: of all that were known by kind A, and of the reading itself. -/
theorem rel_adjust {r kh kc kl hj cj h : Int} (hr0 : 0 ≤ r) (hk : kh ≤ h) (hR : (hj ≤ kh ∧ -part r (kh - hj) ≤ kc - cj - (kh - hj) ∧ kc - cj - (kh - hj) ≤ part r (kh - hj)) ∨ (hj = h ∧ cj = readC r kh kc kl h)) :
    hj ≤ h ∧ -part r (h - hj) ≤ readC r kh kc kl h - cj - (h - hj) ∧ readC r kh kc kl h - cj - (h - hj) ≤ part r (h - hj) := by
  have p1 := part_nonneg hr0 (show 0 ≤ h - kh by omega)
  have c1 := clampI_le (l := kl) p1
  rcases hR with ⟨a1, a2, a3⟩ | ⟨b1, b2⟩
  · have p2 := part_add r (kh - hj) (h - kh)
    have e : kh - hj + (h - kh) = h - hj := by omega
    rw [e] at p2
    refine ⟨by omega, ?_, ?_⟩ <;> (unfold readC; omega)
  · subst b1
    have z : part r (hj - hj) = 0 := by unfold part; simp
    rw [z, b2]
    omega
end Go.SlewPlain
