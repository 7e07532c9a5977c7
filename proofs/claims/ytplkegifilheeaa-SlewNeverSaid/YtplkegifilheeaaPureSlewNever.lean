/- What the law of SlewNever computes is true: the plain law of a clock that is only slewed, along the law's two loops. No conditions but the arguments' own. -/
import Derived.Test.YtplkegifilheeaaGx7
import Derived.Test.YtplkegifilheeaaLSa
import Derived.Test.YtplkegifilheeaaLNv
namespace Go.Proofs.Ytplkegifilheeaa.Pure
open Go.RowKit Go.Proofs.Ytplkegifilheeaa.G Go.Proofs.YtplkegifilheeaaW.PrintWords Go.Proofs.YtplkegifilheeaaW.PrintLast Go.SlewPlain Go.Proofs.Ytplkegifilheeaa.L
set_option linter.unusedVariables false
set_option linter.unusedSimpArgs false

theorem wi_id {n : Int} (h : I64 n) : IntKind.i64.wrap n = n := by rw [IntKind.wrap_i64]; unfold I64 at h; omega
theorem rate_eq {a0 : Int} (h0 : 0 ≤ a0) (h1 : a0 ≤ 65535) : ∃ p, chronobatelaw07_rate.f a0 = some p ∧ 1 ≤ p ∧ p ≤ 500 := by
  refine ⟨1 + a0 % 500, ?_, by omega, by omega⟩
  unfold chronobatelaw07_rate.f
  rw [Int.tmod_eq_emod_of_nonneg h0, w64_id (n := a0 % 500) (by unfold I64; omega), w64_id (n := 1 + a0 % 500) (by unfold I64; omega)]
theorem md_part {p d : Int} (hp0 : 1 ≤ p) (hp : p ≤ 500) (hd0 : 0 ≤ d) (hd : d ≤ 257698037700) : md d p 1000000 = SlewPlain.part p d := by
  have s := part_small hp hd0
  have n := part_nonneg (r := p) (by omega) hd0
  unfold md
  exact clamp_id (show I64 (SlewPlain.part p d) by unfold I64; omega)
theorem room_eq {x0 p h : Int} (hp0 : 1 ≤ p) (hp : p ≤ 500) (h0 : 0 ≤ x0) (h1 : x0 ≤ h) (h2 : h ≤ 257698037700) : room x0 p h = SlewPlain.part p (h - x0) := by
  unfold room
  rw [wi_id (n := h - x0) (by unfold I64; omega)]
  show (if p < 0 ∨ (1000000 : Int) < 1 then 0 else md (h - x0) p 1000000) = _
  rw [if_neg (by omega), md_part hp0 hp (by omega) (by omega)]
theorem turn_eq {x0 x2 p h : Int} (hp0 : 1 ≤ p) (hp : p ≤ 500) (h0 : 0 ≤ x0) (h1 : x0 ≤ h) (h2 : h ≤ 257698037700) : turn x0 x2 p h = clampI x2 (SlewPlain.part p (h - x0)) := by
  have s := part_small hp (show 0 ≤ h - x0 by omega)
  have n := part_nonneg (r := p) (d := h - x0) (by omega) (by omega)
  unfold turn
  rw [room_eq hp0 hp h0 h1 h2, wi_id (n := 0 - SlewPlain.part p (h - x0)) (by unfold I64; omega)]
  show B.clp x2 (0 - SlewPlain.part p (h - x0)) (SlewPlain.part p (h - x0)) = _
  unfold B.clp clampI
  rw [Int.zero_sub]
theorem cnow_eq {x0 x1 x2 p h : Int} (hp0 : 1 ≤ p) (hp : p ≤ 500) (h0 : 0 ≤ x0) (h1 : x0 ≤ h) (h2 : h ≤ 257698037700) (h3 : 0 ≤ x1) (h4 : x1 ≤ 2 * x0) :
    cnow x0 x1 x2 p h = readC p x0 x1 x2 h ∧ 0 ≤ readC p x0 x1 x2 h ∧ readC p x0 x1 x2 h ≤ 2 * h := by
  have s := part_small hp (show 0 ≤ h - x0 by omega)
  have n := part_nonneg (r := p) (d := h - x0) (by omega) (by omega)
  have c := clampI_le (l := x2) n
  unfold cnow readC
  rw [turn_eq hp0 hp h0 h1 h2, wi_id (n := h - x0) (by unfold I64; omega), wi_id (n := x1 + (h - x0)) (by unfold I64; omega), wi_id (n := x1 + (h - x0) + _) (by unfold I64; omega)]
  refine ⟨rfl, ?_, ?_⟩ <;> omega
theorem inR_of {n : Int} (h : I64 n) : Go.SX.inR .i64 n = true := Go.SX.in_i64 (by unfold I64 at h; exact h)
theorem okIn_of {l : List Int} (h : ∀ n ∈ l, I64 n) : okIn l = true := List.all_eq_true.mpr fun n hn => inR_of (h n hn)
theorem rd_nat (l : List Int) (j : Nat) : rd l (j : Int) = l.getD j 0 := rfl

/-- The inner loop: each pair is as the law asks. -/
theorem inner {a0 p h c i n : Int} {l1 l2 hs cs : List Int} {x0 x1 x2 x3 x4 : Int} (hr : chronobatelaw07_rate.f a0 = some p) (hp0 : 1 ≤ p) (hp : p ≤ 500) (hh : h ≤ 257698037700) (hc0 : 0 ≤ c) (hc : c ≤ 2 * h)
    (hl : hs.length = cs.length) (h60 : hs.length ≤ 60)
    (old : ∀ j, j < hs.length → 0 ≤ hs.getD j 0 ∧ hs.getD j 0 ≤ h ∧ 0 ≤ cs.getD j 0 ∧ cs.getD j 0 ≤ 2 * hs.getD j 0 ∧ Fine p (h - hs.getD j 0) (c - cs.getD j 0)) (k : Nat) (hk : 30 ≤ k) :
    ∀ rem j : Nat, j + rem = hs.length → chronobatelaw07_SlewNever.l1 (k + rem) a0 l2 hs cs h i c l1 n i (hs.length : Int) (j : Int) x0 x1 x2 x3 x4 = chronobatelaw07_SlewNever.l1 k a0 l2 hs cs h i c l1 n i (hs.length : Int) (hs.length : Int) x0 x1 x2 x3 x4
  | 0, j, hj => by
    rw [show j = hs.length by omega]
    rfl
  | rem + 1, j, hj => by
    obtain ⟨o1, o2, o3, o4, f1, f2, f3, f4⟩ := old j (by omega)
    rw [← inner hr hp0 hp hh hc0 hc hl h60 old k hk rem (j + 1) (by omega)]
    rw [show k + (rem + 1) = (k + rem) + 1 from rfl]
    rw [chronobatelaw07_SlewNever.l1]
    rw [rd_nat, rd_nat]
    generalize hs.getD j 0 = hj' at *
    generalize cs.getD j 0 = cj' at *
    have s := part_small hp (show 0 ≤ h - hj' by omega)
    have q := part_nonneg (r := p) (d := h - hj') (by omega) (by omega)
    rw [if_pos (show (j : Int) < (hs.length : Int) by omega), if_pos (show (0 : Int) ≤ (j : Int) by omega), if_pos (show (j : Int) < (hs.length : Int) by omega), hr]
    simp only [Option.bind_some]
    rw [w64_id (n := h - hj') (by unfold I64; omega), sat_MulDiv_eq (k + rem) (by omega) (by unfold I64; omega) (by unfold I64; omega) (by unfold I64; omega) (by omega) (by omega)]
    simp only [Option.bind_some]
    rw [md_part hp0 hp (by omega) (by omega), if_pos (show (j : Int) < (cs.length : Int) by omega), sat_Sub_eq (by unfold I64; omega) (by unfold I64; omega), clamp_id (n := c - cj') (by unfold I64; omega)]
    simp only [Option.bind_some]
    generalize SlewPlain.part p (h - hj') = P at *
    rw [w64_id (n := h - hj' - P) (by unfold I64; omega), w64_id (n := h - hj' - P - 1) (by unfold I64; omega), w64_id (n := h - hj' + P) (by unfold I64; omega), w64_id (n := h - hj' + P + 1) (by unfold I64; omega), w64_id (n := (j : Int) + 1) (by unfold I64; omega)]
    rw [if_neg (by omega), if_neg (by omega), if_neg (by omega)]
    by_cases h2 : h - hj' ≥ 2
    · rw [if_pos h2, if_neg (by omega)]
      rfl
    · rw [if_neg h2]
      rfl

theorem read_eq {x0 x1 x2 x3 p h : Int} (hp0 : 1 ≤ p) (hp : p ≤ 500) (h0 : 0 ≤ x0) (h1 : x0 ≤ h) (h2 : h ≤ 257698037700) (h3 : 0 ≤ x1) (h4 : x1 ≤ 2 * x0) (d0 : -2305843009213693952 ≤ x2) (d1 : x2 ≤ 2305843009213693952) (e0 : -x0 ≤ x3) (e1 : x3 ≤ x0) :
    slew_Clock_Read.f x0 x1 x2 x3 p h = some (readC p x0 x1 x2 h, 0, x0, x1, x2, x3, p) := by
  unfold slew_Clock_Read.f
  rw [if_pos ⟨okIn_of (by
    intro n hn
    simp only [List.mem_cons, List.not_mem_nil, or_false] at hn
    rcases hn with rfl | rfl | rfl | rfl | rfl | rfl <;> unfold I64 <;> omega), by omega, by omega⟩, (cnow_eq hp0 hp h0 h1 h2 h3 h4).1]
theorem clp_F (b : Int) : B.F 106 [b, -2305843009213693952, 2305843009213693952] = B.clp b (-2305843009213693952) 2305843009213693952 := by
  unfold B.F
  rw [if_neg (by decide), if_neg (by decide), if_pos rfl]
  rfl
theorem adjust_eq {x0 x1 x2 x3 p h b : Int} (hp0 : 1 ≤ p) (hp : p ≤ 500) (h0 : 0 ≤ x0) (h1 : x0 ≤ h) (h2 : h ≤ 257698037700) (h3 : 0 ≤ x1) (h4 : x1 ≤ 2 * x0) (d0 : -2305843009213693952 ≤ x2) (d1 : x2 ≤ 2305843009213693952) (e0 : -x0 ≤ x3) (e1 : x3 ≤ x0) (hb : I64 b) :
    slew_Clock_Adjust.f x0 x1 x2 x3 p h b = some (0, h, readC p x0 x1 x2 h, B.clp b (-2305843009213693952) 2305843009213693952, x3 + clampI x2 (SlewPlain.part p (h - x0)), p) := by
  have s := part_small hp (show 0 ≤ h - x0 by omega)
  have n := part_nonneg (r := p) (d := h - x0) (by omega) (by omega)
  have c := clampI_le (l := x2) n
  unfold slew_Clock_Adjust.f
  rw [if_pos ⟨okIn_of (by
    intro n hn
    simp only [List.mem_cons, List.not_mem_nil, or_false] at hn
    rcases hn with rfl | rfl | rfl | rfl | rfl | rfl | rfl
    all_goals first | exact hb | (unfold I64; omega)), by omega, by omega⟩, (cnow_eq hp0 hp h0 h1 h2 h3 h4).1, turn_eq hp0 hp h0 h1 h2, wi_id (n := x3 + _) (by unfold I64; omega), clp_F]

/-- What is known at the outer loop's head. -/
structure Inv (p : Int) (l2 : List Int) (i : Nat) (hs cs : List Int) (h x0 x1 x2 x3 : Int) : Prop where
  lh : hs.length = i
  lc : cs.length = i
  hi : h ≤ (i : Int) * 4294967295
  b0 : 0 ≤ x0
  b1 : x0 ≤ h
  c0 : 0 ≤ x1
  c1 : x1 ≤ 2 * x0
  d0 : -2305843009213693952 ≤ x2
  d1 : x2 ≤ 2305843009213693952
  e0 : -x0 ≤ x3
  e1 : x3 ≤ x0
  old : ∀ j, j < i → 0 ≤ hs.getD j 0 ∧ hs.getD j 0 ≤ h ∧ 0 ≤ cs.getD j 0 ∧ cs.getD j 0 ≤ 2 * hs.getD j 0 ∧ Rel p x0 x1 x2 (hs.getD j 0) (cs.getD j 0)
  adj : i ≤ l2.length → ∀ j, j < i → hs.getD j 0 ≤ x0 ∧ -SlewPlain.part p (x0 - hs.getD j 0) ≤ x1 - cs.getD j 0 - (x0 - hs.getD j 0) ∧ x1 - cs.getD j 0 - (x0 - hs.getD j 0) ≤ SlewPlain.part p (x0 - hs.getD j 0)

theorem getD_old {l : List Int} {x : Int} {j : Nat} (h : j < l.length) : (l ++ [x]).getD j 0 = l.getD j 0 := by
  simp [List.getD_eq_getElem?_getD, List.getElem?_append_left h]
theorem getD_new {l : List Int} {x : Int} {j : Nat} (h : l.length = j) : (l ++ [x]).getD j 0 = x := by
  subst h
  simp [List.getD_eq_getElem?_getD]

theorem outer {a0 p : Int} {l1 l2 : List Int} (hr : chronobatelaw07_rate.f a0 = some p) (hp0 : 1 ≤ p) (hp : p ≤ 500) (hl1 : l1.length ≤ 60) (w1 : ∀ x ∈ l1, (Lit.int .u32 x).wf = true) (w2 : ∀ x ∈ l2, (Lit.int .i64 x).wf = true) :
    ∀ rem i : Nat, i + rem = l1.length → ∀ (hs cs : List Int) (h x0 x1 x2 x3 : Int), Inv p l2 i hs cs h x0 x1 x2 x3 →
      ∃ K, ∀ k, K ≤ k → chronobatelaw07_SlewNever.l0 k a0 l2 hs cs h l1 (l1.length : Int) (i : Int) x0 x1 x2 x3 p = some true
  | 0, i, hi, hs, cs, h, x0, x1, x2, x3, hI => by
    refine ⟨1, fun k hk => ?_⟩
    obtain ⟨k, rfl⟩ : ∃ j, k = j + 1 := ⟨k - 1, by omega⟩
    rw [chronobatelaw07_SlewNever.l0, if_neg (by omega)]
  | rem + 1, i, hi, hs, cs, h, x0, x1, x2, x3, hI => by
    obtain ⟨lh, lc, hi', b0, b1, c0, c1, d0, d1, e0, e1, old, adj⟩ := hI
    -- the step
    have hs0 : 0 ≤ l1.getD i 0 ∧ l1.getD i 0 ≤ 4294967295 := by
      have hm : l1.getD i 0 ∈ l1 := by
        rw [List.getD_eq_getElem?_getD, List.getElem?_eq_getElem (by omega : i < l1.length)]
        exact List.getElem_mem _
      have hw := w1 _ hm
      have hmin : IntKind.u32.min = 0 := rfl
      have hmax : IntKind.u32.max = 4294967295 := rfl
      simp only [Lit.wf, Bool.and_eq_true, decide_eq_true_eq] at hw
      omega
    generalize hst : l1.getD i 0 = st at hs0
    have hH : h + st ≤ ((i : Int) + 1) * 4294967295 := by omega
    have hHb : h + st ≤ 257698037700 := by omega
    obtain ⟨ce, cn0, cn1⟩ := cnow_eq (x2 := x2) (h := h + st) hp0 hp b0 (by omega) hHb c0 c1
    have tn := turn_eq (x2 := x2) (h := h + st) hp0 hp b0 (by omega) hHb
    have tp := part_small hp (show 0 ≤ h + st - x0 by omega)
    have tq := part_nonneg (r := p) (d := h + st - x0) (by omega) (by omega)
    have tc := clampI_le (l := x2) tq
    generalize hc : readC p x0 x1 x2 (h + st) = c at ce cn0 cn1
    -- the pairs
    have pairs : ∀ j, j < hs.length → 0 ≤ hs.getD j 0 ∧ hs.getD j 0 ≤ h + st ∧ 0 ≤ cs.getD j 0 ∧ cs.getD j 0 ≤ 2 * hs.getD j 0 ∧ Fine p (h + st - hs.getD j 0) (c - cs.getD j 0) := by
      intro j hj
      obtain ⟨o1, o2, o3, o4, o5⟩ := old j (by omega)
      refine ⟨o1, by omega, o3, o4, ?_⟩
      rw [← hc]
      exact read_fine (by omega) hp (by omega) (by omega) o5
    -- what is known behind the step
    have next0 : l2.length ≤ i → Inv p l2 (i + 1) (hs ++ [h + st]) (cs ++ [c]) (h + st) x0 x1 x2 x3 := by
      intro hle
      refine ⟨by simp [lh], by simp [lc], by omega, b0, by omega, c0, c1, d0, d1, e0, e1, ?_, fun h => by omega⟩
      intro j hj
      by_cases hji : j < i
      · rw [getD_old (by omega), getD_old (by omega)]
        obtain ⟨o1, o2, o3, o4, o5⟩ := old j hji
        exact ⟨o1, by omega, o3, o4, o5⟩
      · rw [getD_new (by omega), getD_new (by omega)]
        refine ⟨by omega, by omega, cn0, cn1, ?_⟩
        rw [← hc]
        exact rel_new (by omega)
    have next1 : ∀ b : Int, -2305843009213693952 ≤ b → b ≤ 2305843009213693952 → i < l2.length → Inv p l2 (i + 1) (hs ++ [h + st]) (cs ++ [c]) (h + st) (h + st) c b (x3 + clampI x2 (SlewPlain.part p (h + st - x0))) := by
      intro b hb0 hb1 hlt
      have A : ∀ j, j < i + 1 → (hs ++ [h + st]).getD j 0 ≤ h + st ∧ -SlewPlain.part p (h + st - (hs ++ [h + st]).getD j 0) ≤ c - (cs ++ [c]).getD j 0 - (h + st - (hs ++ [h + st]).getD j 0) ∧ c - (cs ++ [c]).getD j 0 - (h + st - (hs ++ [h + st]).getD j 0) ≤ SlewPlain.part p (h + st - (hs ++ [h + st]).getD j 0) := by
        intro j hj
        rw [← hc]
        refine rel_adjust (by omega) (by omega) ?_
        by_cases hji : j < i
        · rw [getD_old (by omega), getD_old (by omega)]
          exact .inl (adj (by omega) j hji)
        · rw [getD_new (by omega), getD_new (by omega)]
          exact .inr ⟨rfl, rfl⟩
      refine ⟨by simp [lh], by simp [lc], by omega, by omega, by omega, cn0, cn1, hb0, hb1, by omega, by omega, ?_, fun _ => A⟩
      intro j hj
      have hA := A j hj
      refine ⟨?_, hA.1, ?_, ?_, .inl hA⟩ <;> by_cases hji : j < i
      · rw [getD_old (by omega)]; exact (old j hji).1
      · rw [getD_new (by omega)]; omega
      · rw [getD_old (by omega)]; exact (old j hji).2.2.1
      · rw [getD_new (by omega)]; omega
      · rw [getD_old (by omega), getD_old (by omega)]; exact (old j hji).2.2.2.1
      · rw [getD_new (by omega), getD_new (by omega)]; omega
    -- Adjust's number
    have hby : I64 (l2.getD i 0) := by
      by_cases hlt : i < l2.length
      · refine i64_of_wf (w2 _ ?_)
        rw [List.getD_eq_getElem?_getD, List.getElem?_eq_getElem hlt]
        exact List.getElem_mem _
      · rw [List.getD_eq_getElem?_getD, List.getElem?_eq_none (by omega)]
        unfold I64
        simp
    generalize hb : l2.getD i 0 = by' at hby
    have hclp : -2305843009213693952 ≤ B.clp by' (-2305843009213693952) 2305843009213693952 ∧ B.clp by' (-2305843009213693952) 2305843009213693952 ≤ 2305843009213693952 := by
      unfold B.clp
      split <;> (try split) <;> omega
    -- the rounds
    obtain ⟨K0, hK0⟩ : ∃ K, l2.length ≤ i → ∀ k, K ≤ k → chronobatelaw07_SlewNever.l0 k a0 l2 (hs ++ [h + st]) (cs ++ [c]) (h + st) l1 (l1.length : Int) ((i + 1 : Nat) : Int) x0 x1 x2 x3 p = some true := by
      by_cases hle : l2.length ≤ i
      · obtain ⟨K, hK⟩ := outer hr hp0 hp hl1 w1 w2 rem (i + 1) (by omega) _ _ _ _ _ _ _ (next0 hle)
        exact ⟨K, fun _ => hK⟩
      · exact ⟨0, fun h => absurd h hle⟩
    obtain ⟨K1, hK1⟩ : ∃ K, i < l2.length → ∀ k, K ≤ k → chronobatelaw07_SlewNever.l0 k a0 l2 (hs ++ [h + st]) (cs ++ [c]) (h + st) l1 (l1.length : Int) ((i + 1 : Nat) : Int) (h + st) c (B.clp by' (-2305843009213693952) 2305843009213693952) (x3 + clampI x2 (SlewPlain.part p (h + st - x0))) p = some true := by
      by_cases hlt : i < l2.length
      · obtain ⟨K, hK⟩ := outer hr hp0 hp hl1 w1 w2 rem (i + 1) (by omega) _ _ _ _ _ _ _ (next1 _ hclp.1 hclp.2 hlt)
        exact ⟨K, fun _ => hK⟩
      · exact ⟨0, fun h => absurd h hlt⟩
    refine ⟨K0 + K1 + hs.length + 40, fun k hk => ?_⟩
    obtain ⟨k, rfl⟩ : ∃ j, k = (j + 1 + hs.length) + 1 := ⟨k - hs.length - 2, by omega⟩
    rw [chronobatelaw07_SlewNever.l0, rd_nat, hst]
    rw [w64_id (n := st) (by unfold I64; omega), w64_id (n := h + st) (by unfold I64; omega)]
    rw [if_pos (show (i : Int) < (l1.length : Int) by omega), if_pos (show (0 : Int) ≤ (i : Int) by omega), if_pos (show (i : Int) < (l1.length : Int) by omega)]
    have hrd := read_eq (p := p) (x3 := x3) hp0 hp b0 (show x0 ≤ h + st by omega) hHb c0 c1 d0 d1 e0 e1
    rw [hc] at hrd
    rw [hrd]
    simp only [Option.bind_some]
    rw [if_pos trivial]
    have hin := inner (l1 := l1) (l2 := l2) (i := (i : Int)) (n := (l1.length : Int)) (x0 := x0) (x1 := x1) (x2 := x2) (x3 := x3) (x4 := p) hr hp0 hp hHb cn0 cn1 (by omega) (by omega) pairs (k + 1) (by omega) hs.length 0 (by omega)
    rw [Int.natCast_zero] at hin
    rw [hin, chronobatelaw07_SlewNever.l1]
    rw [if_neg (show ¬ (hs.length : Int) < (hs.length : Int) by omega), if_pos (show hs.length < 17592186044416 by omega)]
    simp only [Option.bind_some]
    rw [if_pos (show cs.length < 17592186044416 by omega), w64_id (n := (i : Int) + 1) (by unfold I64; omega)]
    by_cases hlt : i < l2.length
    · rw [if_pos (show (i : Int) < (l2.length : Int) by omega), if_pos (show (0 : Int) ≤ (i : Int) by omega), rd_nat, hb]
      have had := adjust_eq (p := p) (x3 := x3) hp0 hp b0 (show x0 ≤ h + st by omega) hHb c0 c1 d0 d1 e0 e1 hby
      rw [hc] at had
      rw [had]
      simp only [Option.bind_some]
      rw [if_pos trivial]
      exact hK1 hlt k (by omega)
    · rw [if_neg (show ¬ (i : Int) < (l2.length : Int) by omega)]
      exact hK0 (by omega) k (by omega)

theorem SlewNever : chronobatelaw07_SlewNever.Pure := by
  intro a0 l1 l2 wa _ _ w1 _ _ w2
  have ha : 0 ≤ a0 ∧ a0 ≤ 65535 := by
    have hmin : IntKind.u16.min = 0 := rfl
    have hmax : IntKind.u16.max = 65535 := rfl
    simp only [Lit.wf, Bool.and_eq_true, decide_eq_true_eq] at wa
    omega
  obtain ⟨p, hr, hp0, hp⟩ := rate_eq ha.1 ha.2
  have hnew : slew_New.f 0 0 p = some (0, 0, 0, 0, p, 0) := by
    unfold slew_New.f
    rw [if_pos (by omega)]
  have hal : chronobatelaw07_alive.f = some true := rfl
  by_cases hl : l1.length ≤ 60 ∧ l2.length ≤ 60
  · obtain ⟨K, hK⟩ := outer hr hp0 hp hl.1 w1 w2 l1.length 0 (by omega) [] [] 0 0 0 0 0 ⟨rfl, rfl, by omega, by omega, by omega, by omega, by omega, by omega, by omega, by omega, by omega, fun j hj => by omega, fun _ j hj => by omega⟩
    refine ⟨K + 1, ?_⟩
    unfold chronobatelaw07_SlewNever.f
    rw [hr, Option.bind_some, hnew, Option.bind_some, hal, Option.bind_some, if_pos rfl]
    simp only []
    rw [if_pos trivial, if_neg (by omega), decide_eq_false (show ¬ (l2.length : Int) > 60 by omega)]
    rw [chronobatelaw07_SlewNever.j0, if_neg (by decide)]
    exact hK K (Nat.le_refl _)
  · refine ⟨1, ?_⟩
    unfold chronobatelaw07_SlewNever.f
    rw [hr, Option.bind_some, hnew, Option.bind_some, hal, Option.bind_some, if_pos rfl]
    simp only []
    rw [if_pos trivial]
    by_cases h1 : (l1.length : Int) > 60
    · rw [if_pos h1, chronobatelaw07_SlewNever.j0, if_pos rfl]
      rfl
    · rw [if_neg h1, decide_eq_true (show (l2.length : Int) > 60 by omega), chronobatelaw07_SlewNever.j0, if_pos rfl]
      rfl

end Go.Proofs.Ytplkegifilheeaa.Pure
