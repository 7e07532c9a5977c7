-- Written by a program of this session out of the translation (wip/patch_print.py, wip/print2.sh). Lean checks it.
import Derived.Test.YtmniekljfhecaaaGx0
namespace Go.Proofs.Ytmniekljfhecaaa.G
open Go.RowKit Go.Proofs.YtmniekljfhecaaaW.PrintWords Go.Proofs.YtmniekljfhecaaaW.PrintLast Go.Proofs.YtmniekljfhecaaaW.PrintMore
attribute [local go_sem] max2_int min2_int max_two min_two max_three min_three max_four min_four   -- for this text's walks alone
set_option linter.unusedVariables false
set_option linter.unusedSimpArgs false

/-! ### chronobateref18_Fine: function 11 -/
def chronobateref18_Fine.j0 : Nat → Int → Int → Int → Bool → Option (Bool)
  | 0, _, _, _, _ => none
  | k + 1, x0, x1, x2, x22 => if x22 = true then (some false) else (if (wrap64 (x2 - x1)) < 0 then (some (decide ((wrap64 (-(wrap64 (x2 - x1)))) ≤ (wrap64 ((wrap64 ((wrap64 (Int.tdiv x1 1000000)) * x0)) + (wrap64 (Int.tdiv (wrap64 ((Int.tmod x1 1000000) * x0)) 1000000))))))) else (some (decide ((wrap64 (x2 - x1)) ≤ (wrap64 ((wrap64 ((wrap64 (Int.tdiv x1 1000000)) * x0)) + (wrap64 (Int.tdiv (wrap64 ((Int.tmod x1 1000000) * x0)) 1000000))))))))
def chronobateref18_Fine.f (k : Nat) (a0 : Int) (a1 : Int) (a2 : Int) : Option (Bool) := if a0 < 0 then (chronobateref18_Fine.j0 k a0 a1 a2 true) else (if a0 > 1000000 then (chronobateref18_Fine.j0 k a0 a1 a2 true) else (if a1 < 0 then (chronobateref18_Fine.j0 k a0 a1 a2 true) else (chronobateref18_Fine.j0 k a0 a1 a2 (decide (a2 < 0)))))
theorem chronobateref18_Fine.mono_l : ∀ k, (∀ y0 y1 y2 y3, LeO (chronobateref18_Fine.j0 k y0 y1 y2 y3) (chronobateref18_Fine.j0 (k + 1) y0 y1 y2 y3))
  | 0 => fun _ _ _ _ r h => by simp [chronobateref18_Fine.j0] at h
  | k + 1 => by
    have ih0 := chronobateref18_Fine.mono_l k
    · intro y0 y1 y2 y3
      unfold chronobateref18_Fine.j0
      repeat' first
      | (with_reducible exact ih0 _ _ _ _)
      | (with_reducible exact LeO.refl _)
      | (with_reducible exact LeO.none _)
      | (with_reducible refine LeO.ite ?_ ?_)
      | (with_reducible refine LeO.bind ?_ (fun _ => ?_))
      | exact ih0 _ _ _ _
      | exact LeO.none _
      | refine LeO.ite ?_ ?_
      | refine LeO.bind ?_ (fun _ => ?_)
theorem chronobateref18_Fine.mono : ∀ a0 a1 a2 k, LeO (chronobateref18_Fine.f k a0 a1 a2) (chronobateref18_Fine.f (k + 1) a0 a1 a2) := by
  intro a0 a1 a2 k
  have ih0 := chronobateref18_Fine.mono_l k
  unfold chronobateref18_Fine.f
  repeat' first
      | (with_reducible exact ih0 _ _ _ _)
      | (with_reducible exact LeO.refl _)
      | (with_reducible exact LeO.none _)
      | (with_reducible refine LeO.ite ?_ ?_)
      | (with_reducible refine LeO.bind ?_ (fun _ => ?_))
      | exact ih0 _ _ _ _
      | exact LeO.none _
      | refine LeO.ite ?_ ?_
      | refine LeO.bind ?_ (fun _ => ?_)
set_option maxHeartbeats 8000000 in
set_option maxRecDepth 100000 in
theorem chronobateref18_Fine.calls (k : Nat) (a0 : Int) (a1 : Int) (a2 : Int) (r : Bool) (w : World) (h : chronobateref18_Fine.f k a0 a1 a2 = some r) :
    Calls Try.prog 11 #[.int .i64 a0, .int .i64 a1, .int .i64 a2] w fun e w' => e = .returned (.bool r) ∧ Drawn0 w w' := by
  have H : (if a0 < 0 then (chronobateref18_Fine.j0 k a0 a1 a2 true) else (if a0 > 1000000 then (chronobateref18_Fine.j0 k a0 a1 a2 true) else (if a1 < 0 then (chronobateref18_Fine.j0 k a0 a1 a2 true) else (chronobateref18_Fine.j0 k a0 a1 a2 (decide (a2 < 0)))))) = some r := h
  clear h
  have HC4 := Aside0.mk H
  clear H
  go_enter Try.func11, Try.ntmps11
  go_upto_region 1 with (fail)
  go_cut [22] (fun v22 wc => ∃ (kq : Nat) (x22_3 : Bool), v22 = .bool x22_3 ∧ Aside0 (chronobateref18_Fine.j0 kq a0 a1 a2 x22_3 = some r) ∧ Aside0 (kq ≤ k) ∧ Drawn0 w wc)
  case first =>
    have H := HC4.out
    clear HC4
    by_cases c5 : a0 < 0
    · rw [if_pos c5] at H
      have c5b0 : decide (a0 < 0) = true := decide_eq_true c5
      clear c5
      (first | rw [c5b0] | (simp only [i64_w, i32_w]; rw [c5b0]) | skip)
      have H' := Aside0.mk H
      clear H
      go_wp2
      go_meet
      case rel => exact ⟨_, (true), (by first | rfl | (simp; done) | (simp [*]; done)), H', ⟨by first | omega | exact Nat.le_refl _⟩, by repeat (first | exact Drawn0.refl _ | apply Drawn0.step)⟩
    · rw [if_neg c5] at H
      have c5b0 : decide (a0 < 0) = false := decide_eq_false c5
      clear c5
      (first | rw [c5b0] | (simp only [i64_w, i32_w]; rw [c5b0]) | skip)
      by_cases c6 : a0 > 1000000
      · rw [if_pos c6] at H
        have c6b0 : decide (1000000 < a0) = true := decide_eq_true c6
        clear c6
        have H' := Aside0.mk H
        clear H
        go_wp2
        go_meet
        case rel => exact ⟨_, (true), (by first | rfl | (simp; done) | (simp [*]; done)), H', ⟨by first | omega | exact Nat.le_refl _⟩, by repeat (first | exact Drawn0.refl _ | apply Drawn0.step)⟩
      · rw [if_neg c6] at H
        have c6b0 : decide (1000000 < a0) = false := decide_eq_false c6
        clear c6
        by_cases c7 : a1 < 0
        · rw [if_pos c7] at H
          have c7b0 : decide (a1 < 0) = true := decide_eq_true c7
          clear c7
          have H' := Aside0.mk H
          clear H
          go_wp2
          go_meet
          case rel => exact ⟨_, (true), (by first | rfl | (simp; done) | (simp [*]; done)), H', ⟨by first | omega | exact Nat.le_refl _⟩, by repeat (first | exact Drawn0.refl _ | apply Drawn0.step)⟩
        · rw [if_neg c7] at H
          have c7b0 : decide (a1 < 0) = false := decide_eq_false c7
          clear c7
          have H' := Aside0.mk H
          clear H
          go_wp2
          go_meet
          case rel => exact ⟨_, (decide (a2 < 0)), (by first | rfl | (simp; done) | (simp [*]; done)), H', ⟨by first | omega | exact Nat.le_refl _⟩, by repeat (first | exact Drawn0.refl _ | apply Drawn0.step)⟩
  case rest =>
    clear HC4
    try clear c1
    try clear p2
    try clear c5
    try clear c5b0
    try clear c6
    try clear c6b0
    try clear c7
    try clear c7b0
    obtain ⟨kq, x22_3, rfl, HA, HJ3, ⟨mc3, rfl⟩⟩ := hcut
    cases kq with
    | zero => exact absurd HA.out (by simp [chronobateref18_Fine.j0])
    | succ kj3 =>
      have H := HA.out
      clear HA
      simp only [chronobateref18_Fine.j0] at H
      by_cases c8 : x22_3 = true
      · subst c8
        have H1 : (some false) = some r := by rw [if_pos rfl] at H; exact H
        clear H
        have H := H1
        clear H1
        obtain rfl := Option.some.inj H
        go_wp2
        go_ret
        exact ⟨by first | rfl | (simp; done) | (simp [*]; done), by repeat (first | exact Drawn0.refl _ | apply Drawn0.step)⟩
      · replace c8 := Bool.eq_false_iff.mpr c8
        subst c8
        have H1 : (if (wrap64 (a2 - a1)) < 0 then (some (decide ((wrap64 (-(wrap64 (a2 - a1)))) ≤ (wrap64 ((wrap64 ((wrap64 (Int.tdiv a1 1000000)) * a0)) + (wrap64 (Int.tdiv (wrap64 ((Int.tmod a1 1000000) * a0)) 1000000))))))) else (some (decide ((wrap64 (a2 - a1)) ≤ (wrap64 ((wrap64 ((wrap64 (Int.tdiv a1 1000000)) * a0)) + (wrap64 (Int.tdiv (wrap64 ((Int.tmod a1 1000000) * a0)) 1000000)))))))) = some r := by rw [if_neg (show ¬ (false = true) by decide)] at H; exact H
        clear H
        have H := H1
        clear H1
        by_cases c9 : (wrap64 (a2 - a1)) < 0
        · rw [if_pos c9] at H
          have c9b0 : decide ((wrap64 (a2 - a1)) < 0) = true := decide_eq_true c9
          clear c9
          obtain rfl := Option.some.inj H
          go_wp2
          go_ret
          exact ⟨by first | rfl | (simp; done) | (simp [*]; done), by repeat (first | exact Drawn0.refl _ | apply Drawn0.step)⟩
        · rw [if_neg c9] at H
          have c9b0 : decide ((wrap64 (a2 - a1)) < 0) = false := decide_eq_false c9
          clear c9
          obtain rfl := Option.some.inj H
          go_wp2
          go_ret
          exact ⟨by first | rfl | (simp; done) | (simp [*]; done), by repeat (first | exact Drawn0.refl _ | apply Drawn0.step)⟩

end Go.Proofs.Ytmniekljfhecaaa.G
