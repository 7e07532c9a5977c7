-- Written by a program of this session out of the translation (wip/patch_print.py, wip/print2.sh). Lean checks it.
import Derived.Test.YtdflbfgmbcgljaaGx0
import Derived.Test.YtdflbfgmbcgljaaGx1
import Derived.Test.YtdflbfgmbcgljaaGx5
namespace Go.Proofs.Ytdflbfgmbcgljaa.G
open Go.RowKit Go.Proofs.YtdflbfgmbcgljaaW.PrintWords Go.Proofs.YtdflbfgmbcgljaaW.PrintLast Go.Proofs.YtdflbfgmbcgljaaW.PrintMore
attribute [local go_sem] max2_int min2_int max_two min_two max_three min_three max_four min_four   -- for this text's walks alone
set_option linter.unusedVariables false
set_option linter.unusedSimpArgs false

/-! ### sat_Add: function 17 -/
def sat_Add.f (a0 : Int) (a1 : Int) : Option (Int) := if (Go.bits .and .i64 (Go.bits .xor .i64 a0 (wrap64 (a0 + a1))) (Go.bits .xor .i64 a1 (wrap64 (a0 + a1)))) < 0 then ((sat_end.f a0).bind fun t154 => (some t154)) else (some (wrap64 (a0 + a1)))
set_option maxHeartbeats 8000000 in
set_option maxRecDepth 100000 in
theorem sat_Add.calls (a0 : Int) (a1 : Int) (r : Int) (w : World) (h : sat_Add.f a0 a1 = some r) :
    Calls Try.prog 17 #[.int .i64 a0, .int .i64 a1] w fun e w' => e = .returned (.int .i64 r) ∧ Drawn0 w w' := by
  have H : (if (Go.bits .and .i64 (Go.bits .xor .i64 a0 (wrap64 (a0 + a1))) (Go.bits .xor .i64 a1 (wrap64 (a0 + a1)))) < 0 then ((sat_end.f a0).bind fun t154 => (some t154)) else (some (wrap64 (a0 + a1)))) = some r := h
  clear h
  by_cases c3 : (Go.bits .and .i64 (Go.bits .xor .i64 a0 (wrap64 (a0 + a1))) (Go.bits .xor .i64 a1 (wrap64 (a0 + a1)))) < 0
  · rw [if_pos c3] at H
    have c3b0 : decide ((Go.bits .and .i64 (Go.bits .xor .i64 a0 (wrap64 (a0 + a1))) (Go.bits .xor .i64 a1 (wrap64 (a0 + a1)))) < 0) = true := decide_eq_true c3
    clear c3
    replace H := Option.bind_eq_some_iff.mp H
    obtain ⟨t154, A40, H⟩ := H
    replace H : (some t154) = some r := H
    have A4 := Aside0.mk A40
    clear A40
    obtain rfl := Option.some.inj H
    go_enter Try.func17, Try.ntmps17
    go_wp2_with (first | ((with_reducible refine gate_callee (f := 30) rfl ?_); refine goesL_ (some 18) rfl rfl Try.func30 (by kernel_rfl) rfl #[.int .i64 a0] rfl (by (try simp only [List.map_toArray, List.map_cons, List.map_nil]); first | done | rfl | (simp only [List.length_drop, List.length_take]; rfl)) ?_; (with_reducible refine (sat_end.calls a0 t154 _ A4.out).mono ?_); rintro e w' ⟨rfl, ⟨nd, rfl⟩⟩; refine ⟨_, rfl, ?_⟩))
    go_ret
    exact ⟨by first | rfl | (simp; done) | (simp [*]; done), by repeat (first | exact Drawn0.refl _ | apply Drawn0.step)⟩
  · rw [if_neg c3] at H
    have c3b0 : decide ((Go.bits .and .i64 (Go.bits .xor .i64 a0 (wrap64 (a0 + a1))) (Go.bits .xor .i64 a1 (wrap64 (a0 + a1)))) < 0) = false := decide_eq_false c3
    clear c3
    obtain rfl := Option.some.inj H
    go_enter Try.func17, Try.ntmps17
    go_wp2
    go_ret
    exact ⟨by first | rfl | (simp; done) | (simp [*]; done), by repeat (first | exact Drawn0.refl _ | apply Drawn0.step)⟩

/-! ### chronobateref01_Add: function 18 -/
def chronobateref01_Add.j0 : Nat → Int → Int → Bool → Option (Int)
  | 0, _, _, _ => none
  | k + 1, x0, x1, x12 => if x12 = true then (some 9223372036854775807) else (if x1 < 0 then (if x0 < (wrap64 ((-9223372036854775808) - x1)) then (some (-9223372036854775808)) else (some (wrap64 (x0 + x1)))) else (some (wrap64 (x0 + x1))))
def chronobateref01_Add.f (k : Nat) (a0 : Int) (a1 : Int) : Option (Int) := if a1 > 0 then (chronobateref01_Add.j0 k a0 a1 (decide (a0 > (wrap64 (9223372036854775807 - a1))))) else (chronobateref01_Add.j0 k a0 a1 false)
theorem chronobateref01_Add.mono_l : ∀ k, (∀ y0 y1 y2, LeO (chronobateref01_Add.j0 k y0 y1 y2) (chronobateref01_Add.j0 (k + 1) y0 y1 y2))
  | 0 => fun _ _ _ r h => by simp [chronobateref01_Add.j0] at h
  | k + 1 => by
    have ih0 := chronobateref01_Add.mono_l k
    · intro y0 y1 y2
      unfold chronobateref01_Add.j0
      repeat' first
      | (with_reducible exact ih0 _ _ _)
      | (with_reducible exact LeO.refl _)
      | (with_reducible exact LeO.none _)
      | (with_reducible refine LeO.ite ?_ ?_)
      | (with_reducible refine LeO.bind ?_ (fun _ => ?_))
      | exact ih0 _ _ _
      | exact LeO.none _
      | refine LeO.ite ?_ ?_
      | refine LeO.bind ?_ (fun _ => ?_)
theorem chronobateref01_Add.mono : ∀ a0 a1 k, LeO (chronobateref01_Add.f k a0 a1) (chronobateref01_Add.f (k + 1) a0 a1) := by
  intro a0 a1 k
  have ih0 := chronobateref01_Add.mono_l k
  unfold chronobateref01_Add.f
  repeat' first
      | (with_reducible exact ih0 _ _ _)
      | (with_reducible exact LeO.refl _)
      | (with_reducible exact LeO.none _)
      | (with_reducible refine LeO.ite ?_ ?_)
      | (with_reducible refine LeO.bind ?_ (fun _ => ?_))
      | exact ih0 _ _ _
      | exact LeO.none _
      | refine LeO.ite ?_ ?_
      | refine LeO.bind ?_ (fun _ => ?_)
set_option maxHeartbeats 8000000 in
set_option maxRecDepth 100000 in
theorem chronobateref01_Add.calls (k : Nat) (a0 : Int) (a1 : Int) (r : Int) (w : World) (h : chronobateref01_Add.f k a0 a1 = some r) :
    Calls Try.prog 18 #[.int .i64 a0, .int .i64 a1] w fun e w' => e = .returned (.int .i64 r) ∧ Drawn0 w w' := by
  have H : (if a1 > 0 then (chronobateref01_Add.j0 k a0 a1 (decide (a0 > (wrap64 (9223372036854775807 - a1))))) else (chronobateref01_Add.j0 k a0 a1 false)) = some r := h
  clear h
  have HC3 := Aside0.mk H
  clear H
  go_enter Try.func18, Try.ntmps18
  go_upto_region 1 with (fail)
  go_cut [12] (fun v12 wc => ∃ (kq : Nat) (x12_2 : Bool), v12 = .bool x12_2 ∧ Aside0 (chronobateref01_Add.j0 kq a0 a1 x12_2 = some r) ∧ Aside0 (kq ≤ k) ∧ Drawn0 w wc)
  case first =>
    have H := HC3.out
    clear HC3
    by_cases c4 : a1 > 0
    · rw [if_pos c4] at H
      have c4b0 : decide (0 < a1) = true := decide_eq_true c4
      clear c4
      (first | rw [c4b0] | (simp only [i64_w, i32_w]; rw [c4b0]) | skip)
      have H' := Aside0.mk H
      clear H
      go_wp2
      go_meet
      case rel => exact ⟨_, (decide (a0 > (wrap64 (9223372036854775807 - a1)))), (by first | rfl | (simp; done) | (simp [*]; done)), H', ⟨by first | omega | exact Nat.le_refl _⟩, by repeat (first | exact Drawn0.refl _ | apply Drawn0.step)⟩
    · rw [if_neg c4] at H
      have c4b0 : decide (0 < a1) = false := decide_eq_false c4
      clear c4
      (first | rw [c4b0] | (simp only [i64_w, i32_w]; rw [c4b0]) | skip)
      have H' := Aside0.mk H
      clear H
      go_wp2
      go_meet
      case rel => exact ⟨_, (false), (by first | rfl | (simp; done) | (simp [*]; done)), H', ⟨by first | omega | exact Nat.le_refl _⟩, by repeat (first | exact Drawn0.refl _ | apply Drawn0.step)⟩
  case rest =>
    clear HC3
    try clear c1
    try clear p2
    try clear c4
    try clear c4b0
    obtain ⟨kq, x12_2, rfl, HA, HJ2, ⟨mc2, rfl⟩⟩ := hcut
    cases kq with
    | zero => exact absurd HA.out (by simp [chronobateref01_Add.j0])
    | succ kj2 =>
      have H := HA.out
      clear HA
      simp only [chronobateref01_Add.j0] at H
      by_cases c5 : x12_2 = true
      · subst c5
        have H1 : (some 9223372036854775807) = some r := by rw [if_pos rfl] at H; exact H
        clear H
        have H := H1
        clear H1
        obtain rfl := Option.some.inj H
        go_wp2
        go_ret
        exact ⟨by first | rfl | (simp; done) | (simp [*]; done), by repeat (first | exact Drawn0.refl _ | apply Drawn0.step)⟩
      · replace c5 := Bool.eq_false_iff.mpr c5
        subst c5
        have H1 : (if a1 < 0 then (if a0 < (wrap64 ((-9223372036854775808) - a1)) then (some (-9223372036854775808)) else (some (wrap64 (a0 + a1)))) else (some (wrap64 (a0 + a1)))) = some r := by rw [if_neg (show ¬ (false = true) by decide)] at H; exact H
        clear H
        have H := H1
        clear H1
        by_cases c6 : a1 < 0
        · rw [if_pos c6] at H
          have c6b0 : decide (a1 < 0) = true := decide_eq_true c6
          clear c6
          by_cases c7 : a0 < (wrap64 ((-9223372036854775808) - a1))
          · rw [if_pos c7] at H
            have c7b0 : decide (a0 < (wrap64 ((-9223372036854775808) - a1))) = true := decide_eq_true c7
            clear c7
            obtain rfl := Option.some.inj H
            go_wp2
            go_ret
            exact ⟨by first | rfl | (simp; done) | (simp [*]; done), by repeat (first | exact Drawn0.refl _ | apply Drawn0.step)⟩
          · rw [if_neg c7] at H
            have c7b0 : decide (a0 < (wrap64 ((-9223372036854775808) - a1))) = false := decide_eq_false c7
            clear c7
            obtain rfl := Option.some.inj H
            go_wp2
            go_ret
            exact ⟨by first | rfl | (simp; done) | (simp [*]; done), by repeat (first | exact Drawn0.refl _ | apply Drawn0.step)⟩
        · rw [if_neg c6] at H
          have c6b0 : decide (a1 < 0) = false := decide_eq_false c6
          clear c6
          obtain rfl := Option.some.inj H
          go_wp2
          go_ret
          exact ⟨by first | rfl | (simp; done) | (simp [*]; done), by repeat (first | exact Drawn0.refl _ | apply Drawn0.step)⟩

/-! ### chronobateref01_Sub: function 20 -/
def chronobateref01_Sub.j0 : Nat → Int → Int → Bool → Option (Int)
  | 0, _, _, _ => none
  | k + 1, x0, x1, x12 => if x12 = true then (some 9223372036854775807) else (if x1 > 0 then (if x0 < (wrap64 ((-9223372036854775808) + x1)) then (some (-9223372036854775808)) else (some (wrap64 (x0 - x1)))) else (some (wrap64 (x0 - x1))))
def chronobateref01_Sub.f (k : Nat) (a0 : Int) (a1 : Int) : Option (Int) := if a1 < 0 then (chronobateref01_Sub.j0 k a0 a1 (decide (a0 > (wrap64 (9223372036854775807 + a1))))) else (chronobateref01_Sub.j0 k a0 a1 false)
theorem chronobateref01_Sub.mono_l : ∀ k, (∀ y0 y1 y2, LeO (chronobateref01_Sub.j0 k y0 y1 y2) (chronobateref01_Sub.j0 (k + 1) y0 y1 y2))
  | 0 => fun _ _ _ r h => by simp [chronobateref01_Sub.j0] at h
  | k + 1 => by
    have ih0 := chronobateref01_Sub.mono_l k
    · intro y0 y1 y2
      unfold chronobateref01_Sub.j0
      repeat' first
      | (with_reducible exact ih0 _ _ _)
      | (with_reducible exact LeO.refl _)
      | (with_reducible exact LeO.none _)
      | (with_reducible refine LeO.ite ?_ ?_)
      | (with_reducible refine LeO.bind ?_ (fun _ => ?_))
      | exact ih0 _ _ _
      | exact LeO.none _
      | refine LeO.ite ?_ ?_
      | refine LeO.bind ?_ (fun _ => ?_)
theorem chronobateref01_Sub.mono : ∀ a0 a1 k, LeO (chronobateref01_Sub.f k a0 a1) (chronobateref01_Sub.f (k + 1) a0 a1) := by
  intro a0 a1 k
  have ih0 := chronobateref01_Sub.mono_l k
  unfold chronobateref01_Sub.f
  repeat' first
      | (with_reducible exact ih0 _ _ _)
      | (with_reducible exact LeO.refl _)
      | (with_reducible exact LeO.none _)
      | (with_reducible refine LeO.ite ?_ ?_)
      | (with_reducible refine LeO.bind ?_ (fun _ => ?_))
      | exact ih0 _ _ _
      | exact LeO.none _
      | refine LeO.ite ?_ ?_
      | refine LeO.bind ?_ (fun _ => ?_)
set_option maxHeartbeats 8000000 in
set_option maxRecDepth 100000 in
theorem chronobateref01_Sub.calls (k : Nat) (a0 : Int) (a1 : Int) (r : Int) (w : World) (h : chronobateref01_Sub.f k a0 a1 = some r) :
    Calls Try.prog 20 #[.int .i64 a0, .int .i64 a1] w fun e w' => e = .returned (.int .i64 r) ∧ Drawn0 w w' := by
  have H : (if a1 < 0 then (chronobateref01_Sub.j0 k a0 a1 (decide (a0 > (wrap64 (9223372036854775807 + a1))))) else (chronobateref01_Sub.j0 k a0 a1 false)) = some r := h
  clear h
  have HC3 := Aside0.mk H
  clear H
  go_enter Try.func20, Try.ntmps20
  go_upto_region 1 with (fail)
  go_cut [12] (fun v12 wc => ∃ (kq : Nat) (x12_2 : Bool), v12 = .bool x12_2 ∧ Aside0 (chronobateref01_Sub.j0 kq a0 a1 x12_2 = some r) ∧ Aside0 (kq ≤ k) ∧ Drawn0 w wc)
  case first =>
    have H := HC3.out
    clear HC3
    by_cases c4 : a1 < 0
    · rw [if_pos c4] at H
      have c4b0 : decide (a1 < 0) = true := decide_eq_true c4
      clear c4
      (first | rw [c4b0] | (simp only [i64_w, i32_w]; rw [c4b0]) | skip)
      have H' := Aside0.mk H
      clear H
      go_wp2
      go_meet
      case rel => exact ⟨_, (decide (a0 > (wrap64 (9223372036854775807 + a1)))), (by first | rfl | (simp; done) | (simp [*]; done)), H', ⟨by first | omega | exact Nat.le_refl _⟩, by repeat (first | exact Drawn0.refl _ | apply Drawn0.step)⟩
    · rw [if_neg c4] at H
      have c4b0 : decide (a1 < 0) = false := decide_eq_false c4
      clear c4
      (first | rw [c4b0] | (simp only [i64_w, i32_w]; rw [c4b0]) | skip)
      have H' := Aside0.mk H
      clear H
      go_wp2
      go_meet
      case rel => exact ⟨_, (false), (by first | rfl | (simp; done) | (simp [*]; done)), H', ⟨by first | omega | exact Nat.le_refl _⟩, by repeat (first | exact Drawn0.refl _ | apply Drawn0.step)⟩
  case rest =>
    clear HC3
    try clear c2
    try clear p2
    try clear c4
    try clear c4b0
    obtain ⟨kq, x12_2, rfl, HA, HJ2, ⟨mc2, rfl⟩⟩ := hcut
    cases kq with
    | zero => exact absurd HA.out (by simp [chronobateref01_Sub.j0])
    | succ kj2 =>
      have H := HA.out
      clear HA
      simp only [chronobateref01_Sub.j0] at H
      by_cases c5 : x12_2 = true
      · subst c5
        have H1 : (some 9223372036854775807) = some r := by rw [if_pos rfl] at H; exact H
        clear H
        have H := H1
        clear H1
        obtain rfl := Option.some.inj H
        go_wp2
        go_ret
        exact ⟨by first | rfl | (simp; done) | (simp [*]; done), by repeat (first | exact Drawn0.refl _ | apply Drawn0.step)⟩
      · replace c5 := Bool.eq_false_iff.mpr c5
        subst c5
        have H1 : (if a1 > 0 then (if a0 < (wrap64 ((-9223372036854775808) + a1)) then (some (-9223372036854775808)) else (some (wrap64 (a0 - a1)))) else (some (wrap64 (a0 - a1)))) = some r := by rw [if_neg (show ¬ (false = true) by decide)] at H; exact H
        clear H
        have H := H1
        clear H1
        by_cases c6 : a1 > 0
        · rw [if_pos c6] at H
          have c6b0 : decide (0 < a1) = true := decide_eq_true c6
          clear c6
          by_cases c7 : a0 < (wrap64 ((-9223372036854775808) + a1))
          · rw [if_pos c7] at H
            have c7b0 : decide (a0 < (wrap64 ((-9223372036854775808) + a1))) = true := decide_eq_true c7
            clear c7
            obtain rfl := Option.some.inj H
            go_wp2
            go_ret
            exact ⟨by first | rfl | (simp; done) | (simp [*]; done), by repeat (first | exact Drawn0.refl _ | apply Drawn0.step)⟩
          · rw [if_neg c7] at H
            have c7b0 : decide (a0 < (wrap64 ((-9223372036854775808) + a1))) = false := decide_eq_false c7
            clear c7
            obtain rfl := Option.some.inj H
            go_wp2
            go_ret
            exact ⟨by first | rfl | (simp; done) | (simp [*]; done), by repeat (first | exact Drawn0.refl _ | apply Drawn0.step)⟩
        · rw [if_neg c6] at H
          have c6b0 : decide (0 < a1) = false := decide_eq_false c6
          clear c6
          obtain rfl := Option.some.inj H
          go_wp2
          go_ret
          exact ⟨by first | rfl | (simp; done) | (simp [*]; done), by repeat (first | exact Drawn0.refl _ | apply Drawn0.step)⟩

/-! ### chronobateref01_Neg: function 22 -/
def chronobateref01_Neg.f (k : Nat) (a0 : Int) : Option (Int) := (chronobateref01_Sub.f k 0 a0).bind fun t155 => (some t155)
theorem chronobateref01_Neg.mono : ∀ a0 k, LeO (chronobateref01_Neg.f k a0) (chronobateref01_Neg.f (k + 1) a0) := by
  intro a0 k
  unfold chronobateref01_Neg.f
  repeat' first
      | (with_reducible exact chronobateref01_Sub.mono _ _ _)
      | (with_reducible exact LeO.refl _)
      | (with_reducible exact LeO.none _)
      | (with_reducible refine LeO.ite ?_ ?_)
      | (with_reducible refine LeO.bind ?_ (fun _ => ?_))
      | exact chronobateref01_Sub.mono _ _ _
      | exact LeO.none _
      | refine LeO.ite ?_ ?_
      | refine LeO.bind ?_ (fun _ => ?_)
set_option maxHeartbeats 8000000 in
set_option maxRecDepth 100000 in
theorem chronobateref01_Neg.calls (k : Nat) (a0 : Int) (r : Int) (w : World) (h : chronobateref01_Neg.f k a0 = some r) :
    Calls Try.prog 22 #[.int .i64 a0] w fun e w' => e = .returned (.int .i64 r) ∧ Drawn0 w w' := by
  have H : ((chronobateref01_Sub.f k 0 a0).bind fun t155 => (some t155)) = some r := h
  clear h
  replace H := Option.bind_eq_some_iff.mp H
  obtain ⟨t155, A20, H⟩ := H
  replace H : (some t155) = some r := H
  have A2 := Aside0.mk A20
  clear A20
  obtain rfl := Option.some.inj H
  go_enter Try.func22, Try.ntmps22
  go_wp2_with (first | ((with_reducible refine gate_callee (f := 20) rfl ?_); refine goesL_ (some 4) rfl rfl Try.func20 (by kernel_rfl) rfl #[.int .i64 0, .int .i64 a0] rfl (by (try simp only [List.map_toArray, List.map_cons, List.map_nil]); first | done | rfl | (simp only [List.length_drop, List.length_take]; rfl)) ?_; (with_reducible refine (chronobateref01_Sub.calls k 0 a0 t155 _ A2.out).mono ?_); rintro e w' ⟨rfl, ⟨nd, rfl⟩⟩; refine ⟨_, rfl, ?_⟩))
  go_ret
  exact ⟨by first | rfl | (simp; done) | (simp [*]; done), by repeat (first | exact Drawn0.refl _ | apply Drawn0.step)⟩

/-! ### sat_Abs: function 23 -/
def sat_Abs.f (a0 : Int) : Option (Int) := (sat_Neg.f a0).bind fun t156 => (some (mx a0 t156))
set_option maxHeartbeats 8000000 in
set_option maxRecDepth 100000 in
theorem sat_Abs.calls (a0 : Int) (r : Int) (w : World) (h : sat_Abs.f a0 = some r) :
    Calls Try.prog 23 #[.int .i64 a0] w fun e w' => e = .returned (.int .i64 r) ∧ Below w.heap.size w w' := by
  have HB := Aside0.mk (Below.refl w.heap.size w)
  have H : ((sat_Neg.f a0).bind fun t156 => (some (mx a0 t156))) = some r := h
  clear h
  replace H := Option.bind_eq_some_iff.mp H
  obtain ⟨t156, A20, H⟩ := H
  replace H : (some (mx a0 t156)) = some r := H
  have A2 := Aside0.mk A20
  clear A20
  obtain ⟨ji3, hji3⟩ : ∃ j_ : Int, (mx a0 t156) = j_ := ⟨_, rfl⟩
  replace H : (some ji3) = some r := by first | (rw [hji3] at H; exact H) | (simp only [hji3] at H ⊢; exact H)
  (try rw [hji3] at A2)
  have hji3_ : (if a0 < t156 then t156 else a0) = ji3 := hji3
  obtain rfl := Option.some.inj H
  go_enter Try.func23, Try.ntmps23
  go_wp2_with (first | ((with_reducible refine gate_callee (f := 21) rfl ?_); refine goesL_ (some 5) rfl rfl Try.func21 (by kernel_rfl) rfl #[.int .i64 a0] rfl (by (try simp only [List.map_toArray, List.map_cons, List.map_nil]); first | done | rfl | (simp only [List.length_drop, List.length_take]; rfl)) ?_; (with_reducible refine (sat_Neg.calls a0 t156 _ A2.out).mono ?_); rintro e w' ⟨rfl, ⟨nd, rfl⟩⟩; refine ⟨_, rfl, ?_⟩))
  go_ret
  exact ⟨by first | rfl | (simp [errW_none, errW_some] <;> rfl) | (simp only [← hji3]; first | rfl | (simp [errW_none, errW_some] <;> rfl)) | (simp [*, errW_none, errW_some] <;> rfl), by repeat (first | (with_reducible first | exact HB.out | apply below_alloc | apply pw_below_drewN | apply below_drew1) | exact HB.out)⟩

/-! ### chronobateref01_Abs: function 24 -/
def chronobateref01_Abs.f (k : Nat) (a0 : Int) : Option (Int) := if a0 < 0 then ((chronobateref01_Neg.f k a0).bind fun t157 => (some t157)) else (some a0)
theorem chronobateref01_Abs.mono : ∀ a0 k, LeO (chronobateref01_Abs.f k a0) (chronobateref01_Abs.f (k + 1) a0) := by
  intro a0 k
  unfold chronobateref01_Abs.f
  repeat' first
      | (with_reducible exact chronobateref01_Neg.mono _ _)
      | (with_reducible exact LeO.refl _)
      | (with_reducible exact LeO.none _)
      | (with_reducible refine LeO.ite ?_ ?_)
      | (with_reducible refine LeO.bind ?_ (fun _ => ?_))
      | exact chronobateref01_Neg.mono _ _
      | exact LeO.none _
      | refine LeO.ite ?_ ?_
      | refine LeO.bind ?_ (fun _ => ?_)
set_option maxHeartbeats 8000000 in
set_option maxRecDepth 100000 in
theorem chronobateref01_Abs.calls (k : Nat) (a0 : Int) (r : Int) (w : World) (h : chronobateref01_Abs.f k a0 = some r) :
    Calls Try.prog 24 #[.int .i64 a0] w fun e w' => e = .returned (.int .i64 r) ∧ Drawn0 w w' := by
  have H : (if a0 < 0 then ((chronobateref01_Neg.f k a0).bind fun t157 => (some t157)) else (some a0)) = some r := h
  clear h
  by_cases c2 : a0 < 0
  · rw [if_pos c2] at H
    have c2b0 : decide (a0 < 0) = true := decide_eq_true c2
    clear c2
    replace H := Option.bind_eq_some_iff.mp H
    obtain ⟨t157, A30, H⟩ := H
    replace H : (some t157) = some r := H
    have A3 := Aside0.mk A30
    clear A30
    obtain rfl := Option.some.inj H
    go_enter Try.func24, Try.ntmps24
    go_wp2_with (first | ((with_reducible refine gate_callee (f := 22) rfl ?_); refine goesL_ (some 6) rfl rfl Try.func22 (by kernel_rfl) rfl #[.int .i64 a0] rfl (by (try simp only [List.map_toArray, List.map_cons, List.map_nil]); first | done | rfl | (simp only [List.length_drop, List.length_take]; rfl)) ?_; (with_reducible refine (chronobateref01_Neg.calls k a0 t157 _ A3.out).mono ?_); rintro e w' ⟨rfl, ⟨nd, rfl⟩⟩; refine ⟨_, rfl, ?_⟩))
    go_ret
    exact ⟨by first | rfl | (simp; done) | (simp [*]; done), by repeat (first | exact Drawn0.refl _ | apply Drawn0.step)⟩
  · rw [if_neg c2] at H
    have c2b0 : decide (a0 < 0) = false := decide_eq_false c2
    clear c2
    obtain rfl := Option.some.inj H
    go_enter Try.func24, Try.ntmps24
    go_wp2
    go_ret
    exact ⟨by first | rfl | (simp; done) | (simp [*]; done), by repeat (first | exact Drawn0.refl _ | apply Drawn0.step)⟩

/-! ### chronobateref01_Half: function 25 -/
def chronobateref01_Half.f (a0 : Int) : Option (Int) := if a0 ≥ 0 then (some (wrap64 (Int.tdiv a0 2))) else (if (Int.tmod a0 2) = 0 then (some (wrap64 (Int.tdiv a0 2))) else (some (wrap64 ((wrap64 (Int.tdiv a0 2)) - 1))))
set_option maxHeartbeats 8000000 in
set_option maxRecDepth 100000 in
theorem chronobateref01_Half.calls (a0 : Int) (r : Int) (w : World) (h : chronobateref01_Half.f a0 = some r) :
    Calls Try.prog 25 #[.int .i64 a0] w fun e w' => e = .returned (.int .i64 r) ∧ Drawn0 w w' := by
  have H : (if a0 ≥ 0 then (some (wrap64 (Int.tdiv a0 2))) else (if (Int.tmod a0 2) = 0 then (some (wrap64 (Int.tdiv a0 2))) else (some (wrap64 ((wrap64 (Int.tdiv a0 2)) - 1))))) = some r := h
  clear h
  by_cases c2 : a0 ≥ 0
  · rw [if_pos c2] at H
    have c2b0 : decide (0 ≤ a0) = true := decide_eq_true c2
    clear c2
    obtain rfl := Option.some.inj H
    go_enter Try.func25, Try.ntmps25
    go_wp2
    go_ret
    exact ⟨by first | rfl | (simp; done) | (simp [*]; done), by repeat (first | exact Drawn0.refl _ | apply Drawn0.step)⟩
  · rw [if_neg c2] at H
    have c2b0 : decide (0 ≤ a0) = false := decide_eq_false c2
    clear c2
    by_cases c3 : (Int.tmod a0 2) = 0
    · rw [if_pos c3] at H
      have c3b0 : ((Int.tmod a0 2) == 0) = true := beq_iff_eq.mpr c3
      have c3b1 : ((Int.tmod a0 2) != 0) = false := bne_eq_false_iff_eq.mpr c3
      clear c3
      obtain rfl := Option.some.inj H
      go_enter Try.func25, Try.ntmps25
      go_wp2
      go_ret
      exact ⟨by first | rfl | (simp; done) | (simp [*]; done), by repeat (first | exact Drawn0.refl _ | apply Drawn0.step)⟩
    · rw [if_neg c3] at H
      have c3b0 : ((Int.tmod a0 2) == 0) = false := beq_eq_false_iff_ne.mpr c3
      have c3b1 : ((Int.tmod a0 2) != 0) = true := bne_iff_ne.mpr c3
      obtain rfl := Option.some.inj H
      go_enter Try.func25, Try.ntmps25
      go_wp2
      go_ret
      exact ⟨by first | rfl | (simp; done) | (simp [*]; done), by repeat (first | exact Drawn0.refl _ | apply Drawn0.step)⟩

/-! ### chronobateref01_Mid: function 26 -/
def chronobateref01_Mid.f (a0 : Int) (a1 : Int) : Option (Int) := (chronobateref01_Half.f a0).bind fun t158 => ((chronobateref01_Half.f a1).bind fun t159 => ((chronobateref01_Half.f (wrap64 ((wrap64 (a0 - (wrap64 (2 * t158)))) + (wrap64 (a1 - (wrap64 (2 * t159))))))).bind fun t160 => (some (wrap64 ((wrap64 (t158 + t159)) + t160)))))
set_option maxHeartbeats 8000000 in
set_option maxRecDepth 100000 in
theorem chronobateref01_Mid.calls (a0 : Int) (a1 : Int) (r : Int) (w : World) (h : chronobateref01_Mid.f a0 a1 = some r) :
    Calls Try.prog 26 #[.int .i64 a0, .int .i64 a1] w fun e w' => e = .returned (.int .i64 r) ∧ Drawn0 w w' := by
  have H : ((chronobateref01_Half.f a0).bind fun t158 => ((chronobateref01_Half.f a1).bind fun t159 => ((chronobateref01_Half.f (wrap64 ((wrap64 (a0 - (wrap64 (2 * t158)))) + (wrap64 (a1 - (wrap64 (2 * t159))))))).bind fun t160 => (some (wrap64 ((wrap64 (t158 + t159)) + t160)))))) = some r := h
  clear h
  replace H := Option.bind_eq_some_iff.mp H
  obtain ⟨t158, A30, H⟩ := H
  replace H : ((chronobateref01_Half.f a1).bind fun t159 => ((chronobateref01_Half.f (wrap64 ((wrap64 (a0 - (wrap64 (2 * t158)))) + (wrap64 (a1 - (wrap64 (2 * t159))))))).bind fun t160 => (some (wrap64 ((wrap64 (t158 + t159)) + t160))))) = some r := H
  have A3 := Aside0.mk A30
  clear A30
  replace H := Option.bind_eq_some_iff.mp H
  obtain ⟨t159, A40, H⟩ := H
  replace H : ((chronobateref01_Half.f (wrap64 ((wrap64 (a0 - (wrap64 (2 * t158)))) + (wrap64 (a1 - (wrap64 (2 * t159))))))).bind fun t160 => (some (wrap64 ((wrap64 (t158 + t159)) + t160)))) = some r := H
  have A4 := Aside0.mk A40
  clear A40
  replace H := Option.bind_eq_some_iff.mp H
  obtain ⟨t160, A50, H⟩ := H
  replace H : (some (wrap64 ((wrap64 (t158 + t159)) + t160))) = some r := H
  have A5 := Aside0.mk A50
  clear A50
  obtain rfl := Option.some.inj H
  go_enter Try.func26, Try.ntmps26
  go_wp2_with (first | ((with_reducible refine gate_callee (f := 25) rfl ?_); refine goesL_ (some 8) rfl rfl Try.func25 (by kernel_rfl) rfl #[.int .i64 a0] rfl (by (try simp only [List.map_toArray, List.map_cons, List.map_nil]); first | done | rfl | (simp only [List.length_drop, List.length_take]; rfl)) ?_; (with_reducible refine (chronobateref01_Half.calls a0 t158 _ A3.out).mono ?_); rintro e w' ⟨rfl, ⟨nd, rfl⟩⟩; refine ⟨_, rfl, ?_⟩) | ((with_reducible refine gate_callee (f := 25) rfl ?_); refine goesL_ (some 10) rfl rfl Try.func25 (by kernel_rfl) rfl #[.int .i64 a1] rfl (by (try simp only [List.map_toArray, List.map_cons, List.map_nil]); first | done | rfl | (simp only [List.length_drop, List.length_take]; rfl)) ?_; (with_reducible refine (chronobateref01_Half.calls a1 t159 _ A4.out).mono ?_); rintro e w' ⟨rfl, ⟨nd, rfl⟩⟩; refine ⟨_, rfl, ?_⟩) | ((with_reducible refine gate_callee (f := 25) rfl ?_); refine goesL_ (some 23) rfl rfl Try.func25 (by kernel_rfl) rfl #[.int .i64 (wrap64 ((wrap64 (a0 - (wrap64 (2 * t158)))) + (wrap64 (a1 - (wrap64 (2 * t159))))))] rfl (by (try simp only [List.map_toArray, List.map_cons, List.map_nil]); first | done | rfl | (simp only [List.length_drop, List.length_take]; rfl)) ?_; (with_reducible refine (chronobateref01_Half.calls (wrap64 ((wrap64 (a0 - (wrap64 (2 * t158)))) + (wrap64 (a1 - (wrap64 (2 * t159)))))) t160 _ A5.out).mono ?_); rintro e w' ⟨rfl, ⟨nd, rfl⟩⟩; refine ⟨_, rfl, ?_⟩))
  go_ret
  exact ⟨by first | rfl | (simp; done) | (simp [*]; done), by repeat (first | exact Drawn0.refl _ | apply Drawn0.step)⟩

end Go.Proofs.Ytdflbfgmbcgljaa.G
