-- Written by a program of this session out of the translation (wip/patch_print.py, wip/print2.sh). Lean checks it.
import Derived.Test.YtingjmdilglgaaaGx0
import Derived.Test.YtingjmdilglgaaaGx1
import Derived.Test.YtingjmdilglgaaaGx2
import Derived.Test.YtingjmdilglgaaaGx3
import Derived.Test.YtingjmdilglgaaaGx7
namespace Go.Proofs.Ytingjmdilglgaaa.G
open Go.RowKit Go.Proofs.YtingjmdilglgaaaW.PrintWords Go.Proofs.YtingjmdilglgaaaW.PrintLast Go.Proofs.YtingjmdilglgaaaW.PrintMore
attribute [local go_sem] max2_int min2_int max_two min_two max_three min_three max_four min_four   -- for this text's walks alone
set_option linter.unusedVariables false
set_option linter.unusedSimpArgs false

attribute [local go_sem high] eqA26
/-! ### chronobatelaw03_PacketBack: function 8 -/
mutual
def chronobatelaw03_PacketBack.j0 : Nat → List Int → List Int → Bool → Int → Int → Int → Int → Int → Int → Int → Int → Int → Int → Int → Int → Int → Option (Bool)
  | 0, _, _, _, _, _, _, _, _, _, _, _, _, _, _, _, _ => none
  | k + 1, x1, x2, x24, x311000, x311001, x311002, x311003, x311004, x311005, x311006, x311007, x311008, x311009, x311010, x311011, x311012 => if x24 = true then ((chronobatelaw03_alive.f k).bind fun t311 => (some t311)) else ((packet_Put.f k x311000 x311001 x311002 x311003 x311004 x311005 x311006 x311007 x311008 x311009 x311010 x311011 x311012).bind fun bt312 => (if bt312.2 = 0 then ((some (([] : List Int) : List Int)).bind fun y316 => (if y316.length + bt312.1.length < 140737488355328 then ((some (y316 ++ bt312.1 : List Int)).bind fun y319 => (if y319.length + x2.length < 140737488355328 then ((packet_Get.f k (y319 ++ x2)).bind fun bt325 => (if bt325.2.2.2.2.2.2.2.2.2.2.2.2.2 = 0 then (if (!(bt325.1 == x311000) || (!(bt325.2.1 == x311001) || (!(bt325.2.2.1 == x311002) || (!(bt325.2.2.2.1 == x311003) || (!(bt325.2.2.2.2.1 == x311004) || (!(bt325.2.2.2.2.2.1 == x311005) || (!(bt325.2.2.2.2.2.2.1 == x311006) || (!(bt325.2.2.2.2.2.2.2.1 == x311007) || (!(bt325.2.2.2.2.2.2.2.2.1 == x311008) || (!(bt325.2.2.2.2.2.2.2.2.2.1 == x311009) || (!(bt325.2.2.2.2.2.2.2.2.2.2.1 == x311010) || (!(bt325.2.2.2.2.2.2.2.2.2.2.2.1 == x311011) || (!(bt325.2.2.2.2.2.2.2.2.2.2.2.2.1 == x311012)))))))))))))) = true then (chronobatelaw03_PacketBack.j1 k x1 bt312.1 true) else (chronobatelaw03_PacketBack.j1 k x1 bt312.1 ((bt312.1.length : Int) != 48))) else (chronobatelaw03_PacketBack.j1 k x1 bt312.1 true))) else (none))) else (none))) else (chronobatelaw03_PacketBack.j2 k x1)))
def chronobatelaw03_PacketBack.j2 : Nat → List Int → Option (Bool)
  | 0, _ => none
  | k + 1, x1 => (packet_Get.f k x1).bind fun bt359 => (if bt359.2.2.2.2.2.2.2.2.2.2.2.2.2 = 0 then ((packet_Put.f k bt359.1 bt359.2.1 bt359.2.2.1 bt359.2.2.2.1 bt359.2.2.2.2.1 bt359.2.2.2.2.2.1 bt359.2.2.2.2.2.2.1 bt359.2.2.2.2.2.2.2.1 bt359.2.2.2.2.2.2.2.2.1 bt359.2.2.2.2.2.2.2.2.2.1 bt359.2.2.2.2.2.2.2.2.2.2.1 bt359.2.2.2.2.2.2.2.2.2.2.2.1 bt359.2.2.2.2.2.2.2.2.2.2.2.2.1).bind fun bt374 => ((chronobatelaw03_alive.f k).bind fun t378 => (if t378 = true then (if bt374.2 = 0 then (if (x1.length : Int) ≥ 48 then (if 48 ≤ (x1.length : Int) then (some ((strOfNums bt374.1).toList == (strOfNums (x1.take 48)).toList)) else (none)) else (some false)) else (some false)) else (some false)))) else ((chronobatelaw03_alive.f k).bind fun t380 => (if t380 = true then (if bt359.2.2.2.2.2.2.2.2.2.2.2.2.2 = 5 then (some (decide ((x1.length : Int) < 48))) else (some false)) else (some false))))
def chronobatelaw03_PacketBack.j1 : Nat → List Int → List Int → Bool → Option (Bool)
  | 0, _, _, _ => none
  | k + 1, x1, x7, x53 => if x53 = true then (some false) else (if 47 ≤ (x7.length : Int) then ((packet_Get.f k (x7.take 47)).bind fun bt344 => (if bt344.2.2.2.2.2.2.2.2.2.2.2.2.2 = 5 then (chronobatelaw03_PacketBack.j2 k x1) else (some false))) else (none))
end
def chronobatelaw03_PacketBack.f (k : Nat) (a0_0 : Int) (a0_1 : Int) (a0_2 : Int) (a0_3 : Int) (a0_4 : Int) (a0_5 : Int) (a0_6 : Int) (a0_7 : Int) (a0_8 : Int) (a0_9 : Int) (a0_10 : Int) (a0_11 : Int) (a0_12 : Int) (l1 : List Int) (l2 : List Int) : Option (Bool) := if (l1.length : Int) > 2000 then (chronobatelaw03_PacketBack.j0 k l1 l2 true a0_0 a0_1 a0_2 a0_3 a0_4 a0_5 a0_6 a0_7 a0_8 a0_9 a0_10 a0_11 a0_12) else (chronobatelaw03_PacketBack.j0 k l1 l2 (decide ((l2.length : Int) > 2000)) a0_0 a0_1 a0_2 a0_3 a0_4 a0_5 a0_6 a0_7 a0_8 a0_9 a0_10 a0_11 a0_12)
theorem chronobatelaw03_PacketBack.mono_l : ∀ k, (∀ y0 y1 y2 y3 y4 y5 y6 y7 y8 y9 y10 y11 y12 y13 y14 y15, LeO (chronobatelaw03_PacketBack.j0 k y0 y1 y2 y3 y4 y5 y6 y7 y8 y9 y10 y11 y12 y13 y14 y15) (chronobatelaw03_PacketBack.j0 (k + 1) y0 y1 y2 y3 y4 y5 y6 y7 y8 y9 y10 y11 y12 y13 y14 y15)) ∧ (∀ y0, LeO (chronobatelaw03_PacketBack.j2 k y0) (chronobatelaw03_PacketBack.j2 (k + 1) y0)) ∧ (∀ y0 y1 y2, LeO (chronobatelaw03_PacketBack.j1 k y0 y1 y2) (chronobatelaw03_PacketBack.j1 (k + 1) y0 y1 y2))
  | 0 => ⟨fun _ _ _ _ _ _ _ _ _ _ _ _ _ _ _ _ r h => by simp [chronobatelaw03_PacketBack.j0] at h, fun _ r h => by simp [chronobatelaw03_PacketBack.j2] at h, fun _ _ _ r h => by simp [chronobatelaw03_PacketBack.j1] at h⟩
  | k + 1 => by
    obtain ⟨ih0, ih1, ih2⟩ := chronobatelaw03_PacketBack.mono_l k
    refine ⟨?_, ?_, ?_⟩
    · intro y0 y1 y2 y3 y4 y5 y6 y7 y8 y9 y10 y11 y12 y13 y14 y15
      unfold chronobatelaw03_PacketBack.j0
      repeat' first
      | (with_reducible exact ih0 _ _ _ _ _ _ _ _ _ _ _ _ _ _ _ _)
      | (with_reducible exact ih1 _)
      | (with_reducible exact ih2 _ _ _)
      | (with_reducible exact chronobatelaw03_alive.mono _)
      | (with_reducible exact packet_Get.mono _ _)
      | (with_reducible exact packet_Put.mono _ _ _ _ _ _ _ _ _ _ _ _ _ _)
      | (with_reducible exact LeO.refl _)
      | (with_reducible exact LeO.none _)
      | (with_reducible refine LeO.ite ?_ ?_)
      | (with_reducible refine LeO.bind ?_ (fun _ => ?_))
      | exact ih0 _ _ _ _ _ _ _ _ _ _ _ _ _ _ _ _
      | exact ih1 _
      | exact ih2 _ _ _
      | exact chronobatelaw03_alive.mono _
      | exact packet_Get.mono _ _
      | exact packet_Put.mono _ _ _ _ _ _ _ _ _ _ _ _ _ _
      | exact LeO.none _
      | refine LeO.ite ?_ ?_
      | refine LeO.bind ?_ (fun _ => ?_)
    · intro y0
      unfold chronobatelaw03_PacketBack.j2
      repeat' first
      | (with_reducible exact ih0 _ _ _ _ _ _ _ _ _ _ _ _ _ _ _ _)
      | (with_reducible exact ih1 _)
      | (with_reducible exact ih2 _ _ _)
      | (with_reducible exact chronobatelaw03_alive.mono _)
      | (with_reducible exact packet_Get.mono _ _)
      | (with_reducible exact packet_Put.mono _ _ _ _ _ _ _ _ _ _ _ _ _ _)
      | (with_reducible exact LeO.refl _)
      | (with_reducible exact LeO.none _)
      | (with_reducible refine LeO.ite ?_ ?_)
      | (with_reducible refine LeO.bind ?_ (fun _ => ?_))
      | exact ih0 _ _ _ _ _ _ _ _ _ _ _ _ _ _ _ _
      | exact ih1 _
      | exact ih2 _ _ _
      | exact chronobatelaw03_alive.mono _
      | exact packet_Get.mono _ _
      | exact packet_Put.mono _ _ _ _ _ _ _ _ _ _ _ _ _ _
      | exact LeO.none _
      | refine LeO.ite ?_ ?_
      | refine LeO.bind ?_ (fun _ => ?_)
    · intro y0 y1 y2
      unfold chronobatelaw03_PacketBack.j1
      repeat' first
      | (with_reducible exact ih0 _ _ _ _ _ _ _ _ _ _ _ _ _ _ _ _)
      | (with_reducible exact ih1 _)
      | (with_reducible exact ih2 _ _ _)
      | (with_reducible exact chronobatelaw03_alive.mono _)
      | (with_reducible exact packet_Get.mono _ _)
      | (with_reducible exact packet_Put.mono _ _ _ _ _ _ _ _ _ _ _ _ _ _)
      | (with_reducible exact LeO.refl _)
      | (with_reducible exact LeO.none _)
      | (with_reducible refine LeO.ite ?_ ?_)
      | (with_reducible refine LeO.bind ?_ (fun _ => ?_))
      | exact ih0 _ _ _ _ _ _ _ _ _ _ _ _ _ _ _ _
      | exact ih1 _
      | exact ih2 _ _ _
      | exact chronobatelaw03_alive.mono _
      | exact packet_Get.mono _ _
      | exact packet_Put.mono _ _ _ _ _ _ _ _ _ _ _ _ _ _
      | exact LeO.none _
      | refine LeO.ite ?_ ?_
      | refine LeO.bind ?_ (fun _ => ?_)
theorem chronobatelaw03_PacketBack.mono : ∀ a0 a1 a2 a3 a4 a5 a6 a7 a8 a9 a10 a11 a12 a13 a14 k, LeO (chronobatelaw03_PacketBack.f k a0 a1 a2 a3 a4 a5 a6 a7 a8 a9 a10 a11 a12 a13 a14) (chronobatelaw03_PacketBack.f (k + 1) a0 a1 a2 a3 a4 a5 a6 a7 a8 a9 a10 a11 a12 a13 a14) := by
  intro a0 a1 a2 a3 a4 a5 a6 a7 a8 a9 a10 a11 a12 a13 a14 k
  obtain ⟨ih0, ih1, ih2⟩ := chronobatelaw03_PacketBack.mono_l k
  unfold chronobatelaw03_PacketBack.f
  repeat' first
      | (with_reducible exact ih0 _ _ _ _ _ _ _ _ _ _ _ _ _ _ _ _)
      | (with_reducible exact ih1 _)
      | (with_reducible exact ih2 _ _ _)
      | (with_reducible exact chronobatelaw03_alive.mono _)
      | (with_reducible exact packet_Get.mono _ _)
      | (with_reducible exact packet_Put.mono _ _ _ _ _ _ _ _ _ _ _ _ _ _)
      | (with_reducible exact LeO.refl _)
      | (with_reducible exact LeO.none _)
      | (with_reducible refine LeO.ite ?_ ?_)
      | (with_reducible refine LeO.bind ?_ (fun _ => ?_))
      | exact ih0 _ _ _ _ _ _ _ _ _ _ _ _ _ _ _ _
      | exact ih1 _
      | exact ih2 _ _ _
      | exact chronobatelaw03_alive.mono _
      | exact packet_Get.mono _ _
      | exact packet_Put.mono _ _ _ _ _ _ _ _ _ _ _ _ _ _
      | exact LeO.none _
      | refine LeO.ite ?_ ?_
      | refine LeO.bind ?_ (fun _ => ?_)
def chronobatelaw03_PacketBack.T15 : Bool × List (List Nat × List Nat) := (true, [([], []), ([0, 0], [0]), ([1], [1]), ([2, 1], [1, 2]), ([1, 3], [1, 3]), ([4, 1], [4]), ([5], [5]), ([6, 5], [5, 6]), ([7, 5], [5, 7]), ([5, 8], [5, 8]), ([9, 5], [9]), ([10], [10]), ([11, 10], [10, 11]), ([10], [10]), ([13, 10], [10, 13]), ([14, 10], [10, 14]), ([12, 15, 10], [10, 12, 15]), ([10, 16], [10, 16]), ([17, 10, 0, 1, 2, 3, 4, 5, 6, 7, 8, 9, 10, 11, 12, 13, 14, 15, 16, 17], [17])])
def chronobatelaw03_PacketBack.B15 : List Nat := [0, 1, 3, 7, 15, 31, 63, 127, 255, 511, 1023, 2047, 4095, 2047, 10239, 26623, 65535, 131071, 262143]
theorem chronobatelaw03_PacketBack.tab15 : rtab .any (opsOf Try.f8 15) = chronobatelaw03_PacketBack.T15 := by kernel_rfl
theorem chronobatelaw03_PacketBack.bits15 : waitsOk chronobatelaw03_PacketBack.T15.2 chronobatelaw03_PacketBack.B15 = true := by kernel_rfl
set_option maxHeartbeats 8000000 in
set_option maxRecDepth 100000 in
theorem chronobatelaw03_PacketBack.calls (k : Nat) (a0_0 : Int) (a0_1 : Int) (a0_2 : Int) (a0_3 : Int) (a0_4 : Int) (a0_5 : Int) (a0_6 : Int) (a0_7 : Int) (a0_8 : Int) (a0_9 : Int) (a0_10 : Int) (a0_11 : Int) (a0_12 : Int) (A1 : Option Addr) (c1 : Nat) (l1 : List Int) (A2 : Option Addr) (c2 : Nat) (l2 : List Int) (r : Bool) (w : World) (hr1 : Kd.C (Kd.int .u8) w A1 l1.length l1) (hc1 : l1.length ≤ c1) (hr2 : Kd.C (Kd.int .u8) w A2 l2.length l2) (hc2 : l2.length ≤ c2) (h : chronobatelaw03_PacketBack.f k a0_0 a0_1 a0_2 a0_3 a0_4 a0_5 a0_6 a0_7 a0_8 a0_9 a0_10 a0_11 a0_12 l1 l2 = some r) :
    Calls Try.prog 8 #[.agg #[.int .u8 a0_0, .int .u8 a0_1, .int .u8 a0_2, .int .u8 a0_3, .int .i8 a0_4, .int .i8 a0_5, .int .u32 a0_6, .int .u32 a0_7, .int .u32 a0_8, .int .u64 a0_9, .int .u64 a0_10, .int .u64 a0_11, .int .u64 a0_12], .slice A1 l1.length c1, .slice A2 l2.length c2] w fun e w' => e = .returned (.bool r) ∧ Below w.heap.size w w' := by
  have hu26 := Try.underlying26
  have HR1 := Aside0.mk hr1
  have HC1 := Aside0.mk hc1
  clear hr1 hc1
  have HR2 := Aside0.mk hr2
  have HC2 := Aside0.mk hc2
  clear hr2 hc2
  have HB := Aside0.mk (Below.refl w.heap.size w)
  have H : (if (l1.length : Int) > 2000 then (chronobatelaw03_PacketBack.j0 k l1 l2 true a0_0 a0_1 a0_2 a0_3 a0_4 a0_5 a0_6 a0_7 a0_8 a0_9 a0_10 a0_11 a0_12) else (chronobatelaw03_PacketBack.j0 k l1 l2 (decide ((l2.length : Int) > 2000)) a0_0 a0_1 a0_2 a0_3 a0_4 a0_5 a0_6 a0_7 a0_8 a0_9 a0_10 a0_11 a0_12)) = some r := h
  clear h
  have HC4 := Aside0.mk H
  clear H
  go_enter Try.func8, Try.ntmps8
  go_upto_region 1 with (first | ((with_reducible refine gate_dst (N := 3) rfl ?_); (try (refine gate_guard (by rfl) ?_; dsimp only)); refine box_event ?hg (N := 3) ?hd (cs := #[.int .u8 a0_0, .int .u8 a0_1, .int .u8 a0_2, .int .u8 a0_3, .int .i8 a0_4, .int .i8 a0_5, .int .u32 a0_6, .int .u32 a0_7, .int .u32 a0_8, .int .u64 a0_9, .int .u64 a0_10, .int .u64 a0_11, .int .u64 a0_12]) (t := 26) ?hr ?_; (case hd => rfl); (case hg => rfl); (case hr => first | (go_simp; done) | (go_simp; rfl)); intro gb310 hg w5 hbox hb; have n0_ := Aside0.mk (below_step (by repeat (first | (with_reducible first | exact HB.out | apply below_alloc | apply pw_below_drewN | apply below_drew1) | exact HB.out)) hb); have n1_ := Aside0.mk (hbox); have n2_ := Aside0.mk ((by rw [hg]; exact (below_size (by repeat (first | (with_reducible first | exact HB.out | apply below_alloc | apply pw_below_drewN | apply below_drew1) | exact HB.out))) : w.heap.size ≤ gb310)); have n3_ := Aside0.mk ((by rw [hg]; exact (below_size (by repeat (first | (with_reducible first | exact HB.out | apply below_alloc | apply pw_below_drewN | apply below_drew1) | exact HB.out))) : w.heap.size ≤ gb310)); clear HB; have HB := n0_; have BK310 := n1_; have GW310 := n2_; have GE310 := n3_; clear n0_ n1_ n2_ n3_; clear hb hbox hg))
  (try simp only [Act.put, List.setIfInBounds_toArray, List.set_cons_zero, List.set_cons_succ])
  go_cut [24] (fun v24 wc => ∃ (kq : Nat) (x24_3 : Bool), v24 = .bool x24_3 ∧ Aside0 (chronobatelaw03_PacketBack.j0 kq l1 l2 x24_3 a0_0 a0_1 a0_2 a0_3 a0_4 a0_5 a0_6 a0_7 a0_8 a0_9 a0_10 a0_11 a0_12 = some r) ∧ Aside0 (kq ≤ k) ∧ Aside0 (wc.heap[gb310]? = some (.cells #[.int .u8 a0_0, .int .u8 a0_1, .int .u8 a0_2, .int .u8 a0_3, .int .i8 a0_4, .int .i8 a0_5, .int .u32 a0_6, .int .u32 a0_7, .int .u32 a0_8, .int .u64 a0_9, .int .u64 a0_10, .int .u64 a0_11, .int .u64 a0_12] 26 (0, 0))) ∧ Aside0 (Below w.heap.size w wc))
  case first =>
    have H := HC4.out
    clear HC4
    by_cases c6 : (l1.length : Int) > 2000
    · rw [if_pos c6] at H
      have c6b0 : decide (2000 < (l1.length : Int)) = true := decide_eq_true c6
      have c6b1 : decide (2000 < l1.length) = true := decide_eq_true (by omega)
      clear c6
      (first | rw [c6b0] | (simp only [i64_w, i32_w]; rw [c6b0]) | skip)
      have H' := Aside0.mk H
      clear H
      go_wp2
      go_meet
      case rel => exact ⟨_, (true), (by first | rfl | (simp; done) | (simp [*]; done)), H', ⟨by first | omega | exact Nat.le_refl _⟩, ⟨by (with_reducible repeat (first | refine blk_drewN ?_ _ | refine blk_drew ?_ | refine blk_alloc ?_ _)); exact BK310.out⟩, ⟨by repeat (first | (with_reducible first | exact HB.out | apply below_alloc | apply pw_below_drewN | apply below_drew1 | refine below_set ?_ GE310.out) | exact HB.out)⟩⟩
    · rw [if_neg c6] at H
      have c6b0 : decide (2000 < (l1.length : Int)) = false := decide_eq_false c6
      have c6b1 : decide (2000 < l1.length) = false := decide_eq_false (by omega)
      clear c6
      (first | rw [c6b0] | (simp only [i64_w, i32_w]; rw [c6b0]) | skip)
      have H' := Aside0.mk H
      clear H
      go_wp2
      go_meet
      case rel => exact ⟨_, (decide ((l2.length : Int) > 2000)), (by first | rfl | (simp; done) | (simp [*]; done)), H', ⟨by first | omega | exact Nat.le_refl _⟩, ⟨by (with_reducible repeat (first | refine blk_drewN ?_ _ | refine blk_drew ?_ | refine blk_alloc ?_ _)); exact BK310.out⟩, ⟨by repeat (first | (with_reducible first | exact HB.out | apply below_alloc | apply pw_below_drewN | apply below_drew1 | refine below_set ?_ GE310.out) | exact HB.out)⟩⟩
  case rest =>
    clear HC4
    try clear c1
    try clear c2
    try clear p2
    try clear c6
    try clear c6b0
    try clear c6b1
    obtain ⟨kq, x24_3, rfl, HA, HJ3, BK310, HB⟩ := hcut
    cases kq with
    | zero => exact absurd HA.out (by simp [chronobatelaw03_PacketBack.j0])
    | succ kj3 =>
      have H := HA.out
      clear HA
      simp only [chronobatelaw03_PacketBack.j0] at H
      by_cases c7 : x24_3 = true
      · subst c7
        have H1 : ((chronobatelaw03_alive.f kj3).bind fun t311 => (some t311)) = some r := by rw [if_pos rfl] at H; exact H
        clear H
        have H := H1
        clear H1
        replace H := Option.bind_eq_some_iff.mp H
        obtain ⟨t311, A80, H⟩ := H
        replace H : (some t311) = some r := H
        have A8 := Aside0.mk A80
        clear A80
        obtain rfl := Option.some.inj H
        go_wp2_with (first | ((with_reducible refine gate_callee (f := 12) rfl ?_); refine goesL_ (some 25) rfl rfl Try.func12 (by kernel_rfl) rfl #[] rfl (by (try simp only [List.map_toArray, List.map_cons, List.map_nil]); first | done | rfl | (simp only [List.length_drop, List.length_take]; rfl)) ?_; (with_reducible refine (chronobatelaw03_alive.calls kj3  t311 _ A8.out).mono ?_); rintro e w9 ⟨rfl, hb⟩; refine ⟨_, rfl, ?_⟩; have n0_ := Aside0.mk (blk_below (g := gb310) (o := .cells #[.int .u8 a0_0, .int .u8 a0_1, .int .u8 a0_2, .int .u8 a0_3, .int .i8 a0_4, .int .i8 a0_5, .int .u32 a0_6, .int .u32 a0_7, .int .u32 a0_8, .int .u64 a0_9, .int .u64 a0_10, .int .u64 a0_11, .int .u64 a0_12] 26 (0, 0)) (by (with_reducible repeat (first | refine blk_drewN ?_ _ | refine blk_drew ?_ | refine blk_alloc ?_ _)); exact BK310.out) hb); have n1_ := Aside0.mk (below_step (by repeat (first | (with_reducible first | exact HB.out | apply below_alloc | apply pw_below_drewN | apply below_drew1 | refine below_set ?_ GE310.out) | exact HB.out)) hb); clear BK310; clear HB; have BK310 := n0_; have HB := n1_; clear n0_ n1_; (try clear hb); (try clear hb2); (try clear hk); (try clear hi)))
        go_ret
        exact ⟨by first | rfl | (simp [errW_none, errW_some] <;> rfl) | (simp [*, errW_none, errW_some] <;> rfl), by repeat (first | (with_reducible first | exact HB.out | apply below_alloc | apply pw_below_drewN | apply below_drew1 | refine below_set ?_ GE310.out) | exact HB.out)⟩
      · replace c7 := Bool.eq_false_iff.mpr c7
        subst c7
        have H1 : ((packet_Put.f kj3 a0_0 a0_1 a0_2 a0_3 a0_4 a0_5 a0_6 a0_7 a0_8 a0_9 a0_10 a0_11 a0_12).bind fun bt312 => (if bt312.2 = 0 then ((some (([] : List Int) : List Int)).bind fun y316 => (if y316.length + bt312.1.length < 140737488355328 then ((some (y316 ++ bt312.1 : List Int)).bind fun y319 => (if y319.length + l2.length < 140737488355328 then ((packet_Get.f kj3 (y319 ++ l2)).bind fun bt325 => (if bt325.2.2.2.2.2.2.2.2.2.2.2.2.2 = 0 then (if (!(bt325.1 == a0_0) || (!(bt325.2.1 == a0_1) || (!(bt325.2.2.1 == a0_2) || (!(bt325.2.2.2.1 == a0_3) || (!(bt325.2.2.2.2.1 == a0_4) || (!(bt325.2.2.2.2.2.1 == a0_5) || (!(bt325.2.2.2.2.2.2.1 == a0_6) || (!(bt325.2.2.2.2.2.2.2.1 == a0_7) || (!(bt325.2.2.2.2.2.2.2.2.1 == a0_8) || (!(bt325.2.2.2.2.2.2.2.2.2.1 == a0_9) || (!(bt325.2.2.2.2.2.2.2.2.2.2.1 == a0_10) || (!(bt325.2.2.2.2.2.2.2.2.2.2.2.1 == a0_11) || (!(bt325.2.2.2.2.2.2.2.2.2.2.2.2.1 == a0_12)))))))))))))) = true then (chronobatelaw03_PacketBack.j1 kj3 l1 bt312.1 true) else (chronobatelaw03_PacketBack.j1 kj3 l1 bt312.1 ((bt312.1.length : Int) != 48))) else (chronobatelaw03_PacketBack.j1 kj3 l1 bt312.1 true))) else (none))) else (none))) else (chronobatelaw03_PacketBack.j2 kj3 l1))) = some r := by rw [if_neg (show ¬ (false = true) by decide)] at H; exact H
        clear H
        have H := H1
        clear H1
        replace H := Option.bind_eq_some_iff.mp H
        obtain ⟨⟨t312, t315⟩, A100, H⟩ := H
        replace H : (if t315 = 0 then ((some (([] : List Int) : List Int)).bind fun y316 => (if y316.length + t312.length < 140737488355328 then ((some (y316 ++ t312 : List Int)).bind fun y319 => (if y319.length + l2.length < 140737488355328 then ((packet_Get.f kj3 (y319 ++ l2)).bind fun bt325 => (if bt325.2.2.2.2.2.2.2.2.2.2.2.2.2 = 0 then (if (!(bt325.1 == a0_0) || (!(bt325.2.1 == a0_1) || (!(bt325.2.2.1 == a0_2) || (!(bt325.2.2.2.1 == a0_3) || (!(bt325.2.2.2.2.1 == a0_4) || (!(bt325.2.2.2.2.2.1 == a0_5) || (!(bt325.2.2.2.2.2.2.1 == a0_6) || (!(bt325.2.2.2.2.2.2.2.1 == a0_7) || (!(bt325.2.2.2.2.2.2.2.2.1 == a0_8) || (!(bt325.2.2.2.2.2.2.2.2.2.1 == a0_9) || (!(bt325.2.2.2.2.2.2.2.2.2.2.1 == a0_10) || (!(bt325.2.2.2.2.2.2.2.2.2.2.2.1 == a0_11) || (!(bt325.2.2.2.2.2.2.2.2.2.2.2.2.1 == a0_12)))))))))))))) = true then (chronobatelaw03_PacketBack.j1 kj3 l1 t312 true) else (chronobatelaw03_PacketBack.j1 kj3 l1 t312 ((t312.length : Int) != 48))) else (chronobatelaw03_PacketBack.j1 kj3 l1 t312 true))) else (none))) else (none))) else (chronobatelaw03_PacketBack.j2 kj3 l1)) = some r := H
        have A10 := Aside0.mk A100
        clear A100
        have HC11 := Aside0.mk H
        clear H
        have hcz12_0 : wc.cell? ⟨gb310, 0, none⟩ = some (.int .u8 a0_0) := (blk_cell BK310.out 0).trans rfl
        have hcz12_1 : wc.cell? ⟨gb310, 1, none⟩ = some (.int .u8 a0_1) := (blk_cell BK310.out 1).trans rfl
        have hcz12_2 : wc.cell? ⟨gb310, 2, none⟩ = some (.int .u8 a0_2) := (blk_cell BK310.out 2).trans rfl
        have hcz12_3 : wc.cell? ⟨gb310, 3, none⟩ = some (.int .u8 a0_3) := (blk_cell BK310.out 3).trans rfl
        have hcz12_4 : wc.cell? ⟨gb310, 4, none⟩ = some (.int .i8 a0_4) := (blk_cell BK310.out 4).trans rfl
        have hcz12_5 : wc.cell? ⟨gb310, 5, none⟩ = some (.int .i8 a0_5) := (blk_cell BK310.out 5).trans rfl
        have hcz12_6 : wc.cell? ⟨gb310, 6, none⟩ = some (.int .u32 a0_6) := (blk_cell BK310.out 6).trans rfl
        have hcz12_7 : wc.cell? ⟨gb310, 7, none⟩ = some (.int .u32 a0_7) := (blk_cell BK310.out 7).trans rfl
        have hcz12_8 : wc.cell? ⟨gb310, 8, none⟩ = some (.int .u32 a0_8) := (blk_cell BK310.out 8).trans rfl
        have hcz12_9 : wc.cell? ⟨gb310, 9, none⟩ = some (.int .u64 a0_9) := (blk_cell BK310.out 9).trans rfl
        have hcz12_10 : wc.cell? ⟨gb310, 10, none⟩ = some (.int .u64 a0_10) := (blk_cell BK310.out 10).trans rfl
        have hcz12_11 : wc.cell? ⟨gb310, 11, none⟩ = some (.int .u64 a0_11) := (blk_cell BK310.out 11).trans rfl
        have hcz12_12 : wc.cell? ⟨gb310, 12, none⟩ = some (.int .u64 a0_12) := (blk_cell BK310.out 12).trans rfl
        have hfz12_0 := blk_frozen BK310.out 0
        have hfz12_1 := blk_frozen BK310.out 1
        have hfz12_2 := blk_frozen BK310.out 2
        have hfz12_3 := blk_frozen BK310.out 3
        have hfz12_4 := blk_frozen BK310.out 4
        have hfz12_5 := blk_frozen BK310.out 5
        have hfz12_6 := blk_frozen BK310.out 6
        have hfz12_7 := blk_frozen BK310.out 7
        have hfz12_8 := blk_frozen BK310.out 8
        have hfz12_9 := blk_frozen BK310.out 9
        have hfz12_10 := blk_frozen BK310.out 10
        have hfz12_11 := blk_frozen BK310.out 11
        have hfz12_12 := blk_frozen BK310.out 12
        go_upto_if 32 with (first | ((with_reducible refine gate_callee (f := 9) rfl ?_); refine goesL_ (some 28) rfl rfl Try.func9 (by kernel_rfl) rfl #[.agg #[.int .u8 a0_0, .int .u8 a0_1, .int .u8 a0_2, .int .u8 a0_3, .int .i8 a0_4, .int .i8 a0_5, .int .u32 a0_6, .int .u32 a0_7, .int .u32 a0_8, .int .u64 a0_9, .int .u64 a0_10, .int .u64 a0_11, .int .u64 a0_12]] rfl (by (try simp only [List.map_toArray, List.map_cons, List.map_nil]); first | done | rfl | (simp only [List.length_drop, List.length_take]; rfl)) ?_; (with_reducible refine (packet_Put.calls kj3 a0_0 a0_1 a0_2 a0_3 a0_4 a0_5 a0_6 a0_7 a0_8 a0_9 a0_10 a0_11 a0_12 t312 t315 _ A10.out).mono ?_); rintro e w13 ⟨v313, rfl, ho0, hb⟩; refine ⟨_, rfl, ?_⟩; have n0_ := Aside0.mk (Kd.R_lower ho0 (below_size (by repeat (first | (with_reducible first | exact HB.out | apply below_alloc | apply pw_below_drewN | apply below_drew1 | refine below_set ?_ GE310.out) | exact HB.out)))); have n1_ := Aside0.mk (blk_below (g := gb310) (o := .cells #[.int .u8 a0_0, .int .u8 a0_1, .int .u8 a0_2, .int .u8 a0_3, .int .i8 a0_4, .int .i8 a0_5, .int .u32 a0_6, .int .u32 a0_7, .int .u32 a0_8, .int .u64 a0_9, .int .u64 a0_10, .int .u64 a0_11, .int .u64 a0_12] 26 (0, 0)) (by (with_reducible repeat (first | refine blk_drewN ?_ _ | refine blk_drew ?_ | refine blk_alloc ?_ _)); exact BK310.out) hb); have n2_ := Aside0.mk (below_step (by repeat (first | (with_reducible first | exact HB.out | apply below_alloc | apply pw_below_drewN | apply below_drew1 | refine below_set ?_ GE310.out) | exact HB.out)) hb); clear BK310; clear HB; have HO314 := n0_; have BK310 := n1_; have HB := n2_; clear n0_ n1_ n2_; (try clear hb); (try clear hb2); (try clear hk); (try clear hi); (try clear ho0)))
        (try simp only [Act.put, List.setIfInBounds_toArray, List.set_cons_zero, List.set_cons_succ])
        go_cut [] (fun wc => ∃ (kq : Nat), Aside0 (chronobatelaw03_PacketBack.j2 kq l1 = some r) ∧ Aside0 (kq ≤ kj3) ∧ Aside0 (wc.heap[gb310]? = some (.cells #[.int .u8 a0_0, .int .u8 a0_1, .int .u8 a0_2, .int .u8 a0_3, .int .i8 a0_4, .int .i8 a0_5, .int .u32 a0_6, .int .u32 a0_7, .int .u32 a0_8, .int .u64 a0_9, .int .u64 a0_10, .int .u64 a0_11, .int .u64 a0_12] 26 (0, 0))) ∧ Aside0 (Below w.heap.size w wc))
        case first =>
          have H := HC11.out
          clear HC11
          by_cases c14 : t315 = 0
          · rw [if_pos c14] at H
            have c14b0 : (t315 == 0) = true := beq_iff_eq.mpr c14
            have c14b1 : (t315 != 0) = false := bne_eq_false_iff_eq.mpr c14
            clear c14
            (first | rw [c14b0] | (simp only [i64_w, i32_w]; rw [c14b0]) | skip)
            obtain ⟨y316, hy316⟩ : ∃ y_ : List Int, y_ = (([] : List Int)) := ⟨_, rfl⟩
            replace H : (if y316.length + t312.length < 140737488355328 then ((some (y316 ++ t312 : List Int)).bind fun y319 => (if y319.length + l2.length < 140737488355328 then ((packet_Get.f kj3 (y319 ++ l2)).bind fun bt325 => (if bt325.2.2.2.2.2.2.2.2.2.2.2.2.2 = 0 then (if (!(bt325.1 == a0_0) || (!(bt325.2.1 == a0_1) || (!(bt325.2.2.1 == a0_2) || (!(bt325.2.2.2.1 == a0_3) || (!(bt325.2.2.2.2.1 == a0_4) || (!(bt325.2.2.2.2.2.1 == a0_5) || (!(bt325.2.2.2.2.2.2.1 == a0_6) || (!(bt325.2.2.2.2.2.2.2.1 == a0_7) || (!(bt325.2.2.2.2.2.2.2.2.1 == a0_8) || (!(bt325.2.2.2.2.2.2.2.2.2.1 == a0_9) || (!(bt325.2.2.2.2.2.2.2.2.2.2.1 == a0_10) || (!(bt325.2.2.2.2.2.2.2.2.2.2.2.1 == a0_11) || (!(bt325.2.2.2.2.2.2.2.2.2.2.2.2.1 == a0_12)))))))))))))) = true then (chronobatelaw03_PacketBack.j1 kj3 l1 t312 true) else (chronobatelaw03_PacketBack.j1 kj3 l1 t312 ((t312.length : Int) != 48))) else (chronobatelaw03_PacketBack.j1 kj3 l1 t312 true))) else (none))) else (none)) = some r := by first | (rw [hy316]; with_reducible exact H) | (have H2_ := (Option.bind_some _ _).symm.trans H; rw [hy316]; with_reducible exact H2_) | (have H2_ := (Option.bind_some _ _).symm.trans H; with_reducible exact H2_) | with_reducible exact H | (rw [hy316]; exact H) | exact H
            have Ny316 := Aside0.mk hy316
            clear hy316
            by_cases c15 : y316.length + t312.length < 140737488355328
            · rw [if_pos c15] at H
              have LMc15 := Aside0.mk c15
              clear c15
              obtain ⟨y319, hy319⟩ : ∃ y_ : List Int, y_ = (y316 ++ t312) := ⟨_, rfl⟩
              replace H : (if y319.length + l2.length < 140737488355328 then ((packet_Get.f kj3 (y319 ++ l2)).bind fun bt325 => (if bt325.2.2.2.2.2.2.2.2.2.2.2.2.2 = 0 then (if (!(bt325.1 == a0_0) || (!(bt325.2.1 == a0_1) || (!(bt325.2.2.1 == a0_2) || (!(bt325.2.2.2.1 == a0_3) || (!(bt325.2.2.2.2.1 == a0_4) || (!(bt325.2.2.2.2.2.1 == a0_5) || (!(bt325.2.2.2.2.2.2.1 == a0_6) || (!(bt325.2.2.2.2.2.2.2.1 == a0_7) || (!(bt325.2.2.2.2.2.2.2.2.1 == a0_8) || (!(bt325.2.2.2.2.2.2.2.2.2.1 == a0_9) || (!(bt325.2.2.2.2.2.2.2.2.2.2.1 == a0_10) || (!(bt325.2.2.2.2.2.2.2.2.2.2.2.1 == a0_11) || (!(bt325.2.2.2.2.2.2.2.2.2.2.2.2.1 == a0_12)))))))))))))) = true then (chronobatelaw03_PacketBack.j1 kj3 l1 t312 true) else (chronobatelaw03_PacketBack.j1 kj3 l1 t312 ((t312.length : Int) != 48))) else (chronobatelaw03_PacketBack.j1 kj3 l1 t312 true))) else (none)) = some r := by first | (rw [hy319]; with_reducible exact H) | (have H2_ := (Option.bind_some _ _).symm.trans H; rw [hy319]; with_reducible exact H2_) | (have H2_ := (Option.bind_some _ _).symm.trans H; with_reducible exact H2_) | with_reducible exact H | (rw [hy319]; exact H) | exact H
              have Ny319 := Aside0.mk hy319
              clear hy319
              by_cases c16 : y319.length + l2.length < 140737488355328
              · rw [if_pos c16] at H
                have LMc16 := Aside0.mk c16
                clear c16
                obtain ⟨y322, hy322⟩ : ∃ y_ : List Int, y_ = (y319 ++ l2) := ⟨_, rfl⟩
                replace H : ((packet_Get.f kj3 y322).bind fun bt325 => (if bt325.2.2.2.2.2.2.2.2.2.2.2.2.2 = 0 then (if (!(bt325.1 == a0_0) || (!(bt325.2.1 == a0_1) || (!(bt325.2.2.1 == a0_2) || (!(bt325.2.2.2.1 == a0_3) || (!(bt325.2.2.2.2.1 == a0_4) || (!(bt325.2.2.2.2.2.1 == a0_5) || (!(bt325.2.2.2.2.2.2.1 == a0_6) || (!(bt325.2.2.2.2.2.2.2.1 == a0_7) || (!(bt325.2.2.2.2.2.2.2.2.1 == a0_8) || (!(bt325.2.2.2.2.2.2.2.2.2.1 == a0_9) || (!(bt325.2.2.2.2.2.2.2.2.2.2.1 == a0_10) || (!(bt325.2.2.2.2.2.2.2.2.2.2.2.1 == a0_11) || (!(bt325.2.2.2.2.2.2.2.2.2.2.2.2.1 == a0_12)))))))))))))) = true then (chronobatelaw03_PacketBack.j1 kj3 l1 t312 true) else (chronobatelaw03_PacketBack.j1 kj3 l1 t312 ((t312.length : Int) != 48))) else (chronobatelaw03_PacketBack.j1 kj3 l1 t312 true))) = some r := by first | (rw [hy322]; with_reducible exact H) | (have H2_ := (Option.bind_some _ _).symm.trans H; rw [hy322]; with_reducible exact H2_) | (have H2_ := (Option.bind_some _ _).symm.trans H; with_reducible exact H2_) | with_reducible exact H | (rw [hy322]; exact H) | exact H
                have Ny322 := Aside0.mk hy322
                clear hy322
                replace H := Option.bind_eq_some_iff.mp H
                obtain ⟨⟨t325, t326, t327, t328, t329, t330, t331, t332, t333, t334, t335, t336, t337, t338⟩, A170, H⟩ := H
                replace H : (if t338 = 0 then (if (!(t325 == a0_0) || (!(t326 == a0_1) || (!(t327 == a0_2) || (!(t328 == a0_3) || (!(t329 == a0_4) || (!(t330 == a0_5) || (!(t331 == a0_6) || (!(t332 == a0_7) || (!(t333 == a0_8) || (!(t334 == a0_9) || (!(t335 == a0_10) || (!(t336 == a0_11) || (!(t337 == a0_12)))))))))))))) = true then (chronobatelaw03_PacketBack.j1 kj3 l1 t312 true) else (chronobatelaw03_PacketBack.j1 kj3 l1 t312 ((t312.length : Int) != 48))) else (chronobatelaw03_PacketBack.j1 kj3 l1 t312 true)) = some r := H
                have A17 := Aside0.mk A170
                clear A170
                have HC18 := Aside0.mk H
                clear H
                go_upto_region 6 with (first | ((with_reducible refine gate_dst (N := 34) rfl ?_); (try (refine gate_guard (by rfl) ?_; dsimp only)); refine Kd.R_lit (Kd.int .u8) _ 5 ?hg (N := 34) ?hd (xs := ([] : List Int)) (inner := []) (ok := fun _ => True) (okp := fun _ => True) ?hr ?hp (fun _ hk => hk) trivial (Below.refl _ _) (Nat.le_refl _) (by simp) ?_; (case hd => rfl); (case hg => rfl); (case hr => first | (go_simp; done) | (go_simp; rfl)); (case hp => exact (Reps.none _ _)); intro v317 w19 ho20 hb hg_ hnew_; clear hg_ hnew_; (first | rw [← Ny316.out] at ho20 | (simp only [Int.reduceToNat] at ho20; rw [← Ny316.out] at ho20)); have n0_ := Aside0.mk (Kd.R_elder' (by (with_reducible repeat (first | apply Kd.R_alloc | apply Kd.R_drewN | apply Kd.R_drew)); exact HO314.out) (Kd.R_base ho20) hb); have n1_ := Aside0.mk (Kd.R_lower (Kd.R_new' ho20 (Kd.R_lt (by (with_reducible repeat (first | apply Kd.R_alloc | apply Kd.R_drewN | apply Kd.R_drew)); exact HO314.out))) (below_size (by repeat (first | (with_reducible first | exact HB.out | apply below_alloc | apply pw_below_drewN | apply below_drew1 | refine below_set ?_ GE310.out) | exact HB.out)))); have n2_ := Aside0.mk (blk_below (g := gb310) (o := .cells #[.int .u8 a0_0, .int .u8 a0_1, .int .u8 a0_2, .int .u8 a0_3, .int .i8 a0_4, .int .i8 a0_5, .int .u32 a0_6, .int .u32 a0_7, .int .u32 a0_8, .int .u64 a0_9, .int .u64 a0_10, .int .u64 a0_11, .int .u64 a0_12] 26 (0, 0)) (by (with_reducible repeat (first | refine blk_drewN ?_ _ | refine blk_drew ?_ | refine blk_alloc ?_ _)); exact BK310.out) hb); have n3_ := Aside0.mk (below_step (by repeat (first | (with_reducible first | exact HB.out | apply below_alloc | apply pw_below_drewN | apply below_drew1 | refine below_set ?_ GE310.out) | exact HB.out)) hb); clear HO314; clear BK310; clear HB; have HO314 := n0_; have HO318 := n1_; have BK310 := n2_; have HB := n3_; clear n0_ n1_ n2_ n3_; clear hb ho20; obtain ⟨Ao22, co22, eo22⟩ := Kd.R_slice HO314.out; subst eo22) | ((with_reducible refine gate_builtin (b := .append) (xs := #[.tmp 34, .tmp 35]) rfl ?_); (try (refine gate_guard (by rfl) ?_; dsimp only)); at_builtin; refine Kd.R_append_rows (Kd.int .u8) (w0 := w) w.heap.size rfl (.tmp 34) (.tmp 35) 27 5 (.int .u8 0) 1 rfl Try.underlying27 info5 rfl (by decide) (by omega) v317 y316 t312 _ _ _ (fun k_ => some k_ ≠ (.slice Ao22 t312.length co22 : Value).ownBlock) (fun _ => False) rfl rfl ?aO ?aR (fun _ _ h => h) (fun _ h => h.elim) ?aF ?aB ?aS ?aL ?_; (case aR => repeat (first | exact (Kd.R_reads' HO314.out).2.2 | (with_reducible refine Kd.C_alloc ?_ _) | (with_reducible refine Kd.C_drewN ?_ _) | (with_reducible refine Kd.C_drew ?_))); (case aB => exact (by repeat (first | (with_reducible first | exact HB.out | apply below_alloc | apply pw_below_drewN | apply below_drew1 | refine below_set ?_ GE310.out) | exact HB.out))); (case aF => exact (fun k_ hk => Kd.fresh' (Kd.R_lt (by (with_reducible repeat (first | apply Kd.R_alloc | apply Kd.R_drewN | apply Kd.R_drew)); exact HO314.out)) k_ hk)); (case aO => exact (by (with_reducible repeat (first | apply Kd.R_alloc | apply Kd.R_drewN | apply Kd.R_drew)); exact Kd.R_mono HO318.out (fun _ hk => hk.2))); (case aS => exact (below_size (by repeat (first | (with_reducible first | exact HB.out | apply below_alloc | apply pw_below_drewN | apply below_drew1 | refine below_set ?_ GE310.out) | exact HB.out)))); (case aL => have := LMc15.out; omega); intro v320 w21 ho hb hg hat; rw [← Ny319.out] at ho; have n0_ := Aside0.mk (blk_grown (g := gb310) (o := .cells #[.int .u8 a0_0, .int .u8 a0_1, .int .u8 a0_2, .int .u8 a0_3, .int .i8 a0_4, .int .i8 a0_5, .int .u32 a0_6, .int .u32 a0_7, .int .u32 a0_8, .int .u64 a0_9, .int .u64 a0_10, .int .u64 a0_11, .int .u64 a0_12] 26 (0, 0)) (by (with_reducible repeat (first | refine blk_drewN ?_ _ | refine blk_drew ?_ | refine blk_alloc ?_ _)); exact BK310.out) hg (Kd.R_ne HO318.out BK310.out (by decide))); have n1_ := Aside0.mk (Kd.R_after (ok := (fun _ => True)) (by (with_reducible repeat (first | apply Kd.R_alloc | apply Kd.R_drewN | apply Kd.R_drew)); exact HO314.out) hg hat); have n2_ := Aside0.mk (hb); have n3_ := Aside0.mk (ho); clear BK310; clear HO314; clear HB; clear HO318; have BK310 := n0_; have HO314 := n1_; have HB := n2_; have HO321 := n3_; clear n0_ n1_ n2_ n3_; clear ho hb hg hat) | ((with_reducible refine gate_builtin (b := .append) (xs := #[.tmp 36, .tmp 37]) rfl ?_); (try (refine gate_guard (by rfl) ?_; dsimp only)); at_builtin; refine Kd.R_append_rows (Kd.int .u8) (w0 := w) w.heap.size rfl (.tmp 36) (.tmp 37) 27 5 (.int .u8 0) 1 rfl Try.underlying27 info5 rfl (by decide) (by omega) v320 y319 l2 _ _ _ (fun k_ => some k_ ≠ (.slice Ao22 t312.length co22 : Value).ownBlock) (fun _ => False) rfl rfl ?aO ?aR (fun _ _ h => h) (fun _ h => h.elim) ?aF ?aB ?aS ?aL ?_; (case aR => repeat (first | exact (Kd.C_below HR2.out HB.out) | (with_reducible refine Kd.C_alloc ?_ _) | (with_reducible refine Kd.C_drewN ?_ _) | (with_reducible refine Kd.C_drew ?_))); (case aB => exact (by repeat (first | (with_reducible first | exact HB.out | apply below_alloc | apply pw_below_drewN | apply below_drew1 | refine below_set ?_ GE310.out) | exact HB.out))); (case aF => exact (fun k_ hk => Kd.fresh' (Kd.R_lt (by (with_reducible repeat (first | apply Kd.R_alloc | apply Kd.R_drewN | apply Kd.R_drew)); exact HO314.out)) k_ hk)); (case aO => exact (by (with_reducible repeat (first | apply Kd.R_alloc | apply Kd.R_drewN | apply Kd.R_drew)); exact HO321.out)); (case aS => exact (below_size (by repeat (first | (with_reducible first | exact HB.out | apply below_alloc | apply pw_below_drewN | apply below_drew1 | refine below_set ?_ GE310.out) | exact HB.out)))); (case aL => have := LMc16.out; omega); intro v323 w23 ho hb hg hat; rw [← Ny322.out] at ho; have n0_ := Aside0.mk (blk_grown (g := gb310) (o := .cells #[.int .u8 a0_0, .int .u8 a0_1, .int .u8 a0_2, .int .u8 a0_3, .int .i8 a0_4, .int .i8 a0_5, .int .u32 a0_6, .int .u32 a0_7, .int .u32 a0_8, .int .u64 a0_9, .int .u64 a0_10, .int .u64 a0_11, .int .u64 a0_12] 26 (0, 0)) (by (with_reducible repeat (first | refine blk_drewN ?_ _ | refine blk_drew ?_ | refine blk_alloc ?_ _)); exact BK310.out) hg (Kd.R_ne HO321.out BK310.out (by decide))); have n1_ := Aside0.mk (Kd.R_after (ok := (fun _ => True)) (by (with_reducible repeat (first | apply Kd.R_alloc | apply Kd.R_drewN | apply Kd.R_drew)); exact HO314.out) hg hat); have n2_ := Aside0.mk (hb); have n3_ := Aside0.mk (ho); clear BK310; clear HO314; clear HB; clear HO321; have BK310 := n0_; have HO314 := n1_; have HB := n2_; have HO324 := n3_; clear n0_ n1_ n2_ n3_; clear ho hb hg hat; obtain ⟨Ao24, co24, eo24⟩ := Kd.R_slice HO324.out; subst eo24) | ((with_reducible refine gate_callee (f := 15) rfl ?_); refine goesL_ (some 39) rfl rfl Try.func15 (by kernel_rfl) rfl #[.slice Ao24 y322.length co24] rfl (by (try simp only [List.map_toArray, List.map_cons, List.map_nil]); first | done | rfl | (simp only [List.length_drop, List.length_take]; rfl)) ?_; (with_reducible refine (packet_Get.calls kj3 _ _ y322 t325 t326 t327 t328 t329 t330 t331 t332 t333 t334 t335 t336 t337 t338 _ ?side1 ?side2 A17.out).mono ?_); (case side1 => repeat (first | exact (Kd.R_reads' HO324.out).2.2 | (with_reducible refine Kd.C_alloc ?_ _) | (with_reducible refine Kd.C_drewN ?_ _) | (with_reducible refine Kd.C_drew ?_))); (case side2 => exact (Kd.R_reads' HO324.out).2.1); rintro e w25 ⟨rfl, hb⟩; refine ⟨_, rfl, ?_⟩; have n0_ := Aside0.mk (Kd.R_below (by (with_reducible repeat (first | apply Kd.R_alloc | apply Kd.R_drewN | apply Kd.R_drew)); exact HO314.out) hb); have n1_ := Aside0.mk (Kd.R_below (by (with_reducible repeat (first | apply Kd.R_alloc | apply Kd.R_drewN | apply Kd.R_drew)); exact HO324.out) hb); have n2_ := Aside0.mk (blk_below (g := gb310) (o := .cells #[.int .u8 a0_0, .int .u8 a0_1, .int .u8 a0_2, .int .u8 a0_3, .int .i8 a0_4, .int .i8 a0_5, .int .u32 a0_6, .int .u32 a0_7, .int .u32 a0_8, .int .u64 a0_9, .int .u64 a0_10, .int .u64 a0_11, .int .u64 a0_12] 26 (0, 0)) (by (with_reducible repeat (first | refine blk_drewN ?_ _ | refine blk_drew ?_ | refine blk_alloc ?_ _)); exact BK310.out) hb); have n3_ := Aside0.mk (below_step (by repeat (first | (with_reducible first | exact HB.out | apply below_alloc | apply pw_below_drewN | apply below_drew1 | refine below_set ?_ GE310.out) | exact HB.out)) hb); clear HO314; clear HO324; clear BK310; clear HB; have HO314 := n0_; have HO324 := n1_; have BK310 := n2_; have HB := n3_; clear n0_ n1_ n2_ n3_; (try clear hb); (try clear hb2); (try clear hk); (try clear hi)) | ((with_reducible refine gate_dst (N := 9) rfl ?_); (try (refine gate_guard (by rfl) ?_; dsimp only)); refine box_event ?hg (N := 9) ?hd (cs := #[.int .u8 0, .int .u8 0, .int .u8 0, .int .u8 0, .int .i8 0, .int .i8 0, .int .u32 0, .int .u32 0, .int .u32 0, .int .u64 0, .int .u64 0, .int .u64 0, .int .u64 0]) (t := 26) ?hr ?_; (case hd => rfl); (case hg => rfl); (case hr => first | (go_simp; done) | (go_simp; rfl)); intro gb339 hg w26 hbox hb; have n0_ := Aside0.mk (Kd.R_below (by (with_reducible repeat (first | apply Kd.R_alloc | apply Kd.R_drewN | apply Kd.R_drew)); exact HO314.out) hb); have n1_ := Aside0.mk (Kd.R_below (by (with_reducible repeat (first | apply Kd.R_alloc | apply Kd.R_drewN | apply Kd.R_drew)); exact HO324.out) hb); have n2_ := Aside0.mk (blk_below (g := gb310) (o := .cells #[.int .u8 a0_0, .int .u8 a0_1, .int .u8 a0_2, .int .u8 a0_3, .int .i8 a0_4, .int .i8 a0_5, .int .u32 a0_6, .int .u32 a0_7, .int .u32 a0_8, .int .u64 a0_9, .int .u64 a0_10, .int .u64 a0_11, .int .u64 a0_12] 26 (0, 0)) (by (with_reducible repeat (first | refine blk_drewN ?_ _ | refine blk_drew ?_ | refine blk_alloc ?_ _)); exact BK310.out) hb); have n3_ := Aside0.mk (below_step (by repeat (first | (with_reducible first | exact HB.out | apply below_alloc | apply pw_below_drewN | apply below_drew1 | refine below_set ?_ GE310.out) | exact HB.out)) hb); have n4_ := Aside0.mk (hbox); have n5_ := Aside0.mk ((by rw [hg]; exact (below_size (by repeat (first | (with_reducible first | exact HB.out | apply below_alloc | apply pw_below_drewN | apply below_drew1 | refine below_set ?_ GE310.out) | exact HB.out))) : w.heap.size ≤ gb339)); have n6_ := Aside0.mk ((by rw [hg]; exact (below_size (by repeat (first | (with_reducible first | exact HB.out | apply below_alloc | apply pw_below_drewN | apply below_drew1 | refine below_set ?_ GE310.out) | exact HB.out))) : w.heap.size ≤ gb339)); have n7_ := Aside0.mk ((by rw [hg]; exact Nat.ne_of_lt (blk_lt (g := gb310) (o := .cells #[.int .u8 a0_0, .int .u8 a0_1, .int .u8 a0_2, .int .u8 a0_3, .int .i8 a0_4, .int .i8 a0_5, .int .u32 a0_6, .int .u32 a0_7, .int .u32 a0_8, .int .u64 a0_9, .int .u64 a0_10, .int .u64 a0_11, .int .u64 a0_12] 26 (0, 0)) (by (with_reducible repeat (first | refine blk_drewN ?_ _ | refine blk_drew ?_ | refine blk_alloc ?_ _)); exact BK310.out)) : gb310 ≠ gb339)); have n8_ := Aside0.mk ((by rw [hg]; exact Nat.ne_of_gt (blk_lt (g := gb310) (o := .cells #[.int .u8 a0_0, .int .u8 a0_1, .int .u8 a0_2, .int .u8 a0_3, .int .i8 a0_4, .int .i8 a0_5, .int .u32 a0_6, .int .u32 a0_7, .int .u32 a0_8, .int .u64 a0_9, .int .u64 a0_10, .int .u64 a0_11, .int .u64 a0_12] 26 (0, 0)) (by (with_reducible repeat (first | refine blk_drewN ?_ _ | refine blk_drew ?_ | refine blk_alloc ?_ _)); exact BK310.out)) : gb339 ≠ gb310)); clear HO314; clear HO324; clear BK310; clear HB; have HO314 := n0_; have HO324 := n1_; have BK310 := n2_; have HB := n3_; have BK339 := n4_; have GW339 := n5_; have GE339 := n6_; have NB310_339 := n7_; have NB339_310 := n8_; clear n0_ n1_ n2_ n3_ n4_ n5_ n6_ n7_ n8_; clear hb hbox hg; have hnb27 := NB339_310.out; have hnc27 := NB310_339.out; have hcz28_0 : w26.cell? ⟨gb339, 0, none⟩ = some (.int .u8 0) := (blk_cell BK339.out 0).trans rfl; have hcz28_1 : w26.cell? ⟨gb339, 1, none⟩ = some (.int .u8 0) := (blk_cell BK339.out 1).trans rfl; have hcz28_2 : w26.cell? ⟨gb339, 2, none⟩ = some (.int .u8 0) := (blk_cell BK339.out 2).trans rfl; have hcz28_3 : w26.cell? ⟨gb339, 3, none⟩ = some (.int .u8 0) := (blk_cell BK339.out 3).trans rfl; have hcz28_4 : w26.cell? ⟨gb339, 4, none⟩ = some (.int .i8 0) := (blk_cell BK339.out 4).trans rfl; have hcz28_5 : w26.cell? ⟨gb339, 5, none⟩ = some (.int .i8 0) := (blk_cell BK339.out 5).trans rfl; have hcz28_6 : w26.cell? ⟨gb339, 6, none⟩ = some (.int .u32 0) := (blk_cell BK339.out 6).trans rfl; have hcz28_7 : w26.cell? ⟨gb339, 7, none⟩ = some (.int .u32 0) := (blk_cell BK339.out 7).trans rfl; have hcz28_8 : w26.cell? ⟨gb339, 8, none⟩ = some (.int .u32 0) := (blk_cell BK339.out 8).trans rfl; have hcz28_9 : w26.cell? ⟨gb339, 9, none⟩ = some (.int .u64 0) := (blk_cell BK339.out 9).trans rfl; have hcz28_10 : w26.cell? ⟨gb339, 10, none⟩ = some (.int .u64 0) := (blk_cell BK339.out 10).trans rfl; have hcz28_11 : w26.cell? ⟨gb339, 11, none⟩ = some (.int .u64 0) := (blk_cell BK339.out 11).trans rfl; have hcz28_12 : w26.cell? ⟨gb339, 12, none⟩ = some (.int .u64 0) := (blk_cell BK339.out 12).trans rfl; have hfz28_0 := blk_frozen BK339.out 0; have hfz28_1 := blk_frozen BK339.out 1; have hfz28_2 := blk_frozen BK339.out 2; have hfz28_3 := blk_frozen BK339.out 3; have hfz28_4 := blk_frozen BK339.out 4; have hfz28_5 := blk_frozen BK339.out 5; have hfz28_6 := blk_frozen BK339.out 6; have hfz28_7 := blk_frozen BK339.out 7; have hfz28_8 := blk_frozen BK339.out 8; have hfz28_9 := blk_frozen BK339.out 9; have hfz28_10 := blk_frozen BK339.out 10; have hfz28_11 := blk_frozen BK339.out 11; have hfz28_12 := blk_frozen BK339.out 12))
                (try simp only [Act.put, List.setIfInBounds_toArray, List.set_cons_zero, List.set_cons_succ])
                go_cut [53] (fun v53 wc => ∃ (kq : Nat) (x53_17 : Bool), v53 = .bool x53_17 ∧ Aside0 (chronobatelaw03_PacketBack.j1 kq l1 t312 x53_17 = some r) ∧ Aside0 (kq ≤ kj3) ∧ Aside0 (Kd.R (Kd.int .u8) 5 wc w.heap.size (fun _ => True) (.slice Ao22 t312.length co22) t312) ∧ Aside0 (wc.heap[gb310]? = some (.cells #[.int .u8 a0_0, .int .u8 a0_1, .int .u8 a0_2, .int .u8 a0_3, .int .i8 a0_4, .int .i8 a0_5, .int .u32 a0_6, .int .u32 a0_7, .int .u32 a0_8, .int .u64 a0_9, .int .u64 a0_10, .int .u64 a0_11, .int .u64 a0_12] 26 (0, 0))) ∧ Aside0 (wc.heap[gb339]? = some (.cells #[.int .u8 t325, .int .u8 t326, .int .u8 t327, .int .u8 t328, .int .i8 t329, .int .i8 t330, .int .u32 t331, .int .u32 t332, .int .u32 t333, .int .u64 t334, .int .u64 t335, .int .u64 t336, .int .u64 t337] 26 (0, 0))) ∧ Aside0 (Below w.heap.size w wc))
                case first =>
                  have H := HC18.out
                  clear HC18
                  by_cases c29 : t338 = 0
                  · rw [if_pos c29] at H
                    have c29b0 : (t338 == 0) = true := beq_iff_eq.mpr c29
                    have c29b1 : (t338 != 0) = false := bne_eq_false_iff_eq.mpr c29
                    clear c29
                    (first | rw [c29b0] | (simp only [i64_w, i32_w]; rw [c29b0]) | skip)
                    by_cases c30 : (!(t325 == a0_0) || (!(t326 == a0_1) || (!(t327 == a0_2) || (!(t328 == a0_3) || (!(t329 == a0_4) || (!(t330 == a0_5) || (!(t331 == a0_6) || (!(t332 == a0_7) || (!(t333 == a0_8) || (!(t334 == a0_9) || (!(t335 == a0_10) || (!(t336 == a0_11) || (!(t337 == a0_12)))))))))))))) = true
                    · rw [if_pos c30] at H
                      have c30b0 : (!(t325 == a0_0) || (!(t326 == a0_1) || (!(t327 == a0_2) || (!(t328 == a0_3) || (!(t329 == a0_4) || (!(t330 == a0_5) || (!(t331 == a0_6) || (!(t332 == a0_7) || (!(t333 == a0_8) || (!(t334 == a0_9) || (!(t335 == a0_10) || (!(t336 == a0_11) || (!(t337 == a0_12)))))))))))))) = true := c30
                      clear c30
                      have H' := Aside0.mk H
                      clear H
                      have hnb31 := NB339_310.out
                      have hnc31 := NB310_339.out
                      have hcz32_0 : w26.cell? ⟨gb339, 0, none⟩ = some (.int .u8 0) := (blk_cell BK339.out 0).trans rfl
                      have hcz32_1 : w26.cell? ⟨gb339, 1, none⟩ = some (.int .u8 0) := (blk_cell BK339.out 1).trans rfl
                      have hcz32_2 : w26.cell? ⟨gb339, 2, none⟩ = some (.int .u8 0) := (blk_cell BK339.out 2).trans rfl
                      have hcz32_3 : w26.cell? ⟨gb339, 3, none⟩ = some (.int .u8 0) := (blk_cell BK339.out 3).trans rfl
                      have hcz32_4 : w26.cell? ⟨gb339, 4, none⟩ = some (.int .i8 0) := (blk_cell BK339.out 4).trans rfl
                      have hcz32_5 : w26.cell? ⟨gb339, 5, none⟩ = some (.int .i8 0) := (blk_cell BK339.out 5).trans rfl
                      have hcz32_6 : w26.cell? ⟨gb339, 6, none⟩ = some (.int .u32 0) := (blk_cell BK339.out 6).trans rfl
                      have hcz32_7 : w26.cell? ⟨gb339, 7, none⟩ = some (.int .u32 0) := (blk_cell BK339.out 7).trans rfl
                      have hcz32_8 : w26.cell? ⟨gb339, 8, none⟩ = some (.int .u32 0) := (blk_cell BK339.out 8).trans rfl
                      have hcz32_9 : w26.cell? ⟨gb339, 9, none⟩ = some (.int .u64 0) := (blk_cell BK339.out 9).trans rfl
                      have hcz32_10 : w26.cell? ⟨gb339, 10, none⟩ = some (.int .u64 0) := (blk_cell BK339.out 10).trans rfl
                      have hcz32_11 : w26.cell? ⟨gb339, 11, none⟩ = some (.int .u64 0) := (blk_cell BK339.out 11).trans rfl
                      have hcz32_12 : w26.cell? ⟨gb339, 12, none⟩ = some (.int .u64 0) := (blk_cell BK339.out 12).trans rfl
                      have hfz32_0 := blk_frozen BK339.out 0
                      have hfz32_1 := blk_frozen BK339.out 1
                      have hfz32_2 := blk_frozen BK339.out 2
                      have hfz32_3 := blk_frozen BK339.out 3
                      have hfz32_4 := blk_frozen BK339.out 4
                      have hfz32_5 := blk_frozen BK339.out 5
                      have hfz32_6 := blk_frozen BK339.out 6
                      have hfz32_7 := blk_frozen BK339.out 7
                      have hfz32_8 := blk_frozen BK339.out 8
                      have hfz32_9 := blk_frozen BK339.out 9
                      have hfz32_10 := blk_frozen BK339.out 10
                      have hfz32_11 := blk_frozen BK339.out 11
                      have hfz32_12 := blk_frozen BK339.out 12
                      have hcz33_0 : w26.cell? ⟨gb310, 0, none⟩ = some (.int .u8 a0_0) := (blk_cell BK310.out 0).trans rfl
                      have hcz33_1 : w26.cell? ⟨gb310, 1, none⟩ = some (.int .u8 a0_1) := (blk_cell BK310.out 1).trans rfl
                      have hcz33_2 : w26.cell? ⟨gb310, 2, none⟩ = some (.int .u8 a0_2) := (blk_cell BK310.out 2).trans rfl
                      have hcz33_3 : w26.cell? ⟨gb310, 3, none⟩ = some (.int .u8 a0_3) := (blk_cell BK310.out 3).trans rfl
                      have hcz33_4 : w26.cell? ⟨gb310, 4, none⟩ = some (.int .i8 a0_4) := (blk_cell BK310.out 4).trans rfl
                      have hcz33_5 : w26.cell? ⟨gb310, 5, none⟩ = some (.int .i8 a0_5) := (blk_cell BK310.out 5).trans rfl
                      have hcz33_6 : w26.cell? ⟨gb310, 6, none⟩ = some (.int .u32 a0_6) := (blk_cell BK310.out 6).trans rfl
                      have hcz33_7 : w26.cell? ⟨gb310, 7, none⟩ = some (.int .u32 a0_7) := (blk_cell BK310.out 7).trans rfl
                      have hcz33_8 : w26.cell? ⟨gb310, 8, none⟩ = some (.int .u32 a0_8) := (blk_cell BK310.out 8).trans rfl
                      have hcz33_9 : w26.cell? ⟨gb310, 9, none⟩ = some (.int .u64 a0_9) := (blk_cell BK310.out 9).trans rfl
                      have hcz33_10 : w26.cell? ⟨gb310, 10, none⟩ = some (.int .u64 a0_10) := (blk_cell BK310.out 10).trans rfl
                      have hcz33_11 : w26.cell? ⟨gb310, 11, none⟩ = some (.int .u64 a0_11) := (blk_cell BK310.out 11).trans rfl
                      have hcz33_12 : w26.cell? ⟨gb310, 12, none⟩ = some (.int .u64 a0_12) := (blk_cell BK310.out 12).trans rfl
                      have hfz33_0 := blk_frozen BK310.out 0
                      have hfz33_1 := blk_frozen BK310.out 1
                      have hfz33_2 := blk_frozen BK310.out 2
                      have hfz33_3 := blk_frozen BK310.out 3
                      have hfz33_4 := blk_frozen BK310.out 4
                      have hfz33_5 := blk_frozen BK310.out 5
                      have hfz33_6 := blk_frozen BK310.out 6
                      have hfz33_7 := blk_frozen BK310.out 7
                      have hfz33_8 := blk_frozen BK310.out 8
                      have hfz33_9 := blk_frozen BK310.out 9
                      have hfz33_10 := blk_frozen BK310.out 10
                      have hfz33_11 := blk_frozen BK310.out 11
                      have hfz33_12 := blk_frozen BK310.out 12
                      go_wp2
                      go_meet
                      case rel => exact ⟨_, (true), (by first | rfl | (simp; done) | (simp [*]; done)), H', ⟨by have := HJ3.out; first | omega | exact Nat.le_refl _⟩, ⟨by (with_reducible repeat (first | apply Kd.R_alloc | apply Kd.R_drewN | apply Kd.R_drew)); exact Kd.R_mono (Kd.R_far (p := ⟨gb339, 12, none⟩) (Kd.R_far (p := ⟨gb339, 11, none⟩) (Kd.R_far (p := ⟨gb339, 10, none⟩) (Kd.R_far (p := ⟨gb339, 9, none⟩) (Kd.R_far (p := ⟨gb339, 8, none⟩) (Kd.R_far (p := ⟨gb339, 7, none⟩) (Kd.R_far (p := ⟨gb339, 6, none⟩) (Kd.R_far (p := ⟨gb339, 5, none⟩) (Kd.R_far (p := ⟨gb339, 4, none⟩) (Kd.R_far (p := ⟨gb339, 3, none⟩) (Kd.R_far (p := ⟨gb339, 2, none⟩) (Kd.R_far (p := ⟨gb339, 1, none⟩) (Kd.R_far (p := ⟨gb339, 0, none⟩) (Kd.R_types HO314.out BK339.out (by decide)) (fun _ hk => hk.2) (.int .u8 t325)) (fun _ hk => hk.2) (.int .u8 t326)) (fun _ hk => hk.2) (.int .u8 t327)) (fun _ hk => hk.2) (.int .u8 t328)) (fun _ hk => hk.2) (.int .i8 t329)) (fun _ hk => hk.2) (.int .i8 t330)) (fun _ hk => hk.2) (.int .u32 t331)) (fun _ hk => hk.2) (.int .u32 t332)) (fun _ hk => hk.2) (.int .u32 t333)) (fun _ hk => hk.2) (.int .u64 t334)) (fun _ hk => hk.2) (.int .u64 t335)) (fun _ hk => hk.2) (.int .u64 t336)) (fun _ hk => hk.2) (.int .u64 t337)) (fun _ hk => trivial)⟩, ⟨by (with_reducible repeat (first | refine blk_drewN ?_ _ | refine blk_drew ?_ | refine blk_alloc ?_ _)); refine blk_far ?_ NB310_339.out _; (with_reducible repeat (first | refine blk_drewN ?_ _ | refine blk_drew ?_ | refine blk_alloc ?_ _)); refine blk_far ?_ NB310_339.out _; (with_reducible repeat (first | refine blk_drewN ?_ _ | refine blk_drew ?_ | refine blk_alloc ?_ _)); refine blk_far ?_ NB310_339.out _; (with_reducible repeat (first | refine blk_drewN ?_ _ | refine blk_drew ?_ | refine blk_alloc ?_ _)); refine blk_far ?_ NB310_339.out _; (with_reducible repeat (first | refine blk_drewN ?_ _ | refine blk_drew ?_ | refine blk_alloc ?_ _)); refine blk_far ?_ NB310_339.out _; (with_reducible repeat (first | refine blk_drewN ?_ _ | refine blk_drew ?_ | refine blk_alloc ?_ _)); refine blk_far ?_ NB310_339.out _; (with_reducible repeat (first | refine blk_drewN ?_ _ | refine blk_drew ?_ | refine blk_alloc ?_ _)); refine blk_far ?_ NB310_339.out _; (with_reducible repeat (first | refine blk_drewN ?_ _ | refine blk_drew ?_ | refine blk_alloc ?_ _)); refine blk_far ?_ NB310_339.out _; (with_reducible repeat (first | refine blk_drewN ?_ _ | refine blk_drew ?_ | refine blk_alloc ?_ _)); refine blk_far ?_ NB310_339.out _; (with_reducible repeat (first | refine blk_drewN ?_ _ | refine blk_drew ?_ | refine blk_alloc ?_ _)); refine blk_far ?_ NB310_339.out _; (with_reducible repeat (first | refine blk_drewN ?_ _ | refine blk_drew ?_ | refine blk_alloc ?_ _)); refine blk_far ?_ NB310_339.out _; (with_reducible repeat (first | refine blk_drewN ?_ _ | refine blk_drew ?_ | refine blk_alloc ?_ _)); refine blk_far ?_ NB310_339.out _; (with_reducible repeat (first | refine blk_drewN ?_ _ | refine blk_drew ?_ | refine blk_alloc ?_ _)); refine blk_far ?_ NB310_339.out _; (with_reducible repeat (first | refine blk_drewN ?_ _ | refine blk_drew ?_ | refine blk_alloc ?_ _)); exact BK310.out⟩, ⟨by (with_reducible repeat (first | refine blk_drewN ?_ _ | refine blk_drew ?_ | refine blk_alloc ?_ _)); refine blk_put (cs := #[.int .u8 t325, .int .u8 t326, .int .u8 t327, .int .u8 t328, .int .i8 t329, .int .i8 t330, .int .u32 t331, .int .u32 t332, .int .u32 t333, .int .u64 t334, .int .u64 t335, .int .u64 t336, .int .u64 0]) ?_ 12 _ rfl; (with_reducible repeat (first | refine blk_drewN ?_ _ | refine blk_drew ?_ | refine blk_alloc ?_ _)); refine blk_put (cs := #[.int .u8 t325, .int .u8 t326, .int .u8 t327, .int .u8 t328, .int .i8 t329, .int .i8 t330, .int .u32 t331, .int .u32 t332, .int .u32 t333, .int .u64 t334, .int .u64 t335, .int .u64 0, .int .u64 0]) ?_ 11 _ rfl; (with_reducible repeat (first | refine blk_drewN ?_ _ | refine blk_drew ?_ | refine blk_alloc ?_ _)); refine blk_put (cs := #[.int .u8 t325, .int .u8 t326, .int .u8 t327, .int .u8 t328, .int .i8 t329, .int .i8 t330, .int .u32 t331, .int .u32 t332, .int .u32 t333, .int .u64 t334, .int .u64 0, .int .u64 0, .int .u64 0]) ?_ 10 _ rfl; (with_reducible repeat (first | refine blk_drewN ?_ _ | refine blk_drew ?_ | refine blk_alloc ?_ _)); refine blk_put (cs := #[.int .u8 t325, .int .u8 t326, .int .u8 t327, .int .u8 t328, .int .i8 t329, .int .i8 t330, .int .u32 t331, .int .u32 t332, .int .u32 t333, .int .u64 0, .int .u64 0, .int .u64 0, .int .u64 0]) ?_ 9 _ rfl; (with_reducible repeat (first | refine blk_drewN ?_ _ | refine blk_drew ?_ | refine blk_alloc ?_ _)); refine blk_put (cs := #[.int .u8 t325, .int .u8 t326, .int .u8 t327, .int .u8 t328, .int .i8 t329, .int .i8 t330, .int .u32 t331, .int .u32 t332, .int .u32 0, .int .u64 0, .int .u64 0, .int .u64 0, .int .u64 0]) ?_ 8 _ rfl; (with_reducible repeat (first | refine blk_drewN ?_ _ | refine blk_drew ?_ | refine blk_alloc ?_ _)); refine blk_put (cs := #[.int .u8 t325, .int .u8 t326, .int .u8 t327, .int .u8 t328, .int .i8 t329, .int .i8 t330, .int .u32 t331, .int .u32 0, .int .u32 0, .int .u64 0, .int .u64 0, .int .u64 0, .int .u64 0]) ?_ 7 _ rfl; (with_reducible repeat (first | refine blk_drewN ?_ _ | refine blk_drew ?_ | refine blk_alloc ?_ _)); refine blk_put (cs := #[.int .u8 t325, .int .u8 t326, .int .u8 t327, .int .u8 t328, .int .i8 t329, .int .i8 t330, .int .u32 0, .int .u32 0, .int .u32 0, .int .u64 0, .int .u64 0, .int .u64 0, .int .u64 0]) ?_ 6 _ rfl; (with_reducible repeat (first | refine blk_drewN ?_ _ | refine blk_drew ?_ | refine blk_alloc ?_ _)); refine blk_put (cs := #[.int .u8 t325, .int .u8 t326, .int .u8 t327, .int .u8 t328, .int .i8 t329, .int .i8 0, .int .u32 0, .int .u32 0, .int .u32 0, .int .u64 0, .int .u64 0, .int .u64 0, .int .u64 0]) ?_ 5 _ rfl; (with_reducible repeat (first | refine blk_drewN ?_ _ | refine blk_drew ?_ | refine blk_alloc ?_ _)); refine blk_put (cs := #[.int .u8 t325, .int .u8 t326, .int .u8 t327, .int .u8 t328, .int .i8 0, .int .i8 0, .int .u32 0, .int .u32 0, .int .u32 0, .int .u64 0, .int .u64 0, .int .u64 0, .int .u64 0]) ?_ 4 _ rfl; (with_reducible repeat (first | refine blk_drewN ?_ _ | refine blk_drew ?_ | refine blk_alloc ?_ _)); refine blk_put (cs := #[.int .u8 t325, .int .u8 t326, .int .u8 t327, .int .u8 0, .int .i8 0, .int .i8 0, .int .u32 0, .int .u32 0, .int .u32 0, .int .u64 0, .int .u64 0, .int .u64 0, .int .u64 0]) ?_ 3 _ rfl; (with_reducible repeat (first | refine blk_drewN ?_ _ | refine blk_drew ?_ | refine blk_alloc ?_ _)); refine blk_put (cs := #[.int .u8 t325, .int .u8 t326, .int .u8 0, .int .u8 0, .int .i8 0, .int .i8 0, .int .u32 0, .int .u32 0, .int .u32 0, .int .u64 0, .int .u64 0, .int .u64 0, .int .u64 0]) ?_ 2 _ rfl; (with_reducible repeat (first | refine blk_drewN ?_ _ | refine blk_drew ?_ | refine blk_alloc ?_ _)); refine blk_put (cs := #[.int .u8 t325, .int .u8 0, .int .u8 0, .int .u8 0, .int .i8 0, .int .i8 0, .int .u32 0, .int .u32 0, .int .u32 0, .int .u64 0, .int .u64 0, .int .u64 0, .int .u64 0]) ?_ 1 _ rfl; (with_reducible repeat (first | refine blk_drewN ?_ _ | refine blk_drew ?_ | refine blk_alloc ?_ _)); refine blk_put (cs := #[.int .u8 0, .int .u8 0, .int .u8 0, .int .u8 0, .int .i8 0, .int .i8 0, .int .u32 0, .int .u32 0, .int .u32 0, .int .u64 0, .int .u64 0, .int .u64 0, .int .u64 0]) ?_ 0 _ rfl; (with_reducible repeat (first | refine blk_drewN ?_ _ | refine blk_drew ?_ | refine blk_alloc ?_ _)); exact BK339.out⟩, ⟨by repeat (first | (with_reducible first | exact HB.out | apply below_alloc | apply pw_below_drewN | apply below_drew1 | refine below_set ?_ GE310.out | refine below_set ?_ GE339.out) | exact HB.out)⟩⟩
                    · rw [if_neg c30] at H
                      have c30b0 : (!(t325 == a0_0) || (!(t326 == a0_1) || (!(t327 == a0_2) || (!(t328 == a0_3) || (!(t329 == a0_4) || (!(t330 == a0_5) || (!(t331 == a0_6) || (!(t332 == a0_7) || (!(t333 == a0_8) || (!(t334 == a0_9) || (!(t335 == a0_10) || (!(t336 == a0_11) || (!(t337 == a0_12)))))))))))))) = false := by simpa using c30
                      clear c30
                      have H' := Aside0.mk H
                      clear H
                      have hnb34 := NB339_310.out
                      have hnc34 := NB310_339.out
                      have hcz35_0 : w26.cell? ⟨gb339, 0, none⟩ = some (.int .u8 0) := (blk_cell BK339.out 0).trans rfl
                      have hcz35_1 : w26.cell? ⟨gb339, 1, none⟩ = some (.int .u8 0) := (blk_cell BK339.out 1).trans rfl
                      have hcz35_2 : w26.cell? ⟨gb339, 2, none⟩ = some (.int .u8 0) := (blk_cell BK339.out 2).trans rfl
                      have hcz35_3 : w26.cell? ⟨gb339, 3, none⟩ = some (.int .u8 0) := (blk_cell BK339.out 3).trans rfl
                      have hcz35_4 : w26.cell? ⟨gb339, 4, none⟩ = some (.int .i8 0) := (blk_cell BK339.out 4).trans rfl
                      have hcz35_5 : w26.cell? ⟨gb339, 5, none⟩ = some (.int .i8 0) := (blk_cell BK339.out 5).trans rfl
                      have hcz35_6 : w26.cell? ⟨gb339, 6, none⟩ = some (.int .u32 0) := (blk_cell BK339.out 6).trans rfl
                      have hcz35_7 : w26.cell? ⟨gb339, 7, none⟩ = some (.int .u32 0) := (blk_cell BK339.out 7).trans rfl
                      have hcz35_8 : w26.cell? ⟨gb339, 8, none⟩ = some (.int .u32 0) := (blk_cell BK339.out 8).trans rfl
                      have hcz35_9 : w26.cell? ⟨gb339, 9, none⟩ = some (.int .u64 0) := (blk_cell BK339.out 9).trans rfl
                      have hcz35_10 : w26.cell? ⟨gb339, 10, none⟩ = some (.int .u64 0) := (blk_cell BK339.out 10).trans rfl
                      have hcz35_11 : w26.cell? ⟨gb339, 11, none⟩ = some (.int .u64 0) := (blk_cell BK339.out 11).trans rfl
                      have hcz35_12 : w26.cell? ⟨gb339, 12, none⟩ = some (.int .u64 0) := (blk_cell BK339.out 12).trans rfl
                      have hfz35_0 := blk_frozen BK339.out 0
                      have hfz35_1 := blk_frozen BK339.out 1
                      have hfz35_2 := blk_frozen BK339.out 2
                      have hfz35_3 := blk_frozen BK339.out 3
                      have hfz35_4 := blk_frozen BK339.out 4
                      have hfz35_5 := blk_frozen BK339.out 5
                      have hfz35_6 := blk_frozen BK339.out 6
                      have hfz35_7 := blk_frozen BK339.out 7
                      have hfz35_8 := blk_frozen BK339.out 8
                      have hfz35_9 := blk_frozen BK339.out 9
                      have hfz35_10 := blk_frozen BK339.out 10
                      have hfz35_11 := blk_frozen BK339.out 11
                      have hfz35_12 := blk_frozen BK339.out 12
                      have hcz36_0 : w26.cell? ⟨gb310, 0, none⟩ = some (.int .u8 a0_0) := (blk_cell BK310.out 0).trans rfl
                      have hcz36_1 : w26.cell? ⟨gb310, 1, none⟩ = some (.int .u8 a0_1) := (blk_cell BK310.out 1).trans rfl
                      have hcz36_2 : w26.cell? ⟨gb310, 2, none⟩ = some (.int .u8 a0_2) := (blk_cell BK310.out 2).trans rfl
                      have hcz36_3 : w26.cell? ⟨gb310, 3, none⟩ = some (.int .u8 a0_3) := (blk_cell BK310.out 3).trans rfl
                      have hcz36_4 : w26.cell? ⟨gb310, 4, none⟩ = some (.int .i8 a0_4) := (blk_cell BK310.out 4).trans rfl
                      have hcz36_5 : w26.cell? ⟨gb310, 5, none⟩ = some (.int .i8 a0_5) := (blk_cell BK310.out 5).trans rfl
                      have hcz36_6 : w26.cell? ⟨gb310, 6, none⟩ = some (.int .u32 a0_6) := (blk_cell BK310.out 6).trans rfl
                      have hcz36_7 : w26.cell? ⟨gb310, 7, none⟩ = some (.int .u32 a0_7) := (blk_cell BK310.out 7).trans rfl
                      have hcz36_8 : w26.cell? ⟨gb310, 8, none⟩ = some (.int .u32 a0_8) := (blk_cell BK310.out 8).trans rfl
                      have hcz36_9 : w26.cell? ⟨gb310, 9, none⟩ = some (.int .u64 a0_9) := (blk_cell BK310.out 9).trans rfl
                      have hcz36_10 : w26.cell? ⟨gb310, 10, none⟩ = some (.int .u64 a0_10) := (blk_cell BK310.out 10).trans rfl
                      have hcz36_11 : w26.cell? ⟨gb310, 11, none⟩ = some (.int .u64 a0_11) := (blk_cell BK310.out 11).trans rfl
                      have hcz36_12 : w26.cell? ⟨gb310, 12, none⟩ = some (.int .u64 a0_12) := (blk_cell BK310.out 12).trans rfl
                      have hfz36_0 := blk_frozen BK310.out 0
                      have hfz36_1 := blk_frozen BK310.out 1
                      have hfz36_2 := blk_frozen BK310.out 2
                      have hfz36_3 := blk_frozen BK310.out 3
                      have hfz36_4 := blk_frozen BK310.out 4
                      have hfz36_5 := blk_frozen BK310.out 5
                      have hfz36_6 := blk_frozen BK310.out 6
                      have hfz36_7 := blk_frozen BK310.out 7
                      have hfz36_8 := blk_frozen BK310.out 8
                      have hfz36_9 := blk_frozen BK310.out 9
                      have hfz36_10 := blk_frozen BK310.out 10
                      have hfz36_11 := blk_frozen BK310.out 11
                      have hfz36_12 := blk_frozen BK310.out 12
                      go_wp2
                      go_meet
                      case rel => exact ⟨_, (((t312.length : Int) != 48)), (by first | rfl | (simp; done) | (simp [*]; done)), H', ⟨by have := HJ3.out; first | omega | exact Nat.le_refl _⟩, ⟨by (with_reducible repeat (first | apply Kd.R_alloc | apply Kd.R_drewN | apply Kd.R_drew)); exact Kd.R_mono (Kd.R_far (p := ⟨gb339, 12, none⟩) (Kd.R_far (p := ⟨gb339, 11, none⟩) (Kd.R_far (p := ⟨gb339, 10, none⟩) (Kd.R_far (p := ⟨gb339, 9, none⟩) (Kd.R_far (p := ⟨gb339, 8, none⟩) (Kd.R_far (p := ⟨gb339, 7, none⟩) (Kd.R_far (p := ⟨gb339, 6, none⟩) (Kd.R_far (p := ⟨gb339, 5, none⟩) (Kd.R_far (p := ⟨gb339, 4, none⟩) (Kd.R_far (p := ⟨gb339, 3, none⟩) (Kd.R_far (p := ⟨gb339, 2, none⟩) (Kd.R_far (p := ⟨gb339, 1, none⟩) (Kd.R_far (p := ⟨gb339, 0, none⟩) (Kd.R_types HO314.out BK339.out (by decide)) (fun _ hk => hk.2) (.int .u8 t325)) (fun _ hk => hk.2) (.int .u8 t326)) (fun _ hk => hk.2) (.int .u8 t327)) (fun _ hk => hk.2) (.int .u8 t328)) (fun _ hk => hk.2) (.int .i8 t329)) (fun _ hk => hk.2) (.int .i8 t330)) (fun _ hk => hk.2) (.int .u32 t331)) (fun _ hk => hk.2) (.int .u32 t332)) (fun _ hk => hk.2) (.int .u32 t333)) (fun _ hk => hk.2) (.int .u64 t334)) (fun _ hk => hk.2) (.int .u64 t335)) (fun _ hk => hk.2) (.int .u64 t336)) (fun _ hk => hk.2) (.int .u64 t337)) (fun _ hk => trivial)⟩, ⟨by (with_reducible repeat (first | refine blk_drewN ?_ _ | refine blk_drew ?_ | refine blk_alloc ?_ _)); refine blk_far ?_ NB310_339.out _; (with_reducible repeat (first | refine blk_drewN ?_ _ | refine blk_drew ?_ | refine blk_alloc ?_ _)); refine blk_far ?_ NB310_339.out _; (with_reducible repeat (first | refine blk_drewN ?_ _ | refine blk_drew ?_ | refine blk_alloc ?_ _)); refine blk_far ?_ NB310_339.out _; (with_reducible repeat (first | refine blk_drewN ?_ _ | refine blk_drew ?_ | refine blk_alloc ?_ _)); refine blk_far ?_ NB310_339.out _; (with_reducible repeat (first | refine blk_drewN ?_ _ | refine blk_drew ?_ | refine blk_alloc ?_ _)); refine blk_far ?_ NB310_339.out _; (with_reducible repeat (first | refine blk_drewN ?_ _ | refine blk_drew ?_ | refine blk_alloc ?_ _)); refine blk_far ?_ NB310_339.out _; (with_reducible repeat (first | refine blk_drewN ?_ _ | refine blk_drew ?_ | refine blk_alloc ?_ _)); refine blk_far ?_ NB310_339.out _; (with_reducible repeat (first | refine blk_drewN ?_ _ | refine blk_drew ?_ | refine blk_alloc ?_ _)); refine blk_far ?_ NB310_339.out _; (with_reducible repeat (first | refine blk_drewN ?_ _ | refine blk_drew ?_ | refine blk_alloc ?_ _)); refine blk_far ?_ NB310_339.out _; (with_reducible repeat (first | refine blk_drewN ?_ _ | refine blk_drew ?_ | refine blk_alloc ?_ _)); refine blk_far ?_ NB310_339.out _; (with_reducible repeat (first | refine blk_drewN ?_ _ | refine blk_drew ?_ | refine blk_alloc ?_ _)); refine blk_far ?_ NB310_339.out _; (with_reducible repeat (first | refine blk_drewN ?_ _ | refine blk_drew ?_ | refine blk_alloc ?_ _)); refine blk_far ?_ NB310_339.out _; (with_reducible repeat (first | refine blk_drewN ?_ _ | refine blk_drew ?_ | refine blk_alloc ?_ _)); refine blk_far ?_ NB310_339.out _; (with_reducible repeat (first | refine blk_drewN ?_ _ | refine blk_drew ?_ | refine blk_alloc ?_ _)); exact BK310.out⟩, ⟨by (with_reducible repeat (first | refine blk_drewN ?_ _ | refine blk_drew ?_ | refine blk_alloc ?_ _)); refine blk_put (cs := #[.int .u8 t325, .int .u8 t326, .int .u8 t327, .int .u8 t328, .int .i8 t329, .int .i8 t330, .int .u32 t331, .int .u32 t332, .int .u32 t333, .int .u64 t334, .int .u64 t335, .int .u64 t336, .int .u64 0]) ?_ 12 _ rfl; (with_reducible repeat (first | refine blk_drewN ?_ _ | refine blk_drew ?_ | refine blk_alloc ?_ _)); refine blk_put (cs := #[.int .u8 t325, .int .u8 t326, .int .u8 t327, .int .u8 t328, .int .i8 t329, .int .i8 t330, .int .u32 t331, .int .u32 t332, .int .u32 t333, .int .u64 t334, .int .u64 t335, .int .u64 0, .int .u64 0]) ?_ 11 _ rfl; (with_reducible repeat (first | refine blk_drewN ?_ _ | refine blk_drew ?_ | refine blk_alloc ?_ _)); refine blk_put (cs := #[.int .u8 t325, .int .u8 t326, .int .u8 t327, .int .u8 t328, .int .i8 t329, .int .i8 t330, .int .u32 t331, .int .u32 t332, .int .u32 t333, .int .u64 t334, .int .u64 0, .int .u64 0, .int .u64 0]) ?_ 10 _ rfl; (with_reducible repeat (first | refine blk_drewN ?_ _ | refine blk_drew ?_ | refine blk_alloc ?_ _)); refine blk_put (cs := #[.int .u8 t325, .int .u8 t326, .int .u8 t327, .int .u8 t328, .int .i8 t329, .int .i8 t330, .int .u32 t331, .int .u32 t332, .int .u32 t333, .int .u64 0, .int .u64 0, .int .u64 0, .int .u64 0]) ?_ 9 _ rfl; (with_reducible repeat (first | refine blk_drewN ?_ _ | refine blk_drew ?_ | refine blk_alloc ?_ _)); refine blk_put (cs := #[.int .u8 t325, .int .u8 t326, .int .u8 t327, .int .u8 t328, .int .i8 t329, .int .i8 t330, .int .u32 t331, .int .u32 t332, .int .u32 0, .int .u64 0, .int .u64 0, .int .u64 0, .int .u64 0]) ?_ 8 _ rfl; (with_reducible repeat (first | refine blk_drewN ?_ _ | refine blk_drew ?_ | refine blk_alloc ?_ _)); refine blk_put (cs := #[.int .u8 t325, .int .u8 t326, .int .u8 t327, .int .u8 t328, .int .i8 t329, .int .i8 t330, .int .u32 t331, .int .u32 0, .int .u32 0, .int .u64 0, .int .u64 0, .int .u64 0, .int .u64 0]) ?_ 7 _ rfl; (with_reducible repeat (first | refine blk_drewN ?_ _ | refine blk_drew ?_ | refine blk_alloc ?_ _)); refine blk_put (cs := #[.int .u8 t325, .int .u8 t326, .int .u8 t327, .int .u8 t328, .int .i8 t329, .int .i8 t330, .int .u32 0, .int .u32 0, .int .u32 0, .int .u64 0, .int .u64 0, .int .u64 0, .int .u64 0]) ?_ 6 _ rfl; (with_reducible repeat (first | refine blk_drewN ?_ _ | refine blk_drew ?_ | refine blk_alloc ?_ _)); refine blk_put (cs := #[.int .u8 t325, .int .u8 t326, .int .u8 t327, .int .u8 t328, .int .i8 t329, .int .i8 0, .int .u32 0, .int .u32 0, .int .u32 0, .int .u64 0, .int .u64 0, .int .u64 0, .int .u64 0]) ?_ 5 _ rfl; (with_reducible repeat (first | refine blk_drewN ?_ _ | refine blk_drew ?_ | refine blk_alloc ?_ _)); refine blk_put (cs := #[.int .u8 t325, .int .u8 t326, .int .u8 t327, .int .u8 t328, .int .i8 0, .int .i8 0, .int .u32 0, .int .u32 0, .int .u32 0, .int .u64 0, .int .u64 0, .int .u64 0, .int .u64 0]) ?_ 4 _ rfl; (with_reducible repeat (first | refine blk_drewN ?_ _ | refine blk_drew ?_ | refine blk_alloc ?_ _)); refine blk_put (cs := #[.int .u8 t325, .int .u8 t326, .int .u8 t327, .int .u8 0, .int .i8 0, .int .i8 0, .int .u32 0, .int .u32 0, .int .u32 0, .int .u64 0, .int .u64 0, .int .u64 0, .int .u64 0]) ?_ 3 _ rfl; (with_reducible repeat (first | refine blk_drewN ?_ _ | refine blk_drew ?_ | refine blk_alloc ?_ _)); refine blk_put (cs := #[.int .u8 t325, .int .u8 t326, .int .u8 0, .int .u8 0, .int .i8 0, .int .i8 0, .int .u32 0, .int .u32 0, .int .u32 0, .int .u64 0, .int .u64 0, .int .u64 0, .int .u64 0]) ?_ 2 _ rfl; (with_reducible repeat (first | refine blk_drewN ?_ _ | refine blk_drew ?_ | refine blk_alloc ?_ _)); refine blk_put (cs := #[.int .u8 t325, .int .u8 0, .int .u8 0, .int .u8 0, .int .i8 0, .int .i8 0, .int .u32 0, .int .u32 0, .int .u32 0, .int .u64 0, .int .u64 0, .int .u64 0, .int .u64 0]) ?_ 1 _ rfl; (with_reducible repeat (first | refine blk_drewN ?_ _ | refine blk_drew ?_ | refine blk_alloc ?_ _)); refine blk_put (cs := #[.int .u8 0, .int .u8 0, .int .u8 0, .int .u8 0, .int .i8 0, .int .i8 0, .int .u32 0, .int .u32 0, .int .u32 0, .int .u64 0, .int .u64 0, .int .u64 0, .int .u64 0]) ?_ 0 _ rfl; (with_reducible repeat (first | refine blk_drewN ?_ _ | refine blk_drew ?_ | refine blk_alloc ?_ _)); exact BK339.out⟩, ⟨by repeat (first | (with_reducible first | exact HB.out | apply below_alloc | apply pw_below_drewN | apply below_drew1 | refine below_set ?_ GE310.out | refine below_set ?_ GE339.out) | exact HB.out)⟩⟩
                  · rw [if_neg c29] at H
                    have c29b0 : (t338 == 0) = false := beq_eq_false_iff_ne.mpr c29
                    have c29b1 : (t338 != 0) = true := bne_iff_ne.mpr c29
                    (first | rw [c29b0] | (simp only [i64_w, i32_w]; rw [c29b0]) | skip)
                    have H' := Aside0.mk H
                    clear H
                    go_wp2
                    go_meet
                    case rel => exact ⟨_, (true), (by first | rfl | (simp; done) | (simp [*]; done)), H', ⟨by have := HJ3.out; first | omega | exact Nat.le_refl _⟩, ⟨by (with_reducible repeat (first | apply Kd.R_alloc | apply Kd.R_drewN | apply Kd.R_drew)); exact Kd.R_mono (Kd.R_far (p := ⟨gb339, 12, none⟩) (Kd.R_far (p := ⟨gb339, 11, none⟩) (Kd.R_far (p := ⟨gb339, 10, none⟩) (Kd.R_far (p := ⟨gb339, 9, none⟩) (Kd.R_far (p := ⟨gb339, 8, none⟩) (Kd.R_far (p := ⟨gb339, 7, none⟩) (Kd.R_far (p := ⟨gb339, 6, none⟩) (Kd.R_far (p := ⟨gb339, 5, none⟩) (Kd.R_far (p := ⟨gb339, 4, none⟩) (Kd.R_far (p := ⟨gb339, 3, none⟩) (Kd.R_far (p := ⟨gb339, 2, none⟩) (Kd.R_far (p := ⟨gb339, 1, none⟩) (Kd.R_far (p := ⟨gb339, 0, none⟩) (Kd.R_types HO314.out BK339.out (by decide)) (fun _ hk => hk.2) (.int .u8 t325)) (fun _ hk => hk.2) (.int .u8 t326)) (fun _ hk => hk.2) (.int .u8 t327)) (fun _ hk => hk.2) (.int .u8 t328)) (fun _ hk => hk.2) (.int .i8 t329)) (fun _ hk => hk.2) (.int .i8 t330)) (fun _ hk => hk.2) (.int .u32 t331)) (fun _ hk => hk.2) (.int .u32 t332)) (fun _ hk => hk.2) (.int .u32 t333)) (fun _ hk => hk.2) (.int .u64 t334)) (fun _ hk => hk.2) (.int .u64 t335)) (fun _ hk => hk.2) (.int .u64 t336)) (fun _ hk => hk.2) (.int .u64 t337)) (fun _ hk => trivial)⟩, ⟨by (with_reducible repeat (first | refine blk_drewN ?_ _ | refine blk_drew ?_ | refine blk_alloc ?_ _)); refine blk_far ?_ NB310_339.out _; (with_reducible repeat (first | refine blk_drewN ?_ _ | refine blk_drew ?_ | refine blk_alloc ?_ _)); refine blk_far ?_ NB310_339.out _; (with_reducible repeat (first | refine blk_drewN ?_ _ | refine blk_drew ?_ | refine blk_alloc ?_ _)); refine blk_far ?_ NB310_339.out _; (with_reducible repeat (first | refine blk_drewN ?_ _ | refine blk_drew ?_ | refine blk_alloc ?_ _)); refine blk_far ?_ NB310_339.out _; (with_reducible repeat (first | refine blk_drewN ?_ _ | refine blk_drew ?_ | refine blk_alloc ?_ _)); refine blk_far ?_ NB310_339.out _; (with_reducible repeat (first | refine blk_drewN ?_ _ | refine blk_drew ?_ | refine blk_alloc ?_ _)); refine blk_far ?_ NB310_339.out _; (with_reducible repeat (first | refine blk_drewN ?_ _ | refine blk_drew ?_ | refine blk_alloc ?_ _)); refine blk_far ?_ NB310_339.out _; (with_reducible repeat (first | refine blk_drewN ?_ _ | refine blk_drew ?_ | refine blk_alloc ?_ _)); refine blk_far ?_ NB310_339.out _; (with_reducible repeat (first | refine blk_drewN ?_ _ | refine blk_drew ?_ | refine blk_alloc ?_ _)); refine blk_far ?_ NB310_339.out _; (with_reducible repeat (first | refine blk_drewN ?_ _ | refine blk_drew ?_ | refine blk_alloc ?_ _)); refine blk_far ?_ NB310_339.out _; (with_reducible repeat (first | refine blk_drewN ?_ _ | refine blk_drew ?_ | refine blk_alloc ?_ _)); refine blk_far ?_ NB310_339.out _; (with_reducible repeat (first | refine blk_drewN ?_ _ | refine blk_drew ?_ | refine blk_alloc ?_ _)); refine blk_far ?_ NB310_339.out _; (with_reducible repeat (first | refine blk_drewN ?_ _ | refine blk_drew ?_ | refine blk_alloc ?_ _)); refine blk_far ?_ NB310_339.out _; (with_reducible repeat (first | refine blk_drewN ?_ _ | refine blk_drew ?_ | refine blk_alloc ?_ _)); exact BK310.out⟩, ⟨by (with_reducible repeat (first | refine blk_drewN ?_ _ | refine blk_drew ?_ | refine blk_alloc ?_ _)); refine blk_put (cs := #[.int .u8 t325, .int .u8 t326, .int .u8 t327, .int .u8 t328, .int .i8 t329, .int .i8 t330, .int .u32 t331, .int .u32 t332, .int .u32 t333, .int .u64 t334, .int .u64 t335, .int .u64 t336, .int .u64 0]) ?_ 12 _ rfl; (with_reducible repeat (first | refine blk_drewN ?_ _ | refine blk_drew ?_ | refine blk_alloc ?_ _)); refine blk_put (cs := #[.int .u8 t325, .int .u8 t326, .int .u8 t327, .int .u8 t328, .int .i8 t329, .int .i8 t330, .int .u32 t331, .int .u32 t332, .int .u32 t333, .int .u64 t334, .int .u64 t335, .int .u64 0, .int .u64 0]) ?_ 11 _ rfl; (with_reducible repeat (first | refine blk_drewN ?_ _ | refine blk_drew ?_ | refine blk_alloc ?_ _)); refine blk_put (cs := #[.int .u8 t325, .int .u8 t326, .int .u8 t327, .int .u8 t328, .int .i8 t329, .int .i8 t330, .int .u32 t331, .int .u32 t332, .int .u32 t333, .int .u64 t334, .int .u64 0, .int .u64 0, .int .u64 0]) ?_ 10 _ rfl; (with_reducible repeat (first | refine blk_drewN ?_ _ | refine blk_drew ?_ | refine blk_alloc ?_ _)); refine blk_put (cs := #[.int .u8 t325, .int .u8 t326, .int .u8 t327, .int .u8 t328, .int .i8 t329, .int .i8 t330, .int .u32 t331, .int .u32 t332, .int .u32 t333, .int .u64 0, .int .u64 0, .int .u64 0, .int .u64 0]) ?_ 9 _ rfl; (with_reducible repeat (first | refine blk_drewN ?_ _ | refine blk_drew ?_ | refine blk_alloc ?_ _)); refine blk_put (cs := #[.int .u8 t325, .int .u8 t326, .int .u8 t327, .int .u8 t328, .int .i8 t329, .int .i8 t330, .int .u32 t331, .int .u32 t332, .int .u32 0, .int .u64 0, .int .u64 0, .int .u64 0, .int .u64 0]) ?_ 8 _ rfl; (with_reducible repeat (first | refine blk_drewN ?_ _ | refine blk_drew ?_ | refine blk_alloc ?_ _)); refine blk_put (cs := #[.int .u8 t325, .int .u8 t326, .int .u8 t327, .int .u8 t328, .int .i8 t329, .int .i8 t330, .int .u32 t331, .int .u32 0, .int .u32 0, .int .u64 0, .int .u64 0, .int .u64 0, .int .u64 0]) ?_ 7 _ rfl; (with_reducible repeat (first | refine blk_drewN ?_ _ | refine blk_drew ?_ | refine blk_alloc ?_ _)); refine blk_put (cs := #[.int .u8 t325, .int .u8 t326, .int .u8 t327, .int .u8 t328, .int .i8 t329, .int .i8 t330, .int .u32 0, .int .u32 0, .int .u32 0, .int .u64 0, .int .u64 0, .int .u64 0, .int .u64 0]) ?_ 6 _ rfl; (with_reducible repeat (first | refine blk_drewN ?_ _ | refine blk_drew ?_ | refine blk_alloc ?_ _)); refine blk_put (cs := #[.int .u8 t325, .int .u8 t326, .int .u8 t327, .int .u8 t328, .int .i8 t329, .int .i8 0, .int .u32 0, .int .u32 0, .int .u32 0, .int .u64 0, .int .u64 0, .int .u64 0, .int .u64 0]) ?_ 5 _ rfl; (with_reducible repeat (first | refine blk_drewN ?_ _ | refine blk_drew ?_ | refine blk_alloc ?_ _)); refine blk_put (cs := #[.int .u8 t325, .int .u8 t326, .int .u8 t327, .int .u8 t328, .int .i8 0, .int .i8 0, .int .u32 0, .int .u32 0, .int .u32 0, .int .u64 0, .int .u64 0, .int .u64 0, .int .u64 0]) ?_ 4 _ rfl; (with_reducible repeat (first | refine blk_drewN ?_ _ | refine blk_drew ?_ | refine blk_alloc ?_ _)); refine blk_put (cs := #[.int .u8 t325, .int .u8 t326, .int .u8 t327, .int .u8 0, .int .i8 0, .int .i8 0, .int .u32 0, .int .u32 0, .int .u32 0, .int .u64 0, .int .u64 0, .int .u64 0, .int .u64 0]) ?_ 3 _ rfl; (with_reducible repeat (first | refine blk_drewN ?_ _ | refine blk_drew ?_ | refine blk_alloc ?_ _)); refine blk_put (cs := #[.int .u8 t325, .int .u8 t326, .int .u8 0, .int .u8 0, .int .i8 0, .int .i8 0, .int .u32 0, .int .u32 0, .int .u32 0, .int .u64 0, .int .u64 0, .int .u64 0, .int .u64 0]) ?_ 2 _ rfl; (with_reducible repeat (first | refine blk_drewN ?_ _ | refine blk_drew ?_ | refine blk_alloc ?_ _)); refine blk_put (cs := #[.int .u8 t325, .int .u8 0, .int .u8 0, .int .u8 0, .int .i8 0, .int .i8 0, .int .u32 0, .int .u32 0, .int .u32 0, .int .u64 0, .int .u64 0, .int .u64 0, .int .u64 0]) ?_ 1 _ rfl; (with_reducible repeat (first | refine blk_drewN ?_ _ | refine blk_drew ?_ | refine blk_alloc ?_ _)); refine blk_put (cs := #[.int .u8 0, .int .u8 0, .int .u8 0, .int .u8 0, .int .i8 0, .int .i8 0, .int .u32 0, .int .u32 0, .int .u32 0, .int .u64 0, .int .u64 0, .int .u64 0, .int .u64 0]) ?_ 0 _ rfl; (with_reducible repeat (first | refine blk_drewN ?_ _ | refine blk_drew ?_ | refine blk_alloc ?_ _)); exact BK339.out⟩, ⟨by repeat (first | (with_reducible first | exact HB.out | apply below_alloc | apply pw_below_drewN | apply below_drew1 | refine below_set ?_ GE310.out | refine below_set ?_ GE339.out) | exact HB.out)⟩⟩
                case rest =>
                  clear HC18
                  try clear c1
                  try clear c2
                  try clear p2
                  try clear c3
                  try clear c6
                  try clear c6b0
                  try clear c6b1
                  try clear c7
                  try clear c8
                  try clear c9
                  try clear c12
                  try clear c14
                  try clear c14b0
                  try clear c14b1
                  try clear c15
                  try clear c16
                  try clear c27
                  try clear c29
                  try clear c29b0
                  try clear c29b1
                  try clear c30
                  try clear c30b0
                  try clear c31
                  try clear c34
                  try clear hcz12_0
                  try clear hcz12_1
                  try clear hcz12_10
                  try clear hcz12_11
                  try clear hcz12_12
                  try clear hcz12_2
                  try clear hcz12_3
                  try clear hcz12_4
                  try clear hcz12_5
                  try clear hcz12_6
                  try clear hcz12_7
                  try clear hcz12_8
                  try clear hcz12_9
                  try clear hcz28_0
                  try clear hcz28_1
                  try clear hcz28_10
                  try clear hcz28_11
                  try clear hcz28_12
                  try clear hcz28_2
                  try clear hcz28_3
                  try clear hcz28_4
                  try clear hcz28_5
                  try clear hcz28_6
                  try clear hcz28_7
                  try clear hcz28_8
                  try clear hcz28_9
                  try clear hcz32_0
                  try clear hcz32_1
                  try clear hcz32_10
                  try clear hcz32_11
                  try clear hcz32_12
                  try clear hcz32_2
                  try clear hcz32_3
                  try clear hcz32_4
                  try clear hcz32_5
                  try clear hcz32_6
                  try clear hcz32_7
                  try clear hcz32_8
                  try clear hcz32_9
                  try clear hcz33_0
                  try clear hcz33_1
                  try clear hcz33_10
                  try clear hcz33_11
                  try clear hcz33_12
                  try clear hcz33_2
                  try clear hcz33_3
                  try clear hcz33_4
                  try clear hcz33_5
                  try clear hcz33_6
                  try clear hcz33_7
                  try clear hcz33_8
                  try clear hcz33_9
                  try clear hcz35_0
                  try clear hcz35_1
                  try clear hcz35_10
                  try clear hcz35_11
                  try clear hcz35_12
                  try clear hcz35_2
                  try clear hcz35_3
                  try clear hcz35_4
                  try clear hcz35_5
                  try clear hcz35_6
                  try clear hcz35_7
                  try clear hcz35_8
                  try clear hcz35_9
                  try clear hcz36_0
                  try clear hcz36_1
                  try clear hcz36_10
                  try clear hcz36_11
                  try clear hcz36_12
                  try clear hcz36_2
                  try clear hcz36_3
                  try clear hcz36_4
                  try clear hcz36_5
                  try clear hcz36_6
                  try clear hcz36_7
                  try clear hcz36_8
                  try clear hcz36_9
                  try clear hfz12_0
                  try clear hfz12_1
                  try clear hfz12_10
                  try clear hfz12_11
                  try clear hfz12_12
                  try clear hfz12_2
                  try clear hfz12_3
                  try clear hfz12_4
                  try clear hfz12_5
                  try clear hfz12_6
                  try clear hfz12_7
                  try clear hfz12_8
                  try clear hfz12_9
                  try clear hfz28_0
                  try clear hfz28_1
                  try clear hfz28_10
                  try clear hfz28_11
                  try clear hfz28_12
                  try clear hfz28_2
                  try clear hfz28_3
                  try clear hfz28_4
                  try clear hfz28_5
                  try clear hfz28_6
                  try clear hfz28_7
                  try clear hfz28_8
                  try clear hfz28_9
                  try clear hfz32_0
                  try clear hfz32_1
                  try clear hfz32_10
                  try clear hfz32_11
                  try clear hfz32_12
                  try clear hfz32_2
                  try clear hfz32_3
                  try clear hfz32_4
                  try clear hfz32_5
                  try clear hfz32_6
                  try clear hfz32_7
                  try clear hfz32_8
                  try clear hfz32_9
                  try clear hfz33_0
                  try clear hfz33_1
                  try clear hfz33_10
                  try clear hfz33_11
                  try clear hfz33_12
                  try clear hfz33_2
                  try clear hfz33_3
                  try clear hfz33_4
                  try clear hfz33_5
                  try clear hfz33_6
                  try clear hfz33_7
                  try clear hfz33_8
                  try clear hfz33_9
                  try clear hfz35_0
                  try clear hfz35_1
                  try clear hfz35_10
                  try clear hfz35_11
                  try clear hfz35_12
                  try clear hfz35_2
                  try clear hfz35_3
                  try clear hfz35_4
                  try clear hfz35_5
                  try clear hfz35_6
                  try clear hfz35_7
                  try clear hfz35_8
                  try clear hfz35_9
                  try clear hfz36_0
                  try clear hfz36_1
                  try clear hfz36_10
                  try clear hfz36_11
                  try clear hfz36_12
                  try clear hfz36_2
                  try clear hfz36_3
                  try clear hfz36_4
                  try clear hfz36_5
                  try clear hfz36_6
                  try clear hfz36_7
                  try clear hfz36_8
                  try clear hfz36_9
                  try clear p2
                  obtain ⟨kq, x53_17, rfl, HA, HJ17, HO_7, BK310, BK339, HB⟩ := hcut
                  cases kq with
                  | zero => exact absurd HA.out (by simp [chronobatelaw03_PacketBack.j1])
                  | succ kj17 =>
                    have H := HA.out
                    clear HA
                    simp only [chronobatelaw03_PacketBack.j1] at H
                    by_cases c37 : x53_17 = true
                    · subst c37
                      have H1 : (some false) = some r := by rw [if_pos rfl] at H; exact H
                      clear H
                      have H := H1
                      clear H1
                      obtain rfl := Option.some.inj H
                      go_wp2
                      go_ret
                      exact ⟨by first | rfl | (simp [errW_none, errW_some] <;> rfl) | (simp [*, errW_none, errW_some] <;> rfl), by repeat (first | (with_reducible first | exact HB.out | apply below_alloc | apply pw_below_drewN | apply below_drew1 | refine below_set ?_ GE310.out | refine below_set ?_ GE339.out) | exact HB.out)⟩
                    · replace c37 := Bool.eq_false_iff.mpr c37
                      subst c37
                      have H1 : (if 47 ≤ (t312.length : Int) then ((packet_Get.f kj17 (t312.take 47)).bind fun bt344 => (if bt344.2.2.2.2.2.2.2.2.2.2.2.2.2 = 5 then (chronobatelaw03_PacketBack.j2 kj17 l1) else (some false))) else (none)) = some r := by rw [if_neg (show ¬ (false = true) by decide)] at H; exact H
                      clear H
                      have H := H1
                      clear H1
                      by_cases c38 : 47 ≤ (t312.length : Int)
                      · rw [if_pos c38] at H
                        have c38b0 := eq_true c38
                        have c38b1 : decide (47 ≤ (t312.length : Int)) = true := decide_eq_true c38
                        clear c38
                        obtain ⟨y340, hy340⟩ : ∃ y_ : List Int, y_ = (t312.take 47) := ⟨_, rfl⟩
                        replace H : ((packet_Get.f kj17 y340).bind fun bt344 => (if bt344.2.2.2.2.2.2.2.2.2.2.2.2.2 = 5 then (chronobatelaw03_PacketBack.j2 kj17 l1) else (some false))) = some r := by first | (rw [hy340]; with_reducible exact H) | (have H2_ := (Option.bind_some _ _).symm.trans H; rw [hy340]; with_reducible exact H2_) | (have H2_ := (Option.bind_some _ _).symm.trans H; with_reducible exact H2_) | with_reducible exact H | (rw [hy340]; exact H) | exact H
                        have Ny340 := Aside0.mk hy340
                        clear hy340
                        replace H := Option.bind_eq_some_iff.mp H
                        obtain ⟨⟨t344, t345, t346, t347, t348, t349, t350, t351, t352, t353, t354, t355, t356, t357⟩, A390, H⟩ := H
                        replace H : (if t357 = 5 then (chronobatelaw03_PacketBack.j2 kj17 l1) else (some false)) = some r := H
                        have A39 := Aside0.mk A390
                        clear A390
                        by_cases c40 : t357 = 5
                        · rw [if_pos c40] at H
                          have c40b0 : (t357 == 5) = true := beq_iff_eq.mpr c40
                          have c40b1 : (t357 != 5) = false := bne_eq_false_iff_eq.mpr c40
                          clear c40
                          have H' := Aside0.mk H
                          clear H
                          have q41 : (47 : Int) ≤ ((t312.length : Int) : Int) := of_decide_eq_true (by first | (with_reducible assumption) | assumption)
                          obtain ⟨i041, hi041, _, hsz41, _⟩ := info_parts info5
                          have hroom41 : t312.length ≤ co22 := (Kd.R_reads' HO_7.out).2.1
                          have hC41 : Kd.C (Kd.int .u8) _ Ao22 t312.length t312 := (Kd.R_reads' HO_7.out).2.2
                          have hcut41 := cut_to (P := Try.prog) 27 5 .i64 Try.underlying27 hi041 Ao22 t312.length co22 47 (by omega) q41 hroom41
                          have hr41 := Kd.C_take (m := 47) hC41 (by omega)
                          have hy41 : y340.length = (47 : Int).toNat := (by rw [Ny340.out, List.length_take]; omega)
                          rw [← Ny340.out] at hr41
                          rw [← hy41] at hcut41
                          have HR343 := Aside0.mk hr41
                          have HC343 := Aside0.mk (show y340.length ≤ co22 from by omega)
                          clear hr41 hC41 hroom41 hi041 hsz41
                          have KY41 := Aside0.mk hy41
                          clear hy41
                          have KL41 := Aside0.mk (show 47 ≤ t312.length from by omega)
                          replace q41 := eq_true q41
                          go_wp2_with (first | ((with_reducible refine gate_callee (f := 15) rfl ?_); refine goesL_ (some 57) rfl rfl Try.func15 (by kernel_rfl) rfl #[.slice Ao22 y340.length co22] rfl (by (try simp only [List.map_toArray, List.map_cons, List.map_nil]); first | done | rfl | (simp only [List.length_drop, List.length_take]; rfl)) ?_; (with_reducible refine (packet_Get.calls kj17 _ _ y340 t344 t345 t346 t347 t348 t349 t350 t351 t352 t353 t354 t355 t356 t357 _ ?side1 ?side2 A39.out).mono ?_); (case side1 => repeat (first | exact (by repeat (first | (with_reducible exact HR343.out) | (with_reducible refine Kd.C_alloc ?_ _) | (with_reducible refine Kd.C_drewN ?_ _) | (with_reducible refine Kd.C_drew ?_) | exact HR343.out)) | (with_reducible refine Kd.C_alloc ?_ _) | (with_reducible refine Kd.C_drewN ?_ _) | (with_reducible refine Kd.C_drew ?_))); (case side2 => exact HC343.out); rintro e w42 ⟨rfl, hb⟩; refine ⟨_, rfl, ?_⟩; have n0_ := Aside0.mk (Kd.R_below (by (with_reducible repeat (first | apply Kd.R_alloc | apply Kd.R_drewN | apply Kd.R_drew)); exact HO_7.out) hb); have n1_ := Aside0.mk (blk_below (g := gb310) (o := .cells #[.int .u8 a0_0, .int .u8 a0_1, .int .u8 a0_2, .int .u8 a0_3, .int .i8 a0_4, .int .i8 a0_5, .int .u32 a0_6, .int .u32 a0_7, .int .u32 a0_8, .int .u64 a0_9, .int .u64 a0_10, .int .u64 a0_11, .int .u64 a0_12] 26 (0, 0)) (by (with_reducible repeat (first | refine blk_drewN ?_ _ | refine blk_drew ?_ | refine blk_alloc ?_ _)); exact BK310.out) hb); have n2_ := Aside0.mk (blk_below (g := gb339) (o := .cells #[.int .u8 t325, .int .u8 t326, .int .u8 t327, .int .u8 t328, .int .i8 t329, .int .i8 t330, .int .u32 t331, .int .u32 t332, .int .u32 t333, .int .u64 t334, .int .u64 t335, .int .u64 t336, .int .u64 t337] 26 (0, 0)) (by (with_reducible repeat (first | refine blk_drewN ?_ _ | refine blk_drew ?_ | refine blk_alloc ?_ _)); exact BK339.out) hb); have n3_ := Aside0.mk (Kd.C_below (by repeat (first | (with_reducible exact HR343.out) | (with_reducible refine Kd.C_alloc ?_ _) | (with_reducible refine Kd.C_drewN ?_ _) | (with_reducible refine Kd.C_drew ?_) | exact HR343.out)) hb); have n4_ := Aside0.mk (below_step (by repeat (first | (with_reducible first | exact HB.out | apply below_alloc | apply pw_below_drewN | apply below_drew1 | refine below_set ?_ GE310.out | refine below_set ?_ GE339.out) | exact HB.out)) hb); clear HO_7; clear BK310; clear BK339; clear HR343; clear HB; have HO_7 := n0_; have BK310 := n1_; have BK339 := n2_; have HR343 := n3_; have HB := n4_; clear n0_ n1_ n2_ n3_ n4_; (try clear hb); (try clear hb2); (try clear hk); (try clear hi)) | ((with_reducible refine gate_dst (N := 11) rfl ?_); (try (refine gate_guard (by rfl) ?_; dsimp only)); refine box_event ?hg (N := 11) ?hd (cs := #[.int .u8 0, .int .u8 0, .int .u8 0, .int .u8 0, .int .i8 0, .int .i8 0, .int .u32 0, .int .u32 0, .int .u32 0, .int .u64 0, .int .u64 0, .int .u64 0, .int .u64 0]) (t := 26) ?hr ?_; (case hd => rfl); (case hg => rfl); (case hr => first | (go_simp; done) | (go_simp; rfl)); intro gb358 hg w43 hbox hb; have n0_ := Aside0.mk (Kd.R_below (by (with_reducible repeat (first | apply Kd.R_alloc | apply Kd.R_drewN | apply Kd.R_drew)); exact HO_7.out) hb); have n1_ := Aside0.mk (blk_below (g := gb310) (o := .cells #[.int .u8 a0_0, .int .u8 a0_1, .int .u8 a0_2, .int .u8 a0_3, .int .i8 a0_4, .int .i8 a0_5, .int .u32 a0_6, .int .u32 a0_7, .int .u32 a0_8, .int .u64 a0_9, .int .u64 a0_10, .int .u64 a0_11, .int .u64 a0_12] 26 (0, 0)) (by (with_reducible repeat (first | refine blk_drewN ?_ _ | refine blk_drew ?_ | refine blk_alloc ?_ _)); exact BK310.out) hb); have n2_ := Aside0.mk (blk_below (g := gb339) (o := .cells #[.int .u8 t325, .int .u8 t326, .int .u8 t327, .int .u8 t328, .int .i8 t329, .int .i8 t330, .int .u32 t331, .int .u32 t332, .int .u32 t333, .int .u64 t334, .int .u64 t335, .int .u64 t336, .int .u64 t337] 26 (0, 0)) (by (with_reducible repeat (first | refine blk_drewN ?_ _ | refine blk_drew ?_ | refine blk_alloc ?_ _)); exact BK339.out) hb); have n3_ := Aside0.mk (Kd.C_below (by repeat (first | (with_reducible exact HR343.out) | (with_reducible refine Kd.C_alloc ?_ _) | (with_reducible refine Kd.C_drewN ?_ _) | (with_reducible refine Kd.C_drew ?_) | exact HR343.out)) hb); have n4_ := Aside0.mk (below_step (by repeat (first | (with_reducible first | exact HB.out | apply below_alloc | apply pw_below_drewN | apply below_drew1 | refine below_set ?_ GE310.out | refine below_set ?_ GE339.out) | exact HB.out)) hb); have n5_ := Aside0.mk (hbox); have n6_ := Aside0.mk ((by rw [hg]; exact (below_size (by repeat (first | (with_reducible first | exact HB.out | apply below_alloc | apply pw_below_drewN | apply below_drew1 | refine below_set ?_ GE310.out | refine below_set ?_ GE339.out) | exact HB.out))) : w.heap.size ≤ gb358)); have n7_ := Aside0.mk ((by rw [hg]; exact (below_size (by repeat (first | (with_reducible first | exact HB.out | apply below_alloc | apply pw_below_drewN | apply below_drew1 | refine below_set ?_ GE310.out | refine below_set ?_ GE339.out) | exact HB.out))) : w.heap.size ≤ gb358)); have n8_ := Aside0.mk ((by rw [hg]; exact Nat.ne_of_lt (blk_lt (g := gb310) (o := .cells #[.int .u8 a0_0, .int .u8 a0_1, .int .u8 a0_2, .int .u8 a0_3, .int .i8 a0_4, .int .i8 a0_5, .int .u32 a0_6, .int .u32 a0_7, .int .u32 a0_8, .int .u64 a0_9, .int .u64 a0_10, .int .u64 a0_11, .int .u64 a0_12] 26 (0, 0)) (by (with_reducible repeat (first | refine blk_drewN ?_ _ | refine blk_drew ?_ | refine blk_alloc ?_ _)); exact BK310.out)) : gb310 ≠ gb358)); have n9_ := Aside0.mk ((by rw [hg]; exact Nat.ne_of_gt (blk_lt (g := gb310) (o := .cells #[.int .u8 a0_0, .int .u8 a0_1, .int .u8 a0_2, .int .u8 a0_3, .int .i8 a0_4, .int .i8 a0_5, .int .u32 a0_6, .int .u32 a0_7, .int .u32 a0_8, .int .u64 a0_9, .int .u64 a0_10, .int .u64 a0_11, .int .u64 a0_12] 26 (0, 0)) (by (with_reducible repeat (first | refine blk_drewN ?_ _ | refine blk_drew ?_ | refine blk_alloc ?_ _)); exact BK310.out)) : gb358 ≠ gb310)); have n10_ := Aside0.mk ((by rw [hg]; exact Nat.ne_of_lt (blk_lt (g := gb339) (o := .cells #[.int .u8 t325, .int .u8 t326, .int .u8 t327, .int .u8 t328, .int .i8 t329, .int .i8 t330, .int .u32 t331, .int .u32 t332, .int .u32 t333, .int .u64 t334, .int .u64 t335, .int .u64 t336, .int .u64 t337] 26 (0, 0)) (by (with_reducible repeat (first | refine blk_drewN ?_ _ | refine blk_drew ?_ | refine blk_alloc ?_ _)); exact BK339.out)) : gb339 ≠ gb358)); have n11_ := Aside0.mk ((by rw [hg]; exact Nat.ne_of_gt (blk_lt (g := gb339) (o := .cells #[.int .u8 t325, .int .u8 t326, .int .u8 t327, .int .u8 t328, .int .i8 t329, .int .i8 t330, .int .u32 t331, .int .u32 t332, .int .u32 t333, .int .u64 t334, .int .u64 t335, .int .u64 t336, .int .u64 t337] 26 (0, 0)) (by (with_reducible repeat (first | refine blk_drewN ?_ _ | refine blk_drew ?_ | refine blk_alloc ?_ _)); exact BK339.out)) : gb358 ≠ gb339)); clear HO_7; clear BK310; clear BK339; clear HR343; clear HB; have HO_7 := n0_; have BK310 := n1_; have BK339 := n2_; have HR343 := n3_; have HB := n4_; have BK358 := n5_; have GW358 := n6_; have GE358 := n7_; have NB310_358 := n8_; have NB358_310 := n9_; have NB339_358 := n10_; have NB358_339 := n11_; clear n0_ n1_ n2_ n3_ n4_ n5_ n6_ n7_ n8_ n9_ n10_ n11_; clear hb hbox hg; have hnb44 := NB358_310.out; have hnc44 := NB310_358.out; have hnb45 := NB358_339.out; have hnc45 := NB339_358.out; have hcz46_0 : w43.cell? ⟨gb358, 0, none⟩ = some (.int .u8 0) := (blk_cell BK358.out 0).trans rfl; have hcz46_1 : w43.cell? ⟨gb358, 1, none⟩ = some (.int .u8 0) := (blk_cell BK358.out 1).trans rfl; have hcz46_2 : w43.cell? ⟨gb358, 2, none⟩ = some (.int .u8 0) := (blk_cell BK358.out 2).trans rfl; have hcz46_3 : w43.cell? ⟨gb358, 3, none⟩ = some (.int .u8 0) := (blk_cell BK358.out 3).trans rfl; have hcz46_4 : w43.cell? ⟨gb358, 4, none⟩ = some (.int .i8 0) := (blk_cell BK358.out 4).trans rfl; have hcz46_5 : w43.cell? ⟨gb358, 5, none⟩ = some (.int .i8 0) := (blk_cell BK358.out 5).trans rfl; have hcz46_6 : w43.cell? ⟨gb358, 6, none⟩ = some (.int .u32 0) := (blk_cell BK358.out 6).trans rfl; have hcz46_7 : w43.cell? ⟨gb358, 7, none⟩ = some (.int .u32 0) := (blk_cell BK358.out 7).trans rfl; have hcz46_8 : w43.cell? ⟨gb358, 8, none⟩ = some (.int .u32 0) := (blk_cell BK358.out 8).trans rfl; have hcz46_9 : w43.cell? ⟨gb358, 9, none⟩ = some (.int .u64 0) := (blk_cell BK358.out 9).trans rfl; have hcz46_10 : w43.cell? ⟨gb358, 10, none⟩ = some (.int .u64 0) := (blk_cell BK358.out 10).trans rfl; have hcz46_11 : w43.cell? ⟨gb358, 11, none⟩ = some (.int .u64 0) := (blk_cell BK358.out 11).trans rfl; have hcz46_12 : w43.cell? ⟨gb358, 12, none⟩ = some (.int .u64 0) := (blk_cell BK358.out 12).trans rfl; have hfz46_0 := blk_frozen BK358.out 0; have hfz46_1 := blk_frozen BK358.out 1; have hfz46_2 := blk_frozen BK358.out 2; have hfz46_3 := blk_frozen BK358.out 3; have hfz46_4 := blk_frozen BK358.out 4; have hfz46_5 := blk_frozen BK358.out 5; have hfz46_6 := blk_frozen BK358.out 6; have hfz46_7 := blk_frozen BK358.out 7; have hfz46_8 := blk_frozen BK358.out 8; have hfz46_9 := blk_frozen BK358.out 9; have hfz46_10 := blk_frozen BK358.out 10; have hfz46_11 := blk_frozen BK358.out 11; have hfz46_12 := blk_frozen BK358.out 12))
                          go_meet
                          case rel => exact ⟨_, H', ⟨by have := HJ3.out; have := HJ17.out; first | omega | exact Nat.le_refl _⟩, ⟨by (with_reducible repeat (first | refine blk_drewN ?_ _ | refine blk_drew ?_ | refine blk_alloc ?_ _)); refine blk_far ?_ NB310_358.out _; (with_reducible repeat (first | refine blk_drewN ?_ _ | refine blk_drew ?_ | refine blk_alloc ?_ _)); refine blk_far ?_ NB310_358.out _; (with_reducible repeat (first | refine blk_drewN ?_ _ | refine blk_drew ?_ | refine blk_alloc ?_ _)); refine blk_far ?_ NB310_358.out _; (with_reducible repeat (first | refine blk_drewN ?_ _ | refine blk_drew ?_ | refine blk_alloc ?_ _)); refine blk_far ?_ NB310_358.out _; (with_reducible repeat (first | refine blk_drewN ?_ _ | refine blk_drew ?_ | refine blk_alloc ?_ _)); refine blk_far ?_ NB310_358.out _; (with_reducible repeat (first | refine blk_drewN ?_ _ | refine blk_drew ?_ | refine blk_alloc ?_ _)); refine blk_far ?_ NB310_358.out _; (with_reducible repeat (first | refine blk_drewN ?_ _ | refine blk_drew ?_ | refine blk_alloc ?_ _)); refine blk_far ?_ NB310_358.out _; (with_reducible repeat (first | refine blk_drewN ?_ _ | refine blk_drew ?_ | refine blk_alloc ?_ _)); refine blk_far ?_ NB310_358.out _; (with_reducible repeat (first | refine blk_drewN ?_ _ | refine blk_drew ?_ | refine blk_alloc ?_ _)); refine blk_far ?_ NB310_358.out _; (with_reducible repeat (first | refine blk_drewN ?_ _ | refine blk_drew ?_ | refine blk_alloc ?_ _)); refine blk_far ?_ NB310_358.out _; (with_reducible repeat (first | refine blk_drewN ?_ _ | refine blk_drew ?_ | refine blk_alloc ?_ _)); refine blk_far ?_ NB310_358.out _; (with_reducible repeat (first | refine blk_drewN ?_ _ | refine blk_drew ?_ | refine blk_alloc ?_ _)); refine blk_far ?_ NB310_358.out _; (with_reducible repeat (first | refine blk_drewN ?_ _ | refine blk_drew ?_ | refine blk_alloc ?_ _)); refine blk_far ?_ NB310_358.out _; (with_reducible repeat (first | refine blk_drewN ?_ _ | refine blk_drew ?_ | refine blk_alloc ?_ _)); exact BK310.out⟩, ⟨by repeat (first | (with_reducible first | exact HB.out | apply below_alloc | apply pw_below_drewN | apply below_drew1 | refine below_set ?_ GE310.out | refine below_set ?_ GE339.out | refine below_set ?_ GE358.out) | exact HB.out)⟩⟩
                        · rw [if_neg c40] at H
                          have c40b0 : (t357 == 5) = false := beq_eq_false_iff_ne.mpr c40
                          have c40b1 : (t357 != 5) = true := bne_iff_ne.mpr c40
                          obtain rfl := Option.some.inj H
                          have q47 : (47 : Int) ≤ ((t312.length : Int) : Int) := of_decide_eq_true (by first | (with_reducible assumption) | assumption)
                          obtain ⟨i047, hi047, _, hsz47, _⟩ := info_parts info5
                          have hroom47 : t312.length ≤ co22 := (Kd.R_reads' HO_7.out).2.1
                          have hC47 : Kd.C (Kd.int .u8) _ Ao22 t312.length t312 := (Kd.R_reads' HO_7.out).2.2
                          have hcut47 := cut_to (P := Try.prog) 27 5 .i64 Try.underlying27 hi047 Ao22 t312.length co22 47 (by omega) q47 hroom47
                          have hr47 := Kd.C_take (m := 47) hC47 (by omega)
                          have hy47 : y340.length = (47 : Int).toNat := (by rw [Ny340.out, List.length_take]; omega)
                          rw [← Ny340.out] at hr47
                          rw [← hy47] at hcut47
                          have HR343 := Aside0.mk hr47
                          have HC343 := Aside0.mk (show y340.length ≤ co22 from by omega)
                          clear hr47 hC47 hroom47 hi047 hsz47
                          have KY47 := Aside0.mk hy47
                          clear hy47
                          have KL47 := Aside0.mk (show 47 ≤ t312.length from by omega)
                          replace q47 := eq_true q47
                          go_wp2_with (first | ((with_reducible refine gate_callee (f := 15) rfl ?_); refine goesL_ (some 57) rfl rfl Try.func15 (by kernel_rfl) rfl #[.slice Ao22 y340.length co22] rfl (by (try simp only [List.map_toArray, List.map_cons, List.map_nil]); first | done | rfl | (simp only [List.length_drop, List.length_take]; rfl)) ?_; (with_reducible refine (packet_Get.calls kj17 _ _ y340 t344 t345 t346 t347 t348 t349 t350 t351 t352 t353 t354 t355 t356 t357 _ ?side1 ?side2 A39.out).mono ?_); (case side1 => repeat (first | exact (by repeat (first | (with_reducible exact HR343.out) | (with_reducible refine Kd.C_alloc ?_ _) | (with_reducible refine Kd.C_drewN ?_ _) | (with_reducible refine Kd.C_drew ?_) | exact HR343.out)) | (with_reducible refine Kd.C_alloc ?_ _) | (with_reducible refine Kd.C_drewN ?_ _) | (with_reducible refine Kd.C_drew ?_))); (case side2 => exact HC343.out); rintro e w48 ⟨rfl, hb⟩; refine ⟨_, rfl, ?_⟩; have n0_ := Aside0.mk (Kd.R_below (by (with_reducible repeat (first | apply Kd.R_alloc | apply Kd.R_drewN | apply Kd.R_drew)); exact HO_7.out) hb); have n1_ := Aside0.mk (blk_below (g := gb310) (o := .cells #[.int .u8 a0_0, .int .u8 a0_1, .int .u8 a0_2, .int .u8 a0_3, .int .i8 a0_4, .int .i8 a0_5, .int .u32 a0_6, .int .u32 a0_7, .int .u32 a0_8, .int .u64 a0_9, .int .u64 a0_10, .int .u64 a0_11, .int .u64 a0_12] 26 (0, 0)) (by (with_reducible repeat (first | refine blk_drewN ?_ _ | refine blk_drew ?_ | refine blk_alloc ?_ _)); exact BK310.out) hb); have n2_ := Aside0.mk (blk_below (g := gb339) (o := .cells #[.int .u8 t325, .int .u8 t326, .int .u8 t327, .int .u8 t328, .int .i8 t329, .int .i8 t330, .int .u32 t331, .int .u32 t332, .int .u32 t333, .int .u64 t334, .int .u64 t335, .int .u64 t336, .int .u64 t337] 26 (0, 0)) (by (with_reducible repeat (first | refine blk_drewN ?_ _ | refine blk_drew ?_ | refine blk_alloc ?_ _)); exact BK339.out) hb); have n3_ := Aside0.mk (Kd.C_below (by repeat (first | (with_reducible exact HR343.out) | (with_reducible refine Kd.C_alloc ?_ _) | (with_reducible refine Kd.C_drewN ?_ _) | (with_reducible refine Kd.C_drew ?_) | exact HR343.out)) hb); have n4_ := Aside0.mk (below_step (by repeat (first | (with_reducible first | exact HB.out | apply below_alloc | apply pw_below_drewN | apply below_drew1 | refine below_set ?_ GE310.out | refine below_set ?_ GE339.out) | exact HB.out)) hb); clear HO_7; clear BK310; clear BK339; clear HR343; clear HB; have HO_7 := n0_; have BK310 := n1_; have BK339 := n2_; have HR343 := n3_; have HB := n4_; clear n0_ n1_ n2_ n3_ n4_; (try clear hb); (try clear hb2); (try clear hk); (try clear hi)) | ((with_reducible refine gate_dst (N := 11) rfl ?_); (try (refine gate_guard (by rfl) ?_; dsimp only)); refine box_event ?hg (N := 11) ?hd (cs := #[.int .u8 0, .int .u8 0, .int .u8 0, .int .u8 0, .int .i8 0, .int .i8 0, .int .u32 0, .int .u32 0, .int .u32 0, .int .u64 0, .int .u64 0, .int .u64 0, .int .u64 0]) (t := 26) ?hr ?_; (case hd => rfl); (case hg => rfl); (case hr => first | (go_simp; done) | (go_simp; rfl)); intro gb358 hg w49 hbox hb; have n0_ := Aside0.mk (Kd.R_below (by (with_reducible repeat (first | apply Kd.R_alloc | apply Kd.R_drewN | apply Kd.R_drew)); exact HO_7.out) hb); have n1_ := Aside0.mk (blk_below (g := gb310) (o := .cells #[.int .u8 a0_0, .int .u8 a0_1, .int .u8 a0_2, .int .u8 a0_3, .int .i8 a0_4, .int .i8 a0_5, .int .u32 a0_6, .int .u32 a0_7, .int .u32 a0_8, .int .u64 a0_9, .int .u64 a0_10, .int .u64 a0_11, .int .u64 a0_12] 26 (0, 0)) (by (with_reducible repeat (first | refine blk_drewN ?_ _ | refine blk_drew ?_ | refine blk_alloc ?_ _)); exact BK310.out) hb); have n2_ := Aside0.mk (blk_below (g := gb339) (o := .cells #[.int .u8 t325, .int .u8 t326, .int .u8 t327, .int .u8 t328, .int .i8 t329, .int .i8 t330, .int .u32 t331, .int .u32 t332, .int .u32 t333, .int .u64 t334, .int .u64 t335, .int .u64 t336, .int .u64 t337] 26 (0, 0)) (by (with_reducible repeat (first | refine blk_drewN ?_ _ | refine blk_drew ?_ | refine blk_alloc ?_ _)); exact BK339.out) hb); have n3_ := Aside0.mk (Kd.C_below (by repeat (first | (with_reducible exact HR343.out) | (with_reducible refine Kd.C_alloc ?_ _) | (with_reducible refine Kd.C_drewN ?_ _) | (with_reducible refine Kd.C_drew ?_) | exact HR343.out)) hb); have n4_ := Aside0.mk (below_step (by repeat (first | (with_reducible first | exact HB.out | apply below_alloc | apply pw_below_drewN | apply below_drew1 | refine below_set ?_ GE310.out | refine below_set ?_ GE339.out) | exact HB.out)) hb); have n5_ := Aside0.mk (hbox); have n6_ := Aside0.mk ((by rw [hg]; exact (below_size (by repeat (first | (with_reducible first | exact HB.out | apply below_alloc | apply pw_below_drewN | apply below_drew1 | refine below_set ?_ GE310.out | refine below_set ?_ GE339.out) | exact HB.out))) : w.heap.size ≤ gb358)); have n7_ := Aside0.mk ((by rw [hg]; exact (below_size (by repeat (first | (with_reducible first | exact HB.out | apply below_alloc | apply pw_below_drewN | apply below_drew1 | refine below_set ?_ GE310.out | refine below_set ?_ GE339.out) | exact HB.out))) : w.heap.size ≤ gb358)); have n8_ := Aside0.mk ((by rw [hg]; exact Nat.ne_of_lt (blk_lt (g := gb310) (o := .cells #[.int .u8 a0_0, .int .u8 a0_1, .int .u8 a0_2, .int .u8 a0_3, .int .i8 a0_4, .int .i8 a0_5, .int .u32 a0_6, .int .u32 a0_7, .int .u32 a0_8, .int .u64 a0_9, .int .u64 a0_10, .int .u64 a0_11, .int .u64 a0_12] 26 (0, 0)) (by (with_reducible repeat (first | refine blk_drewN ?_ _ | refine blk_drew ?_ | refine blk_alloc ?_ _)); exact BK310.out)) : gb310 ≠ gb358)); have n9_ := Aside0.mk ((by rw [hg]; exact Nat.ne_of_gt (blk_lt (g := gb310) (o := .cells #[.int .u8 a0_0, .int .u8 a0_1, .int .u8 a0_2, .int .u8 a0_3, .int .i8 a0_4, .int .i8 a0_5, .int .u32 a0_6, .int .u32 a0_7, .int .u32 a0_8, .int .u64 a0_9, .int .u64 a0_10, .int .u64 a0_11, .int .u64 a0_12] 26 (0, 0)) (by (with_reducible repeat (first | refine blk_drewN ?_ _ | refine blk_drew ?_ | refine blk_alloc ?_ _)); exact BK310.out)) : gb358 ≠ gb310)); have n10_ := Aside0.mk ((by rw [hg]; exact Nat.ne_of_lt (blk_lt (g := gb339) (o := .cells #[.int .u8 t325, .int .u8 t326, .int .u8 t327, .int .u8 t328, .int .i8 t329, .int .i8 t330, .int .u32 t331, .int .u32 t332, .int .u32 t333, .int .u64 t334, .int .u64 t335, .int .u64 t336, .int .u64 t337] 26 (0, 0)) (by (with_reducible repeat (first | refine blk_drewN ?_ _ | refine blk_drew ?_ | refine blk_alloc ?_ _)); exact BK339.out)) : gb339 ≠ gb358)); have n11_ := Aside0.mk ((by rw [hg]; exact Nat.ne_of_gt (blk_lt (g := gb339) (o := .cells #[.int .u8 t325, .int .u8 t326, .int .u8 t327, .int .u8 t328, .int .i8 t329, .int .i8 t330, .int .u32 t331, .int .u32 t332, .int .u32 t333, .int .u64 t334, .int .u64 t335, .int .u64 t336, .int .u64 t337] 26 (0, 0)) (by (with_reducible repeat (first | refine blk_drewN ?_ _ | refine blk_drew ?_ | refine blk_alloc ?_ _)); exact BK339.out)) : gb358 ≠ gb339)); clear HO_7; clear BK310; clear BK339; clear HR343; clear HB; have HO_7 := n0_; have BK310 := n1_; have BK339 := n2_; have HR343 := n3_; have HB := n4_; have BK358 := n5_; have GW358 := n6_; have GE358 := n7_; have NB310_358 := n8_; have NB358_310 := n9_; have NB339_358 := n10_; have NB358_339 := n11_; clear n0_ n1_ n2_ n3_ n4_ n5_ n6_ n7_ n8_ n9_ n10_ n11_; clear hb hbox hg; have hnb50 := NB358_310.out; have hnc50 := NB310_358.out; have hnb51 := NB358_339.out; have hnc51 := NB339_358.out; have hcz52_0 : w49.cell? ⟨gb358, 0, none⟩ = some (.int .u8 0) := (blk_cell BK358.out 0).trans rfl; have hcz52_1 : w49.cell? ⟨gb358, 1, none⟩ = some (.int .u8 0) := (blk_cell BK358.out 1).trans rfl; have hcz52_2 : w49.cell? ⟨gb358, 2, none⟩ = some (.int .u8 0) := (blk_cell BK358.out 2).trans rfl; have hcz52_3 : w49.cell? ⟨gb358, 3, none⟩ = some (.int .u8 0) := (blk_cell BK358.out 3).trans rfl; have hcz52_4 : w49.cell? ⟨gb358, 4, none⟩ = some (.int .i8 0) := (blk_cell BK358.out 4).trans rfl; have hcz52_5 : w49.cell? ⟨gb358, 5, none⟩ = some (.int .i8 0) := (blk_cell BK358.out 5).trans rfl; have hcz52_6 : w49.cell? ⟨gb358, 6, none⟩ = some (.int .u32 0) := (blk_cell BK358.out 6).trans rfl; have hcz52_7 : w49.cell? ⟨gb358, 7, none⟩ = some (.int .u32 0) := (blk_cell BK358.out 7).trans rfl; have hcz52_8 : w49.cell? ⟨gb358, 8, none⟩ = some (.int .u32 0) := (blk_cell BK358.out 8).trans rfl; have hcz52_9 : w49.cell? ⟨gb358, 9, none⟩ = some (.int .u64 0) := (blk_cell BK358.out 9).trans rfl; have hcz52_10 : w49.cell? ⟨gb358, 10, none⟩ = some (.int .u64 0) := (blk_cell BK358.out 10).trans rfl; have hcz52_11 : w49.cell? ⟨gb358, 11, none⟩ = some (.int .u64 0) := (blk_cell BK358.out 11).trans rfl; have hcz52_12 : w49.cell? ⟨gb358, 12, none⟩ = some (.int .u64 0) := (blk_cell BK358.out 12).trans rfl; have hfz52_0 := blk_frozen BK358.out 0; have hfz52_1 := blk_frozen BK358.out 1; have hfz52_2 := blk_frozen BK358.out 2; have hfz52_3 := blk_frozen BK358.out 3; have hfz52_4 := blk_frozen BK358.out 4; have hfz52_5 := blk_frozen BK358.out 5; have hfz52_6 := blk_frozen BK358.out 6; have hfz52_7 := blk_frozen BK358.out 7; have hfz52_8 := blk_frozen BK358.out 8; have hfz52_9 := blk_frozen BK358.out 9; have hfz52_10 := blk_frozen BK358.out 10; have hfz52_11 := blk_frozen BK358.out 11; have hfz52_12 := blk_frozen BK358.out 12))
                          go_ret
                          exact ⟨by first | rfl | (simp [errW_none, errW_some] <;> rfl) | (simp [*, errW_none, errW_some] <;> rfl), by repeat (first | (with_reducible first | exact HB.out | apply below_alloc | apply pw_below_drewN | apply below_drew1 | refine below_set ?_ GE310.out | refine below_set ?_ GE339.out | refine below_set ?_ GE358.out) | exact HB.out)⟩
                      · rw [if_neg c38] at H
                        exact absurd H (by simp)
              · rw [if_neg c16] at H
                exact absurd H (by simp)
            · rw [if_neg c15] at H
              exact absurd H (by simp)
          · rw [if_neg c14] at H
            have c14b0 : (t315 == 0) = false := beq_eq_false_iff_ne.mpr c14
            have c14b1 : (t315 != 0) = true := bne_iff_ne.mpr c14
            (first | rw [c14b0] | (simp only [i64_w, i32_w]; rw [c14b0]) | skip)
            have H' := Aside0.mk H
            clear H
            go_wp2
            go_meet
            case rel => exact ⟨_, H', ⟨by have := HJ3.out; first | omega | exact Nat.le_refl _⟩, ⟨by (with_reducible repeat (first | refine blk_drewN ?_ _ | refine blk_drew ?_ | refine blk_alloc ?_ _)); exact BK310.out⟩, ⟨by repeat (first | (with_reducible first | exact HB.out | apply below_alloc | apply pw_below_drewN | apply below_drew1 | refine below_set ?_ GE310.out) | exact HB.out)⟩⟩
        case rest =>
          clear HC11
          try clear c1
          try clear c2
          try clear p2
          try clear c3
          try clear c4
          try clear q4
          try clear c5
          try clear c6
          try clear c6b0
          try clear c6b1
          try clear c7
          try clear c8
          try clear c9
          try clear c12
          try clear c14
          try clear c14b0
          try clear c14b1
          try clear c15
          try clear c16
          try clear c27
          try clear c29
          try clear c29b0
          try clear c29b1
          try clear c30
          try clear c30b0
          try clear c31
          try clear c34
          try clear c37
          try clear c38
          try clear c38b0
          try clear c38b1
          try clear c40
          try clear c40b0
          try clear c40b1
          try clear q41
          try clear c44
          try clear c45
          try clear q47
          try clear c50
          try clear c51
          try clear hcz12_0
          try clear hcz12_1
          try clear hcz12_10
          try clear hcz12_11
          try clear hcz12_12
          try clear hcz12_2
          try clear hcz12_3
          try clear hcz12_4
          try clear hcz12_5
          try clear hcz12_6
          try clear hcz12_7
          try clear hcz12_8
          try clear hcz12_9
          try clear hcz28_0
          try clear hcz28_1
          try clear hcz28_10
          try clear hcz28_11
          try clear hcz28_12
          try clear hcz28_2
          try clear hcz28_3
          try clear hcz28_4
          try clear hcz28_5
          try clear hcz28_6
          try clear hcz28_7
          try clear hcz28_8
          try clear hcz28_9
          try clear hcz32_0
          try clear hcz32_1
          try clear hcz32_10
          try clear hcz32_11
          try clear hcz32_12
          try clear hcz32_2
          try clear hcz32_3
          try clear hcz32_4
          try clear hcz32_5
          try clear hcz32_6
          try clear hcz32_7
          try clear hcz32_8
          try clear hcz32_9
          try clear hcz33_0
          try clear hcz33_1
          try clear hcz33_10
          try clear hcz33_11
          try clear hcz33_12
          try clear hcz33_2
          try clear hcz33_3
          try clear hcz33_4
          try clear hcz33_5
          try clear hcz33_6
          try clear hcz33_7
          try clear hcz33_8
          try clear hcz33_9
          try clear hcz35_0
          try clear hcz35_1
          try clear hcz35_10
          try clear hcz35_11
          try clear hcz35_12
          try clear hcz35_2
          try clear hcz35_3
          try clear hcz35_4
          try clear hcz35_5
          try clear hcz35_6
          try clear hcz35_7
          try clear hcz35_8
          try clear hcz35_9
          try clear hcz36_0
          try clear hcz36_1
          try clear hcz36_10
          try clear hcz36_11
          try clear hcz36_12
          try clear hcz36_2
          try clear hcz36_3
          try clear hcz36_4
          try clear hcz36_5
          try clear hcz36_6
          try clear hcz36_7
          try clear hcz36_8
          try clear hcz36_9
          try clear hcz46_0
          try clear hcz46_1
          try clear hcz46_10
          try clear hcz46_11
          try clear hcz46_12
          try clear hcz46_2
          try clear hcz46_3
          try clear hcz46_4
          try clear hcz46_5
          try clear hcz46_6
          try clear hcz46_7
          try clear hcz46_8
          try clear hcz46_9
          try clear hcz52_0
          try clear hcz52_1
          try clear hcz52_10
          try clear hcz52_11
          try clear hcz52_12
          try clear hcz52_2
          try clear hcz52_3
          try clear hcz52_4
          try clear hcz52_5
          try clear hcz52_6
          try clear hcz52_7
          try clear hcz52_8
          try clear hcz52_9
          try clear hfz12_0
          try clear hfz12_1
          try clear hfz12_10
          try clear hfz12_11
          try clear hfz12_12
          try clear hfz12_2
          try clear hfz12_3
          try clear hfz12_4
          try clear hfz12_5
          try clear hfz12_6
          try clear hfz12_7
          try clear hfz12_8
          try clear hfz12_9
          try clear hfz28_0
          try clear hfz28_1
          try clear hfz28_10
          try clear hfz28_11
          try clear hfz28_12
          try clear hfz28_2
          try clear hfz28_3
          try clear hfz28_4
          try clear hfz28_5
          try clear hfz28_6
          try clear hfz28_7
          try clear hfz28_8
          try clear hfz28_9
          try clear hfz32_0
          try clear hfz32_1
          try clear hfz32_10
          try clear hfz32_11
          try clear hfz32_12
          try clear hfz32_2
          try clear hfz32_3
          try clear hfz32_4
          try clear hfz32_5
          try clear hfz32_6
          try clear hfz32_7
          try clear hfz32_8
          try clear hfz32_9
          try clear hfz33_0
          try clear hfz33_1
          try clear hfz33_10
          try clear hfz33_11
          try clear hfz33_12
          try clear hfz33_2
          try clear hfz33_3
          try clear hfz33_4
          try clear hfz33_5
          try clear hfz33_6
          try clear hfz33_7
          try clear hfz33_8
          try clear hfz33_9
          try clear hfz35_0
          try clear hfz35_1
          try clear hfz35_10
          try clear hfz35_11
          try clear hfz35_12
          try clear hfz35_2
          try clear hfz35_3
          try clear hfz35_4
          try clear hfz35_5
          try clear hfz35_6
          try clear hfz35_7
          try clear hfz35_8
          try clear hfz35_9
          try clear hfz36_0
          try clear hfz36_1
          try clear hfz36_10
          try clear hfz36_11
          try clear hfz36_12
          try clear hfz36_2
          try clear hfz36_3
          try clear hfz36_4
          try clear hfz36_5
          try clear hfz36_6
          try clear hfz36_7
          try clear hfz36_8
          try clear hfz36_9
          try clear hfz46_0
          try clear hfz46_1
          try clear hfz46_10
          try clear hfz46_11
          try clear hfz46_12
          try clear hfz46_2
          try clear hfz46_3
          try clear hfz46_4
          try clear hfz46_5
          try clear hfz46_6
          try clear hfz46_7
          try clear hfz46_8
          try clear hfz46_9
          try clear hfz52_0
          try clear hfz52_1
          try clear hfz52_10
          try clear hfz52_11
          try clear hfz52_12
          try clear hfz52_2
          try clear hfz52_3
          try clear hfz52_4
          try clear hfz52_5
          try clear hfz52_6
          try clear hfz52_7
          try clear hfz52_8
          try clear hfz52_9
          try clear p2
          try clear q41
          try clear q47
          obtain ⟨kq, HA, HJ10, BK310, HB⟩ := hcut
          cases kq with
          | zero => exact absurd HA.out (by simp [chronobatelaw03_PacketBack.j2])
          | succ kj10 =>
            have H := HA.out
            clear HA
            simp only [chronobatelaw03_PacketBack.j2] at H
            replace H := Option.bind_eq_some_iff.mp H
            obtain ⟨⟨t359, t360, t361, t362, t363, t364, t365, t366, t367, t368, t369, t370, t371, t372⟩, A530, H⟩ := H
            replace H : (if t372 = 0 then ((packet_Put.f kj10 t359 t360 t361 t362 t363 t364 t365 t366 t367 t368 t369 t370 t371).bind fun bt374 => ((chronobatelaw03_alive.f kj10).bind fun t378 => (if t378 = true then (if bt374.2 = 0 then (if (l1.length : Int) ≥ 48 then (if 48 ≤ (l1.length : Int) then (some ((strOfNums bt374.1).toList == (strOfNums (l1.take 48)).toList)) else (none)) else (some false)) else (some false)) else (some false)))) else ((chronobatelaw03_alive.f kj10).bind fun t380 => (if t380 = true then (if t372 = 5 then (some (decide ((l1.length : Int) < 48))) else (some false)) else (some false)))) = some r := H
            have A53 := Aside0.mk A530
            clear A530
            by_cases c54 : t372 = 0
            · rw [if_pos c54] at H
              have c54b0 : (t372 == 0) = true := beq_iff_eq.mpr c54
              have c54b1 : (t372 != 0) = false := bne_eq_false_iff_eq.mpr c54
              clear c54
              replace H := Option.bind_eq_some_iff.mp H
              obtain ⟨⟨t374, t377⟩, A550, H⟩ := H
              replace H : ((chronobatelaw03_alive.f kj10).bind fun t378 => (if t378 = true then (if t377 = 0 then (if (l1.length : Int) ≥ 48 then (if 48 ≤ (l1.length : Int) then (some ((strOfNums t374).toList == (strOfNums (l1.take 48)).toList)) else (none)) else (some false)) else (some false)) else (some false))) = some r := H
              have A55 := Aside0.mk A550
              clear A550
              replace H := Option.bind_eq_some_iff.mp H
              obtain ⟨t378, A560, H⟩ := H
              replace H : (if t378 = true then (if t377 = 0 then (if (l1.length : Int) ≥ 48 then (if 48 ≤ (l1.length : Int) then (some ((strOfNums t374).toList == (strOfNums (l1.take 48)).toList)) else (none)) else (some false)) else (some false)) else (some false)) = some r := H
              have A56 := Aside0.mk A560
              clear A560
              by_cases c57 : t378 = true
              · subst c57
                have H1 : (if t377 = 0 then (if (l1.length : Int) ≥ 48 then (if 48 ≤ (l1.length : Int) then (some ((strOfNums t374).toList == (strOfNums (l1.take 48)).toList)) else (none)) else (some false)) else (some false)) = some r := by rw [if_pos rfl] at H; exact H
                clear H
                have H := H1
                clear H1
                by_cases c58 : t377 = 0
                · rw [if_pos c58] at H
                  have c58b0 : (t377 == 0) = true := beq_iff_eq.mpr c58
                  have c58b1 : (t377 != 0) = false := bne_eq_false_iff_eq.mpr c58
                  clear c58
                  by_cases c59 : (l1.length : Int) ≥ 48
                  · rw [if_pos c59] at H
                    have c59b0 : decide (48 ≤ (l1.length : Int)) = true := decide_eq_true c59
                    have c59b1 : decide (48 ≤ l1.length) = true := decide_eq_true (by omega)
                    clear c59
                    by_cases c60 : 48 ≤ (l1.length : Int)
                    · rw [if_pos c60] at H
                      have c60b0 := eq_true c60
                      have c60b1 : decide (48 ≤ (l1.length : Int)) = true := decide_eq_true c60
                      clear c60
                      obtain rfl := Option.some.inj H
                      try go_wp2_with (first | ((with_reducible refine gate_callee (f := 15) rfl ?_); refine goesL_ (some 64) rfl rfl Try.func15 (by kernel_rfl) rfl #[.slice A1 l1.length c1] rfl (by (try simp only [List.map_toArray, List.map_cons, List.map_nil]); first | done | rfl | (simp only [List.length_drop, List.length_take]; rfl)) ?_; (with_reducible refine (packet_Get.calls kj10 _ _ l1 t359 t360 t361 t362 t363 t364 t365 t366 t367 t368 t369 t370 t371 t372 _ ?side1 ?side2 A53.out).mono ?_); (case side1 => repeat (first | exact (Kd.C_below HR1.out HB.out) | (with_reducible refine Kd.C_alloc ?_ _) | (with_reducible refine Kd.C_drewN ?_ _) | (with_reducible refine Kd.C_drew ?_))); (case side2 => exact HC1.out); rintro e w61 ⟨rfl, hb⟩; refine ⟨_, rfl, ?_⟩; have n0_ := Aside0.mk (blk_below (g := gb310) (o := .cells #[.int .u8 a0_0, .int .u8 a0_1, .int .u8 a0_2, .int .u8 a0_3, .int .i8 a0_4, .int .i8 a0_5, .int .u32 a0_6, .int .u32 a0_7, .int .u32 a0_8, .int .u64 a0_9, .int .u64 a0_10, .int .u64 a0_11, .int .u64 a0_12] 26 (0, 0)) (by (with_reducible repeat (first | refine blk_drewN ?_ _ | refine blk_drew ?_ | refine blk_alloc ?_ _)); exact BK310.out) hb); have n1_ := Aside0.mk (below_step (by repeat (first | (with_reducible first | exact HB.out | apply below_alloc | apply pw_below_drewN | apply below_drew1 | refine below_set ?_ GE310.out) | exact HB.out)) hb); clear BK310; clear HB; have BK310 := n0_; have HB := n1_; clear n0_ n1_; (try clear hb); (try clear hb2); (try clear hk); (try clear hi)) | ((with_reducible refine gate_dst (N := 13) rfl ?_); (try (refine gate_guard (by rfl) ?_; dsimp only)); refine box_event ?hg (N := 13) ?hd (cs := #[.int .u8 0, .int .u8 0, .int .u8 0, .int .u8 0, .int .i8 0, .int .i8 0, .int .u32 0, .int .u32 0, .int .u32 0, .int .u64 0, .int .u64 0, .int .u64 0, .int .u64 0]) (t := 26) ?hr ?_; (case hd => rfl); (case hg => rfl); (case hr => first | (go_simp; done) | (go_simp; rfl)); intro gb373 hg w62 hbox hb; have n0_ := Aside0.mk (blk_below (g := gb310) (o := .cells #[.int .u8 a0_0, .int .u8 a0_1, .int .u8 a0_2, .int .u8 a0_3, .int .i8 a0_4, .int .i8 a0_5, .int .u32 a0_6, .int .u32 a0_7, .int .u32 a0_8, .int .u64 a0_9, .int .u64 a0_10, .int .u64 a0_11, .int .u64 a0_12] 26 (0, 0)) (by (with_reducible repeat (first | refine blk_drewN ?_ _ | refine blk_drew ?_ | refine blk_alloc ?_ _)); exact BK310.out) hb); have n1_ := Aside0.mk (below_step (by repeat (first | (with_reducible first | exact HB.out | apply below_alloc | apply pw_below_drewN | apply below_drew1 | refine below_set ?_ GE310.out) | exact HB.out)) hb); have n2_ := Aside0.mk (hbox); have n3_ := Aside0.mk ((by rw [hg]; exact (below_size (by repeat (first | (with_reducible first | exact HB.out | apply below_alloc | apply pw_below_drewN | apply below_drew1 | refine below_set ?_ GE310.out) | exact HB.out))) : w.heap.size ≤ gb373)); have n4_ := Aside0.mk ((by rw [hg]; exact (below_size (by repeat (first | (with_reducible first | exact HB.out | apply below_alloc | apply pw_below_drewN | apply below_drew1 | refine below_set ?_ GE310.out) | exact HB.out))) : w.heap.size ≤ gb373)); have n5_ := Aside0.mk ((by rw [hg]; exact Nat.ne_of_lt (blk_lt (g := gb310) (o := .cells #[.int .u8 a0_0, .int .u8 a0_1, .int .u8 a0_2, .int .u8 a0_3, .int .i8 a0_4, .int .i8 a0_5, .int .u32 a0_6, .int .u32 a0_7, .int .u32 a0_8, .int .u64 a0_9, .int .u64 a0_10, .int .u64 a0_11, .int .u64 a0_12] 26 (0, 0)) (by (with_reducible repeat (first | refine blk_drewN ?_ _ | refine blk_drew ?_ | refine blk_alloc ?_ _)); exact BK310.out)) : gb310 ≠ gb373)); have n6_ := Aside0.mk ((by rw [hg]; exact Nat.ne_of_gt (blk_lt (g := gb310) (o := .cells #[.int .u8 a0_0, .int .u8 a0_1, .int .u8 a0_2, .int .u8 a0_3, .int .i8 a0_4, .int .i8 a0_5, .int .u32 a0_6, .int .u32 a0_7, .int .u32 a0_8, .int .u64 a0_9, .int .u64 a0_10, .int .u64 a0_11, .int .u64 a0_12] 26 (0, 0)) (by (with_reducible repeat (first | refine blk_drewN ?_ _ | refine blk_drew ?_ | refine blk_alloc ?_ _)); exact BK310.out)) : gb373 ≠ gb310)); clear BK310; clear HB; have BK310 := n0_; have HB := n1_; have BK373 := n2_; have GW373 := n3_; have GE373 := n4_; have NB310_373 := n5_; have NB373_310 := n6_; clear n0_ n1_ n2_ n3_ n4_ n5_ n6_; clear hb hbox hg; have hnb63 := NB373_310.out; have hnc63 := NB310_373.out; have hcz64_0 : w62.cell? ⟨gb373, 0, none⟩ = some (.int .u8 0) := (blk_cell BK373.out 0).trans rfl; have hcz64_1 : w62.cell? ⟨gb373, 1, none⟩ = some (.int .u8 0) := (blk_cell BK373.out 1).trans rfl; have hcz64_2 : w62.cell? ⟨gb373, 2, none⟩ = some (.int .u8 0) := (blk_cell BK373.out 2).trans rfl; have hcz64_3 : w62.cell? ⟨gb373, 3, none⟩ = some (.int .u8 0) := (blk_cell BK373.out 3).trans rfl; have hcz64_4 : w62.cell? ⟨gb373, 4, none⟩ = some (.int .i8 0) := (blk_cell BK373.out 4).trans rfl; have hcz64_5 : w62.cell? ⟨gb373, 5, none⟩ = some (.int .i8 0) := (blk_cell BK373.out 5).trans rfl; have hcz64_6 : w62.cell? ⟨gb373, 6, none⟩ = some (.int .u32 0) := (blk_cell BK373.out 6).trans rfl; have hcz64_7 : w62.cell? ⟨gb373, 7, none⟩ = some (.int .u32 0) := (blk_cell BK373.out 7).trans rfl; have hcz64_8 : w62.cell? ⟨gb373, 8, none⟩ = some (.int .u32 0) := (blk_cell BK373.out 8).trans rfl; have hcz64_9 : w62.cell? ⟨gb373, 9, none⟩ = some (.int .u64 0) := (blk_cell BK373.out 9).trans rfl; have hcz64_10 : w62.cell? ⟨gb373, 10, none⟩ = some (.int .u64 0) := (blk_cell BK373.out 10).trans rfl; have hcz64_11 : w62.cell? ⟨gb373, 11, none⟩ = some (.int .u64 0) := (blk_cell BK373.out 11).trans rfl; have hcz64_12 : w62.cell? ⟨gb373, 12, none⟩ = some (.int .u64 0) := (blk_cell BK373.out 12).trans rfl; have hfz64_0 := blk_frozen BK373.out 0; have hfz64_1 := blk_frozen BK373.out 1; have hfz64_2 := blk_frozen BK373.out 2; have hfz64_3 := blk_frozen BK373.out 3; have hfz64_4 := blk_frozen BK373.out 4; have hfz64_5 := blk_frozen BK373.out 5; have hfz64_6 := blk_frozen BK373.out 6; have hfz64_7 := blk_frozen BK373.out 7; have hfz64_8 := blk_frozen BK373.out 8; have hfz64_9 := blk_frozen BK373.out 9; have hfz64_10 := blk_frozen BK373.out 10; have hfz64_11 := blk_frozen BK373.out 11; have hfz64_12 := blk_frozen BK373.out 12) | ((with_reducible refine gate_callee (f := 9) rfl ?_); refine goesL_ (some 81) rfl rfl Try.func9 (by kernel_rfl) rfl #[.agg #[.int .u8 t359, .int .u8 t360, .int .u8 t361, .int .u8 t362, .int .i8 t363, .int .i8 t364, .int .u32 t365, .int .u32 t366, .int .u32 t367, .int .u64 t368, .int .u64 t369, .int .u64 t370, .int .u64 t371]] rfl (by (try simp only [List.map_toArray, List.map_cons, List.map_nil]); first | done | rfl | (simp only [List.length_drop, List.length_take]; rfl)) ?_; (with_reducible refine (packet_Put.calls kj10 t359 t360 t361 t362 t363 t364 t365 t366 t367 t368 t369 t370 t371 t374 t377 _ A55.out).mono ?_); rintro e w65 ⟨v375, rfl, ho0, hb⟩; refine ⟨_, rfl, ?_⟩; have n0_ := Aside0.mk (Kd.R_lower ho0 (below_size (by repeat (first | (with_reducible first | exact HB.out | apply below_alloc | apply pw_below_drewN | apply below_drew1 | refine below_set ?_ GE310.out | refine below_set ?_ GE373.out) | exact HB.out)))); have n1_ := Aside0.mk (blk_below (g := gb310) (o := .cells #[.int .u8 a0_0, .int .u8 a0_1, .int .u8 a0_2, .int .u8 a0_3, .int .i8 a0_4, .int .i8 a0_5, .int .u32 a0_6, .int .u32 a0_7, .int .u32 a0_8, .int .u64 a0_9, .int .u64 a0_10, .int .u64 a0_11, .int .u64 a0_12] 26 (0, 0)) (by (with_reducible repeat (first | refine blk_drewN ?_ _ | refine blk_drew ?_ | refine blk_alloc ?_ _)); refine blk_far ?_ NB310_373.out _; (with_reducible repeat (first | refine blk_drewN ?_ _ | refine blk_drew ?_ | refine blk_alloc ?_ _)); refine blk_far ?_ NB310_373.out _; (with_reducible repeat (first | refine blk_drewN ?_ _ | refine blk_drew ?_ | refine blk_alloc ?_ _)); refine blk_far ?_ NB310_373.out _; (with_reducible repeat (first | refine blk_drewN ?_ _ | refine blk_drew ?_ | refine blk_alloc ?_ _)); refine blk_far ?_ NB310_373.out _; (with_reducible repeat (first | refine blk_drewN ?_ _ | refine blk_drew ?_ | refine blk_alloc ?_ _)); refine blk_far ?_ NB310_373.out _; (with_reducible repeat (first | refine blk_drewN ?_ _ | refine blk_drew ?_ | refine blk_alloc ?_ _)); refine blk_far ?_ NB310_373.out _; (with_reducible repeat (first | refine blk_drewN ?_ _ | refine blk_drew ?_ | refine blk_alloc ?_ _)); refine blk_far ?_ NB310_373.out _; (with_reducible repeat (first | refine blk_drewN ?_ _ | refine blk_drew ?_ | refine blk_alloc ?_ _)); refine blk_far ?_ NB310_373.out _; (with_reducible repeat (first | refine blk_drewN ?_ _ | refine blk_drew ?_ | refine blk_alloc ?_ _)); refine blk_far ?_ NB310_373.out _; (with_reducible repeat (first | refine blk_drewN ?_ _ | refine blk_drew ?_ | refine blk_alloc ?_ _)); refine blk_far ?_ NB310_373.out _; (with_reducible repeat (first | refine blk_drewN ?_ _ | refine blk_drew ?_ | refine blk_alloc ?_ _)); refine blk_far ?_ NB310_373.out _; (with_reducible repeat (first | refine blk_drewN ?_ _ | refine blk_drew ?_ | refine blk_alloc ?_ _)); refine blk_far ?_ NB310_373.out _; (with_reducible repeat (first | refine blk_drewN ?_ _ | refine blk_drew ?_ | refine blk_alloc ?_ _)); refine blk_far ?_ NB310_373.out _; (with_reducible repeat (first | refine blk_drewN ?_ _ | refine blk_drew ?_ | refine blk_alloc ?_ _)); exact BK310.out) hb); have n2_ := Aside0.mk (blk_below (g := gb373) (o := .cells #[.int .u8 t359, .int .u8 t360, .int .u8 t361, .int .u8 t362, .int .i8 t363, .int .i8 t364, .int .u32 t365, .int .u32 t366, .int .u32 t367, .int .u64 t368, .int .u64 t369, .int .u64 t370, .int .u64 t371] 26 (0, 0)) (by (with_reducible repeat (first | refine blk_drewN ?_ _ | refine blk_drew ?_ | refine blk_alloc ?_ _)); refine blk_put (cs := #[.int .u8 t359, .int .u8 t360, .int .u8 t361, .int .u8 t362, .int .i8 t363, .int .i8 t364, .int .u32 t365, .int .u32 t366, .int .u32 t367, .int .u64 t368, .int .u64 t369, .int .u64 t370, .int .u64 0]) ?_ 12 _ rfl; (with_reducible repeat (first | refine blk_drewN ?_ _ | refine blk_drew ?_ | refine blk_alloc ?_ _)); refine blk_put (cs := #[.int .u8 t359, .int .u8 t360, .int .u8 t361, .int .u8 t362, .int .i8 t363, .int .i8 t364, .int .u32 t365, .int .u32 t366, .int .u32 t367, .int .u64 t368, .int .u64 t369, .int .u64 0, .int .u64 0]) ?_ 11 _ rfl; (with_reducible repeat (first | refine blk_drewN ?_ _ | refine blk_drew ?_ | refine blk_alloc ?_ _)); refine blk_put (cs := #[.int .u8 t359, .int .u8 t360, .int .u8 t361, .int .u8 t362, .int .i8 t363, .int .i8 t364, .int .u32 t365, .int .u32 t366, .int .u32 t367, .int .u64 t368, .int .u64 0, .int .u64 0, .int .u64 0]) ?_ 10 _ rfl; (with_reducible repeat (first | refine blk_drewN ?_ _ | refine blk_drew ?_ | refine blk_alloc ?_ _)); refine blk_put (cs := #[.int .u8 t359, .int .u8 t360, .int .u8 t361, .int .u8 t362, .int .i8 t363, .int .i8 t364, .int .u32 t365, .int .u32 t366, .int .u32 t367, .int .u64 0, .int .u64 0, .int .u64 0, .int .u64 0]) ?_ 9 _ rfl; (with_reducible repeat (first | refine blk_drewN ?_ _ | refine blk_drew ?_ | refine blk_alloc ?_ _)); refine blk_put (cs := #[.int .u8 t359, .int .u8 t360, .int .u8 t361, .int .u8 t362, .int .i8 t363, .int .i8 t364, .int .u32 t365, .int .u32 t366, .int .u32 0, .int .u64 0, .int .u64 0, .int .u64 0, .int .u64 0]) ?_ 8 _ rfl; (with_reducible repeat (first | refine blk_drewN ?_ _ | refine blk_drew ?_ | refine blk_alloc ?_ _)); refine blk_put (cs := #[.int .u8 t359, .int .u8 t360, .int .u8 t361, .int .u8 t362, .int .i8 t363, .int .i8 t364, .int .u32 t365, .int .u32 0, .int .u32 0, .int .u64 0, .int .u64 0, .int .u64 0, .int .u64 0]) ?_ 7 _ rfl; (with_reducible repeat (first | refine blk_drewN ?_ _ | refine blk_drew ?_ | refine blk_alloc ?_ _)); refine blk_put (cs := #[.int .u8 t359, .int .u8 t360, .int .u8 t361, .int .u8 t362, .int .i8 t363, .int .i8 t364, .int .u32 0, .int .u32 0, .int .u32 0, .int .u64 0, .int .u64 0, .int .u64 0, .int .u64 0]) ?_ 6 _ rfl; (with_reducible repeat (first | refine blk_drewN ?_ _ | refine blk_drew ?_ | refine blk_alloc ?_ _)); refine blk_put (cs := #[.int .u8 t359, .int .u8 t360, .int .u8 t361, .int .u8 t362, .int .i8 t363, .int .i8 0, .int .u32 0, .int .u32 0, .int .u32 0, .int .u64 0, .int .u64 0, .int .u64 0, .int .u64 0]) ?_ 5 _ rfl; (with_reducible repeat (first | refine blk_drewN ?_ _ | refine blk_drew ?_ | refine blk_alloc ?_ _)); refine blk_put (cs := #[.int .u8 t359, .int .u8 t360, .int .u8 t361, .int .u8 t362, .int .i8 0, .int .i8 0, .int .u32 0, .int .u32 0, .int .u32 0, .int .u64 0, .int .u64 0, .int .u64 0, .int .u64 0]) ?_ 4 _ rfl; (with_reducible repeat (first | refine blk_drewN ?_ _ | refine blk_drew ?_ | refine blk_alloc ?_ _)); refine blk_put (cs := #[.int .u8 t359, .int .u8 t360, .int .u8 t361, .int .u8 0, .int .i8 0, .int .i8 0, .int .u32 0, .int .u32 0, .int .u32 0, .int .u64 0, .int .u64 0, .int .u64 0, .int .u64 0]) ?_ 3 _ rfl; (with_reducible repeat (first | refine blk_drewN ?_ _ | refine blk_drew ?_ | refine blk_alloc ?_ _)); refine blk_put (cs := #[.int .u8 t359, .int .u8 t360, .int .u8 0, .int .u8 0, .int .i8 0, .int .i8 0, .int .u32 0, .int .u32 0, .int .u32 0, .int .u64 0, .int .u64 0, .int .u64 0, .int .u64 0]) ?_ 2 _ rfl; (with_reducible repeat (first | refine blk_drewN ?_ _ | refine blk_drew ?_ | refine blk_alloc ?_ _)); refine blk_put (cs := #[.int .u8 t359, .int .u8 0, .int .u8 0, .int .u8 0, .int .i8 0, .int .i8 0, .int .u32 0, .int .u32 0, .int .u32 0, .int .u64 0, .int .u64 0, .int .u64 0, .int .u64 0]) ?_ 1 _ rfl; (with_reducible repeat (first | refine blk_drewN ?_ _ | refine blk_drew ?_ | refine blk_alloc ?_ _)); refine blk_put (cs := #[.int .u8 0, .int .u8 0, .int .u8 0, .int .u8 0, .int .i8 0, .int .i8 0, .int .u32 0, .int .u32 0, .int .u32 0, .int .u64 0, .int .u64 0, .int .u64 0, .int .u64 0]) ?_ 0 _ rfl; (with_reducible repeat (first | refine blk_drewN ?_ _ | refine blk_drew ?_ | refine blk_alloc ?_ _)); exact BK373.out) hb); have n3_ := Aside0.mk (below_step (by repeat (first | (with_reducible first | exact HB.out | apply below_alloc | apply pw_below_drewN | apply below_drew1 | refine below_set ?_ GE310.out | refine below_set ?_ GE373.out) | exact HB.out)) hb); clear BK310; clear BK373; clear HB; have HO376 := n0_; have BK310 := n1_; have BK373 := n2_; have HB := n3_; clear n0_ n1_ n2_ n3_; (try clear hb); (try clear hb2); (try clear hk); (try clear hi); (try clear ho0)))
                      have n0_ := Aside0.mk (Kd.R_drew HO376.out)
                      have n1_ := Aside0.mk (blk_drew BK310.out)
                      have n2_ := Aside0.mk (blk_drew BK373.out)
                      have n3_ := Aside0.mk (below_drew1 HB.out)
                      clear HO376
                      clear BK310
                      clear BK373
                      clear HB
                      have HO376 := n0_
                      have BK310 := n1_
                      have BK373 := n2_
                      have HB := n3_
                      clear n0_ n1_ n2_ n3_
                      obtain ⟨i068, hi068, _, hsz68, _⟩ := info_parts info5
                      obtain ⟨hcut68, hA68, hC68⟩ := print_take_of (P := Try.prog) (Value.int .u8) 0 27 5 .i64 Try.underlying27 hi068 hsz68 A1 c1 l1 48 (by omega) (of_decide_eq_true (by first | (with_reducible assumption) | assumption)) HC1.out
                      have HR379 := Aside0.mk (Kd.C_of_reads (h1 := fun _ => rfl) (hA68 _ (Kd.reads_of_C HR1.out)))
                      have HC379 := Aside0.mk hC68
                      clear hA68 hC68 hi068 hsz68
                      have HSTR : ∀ W : World, Below w.heap.size w W → (convert 27 9 (.slice A1 (min 48 l1.length) c1)).run Try.prog W = .ok (.string (strOfNums (l1.take 48))) W := fun W hW => by
                        have z_ := Kd.C_string (P := Try.prog) (A := A1) (c := c1) Try.underlying27 Try.underlying5 Try.underlying9 (Kd.C_below HR379.out hW)
                        simp only [List.length_take, show (48 : Int).toNat = 48 from rfl] at z_
                        exact z_
                      refine start_ (n := 19) (S := fun w' => (convert 27 9 (.slice A1 (min 48 l1.length) c1)).run Try.prog w' = .ok (.string (strOfNums (l1.take 48))) w') (ds := []) #[false, false, false, false, false, false, false, false, false, false, false, false, false, false, false, false, false, false, false] (by kernel_rfl) rfl rfl (HSTR _ HB.out) (fun hHeld => ?_); refine with_tabW chronobatelaw03_PacketBack.tab15 chronobatelaw03_PacketBack.bits15 (fun HT_ HW_ => ?_)
                      generalize w65.drew = w66 at HO376 BK310 BK373 HB hHeld ⊢
                      refine one_ (i := 0) (N := some 84) #[true, false, false, false, false, false, false, false, false, false, false, false, false, false, false, false, false, false, false] rfl rfl (one_of HT_.out (by kernel_rfl)) (by decide) (fun K hK => ?_)
                      refine goes_ Try.func12 (by kernel_rfl) rfl #[] (by rfl) rfl rfl (by (try simp only [List.map_toArray, List.map_cons, List.map_nil]); first | done | rfl | (simp only [List.length_drop, List.length_take]; rfl)) ?_
                      with_reducible refine (chronobatelaw03_alive.calls kj10  true _ A56.out).mono ?_
                      rintro e w67 ⟨rfl, hb⟩
                      refine ⟨_, rfl, ?_⟩
                      have n0_ := Aside0.mk (Kd.R_below (by (with_reducible repeat (first | apply Kd.R_alloc | apply Kd.R_drewN | apply Kd.R_drew)); exact HO376.out) hb)
                      have n1_ := Aside0.mk (blk_below (g := gb310) (o := .cells #[.int .u8 a0_0, .int .u8 a0_1, .int .u8 a0_2, .int .u8 a0_3, .int .i8 a0_4, .int .i8 a0_5, .int .u32 a0_6, .int .u32 a0_7, .int .u32 a0_8, .int .u64 a0_9, .int .u64 a0_10, .int .u64 a0_11, .int .u64 a0_12] 26 (0, 0)) (by (with_reducible repeat (first | refine blk_drewN ?_ _ | refine blk_drew ?_ | refine blk_alloc ?_ _)); exact BK310.out) hb)
                      have n2_ := Aside0.mk (blk_below (g := gb373) (o := .cells #[.int .u8 t359, .int .u8 t360, .int .u8 t361, .int .u8 t362, .int .i8 t363, .int .i8 t364, .int .u32 t365, .int .u32 t366, .int .u32 t367, .int .u64 t368, .int .u64 t369, .int .u64 t370, .int .u64 t371] 26 (0, 0)) (by (with_reducible repeat (first | refine blk_drewN ?_ _ | refine blk_drew ?_ | refine blk_alloc ?_ _)); exact BK373.out) hb)
                      have n3_ := Aside0.mk (below_step (by repeat (first | (with_reducible first | exact HB.out | apply below_alloc | apply pw_below_drewN | apply below_drew1 | refine below_set ?_ GE310.out | refine below_set ?_ GE373.out) | exact HB.out)) hb)
                      clear HO376
                      clear BK310
                      clear BK373
                      clear HB
                      have HO376 := n0_
                      have BK310 := n1_
                      have BK373 := n2_
                      have HB := n3_
                      clear n0_ n1_ n2_ n3_
                      (try clear hb)
                      (try clear hb2)
                      (try clear hk)
                      (try clear hi)
                      refine hK.out _ _ (HSTR _ HB.out) (fun hHeld => ?_)
                      clear hK K
                      refine norm_ (a' := ?_) ?_ ?_
                      rotate_left
                      · show Act.put _ (some 84) _ = _
                        simp only [Act.put, List.setIfInBounds_toArray, List.set_cons_zero, List.set_cons_succ, i64_w, i32_w]
                        rfl
                      refine pure_ (i := 1) (N := some 85) (v := ?_) (a' := ?_) #[true, true, false, false, false, false, false, false, false, false, false, false, false, false, false, false, false, false, false] rfl rfl (any_of HT_.out (by kernel_rfl)) (fun _ _ _ h => h) (Or.inl ⟨by rfl, ?_⟩) ?_ ?_
                      rotate_left
                      · intro w'
                        go_simp
                        with_reducible rfl
                      rotate_left
                      · simp only [Act.put, List.setIfInBounds_toArray, List.set_cons_zero, List.set_cons_succ, i64_w, i32_w]
                        rfl
                      refine pure_ (i := 2) (N := some 86) (v := ?_) (a' := ?_) #[true, true, true, false, false, false, false, false, false, false, false, false, false, false, false, false, false, false, false] rfl rfl (any_of HT_.out (by kernel_rfl)) (fun _ _ _ h => h) (Or.inl ⟨by rfl, ?_⟩) ?_ ?_
                      rotate_left
                      · intro w'
                        go_simp
                        with_reducible rfl
                      rotate_left
                      · simp only [Act.put, List.setIfInBounds_toArray, List.set_cons_zero, List.set_cons_succ, i64_w, i32_w]
                        rfl
                      refine pure_ (i := 3) (N := some 87) (v := ?_) (a' := ?_) #[true, true, true, true, false, false, false, false, false, false, false, false, false, false, false, false, false, false, false] rfl rfl (any_of HT_.out (by kernel_rfl)) (fun _ _ _ h => h) (Or.inl ⟨by rfl, ?_⟩) ?_ ?_
                      rotate_left
                      · intro w'
                        go_simp
                        with_reducible rfl
                      rotate_left
                      · simp only [Act.put, List.setIfInBounds_toArray, List.set_cons_zero, List.set_cons_succ, i64_w, i32_w]
                        rfl
                      refine pure_ (i := 4) (N := some 88) (v := ?_) (a' := ?_) #[true, true, true, true, true, false, false, false, false, false, false, false, false, false, false, false, false, false, false] rfl rfl (any_of HT_.out (by kernel_rfl)) (fun _ _ _ h => h) (Or.inl ⟨by rfl, ?_⟩) ?_ ?_
                      rotate_left
                      · intro w'
                        go_simp
                        with_reducible rfl
                      rotate_left
                      · simp only [Act.put, List.setIfInBounds_toArray, List.set_cons_zero, List.set_cons_succ, i64_w, i32_w]
                        rfl
                      refine pure_ (i := 5) (N := some 89) (v := ?_) (a' := ?_) #[true, true, true, true, true, true, false, false, false, false, false, false, false, false, false, false, false, false, false] rfl rfl (any_of HT_.out (by kernel_rfl)) (fun _ _ _ h => h) (Or.inl ⟨by rfl, ?_⟩) ?_ ?_
                      rotate_left
                      · intro w'
                        go_simp
                        with_reducible rfl
                      rotate_left
                      · simp only [Act.put, List.setIfInBounds_toArray, List.set_cons_zero, List.set_cons_succ, i64_w, i32_w]
                        rfl
                      refine pure_ (i := 6) (N := some 90) (v := ?_) (a' := ?_) #[true, true, true, true, true, true, true, false, false, false, false, false, false, false, false, false, false, false, false] rfl rfl (any_of HT_.out (by kernel_rfl)) (fun _ _ _ h => h) (Or.inl ⟨by rfl, ?_⟩) ?_ ?_
                      rotate_left
                      · intro w'
                        go_simp
                        with_reducible rfl
                      rotate_left
                      · simp only [Act.put, List.setIfInBounds_toArray, List.set_cons_zero, List.set_cons_succ, i64_w, i32_w]
                        rfl
                      refine pure_ (i := 7) (N := some 91) (v := ?_) (a' := ?_) #[true, true, true, true, true, true, true, true, false, false, false, false, false, false, false, false, false, false, false] rfl rfl (any_of HT_.out (by kernel_rfl)) (fun _ _ _ h => h) (Or.inl ⟨by rfl, ?_⟩) ?_ ?_
                      rotate_left
                      · intro w'
                        go_simp
                        with_reducible rfl
                      rotate_left
                      · simp only [Act.put, List.setIfInBounds_toArray, List.set_cons_zero, List.set_cons_succ, i64_w, i32_w]
                        rfl
                      refine pure_ (i := 8) (N := some 92) (v := ?_) (a' := ?_) #[true, true, true, true, true, true, true, true, true, false, false, false, false, false, false, false, false, false, false] rfl rfl (any_of HT_.out (by kernel_rfl)) (fun _ _ _ h => h) (Or.inl ⟨by rfl, ?_⟩) ?_ ?_
                      rotate_left
                      · intro w'
                        go_simp
                        with_reducible rfl
                      rotate_left
                      · simp only [Act.put, List.setIfInBounds_toArray, List.set_cons_zero, List.set_cons_succ, i64_w, i32_w]
                        rfl
                      refine pure_ (i := 9) (N := some 93) (v := ?_) (a' := ?_) #[true, true, true, true, true, true, true, true, true, true, false, false, false, false, false, false, false, false, false] rfl rfl (any_of HT_.out (by kernel_rfl)) (fun _ _ _ h => h) (Or.inl ⟨by rfl, ?_⟩) ?_ ?_
                      rotate_left
                      · intro w'
                        go_simp
                        with_reducible rfl
                      rotate_left
                      · simp only [Act.put, List.setIfInBounds_toArray, List.set_cons_zero, List.set_cons_succ, i64_w, i32_w]
                        rfl
                      refine pure_ (i := 10) (N := some 94) (v := ?_) (a' := ?_) #[true, true, true, true, true, true, true, true, true, true, true, false, false, false, false, false, false, false, false] rfl rfl (any_of HT_.out (by kernel_rfl)) (fun _ _ _ h => h) (Or.inl ⟨by rfl, ?_⟩) ?_ ?_
                      rotate_left
                      · intro w'
                        go_simp
                        with_reducible rfl
                      rotate_left
                      · simp only [Act.put, List.setIfInBounds_toArray, List.set_cons_zero, List.set_cons_succ, i64_w, i32_w]
                        rfl
                      refine pure_ (i := 11) (N := some 95) (v := ?_) (a' := ?_) #[true, true, true, true, true, true, true, true, true, true, true, true, false, false, false, false, false, false, false] rfl rfl (any_of HT_.out (by kernel_rfl)) (fun _ _ _ h => h) (Or.inl ⟨by rfl, ?_⟩) ?_ ?_
                      rotate_left
                      · intro w'
                        go_simp
                        with_reducible rfl
                      rotate_left
                      · simp only [Act.put, List.setIfInBounds_toArray, List.set_cons_zero, List.set_cons_succ, i64_w, i32_w]
                        rfl
                      refine pure_ (i := 13) (N := some 97) (v := ?_) (a' := ?_) #[true, true, true, true, true, true, true, true, true, true, true, true, false, true, false, false, false, false, false] rfl rfl (any_of HT_.out (by kernel_rfl)) (fun _ _ _ h => h) (Or.inl ⟨by rfl, ?_⟩) ?_ ?_
                      rotate_left
                      · intro w'
                        go_simp
                        with_reducible rfl
                      rotate_left
                      · simp only [Act.put, List.setIfInBounds_toArray, List.set_cons_zero, List.set_cons_succ, i64_w, i32_w]
                        rfl
                      refine pure_ (i := 14) (N := some 98) (v := ?_) (a' := ?_) #[true, true, true, true, true, true, true, true, true, true, true, true, false, true, true, false, false, false, false] rfl rfl (any_of HT_.out (by kernel_rfl)) (fun _ _ _ h => h) (Or.inl ⟨by rfl, ?_⟩) ?_ ?_
                      rotate_left
                      · intro w'
                        go_simp
                        with_reducible rfl
                      rotate_left
                      · simp only [Act.put, List.setIfInBounds_toArray, List.set_cons_zero, List.set_cons_succ, i64_w, i32_w]
                        rfl
                      refine take_ (i := 15) (N := some 99) (v := ?_) (a' := ?_) #[true, true, true, true, true, true, true, true, true, true, true, true, false, true, true, true, false, false, false] rfl rfl (take_ofW HT_.out HW_.out (by kernel_rfl)) (fun _ _ _ h => h) (Or.inl ⟨by rfl, ?_⟩) hHeld ?_ ?_
                      rotate_left
                      · rintro w' s0
                        go_simp
                        with_reducible rfl
                      rotate_left
                      · simp only [Act.put, List.setIfInBounds_toArray, List.set_cons_zero, List.set_cons_succ, i64_w, i32_w]
                        rfl
                      refine one_ (i := 12) (N := some 96) #[true, true, true, true, true, true, true, true, true, true, true, true, true, true, true, true, false, false, false] rfl rfl (one_of HT_.out (by kernel_rfl)) (by decide) (fun K hK => ?_)
                      have hcv69 := own_string (P := Try.prog) Try.underlying27 Try.underlying5 Try.underlying9 (Kd.own_of_R HO376.out)
                      refine value_ (w1 := ?_) (v := ?_) (by rfl) rfl ?_ ?_
                      rotate_left 2
                      · go_simp
                        constructor
                        · rfl
                        · rfl
                      clear hcv69
                      refine hK.out _ _ hHeld (fun hHeld => ?_)
                      clear hK K
                      refine norm_ (a' := ?_) ?_ ?_
                      rotate_left
                      · show Act.put _ (some 96) _ = _
                        simp only [Act.put, List.setIfInBounds_toArray, List.set_cons_zero, List.set_cons_succ, i64_w, i32_w]
                        rfl
                      refine pure_ (i := 16) (N := some 100) (v := ?_) (a' := ?_) #[true, true, true, true, true, true, true, true, true, true, true, true, true, true, true, true, true, false, false] rfl rfl (any_of HT_.out (by kernel_rfl)) (fun _ _ _ h => h) (Or.inl ⟨by rfl, ?_⟩) ?_ ?_
                      rotate_left
                      · intro w'
                        go_simp
                        with_reducible rfl
                      rotate_left
                      · simp only [Act.put, List.setIfInBounds_toArray, List.set_cons_zero, List.set_cons_succ, i64_w, i32_w]
                        rfl
                      refine pure_ (i := 17) (N := some 101) (v := ?_) (a' := ?_) #[true, true, true, true, true, true, true, true, true, true, true, true, true, true, true, true, true, true, false] rfl rfl (any_of HT_.out (by kernel_rfl)) (fun _ _ _ h => h) (Or.inl ⟨by rfl, ?_⟩) ?_ ?_
                      rotate_left
                      · intro w'
                        go_simp
                        with_reducible rfl
                      rotate_left
                      · simp only [Act.put, List.setIfInBounds_toArray, List.set_cons_zero, List.set_cons_succ, i64_w, i32_w]
                        rfl
                      refine pure_ (i := 18) (N := some 6) (v := ?_) (a' := ?_) #[true, true, true, true, true, true, true, true, true, true, true, true, true, true, true, true, true, true, true] rfl rfl (any_of HT_.out (by kernel_rfl)) (fun _ _ _ h => h) (Or.inl ⟨by rfl, ?_⟩) ?_ ?_
                      rotate_left
                      · intro w'
                        go_simp
                        with_reducible rfl
                      rotate_left
                      · simp only [Act.put, List.setIfInBounds_toArray, List.set_cons_zero, List.set_cons_succ, i64_w, i32_w]
                        rfl
                      refine done_ (done_of HT_.out (by kernel_rfl)) ?_
                      try go_wp2
                      go_ret
                      exact ⟨by first | rfl | (simp [errW_none, errW_some] <;> rfl) | (simp [*, errW_none, errW_some] <;> rfl), by repeat (first | (with_reducible first | exact HB.out | apply below_alloc | apply pw_below_drewN | apply below_drew1 | refine below_set ?_ GE310.out | refine below_set ?_ GE373.out) | exact HB.out)⟩
                    · rw [if_neg c60] at H
                      exact absurd H (by simp)
                  · rw [if_neg c59] at H
                    have c59b0 : decide (48 ≤ (l1.length : Int)) = false := decide_eq_false c59
                    have c59b1 : decide (48 ≤ l1.length) = false := decide_eq_false (by omega)
                    clear c59
                    obtain rfl := Option.some.inj H
                    try go_wp2_with (first | ((with_reducible refine gate_callee (f := 15) rfl ?_); refine goesL_ (some 64) rfl rfl Try.func15 (by kernel_rfl) rfl #[.slice A1 l1.length c1] rfl (by (try simp only [List.map_toArray, List.map_cons, List.map_nil]); first | done | rfl | (simp only [List.length_drop, List.length_take]; rfl)) ?_; (with_reducible refine (packet_Get.calls kj10 _ _ l1 t359 t360 t361 t362 t363 t364 t365 t366 t367 t368 t369 t370 t371 t372 _ ?side1 ?side2 A53.out).mono ?_); (case side1 => repeat (first | exact (Kd.C_below HR1.out HB.out) | (with_reducible refine Kd.C_alloc ?_ _) | (with_reducible refine Kd.C_drewN ?_ _) | (with_reducible refine Kd.C_drew ?_))); (case side2 => exact HC1.out); rintro e w72 ⟨rfl, hb⟩; refine ⟨_, rfl, ?_⟩; have n0_ := Aside0.mk (blk_below (g := gb310) (o := .cells #[.int .u8 a0_0, .int .u8 a0_1, .int .u8 a0_2, .int .u8 a0_3, .int .i8 a0_4, .int .i8 a0_5, .int .u32 a0_6, .int .u32 a0_7, .int .u32 a0_8, .int .u64 a0_9, .int .u64 a0_10, .int .u64 a0_11, .int .u64 a0_12] 26 (0, 0)) (by (with_reducible repeat (first | refine blk_drewN ?_ _ | refine blk_drew ?_ | refine blk_alloc ?_ _)); exact BK310.out) hb); have n1_ := Aside0.mk (below_step (by repeat (first | (with_reducible first | exact HB.out | apply below_alloc | apply pw_below_drewN | apply below_drew1 | refine below_set ?_ GE310.out) | exact HB.out)) hb); clear BK310; clear HB; have BK310 := n0_; have HB := n1_; clear n0_ n1_; (try clear hb); (try clear hb2); (try clear hk); (try clear hi)) | ((with_reducible refine gate_dst (N := 13) rfl ?_); (try (refine gate_guard (by rfl) ?_; dsimp only)); refine box_event ?hg (N := 13) ?hd (cs := #[.int .u8 0, .int .u8 0, .int .u8 0, .int .u8 0, .int .i8 0, .int .i8 0, .int .u32 0, .int .u32 0, .int .u32 0, .int .u64 0, .int .u64 0, .int .u64 0, .int .u64 0]) (t := 26) ?hr ?_; (case hd => rfl); (case hg => rfl); (case hr => first | (go_simp; done) | (go_simp; rfl)); intro gb373 hg w73 hbox hb; have n0_ := Aside0.mk (blk_below (g := gb310) (o := .cells #[.int .u8 a0_0, .int .u8 a0_1, .int .u8 a0_2, .int .u8 a0_3, .int .i8 a0_4, .int .i8 a0_5, .int .u32 a0_6, .int .u32 a0_7, .int .u32 a0_8, .int .u64 a0_9, .int .u64 a0_10, .int .u64 a0_11, .int .u64 a0_12] 26 (0, 0)) (by (with_reducible repeat (first | refine blk_drewN ?_ _ | refine blk_drew ?_ | refine blk_alloc ?_ _)); exact BK310.out) hb); have n1_ := Aside0.mk (below_step (by repeat (first | (with_reducible first | exact HB.out | apply below_alloc | apply pw_below_drewN | apply below_drew1 | refine below_set ?_ GE310.out) | exact HB.out)) hb); have n2_ := Aside0.mk (hbox); have n3_ := Aside0.mk ((by rw [hg]; exact (below_size (by repeat (first | (with_reducible first | exact HB.out | apply below_alloc | apply pw_below_drewN | apply below_drew1 | refine below_set ?_ GE310.out) | exact HB.out))) : w.heap.size ≤ gb373)); have n4_ := Aside0.mk ((by rw [hg]; exact (below_size (by repeat (first | (with_reducible first | exact HB.out | apply below_alloc | apply pw_below_drewN | apply below_drew1 | refine below_set ?_ GE310.out) | exact HB.out))) : w.heap.size ≤ gb373)); have n5_ := Aside0.mk ((by rw [hg]; exact Nat.ne_of_lt (blk_lt (g := gb310) (o := .cells #[.int .u8 a0_0, .int .u8 a0_1, .int .u8 a0_2, .int .u8 a0_3, .int .i8 a0_4, .int .i8 a0_5, .int .u32 a0_6, .int .u32 a0_7, .int .u32 a0_8, .int .u64 a0_9, .int .u64 a0_10, .int .u64 a0_11, .int .u64 a0_12] 26 (0, 0)) (by (with_reducible repeat (first | refine blk_drewN ?_ _ | refine blk_drew ?_ | refine blk_alloc ?_ _)); exact BK310.out)) : gb310 ≠ gb373)); have n6_ := Aside0.mk ((by rw [hg]; exact Nat.ne_of_gt (blk_lt (g := gb310) (o := .cells #[.int .u8 a0_0, .int .u8 a0_1, .int .u8 a0_2, .int .u8 a0_3, .int .i8 a0_4, .int .i8 a0_5, .int .u32 a0_6, .int .u32 a0_7, .int .u32 a0_8, .int .u64 a0_9, .int .u64 a0_10, .int .u64 a0_11, .int .u64 a0_12] 26 (0, 0)) (by (with_reducible repeat (first | refine blk_drewN ?_ _ | refine blk_drew ?_ | refine blk_alloc ?_ _)); exact BK310.out)) : gb373 ≠ gb310)); clear BK310; clear HB; have BK310 := n0_; have HB := n1_; have BK373 := n2_; have GW373 := n3_; have GE373 := n4_; have NB310_373 := n5_; have NB373_310 := n6_; clear n0_ n1_ n2_ n3_ n4_ n5_ n6_; clear hb hbox hg; have hnb74 := NB373_310.out; have hnc74 := NB310_373.out; have hcz75_0 : w73.cell? ⟨gb373, 0, none⟩ = some (.int .u8 0) := (blk_cell BK373.out 0).trans rfl; have hcz75_1 : w73.cell? ⟨gb373, 1, none⟩ = some (.int .u8 0) := (blk_cell BK373.out 1).trans rfl; have hcz75_2 : w73.cell? ⟨gb373, 2, none⟩ = some (.int .u8 0) := (blk_cell BK373.out 2).trans rfl; have hcz75_3 : w73.cell? ⟨gb373, 3, none⟩ = some (.int .u8 0) := (blk_cell BK373.out 3).trans rfl; have hcz75_4 : w73.cell? ⟨gb373, 4, none⟩ = some (.int .i8 0) := (blk_cell BK373.out 4).trans rfl; have hcz75_5 : w73.cell? ⟨gb373, 5, none⟩ = some (.int .i8 0) := (blk_cell BK373.out 5).trans rfl; have hcz75_6 : w73.cell? ⟨gb373, 6, none⟩ = some (.int .u32 0) := (blk_cell BK373.out 6).trans rfl; have hcz75_7 : w73.cell? ⟨gb373, 7, none⟩ = some (.int .u32 0) := (blk_cell BK373.out 7).trans rfl; have hcz75_8 : w73.cell? ⟨gb373, 8, none⟩ = some (.int .u32 0) := (blk_cell BK373.out 8).trans rfl; have hcz75_9 : w73.cell? ⟨gb373, 9, none⟩ = some (.int .u64 0) := (blk_cell BK373.out 9).trans rfl; have hcz75_10 : w73.cell? ⟨gb373, 10, none⟩ = some (.int .u64 0) := (blk_cell BK373.out 10).trans rfl; have hcz75_11 : w73.cell? ⟨gb373, 11, none⟩ = some (.int .u64 0) := (blk_cell BK373.out 11).trans rfl; have hcz75_12 : w73.cell? ⟨gb373, 12, none⟩ = some (.int .u64 0) := (blk_cell BK373.out 12).trans rfl; have hfz75_0 := blk_frozen BK373.out 0; have hfz75_1 := blk_frozen BK373.out 1; have hfz75_2 := blk_frozen BK373.out 2; have hfz75_3 := blk_frozen BK373.out 3; have hfz75_4 := blk_frozen BK373.out 4; have hfz75_5 := blk_frozen BK373.out 5; have hfz75_6 := blk_frozen BK373.out 6; have hfz75_7 := blk_frozen BK373.out 7; have hfz75_8 := blk_frozen BK373.out 8; have hfz75_9 := blk_frozen BK373.out 9; have hfz75_10 := blk_frozen BK373.out 10; have hfz75_11 := blk_frozen BK373.out 11; have hfz75_12 := blk_frozen BK373.out 12) | ((with_reducible refine gate_callee (f := 9) rfl ?_); refine goesL_ (some 81) rfl rfl Try.func9 (by kernel_rfl) rfl #[.agg #[.int .u8 t359, .int .u8 t360, .int .u8 t361, .int .u8 t362, .int .i8 t363, .int .i8 t364, .int .u32 t365, .int .u32 t366, .int .u32 t367, .int .u64 t368, .int .u64 t369, .int .u64 t370, .int .u64 t371]] rfl (by (try simp only [List.map_toArray, List.map_cons, List.map_nil]); first | done | rfl | (simp only [List.length_drop, List.length_take]; rfl)) ?_; (with_reducible refine (packet_Put.calls kj10 t359 t360 t361 t362 t363 t364 t365 t366 t367 t368 t369 t370 t371 t374 t377 _ A55.out).mono ?_); rintro e w76 ⟨v375, rfl, ho0, hb⟩; refine ⟨_, rfl, ?_⟩; have n0_ := Aside0.mk (Kd.R_lower ho0 (below_size (by repeat (first | (with_reducible first | exact HB.out | apply below_alloc | apply pw_below_drewN | apply below_drew1 | refine below_set ?_ GE310.out | refine below_set ?_ GE373.out) | exact HB.out)))); have n1_ := Aside0.mk (blk_below (g := gb310) (o := .cells #[.int .u8 a0_0, .int .u8 a0_1, .int .u8 a0_2, .int .u8 a0_3, .int .i8 a0_4, .int .i8 a0_5, .int .u32 a0_6, .int .u32 a0_7, .int .u32 a0_8, .int .u64 a0_9, .int .u64 a0_10, .int .u64 a0_11, .int .u64 a0_12] 26 (0, 0)) (by (with_reducible repeat (first | refine blk_drewN ?_ _ | refine blk_drew ?_ | refine blk_alloc ?_ _)); refine blk_far ?_ NB310_373.out _; (with_reducible repeat (first | refine blk_drewN ?_ _ | refine blk_drew ?_ | refine blk_alloc ?_ _)); refine blk_far ?_ NB310_373.out _; (with_reducible repeat (first | refine blk_drewN ?_ _ | refine blk_drew ?_ | refine blk_alloc ?_ _)); refine blk_far ?_ NB310_373.out _; (with_reducible repeat (first | refine blk_drewN ?_ _ | refine blk_drew ?_ | refine blk_alloc ?_ _)); refine blk_far ?_ NB310_373.out _; (with_reducible repeat (first | refine blk_drewN ?_ _ | refine blk_drew ?_ | refine blk_alloc ?_ _)); refine blk_far ?_ NB310_373.out _; (with_reducible repeat (first | refine blk_drewN ?_ _ | refine blk_drew ?_ | refine blk_alloc ?_ _)); refine blk_far ?_ NB310_373.out _; (with_reducible repeat (first | refine blk_drewN ?_ _ | refine blk_drew ?_ | refine blk_alloc ?_ _)); refine blk_far ?_ NB310_373.out _; (with_reducible repeat (first | refine blk_drewN ?_ _ | refine blk_drew ?_ | refine blk_alloc ?_ _)); refine blk_far ?_ NB310_373.out _; (with_reducible repeat (first | refine blk_drewN ?_ _ | refine blk_drew ?_ | refine blk_alloc ?_ _)); refine blk_far ?_ NB310_373.out _; (with_reducible repeat (first | refine blk_drewN ?_ _ | refine blk_drew ?_ | refine blk_alloc ?_ _)); refine blk_far ?_ NB310_373.out _; (with_reducible repeat (first | refine blk_drewN ?_ _ | refine blk_drew ?_ | refine blk_alloc ?_ _)); refine blk_far ?_ NB310_373.out _; (with_reducible repeat (first | refine blk_drewN ?_ _ | refine blk_drew ?_ | refine blk_alloc ?_ _)); refine blk_far ?_ NB310_373.out _; (with_reducible repeat (first | refine blk_drewN ?_ _ | refine blk_drew ?_ | refine blk_alloc ?_ _)); refine blk_far ?_ NB310_373.out _; (with_reducible repeat (first | refine blk_drewN ?_ _ | refine blk_drew ?_ | refine blk_alloc ?_ _)); exact BK310.out) hb); have n2_ := Aside0.mk (blk_below (g := gb373) (o := .cells #[.int .u8 t359, .int .u8 t360, .int .u8 t361, .int .u8 t362, .int .i8 t363, .int .i8 t364, .int .u32 t365, .int .u32 t366, .int .u32 t367, .int .u64 t368, .int .u64 t369, .int .u64 t370, .int .u64 t371] 26 (0, 0)) (by (with_reducible repeat (first | refine blk_drewN ?_ _ | refine blk_drew ?_ | refine blk_alloc ?_ _)); refine blk_put (cs := #[.int .u8 t359, .int .u8 t360, .int .u8 t361, .int .u8 t362, .int .i8 t363, .int .i8 t364, .int .u32 t365, .int .u32 t366, .int .u32 t367, .int .u64 t368, .int .u64 t369, .int .u64 t370, .int .u64 0]) ?_ 12 _ rfl; (with_reducible repeat (first | refine blk_drewN ?_ _ | refine blk_drew ?_ | refine blk_alloc ?_ _)); refine blk_put (cs := #[.int .u8 t359, .int .u8 t360, .int .u8 t361, .int .u8 t362, .int .i8 t363, .int .i8 t364, .int .u32 t365, .int .u32 t366, .int .u32 t367, .int .u64 t368, .int .u64 t369, .int .u64 0, .int .u64 0]) ?_ 11 _ rfl; (with_reducible repeat (first | refine blk_drewN ?_ _ | refine blk_drew ?_ | refine blk_alloc ?_ _)); refine blk_put (cs := #[.int .u8 t359, .int .u8 t360, .int .u8 t361, .int .u8 t362, .int .i8 t363, .int .i8 t364, .int .u32 t365, .int .u32 t366, .int .u32 t367, .int .u64 t368, .int .u64 0, .int .u64 0, .int .u64 0]) ?_ 10 _ rfl; (with_reducible repeat (first | refine blk_drewN ?_ _ | refine blk_drew ?_ | refine blk_alloc ?_ _)); refine blk_put (cs := #[.int .u8 t359, .int .u8 t360, .int .u8 t361, .int .u8 t362, .int .i8 t363, .int .i8 t364, .int .u32 t365, .int .u32 t366, .int .u32 t367, .int .u64 0, .int .u64 0, .int .u64 0, .int .u64 0]) ?_ 9 _ rfl; (with_reducible repeat (first | refine blk_drewN ?_ _ | refine blk_drew ?_ | refine blk_alloc ?_ _)); refine blk_put (cs := #[.int .u8 t359, .int .u8 t360, .int .u8 t361, .int .u8 t362, .int .i8 t363, .int .i8 t364, .int .u32 t365, .int .u32 t366, .int .u32 0, .int .u64 0, .int .u64 0, .int .u64 0, .int .u64 0]) ?_ 8 _ rfl; (with_reducible repeat (first | refine blk_drewN ?_ _ | refine blk_drew ?_ | refine blk_alloc ?_ _)); refine blk_put (cs := #[.int .u8 t359, .int .u8 t360, .int .u8 t361, .int .u8 t362, .int .i8 t363, .int .i8 t364, .int .u32 t365, .int .u32 0, .int .u32 0, .int .u64 0, .int .u64 0, .int .u64 0, .int .u64 0]) ?_ 7 _ rfl; (with_reducible repeat (first | refine blk_drewN ?_ _ | refine blk_drew ?_ | refine blk_alloc ?_ _)); refine blk_put (cs := #[.int .u8 t359, .int .u8 t360, .int .u8 t361, .int .u8 t362, .int .i8 t363, .int .i8 t364, .int .u32 0, .int .u32 0, .int .u32 0, .int .u64 0, .int .u64 0, .int .u64 0, .int .u64 0]) ?_ 6 _ rfl; (with_reducible repeat (first | refine blk_drewN ?_ _ | refine blk_drew ?_ | refine blk_alloc ?_ _)); refine blk_put (cs := #[.int .u8 t359, .int .u8 t360, .int .u8 t361, .int .u8 t362, .int .i8 t363, .int .i8 0, .int .u32 0, .int .u32 0, .int .u32 0, .int .u64 0, .int .u64 0, .int .u64 0, .int .u64 0]) ?_ 5 _ rfl; (with_reducible repeat (first | refine blk_drewN ?_ _ | refine blk_drew ?_ | refine blk_alloc ?_ _)); refine blk_put (cs := #[.int .u8 t359, .int .u8 t360, .int .u8 t361, .int .u8 t362, .int .i8 0, .int .i8 0, .int .u32 0, .int .u32 0, .int .u32 0, .int .u64 0, .int .u64 0, .int .u64 0, .int .u64 0]) ?_ 4 _ rfl; (with_reducible repeat (first | refine blk_drewN ?_ _ | refine blk_drew ?_ | refine blk_alloc ?_ _)); refine blk_put (cs := #[.int .u8 t359, .int .u8 t360, .int .u8 t361, .int .u8 0, .int .i8 0, .int .i8 0, .int .u32 0, .int .u32 0, .int .u32 0, .int .u64 0, .int .u64 0, .int .u64 0, .int .u64 0]) ?_ 3 _ rfl; (with_reducible repeat (first | refine blk_drewN ?_ _ | refine blk_drew ?_ | refine blk_alloc ?_ _)); refine blk_put (cs := #[.int .u8 t359, .int .u8 t360, .int .u8 0, .int .u8 0, .int .i8 0, .int .i8 0, .int .u32 0, .int .u32 0, .int .u32 0, .int .u64 0, .int .u64 0, .int .u64 0, .int .u64 0]) ?_ 2 _ rfl; (with_reducible repeat (first | refine blk_drewN ?_ _ | refine blk_drew ?_ | refine blk_alloc ?_ _)); refine blk_put (cs := #[.int .u8 t359, .int .u8 0, .int .u8 0, .int .u8 0, .int .i8 0, .int .i8 0, .int .u32 0, .int .u32 0, .int .u32 0, .int .u64 0, .int .u64 0, .int .u64 0, .int .u64 0]) ?_ 1 _ rfl; (with_reducible repeat (first | refine blk_drewN ?_ _ | refine blk_drew ?_ | refine blk_alloc ?_ _)); refine blk_put (cs := #[.int .u8 0, .int .u8 0, .int .u8 0, .int .u8 0, .int .i8 0, .int .i8 0, .int .u32 0, .int .u32 0, .int .u32 0, .int .u64 0, .int .u64 0, .int .u64 0, .int .u64 0]) ?_ 0 _ rfl; (with_reducible repeat (first | refine blk_drewN ?_ _ | refine blk_drew ?_ | refine blk_alloc ?_ _)); exact BK373.out) hb); have n3_ := Aside0.mk (below_step (by repeat (first | (with_reducible first | exact HB.out | apply below_alloc | apply pw_below_drewN | apply below_drew1 | refine below_set ?_ GE310.out | refine below_set ?_ GE373.out) | exact HB.out)) hb); clear BK310; clear BK373; clear HB; have HO376 := n0_; have BK310 := n1_; have BK373 := n2_; have HB := n3_; clear n0_ n1_ n2_ n3_; (try clear hb); (try clear hb2); (try clear hk); (try clear hi); (try clear ho0)))
                    have n0_ := Aside0.mk (Kd.R_drew HO376.out)
                    have n1_ := Aside0.mk (blk_drew BK310.out)
                    have n2_ := Aside0.mk (blk_drew BK373.out)
                    have n3_ := Aside0.mk (below_drew1 HB.out)
                    clear HO376
                    clear BK310
                    clear BK373
                    clear HB
                    have HO376 := n0_
                    have BK310 := n1_
                    have BK373 := n2_
                    have HB := n3_
                    clear n0_ n1_ n2_ n3_
                    refine start_ (n := 19) (S := fun w' => True) (ds := []) #[false, false, false, false, false, false, false, false, false, false, false, false, false, false, false, false, false, false, false] (by kernel_rfl) rfl rfl trivial (fun hHeld => ?_); refine with_tabW chronobatelaw03_PacketBack.tab15 chronobatelaw03_PacketBack.bits15 (fun HT_ HW_ => ?_)
                    generalize w76.drew = w77 at HO376 BK310 BK373 HB hHeld ⊢
                    refine one_ (i := 0) (N := some 84) #[true, false, false, false, false, false, false, false, false, false, false, false, false, false, false, false, false, false, false] rfl rfl (one_of HT_.out (by kernel_rfl)) (by decide) (fun K hK => ?_)
                    refine goes_ Try.func12 (by kernel_rfl) rfl #[] (by rfl) rfl rfl (by (try simp only [List.map_toArray, List.map_cons, List.map_nil]); first | done | rfl | (simp only [List.length_drop, List.length_take]; rfl)) ?_
                    with_reducible refine (chronobatelaw03_alive.calls kj10  true _ A56.out).mono ?_
                    rintro e w78 ⟨rfl, hb⟩
                    refine ⟨_, rfl, ?_⟩
                    have n0_ := Aside0.mk (Kd.R_below (by (with_reducible repeat (first | apply Kd.R_alloc | apply Kd.R_drewN | apply Kd.R_drew)); exact HO376.out) hb)
                    have n1_ := Aside0.mk (blk_below (g := gb310) (o := .cells #[.int .u8 a0_0, .int .u8 a0_1, .int .u8 a0_2, .int .u8 a0_3, .int .i8 a0_4, .int .i8 a0_5, .int .u32 a0_6, .int .u32 a0_7, .int .u32 a0_8, .int .u64 a0_9, .int .u64 a0_10, .int .u64 a0_11, .int .u64 a0_12] 26 (0, 0)) (by (with_reducible repeat (first | refine blk_drewN ?_ _ | refine blk_drew ?_ | refine blk_alloc ?_ _)); exact BK310.out) hb)
                    have n2_ := Aside0.mk (blk_below (g := gb373) (o := .cells #[.int .u8 t359, .int .u8 t360, .int .u8 t361, .int .u8 t362, .int .i8 t363, .int .i8 t364, .int .u32 t365, .int .u32 t366, .int .u32 t367, .int .u64 t368, .int .u64 t369, .int .u64 t370, .int .u64 t371] 26 (0, 0)) (by (with_reducible repeat (first | refine blk_drewN ?_ _ | refine blk_drew ?_ | refine blk_alloc ?_ _)); exact BK373.out) hb)
                    have n3_ := Aside0.mk (below_step (by repeat (first | (with_reducible first | exact HB.out | apply below_alloc | apply pw_below_drewN | apply below_drew1 | refine below_set ?_ GE310.out | refine below_set ?_ GE373.out) | exact HB.out)) hb)
                    clear HO376
                    clear BK310
                    clear BK373
                    clear HB
                    have HO376 := n0_
                    have BK310 := n1_
                    have BK373 := n2_
                    have HB := n3_
                    clear n0_ n1_ n2_ n3_
                    (try clear hb)
                    (try clear hb2)
                    (try clear hk)
                    (try clear hi)
                    refine hK.out _ _ trivial (fun hHeld => ?_)
                    clear hK K
                    refine norm_ (a' := ?_) ?_ ?_
                    rotate_left
                    · show Act.put _ (some 84) _ = _
                      simp only [Act.put, List.setIfInBounds_toArray, List.set_cons_zero, List.set_cons_succ, i64_w, i32_w]
                      rfl
                    refine pure_ (i := 1) (N := some 85) (v := ?_) (a' := ?_) #[true, true, false, false, false, false, false, false, false, false, false, false, false, false, false, false, false, false, false] rfl rfl (any_of HT_.out (by kernel_rfl)) (fun _ _ _ h => h) (Or.inl ⟨by rfl, ?_⟩) ?_ ?_
                    rotate_left
                    · intro w'
                      go_simp
                      with_reducible rfl
                    rotate_left
                    · simp only [Act.put, List.setIfInBounds_toArray, List.set_cons_zero, List.set_cons_succ, i64_w, i32_w]
                      rfl
                    refine pure_ (i := 2) (N := some 86) (v := ?_) (a' := ?_) #[true, true, true, false, false, false, false, false, false, false, false, false, false, false, false, false, false, false, false] rfl rfl (any_of HT_.out (by kernel_rfl)) (fun _ _ _ h => h) (Or.inl ⟨by rfl, ?_⟩) ?_ ?_
                    rotate_left
                    · intro w'
                      go_simp
                      with_reducible rfl
                    rotate_left
                    · simp only [Act.put, List.setIfInBounds_toArray, List.set_cons_zero, List.set_cons_succ, i64_w, i32_w]
                      rfl
                    refine pure_ (i := 3) (N := some 87) (v := ?_) (a' := ?_) #[true, true, true, true, false, false, false, false, false, false, false, false, false, false, false, false, false, false, false] rfl rfl (any_of HT_.out (by kernel_rfl)) (fun _ _ _ h => h) (Or.inl ⟨by rfl, ?_⟩) ?_ ?_
                    rotate_left
                    · intro w'
                      go_simp
                      with_reducible rfl
                    rotate_left
                    · simp only [Act.put, List.setIfInBounds_toArray, List.set_cons_zero, List.set_cons_succ, i64_w, i32_w]
                      rfl
                    refine pure_ (i := 4) (N := some 88) (v := ?_) (a' := ?_) #[true, true, true, true, true, false, false, false, false, false, false, false, false, false, false, false, false, false, false] rfl rfl (any_of HT_.out (by kernel_rfl)) (fun _ _ _ h => h) (Or.inl ⟨by rfl, ?_⟩) ?_ ?_
                    rotate_left
                    · intro w'
                      go_simp
                      with_reducible rfl
                    rotate_left
                    · simp only [Act.put, List.setIfInBounds_toArray, List.set_cons_zero, List.set_cons_succ, i64_w, i32_w]
                      rfl
                    refine pure_ (i := 5) (N := some 89) (v := ?_) (a' := ?_) #[true, true, true, true, true, true, false, false, false, false, false, false, false, false, false, false, false, false, false] rfl rfl (any_of HT_.out (by kernel_rfl)) (fun _ _ _ h => h) (Or.inl ⟨by rfl, ?_⟩) ?_ ?_
                    rotate_left
                    · intro w'
                      go_simp
                      with_reducible rfl
                    rotate_left
                    · simp only [Act.put, List.setIfInBounds_toArray, List.set_cons_zero, List.set_cons_succ, i64_w, i32_w]
                      rfl
                    refine pure_ (i := 6) (N := some 90) (v := ?_) (a' := ?_) #[true, true, true, true, true, true, true, false, false, false, false, false, false, false, false, false, false, false, false] rfl rfl (any_of HT_.out (by kernel_rfl)) (fun _ _ _ h => h) (Or.inl ⟨by rfl, ?_⟩) ?_ ?_
                    rotate_left
                    · intro w'
                      go_simp
                      with_reducible rfl
                    rotate_left
                    · simp only [Act.put, List.setIfInBounds_toArray, List.set_cons_zero, List.set_cons_succ, i64_w, i32_w]
                      rfl
                    refine pure_ (i := 7) (N := some 91) (v := ?_) (a' := ?_) #[true, true, true, true, true, true, true, true, false, false, false, false, false, false, false, false, false, false, false] rfl rfl (any_of HT_.out (by kernel_rfl)) (fun _ _ _ h => h) (Or.inl ⟨by rfl, ?_⟩) ?_ ?_
                    rotate_left
                    · intro w'
                      go_simp
                      with_reducible rfl
                    rotate_left
                    · simp only [Act.put, List.setIfInBounds_toArray, List.set_cons_zero, List.set_cons_succ, i64_w, i32_w]
                      rfl
                    refine pure_ (i := 8) (N := some 92) (v := ?_) (a' := ?_) #[true, true, true, true, true, true, true, true, true, false, false, false, false, false, false, false, false, false, false] rfl rfl (any_of HT_.out (by kernel_rfl)) (fun _ _ _ h => h) (Or.inl ⟨by rfl, ?_⟩) ?_ ?_
                    rotate_left
                    · intro w'
                      go_simp
                      with_reducible rfl
                    rotate_left
                    · simp only [Act.put, List.setIfInBounds_toArray, List.set_cons_zero, List.set_cons_succ, i64_w, i32_w]
                      rfl
                    refine pure_ (i := 9) (N := some 93) (v := ?_) (a' := ?_) #[true, true, true, true, true, true, true, true, true, true, false, false, false, false, false, false, false, false, false] rfl rfl (any_of HT_.out (by kernel_rfl)) (fun _ _ _ h => h) (Or.inl ⟨by rfl, ?_⟩) ?_ ?_
                    rotate_left
                    · intro w'
                      go_simp
                      with_reducible rfl
                    rotate_left
                    · simp only [Act.put, List.setIfInBounds_toArray, List.set_cons_zero, List.set_cons_succ, i64_w, i32_w]
                      rfl
                    refine pure_ (i := 10) (N := some 94) (v := ?_) (a' := ?_) #[true, true, true, true, true, true, true, true, true, true, true, false, false, false, false, false, false, false, false] rfl rfl (any_of HT_.out (by kernel_rfl)) (fun _ _ _ h => h) (Or.inl ⟨by rfl, ?_⟩) ?_ ?_
                    rotate_left
                    · intro w'
                      go_simp
                      with_reducible rfl
                    rotate_left
                    · simp only [Act.put, List.setIfInBounds_toArray, List.set_cons_zero, List.set_cons_succ, i64_w, i32_w]
                      rfl
                    refine pure_ (i := 11) (N := some 95) (v := undef) (a' := ?_) #[true, true, true, true, true, true, true, true, true, true, true, true, false, false, false, false, false, false, false] rfl rfl (any_of HT_.out (by kernel_rfl)) (fun _ _ _ h => h) (Or.inr ⟨by rfl, rfl⟩) ?_ ?_
                    rotate_left
                    · simp only [Act.put, List.setIfInBounds_toArray, List.set_cons_zero, List.set_cons_succ, i64_w, i32_w]
                      rfl
                    refine pure_ (i := 12) (N := some 96) (v := undef) (a' := ?_) #[true, true, true, true, true, true, true, true, true, true, true, true, true, false, false, false, false, false, false] rfl rfl (any_of HT_.out (by kernel_rfl)) (fun _ _ _ h => h) (Or.inr ⟨by rfl, rfl⟩) ?_ ?_
                    rotate_left
                    · simp only [Act.put, List.setIfInBounds_toArray, List.set_cons_zero, List.set_cons_succ, i64_w, i32_w]
                      rfl
                    refine pure_ (i := 13) (N := some 97) (v := undef) (a' := ?_) #[true, true, true, true, true, true, true, true, true, true, true, true, true, true, false, false, false, false, false] rfl rfl (any_of HT_.out (by kernel_rfl)) (fun _ _ _ h => h) (Or.inr ⟨by rfl, rfl⟩) ?_ ?_
                    rotate_left
                    · simp only [Act.put, List.setIfInBounds_toArray, List.set_cons_zero, List.set_cons_succ, i64_w, i32_w]
                      rfl
                    refine pure_ (i := 14) (N := some 98) (v := undef) (a' := ?_) #[true, true, true, true, true, true, true, true, true, true, true, true, true, true, true, false, false, false, false] rfl rfl (any_of HT_.out (by kernel_rfl)) (fun _ _ _ h => h) (Or.inr ⟨by rfl, rfl⟩) ?_ ?_
                    rotate_left
                    · simp only [Act.put, List.setIfInBounds_toArray, List.set_cons_zero, List.set_cons_succ, i64_w, i32_w]
                      rfl
                    refine pure_ (i := 15) (N := some 99) (v := undef) (a' := ?_) #[true, true, true, true, true, true, true, true, true, true, true, true, true, true, true, true, false, false, false] rfl rfl (any_of HT_.out (by kernel_rfl)) (fun _ _ _ h => h) (Or.inr ⟨by rfl, rfl⟩) ?_ ?_
                    rotate_left
                    · simp only [Act.put, List.setIfInBounds_toArray, List.set_cons_zero, List.set_cons_succ, i64_w, i32_w]
                      rfl
                    refine pure_ (i := 16) (N := some 100) (v := undef) (a' := ?_) #[true, true, true, true, true, true, true, true, true, true, true, true, true, true, true, true, true, false, false] rfl rfl (any_of HT_.out (by kernel_rfl)) (fun _ _ _ h => h) (Or.inr ⟨by rfl, rfl⟩) ?_ ?_
                    rotate_left
                    · simp only [Act.put, List.setIfInBounds_toArray, List.set_cons_zero, List.set_cons_succ, i64_w, i32_w]
                      rfl
                    refine pure_ (i := 17) (N := some 101) (v := ?_) (a' := ?_) #[true, true, true, true, true, true, true, true, true, true, true, true, true, true, true, true, true, true, false] rfl rfl (any_of HT_.out (by kernel_rfl)) (fun _ _ _ h => h) (Or.inl ⟨by rfl, ?_⟩) ?_ ?_
                    rotate_left
                    · intro w'
                      go_simp
                      with_reducible rfl
                    rotate_left
                    · simp only [Act.put, List.setIfInBounds_toArray, List.set_cons_zero, List.set_cons_succ, i64_w, i32_w]
                      rfl
                    refine pure_ (i := 18) (N := some 6) (v := ?_) (a' := ?_) #[true, true, true, true, true, true, true, true, true, true, true, true, true, true, true, true, true, true, true] rfl rfl (any_of HT_.out (by kernel_rfl)) (fun _ _ _ h => h) (Or.inl ⟨by rfl, ?_⟩) ?_ ?_
                    rotate_left
                    · intro w'
                      go_simp
                      with_reducible rfl
                    rotate_left
                    · simp only [Act.put, List.setIfInBounds_toArray, List.set_cons_zero, List.set_cons_succ, i64_w, i32_w]
                      rfl
                    refine done_ (done_of HT_.out (by kernel_rfl)) ?_
                    try go_wp2
                    go_ret
                    exact ⟨by first | rfl | (simp [errW_none, errW_some] <;> rfl) | (simp [*, errW_none, errW_some] <;> rfl), by repeat (first | (with_reducible first | exact HB.out | apply below_alloc | apply pw_below_drewN | apply below_drew1 | refine below_set ?_ GE310.out | refine below_set ?_ GE373.out) | exact HB.out)⟩
                · rw [if_neg c58] at H
                  have c58b0 : (t377 == 0) = false := beq_eq_false_iff_ne.mpr c58
                  have c58b1 : (t377 != 0) = true := bne_iff_ne.mpr c58
                  obtain rfl := Option.some.inj H
                  try go_wp2_with (first | ((with_reducible refine gate_callee (f := 15) rfl ?_); refine goesL_ (some 64) rfl rfl Try.func15 (by kernel_rfl) rfl #[.slice A1 l1.length c1] rfl (by (try simp only [List.map_toArray, List.map_cons, List.map_nil]); first | done | rfl | (simp only [List.length_drop, List.length_take]; rfl)) ?_; (with_reducible refine (packet_Get.calls kj10 _ _ l1 t359 t360 t361 t362 t363 t364 t365 t366 t367 t368 t369 t370 t371 t372 _ ?side1 ?side2 A53.out).mono ?_); (case side1 => repeat (first | exact (Kd.C_below HR1.out HB.out) | (with_reducible refine Kd.C_alloc ?_ _) | (with_reducible refine Kd.C_drewN ?_ _) | (with_reducible refine Kd.C_drew ?_))); (case side2 => exact HC1.out); rintro e w79 ⟨rfl, hb⟩; refine ⟨_, rfl, ?_⟩; have n0_ := Aside0.mk (blk_below (g := gb310) (o := .cells #[.int .u8 a0_0, .int .u8 a0_1, .int .u8 a0_2, .int .u8 a0_3, .int .i8 a0_4, .int .i8 a0_5, .int .u32 a0_6, .int .u32 a0_7, .int .u32 a0_8, .int .u64 a0_9, .int .u64 a0_10, .int .u64 a0_11, .int .u64 a0_12] 26 (0, 0)) (by (with_reducible repeat (first | refine blk_drewN ?_ _ | refine blk_drew ?_ | refine blk_alloc ?_ _)); exact BK310.out) hb); have n1_ := Aside0.mk (below_step (by repeat (first | (with_reducible first | exact HB.out | apply below_alloc | apply pw_below_drewN | apply below_drew1 | refine below_set ?_ GE310.out) | exact HB.out)) hb); clear BK310; clear HB; have BK310 := n0_; have HB := n1_; clear n0_ n1_; (try clear hb); (try clear hb2); (try clear hk); (try clear hi)) | ((with_reducible refine gate_dst (N := 13) rfl ?_); (try (refine gate_guard (by rfl) ?_; dsimp only)); refine box_event ?hg (N := 13) ?hd (cs := #[.int .u8 0, .int .u8 0, .int .u8 0, .int .u8 0, .int .i8 0, .int .i8 0, .int .u32 0, .int .u32 0, .int .u32 0, .int .u64 0, .int .u64 0, .int .u64 0, .int .u64 0]) (t := 26) ?hr ?_; (case hd => rfl); (case hg => rfl); (case hr => first | (go_simp; done) | (go_simp; rfl)); intro gb373 hg w80 hbox hb; have n0_ := Aside0.mk (blk_below (g := gb310) (o := .cells #[.int .u8 a0_0, .int .u8 a0_1, .int .u8 a0_2, .int .u8 a0_3, .int .i8 a0_4, .int .i8 a0_5, .int .u32 a0_6, .int .u32 a0_7, .int .u32 a0_8, .int .u64 a0_9, .int .u64 a0_10, .int .u64 a0_11, .int .u64 a0_12] 26 (0, 0)) (by (with_reducible repeat (first | refine blk_drewN ?_ _ | refine blk_drew ?_ | refine blk_alloc ?_ _)); exact BK310.out) hb); have n1_ := Aside0.mk (below_step (by repeat (first | (with_reducible first | exact HB.out | apply below_alloc | apply pw_below_drewN | apply below_drew1 | refine below_set ?_ GE310.out) | exact HB.out)) hb); have n2_ := Aside0.mk (hbox); have n3_ := Aside0.mk ((by rw [hg]; exact (below_size (by repeat (first | (with_reducible first | exact HB.out | apply below_alloc | apply pw_below_drewN | apply below_drew1 | refine below_set ?_ GE310.out) | exact HB.out))) : w.heap.size ≤ gb373)); have n4_ := Aside0.mk ((by rw [hg]; exact (below_size (by repeat (first | (with_reducible first | exact HB.out | apply below_alloc | apply pw_below_drewN | apply below_drew1 | refine below_set ?_ GE310.out) | exact HB.out))) : w.heap.size ≤ gb373)); have n5_ := Aside0.mk ((by rw [hg]; exact Nat.ne_of_lt (blk_lt (g := gb310) (o := .cells #[.int .u8 a0_0, .int .u8 a0_1, .int .u8 a0_2, .int .u8 a0_3, .int .i8 a0_4, .int .i8 a0_5, .int .u32 a0_6, .int .u32 a0_7, .int .u32 a0_8, .int .u64 a0_9, .int .u64 a0_10, .int .u64 a0_11, .int .u64 a0_12] 26 (0, 0)) (by (with_reducible repeat (first | refine blk_drewN ?_ _ | refine blk_drew ?_ | refine blk_alloc ?_ _)); exact BK310.out)) : gb310 ≠ gb373)); have n6_ := Aside0.mk ((by rw [hg]; exact Nat.ne_of_gt (blk_lt (g := gb310) (o := .cells #[.int .u8 a0_0, .int .u8 a0_1, .int .u8 a0_2, .int .u8 a0_3, .int .i8 a0_4, .int .i8 a0_5, .int .u32 a0_6, .int .u32 a0_7, .int .u32 a0_8, .int .u64 a0_9, .int .u64 a0_10, .int .u64 a0_11, .int .u64 a0_12] 26 (0, 0)) (by (with_reducible repeat (first | refine blk_drewN ?_ _ | refine blk_drew ?_ | refine blk_alloc ?_ _)); exact BK310.out)) : gb373 ≠ gb310)); clear BK310; clear HB; have BK310 := n0_; have HB := n1_; have BK373 := n2_; have GW373 := n3_; have GE373 := n4_; have NB310_373 := n5_; have NB373_310 := n6_; clear n0_ n1_ n2_ n3_ n4_ n5_ n6_; clear hb hbox hg; have hnb81 := NB373_310.out; have hnc81 := NB310_373.out; have hcz82_0 : w80.cell? ⟨gb373, 0, none⟩ = some (.int .u8 0) := (blk_cell BK373.out 0).trans rfl; have hcz82_1 : w80.cell? ⟨gb373, 1, none⟩ = some (.int .u8 0) := (blk_cell BK373.out 1).trans rfl; have hcz82_2 : w80.cell? ⟨gb373, 2, none⟩ = some (.int .u8 0) := (blk_cell BK373.out 2).trans rfl; have hcz82_3 : w80.cell? ⟨gb373, 3, none⟩ = some (.int .u8 0) := (blk_cell BK373.out 3).trans rfl; have hcz82_4 : w80.cell? ⟨gb373, 4, none⟩ = some (.int .i8 0) := (blk_cell BK373.out 4).trans rfl; have hcz82_5 : w80.cell? ⟨gb373, 5, none⟩ = some (.int .i8 0) := (blk_cell BK373.out 5).trans rfl; have hcz82_6 : w80.cell? ⟨gb373, 6, none⟩ = some (.int .u32 0) := (blk_cell BK373.out 6).trans rfl; have hcz82_7 : w80.cell? ⟨gb373, 7, none⟩ = some (.int .u32 0) := (blk_cell BK373.out 7).trans rfl; have hcz82_8 : w80.cell? ⟨gb373, 8, none⟩ = some (.int .u32 0) := (blk_cell BK373.out 8).trans rfl; have hcz82_9 : w80.cell? ⟨gb373, 9, none⟩ = some (.int .u64 0) := (blk_cell BK373.out 9).trans rfl; have hcz82_10 : w80.cell? ⟨gb373, 10, none⟩ = some (.int .u64 0) := (blk_cell BK373.out 10).trans rfl; have hcz82_11 : w80.cell? ⟨gb373, 11, none⟩ = some (.int .u64 0) := (blk_cell BK373.out 11).trans rfl; have hcz82_12 : w80.cell? ⟨gb373, 12, none⟩ = some (.int .u64 0) := (blk_cell BK373.out 12).trans rfl; have hfz82_0 := blk_frozen BK373.out 0; have hfz82_1 := blk_frozen BK373.out 1; have hfz82_2 := blk_frozen BK373.out 2; have hfz82_3 := blk_frozen BK373.out 3; have hfz82_4 := blk_frozen BK373.out 4; have hfz82_5 := blk_frozen BK373.out 5; have hfz82_6 := blk_frozen BK373.out 6; have hfz82_7 := blk_frozen BK373.out 7; have hfz82_8 := blk_frozen BK373.out 8; have hfz82_9 := blk_frozen BK373.out 9; have hfz82_10 := blk_frozen BK373.out 10; have hfz82_11 := blk_frozen BK373.out 11; have hfz82_12 := blk_frozen BK373.out 12) | ((with_reducible refine gate_callee (f := 9) rfl ?_); refine goesL_ (some 81) rfl rfl Try.func9 (by kernel_rfl) rfl #[.agg #[.int .u8 t359, .int .u8 t360, .int .u8 t361, .int .u8 t362, .int .i8 t363, .int .i8 t364, .int .u32 t365, .int .u32 t366, .int .u32 t367, .int .u64 t368, .int .u64 t369, .int .u64 t370, .int .u64 t371]] rfl (by (try simp only [List.map_toArray, List.map_cons, List.map_nil]); first | done | rfl | (simp only [List.length_drop, List.length_take]; rfl)) ?_; (with_reducible refine (packet_Put.calls kj10 t359 t360 t361 t362 t363 t364 t365 t366 t367 t368 t369 t370 t371 t374 t377 _ A55.out).mono ?_); rintro e w83 ⟨v375, rfl, ho0, hb⟩; refine ⟨_, rfl, ?_⟩; have n0_ := Aside0.mk (Kd.R_lower ho0 (below_size (by repeat (first | (with_reducible first | exact HB.out | apply below_alloc | apply pw_below_drewN | apply below_drew1 | refine below_set ?_ GE310.out | refine below_set ?_ GE373.out) | exact HB.out)))); have n1_ := Aside0.mk (blk_below (g := gb310) (o := .cells #[.int .u8 a0_0, .int .u8 a0_1, .int .u8 a0_2, .int .u8 a0_3, .int .i8 a0_4, .int .i8 a0_5, .int .u32 a0_6, .int .u32 a0_7, .int .u32 a0_8, .int .u64 a0_9, .int .u64 a0_10, .int .u64 a0_11, .int .u64 a0_12] 26 (0, 0)) (by (with_reducible repeat (first | refine blk_drewN ?_ _ | refine blk_drew ?_ | refine blk_alloc ?_ _)); refine blk_far ?_ NB310_373.out _; (with_reducible repeat (first | refine blk_drewN ?_ _ | refine blk_drew ?_ | refine blk_alloc ?_ _)); refine blk_far ?_ NB310_373.out _; (with_reducible repeat (first | refine blk_drewN ?_ _ | refine blk_drew ?_ | refine blk_alloc ?_ _)); refine blk_far ?_ NB310_373.out _; (with_reducible repeat (first | refine blk_drewN ?_ _ | refine blk_drew ?_ | refine blk_alloc ?_ _)); refine blk_far ?_ NB310_373.out _; (with_reducible repeat (first | refine blk_drewN ?_ _ | refine blk_drew ?_ | refine blk_alloc ?_ _)); refine blk_far ?_ NB310_373.out _; (with_reducible repeat (first | refine blk_drewN ?_ _ | refine blk_drew ?_ | refine blk_alloc ?_ _)); refine blk_far ?_ NB310_373.out _; (with_reducible repeat (first | refine blk_drewN ?_ _ | refine blk_drew ?_ | refine blk_alloc ?_ _)); refine blk_far ?_ NB310_373.out _; (with_reducible repeat (first | refine blk_drewN ?_ _ | refine blk_drew ?_ | refine blk_alloc ?_ _)); refine blk_far ?_ NB310_373.out _; (with_reducible repeat (first | refine blk_drewN ?_ _ | refine blk_drew ?_ | refine blk_alloc ?_ _)); refine blk_far ?_ NB310_373.out _; (with_reducible repeat (first | refine blk_drewN ?_ _ | refine blk_drew ?_ | refine blk_alloc ?_ _)); refine blk_far ?_ NB310_373.out _; (with_reducible repeat (first | refine blk_drewN ?_ _ | refine blk_drew ?_ | refine blk_alloc ?_ _)); refine blk_far ?_ NB310_373.out _; (with_reducible repeat (first | refine blk_drewN ?_ _ | refine blk_drew ?_ | refine blk_alloc ?_ _)); refine blk_far ?_ NB310_373.out _; (with_reducible repeat (first | refine blk_drewN ?_ _ | refine blk_drew ?_ | refine blk_alloc ?_ _)); refine blk_far ?_ NB310_373.out _; (with_reducible repeat (first | refine blk_drewN ?_ _ | refine blk_drew ?_ | refine blk_alloc ?_ _)); exact BK310.out) hb); have n2_ := Aside0.mk (blk_below (g := gb373) (o := .cells #[.int .u8 t359, .int .u8 t360, .int .u8 t361, .int .u8 t362, .int .i8 t363, .int .i8 t364, .int .u32 t365, .int .u32 t366, .int .u32 t367, .int .u64 t368, .int .u64 t369, .int .u64 t370, .int .u64 t371] 26 (0, 0)) (by (with_reducible repeat (first | refine blk_drewN ?_ _ | refine blk_drew ?_ | refine blk_alloc ?_ _)); refine blk_put (cs := #[.int .u8 t359, .int .u8 t360, .int .u8 t361, .int .u8 t362, .int .i8 t363, .int .i8 t364, .int .u32 t365, .int .u32 t366, .int .u32 t367, .int .u64 t368, .int .u64 t369, .int .u64 t370, .int .u64 0]) ?_ 12 _ rfl; (with_reducible repeat (first | refine blk_drewN ?_ _ | refine blk_drew ?_ | refine blk_alloc ?_ _)); refine blk_put (cs := #[.int .u8 t359, .int .u8 t360, .int .u8 t361, .int .u8 t362, .int .i8 t363, .int .i8 t364, .int .u32 t365, .int .u32 t366, .int .u32 t367, .int .u64 t368, .int .u64 t369, .int .u64 0, .int .u64 0]) ?_ 11 _ rfl; (with_reducible repeat (first | refine blk_drewN ?_ _ | refine blk_drew ?_ | refine blk_alloc ?_ _)); refine blk_put (cs := #[.int .u8 t359, .int .u8 t360, .int .u8 t361, .int .u8 t362, .int .i8 t363, .int .i8 t364, .int .u32 t365, .int .u32 t366, .int .u32 t367, .int .u64 t368, .int .u64 0, .int .u64 0, .int .u64 0]) ?_ 10 _ rfl; (with_reducible repeat (first | refine blk_drewN ?_ _ | refine blk_drew ?_ | refine blk_alloc ?_ _)); refine blk_put (cs := #[.int .u8 t359, .int .u8 t360, .int .u8 t361, .int .u8 t362, .int .i8 t363, .int .i8 t364, .int .u32 t365, .int .u32 t366, .int .u32 t367, .int .u64 0, .int .u64 0, .int .u64 0, .int .u64 0]) ?_ 9 _ rfl; (with_reducible repeat (first | refine blk_drewN ?_ _ | refine blk_drew ?_ | refine blk_alloc ?_ _)); refine blk_put (cs := #[.int .u8 t359, .int .u8 t360, .int .u8 t361, .int .u8 t362, .int .i8 t363, .int .i8 t364, .int .u32 t365, .int .u32 t366, .int .u32 0, .int .u64 0, .int .u64 0, .int .u64 0, .int .u64 0]) ?_ 8 _ rfl; (with_reducible repeat (first | refine blk_drewN ?_ _ | refine blk_drew ?_ | refine blk_alloc ?_ _)); refine blk_put (cs := #[.int .u8 t359, .int .u8 t360, .int .u8 t361, .int .u8 t362, .int .i8 t363, .int .i8 t364, .int .u32 t365, .int .u32 0, .int .u32 0, .int .u64 0, .int .u64 0, .int .u64 0, .int .u64 0]) ?_ 7 _ rfl; (with_reducible repeat (first | refine blk_drewN ?_ _ | refine blk_drew ?_ | refine blk_alloc ?_ _)); refine blk_put (cs := #[.int .u8 t359, .int .u8 t360, .int .u8 t361, .int .u8 t362, .int .i8 t363, .int .i8 t364, .int .u32 0, .int .u32 0, .int .u32 0, .int .u64 0, .int .u64 0, .int .u64 0, .int .u64 0]) ?_ 6 _ rfl; (with_reducible repeat (first | refine blk_drewN ?_ _ | refine blk_drew ?_ | refine blk_alloc ?_ _)); refine blk_put (cs := #[.int .u8 t359, .int .u8 t360, .int .u8 t361, .int .u8 t362, .int .i8 t363, .int .i8 0, .int .u32 0, .int .u32 0, .int .u32 0, .int .u64 0, .int .u64 0, .int .u64 0, .int .u64 0]) ?_ 5 _ rfl; (with_reducible repeat (first | refine blk_drewN ?_ _ | refine blk_drew ?_ | refine blk_alloc ?_ _)); refine blk_put (cs := #[.int .u8 t359, .int .u8 t360, .int .u8 t361, .int .u8 t362, .int .i8 0, .int .i8 0, .int .u32 0, .int .u32 0, .int .u32 0, .int .u64 0, .int .u64 0, .int .u64 0, .int .u64 0]) ?_ 4 _ rfl; (with_reducible repeat (first | refine blk_drewN ?_ _ | refine blk_drew ?_ | refine blk_alloc ?_ _)); refine blk_put (cs := #[.int .u8 t359, .int .u8 t360, .int .u8 t361, .int .u8 0, .int .i8 0, .int .i8 0, .int .u32 0, .int .u32 0, .int .u32 0, .int .u64 0, .int .u64 0, .int .u64 0, .int .u64 0]) ?_ 3 _ rfl; (with_reducible repeat (first | refine blk_drewN ?_ _ | refine blk_drew ?_ | refine blk_alloc ?_ _)); refine blk_put (cs := #[.int .u8 t359, .int .u8 t360, .int .u8 0, .int .u8 0, .int .i8 0, .int .i8 0, .int .u32 0, .int .u32 0, .int .u32 0, .int .u64 0, .int .u64 0, .int .u64 0, .int .u64 0]) ?_ 2 _ rfl; (with_reducible repeat (first | refine blk_drewN ?_ _ | refine blk_drew ?_ | refine blk_alloc ?_ _)); refine blk_put (cs := #[.int .u8 t359, .int .u8 0, .int .u8 0, .int .u8 0, .int .i8 0, .int .i8 0, .int .u32 0, .int .u32 0, .int .u32 0, .int .u64 0, .int .u64 0, .int .u64 0, .int .u64 0]) ?_ 1 _ rfl; (with_reducible repeat (first | refine blk_drewN ?_ _ | refine blk_drew ?_ | refine blk_alloc ?_ _)); refine blk_put (cs := #[.int .u8 0, .int .u8 0, .int .u8 0, .int .u8 0, .int .i8 0, .int .i8 0, .int .u32 0, .int .u32 0, .int .u32 0, .int .u64 0, .int .u64 0, .int .u64 0, .int .u64 0]) ?_ 0 _ rfl; (with_reducible repeat (first | refine blk_drewN ?_ _ | refine blk_drew ?_ | refine blk_alloc ?_ _)); exact BK373.out) hb); have n3_ := Aside0.mk (below_step (by repeat (first | (with_reducible first | exact HB.out | apply below_alloc | apply pw_below_drewN | apply below_drew1 | refine below_set ?_ GE310.out | refine below_set ?_ GE373.out) | exact HB.out)) hb); clear BK310; clear BK373; clear HB; have HO376 := n0_; have BK310 := n1_; have BK373 := n2_; have HB := n3_; clear n0_ n1_ n2_ n3_; (try clear hb); (try clear hb2); (try clear hk); (try clear hi); (try clear ho0)))
                  have n0_ := Aside0.mk (Kd.R_drew HO376.out)
                  have n1_ := Aside0.mk (blk_drew BK310.out)
                  have n2_ := Aside0.mk (blk_drew BK373.out)
                  have n3_ := Aside0.mk (below_drew1 HB.out)
                  clear HO376
                  clear BK310
                  clear BK373
                  clear HB
                  have HO376 := n0_
                  have BK310 := n1_
                  have BK373 := n2_
                  have HB := n3_
                  clear n0_ n1_ n2_ n3_
                  refine start_ (n := 19) (S := fun w' => True) (ds := []) #[false, false, false, false, false, false, false, false, false, false, false, false, false, false, false, false, false, false, false] (by kernel_rfl) rfl rfl trivial (fun hHeld => ?_); refine with_tabW chronobatelaw03_PacketBack.tab15 chronobatelaw03_PacketBack.bits15 (fun HT_ HW_ => ?_)
                  generalize w83.drew = w84 at HO376 BK310 BK373 HB hHeld ⊢
                  refine one_ (i := 0) (N := some 84) #[true, false, false, false, false, false, false, false, false, false, false, false, false, false, false, false, false, false, false] rfl rfl (one_of HT_.out (by kernel_rfl)) (by decide) (fun K hK => ?_)
                  refine goes_ Try.func12 (by kernel_rfl) rfl #[] (by rfl) rfl rfl (by (try simp only [List.map_toArray, List.map_cons, List.map_nil]); first | done | rfl | (simp only [List.length_drop, List.length_take]; rfl)) ?_
                  with_reducible refine (chronobatelaw03_alive.calls kj10  true _ A56.out).mono ?_
                  rintro e w85 ⟨rfl, hb⟩
                  refine ⟨_, rfl, ?_⟩
                  have n0_ := Aside0.mk (Kd.R_below (by (with_reducible repeat (first | apply Kd.R_alloc | apply Kd.R_drewN | apply Kd.R_drew)); exact HO376.out) hb)
                  have n1_ := Aside0.mk (blk_below (g := gb310) (o := .cells #[.int .u8 a0_0, .int .u8 a0_1, .int .u8 a0_2, .int .u8 a0_3, .int .i8 a0_4, .int .i8 a0_5, .int .u32 a0_6, .int .u32 a0_7, .int .u32 a0_8, .int .u64 a0_9, .int .u64 a0_10, .int .u64 a0_11, .int .u64 a0_12] 26 (0, 0)) (by (with_reducible repeat (first | refine blk_drewN ?_ _ | refine blk_drew ?_ | refine blk_alloc ?_ _)); exact BK310.out) hb)
                  have n2_ := Aside0.mk (blk_below (g := gb373) (o := .cells #[.int .u8 t359, .int .u8 t360, .int .u8 t361, .int .u8 t362, .int .i8 t363, .int .i8 t364, .int .u32 t365, .int .u32 t366, .int .u32 t367, .int .u64 t368, .int .u64 t369, .int .u64 t370, .int .u64 t371] 26 (0, 0)) (by (with_reducible repeat (first | refine blk_drewN ?_ _ | refine blk_drew ?_ | refine blk_alloc ?_ _)); exact BK373.out) hb)
                  have n3_ := Aside0.mk (below_step (by repeat (first | (with_reducible first | exact HB.out | apply below_alloc | apply pw_below_drewN | apply below_drew1 | refine below_set ?_ GE310.out | refine below_set ?_ GE373.out) | exact HB.out)) hb)
                  clear HO376
                  clear BK310
                  clear BK373
                  clear HB
                  have HO376 := n0_
                  have BK310 := n1_
                  have BK373 := n2_
                  have HB := n3_
                  clear n0_ n1_ n2_ n3_
                  (try clear hb)
                  (try clear hb2)
                  (try clear hk)
                  (try clear hi)
                  refine hK.out _ _ trivial (fun hHeld => ?_)
                  clear hK K
                  refine norm_ (a' := ?_) ?_ ?_
                  rotate_left
                  · show Act.put _ (some 84) _ = _
                    simp only [Act.put, List.setIfInBounds_toArray, List.set_cons_zero, List.set_cons_succ, i64_w, i32_w]
                    rfl
                  refine pure_ (i := 1) (N := some 85) (v := ?_) (a' := ?_) #[true, true, false, false, false, false, false, false, false, false, false, false, false, false, false, false, false, false, false] rfl rfl (any_of HT_.out (by kernel_rfl)) (fun _ _ _ h => h) (Or.inl ⟨by rfl, ?_⟩) ?_ ?_
                  rotate_left
                  · intro w'
                    go_simp
                    with_reducible rfl
                  rotate_left
                  · simp only [Act.put, List.setIfInBounds_toArray, List.set_cons_zero, List.set_cons_succ, i64_w, i32_w]
                    rfl
                  refine pure_ (i := 2) (N := some 86) (v := ?_) (a' := ?_) #[true, true, true, false, false, false, false, false, false, false, false, false, false, false, false, false, false, false, false] rfl rfl (any_of HT_.out (by kernel_rfl)) (fun _ _ _ h => h) (Or.inl ⟨by rfl, ?_⟩) ?_ ?_
                  rotate_left
                  · intro w'
                    go_simp
                    with_reducible rfl
                  rotate_left
                  · simp only [Act.put, List.setIfInBounds_toArray, List.set_cons_zero, List.set_cons_succ, i64_w, i32_w]
                    rfl
                  refine pure_ (i := 3) (N := some 87) (v := ?_) (a' := ?_) #[true, true, true, true, false, false, false, false, false, false, false, false, false, false, false, false, false, false, false] rfl rfl (any_of HT_.out (by kernel_rfl)) (fun _ _ _ h => h) (Or.inl ⟨by rfl, ?_⟩) ?_ ?_
                  rotate_left
                  · intro w'
                    go_simp
                    with_reducible rfl
                  rotate_left
                  · simp only [Act.put, List.setIfInBounds_toArray, List.set_cons_zero, List.set_cons_succ, i64_w, i32_w]
                    rfl
                  refine pure_ (i := 4) (N := some 88) (v := ?_) (a' := ?_) #[true, true, true, true, true, false, false, false, false, false, false, false, false, false, false, false, false, false, false] rfl rfl (any_of HT_.out (by kernel_rfl)) (fun _ _ _ h => h) (Or.inl ⟨by rfl, ?_⟩) ?_ ?_
                  rotate_left
                  · intro w'
                    go_simp
                    with_reducible rfl
                  rotate_left
                  · simp only [Act.put, List.setIfInBounds_toArray, List.set_cons_zero, List.set_cons_succ, i64_w, i32_w]
                    rfl
                  refine pure_ (i := 5) (N := some 89) (v := ?_) (a' := ?_) #[true, true, true, true, true, true, false, false, false, false, false, false, false, false, false, false, false, false, false] rfl rfl (any_of HT_.out (by kernel_rfl)) (fun _ _ _ h => h) (Or.inl ⟨by rfl, ?_⟩) ?_ ?_
                  rotate_left
                  · intro w'
                    go_simp
                    with_reducible rfl
                  rotate_left
                  · simp only [Act.put, List.setIfInBounds_toArray, List.set_cons_zero, List.set_cons_succ, i64_w, i32_w]
                    rfl
                  refine pure_ (i := 6) (N := some 90) (v := undef) (a' := ?_) #[true, true, true, true, true, true, true, false, false, false, false, false, false, false, false, false, false, false, false] rfl rfl (any_of HT_.out (by kernel_rfl)) (fun _ _ _ h => h) (Or.inr ⟨by rfl, rfl⟩) ?_ ?_
                  rotate_left
                  · simp only [Act.put, List.setIfInBounds_toArray, List.set_cons_zero, List.set_cons_succ, i64_w, i32_w]
                    rfl
                  refine pure_ (i := 7) (N := some 91) (v := undef) (a' := ?_) #[true, true, true, true, true, true, true, true, false, false, false, false, false, false, false, false, false, false, false] rfl rfl (any_of HT_.out (by kernel_rfl)) (fun _ _ _ h => h) (Or.inr ⟨by rfl, rfl⟩) ?_ ?_
                  rotate_left
                  · simp only [Act.put, List.setIfInBounds_toArray, List.set_cons_zero, List.set_cons_succ, i64_w, i32_w]
                    rfl
                  refine pure_ (i := 8) (N := some 92) (v := undef) (a' := ?_) #[true, true, true, true, true, true, true, true, true, false, false, false, false, false, false, false, false, false, false] rfl rfl (any_of HT_.out (by kernel_rfl)) (fun _ _ _ h => h) (Or.inr ⟨by rfl, rfl⟩) ?_ ?_
                  rotate_left
                  · simp only [Act.put, List.setIfInBounds_toArray, List.set_cons_zero, List.set_cons_succ, i64_w, i32_w]
                    rfl
                  refine pure_ (i := 9) (N := some 93) (v := ?_) (a' := ?_) #[true, true, true, true, true, true, true, true, true, true, false, false, false, false, false, false, false, false, false] rfl rfl (any_of HT_.out (by kernel_rfl)) (fun _ _ _ h => h) (Or.inl ⟨by rfl, ?_⟩) ?_ ?_
                  rotate_left
                  · intro w'
                    go_simp
                    with_reducible rfl
                  rotate_left
                  · simp only [Act.put, List.setIfInBounds_toArray, List.set_cons_zero, List.set_cons_succ, i64_w, i32_w]
                    rfl
                  refine pure_ (i := 10) (N := some 94) (v := ?_) (a' := ?_) #[true, true, true, true, true, true, true, true, true, true, true, false, false, false, false, false, false, false, false] rfl rfl (any_of HT_.out (by kernel_rfl)) (fun _ _ _ h => h) (Or.inl ⟨by rfl, ?_⟩) ?_ ?_
                  rotate_left
                  · intro w'
                    go_simp
                    with_reducible rfl
                  rotate_left
                  · simp only [Act.put, List.setIfInBounds_toArray, List.set_cons_zero, List.set_cons_succ, i64_w, i32_w]
                    rfl
                  refine pure_ (i := 11) (N := some 95) (v := undef) (a' := ?_) #[true, true, true, true, true, true, true, true, true, true, true, true, false, false, false, false, false, false, false] rfl rfl (any_of HT_.out (by kernel_rfl)) (fun _ _ _ h => h) (Or.inr ⟨by rfl, rfl⟩) ?_ ?_
                  rotate_left
                  · simp only [Act.put, List.setIfInBounds_toArray, List.set_cons_zero, List.set_cons_succ, i64_w, i32_w]
                    rfl
                  refine pure_ (i := 12) (N := some 96) (v := undef) (a' := ?_) #[true, true, true, true, true, true, true, true, true, true, true, true, true, false, false, false, false, false, false] rfl rfl (any_of HT_.out (by kernel_rfl)) (fun _ _ _ h => h) (Or.inr ⟨by rfl, rfl⟩) ?_ ?_
                  rotate_left
                  · simp only [Act.put, List.setIfInBounds_toArray, List.set_cons_zero, List.set_cons_succ, i64_w, i32_w]
                    rfl
                  refine pure_ (i := 13) (N := some 97) (v := undef) (a' := ?_) #[true, true, true, true, true, true, true, true, true, true, true, true, true, true, false, false, false, false, false] rfl rfl (any_of HT_.out (by kernel_rfl)) (fun _ _ _ h => h) (Or.inr ⟨by rfl, rfl⟩) ?_ ?_
                  rotate_left
                  · simp only [Act.put, List.setIfInBounds_toArray, List.set_cons_zero, List.set_cons_succ, i64_w, i32_w]
                    rfl
                  refine pure_ (i := 14) (N := some 98) (v := undef) (a' := ?_) #[true, true, true, true, true, true, true, true, true, true, true, true, true, true, true, false, false, false, false] rfl rfl (any_of HT_.out (by kernel_rfl)) (fun _ _ _ h => h) (Or.inr ⟨by rfl, rfl⟩) ?_ ?_
                  rotate_left
                  · simp only [Act.put, List.setIfInBounds_toArray, List.set_cons_zero, List.set_cons_succ, i64_w, i32_w]
                    rfl
                  refine pure_ (i := 15) (N := some 99) (v := undef) (a' := ?_) #[true, true, true, true, true, true, true, true, true, true, true, true, true, true, true, true, false, false, false] rfl rfl (any_of HT_.out (by kernel_rfl)) (fun _ _ _ h => h) (Or.inr ⟨by rfl, rfl⟩) ?_ ?_
                  rotate_left
                  · simp only [Act.put, List.setIfInBounds_toArray, List.set_cons_zero, List.set_cons_succ, i64_w, i32_w]
                    rfl
                  refine pure_ (i := 16) (N := some 100) (v := undef) (a' := ?_) #[true, true, true, true, true, true, true, true, true, true, true, true, true, true, true, true, true, false, false] rfl rfl (any_of HT_.out (by kernel_rfl)) (fun _ _ _ h => h) (Or.inr ⟨by rfl, rfl⟩) ?_ ?_
                  rotate_left
                  · simp only [Act.put, List.setIfInBounds_toArray, List.set_cons_zero, List.set_cons_succ, i64_w, i32_w]
                    rfl
                  refine pure_ (i := 17) (N := some 101) (v := ?_) (a' := ?_) #[true, true, true, true, true, true, true, true, true, true, true, true, true, true, true, true, true, true, false] rfl rfl (any_of HT_.out (by kernel_rfl)) (fun _ _ _ h => h) (Or.inl ⟨by rfl, ?_⟩) ?_ ?_
                  rotate_left
                  · intro w'
                    go_simp
                    with_reducible rfl
                  rotate_left
                  · simp only [Act.put, List.setIfInBounds_toArray, List.set_cons_zero, List.set_cons_succ, i64_w, i32_w]
                    rfl
                  refine pure_ (i := 18) (N := some 6) (v := ?_) (a' := ?_) #[true, true, true, true, true, true, true, true, true, true, true, true, true, true, true, true, true, true, true] rfl rfl (any_of HT_.out (by kernel_rfl)) (fun _ _ _ h => h) (Or.inl ⟨by rfl, ?_⟩) ?_ ?_
                  rotate_left
                  · intro w'
                    go_simp
                    with_reducible rfl
                  rotate_left
                  · simp only [Act.put, List.setIfInBounds_toArray, List.set_cons_zero, List.set_cons_succ, i64_w, i32_w]
                    rfl
                  refine done_ (done_of HT_.out (by kernel_rfl)) ?_
                  try go_wp2
                  go_ret
                  exact ⟨by first | rfl | (simp [errW_none, errW_some] <;> rfl) | (simp [*, errW_none, errW_some] <;> rfl), by repeat (first | (with_reducible first | exact HB.out | apply below_alloc | apply pw_below_drewN | apply below_drew1 | refine below_set ?_ GE310.out | refine below_set ?_ GE373.out) | exact HB.out)⟩
              · replace c57 := Bool.eq_false_iff.mpr c57
                subst c57
                have H1 : (some false) = some r := by rw [if_neg (show ¬ (false = true) by decide)] at H; exact H
                clear H
                have H := H1
                clear H1
                obtain rfl := Option.some.inj H
                try go_wp2_with (first | ((with_reducible refine gate_callee (f := 15) rfl ?_); refine goesL_ (some 64) rfl rfl Try.func15 (by kernel_rfl) rfl #[.slice A1 l1.length c1] rfl (by (try simp only [List.map_toArray, List.map_cons, List.map_nil]); first | done | rfl | (simp only [List.length_drop, List.length_take]; rfl)) ?_; (with_reducible refine (packet_Get.calls kj10 _ _ l1 t359 t360 t361 t362 t363 t364 t365 t366 t367 t368 t369 t370 t371 t372 _ ?side1 ?side2 A53.out).mono ?_); (case side1 => repeat (first | exact (Kd.C_below HR1.out HB.out) | (with_reducible refine Kd.C_alloc ?_ _) | (with_reducible refine Kd.C_drewN ?_ _) | (with_reducible refine Kd.C_drew ?_))); (case side2 => exact HC1.out); rintro e w86 ⟨rfl, hb⟩; refine ⟨_, rfl, ?_⟩; have n0_ := Aside0.mk (blk_below (g := gb310) (o := .cells #[.int .u8 a0_0, .int .u8 a0_1, .int .u8 a0_2, .int .u8 a0_3, .int .i8 a0_4, .int .i8 a0_5, .int .u32 a0_6, .int .u32 a0_7, .int .u32 a0_8, .int .u64 a0_9, .int .u64 a0_10, .int .u64 a0_11, .int .u64 a0_12] 26 (0, 0)) (by (with_reducible repeat (first | refine blk_drewN ?_ _ | refine blk_drew ?_ | refine blk_alloc ?_ _)); exact BK310.out) hb); have n1_ := Aside0.mk (below_step (by repeat (first | (with_reducible first | exact HB.out | apply below_alloc | apply pw_below_drewN | apply below_drew1 | refine below_set ?_ GE310.out) | exact HB.out)) hb); clear BK310; clear HB; have BK310 := n0_; have HB := n1_; clear n0_ n1_; (try clear hb); (try clear hb2); (try clear hk); (try clear hi)) | ((with_reducible refine gate_dst (N := 13) rfl ?_); (try (refine gate_guard (by rfl) ?_; dsimp only)); refine box_event ?hg (N := 13) ?hd (cs := #[.int .u8 0, .int .u8 0, .int .u8 0, .int .u8 0, .int .i8 0, .int .i8 0, .int .u32 0, .int .u32 0, .int .u32 0, .int .u64 0, .int .u64 0, .int .u64 0, .int .u64 0]) (t := 26) ?hr ?_; (case hd => rfl); (case hg => rfl); (case hr => first | (go_simp; done) | (go_simp; rfl)); intro gb373 hg w87 hbox hb; have n0_ := Aside0.mk (blk_below (g := gb310) (o := .cells #[.int .u8 a0_0, .int .u8 a0_1, .int .u8 a0_2, .int .u8 a0_3, .int .i8 a0_4, .int .i8 a0_5, .int .u32 a0_6, .int .u32 a0_7, .int .u32 a0_8, .int .u64 a0_9, .int .u64 a0_10, .int .u64 a0_11, .int .u64 a0_12] 26 (0, 0)) (by (with_reducible repeat (first | refine blk_drewN ?_ _ | refine blk_drew ?_ | refine blk_alloc ?_ _)); exact BK310.out) hb); have n1_ := Aside0.mk (below_step (by repeat (first | (with_reducible first | exact HB.out | apply below_alloc | apply pw_below_drewN | apply below_drew1 | refine below_set ?_ GE310.out) | exact HB.out)) hb); have n2_ := Aside0.mk (hbox); have n3_ := Aside0.mk ((by rw [hg]; exact (below_size (by repeat (first | (with_reducible first | exact HB.out | apply below_alloc | apply pw_below_drewN | apply below_drew1 | refine below_set ?_ GE310.out) | exact HB.out))) : w.heap.size ≤ gb373)); have n4_ := Aside0.mk ((by rw [hg]; exact (below_size (by repeat (first | (with_reducible first | exact HB.out | apply below_alloc | apply pw_below_drewN | apply below_drew1 | refine below_set ?_ GE310.out) | exact HB.out))) : w.heap.size ≤ gb373)); have n5_ := Aside0.mk ((by rw [hg]; exact Nat.ne_of_lt (blk_lt (g := gb310) (o := .cells #[.int .u8 a0_0, .int .u8 a0_1, .int .u8 a0_2, .int .u8 a0_3, .int .i8 a0_4, .int .i8 a0_5, .int .u32 a0_6, .int .u32 a0_7, .int .u32 a0_8, .int .u64 a0_9, .int .u64 a0_10, .int .u64 a0_11, .int .u64 a0_12] 26 (0, 0)) (by (with_reducible repeat (first | refine blk_drewN ?_ _ | refine blk_drew ?_ | refine blk_alloc ?_ _)); exact BK310.out)) : gb310 ≠ gb373)); have n6_ := Aside0.mk ((by rw [hg]; exact Nat.ne_of_gt (blk_lt (g := gb310) (o := .cells #[.int .u8 a0_0, .int .u8 a0_1, .int .u8 a0_2, .int .u8 a0_3, .int .i8 a0_4, .int .i8 a0_5, .int .u32 a0_6, .int .u32 a0_7, .int .u32 a0_8, .int .u64 a0_9, .int .u64 a0_10, .int .u64 a0_11, .int .u64 a0_12] 26 (0, 0)) (by (with_reducible repeat (first | refine blk_drewN ?_ _ | refine blk_drew ?_ | refine blk_alloc ?_ _)); exact BK310.out)) : gb373 ≠ gb310)); clear BK310; clear HB; have BK310 := n0_; have HB := n1_; have BK373 := n2_; have GW373 := n3_; have GE373 := n4_; have NB310_373 := n5_; have NB373_310 := n6_; clear n0_ n1_ n2_ n3_ n4_ n5_ n6_; clear hb hbox hg; have hnb88 := NB373_310.out; have hnc88 := NB310_373.out; have hcz89_0 : w87.cell? ⟨gb373, 0, none⟩ = some (.int .u8 0) := (blk_cell BK373.out 0).trans rfl; have hcz89_1 : w87.cell? ⟨gb373, 1, none⟩ = some (.int .u8 0) := (blk_cell BK373.out 1).trans rfl; have hcz89_2 : w87.cell? ⟨gb373, 2, none⟩ = some (.int .u8 0) := (blk_cell BK373.out 2).trans rfl; have hcz89_3 : w87.cell? ⟨gb373, 3, none⟩ = some (.int .u8 0) := (blk_cell BK373.out 3).trans rfl; have hcz89_4 : w87.cell? ⟨gb373, 4, none⟩ = some (.int .i8 0) := (blk_cell BK373.out 4).trans rfl; have hcz89_5 : w87.cell? ⟨gb373, 5, none⟩ = some (.int .i8 0) := (blk_cell BK373.out 5).trans rfl; have hcz89_6 : w87.cell? ⟨gb373, 6, none⟩ = some (.int .u32 0) := (blk_cell BK373.out 6).trans rfl; have hcz89_7 : w87.cell? ⟨gb373, 7, none⟩ = some (.int .u32 0) := (blk_cell BK373.out 7).trans rfl; have hcz89_8 : w87.cell? ⟨gb373, 8, none⟩ = some (.int .u32 0) := (blk_cell BK373.out 8).trans rfl; have hcz89_9 : w87.cell? ⟨gb373, 9, none⟩ = some (.int .u64 0) := (blk_cell BK373.out 9).trans rfl; have hcz89_10 : w87.cell? ⟨gb373, 10, none⟩ = some (.int .u64 0) := (blk_cell BK373.out 10).trans rfl; have hcz89_11 : w87.cell? ⟨gb373, 11, none⟩ = some (.int .u64 0) := (blk_cell BK373.out 11).trans rfl; have hcz89_12 : w87.cell? ⟨gb373, 12, none⟩ = some (.int .u64 0) := (blk_cell BK373.out 12).trans rfl; have hfz89_0 := blk_frozen BK373.out 0; have hfz89_1 := blk_frozen BK373.out 1; have hfz89_2 := blk_frozen BK373.out 2; have hfz89_3 := blk_frozen BK373.out 3; have hfz89_4 := blk_frozen BK373.out 4; have hfz89_5 := blk_frozen BK373.out 5; have hfz89_6 := blk_frozen BK373.out 6; have hfz89_7 := blk_frozen BK373.out 7; have hfz89_8 := blk_frozen BK373.out 8; have hfz89_9 := blk_frozen BK373.out 9; have hfz89_10 := blk_frozen BK373.out 10; have hfz89_11 := blk_frozen BK373.out 11; have hfz89_12 := blk_frozen BK373.out 12) | ((with_reducible refine gate_callee (f := 9) rfl ?_); refine goesL_ (some 81) rfl rfl Try.func9 (by kernel_rfl) rfl #[.agg #[.int .u8 t359, .int .u8 t360, .int .u8 t361, .int .u8 t362, .int .i8 t363, .int .i8 t364, .int .u32 t365, .int .u32 t366, .int .u32 t367, .int .u64 t368, .int .u64 t369, .int .u64 t370, .int .u64 t371]] rfl (by (try simp only [List.map_toArray, List.map_cons, List.map_nil]); first | done | rfl | (simp only [List.length_drop, List.length_take]; rfl)) ?_; (with_reducible refine (packet_Put.calls kj10 t359 t360 t361 t362 t363 t364 t365 t366 t367 t368 t369 t370 t371 t374 t377 _ A55.out).mono ?_); rintro e w90 ⟨v375, rfl, ho0, hb⟩; refine ⟨_, rfl, ?_⟩; have n0_ := Aside0.mk (Kd.R_lower ho0 (below_size (by repeat (first | (with_reducible first | exact HB.out | apply below_alloc | apply pw_below_drewN | apply below_drew1 | refine below_set ?_ GE310.out | refine below_set ?_ GE373.out) | exact HB.out)))); have n1_ := Aside0.mk (blk_below (g := gb310) (o := .cells #[.int .u8 a0_0, .int .u8 a0_1, .int .u8 a0_2, .int .u8 a0_3, .int .i8 a0_4, .int .i8 a0_5, .int .u32 a0_6, .int .u32 a0_7, .int .u32 a0_8, .int .u64 a0_9, .int .u64 a0_10, .int .u64 a0_11, .int .u64 a0_12] 26 (0, 0)) (by (with_reducible repeat (first | refine blk_drewN ?_ _ | refine blk_drew ?_ | refine blk_alloc ?_ _)); refine blk_far ?_ NB310_373.out _; (with_reducible repeat (first | refine blk_drewN ?_ _ | refine blk_drew ?_ | refine blk_alloc ?_ _)); refine blk_far ?_ NB310_373.out _; (with_reducible repeat (first | refine blk_drewN ?_ _ | refine blk_drew ?_ | refine blk_alloc ?_ _)); refine blk_far ?_ NB310_373.out _; (with_reducible repeat (first | refine blk_drewN ?_ _ | refine blk_drew ?_ | refine blk_alloc ?_ _)); refine blk_far ?_ NB310_373.out _; (with_reducible repeat (first | refine blk_drewN ?_ _ | refine blk_drew ?_ | refine blk_alloc ?_ _)); refine blk_far ?_ NB310_373.out _; (with_reducible repeat (first | refine blk_drewN ?_ _ | refine blk_drew ?_ | refine blk_alloc ?_ _)); refine blk_far ?_ NB310_373.out _; (with_reducible repeat (first | refine blk_drewN ?_ _ | refine blk_drew ?_ | refine blk_alloc ?_ _)); refine blk_far ?_ NB310_373.out _; (with_reducible repeat (first | refine blk_drewN ?_ _ | refine blk_drew ?_ | refine blk_alloc ?_ _)); refine blk_far ?_ NB310_373.out _; (with_reducible repeat (first | refine blk_drewN ?_ _ | refine blk_drew ?_ | refine blk_alloc ?_ _)); refine blk_far ?_ NB310_373.out _; (with_reducible repeat (first | refine blk_drewN ?_ _ | refine blk_drew ?_ | refine blk_alloc ?_ _)); refine blk_far ?_ NB310_373.out _; (with_reducible repeat (first | refine blk_drewN ?_ _ | refine blk_drew ?_ | refine blk_alloc ?_ _)); refine blk_far ?_ NB310_373.out _; (with_reducible repeat (first | refine blk_drewN ?_ _ | refine blk_drew ?_ | refine blk_alloc ?_ _)); refine blk_far ?_ NB310_373.out _; (with_reducible repeat (first | refine blk_drewN ?_ _ | refine blk_drew ?_ | refine blk_alloc ?_ _)); refine blk_far ?_ NB310_373.out _; (with_reducible repeat (first | refine blk_drewN ?_ _ | refine blk_drew ?_ | refine blk_alloc ?_ _)); exact BK310.out) hb); have n2_ := Aside0.mk (blk_below (g := gb373) (o := .cells #[.int .u8 t359, .int .u8 t360, .int .u8 t361, .int .u8 t362, .int .i8 t363, .int .i8 t364, .int .u32 t365, .int .u32 t366, .int .u32 t367, .int .u64 t368, .int .u64 t369, .int .u64 t370, .int .u64 t371] 26 (0, 0)) (by (with_reducible repeat (first | refine blk_drewN ?_ _ | refine blk_drew ?_ | refine blk_alloc ?_ _)); refine blk_put (cs := #[.int .u8 t359, .int .u8 t360, .int .u8 t361, .int .u8 t362, .int .i8 t363, .int .i8 t364, .int .u32 t365, .int .u32 t366, .int .u32 t367, .int .u64 t368, .int .u64 t369, .int .u64 t370, .int .u64 0]) ?_ 12 _ rfl; (with_reducible repeat (first | refine blk_drewN ?_ _ | refine blk_drew ?_ | refine blk_alloc ?_ _)); refine blk_put (cs := #[.int .u8 t359, .int .u8 t360, .int .u8 t361, .int .u8 t362, .int .i8 t363, .int .i8 t364, .int .u32 t365, .int .u32 t366, .int .u32 t367, .int .u64 t368, .int .u64 t369, .int .u64 0, .int .u64 0]) ?_ 11 _ rfl; (with_reducible repeat (first | refine blk_drewN ?_ _ | refine blk_drew ?_ | refine blk_alloc ?_ _)); refine blk_put (cs := #[.int .u8 t359, .int .u8 t360, .int .u8 t361, .int .u8 t362, .int .i8 t363, .int .i8 t364, .int .u32 t365, .int .u32 t366, .int .u32 t367, .int .u64 t368, .int .u64 0, .int .u64 0, .int .u64 0]) ?_ 10 _ rfl; (with_reducible repeat (first | refine blk_drewN ?_ _ | refine blk_drew ?_ | refine blk_alloc ?_ _)); refine blk_put (cs := #[.int .u8 t359, .int .u8 t360, .int .u8 t361, .int .u8 t362, .int .i8 t363, .int .i8 t364, .int .u32 t365, .int .u32 t366, .int .u32 t367, .int .u64 0, .int .u64 0, .int .u64 0, .int .u64 0]) ?_ 9 _ rfl; (with_reducible repeat (first | refine blk_drewN ?_ _ | refine blk_drew ?_ | refine blk_alloc ?_ _)); refine blk_put (cs := #[.int .u8 t359, .int .u8 t360, .int .u8 t361, .int .u8 t362, .int .i8 t363, .int .i8 t364, .int .u32 t365, .int .u32 t366, .int .u32 0, .int .u64 0, .int .u64 0, .int .u64 0, .int .u64 0]) ?_ 8 _ rfl; (with_reducible repeat (first | refine blk_drewN ?_ _ | refine blk_drew ?_ | refine blk_alloc ?_ _)); refine blk_put (cs := #[.int .u8 t359, .int .u8 t360, .int .u8 t361, .int .u8 t362, .int .i8 t363, .int .i8 t364, .int .u32 t365, .int .u32 0, .int .u32 0, .int .u64 0, .int .u64 0, .int .u64 0, .int .u64 0]) ?_ 7 _ rfl; (with_reducible repeat (first | refine blk_drewN ?_ _ | refine blk_drew ?_ | refine blk_alloc ?_ _)); refine blk_put (cs := #[.int .u8 t359, .int .u8 t360, .int .u8 t361, .int .u8 t362, .int .i8 t363, .int .i8 t364, .int .u32 0, .int .u32 0, .int .u32 0, .int .u64 0, .int .u64 0, .int .u64 0, .int .u64 0]) ?_ 6 _ rfl; (with_reducible repeat (first | refine blk_drewN ?_ _ | refine blk_drew ?_ | refine blk_alloc ?_ _)); refine blk_put (cs := #[.int .u8 t359, .int .u8 t360, .int .u8 t361, .int .u8 t362, .int .i8 t363, .int .i8 0, .int .u32 0, .int .u32 0, .int .u32 0, .int .u64 0, .int .u64 0, .int .u64 0, .int .u64 0]) ?_ 5 _ rfl; (with_reducible repeat (first | refine blk_drewN ?_ _ | refine blk_drew ?_ | refine blk_alloc ?_ _)); refine blk_put (cs := #[.int .u8 t359, .int .u8 t360, .int .u8 t361, .int .u8 t362, .int .i8 0, .int .i8 0, .int .u32 0, .int .u32 0, .int .u32 0, .int .u64 0, .int .u64 0, .int .u64 0, .int .u64 0]) ?_ 4 _ rfl; (with_reducible repeat (first | refine blk_drewN ?_ _ | refine blk_drew ?_ | refine blk_alloc ?_ _)); refine blk_put (cs := #[.int .u8 t359, .int .u8 t360, .int .u8 t361, .int .u8 0, .int .i8 0, .int .i8 0, .int .u32 0, .int .u32 0, .int .u32 0, .int .u64 0, .int .u64 0, .int .u64 0, .int .u64 0]) ?_ 3 _ rfl; (with_reducible repeat (first | refine blk_drewN ?_ _ | refine blk_drew ?_ | refine blk_alloc ?_ _)); refine blk_put (cs := #[.int .u8 t359, .int .u8 t360, .int .u8 0, .int .u8 0, .int .i8 0, .int .i8 0, .int .u32 0, .int .u32 0, .int .u32 0, .int .u64 0, .int .u64 0, .int .u64 0, .int .u64 0]) ?_ 2 _ rfl; (with_reducible repeat (first | refine blk_drewN ?_ _ | refine blk_drew ?_ | refine blk_alloc ?_ _)); refine blk_put (cs := #[.int .u8 t359, .int .u8 0, .int .u8 0, .int .u8 0, .int .i8 0, .int .i8 0, .int .u32 0, .int .u32 0, .int .u32 0, .int .u64 0, .int .u64 0, .int .u64 0, .int .u64 0]) ?_ 1 _ rfl; (with_reducible repeat (first | refine blk_drewN ?_ _ | refine blk_drew ?_ | refine blk_alloc ?_ _)); refine blk_put (cs := #[.int .u8 0, .int .u8 0, .int .u8 0, .int .u8 0, .int .i8 0, .int .i8 0, .int .u32 0, .int .u32 0, .int .u32 0, .int .u64 0, .int .u64 0, .int .u64 0, .int .u64 0]) ?_ 0 _ rfl; (with_reducible repeat (first | refine blk_drewN ?_ _ | refine blk_drew ?_ | refine blk_alloc ?_ _)); exact BK373.out) hb); have n3_ := Aside0.mk (below_step (by repeat (first | (with_reducible first | exact HB.out | apply below_alloc | apply pw_below_drewN | apply below_drew1 | refine below_set ?_ GE310.out | refine below_set ?_ GE373.out) | exact HB.out)) hb); clear BK310; clear BK373; clear HB; have HO376 := n0_; have BK310 := n1_; have BK373 := n2_; have HB := n3_; clear n0_ n1_ n2_ n3_; (try clear hb); (try clear hb2); (try clear hk); (try clear hi); (try clear ho0)))
                have n0_ := Aside0.mk (Kd.R_drew HO376.out)
                have n1_ := Aside0.mk (blk_drew BK310.out)
                have n2_ := Aside0.mk (blk_drew BK373.out)
                have n3_ := Aside0.mk (below_drew1 HB.out)
                clear HO376
                clear BK310
                clear BK373
                clear HB
                have HO376 := n0_
                have BK310 := n1_
                have BK373 := n2_
                have HB := n3_
                clear n0_ n1_ n2_ n3_
                refine start_ (n := 19) (S := fun w' => True) (ds := []) #[false, false, false, false, false, false, false, false, false, false, false, false, false, false, false, false, false, false, false] (by kernel_rfl) rfl rfl trivial (fun hHeld => ?_); refine with_tabW chronobatelaw03_PacketBack.tab15 chronobatelaw03_PacketBack.bits15 (fun HT_ HW_ => ?_)
                generalize w90.drew = w91 at HO376 BK310 BK373 HB hHeld ⊢
                refine one_ (i := 0) (N := some 84) #[true, false, false, false, false, false, false, false, false, false, false, false, false, false, false, false, false, false, false] rfl rfl (one_of HT_.out (by kernel_rfl)) (by decide) (fun K hK => ?_)
                refine goes_ Try.func12 (by kernel_rfl) rfl #[] (by rfl) rfl rfl (by (try simp only [List.map_toArray, List.map_cons, List.map_nil]); first | done | rfl | (simp only [List.length_drop, List.length_take]; rfl)) ?_
                with_reducible refine (chronobatelaw03_alive.calls kj10  false _ A56.out).mono ?_
                rintro e w92 ⟨rfl, hb⟩
                refine ⟨_, rfl, ?_⟩
                have n0_ := Aside0.mk (Kd.R_below (by (with_reducible repeat (first | apply Kd.R_alloc | apply Kd.R_drewN | apply Kd.R_drew)); exact HO376.out) hb)
                have n1_ := Aside0.mk (blk_below (g := gb310) (o := .cells #[.int .u8 a0_0, .int .u8 a0_1, .int .u8 a0_2, .int .u8 a0_3, .int .i8 a0_4, .int .i8 a0_5, .int .u32 a0_6, .int .u32 a0_7, .int .u32 a0_8, .int .u64 a0_9, .int .u64 a0_10, .int .u64 a0_11, .int .u64 a0_12] 26 (0, 0)) (by (with_reducible repeat (first | refine blk_drewN ?_ _ | refine blk_drew ?_ | refine blk_alloc ?_ _)); exact BK310.out) hb)
                have n2_ := Aside0.mk (blk_below (g := gb373) (o := .cells #[.int .u8 t359, .int .u8 t360, .int .u8 t361, .int .u8 t362, .int .i8 t363, .int .i8 t364, .int .u32 t365, .int .u32 t366, .int .u32 t367, .int .u64 t368, .int .u64 t369, .int .u64 t370, .int .u64 t371] 26 (0, 0)) (by (with_reducible repeat (first | refine blk_drewN ?_ _ | refine blk_drew ?_ | refine blk_alloc ?_ _)); exact BK373.out) hb)
                have n3_ := Aside0.mk (below_step (by repeat (first | (with_reducible first | exact HB.out | apply below_alloc | apply pw_below_drewN | apply below_drew1 | refine below_set ?_ GE310.out | refine below_set ?_ GE373.out) | exact HB.out)) hb)
                clear HO376
                clear BK310
                clear BK373
                clear HB
                have HO376 := n0_
                have BK310 := n1_
                have BK373 := n2_
                have HB := n3_
                clear n0_ n1_ n2_ n3_
                (try clear hb)
                (try clear hb2)
                (try clear hk)
                (try clear hi)
                refine hK.out _ _ trivial (fun hHeld => ?_)
                clear hK K
                refine norm_ (a' := ?_) ?_ ?_
                rotate_left
                · show Act.put _ (some 84) _ = _
                  simp only [Act.put, List.setIfInBounds_toArray, List.set_cons_zero, List.set_cons_succ, i64_w, i32_w]
                  rfl
                refine pure_ (i := 1) (N := some 85) (v := ?_) (a' := ?_) #[true, true, false, false, false, false, false, false, false, false, false, false, false, false, false, false, false, false, false] rfl rfl (any_of HT_.out (by kernel_rfl)) (fun _ _ _ h => h) (Or.inl ⟨by rfl, ?_⟩) ?_ ?_
                rotate_left
                · intro w'
                  go_simp
                  with_reducible rfl
                rotate_left
                · simp only [Act.put, List.setIfInBounds_toArray, List.set_cons_zero, List.set_cons_succ, i64_w, i32_w]
                  rfl
                refine pure_ (i := 2) (N := some 86) (v := undef) (a' := ?_) #[true, true, true, false, false, false, false, false, false, false, false, false, false, false, false, false, false, false, false] rfl rfl (any_of HT_.out (by kernel_rfl)) (fun _ _ _ h => h) (Or.inr ⟨by rfl, rfl⟩) ?_ ?_
                rotate_left
                · simp only [Act.put, List.setIfInBounds_toArray, List.set_cons_zero, List.set_cons_succ, i64_w, i32_w]
                  rfl
                refine pure_ (i := 3) (N := some 87) (v := undef) (a' := ?_) #[true, true, true, true, false, false, false, false, false, false, false, false, false, false, false, false, false, false, false] rfl rfl (any_of HT_.out (by kernel_rfl)) (fun _ _ _ h => h) (Or.inr ⟨by rfl, rfl⟩) ?_ ?_
                rotate_left
                · simp only [Act.put, List.setIfInBounds_toArray, List.set_cons_zero, List.set_cons_succ, i64_w, i32_w]
                  rfl
                refine pure_ (i := 4) (N := some 88) (v := ?_) (a' := ?_) #[true, true, true, true, true, false, false, false, false, false, false, false, false, false, false, false, false, false, false] rfl rfl (any_of HT_.out (by kernel_rfl)) (fun _ _ _ h => h) (Or.inl ⟨by rfl, ?_⟩) ?_ ?_
                rotate_left
                · intro w'
                  go_simp
                  with_reducible rfl
                rotate_left
                · simp only [Act.put, List.setIfInBounds_toArray, List.set_cons_zero, List.set_cons_succ, i64_w, i32_w]
                  rfl
                refine pure_ (i := 5) (N := some 89) (v := ?_) (a' := ?_) #[true, true, true, true, true, true, false, false, false, false, false, false, false, false, false, false, false, false, false] rfl rfl (any_of HT_.out (by kernel_rfl)) (fun _ _ _ h => h) (Or.inl ⟨by rfl, ?_⟩) ?_ ?_
                rotate_left
                · intro w'
                  go_simp
                  with_reducible rfl
                rotate_left
                · simp only [Act.put, List.setIfInBounds_toArray, List.set_cons_zero, List.set_cons_succ, i64_w, i32_w]
                  rfl
                refine pure_ (i := 6) (N := some 90) (v := undef) (a' := ?_) #[true, true, true, true, true, true, true, false, false, false, false, false, false, false, false, false, false, false, false] rfl rfl (any_of HT_.out (by kernel_rfl)) (fun _ _ _ h => h) (Or.inr ⟨by rfl, rfl⟩) ?_ ?_
                rotate_left
                · simp only [Act.put, List.setIfInBounds_toArray, List.set_cons_zero, List.set_cons_succ, i64_w, i32_w]
                  rfl
                refine pure_ (i := 7) (N := some 91) (v := undef) (a' := ?_) #[true, true, true, true, true, true, true, true, false, false, false, false, false, false, false, false, false, false, false] rfl rfl (any_of HT_.out (by kernel_rfl)) (fun _ _ _ h => h) (Or.inr ⟨by rfl, rfl⟩) ?_ ?_
                rotate_left
                · simp only [Act.put, List.setIfInBounds_toArray, List.set_cons_zero, List.set_cons_succ, i64_w, i32_w]
                  rfl
                refine pure_ (i := 8) (N := some 92) (v := undef) (a' := ?_) #[true, true, true, true, true, true, true, true, true, false, false, false, false, false, false, false, false, false, false] rfl rfl (any_of HT_.out (by kernel_rfl)) (fun _ _ _ h => h) (Or.inr ⟨by rfl, rfl⟩) ?_ ?_
                rotate_left
                · simp only [Act.put, List.setIfInBounds_toArray, List.set_cons_zero, List.set_cons_succ, i64_w, i32_w]
                  rfl
                refine pure_ (i := 9) (N := some 93) (v := ?_) (a' := ?_) #[true, true, true, true, true, true, true, true, true, true, false, false, false, false, false, false, false, false, false] rfl rfl (any_of HT_.out (by kernel_rfl)) (fun _ _ _ h => h) (Or.inl ⟨by rfl, ?_⟩) ?_ ?_
                rotate_left
                · intro w'
                  go_simp
                  with_reducible rfl
                rotate_left
                · simp only [Act.put, List.setIfInBounds_toArray, List.set_cons_zero, List.set_cons_succ, i64_w, i32_w]
                  rfl
                refine pure_ (i := 10) (N := some 94) (v := ?_) (a' := ?_) #[true, true, true, true, true, true, true, true, true, true, true, false, false, false, false, false, false, false, false] rfl rfl (any_of HT_.out (by kernel_rfl)) (fun _ _ _ h => h) (Or.inl ⟨by rfl, ?_⟩) ?_ ?_
                rotate_left
                · intro w'
                  go_simp
                  with_reducible rfl
                rotate_left
                · simp only [Act.put, List.setIfInBounds_toArray, List.set_cons_zero, List.set_cons_succ, i64_w, i32_w]
                  rfl
                refine pure_ (i := 11) (N := some 95) (v := undef) (a' := ?_) #[true, true, true, true, true, true, true, true, true, true, true, true, false, false, false, false, false, false, false] rfl rfl (any_of HT_.out (by kernel_rfl)) (fun _ _ _ h => h) (Or.inr ⟨by rfl, rfl⟩) ?_ ?_
                rotate_left
                · simp only [Act.put, List.setIfInBounds_toArray, List.set_cons_zero, List.set_cons_succ, i64_w, i32_w]
                  rfl
                refine pure_ (i := 12) (N := some 96) (v := undef) (a' := ?_) #[true, true, true, true, true, true, true, true, true, true, true, true, true, false, false, false, false, false, false] rfl rfl (any_of HT_.out (by kernel_rfl)) (fun _ _ _ h => h) (Or.inr ⟨by rfl, rfl⟩) ?_ ?_
                rotate_left
                · simp only [Act.put, List.setIfInBounds_toArray, List.set_cons_zero, List.set_cons_succ, i64_w, i32_w]
                  rfl
                refine pure_ (i := 13) (N := some 97) (v := undef) (a' := ?_) #[true, true, true, true, true, true, true, true, true, true, true, true, true, true, false, false, false, false, false] rfl rfl (any_of HT_.out (by kernel_rfl)) (fun _ _ _ h => h) (Or.inr ⟨by rfl, rfl⟩) ?_ ?_
                rotate_left
                · simp only [Act.put, List.setIfInBounds_toArray, List.set_cons_zero, List.set_cons_succ, i64_w, i32_w]
                  rfl
                refine pure_ (i := 14) (N := some 98) (v := undef) (a' := ?_) #[true, true, true, true, true, true, true, true, true, true, true, true, true, true, true, false, false, false, false] rfl rfl (any_of HT_.out (by kernel_rfl)) (fun _ _ _ h => h) (Or.inr ⟨by rfl, rfl⟩) ?_ ?_
                rotate_left
                · simp only [Act.put, List.setIfInBounds_toArray, List.set_cons_zero, List.set_cons_succ, i64_w, i32_w]
                  rfl
                refine pure_ (i := 15) (N := some 99) (v := undef) (a' := ?_) #[true, true, true, true, true, true, true, true, true, true, true, true, true, true, true, true, false, false, false] rfl rfl (any_of HT_.out (by kernel_rfl)) (fun _ _ _ h => h) (Or.inr ⟨by rfl, rfl⟩) ?_ ?_
                rotate_left
                · simp only [Act.put, List.setIfInBounds_toArray, List.set_cons_zero, List.set_cons_succ, i64_w, i32_w]
                  rfl
                refine pure_ (i := 16) (N := some 100) (v := undef) (a' := ?_) #[true, true, true, true, true, true, true, true, true, true, true, true, true, true, true, true, true, false, false] rfl rfl (any_of HT_.out (by kernel_rfl)) (fun _ _ _ h => h) (Or.inr ⟨by rfl, rfl⟩) ?_ ?_
                rotate_left
                · simp only [Act.put, List.setIfInBounds_toArray, List.set_cons_zero, List.set_cons_succ, i64_w, i32_w]
                  rfl
                refine pure_ (i := 17) (N := some 101) (v := ?_) (a' := ?_) #[true, true, true, true, true, true, true, true, true, true, true, true, true, true, true, true, true, true, false] rfl rfl (any_of HT_.out (by kernel_rfl)) (fun _ _ _ h => h) (Or.inl ⟨by rfl, ?_⟩) ?_ ?_
                rotate_left
                · intro w'
                  go_simp
                  with_reducible rfl
                rotate_left
                · simp only [Act.put, List.setIfInBounds_toArray, List.set_cons_zero, List.set_cons_succ, i64_w, i32_w]
                  rfl
                refine pure_ (i := 18) (N := some 6) (v := ?_) (a' := ?_) #[true, true, true, true, true, true, true, true, true, true, true, true, true, true, true, true, true, true, true] rfl rfl (any_of HT_.out (by kernel_rfl)) (fun _ _ _ h => h) (Or.inl ⟨by rfl, ?_⟩) ?_ ?_
                rotate_left
                · intro w'
                  go_simp
                  with_reducible rfl
                rotate_left
                · simp only [Act.put, List.setIfInBounds_toArray, List.set_cons_zero, List.set_cons_succ, i64_w, i32_w]
                  rfl
                refine done_ (done_of HT_.out (by kernel_rfl)) ?_
                try go_wp2
                go_ret
                exact ⟨by first | rfl | (simp [errW_none, errW_some] <;> rfl) | (simp [*, errW_none, errW_some] <;> rfl), by repeat (first | (with_reducible first | exact HB.out | apply below_alloc | apply pw_below_drewN | apply below_drew1 | refine below_set ?_ GE310.out | refine below_set ?_ GE373.out) | exact HB.out)⟩
            · rw [if_neg c54] at H
              have c54b0 : (t372 == 0) = false := beq_eq_false_iff_ne.mpr c54
              have c54b1 : (t372 != 0) = true := bne_iff_ne.mpr c54
              replace H := Option.bind_eq_some_iff.mp H
              obtain ⟨t380, A930, H⟩ := H
              replace H : (if t380 = true then (if t372 = 5 then (some (decide ((l1.length : Int) < 48))) else (some false)) else (some false)) = some r := H
              have A93 := Aside0.mk A930
              clear A930
              by_cases c94 : t380 = true
              · subst c94
                have H1 : (if t372 = 5 then (some (decide ((l1.length : Int) < 48))) else (some false)) = some r := by rw [if_pos rfl] at H; exact H
                clear H
                have H := H1
                clear H1
                by_cases c95 : t372 = 5
                · rw [if_pos c95] at H
                  have c95b0 : (t372 == 5) = true := beq_iff_eq.mpr c95
                  have c95b1 : (t372 != 5) = false := bne_eq_false_iff_eq.mpr c95
                  clear c95
                  obtain rfl := Option.some.inj H
                  go_wp2_with (first | ((with_reducible refine gate_callee (f := 15) rfl ?_); refine goesL_ (some 64) rfl rfl Try.func15 (by kernel_rfl) rfl #[.slice A1 l1.length c1] rfl (by (try simp only [List.map_toArray, List.map_cons, List.map_nil]); first | done | rfl | (simp only [List.length_drop, List.length_take]; rfl)) ?_; (with_reducible refine (packet_Get.calls kj10 _ _ l1 t359 t360 t361 t362 t363 t364 t365 t366 t367 t368 t369 t370 t371 t372 _ ?side1 ?side2 A53.out).mono ?_); (case side1 => repeat (first | exact (Kd.C_below HR1.out HB.out) | (with_reducible refine Kd.C_alloc ?_ _) | (with_reducible refine Kd.C_drewN ?_ _) | (with_reducible refine Kd.C_drew ?_))); (case side2 => exact HC1.out); rintro e w96 ⟨rfl, hb⟩; refine ⟨_, rfl, ?_⟩; have n0_ := Aside0.mk (blk_below (g := gb310) (o := .cells #[.int .u8 a0_0, .int .u8 a0_1, .int .u8 a0_2, .int .u8 a0_3, .int .i8 a0_4, .int .i8 a0_5, .int .u32 a0_6, .int .u32 a0_7, .int .u32 a0_8, .int .u64 a0_9, .int .u64 a0_10, .int .u64 a0_11, .int .u64 a0_12] 26 (0, 0)) (by (with_reducible repeat (first | refine blk_drewN ?_ _ | refine blk_drew ?_ | refine blk_alloc ?_ _)); exact BK310.out) hb); have n1_ := Aside0.mk (below_step (by repeat (first | (with_reducible first | exact HB.out | apply below_alloc | apply pw_below_drewN | apply below_drew1 | refine below_set ?_ GE310.out) | exact HB.out)) hb); clear BK310; clear HB; have BK310 := n0_; have HB := n1_; clear n0_ n1_; (try clear hb); (try clear hb2); (try clear hk); (try clear hi)) | ((with_reducible refine gate_dst (N := 13) rfl ?_); (try (refine gate_guard (by rfl) ?_; dsimp only)); refine box_event ?hg (N := 13) ?hd (cs := #[.int .u8 0, .int .u8 0, .int .u8 0, .int .u8 0, .int .i8 0, .int .i8 0, .int .u32 0, .int .u32 0, .int .u32 0, .int .u64 0, .int .u64 0, .int .u64 0, .int .u64 0]) (t := 26) ?hr ?_; (case hd => rfl); (case hg => rfl); (case hr => first | (go_simp; done) | (go_simp; rfl)); intro gb373 hg w97 hbox hb; have n0_ := Aside0.mk (blk_below (g := gb310) (o := .cells #[.int .u8 a0_0, .int .u8 a0_1, .int .u8 a0_2, .int .u8 a0_3, .int .i8 a0_4, .int .i8 a0_5, .int .u32 a0_6, .int .u32 a0_7, .int .u32 a0_8, .int .u64 a0_9, .int .u64 a0_10, .int .u64 a0_11, .int .u64 a0_12] 26 (0, 0)) (by (with_reducible repeat (first | refine blk_drewN ?_ _ | refine blk_drew ?_ | refine blk_alloc ?_ _)); exact BK310.out) hb); have n1_ := Aside0.mk (below_step (by repeat (first | (with_reducible first | exact HB.out | apply below_alloc | apply pw_below_drewN | apply below_drew1 | refine below_set ?_ GE310.out) | exact HB.out)) hb); have n2_ := Aside0.mk (hbox); have n3_ := Aside0.mk ((by rw [hg]; exact (below_size (by repeat (first | (with_reducible first | exact HB.out | apply below_alloc | apply pw_below_drewN | apply below_drew1 | refine below_set ?_ GE310.out) | exact HB.out))) : w.heap.size ≤ gb373)); have n4_ := Aside0.mk ((by rw [hg]; exact (below_size (by repeat (first | (with_reducible first | exact HB.out | apply below_alloc | apply pw_below_drewN | apply below_drew1 | refine below_set ?_ GE310.out) | exact HB.out))) : w.heap.size ≤ gb373)); have n5_ := Aside0.mk ((by rw [hg]; exact Nat.ne_of_lt (blk_lt (g := gb310) (o := .cells #[.int .u8 a0_0, .int .u8 a0_1, .int .u8 a0_2, .int .u8 a0_3, .int .i8 a0_4, .int .i8 a0_5, .int .u32 a0_6, .int .u32 a0_7, .int .u32 a0_8, .int .u64 a0_9, .int .u64 a0_10, .int .u64 a0_11, .int .u64 a0_12] 26 (0, 0)) (by (with_reducible repeat (first | refine blk_drewN ?_ _ | refine blk_drew ?_ | refine blk_alloc ?_ _)); exact BK310.out)) : gb310 ≠ gb373)); have n6_ := Aside0.mk ((by rw [hg]; exact Nat.ne_of_gt (blk_lt (g := gb310) (o := .cells #[.int .u8 a0_0, .int .u8 a0_1, .int .u8 a0_2, .int .u8 a0_3, .int .i8 a0_4, .int .i8 a0_5, .int .u32 a0_6, .int .u32 a0_7, .int .u32 a0_8, .int .u64 a0_9, .int .u64 a0_10, .int .u64 a0_11, .int .u64 a0_12] 26 (0, 0)) (by (with_reducible repeat (first | refine blk_drewN ?_ _ | refine blk_drew ?_ | refine blk_alloc ?_ _)); exact BK310.out)) : gb373 ≠ gb310)); clear BK310; clear HB; have BK310 := n0_; have HB := n1_; have BK373 := n2_; have GW373 := n3_; have GE373 := n4_; have NB310_373 := n5_; have NB373_310 := n6_; clear n0_ n1_ n2_ n3_ n4_ n5_ n6_; clear hb hbox hg; have hnb98 := NB373_310.out; have hnc98 := NB310_373.out; have hcz99_0 : w97.cell? ⟨gb373, 0, none⟩ = some (.int .u8 0) := (blk_cell BK373.out 0).trans rfl; have hcz99_1 : w97.cell? ⟨gb373, 1, none⟩ = some (.int .u8 0) := (blk_cell BK373.out 1).trans rfl; have hcz99_2 : w97.cell? ⟨gb373, 2, none⟩ = some (.int .u8 0) := (blk_cell BK373.out 2).trans rfl; have hcz99_3 : w97.cell? ⟨gb373, 3, none⟩ = some (.int .u8 0) := (blk_cell BK373.out 3).trans rfl; have hcz99_4 : w97.cell? ⟨gb373, 4, none⟩ = some (.int .i8 0) := (blk_cell BK373.out 4).trans rfl; have hcz99_5 : w97.cell? ⟨gb373, 5, none⟩ = some (.int .i8 0) := (blk_cell BK373.out 5).trans rfl; have hcz99_6 : w97.cell? ⟨gb373, 6, none⟩ = some (.int .u32 0) := (blk_cell BK373.out 6).trans rfl; have hcz99_7 : w97.cell? ⟨gb373, 7, none⟩ = some (.int .u32 0) := (blk_cell BK373.out 7).trans rfl; have hcz99_8 : w97.cell? ⟨gb373, 8, none⟩ = some (.int .u32 0) := (blk_cell BK373.out 8).trans rfl; have hcz99_9 : w97.cell? ⟨gb373, 9, none⟩ = some (.int .u64 0) := (blk_cell BK373.out 9).trans rfl; have hcz99_10 : w97.cell? ⟨gb373, 10, none⟩ = some (.int .u64 0) := (blk_cell BK373.out 10).trans rfl; have hcz99_11 : w97.cell? ⟨gb373, 11, none⟩ = some (.int .u64 0) := (blk_cell BK373.out 11).trans rfl; have hcz99_12 : w97.cell? ⟨gb373, 12, none⟩ = some (.int .u64 0) := (blk_cell BK373.out 12).trans rfl; have hfz99_0 := blk_frozen BK373.out 0; have hfz99_1 := blk_frozen BK373.out 1; have hfz99_2 := blk_frozen BK373.out 2; have hfz99_3 := blk_frozen BK373.out 3; have hfz99_4 := blk_frozen BK373.out 4; have hfz99_5 := blk_frozen BK373.out 5; have hfz99_6 := blk_frozen BK373.out 6; have hfz99_7 := blk_frozen BK373.out 7; have hfz99_8 := blk_frozen BK373.out 8; have hfz99_9 := blk_frozen BK373.out 9; have hfz99_10 := blk_frozen BK373.out 10; have hfz99_11 := blk_frozen BK373.out 11; have hfz99_12 := blk_frozen BK373.out 12) | ((with_reducible refine gate_callee (f := 12) rfl ?_); refine goesL_ (some 69) rfl rfl Try.func12 (by kernel_rfl) rfl #[] rfl (by (try simp only [List.map_toArray, List.map_cons, List.map_nil]); first | done | rfl | (simp only [List.length_drop, List.length_take]; rfl)) ?_; (with_reducible refine (chronobatelaw03_alive.calls kj10  true _ A93.out).mono ?_); rintro e w100 ⟨rfl, hb⟩; refine ⟨_, rfl, ?_⟩; have n0_ := Aside0.mk (blk_below (g := gb310) (o := .cells #[.int .u8 a0_0, .int .u8 a0_1, .int .u8 a0_2, .int .u8 a0_3, .int .i8 a0_4, .int .i8 a0_5, .int .u32 a0_6, .int .u32 a0_7, .int .u32 a0_8, .int .u64 a0_9, .int .u64 a0_10, .int .u64 a0_11, .int .u64 a0_12] 26 (0, 0)) (by (with_reducible repeat (first | refine blk_drewN ?_ _ | refine blk_drew ?_ | refine blk_alloc ?_ _)); refine blk_far ?_ NB310_373.out _; (with_reducible repeat (first | refine blk_drewN ?_ _ | refine blk_drew ?_ | refine blk_alloc ?_ _)); refine blk_far ?_ NB310_373.out _; (with_reducible repeat (first | refine blk_drewN ?_ _ | refine blk_drew ?_ | refine blk_alloc ?_ _)); refine blk_far ?_ NB310_373.out _; (with_reducible repeat (first | refine blk_drewN ?_ _ | refine blk_drew ?_ | refine blk_alloc ?_ _)); refine blk_far ?_ NB310_373.out _; (with_reducible repeat (first | refine blk_drewN ?_ _ | refine blk_drew ?_ | refine blk_alloc ?_ _)); refine blk_far ?_ NB310_373.out _; (with_reducible repeat (first | refine blk_drewN ?_ _ | refine blk_drew ?_ | refine blk_alloc ?_ _)); refine blk_far ?_ NB310_373.out _; (with_reducible repeat (first | refine blk_drewN ?_ _ | refine blk_drew ?_ | refine blk_alloc ?_ _)); refine blk_far ?_ NB310_373.out _; (with_reducible repeat (first | refine blk_drewN ?_ _ | refine blk_drew ?_ | refine blk_alloc ?_ _)); refine blk_far ?_ NB310_373.out _; (with_reducible repeat (first | refine blk_drewN ?_ _ | refine blk_drew ?_ | refine blk_alloc ?_ _)); refine blk_far ?_ NB310_373.out _; (with_reducible repeat (first | refine blk_drewN ?_ _ | refine blk_drew ?_ | refine blk_alloc ?_ _)); refine blk_far ?_ NB310_373.out _; (with_reducible repeat (first | refine blk_drewN ?_ _ | refine blk_drew ?_ | refine blk_alloc ?_ _)); refine blk_far ?_ NB310_373.out _; (with_reducible repeat (first | refine blk_drewN ?_ _ | refine blk_drew ?_ | refine blk_alloc ?_ _)); refine blk_far ?_ NB310_373.out _; (with_reducible repeat (first | refine blk_drewN ?_ _ | refine blk_drew ?_ | refine blk_alloc ?_ _)); refine blk_far ?_ NB310_373.out _; (with_reducible repeat (first | refine blk_drewN ?_ _ | refine blk_drew ?_ | refine blk_alloc ?_ _)); exact BK310.out) hb); have n1_ := Aside0.mk (blk_below (g := gb373) (o := .cells #[.int .u8 t359, .int .u8 t360, .int .u8 t361, .int .u8 t362, .int .i8 t363, .int .i8 t364, .int .u32 t365, .int .u32 t366, .int .u32 t367, .int .u64 t368, .int .u64 t369, .int .u64 t370, .int .u64 t371] 26 (0, 0)) (by (with_reducible repeat (first | refine blk_drewN ?_ _ | refine blk_drew ?_ | refine blk_alloc ?_ _)); refine blk_put (cs := #[.int .u8 t359, .int .u8 t360, .int .u8 t361, .int .u8 t362, .int .i8 t363, .int .i8 t364, .int .u32 t365, .int .u32 t366, .int .u32 t367, .int .u64 t368, .int .u64 t369, .int .u64 t370, .int .u64 0]) ?_ 12 _ rfl; (with_reducible repeat (first | refine blk_drewN ?_ _ | refine blk_drew ?_ | refine blk_alloc ?_ _)); refine blk_put (cs := #[.int .u8 t359, .int .u8 t360, .int .u8 t361, .int .u8 t362, .int .i8 t363, .int .i8 t364, .int .u32 t365, .int .u32 t366, .int .u32 t367, .int .u64 t368, .int .u64 t369, .int .u64 0, .int .u64 0]) ?_ 11 _ rfl; (with_reducible repeat (first | refine blk_drewN ?_ _ | refine blk_drew ?_ | refine blk_alloc ?_ _)); refine blk_put (cs := #[.int .u8 t359, .int .u8 t360, .int .u8 t361, .int .u8 t362, .int .i8 t363, .int .i8 t364, .int .u32 t365, .int .u32 t366, .int .u32 t367, .int .u64 t368, .int .u64 0, .int .u64 0, .int .u64 0]) ?_ 10 _ rfl; (with_reducible repeat (first | refine blk_drewN ?_ _ | refine blk_drew ?_ | refine blk_alloc ?_ _)); refine blk_put (cs := #[.int .u8 t359, .int .u8 t360, .int .u8 t361, .int .u8 t362, .int .i8 t363, .int .i8 t364, .int .u32 t365, .int .u32 t366, .int .u32 t367, .int .u64 0, .int .u64 0, .int .u64 0, .int .u64 0]) ?_ 9 _ rfl; (with_reducible repeat (first | refine blk_drewN ?_ _ | refine blk_drew ?_ | refine blk_alloc ?_ _)); refine blk_put (cs := #[.int .u8 t359, .int .u8 t360, .int .u8 t361, .int .u8 t362, .int .i8 t363, .int .i8 t364, .int .u32 t365, .int .u32 t366, .int .u32 0, .int .u64 0, .int .u64 0, .int .u64 0, .int .u64 0]) ?_ 8 _ rfl; (with_reducible repeat (first | refine blk_drewN ?_ _ | refine blk_drew ?_ | refine blk_alloc ?_ _)); refine blk_put (cs := #[.int .u8 t359, .int .u8 t360, .int .u8 t361, .int .u8 t362, .int .i8 t363, .int .i8 t364, .int .u32 t365, .int .u32 0, .int .u32 0, .int .u64 0, .int .u64 0, .int .u64 0, .int .u64 0]) ?_ 7 _ rfl; (with_reducible repeat (first | refine blk_drewN ?_ _ | refine blk_drew ?_ | refine blk_alloc ?_ _)); refine blk_put (cs := #[.int .u8 t359, .int .u8 t360, .int .u8 t361, .int .u8 t362, .int .i8 t363, .int .i8 t364, .int .u32 0, .int .u32 0, .int .u32 0, .int .u64 0, .int .u64 0, .int .u64 0, .int .u64 0]) ?_ 6 _ rfl; (with_reducible repeat (first | refine blk_drewN ?_ _ | refine blk_drew ?_ | refine blk_alloc ?_ _)); refine blk_put (cs := #[.int .u8 t359, .int .u8 t360, .int .u8 t361, .int .u8 t362, .int .i8 t363, .int .i8 0, .int .u32 0, .int .u32 0, .int .u32 0, .int .u64 0, .int .u64 0, .int .u64 0, .int .u64 0]) ?_ 5 _ rfl; (with_reducible repeat (first | refine blk_drewN ?_ _ | refine blk_drew ?_ | refine blk_alloc ?_ _)); refine blk_put (cs := #[.int .u8 t359, .int .u8 t360, .int .u8 t361, .int .u8 t362, .int .i8 0, .int .i8 0, .int .u32 0, .int .u32 0, .int .u32 0, .int .u64 0, .int .u64 0, .int .u64 0, .int .u64 0]) ?_ 4 _ rfl; (with_reducible repeat (first | refine blk_drewN ?_ _ | refine blk_drew ?_ | refine blk_alloc ?_ _)); refine blk_put (cs := #[.int .u8 t359, .int .u8 t360, .int .u8 t361, .int .u8 0, .int .i8 0, .int .i8 0, .int .u32 0, .int .u32 0, .int .u32 0, .int .u64 0, .int .u64 0, .int .u64 0, .int .u64 0]) ?_ 3 _ rfl; (with_reducible repeat (first | refine blk_drewN ?_ _ | refine blk_drew ?_ | refine blk_alloc ?_ _)); refine blk_put (cs := #[.int .u8 t359, .int .u8 t360, .int .u8 0, .int .u8 0, .int .i8 0, .int .i8 0, .int .u32 0, .int .u32 0, .int .u32 0, .int .u64 0, .int .u64 0, .int .u64 0, .int .u64 0]) ?_ 2 _ rfl; (with_reducible repeat (first | refine blk_drewN ?_ _ | refine blk_drew ?_ | refine blk_alloc ?_ _)); refine blk_put (cs := #[.int .u8 t359, .int .u8 0, .int .u8 0, .int .u8 0, .int .i8 0, .int .i8 0, .int .u32 0, .int .u32 0, .int .u32 0, .int .u64 0, .int .u64 0, .int .u64 0, .int .u64 0]) ?_ 1 _ rfl; (with_reducible repeat (first | refine blk_drewN ?_ _ | refine blk_drew ?_ | refine blk_alloc ?_ _)); refine blk_put (cs := #[.int .u8 0, .int .u8 0, .int .u8 0, .int .u8 0, .int .i8 0, .int .i8 0, .int .u32 0, .int .u32 0, .int .u32 0, .int .u64 0, .int .u64 0, .int .u64 0, .int .u64 0]) ?_ 0 _ rfl; (with_reducible repeat (first | refine blk_drewN ?_ _ | refine blk_drew ?_ | refine blk_alloc ?_ _)); exact BK373.out) hb); have n2_ := Aside0.mk (below_step (by repeat (first | (with_reducible first | exact HB.out | apply below_alloc | apply pw_below_drewN | apply below_drew1 | refine below_set ?_ GE310.out | refine below_set ?_ GE373.out) | exact HB.out)) hb); clear BK310; clear BK373; clear HB; have BK310 := n0_; have BK373 := n1_; have HB := n2_; clear n0_ n1_ n2_; (try clear hb); (try clear hb2); (try clear hk); (try clear hi)))
                  go_ret
                  exact ⟨by first | rfl | (simp [errW_none, errW_some] <;> rfl) | (simp [*, errW_none, errW_some] <;> rfl), by repeat (first | (with_reducible first | exact HB.out | apply below_alloc | apply pw_below_drewN | apply below_drew1 | refine below_set ?_ GE310.out | refine below_set ?_ GE373.out) | exact HB.out)⟩
                · rw [if_neg c95] at H
                  have c95b0 : (t372 == 5) = false := beq_eq_false_iff_ne.mpr c95
                  have c95b1 : (t372 != 5) = true := bne_iff_ne.mpr c95
                  obtain rfl := Option.some.inj H
                  go_wp2_with (first | ((with_reducible refine gate_callee (f := 15) rfl ?_); refine goesL_ (some 64) rfl rfl Try.func15 (by kernel_rfl) rfl #[.slice A1 l1.length c1] rfl (by (try simp only [List.map_toArray, List.map_cons, List.map_nil]); first | done | rfl | (simp only [List.length_drop, List.length_take]; rfl)) ?_; (with_reducible refine (packet_Get.calls kj10 _ _ l1 t359 t360 t361 t362 t363 t364 t365 t366 t367 t368 t369 t370 t371 t372 _ ?side1 ?side2 A53.out).mono ?_); (case side1 => repeat (first | exact (Kd.C_below HR1.out HB.out) | (with_reducible refine Kd.C_alloc ?_ _) | (with_reducible refine Kd.C_drewN ?_ _) | (with_reducible refine Kd.C_drew ?_))); (case side2 => exact HC1.out); rintro e w101 ⟨rfl, hb⟩; refine ⟨_, rfl, ?_⟩; have n0_ := Aside0.mk (blk_below (g := gb310) (o := .cells #[.int .u8 a0_0, .int .u8 a0_1, .int .u8 a0_2, .int .u8 a0_3, .int .i8 a0_4, .int .i8 a0_5, .int .u32 a0_6, .int .u32 a0_7, .int .u32 a0_8, .int .u64 a0_9, .int .u64 a0_10, .int .u64 a0_11, .int .u64 a0_12] 26 (0, 0)) (by (with_reducible repeat (first | refine blk_drewN ?_ _ | refine blk_drew ?_ | refine blk_alloc ?_ _)); exact BK310.out) hb); have n1_ := Aside0.mk (below_step (by repeat (first | (with_reducible first | exact HB.out | apply below_alloc | apply pw_below_drewN | apply below_drew1 | refine below_set ?_ GE310.out) | exact HB.out)) hb); clear BK310; clear HB; have BK310 := n0_; have HB := n1_; clear n0_ n1_; (try clear hb); (try clear hb2); (try clear hk); (try clear hi)) | ((with_reducible refine gate_dst (N := 13) rfl ?_); (try (refine gate_guard (by rfl) ?_; dsimp only)); refine box_event ?hg (N := 13) ?hd (cs := #[.int .u8 0, .int .u8 0, .int .u8 0, .int .u8 0, .int .i8 0, .int .i8 0, .int .u32 0, .int .u32 0, .int .u32 0, .int .u64 0, .int .u64 0, .int .u64 0, .int .u64 0]) (t := 26) ?hr ?_; (case hd => rfl); (case hg => rfl); (case hr => first | (go_simp; done) | (go_simp; rfl)); intro gb373 hg w102 hbox hb; have n0_ := Aside0.mk (blk_below (g := gb310) (o := .cells #[.int .u8 a0_0, .int .u8 a0_1, .int .u8 a0_2, .int .u8 a0_3, .int .i8 a0_4, .int .i8 a0_5, .int .u32 a0_6, .int .u32 a0_7, .int .u32 a0_8, .int .u64 a0_9, .int .u64 a0_10, .int .u64 a0_11, .int .u64 a0_12] 26 (0, 0)) (by (with_reducible repeat (first | refine blk_drewN ?_ _ | refine blk_drew ?_ | refine blk_alloc ?_ _)); exact BK310.out) hb); have n1_ := Aside0.mk (below_step (by repeat (first | (with_reducible first | exact HB.out | apply below_alloc | apply pw_below_drewN | apply below_drew1 | refine below_set ?_ GE310.out) | exact HB.out)) hb); have n2_ := Aside0.mk (hbox); have n3_ := Aside0.mk ((by rw [hg]; exact (below_size (by repeat (first | (with_reducible first | exact HB.out | apply below_alloc | apply pw_below_drewN | apply below_drew1 | refine below_set ?_ GE310.out) | exact HB.out))) : w.heap.size ≤ gb373)); have n4_ := Aside0.mk ((by rw [hg]; exact (below_size (by repeat (first | (with_reducible first | exact HB.out | apply below_alloc | apply pw_below_drewN | apply below_drew1 | refine below_set ?_ GE310.out) | exact HB.out))) : w.heap.size ≤ gb373)); have n5_ := Aside0.mk ((by rw [hg]; exact Nat.ne_of_lt (blk_lt (g := gb310) (o := .cells #[.int .u8 a0_0, .int .u8 a0_1, .int .u8 a0_2, .int .u8 a0_3, .int .i8 a0_4, .int .i8 a0_5, .int .u32 a0_6, .int .u32 a0_7, .int .u32 a0_8, .int .u64 a0_9, .int .u64 a0_10, .int .u64 a0_11, .int .u64 a0_12] 26 (0, 0)) (by (with_reducible repeat (first | refine blk_drewN ?_ _ | refine blk_drew ?_ | refine blk_alloc ?_ _)); exact BK310.out)) : gb310 ≠ gb373)); have n6_ := Aside0.mk ((by rw [hg]; exact Nat.ne_of_gt (blk_lt (g := gb310) (o := .cells #[.int .u8 a0_0, .int .u8 a0_1, .int .u8 a0_2, .int .u8 a0_3, .int .i8 a0_4, .int .i8 a0_5, .int .u32 a0_6, .int .u32 a0_7, .int .u32 a0_8, .int .u64 a0_9, .int .u64 a0_10, .int .u64 a0_11, .int .u64 a0_12] 26 (0, 0)) (by (with_reducible repeat (first | refine blk_drewN ?_ _ | refine blk_drew ?_ | refine blk_alloc ?_ _)); exact BK310.out)) : gb373 ≠ gb310)); clear BK310; clear HB; have BK310 := n0_; have HB := n1_; have BK373 := n2_; have GW373 := n3_; have GE373 := n4_; have NB310_373 := n5_; have NB373_310 := n6_; clear n0_ n1_ n2_ n3_ n4_ n5_ n6_; clear hb hbox hg; have hnb103 := NB373_310.out; have hnc103 := NB310_373.out; have hcz104_0 : w102.cell? ⟨gb373, 0, none⟩ = some (.int .u8 0) := (blk_cell BK373.out 0).trans rfl; have hcz104_1 : w102.cell? ⟨gb373, 1, none⟩ = some (.int .u8 0) := (blk_cell BK373.out 1).trans rfl; have hcz104_2 : w102.cell? ⟨gb373, 2, none⟩ = some (.int .u8 0) := (blk_cell BK373.out 2).trans rfl; have hcz104_3 : w102.cell? ⟨gb373, 3, none⟩ = some (.int .u8 0) := (blk_cell BK373.out 3).trans rfl; have hcz104_4 : w102.cell? ⟨gb373, 4, none⟩ = some (.int .i8 0) := (blk_cell BK373.out 4).trans rfl; have hcz104_5 : w102.cell? ⟨gb373, 5, none⟩ = some (.int .i8 0) := (blk_cell BK373.out 5).trans rfl; have hcz104_6 : w102.cell? ⟨gb373, 6, none⟩ = some (.int .u32 0) := (blk_cell BK373.out 6).trans rfl; have hcz104_7 : w102.cell? ⟨gb373, 7, none⟩ = some (.int .u32 0) := (blk_cell BK373.out 7).trans rfl; have hcz104_8 : w102.cell? ⟨gb373, 8, none⟩ = some (.int .u32 0) := (blk_cell BK373.out 8).trans rfl; have hcz104_9 : w102.cell? ⟨gb373, 9, none⟩ = some (.int .u64 0) := (blk_cell BK373.out 9).trans rfl; have hcz104_10 : w102.cell? ⟨gb373, 10, none⟩ = some (.int .u64 0) := (blk_cell BK373.out 10).trans rfl; have hcz104_11 : w102.cell? ⟨gb373, 11, none⟩ = some (.int .u64 0) := (blk_cell BK373.out 11).trans rfl; have hcz104_12 : w102.cell? ⟨gb373, 12, none⟩ = some (.int .u64 0) := (blk_cell BK373.out 12).trans rfl; have hfz104_0 := blk_frozen BK373.out 0; have hfz104_1 := blk_frozen BK373.out 1; have hfz104_2 := blk_frozen BK373.out 2; have hfz104_3 := blk_frozen BK373.out 3; have hfz104_4 := blk_frozen BK373.out 4; have hfz104_5 := blk_frozen BK373.out 5; have hfz104_6 := blk_frozen BK373.out 6; have hfz104_7 := blk_frozen BK373.out 7; have hfz104_8 := blk_frozen BK373.out 8; have hfz104_9 := blk_frozen BK373.out 9; have hfz104_10 := blk_frozen BK373.out 10; have hfz104_11 := blk_frozen BK373.out 11; have hfz104_12 := blk_frozen BK373.out 12) | ((with_reducible refine gate_callee (f := 12) rfl ?_); refine goesL_ (some 69) rfl rfl Try.func12 (by kernel_rfl) rfl #[] rfl (by (try simp only [List.map_toArray, List.map_cons, List.map_nil]); first | done | rfl | (simp only [List.length_drop, List.length_take]; rfl)) ?_; (with_reducible refine (chronobatelaw03_alive.calls kj10  true _ A93.out).mono ?_); rintro e w105 ⟨rfl, hb⟩; refine ⟨_, rfl, ?_⟩; have n0_ := Aside0.mk (blk_below (g := gb310) (o := .cells #[.int .u8 a0_0, .int .u8 a0_1, .int .u8 a0_2, .int .u8 a0_3, .int .i8 a0_4, .int .i8 a0_5, .int .u32 a0_6, .int .u32 a0_7, .int .u32 a0_8, .int .u64 a0_9, .int .u64 a0_10, .int .u64 a0_11, .int .u64 a0_12] 26 (0, 0)) (by (with_reducible repeat (first | refine blk_drewN ?_ _ | refine blk_drew ?_ | refine blk_alloc ?_ _)); refine blk_far ?_ NB310_373.out _; (with_reducible repeat (first | refine blk_drewN ?_ _ | refine blk_drew ?_ | refine blk_alloc ?_ _)); refine blk_far ?_ NB310_373.out _; (with_reducible repeat (first | refine blk_drewN ?_ _ | refine blk_drew ?_ | refine blk_alloc ?_ _)); refine blk_far ?_ NB310_373.out _; (with_reducible repeat (first | refine blk_drewN ?_ _ | refine blk_drew ?_ | refine blk_alloc ?_ _)); refine blk_far ?_ NB310_373.out _; (with_reducible repeat (first | refine blk_drewN ?_ _ | refine blk_drew ?_ | refine blk_alloc ?_ _)); refine blk_far ?_ NB310_373.out _; (with_reducible repeat (first | refine blk_drewN ?_ _ | refine blk_drew ?_ | refine blk_alloc ?_ _)); refine blk_far ?_ NB310_373.out _; (with_reducible repeat (first | refine blk_drewN ?_ _ | refine blk_drew ?_ | refine blk_alloc ?_ _)); refine blk_far ?_ NB310_373.out _; (with_reducible repeat (first | refine blk_drewN ?_ _ | refine blk_drew ?_ | refine blk_alloc ?_ _)); refine blk_far ?_ NB310_373.out _; (with_reducible repeat (first | refine blk_drewN ?_ _ | refine blk_drew ?_ | refine blk_alloc ?_ _)); refine blk_far ?_ NB310_373.out _; (with_reducible repeat (first | refine blk_drewN ?_ _ | refine blk_drew ?_ | refine blk_alloc ?_ _)); refine blk_far ?_ NB310_373.out _; (with_reducible repeat (first | refine blk_drewN ?_ _ | refine blk_drew ?_ | refine blk_alloc ?_ _)); refine blk_far ?_ NB310_373.out _; (with_reducible repeat (first | refine blk_drewN ?_ _ | refine blk_drew ?_ | refine blk_alloc ?_ _)); refine blk_far ?_ NB310_373.out _; (with_reducible repeat (first | refine blk_drewN ?_ _ | refine blk_drew ?_ | refine blk_alloc ?_ _)); refine blk_far ?_ NB310_373.out _; (with_reducible repeat (first | refine blk_drewN ?_ _ | refine blk_drew ?_ | refine blk_alloc ?_ _)); exact BK310.out) hb); have n1_ := Aside0.mk (blk_below (g := gb373) (o := .cells #[.int .u8 t359, .int .u8 t360, .int .u8 t361, .int .u8 t362, .int .i8 t363, .int .i8 t364, .int .u32 t365, .int .u32 t366, .int .u32 t367, .int .u64 t368, .int .u64 t369, .int .u64 t370, .int .u64 t371] 26 (0, 0)) (by (with_reducible repeat (first | refine blk_drewN ?_ _ | refine blk_drew ?_ | refine blk_alloc ?_ _)); refine blk_put (cs := #[.int .u8 t359, .int .u8 t360, .int .u8 t361, .int .u8 t362, .int .i8 t363, .int .i8 t364, .int .u32 t365, .int .u32 t366, .int .u32 t367, .int .u64 t368, .int .u64 t369, .int .u64 t370, .int .u64 0]) ?_ 12 _ rfl; (with_reducible repeat (first | refine blk_drewN ?_ _ | refine blk_drew ?_ | refine blk_alloc ?_ _)); refine blk_put (cs := #[.int .u8 t359, .int .u8 t360, .int .u8 t361, .int .u8 t362, .int .i8 t363, .int .i8 t364, .int .u32 t365, .int .u32 t366, .int .u32 t367, .int .u64 t368, .int .u64 t369, .int .u64 0, .int .u64 0]) ?_ 11 _ rfl; (with_reducible repeat (first | refine blk_drewN ?_ _ | refine blk_drew ?_ | refine blk_alloc ?_ _)); refine blk_put (cs := #[.int .u8 t359, .int .u8 t360, .int .u8 t361, .int .u8 t362, .int .i8 t363, .int .i8 t364, .int .u32 t365, .int .u32 t366, .int .u32 t367, .int .u64 t368, .int .u64 0, .int .u64 0, .int .u64 0]) ?_ 10 _ rfl; (with_reducible repeat (first | refine blk_drewN ?_ _ | refine blk_drew ?_ | refine blk_alloc ?_ _)); refine blk_put (cs := #[.int .u8 t359, .int .u8 t360, .int .u8 t361, .int .u8 t362, .int .i8 t363, .int .i8 t364, .int .u32 t365, .int .u32 t366, .int .u32 t367, .int .u64 0, .int .u64 0, .int .u64 0, .int .u64 0]) ?_ 9 _ rfl; (with_reducible repeat (first | refine blk_drewN ?_ _ | refine blk_drew ?_ | refine blk_alloc ?_ _)); refine blk_put (cs := #[.int .u8 t359, .int .u8 t360, .int .u8 t361, .int .u8 t362, .int .i8 t363, .int .i8 t364, .int .u32 t365, .int .u32 t366, .int .u32 0, .int .u64 0, .int .u64 0, .int .u64 0, .int .u64 0]) ?_ 8 _ rfl; (with_reducible repeat (first | refine blk_drewN ?_ _ | refine blk_drew ?_ | refine blk_alloc ?_ _)); refine blk_put (cs := #[.int .u8 t359, .int .u8 t360, .int .u8 t361, .int .u8 t362, .int .i8 t363, .int .i8 t364, .int .u32 t365, .int .u32 0, .int .u32 0, .int .u64 0, .int .u64 0, .int .u64 0, .int .u64 0]) ?_ 7 _ rfl; (with_reducible repeat (first | refine blk_drewN ?_ _ | refine blk_drew ?_ | refine blk_alloc ?_ _)); refine blk_put (cs := #[.int .u8 t359, .int .u8 t360, .int .u8 t361, .int .u8 t362, .int .i8 t363, .int .i8 t364, .int .u32 0, .int .u32 0, .int .u32 0, .int .u64 0, .int .u64 0, .int .u64 0, .int .u64 0]) ?_ 6 _ rfl; (with_reducible repeat (first | refine blk_drewN ?_ _ | refine blk_drew ?_ | refine blk_alloc ?_ _)); refine blk_put (cs := #[.int .u8 t359, .int .u8 t360, .int .u8 t361, .int .u8 t362, .int .i8 t363, .int .i8 0, .int .u32 0, .int .u32 0, .int .u32 0, .int .u64 0, .int .u64 0, .int .u64 0, .int .u64 0]) ?_ 5 _ rfl; (with_reducible repeat (first | refine blk_drewN ?_ _ | refine blk_drew ?_ | refine blk_alloc ?_ _)); refine blk_put (cs := #[.int .u8 t359, .int .u8 t360, .int .u8 t361, .int .u8 t362, .int .i8 0, .int .i8 0, .int .u32 0, .int .u32 0, .int .u32 0, .int .u64 0, .int .u64 0, .int .u64 0, .int .u64 0]) ?_ 4 _ rfl; (with_reducible repeat (first | refine blk_drewN ?_ _ | refine blk_drew ?_ | refine blk_alloc ?_ _)); refine blk_put (cs := #[.int .u8 t359, .int .u8 t360, .int .u8 t361, .int .u8 0, .int .i8 0, .int .i8 0, .int .u32 0, .int .u32 0, .int .u32 0, .int .u64 0, .int .u64 0, .int .u64 0, .int .u64 0]) ?_ 3 _ rfl; (with_reducible repeat (first | refine blk_drewN ?_ _ | refine blk_drew ?_ | refine blk_alloc ?_ _)); refine blk_put (cs := #[.int .u8 t359, .int .u8 t360, .int .u8 0, .int .u8 0, .int .i8 0, .int .i8 0, .int .u32 0, .int .u32 0, .int .u32 0, .int .u64 0, .int .u64 0, .int .u64 0, .int .u64 0]) ?_ 2 _ rfl; (with_reducible repeat (first | refine blk_drewN ?_ _ | refine blk_drew ?_ | refine blk_alloc ?_ _)); refine blk_put (cs := #[.int .u8 t359, .int .u8 0, .int .u8 0, .int .u8 0, .int .i8 0, .int .i8 0, .int .u32 0, .int .u32 0, .int .u32 0, .int .u64 0, .int .u64 0, .int .u64 0, .int .u64 0]) ?_ 1 _ rfl; (with_reducible repeat (first | refine blk_drewN ?_ _ | refine blk_drew ?_ | refine blk_alloc ?_ _)); refine blk_put (cs := #[.int .u8 0, .int .u8 0, .int .u8 0, .int .u8 0, .int .i8 0, .int .i8 0, .int .u32 0, .int .u32 0, .int .u32 0, .int .u64 0, .int .u64 0, .int .u64 0, .int .u64 0]) ?_ 0 _ rfl; (with_reducible repeat (first | refine blk_drewN ?_ _ | refine blk_drew ?_ | refine blk_alloc ?_ _)); exact BK373.out) hb); have n2_ := Aside0.mk (below_step (by repeat (first | (with_reducible first | exact HB.out | apply below_alloc | apply pw_below_drewN | apply below_drew1 | refine below_set ?_ GE310.out | refine below_set ?_ GE373.out) | exact HB.out)) hb); clear BK310; clear BK373; clear HB; have BK310 := n0_; have BK373 := n1_; have HB := n2_; clear n0_ n1_ n2_; (try clear hb); (try clear hb2); (try clear hk); (try clear hi)))
                  go_ret
                  exact ⟨by first | rfl | (simp [errW_none, errW_some] <;> rfl) | (simp [*, errW_none, errW_some] <;> rfl), by repeat (first | (with_reducible first | exact HB.out | apply below_alloc | apply pw_below_drewN | apply below_drew1 | refine below_set ?_ GE310.out | refine below_set ?_ GE373.out) | exact HB.out)⟩
              · replace c94 := Bool.eq_false_iff.mpr c94
                subst c94
                have H1 : (some false) = some r := by rw [if_neg (show ¬ (false = true) by decide)] at H; exact H
                clear H
                have H := H1
                clear H1
                obtain rfl := Option.some.inj H
                go_wp2_with (first | ((with_reducible refine gate_callee (f := 15) rfl ?_); refine goesL_ (some 64) rfl rfl Try.func15 (by kernel_rfl) rfl #[.slice A1 l1.length c1] rfl (by (try simp only [List.map_toArray, List.map_cons, List.map_nil]); first | done | rfl | (simp only [List.length_drop, List.length_take]; rfl)) ?_; (with_reducible refine (packet_Get.calls kj10 _ _ l1 t359 t360 t361 t362 t363 t364 t365 t366 t367 t368 t369 t370 t371 t372 _ ?side1 ?side2 A53.out).mono ?_); (case side1 => repeat (first | exact (Kd.C_below HR1.out HB.out) | (with_reducible refine Kd.C_alloc ?_ _) | (with_reducible refine Kd.C_drewN ?_ _) | (with_reducible refine Kd.C_drew ?_))); (case side2 => exact HC1.out); rintro e w106 ⟨rfl, hb⟩; refine ⟨_, rfl, ?_⟩; have n0_ := Aside0.mk (blk_below (g := gb310) (o := .cells #[.int .u8 a0_0, .int .u8 a0_1, .int .u8 a0_2, .int .u8 a0_3, .int .i8 a0_4, .int .i8 a0_5, .int .u32 a0_6, .int .u32 a0_7, .int .u32 a0_8, .int .u64 a0_9, .int .u64 a0_10, .int .u64 a0_11, .int .u64 a0_12] 26 (0, 0)) (by (with_reducible repeat (first | refine blk_drewN ?_ _ | refine blk_drew ?_ | refine blk_alloc ?_ _)); exact BK310.out) hb); have n1_ := Aside0.mk (below_step (by repeat (first | (with_reducible first | exact HB.out | apply below_alloc | apply pw_below_drewN | apply below_drew1 | refine below_set ?_ GE310.out) | exact HB.out)) hb); clear BK310; clear HB; have BK310 := n0_; have HB := n1_; clear n0_ n1_; (try clear hb); (try clear hb2); (try clear hk); (try clear hi)) | ((with_reducible refine gate_dst (N := 13) rfl ?_); (try (refine gate_guard (by rfl) ?_; dsimp only)); refine box_event ?hg (N := 13) ?hd (cs := #[.int .u8 0, .int .u8 0, .int .u8 0, .int .u8 0, .int .i8 0, .int .i8 0, .int .u32 0, .int .u32 0, .int .u32 0, .int .u64 0, .int .u64 0, .int .u64 0, .int .u64 0]) (t := 26) ?hr ?_; (case hd => rfl); (case hg => rfl); (case hr => first | (go_simp; done) | (go_simp; rfl)); intro gb373 hg w107 hbox hb; have n0_ := Aside0.mk (blk_below (g := gb310) (o := .cells #[.int .u8 a0_0, .int .u8 a0_1, .int .u8 a0_2, .int .u8 a0_3, .int .i8 a0_4, .int .i8 a0_5, .int .u32 a0_6, .int .u32 a0_7, .int .u32 a0_8, .int .u64 a0_9, .int .u64 a0_10, .int .u64 a0_11, .int .u64 a0_12] 26 (0, 0)) (by (with_reducible repeat (first | refine blk_drewN ?_ _ | refine blk_drew ?_ | refine blk_alloc ?_ _)); exact BK310.out) hb); have n1_ := Aside0.mk (below_step (by repeat (first | (with_reducible first | exact HB.out | apply below_alloc | apply pw_below_drewN | apply below_drew1 | refine below_set ?_ GE310.out) | exact HB.out)) hb); have n2_ := Aside0.mk (hbox); have n3_ := Aside0.mk ((by rw [hg]; exact (below_size (by repeat (first | (with_reducible first | exact HB.out | apply below_alloc | apply pw_below_drewN | apply below_drew1 | refine below_set ?_ GE310.out) | exact HB.out))) : w.heap.size ≤ gb373)); have n4_ := Aside0.mk ((by rw [hg]; exact (below_size (by repeat (first | (with_reducible first | exact HB.out | apply below_alloc | apply pw_below_drewN | apply below_drew1 | refine below_set ?_ GE310.out) | exact HB.out))) : w.heap.size ≤ gb373)); have n5_ := Aside0.mk ((by rw [hg]; exact Nat.ne_of_lt (blk_lt (g := gb310) (o := .cells #[.int .u8 a0_0, .int .u8 a0_1, .int .u8 a0_2, .int .u8 a0_3, .int .i8 a0_4, .int .i8 a0_5, .int .u32 a0_6, .int .u32 a0_7, .int .u32 a0_8, .int .u64 a0_9, .int .u64 a0_10, .int .u64 a0_11, .int .u64 a0_12] 26 (0, 0)) (by (with_reducible repeat (first | refine blk_drewN ?_ _ | refine blk_drew ?_ | refine blk_alloc ?_ _)); exact BK310.out)) : gb310 ≠ gb373)); have n6_ := Aside0.mk ((by rw [hg]; exact Nat.ne_of_gt (blk_lt (g := gb310) (o := .cells #[.int .u8 a0_0, .int .u8 a0_1, .int .u8 a0_2, .int .u8 a0_3, .int .i8 a0_4, .int .i8 a0_5, .int .u32 a0_6, .int .u32 a0_7, .int .u32 a0_8, .int .u64 a0_9, .int .u64 a0_10, .int .u64 a0_11, .int .u64 a0_12] 26 (0, 0)) (by (with_reducible repeat (first | refine blk_drewN ?_ _ | refine blk_drew ?_ | refine blk_alloc ?_ _)); exact BK310.out)) : gb373 ≠ gb310)); clear BK310; clear HB; have BK310 := n0_; have HB := n1_; have BK373 := n2_; have GW373 := n3_; have GE373 := n4_; have NB310_373 := n5_; have NB373_310 := n6_; clear n0_ n1_ n2_ n3_ n4_ n5_ n6_; clear hb hbox hg; have hnb108 := NB373_310.out; have hnc108 := NB310_373.out; have hcz109_0 : w107.cell? ⟨gb373, 0, none⟩ = some (.int .u8 0) := (blk_cell BK373.out 0).trans rfl; have hcz109_1 : w107.cell? ⟨gb373, 1, none⟩ = some (.int .u8 0) := (blk_cell BK373.out 1).trans rfl; have hcz109_2 : w107.cell? ⟨gb373, 2, none⟩ = some (.int .u8 0) := (blk_cell BK373.out 2).trans rfl; have hcz109_3 : w107.cell? ⟨gb373, 3, none⟩ = some (.int .u8 0) := (blk_cell BK373.out 3).trans rfl; have hcz109_4 : w107.cell? ⟨gb373, 4, none⟩ = some (.int .i8 0) := (blk_cell BK373.out 4).trans rfl; have hcz109_5 : w107.cell? ⟨gb373, 5, none⟩ = some (.int .i8 0) := (blk_cell BK373.out 5).trans rfl; have hcz109_6 : w107.cell? ⟨gb373, 6, none⟩ = some (.int .u32 0) := (blk_cell BK373.out 6).trans rfl; have hcz109_7 : w107.cell? ⟨gb373, 7, none⟩ = some (.int .u32 0) := (blk_cell BK373.out 7).trans rfl; have hcz109_8 : w107.cell? ⟨gb373, 8, none⟩ = some (.int .u32 0) := (blk_cell BK373.out 8).trans rfl; have hcz109_9 : w107.cell? ⟨gb373, 9, none⟩ = some (.int .u64 0) := (blk_cell BK373.out 9).trans rfl; have hcz109_10 : w107.cell? ⟨gb373, 10, none⟩ = some (.int .u64 0) := (blk_cell BK373.out 10).trans rfl; have hcz109_11 : w107.cell? ⟨gb373, 11, none⟩ = some (.int .u64 0) := (blk_cell BK373.out 11).trans rfl; have hcz109_12 : w107.cell? ⟨gb373, 12, none⟩ = some (.int .u64 0) := (blk_cell BK373.out 12).trans rfl; have hfz109_0 := blk_frozen BK373.out 0; have hfz109_1 := blk_frozen BK373.out 1; have hfz109_2 := blk_frozen BK373.out 2; have hfz109_3 := blk_frozen BK373.out 3; have hfz109_4 := blk_frozen BK373.out 4; have hfz109_5 := blk_frozen BK373.out 5; have hfz109_6 := blk_frozen BK373.out 6; have hfz109_7 := blk_frozen BK373.out 7; have hfz109_8 := blk_frozen BK373.out 8; have hfz109_9 := blk_frozen BK373.out 9; have hfz109_10 := blk_frozen BK373.out 10; have hfz109_11 := blk_frozen BK373.out 11; have hfz109_12 := blk_frozen BK373.out 12) | ((with_reducible refine gate_callee (f := 12) rfl ?_); refine goesL_ (some 69) rfl rfl Try.func12 (by kernel_rfl) rfl #[] rfl (by (try simp only [List.map_toArray, List.map_cons, List.map_nil]); first | done | rfl | (simp only [List.length_drop, List.length_take]; rfl)) ?_; (with_reducible refine (chronobatelaw03_alive.calls kj10  false _ A93.out).mono ?_); rintro e w110 ⟨rfl, hb⟩; refine ⟨_, rfl, ?_⟩; have n0_ := Aside0.mk (blk_below (g := gb310) (o := .cells #[.int .u8 a0_0, .int .u8 a0_1, .int .u8 a0_2, .int .u8 a0_3, .int .i8 a0_4, .int .i8 a0_5, .int .u32 a0_6, .int .u32 a0_7, .int .u32 a0_8, .int .u64 a0_9, .int .u64 a0_10, .int .u64 a0_11, .int .u64 a0_12] 26 (0, 0)) (by (with_reducible repeat (first | refine blk_drewN ?_ _ | refine blk_drew ?_ | refine blk_alloc ?_ _)); refine blk_far ?_ NB310_373.out _; (with_reducible repeat (first | refine blk_drewN ?_ _ | refine blk_drew ?_ | refine blk_alloc ?_ _)); refine blk_far ?_ NB310_373.out _; (with_reducible repeat (first | refine blk_drewN ?_ _ | refine blk_drew ?_ | refine blk_alloc ?_ _)); refine blk_far ?_ NB310_373.out _; (with_reducible repeat (first | refine blk_drewN ?_ _ | refine blk_drew ?_ | refine blk_alloc ?_ _)); refine blk_far ?_ NB310_373.out _; (with_reducible repeat (first | refine blk_drewN ?_ _ | refine blk_drew ?_ | refine blk_alloc ?_ _)); refine blk_far ?_ NB310_373.out _; (with_reducible repeat (first | refine blk_drewN ?_ _ | refine blk_drew ?_ | refine blk_alloc ?_ _)); refine blk_far ?_ NB310_373.out _; (with_reducible repeat (first | refine blk_drewN ?_ _ | refine blk_drew ?_ | refine blk_alloc ?_ _)); refine blk_far ?_ NB310_373.out _; (with_reducible repeat (first | refine blk_drewN ?_ _ | refine blk_drew ?_ | refine blk_alloc ?_ _)); refine blk_far ?_ NB310_373.out _; (with_reducible repeat (first | refine blk_drewN ?_ _ | refine blk_drew ?_ | refine blk_alloc ?_ _)); refine blk_far ?_ NB310_373.out _; (with_reducible repeat (first | refine blk_drewN ?_ _ | refine blk_drew ?_ | refine blk_alloc ?_ _)); refine blk_far ?_ NB310_373.out _; (with_reducible repeat (first | refine blk_drewN ?_ _ | refine blk_drew ?_ | refine blk_alloc ?_ _)); refine blk_far ?_ NB310_373.out _; (with_reducible repeat (first | refine blk_drewN ?_ _ | refine blk_drew ?_ | refine blk_alloc ?_ _)); refine blk_far ?_ NB310_373.out _; (with_reducible repeat (first | refine blk_drewN ?_ _ | refine blk_drew ?_ | refine blk_alloc ?_ _)); refine blk_far ?_ NB310_373.out _; (with_reducible repeat (first | refine blk_drewN ?_ _ | refine blk_drew ?_ | refine blk_alloc ?_ _)); exact BK310.out) hb); have n1_ := Aside0.mk (blk_below (g := gb373) (o := .cells #[.int .u8 t359, .int .u8 t360, .int .u8 t361, .int .u8 t362, .int .i8 t363, .int .i8 t364, .int .u32 t365, .int .u32 t366, .int .u32 t367, .int .u64 t368, .int .u64 t369, .int .u64 t370, .int .u64 t371] 26 (0, 0)) (by (with_reducible repeat (first | refine blk_drewN ?_ _ | refine blk_drew ?_ | refine blk_alloc ?_ _)); refine blk_put (cs := #[.int .u8 t359, .int .u8 t360, .int .u8 t361, .int .u8 t362, .int .i8 t363, .int .i8 t364, .int .u32 t365, .int .u32 t366, .int .u32 t367, .int .u64 t368, .int .u64 t369, .int .u64 t370, .int .u64 0]) ?_ 12 _ rfl; (with_reducible repeat (first | refine blk_drewN ?_ _ | refine blk_drew ?_ | refine blk_alloc ?_ _)); refine blk_put (cs := #[.int .u8 t359, .int .u8 t360, .int .u8 t361, .int .u8 t362, .int .i8 t363, .int .i8 t364, .int .u32 t365, .int .u32 t366, .int .u32 t367, .int .u64 t368, .int .u64 t369, .int .u64 0, .int .u64 0]) ?_ 11 _ rfl; (with_reducible repeat (first | refine blk_drewN ?_ _ | refine blk_drew ?_ | refine blk_alloc ?_ _)); refine blk_put (cs := #[.int .u8 t359, .int .u8 t360, .int .u8 t361, .int .u8 t362, .int .i8 t363, .int .i8 t364, .int .u32 t365, .int .u32 t366, .int .u32 t367, .int .u64 t368, .int .u64 0, .int .u64 0, .int .u64 0]) ?_ 10 _ rfl; (with_reducible repeat (first | refine blk_drewN ?_ _ | refine blk_drew ?_ | refine blk_alloc ?_ _)); refine blk_put (cs := #[.int .u8 t359, .int .u8 t360, .int .u8 t361, .int .u8 t362, .int .i8 t363, .int .i8 t364, .int .u32 t365, .int .u32 t366, .int .u32 t367, .int .u64 0, .int .u64 0, .int .u64 0, .int .u64 0]) ?_ 9 _ rfl; (with_reducible repeat (first | refine blk_drewN ?_ _ | refine blk_drew ?_ | refine blk_alloc ?_ _)); refine blk_put (cs := #[.int .u8 t359, .int .u8 t360, .int .u8 t361, .int .u8 t362, .int .i8 t363, .int .i8 t364, .int .u32 t365, .int .u32 t366, .int .u32 0, .int .u64 0, .int .u64 0, .int .u64 0, .int .u64 0]) ?_ 8 _ rfl; (with_reducible repeat (first | refine blk_drewN ?_ _ | refine blk_drew ?_ | refine blk_alloc ?_ _)); refine blk_put (cs := #[.int .u8 t359, .int .u8 t360, .int .u8 t361, .int .u8 t362, .int .i8 t363, .int .i8 t364, .int .u32 t365, .int .u32 0, .int .u32 0, .int .u64 0, .int .u64 0, .int .u64 0, .int .u64 0]) ?_ 7 _ rfl; (with_reducible repeat (first | refine blk_drewN ?_ _ | refine blk_drew ?_ | refine blk_alloc ?_ _)); refine blk_put (cs := #[.int .u8 t359, .int .u8 t360, .int .u8 t361, .int .u8 t362, .int .i8 t363, .int .i8 t364, .int .u32 0, .int .u32 0, .int .u32 0, .int .u64 0, .int .u64 0, .int .u64 0, .int .u64 0]) ?_ 6 _ rfl; (with_reducible repeat (first | refine blk_drewN ?_ _ | refine blk_drew ?_ | refine blk_alloc ?_ _)); refine blk_put (cs := #[.int .u8 t359, .int .u8 t360, .int .u8 t361, .int .u8 t362, .int .i8 t363, .int .i8 0, .int .u32 0, .int .u32 0, .int .u32 0, .int .u64 0, .int .u64 0, .int .u64 0, .int .u64 0]) ?_ 5 _ rfl; (with_reducible repeat (first | refine blk_drewN ?_ _ | refine blk_drew ?_ | refine blk_alloc ?_ _)); refine blk_put (cs := #[.int .u8 t359, .int .u8 t360, .int .u8 t361, .int .u8 t362, .int .i8 0, .int .i8 0, .int .u32 0, .int .u32 0, .int .u32 0, .int .u64 0, .int .u64 0, .int .u64 0, .int .u64 0]) ?_ 4 _ rfl; (with_reducible repeat (first | refine blk_drewN ?_ _ | refine blk_drew ?_ | refine blk_alloc ?_ _)); refine blk_put (cs := #[.int .u8 t359, .int .u8 t360, .int .u8 t361, .int .u8 0, .int .i8 0, .int .i8 0, .int .u32 0, .int .u32 0, .int .u32 0, .int .u64 0, .int .u64 0, .int .u64 0, .int .u64 0]) ?_ 3 _ rfl; (with_reducible repeat (first | refine blk_drewN ?_ _ | refine blk_drew ?_ | refine blk_alloc ?_ _)); refine blk_put (cs := #[.int .u8 t359, .int .u8 t360, .int .u8 0, .int .u8 0, .int .i8 0, .int .i8 0, .int .u32 0, .int .u32 0, .int .u32 0, .int .u64 0, .int .u64 0, .int .u64 0, .int .u64 0]) ?_ 2 _ rfl; (with_reducible repeat (first | refine blk_drewN ?_ _ | refine blk_drew ?_ | refine blk_alloc ?_ _)); refine blk_put (cs := #[.int .u8 t359, .int .u8 0, .int .u8 0, .int .u8 0, .int .i8 0, .int .i8 0, .int .u32 0, .int .u32 0, .int .u32 0, .int .u64 0, .int .u64 0, .int .u64 0, .int .u64 0]) ?_ 1 _ rfl; (with_reducible repeat (first | refine blk_drewN ?_ _ | refine blk_drew ?_ | refine blk_alloc ?_ _)); refine blk_put (cs := #[.int .u8 0, .int .u8 0, .int .u8 0, .int .u8 0, .int .i8 0, .int .i8 0, .int .u32 0, .int .u32 0, .int .u32 0, .int .u64 0, .int .u64 0, .int .u64 0, .int .u64 0]) ?_ 0 _ rfl; (with_reducible repeat (first | refine blk_drewN ?_ _ | refine blk_drew ?_ | refine blk_alloc ?_ _)); exact BK373.out) hb); have n2_ := Aside0.mk (below_step (by repeat (first | (with_reducible first | exact HB.out | apply below_alloc | apply pw_below_drewN | apply below_drew1 | refine below_set ?_ GE310.out | refine below_set ?_ GE373.out) | exact HB.out)) hb); clear BK310; clear BK373; clear HB; have BK310 := n0_; have BK373 := n1_; have HB := n2_; clear n0_ n1_ n2_; (try clear hb); (try clear hb2); (try clear hk); (try clear hi)))
                go_ret
                exact ⟨by first | rfl | (simp [errW_none, errW_some] <;> rfl) | (simp [*, errW_none, errW_some] <;> rfl), by repeat (first | (with_reducible first | exact HB.out | apply below_alloc | apply pw_below_drewN | apply below_drew1 | refine below_set ?_ GE310.out | refine below_set ?_ GE373.out) | exact HB.out)⟩

end Go.Proofs.Ytingjmdilglgaaa.G
