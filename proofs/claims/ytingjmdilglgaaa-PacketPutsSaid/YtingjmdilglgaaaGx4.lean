-- Written by a program of this session out of the translation (wip/patch_print.py, wip/print2.sh). Lean checks it.
import Derived.Test.YtingjmdilglgaaaGx0
import Derived.Test.YtingjmdilglgaaaGx2
import Derived.Test.YtingjmdilglgaaaGx3
namespace Go.Proofs.Ytingjmdilglgaaa.G
open Go.RowKit Go.Proofs.YtingjmdilglgaaaW.PrintWords Go.Proofs.YtingjmdilglgaaaW.PrintLast Go.Proofs.YtingjmdilglgaaaW.PrintMore
attribute [local go_sem] max2_int min2_int max_two min_two max_three min_three max_four min_four   -- for this text's walks alone
set_option linter.unusedVariables false
set_option linter.unusedSimpArgs false

/-! ### chronobatelaw03_PacketPuts: function 3 -/
def chronobatelaw03_PacketPuts.j0 : Nat → List Int → Int → Bool → Int → Int → Int → Int → Int → Int → Int → Int → Int → Int → Int → Int → Int → Option (Bool)
  | 0, _, _, _, _, _, _, _, _, _, _, _, _, _, _, _, _ => none
  | k + 1, x3, x5, x21, x171000, x171001, x171002, x171003, x171004, x171005, x171006, x171007, x171008, x171009, x171010, x171011, x171012 => if x21 = true then (some false) else (if x5 = 0 then ((chronobatelaw03_alive.f k).bind fun t177 => (if t177 = true then ((chronobateref03_Put.f k x171000 x171001 x171002 x171003 x171004 x171005 x171006 x171007 x171008 x171009 x171010 x171011 x171012).bind fun t178 => (some ((strOfNums x3).toList == (strOfNums t178).toList))) else (some false))) else ((chronobatelaw03_alive.f k).bind fun t181 => (if t181 = true then (some ((x3.length : Int) == 0)) else (some false))))
def chronobatelaw03_PacketPuts.f (k : Nat) (a0_0 : Int) (a0_1 : Int) (a0_2 : Int) (a0_3 : Int) (a0_4 : Int) (a0_5 : Int) (a0_6 : Int) (a0_7 : Int) (a0_8 : Int) (a0_9 : Int) (a0_10 : Int) (a0_11 : Int) (a0_12 : Int) : Option (Bool) := (packet_Put.f k a0_0 a0_1 a0_2 a0_3 a0_4 a0_5 a0_6 a0_7 a0_8 a0_9 a0_10 a0_11 a0_12).bind fun bt171 => ((chronobateref03_Check.f a0_0 a0_1 a0_2 a0_3 a0_4 a0_5 a0_6 a0_7 a0_8 a0_9 a0_10 a0_11 a0_12).bind fun t175 => (if bt171.2 = t175 then ((packet_Check.f a0_0 a0_1 a0_2 a0_3 a0_4 a0_5 a0_6 a0_7 a0_8 a0_9 a0_10 a0_11 a0_12).bind fun t176 => (chronobatelaw03_PacketPuts.j0 k bt171.1 t175 (t176 != t175) a0_0 a0_1 a0_2 a0_3 a0_4 a0_5 a0_6 a0_7 a0_8 a0_9 a0_10 a0_11 a0_12)) else (chronobatelaw03_PacketPuts.j0 k bt171.1 t175 true a0_0 a0_1 a0_2 a0_3 a0_4 a0_5 a0_6 a0_7 a0_8 a0_9 a0_10 a0_11 a0_12)))
theorem chronobatelaw03_PacketPuts.mono_l : ∀ k, (∀ y0 y1 y2 y3 y4 y5 y6 y7 y8 y9 y10 y11 y12 y13 y14 y15, LeO (chronobatelaw03_PacketPuts.j0 k y0 y1 y2 y3 y4 y5 y6 y7 y8 y9 y10 y11 y12 y13 y14 y15) (chronobatelaw03_PacketPuts.j0 (k + 1) y0 y1 y2 y3 y4 y5 y6 y7 y8 y9 y10 y11 y12 y13 y14 y15))
  | 0 => fun _ _ _ _ _ _ _ _ _ _ _ _ _ _ _ _ r h => by simp [chronobatelaw03_PacketPuts.j0] at h
  | k + 1 => by
    have ih0 := chronobatelaw03_PacketPuts.mono_l k
    · intro y0 y1 y2 y3 y4 y5 y6 y7 y8 y9 y10 y11 y12 y13 y14 y15
      unfold chronobatelaw03_PacketPuts.j0
      repeat' first
      | (with_reducible exact ih0 _ _ _ _ _ _ _ _ _ _ _ _ _ _ _ _)
      | (with_reducible exact chronobatelaw03_alive.mono _)
      | (with_reducible exact chronobateref03_Put.mono _ _ _ _ _ _ _ _ _ _ _ _ _ _)
      | (with_reducible exact packet_Put.mono _ _ _ _ _ _ _ _ _ _ _ _ _ _)
      | (with_reducible exact LeO.refl _)
      | (with_reducible exact LeO.none _)
      | (with_reducible refine LeO.ite ?_ ?_)
      | (with_reducible refine LeO.bind ?_ (fun _ => ?_))
      | exact ih0 _ _ _ _ _ _ _ _ _ _ _ _ _ _ _ _
      | exact chronobatelaw03_alive.mono _
      | exact chronobateref03_Put.mono _ _ _ _ _ _ _ _ _ _ _ _ _ _
      | exact packet_Put.mono _ _ _ _ _ _ _ _ _ _ _ _ _ _
      | exact LeO.none _
      | refine LeO.ite ?_ ?_
      | refine LeO.bind ?_ (fun _ => ?_)
theorem chronobatelaw03_PacketPuts.mono : ∀ a0 a1 a2 a3 a4 a5 a6 a7 a8 a9 a10 a11 a12 k, LeO (chronobatelaw03_PacketPuts.f k a0 a1 a2 a3 a4 a5 a6 a7 a8 a9 a10 a11 a12) (chronobatelaw03_PacketPuts.f (k + 1) a0 a1 a2 a3 a4 a5 a6 a7 a8 a9 a10 a11 a12) := by
  intro a0 a1 a2 a3 a4 a5 a6 a7 a8 a9 a10 a11 a12 k
  have ih0 := chronobatelaw03_PacketPuts.mono_l k
  unfold chronobatelaw03_PacketPuts.f
  repeat' first
      | (with_reducible exact ih0 _ _ _ _ _ _ _ _ _ _ _ _ _ _ _ _)
      | (with_reducible exact chronobatelaw03_alive.mono _)
      | (with_reducible exact chronobateref03_Put.mono _ _ _ _ _ _ _ _ _ _ _ _ _ _)
      | (with_reducible exact packet_Put.mono _ _ _ _ _ _ _ _ _ _ _ _ _ _)
      | (with_reducible exact LeO.refl _)
      | (with_reducible exact LeO.none _)
      | (with_reducible refine LeO.ite ?_ ?_)
      | (with_reducible refine LeO.bind ?_ (fun _ => ?_))
      | exact ih0 _ _ _ _ _ _ _ _ _ _ _ _ _ _ _ _
      | exact chronobatelaw03_alive.mono _
      | exact chronobateref03_Put.mono _ _ _ _ _ _ _ _ _ _ _ _ _ _
      | exact packet_Put.mono _ _ _ _ _ _ _ _ _ _ _ _ _ _
      | exact LeO.none _
      | refine LeO.ite ?_ ?_
      | refine LeO.bind ?_ (fun _ => ?_)
def chronobatelaw03_PacketPuts.T7 : Bool × List (List Nat × List Nat) := (true, [([], []), ([0, 0], [0]), ([1], [1]), ([2, 1], [1, 2]), ([1], [1]), ([4, 1, 1], [1, 4]), ([5, 1], [1, 5]), ([3, 6, 1], [1, 3, 6]), ([1, 7], [1, 7]), ([8, 5, 0, 1, 2, 3, 4, 5, 6, 7, 8], [8])])
def chronobatelaw03_PacketPuts.B7 : List Nat := [0, 1, 3, 7, 3, 19, 51, 127, 255, 511]
theorem chronobatelaw03_PacketPuts.tab7 : rtab .any (opsOf Try.f3 7) = chronobatelaw03_PacketPuts.T7 := by kernel_rfl
theorem chronobatelaw03_PacketPuts.bits7 : waitsOk chronobatelaw03_PacketPuts.T7.2 chronobatelaw03_PacketPuts.B7 = true := by kernel_rfl
set_option maxHeartbeats 8000000 in
set_option maxRecDepth 100000 in
theorem chronobatelaw03_PacketPuts.calls (k : Nat) (a0_0 : Int) (a0_1 : Int) (a0_2 : Int) (a0_3 : Int) (a0_4 : Int) (a0_5 : Int) (a0_6 : Int) (a0_7 : Int) (a0_8 : Int) (a0_9 : Int) (a0_10 : Int) (a0_11 : Int) (a0_12 : Int) (r : Bool) (w : World) (h : chronobatelaw03_PacketPuts.f k a0_0 a0_1 a0_2 a0_3 a0_4 a0_5 a0_6 a0_7 a0_8 a0_9 a0_10 a0_11 a0_12 = some r) :
    Calls Try.prog 3 #[.agg #[.int .u8 a0_0, .int .u8 a0_1, .int .u8 a0_2, .int .u8 a0_3, .int .i8 a0_4, .int .i8 a0_5, .int .u32 a0_6, .int .u32 a0_7, .int .u32 a0_8, .int .u64 a0_9, .int .u64 a0_10, .int .u64 a0_11, .int .u64 a0_12]] w fun e w' => e = .returned (.bool r) ∧ Below w.heap.size w w' := by
  have hu26 := Try.underlying26
  have HB := Aside0.mk (Below.refl w.heap.size w)
  have H : ((packet_Put.f k a0_0 a0_1 a0_2 a0_3 a0_4 a0_5 a0_6 a0_7 a0_8 a0_9 a0_10 a0_11 a0_12).bind fun bt171 => ((chronobateref03_Check.f a0_0 a0_1 a0_2 a0_3 a0_4 a0_5 a0_6 a0_7 a0_8 a0_9 a0_10 a0_11 a0_12).bind fun t175 => (if bt171.2 = t175 then ((packet_Check.f a0_0 a0_1 a0_2 a0_3 a0_4 a0_5 a0_6 a0_7 a0_8 a0_9 a0_10 a0_11 a0_12).bind fun t176 => (chronobatelaw03_PacketPuts.j0 k bt171.1 t175 (t176 != t175) a0_0 a0_1 a0_2 a0_3 a0_4 a0_5 a0_6 a0_7 a0_8 a0_9 a0_10 a0_11 a0_12)) else (chronobatelaw03_PacketPuts.j0 k bt171.1 t175 true a0_0 a0_1 a0_2 a0_3 a0_4 a0_5 a0_6 a0_7 a0_8 a0_9 a0_10 a0_11 a0_12)))) = some r := h
  clear h
  replace H := Option.bind_eq_some_iff.mp H
  obtain ⟨⟨t171, t174⟩, A20, H⟩ := H
  replace H : ((chronobateref03_Check.f a0_0 a0_1 a0_2 a0_3 a0_4 a0_5 a0_6 a0_7 a0_8 a0_9 a0_10 a0_11 a0_12).bind fun t175 => (if t174 = t175 then ((packet_Check.f a0_0 a0_1 a0_2 a0_3 a0_4 a0_5 a0_6 a0_7 a0_8 a0_9 a0_10 a0_11 a0_12).bind fun t176 => (chronobatelaw03_PacketPuts.j0 k t171 t175 (t176 != t175) a0_0 a0_1 a0_2 a0_3 a0_4 a0_5 a0_6 a0_7 a0_8 a0_9 a0_10 a0_11 a0_12)) else (chronobatelaw03_PacketPuts.j0 k t171 t175 true a0_0 a0_1 a0_2 a0_3 a0_4 a0_5 a0_6 a0_7 a0_8 a0_9 a0_10 a0_11 a0_12))) = some r := H
  have A2 := Aside0.mk A20
  clear A20
  replace H := Option.bind_eq_some_iff.mp H
  obtain ⟨t175, A30, H⟩ := H
  replace H : (if t174 = t175 then ((packet_Check.f a0_0 a0_1 a0_2 a0_3 a0_4 a0_5 a0_6 a0_7 a0_8 a0_9 a0_10 a0_11 a0_12).bind fun t176 => (chronobatelaw03_PacketPuts.j0 k t171 t175 (t176 != t175) a0_0 a0_1 a0_2 a0_3 a0_4 a0_5 a0_6 a0_7 a0_8 a0_9 a0_10 a0_11 a0_12)) else (chronobatelaw03_PacketPuts.j0 k t171 t175 true a0_0 a0_1 a0_2 a0_3 a0_4 a0_5 a0_6 a0_7 a0_8 a0_9 a0_10 a0_11 a0_12)) = some r := H
  have A3 := Aside0.mk A30
  clear A30
  have HC4 := Aside0.mk H
  clear H
  go_enter Try.func3, Try.ntmps3
  go_upto_region 3 with (first | ((with_reducible refine gate_dst (N := 1) rfl ?_); (try (refine gate_guard (by rfl) ?_; dsimp only)); refine box_event ?hg (N := 1) ?hd (cs := #[.int .u8 a0_0, .int .u8 a0_1, .int .u8 a0_2, .int .u8 a0_3, .int .i8 a0_4, .int .i8 a0_5, .int .u32 a0_6, .int .u32 a0_7, .int .u32 a0_8, .int .u64 a0_9, .int .u64 a0_10, .int .u64 a0_11, .int .u64 a0_12]) (t := 26) ?hr ?_; (case hd => rfl); (case hg => rfl); (case hr => first | (go_simp; done) | (go_simp; rfl)); intro gb170 hg w5 hbox hb; have n0_ := Aside0.mk (below_step (by repeat (first | (with_reducible first | exact HB.out | apply below_alloc | apply pw_below_drewN | apply below_drew1) | exact HB.out)) hb); have n1_ := Aside0.mk (hbox); have n2_ := Aside0.mk ((by rw [hg]; exact (below_size (by repeat (first | (with_reducible first | exact HB.out | apply below_alloc | apply pw_below_drewN | apply below_drew1) | exact HB.out))) : w.heap.size ≤ gb170)); have n3_ := Aside0.mk ((by rw [hg]; exact (below_size (by repeat (first | (with_reducible first | exact HB.out | apply below_alloc | apply pw_below_drewN | apply below_drew1) | exact HB.out))) : w.heap.size ≤ gb170)); clear HB; have HB := n0_; have BK170 := n1_; have GW170 := n2_; have GE170 := n3_; clear n0_ n1_ n2_ n3_; clear hb hbox hg; have hcz6_0 : w5.cell? ⟨gb170, 0, none⟩ = some (.int .u8 a0_0) := (blk_cell BK170.out 0).trans rfl; have hcz6_1 : w5.cell? ⟨gb170, 1, none⟩ = some (.int .u8 a0_1) := (blk_cell BK170.out 1).trans rfl; have hcz6_2 : w5.cell? ⟨gb170, 2, none⟩ = some (.int .u8 a0_2) := (blk_cell BK170.out 2).trans rfl; have hcz6_3 : w5.cell? ⟨gb170, 3, none⟩ = some (.int .u8 a0_3) := (blk_cell BK170.out 3).trans rfl; have hcz6_4 : w5.cell? ⟨gb170, 4, none⟩ = some (.int .i8 a0_4) := (blk_cell BK170.out 4).trans rfl; have hcz6_5 : w5.cell? ⟨gb170, 5, none⟩ = some (.int .i8 a0_5) := (blk_cell BK170.out 5).trans rfl; have hcz6_6 : w5.cell? ⟨gb170, 6, none⟩ = some (.int .u32 a0_6) := (blk_cell BK170.out 6).trans rfl; have hcz6_7 : w5.cell? ⟨gb170, 7, none⟩ = some (.int .u32 a0_7) := (blk_cell BK170.out 7).trans rfl; have hcz6_8 : w5.cell? ⟨gb170, 8, none⟩ = some (.int .u32 a0_8) := (blk_cell BK170.out 8).trans rfl; have hcz6_9 : w5.cell? ⟨gb170, 9, none⟩ = some (.int .u64 a0_9) := (blk_cell BK170.out 9).trans rfl; have hcz6_10 : w5.cell? ⟨gb170, 10, none⟩ = some (.int .u64 a0_10) := (blk_cell BK170.out 10).trans rfl; have hcz6_11 : w5.cell? ⟨gb170, 11, none⟩ = some (.int .u64 a0_11) := (blk_cell BK170.out 11).trans rfl; have hcz6_12 : w5.cell? ⟨gb170, 12, none⟩ = some (.int .u64 a0_12) := (blk_cell BK170.out 12).trans rfl; have hfz6_0 := blk_frozen BK170.out 0; have hfz6_1 := blk_frozen BK170.out 1; have hfz6_2 := blk_frozen BK170.out 2; have hfz6_3 := blk_frozen BK170.out 3; have hfz6_4 := blk_frozen BK170.out 4; have hfz6_5 := blk_frozen BK170.out 5; have hfz6_6 := blk_frozen BK170.out 6; have hfz6_7 := blk_frozen BK170.out 7; have hfz6_8 := blk_frozen BK170.out 8; have hfz6_9 := blk_frozen BK170.out 9; have hfz6_10 := blk_frozen BK170.out 10; have hfz6_11 := blk_frozen BK170.out 11; have hfz6_12 := blk_frozen BK170.out 12) | ((with_reducible refine gate_callee (f := 9) rfl ?_); refine goesL_ (some 8) rfl rfl Try.func9 (by kernel_rfl) rfl #[.agg #[.int .u8 a0_0, .int .u8 a0_1, .int .u8 a0_2, .int .u8 a0_3, .int .i8 a0_4, .int .i8 a0_5, .int .u32 a0_6, .int .u32 a0_7, .int .u32 a0_8, .int .u64 a0_9, .int .u64 a0_10, .int .u64 a0_11, .int .u64 a0_12]] rfl (by (try simp only [List.map_toArray, List.map_cons, List.map_nil]); first | done | rfl | (simp only [List.length_drop, List.length_take]; rfl)) ?_; (with_reducible refine (packet_Put.calls k a0_0 a0_1 a0_2 a0_3 a0_4 a0_5 a0_6 a0_7 a0_8 a0_9 a0_10 a0_11 a0_12 t171 t174 _ A2.out).mono ?_); rintro e w7 ⟨v172, rfl, ho0, hb⟩; refine ⟨_, rfl, ?_⟩; have n0_ := Aside0.mk (Kd.R_lower ho0 (below_size (by repeat (first | (with_reducible first | exact HB.out | apply below_alloc | apply pw_below_drewN | apply below_drew1 | refine below_set ?_ GE170.out) | exact HB.out)))); have n1_ := Aside0.mk (blk_below (g := gb170) (o := .cells #[.int .u8 a0_0, .int .u8 a0_1, .int .u8 a0_2, .int .u8 a0_3, .int .i8 a0_4, .int .i8 a0_5, .int .u32 a0_6, .int .u32 a0_7, .int .u32 a0_8, .int .u64 a0_9, .int .u64 a0_10, .int .u64 a0_11, .int .u64 a0_12] 26 (0, 0)) (by (with_reducible repeat (first | refine blk_drewN ?_ _ | refine blk_drew ?_ | refine blk_alloc ?_ _)); exact BK170.out) hb); have n2_ := Aside0.mk (below_step (by repeat (first | (with_reducible first | exact HB.out | apply below_alloc | apply pw_below_drewN | apply below_drew1 | refine below_set ?_ GE170.out) | exact HB.out)) hb); clear BK170; clear HB; have HO173 := n0_; have BK170 := n1_; have HB := n2_; clear n0_ n1_ n2_; (try clear hb); (try clear hb2); (try clear hk); (try clear hi); (try clear ho0); have hcz8_0 : w7.cell? ⟨gb170, 0, none⟩ = some (.int .u8 a0_0) := (blk_cell BK170.out 0).trans rfl; have hcz8_1 : w7.cell? ⟨gb170, 1, none⟩ = some (.int .u8 a0_1) := (blk_cell BK170.out 1).trans rfl; have hcz8_2 : w7.cell? ⟨gb170, 2, none⟩ = some (.int .u8 a0_2) := (blk_cell BK170.out 2).trans rfl; have hcz8_3 : w7.cell? ⟨gb170, 3, none⟩ = some (.int .u8 a0_3) := (blk_cell BK170.out 3).trans rfl; have hcz8_4 : w7.cell? ⟨gb170, 4, none⟩ = some (.int .i8 a0_4) := (blk_cell BK170.out 4).trans rfl; have hcz8_5 : w7.cell? ⟨gb170, 5, none⟩ = some (.int .i8 a0_5) := (blk_cell BK170.out 5).trans rfl; have hcz8_6 : w7.cell? ⟨gb170, 6, none⟩ = some (.int .u32 a0_6) := (blk_cell BK170.out 6).trans rfl; have hcz8_7 : w7.cell? ⟨gb170, 7, none⟩ = some (.int .u32 a0_7) := (blk_cell BK170.out 7).trans rfl; have hcz8_8 : w7.cell? ⟨gb170, 8, none⟩ = some (.int .u32 a0_8) := (blk_cell BK170.out 8).trans rfl; have hcz8_9 : w7.cell? ⟨gb170, 9, none⟩ = some (.int .u64 a0_9) := (blk_cell BK170.out 9).trans rfl; have hcz8_10 : w7.cell? ⟨gb170, 10, none⟩ = some (.int .u64 a0_10) := (blk_cell BK170.out 10).trans rfl; have hcz8_11 : w7.cell? ⟨gb170, 11, none⟩ = some (.int .u64 a0_11) := (blk_cell BK170.out 11).trans rfl; have hcz8_12 : w7.cell? ⟨gb170, 12, none⟩ = some (.int .u64 a0_12) := (blk_cell BK170.out 12).trans rfl; have hfz8_0 := blk_frozen BK170.out 0; have hfz8_1 := blk_frozen BK170.out 1; have hfz8_2 := blk_frozen BK170.out 2; have hfz8_3 := blk_frozen BK170.out 3; have hfz8_4 := blk_frozen BK170.out 4; have hfz8_5 := blk_frozen BK170.out 5; have hfz8_6 := blk_frozen BK170.out 6; have hfz8_7 := blk_frozen BK170.out 7; have hfz8_8 := blk_frozen BK170.out 8; have hfz8_9 := blk_frozen BK170.out 9; have hfz8_10 := blk_frozen BK170.out 10; have hfz8_11 := blk_frozen BK170.out 11; have hfz8_12 := blk_frozen BK170.out 12) | ((with_reducible refine gate_callee (f := 10) rfl ?_); refine goesL_ (some 12) rfl rfl Try.func10 (by kernel_rfl) rfl #[.agg #[.int .u8 a0_0, .int .u8 a0_1, .int .u8 a0_2, .int .u8 a0_3, .int .i8 a0_4, .int .i8 a0_5, .int .u32 a0_6, .int .u32 a0_7, .int .u32 a0_8, .int .u64 a0_9, .int .u64 a0_10, .int .u64 a0_11, .int .u64 a0_12]] rfl (by (try simp only [List.map_toArray, List.map_cons, List.map_nil]); first | done | rfl | (simp only [List.length_drop, List.length_take]; rfl)) ?_; (with_reducible refine (chronobateref03_Check.calls a0_0 a0_1 a0_2 a0_3 a0_4 a0_5 a0_6 a0_7 a0_8 a0_9 a0_10 a0_11 a0_12 t175 _ A3.out).mono ?_); rintro e w9 ⟨rfl, hb⟩; refine ⟨_, rfl, ?_⟩; have n0_ := Aside0.mk (Kd.R_below (by (with_reducible repeat (first | apply Kd.R_alloc | apply Kd.R_drewN | apply Kd.R_drew)); exact HO173.out) hb); have n1_ := Aside0.mk (blk_below (g := gb170) (o := .cells #[.int .u8 a0_0, .int .u8 a0_1, .int .u8 a0_2, .int .u8 a0_3, .int .i8 a0_4, .int .i8 a0_5, .int .u32 a0_6, .int .u32 a0_7, .int .u32 a0_8, .int .u64 a0_9, .int .u64 a0_10, .int .u64 a0_11, .int .u64 a0_12] 26 (0, 0)) (by (with_reducible repeat (first | refine blk_drewN ?_ _ | refine blk_drew ?_ | refine blk_alloc ?_ _)); exact BK170.out) hb); have n2_ := Aside0.mk (below_step (by repeat (first | (with_reducible first | exact HB.out | apply below_alloc | apply pw_below_drewN | apply below_drew1 | refine below_set ?_ GE170.out) | exact HB.out)) hb); clear HO173; clear BK170; clear HB; have HO173 := n0_; have BK170 := n1_; have HB := n2_; clear n0_ n1_ n2_; (try clear hb); (try clear hb2); (try clear hk); (try clear hi)))
  (try simp only [Act.put, List.setIfInBounds_toArray, List.set_cons_zero, List.set_cons_succ])
  go_cut [21] (fun v21 wc => ∃ (kq : Nat) (x21_3 : Bool), v21 = .bool x21_3 ∧ Aside0 (chronobatelaw03_PacketPuts.j0 kq t171 t175 x21_3 a0_0 a0_1 a0_2 a0_3 a0_4 a0_5 a0_6 a0_7 a0_8 a0_9 a0_10 a0_11 a0_12 = some r) ∧ Aside0 (kq ≤ k) ∧ Aside0 (Kd.R (Kd.int .u8) 5 wc w.heap.size (fun _ => True) v172 t171) ∧ Aside0 (wc.heap[gb170]? = some (.cells #[.int .u8 a0_0, .int .u8 a0_1, .int .u8 a0_2, .int .u8 a0_3, .int .i8 a0_4, .int .i8 a0_5, .int .u32 a0_6, .int .u32 a0_7, .int .u32 a0_8, .int .u64 a0_9, .int .u64 a0_10, .int .u64 a0_11, .int .u64 a0_12] 26 (0, 0))) ∧ Aside0 (Below w.heap.size w wc))
  case first =>
    have H := HC4.out
    clear HC4
    by_cases c10 : t174 = t175
    · rw [if_pos c10] at H
      have c10b0 : (t174 == t175) = true := beq_iff_eq.mpr c10
      have c10b1 : (t174 != t175) = false := bne_eq_false_iff_eq.mpr c10
      clear c10
      (first | rw [c10b0] | (simp only [i64_w, i32_w]; rw [c10b0]) | skip)
      replace H := Option.bind_eq_some_iff.mp H
      obtain ⟨t176, A110, H⟩ := H
      replace H : (chronobatelaw03_PacketPuts.j0 k t171 t175 (t176 != t175) a0_0 a0_1 a0_2 a0_3 a0_4 a0_5 a0_6 a0_7 a0_8 a0_9 a0_10 a0_11 a0_12) = some r := H
      have A11 := Aside0.mk A110
      clear A110
      have H' := Aside0.mk H
      clear H
      have hcz12_0 : w9.cell? ⟨gb170, 0, none⟩ = some (.int .u8 a0_0) := (blk_cell BK170.out 0).trans rfl
      have hcz12_1 : w9.cell? ⟨gb170, 1, none⟩ = some (.int .u8 a0_1) := (blk_cell BK170.out 1).trans rfl
      have hcz12_2 : w9.cell? ⟨gb170, 2, none⟩ = some (.int .u8 a0_2) := (blk_cell BK170.out 2).trans rfl
      have hcz12_3 : w9.cell? ⟨gb170, 3, none⟩ = some (.int .u8 a0_3) := (blk_cell BK170.out 3).trans rfl
      have hcz12_4 : w9.cell? ⟨gb170, 4, none⟩ = some (.int .i8 a0_4) := (blk_cell BK170.out 4).trans rfl
      have hcz12_5 : w9.cell? ⟨gb170, 5, none⟩ = some (.int .i8 a0_5) := (blk_cell BK170.out 5).trans rfl
      have hcz12_6 : w9.cell? ⟨gb170, 6, none⟩ = some (.int .u32 a0_6) := (blk_cell BK170.out 6).trans rfl
      have hcz12_7 : w9.cell? ⟨gb170, 7, none⟩ = some (.int .u32 a0_7) := (blk_cell BK170.out 7).trans rfl
      have hcz12_8 : w9.cell? ⟨gb170, 8, none⟩ = some (.int .u32 a0_8) := (blk_cell BK170.out 8).trans rfl
      have hcz12_9 : w9.cell? ⟨gb170, 9, none⟩ = some (.int .u64 a0_9) := (blk_cell BK170.out 9).trans rfl
      have hcz12_10 : w9.cell? ⟨gb170, 10, none⟩ = some (.int .u64 a0_10) := (blk_cell BK170.out 10).trans rfl
      have hcz12_11 : w9.cell? ⟨gb170, 11, none⟩ = some (.int .u64 a0_11) := (blk_cell BK170.out 11).trans rfl
      have hcz12_12 : w9.cell? ⟨gb170, 12, none⟩ = some (.int .u64 a0_12) := (blk_cell BK170.out 12).trans rfl
      have hfz12_0 := blk_frozen BK170.out 0
      have hfz12_1 := blk_frozen BK170.out 1
      have hfz12_2 := blk_frozen BK170.out 2
      have hfz12_3 := blk_frozen BK170.out 3
      have hfz12_4 := blk_frozen BK170.out 4
      have hfz12_5 := blk_frozen BK170.out 5
      have hfz12_6 := blk_frozen BK170.out 6
      have hfz12_7 := blk_frozen BK170.out 7
      have hfz12_8 := blk_frozen BK170.out 8
      have hfz12_9 := blk_frozen BK170.out 9
      have hfz12_10 := blk_frozen BK170.out 10
      have hfz12_11 := blk_frozen BK170.out 11
      have hfz12_12 := blk_frozen BK170.out 12
      go_wp2_with (first | (go_at_call 11; (with_reducible refine (packet_Check.calls a0_0 a0_1 a0_2 a0_3 a0_4 a0_5 a0_6 a0_7 a0_8 a0_9 a0_10 a0_11 a0_12 t176 _ A11.out).mono ?_); rintro e w13 ⟨rfl, hb⟩; have n0_ := Aside0.mk (Kd.R_below (by (with_reducible repeat (first | apply Kd.R_alloc | apply Kd.R_drewN | apply Kd.R_drew)); exact HO173.out) hb); have n1_ := Aside0.mk (blk_below (g := gb170) (o := .cells #[.int .u8 a0_0, .int .u8 a0_1, .int .u8 a0_2, .int .u8 a0_3, .int .i8 a0_4, .int .i8 a0_5, .int .u32 a0_6, .int .u32 a0_7, .int .u32 a0_8, .int .u64 a0_9, .int .u64 a0_10, .int .u64 a0_11, .int .u64 a0_12] 26 (0, 0)) (by (with_reducible repeat (first | refine blk_drewN ?_ _ | refine blk_drew ?_ | refine blk_alloc ?_ _)); exact BK170.out) hb); have n2_ := Aside0.mk (below_step (by repeat (first | (with_reducible first | exact HB.out | apply below_alloc | apply pw_below_drewN | apply below_drew1 | refine below_set ?_ GE170.out) | exact HB.out)) hb); clear HO173; clear BK170; clear HB; have HO173 := n0_; have BK170 := n1_; have HB := n2_; clear n0_ n1_ n2_; (try clear hb); (try clear hb2); (try clear hk); (try clear hi)))
      go_meet
      case rel => exact ⟨_, ((t176 != t175)), (by first | rfl | (simp; done) | (simp [*]; done)), H', ⟨by first | omega | exact Nat.le_refl _⟩, ⟨by (with_reducible repeat (first | apply Kd.R_alloc | apply Kd.R_drewN | apply Kd.R_drew)); exact HO173.out⟩, ⟨by (with_reducible repeat (first | refine blk_drewN ?_ _ | refine blk_drew ?_ | refine blk_alloc ?_ _)); exact BK170.out⟩, ⟨by repeat (first | (with_reducible first | exact HB.out | apply below_alloc | apply pw_below_drewN | apply below_drew1 | refine below_set ?_ GE170.out) | exact HB.out)⟩⟩
    · rw [if_neg c10] at H
      have c10b0 : (t174 == t175) = false := beq_eq_false_iff_ne.mpr c10
      have c10b1 : (t174 != t175) = true := bne_iff_ne.mpr c10
      (first | rw [c10b0] | (simp only [i64_w, i32_w]; rw [c10b0]) | skip)
      have H' := Aside0.mk H
      clear H
      go_wp2
      go_meet
      case rel => exact ⟨_, (true), (by first | rfl | (simp; done) | (simp [*]; done)), H', ⟨by first | omega | exact Nat.le_refl _⟩, ⟨by (with_reducible repeat (first | apply Kd.R_alloc | apply Kd.R_drewN | apply Kd.R_drew)); exact HO173.out⟩, ⟨by (with_reducible repeat (first | refine blk_drewN ?_ _ | refine blk_drew ?_ | refine blk_alloc ?_ _)); exact BK170.out⟩, ⟨by repeat (first | (with_reducible first | exact HB.out | apply below_alloc | apply pw_below_drewN | apply below_drew1 | refine below_set ?_ GE170.out) | exact HB.out)⟩⟩
  case rest =>
    clear HC4
    try clear c1
    try clear p2
    try clear c3
    try clear c9
    try clear c10
    try clear c10b0
    try clear c10b1
    try clear hcz12_0
    try clear hcz12_1
    try clear hcz12_10
    try clear hcz12_11
    try clear hcz12_12
    try clear hcz12_2
    try clear hcz12_3
    try clear hcz12_4
    try clear hcz12_5
    try clear hcz12_6
    try clear hcz12_7
    try clear hcz12_8
    try clear hcz12_9
    try clear hcz6_0
    try clear hcz6_1
    try clear hcz6_10
    try clear hcz6_11
    try clear hcz6_12
    try clear hcz6_2
    try clear hcz6_3
    try clear hcz6_4
    try clear hcz6_5
    try clear hcz6_6
    try clear hcz6_7
    try clear hcz6_8
    try clear hcz6_9
    try clear hcz8_0
    try clear hcz8_1
    try clear hcz8_10
    try clear hcz8_11
    try clear hcz8_12
    try clear hcz8_2
    try clear hcz8_3
    try clear hcz8_4
    try clear hcz8_5
    try clear hcz8_6
    try clear hcz8_7
    try clear hcz8_8
    try clear hcz8_9
    try clear hfz12_0
    try clear hfz12_1
    try clear hfz12_10
    try clear hfz12_11
    try clear hfz12_12
    try clear hfz12_2
    try clear hfz12_3
    try clear hfz12_4
    try clear hfz12_5
    try clear hfz12_6
    try clear hfz12_7
    try clear hfz12_8
    try clear hfz12_9
    try clear hfz6_0
    try clear hfz6_1
    try clear hfz6_10
    try clear hfz6_11
    try clear hfz6_12
    try clear hfz6_2
    try clear hfz6_3
    try clear hfz6_4
    try clear hfz6_5
    try clear hfz6_6
    try clear hfz6_7
    try clear hfz6_8
    try clear hfz6_9
    try clear hfz8_0
    try clear hfz8_1
    try clear hfz8_10
    try clear hfz8_11
    try clear hfz8_12
    try clear hfz8_2
    try clear hfz8_3
    try clear hfz8_4
    try clear hfz8_5
    try clear hfz8_6
    try clear hfz8_7
    try clear hfz8_8
    try clear hfz8_9
    obtain ⟨kq, x21_3, rfl, HA, HJ3, HO_3, BK170, HB⟩ := hcut
    cases kq with
    | zero => exact absurd HA.out (by simp [chronobatelaw03_PacketPuts.j0])
    | succ kj3 =>
      have H := HA.out
      clear HA
      simp only [chronobatelaw03_PacketPuts.j0] at H
      by_cases c14 : x21_3 = true
      · subst c14
        have H1 : (some false) = some r := by rw [if_pos rfl] at H; exact H
        clear H
        have H := H1
        clear H1
        obtain rfl := Option.some.inj H
        go_wp2
        go_ret
        exact ⟨by first | rfl | (simp [errW_none, errW_some] <;> rfl) | (simp [*, errW_none, errW_some] <;> rfl), by repeat (first | (with_reducible first | exact HB.out | apply below_alloc | apply pw_below_drewN | apply below_drew1 | refine below_set ?_ GE170.out) | exact HB.out)⟩
      · replace c14 := Bool.eq_false_iff.mpr c14
        subst c14
        have H1 : (if t175 = 0 then ((chronobatelaw03_alive.f kj3).bind fun t177 => (if t177 = true then ((chronobateref03_Put.f kj3 a0_0 a0_1 a0_2 a0_3 a0_4 a0_5 a0_6 a0_7 a0_8 a0_9 a0_10 a0_11 a0_12).bind fun t178 => (some ((strOfNums t171).toList == (strOfNums t178).toList))) else (some false))) else ((chronobatelaw03_alive.f kj3).bind fun t181 => (if t181 = true then (some ((t171.length : Int) == 0)) else (some false)))) = some r := by rw [if_neg (show ¬ (false = true) by decide)] at H; exact H
        clear H
        have H := H1
        clear H1
        by_cases c15 : t175 = 0
        · rw [if_pos c15] at H
          have c15b0 : (t175 == 0) = true := beq_iff_eq.mpr c15
          have c15b1 : (t175 != 0) = false := bne_eq_false_iff_eq.mpr c15
          clear c15
          replace H := Option.bind_eq_some_iff.mp H
          obtain ⟨t177, A160, H⟩ := H
          replace H : (if t177 = true then ((chronobateref03_Put.f kj3 a0_0 a0_1 a0_2 a0_3 a0_4 a0_5 a0_6 a0_7 a0_8 a0_9 a0_10 a0_11 a0_12).bind fun t178 => (some ((strOfNums t171).toList == (strOfNums t178).toList))) else (some false)) = some r := H
          have A16 := Aside0.mk A160
          clear A160
          by_cases c17 : t177 = true
          · subst c17
            have H1 : ((chronobateref03_Put.f kj3 a0_0 a0_1 a0_2 a0_3 a0_4 a0_5 a0_6 a0_7 a0_8 a0_9 a0_10 a0_11 a0_12).bind fun t178 => (some ((strOfNums t171).toList == (strOfNums t178).toList))) = some r := by rw [if_pos rfl] at H; exact H
            clear H
            have H := H1
            clear H1
            replace H := Option.bind_eq_some_iff.mp H
            obtain ⟨t178, A180, H⟩ := H
            replace H : (some ((strOfNums t171).toList == (strOfNums t178).toList)) = some r := H
            have A18 := Aside0.mk A180
            clear A180
            obtain rfl := Option.some.inj H
            try go_wp2
            have n0_ := Aside0.mk (Kd.R_drew HO_3.out)
            have n1_ := Aside0.mk (blk_drew BK170.out)
            have n2_ := Aside0.mk (below_drew1 HB.out)
            clear HO_3
            clear BK170
            clear HB
            have HO_3 := n0_
            have BK170 := n1_
            have HB := n2_
            clear n0_ n1_ n2_
            refine start_ (n := 10) (S := fun w' => w'.cell? ⟨gb170, 0, none⟩ = some (.int .u8 a0_0) ∧ w'.cell? ⟨gb170, 1, none⟩ = some (.int .u8 a0_1) ∧ w'.cell? ⟨gb170, 2, none⟩ = some (.int .u8 a0_2) ∧ w'.cell? ⟨gb170, 3, none⟩ = some (.int .u8 a0_3) ∧ w'.cell? ⟨gb170, 4, none⟩ = some (.int .i8 a0_4) ∧ w'.cell? ⟨gb170, 5, none⟩ = some (.int .i8 a0_5) ∧ w'.cell? ⟨gb170, 6, none⟩ = some (.int .u32 a0_6) ∧ w'.cell? ⟨gb170, 7, none⟩ = some (.int .u32 a0_7) ∧ w'.cell? ⟨gb170, 8, none⟩ = some (.int .u32 a0_8) ∧ w'.cell? ⟨gb170, 9, none⟩ = some (.int .u64 a0_9) ∧ w'.cell? ⟨gb170, 10, none⟩ = some (.int .u64 a0_10) ∧ w'.cell? ⟨gb170, 11, none⟩ = some (.int .u64 a0_11) ∧ w'.cell? ⟨gb170, 12, none⟩ = some (.int .u64 a0_12)) (ds := []) #[false, false, false, false, false, false, false, false, false, false] (by kernel_rfl) rfl rfl ⟨(blk_cell BK170.out 0).trans rfl, (blk_cell BK170.out 1).trans rfl, (blk_cell BK170.out 2).trans rfl, (blk_cell BK170.out 3).trans rfl, (blk_cell BK170.out 4).trans rfl, (blk_cell BK170.out 5).trans rfl, (blk_cell BK170.out 6).trans rfl, (blk_cell BK170.out 7).trans rfl, (blk_cell BK170.out 8).trans rfl, (blk_cell BK170.out 9).trans rfl, (blk_cell BK170.out 10).trans rfl, (blk_cell BK170.out 11).trans rfl, (blk_cell BK170.out 12).trans rfl⟩ (fun hHeld => ?_); refine with_tabW chronobatelaw03_PacketPuts.tab7 chronobatelaw03_PacketPuts.bits7 (fun HT_ HW_ => ?_)
            generalize wc.drew = w19 at HO_3 BK170 HB hHeld ⊢
            refine one_ (i := 0) (N := some 30) #[true, false, false, false, false, false, false, false, false, false] rfl rfl (one_of HT_.out (by kernel_rfl)) (by decide) (fun K hK => ?_)
            refine goes_ Try.func12 (by kernel_rfl) rfl #[] (by rfl) rfl rfl (by (try simp only [List.map_toArray, List.map_cons, List.map_nil]); first | done | rfl | (simp only [List.length_drop, List.length_take]; rfl)) ?_
            with_reducible refine (chronobatelaw03_alive.calls kj3  true _ A16.out).mono ?_
            rintro e w20 ⟨rfl, hb⟩
            refine ⟨_, rfl, ?_⟩
            have n0_ := Aside0.mk (Kd.R_below (by (with_reducible repeat (first | apply Kd.R_alloc | apply Kd.R_drewN | apply Kd.R_drew)); exact HO_3.out) hb)
            have n1_ := Aside0.mk (blk_below (g := gb170) (o := .cells #[.int .u8 a0_0, .int .u8 a0_1, .int .u8 a0_2, .int .u8 a0_3, .int .i8 a0_4, .int .i8 a0_5, .int .u32 a0_6, .int .u32 a0_7, .int .u32 a0_8, .int .u64 a0_9, .int .u64 a0_10, .int .u64 a0_11, .int .u64 a0_12] 26 (0, 0)) (by (with_reducible repeat (first | refine blk_drewN ?_ _ | refine blk_drew ?_ | refine blk_alloc ?_ _)); exact BK170.out) hb)
            have n2_ := Aside0.mk (below_step (by repeat (first | (with_reducible first | exact HB.out | apply below_alloc | apply pw_below_drewN | apply below_drew1 | refine below_set ?_ GE170.out) | exact HB.out)) hb)
            clear HO_3
            clear BK170
            clear HB
            have HO_3 := n0_
            have BK170 := n1_
            have HB := n2_
            clear n0_ n1_ n2_
            (try clear hb)
            (try clear hb2)
            (try clear hk)
            (try clear hi)
            refine hK.out _ _ ⟨(blk_cell BK170.out 0).trans rfl, (blk_cell BK170.out 1).trans rfl, (blk_cell BK170.out 2).trans rfl, (blk_cell BK170.out 3).trans rfl, (blk_cell BK170.out 4).trans rfl, (blk_cell BK170.out 5).trans rfl, (blk_cell BK170.out 6).trans rfl, (blk_cell BK170.out 7).trans rfl, (blk_cell BK170.out 8).trans rfl, (blk_cell BK170.out 9).trans rfl, (blk_cell BK170.out 10).trans rfl, (blk_cell BK170.out 11).trans rfl, (blk_cell BK170.out 12).trans rfl⟩ (fun hHeld => ?_)
            clear hK K
            refine norm_ (a' := ?_) ?_ ?_
            rotate_left
            · show Act.put _ (some 30) _ = _
              simp only [Act.put, List.setIfInBounds_toArray, List.set_cons_zero, List.set_cons_succ, i64_w, i32_w]
              rfl
            refine pure_ (i := 1) (N := some 31) (v := ?_) (a' := ?_) #[true, true, false, false, false, false, false, false, false, false] rfl rfl (any_of HT_.out (by kernel_rfl)) (fun _ _ _ h => h) (Or.inl ⟨by rfl, ?_⟩) ?_ ?_
            rotate_left
            · intro w'
              go_simp
              with_reducible rfl
            rotate_left
            · simp only [Act.put, List.setIfInBounds_toArray, List.set_cons_zero, List.set_cons_succ, i64_w, i32_w]
              rfl
            refine pure_ (i := 2) (N := some 32) (v := ?_) (a' := ?_) #[true, true, true, false, false, false, false, false, false, false] rfl rfl (any_of HT_.out (by kernel_rfl)) (fun _ _ _ h => h) (Or.inl ⟨by rfl, ?_⟩) ?_ ?_
            rotate_left
            · intro w'
              go_simp
              with_reducible rfl
            rotate_left
            · simp only [Act.put, List.setIfInBounds_toArray, List.set_cons_zero, List.set_cons_succ, i64_w, i32_w]
              rfl
            refine take_ (i := 4) (N := some 34) (v := ?_) (a' := ?_) #[true, true, true, false, true, false, false, false, false, false] rfl rfl (take_ofW HT_.out HW_.out (by kernel_rfl)) (fun _ _ _ h => h) (Or.inl ⟨by rfl, ?_⟩) hHeld ?_ ?_
            rotate_left
            · rintro w' ⟨s0, s1, s2, s3, s4, s5, s6, s7, s8, s9, s10, s11, s12⟩
              go_simp
              with_reducible rfl
            rotate_left
            · simp only [Act.put, List.setIfInBounds_toArray, List.set_cons_zero, List.set_cons_succ, i64_w, i32_w]
              rfl
            refine join_ (σ := Value) 3 #[true, true, true, true, true, true, true, false, false, false] (fun s_ => [(33, .string (strOfNums t171)), (35, s_), (36, .string (strOfNums t178))]) (fun s_ w' => (w'.cell? ⟨gb170, 0, none⟩ = some (.int .u8 a0_0) ∧ w'.cell? ⟨gb170, 1, none⟩ = some (.int .u8 a0_1) ∧ w'.cell? ⟨gb170, 2, none⟩ = some (.int .u8 a0_2) ∧ w'.cell? ⟨gb170, 3, none⟩ = some (.int .u8 a0_3) ∧ w'.cell? ⟨gb170, 4, none⟩ = some (.int .i8 a0_4) ∧ w'.cell? ⟨gb170, 5, none⟩ = some (.int .i8 a0_5) ∧ w'.cell? ⟨gb170, 6, none⟩ = some (.int .u32 a0_6) ∧ w'.cell? ⟨gb170, 7, none⟩ = some (.int .u32 a0_7) ∧ w'.cell? ⟨gb170, 8, none⟩ = some (.int .u32 a0_8) ∧ w'.cell? ⟨gb170, 9, none⟩ = some (.int .u64 a0_9) ∧ w'.cell? ⟨gb170, 10, none⟩ = some (.int .u64 a0_10) ∧ w'.cell? ⟨gb170, 11, none⟩ = some (.int .u64 a0_11) ∧ w'.cell? ⟨gb170, 12, none⟩ = some (.int .u64 a0_12)) ∧ (Kd.R (Kd.int .u8) 5 w' w.heap.size (fun k_ => some k_ ≠ (v172 : Value).ownBlock) s_ t178) ∧ (Kd.R (Kd.int .u8) 5 w' w.heap.size (fun k_ => some k_ ≠ (s_ : Value).ownBlock) v172 t171) ∧ (w'.heap[gb170]? = some (.cells #[.int .u8 a0_0, .int .u8 a0_1, .int .u8 a0_2, .int .u8 a0_3, .int .i8 a0_4, .int .i8 a0_5, .int .u32 a0_6, .int .u32 a0_7, .int .u32 a0_8, .int .u64 a0_9, .int .u64 a0_10, .int .u64 a0_11, .int .u64 a0_12] 26 (0, 0))) ∧ (Below w.heap.size w w')) ?_ ?_
            rotate_left
            · intro hCont
              refine two_ (i := 3) (j := 5) (Ni := some 33) (Nj := some 35) #[true, true, true, true, true, false, false, false, false, false] #[true, true, true, false, true, true, false, false, false, false] rfl rfl rfl rfl (two_of HT_.out (by kernel_rfl)) (by decide) (by decide) (fun K hK => ?_) (fun K hK => ?_)
              · skip
                have hcv21 := own_string (P := Try.prog) Try.underlying27 Try.underlying5 Try.underlying9 (Kd.own_of_R HO_3.out)
                refine value_ (w1 := ?_) (v := ?_) (by rfl) rfl ?_ ?_
                rotate_left 2
                · go_simp
                  constructor
                  · rfl
                  · rfl
                clear hcv21
                refine hK.out _ _ ⟨(blk_cell BK170.out 0).trans rfl, (blk_cell BK170.out 1).trans rfl, (blk_cell BK170.out 2).trans rfl, (blk_cell BK170.out 3).trans rfl, (blk_cell BK170.out 4).trans rfl, (blk_cell BK170.out 5).trans rfl, (blk_cell BK170.out 6).trans rfl, (blk_cell BK170.out 7).trans rfl, (blk_cell BK170.out 8).trans rfl, (blk_cell BK170.out 9).trans rfl, (blk_cell BK170.out 10).trans rfl, (blk_cell BK170.out 11).trans rfl, (blk_cell BK170.out 12).trans rfl⟩ (fun hHeld => ?_)
                clear hK K
                refine norm_ (a' := ?_) ?_ ?_
                rotate_left
                · show Act.put _ (some 33) _ = _
                  simp only [Act.put, List.setIfInBounds_toArray, List.set_cons_zero, List.set_cons_succ, i64_w, i32_w]
                  rfl
                refine one_ (i := 5) (N := some 35) #[true, true, true, true, true, true, false, false, false, false] rfl rfl (one_of HT_.out (by kernel_rfl)) (by decide) (fun K hK => ?_)
                refine goes_ Try.func13 (by kernel_rfl) rfl #[.agg #[.int .u8 a0_0, .int .u8 a0_1, .int .u8 a0_2, .int .u8 a0_3, .int .i8 a0_4, .int .i8 a0_5, .int .u32 a0_6, .int .u32 a0_7, .int .u32 a0_8, .int .u64 a0_9, .int .u64 a0_10, .int .u64 a0_11, .int .u64 a0_12]] (by rfl) rfl rfl (by (try simp only [List.map_toArray, List.map_cons, List.map_nil]); first | done | rfl | (simp only [List.length_drop, List.length_take]; rfl)) ?_
                with_reducible refine (chronobateref03_Put.calls kj3 a0_0 a0_1 a0_2 a0_3 a0_4 a0_5 a0_6 a0_7 a0_8 a0_9 a0_10 a0_11 a0_12 t178 _ A18.out).mono ?_
                rintro e w22 ⟨v179, rfl, ho0, hb⟩
                refine ⟨_, rfl, ?_⟩
                have n0_ := Aside0.mk (Kd.R_elder' (by (with_reducible repeat (first | apply Kd.R_alloc | apply Kd.R_drewN | apply Kd.R_drew)); exact HO_3.out) (Kd.R_base ho0) hb)
                have n1_ := Aside0.mk (Kd.R_lower (Kd.R_new' ho0 (Kd.R_lt (by (with_reducible repeat (first | apply Kd.R_alloc | apply Kd.R_drewN | apply Kd.R_drew)); exact HO_3.out))) (below_size (by repeat (first | (with_reducible first | exact HB.out | apply below_alloc | apply pw_below_drewN | apply below_drew1 | refine below_set ?_ GE170.out) | exact HB.out))))
                have n2_ := Aside0.mk (blk_below (g := gb170) (o := .cells #[.int .u8 a0_0, .int .u8 a0_1, .int .u8 a0_2, .int .u8 a0_3, .int .i8 a0_4, .int .i8 a0_5, .int .u32 a0_6, .int .u32 a0_7, .int .u32 a0_8, .int .u64 a0_9, .int .u64 a0_10, .int .u64 a0_11, .int .u64 a0_12] 26 (0, 0)) (by (with_reducible repeat (first | refine blk_drewN ?_ _ | refine blk_drew ?_ | refine blk_alloc ?_ _)); exact BK170.out) hb)
                have n3_ := Aside0.mk (below_step (by repeat (first | (with_reducible first | exact HB.out | apply below_alloc | apply pw_below_drewN | apply below_drew1 | refine below_set ?_ GE170.out) | exact HB.out)) hb)
                clear HO_3
                clear BK170
                clear HB
                have HO_3 := n0_
                have HO180 := n1_
                have BK170 := n2_
                have HB := n3_
                clear n0_ n1_ n2_ n3_
                (try clear hb)
                (try clear hb2)
                (try clear hk)
                (try clear hi)
                (try clear ho0)
                refine hK.out _ _ ⟨(blk_cell BK170.out 0).trans rfl, (blk_cell BK170.out 1).trans rfl, (blk_cell BK170.out 2).trans rfl, (blk_cell BK170.out 3).trans rfl, (blk_cell BK170.out 4).trans rfl, (blk_cell BK170.out 5).trans rfl, (blk_cell BK170.out 6).trans rfl, (blk_cell BK170.out 7).trans rfl, (blk_cell BK170.out 8).trans rfl, (blk_cell BK170.out 9).trans rfl, (blk_cell BK170.out 10).trans rfl, (blk_cell BK170.out 11).trans rfl, (blk_cell BK170.out 12).trans rfl⟩ (fun hHeld => ?_)
                clear hK K
                refine norm_ (a' := ?_) ?_ ?_
                rotate_left
                · show Act.put _ (some 35) _ = _
                  simp only [Act.put, List.setIfInBounds_toArray, List.set_cons_zero, List.set_cons_succ, i64_w, i32_w]
                  rfl
                refine one_ (i := 6) (N := some 36) #[true, true, true, true, true, true, true, false, false, false] rfl rfl (one_of HT_.out (by kernel_rfl)) (by decide) (fun K hK => ?_)
                have hcv23 := own_string (P := Try.prog) Try.underlying27 Try.underlying5 Try.underlying9 (Kd.own_of_R HO180.out)
                refine value_ (w1 := ?_) (v := ?_) (by rfl) rfl ?_ ?_
                rotate_left 2
                · go_simp
                  constructor
                  · rfl
                  · rfl
                clear hcv23
                refine hK.out _ _ ⟨(blk_cell BK170.out 0).trans rfl, (blk_cell BK170.out 1).trans rfl, (blk_cell BK170.out 2).trans rfl, (blk_cell BK170.out 3).trans rfl, (blk_cell BK170.out 4).trans rfl, (blk_cell BK170.out 5).trans rfl, (blk_cell BK170.out 6).trans rfl, (blk_cell BK170.out 7).trans rfl, (blk_cell BK170.out 8).trans rfl, (blk_cell BK170.out 9).trans rfl, (blk_cell BK170.out 10).trans rfl, (blk_cell BK170.out 11).trans rfl, (blk_cell BK170.out 12).trans rfl⟩ (fun hHeld => ?_)
                clear hK K
                refine norm_ (a' := ?_) ?_ ?_
                rotate_left
                · show Act.put _ (some 36) _ = _
                  simp only [Act.put, List.setIfInBounds_toArray, List.set_cons_zero, List.set_cons_succ, i64_w, i32_w]
                  rfl
                exact norm_ (by simp only [putAll, Act.put, List.setIfInBounds_toArray, List.set_cons_zero, List.set_cons_succ]) (hCont (v179) _ ⟨hHeld, (by (with_reducible repeat (first | apply Kd.R_alloc | apply Kd.R_drewN | apply Kd.R_drew)); exact Kd.R_mono HO180.out (fun _ hk => hk.2)), (by (with_reducible repeat (first | apply Kd.R_alloc | apply Kd.R_drewN | apply Kd.R_drew)); exact Kd.R_mono HO_3.out (fun _ hk => hk.2)), (by (with_reducible repeat (first | refine blk_drewN ?_ _ | refine blk_drew ?_ | refine blk_alloc ?_ _)); exact BK170.out), (by repeat (first | (with_reducible first | exact HB.out | apply below_alloc | apply pw_below_drewN | apply below_drew1 | refine below_set ?_ GE170.out) | exact HB.out))⟩)
              · skip
                refine goes_ Try.func13 (by kernel_rfl) rfl #[.agg #[.int .u8 a0_0, .int .u8 a0_1, .int .u8 a0_2, .int .u8 a0_3, .int .i8 a0_4, .int .i8 a0_5, .int .u32 a0_6, .int .u32 a0_7, .int .u32 a0_8, .int .u64 a0_9, .int .u64 a0_10, .int .u64 a0_11, .int .u64 a0_12]] (by rfl) rfl rfl (by (try simp only [List.map_toArray, List.map_cons, List.map_nil]); first | done | rfl | (simp only [List.length_drop, List.length_take]; rfl)) ?_
                with_reducible refine (chronobateref03_Put.calls kj3 a0_0 a0_1 a0_2 a0_3 a0_4 a0_5 a0_6 a0_7 a0_8 a0_9 a0_10 a0_11 a0_12 t178 _ A18.out).mono ?_
                rintro e w21 ⟨v179, rfl, ho0, hb⟩
                refine ⟨_, rfl, ?_⟩
                have n0_ := Aside0.mk (Kd.R_elder' (by (with_reducible repeat (first | apply Kd.R_alloc | apply Kd.R_drewN | apply Kd.R_drew)); exact HO_3.out) (Kd.R_base ho0) hb)
                have n1_ := Aside0.mk (Kd.R_lower (Kd.R_new' ho0 (Kd.R_lt (by (with_reducible repeat (first | apply Kd.R_alloc | apply Kd.R_drewN | apply Kd.R_drew)); exact HO_3.out))) (below_size (by repeat (first | (with_reducible first | exact HB.out | apply below_alloc | apply pw_below_drewN | apply below_drew1 | refine below_set ?_ GE170.out) | exact HB.out))))
                have n2_ := Aside0.mk (blk_below (g := gb170) (o := .cells #[.int .u8 a0_0, .int .u8 a0_1, .int .u8 a0_2, .int .u8 a0_3, .int .i8 a0_4, .int .i8 a0_5, .int .u32 a0_6, .int .u32 a0_7, .int .u32 a0_8, .int .u64 a0_9, .int .u64 a0_10, .int .u64 a0_11, .int .u64 a0_12] 26 (0, 0)) (by (with_reducible repeat (first | refine blk_drewN ?_ _ | refine blk_drew ?_ | refine blk_alloc ?_ _)); exact BK170.out) hb)
                have n3_ := Aside0.mk (below_step (by repeat (first | (with_reducible first | exact HB.out | apply below_alloc | apply pw_below_drewN | apply below_drew1 | refine below_set ?_ GE170.out) | exact HB.out)) hb)
                clear HO_3
                clear BK170
                clear HB
                have HO_3 := n0_
                have HO180 := n1_
                have BK170 := n2_
                have HB := n3_
                clear n0_ n1_ n2_ n3_
                (try clear hb)
                (try clear hb2)
                (try clear hk)
                (try clear hi)
                (try clear ho0)
                refine hK.out _ _ ⟨(blk_cell BK170.out 0).trans rfl, (blk_cell BK170.out 1).trans rfl, (blk_cell BK170.out 2).trans rfl, (blk_cell BK170.out 3).trans rfl, (blk_cell BK170.out 4).trans rfl, (blk_cell BK170.out 5).trans rfl, (blk_cell BK170.out 6).trans rfl, (blk_cell BK170.out 7).trans rfl, (blk_cell BK170.out 8).trans rfl, (blk_cell BK170.out 9).trans rfl, (blk_cell BK170.out 10).trans rfl, (blk_cell BK170.out 11).trans rfl, (blk_cell BK170.out 12).trans rfl⟩ (fun hHeld => ?_)
                clear hK K
                refine norm_ (a' := ?_) ?_ ?_
                rotate_left
                · show Act.put _ (some 35) _ = _
                  simp only [Act.put, List.setIfInBounds_toArray, List.set_cons_zero, List.set_cons_succ, i64_w, i32_w]
                  rfl
                refine two_ (i := 3) (j := 6) (Ni := some 33) (Nj := some 36) #[true, true, true, true, true, true, false, false, false, false] #[true, true, true, false, true, true, true, false, false, false] rfl rfl rfl rfl (two_of HT_.out (by kernel_rfl)) (by decide) (by decide) (fun K hK => ?_) (fun K hK => ?_)
                · skip
                  have hcv22 := own_string (P := Try.prog) Try.underlying27 Try.underlying5 Try.underlying9 (Kd.own_of_R HO_3.out)
                  refine value_ (w1 := ?_) (v := ?_) (by rfl) rfl ?_ ?_
                  rotate_left 2
                  · go_simp
                    constructor
                    · rfl
                    · rfl
                  clear hcv22
                  refine hK.out _ _ ⟨(blk_cell BK170.out 0).trans rfl, (blk_cell BK170.out 1).trans rfl, (blk_cell BK170.out 2).trans rfl, (blk_cell BK170.out 3).trans rfl, (blk_cell BK170.out 4).trans rfl, (blk_cell BK170.out 5).trans rfl, (blk_cell BK170.out 6).trans rfl, (blk_cell BK170.out 7).trans rfl, (blk_cell BK170.out 8).trans rfl, (blk_cell BK170.out 9).trans rfl, (blk_cell BK170.out 10).trans rfl, (blk_cell BK170.out 11).trans rfl, (blk_cell BK170.out 12).trans rfl⟩ (fun hHeld => ?_)
                  clear hK K
                  refine norm_ (a' := ?_) ?_ ?_
                  rotate_left
                  · show Act.put _ (some 33) _ = _
                    simp only [Act.put, List.setIfInBounds_toArray, List.set_cons_zero, List.set_cons_succ, i64_w, i32_w]
                    rfl
                  refine one_ (i := 6) (N := some 36) #[true, true, true, true, true, true, true, false, false, false] rfl rfl (one_of HT_.out (by kernel_rfl)) (by decide) (fun K hK => ?_)
                  have hcv23 := own_string (P := Try.prog) Try.underlying27 Try.underlying5 Try.underlying9 (Kd.own_of_R HO180.out)
                  refine value_ (w1 := ?_) (v := ?_) (by rfl) rfl ?_ ?_
                  rotate_left 2
                  · go_simp
                    constructor
                    · rfl
                    · rfl
                  clear hcv23
                  refine hK.out _ _ ⟨(blk_cell BK170.out 0).trans rfl, (blk_cell BK170.out 1).trans rfl, (blk_cell BK170.out 2).trans rfl, (blk_cell BK170.out 3).trans rfl, (blk_cell BK170.out 4).trans rfl, (blk_cell BK170.out 5).trans rfl, (blk_cell BK170.out 6).trans rfl, (blk_cell BK170.out 7).trans rfl, (blk_cell BK170.out 8).trans rfl, (blk_cell BK170.out 9).trans rfl, (blk_cell BK170.out 10).trans rfl, (blk_cell BK170.out 11).trans rfl, (blk_cell BK170.out 12).trans rfl⟩ (fun hHeld => ?_)
                  clear hK K
                  refine norm_ (a' := ?_) ?_ ?_
                  rotate_left
                  · show Act.put _ (some 36) _ = _
                    simp only [Act.put, List.setIfInBounds_toArray, List.set_cons_zero, List.set_cons_succ, i64_w, i32_w]
                    rfl
                  exact norm_ (by simp only [putAll, Act.put, List.setIfInBounds_toArray, List.set_cons_zero, List.set_cons_succ]) (hCont (v179) _ ⟨hHeld, (by (with_reducible repeat (first | apply Kd.R_alloc | apply Kd.R_drewN | apply Kd.R_drew)); exact Kd.R_mono HO180.out (fun _ hk => hk.2)), (by (with_reducible repeat (first | apply Kd.R_alloc | apply Kd.R_drewN | apply Kd.R_drew)); exact Kd.R_mono HO_3.out (fun _ hk => hk.2)), (by (with_reducible repeat (first | refine blk_drewN ?_ _ | refine blk_drew ?_ | refine blk_alloc ?_ _)); exact BK170.out), (by repeat (first | (with_reducible first | exact HB.out | apply below_alloc | apply pw_below_drewN | apply below_drew1 | refine below_set ?_ GE170.out) | exact HB.out))⟩)
                · skip
                  have hcv22 := own_string (P := Try.prog) Try.underlying27 Try.underlying5 Try.underlying9 (Kd.own_of_R HO180.out)
                  refine value_ (w1 := ?_) (v := ?_) (by rfl) rfl ?_ ?_
                  rotate_left 2
                  · go_simp
                    constructor
                    · rfl
                    · rfl
                  clear hcv22
                  refine hK.out _ _ ⟨(blk_cell BK170.out 0).trans rfl, (blk_cell BK170.out 1).trans rfl, (blk_cell BK170.out 2).trans rfl, (blk_cell BK170.out 3).trans rfl, (blk_cell BK170.out 4).trans rfl, (blk_cell BK170.out 5).trans rfl, (blk_cell BK170.out 6).trans rfl, (blk_cell BK170.out 7).trans rfl, (blk_cell BK170.out 8).trans rfl, (blk_cell BK170.out 9).trans rfl, (blk_cell BK170.out 10).trans rfl, (blk_cell BK170.out 11).trans rfl, (blk_cell BK170.out 12).trans rfl⟩ (fun hHeld => ?_)
                  clear hK K
                  refine norm_ (a' := ?_) ?_ ?_
                  rotate_left
                  · show Act.put _ (some 36) _ = _
                    simp only [Act.put, List.setIfInBounds_toArray, List.set_cons_zero, List.set_cons_succ, i64_w, i32_w]
                    rfl
                  refine one_ (i := 3) (N := some 33) #[true, true, true, true, true, true, true, false, false, false] rfl rfl (one_of HT_.out (by kernel_rfl)) (by decide) (fun K hK => ?_)
                  have hcv23 := own_string (P := Try.prog) Try.underlying27 Try.underlying5 Try.underlying9 (Kd.own_of_R HO_3.out)
                  refine value_ (w1 := ?_) (v := ?_) (by rfl) rfl ?_ ?_
                  rotate_left 2
                  · go_simp
                    constructor
                    · rfl
                    · rfl
                  clear hcv23
                  refine hK.out _ _ ⟨(blk_cell BK170.out 0).trans rfl, (blk_cell BK170.out 1).trans rfl, (blk_cell BK170.out 2).trans rfl, (blk_cell BK170.out 3).trans rfl, (blk_cell BK170.out 4).trans rfl, (blk_cell BK170.out 5).trans rfl, (blk_cell BK170.out 6).trans rfl, (blk_cell BK170.out 7).trans rfl, (blk_cell BK170.out 8).trans rfl, (blk_cell BK170.out 9).trans rfl, (blk_cell BK170.out 10).trans rfl, (blk_cell BK170.out 11).trans rfl, (blk_cell BK170.out 12).trans rfl⟩ (fun hHeld => ?_)
                  clear hK K
                  refine norm_ (a' := ?_) ?_ ?_
                  rotate_left
                  · show Act.put _ (some 33) _ = _
                    simp only [Act.put, List.setIfInBounds_toArray, List.set_cons_zero, List.set_cons_succ, i64_w, i32_w]
                    rfl
                  exact norm_ (by simp only [putAll, Act.put, List.setIfInBounds_toArray, List.set_cons_zero, List.set_cons_succ]) (hCont (v179) _ ⟨hHeld, (by (with_reducible repeat (first | apply Kd.R_alloc | apply Kd.R_drewN | apply Kd.R_drew)); exact Kd.R_mono HO180.out (fun _ hk => hk.2)), (by (with_reducible repeat (first | apply Kd.R_alloc | apply Kd.R_drewN | apply Kd.R_drew)); exact Kd.R_mono HO_3.out (fun _ hk => hk.2)), (by (with_reducible repeat (first | refine blk_drewN ?_ _ | refine blk_drew ?_ | refine blk_alloc ?_ _)); exact BK170.out), (by repeat (first | (with_reducible first | exact HB.out | apply below_alloc | apply pw_below_drewN | apply below_drew1 | refine below_set ?_ GE170.out) | exact HB.out))⟩)
            rintro v179 w24 ⟨hS_, h0_, h1_, h2_, h3_⟩
            have n0_ : Aside0 (Kd.R (Kd.int .u8) 5 w24 w.heap.size (fun k_ => some k_ ≠ (v172 : Value).ownBlock) v179 t178) := ⟨h0_⟩
            have n1_ : Aside0 (Kd.R (Kd.int .u8) 5 w24 w.heap.size (fun k_ => some k_ ≠ (v179 : Value).ownBlock) v172 t171) := ⟨h1_⟩
            have n2_ : Aside0 (w24.heap[gb170]? = some (.cells #[.int .u8 a0_0, .int .u8 a0_1, .int .u8 a0_2, .int .u8 a0_3, .int .i8 a0_4, .int .i8 a0_5, .int .u32 a0_6, .int .u32 a0_7, .int .u32 a0_8, .int .u64 a0_9, .int .u64 a0_10, .int .u64 a0_11, .int .u64 a0_12] 26 (0, 0))) := ⟨h2_⟩
            have n3_ : Aside0 (Below w.heap.size w w24) := ⟨h3_⟩
            clear HO_3
            clear BK170
            clear HB
            clear h0_ h1_ h2_ h3_
            have HO180 := n0_
            have HO_3 := n1_
            have BK170 := n2_
            have HB := n3_
            clear n0_ n1_ n2_ n3_
            have hHeld : w24.cell? ⟨gb170, 0, none⟩ = some (.int .u8 a0_0) ∧ w24.cell? ⟨gb170, 1, none⟩ = some (.int .u8 a0_1) ∧ w24.cell? ⟨gb170, 2, none⟩ = some (.int .u8 a0_2) ∧ w24.cell? ⟨gb170, 3, none⟩ = some (.int .u8 a0_3) ∧ w24.cell? ⟨gb170, 4, none⟩ = some (.int .i8 a0_4) ∧ w24.cell? ⟨gb170, 5, none⟩ = some (.int .i8 a0_5) ∧ w24.cell? ⟨gb170, 6, none⟩ = some (.int .u32 a0_6) ∧ w24.cell? ⟨gb170, 7, none⟩ = some (.int .u32 a0_7) ∧ w24.cell? ⟨gb170, 8, none⟩ = some (.int .u32 a0_8) ∧ w24.cell? ⟨gb170, 9, none⟩ = some (.int .u64 a0_9) ∧ w24.cell? ⟨gb170, 10, none⟩ = some (.int .u64 a0_10) ∧ w24.cell? ⟨gb170, 11, none⟩ = some (.int .u64 a0_11) ∧ w24.cell? ⟨gb170, 12, none⟩ = some (.int .u64 a0_12) := hS_
            refine norm_ (a' := ?_) ?_ ?_
            rotate_left
            · simp only [putAll, Act.put, List.setIfInBounds_toArray, List.set_cons_zero, List.set_cons_succ]
              rfl
            refine pure_ (i := 7) (N := some 37) (v := ?_) (a' := ?_) #[true, true, true, true, true, true, true, true, false, false] rfl rfl (any_of HT_.out (by kernel_rfl)) (fun _ _ _ h => h) (Or.inl ⟨by rfl, ?_⟩) ?_ ?_
            rotate_left
            · intro w'
              go_simp
              with_reducible rfl
            rotate_left
            · simp only [Act.put, List.setIfInBounds_toArray, List.set_cons_zero, List.set_cons_succ, i64_w, i32_w]
              rfl
            refine pure_ (i := 8) (N := some 38) (v := ?_) (a' := ?_) #[true, true, true, true, true, true, true, true, true, false] rfl rfl (any_of HT_.out (by kernel_rfl)) (fun _ _ _ h => h) (Or.inl ⟨by rfl, ?_⟩) ?_ ?_
            rotate_left
            · intro w'
              go_simp
              with_reducible rfl
            rotate_left
            · simp only [Act.put, List.setIfInBounds_toArray, List.set_cons_zero, List.set_cons_succ, i64_w, i32_w]
              rfl
            refine pure_ (i := 9) (N := some 2) (v := ?_) (a' := ?_) #[true, true, true, true, true, true, true, true, true, true] rfl rfl (any_of HT_.out (by kernel_rfl)) (fun _ _ _ h => h) (Or.inl ⟨by rfl, ?_⟩) ?_ ?_
            rotate_left
            · intro w'
              go_simp
              with_reducible rfl
            rotate_left
            · simp only [Act.put, List.setIfInBounds_toArray, List.set_cons_zero, List.set_cons_succ, i64_w, i32_w]
              rfl
            refine done_ (done_of HT_.out (by kernel_rfl)) ?_
            try go_wp2
            go_ret
            exact ⟨by first | rfl | (simp [errW_none, errW_some] <;> rfl) | (simp [*, errW_none, errW_some] <;> rfl), by repeat (first | (with_reducible first | exact HB.out | apply below_alloc | apply pw_below_drewN | apply below_drew1 | refine below_set ?_ GE170.out) | exact HB.out)⟩
          · replace c17 := Bool.eq_false_iff.mpr c17
            subst c17
            have H1 : (some false) = some r := by rw [if_neg (show ¬ (false = true) by decide)] at H; exact H
            clear H
            have H := H1
            clear H1
            obtain rfl := Option.some.inj H
            try go_wp2
            have n0_ := Aside0.mk (Kd.R_drew HO_3.out)
            have n1_ := Aside0.mk (blk_drew BK170.out)
            have n2_ := Aside0.mk (below_drew1 HB.out)
            clear HO_3
            clear BK170
            clear HB
            have HO_3 := n0_
            have BK170 := n1_
            have HB := n2_
            clear n0_ n1_ n2_
            refine start_ (n := 10) (S := fun w' => True) (ds := []) #[false, false, false, false, false, false, false, false, false, false] (by kernel_rfl) rfl rfl trivial (fun hHeld => ?_); refine with_tabW chronobatelaw03_PacketPuts.tab7 chronobatelaw03_PacketPuts.bits7 (fun HT_ HW_ => ?_)
            generalize wc.drew = w25 at HO_3 BK170 HB hHeld ⊢
            refine one_ (i := 0) (N := some 30) #[true, false, false, false, false, false, false, false, false, false] rfl rfl (one_of HT_.out (by kernel_rfl)) (by decide) (fun K hK => ?_)
            refine goes_ Try.func12 (by kernel_rfl) rfl #[] (by rfl) rfl rfl (by (try simp only [List.map_toArray, List.map_cons, List.map_nil]); first | done | rfl | (simp only [List.length_drop, List.length_take]; rfl)) ?_
            with_reducible refine (chronobatelaw03_alive.calls kj3  false _ A16.out).mono ?_
            rintro e w26 ⟨rfl, hb⟩
            refine ⟨_, rfl, ?_⟩
            have n0_ := Aside0.mk (Kd.R_below (by (with_reducible repeat (first | apply Kd.R_alloc | apply Kd.R_drewN | apply Kd.R_drew)); exact HO_3.out) hb)
            have n1_ := Aside0.mk (blk_below (g := gb170) (o := .cells #[.int .u8 a0_0, .int .u8 a0_1, .int .u8 a0_2, .int .u8 a0_3, .int .i8 a0_4, .int .i8 a0_5, .int .u32 a0_6, .int .u32 a0_7, .int .u32 a0_8, .int .u64 a0_9, .int .u64 a0_10, .int .u64 a0_11, .int .u64 a0_12] 26 (0, 0)) (by (with_reducible repeat (first | refine blk_drewN ?_ _ | refine blk_drew ?_ | refine blk_alloc ?_ _)); exact BK170.out) hb)
            have n2_ := Aside0.mk (below_step (by repeat (first | (with_reducible first | exact HB.out | apply below_alloc | apply pw_below_drewN | apply below_drew1 | refine below_set ?_ GE170.out) | exact HB.out)) hb)
            clear HO_3
            clear BK170
            clear HB
            have HO_3 := n0_
            have BK170 := n1_
            have HB := n2_
            clear n0_ n1_ n2_
            (try clear hb)
            (try clear hb2)
            (try clear hk)
            (try clear hi)
            refine hK.out _ _ trivial (fun hHeld => ?_)
            clear hK K
            refine norm_ (a' := ?_) ?_ ?_
            rotate_left
            · show Act.put _ (some 30) _ = _
              simp only [Act.put, List.setIfInBounds_toArray, List.set_cons_zero, List.set_cons_succ, i64_w, i32_w]
              rfl
            refine pure_ (i := 1) (N := some 31) (v := ?_) (a' := ?_) #[true, true, false, false, false, false, false, false, false, false] rfl rfl (any_of HT_.out (by kernel_rfl)) (fun _ _ _ h => h) (Or.inl ⟨by rfl, ?_⟩) ?_ ?_
            rotate_left
            · intro w'
              go_simp
              with_reducible rfl
            rotate_left
            · simp only [Act.put, List.setIfInBounds_toArray, List.set_cons_zero, List.set_cons_succ, i64_w, i32_w]
              rfl
            refine pure_ (i := 2) (N := some 32) (v := undef) (a' := ?_) #[true, true, true, false, false, false, false, false, false, false] rfl rfl (any_of HT_.out (by kernel_rfl)) (fun _ _ _ h => h) (Or.inr ⟨by rfl, rfl⟩) ?_ ?_
            rotate_left
            · simp only [Act.put, List.setIfInBounds_toArray, List.set_cons_zero, List.set_cons_succ, i64_w, i32_w]
              rfl
            refine pure_ (i := 3) (N := some 33) (v := undef) (a' := ?_) #[true, true, true, true, false, false, false, false, false, false] rfl rfl (any_of HT_.out (by kernel_rfl)) (fun _ _ _ h => h) (Or.inr ⟨by rfl, rfl⟩) ?_ ?_
            rotate_left
            · simp only [Act.put, List.setIfInBounds_toArray, List.set_cons_zero, List.set_cons_succ, i64_w, i32_w]
              rfl
            refine pure_ (i := 4) (N := some 34) (v := undef) (a' := ?_) #[true, true, true, true, true, false, false, false, false, false] rfl rfl (any_of HT_.out (by kernel_rfl)) (fun _ _ _ h => h) (Or.inr ⟨by rfl, rfl⟩) ?_ ?_
            rotate_left
            · simp only [Act.put, List.setIfInBounds_toArray, List.set_cons_zero, List.set_cons_succ, i64_w, i32_w]
              rfl
            refine pure_ (i := 5) (N := some 35) (v := undef) (a' := ?_) #[true, true, true, true, true, true, false, false, false, false] rfl rfl (any_of HT_.out (by kernel_rfl)) (fun _ _ _ h => h) (Or.inr ⟨by rfl, rfl⟩) ?_ ?_
            rotate_left
            · simp only [Act.put, List.setIfInBounds_toArray, List.set_cons_zero, List.set_cons_succ, i64_w, i32_w]
              rfl
            refine pure_ (i := 6) (N := some 36) (v := undef) (a' := ?_) #[true, true, true, true, true, true, true, false, false, false] rfl rfl (any_of HT_.out (by kernel_rfl)) (fun _ _ _ h => h) (Or.inr ⟨by rfl, rfl⟩) ?_ ?_
            rotate_left
            · simp only [Act.put, List.setIfInBounds_toArray, List.set_cons_zero, List.set_cons_succ, i64_w, i32_w]
              rfl
            refine pure_ (i := 7) (N := some 37) (v := undef) (a' := ?_) #[true, true, true, true, true, true, true, true, false, false] rfl rfl (any_of HT_.out (by kernel_rfl)) (fun _ _ _ h => h) (Or.inr ⟨by rfl, rfl⟩) ?_ ?_
            rotate_left
            · simp only [Act.put, List.setIfInBounds_toArray, List.set_cons_zero, List.set_cons_succ, i64_w, i32_w]
              rfl
            refine pure_ (i := 8) (N := some 38) (v := ?_) (a' := ?_) #[true, true, true, true, true, true, true, true, true, false] rfl rfl (any_of HT_.out (by kernel_rfl)) (fun _ _ _ h => h) (Or.inl ⟨by rfl, ?_⟩) ?_ ?_
            rotate_left
            · intro w'
              go_simp
              with_reducible rfl
            rotate_left
            · simp only [Act.put, List.setIfInBounds_toArray, List.set_cons_zero, List.set_cons_succ, i64_w, i32_w]
              rfl
            refine pure_ (i := 9) (N := some 2) (v := ?_) (a' := ?_) #[true, true, true, true, true, true, true, true, true, true] rfl rfl (any_of HT_.out (by kernel_rfl)) (fun _ _ _ h => h) (Or.inl ⟨by rfl, ?_⟩) ?_ ?_
            rotate_left
            · intro w'
              go_simp
              with_reducible rfl
            rotate_left
            · simp only [Act.put, List.setIfInBounds_toArray, List.set_cons_zero, List.set_cons_succ, i64_w, i32_w]
              rfl
            refine done_ (done_of HT_.out (by kernel_rfl)) ?_
            try go_wp2
            go_ret
            exact ⟨by first | rfl | (simp [errW_none, errW_some] <;> rfl) | (simp [*, errW_none, errW_some] <;> rfl), by repeat (first | (with_reducible first | exact HB.out | apply below_alloc | apply pw_below_drewN | apply below_drew1 | refine below_set ?_ GE170.out) | exact HB.out)⟩
        · rw [if_neg c15] at H
          have c15b0 : (t175 == 0) = false := beq_eq_false_iff_ne.mpr c15
          have c15b1 : (t175 != 0) = true := bne_iff_ne.mpr c15
          replace H := Option.bind_eq_some_iff.mp H
          obtain ⟨t181, A270, H⟩ := H
          replace H : (if t181 = true then (some ((t171.length : Int) == 0)) else (some false)) = some r := H
          have A27 := Aside0.mk A270
          clear A270
          by_cases c28 : t181 = true
          · subst c28
            have H1 : (some ((t171.length : Int) == 0)) = some r := by rw [if_pos rfl] at H; exact H
            clear H
            have H := H1
            clear H1
            obtain rfl := Option.some.inj H
            go_wp2_with (first | ((with_reducible refine gate_callee (f := 12) rfl ?_); refine goesL_ (some 24) rfl rfl Try.func12 (by kernel_rfl) rfl #[] rfl (by (try simp only [List.map_toArray, List.map_cons, List.map_nil]); first | done | rfl | (simp only [List.length_drop, List.length_take]; rfl)) ?_; (with_reducible refine (chronobatelaw03_alive.calls kj3  true _ A27.out).mono ?_); rintro e w29 ⟨rfl, hb⟩; refine ⟨_, rfl, ?_⟩; have n0_ := Aside0.mk (Kd.R_below (by (with_reducible repeat (first | apply Kd.R_alloc | apply Kd.R_drewN | apply Kd.R_drew)); exact HO_3.out) hb); have n1_ := Aside0.mk (blk_below (g := gb170) (o := .cells #[.int .u8 a0_0, .int .u8 a0_1, .int .u8 a0_2, .int .u8 a0_3, .int .i8 a0_4, .int .i8 a0_5, .int .u32 a0_6, .int .u32 a0_7, .int .u32 a0_8, .int .u64 a0_9, .int .u64 a0_10, .int .u64 a0_11, .int .u64 a0_12] 26 (0, 0)) (by (with_reducible repeat (first | refine blk_drewN ?_ _ | refine blk_drew ?_ | refine blk_alloc ?_ _)); exact BK170.out) hb); have n2_ := Aside0.mk (below_step (by repeat (first | (with_reducible first | exact HB.out | apply below_alloc | apply pw_below_drewN | apply below_drew1 | refine below_set ?_ GE170.out) | exact HB.out)) hb); clear HO_3; clear BK170; clear HB; have HO_3 := n0_; have BK170 := n1_; have HB := n2_; clear n0_ n1_ n2_; (try clear hb); (try clear hb2); (try clear hk); (try clear hi); obtain ⟨Ao30, co30, eo30⟩ := Kd.R_slice HO_3.out; subst eo30))
            go_ret
            exact ⟨by first | rfl | (simp [errW_none, errW_some] <;> rfl) | (simp [*, errW_none, errW_some] <;> rfl), by repeat (first | (with_reducible first | exact HB.out | apply below_alloc | apply pw_below_drewN | apply below_drew1 | refine below_set ?_ GE170.out) | exact HB.out)⟩
          · replace c28 := Bool.eq_false_iff.mpr c28
            subst c28
            have H1 : (some false) = some r := by rw [if_neg (show ¬ (false = true) by decide)] at H; exact H
            clear H
            have H := H1
            clear H1
            obtain rfl := Option.some.inj H
            go_wp2_with (first | ((with_reducible refine gate_callee (f := 12) rfl ?_); refine goesL_ (some 24) rfl rfl Try.func12 (by kernel_rfl) rfl #[] rfl (by (try simp only [List.map_toArray, List.map_cons, List.map_nil]); first | done | rfl | (simp only [List.length_drop, List.length_take]; rfl)) ?_; (with_reducible refine (chronobatelaw03_alive.calls kj3  false _ A27.out).mono ?_); rintro e w31 ⟨rfl, hb⟩; refine ⟨_, rfl, ?_⟩; have n0_ := Aside0.mk (Kd.R_below (by (with_reducible repeat (first | apply Kd.R_alloc | apply Kd.R_drewN | apply Kd.R_drew)); exact HO_3.out) hb); have n1_ := Aside0.mk (blk_below (g := gb170) (o := .cells #[.int .u8 a0_0, .int .u8 a0_1, .int .u8 a0_2, .int .u8 a0_3, .int .i8 a0_4, .int .i8 a0_5, .int .u32 a0_6, .int .u32 a0_7, .int .u32 a0_8, .int .u64 a0_9, .int .u64 a0_10, .int .u64 a0_11, .int .u64 a0_12] 26 (0, 0)) (by (with_reducible repeat (first | refine blk_drewN ?_ _ | refine blk_drew ?_ | refine blk_alloc ?_ _)); exact BK170.out) hb); have n2_ := Aside0.mk (below_step (by repeat (first | (with_reducible first | exact HB.out | apply below_alloc | apply pw_below_drewN | apply below_drew1 | refine below_set ?_ GE170.out) | exact HB.out)) hb); clear HO_3; clear BK170; clear HB; have HO_3 := n0_; have BK170 := n1_; have HB := n2_; clear n0_ n1_ n2_; (try clear hb); (try clear hb2); (try clear hk); (try clear hi)))
            go_ret
            exact ⟨by first | rfl | (simp [errW_none, errW_some] <;> rfl) | (simp [*, errW_none, errW_some] <;> rfl), by repeat (first | (with_reducible first | exact HB.out | apply below_alloc | apply pw_below_drewN | apply below_drew1 | refine below_set ?_ GE170.out) | exact HB.out)⟩

end Go.Proofs.Ytingjmdilglgaaa.G
