-- Written by a program of this session out of the translation (wip/patch_print.py, wip/print2.sh). Lean checks it.
import Derived.Test.YtingjmdilglgaaaGx0
import Derived.Test.YtingjmdilglgaaaGx2
import Derived.Test.YtingjmdilglgaaaGx3
namespace Go.Proofs.Ytingjmdilglgaaa.G
open Go.RowKit Go.Proofs.YtingjmdilglgaaaW.PrintWords Go.Proofs.YtingjmdilglgaaaW.PrintLast Go.Proofs.YtingjmdilglgaaaW.PrintMore
attribute [local go_sem] max2_int min2_int max_two min_two max_three min_three max_four min_four   -- for this text's walks alone
set_option linter.unusedVariables false
set_option linter.unusedSimpArgs false

/-! ### chronobatelaw03_PacketFields: function 4 -/
mutual
def chronobatelaw03_PacketFields.j0 : Nat → Int → List Int → Int → Bool → Int → Int → Int → Int → Int → Int → Int → Int → Int → Int → Int → Int → Int → Option (Bool)
  | 0, _, _, _, _, _, _, _, _, _, _, _, _, _, _, _, _, _ => none
  | k + 1, x1, x5, x6, x25, x183000, x183001, x183002, x183003, x183004, x183005, x183006, x183007, x183008, x183009, x183010, x183011, x183012 => if x25 = true then ((chronobatelaw03_alive.f k).bind fun t187 => (if t187 = true then (some (x6 != 0)) else (some false))) else (if (Int.tmod x1 11) = 0 then (chronobatelaw03_PacketFields.j1 k x5 0 1 (Go.bits .xor .u8 x183000 1) x183001 x183002 x183003 x183004 x183005 x183006 x183007 x183008 x183009 x183010 x183011 x183012) else (if (Int.tmod x1 11) = 1 then (chronobatelaw03_PacketFields.j1 k x5 0 1 x183000 (Go.bits .xor .u8 x183001 1) x183002 x183003 x183004 x183005 x183006 x183007 x183008 x183009 x183010 x183011 x183012) else (if (Int.tmod x1 11) = 2 then (chronobatelaw03_PacketFields.j1 k x5 0 1 x183000 x183001 (Go.bits .xor .u8 x183002 1) x183003 x183004 x183005 x183006 x183007 x183008 x183009 x183010 x183011 x183012) else (if (Int.tmod x1 11) = 3 then (chronobatelaw03_PacketFields.j1 k x5 1 2 x183000 x183001 x183002 (Go.bits .xor .u8 255 x183003) x183004 x183005 x183006 x183007 x183008 x183009 x183010 x183011 x183012) else (if (Int.tmod x1 11) = 4 then (chronobatelaw03_PacketFields.j1 k x5 2 3 x183000 x183001 x183002 x183003 (Go.bits .xor .i8 (-1) x183004) x183005 x183006 x183007 x183008 x183009 x183010 x183011 x183012) else (if (Int.tmod x1 11) = 5 then (chronobatelaw03_PacketFields.j1 k x5 3 4 x183000 x183001 x183002 x183003 x183004 (Go.bits .xor .i8 (-1) x183005) x183006 x183007 x183008 x183009 x183010 x183011 x183012) else (if (Int.tmod x1 11) = 6 then (chronobatelaw03_PacketFields.j1 k x5 4 8 x183000 x183001 x183002 x183003 x183004 x183005 (Go.bits .xor .u32 4294967295 x183006) x183007 x183008 x183009 x183010 x183011 x183012) else (if (Int.tmod x1 11) = 7 then (chronobatelaw03_PacketFields.j1 k x5 8 12 x183000 x183001 x183002 x183003 x183004 x183005 x183006 (Go.bits .xor .u32 4294967295 x183007) x183008 x183009 x183010 x183011 x183012) else (if (Int.tmod x1 11) = 8 then (chronobatelaw03_PacketFields.j1 k x5 12 16 x183000 x183001 x183002 x183003 x183004 x183005 x183006 x183007 (Go.bits .xor .u32 4294967295 x183008) x183009 x183010 x183011 x183012) else (if (Int.tmod x1 11) = 9 then (chronobatelaw03_PacketFields.j1 k x5 24 32 x183000 x183001 x183002 x183003 x183004 x183005 x183006 x183007 x183008 x183009 (Go.bits .xor .u64 18446744073709551615 x183010) x183011 x183012) else (chronobatelaw03_PacketFields.j1 k x5 40 48 x183000 x183001 x183002 x183003 x183004 x183005 x183006 x183007 x183008 x183009 x183010 x183011 (Go.bits .xor .u64 18446744073709551615 x183012))))))))))))
def chronobatelaw03_PacketFields.j1 : Nat → List Int → Int → Int → Int → Int → Int → Int → Int → Int → Int → Int → Int → Int → Int → Int → Int → Option (Bool)
  | 0, _, _, _, _, _, _, _, _, _, _, _, _, _, _, _, _ => none
  | k + 1, x5, x8, x9, x189000, x189001, x189002, x189003, x189004, x189005, x189006, x189007, x189008, x189009, x189010, x189011, x189012 => (packet_Put.f k x189000 x189001 x189002 x189003 x189004 x189005 x189006 x189007 x189008 x189009 x189010 x189011 x189012).bind fun bt189 => (if bt189.2 = 0 then (chronobatelaw03_PacketFields.j2 k x5 x8 x9 bt189.1 ((bt189.1.length : Int) != 48)) else (chronobatelaw03_PacketFields.j2 k x5 x8 x9 bt189.1 true))
def chronobatelaw03_PacketFields.j2 : Nat → List Int → Int → Int → List Int → Bool → Option (Bool)
  | 0, _, _, _, _, _ => none
  | k + 1, x5, x8, x9, x10, x109 => if x109 = true then (some false) else (chronobatelaw03_PacketFields.l0 k x5 x8 x9 x10 (x5.length : Int) 0)
def chronobatelaw03_PacketFields.l0 : Nat → List Int → Int → Int → List Int → Int → Int → Option (Bool)
  | 0, _, _, _, _, _, _ => none
  | k + 1, x5, x8, x9, x10, x111, x112 => if x112 < x111 then (if x112 ≥ x8 then (if 0 ≤ x112 then (if x112 < (x5.length : Int) then (if x112 < (x10.length : Int) then (if ((decide (x112 < x9)) != ((rd x5 x112) != (rd x10 x112))) = true then (some false) else (chronobatelaw03_PacketFields.l0 k x5 x8 x9 x10 x111 (wrap64 (x112 + 1)))) else (none)) else (none)) else (none)) else (if 0 ≤ x112 then (if x112 < (x5.length : Int) then (if x112 < (x10.length : Int) then (if (false != ((rd x5 x112) != (rd x10 x112))) = true then (some false) else (chronobatelaw03_PacketFields.l0 k x5 x8 x9 x10 x111 (wrap64 (x112 + 1)))) else (none)) else (none)) else (none))) else ((chronobatelaw03_alive.f k).bind fun t197 => (some t197))
end
def chronobatelaw03_PacketFields.f (k : Nat) (a0_0 : Int) (a0_1 : Int) (a0_2 : Int) (a0_3 : Int) (a0_4 : Int) (a0_5 : Int) (a0_6 : Int) (a0_7 : Int) (a0_8 : Int) (a0_9 : Int) (a0_10 : Int) (a0_11 : Int) (a0_12 : Int) (a1 : Int) : Option (Bool) := (packet_Put.f k a0_0 a0_1 a0_2 a0_3 a0_4 a0_5 a0_6 a0_7 a0_8 a0_9 a0_10 a0_11 a0_12).bind fun bt183 => (if bt183.2 = 0 then (chronobatelaw03_PacketFields.j0 k a1 bt183.1 bt183.2 ((bt183.1.length : Int) != 48) a0_0 a0_1 a0_2 a0_3 a0_4 a0_5 a0_6 a0_7 a0_8 a0_9 a0_10 a0_11 a0_12) else (chronobatelaw03_PacketFields.j0 k a1 bt183.1 bt183.2 true a0_0 a0_1 a0_2 a0_3 a0_4 a0_5 a0_6 a0_7 a0_8 a0_9 a0_10 a0_11 a0_12))
theorem chronobatelaw03_PacketFields.mono_l : ∀ k, (∀ y0 y1 y2 y3 y4 y5 y6 y7 y8 y9 y10 y11 y12 y13 y14 y15 y16, LeO (chronobatelaw03_PacketFields.j0 k y0 y1 y2 y3 y4 y5 y6 y7 y8 y9 y10 y11 y12 y13 y14 y15 y16) (chronobatelaw03_PacketFields.j0 (k + 1) y0 y1 y2 y3 y4 y5 y6 y7 y8 y9 y10 y11 y12 y13 y14 y15 y16)) ∧ (∀ y0 y1 y2 y3 y4 y5 y6 y7 y8 y9 y10 y11 y12 y13 y14 y15, LeO (chronobatelaw03_PacketFields.j1 k y0 y1 y2 y3 y4 y5 y6 y7 y8 y9 y10 y11 y12 y13 y14 y15) (chronobatelaw03_PacketFields.j1 (k + 1) y0 y1 y2 y3 y4 y5 y6 y7 y8 y9 y10 y11 y12 y13 y14 y15)) ∧ (∀ y0 y1 y2 y3 y4, LeO (chronobatelaw03_PacketFields.j2 k y0 y1 y2 y3 y4) (chronobatelaw03_PacketFields.j2 (k + 1) y0 y1 y2 y3 y4)) ∧ (∀ y0 y1 y2 y3 y4 y5, LeO (chronobatelaw03_PacketFields.l0 k y0 y1 y2 y3 y4 y5) (chronobatelaw03_PacketFields.l0 (k + 1) y0 y1 y2 y3 y4 y5))
  | 0 => ⟨fun _ _ _ _ _ _ _ _ _ _ _ _ _ _ _ _ _ r h => by simp [chronobatelaw03_PacketFields.j0] at h, fun _ _ _ _ _ _ _ _ _ _ _ _ _ _ _ _ r h => by simp [chronobatelaw03_PacketFields.j1] at h, fun _ _ _ _ _ r h => by simp [chronobatelaw03_PacketFields.j2] at h, fun _ _ _ _ _ _ r h => by simp [chronobatelaw03_PacketFields.l0] at h⟩
  | k + 1 => by
    obtain ⟨ih0, ih1, ih2, ih3⟩ := chronobatelaw03_PacketFields.mono_l k
    refine ⟨?_, ?_, ?_, ?_⟩
    · intro y0 y1 y2 y3 y4 y5 y6 y7 y8 y9 y10 y11 y12 y13 y14 y15 y16
      unfold chronobatelaw03_PacketFields.j0
      repeat' first
      | (with_reducible exact ih0 _ _ _ _ _ _ _ _ _ _ _ _ _ _ _ _ _)
      | (with_reducible exact ih1 _ _ _ _ _ _ _ _ _ _ _ _ _ _ _ _)
      | (with_reducible exact ih2 _ _ _ _ _)
      | (with_reducible exact ih3 _ _ _ _ _ _)
      | (with_reducible exact chronobatelaw03_alive.mono _)
      | (with_reducible exact packet_Put.mono _ _ _ _ _ _ _ _ _ _ _ _ _ _)
      | (with_reducible exact LeO.refl _)
      | (with_reducible exact LeO.none _)
      | (with_reducible refine LeO.ite ?_ ?_)
      | (with_reducible refine LeO.bind ?_ (fun _ => ?_))
      | exact ih0 _ _ _ _ _ _ _ _ _ _ _ _ _ _ _ _ _
      | exact ih1 _ _ _ _ _ _ _ _ _ _ _ _ _ _ _ _
      | exact ih2 _ _ _ _ _
      | exact ih3 _ _ _ _ _ _
      | exact chronobatelaw03_alive.mono _
      | exact packet_Put.mono _ _ _ _ _ _ _ _ _ _ _ _ _ _
      | exact LeO.none _
      | refine LeO.ite ?_ ?_
      | refine LeO.bind ?_ (fun _ => ?_)
    · intro y0 y1 y2 y3 y4 y5 y6 y7 y8 y9 y10 y11 y12 y13 y14 y15
      unfold chronobatelaw03_PacketFields.j1
      repeat' first
      | (with_reducible exact ih0 _ _ _ _ _ _ _ _ _ _ _ _ _ _ _ _ _)
      | (with_reducible exact ih1 _ _ _ _ _ _ _ _ _ _ _ _ _ _ _ _)
      | (with_reducible exact ih2 _ _ _ _ _)
      | (with_reducible exact ih3 _ _ _ _ _ _)
      | (with_reducible exact chronobatelaw03_alive.mono _)
      | (with_reducible exact packet_Put.mono _ _ _ _ _ _ _ _ _ _ _ _ _ _)
      | (with_reducible exact LeO.refl _)
      | (with_reducible exact LeO.none _)
      | (with_reducible refine LeO.ite ?_ ?_)
      | (with_reducible refine LeO.bind ?_ (fun _ => ?_))
      | exact ih0 _ _ _ _ _ _ _ _ _ _ _ _ _ _ _ _ _
      | exact ih1 _ _ _ _ _ _ _ _ _ _ _ _ _ _ _ _
      | exact ih2 _ _ _ _ _
      | exact ih3 _ _ _ _ _ _
      | exact chronobatelaw03_alive.mono _
      | exact packet_Put.mono _ _ _ _ _ _ _ _ _ _ _ _ _ _
      | exact LeO.none _
      | refine LeO.ite ?_ ?_
      | refine LeO.bind ?_ (fun _ => ?_)
    · intro y0 y1 y2 y3 y4
      unfold chronobatelaw03_PacketFields.j2
      repeat' first
      | (with_reducible exact ih0 _ _ _ _ _ _ _ _ _ _ _ _ _ _ _ _ _)
      | (with_reducible exact ih1 _ _ _ _ _ _ _ _ _ _ _ _ _ _ _ _)
      | (with_reducible exact ih2 _ _ _ _ _)
      | (with_reducible exact ih3 _ _ _ _ _ _)
      | (with_reducible exact chronobatelaw03_alive.mono _)
      | (with_reducible exact packet_Put.mono _ _ _ _ _ _ _ _ _ _ _ _ _ _)
      | (with_reducible exact LeO.refl _)
      | (with_reducible exact LeO.none _)
      | (with_reducible refine LeO.ite ?_ ?_)
      | (with_reducible refine LeO.bind ?_ (fun _ => ?_))
      | exact ih0 _ _ _ _ _ _ _ _ _ _ _ _ _ _ _ _ _
      | exact ih1 _ _ _ _ _ _ _ _ _ _ _ _ _ _ _ _
      | exact ih2 _ _ _ _ _
      | exact ih3 _ _ _ _ _ _
      | exact chronobatelaw03_alive.mono _
      | exact packet_Put.mono _ _ _ _ _ _ _ _ _ _ _ _ _ _
      | exact LeO.none _
      | refine LeO.ite ?_ ?_
      | refine LeO.bind ?_ (fun _ => ?_)
    · intro y0 y1 y2 y3 y4 y5
      unfold chronobatelaw03_PacketFields.l0
      repeat' first
      | (with_reducible exact ih0 _ _ _ _ _ _ _ _ _ _ _ _ _ _ _ _ _)
      | (with_reducible exact ih1 _ _ _ _ _ _ _ _ _ _ _ _ _ _ _ _)
      | (with_reducible exact ih2 _ _ _ _ _)
      | (with_reducible exact ih3 _ _ _ _ _ _)
      | (with_reducible exact chronobatelaw03_alive.mono _)
      | (with_reducible exact packet_Put.mono _ _ _ _ _ _ _ _ _ _ _ _ _ _)
      | (with_reducible exact LeO.refl _)
      | (with_reducible exact LeO.none _)
      | (with_reducible refine LeO.ite ?_ ?_)
      | (with_reducible refine LeO.bind ?_ (fun _ => ?_))
      | exact ih0 _ _ _ _ _ _ _ _ _ _ _ _ _ _ _ _ _
      | exact ih1 _ _ _ _ _ _ _ _ _ _ _ _ _ _ _ _
      | exact ih2 _ _ _ _ _
      | exact ih3 _ _ _ _ _ _
      | exact chronobatelaw03_alive.mono _
      | exact packet_Put.mono _ _ _ _ _ _ _ _ _ _ _ _ _ _
      | exact LeO.none _
      | refine LeO.ite ?_ ?_
      | refine LeO.bind ?_ (fun _ => ?_)
theorem chronobatelaw03_PacketFields.mono : ∀ a0 a1 a2 a3 a4 a5 a6 a7 a8 a9 a10 a11 a12 a13 k, LeO (chronobatelaw03_PacketFields.f k a0 a1 a2 a3 a4 a5 a6 a7 a8 a9 a10 a11 a12 a13) (chronobatelaw03_PacketFields.f (k + 1) a0 a1 a2 a3 a4 a5 a6 a7 a8 a9 a10 a11 a12 a13) := by
  intro a0 a1 a2 a3 a4 a5 a6 a7 a8 a9 a10 a11 a12 a13 k
  obtain ⟨ih0, ih1, ih2, ih3⟩ := chronobatelaw03_PacketFields.mono_l k
  unfold chronobatelaw03_PacketFields.f
  repeat' first
      | (with_reducible exact ih0 _ _ _ _ _ _ _ _ _ _ _ _ _ _ _ _ _)
      | (with_reducible exact ih1 _ _ _ _ _ _ _ _ _ _ _ _ _ _ _ _)
      | (with_reducible exact ih2 _ _ _ _ _)
      | (with_reducible exact ih3 _ _ _ _ _ _)
      | (with_reducible exact chronobatelaw03_alive.mono _)
      | (with_reducible exact packet_Put.mono _ _ _ _ _ _ _ _ _ _ _ _ _ _)
      | (with_reducible exact LeO.refl _)
      | (with_reducible exact LeO.none _)
      | (with_reducible refine LeO.ite ?_ ?_)
      | (with_reducible refine LeO.bind ?_ (fun _ => ?_))
      | exact ih0 _ _ _ _ _ _ _ _ _ _ _ _ _ _ _ _ _
      | exact ih1 _ _ _ _ _ _ _ _ _ _ _ _ _ _ _ _
      | exact ih2 _ _ _ _ _
      | exact ih3 _ _ _ _ _ _
      | exact chronobatelaw03_alive.mono _
      | exact packet_Put.mono _ _ _ _ _ _ _ _ _ _ _ _ _ _
      | exact LeO.none _
      | refine LeO.ite ?_ ?_
      | refine LeO.bind ?_ (fun _ => ?_)
set_option maxHeartbeats 8000000 in
set_option maxRecDepth 100000 in
theorem chronobatelaw03_PacketFields.calls (k : Nat) (a0_0 : Int) (a0_1 : Int) (a0_2 : Int) (a0_3 : Int) (a0_4 : Int) (a0_5 : Int) (a0_6 : Int) (a0_7 : Int) (a0_8 : Int) (a0_9 : Int) (a0_10 : Int) (a0_11 : Int) (a0_12 : Int) (a1 : Int) (r : Bool) (w : World) (h : chronobatelaw03_PacketFields.f k a0_0 a0_1 a0_2 a0_3 a0_4 a0_5 a0_6 a0_7 a0_8 a0_9 a0_10 a0_11 a0_12 a1 = some r) :
    Calls Try.prog 4 #[.agg #[.int .u8 a0_0, .int .u8 a0_1, .int .u8 a0_2, .int .u8 a0_3, .int .i8 a0_4, .int .i8 a0_5, .int .u32 a0_6, .int .u32 a0_7, .int .u32 a0_8, .int .u64 a0_9, .int .u64 a0_10, .int .u64 a0_11, .int .u64 a0_12], .int .u8 a1] w fun e w' => e = .returned (.bool r) ∧ Below w.heap.size w w' := by
  have hu26 := Try.underlying26
  have HB := Aside0.mk (Below.refl w.heap.size w)
  have H : ((packet_Put.f k a0_0 a0_1 a0_2 a0_3 a0_4 a0_5 a0_6 a0_7 a0_8 a0_9 a0_10 a0_11 a0_12).bind fun bt183 => (if bt183.2 = 0 then (chronobatelaw03_PacketFields.j0 k a1 bt183.1 bt183.2 ((bt183.1.length : Int) != 48) a0_0 a0_1 a0_2 a0_3 a0_4 a0_5 a0_6 a0_7 a0_8 a0_9 a0_10 a0_11 a0_12) else (chronobatelaw03_PacketFields.j0 k a1 bt183.1 bt183.2 true a0_0 a0_1 a0_2 a0_3 a0_4 a0_5 a0_6 a0_7 a0_8 a0_9 a0_10 a0_11 a0_12))) = some r := h
  clear h
  replace H := Option.bind_eq_some_iff.mp H
  obtain ⟨⟨t183, t186⟩, A30, H⟩ := H
  replace H : (if t186 = 0 then (chronobatelaw03_PacketFields.j0 k a1 t183 t186 ((t183.length : Int) != 48) a0_0 a0_1 a0_2 a0_3 a0_4 a0_5 a0_6 a0_7 a0_8 a0_9 a0_10 a0_11 a0_12) else (chronobatelaw03_PacketFields.j0 k a1 t183 t186 true a0_0 a0_1 a0_2 a0_3 a0_4 a0_5 a0_6 a0_7 a0_8 a0_9 a0_10 a0_11 a0_12)) = some r := H
  have A3 := Aside0.mk A30
  clear A30
  have HC4 := Aside0.mk H
  clear H
  go_enter Try.func4, Try.ntmps4
  go_upto_region 2 with (first | ((with_reducible refine gate_dst (N := 2) rfl ?_); (try (refine gate_guard (by rfl) ?_; dsimp only)); refine box_event ?hg (N := 2) ?hd (cs := #[.int .u8 a0_0, .int .u8 a0_1, .int .u8 a0_2, .int .u8 a0_3, .int .i8 a0_4, .int .i8 a0_5, .int .u32 a0_6, .int .u32 a0_7, .int .u32 a0_8, .int .u64 a0_9, .int .u64 a0_10, .int .u64 a0_11, .int .u64 a0_12]) (t := 26) ?hr ?_; (case hd => rfl); (case hg => rfl); (case hr => first | (go_simp; done) | (go_simp; rfl)); intro gb182 hg w5 hbox hb; have n0_ := Aside0.mk (below_step (by repeat (first | (with_reducible first | exact HB.out | apply below_alloc | apply pw_below_drewN | apply below_drew1) | exact HB.out)) hb); have n1_ := Aside0.mk (hbox); have n2_ := Aside0.mk ((by rw [hg]; exact (below_size (by repeat (first | (with_reducible first | exact HB.out | apply below_alloc | apply pw_below_drewN | apply below_drew1) | exact HB.out))) : w.heap.size ≤ gb182)); have n3_ := Aside0.mk ((by rw [hg]; exact (below_size (by repeat (first | (with_reducible first | exact HB.out | apply below_alloc | apply pw_below_drewN | apply below_drew1) | exact HB.out))) : w.heap.size ≤ gb182)); clear HB; have HB := n0_; have BK182 := n1_; have GW182 := n2_; have GE182 := n3_; clear n0_ n1_ n2_ n3_; clear hb hbox hg; have hcz6_0 : w5.cell? ⟨gb182, 0, none⟩ = some (.int .u8 a0_0) := (blk_cell BK182.out 0).trans rfl; have hcz6_1 : w5.cell? ⟨gb182, 1, none⟩ = some (.int .u8 a0_1) := (blk_cell BK182.out 1).trans rfl; have hcz6_2 : w5.cell? ⟨gb182, 2, none⟩ = some (.int .u8 a0_2) := (blk_cell BK182.out 2).trans rfl; have hcz6_3 : w5.cell? ⟨gb182, 3, none⟩ = some (.int .u8 a0_3) := (blk_cell BK182.out 3).trans rfl; have hcz6_4 : w5.cell? ⟨gb182, 4, none⟩ = some (.int .i8 a0_4) := (blk_cell BK182.out 4).trans rfl; have hcz6_5 : w5.cell? ⟨gb182, 5, none⟩ = some (.int .i8 a0_5) := (blk_cell BK182.out 5).trans rfl; have hcz6_6 : w5.cell? ⟨gb182, 6, none⟩ = some (.int .u32 a0_6) := (blk_cell BK182.out 6).trans rfl; have hcz6_7 : w5.cell? ⟨gb182, 7, none⟩ = some (.int .u32 a0_7) := (blk_cell BK182.out 7).trans rfl; have hcz6_8 : w5.cell? ⟨gb182, 8, none⟩ = some (.int .u32 a0_8) := (blk_cell BK182.out 8).trans rfl; have hcz6_9 : w5.cell? ⟨gb182, 9, none⟩ = some (.int .u64 a0_9) := (blk_cell BK182.out 9).trans rfl; have hcz6_10 : w5.cell? ⟨gb182, 10, none⟩ = some (.int .u64 a0_10) := (blk_cell BK182.out 10).trans rfl; have hcz6_11 : w5.cell? ⟨gb182, 11, none⟩ = some (.int .u64 a0_11) := (blk_cell BK182.out 11).trans rfl; have hcz6_12 : w5.cell? ⟨gb182, 12, none⟩ = some (.int .u64 a0_12) := (blk_cell BK182.out 12).trans rfl; have hfz6_0 := blk_frozen BK182.out 0; have hfz6_1 := blk_frozen BK182.out 1; have hfz6_2 := blk_frozen BK182.out 2; have hfz6_3 := blk_frozen BK182.out 3; have hfz6_4 := blk_frozen BK182.out 4; have hfz6_5 := blk_frozen BK182.out 5; have hfz6_6 := blk_frozen BK182.out 6; have hfz6_7 := blk_frozen BK182.out 7; have hfz6_8 := blk_frozen BK182.out 8; have hfz6_9 := blk_frozen BK182.out 9; have hfz6_10 := blk_frozen BK182.out 10; have hfz6_11 := blk_frozen BK182.out 11; have hfz6_12 := blk_frozen BK182.out 12) | (go_at_call 9; (with_reducible refine (packet_Put.calls k a0_0 a0_1 a0_2 a0_3 a0_4 a0_5 a0_6 a0_7 a0_8 a0_9 a0_10 a0_11 a0_12 t183 t186 _ A3.out).mono ?_); rintro e w7 ⟨v184, rfl, ho0, hb⟩; have n0_ := Aside0.mk (Kd.R_lower ho0 (below_size (by repeat (first | (with_reducible first | exact HB.out | apply below_alloc | apply pw_below_drewN | apply below_drew1 | refine below_set ?_ GE182.out) | exact HB.out)))); have n1_ := Aside0.mk (blk_below (g := gb182) (o := .cells #[.int .u8 a0_0, .int .u8 a0_1, .int .u8 a0_2, .int .u8 a0_3, .int .i8 a0_4, .int .i8 a0_5, .int .u32 a0_6, .int .u32 a0_7, .int .u32 a0_8, .int .u64 a0_9, .int .u64 a0_10, .int .u64 a0_11, .int .u64 a0_12] 26 (0, 0)) (by (with_reducible repeat (first | refine blk_drewN ?_ _ | refine blk_drew ?_ | refine blk_alloc ?_ _)); exact BK182.out) hb); have n2_ := Aside0.mk (below_step (by repeat (first | (with_reducible first | exact HB.out | apply below_alloc | apply pw_below_drewN | apply below_drew1 | refine below_set ?_ GE182.out) | exact HB.out)) hb); clear BK182; clear HB; have HO185 := n0_; have BK182 := n1_; have HB := n2_; clear n0_ n1_ n2_; (try clear hb); (try clear hb2); (try clear hk); (try clear hi); (try clear ho0)))
  repeat (go_quiet (first | ((with_reducible refine gate_dst (N := 2) rfl ?_); (try (refine gate_guard (by rfl) ?_; dsimp only)); refine box_event ?hg (N := 2) ?hd (cs := #[.int .u8 a0_0, .int .u8 a0_1, .int .u8 a0_2, .int .u8 a0_3, .int .i8 a0_4, .int .i8 a0_5, .int .u32 a0_6, .int .u32 a0_7, .int .u32 a0_8, .int .u64 a0_9, .int .u64 a0_10, .int .u64 a0_11, .int .u64 a0_12]) (t := 26) ?hr ?_; (case hd => rfl); (case hg => rfl); (case hr => first | (go_simp; done) | (go_simp; rfl)); intro gb182 hg w5 hbox hb; have n0_ := Aside0.mk (below_step (by repeat (first | (with_reducible first | exact HB.out | apply below_alloc | apply pw_below_drewN | apply below_drew1) | exact HB.out)) hb); have n1_ := Aside0.mk (hbox); have n2_ := Aside0.mk ((by rw [hg]; exact (below_size (by repeat (first | (with_reducible first | exact HB.out | apply below_alloc | apply pw_below_drewN | apply below_drew1) | exact HB.out))) : w.heap.size ≤ gb182)); have n3_ := Aside0.mk ((by rw [hg]; exact (below_size (by repeat (first | (with_reducible first | exact HB.out | apply below_alloc | apply pw_below_drewN | apply below_drew1) | exact HB.out))) : w.heap.size ≤ gb182)); clear HB; have HB := n0_; have BK182 := n1_; have GW182 := n2_; have GE182 := n3_; clear n0_ n1_ n2_ n3_; clear hb hbox hg; have hcz6_0 : w5.cell? ⟨gb182, 0, none⟩ = some (.int .u8 a0_0) := (blk_cell BK182.out 0).trans rfl; have hcz6_1 : w5.cell? ⟨gb182, 1, none⟩ = some (.int .u8 a0_1) := (blk_cell BK182.out 1).trans rfl; have hcz6_2 : w5.cell? ⟨gb182, 2, none⟩ = some (.int .u8 a0_2) := (blk_cell BK182.out 2).trans rfl; have hcz6_3 : w5.cell? ⟨gb182, 3, none⟩ = some (.int .u8 a0_3) := (blk_cell BK182.out 3).trans rfl; have hcz6_4 : w5.cell? ⟨gb182, 4, none⟩ = some (.int .i8 a0_4) := (blk_cell BK182.out 4).trans rfl; have hcz6_5 : w5.cell? ⟨gb182, 5, none⟩ = some (.int .i8 a0_5) := (blk_cell BK182.out 5).trans rfl; have hcz6_6 : w5.cell? ⟨gb182, 6, none⟩ = some (.int .u32 a0_6) := (blk_cell BK182.out 6).trans rfl; have hcz6_7 : w5.cell? ⟨gb182, 7, none⟩ = some (.int .u32 a0_7) := (blk_cell BK182.out 7).trans rfl; have hcz6_8 : w5.cell? ⟨gb182, 8, none⟩ = some (.int .u32 a0_8) := (blk_cell BK182.out 8).trans rfl; have hcz6_9 : w5.cell? ⟨gb182, 9, none⟩ = some (.int .u64 a0_9) := (blk_cell BK182.out 9).trans rfl; have hcz6_10 : w5.cell? ⟨gb182, 10, none⟩ = some (.int .u64 a0_10) := (blk_cell BK182.out 10).trans rfl; have hcz6_11 : w5.cell? ⟨gb182, 11, none⟩ = some (.int .u64 a0_11) := (blk_cell BK182.out 11).trans rfl; have hcz6_12 : w5.cell? ⟨gb182, 12, none⟩ = some (.int .u64 a0_12) := (blk_cell BK182.out 12).trans rfl; have hfz6_0 := blk_frozen BK182.out 0; have hfz6_1 := blk_frozen BK182.out 1; have hfz6_2 := blk_frozen BK182.out 2; have hfz6_3 := blk_frozen BK182.out 3; have hfz6_4 := blk_frozen BK182.out 4; have hfz6_5 := blk_frozen BK182.out 5; have hfz6_6 := blk_frozen BK182.out 6; have hfz6_7 := blk_frozen BK182.out 7; have hfz6_8 := blk_frozen BK182.out 8; have hfz6_9 := blk_frozen BK182.out 9; have hfz6_10 := blk_frozen BK182.out 10; have hfz6_11 := blk_frozen BK182.out 11; have hfz6_12 := blk_frozen BK182.out 12) | (go_at_call 9; (with_reducible refine (packet_Put.calls k a0_0 a0_1 a0_2 a0_3 a0_4 a0_5 a0_6 a0_7 a0_8 a0_9 a0_10 a0_11 a0_12 t183 t186 _ A3.out).mono ?_); rintro e w7 ⟨v184, rfl, ho0, hb⟩; have n0_ := Aside0.mk (Kd.R_lower ho0 (below_size (by repeat (first | (with_reducible first | exact HB.out | apply below_alloc | apply pw_below_drewN | apply below_drew1 | refine below_set ?_ GE182.out) | exact HB.out)))); have n1_ := Aside0.mk (blk_below (g := gb182) (o := .cells #[.int .u8 a0_0, .int .u8 a0_1, .int .u8 a0_2, .int .u8 a0_3, .int .i8 a0_4, .int .i8 a0_5, .int .u32 a0_6, .int .u32 a0_7, .int .u32 a0_8, .int .u64 a0_9, .int .u64 a0_10, .int .u64 a0_11, .int .u64 a0_12] 26 (0, 0)) (by (with_reducible repeat (first | refine blk_drewN ?_ _ | refine blk_drew ?_ | refine blk_alloc ?_ _)); exact BK182.out) hb); have n2_ := Aside0.mk (below_step (by repeat (first | (with_reducible first | exact HB.out | apply below_alloc | apply pw_below_drewN | apply below_drew1 | refine below_set ?_ GE182.out) | exact HB.out)) hb); clear BK182; clear HB; have HO185 := n0_; have BK182 := n1_; have HB := n2_; clear n0_ n1_ n2_; (try clear hb); (try clear hb2); (try clear hk); (try clear hi); (try clear ho0))); go_upto_region 2 with (first | ((with_reducible refine gate_dst (N := 2) rfl ?_); (try (refine gate_guard (by rfl) ?_; dsimp only)); refine box_event ?hg (N := 2) ?hd (cs := #[.int .u8 a0_0, .int .u8 a0_1, .int .u8 a0_2, .int .u8 a0_3, .int .i8 a0_4, .int .i8 a0_5, .int .u32 a0_6, .int .u32 a0_7, .int .u32 a0_8, .int .u64 a0_9, .int .u64 a0_10, .int .u64 a0_11, .int .u64 a0_12]) (t := 26) ?hr ?_; (case hd => rfl); (case hg => rfl); (case hr => first | (go_simp; done) | (go_simp; rfl)); intro gb182 hg w5 hbox hb; have n0_ := Aside0.mk (below_step (by repeat (first | (with_reducible first | exact HB.out | apply below_alloc | apply pw_below_drewN | apply below_drew1) | exact HB.out)) hb); have n1_ := Aside0.mk (hbox); have n2_ := Aside0.mk ((by rw [hg]; exact (below_size (by repeat (first | (with_reducible first | exact HB.out | apply below_alloc | apply pw_below_drewN | apply below_drew1) | exact HB.out))) : w.heap.size ≤ gb182)); have n3_ := Aside0.mk ((by rw [hg]; exact (below_size (by repeat (first | (with_reducible first | exact HB.out | apply below_alloc | apply pw_below_drewN | apply below_drew1) | exact HB.out))) : w.heap.size ≤ gb182)); clear HB; have HB := n0_; have BK182 := n1_; have GW182 := n2_; have GE182 := n3_; clear n0_ n1_ n2_ n3_; clear hb hbox hg; have hcz6_0 : w5.cell? ⟨gb182, 0, none⟩ = some (.int .u8 a0_0) := (blk_cell BK182.out 0).trans rfl; have hcz6_1 : w5.cell? ⟨gb182, 1, none⟩ = some (.int .u8 a0_1) := (blk_cell BK182.out 1).trans rfl; have hcz6_2 : w5.cell? ⟨gb182, 2, none⟩ = some (.int .u8 a0_2) := (blk_cell BK182.out 2).trans rfl; have hcz6_3 : w5.cell? ⟨gb182, 3, none⟩ = some (.int .u8 a0_3) := (blk_cell BK182.out 3).trans rfl; have hcz6_4 : w5.cell? ⟨gb182, 4, none⟩ = some (.int .i8 a0_4) := (blk_cell BK182.out 4).trans rfl; have hcz6_5 : w5.cell? ⟨gb182, 5, none⟩ = some (.int .i8 a0_5) := (blk_cell BK182.out 5).trans rfl; have hcz6_6 : w5.cell? ⟨gb182, 6, none⟩ = some (.int .u32 a0_6) := (blk_cell BK182.out 6).trans rfl; have hcz6_7 : w5.cell? ⟨gb182, 7, none⟩ = some (.int .u32 a0_7) := (blk_cell BK182.out 7).trans rfl; have hcz6_8 : w5.cell? ⟨gb182, 8, none⟩ = some (.int .u32 a0_8) := (blk_cell BK182.out 8).trans rfl; have hcz6_9 : w5.cell? ⟨gb182, 9, none⟩ = some (.int .u64 a0_9) := (blk_cell BK182.out 9).trans rfl; have hcz6_10 : w5.cell? ⟨gb182, 10, none⟩ = some (.int .u64 a0_10) := (blk_cell BK182.out 10).trans rfl; have hcz6_11 : w5.cell? ⟨gb182, 11, none⟩ = some (.int .u64 a0_11) := (blk_cell BK182.out 11).trans rfl; have hcz6_12 : w5.cell? ⟨gb182, 12, none⟩ = some (.int .u64 a0_12) := (blk_cell BK182.out 12).trans rfl; have hfz6_0 := blk_frozen BK182.out 0; have hfz6_1 := blk_frozen BK182.out 1; have hfz6_2 := blk_frozen BK182.out 2; have hfz6_3 := blk_frozen BK182.out 3; have hfz6_4 := blk_frozen BK182.out 4; have hfz6_5 := blk_frozen BK182.out 5; have hfz6_6 := blk_frozen BK182.out 6; have hfz6_7 := blk_frozen BK182.out 7; have hfz6_8 := blk_frozen BK182.out 8; have hfz6_9 := blk_frozen BK182.out 9; have hfz6_10 := blk_frozen BK182.out 10; have hfz6_11 := blk_frozen BK182.out 11; have hfz6_12 := blk_frozen BK182.out 12) | (go_at_call 9; (with_reducible refine (packet_Put.calls k a0_0 a0_1 a0_2 a0_3 a0_4 a0_5 a0_6 a0_7 a0_8 a0_9 a0_10 a0_11 a0_12 t183 t186 _ A3.out).mono ?_); rintro e w7 ⟨v184, rfl, ho0, hb⟩; have n0_ := Aside0.mk (Kd.R_lower ho0 (below_size (by repeat (first | (with_reducible first | exact HB.out | apply below_alloc | apply pw_below_drewN | apply below_drew1 | refine below_set ?_ GE182.out) | exact HB.out)))); have n1_ := Aside0.mk (blk_below (g := gb182) (o := .cells #[.int .u8 a0_0, .int .u8 a0_1, .int .u8 a0_2, .int .u8 a0_3, .int .i8 a0_4, .int .i8 a0_5, .int .u32 a0_6, .int .u32 a0_7, .int .u32 a0_8, .int .u64 a0_9, .int .u64 a0_10, .int .u64 a0_11, .int .u64 a0_12] 26 (0, 0)) (by (with_reducible repeat (first | refine blk_drewN ?_ _ | refine blk_drew ?_ | refine blk_alloc ?_ _)); exact BK182.out) hb); have n2_ := Aside0.mk (below_step (by repeat (first | (with_reducible first | exact HB.out | apply below_alloc | apply pw_below_drewN | apply below_drew1 | refine below_set ?_ GE182.out) | exact HB.out)) hb); clear BK182; clear HB; have HO185 := n0_; have BK182 := n1_; have HB := n2_; clear n0_ n1_ n2_; (try clear hb); (try clear hb2); (try clear hk); (try clear hi); (try clear ho0))))
  (try simp only [Act.put, List.setIfInBounds_toArray, List.set_cons_zero, List.set_cons_succ])
  go_cut [25] (fun v25 wc => ∃ (kq : Nat) (x25_3 : Bool), v25 = .bool x25_3 ∧ Aside0 (chronobatelaw03_PacketFields.j0 kq a1 t183 t186 x25_3 a0_0 a0_1 a0_2 a0_3 a0_4 a0_5 a0_6 a0_7 a0_8 a0_9 a0_10 a0_11 a0_12 = some r) ∧ Aside0 (kq ≤ k) ∧ Aside0 (Kd.R (Kd.int .u8) 5 wc w.heap.size (fun _ => True) v184 t183) ∧ Aside0 (wc.heap[gb182]? = some (.cells #[.int .u8 a0_0, .int .u8 a0_1, .int .u8 a0_2, .int .u8 a0_3, .int .i8 a0_4, .int .i8 a0_5, .int .u32 a0_6, .int .u32 a0_7, .int .u32 a0_8, .int .u64 a0_9, .int .u64 a0_10, .int .u64 a0_11, .int .u64 a0_12] 26 (0, 0))) ∧ Aside0 (Below w.heap.size w wc))
  case first =>
    have H := HC4.out
    clear HC4
    by_cases c8 : t186 = 0
    · rw [if_pos c8] at H
      have c8b0 : (t186 == 0) = true := beq_iff_eq.mpr c8
      have c8b1 : (t186 != 0) = false := bne_eq_false_iff_eq.mpr c8
      clear c8
      (first | rw [c8b0] | (simp only [i64_w, i32_w]; rw [c8b0]) | skip)
      have H' := Aside0.mk H
      clear H
      obtain ⟨Ao9, co9, eo9⟩ := Kd.R_slice HO185.out
      subst eo9
      go_wp2
      repeat (go_quiet (fail); try go_wp2)
      go_meet
      case rel => exact ⟨_, (((t183.length : Int) != 48)), (by first | rfl | (simp; done) | (simp [*]; done)), H', ⟨by first | omega | exact Nat.le_refl _⟩, ⟨by (with_reducible repeat (first | apply Kd.R_alloc | apply Kd.R_drewN | apply Kd.R_drew)); exact HO185.out⟩, ⟨by (with_reducible repeat (first | refine blk_drewN ?_ _ | refine blk_drew ?_ | refine blk_alloc ?_ _)); exact BK182.out⟩, ⟨by repeat (first | (with_reducible first | exact HB.out | apply below_alloc | apply pw_below_drewN | apply below_drew1 | refine below_set ?_ GE182.out) | exact HB.out)⟩⟩
    · rw [if_neg c8] at H
      have c8b0 : (t186 == 0) = false := beq_eq_false_iff_ne.mpr c8
      have c8b1 : (t186 != 0) = true := bne_iff_ne.mpr c8
      (first | rw [c8b0] | (simp only [i64_w, i32_w]; rw [c8b0]) | skip)
      have H' := Aside0.mk H
      clear H
      go_wp2
      repeat (go_quiet (fail); try go_wp2)
      go_meet
      case rel => exact ⟨_, (true), (by first | rfl | (simp; done) | (simp [*]; done)), H', ⟨by first | omega | exact Nat.le_refl _⟩, ⟨by (with_reducible repeat (first | apply Kd.R_alloc | apply Kd.R_drewN | apply Kd.R_drew)); exact HO185.out⟩, ⟨by (with_reducible repeat (first | refine blk_drewN ?_ _ | refine blk_drew ?_ | refine blk_alloc ?_ _)); exact BK182.out⟩, ⟨by repeat (first | (with_reducible first | exact HB.out | apply below_alloc | apply pw_below_drewN | apply below_drew1 | refine below_set ?_ GE182.out) | exact HB.out)⟩⟩
  case rest =>
    clear HC4
    try clear p2
    try clear c4
    try clear c8
    try clear c8b0
    try clear c8b1
    try clear hcz6_0
    try clear hcz6_1
    try clear hcz6_10
    try clear hcz6_11
    try clear hcz6_12
    try clear hcz6_2
    try clear hcz6_3
    try clear hcz6_4
    try clear hcz6_5
    try clear hcz6_6
    try clear hcz6_7
    try clear hcz6_8
    try clear hcz6_9
    try clear hfz6_0
    try clear hfz6_1
    try clear hfz6_10
    try clear hfz6_11
    try clear hfz6_12
    try clear hfz6_2
    try clear hfz6_3
    try clear hfz6_4
    try clear hfz6_5
    try clear hfz6_6
    try clear hfz6_7
    try clear hfz6_8
    try clear hfz6_9
    obtain ⟨kq, x25_3, rfl, HA, HJ3, HO_5, BK182, HB⟩ := hcut
    cases kq with
    | zero => exact absurd HA.out (by simp [chronobatelaw03_PacketFields.j0])
    | succ kj3 =>
      have H := HA.out
      clear HA
      simp only [chronobatelaw03_PacketFields.j0] at H
      by_cases c10 : x25_3 = true
      · subst c10
        have H1 : ((chronobatelaw03_alive.f kj3).bind fun t187 => (if t187 = true then (some (t186 != 0)) else (some false))) = some r := by rw [if_pos rfl] at H; exact H
        clear H
        have H := H1
        clear H1
        replace H := Option.bind_eq_some_iff.mp H
        obtain ⟨t187, A110, H⟩ := H
        replace H : (if t187 = true then (some (t186 != 0)) else (some false)) = some r := H
        have A11 := Aside0.mk A110
        clear A110
        by_cases c12 : t187 = true
        · subst c12
          have H1 : (some (t186 != 0)) = some r := by rw [if_pos rfl] at H; exact H
          clear H
          have H := H1
          clear H1
          obtain rfl := Option.some.inj H
          go_wp2_with (first | (go_at_call 12; (with_reducible refine (chronobatelaw03_alive.calls kj3  true _ A11.out).mono ?_); rintro e w13 ⟨rfl, hb⟩; have n0_ := Aside0.mk (Kd.R_below (by (with_reducible repeat (first | apply Kd.R_alloc | apply Kd.R_drewN | apply Kd.R_drew)); exact HO_5.out) hb); have n1_ := Aside0.mk (blk_below (g := gb182) (o := .cells #[.int .u8 a0_0, .int .u8 a0_1, .int .u8 a0_2, .int .u8 a0_3, .int .i8 a0_4, .int .i8 a0_5, .int .u32 a0_6, .int .u32 a0_7, .int .u32 a0_8, .int .u64 a0_9, .int .u64 a0_10, .int .u64 a0_11, .int .u64 a0_12] 26 (0, 0)) (by (with_reducible repeat (first | refine blk_drewN ?_ _ | refine blk_drew ?_ | refine blk_alloc ?_ _)); exact BK182.out) hb); have n2_ := Aside0.mk (below_step (by repeat (first | (with_reducible first | exact HB.out | apply below_alloc | apply pw_below_drewN | apply below_drew1 | refine below_set ?_ GE182.out) | exact HB.out)) hb); clear HO_5; clear BK182; clear HB; have HO_5 := n0_; have BK182 := n1_; have HB := n2_; clear n0_ n1_ n2_; (try clear hb); (try clear hb2); (try clear hk); (try clear hi)))
          repeat (go_quiet (first | (go_at_call 12; (with_reducible refine (chronobatelaw03_alive.calls kj3  true _ A11.out).mono ?_); rintro e w13 ⟨rfl, hb⟩; have n0_ := Aside0.mk (Kd.R_below (by (with_reducible repeat (first | apply Kd.R_alloc | apply Kd.R_drewN | apply Kd.R_drew)); exact HO_5.out) hb); have n1_ := Aside0.mk (blk_below (g := gb182) (o := .cells #[.int .u8 a0_0, .int .u8 a0_1, .int .u8 a0_2, .int .u8 a0_3, .int .i8 a0_4, .int .i8 a0_5, .int .u32 a0_6, .int .u32 a0_7, .int .u32 a0_8, .int .u64 a0_9, .int .u64 a0_10, .int .u64 a0_11, .int .u64 a0_12] 26 (0, 0)) (by (with_reducible repeat (first | refine blk_drewN ?_ _ | refine blk_drew ?_ | refine blk_alloc ?_ _)); exact BK182.out) hb); have n2_ := Aside0.mk (below_step (by repeat (first | (with_reducible first | exact HB.out | apply below_alloc | apply pw_below_drewN | apply below_drew1 | refine below_set ?_ GE182.out) | exact HB.out)) hb); clear HO_5; clear BK182; clear HB; have HO_5 := n0_; have BK182 := n1_; have HB := n2_; clear n0_ n1_ n2_; (try clear hb); (try clear hb2); (try clear hk); (try clear hi))); try go_wp2_with (first | (go_at_call 12; (with_reducible refine (chronobatelaw03_alive.calls kj3  true _ A11.out).mono ?_); rintro e w13 ⟨rfl, hb⟩; have n0_ := Aside0.mk (Kd.R_below (by (with_reducible repeat (first | apply Kd.R_alloc | apply Kd.R_drewN | apply Kd.R_drew)); exact HO_5.out) hb); have n1_ := Aside0.mk (blk_below (g := gb182) (o := .cells #[.int .u8 a0_0, .int .u8 a0_1, .int .u8 a0_2, .int .u8 a0_3, .int .i8 a0_4, .int .i8 a0_5, .int .u32 a0_6, .int .u32 a0_7, .int .u32 a0_8, .int .u64 a0_9, .int .u64 a0_10, .int .u64 a0_11, .int .u64 a0_12] 26 (0, 0)) (by (with_reducible repeat (first | refine blk_drewN ?_ _ | refine blk_drew ?_ | refine blk_alloc ?_ _)); exact BK182.out) hb); have n2_ := Aside0.mk (below_step (by repeat (first | (with_reducible first | exact HB.out | apply below_alloc | apply pw_below_drewN | apply below_drew1 | refine below_set ?_ GE182.out) | exact HB.out)) hb); clear HO_5; clear BK182; clear HB; have HO_5 := n0_; have BK182 := n1_; have HB := n2_; clear n0_ n1_ n2_; (try clear hb); (try clear hb2); (try clear hk); (try clear hi))))
          go_ret
          exact ⟨by first | rfl | (simp [errW_none, errW_some] <;> rfl) | (simp [*, errW_none, errW_some] <;> rfl), by repeat (first | (with_reducible first | exact HB.out | apply below_alloc | apply pw_below_drewN | apply below_drew1 | refine below_set ?_ GE182.out) | exact HB.out)⟩
        · replace c12 := Bool.eq_false_iff.mpr c12
          subst c12
          have H1 : (some false) = some r := by rw [if_neg (show ¬ (false = true) by decide)] at H; exact H
          clear H
          have H := H1
          clear H1
          obtain rfl := Option.some.inj H
          go_wp2_with (first | (go_at_call 12; (with_reducible refine (chronobatelaw03_alive.calls kj3  false _ A11.out).mono ?_); rintro e w14 ⟨rfl, hb⟩; have n0_ := Aside0.mk (Kd.R_below (by (with_reducible repeat (first | apply Kd.R_alloc | apply Kd.R_drewN | apply Kd.R_drew)); exact HO_5.out) hb); have n1_ := Aside0.mk (blk_below (g := gb182) (o := .cells #[.int .u8 a0_0, .int .u8 a0_1, .int .u8 a0_2, .int .u8 a0_3, .int .i8 a0_4, .int .i8 a0_5, .int .u32 a0_6, .int .u32 a0_7, .int .u32 a0_8, .int .u64 a0_9, .int .u64 a0_10, .int .u64 a0_11, .int .u64 a0_12] 26 (0, 0)) (by (with_reducible repeat (first | refine blk_drewN ?_ _ | refine blk_drew ?_ | refine blk_alloc ?_ _)); exact BK182.out) hb); have n2_ := Aside0.mk (below_step (by repeat (first | (with_reducible first | exact HB.out | apply below_alloc | apply pw_below_drewN | apply below_drew1 | refine below_set ?_ GE182.out) | exact HB.out)) hb); clear HO_5; clear BK182; clear HB; have HO_5 := n0_; have BK182 := n1_; have HB := n2_; clear n0_ n1_ n2_; (try clear hb); (try clear hb2); (try clear hk); (try clear hi)))
          repeat (go_quiet (first | (go_at_call 12; (with_reducible refine (chronobatelaw03_alive.calls kj3  false _ A11.out).mono ?_); rintro e w14 ⟨rfl, hb⟩; have n0_ := Aside0.mk (Kd.R_below (by (with_reducible repeat (first | apply Kd.R_alloc | apply Kd.R_drewN | apply Kd.R_drew)); exact HO_5.out) hb); have n1_ := Aside0.mk (blk_below (g := gb182) (o := .cells #[.int .u8 a0_0, .int .u8 a0_1, .int .u8 a0_2, .int .u8 a0_3, .int .i8 a0_4, .int .i8 a0_5, .int .u32 a0_6, .int .u32 a0_7, .int .u32 a0_8, .int .u64 a0_9, .int .u64 a0_10, .int .u64 a0_11, .int .u64 a0_12] 26 (0, 0)) (by (with_reducible repeat (first | refine blk_drewN ?_ _ | refine blk_drew ?_ | refine blk_alloc ?_ _)); exact BK182.out) hb); have n2_ := Aside0.mk (below_step (by repeat (first | (with_reducible first | exact HB.out | apply below_alloc | apply pw_below_drewN | apply below_drew1 | refine below_set ?_ GE182.out) | exact HB.out)) hb); clear HO_5; clear BK182; clear HB; have HO_5 := n0_; have BK182 := n1_; have HB := n2_; clear n0_ n1_ n2_; (try clear hb); (try clear hb2); (try clear hk); (try clear hi))); try go_wp2_with (first | (go_at_call 12; (with_reducible refine (chronobatelaw03_alive.calls kj3  false _ A11.out).mono ?_); rintro e w14 ⟨rfl, hb⟩; have n0_ := Aside0.mk (Kd.R_below (by (with_reducible repeat (first | apply Kd.R_alloc | apply Kd.R_drewN | apply Kd.R_drew)); exact HO_5.out) hb); have n1_ := Aside0.mk (blk_below (g := gb182) (o := .cells #[.int .u8 a0_0, .int .u8 a0_1, .int .u8 a0_2, .int .u8 a0_3, .int .i8 a0_4, .int .i8 a0_5, .int .u32 a0_6, .int .u32 a0_7, .int .u32 a0_8, .int .u64 a0_9, .int .u64 a0_10, .int .u64 a0_11, .int .u64 a0_12] 26 (0, 0)) (by (with_reducible repeat (first | refine blk_drewN ?_ _ | refine blk_drew ?_ | refine blk_alloc ?_ _)); exact BK182.out) hb); have n2_ := Aside0.mk (below_step (by repeat (first | (with_reducible first | exact HB.out | apply below_alloc | apply pw_below_drewN | apply below_drew1 | refine below_set ?_ GE182.out) | exact HB.out)) hb); clear HO_5; clear BK182; clear HB; have HO_5 := n0_; have BK182 := n1_; have HB := n2_; clear n0_ n1_ n2_; (try clear hb); (try clear hb2); (try clear hk); (try clear hi))))
          go_ret
          exact ⟨by first | rfl | (simp [errW_none, errW_some] <;> rfl) | (simp [*, errW_none, errW_some] <;> rfl), by repeat (first | (with_reducible first | exact HB.out | apply below_alloc | apply pw_below_drewN | apply below_drew1 | refine below_set ?_ GE182.out) | exact HB.out)⟩
      · replace c10 := Bool.eq_false_iff.mpr c10
        subst c10
        have H1 : (if (Int.tmod a1 11) = 0 then (chronobatelaw03_PacketFields.j1 kj3 t183 0 1 (Go.bits .xor .u8 a0_0 1) a0_1 a0_2 a0_3 a0_4 a0_5 a0_6 a0_7 a0_8 a0_9 a0_10 a0_11 a0_12) else (if (Int.tmod a1 11) = 1 then (chronobatelaw03_PacketFields.j1 kj3 t183 0 1 a0_0 (Go.bits .xor .u8 a0_1 1) a0_2 a0_3 a0_4 a0_5 a0_6 a0_7 a0_8 a0_9 a0_10 a0_11 a0_12) else (if (Int.tmod a1 11) = 2 then (chronobatelaw03_PacketFields.j1 kj3 t183 0 1 a0_0 a0_1 (Go.bits .xor .u8 a0_2 1) a0_3 a0_4 a0_5 a0_6 a0_7 a0_8 a0_9 a0_10 a0_11 a0_12) else (if (Int.tmod a1 11) = 3 then (chronobatelaw03_PacketFields.j1 kj3 t183 1 2 a0_0 a0_1 a0_2 (Go.bits .xor .u8 255 a0_3) a0_4 a0_5 a0_6 a0_7 a0_8 a0_9 a0_10 a0_11 a0_12) else (if (Int.tmod a1 11) = 4 then (chronobatelaw03_PacketFields.j1 kj3 t183 2 3 a0_0 a0_1 a0_2 a0_3 (Go.bits .xor .i8 (-1) a0_4) a0_5 a0_6 a0_7 a0_8 a0_9 a0_10 a0_11 a0_12) else (if (Int.tmod a1 11) = 5 then (chronobatelaw03_PacketFields.j1 kj3 t183 3 4 a0_0 a0_1 a0_2 a0_3 a0_4 (Go.bits .xor .i8 (-1) a0_5) a0_6 a0_7 a0_8 a0_9 a0_10 a0_11 a0_12) else (if (Int.tmod a1 11) = 6 then (chronobatelaw03_PacketFields.j1 kj3 t183 4 8 a0_0 a0_1 a0_2 a0_3 a0_4 a0_5 (Go.bits .xor .u32 4294967295 a0_6) a0_7 a0_8 a0_9 a0_10 a0_11 a0_12) else (if (Int.tmod a1 11) = 7 then (chronobatelaw03_PacketFields.j1 kj3 t183 8 12 a0_0 a0_1 a0_2 a0_3 a0_4 a0_5 a0_6 (Go.bits .xor .u32 4294967295 a0_7) a0_8 a0_9 a0_10 a0_11 a0_12) else (if (Int.tmod a1 11) = 8 then (chronobatelaw03_PacketFields.j1 kj3 t183 12 16 a0_0 a0_1 a0_2 a0_3 a0_4 a0_5 a0_6 a0_7 (Go.bits .xor .u32 4294967295 a0_8) a0_9 a0_10 a0_11 a0_12) else (if (Int.tmod a1 11) = 9 then (chronobatelaw03_PacketFields.j1 kj3 t183 24 32 a0_0 a0_1 a0_2 a0_3 a0_4 a0_5 a0_6 a0_7 a0_8 a0_9 (Go.bits .xor .u64 18446744073709551615 a0_10) a0_11 a0_12) else (chronobatelaw03_PacketFields.j1 kj3 t183 40 48 a0_0 a0_1 a0_2 a0_3 a0_4 a0_5 a0_6 a0_7 a0_8 a0_9 a0_10 a0_11 (Go.bits .xor .u64 18446744073709551615 a0_12)))))))))))) = some r := by rw [if_neg (show ¬ (false = true) by decide)] at H; exact H
        clear H
        have H := H1
        clear H1
        have HC15 := Aside0.mk H
        clear H
        have hcz16_0 : wc.cell? ⟨gb182, 0, none⟩ = some (.int .u8 a0_0) := (blk_cell BK182.out 0).trans rfl
        have hcz16_1 : wc.cell? ⟨gb182, 1, none⟩ = some (.int .u8 a0_1) := (blk_cell BK182.out 1).trans rfl
        have hcz16_2 : wc.cell? ⟨gb182, 2, none⟩ = some (.int .u8 a0_2) := (blk_cell BK182.out 2).trans rfl
        have hcz16_3 : wc.cell? ⟨gb182, 3, none⟩ = some (.int .u8 a0_3) := (blk_cell BK182.out 3).trans rfl
        have hcz16_4 : wc.cell? ⟨gb182, 4, none⟩ = some (.int .i8 a0_4) := (blk_cell BK182.out 4).trans rfl
        have hcz16_5 : wc.cell? ⟨gb182, 5, none⟩ = some (.int .i8 a0_5) := (blk_cell BK182.out 5).trans rfl
        have hcz16_6 : wc.cell? ⟨gb182, 6, none⟩ = some (.int .u32 a0_6) := (blk_cell BK182.out 6).trans rfl
        have hcz16_7 : wc.cell? ⟨gb182, 7, none⟩ = some (.int .u32 a0_7) := (blk_cell BK182.out 7).trans rfl
        have hcz16_8 : wc.cell? ⟨gb182, 8, none⟩ = some (.int .u32 a0_8) := (blk_cell BK182.out 8).trans rfl
        have hcz16_9 : wc.cell? ⟨gb182, 9, none⟩ = some (.int .u64 a0_9) := (blk_cell BK182.out 9).trans rfl
        have hcz16_10 : wc.cell? ⟨gb182, 10, none⟩ = some (.int .u64 a0_10) := (blk_cell BK182.out 10).trans rfl
        have hcz16_11 : wc.cell? ⟨gb182, 11, none⟩ = some (.int .u64 a0_11) := (blk_cell BK182.out 11).trans rfl
        have hcz16_12 : wc.cell? ⟨gb182, 12, none⟩ = some (.int .u64 a0_12) := (blk_cell BK182.out 12).trans rfl
        have hfz16_0 := blk_frozen BK182.out 0
        have hfz16_1 := blk_frozen BK182.out 1
        have hfz16_2 := blk_frozen BK182.out 2
        have hfz16_3 := blk_frozen BK182.out 3
        have hfz16_4 := blk_frozen BK182.out 4
        have hfz16_5 := blk_frozen BK182.out 5
        have hfz16_6 := blk_frozen BK182.out 6
        have hfz16_7 := blk_frozen BK182.out 7
        have hfz16_8 := blk_frozen BK182.out 8
        have hfz16_9 := blk_frozen BK182.out 9
        have hfz16_10 := blk_frozen BK182.out 10
        have hfz16_11 := blk_frozen BK182.out 11
        have hfz16_12 := blk_frozen BK182.out 12
        go_upto_block 0 with (first | ((with_reducible refine gate_dst (N := 7) rfl ?_); (try (refine gate_guard (by rfl) ?_; dsimp only)); refine box_event ?hg (N := 7) ?hd (cs := #[.int .u8 0, .int .u8 0, .int .u8 0, .int .u8 0, .int .i8 0, .int .i8 0, .int .u32 0, .int .u32 0, .int .u32 0, .int .u64 0, .int .u64 0, .int .u64 0, .int .u64 0]) (t := 26) ?hr ?_; (case hd => rfl); (case hg => rfl); (case hr => first | (go_simp; done) | (go_simp; rfl)); intro gb188 hg w17 hbox hb; have n0_ := Aside0.mk (Kd.R_below (by (with_reducible repeat (first | apply Kd.R_alloc | apply Kd.R_drewN | apply Kd.R_drew)); exact HO_5.out) hb); have n1_ := Aside0.mk (blk_below (g := gb182) (o := .cells #[.int .u8 a0_0, .int .u8 a0_1, .int .u8 a0_2, .int .u8 a0_3, .int .i8 a0_4, .int .i8 a0_5, .int .u32 a0_6, .int .u32 a0_7, .int .u32 a0_8, .int .u64 a0_9, .int .u64 a0_10, .int .u64 a0_11, .int .u64 a0_12] 26 (0, 0)) (by (with_reducible repeat (first | refine blk_drewN ?_ _ | refine blk_drew ?_ | refine blk_alloc ?_ _)); exact BK182.out) hb); have n2_ := Aside0.mk (below_step (by repeat (first | (with_reducible first | exact HB.out | apply below_alloc | apply pw_below_drewN | apply below_drew1 | refine below_set ?_ GE182.out) | exact HB.out)) hb); have n3_ := Aside0.mk (hbox); have n4_ := Aside0.mk ((by rw [hg]; exact (below_size (by repeat (first | (with_reducible first | exact HB.out | apply below_alloc | apply pw_below_drewN | apply below_drew1 | refine below_set ?_ GE182.out) | exact HB.out))) : w.heap.size ≤ gb188)); have n5_ := Aside0.mk ((by rw [hg]; exact (below_size (by repeat (first | (with_reducible first | exact HB.out | apply below_alloc | apply pw_below_drewN | apply below_drew1 | refine below_set ?_ GE182.out) | exact HB.out))) : w.heap.size ≤ gb188)); have n6_ := Aside0.mk ((by rw [hg]; exact Nat.ne_of_lt (blk_lt (g := gb182) (o := .cells #[.int .u8 a0_0, .int .u8 a0_1, .int .u8 a0_2, .int .u8 a0_3, .int .i8 a0_4, .int .i8 a0_5, .int .u32 a0_6, .int .u32 a0_7, .int .u32 a0_8, .int .u64 a0_9, .int .u64 a0_10, .int .u64 a0_11, .int .u64 a0_12] 26 (0, 0)) (by (with_reducible repeat (first | refine blk_drewN ?_ _ | refine blk_drew ?_ | refine blk_alloc ?_ _)); exact BK182.out)) : gb182 ≠ gb188)); have n7_ := Aside0.mk ((by rw [hg]; exact Nat.ne_of_gt (blk_lt (g := gb182) (o := .cells #[.int .u8 a0_0, .int .u8 a0_1, .int .u8 a0_2, .int .u8 a0_3, .int .i8 a0_4, .int .i8 a0_5, .int .u32 a0_6, .int .u32 a0_7, .int .u32 a0_8, .int .u64 a0_9, .int .u64 a0_10, .int .u64 a0_11, .int .u64 a0_12] 26 (0, 0)) (by (with_reducible repeat (first | refine blk_drewN ?_ _ | refine blk_drew ?_ | refine blk_alloc ?_ _)); exact BK182.out)) : gb188 ≠ gb182)); clear HO_5; clear BK182; clear HB; have HO_5 := n0_; have BK182 := n1_; have HB := n2_; have BK188 := n3_; have GW188 := n4_; have GE188 := n5_; have NB182_188 := n6_; have NB188_182 := n7_; clear n0_ n1_ n2_ n3_ n4_ n5_ n6_ n7_; clear hb hbox hg; have hnb18 := NB188_182.out; have hnc18 := NB182_188.out; have hcz19_0 : w17.cell? ⟨gb188, 0, none⟩ = some (.int .u8 0) := (blk_cell BK188.out 0).trans rfl; have hcz19_1 : w17.cell? ⟨gb188, 1, none⟩ = some (.int .u8 0) := (blk_cell BK188.out 1).trans rfl; have hcz19_2 : w17.cell? ⟨gb188, 2, none⟩ = some (.int .u8 0) := (blk_cell BK188.out 2).trans rfl; have hcz19_3 : w17.cell? ⟨gb188, 3, none⟩ = some (.int .u8 0) := (blk_cell BK188.out 3).trans rfl; have hcz19_4 : w17.cell? ⟨gb188, 4, none⟩ = some (.int .i8 0) := (blk_cell BK188.out 4).trans rfl; have hcz19_5 : w17.cell? ⟨gb188, 5, none⟩ = some (.int .i8 0) := (blk_cell BK188.out 5).trans rfl; have hcz19_6 : w17.cell? ⟨gb188, 6, none⟩ = some (.int .u32 0) := (blk_cell BK188.out 6).trans rfl; have hcz19_7 : w17.cell? ⟨gb188, 7, none⟩ = some (.int .u32 0) := (blk_cell BK188.out 7).trans rfl; have hcz19_8 : w17.cell? ⟨gb188, 8, none⟩ = some (.int .u32 0) := (blk_cell BK188.out 8).trans rfl; have hcz19_9 : w17.cell? ⟨gb188, 9, none⟩ = some (.int .u64 0) := (blk_cell BK188.out 9).trans rfl; have hcz19_10 : w17.cell? ⟨gb188, 10, none⟩ = some (.int .u64 0) := (blk_cell BK188.out 10).trans rfl; have hcz19_11 : w17.cell? ⟨gb188, 11, none⟩ = some (.int .u64 0) := (blk_cell BK188.out 11).trans rfl; have hcz19_12 : w17.cell? ⟨gb188, 12, none⟩ = some (.int .u64 0) := (blk_cell BK188.out 12).trans rfl; have hfz19_0 := blk_frozen BK188.out 0; have hfz19_1 := blk_frozen BK188.out 1; have hfz19_2 := blk_frozen BK188.out 2; have hfz19_3 := blk_frozen BK188.out 3; have hfz19_4 := blk_frozen BK188.out 4; have hfz19_5 := blk_frozen BK188.out 5; have hfz19_6 := blk_frozen BK188.out 6; have hfz19_7 := blk_frozen BK188.out 7; have hfz19_8 := blk_frozen BK188.out 8; have hfz19_9 := blk_frozen BK188.out 9; have hfz19_10 := blk_frozen BK188.out 10; have hfz19_11 := blk_frozen BK188.out 11; have hfz19_12 := blk_frozen BK188.out 12))
        repeat (go_quiet (first | ((with_reducible refine gate_dst (N := 7) rfl ?_); (try (refine gate_guard (by rfl) ?_; dsimp only)); refine box_event ?hg (N := 7) ?hd (cs := #[.int .u8 0, .int .u8 0, .int .u8 0, .int .u8 0, .int .i8 0, .int .i8 0, .int .u32 0, .int .u32 0, .int .u32 0, .int .u64 0, .int .u64 0, .int .u64 0, .int .u64 0]) (t := 26) ?hr ?_; (case hd => rfl); (case hg => rfl); (case hr => first | (go_simp; done) | (go_simp; rfl)); intro gb188 hg w17 hbox hb; have n0_ := Aside0.mk (Kd.R_below (by (with_reducible repeat (first | apply Kd.R_alloc | apply Kd.R_drewN | apply Kd.R_drew)); exact HO_5.out) hb); have n1_ := Aside0.mk (blk_below (g := gb182) (o := .cells #[.int .u8 a0_0, .int .u8 a0_1, .int .u8 a0_2, .int .u8 a0_3, .int .i8 a0_4, .int .i8 a0_5, .int .u32 a0_6, .int .u32 a0_7, .int .u32 a0_8, .int .u64 a0_9, .int .u64 a0_10, .int .u64 a0_11, .int .u64 a0_12] 26 (0, 0)) (by (with_reducible repeat (first | refine blk_drewN ?_ _ | refine blk_drew ?_ | refine blk_alloc ?_ _)); exact BK182.out) hb); have n2_ := Aside0.mk (below_step (by repeat (first | (with_reducible first | exact HB.out | apply below_alloc | apply pw_below_drewN | apply below_drew1 | refine below_set ?_ GE182.out) | exact HB.out)) hb); have n3_ := Aside0.mk (hbox); have n4_ := Aside0.mk ((by rw [hg]; exact (below_size (by repeat (first | (with_reducible first | exact HB.out | apply below_alloc | apply pw_below_drewN | apply below_drew1 | refine below_set ?_ GE182.out) | exact HB.out))) : w.heap.size ≤ gb188)); have n5_ := Aside0.mk ((by rw [hg]; exact (below_size (by repeat (first | (with_reducible first | exact HB.out | apply below_alloc | apply pw_below_drewN | apply below_drew1 | refine below_set ?_ GE182.out) | exact HB.out))) : w.heap.size ≤ gb188)); have n6_ := Aside0.mk ((by rw [hg]; exact Nat.ne_of_lt (blk_lt (g := gb182) (o := .cells #[.int .u8 a0_0, .int .u8 a0_1, .int .u8 a0_2, .int .u8 a0_3, .int .i8 a0_4, .int .i8 a0_5, .int .u32 a0_6, .int .u32 a0_7, .int .u32 a0_8, .int .u64 a0_9, .int .u64 a0_10, .int .u64 a0_11, .int .u64 a0_12] 26 (0, 0)) (by (with_reducible repeat (first | refine blk_drewN ?_ _ | refine blk_drew ?_ | refine blk_alloc ?_ _)); exact BK182.out)) : gb182 ≠ gb188)); have n7_ := Aside0.mk ((by rw [hg]; exact Nat.ne_of_gt (blk_lt (g := gb182) (o := .cells #[.int .u8 a0_0, .int .u8 a0_1, .int .u8 a0_2, .int .u8 a0_3, .int .i8 a0_4, .int .i8 a0_5, .int .u32 a0_6, .int .u32 a0_7, .int .u32 a0_8, .int .u64 a0_9, .int .u64 a0_10, .int .u64 a0_11, .int .u64 a0_12] 26 (0, 0)) (by (with_reducible repeat (first | refine blk_drewN ?_ _ | refine blk_drew ?_ | refine blk_alloc ?_ _)); exact BK182.out)) : gb188 ≠ gb182)); clear HO_5; clear BK182; clear HB; have HO_5 := n0_; have BK182 := n1_; have HB := n2_; have BK188 := n3_; have GW188 := n4_; have GE188 := n5_; have NB182_188 := n6_; have NB188_182 := n7_; clear n0_ n1_ n2_ n3_ n4_ n5_ n6_ n7_; clear hb hbox hg; have hnb18 := NB188_182.out; have hnc18 := NB182_188.out; have hcz19_0 : w17.cell? ⟨gb188, 0, none⟩ = some (.int .u8 0) := (blk_cell BK188.out 0).trans rfl; have hcz19_1 : w17.cell? ⟨gb188, 1, none⟩ = some (.int .u8 0) := (blk_cell BK188.out 1).trans rfl; have hcz19_2 : w17.cell? ⟨gb188, 2, none⟩ = some (.int .u8 0) := (blk_cell BK188.out 2).trans rfl; have hcz19_3 : w17.cell? ⟨gb188, 3, none⟩ = some (.int .u8 0) := (blk_cell BK188.out 3).trans rfl; have hcz19_4 : w17.cell? ⟨gb188, 4, none⟩ = some (.int .i8 0) := (blk_cell BK188.out 4).trans rfl; have hcz19_5 : w17.cell? ⟨gb188, 5, none⟩ = some (.int .i8 0) := (blk_cell BK188.out 5).trans rfl; have hcz19_6 : w17.cell? ⟨gb188, 6, none⟩ = some (.int .u32 0) := (blk_cell BK188.out 6).trans rfl; have hcz19_7 : w17.cell? ⟨gb188, 7, none⟩ = some (.int .u32 0) := (blk_cell BK188.out 7).trans rfl; have hcz19_8 : w17.cell? ⟨gb188, 8, none⟩ = some (.int .u32 0) := (blk_cell BK188.out 8).trans rfl; have hcz19_9 : w17.cell? ⟨gb188, 9, none⟩ = some (.int .u64 0) := (blk_cell BK188.out 9).trans rfl; have hcz19_10 : w17.cell? ⟨gb188, 10, none⟩ = some (.int .u64 0) := (blk_cell BK188.out 10).trans rfl; have hcz19_11 : w17.cell? ⟨gb188, 11, none⟩ = some (.int .u64 0) := (blk_cell BK188.out 11).trans rfl; have hcz19_12 : w17.cell? ⟨gb188, 12, none⟩ = some (.int .u64 0) := (blk_cell BK188.out 12).trans rfl; have hfz19_0 := blk_frozen BK188.out 0; have hfz19_1 := blk_frozen BK188.out 1; have hfz19_2 := blk_frozen BK188.out 2; have hfz19_3 := blk_frozen BK188.out 3; have hfz19_4 := blk_frozen BK188.out 4; have hfz19_5 := blk_frozen BK188.out 5; have hfz19_6 := blk_frozen BK188.out 6; have hfz19_7 := blk_frozen BK188.out 7; have hfz19_8 := blk_frozen BK188.out 8; have hfz19_9 := blk_frozen BK188.out 9; have hfz19_10 := blk_frozen BK188.out 10; have hfz19_11 := blk_frozen BK188.out 11; have hfz19_12 := blk_frozen BK188.out 12)); go_upto_block 0 with (first | ((with_reducible refine gate_dst (N := 7) rfl ?_); (try (refine gate_guard (by rfl) ?_; dsimp only)); refine box_event ?hg (N := 7) ?hd (cs := #[.int .u8 0, .int .u8 0, .int .u8 0, .int .u8 0, .int .i8 0, .int .i8 0, .int .u32 0, .int .u32 0, .int .u32 0, .int .u64 0, .int .u64 0, .int .u64 0, .int .u64 0]) (t := 26) ?hr ?_; (case hd => rfl); (case hg => rfl); (case hr => first | (go_simp; done) | (go_simp; rfl)); intro gb188 hg w17 hbox hb; have n0_ := Aside0.mk (Kd.R_below (by (with_reducible repeat (first | apply Kd.R_alloc | apply Kd.R_drewN | apply Kd.R_drew)); exact HO_5.out) hb); have n1_ := Aside0.mk (blk_below (g := gb182) (o := .cells #[.int .u8 a0_0, .int .u8 a0_1, .int .u8 a0_2, .int .u8 a0_3, .int .i8 a0_4, .int .i8 a0_5, .int .u32 a0_6, .int .u32 a0_7, .int .u32 a0_8, .int .u64 a0_9, .int .u64 a0_10, .int .u64 a0_11, .int .u64 a0_12] 26 (0, 0)) (by (with_reducible repeat (first | refine blk_drewN ?_ _ | refine blk_drew ?_ | refine blk_alloc ?_ _)); exact BK182.out) hb); have n2_ := Aside0.mk (below_step (by repeat (first | (with_reducible first | exact HB.out | apply below_alloc | apply pw_below_drewN | apply below_drew1 | refine below_set ?_ GE182.out) | exact HB.out)) hb); have n3_ := Aside0.mk (hbox); have n4_ := Aside0.mk ((by rw [hg]; exact (below_size (by repeat (first | (with_reducible first | exact HB.out | apply below_alloc | apply pw_below_drewN | apply below_drew1 | refine below_set ?_ GE182.out) | exact HB.out))) : w.heap.size ≤ gb188)); have n5_ := Aside0.mk ((by rw [hg]; exact (below_size (by repeat (first | (with_reducible first | exact HB.out | apply below_alloc | apply pw_below_drewN | apply below_drew1 | refine below_set ?_ GE182.out) | exact HB.out))) : w.heap.size ≤ gb188)); have n6_ := Aside0.mk ((by rw [hg]; exact Nat.ne_of_lt (blk_lt (g := gb182) (o := .cells #[.int .u8 a0_0, .int .u8 a0_1, .int .u8 a0_2, .int .u8 a0_3, .int .i8 a0_4, .int .i8 a0_5, .int .u32 a0_6, .int .u32 a0_7, .int .u32 a0_8, .int .u64 a0_9, .int .u64 a0_10, .int .u64 a0_11, .int .u64 a0_12] 26 (0, 0)) (by (with_reducible repeat (first | refine blk_drewN ?_ _ | refine blk_drew ?_ | refine blk_alloc ?_ _)); exact BK182.out)) : gb182 ≠ gb188)); have n7_ := Aside0.mk ((by rw [hg]; exact Nat.ne_of_gt (blk_lt (g := gb182) (o := .cells #[.int .u8 a0_0, .int .u8 a0_1, .int .u8 a0_2, .int .u8 a0_3, .int .i8 a0_4, .int .i8 a0_5, .int .u32 a0_6, .int .u32 a0_7, .int .u32 a0_8, .int .u64 a0_9, .int .u64 a0_10, .int .u64 a0_11, .int .u64 a0_12] 26 (0, 0)) (by (with_reducible repeat (first | refine blk_drewN ?_ _ | refine blk_drew ?_ | refine blk_alloc ?_ _)); exact BK182.out)) : gb188 ≠ gb182)); clear HO_5; clear BK182; clear HB; have HO_5 := n0_; have BK182 := n1_; have HB := n2_; have BK188 := n3_; have GW188 := n4_; have GE188 := n5_; have NB182_188 := n6_; have NB188_182 := n7_; clear n0_ n1_ n2_ n3_ n4_ n5_ n6_ n7_; clear hb hbox hg; have hnb18 := NB188_182.out; have hnc18 := NB182_188.out; have hcz19_0 : w17.cell? ⟨gb188, 0, none⟩ = some (.int .u8 0) := (blk_cell BK188.out 0).trans rfl; have hcz19_1 : w17.cell? ⟨gb188, 1, none⟩ = some (.int .u8 0) := (blk_cell BK188.out 1).trans rfl; have hcz19_2 : w17.cell? ⟨gb188, 2, none⟩ = some (.int .u8 0) := (blk_cell BK188.out 2).trans rfl; have hcz19_3 : w17.cell? ⟨gb188, 3, none⟩ = some (.int .u8 0) := (blk_cell BK188.out 3).trans rfl; have hcz19_4 : w17.cell? ⟨gb188, 4, none⟩ = some (.int .i8 0) := (blk_cell BK188.out 4).trans rfl; have hcz19_5 : w17.cell? ⟨gb188, 5, none⟩ = some (.int .i8 0) := (blk_cell BK188.out 5).trans rfl; have hcz19_6 : w17.cell? ⟨gb188, 6, none⟩ = some (.int .u32 0) := (blk_cell BK188.out 6).trans rfl; have hcz19_7 : w17.cell? ⟨gb188, 7, none⟩ = some (.int .u32 0) := (blk_cell BK188.out 7).trans rfl; have hcz19_8 : w17.cell? ⟨gb188, 8, none⟩ = some (.int .u32 0) := (blk_cell BK188.out 8).trans rfl; have hcz19_9 : w17.cell? ⟨gb188, 9, none⟩ = some (.int .u64 0) := (blk_cell BK188.out 9).trans rfl; have hcz19_10 : w17.cell? ⟨gb188, 10, none⟩ = some (.int .u64 0) := (blk_cell BK188.out 10).trans rfl; have hcz19_11 : w17.cell? ⟨gb188, 11, none⟩ = some (.int .u64 0) := (blk_cell BK188.out 11).trans rfl; have hcz19_12 : w17.cell? ⟨gb188, 12, none⟩ = some (.int .u64 0) := (blk_cell BK188.out 12).trans rfl; have hfz19_0 := blk_frozen BK188.out 0; have hfz19_1 := blk_frozen BK188.out 1; have hfz19_2 := blk_frozen BK188.out 2; have hfz19_3 := blk_frozen BK188.out 3; have hfz19_4 := blk_frozen BK188.out 4; have hfz19_5 := blk_frozen BK188.out 5; have hfz19_6 := blk_frozen BK188.out 6; have hfz19_7 := blk_frozen BK188.out 7; have hfz19_8 := blk_frozen BK188.out 8; have hfz19_9 := blk_frozen BK188.out 9; have hfz19_10 := blk_frozen BK188.out 10; have hfz19_11 := blk_frozen BK188.out 11; have hfz19_12 := blk_frozen BK188.out 12)))
        (try simp only [Act.put, List.setIfInBounds_toArray, List.set_cons_zero, List.set_cons_succ])
        go_cut [8, 9] (fun v8 v9 wc => ∃ (kq : Nat) (x8_14 : Int) (x9_14 : Int) (x189000_14 : Int) (x189001_14 : Int) (x189002_14 : Int) (x189003_14 : Int) (x189004_14 : Int) (x189005_14 : Int) (x189006_14 : Int) (x189007_14 : Int) (x189008_14 : Int) (x189010_14 : Int) (x189012_14 : Int), v8 = .int .i64 x8_14 ∧ v9 = .int .i64 x9_14 ∧ Aside0 (chronobatelaw03_PacketFields.j1 kq t183 x8_14 x9_14 x189000_14 x189001_14 x189002_14 x189003_14 x189004_14 x189005_14 x189006_14 x189007_14 x189008_14 a0_9 x189010_14 a0_11 x189012_14 = some r) ∧ Aside0 (kq ≤ kj3) ∧ Aside0 (Kd.R (Kd.int .u8) 5 wc w.heap.size (fun _ => True) v184 t183) ∧ Aside0 (wc.heap[gb182]? = some (.cells #[.int .u8 a0_0, .int .u8 a0_1, .int .u8 a0_2, .int .u8 a0_3, .int .i8 a0_4, .int .i8 a0_5, .int .u32 a0_6, .int .u32 a0_7, .int .u32 a0_8, .int .u64 a0_9, .int .u64 a0_10, .int .u64 a0_11, .int .u64 a0_12] 26 (0, 0))) ∧ Aside0 (wc.heap[gb188]? = some (.cells #[.int .u8 x189000_14, .int .u8 x189001_14, .int .u8 x189002_14, .int .u8 x189003_14, .int .i8 x189004_14, .int .i8 x189005_14, .int .u32 x189006_14, .int .u32 x189007_14, .int .u32 x189008_14, .int .u64 a0_9, .int .u64 x189010_14, .int .u64 a0_11, .int .u64 x189012_14] 26 (0, 0))) ∧ Aside0 (Below w.heap.size w wc))
        case first =>
          have H := HC15.out
          clear HC15
          by_cases c20 : (Int.tmod a1 11) = 0
          · rw [if_pos c20] at H
            have c20b0 : ((Int.tmod a1 11) == 0) = true := beq_iff_eq.mpr c20
            have c20b1 : ((Int.tmod a1 11) != 0) = false := bne_eq_false_iff_eq.mpr c20
            clear c20
            (first | rw [c20b0] | (simp only [i64_w, i32_w]; rw [c20b0]) | skip)
            have H' := Aside0.mk H
            clear H
            have hnb21 := NB188_182.out
            have hnc21 := NB182_188.out
            have hcz22_0 : w17.cell? ⟨gb188, 0, none⟩ = some (.int .u8 0) := (blk_cell BK188.out 0).trans rfl
            have hcz22_1 : w17.cell? ⟨gb188, 1, none⟩ = some (.int .u8 0) := (blk_cell BK188.out 1).trans rfl
            have hcz22_2 : w17.cell? ⟨gb188, 2, none⟩ = some (.int .u8 0) := (blk_cell BK188.out 2).trans rfl
            have hcz22_3 : w17.cell? ⟨gb188, 3, none⟩ = some (.int .u8 0) := (blk_cell BK188.out 3).trans rfl
            have hcz22_4 : w17.cell? ⟨gb188, 4, none⟩ = some (.int .i8 0) := (blk_cell BK188.out 4).trans rfl
            have hcz22_5 : w17.cell? ⟨gb188, 5, none⟩ = some (.int .i8 0) := (blk_cell BK188.out 5).trans rfl
            have hcz22_6 : w17.cell? ⟨gb188, 6, none⟩ = some (.int .u32 0) := (blk_cell BK188.out 6).trans rfl
            have hcz22_7 : w17.cell? ⟨gb188, 7, none⟩ = some (.int .u32 0) := (blk_cell BK188.out 7).trans rfl
            have hcz22_8 : w17.cell? ⟨gb188, 8, none⟩ = some (.int .u32 0) := (blk_cell BK188.out 8).trans rfl
            have hcz22_9 : w17.cell? ⟨gb188, 9, none⟩ = some (.int .u64 0) := (blk_cell BK188.out 9).trans rfl
            have hcz22_10 : w17.cell? ⟨gb188, 10, none⟩ = some (.int .u64 0) := (blk_cell BK188.out 10).trans rfl
            have hcz22_11 : w17.cell? ⟨gb188, 11, none⟩ = some (.int .u64 0) := (blk_cell BK188.out 11).trans rfl
            have hcz22_12 : w17.cell? ⟨gb188, 12, none⟩ = some (.int .u64 0) := (blk_cell BK188.out 12).trans rfl
            have hfz22_0 := blk_frozen BK188.out 0
            have hfz22_1 := blk_frozen BK188.out 1
            have hfz22_2 := blk_frozen BK188.out 2
            have hfz22_3 := blk_frozen BK188.out 3
            have hfz22_4 := blk_frozen BK188.out 4
            have hfz22_5 := blk_frozen BK188.out 5
            have hfz22_6 := blk_frozen BK188.out 6
            have hfz22_7 := blk_frozen BK188.out 7
            have hfz22_8 := blk_frozen BK188.out 8
            have hfz22_9 := blk_frozen BK188.out 9
            have hfz22_10 := blk_frozen BK188.out 10
            have hfz22_11 := blk_frozen BK188.out 11
            have hfz22_12 := blk_frozen BK188.out 12
            go_wp2
            repeat (go_quiet (fail); try go_wp2)
            go_meet
            case rel => exact ⟨_, (0), (1), (Go.bits .xor .u8 a0_0 1), (a0_1), (a0_2), (a0_3), (a0_4), (a0_5), (a0_6), (a0_7), (a0_8), (a0_10), (a0_12), (by first | rfl | (simp; done) | (simp [*]; done)), (by first | rfl | (simp; done) | (simp [*]; done)), H', ⟨by have := HJ3.out; first | omega | exact Nat.le_refl _⟩, ⟨by (with_reducible repeat (first | apply Kd.R_alloc | apply Kd.R_drewN | apply Kd.R_drew)); exact Kd.R_mono (Kd.R_far (p := ⟨gb188, 0, none⟩) (Kd.R_far (p := ⟨gb188, 12, none⟩) (Kd.R_far (p := ⟨gb188, 11, none⟩) (Kd.R_far (p := ⟨gb188, 10, none⟩) (Kd.R_far (p := ⟨gb188, 9, none⟩) (Kd.R_far (p := ⟨gb188, 8, none⟩) (Kd.R_far (p := ⟨gb188, 7, none⟩) (Kd.R_far (p := ⟨gb188, 6, none⟩) (Kd.R_far (p := ⟨gb188, 5, none⟩) (Kd.R_far (p := ⟨gb188, 4, none⟩) (Kd.R_far (p := ⟨gb188, 3, none⟩) (Kd.R_far (p := ⟨gb188, 2, none⟩) (Kd.R_far (p := ⟨gb188, 1, none⟩) (Kd.R_far (p := ⟨gb188, 0, none⟩) (Kd.R_types HO_5.out BK188.out (by decide)) (fun _ hk => hk.2) (.int .u8 a0_0)) (fun _ hk => hk.2) (.int .u8 a0_1)) (fun _ hk => hk.2) (.int .u8 a0_2)) (fun _ hk => hk.2) (.int .u8 a0_3)) (fun _ hk => hk.2) (.int .i8 a0_4)) (fun _ hk => hk.2) (.int .i8 a0_5)) (fun _ hk => hk.2) (.int .u32 a0_6)) (fun _ hk => hk.2) (.int .u32 a0_7)) (fun _ hk => hk.2) (.int .u32 a0_8)) (fun _ hk => hk.2) (.int .u64 a0_9)) (fun _ hk => hk.2) (.int .u64 a0_10)) (fun _ hk => hk.2) (.int .u64 a0_11)) (fun _ hk => hk.2) (.int .u64 a0_12)) (fun _ hk => hk.2) (.int .u8 (Go.bits .xor .u8 a0_0 1))) (fun _ hk => trivial)⟩, ⟨by (with_reducible repeat (first | refine blk_drewN ?_ _ | refine blk_drew ?_ | refine blk_alloc ?_ _)); refine blk_far ?_ NB182_188.out _; (with_reducible repeat (first | refine blk_drewN ?_ _ | refine blk_drew ?_ | refine blk_alloc ?_ _)); refine blk_far ?_ NB182_188.out _; (with_reducible repeat (first | refine blk_drewN ?_ _ | refine blk_drew ?_ | refine blk_alloc ?_ _)); refine blk_far ?_ NB182_188.out _; (with_reducible repeat (first | refine blk_drewN ?_ _ | refine blk_drew ?_ | refine blk_alloc ?_ _)); refine blk_far ?_ NB182_188.out _; (with_reducible repeat (first | refine blk_drewN ?_ _ | refine blk_drew ?_ | refine blk_alloc ?_ _)); refine blk_far ?_ NB182_188.out _; (with_reducible repeat (first | refine blk_drewN ?_ _ | refine blk_drew ?_ | refine blk_alloc ?_ _)); refine blk_far ?_ NB182_188.out _; (with_reducible repeat (first | refine blk_drewN ?_ _ | refine blk_drew ?_ | refine blk_alloc ?_ _)); refine blk_far ?_ NB182_188.out _; (with_reducible repeat (first | refine blk_drewN ?_ _ | refine blk_drew ?_ | refine blk_alloc ?_ _)); refine blk_far ?_ NB182_188.out _; (with_reducible repeat (first | refine blk_drewN ?_ _ | refine blk_drew ?_ | refine blk_alloc ?_ _)); refine blk_far ?_ NB182_188.out _; (with_reducible repeat (first | refine blk_drewN ?_ _ | refine blk_drew ?_ | refine blk_alloc ?_ _)); refine blk_far ?_ NB182_188.out _; (with_reducible repeat (first | refine blk_drewN ?_ _ | refine blk_drew ?_ | refine blk_alloc ?_ _)); refine blk_far ?_ NB182_188.out _; (with_reducible repeat (first | refine blk_drewN ?_ _ | refine blk_drew ?_ | refine blk_alloc ?_ _)); refine blk_far ?_ NB182_188.out _; (with_reducible repeat (first | refine blk_drewN ?_ _ | refine blk_drew ?_ | refine blk_alloc ?_ _)); refine blk_far ?_ NB182_188.out _; (with_reducible repeat (first | refine blk_drewN ?_ _ | refine blk_drew ?_ | refine blk_alloc ?_ _)); refine blk_far ?_ NB182_188.out _; (with_reducible repeat (first | refine blk_drewN ?_ _ | refine blk_drew ?_ | refine blk_alloc ?_ _)); exact BK182.out⟩, ⟨by (with_reducible repeat (first | refine blk_drewN ?_ _ | refine blk_drew ?_ | refine blk_alloc ?_ _)); refine blk_put (cs := #[.int .u8 a0_0, .int .u8 a0_1, .int .u8 a0_2, .int .u8 a0_3, .int .i8 a0_4, .int .i8 a0_5, .int .u32 a0_6, .int .u32 a0_7, .int .u32 a0_8, .int .u64 a0_9, .int .u64 a0_10, .int .u64 a0_11, .int .u64 a0_12]) ?_ 0 _ rfl; (with_reducible repeat (first | refine blk_drewN ?_ _ | refine blk_drew ?_ | refine blk_alloc ?_ _)); refine blk_put (cs := #[.int .u8 a0_0, .int .u8 a0_1, .int .u8 a0_2, .int .u8 a0_3, .int .i8 a0_4, .int .i8 a0_5, .int .u32 a0_6, .int .u32 a0_7, .int .u32 a0_8, .int .u64 a0_9, .int .u64 a0_10, .int .u64 a0_11, .int .u64 0]) ?_ 12 _ rfl; (with_reducible repeat (first | refine blk_drewN ?_ _ | refine blk_drew ?_ | refine blk_alloc ?_ _)); refine blk_put (cs := #[.int .u8 a0_0, .int .u8 a0_1, .int .u8 a0_2, .int .u8 a0_3, .int .i8 a0_4, .int .i8 a0_5, .int .u32 a0_6, .int .u32 a0_7, .int .u32 a0_8, .int .u64 a0_9, .int .u64 a0_10, .int .u64 0, .int .u64 0]) ?_ 11 _ rfl; (with_reducible repeat (first | refine blk_drewN ?_ _ | refine blk_drew ?_ | refine blk_alloc ?_ _)); refine blk_put (cs := #[.int .u8 a0_0, .int .u8 a0_1, .int .u8 a0_2, .int .u8 a0_3, .int .i8 a0_4, .int .i8 a0_5, .int .u32 a0_6, .int .u32 a0_7, .int .u32 a0_8, .int .u64 a0_9, .int .u64 0, .int .u64 0, .int .u64 0]) ?_ 10 _ rfl; (with_reducible repeat (first | refine blk_drewN ?_ _ | refine blk_drew ?_ | refine blk_alloc ?_ _)); refine blk_put (cs := #[.int .u8 a0_0, .int .u8 a0_1, .int .u8 a0_2, .int .u8 a0_3, .int .i8 a0_4, .int .i8 a0_5, .int .u32 a0_6, .int .u32 a0_7, .int .u32 a0_8, .int .u64 0, .int .u64 0, .int .u64 0, .int .u64 0]) ?_ 9 _ rfl; (with_reducible repeat (first | refine blk_drewN ?_ _ | refine blk_drew ?_ | refine blk_alloc ?_ _)); refine blk_put (cs := #[.int .u8 a0_0, .int .u8 a0_1, .int .u8 a0_2, .int .u8 a0_3, .int .i8 a0_4, .int .i8 a0_5, .int .u32 a0_6, .int .u32 a0_7, .int .u32 0, .int .u64 0, .int .u64 0, .int .u64 0, .int .u64 0]) ?_ 8 _ rfl; (with_reducible repeat (first | refine blk_drewN ?_ _ | refine blk_drew ?_ | refine blk_alloc ?_ _)); refine blk_put (cs := #[.int .u8 a0_0, .int .u8 a0_1, .int .u8 a0_2, .int .u8 a0_3, .int .i8 a0_4, .int .i8 a0_5, .int .u32 a0_6, .int .u32 0, .int .u32 0, .int .u64 0, .int .u64 0, .int .u64 0, .int .u64 0]) ?_ 7 _ rfl; (with_reducible repeat (first | refine blk_drewN ?_ _ | refine blk_drew ?_ | refine blk_alloc ?_ _)); refine blk_put (cs := #[.int .u8 a0_0, .int .u8 a0_1, .int .u8 a0_2, .int .u8 a0_3, .int .i8 a0_4, .int .i8 a0_5, .int .u32 0, .int .u32 0, .int .u32 0, .int .u64 0, .int .u64 0, .int .u64 0, .int .u64 0]) ?_ 6 _ rfl; (with_reducible repeat (first | refine blk_drewN ?_ _ | refine blk_drew ?_ | refine blk_alloc ?_ _)); refine blk_put (cs := #[.int .u8 a0_0, .int .u8 a0_1, .int .u8 a0_2, .int .u8 a0_3, .int .i8 a0_4, .int .i8 0, .int .u32 0, .int .u32 0, .int .u32 0, .int .u64 0, .int .u64 0, .int .u64 0, .int .u64 0]) ?_ 5 _ rfl; (with_reducible repeat (first | refine blk_drewN ?_ _ | refine blk_drew ?_ | refine blk_alloc ?_ _)); refine blk_put (cs := #[.int .u8 a0_0, .int .u8 a0_1, .int .u8 a0_2, .int .u8 a0_3, .int .i8 0, .int .i8 0, .int .u32 0, .int .u32 0, .int .u32 0, .int .u64 0, .int .u64 0, .int .u64 0, .int .u64 0]) ?_ 4 _ rfl; (with_reducible repeat (first | refine blk_drewN ?_ _ | refine blk_drew ?_ | refine blk_alloc ?_ _)); refine blk_put (cs := #[.int .u8 a0_0, .int .u8 a0_1, .int .u8 a0_2, .int .u8 0, .int .i8 0, .int .i8 0, .int .u32 0, .int .u32 0, .int .u32 0, .int .u64 0, .int .u64 0, .int .u64 0, .int .u64 0]) ?_ 3 _ rfl; (with_reducible repeat (first | refine blk_drewN ?_ _ | refine blk_drew ?_ | refine blk_alloc ?_ _)); refine blk_put (cs := #[.int .u8 a0_0, .int .u8 a0_1, .int .u8 0, .int .u8 0, .int .i8 0, .int .i8 0, .int .u32 0, .int .u32 0, .int .u32 0, .int .u64 0, .int .u64 0, .int .u64 0, .int .u64 0]) ?_ 2 _ rfl; (with_reducible repeat (first | refine blk_drewN ?_ _ | refine blk_drew ?_ | refine blk_alloc ?_ _)); refine blk_put (cs := #[.int .u8 a0_0, .int .u8 0, .int .u8 0, .int .u8 0, .int .i8 0, .int .i8 0, .int .u32 0, .int .u32 0, .int .u32 0, .int .u64 0, .int .u64 0, .int .u64 0, .int .u64 0]) ?_ 1 _ rfl; (with_reducible repeat (first | refine blk_drewN ?_ _ | refine blk_drew ?_ | refine blk_alloc ?_ _)); refine blk_put (cs := #[.int .u8 0, .int .u8 0, .int .u8 0, .int .u8 0, .int .i8 0, .int .i8 0, .int .u32 0, .int .u32 0, .int .u32 0, .int .u64 0, .int .u64 0, .int .u64 0, .int .u64 0]) ?_ 0 _ rfl; (with_reducible repeat (first | refine blk_drewN ?_ _ | refine blk_drew ?_ | refine blk_alloc ?_ _)); exact BK188.out⟩, ⟨by repeat (first | (with_reducible first | exact HB.out | apply below_alloc | apply pw_below_drewN | apply below_drew1 | refine below_set ?_ GE182.out | refine below_set ?_ GE188.out) | exact HB.out)⟩⟩
          · rw [if_neg c20] at H
            have c20b0 : ((Int.tmod a1 11) == 0) = false := beq_eq_false_iff_ne.mpr c20
            have c20b1 : ((Int.tmod a1 11) != 0) = true := bne_iff_ne.mpr c20
            (first | rw [c20b0] | (simp only [i64_w, i32_w]; rw [c20b0]) | skip)
            by_cases c23 : (Int.tmod a1 11) = 1
            · rw [if_pos c23] at H
              have c23b0 : ((Int.tmod a1 11) == 1) = true := beq_iff_eq.mpr c23
              have c23b1 : ((Int.tmod a1 11) != 1) = false := bne_eq_false_iff_eq.mpr c23
              clear c23
              have H' := Aside0.mk H
              clear H
              have hnb24 := NB188_182.out
              have hnc24 := NB182_188.out
              have hcz25_0 : w17.cell? ⟨gb188, 0, none⟩ = some (.int .u8 0) := (blk_cell BK188.out 0).trans rfl
              have hcz25_1 : w17.cell? ⟨gb188, 1, none⟩ = some (.int .u8 0) := (blk_cell BK188.out 1).trans rfl
              have hcz25_2 : w17.cell? ⟨gb188, 2, none⟩ = some (.int .u8 0) := (blk_cell BK188.out 2).trans rfl
              have hcz25_3 : w17.cell? ⟨gb188, 3, none⟩ = some (.int .u8 0) := (blk_cell BK188.out 3).trans rfl
              have hcz25_4 : w17.cell? ⟨gb188, 4, none⟩ = some (.int .i8 0) := (blk_cell BK188.out 4).trans rfl
              have hcz25_5 : w17.cell? ⟨gb188, 5, none⟩ = some (.int .i8 0) := (blk_cell BK188.out 5).trans rfl
              have hcz25_6 : w17.cell? ⟨gb188, 6, none⟩ = some (.int .u32 0) := (blk_cell BK188.out 6).trans rfl
              have hcz25_7 : w17.cell? ⟨gb188, 7, none⟩ = some (.int .u32 0) := (blk_cell BK188.out 7).trans rfl
              have hcz25_8 : w17.cell? ⟨gb188, 8, none⟩ = some (.int .u32 0) := (blk_cell BK188.out 8).trans rfl
              have hcz25_9 : w17.cell? ⟨gb188, 9, none⟩ = some (.int .u64 0) := (blk_cell BK188.out 9).trans rfl
              have hcz25_10 : w17.cell? ⟨gb188, 10, none⟩ = some (.int .u64 0) := (blk_cell BK188.out 10).trans rfl
              have hcz25_11 : w17.cell? ⟨gb188, 11, none⟩ = some (.int .u64 0) := (blk_cell BK188.out 11).trans rfl
              have hcz25_12 : w17.cell? ⟨gb188, 12, none⟩ = some (.int .u64 0) := (blk_cell BK188.out 12).trans rfl
              have hfz25_0 := blk_frozen BK188.out 0
              have hfz25_1 := blk_frozen BK188.out 1
              have hfz25_2 := blk_frozen BK188.out 2
              have hfz25_3 := blk_frozen BK188.out 3
              have hfz25_4 := blk_frozen BK188.out 4
              have hfz25_5 := blk_frozen BK188.out 5
              have hfz25_6 := blk_frozen BK188.out 6
              have hfz25_7 := blk_frozen BK188.out 7
              have hfz25_8 := blk_frozen BK188.out 8
              have hfz25_9 := blk_frozen BK188.out 9
              have hfz25_10 := blk_frozen BK188.out 10
              have hfz25_11 := blk_frozen BK188.out 11
              have hfz25_12 := blk_frozen BK188.out 12
              go_wp2
              repeat (go_quiet (fail); try go_wp2)
              go_meet
              case rel => exact ⟨_, (0), (1), (a0_0), (Go.bits .xor .u8 a0_1 1), (a0_2), (a0_3), (a0_4), (a0_5), (a0_6), (a0_7), (a0_8), (a0_10), (a0_12), (by first | rfl | (simp; done) | (simp [*]; done)), (by first | rfl | (simp; done) | (simp [*]; done)), H', ⟨by have := HJ3.out; first | omega | exact Nat.le_refl _⟩, ⟨by (with_reducible repeat (first | apply Kd.R_alloc | apply Kd.R_drewN | apply Kd.R_drew)); exact Kd.R_mono (Kd.R_far (p := ⟨gb188, 1, none⟩) (Kd.R_far (p := ⟨gb188, 12, none⟩) (Kd.R_far (p := ⟨gb188, 11, none⟩) (Kd.R_far (p := ⟨gb188, 10, none⟩) (Kd.R_far (p := ⟨gb188, 9, none⟩) (Kd.R_far (p := ⟨gb188, 8, none⟩) (Kd.R_far (p := ⟨gb188, 7, none⟩) (Kd.R_far (p := ⟨gb188, 6, none⟩) (Kd.R_far (p := ⟨gb188, 5, none⟩) (Kd.R_far (p := ⟨gb188, 4, none⟩) (Kd.R_far (p := ⟨gb188, 3, none⟩) (Kd.R_far (p := ⟨gb188, 2, none⟩) (Kd.R_far (p := ⟨gb188, 1, none⟩) (Kd.R_far (p := ⟨gb188, 0, none⟩) (Kd.R_types HO_5.out BK188.out (by decide)) (fun _ hk => hk.2) (.int .u8 a0_0)) (fun _ hk => hk.2) (.int .u8 a0_1)) (fun _ hk => hk.2) (.int .u8 a0_2)) (fun _ hk => hk.2) (.int .u8 a0_3)) (fun _ hk => hk.2) (.int .i8 a0_4)) (fun _ hk => hk.2) (.int .i8 a0_5)) (fun _ hk => hk.2) (.int .u32 a0_6)) (fun _ hk => hk.2) (.int .u32 a0_7)) (fun _ hk => hk.2) (.int .u32 a0_8)) (fun _ hk => hk.2) (.int .u64 a0_9)) (fun _ hk => hk.2) (.int .u64 a0_10)) (fun _ hk => hk.2) (.int .u64 a0_11)) (fun _ hk => hk.2) (.int .u64 a0_12)) (fun _ hk => hk.2) (.int .u8 (Go.bits .xor .u8 a0_1 1))) (fun _ hk => trivial)⟩, ⟨by (with_reducible repeat (first | refine blk_drewN ?_ _ | refine blk_drew ?_ | refine blk_alloc ?_ _)); refine blk_far ?_ NB182_188.out _; (with_reducible repeat (first | refine blk_drewN ?_ _ | refine blk_drew ?_ | refine blk_alloc ?_ _)); refine blk_far ?_ NB182_188.out _; (with_reducible repeat (first | refine blk_drewN ?_ _ | refine blk_drew ?_ | refine blk_alloc ?_ _)); refine blk_far ?_ NB182_188.out _; (with_reducible repeat (first | refine blk_drewN ?_ _ | refine blk_drew ?_ | refine blk_alloc ?_ _)); refine blk_far ?_ NB182_188.out _; (with_reducible repeat (first | refine blk_drewN ?_ _ | refine blk_drew ?_ | refine blk_alloc ?_ _)); refine blk_far ?_ NB182_188.out _; (with_reducible repeat (first | refine blk_drewN ?_ _ | refine blk_drew ?_ | refine blk_alloc ?_ _)); refine blk_far ?_ NB182_188.out _; (with_reducible repeat (first | refine blk_drewN ?_ _ | refine blk_drew ?_ | refine blk_alloc ?_ _)); refine blk_far ?_ NB182_188.out _; (with_reducible repeat (first | refine blk_drewN ?_ _ | refine blk_drew ?_ | refine blk_alloc ?_ _)); refine blk_far ?_ NB182_188.out _; (with_reducible repeat (first | refine blk_drewN ?_ _ | refine blk_drew ?_ | refine blk_alloc ?_ _)); refine blk_far ?_ NB182_188.out _; (with_reducible repeat (first | refine blk_drewN ?_ _ | refine blk_drew ?_ | refine blk_alloc ?_ _)); refine blk_far ?_ NB182_188.out _; (with_reducible repeat (first | refine blk_drewN ?_ _ | refine blk_drew ?_ | refine blk_alloc ?_ _)); refine blk_far ?_ NB182_188.out _; (with_reducible repeat (first | refine blk_drewN ?_ _ | refine blk_drew ?_ | refine blk_alloc ?_ _)); refine blk_far ?_ NB182_188.out _; (with_reducible repeat (first | refine blk_drewN ?_ _ | refine blk_drew ?_ | refine blk_alloc ?_ _)); refine blk_far ?_ NB182_188.out _; (with_reducible repeat (first | refine blk_drewN ?_ _ | refine blk_drew ?_ | refine blk_alloc ?_ _)); refine blk_far ?_ NB182_188.out _; (with_reducible repeat (first | refine blk_drewN ?_ _ | refine blk_drew ?_ | refine blk_alloc ?_ _)); exact BK182.out⟩, ⟨by (with_reducible repeat (first | refine blk_drewN ?_ _ | refine blk_drew ?_ | refine blk_alloc ?_ _)); refine blk_put (cs := #[.int .u8 a0_0, .int .u8 a0_1, .int .u8 a0_2, .int .u8 a0_3, .int .i8 a0_4, .int .i8 a0_5, .int .u32 a0_6, .int .u32 a0_7, .int .u32 a0_8, .int .u64 a0_9, .int .u64 a0_10, .int .u64 a0_11, .int .u64 a0_12]) ?_ 1 _ rfl; (with_reducible repeat (first | refine blk_drewN ?_ _ | refine blk_drew ?_ | refine blk_alloc ?_ _)); refine blk_put (cs := #[.int .u8 a0_0, .int .u8 a0_1, .int .u8 a0_2, .int .u8 a0_3, .int .i8 a0_4, .int .i8 a0_5, .int .u32 a0_6, .int .u32 a0_7, .int .u32 a0_8, .int .u64 a0_9, .int .u64 a0_10, .int .u64 a0_11, .int .u64 0]) ?_ 12 _ rfl; (with_reducible repeat (first | refine blk_drewN ?_ _ | refine blk_drew ?_ | refine blk_alloc ?_ _)); refine blk_put (cs := #[.int .u8 a0_0, .int .u8 a0_1, .int .u8 a0_2, .int .u8 a0_3, .int .i8 a0_4, .int .i8 a0_5, .int .u32 a0_6, .int .u32 a0_7, .int .u32 a0_8, .int .u64 a0_9, .int .u64 a0_10, .int .u64 0, .int .u64 0]) ?_ 11 _ rfl; (with_reducible repeat (first | refine blk_drewN ?_ _ | refine blk_drew ?_ | refine blk_alloc ?_ _)); refine blk_put (cs := #[.int .u8 a0_0, .int .u8 a0_1, .int .u8 a0_2, .int .u8 a0_3, .int .i8 a0_4, .int .i8 a0_5, .int .u32 a0_6, .int .u32 a0_7, .int .u32 a0_8, .int .u64 a0_9, .int .u64 0, .int .u64 0, .int .u64 0]) ?_ 10 _ rfl; (with_reducible repeat (first | refine blk_drewN ?_ _ | refine blk_drew ?_ | refine blk_alloc ?_ _)); refine blk_put (cs := #[.int .u8 a0_0, .int .u8 a0_1, .int .u8 a0_2, .int .u8 a0_3, .int .i8 a0_4, .int .i8 a0_5, .int .u32 a0_6, .int .u32 a0_7, .int .u32 a0_8, .int .u64 0, .int .u64 0, .int .u64 0, .int .u64 0]) ?_ 9 _ rfl; (with_reducible repeat (first | refine blk_drewN ?_ _ | refine blk_drew ?_ | refine blk_alloc ?_ _)); refine blk_put (cs := #[.int .u8 a0_0, .int .u8 a0_1, .int .u8 a0_2, .int .u8 a0_3, .int .i8 a0_4, .int .i8 a0_5, .int .u32 a0_6, .int .u32 a0_7, .int .u32 0, .int .u64 0, .int .u64 0, .int .u64 0, .int .u64 0]) ?_ 8 _ rfl; (with_reducible repeat (first | refine blk_drewN ?_ _ | refine blk_drew ?_ | refine blk_alloc ?_ _)); refine blk_put (cs := #[.int .u8 a0_0, .int .u8 a0_1, .int .u8 a0_2, .int .u8 a0_3, .int .i8 a0_4, .int .i8 a0_5, .int .u32 a0_6, .int .u32 0, .int .u32 0, .int .u64 0, .int .u64 0, .int .u64 0, .int .u64 0]) ?_ 7 _ rfl; (with_reducible repeat (first | refine blk_drewN ?_ _ | refine blk_drew ?_ | refine blk_alloc ?_ _)); refine blk_put (cs := #[.int .u8 a0_0, .int .u8 a0_1, .int .u8 a0_2, .int .u8 a0_3, .int .i8 a0_4, .int .i8 a0_5, .int .u32 0, .int .u32 0, .int .u32 0, .int .u64 0, .int .u64 0, .int .u64 0, .int .u64 0]) ?_ 6 _ rfl; (with_reducible repeat (first | refine blk_drewN ?_ _ | refine blk_drew ?_ | refine blk_alloc ?_ _)); refine blk_put (cs := #[.int .u8 a0_0, .int .u8 a0_1, .int .u8 a0_2, .int .u8 a0_3, .int .i8 a0_4, .int .i8 0, .int .u32 0, .int .u32 0, .int .u32 0, .int .u64 0, .int .u64 0, .int .u64 0, .int .u64 0]) ?_ 5 _ rfl; (with_reducible repeat (first | refine blk_drewN ?_ _ | refine blk_drew ?_ | refine blk_alloc ?_ _)); refine blk_put (cs := #[.int .u8 a0_0, .int .u8 a0_1, .int .u8 a0_2, .int .u8 a0_3, .int .i8 0, .int .i8 0, .int .u32 0, .int .u32 0, .int .u32 0, .int .u64 0, .int .u64 0, .int .u64 0, .int .u64 0]) ?_ 4 _ rfl; (with_reducible repeat (first | refine blk_drewN ?_ _ | refine blk_drew ?_ | refine blk_alloc ?_ _)); refine blk_put (cs := #[.int .u8 a0_0, .int .u8 a0_1, .int .u8 a0_2, .int .u8 0, .int .i8 0, .int .i8 0, .int .u32 0, .int .u32 0, .int .u32 0, .int .u64 0, .int .u64 0, .int .u64 0, .int .u64 0]) ?_ 3 _ rfl; (with_reducible repeat (first | refine blk_drewN ?_ _ | refine blk_drew ?_ | refine blk_alloc ?_ _)); refine blk_put (cs := #[.int .u8 a0_0, .int .u8 a0_1, .int .u8 0, .int .u8 0, .int .i8 0, .int .i8 0, .int .u32 0, .int .u32 0, .int .u32 0, .int .u64 0, .int .u64 0, .int .u64 0, .int .u64 0]) ?_ 2 _ rfl; (with_reducible repeat (first | refine blk_drewN ?_ _ | refine blk_drew ?_ | refine blk_alloc ?_ _)); refine blk_put (cs := #[.int .u8 a0_0, .int .u8 0, .int .u8 0, .int .u8 0, .int .i8 0, .int .i8 0, .int .u32 0, .int .u32 0, .int .u32 0, .int .u64 0, .int .u64 0, .int .u64 0, .int .u64 0]) ?_ 1 _ rfl; (with_reducible repeat (first | refine blk_drewN ?_ _ | refine blk_drew ?_ | refine blk_alloc ?_ _)); refine blk_put (cs := #[.int .u8 0, .int .u8 0, .int .u8 0, .int .u8 0, .int .i8 0, .int .i8 0, .int .u32 0, .int .u32 0, .int .u32 0, .int .u64 0, .int .u64 0, .int .u64 0, .int .u64 0]) ?_ 0 _ rfl; (with_reducible repeat (first | refine blk_drewN ?_ _ | refine blk_drew ?_ | refine blk_alloc ?_ _)); exact BK188.out⟩, ⟨by repeat (first | (with_reducible first | exact HB.out | apply below_alloc | apply pw_below_drewN | apply below_drew1 | refine below_set ?_ GE182.out | refine below_set ?_ GE188.out) | exact HB.out)⟩⟩
            · rw [if_neg c23] at H
              have c23b0 : ((Int.tmod a1 11) == 1) = false := beq_eq_false_iff_ne.mpr c23
              have c23b1 : ((Int.tmod a1 11) != 1) = true := bne_iff_ne.mpr c23
              by_cases c26 : (Int.tmod a1 11) = 2
              · rw [if_pos c26] at H
                have c26b0 : ((Int.tmod a1 11) == 2) = true := beq_iff_eq.mpr c26
                have c26b1 : ((Int.tmod a1 11) != 2) = false := bne_eq_false_iff_eq.mpr c26
                clear c26
                have H' := Aside0.mk H
                clear H
                have hnb27 := NB188_182.out
                have hnc27 := NB182_188.out
                have hcz28_0 : w17.cell? ⟨gb188, 0, none⟩ = some (.int .u8 0) := (blk_cell BK188.out 0).trans rfl
                have hcz28_1 : w17.cell? ⟨gb188, 1, none⟩ = some (.int .u8 0) := (blk_cell BK188.out 1).trans rfl
                have hcz28_2 : w17.cell? ⟨gb188, 2, none⟩ = some (.int .u8 0) := (blk_cell BK188.out 2).trans rfl
                have hcz28_3 : w17.cell? ⟨gb188, 3, none⟩ = some (.int .u8 0) := (blk_cell BK188.out 3).trans rfl
                have hcz28_4 : w17.cell? ⟨gb188, 4, none⟩ = some (.int .i8 0) := (blk_cell BK188.out 4).trans rfl
                have hcz28_5 : w17.cell? ⟨gb188, 5, none⟩ = some (.int .i8 0) := (blk_cell BK188.out 5).trans rfl
                have hcz28_6 : w17.cell? ⟨gb188, 6, none⟩ = some (.int .u32 0) := (blk_cell BK188.out 6).trans rfl
                have hcz28_7 : w17.cell? ⟨gb188, 7, none⟩ = some (.int .u32 0) := (blk_cell BK188.out 7).trans rfl
                have hcz28_8 : w17.cell? ⟨gb188, 8, none⟩ = some (.int .u32 0) := (blk_cell BK188.out 8).trans rfl
                have hcz28_9 : w17.cell? ⟨gb188, 9, none⟩ = some (.int .u64 0) := (blk_cell BK188.out 9).trans rfl
                have hcz28_10 : w17.cell? ⟨gb188, 10, none⟩ = some (.int .u64 0) := (blk_cell BK188.out 10).trans rfl
                have hcz28_11 : w17.cell? ⟨gb188, 11, none⟩ = some (.int .u64 0) := (blk_cell BK188.out 11).trans rfl
                have hcz28_12 : w17.cell? ⟨gb188, 12, none⟩ = some (.int .u64 0) := (blk_cell BK188.out 12).trans rfl
                have hfz28_0 := blk_frozen BK188.out 0
                have hfz28_1 := blk_frozen BK188.out 1
                have hfz28_2 := blk_frozen BK188.out 2
                have hfz28_3 := blk_frozen BK188.out 3
                have hfz28_4 := blk_frozen BK188.out 4
                have hfz28_5 := blk_frozen BK188.out 5
                have hfz28_6 := blk_frozen BK188.out 6
                have hfz28_7 := blk_frozen BK188.out 7
                have hfz28_8 := blk_frozen BK188.out 8
                have hfz28_9 := blk_frozen BK188.out 9
                have hfz28_10 := blk_frozen BK188.out 10
                have hfz28_11 := blk_frozen BK188.out 11
                have hfz28_12 := blk_frozen BK188.out 12
                go_wp2
                repeat (go_quiet (fail); try go_wp2)
                go_meet
                case rel => exact ⟨_, (0), (1), (a0_0), (a0_1), (Go.bits .xor .u8 a0_2 1), (a0_3), (a0_4), (a0_5), (a0_6), (a0_7), (a0_8), (a0_10), (a0_12), (by first | rfl | (simp; done) | (simp [*]; done)), (by first | rfl | (simp; done) | (simp [*]; done)), H', ⟨by have := HJ3.out; first | omega | exact Nat.le_refl _⟩, ⟨by (with_reducible repeat (first | apply Kd.R_alloc | apply Kd.R_drewN | apply Kd.R_drew)); exact Kd.R_mono (Kd.R_far (p := ⟨gb188, 2, none⟩) (Kd.R_far (p := ⟨gb188, 12, none⟩) (Kd.R_far (p := ⟨gb188, 11, none⟩) (Kd.R_far (p := ⟨gb188, 10, none⟩) (Kd.R_far (p := ⟨gb188, 9, none⟩) (Kd.R_far (p := ⟨gb188, 8, none⟩) (Kd.R_far (p := ⟨gb188, 7, none⟩) (Kd.R_far (p := ⟨gb188, 6, none⟩) (Kd.R_far (p := ⟨gb188, 5, none⟩) (Kd.R_far (p := ⟨gb188, 4, none⟩) (Kd.R_far (p := ⟨gb188, 3, none⟩) (Kd.R_far (p := ⟨gb188, 2, none⟩) (Kd.R_far (p := ⟨gb188, 1, none⟩) (Kd.R_far (p := ⟨gb188, 0, none⟩) (Kd.R_types HO_5.out BK188.out (by decide)) (fun _ hk => hk.2) (.int .u8 a0_0)) (fun _ hk => hk.2) (.int .u8 a0_1)) (fun _ hk => hk.2) (.int .u8 a0_2)) (fun _ hk => hk.2) (.int .u8 a0_3)) (fun _ hk => hk.2) (.int .i8 a0_4)) (fun _ hk => hk.2) (.int .i8 a0_5)) (fun _ hk => hk.2) (.int .u32 a0_6)) (fun _ hk => hk.2) (.int .u32 a0_7)) (fun _ hk => hk.2) (.int .u32 a0_8)) (fun _ hk => hk.2) (.int .u64 a0_9)) (fun _ hk => hk.2) (.int .u64 a0_10)) (fun _ hk => hk.2) (.int .u64 a0_11)) (fun _ hk => hk.2) (.int .u64 a0_12)) (fun _ hk => hk.2) (.int .u8 (Go.bits .xor .u8 a0_2 1))) (fun _ hk => trivial)⟩, ⟨by (with_reducible repeat (first | refine blk_drewN ?_ _ | refine blk_drew ?_ | refine blk_alloc ?_ _)); refine blk_far ?_ NB182_188.out _; (with_reducible repeat (first | refine blk_drewN ?_ _ | refine blk_drew ?_ | refine blk_alloc ?_ _)); refine blk_far ?_ NB182_188.out _; (with_reducible repeat (first | refine blk_drewN ?_ _ | refine blk_drew ?_ | refine blk_alloc ?_ _)); refine blk_far ?_ NB182_188.out _; (with_reducible repeat (first | refine blk_drewN ?_ _ | refine blk_drew ?_ | refine blk_alloc ?_ _)); refine blk_far ?_ NB182_188.out _; (with_reducible repeat (first | refine blk_drewN ?_ _ | refine blk_drew ?_ | refine blk_alloc ?_ _)); refine blk_far ?_ NB182_188.out _; (with_reducible repeat (first | refine blk_drewN ?_ _ | refine blk_drew ?_ | refine blk_alloc ?_ _)); refine blk_far ?_ NB182_188.out _; (with_reducible repeat (first | refine blk_drewN ?_ _ | refine blk_drew ?_ | refine blk_alloc ?_ _)); refine blk_far ?_ NB182_188.out _; (with_reducible repeat (first | refine blk_drewN ?_ _ | refine blk_drew ?_ | refine blk_alloc ?_ _)); refine blk_far ?_ NB182_188.out _; (with_reducible repeat (first | refine blk_drewN ?_ _ | refine blk_drew ?_ | refine blk_alloc ?_ _)); refine blk_far ?_ NB182_188.out _; (with_reducible repeat (first | refine blk_drewN ?_ _ | refine blk_drew ?_ | refine blk_alloc ?_ _)); refine blk_far ?_ NB182_188.out _; (with_reducible repeat (first | refine blk_drewN ?_ _ | refine blk_drew ?_ | refine blk_alloc ?_ _)); refine blk_far ?_ NB182_188.out _; (with_reducible repeat (first | refine blk_drewN ?_ _ | refine blk_drew ?_ | refine blk_alloc ?_ _)); refine blk_far ?_ NB182_188.out _; (with_reducible repeat (first | refine blk_drewN ?_ _ | refine blk_drew ?_ | refine blk_alloc ?_ _)); refine blk_far ?_ NB182_188.out _; (with_reducible repeat (first | refine blk_drewN ?_ _ | refine blk_drew ?_ | refine blk_alloc ?_ _)); refine blk_far ?_ NB182_188.out _; (with_reducible repeat (first | refine blk_drewN ?_ _ | refine blk_drew ?_ | refine blk_alloc ?_ _)); exact BK182.out⟩, ⟨by (with_reducible repeat (first | refine blk_drewN ?_ _ | refine blk_drew ?_ | refine blk_alloc ?_ _)); refine blk_put (cs := #[.int .u8 a0_0, .int .u8 a0_1, .int .u8 a0_2, .int .u8 a0_3, .int .i8 a0_4, .int .i8 a0_5, .int .u32 a0_6, .int .u32 a0_7, .int .u32 a0_8, .int .u64 a0_9, .int .u64 a0_10, .int .u64 a0_11, .int .u64 a0_12]) ?_ 2 _ rfl; (with_reducible repeat (first | refine blk_drewN ?_ _ | refine blk_drew ?_ | refine blk_alloc ?_ _)); refine blk_put (cs := #[.int .u8 a0_0, .int .u8 a0_1, .int .u8 a0_2, .int .u8 a0_3, .int .i8 a0_4, .int .i8 a0_5, .int .u32 a0_6, .int .u32 a0_7, .int .u32 a0_8, .int .u64 a0_9, .int .u64 a0_10, .int .u64 a0_11, .int .u64 0]) ?_ 12 _ rfl; (with_reducible repeat (first | refine blk_drewN ?_ _ | refine blk_drew ?_ | refine blk_alloc ?_ _)); refine blk_put (cs := #[.int .u8 a0_0, .int .u8 a0_1, .int .u8 a0_2, .int .u8 a0_3, .int .i8 a0_4, .int .i8 a0_5, .int .u32 a0_6, .int .u32 a0_7, .int .u32 a0_8, .int .u64 a0_9, .int .u64 a0_10, .int .u64 0, .int .u64 0]) ?_ 11 _ rfl; (with_reducible repeat (first | refine blk_drewN ?_ _ | refine blk_drew ?_ | refine blk_alloc ?_ _)); refine blk_put (cs := #[.int .u8 a0_0, .int .u8 a0_1, .int .u8 a0_2, .int .u8 a0_3, .int .i8 a0_4, .int .i8 a0_5, .int .u32 a0_6, .int .u32 a0_7, .int .u32 a0_8, .int .u64 a0_9, .int .u64 0, .int .u64 0, .int .u64 0]) ?_ 10 _ rfl; (with_reducible repeat (first | refine blk_drewN ?_ _ | refine blk_drew ?_ | refine blk_alloc ?_ _)); refine blk_put (cs := #[.int .u8 a0_0, .int .u8 a0_1, .int .u8 a0_2, .int .u8 a0_3, .int .i8 a0_4, .int .i8 a0_5, .int .u32 a0_6, .int .u32 a0_7, .int .u32 a0_8, .int .u64 0, .int .u64 0, .int .u64 0, .int .u64 0]) ?_ 9 _ rfl; (with_reducible repeat (first | refine blk_drewN ?_ _ | refine blk_drew ?_ | refine blk_alloc ?_ _)); refine blk_put (cs := #[.int .u8 a0_0, .int .u8 a0_1, .int .u8 a0_2, .int .u8 a0_3, .int .i8 a0_4, .int .i8 a0_5, .int .u32 a0_6, .int .u32 a0_7, .int .u32 0, .int .u64 0, .int .u64 0, .int .u64 0, .int .u64 0]) ?_ 8 _ rfl; (with_reducible repeat (first | refine blk_drewN ?_ _ | refine blk_drew ?_ | refine blk_alloc ?_ _)); refine blk_put (cs := #[.int .u8 a0_0, .int .u8 a0_1, .int .u8 a0_2, .int .u8 a0_3, .int .i8 a0_4, .int .i8 a0_5, .int .u32 a0_6, .int .u32 0, .int .u32 0, .int .u64 0, .int .u64 0, .int .u64 0, .int .u64 0]) ?_ 7 _ rfl; (with_reducible repeat (first | refine blk_drewN ?_ _ | refine blk_drew ?_ | refine blk_alloc ?_ _)); refine blk_put (cs := #[.int .u8 a0_0, .int .u8 a0_1, .int .u8 a0_2, .int .u8 a0_3, .int .i8 a0_4, .int .i8 a0_5, .int .u32 0, .int .u32 0, .int .u32 0, .int .u64 0, .int .u64 0, .int .u64 0, .int .u64 0]) ?_ 6 _ rfl; (with_reducible repeat (first | refine blk_drewN ?_ _ | refine blk_drew ?_ | refine blk_alloc ?_ _)); refine blk_put (cs := #[.int .u8 a0_0, .int .u8 a0_1, .int .u8 a0_2, .int .u8 a0_3, .int .i8 a0_4, .int .i8 0, .int .u32 0, .int .u32 0, .int .u32 0, .int .u64 0, .int .u64 0, .int .u64 0, .int .u64 0]) ?_ 5 _ rfl; (with_reducible repeat (first | refine blk_drewN ?_ _ | refine blk_drew ?_ | refine blk_alloc ?_ _)); refine blk_put (cs := #[.int .u8 a0_0, .int .u8 a0_1, .int .u8 a0_2, .int .u8 a0_3, .int .i8 0, .int .i8 0, .int .u32 0, .int .u32 0, .int .u32 0, .int .u64 0, .int .u64 0, .int .u64 0, .int .u64 0]) ?_ 4 _ rfl; (with_reducible repeat (first | refine blk_drewN ?_ _ | refine blk_drew ?_ | refine blk_alloc ?_ _)); refine blk_put (cs := #[.int .u8 a0_0, .int .u8 a0_1, .int .u8 a0_2, .int .u8 0, .int .i8 0, .int .i8 0, .int .u32 0, .int .u32 0, .int .u32 0, .int .u64 0, .int .u64 0, .int .u64 0, .int .u64 0]) ?_ 3 _ rfl; (with_reducible repeat (first | refine blk_drewN ?_ _ | refine blk_drew ?_ | refine blk_alloc ?_ _)); refine blk_put (cs := #[.int .u8 a0_0, .int .u8 a0_1, .int .u8 0, .int .u8 0, .int .i8 0, .int .i8 0, .int .u32 0, .int .u32 0, .int .u32 0, .int .u64 0, .int .u64 0, .int .u64 0, .int .u64 0]) ?_ 2 _ rfl; (with_reducible repeat (first | refine blk_drewN ?_ _ | refine blk_drew ?_ | refine blk_alloc ?_ _)); refine blk_put (cs := #[.int .u8 a0_0, .int .u8 0, .int .u8 0, .int .u8 0, .int .i8 0, .int .i8 0, .int .u32 0, .int .u32 0, .int .u32 0, .int .u64 0, .int .u64 0, .int .u64 0, .int .u64 0]) ?_ 1 _ rfl; (with_reducible repeat (first | refine blk_drewN ?_ _ | refine blk_drew ?_ | refine blk_alloc ?_ _)); refine blk_put (cs := #[.int .u8 0, .int .u8 0, .int .u8 0, .int .u8 0, .int .i8 0, .int .i8 0, .int .u32 0, .int .u32 0, .int .u32 0, .int .u64 0, .int .u64 0, .int .u64 0, .int .u64 0]) ?_ 0 _ rfl; (with_reducible repeat (first | refine blk_drewN ?_ _ | refine blk_drew ?_ | refine blk_alloc ?_ _)); exact BK188.out⟩, ⟨by repeat (first | (with_reducible first | exact HB.out | apply below_alloc | apply pw_below_drewN | apply below_drew1 | refine below_set ?_ GE182.out | refine below_set ?_ GE188.out) | exact HB.out)⟩⟩
              · rw [if_neg c26] at H
                have c26b0 : ((Int.tmod a1 11) == 2) = false := beq_eq_false_iff_ne.mpr c26
                have c26b1 : ((Int.tmod a1 11) != 2) = true := bne_iff_ne.mpr c26
                by_cases c29 : (Int.tmod a1 11) = 3
                · rw [if_pos c29] at H
                  have c29b0 : ((Int.tmod a1 11) == 3) = true := beq_iff_eq.mpr c29
                  have c29b1 : ((Int.tmod a1 11) != 3) = false := bne_eq_false_iff_eq.mpr c29
                  clear c29
                  have H' := Aside0.mk H
                  clear H
                  have hnb30 := NB182_188.out
                  have hnc30 := NB188_182.out
                  have hcz31_0 : w17.cell? ⟨gb182, 0, none⟩ = some (.int .u8 a0_0) := (blk_cell BK182.out 0).trans rfl
                  have hcz31_1 : w17.cell? ⟨gb182, 1, none⟩ = some (.int .u8 a0_1) := (blk_cell BK182.out 1).trans rfl
                  have hcz31_2 : w17.cell? ⟨gb182, 2, none⟩ = some (.int .u8 a0_2) := (blk_cell BK182.out 2).trans rfl
                  have hcz31_3 : w17.cell? ⟨gb182, 3, none⟩ = some (.int .u8 a0_3) := (blk_cell BK182.out 3).trans rfl
                  have hcz31_4 : w17.cell? ⟨gb182, 4, none⟩ = some (.int .i8 a0_4) := (blk_cell BK182.out 4).trans rfl
                  have hcz31_5 : w17.cell? ⟨gb182, 5, none⟩ = some (.int .i8 a0_5) := (blk_cell BK182.out 5).trans rfl
                  have hcz31_6 : w17.cell? ⟨gb182, 6, none⟩ = some (.int .u32 a0_6) := (blk_cell BK182.out 6).trans rfl
                  have hcz31_7 : w17.cell? ⟨gb182, 7, none⟩ = some (.int .u32 a0_7) := (blk_cell BK182.out 7).trans rfl
                  have hcz31_8 : w17.cell? ⟨gb182, 8, none⟩ = some (.int .u32 a0_8) := (blk_cell BK182.out 8).trans rfl
                  have hcz31_9 : w17.cell? ⟨gb182, 9, none⟩ = some (.int .u64 a0_9) := (blk_cell BK182.out 9).trans rfl
                  have hcz31_10 : w17.cell? ⟨gb182, 10, none⟩ = some (.int .u64 a0_10) := (blk_cell BK182.out 10).trans rfl
                  have hcz31_11 : w17.cell? ⟨gb182, 11, none⟩ = some (.int .u64 a0_11) := (blk_cell BK182.out 11).trans rfl
                  have hcz31_12 : w17.cell? ⟨gb182, 12, none⟩ = some (.int .u64 a0_12) := (blk_cell BK182.out 12).trans rfl
                  have hfz31_0 := blk_frozen BK182.out 0
                  have hfz31_1 := blk_frozen BK182.out 1
                  have hfz31_2 := blk_frozen BK182.out 2
                  have hfz31_3 := blk_frozen BK182.out 3
                  have hfz31_4 := blk_frozen BK182.out 4
                  have hfz31_5 := blk_frozen BK182.out 5
                  have hfz31_6 := blk_frozen BK182.out 6
                  have hfz31_7 := blk_frozen BK182.out 7
                  have hfz31_8 := blk_frozen BK182.out 8
                  have hfz31_9 := blk_frozen BK182.out 9
                  have hfz31_10 := blk_frozen BK182.out 10
                  have hfz31_11 := blk_frozen BK182.out 11
                  have hfz31_12 := blk_frozen BK182.out 12
                  have hcz32_0 : w17.cell? ⟨gb188, 0, none⟩ = some (.int .u8 0) := (blk_cell BK188.out 0).trans rfl
                  have hcz32_1 : w17.cell? ⟨gb188, 1, none⟩ = some (.int .u8 0) := (blk_cell BK188.out 1).trans rfl
                  have hcz32_2 : w17.cell? ⟨gb188, 2, none⟩ = some (.int .u8 0) := (blk_cell BK188.out 2).trans rfl
                  have hcz32_3 : w17.cell? ⟨gb188, 3, none⟩ = some (.int .u8 0) := (blk_cell BK188.out 3).trans rfl
                  have hcz32_4 : w17.cell? ⟨gb188, 4, none⟩ = some (.int .i8 0) := (blk_cell BK188.out 4).trans rfl
                  have hcz32_5 : w17.cell? ⟨gb188, 5, none⟩ = some (.int .i8 0) := (blk_cell BK188.out 5).trans rfl
                  have hcz32_6 : w17.cell? ⟨gb188, 6, none⟩ = some (.int .u32 0) := (blk_cell BK188.out 6).trans rfl
                  have hcz32_7 : w17.cell? ⟨gb188, 7, none⟩ = some (.int .u32 0) := (blk_cell BK188.out 7).trans rfl
                  have hcz32_8 : w17.cell? ⟨gb188, 8, none⟩ = some (.int .u32 0) := (blk_cell BK188.out 8).trans rfl
                  have hcz32_9 : w17.cell? ⟨gb188, 9, none⟩ = some (.int .u64 0) := (blk_cell BK188.out 9).trans rfl
                  have hcz32_10 : w17.cell? ⟨gb188, 10, none⟩ = some (.int .u64 0) := (blk_cell BK188.out 10).trans rfl
                  have hcz32_11 : w17.cell? ⟨gb188, 11, none⟩ = some (.int .u64 0) := (blk_cell BK188.out 11).trans rfl
                  have hcz32_12 : w17.cell? ⟨gb188, 12, none⟩ = some (.int .u64 0) := (blk_cell BK188.out 12).trans rfl
                  have hfz32_0 := blk_frozen BK188.out 0
                  have hfz32_1 := blk_frozen BK188.out 1
                  have hfz32_2 := blk_frozen BK188.out 2
                  have hfz32_3 := blk_frozen BK188.out 3
                  have hfz32_4 := blk_frozen BK188.out 4
                  have hfz32_5 := blk_frozen BK188.out 5
                  have hfz32_6 := blk_frozen BK188.out 6
                  have hfz32_7 := blk_frozen BK188.out 7
                  have hfz32_8 := blk_frozen BK188.out 8
                  have hfz32_9 := blk_frozen BK188.out 9
                  have hfz32_10 := blk_frozen BK188.out 10
                  have hfz32_11 := blk_frozen BK188.out 11
                  have hfz32_12 := blk_frozen BK188.out 12
                  go_wp2
                  repeat (go_quiet (fail); try go_wp2)
                  go_meet
                  case rel => exact ⟨_, (1), (2), (a0_0), (a0_1), (a0_2), (Go.bits .xor .u8 255 a0_3), (a0_4), (a0_5), (a0_6), (a0_7), (a0_8), (a0_10), (a0_12), (by first | rfl | (simp; done) | (simp [*]; done)), (by first | rfl | (simp; done) | (simp [*]; done)), H', ⟨by have := HJ3.out; first | omega | exact Nat.le_refl _⟩, ⟨by (with_reducible repeat (first | apply Kd.R_alloc | apply Kd.R_drewN | apply Kd.R_drew)); exact Kd.R_mono (Kd.R_far (p := ⟨gb188, 3, none⟩) (Kd.R_far (p := ⟨gb188, 12, none⟩) (Kd.R_far (p := ⟨gb188, 11, none⟩) (Kd.R_far (p := ⟨gb188, 10, none⟩) (Kd.R_far (p := ⟨gb188, 9, none⟩) (Kd.R_far (p := ⟨gb188, 8, none⟩) (Kd.R_far (p := ⟨gb188, 7, none⟩) (Kd.R_far (p := ⟨gb188, 6, none⟩) (Kd.R_far (p := ⟨gb188, 5, none⟩) (Kd.R_far (p := ⟨gb188, 4, none⟩) (Kd.R_far (p := ⟨gb188, 3, none⟩) (Kd.R_far (p := ⟨gb188, 2, none⟩) (Kd.R_far (p := ⟨gb188, 1, none⟩) (Kd.R_far (p := ⟨gb188, 0, none⟩) (Kd.R_types HO_5.out BK188.out (by decide)) (fun _ hk => hk.2) (.int .u8 a0_0)) (fun _ hk => hk.2) (.int .u8 a0_1)) (fun _ hk => hk.2) (.int .u8 a0_2)) (fun _ hk => hk.2) (.int .u8 a0_3)) (fun _ hk => hk.2) (.int .i8 a0_4)) (fun _ hk => hk.2) (.int .i8 a0_5)) (fun _ hk => hk.2) (.int .u32 a0_6)) (fun _ hk => hk.2) (.int .u32 a0_7)) (fun _ hk => hk.2) (.int .u32 a0_8)) (fun _ hk => hk.2) (.int .u64 a0_9)) (fun _ hk => hk.2) (.int .u64 a0_10)) (fun _ hk => hk.2) (.int .u64 a0_11)) (fun _ hk => hk.2) (.int .u64 a0_12)) (fun _ hk => hk.2) (.int .u8 (Go.bits .xor .u8 255 a0_3))) (fun _ hk => trivial)⟩, ⟨by (with_reducible repeat (first | refine blk_drewN ?_ _ | refine blk_drew ?_ | refine blk_alloc ?_ _)); refine blk_far ?_ NB182_188.out _; (with_reducible repeat (first | refine blk_drewN ?_ _ | refine blk_drew ?_ | refine blk_alloc ?_ _)); refine blk_far ?_ NB182_188.out _; (with_reducible repeat (first | refine blk_drewN ?_ _ | refine blk_drew ?_ | refine blk_alloc ?_ _)); refine blk_far ?_ NB182_188.out _; (with_reducible repeat (first | refine blk_drewN ?_ _ | refine blk_drew ?_ | refine blk_alloc ?_ _)); refine blk_far ?_ NB182_188.out _; (with_reducible repeat (first | refine blk_drewN ?_ _ | refine blk_drew ?_ | refine blk_alloc ?_ _)); refine blk_far ?_ NB182_188.out _; (with_reducible repeat (first | refine blk_drewN ?_ _ | refine blk_drew ?_ | refine blk_alloc ?_ _)); refine blk_far ?_ NB182_188.out _; (with_reducible repeat (first | refine blk_drewN ?_ _ | refine blk_drew ?_ | refine blk_alloc ?_ _)); refine blk_far ?_ NB182_188.out _; (with_reducible repeat (first | refine blk_drewN ?_ _ | refine blk_drew ?_ | refine blk_alloc ?_ _)); refine blk_far ?_ NB182_188.out _; (with_reducible repeat (first | refine blk_drewN ?_ _ | refine blk_drew ?_ | refine blk_alloc ?_ _)); refine blk_far ?_ NB182_188.out _; (with_reducible repeat (first | refine blk_drewN ?_ _ | refine blk_drew ?_ | refine blk_alloc ?_ _)); refine blk_far ?_ NB182_188.out _; (with_reducible repeat (first | refine blk_drewN ?_ _ | refine blk_drew ?_ | refine blk_alloc ?_ _)); refine blk_far ?_ NB182_188.out _; (with_reducible repeat (first | refine blk_drewN ?_ _ | refine blk_drew ?_ | refine blk_alloc ?_ _)); refine blk_far ?_ NB182_188.out _; (with_reducible repeat (first | refine blk_drewN ?_ _ | refine blk_drew ?_ | refine blk_alloc ?_ _)); refine blk_far ?_ NB182_188.out _; (with_reducible repeat (first | refine blk_drewN ?_ _ | refine blk_drew ?_ | refine blk_alloc ?_ _)); refine blk_far ?_ NB182_188.out _; (with_reducible repeat (first | refine blk_drewN ?_ _ | refine blk_drew ?_ | refine blk_alloc ?_ _)); exact BK182.out⟩, ⟨by (with_reducible repeat (first | refine blk_drewN ?_ _ | refine blk_drew ?_ | refine blk_alloc ?_ _)); refine blk_put (cs := #[.int .u8 a0_0, .int .u8 a0_1, .int .u8 a0_2, .int .u8 a0_3, .int .i8 a0_4, .int .i8 a0_5, .int .u32 a0_6, .int .u32 a0_7, .int .u32 a0_8, .int .u64 a0_9, .int .u64 a0_10, .int .u64 a0_11, .int .u64 a0_12]) ?_ 3 _ rfl; (with_reducible repeat (first | refine blk_drewN ?_ _ | refine blk_drew ?_ | refine blk_alloc ?_ _)); refine blk_put (cs := #[.int .u8 a0_0, .int .u8 a0_1, .int .u8 a0_2, .int .u8 a0_3, .int .i8 a0_4, .int .i8 a0_5, .int .u32 a0_6, .int .u32 a0_7, .int .u32 a0_8, .int .u64 a0_9, .int .u64 a0_10, .int .u64 a0_11, .int .u64 0]) ?_ 12 _ rfl; (with_reducible repeat (first | refine blk_drewN ?_ _ | refine blk_drew ?_ | refine blk_alloc ?_ _)); refine blk_put (cs := #[.int .u8 a0_0, .int .u8 a0_1, .int .u8 a0_2, .int .u8 a0_3, .int .i8 a0_4, .int .i8 a0_5, .int .u32 a0_6, .int .u32 a0_7, .int .u32 a0_8, .int .u64 a0_9, .int .u64 a0_10, .int .u64 0, .int .u64 0]) ?_ 11 _ rfl; (with_reducible repeat (first | refine blk_drewN ?_ _ | refine blk_drew ?_ | refine blk_alloc ?_ _)); refine blk_put (cs := #[.int .u8 a0_0, .int .u8 a0_1, .int .u8 a0_2, .int .u8 a0_3, .int .i8 a0_4, .int .i8 a0_5, .int .u32 a0_6, .int .u32 a0_7, .int .u32 a0_8, .int .u64 a0_9, .int .u64 0, .int .u64 0, .int .u64 0]) ?_ 10 _ rfl; (with_reducible repeat (first | refine blk_drewN ?_ _ | refine blk_drew ?_ | refine blk_alloc ?_ _)); refine blk_put (cs := #[.int .u8 a0_0, .int .u8 a0_1, .int .u8 a0_2, .int .u8 a0_3, .int .i8 a0_4, .int .i8 a0_5, .int .u32 a0_6, .int .u32 a0_7, .int .u32 a0_8, .int .u64 0, .int .u64 0, .int .u64 0, .int .u64 0]) ?_ 9 _ rfl; (with_reducible repeat (first | refine blk_drewN ?_ _ | refine blk_drew ?_ | refine blk_alloc ?_ _)); refine blk_put (cs := #[.int .u8 a0_0, .int .u8 a0_1, .int .u8 a0_2, .int .u8 a0_3, .int .i8 a0_4, .int .i8 a0_5, .int .u32 a0_6, .int .u32 a0_7, .int .u32 0, .int .u64 0, .int .u64 0, .int .u64 0, .int .u64 0]) ?_ 8 _ rfl; (with_reducible repeat (first | refine blk_drewN ?_ _ | refine blk_drew ?_ | refine blk_alloc ?_ _)); refine blk_put (cs := #[.int .u8 a0_0, .int .u8 a0_1, .int .u8 a0_2, .int .u8 a0_3, .int .i8 a0_4, .int .i8 a0_5, .int .u32 a0_6, .int .u32 0, .int .u32 0, .int .u64 0, .int .u64 0, .int .u64 0, .int .u64 0]) ?_ 7 _ rfl; (with_reducible repeat (first | refine blk_drewN ?_ _ | refine blk_drew ?_ | refine blk_alloc ?_ _)); refine blk_put (cs := #[.int .u8 a0_0, .int .u8 a0_1, .int .u8 a0_2, .int .u8 a0_3, .int .i8 a0_4, .int .i8 a0_5, .int .u32 0, .int .u32 0, .int .u32 0, .int .u64 0, .int .u64 0, .int .u64 0, .int .u64 0]) ?_ 6 _ rfl; (with_reducible repeat (first | refine blk_drewN ?_ _ | refine blk_drew ?_ | refine blk_alloc ?_ _)); refine blk_put (cs := #[.int .u8 a0_0, .int .u8 a0_1, .int .u8 a0_2, .int .u8 a0_3, .int .i8 a0_4, .int .i8 0, .int .u32 0, .int .u32 0, .int .u32 0, .int .u64 0, .int .u64 0, .int .u64 0, .int .u64 0]) ?_ 5 _ rfl; (with_reducible repeat (first | refine blk_drewN ?_ _ | refine blk_drew ?_ | refine blk_alloc ?_ _)); refine blk_put (cs := #[.int .u8 a0_0, .int .u8 a0_1, .int .u8 a0_2, .int .u8 a0_3, .int .i8 0, .int .i8 0, .int .u32 0, .int .u32 0, .int .u32 0, .int .u64 0, .int .u64 0, .int .u64 0, .int .u64 0]) ?_ 4 _ rfl; (with_reducible repeat (first | refine blk_drewN ?_ _ | refine blk_drew ?_ | refine blk_alloc ?_ _)); refine blk_put (cs := #[.int .u8 a0_0, .int .u8 a0_1, .int .u8 a0_2, .int .u8 0, .int .i8 0, .int .i8 0, .int .u32 0, .int .u32 0, .int .u32 0, .int .u64 0, .int .u64 0, .int .u64 0, .int .u64 0]) ?_ 3 _ rfl; (with_reducible repeat (first | refine blk_drewN ?_ _ | refine blk_drew ?_ | refine blk_alloc ?_ _)); refine blk_put (cs := #[.int .u8 a0_0, .int .u8 a0_1, .int .u8 0, .int .u8 0, .int .i8 0, .int .i8 0, .int .u32 0, .int .u32 0, .int .u32 0, .int .u64 0, .int .u64 0, .int .u64 0, .int .u64 0]) ?_ 2 _ rfl; (with_reducible repeat (first | refine blk_drewN ?_ _ | refine blk_drew ?_ | refine blk_alloc ?_ _)); refine blk_put (cs := #[.int .u8 a0_0, .int .u8 0, .int .u8 0, .int .u8 0, .int .i8 0, .int .i8 0, .int .u32 0, .int .u32 0, .int .u32 0, .int .u64 0, .int .u64 0, .int .u64 0, .int .u64 0]) ?_ 1 _ rfl; (with_reducible repeat (first | refine blk_drewN ?_ _ | refine blk_drew ?_ | refine blk_alloc ?_ _)); refine blk_put (cs := #[.int .u8 0, .int .u8 0, .int .u8 0, .int .u8 0, .int .i8 0, .int .i8 0, .int .u32 0, .int .u32 0, .int .u32 0, .int .u64 0, .int .u64 0, .int .u64 0, .int .u64 0]) ?_ 0 _ rfl; (with_reducible repeat (first | refine blk_drewN ?_ _ | refine blk_drew ?_ | refine blk_alloc ?_ _)); exact BK188.out⟩, ⟨by repeat (first | (with_reducible first | exact HB.out | apply below_alloc | apply pw_below_drewN | apply below_drew1 | refine below_set ?_ GE182.out | refine below_set ?_ GE188.out) | exact HB.out)⟩⟩
                · rw [if_neg c29] at H
                  have c29b0 : ((Int.tmod a1 11) == 3) = false := beq_eq_false_iff_ne.mpr c29
                  have c29b1 : ((Int.tmod a1 11) != 3) = true := bne_iff_ne.mpr c29
                  by_cases c33 : (Int.tmod a1 11) = 4
                  · rw [if_pos c33] at H
                    have c33b0 : ((Int.tmod a1 11) == 4) = true := beq_iff_eq.mpr c33
                    have c33b1 : ((Int.tmod a1 11) != 4) = false := bne_eq_false_iff_eq.mpr c33
                    clear c33
                    have H' := Aside0.mk H
                    clear H
                    have hnb34 := NB182_188.out
                    have hnc34 := NB188_182.out
                    have hcz35_0 : w17.cell? ⟨gb182, 0, none⟩ = some (.int .u8 a0_0) := (blk_cell BK182.out 0).trans rfl
                    have hcz35_1 : w17.cell? ⟨gb182, 1, none⟩ = some (.int .u8 a0_1) := (blk_cell BK182.out 1).trans rfl
                    have hcz35_2 : w17.cell? ⟨gb182, 2, none⟩ = some (.int .u8 a0_2) := (blk_cell BK182.out 2).trans rfl
                    have hcz35_3 : w17.cell? ⟨gb182, 3, none⟩ = some (.int .u8 a0_3) := (blk_cell BK182.out 3).trans rfl
                    have hcz35_4 : w17.cell? ⟨gb182, 4, none⟩ = some (.int .i8 a0_4) := (blk_cell BK182.out 4).trans rfl
                    have hcz35_5 : w17.cell? ⟨gb182, 5, none⟩ = some (.int .i8 a0_5) := (blk_cell BK182.out 5).trans rfl
                    have hcz35_6 : w17.cell? ⟨gb182, 6, none⟩ = some (.int .u32 a0_6) := (blk_cell BK182.out 6).trans rfl
                    have hcz35_7 : w17.cell? ⟨gb182, 7, none⟩ = some (.int .u32 a0_7) := (blk_cell BK182.out 7).trans rfl
                    have hcz35_8 : w17.cell? ⟨gb182, 8, none⟩ = some (.int .u32 a0_8) := (blk_cell BK182.out 8).trans rfl
                    have hcz35_9 : w17.cell? ⟨gb182, 9, none⟩ = some (.int .u64 a0_9) := (blk_cell BK182.out 9).trans rfl
                    have hcz35_10 : w17.cell? ⟨gb182, 10, none⟩ = some (.int .u64 a0_10) := (blk_cell BK182.out 10).trans rfl
                    have hcz35_11 : w17.cell? ⟨gb182, 11, none⟩ = some (.int .u64 a0_11) := (blk_cell BK182.out 11).trans rfl
                    have hcz35_12 : w17.cell? ⟨gb182, 12, none⟩ = some (.int .u64 a0_12) := (blk_cell BK182.out 12).trans rfl
                    have hfz35_0 := blk_frozen BK182.out 0
                    have hfz35_1 := blk_frozen BK182.out 1
                    have hfz35_2 := blk_frozen BK182.out 2
                    have hfz35_3 := blk_frozen BK182.out 3
                    have hfz35_4 := blk_frozen BK182.out 4
                    have hfz35_5 := blk_frozen BK182.out 5
                    have hfz35_6 := blk_frozen BK182.out 6
                    have hfz35_7 := blk_frozen BK182.out 7
                    have hfz35_8 := blk_frozen BK182.out 8
                    have hfz35_9 := blk_frozen BK182.out 9
                    have hfz35_10 := blk_frozen BK182.out 10
                    have hfz35_11 := blk_frozen BK182.out 11
                    have hfz35_12 := blk_frozen BK182.out 12
                    have hcz36_0 : w17.cell? ⟨gb188, 0, none⟩ = some (.int .u8 0) := (blk_cell BK188.out 0).trans rfl
                    have hcz36_1 : w17.cell? ⟨gb188, 1, none⟩ = some (.int .u8 0) := (blk_cell BK188.out 1).trans rfl
                    have hcz36_2 : w17.cell? ⟨gb188, 2, none⟩ = some (.int .u8 0) := (blk_cell BK188.out 2).trans rfl
                    have hcz36_3 : w17.cell? ⟨gb188, 3, none⟩ = some (.int .u8 0) := (blk_cell BK188.out 3).trans rfl
                    have hcz36_4 : w17.cell? ⟨gb188, 4, none⟩ = some (.int .i8 0) := (blk_cell BK188.out 4).trans rfl
                    have hcz36_5 : w17.cell? ⟨gb188, 5, none⟩ = some (.int .i8 0) := (blk_cell BK188.out 5).trans rfl
                    have hcz36_6 : w17.cell? ⟨gb188, 6, none⟩ = some (.int .u32 0) := (blk_cell BK188.out 6).trans rfl
                    have hcz36_7 : w17.cell? ⟨gb188, 7, none⟩ = some (.int .u32 0) := (blk_cell BK188.out 7).trans rfl
                    have hcz36_8 : w17.cell? ⟨gb188, 8, none⟩ = some (.int .u32 0) := (blk_cell BK188.out 8).trans rfl
                    have hcz36_9 : w17.cell? ⟨gb188, 9, none⟩ = some (.int .u64 0) := (blk_cell BK188.out 9).trans rfl
                    have hcz36_10 : w17.cell? ⟨gb188, 10, none⟩ = some (.int .u64 0) := (blk_cell BK188.out 10).trans rfl
                    have hcz36_11 : w17.cell? ⟨gb188, 11, none⟩ = some (.int .u64 0) := (blk_cell BK188.out 11).trans rfl
                    have hcz36_12 : w17.cell? ⟨gb188, 12, none⟩ = some (.int .u64 0) := (blk_cell BK188.out 12).trans rfl
                    have hfz36_0 := blk_frozen BK188.out 0
                    have hfz36_1 := blk_frozen BK188.out 1
                    have hfz36_2 := blk_frozen BK188.out 2
                    have hfz36_3 := blk_frozen BK188.out 3
                    have hfz36_4 := blk_frozen BK188.out 4
                    have hfz36_5 := blk_frozen BK188.out 5
                    have hfz36_6 := blk_frozen BK188.out 6
                    have hfz36_7 := blk_frozen BK188.out 7
                    have hfz36_8 := blk_frozen BK188.out 8
                    have hfz36_9 := blk_frozen BK188.out 9
                    have hfz36_10 := blk_frozen BK188.out 10
                    have hfz36_11 := blk_frozen BK188.out 11
                    have hfz36_12 := blk_frozen BK188.out 12
                    go_wp2
                    repeat (go_quiet (fail); try go_wp2)
                    go_meet
                    case rel => exact ⟨_, (2), (3), (a0_0), (a0_1), (a0_2), (a0_3), (Go.bits .xor .i8 (-1) a0_4), (a0_5), (a0_6), (a0_7), (a0_8), (a0_10), (a0_12), (by first | rfl | (simp; done) | (simp [*]; done)), (by first | rfl | (simp; done) | (simp [*]; done)), H', ⟨by have := HJ3.out; first | omega | exact Nat.le_refl _⟩, ⟨by (with_reducible repeat (first | apply Kd.R_alloc | apply Kd.R_drewN | apply Kd.R_drew)); exact Kd.R_mono (Kd.R_far (p := ⟨gb188, 4, none⟩) (Kd.R_far (p := ⟨gb188, 12, none⟩) (Kd.R_far (p := ⟨gb188, 11, none⟩) (Kd.R_far (p := ⟨gb188, 10, none⟩) (Kd.R_far (p := ⟨gb188, 9, none⟩) (Kd.R_far (p := ⟨gb188, 8, none⟩) (Kd.R_far (p := ⟨gb188, 7, none⟩) (Kd.R_far (p := ⟨gb188, 6, none⟩) (Kd.R_far (p := ⟨gb188, 5, none⟩) (Kd.R_far (p := ⟨gb188, 4, none⟩) (Kd.R_far (p := ⟨gb188, 3, none⟩) (Kd.R_far (p := ⟨gb188, 2, none⟩) (Kd.R_far (p := ⟨gb188, 1, none⟩) (Kd.R_far (p := ⟨gb188, 0, none⟩) (Kd.R_types HO_5.out BK188.out (by decide)) (fun _ hk => hk.2) (.int .u8 a0_0)) (fun _ hk => hk.2) (.int .u8 a0_1)) (fun _ hk => hk.2) (.int .u8 a0_2)) (fun _ hk => hk.2) (.int .u8 a0_3)) (fun _ hk => hk.2) (.int .i8 a0_4)) (fun _ hk => hk.2) (.int .i8 a0_5)) (fun _ hk => hk.2) (.int .u32 a0_6)) (fun _ hk => hk.2) (.int .u32 a0_7)) (fun _ hk => hk.2) (.int .u32 a0_8)) (fun _ hk => hk.2) (.int .u64 a0_9)) (fun _ hk => hk.2) (.int .u64 a0_10)) (fun _ hk => hk.2) (.int .u64 a0_11)) (fun _ hk => hk.2) (.int .u64 a0_12)) (fun _ hk => hk.2) (.int .i8 (Go.bits .xor .i8 (-1) a0_4))) (fun _ hk => trivial)⟩, ⟨by (with_reducible repeat (first | refine blk_drewN ?_ _ | refine blk_drew ?_ | refine blk_alloc ?_ _)); refine blk_far ?_ NB182_188.out _; (with_reducible repeat (first | refine blk_drewN ?_ _ | refine blk_drew ?_ | refine blk_alloc ?_ _)); refine blk_far ?_ NB182_188.out _; (with_reducible repeat (first | refine blk_drewN ?_ _ | refine blk_drew ?_ | refine blk_alloc ?_ _)); refine blk_far ?_ NB182_188.out _; (with_reducible repeat (first | refine blk_drewN ?_ _ | refine blk_drew ?_ | refine blk_alloc ?_ _)); refine blk_far ?_ NB182_188.out _; (with_reducible repeat (first | refine blk_drewN ?_ _ | refine blk_drew ?_ | refine blk_alloc ?_ _)); refine blk_far ?_ NB182_188.out _; (with_reducible repeat (first | refine blk_drewN ?_ _ | refine blk_drew ?_ | refine blk_alloc ?_ _)); refine blk_far ?_ NB182_188.out _; (with_reducible repeat (first | refine blk_drewN ?_ _ | refine blk_drew ?_ | refine blk_alloc ?_ _)); refine blk_far ?_ NB182_188.out _; (with_reducible repeat (first | refine blk_drewN ?_ _ | refine blk_drew ?_ | refine blk_alloc ?_ _)); refine blk_far ?_ NB182_188.out _; (with_reducible repeat (first | refine blk_drewN ?_ _ | refine blk_drew ?_ | refine blk_alloc ?_ _)); refine blk_far ?_ NB182_188.out _; (with_reducible repeat (first | refine blk_drewN ?_ _ | refine blk_drew ?_ | refine blk_alloc ?_ _)); refine blk_far ?_ NB182_188.out _; (with_reducible repeat (first | refine blk_drewN ?_ _ | refine blk_drew ?_ | refine blk_alloc ?_ _)); refine blk_far ?_ NB182_188.out _; (with_reducible repeat (first | refine blk_drewN ?_ _ | refine blk_drew ?_ | refine blk_alloc ?_ _)); refine blk_far ?_ NB182_188.out _; (with_reducible repeat (first | refine blk_drewN ?_ _ | refine blk_drew ?_ | refine blk_alloc ?_ _)); refine blk_far ?_ NB182_188.out _; (with_reducible repeat (first | refine blk_drewN ?_ _ | refine blk_drew ?_ | refine blk_alloc ?_ _)); refine blk_far ?_ NB182_188.out _; (with_reducible repeat (first | refine blk_drewN ?_ _ | refine blk_drew ?_ | refine blk_alloc ?_ _)); exact BK182.out⟩, ⟨by (with_reducible repeat (first | refine blk_drewN ?_ _ | refine blk_drew ?_ | refine blk_alloc ?_ _)); refine blk_put (cs := #[.int .u8 a0_0, .int .u8 a0_1, .int .u8 a0_2, .int .u8 a0_3, .int .i8 a0_4, .int .i8 a0_5, .int .u32 a0_6, .int .u32 a0_7, .int .u32 a0_8, .int .u64 a0_9, .int .u64 a0_10, .int .u64 a0_11, .int .u64 a0_12]) ?_ 4 _ rfl; (with_reducible repeat (first | refine blk_drewN ?_ _ | refine blk_drew ?_ | refine blk_alloc ?_ _)); refine blk_put (cs := #[.int .u8 a0_0, .int .u8 a0_1, .int .u8 a0_2, .int .u8 a0_3, .int .i8 a0_4, .int .i8 a0_5, .int .u32 a0_6, .int .u32 a0_7, .int .u32 a0_8, .int .u64 a0_9, .int .u64 a0_10, .int .u64 a0_11, .int .u64 0]) ?_ 12 _ rfl; (with_reducible repeat (first | refine blk_drewN ?_ _ | refine blk_drew ?_ | refine blk_alloc ?_ _)); refine blk_put (cs := #[.int .u8 a0_0, .int .u8 a0_1, .int .u8 a0_2, .int .u8 a0_3, .int .i8 a0_4, .int .i8 a0_5, .int .u32 a0_6, .int .u32 a0_7, .int .u32 a0_8, .int .u64 a0_9, .int .u64 a0_10, .int .u64 0, .int .u64 0]) ?_ 11 _ rfl; (with_reducible repeat (first | refine blk_drewN ?_ _ | refine blk_drew ?_ | refine blk_alloc ?_ _)); refine blk_put (cs := #[.int .u8 a0_0, .int .u8 a0_1, .int .u8 a0_2, .int .u8 a0_3, .int .i8 a0_4, .int .i8 a0_5, .int .u32 a0_6, .int .u32 a0_7, .int .u32 a0_8, .int .u64 a0_9, .int .u64 0, .int .u64 0, .int .u64 0]) ?_ 10 _ rfl; (with_reducible repeat (first | refine blk_drewN ?_ _ | refine blk_drew ?_ | refine blk_alloc ?_ _)); refine blk_put (cs := #[.int .u8 a0_0, .int .u8 a0_1, .int .u8 a0_2, .int .u8 a0_3, .int .i8 a0_4, .int .i8 a0_5, .int .u32 a0_6, .int .u32 a0_7, .int .u32 a0_8, .int .u64 0, .int .u64 0, .int .u64 0, .int .u64 0]) ?_ 9 _ rfl; (with_reducible repeat (first | refine blk_drewN ?_ _ | refine blk_drew ?_ | refine blk_alloc ?_ _)); refine blk_put (cs := #[.int .u8 a0_0, .int .u8 a0_1, .int .u8 a0_2, .int .u8 a0_3, .int .i8 a0_4, .int .i8 a0_5, .int .u32 a0_6, .int .u32 a0_7, .int .u32 0, .int .u64 0, .int .u64 0, .int .u64 0, .int .u64 0]) ?_ 8 _ rfl; (with_reducible repeat (first | refine blk_drewN ?_ _ | refine blk_drew ?_ | refine blk_alloc ?_ _)); refine blk_put (cs := #[.int .u8 a0_0, .int .u8 a0_1, .int .u8 a0_2, .int .u8 a0_3, .int .i8 a0_4, .int .i8 a0_5, .int .u32 a0_6, .int .u32 0, .int .u32 0, .int .u64 0, .int .u64 0, .int .u64 0, .int .u64 0]) ?_ 7 _ rfl; (with_reducible repeat (first | refine blk_drewN ?_ _ | refine blk_drew ?_ | refine blk_alloc ?_ _)); refine blk_put (cs := #[.int .u8 a0_0, .int .u8 a0_1, .int .u8 a0_2, .int .u8 a0_3, .int .i8 a0_4, .int .i8 a0_5, .int .u32 0, .int .u32 0, .int .u32 0, .int .u64 0, .int .u64 0, .int .u64 0, .int .u64 0]) ?_ 6 _ rfl; (with_reducible repeat (first | refine blk_drewN ?_ _ | refine blk_drew ?_ | refine blk_alloc ?_ _)); refine blk_put (cs := #[.int .u8 a0_0, .int .u8 a0_1, .int .u8 a0_2, .int .u8 a0_3, .int .i8 a0_4, .int .i8 0, .int .u32 0, .int .u32 0, .int .u32 0, .int .u64 0, .int .u64 0, .int .u64 0, .int .u64 0]) ?_ 5 _ rfl; (with_reducible repeat (first | refine blk_drewN ?_ _ | refine blk_drew ?_ | refine blk_alloc ?_ _)); refine blk_put (cs := #[.int .u8 a0_0, .int .u8 a0_1, .int .u8 a0_2, .int .u8 a0_3, .int .i8 0, .int .i8 0, .int .u32 0, .int .u32 0, .int .u32 0, .int .u64 0, .int .u64 0, .int .u64 0, .int .u64 0]) ?_ 4 _ rfl; (with_reducible repeat (first | refine blk_drewN ?_ _ | refine blk_drew ?_ | refine blk_alloc ?_ _)); refine blk_put (cs := #[.int .u8 a0_0, .int .u8 a0_1, .int .u8 a0_2, .int .u8 0, .int .i8 0, .int .i8 0, .int .u32 0, .int .u32 0, .int .u32 0, .int .u64 0, .int .u64 0, .int .u64 0, .int .u64 0]) ?_ 3 _ rfl; (with_reducible repeat (first | refine blk_drewN ?_ _ | refine blk_drew ?_ | refine blk_alloc ?_ _)); refine blk_put (cs := #[.int .u8 a0_0, .int .u8 a0_1, .int .u8 0, .int .u8 0, .int .i8 0, .int .i8 0, .int .u32 0, .int .u32 0, .int .u32 0, .int .u64 0, .int .u64 0, .int .u64 0, .int .u64 0]) ?_ 2 _ rfl; (with_reducible repeat (first | refine blk_drewN ?_ _ | refine blk_drew ?_ | refine blk_alloc ?_ _)); refine blk_put (cs := #[.int .u8 a0_0, .int .u8 0, .int .u8 0, .int .u8 0, .int .i8 0, .int .i8 0, .int .u32 0, .int .u32 0, .int .u32 0, .int .u64 0, .int .u64 0, .int .u64 0, .int .u64 0]) ?_ 1 _ rfl; (with_reducible repeat (first | refine blk_drewN ?_ _ | refine blk_drew ?_ | refine blk_alloc ?_ _)); refine blk_put (cs := #[.int .u8 0, .int .u8 0, .int .u8 0, .int .u8 0, .int .i8 0, .int .i8 0, .int .u32 0, .int .u32 0, .int .u32 0, .int .u64 0, .int .u64 0, .int .u64 0, .int .u64 0]) ?_ 0 _ rfl; (with_reducible repeat (first | refine blk_drewN ?_ _ | refine blk_drew ?_ | refine blk_alloc ?_ _)); exact BK188.out⟩, ⟨by repeat (first | (with_reducible first | exact HB.out | apply below_alloc | apply pw_below_drewN | apply below_drew1 | refine below_set ?_ GE182.out | refine below_set ?_ GE188.out) | exact HB.out)⟩⟩
                  · rw [if_neg c33] at H
                    have c33b0 : ((Int.tmod a1 11) == 4) = false := beq_eq_false_iff_ne.mpr c33
                    have c33b1 : ((Int.tmod a1 11) != 4) = true := bne_iff_ne.mpr c33
                    by_cases c37 : (Int.tmod a1 11) = 5
                    · rw [if_pos c37] at H
                      have c37b0 : ((Int.tmod a1 11) == 5) = true := beq_iff_eq.mpr c37
                      have c37b1 : ((Int.tmod a1 11) != 5) = false := bne_eq_false_iff_eq.mpr c37
                      clear c37
                      have H' := Aside0.mk H
                      clear H
                      have hnb38 := NB182_188.out
                      have hnc38 := NB188_182.out
                      have hcz39_0 : w17.cell? ⟨gb182, 0, none⟩ = some (.int .u8 a0_0) := (blk_cell BK182.out 0).trans rfl
                      have hcz39_1 : w17.cell? ⟨gb182, 1, none⟩ = some (.int .u8 a0_1) := (blk_cell BK182.out 1).trans rfl
                      have hcz39_2 : w17.cell? ⟨gb182, 2, none⟩ = some (.int .u8 a0_2) := (blk_cell BK182.out 2).trans rfl
                      have hcz39_3 : w17.cell? ⟨gb182, 3, none⟩ = some (.int .u8 a0_3) := (blk_cell BK182.out 3).trans rfl
                      have hcz39_4 : w17.cell? ⟨gb182, 4, none⟩ = some (.int .i8 a0_4) := (blk_cell BK182.out 4).trans rfl
                      have hcz39_5 : w17.cell? ⟨gb182, 5, none⟩ = some (.int .i8 a0_5) := (blk_cell BK182.out 5).trans rfl
                      have hcz39_6 : w17.cell? ⟨gb182, 6, none⟩ = some (.int .u32 a0_6) := (blk_cell BK182.out 6).trans rfl
                      have hcz39_7 : w17.cell? ⟨gb182, 7, none⟩ = some (.int .u32 a0_7) := (blk_cell BK182.out 7).trans rfl
                      have hcz39_8 : w17.cell? ⟨gb182, 8, none⟩ = some (.int .u32 a0_8) := (blk_cell BK182.out 8).trans rfl
                      have hcz39_9 : w17.cell? ⟨gb182, 9, none⟩ = some (.int .u64 a0_9) := (blk_cell BK182.out 9).trans rfl
                      have hcz39_10 : w17.cell? ⟨gb182, 10, none⟩ = some (.int .u64 a0_10) := (blk_cell BK182.out 10).trans rfl
                      have hcz39_11 : w17.cell? ⟨gb182, 11, none⟩ = some (.int .u64 a0_11) := (blk_cell BK182.out 11).trans rfl
                      have hcz39_12 : w17.cell? ⟨gb182, 12, none⟩ = some (.int .u64 a0_12) := (blk_cell BK182.out 12).trans rfl
                      have hfz39_0 := blk_frozen BK182.out 0
                      have hfz39_1 := blk_frozen BK182.out 1
                      have hfz39_2 := blk_frozen BK182.out 2
                      have hfz39_3 := blk_frozen BK182.out 3
                      have hfz39_4 := blk_frozen BK182.out 4
                      have hfz39_5 := blk_frozen BK182.out 5
                      have hfz39_6 := blk_frozen BK182.out 6
                      have hfz39_7 := blk_frozen BK182.out 7
                      have hfz39_8 := blk_frozen BK182.out 8
                      have hfz39_9 := blk_frozen BK182.out 9
                      have hfz39_10 := blk_frozen BK182.out 10
                      have hfz39_11 := blk_frozen BK182.out 11
                      have hfz39_12 := blk_frozen BK182.out 12
                      have hcz40_0 : w17.cell? ⟨gb188, 0, none⟩ = some (.int .u8 0) := (blk_cell BK188.out 0).trans rfl
                      have hcz40_1 : w17.cell? ⟨gb188, 1, none⟩ = some (.int .u8 0) := (blk_cell BK188.out 1).trans rfl
                      have hcz40_2 : w17.cell? ⟨gb188, 2, none⟩ = some (.int .u8 0) := (blk_cell BK188.out 2).trans rfl
                      have hcz40_3 : w17.cell? ⟨gb188, 3, none⟩ = some (.int .u8 0) := (blk_cell BK188.out 3).trans rfl
                      have hcz40_4 : w17.cell? ⟨gb188, 4, none⟩ = some (.int .i8 0) := (blk_cell BK188.out 4).trans rfl
                      have hcz40_5 : w17.cell? ⟨gb188, 5, none⟩ = some (.int .i8 0) := (blk_cell BK188.out 5).trans rfl
                      have hcz40_6 : w17.cell? ⟨gb188, 6, none⟩ = some (.int .u32 0) := (blk_cell BK188.out 6).trans rfl
                      have hcz40_7 : w17.cell? ⟨gb188, 7, none⟩ = some (.int .u32 0) := (blk_cell BK188.out 7).trans rfl
                      have hcz40_8 : w17.cell? ⟨gb188, 8, none⟩ = some (.int .u32 0) := (blk_cell BK188.out 8).trans rfl
                      have hcz40_9 : w17.cell? ⟨gb188, 9, none⟩ = some (.int .u64 0) := (blk_cell BK188.out 9).trans rfl
                      have hcz40_10 : w17.cell? ⟨gb188, 10, none⟩ = some (.int .u64 0) := (blk_cell BK188.out 10).trans rfl
                      have hcz40_11 : w17.cell? ⟨gb188, 11, none⟩ = some (.int .u64 0) := (blk_cell BK188.out 11).trans rfl
                      have hcz40_12 : w17.cell? ⟨gb188, 12, none⟩ = some (.int .u64 0) := (blk_cell BK188.out 12).trans rfl
                      have hfz40_0 := blk_frozen BK188.out 0
                      have hfz40_1 := blk_frozen BK188.out 1
                      have hfz40_2 := blk_frozen BK188.out 2
                      have hfz40_3 := blk_frozen BK188.out 3
                      have hfz40_4 := blk_frozen BK188.out 4
                      have hfz40_5 := blk_frozen BK188.out 5
                      have hfz40_6 := blk_frozen BK188.out 6
                      have hfz40_7 := blk_frozen BK188.out 7
                      have hfz40_8 := blk_frozen BK188.out 8
                      have hfz40_9 := blk_frozen BK188.out 9
                      have hfz40_10 := blk_frozen BK188.out 10
                      have hfz40_11 := blk_frozen BK188.out 11
                      have hfz40_12 := blk_frozen BK188.out 12
                      go_wp2
                      repeat (go_quiet (fail); try go_wp2)
                      go_meet
                      case rel => exact ⟨_, (3), (4), (a0_0), (a0_1), (a0_2), (a0_3), (a0_4), (Go.bits .xor .i8 (-1) a0_5), (a0_6), (a0_7), (a0_8), (a0_10), (a0_12), (by first | rfl | (simp; done) | (simp [*]; done)), (by first | rfl | (simp; done) | (simp [*]; done)), H', ⟨by have := HJ3.out; first | omega | exact Nat.le_refl _⟩, ⟨by (with_reducible repeat (first | apply Kd.R_alloc | apply Kd.R_drewN | apply Kd.R_drew)); exact Kd.R_mono (Kd.R_far (p := ⟨gb188, 5, none⟩) (Kd.R_far (p := ⟨gb188, 12, none⟩) (Kd.R_far (p := ⟨gb188, 11, none⟩) (Kd.R_far (p := ⟨gb188, 10, none⟩) (Kd.R_far (p := ⟨gb188, 9, none⟩) (Kd.R_far (p := ⟨gb188, 8, none⟩) (Kd.R_far (p := ⟨gb188, 7, none⟩) (Kd.R_far (p := ⟨gb188, 6, none⟩) (Kd.R_far (p := ⟨gb188, 5, none⟩) (Kd.R_far (p := ⟨gb188, 4, none⟩) (Kd.R_far (p := ⟨gb188, 3, none⟩) (Kd.R_far (p := ⟨gb188, 2, none⟩) (Kd.R_far (p := ⟨gb188, 1, none⟩) (Kd.R_far (p := ⟨gb188, 0, none⟩) (Kd.R_types HO_5.out BK188.out (by decide)) (fun _ hk => hk.2) (.int .u8 a0_0)) (fun _ hk => hk.2) (.int .u8 a0_1)) (fun _ hk => hk.2) (.int .u8 a0_2)) (fun _ hk => hk.2) (.int .u8 a0_3)) (fun _ hk => hk.2) (.int .i8 a0_4)) (fun _ hk => hk.2) (.int .i8 a0_5)) (fun _ hk => hk.2) (.int .u32 a0_6)) (fun _ hk => hk.2) (.int .u32 a0_7)) (fun _ hk => hk.2) (.int .u32 a0_8)) (fun _ hk => hk.2) (.int .u64 a0_9)) (fun _ hk => hk.2) (.int .u64 a0_10)) (fun _ hk => hk.2) (.int .u64 a0_11)) (fun _ hk => hk.2) (.int .u64 a0_12)) (fun _ hk => hk.2) (.int .i8 (Go.bits .xor .i8 (-1) a0_5))) (fun _ hk => trivial)⟩, ⟨by (with_reducible repeat (first | refine blk_drewN ?_ _ | refine blk_drew ?_ | refine blk_alloc ?_ _)); refine blk_far ?_ NB182_188.out _; (with_reducible repeat (first | refine blk_drewN ?_ _ | refine blk_drew ?_ | refine blk_alloc ?_ _)); refine blk_far ?_ NB182_188.out _; (with_reducible repeat (first | refine blk_drewN ?_ _ | refine blk_drew ?_ | refine blk_alloc ?_ _)); refine blk_far ?_ NB182_188.out _; (with_reducible repeat (first | refine blk_drewN ?_ _ | refine blk_drew ?_ | refine blk_alloc ?_ _)); refine blk_far ?_ NB182_188.out _; (with_reducible repeat (first | refine blk_drewN ?_ _ | refine blk_drew ?_ | refine blk_alloc ?_ _)); refine blk_far ?_ NB182_188.out _; (with_reducible repeat (first | refine blk_drewN ?_ _ | refine blk_drew ?_ | refine blk_alloc ?_ _)); refine blk_far ?_ NB182_188.out _; (with_reducible repeat (first | refine blk_drewN ?_ _ | refine blk_drew ?_ | refine blk_alloc ?_ _)); refine blk_far ?_ NB182_188.out _; (with_reducible repeat (first | refine blk_drewN ?_ _ | refine blk_drew ?_ | refine blk_alloc ?_ _)); refine blk_far ?_ NB182_188.out _; (with_reducible repeat (first | refine blk_drewN ?_ _ | refine blk_drew ?_ | refine blk_alloc ?_ _)); refine blk_far ?_ NB182_188.out _; (with_reducible repeat (first | refine blk_drewN ?_ _ | refine blk_drew ?_ | refine blk_alloc ?_ _)); refine blk_far ?_ NB182_188.out _; (with_reducible repeat (first | refine blk_drewN ?_ _ | refine blk_drew ?_ | refine blk_alloc ?_ _)); refine blk_far ?_ NB182_188.out _; (with_reducible repeat (first | refine blk_drewN ?_ _ | refine blk_drew ?_ | refine blk_alloc ?_ _)); refine blk_far ?_ NB182_188.out _; (with_reducible repeat (first | refine blk_drewN ?_ _ | refine blk_drew ?_ | refine blk_alloc ?_ _)); refine blk_far ?_ NB182_188.out _; (with_reducible repeat (first | refine blk_drewN ?_ _ | refine blk_drew ?_ | refine blk_alloc ?_ _)); refine blk_far ?_ NB182_188.out _; (with_reducible repeat (first | refine blk_drewN ?_ _ | refine blk_drew ?_ | refine blk_alloc ?_ _)); exact BK182.out⟩, ⟨by (with_reducible repeat (first | refine blk_drewN ?_ _ | refine blk_drew ?_ | refine blk_alloc ?_ _)); refine blk_put (cs := #[.int .u8 a0_0, .int .u8 a0_1, .int .u8 a0_2, .int .u8 a0_3, .int .i8 a0_4, .int .i8 a0_5, .int .u32 a0_6, .int .u32 a0_7, .int .u32 a0_8, .int .u64 a0_9, .int .u64 a0_10, .int .u64 a0_11, .int .u64 a0_12]) ?_ 5 _ rfl; (with_reducible repeat (first | refine blk_drewN ?_ _ | refine blk_drew ?_ | refine blk_alloc ?_ _)); refine blk_put (cs := #[.int .u8 a0_0, .int .u8 a0_1, .int .u8 a0_2, .int .u8 a0_3, .int .i8 a0_4, .int .i8 a0_5, .int .u32 a0_6, .int .u32 a0_7, .int .u32 a0_8, .int .u64 a0_9, .int .u64 a0_10, .int .u64 a0_11, .int .u64 0]) ?_ 12 _ rfl; (with_reducible repeat (first | refine blk_drewN ?_ _ | refine blk_drew ?_ | refine blk_alloc ?_ _)); refine blk_put (cs := #[.int .u8 a0_0, .int .u8 a0_1, .int .u8 a0_2, .int .u8 a0_3, .int .i8 a0_4, .int .i8 a0_5, .int .u32 a0_6, .int .u32 a0_7, .int .u32 a0_8, .int .u64 a0_9, .int .u64 a0_10, .int .u64 0, .int .u64 0]) ?_ 11 _ rfl; (with_reducible repeat (first | refine blk_drewN ?_ _ | refine blk_drew ?_ | refine blk_alloc ?_ _)); refine blk_put (cs := #[.int .u8 a0_0, .int .u8 a0_1, .int .u8 a0_2, .int .u8 a0_3, .int .i8 a0_4, .int .i8 a0_5, .int .u32 a0_6, .int .u32 a0_7, .int .u32 a0_8, .int .u64 a0_9, .int .u64 0, .int .u64 0, .int .u64 0]) ?_ 10 _ rfl; (with_reducible repeat (first | refine blk_drewN ?_ _ | refine blk_drew ?_ | refine blk_alloc ?_ _)); refine blk_put (cs := #[.int .u8 a0_0, .int .u8 a0_1, .int .u8 a0_2, .int .u8 a0_3, .int .i8 a0_4, .int .i8 a0_5, .int .u32 a0_6, .int .u32 a0_7, .int .u32 a0_8, .int .u64 0, .int .u64 0, .int .u64 0, .int .u64 0]) ?_ 9 _ rfl; (with_reducible repeat (first | refine blk_drewN ?_ _ | refine blk_drew ?_ | refine blk_alloc ?_ _)); refine blk_put (cs := #[.int .u8 a0_0, .int .u8 a0_1, .int .u8 a0_2, .int .u8 a0_3, .int .i8 a0_4, .int .i8 a0_5, .int .u32 a0_6, .int .u32 a0_7, .int .u32 0, .int .u64 0, .int .u64 0, .int .u64 0, .int .u64 0]) ?_ 8 _ rfl; (with_reducible repeat (first | refine blk_drewN ?_ _ | refine blk_drew ?_ | refine blk_alloc ?_ _)); refine blk_put (cs := #[.int .u8 a0_0, .int .u8 a0_1, .int .u8 a0_2, .int .u8 a0_3, .int .i8 a0_4, .int .i8 a0_5, .int .u32 a0_6, .int .u32 0, .int .u32 0, .int .u64 0, .int .u64 0, .int .u64 0, .int .u64 0]) ?_ 7 _ rfl; (with_reducible repeat (first | refine blk_drewN ?_ _ | refine blk_drew ?_ | refine blk_alloc ?_ _)); refine blk_put (cs := #[.int .u8 a0_0, .int .u8 a0_1, .int .u8 a0_2, .int .u8 a0_3, .int .i8 a0_4, .int .i8 a0_5, .int .u32 0, .int .u32 0, .int .u32 0, .int .u64 0, .int .u64 0, .int .u64 0, .int .u64 0]) ?_ 6 _ rfl; (with_reducible repeat (first | refine blk_drewN ?_ _ | refine blk_drew ?_ | refine blk_alloc ?_ _)); refine blk_put (cs := #[.int .u8 a0_0, .int .u8 a0_1, .int .u8 a0_2, .int .u8 a0_3, .int .i8 a0_4, .int .i8 0, .int .u32 0, .int .u32 0, .int .u32 0, .int .u64 0, .int .u64 0, .int .u64 0, .int .u64 0]) ?_ 5 _ rfl; (with_reducible repeat (first | refine blk_drewN ?_ _ | refine blk_drew ?_ | refine blk_alloc ?_ _)); refine blk_put (cs := #[.int .u8 a0_0, .int .u8 a0_1, .int .u8 a0_2, .int .u8 a0_3, .int .i8 0, .int .i8 0, .int .u32 0, .int .u32 0, .int .u32 0, .int .u64 0, .int .u64 0, .int .u64 0, .int .u64 0]) ?_ 4 _ rfl; (with_reducible repeat (first | refine blk_drewN ?_ _ | refine blk_drew ?_ | refine blk_alloc ?_ _)); refine blk_put (cs := #[.int .u8 a0_0, .int .u8 a0_1, .int .u8 a0_2, .int .u8 0, .int .i8 0, .int .i8 0, .int .u32 0, .int .u32 0, .int .u32 0, .int .u64 0, .int .u64 0, .int .u64 0, .int .u64 0]) ?_ 3 _ rfl; (with_reducible repeat (first | refine blk_drewN ?_ _ | refine blk_drew ?_ | refine blk_alloc ?_ _)); refine blk_put (cs := #[.int .u8 a0_0, .int .u8 a0_1, .int .u8 0, .int .u8 0, .int .i8 0, .int .i8 0, .int .u32 0, .int .u32 0, .int .u32 0, .int .u64 0, .int .u64 0, .int .u64 0, .int .u64 0]) ?_ 2 _ rfl; (with_reducible repeat (first | refine blk_drewN ?_ _ | refine blk_drew ?_ | refine blk_alloc ?_ _)); refine blk_put (cs := #[.int .u8 a0_0, .int .u8 0, .int .u8 0, .int .u8 0, .int .i8 0, .int .i8 0, .int .u32 0, .int .u32 0, .int .u32 0, .int .u64 0, .int .u64 0, .int .u64 0, .int .u64 0]) ?_ 1 _ rfl; (with_reducible repeat (first | refine blk_drewN ?_ _ | refine blk_drew ?_ | refine blk_alloc ?_ _)); refine blk_put (cs := #[.int .u8 0, .int .u8 0, .int .u8 0, .int .u8 0, .int .i8 0, .int .i8 0, .int .u32 0, .int .u32 0, .int .u32 0, .int .u64 0, .int .u64 0, .int .u64 0, .int .u64 0]) ?_ 0 _ rfl; (with_reducible repeat (first | refine blk_drewN ?_ _ | refine blk_drew ?_ | refine blk_alloc ?_ _)); exact BK188.out⟩, ⟨by repeat (first | (with_reducible first | exact HB.out | apply below_alloc | apply pw_below_drewN | apply below_drew1 | refine below_set ?_ GE182.out | refine below_set ?_ GE188.out) | exact HB.out)⟩⟩
                    · rw [if_neg c37] at H
                      have c37b0 : ((Int.tmod a1 11) == 5) = false := beq_eq_false_iff_ne.mpr c37
                      have c37b1 : ((Int.tmod a1 11) != 5) = true := bne_iff_ne.mpr c37
                      by_cases c41 : (Int.tmod a1 11) = 6
                      · rw [if_pos c41] at H
                        have c41b0 : ((Int.tmod a1 11) == 6) = true := beq_iff_eq.mpr c41
                        have c41b1 : ((Int.tmod a1 11) != 6) = false := bne_eq_false_iff_eq.mpr c41
                        clear c41
                        have H' := Aside0.mk H
                        clear H
                        have hnb42 := NB182_188.out
                        have hnc42 := NB188_182.out
                        have hcz43_0 : w17.cell? ⟨gb182, 0, none⟩ = some (.int .u8 a0_0) := (blk_cell BK182.out 0).trans rfl
                        have hcz43_1 : w17.cell? ⟨gb182, 1, none⟩ = some (.int .u8 a0_1) := (blk_cell BK182.out 1).trans rfl
                        have hcz43_2 : w17.cell? ⟨gb182, 2, none⟩ = some (.int .u8 a0_2) := (blk_cell BK182.out 2).trans rfl
                        have hcz43_3 : w17.cell? ⟨gb182, 3, none⟩ = some (.int .u8 a0_3) := (blk_cell BK182.out 3).trans rfl
                        have hcz43_4 : w17.cell? ⟨gb182, 4, none⟩ = some (.int .i8 a0_4) := (blk_cell BK182.out 4).trans rfl
                        have hcz43_5 : w17.cell? ⟨gb182, 5, none⟩ = some (.int .i8 a0_5) := (blk_cell BK182.out 5).trans rfl
                        have hcz43_6 : w17.cell? ⟨gb182, 6, none⟩ = some (.int .u32 a0_6) := (blk_cell BK182.out 6).trans rfl
                        have hcz43_7 : w17.cell? ⟨gb182, 7, none⟩ = some (.int .u32 a0_7) := (blk_cell BK182.out 7).trans rfl
                        have hcz43_8 : w17.cell? ⟨gb182, 8, none⟩ = some (.int .u32 a0_8) := (blk_cell BK182.out 8).trans rfl
                        have hcz43_9 : w17.cell? ⟨gb182, 9, none⟩ = some (.int .u64 a0_9) := (blk_cell BK182.out 9).trans rfl
                        have hcz43_10 : w17.cell? ⟨gb182, 10, none⟩ = some (.int .u64 a0_10) := (blk_cell BK182.out 10).trans rfl
                        have hcz43_11 : w17.cell? ⟨gb182, 11, none⟩ = some (.int .u64 a0_11) := (blk_cell BK182.out 11).trans rfl
                        have hcz43_12 : w17.cell? ⟨gb182, 12, none⟩ = some (.int .u64 a0_12) := (blk_cell BK182.out 12).trans rfl
                        have hfz43_0 := blk_frozen BK182.out 0
                        have hfz43_1 := blk_frozen BK182.out 1
                        have hfz43_2 := blk_frozen BK182.out 2
                        have hfz43_3 := blk_frozen BK182.out 3
                        have hfz43_4 := blk_frozen BK182.out 4
                        have hfz43_5 := blk_frozen BK182.out 5
                        have hfz43_6 := blk_frozen BK182.out 6
                        have hfz43_7 := blk_frozen BK182.out 7
                        have hfz43_8 := blk_frozen BK182.out 8
                        have hfz43_9 := blk_frozen BK182.out 9
                        have hfz43_10 := blk_frozen BK182.out 10
                        have hfz43_11 := blk_frozen BK182.out 11
                        have hfz43_12 := blk_frozen BK182.out 12
                        have hcz44_0 : w17.cell? ⟨gb188, 0, none⟩ = some (.int .u8 0) := (blk_cell BK188.out 0).trans rfl
                        have hcz44_1 : w17.cell? ⟨gb188, 1, none⟩ = some (.int .u8 0) := (blk_cell BK188.out 1).trans rfl
                        have hcz44_2 : w17.cell? ⟨gb188, 2, none⟩ = some (.int .u8 0) := (blk_cell BK188.out 2).trans rfl
                        have hcz44_3 : w17.cell? ⟨gb188, 3, none⟩ = some (.int .u8 0) := (blk_cell BK188.out 3).trans rfl
                        have hcz44_4 : w17.cell? ⟨gb188, 4, none⟩ = some (.int .i8 0) := (blk_cell BK188.out 4).trans rfl
                        have hcz44_5 : w17.cell? ⟨gb188, 5, none⟩ = some (.int .i8 0) := (blk_cell BK188.out 5).trans rfl
                        have hcz44_6 : w17.cell? ⟨gb188, 6, none⟩ = some (.int .u32 0) := (blk_cell BK188.out 6).trans rfl
                        have hcz44_7 : w17.cell? ⟨gb188, 7, none⟩ = some (.int .u32 0) := (blk_cell BK188.out 7).trans rfl
                        have hcz44_8 : w17.cell? ⟨gb188, 8, none⟩ = some (.int .u32 0) := (blk_cell BK188.out 8).trans rfl
                        have hcz44_9 : w17.cell? ⟨gb188, 9, none⟩ = some (.int .u64 0) := (blk_cell BK188.out 9).trans rfl
                        have hcz44_10 : w17.cell? ⟨gb188, 10, none⟩ = some (.int .u64 0) := (blk_cell BK188.out 10).trans rfl
                        have hcz44_11 : w17.cell? ⟨gb188, 11, none⟩ = some (.int .u64 0) := (blk_cell BK188.out 11).trans rfl
                        have hcz44_12 : w17.cell? ⟨gb188, 12, none⟩ = some (.int .u64 0) := (blk_cell BK188.out 12).trans rfl
                        have hfz44_0 := blk_frozen BK188.out 0
                        have hfz44_1 := blk_frozen BK188.out 1
                        have hfz44_2 := blk_frozen BK188.out 2
                        have hfz44_3 := blk_frozen BK188.out 3
                        have hfz44_4 := blk_frozen BK188.out 4
                        have hfz44_5 := blk_frozen BK188.out 5
                        have hfz44_6 := blk_frozen BK188.out 6
                        have hfz44_7 := blk_frozen BK188.out 7
                        have hfz44_8 := blk_frozen BK188.out 8
                        have hfz44_9 := blk_frozen BK188.out 9
                        have hfz44_10 := blk_frozen BK188.out 10
                        have hfz44_11 := blk_frozen BK188.out 11
                        have hfz44_12 := blk_frozen BK188.out 12
                        go_wp2
                        repeat (go_quiet (fail); try go_wp2)
                        go_meet
                        case rel => exact ⟨_, (4), (8), (a0_0), (a0_1), (a0_2), (a0_3), (a0_4), (a0_5), (Go.bits .xor .u32 4294967295 a0_6), (a0_7), (a0_8), (a0_10), (a0_12), (by first | rfl | (simp; done) | (simp [*]; done)), (by first | rfl | (simp; done) | (simp [*]; done)), H', ⟨by have := HJ3.out; first | omega | exact Nat.le_refl _⟩, ⟨by (with_reducible repeat (first | apply Kd.R_alloc | apply Kd.R_drewN | apply Kd.R_drew)); exact Kd.R_mono (Kd.R_far (p := ⟨gb188, 6, none⟩) (Kd.R_far (p := ⟨gb188, 12, none⟩) (Kd.R_far (p := ⟨gb188, 11, none⟩) (Kd.R_far (p := ⟨gb188, 10, none⟩) (Kd.R_far (p := ⟨gb188, 9, none⟩) (Kd.R_far (p := ⟨gb188, 8, none⟩) (Kd.R_far (p := ⟨gb188, 7, none⟩) (Kd.R_far (p := ⟨gb188, 6, none⟩) (Kd.R_far (p := ⟨gb188, 5, none⟩) (Kd.R_far (p := ⟨gb188, 4, none⟩) (Kd.R_far (p := ⟨gb188, 3, none⟩) (Kd.R_far (p := ⟨gb188, 2, none⟩) (Kd.R_far (p := ⟨gb188, 1, none⟩) (Kd.R_far (p := ⟨gb188, 0, none⟩) (Kd.R_types HO_5.out BK188.out (by decide)) (fun _ hk => hk.2) (.int .u8 a0_0)) (fun _ hk => hk.2) (.int .u8 a0_1)) (fun _ hk => hk.2) (.int .u8 a0_2)) (fun _ hk => hk.2) (.int .u8 a0_3)) (fun _ hk => hk.2) (.int .i8 a0_4)) (fun _ hk => hk.2) (.int .i8 a0_5)) (fun _ hk => hk.2) (.int .u32 a0_6)) (fun _ hk => hk.2) (.int .u32 a0_7)) (fun _ hk => hk.2) (.int .u32 a0_8)) (fun _ hk => hk.2) (.int .u64 a0_9)) (fun _ hk => hk.2) (.int .u64 a0_10)) (fun _ hk => hk.2) (.int .u64 a0_11)) (fun _ hk => hk.2) (.int .u64 a0_12)) (fun _ hk => hk.2) (.int .u32 (Go.bits .xor .u32 4294967295 a0_6))) (fun _ hk => trivial)⟩, ⟨by (with_reducible repeat (first | refine blk_drewN ?_ _ | refine blk_drew ?_ | refine blk_alloc ?_ _)); refine blk_far ?_ NB182_188.out _; (with_reducible repeat (first | refine blk_drewN ?_ _ | refine blk_drew ?_ | refine blk_alloc ?_ _)); refine blk_far ?_ NB182_188.out _; (with_reducible repeat (first | refine blk_drewN ?_ _ | refine blk_drew ?_ | refine blk_alloc ?_ _)); refine blk_far ?_ NB182_188.out _; (with_reducible repeat (first | refine blk_drewN ?_ _ | refine blk_drew ?_ | refine blk_alloc ?_ _)); refine blk_far ?_ NB182_188.out _; (with_reducible repeat (first | refine blk_drewN ?_ _ | refine blk_drew ?_ | refine blk_alloc ?_ _)); refine blk_far ?_ NB182_188.out _; (with_reducible repeat (first | refine blk_drewN ?_ _ | refine blk_drew ?_ | refine blk_alloc ?_ _)); refine blk_far ?_ NB182_188.out _; (with_reducible repeat (first | refine blk_drewN ?_ _ | refine blk_drew ?_ | refine blk_alloc ?_ _)); refine blk_far ?_ NB182_188.out _; (with_reducible repeat (first | refine blk_drewN ?_ _ | refine blk_drew ?_ | refine blk_alloc ?_ _)); refine blk_far ?_ NB182_188.out _; (with_reducible repeat (first | refine blk_drewN ?_ _ | refine blk_drew ?_ | refine blk_alloc ?_ _)); refine blk_far ?_ NB182_188.out _; (with_reducible repeat (first | refine blk_drewN ?_ _ | refine blk_drew ?_ | refine blk_alloc ?_ _)); refine blk_far ?_ NB182_188.out _; (with_reducible repeat (first | refine blk_drewN ?_ _ | refine blk_drew ?_ | refine blk_alloc ?_ _)); refine blk_far ?_ NB182_188.out _; (with_reducible repeat (first | refine blk_drewN ?_ _ | refine blk_drew ?_ | refine blk_alloc ?_ _)); refine blk_far ?_ NB182_188.out _; (with_reducible repeat (first | refine blk_drewN ?_ _ | refine blk_drew ?_ | refine blk_alloc ?_ _)); refine blk_far ?_ NB182_188.out _; (with_reducible repeat (first | refine blk_drewN ?_ _ | refine blk_drew ?_ | refine blk_alloc ?_ _)); refine blk_far ?_ NB182_188.out _; (with_reducible repeat (first | refine blk_drewN ?_ _ | refine blk_drew ?_ | refine blk_alloc ?_ _)); exact BK182.out⟩, ⟨by (with_reducible repeat (first | refine blk_drewN ?_ _ | refine blk_drew ?_ | refine blk_alloc ?_ _)); refine blk_put (cs := #[.int .u8 a0_0, .int .u8 a0_1, .int .u8 a0_2, .int .u8 a0_3, .int .i8 a0_4, .int .i8 a0_5, .int .u32 a0_6, .int .u32 a0_7, .int .u32 a0_8, .int .u64 a0_9, .int .u64 a0_10, .int .u64 a0_11, .int .u64 a0_12]) ?_ 6 _ rfl; (with_reducible repeat (first | refine blk_drewN ?_ _ | refine blk_drew ?_ | refine blk_alloc ?_ _)); refine blk_put (cs := #[.int .u8 a0_0, .int .u8 a0_1, .int .u8 a0_2, .int .u8 a0_3, .int .i8 a0_4, .int .i8 a0_5, .int .u32 a0_6, .int .u32 a0_7, .int .u32 a0_8, .int .u64 a0_9, .int .u64 a0_10, .int .u64 a0_11, .int .u64 0]) ?_ 12 _ rfl; (with_reducible repeat (first | refine blk_drewN ?_ _ | refine blk_drew ?_ | refine blk_alloc ?_ _)); refine blk_put (cs := #[.int .u8 a0_0, .int .u8 a0_1, .int .u8 a0_2, .int .u8 a0_3, .int .i8 a0_4, .int .i8 a0_5, .int .u32 a0_6, .int .u32 a0_7, .int .u32 a0_8, .int .u64 a0_9, .int .u64 a0_10, .int .u64 0, .int .u64 0]) ?_ 11 _ rfl; (with_reducible repeat (first | refine blk_drewN ?_ _ | refine blk_drew ?_ | refine blk_alloc ?_ _)); refine blk_put (cs := #[.int .u8 a0_0, .int .u8 a0_1, .int .u8 a0_2, .int .u8 a0_3, .int .i8 a0_4, .int .i8 a0_5, .int .u32 a0_6, .int .u32 a0_7, .int .u32 a0_8, .int .u64 a0_9, .int .u64 0, .int .u64 0, .int .u64 0]) ?_ 10 _ rfl; (with_reducible repeat (first | refine blk_drewN ?_ _ | refine blk_drew ?_ | refine blk_alloc ?_ _)); refine blk_put (cs := #[.int .u8 a0_0, .int .u8 a0_1, .int .u8 a0_2, .int .u8 a0_3, .int .i8 a0_4, .int .i8 a0_5, .int .u32 a0_6, .int .u32 a0_7, .int .u32 a0_8, .int .u64 0, .int .u64 0, .int .u64 0, .int .u64 0]) ?_ 9 _ rfl; (with_reducible repeat (first | refine blk_drewN ?_ _ | refine blk_drew ?_ | refine blk_alloc ?_ _)); refine blk_put (cs := #[.int .u8 a0_0, .int .u8 a0_1, .int .u8 a0_2, .int .u8 a0_3, .int .i8 a0_4, .int .i8 a0_5, .int .u32 a0_6, .int .u32 a0_7, .int .u32 0, .int .u64 0, .int .u64 0, .int .u64 0, .int .u64 0]) ?_ 8 _ rfl; (with_reducible repeat (first | refine blk_drewN ?_ _ | refine blk_drew ?_ | refine blk_alloc ?_ _)); refine blk_put (cs := #[.int .u8 a0_0, .int .u8 a0_1, .int .u8 a0_2, .int .u8 a0_3, .int .i8 a0_4, .int .i8 a0_5, .int .u32 a0_6, .int .u32 0, .int .u32 0, .int .u64 0, .int .u64 0, .int .u64 0, .int .u64 0]) ?_ 7 _ rfl; (with_reducible repeat (first | refine blk_drewN ?_ _ | refine blk_drew ?_ | refine blk_alloc ?_ _)); refine blk_put (cs := #[.int .u8 a0_0, .int .u8 a0_1, .int .u8 a0_2, .int .u8 a0_3, .int .i8 a0_4, .int .i8 a0_5, .int .u32 0, .int .u32 0, .int .u32 0, .int .u64 0, .int .u64 0, .int .u64 0, .int .u64 0]) ?_ 6 _ rfl; (with_reducible repeat (first | refine blk_drewN ?_ _ | refine blk_drew ?_ | refine blk_alloc ?_ _)); refine blk_put (cs := #[.int .u8 a0_0, .int .u8 a0_1, .int .u8 a0_2, .int .u8 a0_3, .int .i8 a0_4, .int .i8 0, .int .u32 0, .int .u32 0, .int .u32 0, .int .u64 0, .int .u64 0, .int .u64 0, .int .u64 0]) ?_ 5 _ rfl; (with_reducible repeat (first | refine blk_drewN ?_ _ | refine blk_drew ?_ | refine blk_alloc ?_ _)); refine blk_put (cs := #[.int .u8 a0_0, .int .u8 a0_1, .int .u8 a0_2, .int .u8 a0_3, .int .i8 0, .int .i8 0, .int .u32 0, .int .u32 0, .int .u32 0, .int .u64 0, .int .u64 0, .int .u64 0, .int .u64 0]) ?_ 4 _ rfl; (with_reducible repeat (first | refine blk_drewN ?_ _ | refine blk_drew ?_ | refine blk_alloc ?_ _)); refine blk_put (cs := #[.int .u8 a0_0, .int .u8 a0_1, .int .u8 a0_2, .int .u8 0, .int .i8 0, .int .i8 0, .int .u32 0, .int .u32 0, .int .u32 0, .int .u64 0, .int .u64 0, .int .u64 0, .int .u64 0]) ?_ 3 _ rfl; (with_reducible repeat (first | refine blk_drewN ?_ _ | refine blk_drew ?_ | refine blk_alloc ?_ _)); refine blk_put (cs := #[.int .u8 a0_0, .int .u8 a0_1, .int .u8 0, .int .u8 0, .int .i8 0, .int .i8 0, .int .u32 0, .int .u32 0, .int .u32 0, .int .u64 0, .int .u64 0, .int .u64 0, .int .u64 0]) ?_ 2 _ rfl; (with_reducible repeat (first | refine blk_drewN ?_ _ | refine blk_drew ?_ | refine blk_alloc ?_ _)); refine blk_put (cs := #[.int .u8 a0_0, .int .u8 0, .int .u8 0, .int .u8 0, .int .i8 0, .int .i8 0, .int .u32 0, .int .u32 0, .int .u32 0, .int .u64 0, .int .u64 0, .int .u64 0, .int .u64 0]) ?_ 1 _ rfl; (with_reducible repeat (first | refine blk_drewN ?_ _ | refine blk_drew ?_ | refine blk_alloc ?_ _)); refine blk_put (cs := #[.int .u8 0, .int .u8 0, .int .u8 0, .int .u8 0, .int .i8 0, .int .i8 0, .int .u32 0, .int .u32 0, .int .u32 0, .int .u64 0, .int .u64 0, .int .u64 0, .int .u64 0]) ?_ 0 _ rfl; (with_reducible repeat (first | refine blk_drewN ?_ _ | refine blk_drew ?_ | refine blk_alloc ?_ _)); exact BK188.out⟩, ⟨by repeat (first | (with_reducible first | exact HB.out | apply below_alloc | apply pw_below_drewN | apply below_drew1 | refine below_set ?_ GE182.out | refine below_set ?_ GE188.out) | exact HB.out)⟩⟩
                      · rw [if_neg c41] at H
                        have c41b0 : ((Int.tmod a1 11) == 6) = false := beq_eq_false_iff_ne.mpr c41
                        have c41b1 : ((Int.tmod a1 11) != 6) = true := bne_iff_ne.mpr c41
                        by_cases c45 : (Int.tmod a1 11) = 7
                        · rw [if_pos c45] at H
                          have c45b0 : ((Int.tmod a1 11) == 7) = true := beq_iff_eq.mpr c45
                          have c45b1 : ((Int.tmod a1 11) != 7) = false := bne_eq_false_iff_eq.mpr c45
                          clear c45
                          have H' := Aside0.mk H
                          clear H
                          have hnb46 := NB182_188.out
                          have hnc46 := NB188_182.out
                          have hcz47_0 : w17.cell? ⟨gb182, 0, none⟩ = some (.int .u8 a0_0) := (blk_cell BK182.out 0).trans rfl
                          have hcz47_1 : w17.cell? ⟨gb182, 1, none⟩ = some (.int .u8 a0_1) := (blk_cell BK182.out 1).trans rfl
                          have hcz47_2 : w17.cell? ⟨gb182, 2, none⟩ = some (.int .u8 a0_2) := (blk_cell BK182.out 2).trans rfl
                          have hcz47_3 : w17.cell? ⟨gb182, 3, none⟩ = some (.int .u8 a0_3) := (blk_cell BK182.out 3).trans rfl
                          have hcz47_4 : w17.cell? ⟨gb182, 4, none⟩ = some (.int .i8 a0_4) := (blk_cell BK182.out 4).trans rfl
                          have hcz47_5 : w17.cell? ⟨gb182, 5, none⟩ = some (.int .i8 a0_5) := (blk_cell BK182.out 5).trans rfl
                          have hcz47_6 : w17.cell? ⟨gb182, 6, none⟩ = some (.int .u32 a0_6) := (blk_cell BK182.out 6).trans rfl
                          have hcz47_7 : w17.cell? ⟨gb182, 7, none⟩ = some (.int .u32 a0_7) := (blk_cell BK182.out 7).trans rfl
                          have hcz47_8 : w17.cell? ⟨gb182, 8, none⟩ = some (.int .u32 a0_8) := (blk_cell BK182.out 8).trans rfl
                          have hcz47_9 : w17.cell? ⟨gb182, 9, none⟩ = some (.int .u64 a0_9) := (blk_cell BK182.out 9).trans rfl
                          have hcz47_10 : w17.cell? ⟨gb182, 10, none⟩ = some (.int .u64 a0_10) := (blk_cell BK182.out 10).trans rfl
                          have hcz47_11 : w17.cell? ⟨gb182, 11, none⟩ = some (.int .u64 a0_11) := (blk_cell BK182.out 11).trans rfl
                          have hcz47_12 : w17.cell? ⟨gb182, 12, none⟩ = some (.int .u64 a0_12) := (blk_cell BK182.out 12).trans rfl
                          have hfz47_0 := blk_frozen BK182.out 0
                          have hfz47_1 := blk_frozen BK182.out 1
                          have hfz47_2 := blk_frozen BK182.out 2
                          have hfz47_3 := blk_frozen BK182.out 3
                          have hfz47_4 := blk_frozen BK182.out 4
                          have hfz47_5 := blk_frozen BK182.out 5
                          have hfz47_6 := blk_frozen BK182.out 6
                          have hfz47_7 := blk_frozen BK182.out 7
                          have hfz47_8 := blk_frozen BK182.out 8
                          have hfz47_9 := blk_frozen BK182.out 9
                          have hfz47_10 := blk_frozen BK182.out 10
                          have hfz47_11 := blk_frozen BK182.out 11
                          have hfz47_12 := blk_frozen BK182.out 12
                          have hcz48_0 : w17.cell? ⟨gb188, 0, none⟩ = some (.int .u8 0) := (blk_cell BK188.out 0).trans rfl
                          have hcz48_1 : w17.cell? ⟨gb188, 1, none⟩ = some (.int .u8 0) := (blk_cell BK188.out 1).trans rfl
                          have hcz48_2 : w17.cell? ⟨gb188, 2, none⟩ = some (.int .u8 0) := (blk_cell BK188.out 2).trans rfl
                          have hcz48_3 : w17.cell? ⟨gb188, 3, none⟩ = some (.int .u8 0) := (blk_cell BK188.out 3).trans rfl
                          have hcz48_4 : w17.cell? ⟨gb188, 4, none⟩ = some (.int .i8 0) := (blk_cell BK188.out 4).trans rfl
                          have hcz48_5 : w17.cell? ⟨gb188, 5, none⟩ = some (.int .i8 0) := (blk_cell BK188.out 5).trans rfl
                          have hcz48_6 : w17.cell? ⟨gb188, 6, none⟩ = some (.int .u32 0) := (blk_cell BK188.out 6).trans rfl
                          have hcz48_7 : w17.cell? ⟨gb188, 7, none⟩ = some (.int .u32 0) := (blk_cell BK188.out 7).trans rfl
                          have hcz48_8 : w17.cell? ⟨gb188, 8, none⟩ = some (.int .u32 0) := (blk_cell BK188.out 8).trans rfl
                          have hcz48_9 : w17.cell? ⟨gb188, 9, none⟩ = some (.int .u64 0) := (blk_cell BK188.out 9).trans rfl
                          have hcz48_10 : w17.cell? ⟨gb188, 10, none⟩ = some (.int .u64 0) := (blk_cell BK188.out 10).trans rfl
                          have hcz48_11 : w17.cell? ⟨gb188, 11, none⟩ = some (.int .u64 0) := (blk_cell BK188.out 11).trans rfl
                          have hcz48_12 : w17.cell? ⟨gb188, 12, none⟩ = some (.int .u64 0) := (blk_cell BK188.out 12).trans rfl
                          have hfz48_0 := blk_frozen BK188.out 0
                          have hfz48_1 := blk_frozen BK188.out 1
                          have hfz48_2 := blk_frozen BK188.out 2
                          have hfz48_3 := blk_frozen BK188.out 3
                          have hfz48_4 := blk_frozen BK188.out 4
                          have hfz48_5 := blk_frozen BK188.out 5
                          have hfz48_6 := blk_frozen BK188.out 6
                          have hfz48_7 := blk_frozen BK188.out 7
                          have hfz48_8 := blk_frozen BK188.out 8
                          have hfz48_9 := blk_frozen BK188.out 9
                          have hfz48_10 := blk_frozen BK188.out 10
                          have hfz48_11 := blk_frozen BK188.out 11
                          have hfz48_12 := blk_frozen BK188.out 12
                          go_wp2
                          repeat (go_quiet (fail); try go_wp2)
                          go_meet
                          case rel => exact ⟨_, (8), (12), (a0_0), (a0_1), (a0_2), (a0_3), (a0_4), (a0_5), (a0_6), (Go.bits .xor .u32 4294967295 a0_7), (a0_8), (a0_10), (a0_12), (by first | rfl | (simp; done) | (simp [*]; done)), (by first | rfl | (simp; done) | (simp [*]; done)), H', ⟨by have := HJ3.out; first | omega | exact Nat.le_refl _⟩, ⟨by (with_reducible repeat (first | apply Kd.R_alloc | apply Kd.R_drewN | apply Kd.R_drew)); exact Kd.R_mono (Kd.R_far (p := ⟨gb188, 7, none⟩) (Kd.R_far (p := ⟨gb188, 12, none⟩) (Kd.R_far (p := ⟨gb188, 11, none⟩) (Kd.R_far (p := ⟨gb188, 10, none⟩) (Kd.R_far (p := ⟨gb188, 9, none⟩) (Kd.R_far (p := ⟨gb188, 8, none⟩) (Kd.R_far (p := ⟨gb188, 7, none⟩) (Kd.R_far (p := ⟨gb188, 6, none⟩) (Kd.R_far (p := ⟨gb188, 5, none⟩) (Kd.R_far (p := ⟨gb188, 4, none⟩) (Kd.R_far (p := ⟨gb188, 3, none⟩) (Kd.R_far (p := ⟨gb188, 2, none⟩) (Kd.R_far (p := ⟨gb188, 1, none⟩) (Kd.R_far (p := ⟨gb188, 0, none⟩) (Kd.R_types HO_5.out BK188.out (by decide)) (fun _ hk => hk.2) (.int .u8 a0_0)) (fun _ hk => hk.2) (.int .u8 a0_1)) (fun _ hk => hk.2) (.int .u8 a0_2)) (fun _ hk => hk.2) (.int .u8 a0_3)) (fun _ hk => hk.2) (.int .i8 a0_4)) (fun _ hk => hk.2) (.int .i8 a0_5)) (fun _ hk => hk.2) (.int .u32 a0_6)) (fun _ hk => hk.2) (.int .u32 a0_7)) (fun _ hk => hk.2) (.int .u32 a0_8)) (fun _ hk => hk.2) (.int .u64 a0_9)) (fun _ hk => hk.2) (.int .u64 a0_10)) (fun _ hk => hk.2) (.int .u64 a0_11)) (fun _ hk => hk.2) (.int .u64 a0_12)) (fun _ hk => hk.2) (.int .u32 (Go.bits .xor .u32 4294967295 a0_7))) (fun _ hk => trivial)⟩, ⟨by (with_reducible repeat (first | refine blk_drewN ?_ _ | refine blk_drew ?_ | refine blk_alloc ?_ _)); refine blk_far ?_ NB182_188.out _; (with_reducible repeat (first | refine blk_drewN ?_ _ | refine blk_drew ?_ | refine blk_alloc ?_ _)); refine blk_far ?_ NB182_188.out _; (with_reducible repeat (first | refine blk_drewN ?_ _ | refine blk_drew ?_ | refine blk_alloc ?_ _)); refine blk_far ?_ NB182_188.out _; (with_reducible repeat (first | refine blk_drewN ?_ _ | refine blk_drew ?_ | refine blk_alloc ?_ _)); refine blk_far ?_ NB182_188.out _; (with_reducible repeat (first | refine blk_drewN ?_ _ | refine blk_drew ?_ | refine blk_alloc ?_ _)); refine blk_far ?_ NB182_188.out _; (with_reducible repeat (first | refine blk_drewN ?_ _ | refine blk_drew ?_ | refine blk_alloc ?_ _)); refine blk_far ?_ NB182_188.out _; (with_reducible repeat (first | refine blk_drewN ?_ _ | refine blk_drew ?_ | refine blk_alloc ?_ _)); refine blk_far ?_ NB182_188.out _; (with_reducible repeat (first | refine blk_drewN ?_ _ | refine blk_drew ?_ | refine blk_alloc ?_ _)); refine blk_far ?_ NB182_188.out _; (with_reducible repeat (first | refine blk_drewN ?_ _ | refine blk_drew ?_ | refine blk_alloc ?_ _)); refine blk_far ?_ NB182_188.out _; (with_reducible repeat (first | refine blk_drewN ?_ _ | refine blk_drew ?_ | refine blk_alloc ?_ _)); refine blk_far ?_ NB182_188.out _; (with_reducible repeat (first | refine blk_drewN ?_ _ | refine blk_drew ?_ | refine blk_alloc ?_ _)); refine blk_far ?_ NB182_188.out _; (with_reducible repeat (first | refine blk_drewN ?_ _ | refine blk_drew ?_ | refine blk_alloc ?_ _)); refine blk_far ?_ NB182_188.out _; (with_reducible repeat (first | refine blk_drewN ?_ _ | refine blk_drew ?_ | refine blk_alloc ?_ _)); refine blk_far ?_ NB182_188.out _; (with_reducible repeat (first | refine blk_drewN ?_ _ | refine blk_drew ?_ | refine blk_alloc ?_ _)); refine blk_far ?_ NB182_188.out _; (with_reducible repeat (first | refine blk_drewN ?_ _ | refine blk_drew ?_ | refine blk_alloc ?_ _)); exact BK182.out⟩, ⟨by (with_reducible repeat (first | refine blk_drewN ?_ _ | refine blk_drew ?_ | refine blk_alloc ?_ _)); refine blk_put (cs := #[.int .u8 a0_0, .int .u8 a0_1, .int .u8 a0_2, .int .u8 a0_3, .int .i8 a0_4, .int .i8 a0_5, .int .u32 a0_6, .int .u32 a0_7, .int .u32 a0_8, .int .u64 a0_9, .int .u64 a0_10, .int .u64 a0_11, .int .u64 a0_12]) ?_ 7 _ rfl; (with_reducible repeat (first | refine blk_drewN ?_ _ | refine blk_drew ?_ | refine blk_alloc ?_ _)); refine blk_put (cs := #[.int .u8 a0_0, .int .u8 a0_1, .int .u8 a0_2, .int .u8 a0_3, .int .i8 a0_4, .int .i8 a0_5, .int .u32 a0_6, .int .u32 a0_7, .int .u32 a0_8, .int .u64 a0_9, .int .u64 a0_10, .int .u64 a0_11, .int .u64 0]) ?_ 12 _ rfl; (with_reducible repeat (first | refine blk_drewN ?_ _ | refine blk_drew ?_ | refine blk_alloc ?_ _)); refine blk_put (cs := #[.int .u8 a0_0, .int .u8 a0_1, .int .u8 a0_2, .int .u8 a0_3, .int .i8 a0_4, .int .i8 a0_5, .int .u32 a0_6, .int .u32 a0_7, .int .u32 a0_8, .int .u64 a0_9, .int .u64 a0_10, .int .u64 0, .int .u64 0]) ?_ 11 _ rfl; (with_reducible repeat (first | refine blk_drewN ?_ _ | refine blk_drew ?_ | refine blk_alloc ?_ _)); refine blk_put (cs := #[.int .u8 a0_0, .int .u8 a0_1, .int .u8 a0_2, .int .u8 a0_3, .int .i8 a0_4, .int .i8 a0_5, .int .u32 a0_6, .int .u32 a0_7, .int .u32 a0_8, .int .u64 a0_9, .int .u64 0, .int .u64 0, .int .u64 0]) ?_ 10 _ rfl; (with_reducible repeat (first | refine blk_drewN ?_ _ | refine blk_drew ?_ | refine blk_alloc ?_ _)); refine blk_put (cs := #[.int .u8 a0_0, .int .u8 a0_1, .int .u8 a0_2, .int .u8 a0_3, .int .i8 a0_4, .int .i8 a0_5, .int .u32 a0_6, .int .u32 a0_7, .int .u32 a0_8, .int .u64 0, .int .u64 0, .int .u64 0, .int .u64 0]) ?_ 9 _ rfl; (with_reducible repeat (first | refine blk_drewN ?_ _ | refine blk_drew ?_ | refine blk_alloc ?_ _)); refine blk_put (cs := #[.int .u8 a0_0, .int .u8 a0_1, .int .u8 a0_2, .int .u8 a0_3, .int .i8 a0_4, .int .i8 a0_5, .int .u32 a0_6, .int .u32 a0_7, .int .u32 0, .int .u64 0, .int .u64 0, .int .u64 0, .int .u64 0]) ?_ 8 _ rfl; (with_reducible repeat (first | refine blk_drewN ?_ _ | refine blk_drew ?_ | refine blk_alloc ?_ _)); refine blk_put (cs := #[.int .u8 a0_0, .int .u8 a0_1, .int .u8 a0_2, .int .u8 a0_3, .int .i8 a0_4, .int .i8 a0_5, .int .u32 a0_6, .int .u32 0, .int .u32 0, .int .u64 0, .int .u64 0, .int .u64 0, .int .u64 0]) ?_ 7 _ rfl; (with_reducible repeat (first | refine blk_drewN ?_ _ | refine blk_drew ?_ | refine blk_alloc ?_ _)); refine blk_put (cs := #[.int .u8 a0_0, .int .u8 a0_1, .int .u8 a0_2, .int .u8 a0_3, .int .i8 a0_4, .int .i8 a0_5, .int .u32 0, .int .u32 0, .int .u32 0, .int .u64 0, .int .u64 0, .int .u64 0, .int .u64 0]) ?_ 6 _ rfl; (with_reducible repeat (first | refine blk_drewN ?_ _ | refine blk_drew ?_ | refine blk_alloc ?_ _)); refine blk_put (cs := #[.int .u8 a0_0, .int .u8 a0_1, .int .u8 a0_2, .int .u8 a0_3, .int .i8 a0_4, .int .i8 0, .int .u32 0, .int .u32 0, .int .u32 0, .int .u64 0, .int .u64 0, .int .u64 0, .int .u64 0]) ?_ 5 _ rfl; (with_reducible repeat (first | refine blk_drewN ?_ _ | refine blk_drew ?_ | refine blk_alloc ?_ _)); refine blk_put (cs := #[.int .u8 a0_0, .int .u8 a0_1, .int .u8 a0_2, .int .u8 a0_3, .int .i8 0, .int .i8 0, .int .u32 0, .int .u32 0, .int .u32 0, .int .u64 0, .int .u64 0, .int .u64 0, .int .u64 0]) ?_ 4 _ rfl; (with_reducible repeat (first | refine blk_drewN ?_ _ | refine blk_drew ?_ | refine blk_alloc ?_ _)); refine blk_put (cs := #[.int .u8 a0_0, .int .u8 a0_1, .int .u8 a0_2, .int .u8 0, .int .i8 0, .int .i8 0, .int .u32 0, .int .u32 0, .int .u32 0, .int .u64 0, .int .u64 0, .int .u64 0, .int .u64 0]) ?_ 3 _ rfl; (with_reducible repeat (first | refine blk_drewN ?_ _ | refine blk_drew ?_ | refine blk_alloc ?_ _)); refine blk_put (cs := #[.int .u8 a0_0, .int .u8 a0_1, .int .u8 0, .int .u8 0, .int .i8 0, .int .i8 0, .int .u32 0, .int .u32 0, .int .u32 0, .int .u64 0, .int .u64 0, .int .u64 0, .int .u64 0]) ?_ 2 _ rfl; (with_reducible repeat (first | refine blk_drewN ?_ _ | refine blk_drew ?_ | refine blk_alloc ?_ _)); refine blk_put (cs := #[.int .u8 a0_0, .int .u8 0, .int .u8 0, .int .u8 0, .int .i8 0, .int .i8 0, .int .u32 0, .int .u32 0, .int .u32 0, .int .u64 0, .int .u64 0, .int .u64 0, .int .u64 0]) ?_ 1 _ rfl; (with_reducible repeat (first | refine blk_drewN ?_ _ | refine blk_drew ?_ | refine blk_alloc ?_ _)); refine blk_put (cs := #[.int .u8 0, .int .u8 0, .int .u8 0, .int .u8 0, .int .i8 0, .int .i8 0, .int .u32 0, .int .u32 0, .int .u32 0, .int .u64 0, .int .u64 0, .int .u64 0, .int .u64 0]) ?_ 0 _ rfl; (with_reducible repeat (first | refine blk_drewN ?_ _ | refine blk_drew ?_ | refine blk_alloc ?_ _)); exact BK188.out⟩, ⟨by repeat (first | (with_reducible first | exact HB.out | apply below_alloc | apply pw_below_drewN | apply below_drew1 | refine below_set ?_ GE182.out | refine below_set ?_ GE188.out) | exact HB.out)⟩⟩
                        · rw [if_neg c45] at H
                          have c45b0 : ((Int.tmod a1 11) == 7) = false := beq_eq_false_iff_ne.mpr c45
                          have c45b1 : ((Int.tmod a1 11) != 7) = true := bne_iff_ne.mpr c45
                          by_cases c49 : (Int.tmod a1 11) = 8
                          · rw [if_pos c49] at H
                            have c49b0 : ((Int.tmod a1 11) == 8) = true := beq_iff_eq.mpr c49
                            have c49b1 : ((Int.tmod a1 11) != 8) = false := bne_eq_false_iff_eq.mpr c49
                            clear c49
                            have H' := Aside0.mk H
                            clear H
                            have hnb50 := NB182_188.out
                            have hnc50 := NB188_182.out
                            have hcz51_0 : w17.cell? ⟨gb182, 0, none⟩ = some (.int .u8 a0_0) := (blk_cell BK182.out 0).trans rfl
                            have hcz51_1 : w17.cell? ⟨gb182, 1, none⟩ = some (.int .u8 a0_1) := (blk_cell BK182.out 1).trans rfl
                            have hcz51_2 : w17.cell? ⟨gb182, 2, none⟩ = some (.int .u8 a0_2) := (blk_cell BK182.out 2).trans rfl
                            have hcz51_3 : w17.cell? ⟨gb182, 3, none⟩ = some (.int .u8 a0_3) := (blk_cell BK182.out 3).trans rfl
                            have hcz51_4 : w17.cell? ⟨gb182, 4, none⟩ = some (.int .i8 a0_4) := (blk_cell BK182.out 4).trans rfl
                            have hcz51_5 : w17.cell? ⟨gb182, 5, none⟩ = some (.int .i8 a0_5) := (blk_cell BK182.out 5).trans rfl
                            have hcz51_6 : w17.cell? ⟨gb182, 6, none⟩ = some (.int .u32 a0_6) := (blk_cell BK182.out 6).trans rfl
                            have hcz51_7 : w17.cell? ⟨gb182, 7, none⟩ = some (.int .u32 a0_7) := (blk_cell BK182.out 7).trans rfl
                            have hcz51_8 : w17.cell? ⟨gb182, 8, none⟩ = some (.int .u32 a0_8) := (blk_cell BK182.out 8).trans rfl
                            have hcz51_9 : w17.cell? ⟨gb182, 9, none⟩ = some (.int .u64 a0_9) := (blk_cell BK182.out 9).trans rfl
                            have hcz51_10 : w17.cell? ⟨gb182, 10, none⟩ = some (.int .u64 a0_10) := (blk_cell BK182.out 10).trans rfl
                            have hcz51_11 : w17.cell? ⟨gb182, 11, none⟩ = some (.int .u64 a0_11) := (blk_cell BK182.out 11).trans rfl
                            have hcz51_12 : w17.cell? ⟨gb182, 12, none⟩ = some (.int .u64 a0_12) := (blk_cell BK182.out 12).trans rfl
                            have hfz51_0 := blk_frozen BK182.out 0
                            have hfz51_1 := blk_frozen BK182.out 1
                            have hfz51_2 := blk_frozen BK182.out 2
                            have hfz51_3 := blk_frozen BK182.out 3
                            have hfz51_4 := blk_frozen BK182.out 4
                            have hfz51_5 := blk_frozen BK182.out 5
                            have hfz51_6 := blk_frozen BK182.out 6
                            have hfz51_7 := blk_frozen BK182.out 7
                            have hfz51_8 := blk_frozen BK182.out 8
                            have hfz51_9 := blk_frozen BK182.out 9
                            have hfz51_10 := blk_frozen BK182.out 10
                            have hfz51_11 := blk_frozen BK182.out 11
                            have hfz51_12 := blk_frozen BK182.out 12
                            have hcz52_0 : w17.cell? ⟨gb188, 0, none⟩ = some (.int .u8 0) := (blk_cell BK188.out 0).trans rfl
                            have hcz52_1 : w17.cell? ⟨gb188, 1, none⟩ = some (.int .u8 0) := (blk_cell BK188.out 1).trans rfl
                            have hcz52_2 : w17.cell? ⟨gb188, 2, none⟩ = some (.int .u8 0) := (blk_cell BK188.out 2).trans rfl
                            have hcz52_3 : w17.cell? ⟨gb188, 3, none⟩ = some (.int .u8 0) := (blk_cell BK188.out 3).trans rfl
                            have hcz52_4 : w17.cell? ⟨gb188, 4, none⟩ = some (.int .i8 0) := (blk_cell BK188.out 4).trans rfl
                            have hcz52_5 : w17.cell? ⟨gb188, 5, none⟩ = some (.int .i8 0) := (blk_cell BK188.out 5).trans rfl
                            have hcz52_6 : w17.cell? ⟨gb188, 6, none⟩ = some (.int .u32 0) := (blk_cell BK188.out 6).trans rfl
                            have hcz52_7 : w17.cell? ⟨gb188, 7, none⟩ = some (.int .u32 0) := (blk_cell BK188.out 7).trans rfl
                            have hcz52_8 : w17.cell? ⟨gb188, 8, none⟩ = some (.int .u32 0) := (blk_cell BK188.out 8).trans rfl
                            have hcz52_9 : w17.cell? ⟨gb188, 9, none⟩ = some (.int .u64 0) := (blk_cell BK188.out 9).trans rfl
                            have hcz52_10 : w17.cell? ⟨gb188, 10, none⟩ = some (.int .u64 0) := (blk_cell BK188.out 10).trans rfl
                            have hcz52_11 : w17.cell? ⟨gb188, 11, none⟩ = some (.int .u64 0) := (blk_cell BK188.out 11).trans rfl
                            have hcz52_12 : w17.cell? ⟨gb188, 12, none⟩ = some (.int .u64 0) := (blk_cell BK188.out 12).trans rfl
                            have hfz52_0 := blk_frozen BK188.out 0
                            have hfz52_1 := blk_frozen BK188.out 1
                            have hfz52_2 := blk_frozen BK188.out 2
                            have hfz52_3 := blk_frozen BK188.out 3
                            have hfz52_4 := blk_frozen BK188.out 4
                            have hfz52_5 := blk_frozen BK188.out 5
                            have hfz52_6 := blk_frozen BK188.out 6
                            have hfz52_7 := blk_frozen BK188.out 7
                            have hfz52_8 := blk_frozen BK188.out 8
                            have hfz52_9 := blk_frozen BK188.out 9
                            have hfz52_10 := blk_frozen BK188.out 10
                            have hfz52_11 := blk_frozen BK188.out 11
                            have hfz52_12 := blk_frozen BK188.out 12
                            go_wp2
                            repeat (go_quiet (fail); try go_wp2)
                            go_meet
                            case rel => exact ⟨_, (12), (16), (a0_0), (a0_1), (a0_2), (a0_3), (a0_4), (a0_5), (a0_6), (a0_7), (Go.bits .xor .u32 4294967295 a0_8), (a0_10), (a0_12), (by first | rfl | (simp; done) | (simp [*]; done)), (by first | rfl | (simp; done) | (simp [*]; done)), H', ⟨by have := HJ3.out; first | omega | exact Nat.le_refl _⟩, ⟨by (with_reducible repeat (first | apply Kd.R_alloc | apply Kd.R_drewN | apply Kd.R_drew)); exact Kd.R_mono (Kd.R_far (p := ⟨gb188, 8, none⟩) (Kd.R_far (p := ⟨gb188, 12, none⟩) (Kd.R_far (p := ⟨gb188, 11, none⟩) (Kd.R_far (p := ⟨gb188, 10, none⟩) (Kd.R_far (p := ⟨gb188, 9, none⟩) (Kd.R_far (p := ⟨gb188, 8, none⟩) (Kd.R_far (p := ⟨gb188, 7, none⟩) (Kd.R_far (p := ⟨gb188, 6, none⟩) (Kd.R_far (p := ⟨gb188, 5, none⟩) (Kd.R_far (p := ⟨gb188, 4, none⟩) (Kd.R_far (p := ⟨gb188, 3, none⟩) (Kd.R_far (p := ⟨gb188, 2, none⟩) (Kd.R_far (p := ⟨gb188, 1, none⟩) (Kd.R_far (p := ⟨gb188, 0, none⟩) (Kd.R_types HO_5.out BK188.out (by decide)) (fun _ hk => hk.2) (.int .u8 a0_0)) (fun _ hk => hk.2) (.int .u8 a0_1)) (fun _ hk => hk.2) (.int .u8 a0_2)) (fun _ hk => hk.2) (.int .u8 a0_3)) (fun _ hk => hk.2) (.int .i8 a0_4)) (fun _ hk => hk.2) (.int .i8 a0_5)) (fun _ hk => hk.2) (.int .u32 a0_6)) (fun _ hk => hk.2) (.int .u32 a0_7)) (fun _ hk => hk.2) (.int .u32 a0_8)) (fun _ hk => hk.2) (.int .u64 a0_9)) (fun _ hk => hk.2) (.int .u64 a0_10)) (fun _ hk => hk.2) (.int .u64 a0_11)) (fun _ hk => hk.2) (.int .u64 a0_12)) (fun _ hk => hk.2) (.int .u32 (Go.bits .xor .u32 4294967295 a0_8))) (fun _ hk => trivial)⟩, ⟨by (with_reducible repeat (first | refine blk_drewN ?_ _ | refine blk_drew ?_ | refine blk_alloc ?_ _)); refine blk_far ?_ NB182_188.out _; (with_reducible repeat (first | refine blk_drewN ?_ _ | refine blk_drew ?_ | refine blk_alloc ?_ _)); refine blk_far ?_ NB182_188.out _; (with_reducible repeat (first | refine blk_drewN ?_ _ | refine blk_drew ?_ | refine blk_alloc ?_ _)); refine blk_far ?_ NB182_188.out _; (with_reducible repeat (first | refine blk_drewN ?_ _ | refine blk_drew ?_ | refine blk_alloc ?_ _)); refine blk_far ?_ NB182_188.out _; (with_reducible repeat (first | refine blk_drewN ?_ _ | refine blk_drew ?_ | refine blk_alloc ?_ _)); refine blk_far ?_ NB182_188.out _; (with_reducible repeat (first | refine blk_drewN ?_ _ | refine blk_drew ?_ | refine blk_alloc ?_ _)); refine blk_far ?_ NB182_188.out _; (with_reducible repeat (first | refine blk_drewN ?_ _ | refine blk_drew ?_ | refine blk_alloc ?_ _)); refine blk_far ?_ NB182_188.out _; (with_reducible repeat (first | refine blk_drewN ?_ _ | refine blk_drew ?_ | refine blk_alloc ?_ _)); refine blk_far ?_ NB182_188.out _; (with_reducible repeat (first | refine blk_drewN ?_ _ | refine blk_drew ?_ | refine blk_alloc ?_ _)); refine blk_far ?_ NB182_188.out _; (with_reducible repeat (first | refine blk_drewN ?_ _ | refine blk_drew ?_ | refine blk_alloc ?_ _)); refine blk_far ?_ NB182_188.out _; (with_reducible repeat (first | refine blk_drewN ?_ _ | refine blk_drew ?_ | refine blk_alloc ?_ _)); refine blk_far ?_ NB182_188.out _; (with_reducible repeat (first | refine blk_drewN ?_ _ | refine blk_drew ?_ | refine blk_alloc ?_ _)); refine blk_far ?_ NB182_188.out _; (with_reducible repeat (first | refine blk_drewN ?_ _ | refine blk_drew ?_ | refine blk_alloc ?_ _)); refine blk_far ?_ NB182_188.out _; (with_reducible repeat (first | refine blk_drewN ?_ _ | refine blk_drew ?_ | refine blk_alloc ?_ _)); refine blk_far ?_ NB182_188.out _; (with_reducible repeat (first | refine blk_drewN ?_ _ | refine blk_drew ?_ | refine blk_alloc ?_ _)); exact BK182.out⟩, ⟨by (with_reducible repeat (first | refine blk_drewN ?_ _ | refine blk_drew ?_ | refine blk_alloc ?_ _)); refine blk_put (cs := #[.int .u8 a0_0, .int .u8 a0_1, .int .u8 a0_2, .int .u8 a0_3, .int .i8 a0_4, .int .i8 a0_5, .int .u32 a0_6, .int .u32 a0_7, .int .u32 a0_8, .int .u64 a0_9, .int .u64 a0_10, .int .u64 a0_11, .int .u64 a0_12]) ?_ 8 _ rfl; (with_reducible repeat (first | refine blk_drewN ?_ _ | refine blk_drew ?_ | refine blk_alloc ?_ _)); refine blk_put (cs := #[.int .u8 a0_0, .int .u8 a0_1, .int .u8 a0_2, .int .u8 a0_3, .int .i8 a0_4, .int .i8 a0_5, .int .u32 a0_6, .int .u32 a0_7, .int .u32 a0_8, .int .u64 a0_9, .int .u64 a0_10, .int .u64 a0_11, .int .u64 0]) ?_ 12 _ rfl; (with_reducible repeat (first | refine blk_drewN ?_ _ | refine blk_drew ?_ | refine blk_alloc ?_ _)); refine blk_put (cs := #[.int .u8 a0_0, .int .u8 a0_1, .int .u8 a0_2, .int .u8 a0_3, .int .i8 a0_4, .int .i8 a0_5, .int .u32 a0_6, .int .u32 a0_7, .int .u32 a0_8, .int .u64 a0_9, .int .u64 a0_10, .int .u64 0, .int .u64 0]) ?_ 11 _ rfl; (with_reducible repeat (first | refine blk_drewN ?_ _ | refine blk_drew ?_ | refine blk_alloc ?_ _)); refine blk_put (cs := #[.int .u8 a0_0, .int .u8 a0_1, .int .u8 a0_2, .int .u8 a0_3, .int .i8 a0_4, .int .i8 a0_5, .int .u32 a0_6, .int .u32 a0_7, .int .u32 a0_8, .int .u64 a0_9, .int .u64 0, .int .u64 0, .int .u64 0]) ?_ 10 _ rfl; (with_reducible repeat (first | refine blk_drewN ?_ _ | refine blk_drew ?_ | refine blk_alloc ?_ _)); refine blk_put (cs := #[.int .u8 a0_0, .int .u8 a0_1, .int .u8 a0_2, .int .u8 a0_3, .int .i8 a0_4, .int .i8 a0_5, .int .u32 a0_6, .int .u32 a0_7, .int .u32 a0_8, .int .u64 0, .int .u64 0, .int .u64 0, .int .u64 0]) ?_ 9 _ rfl; (with_reducible repeat (first | refine blk_drewN ?_ _ | refine blk_drew ?_ | refine blk_alloc ?_ _)); refine blk_put (cs := #[.int .u8 a0_0, .int .u8 a0_1, .int .u8 a0_2, .int .u8 a0_3, .int .i8 a0_4, .int .i8 a0_5, .int .u32 a0_6, .int .u32 a0_7, .int .u32 0, .int .u64 0, .int .u64 0, .int .u64 0, .int .u64 0]) ?_ 8 _ rfl; (with_reducible repeat (first | refine blk_drewN ?_ _ | refine blk_drew ?_ | refine blk_alloc ?_ _)); refine blk_put (cs := #[.int .u8 a0_0, .int .u8 a0_1, .int .u8 a0_2, .int .u8 a0_3, .int .i8 a0_4, .int .i8 a0_5, .int .u32 a0_6, .int .u32 0, .int .u32 0, .int .u64 0, .int .u64 0, .int .u64 0, .int .u64 0]) ?_ 7 _ rfl; (with_reducible repeat (first | refine blk_drewN ?_ _ | refine blk_drew ?_ | refine blk_alloc ?_ _)); refine blk_put (cs := #[.int .u8 a0_0, .int .u8 a0_1, .int .u8 a0_2, .int .u8 a0_3, .int .i8 a0_4, .int .i8 a0_5, .int .u32 0, .int .u32 0, .int .u32 0, .int .u64 0, .int .u64 0, .int .u64 0, .int .u64 0]) ?_ 6 _ rfl; (with_reducible repeat (first | refine blk_drewN ?_ _ | refine blk_drew ?_ | refine blk_alloc ?_ _)); refine blk_put (cs := #[.int .u8 a0_0, .int .u8 a0_1, .int .u8 a0_2, .int .u8 a0_3, .int .i8 a0_4, .int .i8 0, .int .u32 0, .int .u32 0, .int .u32 0, .int .u64 0, .int .u64 0, .int .u64 0, .int .u64 0]) ?_ 5 _ rfl; (with_reducible repeat (first | refine blk_drewN ?_ _ | refine blk_drew ?_ | refine blk_alloc ?_ _)); refine blk_put (cs := #[.int .u8 a0_0, .int .u8 a0_1, .int .u8 a0_2, .int .u8 a0_3, .int .i8 0, .int .i8 0, .int .u32 0, .int .u32 0, .int .u32 0, .int .u64 0, .int .u64 0, .int .u64 0, .int .u64 0]) ?_ 4 _ rfl; (with_reducible repeat (first | refine blk_drewN ?_ _ | refine blk_drew ?_ | refine blk_alloc ?_ _)); refine blk_put (cs := #[.int .u8 a0_0, .int .u8 a0_1, .int .u8 a0_2, .int .u8 0, .int .i8 0, .int .i8 0, .int .u32 0, .int .u32 0, .int .u32 0, .int .u64 0, .int .u64 0, .int .u64 0, .int .u64 0]) ?_ 3 _ rfl; (with_reducible repeat (first | refine blk_drewN ?_ _ | refine blk_drew ?_ | refine blk_alloc ?_ _)); refine blk_put (cs := #[.int .u8 a0_0, .int .u8 a0_1, .int .u8 0, .int .u8 0, .int .i8 0, .int .i8 0, .int .u32 0, .int .u32 0, .int .u32 0, .int .u64 0, .int .u64 0, .int .u64 0, .int .u64 0]) ?_ 2 _ rfl; (with_reducible repeat (first | refine blk_drewN ?_ _ | refine blk_drew ?_ | refine blk_alloc ?_ _)); refine blk_put (cs := #[.int .u8 a0_0, .int .u8 0, .int .u8 0, .int .u8 0, .int .i8 0, .int .i8 0, .int .u32 0, .int .u32 0, .int .u32 0, .int .u64 0, .int .u64 0, .int .u64 0, .int .u64 0]) ?_ 1 _ rfl; (with_reducible repeat (first | refine blk_drewN ?_ _ | refine blk_drew ?_ | refine blk_alloc ?_ _)); refine blk_put (cs := #[.int .u8 0, .int .u8 0, .int .u8 0, .int .u8 0, .int .i8 0, .int .i8 0, .int .u32 0, .int .u32 0, .int .u32 0, .int .u64 0, .int .u64 0, .int .u64 0, .int .u64 0]) ?_ 0 _ rfl; (with_reducible repeat (first | refine blk_drewN ?_ _ | refine blk_drew ?_ | refine blk_alloc ?_ _)); exact BK188.out⟩, ⟨by repeat (first | (with_reducible first | exact HB.out | apply below_alloc | apply pw_below_drewN | apply below_drew1 | refine below_set ?_ GE182.out | refine below_set ?_ GE188.out) | exact HB.out)⟩⟩
                          · rw [if_neg c49] at H
                            have c49b0 : ((Int.tmod a1 11) == 8) = false := beq_eq_false_iff_ne.mpr c49
                            have c49b1 : ((Int.tmod a1 11) != 8) = true := bne_iff_ne.mpr c49
                            by_cases c53 : (Int.tmod a1 11) = 9
                            · rw [if_pos c53] at H
                              have c53b0 : ((Int.tmod a1 11) == 9) = true := beq_iff_eq.mpr c53
                              have c53b1 : ((Int.tmod a1 11) != 9) = false := bne_eq_false_iff_eq.mpr c53
                              clear c53
                              have H' := Aside0.mk H
                              clear H
                              have hnb54 := NB182_188.out
                              have hnc54 := NB188_182.out
                              have hcz55_0 : w17.cell? ⟨gb182, 0, none⟩ = some (.int .u8 a0_0) := (blk_cell BK182.out 0).trans rfl
                              have hcz55_1 : w17.cell? ⟨gb182, 1, none⟩ = some (.int .u8 a0_1) := (blk_cell BK182.out 1).trans rfl
                              have hcz55_2 : w17.cell? ⟨gb182, 2, none⟩ = some (.int .u8 a0_2) := (blk_cell BK182.out 2).trans rfl
                              have hcz55_3 : w17.cell? ⟨gb182, 3, none⟩ = some (.int .u8 a0_3) := (blk_cell BK182.out 3).trans rfl
                              have hcz55_4 : w17.cell? ⟨gb182, 4, none⟩ = some (.int .i8 a0_4) := (blk_cell BK182.out 4).trans rfl
                              have hcz55_5 : w17.cell? ⟨gb182, 5, none⟩ = some (.int .i8 a0_5) := (blk_cell BK182.out 5).trans rfl
                              have hcz55_6 : w17.cell? ⟨gb182, 6, none⟩ = some (.int .u32 a0_6) := (blk_cell BK182.out 6).trans rfl
                              have hcz55_7 : w17.cell? ⟨gb182, 7, none⟩ = some (.int .u32 a0_7) := (blk_cell BK182.out 7).trans rfl
                              have hcz55_8 : w17.cell? ⟨gb182, 8, none⟩ = some (.int .u32 a0_8) := (blk_cell BK182.out 8).trans rfl
                              have hcz55_9 : w17.cell? ⟨gb182, 9, none⟩ = some (.int .u64 a0_9) := (blk_cell BK182.out 9).trans rfl
                              have hcz55_10 : w17.cell? ⟨gb182, 10, none⟩ = some (.int .u64 a0_10) := (blk_cell BK182.out 10).trans rfl
                              have hcz55_11 : w17.cell? ⟨gb182, 11, none⟩ = some (.int .u64 a0_11) := (blk_cell BK182.out 11).trans rfl
                              have hcz55_12 : w17.cell? ⟨gb182, 12, none⟩ = some (.int .u64 a0_12) := (blk_cell BK182.out 12).trans rfl
                              have hfz55_0 := blk_frozen BK182.out 0
                              have hfz55_1 := blk_frozen BK182.out 1
                              have hfz55_2 := blk_frozen BK182.out 2
                              have hfz55_3 := blk_frozen BK182.out 3
                              have hfz55_4 := blk_frozen BK182.out 4
                              have hfz55_5 := blk_frozen BK182.out 5
                              have hfz55_6 := blk_frozen BK182.out 6
                              have hfz55_7 := blk_frozen BK182.out 7
                              have hfz55_8 := blk_frozen BK182.out 8
                              have hfz55_9 := blk_frozen BK182.out 9
                              have hfz55_10 := blk_frozen BK182.out 10
                              have hfz55_11 := blk_frozen BK182.out 11
                              have hfz55_12 := blk_frozen BK182.out 12
                              have hcz56_0 : w17.cell? ⟨gb188, 0, none⟩ = some (.int .u8 0) := (blk_cell BK188.out 0).trans rfl
                              have hcz56_1 : w17.cell? ⟨gb188, 1, none⟩ = some (.int .u8 0) := (blk_cell BK188.out 1).trans rfl
                              have hcz56_2 : w17.cell? ⟨gb188, 2, none⟩ = some (.int .u8 0) := (blk_cell BK188.out 2).trans rfl
                              have hcz56_3 : w17.cell? ⟨gb188, 3, none⟩ = some (.int .u8 0) := (blk_cell BK188.out 3).trans rfl
                              have hcz56_4 : w17.cell? ⟨gb188, 4, none⟩ = some (.int .i8 0) := (blk_cell BK188.out 4).trans rfl
                              have hcz56_5 : w17.cell? ⟨gb188, 5, none⟩ = some (.int .i8 0) := (blk_cell BK188.out 5).trans rfl
                              have hcz56_6 : w17.cell? ⟨gb188, 6, none⟩ = some (.int .u32 0) := (blk_cell BK188.out 6).trans rfl
                              have hcz56_7 : w17.cell? ⟨gb188, 7, none⟩ = some (.int .u32 0) := (blk_cell BK188.out 7).trans rfl
                              have hcz56_8 : w17.cell? ⟨gb188, 8, none⟩ = some (.int .u32 0) := (blk_cell BK188.out 8).trans rfl
                              have hcz56_9 : w17.cell? ⟨gb188, 9, none⟩ = some (.int .u64 0) := (blk_cell BK188.out 9).trans rfl
                              have hcz56_10 : w17.cell? ⟨gb188, 10, none⟩ = some (.int .u64 0) := (blk_cell BK188.out 10).trans rfl
                              have hcz56_11 : w17.cell? ⟨gb188, 11, none⟩ = some (.int .u64 0) := (blk_cell BK188.out 11).trans rfl
                              have hcz56_12 : w17.cell? ⟨gb188, 12, none⟩ = some (.int .u64 0) := (blk_cell BK188.out 12).trans rfl
                              have hfz56_0 := blk_frozen BK188.out 0
                              have hfz56_1 := blk_frozen BK188.out 1
                              have hfz56_2 := blk_frozen BK188.out 2
                              have hfz56_3 := blk_frozen BK188.out 3
                              have hfz56_4 := blk_frozen BK188.out 4
                              have hfz56_5 := blk_frozen BK188.out 5
                              have hfz56_6 := blk_frozen BK188.out 6
                              have hfz56_7 := blk_frozen BK188.out 7
                              have hfz56_8 := blk_frozen BK188.out 8
                              have hfz56_9 := blk_frozen BK188.out 9
                              have hfz56_10 := blk_frozen BK188.out 10
                              have hfz56_11 := blk_frozen BK188.out 11
                              have hfz56_12 := blk_frozen BK188.out 12
                              go_wp2
                              repeat (go_quiet (fail); try go_wp2)
                              go_meet
                              case rel => exact ⟨_, (24), (32), (a0_0), (a0_1), (a0_2), (a0_3), (a0_4), (a0_5), (a0_6), (a0_7), (a0_8), (Go.bits .xor .u64 18446744073709551615 a0_10), (a0_12), (by first | rfl | (simp; done) | (simp [*]; done)), (by first | rfl | (simp; done) | (simp [*]; done)), H', ⟨by have := HJ3.out; first | omega | exact Nat.le_refl _⟩, ⟨by (with_reducible repeat (first | apply Kd.R_alloc | apply Kd.R_drewN | apply Kd.R_drew)); exact Kd.R_mono (Kd.R_far (p := ⟨gb188, 10, none⟩) (Kd.R_far (p := ⟨gb188, 12, none⟩) (Kd.R_far (p := ⟨gb188, 11, none⟩) (Kd.R_far (p := ⟨gb188, 10, none⟩) (Kd.R_far (p := ⟨gb188, 9, none⟩) (Kd.R_far (p := ⟨gb188, 8, none⟩) (Kd.R_far (p := ⟨gb188, 7, none⟩) (Kd.R_far (p := ⟨gb188, 6, none⟩) (Kd.R_far (p := ⟨gb188, 5, none⟩) (Kd.R_far (p := ⟨gb188, 4, none⟩) (Kd.R_far (p := ⟨gb188, 3, none⟩) (Kd.R_far (p := ⟨gb188, 2, none⟩) (Kd.R_far (p := ⟨gb188, 1, none⟩) (Kd.R_far (p := ⟨gb188, 0, none⟩) (Kd.R_types HO_5.out BK188.out (by decide)) (fun _ hk => hk.2) (.int .u8 a0_0)) (fun _ hk => hk.2) (.int .u8 a0_1)) (fun _ hk => hk.2) (.int .u8 a0_2)) (fun _ hk => hk.2) (.int .u8 a0_3)) (fun _ hk => hk.2) (.int .i8 a0_4)) (fun _ hk => hk.2) (.int .i8 a0_5)) (fun _ hk => hk.2) (.int .u32 a0_6)) (fun _ hk => hk.2) (.int .u32 a0_7)) (fun _ hk => hk.2) (.int .u32 a0_8)) (fun _ hk => hk.2) (.int .u64 a0_9)) (fun _ hk => hk.2) (.int .u64 a0_10)) (fun _ hk => hk.2) (.int .u64 a0_11)) (fun _ hk => hk.2) (.int .u64 a0_12)) (fun _ hk => hk.2) (.int .u64 (Go.bits .xor .u64 18446744073709551615 a0_10))) (fun _ hk => trivial)⟩, ⟨by (with_reducible repeat (first | refine blk_drewN ?_ _ | refine blk_drew ?_ | refine blk_alloc ?_ _)); refine blk_far ?_ NB182_188.out _; (with_reducible repeat (first | refine blk_drewN ?_ _ | refine blk_drew ?_ | refine blk_alloc ?_ _)); refine blk_far ?_ NB182_188.out _; (with_reducible repeat (first | refine blk_drewN ?_ _ | refine blk_drew ?_ | refine blk_alloc ?_ _)); refine blk_far ?_ NB182_188.out _; (with_reducible repeat (first | refine blk_drewN ?_ _ | refine blk_drew ?_ | refine blk_alloc ?_ _)); refine blk_far ?_ NB182_188.out _; (with_reducible repeat (first | refine blk_drewN ?_ _ | refine blk_drew ?_ | refine blk_alloc ?_ _)); refine blk_far ?_ NB182_188.out _; (with_reducible repeat (first | refine blk_drewN ?_ _ | refine blk_drew ?_ | refine blk_alloc ?_ _)); refine blk_far ?_ NB182_188.out _; (with_reducible repeat (first | refine blk_drewN ?_ _ | refine blk_drew ?_ | refine blk_alloc ?_ _)); refine blk_far ?_ NB182_188.out _; (with_reducible repeat (first | refine blk_drewN ?_ _ | refine blk_drew ?_ | refine blk_alloc ?_ _)); refine blk_far ?_ NB182_188.out _; (with_reducible repeat (first | refine blk_drewN ?_ _ | refine blk_drew ?_ | refine blk_alloc ?_ _)); refine blk_far ?_ NB182_188.out _; (with_reducible repeat (first | refine blk_drewN ?_ _ | refine blk_drew ?_ | refine blk_alloc ?_ _)); refine blk_far ?_ NB182_188.out _; (with_reducible repeat (first | refine blk_drewN ?_ _ | refine blk_drew ?_ | refine blk_alloc ?_ _)); refine blk_far ?_ NB182_188.out _; (with_reducible repeat (first | refine blk_drewN ?_ _ | refine blk_drew ?_ | refine blk_alloc ?_ _)); refine blk_far ?_ NB182_188.out _; (with_reducible repeat (first | refine blk_drewN ?_ _ | refine blk_drew ?_ | refine blk_alloc ?_ _)); refine blk_far ?_ NB182_188.out _; (with_reducible repeat (first | refine blk_drewN ?_ _ | refine blk_drew ?_ | refine blk_alloc ?_ _)); refine blk_far ?_ NB182_188.out _; (with_reducible repeat (first | refine blk_drewN ?_ _ | refine blk_drew ?_ | refine blk_alloc ?_ _)); exact BK182.out⟩, ⟨by (with_reducible repeat (first | refine blk_drewN ?_ _ | refine blk_drew ?_ | refine blk_alloc ?_ _)); refine blk_put (cs := #[.int .u8 a0_0, .int .u8 a0_1, .int .u8 a0_2, .int .u8 a0_3, .int .i8 a0_4, .int .i8 a0_5, .int .u32 a0_6, .int .u32 a0_7, .int .u32 a0_8, .int .u64 a0_9, .int .u64 a0_10, .int .u64 a0_11, .int .u64 a0_12]) ?_ 10 _ rfl; (with_reducible repeat (first | refine blk_drewN ?_ _ | refine blk_drew ?_ | refine blk_alloc ?_ _)); refine blk_put (cs := #[.int .u8 a0_0, .int .u8 a0_1, .int .u8 a0_2, .int .u8 a0_3, .int .i8 a0_4, .int .i8 a0_5, .int .u32 a0_6, .int .u32 a0_7, .int .u32 a0_8, .int .u64 a0_9, .int .u64 a0_10, .int .u64 a0_11, .int .u64 0]) ?_ 12 _ rfl; (with_reducible repeat (first | refine blk_drewN ?_ _ | refine blk_drew ?_ | refine blk_alloc ?_ _)); refine blk_put (cs := #[.int .u8 a0_0, .int .u8 a0_1, .int .u8 a0_2, .int .u8 a0_3, .int .i8 a0_4, .int .i8 a0_5, .int .u32 a0_6, .int .u32 a0_7, .int .u32 a0_8, .int .u64 a0_9, .int .u64 a0_10, .int .u64 0, .int .u64 0]) ?_ 11 _ rfl; (with_reducible repeat (first | refine blk_drewN ?_ _ | refine blk_drew ?_ | refine blk_alloc ?_ _)); refine blk_put (cs := #[.int .u8 a0_0, .int .u8 a0_1, .int .u8 a0_2, .int .u8 a0_3, .int .i8 a0_4, .int .i8 a0_5, .int .u32 a0_6, .int .u32 a0_7, .int .u32 a0_8, .int .u64 a0_9, .int .u64 0, .int .u64 0, .int .u64 0]) ?_ 10 _ rfl; (with_reducible repeat (first | refine blk_drewN ?_ _ | refine blk_drew ?_ | refine blk_alloc ?_ _)); refine blk_put (cs := #[.int .u8 a0_0, .int .u8 a0_1, .int .u8 a0_2, .int .u8 a0_3, .int .i8 a0_4, .int .i8 a0_5, .int .u32 a0_6, .int .u32 a0_7, .int .u32 a0_8, .int .u64 0, .int .u64 0, .int .u64 0, .int .u64 0]) ?_ 9 _ rfl; (with_reducible repeat (first | refine blk_drewN ?_ _ | refine blk_drew ?_ | refine blk_alloc ?_ _)); refine blk_put (cs := #[.int .u8 a0_0, .int .u8 a0_1, .int .u8 a0_2, .int .u8 a0_3, .int .i8 a0_4, .int .i8 a0_5, .int .u32 a0_6, .int .u32 a0_7, .int .u32 0, .int .u64 0, .int .u64 0, .int .u64 0, .int .u64 0]) ?_ 8 _ rfl; (with_reducible repeat (first | refine blk_drewN ?_ _ | refine blk_drew ?_ | refine blk_alloc ?_ _)); refine blk_put (cs := #[.int .u8 a0_0, .int .u8 a0_1, .int .u8 a0_2, .int .u8 a0_3, .int .i8 a0_4, .int .i8 a0_5, .int .u32 a0_6, .int .u32 0, .int .u32 0, .int .u64 0, .int .u64 0, .int .u64 0, .int .u64 0]) ?_ 7 _ rfl; (with_reducible repeat (first | refine blk_drewN ?_ _ | refine blk_drew ?_ | refine blk_alloc ?_ _)); refine blk_put (cs := #[.int .u8 a0_0, .int .u8 a0_1, .int .u8 a0_2, .int .u8 a0_3, .int .i8 a0_4, .int .i8 a0_5, .int .u32 0, .int .u32 0, .int .u32 0, .int .u64 0, .int .u64 0, .int .u64 0, .int .u64 0]) ?_ 6 _ rfl; (with_reducible repeat (first | refine blk_drewN ?_ _ | refine blk_drew ?_ | refine blk_alloc ?_ _)); refine blk_put (cs := #[.int .u8 a0_0, .int .u8 a0_1, .int .u8 a0_2, .int .u8 a0_3, .int .i8 a0_4, .int .i8 0, .int .u32 0, .int .u32 0, .int .u32 0, .int .u64 0, .int .u64 0, .int .u64 0, .int .u64 0]) ?_ 5 _ rfl; (with_reducible repeat (first | refine blk_drewN ?_ _ | refine blk_drew ?_ | refine blk_alloc ?_ _)); refine blk_put (cs := #[.int .u8 a0_0, .int .u8 a0_1, .int .u8 a0_2, .int .u8 a0_3, .int .i8 0, .int .i8 0, .int .u32 0, .int .u32 0, .int .u32 0, .int .u64 0, .int .u64 0, .int .u64 0, .int .u64 0]) ?_ 4 _ rfl; (with_reducible repeat (first | refine blk_drewN ?_ _ | refine blk_drew ?_ | refine blk_alloc ?_ _)); refine blk_put (cs := #[.int .u8 a0_0, .int .u8 a0_1, .int .u8 a0_2, .int .u8 0, .int .i8 0, .int .i8 0, .int .u32 0, .int .u32 0, .int .u32 0, .int .u64 0, .int .u64 0, .int .u64 0, .int .u64 0]) ?_ 3 _ rfl; (with_reducible repeat (first | refine blk_drewN ?_ _ | refine blk_drew ?_ | refine blk_alloc ?_ _)); refine blk_put (cs := #[.int .u8 a0_0, .int .u8 a0_1, .int .u8 0, .int .u8 0, .int .i8 0, .int .i8 0, .int .u32 0, .int .u32 0, .int .u32 0, .int .u64 0, .int .u64 0, .int .u64 0, .int .u64 0]) ?_ 2 _ rfl; (with_reducible repeat (first | refine blk_drewN ?_ _ | refine blk_drew ?_ | refine blk_alloc ?_ _)); refine blk_put (cs := #[.int .u8 a0_0, .int .u8 0, .int .u8 0, .int .u8 0, .int .i8 0, .int .i8 0, .int .u32 0, .int .u32 0, .int .u32 0, .int .u64 0, .int .u64 0, .int .u64 0, .int .u64 0]) ?_ 1 _ rfl; (with_reducible repeat (first | refine blk_drewN ?_ _ | refine blk_drew ?_ | refine blk_alloc ?_ _)); refine blk_put (cs := #[.int .u8 0, .int .u8 0, .int .u8 0, .int .u8 0, .int .i8 0, .int .i8 0, .int .u32 0, .int .u32 0, .int .u32 0, .int .u64 0, .int .u64 0, .int .u64 0, .int .u64 0]) ?_ 0 _ rfl; (with_reducible repeat (first | refine blk_drewN ?_ _ | refine blk_drew ?_ | refine blk_alloc ?_ _)); exact BK188.out⟩, ⟨by repeat (first | (with_reducible first | exact HB.out | apply below_alloc | apply pw_below_drewN | apply below_drew1 | refine below_set ?_ GE182.out | refine below_set ?_ GE188.out) | exact HB.out)⟩⟩
                            · rw [if_neg c53] at H
                              have c53b0 : ((Int.tmod a1 11) == 9) = false := beq_eq_false_iff_ne.mpr c53
                              have c53b1 : ((Int.tmod a1 11) != 9) = true := bne_iff_ne.mpr c53
                              have H' := Aside0.mk H
                              clear H
                              have hnb57 := NB182_188.out
                              have hnc57 := NB188_182.out
                              have hcz58_0 : w17.cell? ⟨gb182, 0, none⟩ = some (.int .u8 a0_0) := (blk_cell BK182.out 0).trans rfl
                              have hcz58_1 : w17.cell? ⟨gb182, 1, none⟩ = some (.int .u8 a0_1) := (blk_cell BK182.out 1).trans rfl
                              have hcz58_2 : w17.cell? ⟨gb182, 2, none⟩ = some (.int .u8 a0_2) := (blk_cell BK182.out 2).trans rfl
                              have hcz58_3 : w17.cell? ⟨gb182, 3, none⟩ = some (.int .u8 a0_3) := (blk_cell BK182.out 3).trans rfl
                              have hcz58_4 : w17.cell? ⟨gb182, 4, none⟩ = some (.int .i8 a0_4) := (blk_cell BK182.out 4).trans rfl
                              have hcz58_5 : w17.cell? ⟨gb182, 5, none⟩ = some (.int .i8 a0_5) := (blk_cell BK182.out 5).trans rfl
                              have hcz58_6 : w17.cell? ⟨gb182, 6, none⟩ = some (.int .u32 a0_6) := (blk_cell BK182.out 6).trans rfl
                              have hcz58_7 : w17.cell? ⟨gb182, 7, none⟩ = some (.int .u32 a0_7) := (blk_cell BK182.out 7).trans rfl
                              have hcz58_8 : w17.cell? ⟨gb182, 8, none⟩ = some (.int .u32 a0_8) := (blk_cell BK182.out 8).trans rfl
                              have hcz58_9 : w17.cell? ⟨gb182, 9, none⟩ = some (.int .u64 a0_9) := (blk_cell BK182.out 9).trans rfl
                              have hcz58_10 : w17.cell? ⟨gb182, 10, none⟩ = some (.int .u64 a0_10) := (blk_cell BK182.out 10).trans rfl
                              have hcz58_11 : w17.cell? ⟨gb182, 11, none⟩ = some (.int .u64 a0_11) := (blk_cell BK182.out 11).trans rfl
                              have hcz58_12 : w17.cell? ⟨gb182, 12, none⟩ = some (.int .u64 a0_12) := (blk_cell BK182.out 12).trans rfl
                              have hfz58_0 := blk_frozen BK182.out 0
                              have hfz58_1 := blk_frozen BK182.out 1
                              have hfz58_2 := blk_frozen BK182.out 2
                              have hfz58_3 := blk_frozen BK182.out 3
                              have hfz58_4 := blk_frozen BK182.out 4
                              have hfz58_5 := blk_frozen BK182.out 5
                              have hfz58_6 := blk_frozen BK182.out 6
                              have hfz58_7 := blk_frozen BK182.out 7
                              have hfz58_8 := blk_frozen BK182.out 8
                              have hfz58_9 := blk_frozen BK182.out 9
                              have hfz58_10 := blk_frozen BK182.out 10
                              have hfz58_11 := blk_frozen BK182.out 11
                              have hfz58_12 := blk_frozen BK182.out 12
                              have hcz59_0 : w17.cell? ⟨gb188, 0, none⟩ = some (.int .u8 0) := (blk_cell BK188.out 0).trans rfl
                              have hcz59_1 : w17.cell? ⟨gb188, 1, none⟩ = some (.int .u8 0) := (blk_cell BK188.out 1).trans rfl
                              have hcz59_2 : w17.cell? ⟨gb188, 2, none⟩ = some (.int .u8 0) := (blk_cell BK188.out 2).trans rfl
                              have hcz59_3 : w17.cell? ⟨gb188, 3, none⟩ = some (.int .u8 0) := (blk_cell BK188.out 3).trans rfl
                              have hcz59_4 : w17.cell? ⟨gb188, 4, none⟩ = some (.int .i8 0) := (blk_cell BK188.out 4).trans rfl
                              have hcz59_5 : w17.cell? ⟨gb188, 5, none⟩ = some (.int .i8 0) := (blk_cell BK188.out 5).trans rfl
                              have hcz59_6 : w17.cell? ⟨gb188, 6, none⟩ = some (.int .u32 0) := (blk_cell BK188.out 6).trans rfl
                              have hcz59_7 : w17.cell? ⟨gb188, 7, none⟩ = some (.int .u32 0) := (blk_cell BK188.out 7).trans rfl
                              have hcz59_8 : w17.cell? ⟨gb188, 8, none⟩ = some (.int .u32 0) := (blk_cell BK188.out 8).trans rfl
                              have hcz59_9 : w17.cell? ⟨gb188, 9, none⟩ = some (.int .u64 0) := (blk_cell BK188.out 9).trans rfl
                              have hcz59_10 : w17.cell? ⟨gb188, 10, none⟩ = some (.int .u64 0) := (blk_cell BK188.out 10).trans rfl
                              have hcz59_11 : w17.cell? ⟨gb188, 11, none⟩ = some (.int .u64 0) := (blk_cell BK188.out 11).trans rfl
                              have hcz59_12 : w17.cell? ⟨gb188, 12, none⟩ = some (.int .u64 0) := (blk_cell BK188.out 12).trans rfl
                              have hfz59_0 := blk_frozen BK188.out 0
                              have hfz59_1 := blk_frozen BK188.out 1
                              have hfz59_2 := blk_frozen BK188.out 2
                              have hfz59_3 := blk_frozen BK188.out 3
                              have hfz59_4 := blk_frozen BK188.out 4
                              have hfz59_5 := blk_frozen BK188.out 5
                              have hfz59_6 := blk_frozen BK188.out 6
                              have hfz59_7 := blk_frozen BK188.out 7
                              have hfz59_8 := blk_frozen BK188.out 8
                              have hfz59_9 := blk_frozen BK188.out 9
                              have hfz59_10 := blk_frozen BK188.out 10
                              have hfz59_11 := blk_frozen BK188.out 11
                              have hfz59_12 := blk_frozen BK188.out 12
                              go_wp2
                              repeat (go_quiet (fail); try go_wp2)
                              go_meet
                              case rel => exact ⟨_, (40), (48), (a0_0), (a0_1), (a0_2), (a0_3), (a0_4), (a0_5), (a0_6), (a0_7), (a0_8), (a0_10), (Go.bits .xor .u64 18446744073709551615 a0_12), (by first | rfl | (simp; done) | (simp [*]; done)), (by first | rfl | (simp; done) | (simp [*]; done)), H', ⟨by have := HJ3.out; first | omega | exact Nat.le_refl _⟩, ⟨by (with_reducible repeat (first | apply Kd.R_alloc | apply Kd.R_drewN | apply Kd.R_drew)); exact Kd.R_mono (Kd.R_far (p := ⟨gb188, 12, none⟩) (Kd.R_far (p := ⟨gb188, 12, none⟩) (Kd.R_far (p := ⟨gb188, 11, none⟩) (Kd.R_far (p := ⟨gb188, 10, none⟩) (Kd.R_far (p := ⟨gb188, 9, none⟩) (Kd.R_far (p := ⟨gb188, 8, none⟩) (Kd.R_far (p := ⟨gb188, 7, none⟩) (Kd.R_far (p := ⟨gb188, 6, none⟩) (Kd.R_far (p := ⟨gb188, 5, none⟩) (Kd.R_far (p := ⟨gb188, 4, none⟩) (Kd.R_far (p := ⟨gb188, 3, none⟩) (Kd.R_far (p := ⟨gb188, 2, none⟩) (Kd.R_far (p := ⟨gb188, 1, none⟩) (Kd.R_far (p := ⟨gb188, 0, none⟩) (Kd.R_types HO_5.out BK188.out (by decide)) (fun _ hk => hk.2) (.int .u8 a0_0)) (fun _ hk => hk.2) (.int .u8 a0_1)) (fun _ hk => hk.2) (.int .u8 a0_2)) (fun _ hk => hk.2) (.int .u8 a0_3)) (fun _ hk => hk.2) (.int .i8 a0_4)) (fun _ hk => hk.2) (.int .i8 a0_5)) (fun _ hk => hk.2) (.int .u32 a0_6)) (fun _ hk => hk.2) (.int .u32 a0_7)) (fun _ hk => hk.2) (.int .u32 a0_8)) (fun _ hk => hk.2) (.int .u64 a0_9)) (fun _ hk => hk.2) (.int .u64 a0_10)) (fun _ hk => hk.2) (.int .u64 a0_11)) (fun _ hk => hk.2) (.int .u64 a0_12)) (fun _ hk => hk.2) (.int .u64 (Go.bits .xor .u64 18446744073709551615 a0_12))) (fun _ hk => trivial)⟩, ⟨by (with_reducible repeat (first | refine blk_drewN ?_ _ | refine blk_drew ?_ | refine blk_alloc ?_ _)); refine blk_far ?_ NB182_188.out _; (with_reducible repeat (first | refine blk_drewN ?_ _ | refine blk_drew ?_ | refine blk_alloc ?_ _)); refine blk_far ?_ NB182_188.out _; (with_reducible repeat (first | refine blk_drewN ?_ _ | refine blk_drew ?_ | refine blk_alloc ?_ _)); refine blk_far ?_ NB182_188.out _; (with_reducible repeat (first | refine blk_drewN ?_ _ | refine blk_drew ?_ | refine blk_alloc ?_ _)); refine blk_far ?_ NB182_188.out _; (with_reducible repeat (first | refine blk_drewN ?_ _ | refine blk_drew ?_ | refine blk_alloc ?_ _)); refine blk_far ?_ NB182_188.out _; (with_reducible repeat (first | refine blk_drewN ?_ _ | refine blk_drew ?_ | refine blk_alloc ?_ _)); refine blk_far ?_ NB182_188.out _; (with_reducible repeat (first | refine blk_drewN ?_ _ | refine blk_drew ?_ | refine blk_alloc ?_ _)); refine blk_far ?_ NB182_188.out _; (with_reducible repeat (first | refine blk_drewN ?_ _ | refine blk_drew ?_ | refine blk_alloc ?_ _)); refine blk_far ?_ NB182_188.out _; (with_reducible repeat (first | refine blk_drewN ?_ _ | refine blk_drew ?_ | refine blk_alloc ?_ _)); refine blk_far ?_ NB182_188.out _; (with_reducible repeat (first | refine blk_drewN ?_ _ | refine blk_drew ?_ | refine blk_alloc ?_ _)); refine blk_far ?_ NB182_188.out _; (with_reducible repeat (first | refine blk_drewN ?_ _ | refine blk_drew ?_ | refine blk_alloc ?_ _)); refine blk_far ?_ NB182_188.out _; (with_reducible repeat (first | refine blk_drewN ?_ _ | refine blk_drew ?_ | refine blk_alloc ?_ _)); refine blk_far ?_ NB182_188.out _; (with_reducible repeat (first | refine blk_drewN ?_ _ | refine blk_drew ?_ | refine blk_alloc ?_ _)); refine blk_far ?_ NB182_188.out _; (with_reducible repeat (first | refine blk_drewN ?_ _ | refine blk_drew ?_ | refine blk_alloc ?_ _)); refine blk_far ?_ NB182_188.out _; (with_reducible repeat (first | refine blk_drewN ?_ _ | refine blk_drew ?_ | refine blk_alloc ?_ _)); exact BK182.out⟩, ⟨by (with_reducible repeat (first | refine blk_drewN ?_ _ | refine blk_drew ?_ | refine blk_alloc ?_ _)); refine blk_put (cs := #[.int .u8 a0_0, .int .u8 a0_1, .int .u8 a0_2, .int .u8 a0_3, .int .i8 a0_4, .int .i8 a0_5, .int .u32 a0_6, .int .u32 a0_7, .int .u32 a0_8, .int .u64 a0_9, .int .u64 a0_10, .int .u64 a0_11, .int .u64 a0_12]) ?_ 12 _ rfl; (with_reducible repeat (first | refine blk_drewN ?_ _ | refine blk_drew ?_ | refine blk_alloc ?_ _)); refine blk_put (cs := #[.int .u8 a0_0, .int .u8 a0_1, .int .u8 a0_2, .int .u8 a0_3, .int .i8 a0_4, .int .i8 a0_5, .int .u32 a0_6, .int .u32 a0_7, .int .u32 a0_8, .int .u64 a0_9, .int .u64 a0_10, .int .u64 a0_11, .int .u64 0]) ?_ 12 _ rfl; (with_reducible repeat (first | refine blk_drewN ?_ _ | refine blk_drew ?_ | refine blk_alloc ?_ _)); refine blk_put (cs := #[.int .u8 a0_0, .int .u8 a0_1, .int .u8 a0_2, .int .u8 a0_3, .int .i8 a0_4, .int .i8 a0_5, .int .u32 a0_6, .int .u32 a0_7, .int .u32 a0_8, .int .u64 a0_9, .int .u64 a0_10, .int .u64 0, .int .u64 0]) ?_ 11 _ rfl; (with_reducible repeat (first | refine blk_drewN ?_ _ | refine blk_drew ?_ | refine blk_alloc ?_ _)); refine blk_put (cs := #[.int .u8 a0_0, .int .u8 a0_1, .int .u8 a0_2, .int .u8 a0_3, .int .i8 a0_4, .int .i8 a0_5, .int .u32 a0_6, .int .u32 a0_7, .int .u32 a0_8, .int .u64 a0_9, .int .u64 0, .int .u64 0, .int .u64 0]) ?_ 10 _ rfl; (with_reducible repeat (first | refine blk_drewN ?_ _ | refine blk_drew ?_ | refine blk_alloc ?_ _)); refine blk_put (cs := #[.int .u8 a0_0, .int .u8 a0_1, .int .u8 a0_2, .int .u8 a0_3, .int .i8 a0_4, .int .i8 a0_5, .int .u32 a0_6, .int .u32 a0_7, .int .u32 a0_8, .int .u64 0, .int .u64 0, .int .u64 0, .int .u64 0]) ?_ 9 _ rfl; (with_reducible repeat (first | refine blk_drewN ?_ _ | refine blk_drew ?_ | refine blk_alloc ?_ _)); refine blk_put (cs := #[.int .u8 a0_0, .int .u8 a0_1, .int .u8 a0_2, .int .u8 a0_3, .int .i8 a0_4, .int .i8 a0_5, .int .u32 a0_6, .int .u32 a0_7, .int .u32 0, .int .u64 0, .int .u64 0, .int .u64 0, .int .u64 0]) ?_ 8 _ rfl; (with_reducible repeat (first | refine blk_drewN ?_ _ | refine blk_drew ?_ | refine blk_alloc ?_ _)); refine blk_put (cs := #[.int .u8 a0_0, .int .u8 a0_1, .int .u8 a0_2, .int .u8 a0_3, .int .i8 a0_4, .int .i8 a0_5, .int .u32 a0_6, .int .u32 0, .int .u32 0, .int .u64 0, .int .u64 0, .int .u64 0, .int .u64 0]) ?_ 7 _ rfl; (with_reducible repeat (first | refine blk_drewN ?_ _ | refine blk_drew ?_ | refine blk_alloc ?_ _)); refine blk_put (cs := #[.int .u8 a0_0, .int .u8 a0_1, .int .u8 a0_2, .int .u8 a0_3, .int .i8 a0_4, .int .i8 a0_5, .int .u32 0, .int .u32 0, .int .u32 0, .int .u64 0, .int .u64 0, .int .u64 0, .int .u64 0]) ?_ 6 _ rfl; (with_reducible repeat (first | refine blk_drewN ?_ _ | refine blk_drew ?_ | refine blk_alloc ?_ _)); refine blk_put (cs := #[.int .u8 a0_0, .int .u8 a0_1, .int .u8 a0_2, .int .u8 a0_3, .int .i8 a0_4, .int .i8 0, .int .u32 0, .int .u32 0, .int .u32 0, .int .u64 0, .int .u64 0, .int .u64 0, .int .u64 0]) ?_ 5 _ rfl; (with_reducible repeat (first | refine blk_drewN ?_ _ | refine blk_drew ?_ | refine blk_alloc ?_ _)); refine blk_put (cs := #[.int .u8 a0_0, .int .u8 a0_1, .int .u8 a0_2, .int .u8 a0_3, .int .i8 0, .int .i8 0, .int .u32 0, .int .u32 0, .int .u32 0, .int .u64 0, .int .u64 0, .int .u64 0, .int .u64 0]) ?_ 4 _ rfl; (with_reducible repeat (first | refine blk_drewN ?_ _ | refine blk_drew ?_ | refine blk_alloc ?_ _)); refine blk_put (cs := #[.int .u8 a0_0, .int .u8 a0_1, .int .u8 a0_2, .int .u8 0, .int .i8 0, .int .i8 0, .int .u32 0, .int .u32 0, .int .u32 0, .int .u64 0, .int .u64 0, .int .u64 0, .int .u64 0]) ?_ 3 _ rfl; (with_reducible repeat (first | refine blk_drewN ?_ _ | refine blk_drew ?_ | refine blk_alloc ?_ _)); refine blk_put (cs := #[.int .u8 a0_0, .int .u8 a0_1, .int .u8 0, .int .u8 0, .int .i8 0, .int .i8 0, .int .u32 0, .int .u32 0, .int .u32 0, .int .u64 0, .int .u64 0, .int .u64 0, .int .u64 0]) ?_ 2 _ rfl; (with_reducible repeat (first | refine blk_drewN ?_ _ | refine blk_drew ?_ | refine blk_alloc ?_ _)); refine blk_put (cs := #[.int .u8 a0_0, .int .u8 0, .int .u8 0, .int .u8 0, .int .i8 0, .int .i8 0, .int .u32 0, .int .u32 0, .int .u32 0, .int .u64 0, .int .u64 0, .int .u64 0, .int .u64 0]) ?_ 1 _ rfl; (with_reducible repeat (first | refine blk_drewN ?_ _ | refine blk_drew ?_ | refine blk_alloc ?_ _)); refine blk_put (cs := #[.int .u8 0, .int .u8 0, .int .u8 0, .int .u8 0, .int .i8 0, .int .i8 0, .int .u32 0, .int .u32 0, .int .u32 0, .int .u64 0, .int .u64 0, .int .u64 0, .int .u64 0]) ?_ 0 _ rfl; (with_reducible repeat (first | refine blk_drewN ?_ _ | refine blk_drew ?_ | refine blk_alloc ?_ _)); exact BK188.out⟩, ⟨by repeat (first | (with_reducible first | exact HB.out | apply below_alloc | apply pw_below_drewN | apply below_drew1 | refine below_set ?_ GE182.out | refine below_set ?_ GE188.out) | exact HB.out)⟩⟩
        case rest =>
          clear HC15
          try clear c2
          try clear p2
          try clear c3
          try clear c4
          try clear c5
          try clear c23
          try clear c23b0
          try clear c23b1
          try clear c26
          try clear c26b0
          try clear c26b1
          try clear c27
          try clear c29
          try clear c29b0
          try clear c29b1
          try clear c30
          try clear c33
          try clear c33b0
          try clear c33b1
          try clear c34
          try clear c37
          try clear c37b0
          try clear c37b1
          try clear c38
          try clear c41
          try clear c41b0
          try clear c41b1
          try clear c42
          try clear c45
          try clear c45b0
          try clear c45b1
          try clear c46
          try clear c49
          try clear c49b0
          try clear c49b1
          try clear c50
          try clear c53
          try clear c53b0
          try clear c53b1
          try clear c54
          try clear c57
          try clear hcz28_0
          try clear hcz28_1
          try clear hcz28_10
          try clear hcz28_11
          try clear hcz28_12
          try clear hcz28_2
          try clear hcz28_3
          try clear hcz28_4
          try clear hcz28_5
          try clear hcz28_6
          try clear hcz28_7
          try clear hcz28_8
          try clear hcz28_9
          try clear hcz31_0
          try clear hcz31_1
          try clear hcz31_10
          try clear hcz31_11
          try clear hcz31_12
          try clear hcz31_2
          try clear hcz31_3
          try clear hcz31_4
          try clear hcz31_5
          try clear hcz31_6
          try clear hcz31_7
          try clear hcz31_8
          try clear hcz31_9
          try clear hcz32_0
          try clear hcz32_1
          try clear hcz32_10
          try clear hcz32_11
          try clear hcz32_12
          try clear hcz32_2
          try clear hcz32_3
          try clear hcz32_4
          try clear hcz32_5
          try clear hcz32_6
          try clear hcz32_7
          try clear hcz32_8
          try clear hcz32_9
          try clear hcz35_0
          try clear hcz35_1
          try clear hcz35_10
          try clear hcz35_11
          try clear hcz35_12
          try clear hcz35_2
          try clear hcz35_3
          try clear hcz35_4
          try clear hcz35_5
          try clear hcz35_6
          try clear hcz35_7
          try clear hcz35_8
          try clear hcz35_9
          try clear hcz36_0
          try clear hcz36_1
          try clear hcz36_10
          try clear hcz36_11
          try clear hcz36_12
          try clear hcz36_2
          try clear hcz36_3
          try clear hcz36_4
          try clear hcz36_5
          try clear hcz36_6
          try clear hcz36_7
          try clear hcz36_8
          try clear hcz36_9
          try clear hcz39_0
          try clear hcz39_1
          try clear hcz39_10
          try clear hcz39_11
          try clear hcz39_12
          try clear hcz39_2
          try clear hcz39_3
          try clear hcz39_4
          try clear hcz39_5
          try clear hcz39_6
          try clear hcz39_7
          try clear hcz39_8
          try clear hcz39_9
          try clear hcz40_0
          try clear hcz40_1
          try clear hcz40_10
          try clear hcz40_11
          try clear hcz40_12
          try clear hcz40_2
          try clear hcz40_3
          try clear hcz40_4
          try clear hcz40_5
          try clear hcz40_6
          try clear hcz40_7
          try clear hcz40_8
          try clear hcz40_9
          try clear hcz43_0
          try clear hcz43_1
          try clear hcz43_10
          try clear hcz43_11
          try clear hcz43_12
          try clear hcz43_2
          try clear hcz43_3
          try clear hcz43_4
          try clear hcz43_5
          try clear hcz43_6
          try clear hcz43_7
          try clear hcz43_8
          try clear hcz43_9
          try clear hcz44_0
          try clear hcz44_1
          try clear hcz44_10
          try clear hcz44_11
          try clear hcz44_12
          try clear hcz44_2
          try clear hcz44_3
          try clear hcz44_4
          try clear hcz44_5
          try clear hcz44_6
          try clear hcz44_7
          try clear hcz44_8
          try clear hcz44_9
          try clear hcz47_0
          try clear hcz47_1
          try clear hcz47_10
          try clear hcz47_11
          try clear hcz47_12
          try clear hcz47_2
          try clear hcz47_3
          try clear hcz47_4
          try clear hcz47_5
          try clear hcz47_6
          try clear hcz47_7
          try clear hcz47_8
          try clear hcz47_9
          try clear hcz48_0
          try clear hcz48_1
          try clear hcz48_10
          try clear hcz48_11
          try clear hcz48_12
          try clear hcz48_2
          try clear hcz48_3
          try clear hcz48_4
          try clear hcz48_5
          try clear hcz48_6
          try clear hcz48_7
          try clear hcz48_8
          try clear hcz48_9
          try clear hcz51_0
          try clear hcz51_1
          try clear hcz51_10
          try clear hcz51_11
          try clear hcz51_12
          try clear hcz51_2
          try clear hcz51_3
          try clear hcz51_4
          try clear hcz51_5
          try clear hcz51_6
          try clear hcz51_7
          try clear hcz51_8
          try clear hcz51_9
          try clear hcz52_0
          try clear hcz52_1
          try clear hcz52_10
          try clear hcz52_11
          try clear hcz52_12
          try clear hcz52_2
          try clear hcz52_3
          try clear hcz52_4
          try clear hcz52_5
          try clear hcz52_6
          try clear hcz52_7
          try clear hcz52_8
          try clear hcz52_9
          try clear hcz55_0
          try clear hcz55_1
          try clear hcz55_10
          try clear hcz55_11
          try clear hcz55_12
          try clear hcz55_2
          try clear hcz55_3
          try clear hcz55_4
          try clear hcz55_5
          try clear hcz55_6
          try clear hcz55_7
          try clear hcz55_8
          try clear hcz55_9
          try clear hcz56_0
          try clear hcz56_1
          try clear hcz56_10
          try clear hcz56_11
          try clear hcz56_12
          try clear hcz56_2
          try clear hcz56_3
          try clear hcz56_4
          try clear hcz56_5
          try clear hcz56_6
          try clear hcz56_7
          try clear hcz56_8
          try clear hcz56_9
          try clear hcz58_0
          try clear hcz58_1
          try clear hcz58_10
          try clear hcz58_11
          try clear hcz58_12
          try clear hcz58_2
          try clear hcz58_3
          try clear hcz58_4
          try clear hcz58_5
          try clear hcz58_6
          try clear hcz58_7
          try clear hcz58_8
          try clear hcz58_9
          try clear hcz59_0
          try clear hcz59_1
          try clear hcz59_10
          try clear hcz59_11
          try clear hcz59_12
          try clear hcz59_2
          try clear hcz59_3
          try clear hcz59_4
          try clear hcz59_5
          try clear hcz59_6
          try clear hcz59_7
          try clear hcz59_8
          try clear hcz59_9
          try clear hfz25_0
          try clear hfz25_1
          try clear hfz25_10
          try clear hfz25_11
          try clear hfz25_12
          try clear hfz25_2
          try clear hfz25_3
          try clear hfz25_4
          try clear hfz25_5
          try clear hfz25_6
          try clear hfz25_7
          try clear hfz25_8
          try clear hfz25_9
          try clear hfz28_0
          try clear hfz28_1
          try clear hfz28_10
          try clear hfz28_11
          try clear hfz28_12
          try clear hfz28_2
          try clear hfz28_3
          try clear hfz28_4
          try clear hfz28_5
          try clear hfz28_6
          try clear hfz28_7
          try clear hfz28_8
          try clear hfz28_9
          try clear hfz31_0
          try clear hfz31_1
          try clear hfz31_10
          try clear hfz31_11
          try clear hfz31_12
          try clear hfz31_2
          try clear hfz31_3
          try clear hfz31_4
          try clear hfz31_5
          try clear hfz31_6
          try clear hfz31_7
          try clear hfz31_8
          try clear hfz31_9
          try clear hfz32_0
          try clear hfz32_1
          try clear hfz32_10
          try clear hfz32_11
          try clear hfz32_12
          try clear hfz32_2
          try clear hfz32_3
          try clear hfz32_4
          try clear hfz32_5
          try clear hfz32_6
          try clear hfz32_7
          try clear hfz32_8
          try clear hfz32_9
          try clear hfz35_0
          try clear hfz35_1
          try clear hfz35_10
          try clear hfz35_11
          try clear hfz35_12
          try clear hfz35_2
          try clear hfz35_3
          try clear hfz35_4
          try clear hfz35_5
          try clear hfz35_6
          try clear hfz35_7
          try clear hfz35_8
          try clear hfz35_9
          try clear hfz36_0
          try clear hfz36_1
          try clear hfz36_10
          try clear hfz36_11
          try clear hfz36_12
          try clear hfz36_2
          try clear hfz36_3
          try clear hfz36_4
          try clear hfz36_5
          try clear hfz36_6
          try clear hfz36_7
          try clear hfz36_8
          try clear hfz36_9
          try clear hfz39_0
          try clear hfz39_1
          try clear hfz39_10
          try clear hfz39_11
          try clear hfz39_12
          try clear hfz39_2
          try clear hfz39_3
          try clear hfz39_4
          try clear hfz39_5
          try clear hfz39_6
          try clear hfz39_7
          try clear hfz39_8
          try clear hfz39_9
          try clear hfz40_0
          try clear hfz40_1
          try clear hfz40_10
          try clear hfz40_11
          try clear hfz40_12
          try clear hfz40_2
          try clear hfz40_3
          try clear hfz40_4
          try clear hfz40_5
          try clear hfz40_6
          try clear hfz40_7
          try clear hfz40_8
          try clear hfz40_9
          try clear hfz43_0
          try clear hfz43_1
          try clear hfz43_10
          try clear hfz43_11
          try clear hfz43_12
          try clear hfz43_2
          try clear hfz43_3
          try clear hfz43_4
          try clear hfz43_5
          try clear hfz43_6
          try clear hfz43_7
          try clear hfz43_8
          try clear hfz43_9
          try clear hfz44_0
          try clear hfz44_1
          try clear hfz44_10
          try clear hfz44_11
          try clear hfz44_12
          try clear hfz44_2
          try clear hfz44_3
          try clear hfz44_4
          try clear hfz44_5
          try clear hfz44_6
          try clear hfz44_7
          try clear hfz44_8
          try clear hfz44_9
          try clear hfz47_0
          try clear hfz47_1
          try clear hfz47_10
          try clear hfz47_11
          try clear hfz47_12
          try clear hfz47_2
          try clear hfz47_3
          try clear hfz47_4
          try clear hfz47_5
          try clear hfz47_6
          try clear hfz47_7
          try clear hfz47_8
          try clear hfz47_9
          try clear hfz48_0
          try clear hfz48_1
          try clear hfz48_10
          try clear hfz48_11
          try clear hfz48_12
          try clear hfz48_2
          try clear hfz48_3
          try clear hfz48_4
          try clear hfz48_5
          try clear hfz48_6
          try clear hfz48_7
          try clear hfz48_8
          try clear hfz48_9
          try clear hfz51_0
          try clear hfz51_1
          try clear hfz51_10
          try clear hfz51_11
          try clear hfz51_12
          try clear hfz51_2
          try clear hfz51_3
          try clear hfz51_4
          try clear hfz51_5
          try clear hfz51_6
          try clear hfz51_7
          try clear hfz51_8
          try clear hfz51_9
          try clear hfz52_0
          try clear hfz52_1
          try clear hfz52_10
          try clear hfz52_11
          try clear hfz52_12
          try clear hfz52_2
          try clear hfz52_3
          try clear hfz52_4
          try clear hfz52_5
          try clear hfz52_6
          try clear hfz52_7
          try clear hfz52_8
          try clear hfz52_9
          try clear hfz55_0
          try clear hfz55_1
          try clear hfz55_10
          try clear hfz55_11
          try clear hfz55_12
          try clear hfz55_2
          try clear hfz55_3
          try clear hfz55_4
          try clear hfz55_5
          try clear hfz55_6
          try clear hfz55_7
          try clear hfz55_8
          try clear hfz55_9
          try clear hfz56_0
          try clear hfz56_1
          try clear hfz56_10
          try clear hfz56_11
          try clear hfz56_12
          try clear hfz56_2
          try clear hfz56_3
          try clear hfz56_4
          try clear hfz56_5
          try clear hfz56_6
          try clear hfz56_7
          try clear hfz56_8
          try clear hfz56_9
          try clear hfz58_0
          try clear hfz58_1
          try clear hfz58_10
          try clear hfz58_11
          try clear hfz58_12
          try clear hfz58_2
          try clear hfz58_3
          try clear hfz58_4
          try clear hfz58_5
          try clear hfz58_6
          try clear hfz58_7
          try clear hfz58_8
          try clear hfz58_9
          try clear hfz59_0
          try clear hfz59_1
          try clear hfz59_10
          try clear hfz59_11
          try clear hfz59_12
          try clear hfz59_2
          try clear hfz59_3
          try clear hfz59_4
          try clear hfz59_5
          try clear hfz59_6
          try clear hfz59_7
          try clear hfz59_8
          try clear hfz59_9
          obtain ⟨kq, x8_14, x9_14, x189000_14, x189001_14, x189002_14, x189003_14, x189004_14, x189005_14, x189006_14, x189007_14, x189008_14, x189010_14, x189012_14, rfl, rfl, HA, HJ14, HO_5, BK182, BK188, HB⟩ := hcut
          cases kq with
          | zero => exact absurd HA.out (by simp [chronobatelaw03_PacketFields.j1])
          | succ kj14 =>
            have H := HA.out
            clear HA
            simp only [chronobatelaw03_PacketFields.j1] at H
            replace H := Option.bind_eq_some_iff.mp H
            obtain ⟨⟨t189, t192⟩, A600, H⟩ := H
            replace H : (if t192 = 0 then (chronobatelaw03_PacketFields.j2 kj14 t183 x8_14 x9_14 t189 ((t189.length : Int) != 48)) else (chronobatelaw03_PacketFields.j2 kj14 t183 x8_14 x9_14 t189 true)) = some r := H
            have A60 := Aside0.mk A600
            clear A600
            have HC61 := Aside0.mk H
            clear H
            have hnb62 := NB188_182.out
            have hnc62 := NB182_188.out
            have hcz63_0 : wc.cell? ⟨gb188, 0, none⟩ = some (.int .u8 x189000_14) := (blk_cell BK188.out 0).trans rfl
            have hcz63_1 : wc.cell? ⟨gb188, 1, none⟩ = some (.int .u8 x189001_14) := (blk_cell BK188.out 1).trans rfl
            have hcz63_2 : wc.cell? ⟨gb188, 2, none⟩ = some (.int .u8 x189002_14) := (blk_cell BK188.out 2).trans rfl
            have hcz63_3 : wc.cell? ⟨gb188, 3, none⟩ = some (.int .u8 x189003_14) := (blk_cell BK188.out 3).trans rfl
            have hcz63_4 : wc.cell? ⟨gb188, 4, none⟩ = some (.int .i8 x189004_14) := (blk_cell BK188.out 4).trans rfl
            have hcz63_5 : wc.cell? ⟨gb188, 5, none⟩ = some (.int .i8 x189005_14) := (blk_cell BK188.out 5).trans rfl
            have hcz63_6 : wc.cell? ⟨gb188, 6, none⟩ = some (.int .u32 x189006_14) := (blk_cell BK188.out 6).trans rfl
            have hcz63_7 : wc.cell? ⟨gb188, 7, none⟩ = some (.int .u32 x189007_14) := (blk_cell BK188.out 7).trans rfl
            have hcz63_8 : wc.cell? ⟨gb188, 8, none⟩ = some (.int .u32 x189008_14) := (blk_cell BK188.out 8).trans rfl
            have hcz63_9 : wc.cell? ⟨gb188, 9, none⟩ = some (.int .u64 a0_9) := (blk_cell BK188.out 9).trans rfl
            have hcz63_10 : wc.cell? ⟨gb188, 10, none⟩ = some (.int .u64 x189010_14) := (blk_cell BK188.out 10).trans rfl
            have hcz63_11 : wc.cell? ⟨gb188, 11, none⟩ = some (.int .u64 a0_11) := (blk_cell BK188.out 11).trans rfl
            have hcz63_12 : wc.cell? ⟨gb188, 12, none⟩ = some (.int .u64 x189012_14) := (blk_cell BK188.out 12).trans rfl
            have hfz63_0 := blk_frozen BK188.out 0
            have hfz63_1 := blk_frozen BK188.out 1
            have hfz63_2 := blk_frozen BK188.out 2
            have hfz63_3 := blk_frozen BK188.out 3
            have hfz63_4 := blk_frozen BK188.out 4
            have hfz63_5 := blk_frozen BK188.out 5
            have hfz63_6 := blk_frozen BK188.out 6
            have hfz63_7 := blk_frozen BK188.out 7
            have hfz63_8 := blk_frozen BK188.out 8
            have hfz63_9 := blk_frozen BK188.out 9
            have hfz63_10 := blk_frozen BK188.out 10
            have hfz63_11 := blk_frozen BK188.out 11
            have hfz63_12 := blk_frozen BK188.out 12
            go_upto_region 29 with (first | (go_at_call 9; (with_reducible refine (packet_Put.calls kj14 x189000_14 x189001_14 x189002_14 x189003_14 x189004_14 x189005_14 x189006_14 x189007_14 x189008_14 a0_9 x189010_14 a0_11 x189012_14 t189 t192 _ A60.out).mono ?_); rintro e w64 ⟨v190, rfl, ho0, hb⟩; have n0_ := Aside0.mk (Kd.R_elder' (by (with_reducible repeat (first | apply Kd.R_alloc | apply Kd.R_drewN | apply Kd.R_drew)); exact HO_5.out) (Kd.R_base ho0) hb); have n1_ := Aside0.mk (Kd.R_lower (Kd.R_new' ho0 (Kd.R_lt (by (with_reducible repeat (first | apply Kd.R_alloc | apply Kd.R_drewN | apply Kd.R_drew)); exact HO_5.out))) (below_size (by repeat (first | (with_reducible first | exact HB.out | apply below_alloc | apply pw_below_drewN | apply below_drew1 | refine below_set ?_ GE182.out | refine below_set ?_ GE188.out) | exact HB.out)))); have n2_ := Aside0.mk (blk_below (g := gb182) (o := .cells #[.int .u8 a0_0, .int .u8 a0_1, .int .u8 a0_2, .int .u8 a0_3, .int .i8 a0_4, .int .i8 a0_5, .int .u32 a0_6, .int .u32 a0_7, .int .u32 a0_8, .int .u64 a0_9, .int .u64 a0_10, .int .u64 a0_11, .int .u64 a0_12] 26 (0, 0)) (by (with_reducible repeat (first | refine blk_drewN ?_ _ | refine blk_drew ?_ | refine blk_alloc ?_ _)); exact BK182.out) hb); have n3_ := Aside0.mk (blk_below (g := gb188) (o := .cells #[.int .u8 x189000_14, .int .u8 x189001_14, .int .u8 x189002_14, .int .u8 x189003_14, .int .i8 x189004_14, .int .i8 x189005_14, .int .u32 x189006_14, .int .u32 x189007_14, .int .u32 x189008_14, .int .u64 a0_9, .int .u64 x189010_14, .int .u64 a0_11, .int .u64 x189012_14] 26 (0, 0)) (by (with_reducible repeat (first | refine blk_drewN ?_ _ | refine blk_drew ?_ | refine blk_alloc ?_ _)); exact BK188.out) hb); have n4_ := Aside0.mk (below_step (by repeat (first | (with_reducible first | exact HB.out | apply below_alloc | apply pw_below_drewN | apply below_drew1 | refine below_set ?_ GE182.out | refine below_set ?_ GE188.out) | exact HB.out)) hb); clear HO_5; clear BK182; clear BK188; clear HB; have HO_5 := n0_; have HO191 := n1_; have BK182 := n2_; have BK188 := n3_; have HB := n4_; clear n0_ n1_ n2_ n3_ n4_; (try clear hb); (try clear hb2); (try clear hk); (try clear hi); (try clear ho0)))
            repeat (go_quiet (first | (go_at_call 9; (with_reducible refine (packet_Put.calls kj14 x189000_14 x189001_14 x189002_14 x189003_14 x189004_14 x189005_14 x189006_14 x189007_14 x189008_14 a0_9 x189010_14 a0_11 x189012_14 t189 t192 _ A60.out).mono ?_); rintro e w64 ⟨v190, rfl, ho0, hb⟩; have n0_ := Aside0.mk (Kd.R_elder' (by (with_reducible repeat (first | apply Kd.R_alloc | apply Kd.R_drewN | apply Kd.R_drew)); exact HO_5.out) (Kd.R_base ho0) hb); have n1_ := Aside0.mk (Kd.R_lower (Kd.R_new' ho0 (Kd.R_lt (by (with_reducible repeat (first | apply Kd.R_alloc | apply Kd.R_drewN | apply Kd.R_drew)); exact HO_5.out))) (below_size (by repeat (first | (with_reducible first | exact HB.out | apply below_alloc | apply pw_below_drewN | apply below_drew1 | refine below_set ?_ GE182.out | refine below_set ?_ GE188.out) | exact HB.out)))); have n2_ := Aside0.mk (blk_below (g := gb182) (o := .cells #[.int .u8 a0_0, .int .u8 a0_1, .int .u8 a0_2, .int .u8 a0_3, .int .i8 a0_4, .int .i8 a0_5, .int .u32 a0_6, .int .u32 a0_7, .int .u32 a0_8, .int .u64 a0_9, .int .u64 a0_10, .int .u64 a0_11, .int .u64 a0_12] 26 (0, 0)) (by (with_reducible repeat (first | refine blk_drewN ?_ _ | refine blk_drew ?_ | refine blk_alloc ?_ _)); exact BK182.out) hb); have n3_ := Aside0.mk (blk_below (g := gb188) (o := .cells #[.int .u8 x189000_14, .int .u8 x189001_14, .int .u8 x189002_14, .int .u8 x189003_14, .int .i8 x189004_14, .int .i8 x189005_14, .int .u32 x189006_14, .int .u32 x189007_14, .int .u32 x189008_14, .int .u64 a0_9, .int .u64 x189010_14, .int .u64 a0_11, .int .u64 x189012_14] 26 (0, 0)) (by (with_reducible repeat (first | refine blk_drewN ?_ _ | refine blk_drew ?_ | refine blk_alloc ?_ _)); exact BK188.out) hb); have n4_ := Aside0.mk (below_step (by repeat (first | (with_reducible first | exact HB.out | apply below_alloc | apply pw_below_drewN | apply below_drew1 | refine below_set ?_ GE182.out | refine below_set ?_ GE188.out) | exact HB.out)) hb); clear HO_5; clear BK182; clear BK188; clear HB; have HO_5 := n0_; have HO191 := n1_; have BK182 := n2_; have BK188 := n3_; have HB := n4_; clear n0_ n1_ n2_ n3_ n4_; (try clear hb); (try clear hb2); (try clear hk); (try clear hi); (try clear ho0))); go_upto_region 29 with (first | (go_at_call 9; (with_reducible refine (packet_Put.calls kj14 x189000_14 x189001_14 x189002_14 x189003_14 x189004_14 x189005_14 x189006_14 x189007_14 x189008_14 a0_9 x189010_14 a0_11 x189012_14 t189 t192 _ A60.out).mono ?_); rintro e w64 ⟨v190, rfl, ho0, hb⟩; have n0_ := Aside0.mk (Kd.R_elder' (by (with_reducible repeat (first | apply Kd.R_alloc | apply Kd.R_drewN | apply Kd.R_drew)); exact HO_5.out) (Kd.R_base ho0) hb); have n1_ := Aside0.mk (Kd.R_lower (Kd.R_new' ho0 (Kd.R_lt (by (with_reducible repeat (first | apply Kd.R_alloc | apply Kd.R_drewN | apply Kd.R_drew)); exact HO_5.out))) (below_size (by repeat (first | (with_reducible first | exact HB.out | apply below_alloc | apply pw_below_drewN | apply below_drew1 | refine below_set ?_ GE182.out | refine below_set ?_ GE188.out) | exact HB.out)))); have n2_ := Aside0.mk (blk_below (g := gb182) (o := .cells #[.int .u8 a0_0, .int .u8 a0_1, .int .u8 a0_2, .int .u8 a0_3, .int .i8 a0_4, .int .i8 a0_5, .int .u32 a0_6, .int .u32 a0_7, .int .u32 a0_8, .int .u64 a0_9, .int .u64 a0_10, .int .u64 a0_11, .int .u64 a0_12] 26 (0, 0)) (by (with_reducible repeat (first | refine blk_drewN ?_ _ | refine blk_drew ?_ | refine blk_alloc ?_ _)); exact BK182.out) hb); have n3_ := Aside0.mk (blk_below (g := gb188) (o := .cells #[.int .u8 x189000_14, .int .u8 x189001_14, .int .u8 x189002_14, .int .u8 x189003_14, .int .i8 x189004_14, .int .i8 x189005_14, .int .u32 x189006_14, .int .u32 x189007_14, .int .u32 x189008_14, .int .u64 a0_9, .int .u64 x189010_14, .int .u64 a0_11, .int .u64 x189012_14] 26 (0, 0)) (by (with_reducible repeat (first | refine blk_drewN ?_ _ | refine blk_drew ?_ | refine blk_alloc ?_ _)); exact BK188.out) hb); have n4_ := Aside0.mk (below_step (by repeat (first | (with_reducible first | exact HB.out | apply below_alloc | apply pw_below_drewN | apply below_drew1 | refine below_set ?_ GE182.out | refine below_set ?_ GE188.out) | exact HB.out)) hb); clear HO_5; clear BK182; clear BK188; clear HB; have HO_5 := n0_; have HO191 := n1_; have BK182 := n2_; have BK188 := n3_; have HB := n4_; clear n0_ n1_ n2_ n3_ n4_; (try clear hb); (try clear hb2); (try clear hk); (try clear hi); (try clear ho0))))
            (try simp only [Act.put, List.setIfInBounds_toArray, List.set_cons_zero, List.set_cons_succ])
            go_cut [109] (fun v109 wc => ∃ (kq : Nat) (x109_60 : Bool), v109 = .bool x109_60 ∧ Aside0 (chronobatelaw03_PacketFields.j2 kq t183 x8_14 x9_14 t189 x109_60 = some r) ∧ Aside0 (kq ≤ kj14) ∧ Aside0 (Kd.R (Kd.int .u8) 5 wc w.heap.size (fun k_ => some k_ ≠ (v190 : Value).ownBlock) v184 t183) ∧ Aside0 (Kd.R (Kd.int .u8) 5 wc w.heap.size (fun k_ => some k_ ≠ (v184 : Value).ownBlock) v190 t189) ∧ Aside0 (wc.heap[gb182]? = some (.cells #[.int .u8 a0_0, .int .u8 a0_1, .int .u8 a0_2, .int .u8 a0_3, .int .i8 a0_4, .int .i8 a0_5, .int .u32 a0_6, .int .u32 a0_7, .int .u32 a0_8, .int .u64 a0_9, .int .u64 a0_10, .int .u64 a0_11, .int .u64 a0_12] 26 (0, 0))) ∧ Aside0 (wc.heap[gb188]? = some (.cells #[.int .u8 x189000_14, .int .u8 x189001_14, .int .u8 x189002_14, .int .u8 x189003_14, .int .i8 x189004_14, .int .i8 x189005_14, .int .u32 x189006_14, .int .u32 x189007_14, .int .u32 x189008_14, .int .u64 a0_9, .int .u64 x189010_14, .int .u64 a0_11, .int .u64 x189012_14] 26 (0, 0))) ∧ Aside0 (Below w.heap.size w wc))
            case first =>
              have H := HC61.out
              clear HC61
              by_cases c65 : t192 = 0
              · rw [if_pos c65] at H
                have c65b0 : (t192 == 0) = true := beq_iff_eq.mpr c65
                have c65b1 : (t192 != 0) = false := bne_eq_false_iff_eq.mpr c65
                clear c65
                (first | rw [c65b0] | (simp only [i64_w, i32_w]; rw [c65b0]) | skip)
                have H' := Aside0.mk H
                clear H
                obtain ⟨Ao66, co66, eo66⟩ := Kd.R_slice HO191.out
                subst eo66
                go_wp2
                repeat (go_quiet (fail); try go_wp2)
                go_meet
                case rel => exact ⟨_, (((t189.length : Int) != 48)), (by first | rfl | (simp; done) | (simp [*]; done)), H', ⟨by have := HJ3.out; have := HJ14.out; first | omega | exact Nat.le_refl _⟩, ⟨by (with_reducible repeat (first | apply Kd.R_alloc | apply Kd.R_drewN | apply Kd.R_drew)); exact Kd.R_mono HO_5.out (fun _ hk => hk.2)⟩, ⟨by (with_reducible repeat (first | apply Kd.R_alloc | apply Kd.R_drewN | apply Kd.R_drew)); exact Kd.R_mono HO191.out (fun _ hk => hk.2)⟩, ⟨by (with_reducible repeat (first | refine blk_drewN ?_ _ | refine blk_drew ?_ | refine blk_alloc ?_ _)); exact BK182.out⟩, ⟨by (with_reducible repeat (first | refine blk_drewN ?_ _ | refine blk_drew ?_ | refine blk_alloc ?_ _)); exact BK188.out⟩, ⟨by repeat (first | (with_reducible first | exact HB.out | apply below_alloc | apply pw_below_drewN | apply below_drew1 | refine below_set ?_ GE182.out | refine below_set ?_ GE188.out) | exact HB.out)⟩⟩
              · rw [if_neg c65] at H
                have c65b0 : (t192 == 0) = false := beq_eq_false_iff_ne.mpr c65
                have c65b1 : (t192 != 0) = true := bne_iff_ne.mpr c65
                (first | rw [c65b0] | (simp only [i64_w, i32_w]; rw [c65b0]) | skip)
                have H' := Aside0.mk H
                clear H
                go_wp2
                repeat (go_quiet (fail); try go_wp2)
                go_meet
                case rel => exact ⟨_, (true), (by first | rfl | (simp; done) | (simp [*]; done)), H', ⟨by have := HJ3.out; have := HJ14.out; first | omega | exact Nat.le_refl _⟩, ⟨by (with_reducible repeat (first | apply Kd.R_alloc | apply Kd.R_drewN | apply Kd.R_drew)); exact Kd.R_mono HO_5.out (fun _ hk => hk.2)⟩, ⟨by (with_reducible repeat (first | apply Kd.R_alloc | apply Kd.R_drewN | apply Kd.R_drew)); exact Kd.R_mono HO191.out (fun _ hk => hk.2)⟩, ⟨by (with_reducible repeat (first | refine blk_drewN ?_ _ | refine blk_drew ?_ | refine blk_alloc ?_ _)); exact BK182.out⟩, ⟨by (with_reducible repeat (first | refine blk_drewN ?_ _ | refine blk_drew ?_ | refine blk_alloc ?_ _)); exact BK188.out⟩, ⟨by repeat (first | (with_reducible first | exact HB.out | apply below_alloc | apply pw_below_drewN | apply below_drew1 | refine below_set ?_ GE182.out | refine below_set ?_ GE188.out) | exact HB.out)⟩⟩
            case rest =>
              clear HC61
              try clear c2
              try clear p2
              try clear c3
              try clear c4
              try clear c5
              try clear c6
              try clear c23
              try clear c23b0
              try clear c23b1
              try clear c26
              try clear c26b0
              try clear c26b1
              try clear c27
              try clear c29
              try clear c29b0
              try clear c29b1
              try clear c30
              try clear c33
              try clear c33b0
              try clear c33b1
              try clear c34
              try clear c37
              try clear c37b0
              try clear c37b1
              try clear c38
              try clear c41
              try clear c41b0
              try clear c41b1
              try clear c42
              try clear c45
              try clear c45b0
              try clear c45b1
              try clear c46
              try clear c49
              try clear c49b0
              try clear c49b1
              try clear c50
              try clear c53
              try clear c53b0
              try clear c53b1
              try clear c54
              try clear c57
              try clear c62
              try clear c65
              try clear c65b0
              try clear c65b1
              try clear hcz28_0
              try clear hcz28_1
              try clear hcz28_10
              try clear hcz28_11
              try clear hcz28_12
              try clear hcz28_2
              try clear hcz28_3
              try clear hcz28_4
              try clear hcz28_5
              try clear hcz28_6
              try clear hcz28_7
              try clear hcz28_8
              try clear hcz28_9
              try clear hcz31_0
              try clear hcz31_1
              try clear hcz31_10
              try clear hcz31_11
              try clear hcz31_12
              try clear hcz31_2
              try clear hcz31_3
              try clear hcz31_4
              try clear hcz31_5
              try clear hcz31_6
              try clear hcz31_7
              try clear hcz31_8
              try clear hcz31_9
              try clear hcz32_0
              try clear hcz32_1
              try clear hcz32_10
              try clear hcz32_11
              try clear hcz32_12
              try clear hcz32_2
              try clear hcz32_3
              try clear hcz32_4
              try clear hcz32_5
              try clear hcz32_6
              try clear hcz32_7
              try clear hcz32_8
              try clear hcz32_9
              try clear hcz35_0
              try clear hcz35_1
              try clear hcz35_10
              try clear hcz35_11
              try clear hcz35_12
              try clear hcz35_2
              try clear hcz35_3
              try clear hcz35_4
              try clear hcz35_5
              try clear hcz35_6
              try clear hcz35_7
              try clear hcz35_8
              try clear hcz35_9
              try clear hcz36_0
              try clear hcz36_1
              try clear hcz36_10
              try clear hcz36_11
              try clear hcz36_12
              try clear hcz36_2
              try clear hcz36_3
              try clear hcz36_4
              try clear hcz36_5
              try clear hcz36_6
              try clear hcz36_7
              try clear hcz36_8
              try clear hcz36_9
              try clear hcz39_0
              try clear hcz39_1
              try clear hcz39_10
              try clear hcz39_11
              try clear hcz39_12
              try clear hcz39_2
              try clear hcz39_3
              try clear hcz39_4
              try clear hcz39_5
              try clear hcz39_6
              try clear hcz39_7
              try clear hcz39_8
              try clear hcz39_9
              try clear hcz40_0
              try clear hcz40_1
              try clear hcz40_10
              try clear hcz40_11
              try clear hcz40_12
              try clear hcz40_2
              try clear hcz40_3
              try clear hcz40_4
              try clear hcz40_5
              try clear hcz40_6
              try clear hcz40_7
              try clear hcz40_8
              try clear hcz40_9
              try clear hcz43_0
              try clear hcz43_1
              try clear hcz43_10
              try clear hcz43_11
              try clear hcz43_12
              try clear hcz43_2
              try clear hcz43_3
              try clear hcz43_4
              try clear hcz43_5
              try clear hcz43_6
              try clear hcz43_7
              try clear hcz43_8
              try clear hcz43_9
              try clear hcz44_0
              try clear hcz44_1
              try clear hcz44_10
              try clear hcz44_11
              try clear hcz44_12
              try clear hcz44_2
              try clear hcz44_3
              try clear hcz44_4
              try clear hcz44_5
              try clear hcz44_6
              try clear hcz44_7
              try clear hcz44_8
              try clear hcz44_9
              try clear hcz47_0
              try clear hcz47_1
              try clear hcz47_10
              try clear hcz47_11
              try clear hcz47_12
              try clear hcz47_2
              try clear hcz47_3
              try clear hcz47_4
              try clear hcz47_5
              try clear hcz47_6
              try clear hcz47_7
              try clear hcz47_8
              try clear hcz47_9
              try clear hcz48_0
              try clear hcz48_1
              try clear hcz48_10
              try clear hcz48_11
              try clear hcz48_12
              try clear hcz48_2
              try clear hcz48_3
              try clear hcz48_4
              try clear hcz48_5
              try clear hcz48_6
              try clear hcz48_7
              try clear hcz48_8
              try clear hcz48_9
              try clear hcz51_0
              try clear hcz51_1
              try clear hcz51_10
              try clear hcz51_11
              try clear hcz51_12
              try clear hcz51_2
              try clear hcz51_3
              try clear hcz51_4
              try clear hcz51_5
              try clear hcz51_6
              try clear hcz51_7
              try clear hcz51_8
              try clear hcz51_9
              try clear hcz52_0
              try clear hcz52_1
              try clear hcz52_10
              try clear hcz52_11
              try clear hcz52_12
              try clear hcz52_2
              try clear hcz52_3
              try clear hcz52_4
              try clear hcz52_5
              try clear hcz52_6
              try clear hcz52_7
              try clear hcz52_8
              try clear hcz52_9
              try clear hcz55_0
              try clear hcz55_1
              try clear hcz55_10
              try clear hcz55_11
              try clear hcz55_12
              try clear hcz55_2
              try clear hcz55_3
              try clear hcz55_4
              try clear hcz55_5
              try clear hcz55_6
              try clear hcz55_7
              try clear hcz55_8
              try clear hcz55_9
              try clear hcz56_0
              try clear hcz56_1
              try clear hcz56_10
              try clear hcz56_11
              try clear hcz56_12
              try clear hcz56_2
              try clear hcz56_3
              try clear hcz56_4
              try clear hcz56_5
              try clear hcz56_6
              try clear hcz56_7
              try clear hcz56_8
              try clear hcz56_9
              try clear hcz58_0
              try clear hcz58_1
              try clear hcz58_10
              try clear hcz58_11
              try clear hcz58_12
              try clear hcz58_2
              try clear hcz58_3
              try clear hcz58_4
              try clear hcz58_5
              try clear hcz58_6
              try clear hcz58_7
              try clear hcz58_8
              try clear hcz58_9
              try clear hcz59_0
              try clear hcz59_1
              try clear hcz59_10
              try clear hcz59_11
              try clear hcz59_12
              try clear hcz59_2
              try clear hcz59_3
              try clear hcz59_4
              try clear hcz59_5
              try clear hcz59_6
              try clear hcz59_7
              try clear hcz59_8
              try clear hcz59_9
              try clear hcz63_0
              try clear hcz63_1
              try clear hcz63_10
              try clear hcz63_11
              try clear hcz63_12
              try clear hcz63_2
              try clear hcz63_3
              try clear hcz63_4
              try clear hcz63_5
              try clear hcz63_6
              try clear hcz63_7
              try clear hcz63_8
              try clear hcz63_9
              try clear hfz25_0
              try clear hfz25_1
              try clear hfz25_10
              try clear hfz25_11
              try clear hfz25_12
              try clear hfz25_2
              try clear hfz25_3
              try clear hfz25_4
              try clear hfz25_5
              try clear hfz25_6
              try clear hfz25_7
              try clear hfz25_8
              try clear hfz25_9
              try clear hfz28_0
              try clear hfz28_1
              try clear hfz28_10
              try clear hfz28_11
              try clear hfz28_12
              try clear hfz28_2
              try clear hfz28_3
              try clear hfz28_4
              try clear hfz28_5
              try clear hfz28_6
              try clear hfz28_7
              try clear hfz28_8
              try clear hfz28_9
              try clear hfz31_0
              try clear hfz31_1
              try clear hfz31_10
              try clear hfz31_11
              try clear hfz31_12
              try clear hfz31_2
              try clear hfz31_3
              try clear hfz31_4
              try clear hfz31_5
              try clear hfz31_6
              try clear hfz31_7
              try clear hfz31_8
              try clear hfz31_9
              try clear hfz32_0
              try clear hfz32_1
              try clear hfz32_10
              try clear hfz32_11
              try clear hfz32_12
              try clear hfz32_2
              try clear hfz32_3
              try clear hfz32_4
              try clear hfz32_5
              try clear hfz32_6
              try clear hfz32_7
              try clear hfz32_8
              try clear hfz32_9
              try clear hfz35_0
              try clear hfz35_1
              try clear hfz35_10
              try clear hfz35_11
              try clear hfz35_12
              try clear hfz35_2
              try clear hfz35_3
              try clear hfz35_4
              try clear hfz35_5
              try clear hfz35_6
              try clear hfz35_7
              try clear hfz35_8
              try clear hfz35_9
              try clear hfz36_0
              try clear hfz36_1
              try clear hfz36_10
              try clear hfz36_11
              try clear hfz36_12
              try clear hfz36_2
              try clear hfz36_3
              try clear hfz36_4
              try clear hfz36_5
              try clear hfz36_6
              try clear hfz36_7
              try clear hfz36_8
              try clear hfz36_9
              try clear hfz39_0
              try clear hfz39_1
              try clear hfz39_10
              try clear hfz39_11
              try clear hfz39_12
              try clear hfz39_2
              try clear hfz39_3
              try clear hfz39_4
              try clear hfz39_5
              try clear hfz39_6
              try clear hfz39_7
              try clear hfz39_8
              try clear hfz39_9
              try clear hfz40_0
              try clear hfz40_1
              try clear hfz40_10
              try clear hfz40_11
              try clear hfz40_12
              try clear hfz40_2
              try clear hfz40_3
              try clear hfz40_4
              try clear hfz40_5
              try clear hfz40_6
              try clear hfz40_7
              try clear hfz40_8
              try clear hfz40_9
              try clear hfz43_0
              try clear hfz43_1
              try clear hfz43_10
              try clear hfz43_11
              try clear hfz43_12
              try clear hfz43_2
              try clear hfz43_3
              try clear hfz43_4
              try clear hfz43_5
              try clear hfz43_6
              try clear hfz43_7
              try clear hfz43_8
              try clear hfz43_9
              try clear hfz44_0
              try clear hfz44_1
              try clear hfz44_10
              try clear hfz44_11
              try clear hfz44_12
              try clear hfz44_2
              try clear hfz44_3
              try clear hfz44_4
              try clear hfz44_5
              try clear hfz44_6
              try clear hfz44_7
              try clear hfz44_8
              try clear hfz44_9
              try clear hfz47_0
              try clear hfz47_1
              try clear hfz47_10
              try clear hfz47_11
              try clear hfz47_12
              try clear hfz47_2
              try clear hfz47_3
              try clear hfz47_4
              try clear hfz47_5
              try clear hfz47_6
              try clear hfz47_7
              try clear hfz47_8
              try clear hfz47_9
              try clear hfz48_0
              try clear hfz48_1
              try clear hfz48_10
              try clear hfz48_11
              try clear hfz48_12
              try clear hfz48_2
              try clear hfz48_3
              try clear hfz48_4
              try clear hfz48_5
              try clear hfz48_6
              try clear hfz48_7
              try clear hfz48_8
              try clear hfz48_9
              try clear hfz51_0
              try clear hfz51_1
              try clear hfz51_10
              try clear hfz51_11
              try clear hfz51_12
              try clear hfz51_2
              try clear hfz51_3
              try clear hfz51_4
              try clear hfz51_5
              try clear hfz51_6
              try clear hfz51_7
              try clear hfz51_8
              try clear hfz51_9
              try clear hfz52_0
              try clear hfz52_1
              try clear hfz52_10
              try clear hfz52_11
              try clear hfz52_12
              try clear hfz52_2
              try clear hfz52_3
              try clear hfz52_4
              try clear hfz52_5
              try clear hfz52_6
              try clear hfz52_7
              try clear hfz52_8
              try clear hfz52_9
              try clear hfz55_0
              try clear hfz55_1
              try clear hfz55_10
              try clear hfz55_11
              try clear hfz55_12
              try clear hfz55_2
              try clear hfz55_3
              try clear hfz55_4
              try clear hfz55_5
              try clear hfz55_6
              try clear hfz55_7
              try clear hfz55_8
              try clear hfz55_9
              try clear hfz56_0
              try clear hfz56_1
              try clear hfz56_10
              try clear hfz56_11
              try clear hfz56_12
              try clear hfz56_2
              try clear hfz56_3
              try clear hfz56_4
              try clear hfz56_5
              try clear hfz56_6
              try clear hfz56_7
              try clear hfz56_8
              try clear hfz56_9
              try clear hfz58_0
              try clear hfz58_1
              try clear hfz58_10
              try clear hfz58_11
              try clear hfz58_12
              try clear hfz58_2
              try clear hfz58_3
              try clear hfz58_4
              try clear hfz58_5
              try clear hfz58_6
              try clear hfz58_7
              try clear hfz58_8
              try clear hfz58_9
              try clear hfz59_0
              try clear hfz59_1
              try clear hfz59_10
              try clear hfz59_11
              try clear hfz59_12
              try clear hfz59_2
              try clear hfz59_3
              try clear hfz59_4
              try clear hfz59_5
              try clear hfz59_6
              try clear hfz59_7
              try clear hfz59_8
              try clear hfz59_9
              try clear hfz63_0
              try clear hfz63_1
              try clear hfz63_10
              try clear hfz63_11
              try clear hfz63_12
              try clear hfz63_2
              try clear hfz63_3
              try clear hfz63_4
              try clear hfz63_5
              try clear hfz63_6
              try clear hfz63_7
              try clear hfz63_8
              try clear hfz63_9
              try clear p2
              obtain ⟨kq, x109_60, rfl, HA, HJ60, HO_5, HO_10, BK182, BK188, HB⟩ := hcut
              cases kq with
              | zero => exact absurd HA.out (by simp [chronobatelaw03_PacketFields.j2])
              | succ kj60 =>
                have H := HA.out
                clear HA
                simp only [chronobatelaw03_PacketFields.j2] at H
                by_cases c67 : x109_60 = true
                · subst c67
                  have H1 : (some false) = some r := by rw [if_pos rfl] at H; exact H
                  clear H
                  have H := H1
                  clear H1
                  obtain rfl := Option.some.inj H
                  go_wp2
                  repeat (go_quiet (fail); try go_wp2)
                  go_ret
                  exact ⟨by first | rfl | (simp [errW_none, errW_some] <;> rfl) | (simp [*, errW_none, errW_some] <;> rfl), by repeat (first | (with_reducible first | exact HB.out | apply below_alloc | apply pw_below_drewN | apply below_drew1 | refine below_set ?_ GE182.out | refine below_set ?_ GE188.out) | exact HB.out)⟩
                · replace c67 := Bool.eq_false_iff.mpr c67
                  subst c67
                  have H1 : (chronobatelaw03_PacketFields.l0 kj60 t183 x8_14 x9_14 t189 (t183.length : Int) 0) = some r := by rw [if_neg (show ¬ (false = true) by decide)] at H; exact H
                  clear H
                  have H := H1
                  clear H1
                  have H' := Aside0.mk H
                  clear H
                  obtain ⟨Ao68, co68, eo68⟩ := Kd.R_slice HO_5.out
                  subst eo68
                  go_wp2
                  repeat (go_quiet (fail); try go_wp2)
                  go_loopg [112] kj60 (fun kq v112 w' => ∃ (x112_4 : Int), v112 = .int .i64 x112_4 ∧ Aside0 (chronobatelaw03_PacketFields.l0 kq t183 x8_14 x9_14 t189 (t183.length : Int) x112_4 = some r) ∧ Aside0 (kq ≤ kj60) ∧ Aside0 (Kd.R (Kd.int .u8) 5 w' w.heap.size (fun k_ => some k_ ≠ (v190 : Value).ownBlock) (.slice Ao68 t183.length co68) t183) ∧ Aside0 (Kd.R (Kd.int .u8) 5 w' w.heap.size (fun k_ => some k_ ≠ ((.slice Ao68 t183.length co68) : Value).ownBlock) v190 t189) ∧ Aside0 (w'.heap[gb182]? = some (.cells #[.int .u8 a0_0, .int .u8 a0_1, .int .u8 a0_2, .int .u8 a0_3, .int .i8 a0_4, .int .i8 a0_5, .int .u32 a0_6, .int .u32 a0_7, .int .u32 a0_8, .int .u64 a0_9, .int .u64 a0_10, .int .u64 a0_11, .int .u64 a0_12] 26 (0, 0))) ∧ Aside0 (w'.heap[gb188]? = some (.cells #[.int .u8 x189000_14, .int .u8 x189001_14, .int .u8 x189002_14, .int .u8 x189003_14, .int .i8 x189004_14, .int .i8 x189005_14, .int .u32 x189006_14, .int .u32 x189007_14, .int .u32 x189008_14, .int .u64 a0_9, .int .u64 x189010_14, .int .u64 a0_11, .int .u64 x189012_14] 26 (0, 0))) ∧ Aside0 (Below w.heap.size w w'))
                  case atStart => exact ⟨(0), (by first | rfl | (simp; done) | (simp [*]; done)), H', ⟨Nat.le_refl _⟩, ⟨by (with_reducible repeat (first | apply Kd.R_alloc | apply Kd.R_drewN | apply Kd.R_drew)); exact HO_5.out⟩, ⟨by (with_reducible repeat (first | apply Kd.R_alloc | apply Kd.R_drewN | apply Kd.R_drew)); exact HO_10.out⟩, ⟨by (with_reducible repeat (first | refine blk_drewN ?_ _ | refine blk_drew ?_ | refine blk_alloc ?_ _)); exact BK182.out⟩, ⟨by (with_reducible repeat (first | refine blk_drewN ?_ _ | refine blk_drew ?_ | refine blk_alloc ?_ _)); exact BK188.out⟩, ⟨by repeat (first | (with_reducible first | exact HB.out | apply below_alloc | apply pw_below_drewN | apply below_drew1 | refine below_set ?_ GE182.out | refine below_set ?_ GE188.out) | exact HB.out)⟩⟩
                  case round =>
                    clear H'
                    try clear c2
                    try clear p2
                    try clear c3
                    try clear c4
                    try clear c5
                    try clear c6
                    try clear c23
                    try clear c23b0
                    try clear c23b1
                    try clear c26
                    try clear c26b0
                    try clear c26b1
                    try clear c27
                    try clear c29
                    try clear c29b0
                    try clear c29b1
                    try clear c30
                    try clear c33
                    try clear c33b0
                    try clear c33b1
                    try clear c34
                    try clear c37
                    try clear c37b0
                    try clear c37b1
                    try clear c38
                    try clear c41
                    try clear c41b0
                    try clear c41b1
                    try clear c42
                    try clear c45
                    try clear c45b0
                    try clear c45b1
                    try clear c46
                    try clear c49
                    try clear c49b0
                    try clear c49b1
                    try clear c50
                    try clear c53
                    try clear c53b0
                    try clear c53b1
                    try clear c54
                    try clear c57
                    try clear c62
                    try clear c65
                    try clear c65b0
                    try clear c65b1
                    try clear c67
                    try clear hcz28_0
                    try clear hcz28_1
                    try clear hcz28_10
                    try clear hcz28_11
                    try clear hcz28_12
                    try clear hcz28_2
                    try clear hcz28_3
                    try clear hcz28_4
                    try clear hcz28_5
                    try clear hcz28_6
                    try clear hcz28_7
                    try clear hcz28_8
                    try clear hcz28_9
                    try clear hcz31_0
                    try clear hcz31_1
                    try clear hcz31_10
                    try clear hcz31_11
                    try clear hcz31_12
                    try clear hcz31_2
                    try clear hcz31_3
                    try clear hcz31_4
                    try clear hcz31_5
                    try clear hcz31_6
                    try clear hcz31_7
                    try clear hcz31_8
                    try clear hcz31_9
                    try clear hcz32_0
                    try clear hcz32_1
                    try clear hcz32_10
                    try clear hcz32_11
                    try clear hcz32_12
                    try clear hcz32_2
                    try clear hcz32_3
                    try clear hcz32_4
                    try clear hcz32_5
                    try clear hcz32_6
                    try clear hcz32_7
                    try clear hcz32_8
                    try clear hcz32_9
                    try clear hcz35_0
                    try clear hcz35_1
                    try clear hcz35_10
                    try clear hcz35_11
                    try clear hcz35_12
                    try clear hcz35_2
                    try clear hcz35_3
                    try clear hcz35_4
                    try clear hcz35_5
                    try clear hcz35_6
                    try clear hcz35_7
                    try clear hcz35_8
                    try clear hcz35_9
                    try clear hcz36_0
                    try clear hcz36_1
                    try clear hcz36_10
                    try clear hcz36_11
                    try clear hcz36_12
                    try clear hcz36_2
                    try clear hcz36_3
                    try clear hcz36_4
                    try clear hcz36_5
                    try clear hcz36_6
                    try clear hcz36_7
                    try clear hcz36_8
                    try clear hcz36_9
                    try clear hcz39_0
                    try clear hcz39_1
                    try clear hcz39_10
                    try clear hcz39_11
                    try clear hcz39_12
                    try clear hcz39_2
                    try clear hcz39_3
                    try clear hcz39_4
                    try clear hcz39_5
                    try clear hcz39_6
                    try clear hcz39_7
                    try clear hcz39_8
                    try clear hcz39_9
                    try clear hcz40_0
                    try clear hcz40_1
                    try clear hcz40_10
                    try clear hcz40_11
                    try clear hcz40_12
                    try clear hcz40_2
                    try clear hcz40_3
                    try clear hcz40_4
                    try clear hcz40_5
                    try clear hcz40_6
                    try clear hcz40_7
                    try clear hcz40_8
                    try clear hcz40_9
                    try clear hcz43_0
                    try clear hcz43_1
                    try clear hcz43_10
                    try clear hcz43_11
                    try clear hcz43_12
                    try clear hcz43_2
                    try clear hcz43_3
                    try clear hcz43_4
                    try clear hcz43_5
                    try clear hcz43_6
                    try clear hcz43_7
                    try clear hcz43_8
                    try clear hcz43_9
                    try clear hcz44_0
                    try clear hcz44_1
                    try clear hcz44_10
                    try clear hcz44_11
                    try clear hcz44_12
                    try clear hcz44_2
                    try clear hcz44_3
                    try clear hcz44_4
                    try clear hcz44_5
                    try clear hcz44_6
                    try clear hcz44_7
                    try clear hcz44_8
                    try clear hcz44_9
                    try clear hcz47_0
                    try clear hcz47_1
                    try clear hcz47_10
                    try clear hcz47_11
                    try clear hcz47_12
                    try clear hcz47_2
                    try clear hcz47_3
                    try clear hcz47_4
                    try clear hcz47_5
                    try clear hcz47_6
                    try clear hcz47_7
                    try clear hcz47_8
                    try clear hcz47_9
                    try clear hcz48_0
                    try clear hcz48_1
                    try clear hcz48_10
                    try clear hcz48_11
                    try clear hcz48_12
                    try clear hcz48_2
                    try clear hcz48_3
                    try clear hcz48_4
                    try clear hcz48_5
                    try clear hcz48_6
                    try clear hcz48_7
                    try clear hcz48_8
                    try clear hcz48_9
                    try clear hcz51_0
                    try clear hcz51_1
                    try clear hcz51_10
                    try clear hcz51_11
                    try clear hcz51_12
                    try clear hcz51_2
                    try clear hcz51_3
                    try clear hcz51_4
                    try clear hcz51_5
                    try clear hcz51_6
                    try clear hcz51_7
                    try clear hcz51_8
                    try clear hcz51_9
                    try clear hcz52_0
                    try clear hcz52_1
                    try clear hcz52_10
                    try clear hcz52_11
                    try clear hcz52_12
                    try clear hcz52_2
                    try clear hcz52_3
                    try clear hcz52_4
                    try clear hcz52_5
                    try clear hcz52_6
                    try clear hcz52_7
                    try clear hcz52_8
                    try clear hcz52_9
                    try clear hcz55_0
                    try clear hcz55_1
                    try clear hcz55_10
                    try clear hcz55_11
                    try clear hcz55_12
                    try clear hcz55_2
                    try clear hcz55_3
                    try clear hcz55_4
                    try clear hcz55_5
                    try clear hcz55_6
                    try clear hcz55_7
                    try clear hcz55_8
                    try clear hcz55_9
                    try clear hcz56_0
                    try clear hcz56_1
                    try clear hcz56_10
                    try clear hcz56_11
                    try clear hcz56_12
                    try clear hcz56_2
                    try clear hcz56_3
                    try clear hcz56_4
                    try clear hcz56_5
                    try clear hcz56_6
                    try clear hcz56_7
                    try clear hcz56_8
                    try clear hcz56_9
                    try clear hcz58_0
                    try clear hcz58_1
                    try clear hcz58_10
                    try clear hcz58_11
                    try clear hcz58_12
                    try clear hcz58_2
                    try clear hcz58_3
                    try clear hcz58_4
                    try clear hcz58_5
                    try clear hcz58_6
                    try clear hcz58_7
                    try clear hcz58_8
                    try clear hcz58_9
                    try clear hcz59_0
                    try clear hcz59_1
                    try clear hcz59_10
                    try clear hcz59_11
                    try clear hcz59_12
                    try clear hcz59_2
                    try clear hcz59_3
                    try clear hcz59_4
                    try clear hcz59_5
                    try clear hcz59_6
                    try clear hcz59_7
                    try clear hcz59_8
                    try clear hcz59_9
                    try clear hcz63_0
                    try clear hcz63_1
                    try clear hcz63_10
                    try clear hcz63_11
                    try clear hcz63_12
                    try clear hcz63_2
                    try clear hcz63_3
                    try clear hcz63_4
                    try clear hcz63_5
                    try clear hcz63_6
                    try clear hcz63_7
                    try clear hcz63_8
                    try clear hcz63_9
                    try clear hfz25_0
                    try clear hfz25_1
                    try clear hfz25_10
                    try clear hfz25_11
                    try clear hfz25_12
                    try clear hfz25_2
                    try clear hfz25_3
                    try clear hfz25_4
                    try clear hfz25_5
                    try clear hfz25_6
                    try clear hfz25_7
                    try clear hfz25_8
                    try clear hfz25_9
                    try clear hfz28_0
                    try clear hfz28_1
                    try clear hfz28_10
                    try clear hfz28_11
                    try clear hfz28_12
                    try clear hfz28_2
                    try clear hfz28_3
                    try clear hfz28_4
                    try clear hfz28_5
                    try clear hfz28_6
                    try clear hfz28_7
                    try clear hfz28_8
                    try clear hfz28_9
                    try clear hfz31_0
                    try clear hfz31_1
                    try clear hfz31_10
                    try clear hfz31_11
                    try clear hfz31_12
                    try clear hfz31_2
                    try clear hfz31_3
                    try clear hfz31_4
                    try clear hfz31_5
                    try clear hfz31_6
                    try clear hfz31_7
                    try clear hfz31_8
                    try clear hfz31_9
                    try clear hfz32_0
                    try clear hfz32_1
                    try clear hfz32_10
                    try clear hfz32_11
                    try clear hfz32_12
                    try clear hfz32_2
                    try clear hfz32_3
                    try clear hfz32_4
                    try clear hfz32_5
                    try clear hfz32_6
                    try clear hfz32_7
                    try clear hfz32_8
                    try clear hfz32_9
                    try clear hfz35_0
                    try clear hfz35_1
                    try clear hfz35_10
                    try clear hfz35_11
                    try clear hfz35_12
                    try clear hfz35_2
                    try clear hfz35_3
                    try clear hfz35_4
                    try clear hfz35_5
                    try clear hfz35_6
                    try clear hfz35_7
                    try clear hfz35_8
                    try clear hfz35_9
                    try clear hfz36_0
                    try clear hfz36_1
                    try clear hfz36_10
                    try clear hfz36_11
                    try clear hfz36_12
                    try clear hfz36_2
                    try clear hfz36_3
                    try clear hfz36_4
                    try clear hfz36_5
                    try clear hfz36_6
                    try clear hfz36_7
                    try clear hfz36_8
                    try clear hfz36_9
                    try clear hfz39_0
                    try clear hfz39_1
                    try clear hfz39_10
                    try clear hfz39_11
                    try clear hfz39_12
                    try clear hfz39_2
                    try clear hfz39_3
                    try clear hfz39_4
                    try clear hfz39_5
                    try clear hfz39_6
                    try clear hfz39_7
                    try clear hfz39_8
                    try clear hfz39_9
                    try clear hfz40_0
                    try clear hfz40_1
                    try clear hfz40_10
                    try clear hfz40_11
                    try clear hfz40_12
                    try clear hfz40_2
                    try clear hfz40_3
                    try clear hfz40_4
                    try clear hfz40_5
                    try clear hfz40_6
                    try clear hfz40_7
                    try clear hfz40_8
                    try clear hfz40_9
                    try clear hfz43_0
                    try clear hfz43_1
                    try clear hfz43_10
                    try clear hfz43_11
                    try clear hfz43_12
                    try clear hfz43_2
                    try clear hfz43_3
                    try clear hfz43_4
                    try clear hfz43_5
                    try clear hfz43_6
                    try clear hfz43_7
                    try clear hfz43_8
                    try clear hfz43_9
                    try clear hfz44_0
                    try clear hfz44_1
                    try clear hfz44_10
                    try clear hfz44_11
                    try clear hfz44_12
                    try clear hfz44_2
                    try clear hfz44_3
                    try clear hfz44_4
                    try clear hfz44_5
                    try clear hfz44_6
                    try clear hfz44_7
                    try clear hfz44_8
                    try clear hfz44_9
                    try clear hfz47_0
                    try clear hfz47_1
                    try clear hfz47_10
                    try clear hfz47_11
                    try clear hfz47_12
                    try clear hfz47_2
                    try clear hfz47_3
                    try clear hfz47_4
                    try clear hfz47_5
                    try clear hfz47_6
                    try clear hfz47_7
                    try clear hfz47_8
                    try clear hfz47_9
                    try clear hfz48_0
                    try clear hfz48_1
                    try clear hfz48_10
                    try clear hfz48_11
                    try clear hfz48_12
                    try clear hfz48_2
                    try clear hfz48_3
                    try clear hfz48_4
                    try clear hfz48_5
                    try clear hfz48_6
                    try clear hfz48_7
                    try clear hfz48_8
                    try clear hfz48_9
                    try clear hfz51_0
                    try clear hfz51_1
                    try clear hfz51_10
                    try clear hfz51_11
                    try clear hfz51_12
                    try clear hfz51_2
                    try clear hfz51_3
                    try clear hfz51_4
                    try clear hfz51_5
                    try clear hfz51_6
                    try clear hfz51_7
                    try clear hfz51_8
                    try clear hfz51_9
                    try clear hfz52_0
                    try clear hfz52_1
                    try clear hfz52_10
                    try clear hfz52_11
                    try clear hfz52_12
                    try clear hfz52_2
                    try clear hfz52_3
                    try clear hfz52_4
                    try clear hfz52_5
                    try clear hfz52_6
                    try clear hfz52_7
                    try clear hfz52_8
                    try clear hfz52_9
                    try clear hfz55_0
                    try clear hfz55_1
                    try clear hfz55_10
                    try clear hfz55_11
                    try clear hfz55_12
                    try clear hfz55_2
                    try clear hfz55_3
                    try clear hfz55_4
                    try clear hfz55_5
                    try clear hfz55_6
                    try clear hfz55_7
                    try clear hfz55_8
                    try clear hfz55_9
                    try clear hfz56_0
                    try clear hfz56_1
                    try clear hfz56_10
                    try clear hfz56_11
                    try clear hfz56_12
                    try clear hfz56_2
                    try clear hfz56_3
                    try clear hfz56_4
                    try clear hfz56_5
                    try clear hfz56_6
                    try clear hfz56_7
                    try clear hfz56_8
                    try clear hfz56_9
                    try clear hfz58_0
                    try clear hfz58_1
                    try clear hfz58_10
                    try clear hfz58_11
                    try clear hfz58_12
                    try clear hfz58_2
                    try clear hfz58_3
                    try clear hfz58_4
                    try clear hfz58_5
                    try clear hfz58_6
                    try clear hfz58_7
                    try clear hfz58_8
                    try clear hfz58_9
                    try clear hfz59_0
                    try clear hfz59_1
                    try clear hfz59_10
                    try clear hfz59_11
                    try clear hfz59_12
                    try clear hfz59_2
                    try clear hfz59_3
                    try clear hfz59_4
                    try clear hfz59_5
                    try clear hfz59_6
                    try clear hfz59_7
                    try clear hfz59_8
                    try clear hfz59_9
                    try clear hfz63_0
                    try clear hfz63_1
                    try clear hfz63_10
                    try clear hfz63_11
                    try clear hfz63_12
                    try clear hfz63_2
                    try clear hfz63_3
                    try clear hfz63_4
                    try clear hfz63_5
                    try clear hfz63_6
                    try clear hfz63_7
                    try clear hfz63_8
                    try clear hfz63_9
                    try clear p2
                    obtain ⟨x112_4, rfl, HA, HK4, HO_5, HO_10, BK182, BK188, HB⟩ := hrel
                    cases gk with
                    | zero => exact absurd HA.out (by simp [chronobatelaw03_PacketFields.l0])
                    | succ k4 =>
                      have H := HA.out
                      clear HA
                      simp only [chronobatelaw03_PacketFields.l0] at H
                      by_cases c69 : x112_4 < (t183.length : Int)
                      · rw [if_pos c69] at H
                        have c69b0 : decide (x112_4 < (t183.length : Int)) = true := decide_eq_true c69
                        clear c69
                        by_cases c70 : x112_4 ≥ x8_14
                        · rw [if_pos c70] at H
                          have c70b0 : decide (x8_14 ≤ x112_4) = true := decide_eq_true c70
                          clear c70
                          by_cases c71 : 0 ≤ x112_4
                          · rw [if_pos c71] at H
                            have c71b0 : decide (0 ≤ x112_4) = true := decide_eq_true c71
                            clear c71
                            by_cases c72 : x112_4 < (t183.length : Int)
                            · rw [if_pos c72] at H
                              have c72b0 : decide (x112_4 < (t183.length : Int)) = true := decide_eq_true c72
                              clear c72
                              by_cases c73 : x112_4 < (t189.length : Int)
                              · rw [if_pos c73] at H
                                have c73b0 : decide (x112_4 < (t189.length : Int)) = true := decide_eq_true c73
                                clear c73
                                by_cases c74 : ((decide (x112_4 < x9_14)) != ((rd t183 x112_4) != (rd t189 x112_4))) = true
                                · rw [if_pos c74] at H
                                  have c74b0 : ((decide (x112_4 < x9_14)) != ((rd t183 x112_4) != (rd t189 x112_4))) = true := c74
                                  (try (have c74b1 : decide ((decide (x112_4 < x9_14)) = ((rd t183 x112_4) != (rd t189 x112_4))) = false := by simpa using c74))
                                  (try (have c74b2 : ((decide (x112_4 < x9_14)) == ((rd t183 x112_4) != (rd t189 x112_4))) = false := by simpa using c74))
                                  (try (have c74b3 : ¬ ((decide (x112_4 < x9_14)) = ((rd t183 x112_4) != (rd t189 x112_4))) := by simpa using c74))
                                  clear c74
                                  obtain rfl := Option.some.inj H
                                  have p193 : 0 ≤ (x112_4 : Int) := of_decide_eq_true (by first | (with_reducible assumption) | assumption)
                                  have q193 : x112_4 < (t183.length : Int) := of_decide_eq_true (by first | (with_reducible assumption) | assumption)
                                  obtain ⟨ad193, e193, hx193_0⟩ := Kd.at_int (Kd.R_reads' HO_5.out).2.2 x112_4 p193 q193
                                  cases e193
                                  replace p193 := eq_true p193
                                  replace q193 := eq_true q193
                                  obtain ⟨Ao75, co75, eo75⟩ := Kd.R_slice HO_10.out
                                  subst eo75
                                  have p194 : 0 ≤ (x112_4 : Int) := of_decide_eq_true (by first | (with_reducible assumption) | assumption)
                                  have q194 : x112_4 < (t189.length : Int) := of_decide_eq_true (by first | (with_reducible assumption) | assumption)
                                  obtain ⟨ad194, e194, hx194_0⟩ := Kd.at_int (Kd.R_reads' HO_10.out).2.2 x112_4 p194 q194
                                  cases e194
                                  replace p194 := eq_true p194
                                  replace q194 := eq_true q194
                                  go_wp2
                                  repeat (go_quiet (fail); try go_wp2)
                                  go_ret
                                  exact ⟨by first | rfl | (simp [errW_none, errW_some] <;> rfl) | (simp [*, errW_none, errW_some] <;> rfl), by repeat (first | (with_reducible first | exact HB.out | apply below_alloc | apply pw_below_drewN | apply below_drew1 | refine below_set ?_ GE182.out | refine below_set ?_ GE188.out) | exact HB.out)⟩
                                · rw [if_neg c74] at H
                                  have c74b0 : ((decide (x112_4 < x9_14)) != ((rd t183 x112_4) != (rd t189 x112_4))) = false := by simpa using c74
                                  (try (have c74b1 : decide ((decide (x112_4 < x9_14)) = ((rd t183 x112_4) != (rd t189 x112_4))) = true := by simpa using c74))
                                  (try (have c74b2 : ((decide (x112_4 < x9_14)) == ((rd t183 x112_4) != (rd t189 x112_4))) = true := by simpa using c74))
                                  clear c74
                                  have H' := Aside0.mk H
                                  clear H
                                  have p193 : 0 ≤ (x112_4 : Int) := of_decide_eq_true (by first | (with_reducible assumption) | assumption)
                                  have q193 : x112_4 < (t183.length : Int) := of_decide_eq_true (by first | (with_reducible assumption) | assumption)
                                  obtain ⟨ad193, e193, hx193_0⟩ := Kd.at_int (Kd.R_reads' HO_5.out).2.2 x112_4 p193 q193
                                  cases e193
                                  replace p193 := eq_true p193
                                  replace q193 := eq_true q193
                                  obtain ⟨Ao76, co76, eo76⟩ := Kd.R_slice HO_10.out
                                  subst eo76
                                  have p194 : 0 ≤ (x112_4 : Int) := of_decide_eq_true (by first | (with_reducible assumption) | assumption)
                                  have q194 : x112_4 < (t189.length : Int) := of_decide_eq_true (by first | (with_reducible assumption) | assumption)
                                  obtain ⟨ad194, e194, hx194_0⟩ := Kd.at_int (Kd.R_reads' HO_10.out).2.2 x112_4 p194 q194
                                  cases e194
                                  replace p194 := eq_true p194
                                  replace q194 := eq_true q194
                                  go_wp2
                                  repeat (go_quiet (fail); try go_wp2)
                                  go_roundg k4
                                  case measure => have := HJ3.out; have := HJ14.out; have := HJ60.out; have := HK4.out; omega
                                  case rel => exact ⟨(wrap64 (x112_4 + 1)), (by first | rfl | (simp; done) | (simp [*]; done)), H', ⟨by have := HJ3.out; have := HJ14.out; have := HJ60.out; have := HK4.out; omega⟩, ⟨by (with_reducible repeat (first | apply Kd.R_alloc | apply Kd.R_drewN | apply Kd.R_drew)); exact HO_5.out⟩, ⟨by (with_reducible repeat (first | apply Kd.R_alloc | apply Kd.R_drewN | apply Kd.R_drew)); exact HO_10.out⟩, ⟨by (with_reducible repeat (first | refine blk_drewN ?_ _ | refine blk_drew ?_ | refine blk_alloc ?_ _)); exact BK182.out⟩, ⟨by (with_reducible repeat (first | refine blk_drewN ?_ _ | refine blk_drew ?_ | refine blk_alloc ?_ _)); exact BK188.out⟩, ⟨by repeat (first | (with_reducible first | exact HB.out | apply below_alloc | apply pw_below_drewN | apply below_drew1 | refine below_set ?_ GE182.out | refine below_set ?_ GE188.out) | exact HB.out)⟩⟩
                              · rw [if_neg c73] at H
                                exact absurd H (by simp)
                            · rw [if_neg c72] at H
                              exact absurd H (by simp)
                          · rw [if_neg c71] at H
                            exact absurd H (by simp)
                        · rw [if_neg c70] at H
                          have c70b0 : decide (x8_14 ≤ x112_4) = false := decide_eq_false c70
                          clear c70
                          by_cases c77 : 0 ≤ x112_4
                          · rw [if_pos c77] at H
                            have c77b0 : decide (0 ≤ x112_4) = true := decide_eq_true c77
                            clear c77
                            by_cases c78 : x112_4 < (t183.length : Int)
                            · rw [if_pos c78] at H
                              have c78b0 : decide (x112_4 < (t183.length : Int)) = true := decide_eq_true c78
                              clear c78
                              by_cases c79 : x112_4 < (t189.length : Int)
                              · rw [if_pos c79] at H
                                have c79b0 : decide (x112_4 < (t189.length : Int)) = true := decide_eq_true c79
                                clear c79
                                by_cases c80 : (false != ((rd t183 x112_4) != (rd t189 x112_4))) = true
                                · rw [if_pos c80] at H
                                  have c80b0 : (false != ((rd t183 x112_4) != (rd t189 x112_4))) = true := c80
                                  (try (have c80b1 : decide (false = ((rd t183 x112_4) != (rd t189 x112_4))) = false := by simpa using c80))
                                  (try (have c80b2 : (false == ((rd t183 x112_4) != (rd t189 x112_4))) = false := by simpa using c80))
                                  (try (have c80b3 : ¬ (false = ((rd t183 x112_4) != (rd t189 x112_4))) := by simpa using c80))
                                  clear c80
                                  obtain rfl := Option.some.inj H
                                  have p195 : 0 ≤ (x112_4 : Int) := of_decide_eq_true (by first | (with_reducible assumption) | assumption)
                                  have q195 : x112_4 < (t183.length : Int) := of_decide_eq_true (by first | (with_reducible assumption) | assumption)
                                  obtain ⟨ad195, e195, hx195_0⟩ := Kd.at_int (Kd.R_reads' HO_5.out).2.2 x112_4 p195 q195
                                  cases e195
                                  replace p195 := eq_true p195
                                  replace q195 := eq_true q195
                                  obtain ⟨Ao81, co81, eo81⟩ := Kd.R_slice HO_10.out
                                  subst eo81
                                  have p196 : 0 ≤ (x112_4 : Int) := of_decide_eq_true (by first | (with_reducible assumption) | assumption)
                                  have q196 : x112_4 < (t189.length : Int) := of_decide_eq_true (by first | (with_reducible assumption) | assumption)
                                  obtain ⟨ad196, e196, hx196_0⟩ := Kd.at_int (Kd.R_reads' HO_10.out).2.2 x112_4 p196 q196
                                  cases e196
                                  replace p196 := eq_true p196
                                  replace q196 := eq_true q196
                                  go_wp2
                                  repeat (go_quiet (fail); try go_wp2)
                                  go_ret
                                  exact ⟨by first | rfl | (simp [errW_none, errW_some] <;> rfl) | (simp [*, errW_none, errW_some] <;> rfl), by repeat (first | (with_reducible first | exact HB.out | apply below_alloc | apply pw_below_drewN | apply below_drew1 | refine below_set ?_ GE182.out | refine below_set ?_ GE188.out) | exact HB.out)⟩
                                · rw [if_neg c80] at H
                                  have c80b0 : (false != ((rd t183 x112_4) != (rd t189 x112_4))) = false := by simpa using c80
                                  (try (have c80b1 : decide (false = ((rd t183 x112_4) != (rd t189 x112_4))) = true := by simpa using c80))
                                  (try (have c80b2 : (false == ((rd t183 x112_4) != (rd t189 x112_4))) = true := by simpa using c80))
                                  clear c80
                                  have H' := Aside0.mk H
                                  clear H
                                  have p195 : 0 ≤ (x112_4 : Int) := of_decide_eq_true (by first | (with_reducible assumption) | assumption)
                                  have q195 : x112_4 < (t183.length : Int) := of_decide_eq_true (by first | (with_reducible assumption) | assumption)
                                  obtain ⟨ad195, e195, hx195_0⟩ := Kd.at_int (Kd.R_reads' HO_5.out).2.2 x112_4 p195 q195
                                  cases e195
                                  replace p195 := eq_true p195
                                  replace q195 := eq_true q195
                                  obtain ⟨Ao82, co82, eo82⟩ := Kd.R_slice HO_10.out
                                  subst eo82
                                  have p196 : 0 ≤ (x112_4 : Int) := of_decide_eq_true (by first | (with_reducible assumption) | assumption)
                                  have q196 : x112_4 < (t189.length : Int) := of_decide_eq_true (by first | (with_reducible assumption) | assumption)
                                  obtain ⟨ad196, e196, hx196_0⟩ := Kd.at_int (Kd.R_reads' HO_10.out).2.2 x112_4 p196 q196
                                  cases e196
                                  replace p196 := eq_true p196
                                  replace q196 := eq_true q196
                                  go_wp2
                                  repeat (go_quiet (fail); try go_wp2)
                                  go_roundg k4
                                  case measure => have := HJ3.out; have := HJ14.out; have := HJ60.out; have := HK4.out; omega
                                  case rel => exact ⟨(wrap64 (x112_4 + 1)), (by first | rfl | (simp; done) | (simp [*]; done)), H', ⟨by have := HJ3.out; have := HJ14.out; have := HJ60.out; have := HK4.out; omega⟩, ⟨by (with_reducible repeat (first | apply Kd.R_alloc | apply Kd.R_drewN | apply Kd.R_drew)); exact HO_5.out⟩, ⟨by (with_reducible repeat (first | apply Kd.R_alloc | apply Kd.R_drewN | apply Kd.R_drew)); exact HO_10.out⟩, ⟨by (with_reducible repeat (first | refine blk_drewN ?_ _ | refine blk_drew ?_ | refine blk_alloc ?_ _)); exact BK182.out⟩, ⟨by (with_reducible repeat (first | refine blk_drewN ?_ _ | refine blk_drew ?_ | refine blk_alloc ?_ _)); exact BK188.out⟩, ⟨by repeat (first | (with_reducible first | exact HB.out | apply below_alloc | apply pw_below_drewN | apply below_drew1 | refine below_set ?_ GE182.out | refine below_set ?_ GE188.out) | exact HB.out)⟩⟩
                              · rw [if_neg c79] at H
                                exact absurd H (by simp)
                            · rw [if_neg c78] at H
                              exact absurd H (by simp)
                          · rw [if_neg c77] at H
                            exact absurd H (by simp)
                      · rw [if_neg c69] at H
                        have c69b0 : decide (x112_4 < (t183.length : Int)) = false := decide_eq_false c69
                        clear c69
                        replace H := Option.bind_eq_some_iff.mp H
                        obtain ⟨t197, A830, H⟩ := H
                        replace H : (some t197) = some r := H
                        have A83 := Aside0.mk A830
                        clear A830
                        obtain rfl := Option.some.inj H
                        go_wp2_with (first | (go_at_call 12; (with_reducible refine (chronobatelaw03_alive.calls k4  t197 _ A83.out).mono ?_); rintro e w84 ⟨rfl, hb⟩; have n0_ := Aside0.mk (Kd.R_below (by (with_reducible repeat (first | apply Kd.R_alloc | apply Kd.R_drewN | apply Kd.R_drew)); exact HO_5.out) hb); have n1_ := Aside0.mk (Kd.R_below (by (with_reducible repeat (first | apply Kd.R_alloc | apply Kd.R_drewN | apply Kd.R_drew)); exact HO_10.out) hb); have n2_ := Aside0.mk (blk_below (g := gb182) (o := .cells #[.int .u8 a0_0, .int .u8 a0_1, .int .u8 a0_2, .int .u8 a0_3, .int .i8 a0_4, .int .i8 a0_5, .int .u32 a0_6, .int .u32 a0_7, .int .u32 a0_8, .int .u64 a0_9, .int .u64 a0_10, .int .u64 a0_11, .int .u64 a0_12] 26 (0, 0)) (by (with_reducible repeat (first | refine blk_drewN ?_ _ | refine blk_drew ?_ | refine blk_alloc ?_ _)); exact BK182.out) hb); have n3_ := Aside0.mk (blk_below (g := gb188) (o := .cells #[.int .u8 x189000_14, .int .u8 x189001_14, .int .u8 x189002_14, .int .u8 x189003_14, .int .i8 x189004_14, .int .i8 x189005_14, .int .u32 x189006_14, .int .u32 x189007_14, .int .u32 x189008_14, .int .u64 a0_9, .int .u64 x189010_14, .int .u64 a0_11, .int .u64 x189012_14] 26 (0, 0)) (by (with_reducible repeat (first | refine blk_drewN ?_ _ | refine blk_drew ?_ | refine blk_alloc ?_ _)); exact BK188.out) hb); have n4_ := Aside0.mk (below_step (by repeat (first | (with_reducible first | exact HB.out | apply below_alloc | apply pw_below_drewN | apply below_drew1 | refine below_set ?_ GE182.out | refine below_set ?_ GE188.out) | exact HB.out)) hb); clear HO_5; clear HO_10; clear BK182; clear BK188; clear HB; have HO_5 := n0_; have HO_10 := n1_; have BK182 := n2_; have BK188 := n3_; have HB := n4_; clear n0_ n1_ n2_ n3_ n4_; (try clear hb); (try clear hb2); (try clear hk); (try clear hi)))
                        repeat (go_quiet (first | (go_at_call 12; (with_reducible refine (chronobatelaw03_alive.calls k4  t197 _ A83.out).mono ?_); rintro e w84 ⟨rfl, hb⟩; have n0_ := Aside0.mk (Kd.R_below (by (with_reducible repeat (first | apply Kd.R_alloc | apply Kd.R_drewN | apply Kd.R_drew)); exact HO_5.out) hb); have n1_ := Aside0.mk (Kd.R_below (by (with_reducible repeat (first | apply Kd.R_alloc | apply Kd.R_drewN | apply Kd.R_drew)); exact HO_10.out) hb); have n2_ := Aside0.mk (blk_below (g := gb182) (o := .cells #[.int .u8 a0_0, .int .u8 a0_1, .int .u8 a0_2, .int .u8 a0_3, .int .i8 a0_4, .int .i8 a0_5, .int .u32 a0_6, .int .u32 a0_7, .int .u32 a0_8, .int .u64 a0_9, .int .u64 a0_10, .int .u64 a0_11, .int .u64 a0_12] 26 (0, 0)) (by (with_reducible repeat (first | refine blk_drewN ?_ _ | refine blk_drew ?_ | refine blk_alloc ?_ _)); exact BK182.out) hb); have n3_ := Aside0.mk (blk_below (g := gb188) (o := .cells #[.int .u8 x189000_14, .int .u8 x189001_14, .int .u8 x189002_14, .int .u8 x189003_14, .int .i8 x189004_14, .int .i8 x189005_14, .int .u32 x189006_14, .int .u32 x189007_14, .int .u32 x189008_14, .int .u64 a0_9, .int .u64 x189010_14, .int .u64 a0_11, .int .u64 x189012_14] 26 (0, 0)) (by (with_reducible repeat (first | refine blk_drewN ?_ _ | refine blk_drew ?_ | refine blk_alloc ?_ _)); exact BK188.out) hb); have n4_ := Aside0.mk (below_step (by repeat (first | (with_reducible first | exact HB.out | apply below_alloc | apply pw_below_drewN | apply below_drew1 | refine below_set ?_ GE182.out | refine below_set ?_ GE188.out) | exact HB.out)) hb); clear HO_5; clear HO_10; clear BK182; clear BK188; clear HB; have HO_5 := n0_; have HO_10 := n1_; have BK182 := n2_; have BK188 := n3_; have HB := n4_; clear n0_ n1_ n2_ n3_ n4_; (try clear hb); (try clear hb2); (try clear hk); (try clear hi))); try go_wp2_with (first | (go_at_call 12; (with_reducible refine (chronobatelaw03_alive.calls k4  t197 _ A83.out).mono ?_); rintro e w84 ⟨rfl, hb⟩; have n0_ := Aside0.mk (Kd.R_below (by (with_reducible repeat (first | apply Kd.R_alloc | apply Kd.R_drewN | apply Kd.R_drew)); exact HO_5.out) hb); have n1_ := Aside0.mk (Kd.R_below (by (with_reducible repeat (first | apply Kd.R_alloc | apply Kd.R_drewN | apply Kd.R_drew)); exact HO_10.out) hb); have n2_ := Aside0.mk (blk_below (g := gb182) (o := .cells #[.int .u8 a0_0, .int .u8 a0_1, .int .u8 a0_2, .int .u8 a0_3, .int .i8 a0_4, .int .i8 a0_5, .int .u32 a0_6, .int .u32 a0_7, .int .u32 a0_8, .int .u64 a0_9, .int .u64 a0_10, .int .u64 a0_11, .int .u64 a0_12] 26 (0, 0)) (by (with_reducible repeat (first | refine blk_drewN ?_ _ | refine blk_drew ?_ | refine blk_alloc ?_ _)); exact BK182.out) hb); have n3_ := Aside0.mk (blk_below (g := gb188) (o := .cells #[.int .u8 x189000_14, .int .u8 x189001_14, .int .u8 x189002_14, .int .u8 x189003_14, .int .i8 x189004_14, .int .i8 x189005_14, .int .u32 x189006_14, .int .u32 x189007_14, .int .u32 x189008_14, .int .u64 a0_9, .int .u64 x189010_14, .int .u64 a0_11, .int .u64 x189012_14] 26 (0, 0)) (by (with_reducible repeat (first | refine blk_drewN ?_ _ | refine blk_drew ?_ | refine blk_alloc ?_ _)); exact BK188.out) hb); have n4_ := Aside0.mk (below_step (by repeat (first | (with_reducible first | exact HB.out | apply below_alloc | apply pw_below_drewN | apply below_drew1 | refine below_set ?_ GE182.out | refine below_set ?_ GE188.out) | exact HB.out)) hb); clear HO_5; clear HO_10; clear BK182; clear BK188; clear HB; have HO_5 := n0_; have HO_10 := n1_; have BK182 := n2_; have BK188 := n3_; have HB := n4_; clear n0_ n1_ n2_ n3_ n4_; (try clear hb); (try clear hb2); (try clear hk); (try clear hi))))
                        go_ret
                        exact ⟨by first | rfl | (simp [errW_none, errW_some] <;> rfl) | (simp [*, errW_none, errW_some] <;> rfl), by repeat (first | (with_reducible first | exact HB.out | apply below_alloc | apply pw_below_drewN | apply below_drew1 | refine below_set ?_ GE182.out | refine below_set ?_ GE188.out) | exact HB.out)⟩

end Go.Proofs.Ytingjmdilglgaaa.G
