/- The walk of 'PacketCookies', by hand: two queries, their cuts, the strings made of these. No conditions. -/
import Derived.Test.YtingjmdilglgaaaGx2
import Derived.Test.YtingjmdilglgaaaGx3
import Derived.Outline
namespace Go.Proofs.Ytingjmdilglgaaa.G
open Go.RowKit Go.Proofs.YtingjmdilglgaaaW.PrintWords Go.Proofs.YtingjmdilglgaaaW.PrintLast Go.Proofs.YtingjmdilglgaaaW.PrintMore
set_option linter.unusedVariables false
set_option linter.unusedSimpArgs false
/-- It answers true, if these hold; else nothing is said. -/
def chronobatelaw03_PacketCookies.f (k : Nat) (a b : Int) : Option Bool := (packet_Query.f k a).bind fun x => (packet_Query.f k b).bind fun y => (chronobatelaw03_alive.f k).bind fun t => if x.length = 48 ∧ y.length = 48 ∧ t = true ∧ ((strOfNums (x.take 40)).toList == (strOfNums (y.take 40)).toList) = true ∧ (((strOfNums (x.drop 40)).toList == (strOfNums (y.drop 40)).toList) == (a == b)) = true then some true else none
def chronobatelaw03_PacketCookies.T4 : Bool × List (List Nat × List Nat) := (true, [([], []), ([0, 0], [0]), ([1], [1]), ([2, 1], [1, 2]), ([3, 1], [1, 3]), ([1], [1]), ([5, 1], [1, 5]), ([6, 1], [1, 6]), ([4, 7, 1], [1, 4, 7]), ([1, 8], [1, 8]), ([9, 1], [9]), ([10], [10]), ([11, 10], [10, 11]), ([12, 10], [10, 12]), ([10], [10]), ([14, 10], [10, 14]), ([15, 10], [10, 15]), ([13, 16, 10], [10, 13, 16]), ([10], [10]), ([10], [10]), ([18, 19, 10], [10, 18, 19]), ([17, 20, 10], [10, 17, 20]), ([10, 21], [10, 21]), ([22, 10, 0, 1, 2, 3, 4, 5, 6, 7, 8, 9, 10, 11, 12, 13, 14, 15, 16, 17, 18, 19, 20, 21, 22], [22])])
def chronobatelaw03_PacketCookies.B4 : List Nat := [0, 1, 3, 7, 15, 3, 35, 99, 255, 511, 1023, 2047, 4095, 8191, 2047, 18431, 51199, 131071, 2047, 2047, 788479, 2097151, 4194303, 8388607]
theorem chronobatelaw03_PacketCookies.tab4 : rtab .any (opsOf Try.f5 4) = chronobatelaw03_PacketCookies.T4 := by kernel_rfl
theorem chronobatelaw03_PacketCookies.bits4 : waitsOk chronobatelaw03_PacketCookies.T4.2 chronobatelaw03_PacketCookies.B4 = true := by kernel_rfl
theorem chronobatelaw03_PacketCookies.cut (A : Option Addr) (c : Nat) (x : List Int) (w : World) (hC : Kd.C (Kd.int .u8) w A x.length x) (hc : x.length ≤ c) (hl : x.length = 48) :
    ∃ A' : Option Addr, (∀ W : World, (Instr.slice 27 (.slice A 48 c) none (some (.int .i64 40)) none).run Try.prog W = .ok (.slice A 40 c) W) ∧
      (∀ W : World, (Instr.slice 27 (.slice A 48 c) (some (.int .i64 40)) none none).run Try.prog W = .ok (.slice A' 8 (c - 40)) W) ∧
      ∀ W : World, Below w.heap.size w W → (convert 27 9 (.slice A 40 c)).run Try.prog W = .ok (.string (strOfNums (x.take 40))) W ∧ (convert 27 9 (.slice A' 8 (c - 40))).run Try.prog W = .ok (.string (strOfNums (x.drop 40))) W := by
  obtain ⟨i0, hi0, _, hsz, _⟩ := info_parts info5
  obtain ⟨t1, t2, t3⟩ := print_take_of (P := Try.prog) (Value.int .u8) 0 27 5 .i64 Try.underlying27 hi0 hsz A c x 40 (by omega) (by omega) hc
  obtain ⟨A', d1, d2, d3⟩ := print_drop_of (P := Try.prog) (Value.int .u8) 0 27 5 .i64 Try.underlying27 hi0 hsz A c x 40 (by omega) (by omega) hc
  have e40 : (40 : Int).toNat = 40 := rfl
  have l1 : (x.take 40).length = 40 := by rw [List.length_take]; omega
  have l2 : (x.drop 40).length = 8 := by rw [List.length_drop]; omega
  rw [e40, l1] at t1 t2
  rw [e40, l2] at d1 d2
  rw [hl] at t1 d1 t2 d2
  rw [hl] at hC
  refine ⟨A', t1, d1, fun W hW => ⟨?_, ?_⟩⟩
  · exact Kd.C_string Try.underlying27 Try.underlying5 Try.underlying9 (Kd.C_below (Kd.C_of_reads (h1 := fun _ => rfl) (t2 w (Kd.reads_of_C hC))) hW)
  · exact Kd.C_string Try.underlying27 Try.underlying5 Try.underlying9 (Kd.C_below (Kd.C_of_reads (h1 := fun _ => rfl) (d2 w (Kd.reads_of_C hC))) hW)
set_option maxHeartbeats 8000000 in
set_option maxRecDepth 100000 in
theorem chronobatelaw03_PacketCookies.calls (k : Nat) (a b : Int) (r : Bool) (w : World) (h : chronobatelaw03_PacketCookies.f k a b = some r) :
    Calls Try.prog 5 #[.int .u64 a, .int .u64 b] w fun e w' => e = .returned (.bool r) ∧ Below w.heap.size w w' := by
  unfold chronobatelaw03_PacketCookies.f at h
  obtain ⟨x, hx, h'⟩ := Option.bind_eq_some_iff.mp h
  obtain ⟨y, hy, h''⟩ := Option.bind_eq_some_iff.mp h'
  obtain ⟨t, ha, h'''⟩ := Option.bind_eq_some_iff.mp h''
  clear h h' h''
  by_cases hc : x.length = 48 ∧ y.length = 48 ∧ t = true ∧ ((strOfNums (x.take 40)).toList == (strOfNums (y.take 40)).toList) = true ∧ (((strOfNums (x.drop 40)).toList == (strOfNums (y.drop 40)).toList) == (a == b)) = true
  · rw [if_pos hc] at h'''
    obtain rfl := Option.some.inj h'''
    clear h'''
    obtain ⟨lx, ly, rfl, E1, E2⟩ := hc
    replace hx := Aside0.mk hx
    replace hy := Aside0.mk hy
    replace ha := Aside0.mk ha
    replace lx := Aside0.mk lx
    replace ly := Aside0.mk ly
    go_enter Try.func5, Try.ntmps5
    go_wp2_with fail
    refine (packet_Query.calls k a x _ hx.out).mono ?_
    rintro e w1 ⟨v0, rfl, HR1, HB1⟩
    obtain ⟨A1, c1, rfl, hc1, hC1⟩ := Kd.R_reads HR1
    rw [show x.length = 48 from lx.out]
    replace HB1 := Aside0.mk HB1
    replace hC1 := Aside0.mk hC1
    replace hc1 := Aside0.mk hc1
    clear HR1
    go_wp2_with fail
    refine (packet_Query.calls k b y _ hy.out).mono ?_
    rintro e w2 ⟨v1, rfl, HR2, HB2⟩
    obtain ⟨A2, c2, rfl, hc2, hC2⟩ := Kd.R_reads HR2
    rw [show y.length = 48 from ly.out]
    have hC1' := Kd.C_below hC1.out HB2
    have HBa := Aside0.mk (below_step HB1.out HB2)
    obtain ⟨D1, s1, s2, s3⟩ := chronobatelaw03_PacketCookies.cut A1 c1 x w2 hC1' hc1.out lx.out
    obtain ⟨D2, s4, s5, s6⟩ := chronobatelaw03_PacketCookies.cut A2 c2 y w2 hC2 hc2 ly.out
    have U1 : ∀ W : World, (Instr.slice 27 (.slice A1 48 c1) none (some (.int .i64 40)) none).run Try.prog W = .ok (.slice A1 40 c1) W := s1
    have U2 : ∀ W : World, (Instr.slice 27 (.slice A1 48 c1) (some (.int .i64 40)) none none).run Try.prog W = .ok (.slice D1 8 (c1 - 40)) W := s2
    have U3 : ∀ W : World, (Instr.slice 27 (.slice A2 48 c2) none (some (.int .i64 40)) none).run Try.prog W = .ok (.slice A2 40 c2) W := s4
    have U4 : ∀ W : World, (Instr.slice 27 (.slice A2 48 c2) (some (.int .i64 40)) none none).run Try.prog W = .ok (.slice D2 8 (c2 - 40)) W := s5
    have SS := Aside0.mk (fun (W : World) (hW : Below w2.heap.size w2 W) => show (convert 27 9 (.slice A1 40 c1)).run Try.prog W = .ok (.string (strOfNums (x.take 40))) W ∧ (convert 27 9 (.slice A2 40 c2)).run Try.prog W = .ok (.string (strOfNums (y.take 40))) W ∧ (convert 27 9 (.slice D1 8 (c1 - 40))).run Try.prog W = .ok (.string (strOfNums (x.drop 40))) W ∧ (convert 27 9 (.slice D2 8 (c2 - 40))).run Try.prog W = .ok (.string (strOfNums (y.drop 40))) W from ⟨(s3 W hW).1, (s6 W hW).1, (s3 W hW).2, (s6 W hW).2⟩)
    clear s1 s2 s3 s4 s5 s6 hC1 hC1' hC2 HB1 HB2 HR2 hx hy lx ly hc1 hc2
    go_wp2_with fail
    refine start_ (n := 24) (S := fun w' => (convert 27 9 (.slice A1 40 c1)).run Try.prog w' = .ok (.string (strOfNums (x.take 40))) w' ∧ (convert 27 9 (.slice A2 40 c2)).run Try.prog w' = .ok (.string (strOfNums (y.take 40))) w' ∧ (convert 27 9 (.slice D1 8 (c1 - 40))).run Try.prog w' = .ok (.string (strOfNums (x.drop 40))) w' ∧ (convert 27 9 (.slice D2 8 (c2 - 40))).run Try.prog w' = .ok (.string (strOfNums (y.drop 40))) w') (ds := []) #[false, false, false, false, false, false, false, false, false, false, false, false, false, false, false, false, false, false, false, false, false, false, false, false] (by kernel_rfl) rfl rfl (SS.out _ (below_drew (Below.refl _ _))) (fun hHeld => ?_)
    refine with_tabW chronobatelaw03_PacketCookies.tab4 chronobatelaw03_PacketCookies.bits4 (fun HT_ HW_ => ?_)
    have HBd := Aside0.mk (below_drew (Below.refl w2.heap.size w2))
    generalize w2.drew = w3 at HBd hHeld ⊢
    refine one_ (i := 0) (N := some 19) #[true, false, false, false, false, false, false, false, false, false, false, false, false, false, false, false, false, false, false, false, false, false, false, false] rfl rfl (one_of HT_.out (by kernel_rfl)) (by decide) (fun K hK => ?_)
    refine goes_ Try.func12 (by kernel_rfl) rfl #[] (by rfl) rfl rfl (by (try simp only [List.map_toArray, List.map_cons, List.map_nil]); first | done | rfl) ?_
    with_reducible refine (chronobatelaw03_alive.calls k true _ ha.out).mono ?_
    rintro e w4 ⟨rfl, hb⟩
    refine ⟨_, rfl, ?_⟩
    have HBe := Aside0.mk (below_step HBd.out hb)
    clear HBd hb hHeld
    refine hK.out _ _ (SS.out _ HBe.out) (fun hHeld => ?_)
    clear hK K
    refine norm_ (a' := ?_) ?_ ?_
    rotate_left
    · show Act.put _ (some 19) _ = _
      simp only [Act.put, List.setIfInBounds_toArray, List.set_cons_zero, List.set_cons_succ, i64_w, i32_w]
      rfl
    refine pure_ (i := 1) (N := some 20) (v := ?_) (a' := ?_) #[true, true, false, false, false, false, false, false, false, false, false, false, false, false, false, false, false, false, false, false, false, false, false, false] rfl rfl (any_of HT_.out (by kernel_rfl)) (fun _ _ _ h => h) (Or.inl ⟨by rfl, ?_⟩) ?_ ?_
    rotate_left
    · intro w'
      go_simp
      with_reducible rfl
    rotate_left
    · simp only [Act.put, List.setIfInBounds_toArray, List.set_cons_zero, List.set_cons_succ, i64_w, i32_w]
      rfl
    refine pure_ (i := 2) (N := some 21) (v := ?_) (a' := ?_) #[true, true, true, false, false, false, false, false, false, false, false, false, false, false, false, false, false, false, false, false, false, false, false, false] rfl rfl (any_of HT_.out (by kernel_rfl)) (fun _ _ _ h => h) (Or.inl ⟨by rfl, ?_⟩) ?_ ?_
    rotate_left
    · intro w'
      go_simp
      with_reducible rfl
    rotate_left
    · simp only [Act.put, List.setIfInBounds_toArray, List.set_cons_zero, List.set_cons_succ, i64_w, i32_w]
      rfl
    refine pure_ (i := 3) (N := some 22) (v := ?_) (a' := ?_) #[true, true, true, true, false, false, false, false, false, false, false, false, false, false, false, false, false, false, false, false, false, false, false, false] rfl rfl (any_of HT_.out (by kernel_rfl)) (fun _ _ _ h => h) (Or.inl ⟨by rfl, ?_⟩) ?_ ?_
    rotate_left
    · intro w'
      go_simp
      with_reducible rfl
    rotate_left
    · simp only [Act.put, List.setIfInBounds_toArray, List.set_cons_zero, List.set_cons_succ, i64_w, i32_w]
      rfl
    refine take_ (i := 4) (N := some 23) (v := ?_) (a' := ?_) #[true, true, true, true, true, false, false, false, false, false, false, false, false, false, false, false, false, false, false, false, false, false, false, false] rfl rfl (take_ofW HT_.out HW_.out (by kernel_rfl)) (fun _ _ _ h => h) (Or.inl ⟨by rfl, ?_⟩) hHeld ?_ ?_
    rotate_left
    · rintro w' ⟨s0, s1, s2, s3⟩
      go_simp
      with_reducible rfl
    rotate_left
    · simp only [Act.put, List.setIfInBounds_toArray, List.set_cons_zero, List.set_cons_succ, i64_w, i32_w]
      rfl
    refine pure_ (i := 5) (N := some 24) (v := ?_) (a' := ?_) #[true, true, true, true, true, true, false, false, false, false, false, false, false, false, false, false, false, false, false, false, false, false, false, false] rfl rfl (any_of HT_.out (by kernel_rfl)) (fun _ _ _ h => h) (Or.inl ⟨by rfl, ?_⟩) ?_ ?_
    rotate_left
    · intro w'
      go_simp
      with_reducible rfl
    rotate_left
    · simp only [Act.put, List.setIfInBounds_toArray, List.set_cons_zero, List.set_cons_succ, i64_w, i32_w]
      rfl
    refine pure_ (i := 6) (N := some 25) (v := ?_) (a' := ?_) #[true, true, true, true, true, true, true, false, false, false, false, false, false, false, false, false, false, false, false, false, false, false, false, false] rfl rfl (any_of HT_.out (by kernel_rfl)) (fun _ _ _ h => h) (Or.inl ⟨by rfl, ?_⟩) ?_ ?_
    rotate_left
    · intro w'
      go_simp
      with_reducible rfl
    rotate_left
    · simp only [Act.put, List.setIfInBounds_toArray, List.set_cons_zero, List.set_cons_succ, i64_w, i32_w]
      rfl
    refine take_ (i := 7) (N := some 26) (v := ?_) (a' := ?_) #[true, true, true, true, true, true, true, true, false, false, false, false, false, false, false, false, false, false, false, false, false, false, false, false] rfl rfl (take_ofW HT_.out HW_.out (by kernel_rfl)) (fun _ _ _ h => h) (Or.inl ⟨by rfl, ?_⟩) hHeld ?_ ?_
    rotate_left
    · rintro w' ⟨s0, s1, s2, s3⟩
      go_simp
      with_reducible rfl
    rotate_left
    · simp only [Act.put, List.setIfInBounds_toArray, List.set_cons_zero, List.set_cons_succ, i64_w, i32_w]
      rfl
    refine pure_ (i := 8) (N := some 27) (v := ?_) (a' := ?_) #[true, true, true, true, true, true, true, true, true, false, false, false, false, false, false, false, false, false, false, false, false, false, false, false] rfl rfl (any_of HT_.out (by kernel_rfl)) (fun _ _ _ h => h) (Or.inl ⟨by rfl, ?_⟩) ?_ ?_
    rotate_left
    · intro w'
      go_simp
      with_reducible rfl
    rotate_left
    · simp only [Act.put, List.setIfInBounds_toArray, List.set_cons_zero, List.set_cons_succ, i64_w, i32_w]
      rfl
    refine pure_ (i := 9) (N := some 28) (v := ?_) (a' := ?_) #[true, true, true, true, true, true, true, true, true, true, false, false, false, false, false, false, false, false, false, false, false, false, false, false] rfl rfl (any_of HT_.out (by kernel_rfl)) (fun _ _ _ h => h) (Or.inl ⟨by rfl, ?_⟩) ?_ ?_
    rotate_left
    · intro w'
      go_simp
      with_reducible rfl
    rotate_left
    · simp only [Act.put, List.setIfInBounds_toArray, List.set_cons_zero, List.set_cons_succ, i64_w, i32_w]
      rfl
    refine pure_ (i := 10) (N := some 29) (v := ?_) (a' := ?_) #[true, true, true, true, true, true, true, true, true, true, true, false, false, false, false, false, false, false, false, false, false, false, false, false] rfl rfl (any_of HT_.out (by kernel_rfl)) (fun _ _ _ h => h) (Or.inl ⟨by rfl, ?_⟩) ?_ ?_
    rotate_left
    · intro w'
      go_simp
      with_reducible rfl
    rotate_left
    · simp only [Act.put, List.setIfInBounds_toArray, List.set_cons_zero, List.set_cons_succ, i64_w, i32_w]
      rfl
    refine pure_ (i := 11) (N := some 30) (v := ?_) (a' := ?_) #[true, true, true, true, true, true, true, true, true, true, true, true, false, false, false, false, false, false, false, false, false, false, false, false] rfl rfl (any_of HT_.out (by kernel_rfl)) (fun _ _ _ h => h) (Or.inl ⟨by rfl, ?_⟩) ?_ ?_
    rotate_left
    · intro w'
      go_simp
      with_reducible rfl
    rotate_left
    · simp only [Act.put, List.setIfInBounds_toArray, List.set_cons_zero, List.set_cons_succ, i64_w, i32_w]
      rfl
    refine pure_ (i := 12) (N := some 31) (v := ?_) (a' := ?_) #[true, true, true, true, true, true, true, true, true, true, true, true, true, false, false, false, false, false, false, false, false, false, false, false] rfl rfl (any_of HT_.out (by kernel_rfl)) (fun _ _ _ h => h) (Or.inl ⟨by rfl, ?_⟩) ?_ ?_
    rotate_left
    · intro w'
      go_simp
      with_reducible rfl
    rotate_left
    · simp only [Act.put, List.setIfInBounds_toArray, List.set_cons_zero, List.set_cons_succ, i64_w, i32_w]
      rfl
    refine take_ (i := 13) (N := some 32) (v := ?_) (a' := ?_) #[true, true, true, true, true, true, true, true, true, true, true, true, true, true, false, false, false, false, false, false, false, false, false, false] rfl rfl (take_ofW HT_.out HW_.out (by kernel_rfl)) (fun _ _ _ h => h) (Or.inl ⟨by rfl, ?_⟩) hHeld ?_ ?_
    rotate_left
    · rintro w' ⟨s0, s1, s2, s3⟩
      go_simp
      with_reducible rfl
    rotate_left
    · simp only [Act.put, List.setIfInBounds_toArray, List.set_cons_zero, List.set_cons_succ, i64_w, i32_w]
      rfl
    refine pure_ (i := 14) (N := some 33) (v := ?_) (a' := ?_) #[true, true, true, true, true, true, true, true, true, true, true, true, true, true, true, false, false, false, false, false, false, false, false, false] rfl rfl (any_of HT_.out (by kernel_rfl)) (fun _ _ _ h => h) (Or.inl ⟨by rfl, ?_⟩) ?_ ?_
    rotate_left
    · intro w'
      go_simp
      with_reducible rfl
    rotate_left
    · simp only [Act.put, List.setIfInBounds_toArray, List.set_cons_zero, List.set_cons_succ, i64_w, i32_w]
      rfl
    refine pure_ (i := 15) (N := some 34) (v := ?_) (a' := ?_) #[true, true, true, true, true, true, true, true, true, true, true, true, true, true, true, true, false, false, false, false, false, false, false, false] rfl rfl (any_of HT_.out (by kernel_rfl)) (fun _ _ _ h => h) (Or.inl ⟨by rfl, ?_⟩) ?_ ?_
    rotate_left
    · intro w'
      go_simp
      with_reducible rfl
    rotate_left
    · simp only [Act.put, List.setIfInBounds_toArray, List.set_cons_zero, List.set_cons_succ, i64_w, i32_w]
      rfl
    refine take_ (i := 16) (N := some 35) (v := ?_) (a' := ?_) #[true, true, true, true, true, true, true, true, true, true, true, true, true, true, true, true, true, false, false, false, false, false, false, false] rfl rfl (take_ofW HT_.out HW_.out (by kernel_rfl)) (fun _ _ _ h => h) (Or.inl ⟨by rfl, ?_⟩) hHeld ?_ ?_
    rotate_left
    · rintro w' ⟨s0, s1, s2, s3⟩
      go_simp
      with_reducible rfl
    rotate_left
    · simp only [Act.put, List.setIfInBounds_toArray, List.set_cons_zero, List.set_cons_succ, i64_w, i32_w]
      rfl
    refine pure_ (i := 17) (N := some 36) (v := ?_) (a' := ?_) #[true, true, true, true, true, true, true, true, true, true, true, true, true, true, true, true, true, true, false, false, false, false, false, false] rfl rfl (any_of HT_.out (by kernel_rfl)) (fun _ _ _ h => h) (Or.inl ⟨by rfl, ?_⟩) ?_ ?_
    rotate_left
    · intro w'
      go_simp
      with_reducible rfl
    rotate_left
    · simp only [Act.put, List.setIfInBounds_toArray, List.set_cons_zero, List.set_cons_succ, i64_w, i32_w]
      rfl
    refine pure_ (i := 18) (N := some 37) (v := ?_) (a' := ?_) #[true, true, true, true, true, true, true, true, true, true, true, true, true, true, true, true, true, true, true, false, false, false, false, false] rfl rfl (any_of HT_.out (by kernel_rfl)) (fun _ _ _ h => h) (Or.inl ⟨by rfl, ?_⟩) ?_ ?_
    rotate_left
    · intro w'
      go_simp
      with_reducible rfl
    rotate_left
    · simp only [Act.put, List.setIfInBounds_toArray, List.set_cons_zero, List.set_cons_succ, i64_w, i32_w]
      rfl
    refine pure_ (i := 19) (N := some 38) (v := ?_) (a' := ?_) #[true, true, true, true, true, true, true, true, true, true, true, true, true, true, true, true, true, true, true, true, false, false, false, false] rfl rfl (any_of HT_.out (by kernel_rfl)) (fun _ _ _ h => h) (Or.inl ⟨by rfl, ?_⟩) ?_ ?_
    rotate_left
    · intro w'
      go_simp
      with_reducible rfl
    rotate_left
    · simp only [Act.put, List.setIfInBounds_toArray, List.set_cons_zero, List.set_cons_succ, i64_w, i32_w]
      rfl
    refine pure_ (i := 20) (N := some 39) (v := ?_) (a' := ?_) #[true, true, true, true, true, true, true, true, true, true, true, true, true, true, true, true, true, true, true, true, true, false, false, false] rfl rfl (any_of HT_.out (by kernel_rfl)) (fun _ _ _ h => h) (Or.inl ⟨by rfl, ?_⟩) ?_ ?_
    rotate_left
    · intro w'
      go_simp
      with_reducible rfl
    rotate_left
    · simp only [Act.put, List.setIfInBounds_toArray, List.set_cons_zero, List.set_cons_succ, i64_w, i32_w]
      rfl
    refine pure_ (i := 21) (N := some 40) (v := ?_) (a' := ?_) #[true, true, true, true, true, true, true, true, true, true, true, true, true, true, true, true, true, true, true, true, true, true, false, false] rfl rfl (any_of HT_.out (by kernel_rfl)) (fun _ _ _ h => h) (Or.inl ⟨by rfl, ?_⟩) ?_ ?_
    rotate_left
    · intro w'
      go_simp
      with_reducible rfl
    rotate_left
    · simp only [Act.put, List.setIfInBounds_toArray, List.set_cons_zero, List.set_cons_succ, i64_w, i32_w]
      rfl
    refine pure_ (i := 22) (N := some 41) (v := ?_) (a' := ?_) #[true, true, true, true, true, true, true, true, true, true, true, true, true, true, true, true, true, true, true, true, true, true, true, false] rfl rfl (any_of HT_.out (by kernel_rfl)) (fun _ _ _ h => h) (Or.inl ⟨by rfl, ?_⟩) ?_ ?_
    rotate_left
    · intro w'
      go_simp
      with_reducible rfl
    rotate_left
    · simp only [Act.put, List.setIfInBounds_toArray, List.set_cons_zero, List.set_cons_succ, i64_w, i32_w]
      rfl
    refine pure_ (i := 23) (N := some 4) (v := ?_) (a' := ?_) #[true, true, true, true, true, true, true, true, true, true, true, true, true, true, true, true, true, true, true, true, true, true, true, true] rfl rfl (any_of HT_.out (by kernel_rfl)) (fun _ _ _ h => h) (Or.inl ⟨by rfl, ?_⟩) ?_ ?_
    rotate_left
    · intro w'
      go_simp
      with_reducible rfl
    rotate_left
    · simp only [Act.put, List.setIfInBounds_toArray, List.set_cons_zero, List.set_cons_succ, i64_w, i32_w]
      rfl
    refine done_ (done_of HT_.out (by kernel_rfl)) ?_
    try go_wp2
    refine bodyPost_ret (v := .bool true) (by simp [results, Try.results5, go_sem, E1, E2]) rfl ⟨rfl, ?_⟩
    exact below_step HBa.out HBe.out
  · rw [if_neg hc] at h'''
    cases h'''
end Go.Proofs.Ytingjmdilglgaaa.G
