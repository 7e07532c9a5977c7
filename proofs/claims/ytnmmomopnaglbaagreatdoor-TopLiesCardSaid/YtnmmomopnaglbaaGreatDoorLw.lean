/- TopLies, walked. -/
import Derived.Test.YtnmmomopnaglbaaGreatDoorLt
namespace Go.Proofs.YtnmmomopnaglbaaGreatDoor.Lt
open Go.RowKit Go.Shelf Go.Sort Go.Proofs.YtnmmomopnaglbaaGreatDoor
open Go.SX (RelM IsRow)
set_option linter.unusedVariables false
set_option linter.unusedSimpArgs false
/-- The world where the law's two boxes stand. -/
structure At (ha : Option Addr) (m hc : Nat) (k : Int) (w W : World) : Prop where
  bel : Below w.heap.size w W
  cn : W.cell? ⟨w.heap.size + 1, 0, none⟩ = some (.int .i64 k)
  ch : W.cell? ⟨w.heap.size, 0, none⟩ = some (.slice ha m hc)
theorem At.start (ha : Option Addr) (m hc : Nat) (k : Int) (w : World) : At ha m hc k w ((w.alloc (.cells #[.slice ha m hc] 34)).alloc (.cells #[.int .i64 k] 3)) := by
  refine ⟨((Below.refl _ w).alloc (Nat.le_refl _) _).alloc (by simp) _, ?_, ?_⟩
  · have h := heap_alloc_new (w.alloc (.cells #[.slice ha m hc] 34)) (.cells #[.int .i64 k] 3)
    rw [show (w.alloc (.cells #[.slice ha m hc] 34)).heap.size = w.heap.size + 1 by simp] at h
    simp only [World.cell?, h, Option.isSome_none, Bool.false_eq_true, if_false]
    rfl
  · have h := heap_alloc_new w (.cells #[.slice ha m hc] 34)
    have h2 := Below.heap_alloc (w.alloc (.cells #[.slice ha m hc] 34)) (.cells #[.int .i64 k] 3) w.heap.size (by simp)
    simp only [World.cell?, h2, h, Option.isSome_none, Bool.false_eq_true, if_false]
    rfl
theorem At.step {ha : Option Addr} {m hc : Nat} {k : Int} {w W W' : World} (h : At ha m hc k w W) (hb : Below W.heap.size W W') : At ha m hc k w W' :=
  ⟨h.bel.trans (hb.mono h.bel.size), (hb.cell (World.block_lt_of_cell? W _ h.cn)).trans h.cn, (hb.cell (World.block_lt_of_cell? W _ h.ch)).trans h.ch⟩
theorem votesAt {ha : Option Addr} {m hc : Nat} {k : Int} {w W : World} (hA : At ha m hc k w W) (la : Option Addr) (l lc n : Nat) (zs ys : List Int) (hl : IsRow .i64 w la l lc zs) (hh : IsRow .i64 w ha m hc ys) (hk : k = n) (hnl : n ≤ l) (hnm : n < m) (hm : m ≤ 50) :
    Calls Tryz.prog 9 #[.slice la l lc, .pointer (some ⟨w.heap.size + 1, 0, none⟩), .pointer (some ⟨w.heap.size, 0, none⟩)] W fun e w' =>
      ∃ g cap, e = .returned (.slice (some ⟨g, 0, none⟩) (n + m) cap) ∧ w'.ownsRow W.heap.size 50 6 (.slice (some ⟨g, 0, none⟩) (n + m) cap) (n + m) ((zs.take n ++ ys.take m).flatMap Lc.vote) ∧ At ha m hc k w w' := by
  have hn := hA.cn
  rw [hk] at hn
  refine (votes (w.heap.size + 1) w.heap.size la ha l lc m hc n zs ys W (isRow_below hl hA.bel) (isRow_below hh hA.bel) hn hA.ch hnl hnm hm).mono ?_
  rintro e w' ⟨g, cap, h1, h2, h3⟩
  exact ⟨g, cap, h1, h2, hA.step h3⟩
theorem chooseAt {ha : Option Addr} {m hc : Nat} {k : Int} {w W : World} (hA : At ha m hc k w W) (g cap base n : Nat) (q : Int) (zs ys : List Int) (hq : q = (2 * n + 1 : Nat)) (hzl : n ≤ zs.length) (hyl : m ≤ ys.length) (hnm : n < m) (hm : m ≤ 50)
    (hown : W.ownsRow base 50 6 (.slice (some ⟨g, 0, none⟩) (n + m) cap) (n + m) ((zs.take n ++ ys.take m).flatMap Lc.vote)) :
    Calls Tryz.prog 10 #[.int .i64 q, .slice (some ⟨g, 0, none⟩) (n + m) cap] W fun e w' => ∃ z, e = .returned (.tuple #[.int .i64 z, .int .i64 0]) ∧ Aside ((∀ lo, (∀ i, i < m → lo ≤ ys.getD i 0) → lo ≤ z) ∧ ∀ hi, (∀ i, i < m → ys.getD i 0 ≤ hi) → z ≤ hi) ∧ At ha m hc k w w' := by
  subst hq
  have hz : (zs.take n).length = n := by rw [List.length_take]; omega
  have hy : (ys.take m).length = m := by rw [List.length_take]; omega
  have hget : ∀ y ∈ ys.take m, ∃ i, i < m ∧ ys.getD i 0 = y := fun y hy' => by
    obtain ⟨i, hi, rfl⟩ := List.getElem_of_mem hy'
    rw [hy] at hi
    refine ⟨i, hi, ?_⟩
    rw [List.getElem_take, List.getD_eq_getElem?_getD, List.getElem?_eq_getElem (by omega)]
    rfl
  refine (Lu.choose g (n + m) cap (2 * n + 1) base (zs.take n ++ ys.take m) W (by rw [List.length_append, hz, hy]) (by omega) (by omega) (by omega) hown).mono ?_
  rintro e w' ⟨h1, h2⟩
  refine ⟨Lq.mid (zs.take n ++ ys.take m), h1, ⟨fun lo hlo => Lu.mid_ge _ _ (by omega) lo fun y hy' => ?_, fun hi hhi => Lu.mid_le _ _ (by omega) hi fun y hy' => ?_⟩, hA.step h2⟩
  · obtain ⟨i, hi, rfl⟩ := hget y hy'
    exact hlo i hi
  · obtain ⟨i, hi', rfl⟩ := hget y hy'
    exact hhi i hi'
theorem row_len {w : World} {a : Option Addr} {l c n : Nat} {zs : List Int} (h : IsRow .i64 w a l c zs) (hn : n ≤ l) : n ≤ zs.length := by
  rcases h with ⟨_, rfl, _, rfl⟩ | ⟨x, _, h1, _, h2, _⟩
  · simpa using hn
  · omega
set_option maxHeartbeats 40000000 in
set_option maxRecDepth 1000000 in
theorem topLies (ha la oa : Option Addr) (m hc l lc o oc : Nat) (ys zs xs : List Int) (w : World) (hG : G w) (h1 : IsRow .i64 w ha m hc ys) (h2 : IsRow .i64 w la l lc zs) (h3 : IsRow .i64 w oa o oc xs)
    (b1 : m * 8 ≤ 140737488351232) (b2 : l * 8 ≤ 140737488351232) (b3 : o * 8 ≤ 140737488351232) :
    Calls Tryz.prog 4 #[.slice ha m hc, .slice la l lc, .slice oa o oc] w fun e w' => e = .returned (.bool true) ∧ Below w.heap.size w w' := by
  have hal : ∀ W, Below w.heap.size w W → Calls Tryz.prog 7 #[] W fun e W' => e = .returned (.bool true) ∧ Aside (Below w.heap.size w W') := fun W hb =>
    (alive W (hG.below hb)).mono fun e W' h => ⟨h.1, hb.trans (h.2.mono hb.size)⟩
  obtain ⟨n, hmin, hnl, hno⟩ : ∃ n : Nat, min (l : Int) (o : Int) = n ∧ n ≤ l ∧ n ≤ o := ⟨min l o, by omega, by omega, by omega⟩
  have A0 := At.start ha m hc n w
  by_cases hearly : 50 < m ∨ m ≤ n
  · go_enter Tryz.func4, Tryz.ntmps4
    go_wp2_with (first
      | (go_at_call 7; with_reducible refine (hal _ A0.bel).mono ?_; rintro e w1 ⟨rfl, hb1⟩))
    all_goals (go_ret; exact ⟨rfl, hb1.out⟩)
  have hm50 : m ≤ 50 := by omega
  have hnm : n < m := by omega
  have v1 := fun (W : World) (hA : At ha m hc n w W) => votesAt hA la l lc n zs ys h2 h1 rfl hnl hnm hm50
  have v2 := fun (W : World) (hA : At ha m hc n w W) => votesAt hA oa o oc n xs ys h3 h1 rfl hno hnm hm50
  have q1 := fun (W : World) (hA : At ha m hc n w W) (g cap base : Nat) => chooseAt hA g cap base n (2 * n + 1) zs ys (by omega) (row_len h2 hnl) (row_len h1 (Nat.le_refl _)) hnm hm50
  have q2 := fun (W : World) (hA : At ha m hc n w W) (g cap base : Nat) => chooseAt hA g cap base n (2 * n + 1) xs ys (by omega) (row_len h3 hno) (row_len h1 (Nat.le_refl _)) hnm hm50
  obtain ⟨hb, ho, rfl, hys, hcell⟩ : ∃ hb ho, ha = some ⟨hb, ho, none⟩ ∧ m ≤ ys.length ∧ ∀ j, j < m → w.cell? ⟨hb, ho + j, none⟩ = some (.int .i64 (ys.getD j 0)) := by
    rcases h1 with ⟨_, rfl, _, _⟩ | ⟨x, rfl, hmc, hcm, hys, hcell, _⟩
    · omega
    obtain ⟨b, o, rfl, hH⟩ := row_cells hcell (k := m) (by omega) (by omega)
    refine ⟨b, o, rfl, by omega, fun j hj => hH j _ ?_⟩
    rw [List.getElem?_map, List.getElem?_take, if_pos hj, List.getD_eq_getElem?_getD, List.getElem?_eq_getElem (by omega)]
    rfl
  have hlt : hb < w.heap.size := World.block_lt_of_cell? w _ (hcell 0 (by omega))
  clear hG h1 h2 h3
  go_enter Tryz.func4, Tryz.ntmps4
  go_wp2_with (first
    | (go_at_call 9; with_reducible refine (v1 _ A0).mono ?_; rintro e w1 ⟨g1, cap1, rfl, hown1, A1⟩)
    | (go_at_call 10; with_reducible refine (q1 _ A1 _ _ _ hown1).mono ?_; rintro e w2 ⟨za, rfl, ma, A2⟩; clear hown1)
    | (go_at_call 9; with_reducible refine (v2 _ A2).mono ?_; rintro e w3 ⟨g3, cap3, rfl, hown3, A3⟩)
    | (go_at_call 10; with_reducible refine (q2 _ A3 _ _ _ hown3).mono ?_; rintro e w4 ⟨zb, rfl, mb, A4⟩; clear hown3))
  obtain ⟨y0, hy0⟩ : ∃ y0, ys.getD 0 0 = y0 := ⟨_, rfl⟩
  have c0 : w4.cell? ⟨hb, ho, none⟩ = some (.int .i64 (ys.getD 0 0)) := (A4.bel.cell (p := ⟨hb, ho, none⟩) hlt).trans (hcell 0 (by omega))
  rw [hy0] at c0
  have c1 := A4.ch
  have hcw : Aside (∀ j, j < m → w4.drew.cell? ⟨hb, ho + j, none⟩ = some (.int .i64 (ys.getD j 0))) := fun j hj => (A4.bel.drew.cell (p := ⟨hb, ho + j, none⟩) hlt).trans (hcell j hj)
  clear hcell v1 v2 q1 q2 A0 A1 A2 A3 hearly
  have hbw : Below w.heap.size w w4.drew := A4.bel.drew
  clear A4
  go_region_held (fun w' => w'.cell? ⟨w.heap.size, 0, none⟩ = some (.slice (some ⟨hb, ho, none⟩) m hc) ∧ w'.cell? ⟨hb, ho, none⟩ = some (.int .i64 y0)) (go_keep) (fail)
  all_goals go_wp2
  all_goals
    (go_loopw [14, 15, 68] (fun v14 v15 v68 wr => ∃ (k : Nat) (lo hi : Int), k ≤ m ∧ v14 = .int .i64 lo ∧ v15 = .int .i64 hi ∧ v68 = .int .i64 k ∧ wr = w4.drew ∧ Aside ((∀ i, i < k → lo ≤ ys.getD i 0) ∧ ∀ i, i < k → ys.getD i 0 ≤ hi))
      (fun _ _ i _ => m - (intOf i).toNat)
     case atStart => exact ⟨0, _, _, Nat.zero_le _, rfl, rfl, rfl, rfl, fun i hi => absurd hi (Nat.not_lt_zero _), fun i hi => absurd hi (Nat.not_lt_zero _)⟩
     case round =>
      obtain ⟨k, lo, hi, hk, rfl, rfl, rfl, rfl, hbd⟩ := hrel
      by_cases hltm : k < m
      · have cx := hcw.out k hltm
        obtain ⟨x, hx⟩ : ∃ x, ys.getD k 0 = x := ⟨_, rfl⟩
        rw [hx] at cx
        go_wp2
        go_roundw
        case rel =>
          refine ⟨k + 1, _, _, by omega, rfl, rfl, by simp, trivial, fun i hi => ?_, fun i hi => ?_⟩
          · rcases Nat.lt_or_ge i k with h | h
            · have := hbd.out.1 i h
              omega
            · obtain rfl : i = k := by omega
              rw [hx]
              omega
          · rcases Nat.lt_or_ge i k with h | h
            · have := hbd.out.2 i h
              omega
            · obtain rfl : i = k := by omega
              rw [hx]
              omega
        case measure => simp [intOf]; omega
      · obtain rfl : k = m := by omega
        have z1 := ma.out.1 lo hbd.out.1
        have z2 := ma.out.2 hi hbd.out.2
        have z3 := mb.out.1 lo hbd.out.1
        have z4 := mb.out.2 hi hbd.out.2
        clear hcw ma mb hbd
        go_wp2_with (first
          | (go_at_call 7; with_reducible refine (hal _ hbw).mono ?_; rintro e w5 ⟨rfl, hb5⟩))
        go_ret
        exact ⟨rfl, hb5.out⟩)
end Go.Proofs.YtnmmomopnaglbaaGreatDoor.Lt
