/- What the law's function 'votes' comes to. -/
import Derived.Test.YtnmmomopnaglbaaGreatDoorLc
import Derived.Deep.RegionHeldLaw
import Derived.Deep.AppendLies
namespace Go.Proofs.YtnmmomopnaglbaaGreatDoor.Lv
open Go.RowKit Go.Shelf Go.Sort Go.Proofs.YtnmmomopnaglbaaGreatDoor
set_option linter.unusedVariables false
set_option linter.unusedSimpArgs false
theorem info50 : (Tryz.prog.info? 50).map (fun i => (i.zero, i.size, i.bytes)) = some (some (.agg #[.int .i64 0, .int .i64 0, .int .i64 0, .int .i64 0, .int .i64 0, .int .i64 0]), 6, 48) := by kernel_rfl
theorem follows : Tryz.prog.follows .mixedOrders = true := by kernel_rfl
theorem new_cells (wr : World) (x : Int) : ∀ (j : Nat) (u : Value), (Lc.vote x)[j]? = some u → (wr.alloc (.cells #[.int .i64 0, .int .i64 0, .int .i64 0, .int .i64 0, .int .i64 0, .int .i64 x] 50)).cell? ((⟨wr.heap.size, 0, none⟩ : Addr).add j) = some u := by
  intro j u hu
  have e : ((⟨wr.heap.size, 0, none⟩ : Addr).add j) = ⟨wr.heap.size, j, none⟩ := by simp [Addr.add]; exact fun h => h.symm
  rw [e]
  have h : (wr.alloc (.cells #[.int .i64 0, .int .i64 0, .int .i64 0, .int .i64 0, .int .i64 0, .int .i64 x] 50)).heap[wr.heap.size]? = some (.cells #[.int .i64 0, .int .i64 0, .int .i64 0, .int .i64 0, .int .i64 0, .int .i64 x] 50) := heap_alloc_new wr _
  simp only [World.cell?, h, Option.isSome_none, Bool.false_eq_true, if_false]
  simpa [Lc.vote] using hu
theorem vote_one (x : Int) : ∀ u ∈ Lc.vote x, u.oneCell' = true := by
  intro u hu
  simp only [Lc.vote, List.mem_cons, List.not_mem_nil, or_false] at hu
  rcases hu with rfl | rfl | rfl | rfl | rfl | rfl <;> rfl
theorem take_vote (l : List Int) (k : Nat) (x : Int) (hx : l[k]? = some x) : (l.take (k + 1)).flatMap Lc.vote = (l.take k).flatMap Lc.vote ++ Lc.vote x := by
  rw [List.take_add_one, hx, List.flatMap_append]
  simp
set_option maxHeartbeats 2000000 in
set_option maxRecDepth 1000000 in
theorem votes (Bn Bh lb lo l lc hb ho m hc n : Nat) (zs ys : List Int) (w : World) (hn : w.cell? ⟨Bn, 0, none⟩ = some (.int .i64 n)) (hh : w.cell? ⟨Bh, 0, none⟩ = some (.slice (some ⟨hb, ho, none⟩) m hc))
    (h0 : 0 < n) (hnl : n ≤ l) (hlc : l ≤ lc) (hcm : lc ≤ maxLen) (hm0 : 0 < m) (hnm : n + m ≤ 1000) (hz : zs.length = n) (hy : ys.length = m)
    (hL : ∀ (j : Nat) (u : Value), (zs.map (Value.int .i64))[j]? = some u → w.cell? ⟨lb, lo + j, none⟩ = some u) (hH : ∀ (j : Nat) (u : Value), (ys.map (Value.int .i64))[j]? = some u → w.cell? ⟨hb, ho + j, none⟩ = some u) :
    Calls Tryz.prog 9 #[.slice (some ⟨lb, lo, none⟩) l lc, .pointer (some ⟨Bn, 0, none⟩), .pointer (some ⟨Bh, 0, none⟩)] w fun e w' =>
      ∃ g cap, e = .returned (.slice (some ⟨g, 0, none⟩) (n + m) cap) ∧ w'.ownsRow w.heap.size 50 6 (.slice (some ⟨g, 0, none⟩) (n + m) cap) (n + m) ((zs ++ ys).flatMap Lc.vote) ∧ Below w.heap.size w w' := by
  obtain ⟨i0, hi, hz0, hz1, hz2⟩ := info_parts Lq.info2
  have hfollows := follows
  go_enter Tryz.func9, Tryz.ntmps9
  go_wp2
  have O0 : (w.alloc (.cells #[] 2)).drew.ownsRow w.heap.size 2 1 (.slice (some ⟨w.heap.size, 0, none⟩) 0 0) 0 [] := ⟨rfl, .inr ⟨w.heap.size, 0, #[], rfl, Nat.le_refl _, heap_alloc_new w _, Nat.le_refl _, Nat.zero_le _, rfl, rfl⟩⟩
  have lt0 : ∀ {p : Addr} {v : Value}, w.cell? p = some v → p.block < w.heap.size := fun h => World.block_lt_of_cell? w _ h
  have L1 : ∀ (j : Nat) (u : Value), (zs.map (Value.int .i64))[j]? = some u → (w.alloc (.cells #[] 2)).drew.cell? ((⟨lb, lo, none⟩ : Addr).add j) = some u := fun j u hu => by
    have h := hL j u hu
    have e : ((⟨lb, lo, none⟩ : Addr).add j) = ⟨lb, lo + j, none⟩ := by simp [Addr.add]
    rw [e]
    exact (World.cell?_alloc_past _ _ _ (lt0 h)).trans h
  have L2 : ∀ (j : Nat) (u : Value), (ys.map (Value.int .i64))[j]? = some u → w.cell? ((⟨hb, ho, none⟩ : Addr).add j) = some u := fun j u hu => by
    have e : ((⟨hb, ho, none⟩ : Addr).add j) = ⟨hb, ho + j, none⟩ := by simp [Addr.add]
    rw [e]
    exact hH j u hu
  have up1 : ∀ (w1 : World), (w.alloc (.cells #[] 2)).drew.grownBy w1 (some w.heap.size) → (∀ (p : Addr) (v : Value), w.cell? p = some v → w1.cell? p = some v) ∧ Below w.heap.size w w1 := fun w1 hg => by
    have hb : Below w.heap.size w w1 := ((((Below.refl _ w).alloc (Nat.le_refl _) (.cells #[] 2)).drew).grown hg (by simp) (fun k hk => by cases hk; exact Nat.le_refl _))
    exact ⟨fun p v h => (hb.cell (lt0 h)).trans h, hb⟩
  have up2 : ∀ (w1 w2 : World) (g : Nat), w1.grownBy w2 (some g) → w.heap.size ≤ g → Below w.heap.size w w1 → (∀ (p : Addr) (v : Value), w.cell? p = some v → w2.cell? p = some v) ∧ Below w.heap.size w w2 := fun w1 w2 g hg hle hb1 => by
    have hb : Below w.heap.size w w2 := hb1.grown hg hb1.size (fun k hk => by cases hk; exact hle)
    exact ⟨fun p v h => (hb.cell (lt0 h)).trans h, hb⟩
  go_region_held_law (fun w' => w'.cell? ⟨Bn, 0, none⟩ = some (.int .i64 n) ∧ w'.cell? ⟨Bh, 0, none⟩ = some (.slice (some ⟨hb, ho, none⟩) m hc)) (first | go_keep | (exact ⟨hup1 _ _ hn, hup1 _ _ hh⟩) | (exact ⟨hup2 _ _ hn, hup2 _ _ hh⟩))
    (first
      | ((refine step_append_lies _ (by rfl) _ _ _ (by rfl) w.heap.size 2 i0 (.int .i64 0) 1 8 Tryz.underlying34 hi hz0 hz1 hz2 rfl (by decide) (.slice (some ⟨w.heap.size, 0, none⟩) 0 0) 0 [] (by rfl) O0 ⟨lb, lo, none⟩ n lc (zs.map (Value.int .i64)) (by rfl) (by simp [hz]) L1 (by intro u hu; obtain ⟨x, _, rfl⟩ := List.mem_map.1 hu; rfl) h0 (by unfold maxLen; omega) (by omega) (by simp) _ rfl ?_; intro g cap w1 hown1 hgrow1 hat1 hlt1; obtain ⟨hup1, hbel1⟩ := up1 w1 hgrow1; have hg1 : w.heap.size ≤ g := hat1.elim (fun h => (by cases h; exact Nat.le_refl _)) (fun h => (by rw [h]; simp)); clear hgrow1 hat1))
      | ((refine step_append_lies _ (by rfl) _ _ _ (by rfl) w.heap.size 2 i0 (.int .i64 0) 1 8 Tryz.underlying34 hi hz0 hz1 hz2 rfl (by decide) (.slice (some ⟨g, 0, none⟩) (0 + n) cap) (0 + n) ([] ++ zs.map (Value.int .i64)) (by rfl) hown1 ⟨hb, ho, none⟩ m hc (ys.map (Value.int .i64)) (by rfl) (by simp [hy]) (fun j u hu => hup1 _ _ (L2 j u hu)) (by intro u hu; obtain ⟨x, _, rfl⟩ := List.mem_map.1 hu; rfl) hm0 (by unfold maxLen; omega) (by omega) hbel1.size _ rfl ?_; intro g2 cap2 w2 hown2 hgrow2 hat2 hlt2; obtain ⟨hup2, hbel2⟩ := up2 w1 w2 g hgrow2 hg1 hbel1; have hg2 : w.heap.size ≤ g2 := hat2.elim (fun h => (by cases h; exact hg1)) (fun h => (by rw [h]; exact hbel1.size)); clear hgrow2 hat2)))
  all_goals go_wp2
  all_goals (rename_i dst d heq; obtain rfl : 14 = d := Option.some.inj heq; clear heq; simp only [List.set_cons_succ, List.set_cons_zero]; simp only [Nat.zero_add, List.nil_append, ← List.map_append] at hown2)
  all_goals (have hcells : ∀ (j : Nat) (x : Int), (zs ++ ys)[j]? = some x → w2.cell? ⟨g2, j, none⟩ = some (.int .i64 x) := fun j x hx => Lq.row_cell hown2 (by rw [List.getElem?_map, hx]; rfl))
  all_goals (clear hup1 hbel1 hg1 hown1 hlt1 hup2 hown2 up1 up2 O0 L1 L2 hL hH)
  all_goals obtain ⟨j0, hj, hj0, hj1, hj2⟩ := info_parts info50
  all_goals
    (go_loopw [5, 16] (fun v i wr => ∃ k : Nat, k ≤ n + m ∧ i = .int .i64 k ∧ wr.ownsRow w2.heap.size 50 6 v k (((zs ++ ys).take k).flatMap Lc.vote) ∧ Below w2.heap.size w2 wr)
      (fun _ i _ => n + m - (intOf i).toNat)
     case atStart => exact ⟨0, Nat.zero_le _, rfl, World.ownsRow_nil _ _ _ _, Below.refl _ _⟩
     case round =>
      obtain ⟨k, hk, rfl, hown, hbel⟩ := hrel
      by_cases hlt : k < n + m
      · have hx : (zs ++ ys)[k]? = some ((zs ++ ys).getD k 0) := by
          rw [List.getD_eq_getElem?_getD, List.getElem?_eq_getElem (by rw [List.length_append]; omega)]; rfl
        have c0 : wr.cell? ⟨g2, k, none⟩ = some (.int .i64 ((zs ++ ys).getD k 0)) := (hbel.cell (p := ⟨g2, k, none⟩) hlt2).trans (hcells k _ hx)
        obtain ⟨x, hxe⟩ : ∃ x, (zs ++ ys).getD k 0 = x := ⟨_, rfl⟩
        rw [hxe] at c0 hx
        clear hcells
        go_wp2_with (at_builtin; refine wpList_append_own _ rfl _ _ 46 rfl w2.heap.size 50 j0 (.agg #[.int .i64 0, .int .i64 0, .int .i64 0, .int .i64 0, .int .i64 0, .int .i64 0]) 6 48 Tryz.underlying46 hj hj0 hj1 hj2 rfl (by decide) _ _ _ rfl (hown.alloc _) ⟨wr.heap.size, 0, none⟩ 1 1 (Lc.vote x) rfl rfl ?c1 ?c2 ?c3 ?c4 ?c5 ?_)
        case c1 => exact new_cells wr x
        case c2 => exact vote_one x
        case c3 => unfold maxLen; omega
        case c4 => omega
        case c5 => simp; have := hbel.size; omega
        · intro v' w1 hown' hgrow _
          rw [← take_vote (zs ++ ys) k x hx] at hown'
          have hb1 : Below w2.heap.size w2 w1 := (hbel.alloc hbel.size _).grown hgrow (by simp; have := hbel.size; omega) (fun q hq => (hown.lt q hq).1)
          clear hown hgrow c0
          go_wp2
          go_roundw
          case rel => exact ⟨k + 1, by omega, by simp, hown', hb1⟩
          case measure => simp [intOf]; omega
      · have hkn : k = n + m := by omega
        rw [hkn] at hown ⊢
        rw [List.take_of_length_le (by rw [List.length_append]; omega)] at hown
        rcases hown.2 with ⟨_, h⟩ | ⟨g', cap', cur, hv, hbase, hb', h1, h2, h3, h4⟩
        · omega
        subst hv
        have hres : wr.ownsRow w.heap.size 50 6 (.slice (some ⟨g', 0, none⟩) (n + m) cap') (n + m) ((zs ++ ys).flatMap Lc.vote) := ⟨hown.1, .inr ⟨g', cap', cur, rfl, Nat.le_trans hbel2.size hbase, hb', h1, h2, h3, h4⟩⟩
        have hbb : Below w.heap.size w wr := hbel2.trans (hbel.mono hbel2.size)
        clear hown hcells hbel hbel2 hb' h4
        go_wp2
        go_ret
        exact ⟨_, _, rfl, hres, hbb⟩)
end Go.Proofs.YtnmmomopnaglbaaGreatDoor.Lv
