/- What median.Sorted and median.Of come to, at any row of whole numbers that is not empty. -/
import Derived.Test.YtnmmomopnaglbaaGreatDoorSh
import Derived.WalkKit
import Derived.Deep.LoopGhost
import Derived.Lib.OwnBridge
import Derived.Sort.OwnSortedInts
import Derived.Sort.Grow
namespace Go.Proofs.YtnmmomopnaglbaaGreatDoor.Lq
open Go.RowKit Go.Shelf Go.Sort Go.Proofs.YtnmmomopnaglbaaGreatDoor
set_option linter.unusedVariables false
set_option linter.unusedSimpArgs false

theorem info2 : (Tryz.prog.info? 2).map (fun i => (i.zero, i.size, i.bytes)) = some (some (.int .i64 0), 1, 8) := by kernel_rfl
/-- Go's sort of whole numbers. -/
abbrev srt (zs : List Int) : List Int := zs.mergeSort fun x y => decide (x ≤ y)

set_option maxHeartbeats 2000000 in
theorem sorted (b off n c : Nat) (zs : List Int) (w : World) (hn : zs.length = n) (hm : n ≤ 1000) (hc : ∀ (j : Nat) (u : Value), (zs.map (Value.int .i64))[j]? = some u → w.cell? ⟨b, off + j, none⟩ = some u) :
    Calls Tryz.prog 43 #[.slice (some ⟨b, off, none⟩) n c] w fun e w' => ∃ g cap, e = .returned (.slice (some ⟨g, 0, none⟩) n cap) ∧ w'.ownsRow w.heap.size 2 1 (.slice (some ⟨g, 0, none⟩) n cap) n ((srt zs).map (Value.int .i64)) ∧ Below w.heap.size w w' := by
  obtain ⟨i0, hi, hz0, hz1, hz2⟩ := info_parts info2
  have hclone := AnyE.slices_Clone Tryz.laysClone i0 (.int .i64 0) 1 8 hi hz0 hz1 hz2 rfl (by decide) Tryz.sizeOf2 b off n c (zs.map (Value.int .i64)) w (by simp [hn]) (by unfold maxLen; omega) (by omega) hc (fun u hu => by
    obtain ⟨x, _, rfl⟩ := List.mem_map.1 hu
    rfl)
  change Calls Tryz.prog 73 _ _ _ at hclone
  clear hc
  go_enter Tryz.func43, Tryz.ntmps43
  go_wp2_with (first
    | (go_at_call 73; refine hclone.mono ?_; rintro e w1 ⟨v1, rfl, hown, hnn, hbel⟩
       obtain ⟨g, cap, rfl, hbg, hgl, hnc, hcm, hlen, hH⟩ := Lib.holds_of_ownsRow hown hnn
       have hsort := AnyG.slices_Sort_int Tryz.laysSort g 0 cap zs w1 hH hgl (by omega)
       change Calls Tryz.prog 74 _ _ _ at hsort
       rw [hlen] at hsort
       have X : Aside (w1.ownsRow w.heap.size 2 1 (.slice (some ⟨g, 0, none⟩) n cap) n (zs.map (Value.int .i64)) ∧ Below w.heap.size w w1 ∧ w.heap.size ≤ g) := ⟨hown, hbel, hbg⟩
       clear hown hbel hH hnn)
    | (go_at_call 74; refine hsort.mono ?_; rintro e w2 ⟨rfl, q, os, rfl⟩))
  go_ret
  rcases X.out.1.2 with ⟨h0, _⟩ | ⟨g', cap', cur, hv, hbase, hb, h1, h2, h3, h4⟩
  · cases h0
  cases hv
  have hl2 : (srt zs).length = zs.length := List.length_mergeSort zs
  have hs := ownsRow_sortedI (n := q) (os := os) (ss := zs) (ts := srt zs) hl2 hbase hb (by omega) h2 h3
  rw [hlen] at hs
  exact ⟨g, cap, rfl, hs, X.out.2.1.grown (grownBy_sortedI _) X.out.2.1.size (fun j hj => by cases hj; exact hbase)⟩
theorem row_cell {w : World} {base g n cap : Nat} {e : TypeId} {xs : List Value} (h : w.ownsRow base e 1 (.slice (some ⟨g, 0, none⟩) n cap) n xs) {j : Nat} {u : Value} (hu : xs[j]? = some u) : w.cell? ⟨g, j, none⟩ = some u := by
  rcases h.2 with ⟨h0, _⟩ | ⟨g', cap', cur, hv, hbase, hb, h1, h2, h3, h4⟩
  · cases h0
  cases hv
  simp only [World.cell?, hb, Option.isSome_none, Bool.false_eq_true, if_false]
  rw [← h4, List.getElem?_take] at hu
  split at hu
  · rw [Array.getElem?_toList] at hu; exact hu
  · cases hu
/-- The lower one in the middle. -/
def mid (zs : List Int) : Int := (srt zs).getD ((zs.length - 1) / 2) 0
set_option maxHeartbeats 2000000 in
theorem of (b off n c : Nat) (zs : List Int) (w : World) (hn : zs.length = n) (h1 : 1 ≤ n) (hm : n ≤ 1000) (hc : ∀ (j : Nat) (u : Value), (zs.map (Value.int .i64))[j]? = some u → w.cell? ⟨b, off + j, none⟩ = some u) :
    Calls Tryz.prog 21 #[.slice (some ⟨b, off, none⟩) n c] w fun e w' => e = .returned (.tuple #[.int .i64 (mid zs), .int .i64 0]) ∧ Below w.heap.size w w' := by
  have hsort := sorted b off n c zs w hn hm hc
  clear hc
  have e1 : wrap64 ((n : Int) - 1) = (n : Int) - 1 := by unfold wrap64; omega
  have e2 : Int.tdiv ((n : Int) - 1) 2 = (((n - 1) / 2 : Nat) : Int) := by
    rw [Int.tdiv_eq_ediv_of_nonneg (by omega)]; omega
  go_enter Tryz.func21, Tryz.ntmps21
  go_wp2_with (first
    | (go_at_call 43; refine hsort.mono ?_; rintro e w1 ⟨g, cap, rfl, hown, hbel⟩
       have hcell : w1.cell? ⟨g, (n - 1) / 2, none⟩ = some (.int .i64 (mid zs)) := by
         refine row_cell hown (j := (n - 1) / 2) ?_
         have hl2 : (srt zs).length = n := (List.length_mergeSort zs).trans hn
         have hj : (n - 1) / 2 < (srt zs).length := by omega
         rw [List.getElem?_map, List.getElem?_eq_getElem hj]
         simp only [Option.map_some, mid, hn, List.getD_eq_getElem?_getD, List.getElem?_eq_getElem hj, Option.getD_some]
       have hbel : Aside (RowKit.Below w.heap.size w w1) := hbel
       clear hown))
  go_ret2
  exact ⟨rfl, hbel.out⟩
end Go.Proofs.YtnmmomopnaglbaaGreatDoor.Lq
