/- What quorum.Choose comes to, at any votes. -/
import Derived.Test.YtnmmomopnaglbaaGreatDoorLq
import Derived.OwnWalk
import Derived.Laws.OwnMore
namespace Go.Proofs.YtnmmomopnaglbaaGreatDoor.Lc
open Go.RowKit Go.Shelf Go.Sort Go.Proofs.YtnmmomopnaglbaaGreatDoor
set_option linter.unusedVariables false
set_option linter.unusedSimpArgs false
/-- A vote of which the offset alone is told. -/
def vote (x : Int) : List Value := [.int .i64 0, .int .i64 0, .int .i64 0, .int .i64 0, .int .i64 0, .int .i64 x]
theorem set_take (zs : List Int) (n k : Nat) (hk : k < n) (hn : zs.length = n) : ((zs.take k ++ List.replicate (n - k) 0).map (Value.int .i64)).set k (.int .i64 (zs.getD k 0)) = (zs.take (k + 1) ++ List.replicate (n - (k + 1)) 0).map (Value.int .i64) := by
  have hl : (zs.take k).length = k := by rw [List.length_take]; omega
  have h1 : n - k = (n - (k + 1)) + 1 := by omega
  have h2 : zs.take (k + 1) = zs.take k ++ [zs.getD k 0] := by
    rw [List.take_add_one, List.getElem?_eq_getElem (by omega), List.getD_eq_getElem?_getD, List.getElem?_eq_getElem (by omega)]
    rfl
  rw [← List.map_set, List.set_append_right _ _ (by omega), hl, Nat.sub_self, h1, List.replicate_succ, List.set_cons_zero, h2, List.append_assoc]
  rfl
theorem made_zero (n : Nat) : (madeCells (Value.int IntKind.i64 0).cells (n * 1)).toList = List.replicate n (Value.int .i64 0) := by
  unfold madeCells
  rw [Nat.mul_one]
  refine List.ext_getElem? fun i => ?_
  by_cases hi : i < n
  · rw [List.getElem?_replicate, if_pos hi]
    simp [hi, Value.cells, Nat.mod_one]
  · rw [List.getElem?_eq_none (by simp; omega), List.getElem?_eq_none (by simp; omega)]
set_option maxHeartbeats 2000000 in
set_option maxRecDepth 1000000 in
theorem choose (b off n c q : Nat) (zs : List Int) (w : World) (hn : zs.length = n) (hq : 1 ≤ q) (hqn : q ≤ n) (hm : n ≤ 1000) (hb : b < w.heap.size) (hc : ∀ j, j < n → ∀ (i : Nat) (u : Value), (vote (zs.getD j 0))[i]? = some u → w.cell? ⟨b, off + j * 6 + i, none⟩ = some u) :
    Calls Tryz.prog 10 #[.int .i64 q, .slice (some ⟨b, off, none⟩) n c] w fun e w' => e = .returned (.tuple #[.int .i64 (Lq.mid zs), .int .i64 0]) ∧ Below w.heap.size w w' := by
  obtain ⟨i0, hi, hz0, hz1, hz2⟩ := info_parts Lq.info2
  go_enter Tryz.func10, Tryz.ntmps10
  go_wp2_with (first
    | (at_make; refine wpList_make_full _ rfl _ _ _ rfl w.heap.size 2 i0 (.int .i64 0) 1 Tryz.underlying34 hi hz0 hz1 .i64 .i64 _ _ n rfl rfl rfl rfl (by rw [hz2]; omega) (by unfold maxLen; omega) (Nat.le_refl _) ?_; intro w1 hown hgrow))
  have hbel0 : Below w.heap.size w w1 := (Below.refl _ w).grown hgrow (Nat.le_refl _) (fun j hj => by cases hj)
  clear hgrow
  go_loopw [22] (fun i wr => ∃ k : Nat, k ≤ n ∧ i = .int .i64 k ∧ wr.ownsRow w.heap.size 2 1 (.slice (some ⟨w.heap.size, 0, none⟩) n n) n ((zs.take k ++ List.replicate (n - k) 0).map (Value.int .i64)) ∧ Below w.heap.size w wr)
    (fun i _ => n - (intOf i).toNat)
  case atStart =>
    refine ⟨0, Nat.zero_le _, rfl, ?_, hbel0⟩
    have e1 : (madeCells (Value.int IntKind.i64 0).cells (n * 1)).toList = (zs.take 0 ++ List.replicate (n - 0) 0).map (Value.int .i64) := by
      rw [made_zero]; simp
    rw [← e1]
    exact hown
  case round =>
    obtain ⟨k, hk, rfl, hown, hbel⟩ := hrel
    by_cases hlt : k < n
    · have hcx : ∀ (i : Nat) (u : Value), (vote (zs.getD k 0))[i]? = some u → wr.cell? ⟨b, off + k * 6 + i, none⟩ = some u := fun i u hu => (hbel.cell (by exact hb)).trans (hc k hlt i u hu)
      have c0 : wr.cell? ⟨b, off + k * 6, none⟩ = some (.int .i64 0) := hcx 0 _ rfl
      have c1 : wr.cell? ⟨b, off + k * 6 + 1, none⟩ = some (.int .i64 0) := hcx 1 _ rfl
      have c2 : wr.cell? ⟨b, off + k * 6 + 2, none⟩ = some (.int .i64 0) := hcx 2 _ rfl
      have c3 : wr.cell? ⟨b, off + k * 6 + 3, none⟩ = some (.int .i64 0) := hcx 3 _ rfl
      have c4 : wr.cell? ⟨b, off + k * 6 + 4, none⟩ = some (.int .i64 0) := hcx 4 _ rfl
      have c5 : wr.cell? ⟨b, off + k * 6 + 5, none⟩ = some (.int .i64 (zs.getD k 0)) := hcx 5 _ rfl
      obtain ⟨x, hx⟩ : ∃ x, zs.getD k 0 = x := ⟨_, rfl⟩
      rw [hx] at c5
      clear hc hcx
      have hlw : w.heap.size < wr.heap.size := (hown.lt w.heap.size rfl).2
      have f1 : ∀ o, (wr.alloc o).frozen? ⟨w.heap.size, k, none⟩ = false := fun o => (hown.alloc o).frozenAt k
      have g1 : ∀ o, (wr.alloc o).cell? ⟨w.heap.size, k, none⟩ = ((zs.take k ++ List.replicate (n - k) 0).map (Value.int .i64))[k]? := fun o => (hown.alloc o).cellAt k (by omega)
      have g2 : ((zs.take k ++ List.replicate (n - k) 0).map (Value.int .i64))[k]? = some (.int .i64 0) := by
        have hl : (zs.take k).length = k := by rw [List.length_take]; omega
        rw [List.getElem?_map, List.getElem?_append_right (by omega), hl, Nat.sub_self, List.getElem?_replicate, if_pos (by omega)]
        rfl
      rw [g2] at g1
      go_wp2
      go_roundw
      case rel =>
        refine ⟨k + 1, by omega, by simp, ?_, ?_⟩
        · have h1 := (hown.stored k (.int .i64 x)).1.alloc (.cells #[.int .i64 0, .int .i64 0, .int .i64 0, .int .i64 0, .int .i64 0, .int .i64 x] 50)
          rw [← hx, set_take zs n k hlt hn] at h1
          rw [← hx]
          exact h1
        · exact (hbel.setCell (p := ⟨w.heap.size, k, none⟩) (Nat.le_refl _) _).alloc (by simp; omega) _
      case measure => simp [intOf]; omega
    · have hkn : k = n := by omega
      subst hkn
      rw [Nat.sub_self, List.replicate_zero, List.append_nil, List.take_of_length_le (by omega)] at hown
      have hof := Lq.of w.heap.size 0 k k zs wr hn (by omega) hm (fun j u hu => by rw [Nat.zero_add]; exact Lq.row_cell hown hu)
      have hbel' : Aside (Below w.heap.size w wr) := hbel
      clear hown hbel
      go_wp2_with (go_at_call 21; refine hof.mono ?_; rintro e w2 ⟨rfl, hb2⟩)
      go_ret2
      exact ⟨rfl, hbel'.out.trans (hb2.mono hbel'.out.size)⟩
end Go.Proofs.YtnmmomopnaglbaaGreatDoor.Lc
