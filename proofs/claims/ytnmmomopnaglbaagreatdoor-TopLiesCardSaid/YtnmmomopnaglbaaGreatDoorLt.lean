/- What the law's function TopLies comes to. -/
import Derived.Test.YtnmmomopnaglbaaGreatDoorLu
import Derived.Test.YtnmmomopnaglbaaGreatDoorEO
namespace Go.Proofs.YtnmmomopnaglbaaGreatDoor.Lt
open Go.RowKit Go.Shelf Go.Sort Go.Proofs.YtnmmomopnaglbaaGreatDoor
open Go.SX (RelM IsRow)
set_option linter.unusedVariables false
set_option linter.unusedSimpArgs false
theorem relM_nil (ρ : Go.SX.Env) (w : World) : RelM [] ρ (· < w.heap.size) w [] w :=
  ⟨rfl, fun i o h => by simp at h, fun i o b h => by simp at h, fun i j o o' b b' _ h => by simp at h, ⟨rfl, rfl, rfl, Nat.le_refl _, fun _ _ => rfl, fun _ h => h⟩⟩
/-- The laid globals that the program's code reads here. -/
def G (w : World) : Prop := (∃ T, w.heap[0]? = some (.cells EH.vals.toArray T (0, 0))) ∧ ∃ T, w.heap[1]? = some (.cells EH.space.toArray T (0, 0))
theorem lt_of {w : World} {i : Nat} {o : Obj} (h : w.heap[i]? = some o) : i < w.heap.size := by
  rcases Nat.lt_or_ge i w.heap.size with h1 | h1
  · exact h1
  · rw [Array.getElem?_eq_none h1] at h; cases h
theorem G.below {w w' : World} (h : G w) (hb : Below w.heap.size w w') : G w' := by
  obtain ⟨⟨T, h0⟩, T', h1⟩ := h
  exact ⟨⟨T, (hb.block 0 (lt_of h0)).trans h0⟩, T', (hb.block 1 (lt_of h1)).trans h1⟩
theorem alive (w : World) (hG : G w) : Calls Tryz.prog 7 #[] w fun e w' => e = .returned (.bool true) ∧ Below w.heap.size w w' := by
  obtain ⟨⟨T, h0⟩, T', h1⟩ := hG
  refine (EO.ok312 (· < w.heap.size) w [] ⟨fun _ => 0, EH.F⟩ w [] (.bool (.lit 1)) [] ⟨lt_of h0, lt_of h1, ⟨T, h0⟩, T', h1⟩ (fun _ _ _ => rfl) rfl (relM_nil _ _) rfl).mono ?_
  rintro e w' ⟨ex, z, rfl, hz, hR⟩
  refine ⟨?_, ⟨hR.keep.os, hR.keep.tape, hR.keep.output, hR.keep.size, hR.keep.block⟩⟩
  have h2 : some (Value.bool true) = some z := hz
  rw [Option.some.inj h2]
theorem row_cells {w : World} {x : Addr} {zs : List Int} {k : Nat} (h : ∀ i, i < zs.length → w.cell? (x.add i) = some (.int .i64 (zs.getD i 0))) (hk : k ≤ zs.length) (h0 : 0 < zs.length) :
    ∃ b o, x = ⟨b, o, none⟩ ∧ ∀ (j : Nat) (u : Value), ((zs.take k).map (Value.int .i64))[j]? = some u → w.cell? ⟨b, o + j, none⟩ = some u := by
  obtain ⟨b, o, via⟩ := x
  have hv : via = none := by
    have h1 := h 0 h0
    cases via with
    | none => rfl
    | some v =>
      simp only [World.cell?, Addr.add, Option.isSome_some, if_true] at h1
      split at h1 <;> cases h1
  subst hv
  refine ⟨b, o, rfl, fun j u hu => ?_⟩
  rw [List.getElem?_map, List.getElem?_take] at hu
  split at hu
  · have hj : j < zs.length := by omega
    rw [List.getElem?_eq_getElem hj] at hu
    cases hu
    have h1 := h j hj
    have e : ((⟨b, o, none⟩ : Addr).add j) = ⟨b, o + j, none⟩ := by simp [Addr.add]
    rw [e, List.getD_eq_getElem?_getD, List.getElem?_eq_getElem hj] at h1
    exact h1
  · cases hu
/-- The law's 'votes', whatever the rows. -/
theorem votes (Bn Bh : Nat) (la ha : Option Addr) (l lc m hc n : Nat) (zs ys : List Int) (w : World) (hl : IsRow .i64 w la l lc zs) (hh : IsRow .i64 w ha m hc ys) (hn : w.cell? ⟨Bn, 0, none⟩ = some (.int .i64 n)) (hb : w.cell? ⟨Bh, 0, none⟩ = some (.slice ha m hc))
    (hnl : n ≤ l) (hnm : n < m) (hm : m ≤ 50) :
    Calls Tryz.prog 9 #[.slice la l lc, .pointer (some ⟨Bn, 0, none⟩), .pointer (some ⟨Bh, 0, none⟩)] w fun e w' =>
      ∃ g cap, e = .returned (.slice (some ⟨g, 0, none⟩) (n + m) cap) ∧ w'.ownsRow w.heap.size 50 6 (.slice (some ⟨g, 0, none⟩) (n + m) cap) (n + m) ((zs.take n ++ ys.take m).flatMap Lc.vote) ∧ Below w.heap.size w w' := by
  rcases hh with ⟨rfl, rfl, _, _⟩ | ⟨x, rfl, hmc, hcm, hys, hcell, _⟩
  · omega
  obtain ⟨b, o, rfl, hH⟩ := row_cells hcell (k := m) (by omega) (by omega)
  have hym : (ys.take m).length = m := by rw [List.length_take]; omega
  by_cases h0 : n = 0
  · subst h0
    have hz : zs.take 0 ++ ys.take m = ys.take m := by simp
    rw [hz, Nat.zero_add]
    refine Lv.votes0 (.slice la l lc) Bn Bh b o m hc (ys.take m) w ?_ hn hb (by omega) (by omega) hym hH
    rcases hl with ⟨rfl, rfl, rfl, _⟩ | ⟨p, rfl, hle, _⟩
    · exact .inl rfl
    · exact .inr ⟨p, l, lc, rfl, hle⟩
  · rcases hl with ⟨rfl, rfl, rfl, _⟩ | ⟨p, rfl, hle, hcm', hzs, hcell', _⟩
    · omega
    obtain ⟨b', o', rfl, hL⟩ := row_cells hcell' (k := n) (by omega) (by omega)
    exact Lv.votes Bn Bh b' o' l lc b o m hc n (zs.take n) (ys.take m) w hn hb (by omega) hnl hle hcm' (by omega) (by omega) (by rw [List.length_take]; omega) hym hL hH
theorem isRow_below {w w' : World} {a : Option Addr} {l c : Nat} {zs : List Int} (h : IsRow .i64 w a l c zs) (hb : Below w.heap.size w w') : IsRow .i64 w' a l c zs := by
  rcases h with h | ⟨x, h1, h2, h3, h4, h5, h6⟩
  · exact .inl h
  · refine .inr ⟨x, h1, h2, h3, h4, fun i hi => ?_, h6⟩
    exact (hb.cell (World.block_lt_of_cell? w _ (h5 i hi))).trans (h5 i hi)
end Go.Proofs.YtnmmomopnaglbaaGreatDoor.Lt
