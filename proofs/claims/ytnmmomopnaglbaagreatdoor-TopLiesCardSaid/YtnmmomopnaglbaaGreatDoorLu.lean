/- The plain law: the lower one in the middle of two rows lies between the bounds of the longer one; and rows of votes, cell by cell. -/
import Derived.Test.YtnmmomopnaglbaaGreatDoorLz
namespace Go.Proofs.YtnmmomopnaglbaaGreatDoor.Lu
open Go.RowKit Go.Shelf Go.Sort Go.Proofs.YtnmmomopnaglbaaGreatDoor
set_option linter.unusedVariables false
set_option linter.unusedSimpArgs false
theorem srt_sorted (zs : List Int) : (Lq.srt zs).Pairwise (· ≤ ·) := by
  have h := List.pairwise_mergeSort (le := fun x y : Int => decide (x ≤ y)) (fun a b c h1 h2 => by simp at *; omega) (fun a b => by simp; omega) zs
  exact h.imp fun h => by simpa using h
theorem mid_ge (zs ys : List Int) (h : zs.length < ys.length) (lo : Int) (hl : ∀ y ∈ ys, lo ≤ y) : lo ≤ Lq.mid (zs ++ ys) := by
  have hp : (Lq.srt (zs ++ ys)).Perm (zs ++ ys) := List.mergeSort_perm _ _
  have hs := srt_sorted (zs ++ ys)
  have hlen : (Lq.srt (zs ++ ys)).length = zs.length + ys.length := by rw [hp.length_eq, List.length_append]
  unfold Lq.mid
  rw [List.length_append]
  generalize hS : Lq.srt (zs ++ ys) = S at *
  generalize hk : (zs.length + ys.length - 1) / 2 = k
  have hkl : k < S.length := by omega
  rw [List.getD_eq_getElem?_getD, List.getElem?_eq_getElem hkl, Option.getD_some]
  by_cases hc : lo ≤ S[k]
  · exact hc
  have hall : ∀ x ∈ S.take (k + 1), decide (x < lo) = true := fun x hx => by
    obtain ⟨i, hi, rfl⟩ := List.getElem_of_mem hx
    rw [List.length_take] at hi
    rw [List.getElem_take]
    have : S[i] ≤ S[k] := by
      rcases Nat.lt_or_ge i k with h1 | h1
      · exact List.pairwise_iff_getElem.1 hs i k (by omega) hkl h1
      · have : i = k := by omega
        subst this; exact Int.le_refl _
    exact decide_eq_true (by omega)
  have h1 : (S.take (k + 1)).countP (fun x => decide (x < lo)) = k + 1 := by
    rw [List.countP_eq_length.2 hall, List.length_take]; omega
  have h2 : (S.take (k + 1)).countP (fun x => decide (x < lo)) ≤ S.countP (fun x => decide (x < lo)) := (List.take_sublist _ _).countP_le
  have h3 : ys.countP (fun x => decide (x < lo)) = 0 := List.countP_eq_zero.2 fun y hy => by have := hl y hy; simp; omega
  have h4 : zs.countP (fun x => decide (x < lo)) ≤ zs.length := List.countP_le_length
  rw [hp.countP_eq, List.countP_append] at h2
  omega
theorem mid_le (zs ys : List Int) (h : zs.length < ys.length) (hi : Int) (hl : ∀ y ∈ ys, y ≤ hi) : Lq.mid (zs ++ ys) ≤ hi := by
  have hp : (Lq.srt (zs ++ ys)).Perm (zs ++ ys) := List.mergeSort_perm _ _
  have hs := srt_sorted (zs ++ ys)
  have hlen : (Lq.srt (zs ++ ys)).length = zs.length + ys.length := by rw [hp.length_eq, List.length_append]
  unfold Lq.mid
  rw [List.length_append]
  generalize hS : Lq.srt (zs ++ ys) = S at *
  generalize hk : (zs.length + ys.length - 1) / 2 = k
  have hkl : k < S.length := by omega
  rw [List.getD_eq_getElem?_getD, List.getElem?_eq_getElem hkl, Option.getD_some]
  by_cases hc : S[k] ≤ hi
  · exact hc
  have hall : ∀ x ∈ S.drop k, decide (hi < x) = true := fun x hx => by
    obtain ⟨i, hi', rfl⟩ := List.getElem_of_mem hx
    rw [List.length_drop] at hi'
    rw [List.getElem_drop]
    have : S[k] ≤ S[k + i] := by
      rcases Nat.eq_or_lt_of_le (Nat.le_add_right k i) with h1 | h1
      · have : i = 0 := by omega
        subst this; exact Int.le_refl _
      · exact List.pairwise_iff_getElem.1 hs k (k + i) hkl (by omega) h1
    exact decide_eq_true (by omega)
  have h1 : (S.drop k).countP (fun x => decide (hi < x)) = S.length - k := by
    rw [List.countP_eq_length.2 hall, List.length_drop]
  have h2 : (S.drop k).countP (fun x => decide (hi < x)) ≤ S.countP (fun x => decide (hi < x)) := (List.drop_sublist _ _).countP_le
  have h3 : ys.countP (fun x => decide (hi < x)) = 0 := List.countP_eq_zero.2 fun y hy => by have := hl y hy; simp; omega
  have h4 : zs.countP (fun x => decide (hi < x)) ≤ zs.length := List.countP_le_length
  rw [hp.countP_eq, List.countP_append] at h2
  omega
theorem flat_get (zs : List Int) : ∀ (j i : Nat) (u : Value), j < zs.length → (Lc.vote (zs.getD j 0))[i]? = some u → (zs.flatMap Lc.vote)[j * 6 + i]? = some u := by
  induction zs with
  | nil => intro j i u hj; simp at hj
  | cons z zs ih =>
    intro j i u hj hu
    rw [List.flatMap_cons]
    have hl : (Lc.vote z).length = 6 := rfl
    cases j with
    | zero =>
      have hi : i < 6 := by
        have := List.getElem?_eq_some_iff.1 hu
        exact this.1
      rw [List.getElem?_append_left (by omega)]
      simpa using hu
    | succ j =>
      rw [List.getElem?_append_right (by omega), hl, show (j + 1) * 6 + i - 6 = j * 6 + i by omega]
      exact ih j i u (by simp at hj; omega) (by simpa using hu)
theorem row_cell6 {w : World} {base g n cap : Nat} {e : TypeId} {xs : List Value} (h : w.ownsRow base e 6 (.slice (some ⟨g, 0, none⟩) n cap) n xs) {j : Nat} {u : Value} (hu : xs[j]? = some u) : w.cell? ⟨g, j, none⟩ = some u := by
  rcases h.2 with ⟨h0, _⟩ | ⟨g', cap', cur, hv, hbase, hb, h1, h2, h3, h4⟩
  · cases h0
  cases hv
  simp only [World.cell?, hb, Option.isSome_none, Bool.false_eq_true, if_false]
  rw [← h4, List.getElem?_take] at hu
  split at hu
  · rw [Array.getElem?_toList] at hu; exact hu
  · cases hu
/-- quorum.Choose at votes as the law's function lays them. -/
theorem choose (g n cap q base : Nat) (zs : List Int) (w : World) (hn : zs.length = n) (hq : 1 ≤ q) (hqn : q ≤ n) (hm : n ≤ 1000) (hown : w.ownsRow base 50 6 (.slice (some ⟨g, 0, none⟩) n cap) n (zs.flatMap Lc.vote)) :
    Calls Tryz.prog 10 #[.int .i64 q, .slice (some ⟨g, 0, none⟩) n cap] w fun e w' => e = .returned (.tuple #[.int .i64 (Lq.mid zs), .int .i64 0]) ∧ Below w.heap.size w w' := by
  refine Lc.choose g 0 n cap q zs w hn hq hqn hm ?_ (fun j hj i u hu => ?_)
  · rcases hown.2 with ⟨h0, _⟩ | ⟨g', cap', cur, hv, hbase, hb, h1, h2, h3, h4⟩
    · cases h0
    cases hv
    rcases Nat.lt_or_ge g w.heap.size with h | h
    · exact h
    · rw [Array.getElem?_eq_none h] at hb; cases hb
  · rw [Nat.zero_add]
    exact row_cell6 hown (flat_get zs j i u (by omega) hu)
end Go.Proofs.YtnmmomopnaglbaaGreatDoor.Lu
