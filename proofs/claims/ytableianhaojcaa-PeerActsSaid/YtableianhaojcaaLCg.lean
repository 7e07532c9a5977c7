/- The reference's check of a config comes to what the program's check comes to. No conditions. -/
import Derived.Test.YtableianhaojcaaLCf
import Derived.Test.YtableianhaojcaaSXx
import Derived.KernelRfl
namespace Go.Proofs.Ytableianhaojcaa.L
open Go.RowKit Go.Proofs.YtableianhaojcaaW.PrintWords Go.Proofs.YtableianhaojcaaW.PrintLast Go.Proofs.YtableianhaojcaaW.PrintMore Go.Proofs.Ytableianhaojcaa.G
set_option linter.unusedVariables false
set_option linter.unusedSimpArgs false
/-- The addresses before x may be. -/
def GoodTo (row : Int → Int) (x : Int) : Prop := ∀ i : Int, 0 ≤ i → i < x → (1 ≤ row i ∧ row i ≤ 65535) ∧ ∀ k : Int, 0 ≤ k → k < i → row k ≠ row i
theorem rd_take (l : List Int) (x : Int) {j : Int} (h0 : 0 ≤ j) (h1 : j < x) : rd (l.take x.toNat) j = rd l j := by
  unfold rd
  rw [List.getD_eq_getElem?_getD, List.getD_eq_getElem?_getD, List.getElem?_take_of_lt (by omega)]
theorem dup_tot (l : List Int) (x : Int) (h0 : 0 ≤ x) (h1 : x < l.length) (hl : l.length ≤ 16) (k : Nat) (hk : 20 ≤ k) :
    ∃ b, slices_Contains_int_int.f k (l.take x.toNat) (rd l x) = some b ∧ (b = true ↔ ∃ j : Int, 0 ≤ j ∧ j < x ∧ rd l j = rd l x) := by
  obtain ⟨b, hb, hi⟩ := contains_tot (l.take x.toNat) (rd l x) (by simp; omega) k (by simp; omega)
  refine ⟨b, hb, hi.trans ⟨?_, ?_⟩⟩
  · rintro ⟨i, h2, h3, h4⟩
    have h5 : i < x := by simp at h3; omega
    exact ⟨i, h2, h5, by rw [← rd_take l x h2 h5]; exact h4⟩
  · rintro ⟨i, h2, h3, h4⟩
    exact ⟨i, h2, by simp; omega, by rw [rd_take l x h2 h3]; exact h4⟩
theorem l0_next (l : List Int) (q le mo de sl x : Int) (h0 : 0 ≤ x) (h1 : x < l.length) (hl : l.length ≤ 16) (hb : 1 ≤ rd l x ∧ rd l x ≤ 65535) (hn : ∀ k : Int, 0 ≤ k → k < x → rd l k ≠ rd l x) (k : Nat) (hk : 20 ≤ k) :
    conf_Check.l0 (k + 1) l l.length x l q le mo de sl = conf_Check.l0 k l l.length (x + 1) l q le mo de sl := by
  rw [conf_Check.l0, if_pos h1, if_pos h0, if_pos h1, within_eq, Option.bind_some, if_pos (decide_eq_true hb), if_pos (by omega)]
  obtain ⟨b, hbe, hi⟩ := dup_tot l x h0 h1 hl k hk
  rw [hbe, Option.bind_some]
  cases b with
  | true => obtain ⟨j, h2, h3, h4⟩ := hi.1 rfl; exact absurd h4 (hn j h2 h3)
  | false => rw [if_neg (by simp), w64_id (by unfold I64; omega)]
theorem l0_to (l : List Int) (q le mo de sl : Int) (hl : l.length ≤ 16) : ∀ d : Nat, d ≤ l.length → GoodTo (rd l) d → conf_Check.l0 100 l l.length 0 l q le mo de sl = conf_Check.l0 (100 - d) l l.length d l q le mo de sl
  | 0, _, _ => rfl
  | d + 1, h, hg => by
    have hg' : GoodTo (rd l) d := fun i h0 h1 => hg i h0 (by omega)
    obtain ⟨h2, h3⟩ := hg d (by omega) (by omega)
    rw [l0_to l q le mo de sl hl d (by omega) hg', show 100 - d = (99 - d) + 1 by omega, l0_next l q le mo de sl d (by omega) (by omega) hl h2 h3 (99 - d) (by omega), show 100 - (d + 1) = 99 - d by omega]
    rfl
theorem chk_len0 (row : Int → Int) (q le mo de sl : Int) : chkF row [0, q, le, mo, de, sl] = 13 := by
  have := (chkF_spec row 0 q le mo de sl (by omega)).1
  unfold conf_Check.f at this
  rw [if_pos (by simp)] at this
  exact (Option.some.inj this).symm
theorem chk_len17 (row : Int → Int) {n : Int} (q le mo de sl : Int) (h : 16 < n) : chkF row [n, q, le, mo, de, sl] = 11 := by
  have := (chkF_spec row n q le mo de sl (by omega)).1
  unfold conf_Check.f at this
  rw [if_neg (by simp; omega), if_pos (by simp; omega)] at this
  exact (Option.some.inj this).symm
theorem row_rd (row : Int → Int) {n i : Int} (h0 : 0 ≤ i) (h1 : i < n) : rd ((List.range n.toNat).map fun (j : Nat) => row j) i = row i := by
  unfold rd
  rw [List.getD_eq_getElem?_getD, List.getElem?_map, List.getElem?_range (by omega)]
  simp only [Option.map_some, Option.getD_some]
  congr 1
  omega
theorem chk_at (row : Int → Int) {n x : Int} (q le mo de sl : Int) (hn : 1 ≤ n) (hn2 : n ≤ 16) (h0 : 0 ≤ x) (h1 : x ≤ n) (hg : GoodTo row x) :
    ∃ k, 50 ≤ k ∧ conf_Check.l0 (k + 1) ((List.range n.toNat).map fun (j : Nat) => row j) n x ((List.range n.toNat).map fun (j : Nat) => row j) q le mo de sl = some (chkF row [n, q, le, mo, de, sl]) := by
  have h := (chkF_spec row n q le mo de sl (by omega)).1
  obtain ⟨d, rfl⟩ : ∃ d : Nat, x = d := ⟨x.toNat, by omega⟩
  unfold conf_Check.f at h
  generalize hl : ((List.range n.toNat).map fun (j : Nat) => row j) = l at *
  have hlen : (l.length : Int) = n := by rw [← hl]; simp; omega
  have hrd : ∀ i : Int, 0 ≤ i → i < n → rd l i = row i := fun i h2 h3 => by rw [← hl]; exact row_rd row h2 h3
  rw [if_neg (by omega), if_neg (by omega)] at h
  have hg' : GoodTo (rd l) d := fun i h2 h3 => by
    obtain ⟨h4, h5⟩ := hg i h2 (by omega)
    rw [hrd i h2 (by omega)]
    exact ⟨h4, fun k h6 h7 => by rw [hrd k h6 (by omega)]; exact h5 k h6 h7⟩
  rw [l0_to l q le mo de sl (by omega) d (by omega) hg', hlen] at h
  refine ⟨99 - d, by omega, ?_⟩
  rw [show 99 - d + 1 = 100 - d by omega]
  exact h
theorem chk_range (row : Int → Int) {n x : Int} (q le mo de sl : Int) (hn : 1 ≤ n) (hn2 : n ≤ 16) (h0 : 0 ≤ x) (h1 : x < n) (hg : GoodTo row x) (hb : ¬ (1 ≤ row x ∧ row x ≤ 65535)) : chkF row [n, q, le, mo, de, sl] = 3 := by
  obtain ⟨k, hk, h⟩ := chk_at row q le mo de sl hn hn2 h0 (by omega) hg
  rw [conf_Check.l0, if_pos h1, if_pos h0, if_pos (by simp; omega), row_rd row h0 h1, within_eq, Option.bind_some, if_neg (by simp only [decide_eq_true_eq]; exact hb)] at h
  exact (Option.some.inj h).symm
theorem chk_twice (row : Int → Int) {n x k0 : Int} (q le mo de sl : Int) (hn : 1 ≤ n) (hn2 : n ≤ 16) (h0 : 0 ≤ x) (h1 : x < n) (hg : GoodTo row x) (hb : 1 ≤ row x ∧ row x ≤ 65535) (hk0 : 0 ≤ k0) (hk1 : k0 < x) (he : row k0 = row x) :
    chkF row [n, q, le, mo, de, sl] = 12 := by
  obtain ⟨k, hk, h⟩ := chk_at row q le mo de sl hn hn2 h0 (by omega) hg
  have hlen : (((List.range n.toNat).map fun (j : Nat) => row j).length : Int) = n := by simp; omega
  obtain ⟨b, hbe, hi⟩ := dup_tot ((List.range n.toNat).map fun (j : Nat) => row j) x h0 (by omega) (by omega) k (by omega)
  rw [conf_Check.l0, if_pos h1, if_pos h0, if_pos (by omega), row_rd row h0 h1, within_eq, Option.bind_some, if_pos (decide_eq_true hb), if_pos (by omega)] at h
  rw [row_rd row h0 h1] at hbe hi
  rw [hbe, Option.bind_some, if_pos (hi.2 ⟨k0, hk0, hk1, by rw [row_rd row hk0 (by omega)]; exact he⟩)] at h
  exact (Option.some.inj h).symm
theorem chk_end (row : Int → Int) {n : Int} (q le mo de sl : Int) (hn : 1 ≤ n) (hn2 : n ≤ 16) (hg : GoodTo row n) :
    chkF row [n, q, le, mo, de, sl] = if 1 ≤ q ∧ q ≤ n ∧ 4 ≤ le ∧ le ≤ mo ∧ mo ≤ 1024 ∧ 1 ≤ de ∧ de ≤ 1000 * le - 2000 ∧ 1 ≤ sl ∧ sl ≤ 500 then 0 else 3 := by
  obtain ⟨k, hk, h⟩ := chk_at row q le mo de sl hn hn2 (x := n) (by omega) (by omega) hg
  have hlen : (((List.range n.toNat).map fun (j : Nat) => row j).length : Int) = n := by simp; omega
  rw [conf_Check.l0, if_neg (by omega), hlen] at h
  simp only [within_eq, Option.bind_some, decide_eq_true_eq] at h
  have key : ∀ r : Int, some r = some (chkF row [n, q, le, mo, de, sl]) → chkF row [n, q, le, mo, de, sl] = r := fun r h => (Option.some.inj h).symm
  by_cases h1 : 4 ≤ le ∧ le ≤ 1024
  · rw [if_pos h1, w64_id (n := 1000 * le) (by unfold I64; omega), w64_id (n := 1000 * le - 2000) (by unfold I64; omega)] at h
    by_cases h2 : le ≤ mo ∧ mo ≤ 1024
    · rw [if_pos h2] at h
      by_cases h3 : 1 ≤ q ∧ q ≤ n
      · rw [if_pos h3] at h
        by_cases h4 : 1 ≤ de ∧ de ≤ 1000 * le - 2000
        · rw [if_pos h4] at h
          by_cases h5 : 1 ≤ sl ∧ sl ≤ 500
          · rw [if_pos h5] at h; rw [key _ h, if_pos (by omega)]
          · rw [if_neg h5] at h; rw [key _ h, if_neg (by omega)]
        · rw [if_neg h4] at h; rw [key _ h, if_neg (by omega)]
      · rw [if_neg h3] at h; rw [key _ h, if_neg (by omega)]
    · rw [if_neg h2] at h; rw [key _ h, if_neg (by omega)]
  · rw [if_neg h1] at h; rw [key _ h, if_neg (by omega)]
end Go.Proofs.Ytableianhaojcaa.L
namespace Go.Proofs.Ytableianhaojcaa.Cg
open Go Go.SX Go.Proofs.Ytableianhaojcaa Go.Proofs.Ytableianhaojcaa.L
set_option maxRecDepth 100000
set_option linter.unusedVariables false
set_option linter.unusedSimpArgs false
def loops : List LoopSpec := [{ key := 6, slots := [(3, some (.int .i64 (.var 20))), (4, none), (13, none), (14, none), (15, none), (16, none), (17, none), (18, none), (19, none), (20, none), (21, none), (22, none), (23, none), (24, none), (25, none), (26, none), (27, none), (28, none), (29, none), (30, none), (31, none), (32, none), (33, none), (34, none), (35, none), (36, none), (37, none), (38, none), (39, none), (40, none), (41, none), (42, none), (43, none), (44, none), (45, none), (46, none), (47, none), (48, none), (49, none)], cells := [], meas := .bin .sub .i64 (.var 0) (.var 20), facts := [] }, { key := 11, slots := [(4, some (.int .i64 (.var 21))), (34, none), (35, none), (36, none), (37, none), (38, none), (39, none), (40, none), (41, none), (42, none), (43, none), (44, none), (45, none), (46, none), (47, none), (48, none), (49, none)], cells := [], meas := .bin .sub .i64 (.var 20) (.var 21), facts := [] }]
def cfg : Cfg := { ok := [3, 4, 5, 6, 7, 8, 9, 10, 11, 12, 13, 14, 15, 16, 17, 18, 19, 20, 21, 22, 23, 24, 25, 26, 27, 28, 29, 30, 31, 32, 33, 34, 35, 36, 37, 38, 39, 40, 41, 42, 43, 44, 45, 46, 47, 48, 49, 50, 51, 52, 53, 54, 55, 56, 57, 58, 59, 60, 61, 62, 63, 64, 65, 66, 67, 68, 69, 70, 71, 72, 73, 74, 75, 76, 77, 78, 79, 80, 81, 82, 83, 84], sums := sumsOf [], loops := loops }
def args : List AV := [.agg (Go.SX.ofList [.arg 0, .int .i64 (.var 2), .int .i64 (.var 3), .int .i64 (.var 4), .int .i64 (.var 5), .int .i64 (.var 6)])]
def mem : List AObj := [.sym (.var 0) (.var 1) [.int .i64 0] 3]
def tree : Tree :=
(.ite (.cmp .eql (.var 0) (.lit 0))
 (.leaf (.int .i64 (.lit 13)) [])
 (.ite (.cmp .lss (.lit 16) (.var 0))
 (.leaf (.int .i64 (.lit 11)) [])
 (.loop 6 [(1006, (.bin .sub .i64 (.var 0) (.lit 0))), (20, (.lit 0))]
 (.ite (.cmp .lss (.var 20) (.var 0))
 (.need (.cmp .leq (.lit 0) (.var 20)) (.ite (.cmp .lss (.app 0 (.cons (.var 20) .nil)) (.lit 1))
 (.leaf (.int .i64 (.lit 3)) [])
 (.ite (.cmp .lss (.lit 65535) (.app 0 (.cons (.var 20) .nil)))
 (.leaf (.int .i64 (.lit 3)) [])
 (.loop 11 [(1011, (.bin .sub .i64 (.var 20) (.lit 0))), (21, (.lit 0))]
 (.ite (.cmp .lss (.var 21) (.var 20))
 (.need (.cmp .leq (.lit 0) (.var 21)) (.need (.cmp .lss (.var 21) (.var 0)) (.need (.cmp .leq (.lit 0) (.var 20)) (.need (.cmp .lss (.var 20) (.var 0)) (.ite (.cmp .eql (.app 0 (.cons (.var 21) .nil)) (.app 0 (.cons (.var 20) .nil)))
 (.leaf (.int .i64 (.lit 12)) [])
 (.again 11 [(1011, (.bin .sub .i64 (.var 20) (.bin .add .i64 (.var 21) (.lit 1)))), (21, (.bin .add .i64 (.var 21) (.lit 1)))]))))))
 (.again 6 [(1006, (.bin .sub .i64 (.var 0) (.bin .add .i64 (.var 20) (.lit 1)))), (20, (.bin .add .i64 (.var 20) (.lit 1)))]))))))
 (.ite (.cmp .lss (.var 2) (.lit 1))
 (.leaf (.int .i64 (.lit 3)) [])
 (.ite (.cmp .lss (.var 0) (.var 2))
 (.leaf (.int .i64 (.lit 3)) [])
 (.ite (.cmp .lss (.var 3) (.lit 4))
 (.leaf (.int .i64 (.lit 3)) [])
 (.ite (.cmp .lss (.var 4) (.var 3))
 (.leaf (.int .i64 (.lit 3)) [])
 (.ite (.cmp .lss (.lit 1024) (.var 4))
 (.leaf (.int .i64 (.lit 3)) [])
 (.ite (.cmp .lss (.var 5) (.lit 1))
 (.leaf (.int .i64 (.lit 3)) [])
 (.ite (.cmp .lss (.bin .sub .i64 (.bin .mul .i64 (.var 3) (.lit 1000)) (.lit 2000)) (.var 5))
 (.leaf (.int .i64 (.lit 3)) [])
 (.ite (.cmp .lss (.var 6) (.lit 1))
 (.leaf (.int .i64 (.lit 3)) [])
 (.ite (.cmp .lss (.lit 500) (.var 6))
 (.leaf (.int .i64 (.lit 3)) [])
 (.leaf (.int .i64 (.lit 0)) []))))))))))))))
set_option maxHeartbeats 40000000 in
theorem tree_eq : callT Try.prog cfg 100000 0 40 args mem [] = tree := by kernel_rfl
theorem cfg_ok (G : Nat → List Int → Int) : CfgOk Try.prog cfg G (fun _ _ => True) :=
  ⟨by kernel_rfl, okB_spec (by kernel_rfl), fun f a m out h S w0 bs ρ w vs v mem' _ hρ hvs hm hp => by cases h⟩
def Says (c : Int) : Env → AV → List AObj → Prop := fun σ v _ => ∃ e, v = .int .i64 e ∧ den σ e = c
/-- What holds at the loops' heads: 'row', 'n' ..: the config. -/
def Inv (row : Int → Int) (n q le mo de sl : Int) : Nat → Env → Prop := fun id σ =>
  (σ.v 0 = n ∧ σ.v 2 = q ∧ σ.v 3 = le ∧ σ.v 4 = mo ∧ σ.v 5 = de ∧ σ.v 6 = sl) ∧ (1 ≤ n ∧ n ≤ 16) ∧ (0 ≤ σ.v 20 ∧ σ.v 20 ≤ n) ∧ (∀ i, σ.f 0 [i] = row i) ∧ GoodTo row (σ.v 20) ∧ σ.v 1006 = n - σ.v 20 ∧
  (id = 11 → σ.v 20 < n ∧ (1 ≤ row (σ.v 20) ∧ row (σ.v 20) ≤ 65535) ∧ (0 ≤ σ.v 21 ∧ σ.v 21 ≤ σ.v 20) ∧ (∀ k : Int, 0 ≤ k → k < σ.v 21 → row k ≠ row (σ.v 20)) ∧ σ.v 1011 = σ.v 20 - σ.v 21)
theorem tree_holds (ρ : Env) (h0 : 0 ≤ ρ.v 0) : tree.holds (Inv (fun i => ρ.f 0 [i]) (ρ.v 0) (ρ.v 2) (ρ.v 3) (ρ.v 4) (ρ.v 5) (ρ.v 6)) (Says (chkF (fun i => ρ.f 0 [i]) [ρ.v 0, ρ.v 2, ρ.v 3, ρ.v 4, ρ.v 5, ρ.v 6])) ρ := by
  unfold tree
  generalize hc : chkF (fun i => ρ.f 0 [i]) [ρ.v 0, ρ.v 2, ρ.v 3, ρ.v 4, ρ.v 5, ρ.v 6] = c
  refine ⟨fun h => ?_, fun h1 => ⟨fun h => ?_, fun h2 => ⟨?_, fun σ hf hI => ?_⟩⟩⟩
  · rw [ev_eql] at h
    have h : ρ.v 0 = 0 := h
    rw [h, chk_len0] at hc
    exact ⟨_, rfl, hc⟩
  · rw [ev_lss] at h
    have h : 16 < ρ.v 0 := h
    rw [chk_len17 _ _ _ _ _ _ h] at hc
    exact ⟨_, rfl, hc⟩
  · rw [ev_eql'] at h1
    rw [ev_lss'] at h2
    have h1 : ρ.v 0 ≠ 0 := h1
    have h2 : ρ.v 0 ≤ 16 := h2
    refine ⟨⟨rfl, rfl, rfl, rfl, rfl, rfl⟩, ⟨by omega, h2⟩, ⟨Int.le_refl _, h0⟩, fun _ => rfl, ?_, ?_, fun h => by cases h⟩
    · intro i h3 h4
      have h4 : i < 0 := h4
      omega
    · show binI .sub .i64 (ρ.v 0) 0 = ρ.v 0 - 0
      exact sub_i64 (by omega) (by omega)
  · generalize hrow : (fun i => ρ.f 0 [i]) = row at *
    generalize ρ.v 0 = n at *
    generalize ρ.v 2 = q at *
    generalize ρ.v 3 = le at *
    generalize ρ.v 4 = mo at *
    generalize ρ.v 5 = de at *
    generalize ρ.v 6 = sl at *
    have hI' := hI
    obtain ⟨⟨c0, c2, c3, c4, c5, c6⟩, hn, i20, hr, hg, hm, _⟩ := hI
    have dV : ∀ n, den σ (.var n) = σ.v n := fun _ => rfl
    have dL : ∀ n, den σ (.lit n) = n := fun _ => rfl
    have dA : den σ (.app 0 (.cons (.var 20) .nil)) = row (σ.v 20) := hr _
    refine ⟨fun h3 => ?_, fun h3 => ?_⟩
    · rw [ev_lss] at h3
      simp only [dV, c0] at h3
      refine ⟨by rw [ev_leq]; exact i20.1, fun h4 => ?_, fun h4 => ⟨fun h5 => ?_, fun h5 => ⟨?_, fun τ hf' hJ => ?_⟩⟩⟩
      · rw [ev_lss] at h4
        simp only [dA, dL] at h4
        rw [chk_range row q le mo de sl hn.1 hn.2 i20.1 h3 hg (by omega)] at hc
        exact ⟨_, rfl, hc⟩
      · rw [ev_lss] at h5
        simp only [dA, dL] at h5
        rw [chk_range row q le mo de sl hn.1 hn.2 i20.1 h3 hg (by omega)] at hc
        exact ⟨_, rfl, hc⟩
      · rw [ev_lss'] at h4 h5
        simp only [dA, dL] at h4 h5
        refine ⟨⟨c0, c2, c3, c4, c5, c6⟩, hn, i20, hr, hg, hm, fun _ => ⟨h3, ⟨h4, h5⟩, ⟨Int.le_refl _, i20.1⟩, fun k h6 h7 => ?_, ?_⟩⟩
        · have h7 : k < 0 := h7
          omega
        · show binI .sub .i64 (σ.v 20) 0 = σ.v 20 - 0
          exact sub_i64 (by omega) (by omega)
      · have hJ' := hJ
        obtain ⟨⟨d0, d2, d3, d4, d5, d6⟩, _, j20, jr, jg, jm, jx⟩ := hJ
        obtain ⟨x1, x2, x3, x4, x5⟩ := jx rfl
        have eV : ∀ n, den τ (.var n) = τ.v n := fun _ => rfl
        have eA : ∀ j, den τ (.app 0 (.cons (.var j) .nil)) = row (τ.v j) := fun _ => jr _
        have a1 : binI .add .i64 (τ.v 20) 1 = τ.v 20 + 1 := add_i64 (by omega) (by omega)
        have a2 : binI .add .i64 (τ.v 21) 1 = τ.v 21 + 1 := add_i64 (by omega) (by omega)
        refine ⟨fun h6 => ?_, fun h6 => ?_⟩
        · rw [ev_lss] at h6
          simp only [eV] at h6
          refine ⟨by rw [ev_leq]; exact x3.1, by rw [ev_lss]; simp only [eV, d0]; omega, by rw [ev_leq]; exact j20.1, by rw [ev_lss]; simp only [eV, d0]; exact x1, fun h7 => ?_, fun h7 => ⟨⟨⟨d0, d2, d3, d4, d5, d6⟩, hn, j20, jr, jg, jm, fun _ => ⟨x1, x2, ?_, ?_, ?_⟩⟩, ?_⟩⟩
          · rw [ev_eql] at h7
            simp only [eA] at h7
            rw [chk_twice row q le mo de sl hn.1 hn.2 j20.1 x1 jg x2 x3.1 h6 h7] at hc
            exact ⟨_, rfl, hc⟩
          · show 0 ≤ binI .add .i64 (τ.v 21) 1 ∧ binI .add .i64 (τ.v 21) 1 ≤ τ.v 20
            rw [a2]; omega
          · intro k h8 h9
            have h9 : k < binI .add .i64 (τ.v 21) 1 := h9
            rw [a2] at h9
            rw [ev_eql'] at h7
            simp only [eA] at h7
            show row k ≠ row (τ.v 20)
            by_cases he : k = τ.v 21
            · rw [he]; exact h7
            · exact x4 k h8 (by omega)
          · show binI .sub .i64 (τ.v 20) (binI .add .i64 (τ.v 21) 1) = τ.v 20 - binI .add .i64 (τ.v 21) 1
            rw [a2]; exact sub_i64 (by omega) (by omega)
          · show (binI .sub .i64 (τ.v 20) (binI .add .i64 (τ.v 21) 1)).toNat < (τ.v 1011).toNat
            rw [a2, sub_i64 (by omega) (by omega), x5]
            omega
        · rw [ev_lss'] at h6
          simp only [eV] at h6
          refine ⟨⟨⟨d0, d2, d3, d4, d5, d6⟩, hn, ?_, jr, ?_, ?_, fun h => by cases h⟩, ?_⟩
          · show 0 ≤ binI .add .i64 (τ.v 20) 1 ∧ binI .add .i64 (τ.v 20) 1 ≤ n
            rw [a1]; omega
          · intro i h8 h9
            have h9 : i < binI .add .i64 (τ.v 20) 1 := h9
            rw [a1] at h9
            by_cases he : i = τ.v 20
            · rw [he]
              exact ⟨x2, fun k h10 h11 => x4 k h10 (by omega)⟩
            · exact jg i h8 (by omega)
          · show binI .sub .i64 (τ.v 0) (binI .add .i64 (τ.v 20) 1) = n - binI .add .i64 (τ.v 20) 1
            rw [a1, d0]; exact sub_i64 (by omega) (by omega)
          · show (binI .sub .i64 (τ.v 0) (binI .add .i64 (τ.v 20) 1)).toNat < (τ.v 1006).toNat
            rw [a1, d0, sub_i64 (by omega) (by omega), jm]
            omega
    · rw [ev_lss'] at h3
      simp only [dV, c0] at h3
      have hx : σ.v 20 = n := by omega
      rw [hx] at hg
      rw [chk_end row q le mo de sl hn.1 hn.2 hg] at hc
      have out3 : ∀ {m : List AObj}, ¬ (1 ≤ q ∧ q ≤ n ∧ 4 ≤ le ∧ le ≤ mo ∧ mo ≤ 1024 ∧ 1 ≤ de ∧ de ≤ 1000 * le - 2000 ∧ 1 ≤ sl ∧ sl ≤ 500) → Says c σ (.int .i64 (.lit 3)) m := fun h => ⟨_, rfl, by rw [if_neg h] at hc; exact hc⟩
      refine ⟨fun h => out3 ?_, fun t1 => ⟨fun h => out3 ?_, fun t2 => ⟨fun h => out3 ?_, fun t3 => ⟨fun h => out3 ?_, fun t4 => ⟨fun h => out3 ?_, fun t5 => ⟨fun h => out3 ?_, fun t6 => ⟨fun h => out3 ?_, fun t7 => ⟨fun h => out3 ?_, fun t8 => ⟨fun h => out3 ?_, fun t9 => ⟨_, rfl, ?_⟩⟩⟩⟩⟩⟩⟩⟩⟩⟩
      · rw [ev_lss] at h; simp only [dV, dL, c0, c2, c3, c4, c5, c6] at h; omega
      · rw [ev_lss] at h; simp only [dV, dL, c0, c2, c3, c4, c5, c6] at h; omega
      · rw [ev_lss] at h; simp only [dV, dL, c0, c2, c3, c4, c5, c6] at h; omega
      · rw [ev_lss] at h; simp only [dV, dL, c0, c2, c3, c4, c5, c6] at h; omega
      · rw [ev_lss] at h; simp only [dV, dL, c0, c2, c3, c4, c5, c6] at h; omega
      · rw [ev_lss] at h; simp only [dV, dL, c0, c2, c3, c4, c5, c6] at h; omega
      · rw [ev_lss] at h
        rw [ev_lss'] at t3 t4 t5
        simp only [dV, dL, c3, c4] at t3 t4 t5
        have h : binI .sub .i64 (binI .mul .i64 (σ.v 3) 1000) 2000 < σ.v 5 := h
        rw [c3, c5, mul_i64 (by omega) (by omega), sub_i64 (by omega) (by omega)] at h
        omega
      · rw [ev_lss] at h; simp only [dV, dL, c0, c2, c3, c4, c5, c6] at h; omega
      · rw [ev_lss] at h; simp only [dV, dL, c0, c2, c3, c4, c5, c6] at h; omega
      · rw [ev_lss'] at t1 t2 t3 t4 t5 t6 t7 t8 t9
        have t7 : σ.v 5 ≤ binI .sub .i64 (binI .mul .i64 (σ.v 3) 1000) 2000 := t7
        simp only [dV, dL, c0, c2, c3, c4, c5, c6] at t1 t2 t3 t4 t5 t6 t8 t9
        rw [c3, c5, mul_i64 (by omega) (by omega), sub_i64 (by omega) (by omega)] at t7
        rw [if_pos (by omega)] at hc
        exact hc
/-- The reference's check of a config is known by the same letter. -/
theorem ref_comes {S : Nat → Prop} {w0 w : World} {bs : List Ent} {ρ : Env} {i : Nat} {q le mo de sl n cap : SE} {ty : TypeId} {m : List AObj} {vs : List Value} (hC : ∀ l, ρ.f 200 l = chkF (fun i => ρ.f 0 [i]) l)
    (hid : m[i]? = some (.sym n cap [.int .i64 0] ty)) (hvs : dvl bs ρ [.agg (.cons (.arg i) (.cons (.int .i64 q) (.cons (.int .i64 le) (.cons (.int .i64 mo) (.cons (.int .i64 de) (.cons (.int .i64 sl) .nil))))))] = some vs) (hm : RelM bs ρ S w0 m w) :
    Go.SX.Comes Try.prog S w0 bs ρ 40 vs w (.int .i64 (.app 200 (.cons n (.cons q (.cons le (.cons mo (.cons de (.cons sl .nil)))))))) m := by
  obtain ⟨b, hb, hr⟩ := hm.rel i _ hid
  let τ : Env := { v := fun j => if j = 0 then den ρ n else if j = 1 then den ρ cap else if j = 2 then den ρ q else if j = 3 then den ρ le else if j = 4 then den ρ mo else if j = 5 then den ρ de else den ρ sl, f := ρ.f }
  have hr' := hr
  obtain ⟨e1, e2, e3, e4, e5, e6⟩ := hr'
  have hM : RelM [b] τ (· < w.heap.size) w mem w := by
    refine RelM.foreign rfl (fun j o ho => ?_) rfl
    match j, ho with
    | 0, ho => cases ho; exact ⟨b, rfl, hr⟩
  have hvs' : dvl [b] τ args = some vs := by
    rw [← hvs]
    simp only [args, Go.SX.ofList, dvl, dv, dvs, hb, List.getElem?_cons_zero]
    rfl
  have hd : den ρ (.app 200 (.cons n (.cons q (.cons le (.cons mo (.cons de (.cons sl .nil))))))) = chkF (fun i => ρ.f 0 [i]) [den ρ n, den ρ q, den ρ le, den ρ mo, den ρ de, den ρ sl] := hC _
  obtain ⟨h1, h2, h3⟩ := chkF_spec (fun i => ρ.f 0 [i]) (den ρ n) (den ρ q) (den ρ le) (den ρ mo) (den ρ de) (den ρ sl) e3
  refine (calls_run (P := Try.prog) (cfg_ok τ.f) (N := fun _ _ => True) trivial (fuel := 100000) (keep := 0) (f := 40) (args := args) (mem := mem) (pc := []) (ρ := τ) (by rw [tree_eq]; exact tree_holds τ e3) rfl (fun _ h => by cases h) hvs' hM
    (R := fun e w' => e = .returned (.int .i64 (chkF (fun i => ρ.f 0 [i]) [den ρ n, den ρ q, den ρ le, den ρ mo, den ρ de, den ρ sl])) ∧ Keep (· < w.heap.size) w w') ?_).mono ?_
  · rintro σ bs' v m1 mem' w' z _ ⟨e, rfl, he⟩ _ hz hR
    obtain ⟨rfl, _⟩ := dv_int hz
    exact ⟨congrArg (fun x => Ending.returned (Value.int .i64 x)) he, hR.keep⟩
  · rintro e w' ⟨rfl, hk⟩
    refine ⟨[], _, rfl, ?_, by rw [List.append_nil]; exact hm.after hk⟩
    rw [List.append_nil, ← hd]
    exact dv_int_mk (by rw [hd]; exact in_i64 (by omega))
end Go.Proofs.Ytableianhaojcaa.Cg
