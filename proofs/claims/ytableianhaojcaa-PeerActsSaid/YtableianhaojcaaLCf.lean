/- Plain lemmas on configs: what a config's check comes to. -/
import Derived.Test.YtableianhaojcaaLSt
import Derived.Test.YtableianhaojcaaSX3
import Derived.Test.YtableianhaojcaaGx
namespace Go.Proofs.Ytableianhaojcaa.L
open Go.RowKit Go.Proofs.YtableianhaojcaaW.PrintWords Go.Proofs.YtableianhaojcaaW.PrintLast Go.Proofs.YtableianhaojcaaW.PrintMore Go.Proofs.Ytableianhaojcaa.G
set_option linter.unusedVariables false
set_option linter.unusedSimpArgs false
theorem within_eq (a b c : Int) : conf_within.f a b c = some (decide (b ≤ a ∧ a ≤ c)) := by
  unfold conf_within.f
  split
  · rename_i h
    congr 1
    rw [decide_eq_decide]
    omega
  · rename_i h
    congr 1
    exact (decide_eq_false (by omega)).symm
theorem index_tot (l : List Int) (a : Int) (hl : l.length ≤ 1000) : ∀ (k : Nat) (x : Int), 0 ≤ x → x ≤ l.length → (l.length : Int) - x < k → ∃ r, slices_Index_int_int.l0 k l a l.length x = some r ∧ ((r = -1 ∧ ∀ i : Int, x ≤ i → i < l.length → rd l i ≠ a) ∨ (x ≤ r ∧ r < l.length ∧ rd l r = a))
  | 0, x, h0, h1, h2 => by omega
  | k + 1, x, h0, h1, h2 => by
    unfold slices_Index_int_int.l0
    by_cases h : x < l.length
    · rw [if_pos h, if_pos h0, if_pos h]
      by_cases he : a = rd l x
      · rw [if_pos he]; exact ⟨x, rfl, .inr ⟨by omega, h, he.symm⟩⟩
      · rw [if_neg he, w64_id (by unfold I64; omega)]
        obtain ⟨r, hr, hc⟩ := index_tot l a hl k (x + 1) (by omega) (by omega) (by omega)
        refine ⟨r, hr, ?_⟩
        rcases hc with ⟨h3, h4⟩ | ⟨h3, h4, h5⟩
        · refine .inl ⟨h3, fun i hi hi2 => ?_⟩
          by_cases hx : i = x
          · subst hx; exact fun e => he e.symm
          · exact h4 i (by omega) hi2
        · exact .inr ⟨by omega, h4, h5⟩
    · rw [if_neg h]; exact ⟨-1, rfl, .inl ⟨rfl, fun i hi hi2 => by omega⟩⟩
theorem contains_tot (l : List Int) (a : Int) (hl : l.length ≤ 1000) (k : Nat) (hk : l.length < k) : ∃ b, slices_Contains_int_int.f k l a = some b ∧ (b = true ↔ ∃ i : Int, 0 ≤ i ∧ i < l.length ∧ rd l i = a) := by
  obtain ⟨r, hr, hc⟩ := index_tot l a hl k 0 (by omega) (by omega) (by omega)
  refine ⟨decide (r ≥ 0), ?_, ?_⟩
  · unfold slices_Contains_int_int.f slices_Index_int_int.f
    rw [hr]; rfl
  · rw [decide_eq_true_eq]
    constructor
    · intro h
      rcases hc with ⟨h3, _⟩ | ⟨_, h4, h5⟩
      · omega
      · exact ⟨r, h, h4, h5⟩
    · rintro ⟨i, h3, h4, h5⟩
      rcases hc with ⟨_, h6⟩ | ⟨h6, _⟩
      · exact absurd h5 (h6 i h3 h4)
      · omega
/-- What a config that may be is. -/
def CfgIn (n q le mo de sl : Int) : Prop := 1 ≤ n ∧ n ≤ 16 ∧ 1 ≤ q ∧ q ≤ n ∧ 4 ≤ le ∧ le ≤ mo ∧ mo ≤ 1024 ∧ 1 ≤ de ∧ de ≤ 1000 * le - 2000 ∧ 1 ≤ sl ∧ sl ≤ 500
theorem conf_l0 (l : List Int) (q le mo de sl : Int) (hl : l.length ≤ 16) (hl0 : 1 ≤ l.length) : ∀ (k : Nat) (x : Int), 0 ≤ x → x ≤ l.length → (l.length : Int) - x + 30 ≤ k →
    ∃ r, conf_Check.l0 k l l.length x l q le mo de sl = some r ∧ (r = 0 ∨ r = 3 ∨ r = 12) ∧ (r = 0 → CfgIn l.length q le mo de sl)
  | 0, x, h0, h1, h2 => by omega
  | k + 1, x, h0, h1, h2 => by
    unfold conf_Check.l0
    by_cases h : x < l.length
    · rw [if_pos h, if_pos h0, if_pos h, within_eq, Option.bind_some]
      by_cases hb : 1 ≤ rd l x ∧ rd l x ≤ 65535
      · rw [if_pos (decide_eq_true hb), if_pos h1]
        obtain ⟨b, hbe, _⟩ := contains_tot (l.take x.toNat) (rd l x) (by simp; omega) k (by simp; omega)
        rw [hbe, Option.bind_some]
        cases b with
        | true => rw [if_pos rfl]; exact ⟨12, rfl, by omega, by omega⟩
        | false =>
          rw [if_neg (by simp), w64_id (by unfold I64; omega)]
          exact conf_l0 l q le mo de sl hl hl0 k (x + 1) (by omega) (by omega) (by omega)
      · rw [if_neg (by simp [hb])]; exact ⟨3, rfl, by omega, by omega⟩
    · rw [if_neg h]
      simp only [within_eq, Option.bind_some, decide_eq_true_eq]
      by_cases h1 : 4 ≤ le ∧ le ≤ 1024
      · rw [if_pos h1, w64_id (n := 1000 * le) (by unfold I64; omega), w64_id (n := 1000 * le - 2000) (by unfold I64; omega)]
        by_cases h2 : le ≤ mo ∧ mo ≤ 1024
        · rw [if_pos h2]
          by_cases h3 : 1 ≤ q ∧ q ≤ l.length
          · rw [if_pos h3]
            by_cases h4 : 1 ≤ de ∧ de ≤ 1000 * le - 2000
            · rw [if_pos h4]
              by_cases h5 : 1 ≤ sl ∧ sl ≤ 500
              · rw [if_pos h5]; exact ⟨0, rfl, by omega, fun _ => by unfold CfgIn; omega⟩
              · rw [if_neg h5]; exact ⟨3, rfl, by omega, by omega⟩
            · rw [if_neg h4]; exact ⟨3, rfl, by omega, by omega⟩
          · rw [if_neg h3]; exact ⟨3, rfl, by omega, by omega⟩
        · rw [if_neg h2]; exact ⟨3, rfl, by omega, by omega⟩
      · rw [if_neg h1]; exact ⟨3, rfl, by omega, by omega⟩
theorem conf_tot (l : List Int) (q le mo de sl : Int) : ∃ r, conf_Check.f 100 l q le mo de sl = some r ∧ (0 ≤ r ∧ r ≤ 13) ∧ (r = 0 → CfgIn l.length q le mo de sl) := by
  unfold conf_Check.f
  by_cases h0 : (l.length : Int) = 0
  · rw [if_pos h0]; exact ⟨13, rfl, by omega, by omega⟩
  · rw [if_neg h0]
    by_cases h1 : (l.length : Int) > 16
    · rw [if_pos h1]; exact ⟨11, rfl, by omega, by omega⟩
    · rw [if_neg h1]
      obtain ⟨r, hr, h2, h3⟩ := conf_l0 l q le mo de sl (by omega) (by omega) 100 0 (by omega) (by omega) (by omega)
      exact ⟨r, hr, by omega, h3⟩
/-- A config's check, of its servers' addresses and its numbers. -/
def chkF (row : Int → Int) (l : List Int) : Int := (conf_Check.f 100 ((List.range (l.getD 0 0).toNat).map fun (i : Nat) => row i) (l.getD 1 0) (l.getD 2 0) (l.getD 3 0) (l.getD 4 0) (l.getD 5 0)).getD 0
theorem chkF_spec (row : Int → Int) (n q le mo de sl : Int) (hn : 0 ≤ n) : conf_Check.f 100 ((List.range n.toNat).map fun (i : Nat) => row i) q le mo de sl = some (chkF row [n, q, le, mo, de, sl]) ∧ (0 ≤ chkF row [n, q, le, mo, de, sl] ∧ chkF row [n, q, le, mo, de, sl] ≤ 13) ∧
    (chkF row [n, q, le, mo, de, sl] = 0 → CfgIn n q le mo de sl) := by
  obtain ⟨r, hr, h1, h2⟩ := conf_tot ((List.range n.toNat).map fun (i : Nat) => row i) q le mo de sl
  have e : chkF row [n, q, le, mo, de, sl] = r := by
    unfold chkF
    show (conf_Check.f 100 ((List.range n.toNat).map fun (i : Nat) => row i) q le mo de sl).getD 0 = r
    rw [hr]; rfl
  rw [e]
  refine ⟨hr, h1, fun h => ?_⟩
  have := h2 h
  simp only [List.length_map, List.length_range] at this
  have e2 : ((n.toNat : Nat) : Int) = n := by omega
  rw [e2] at this
  exact this
open Go.SX in
/-- The servers' row, as the kit's printed words read it. -/
theorem row_kd {bs : List Ent} {ρ : Env} {w : World} {b : Ent} {n cap : SE} {g : Nat} {ty : TypeId} (h : ORel bs ρ w b (.sym n cap [.int .i64 g] ty)) :
    Kd.C (Kd.int .i64) w b.addr b.len ((List.range (den ρ n).toNat).map fun (i : Nat) => ρ.f g [(i : Int)]) := by
  obtain ⟨e1, e2, e3, e4, e5, e6⟩ := h
  refine ⟨by simp [e1], by omega, fun h0 => ?_⟩
  obtain ⟨e7, _, e9⟩ := e6 (by omega)
  refine ⟨_, e7, fun j p hp => ?_⟩
  rw [List.getElem?_map, Option.map_eq_some_iff] at hp
  obtain ⟨i, hi, rfl⟩ := hp
  have hj : j < (den ρ n).toNat := by have := (List.getElem?_eq_some_iff.1 hi).1; simpa using this
  rw [List.getElem?_range hj] at hi
  cases hi
  obtain ⟨h1, h2⟩ := e9 j 0 (.int .i64 g) (by omega) rfl
  refine ⟨[.int .i64 (ρ.f g [(j : Int)])], rfl, ?_, fun i u hu => ?_⟩
  · exact rfl
  · cases i with
    | zero =>
      cases hu
      have e : (⟨b.blk, b.base, none⟩ : Addr).add (j * 1 + 0) = ⟨b.blk, b.base + (j * 1 + 0), none⟩ := Go.SX.add_at _ _ _
      show w.cell? ((⟨b.blk, b.base, none⟩ : Addr).add (j * 1 + 0)) = _
      rw [e]
      exact h1
    | succ i => simp at hu
open Go.SX in
theorem dvs_cons_some {bs : List Ent} {ρ : Env} {a b : AV} {vs : List Value} (h : dvs bs ρ (.cons a b) = some vs) : ∃ x xs, dv bs ρ a = some x ∧ dvs bs ρ b = some xs ∧ vs = x :: xs := by
  simp only [dvs, Option.bind_eq_some_iff, Option.map_eq_some_iff] at h
  obtain ⟨x, hx, xs, hxs, rfl⟩ := h
  exact ⟨x, xs, hx, hxs, rfl⟩
open Go.SX in
/-- A config's check is known by a contract: the servers' row has the letter 0, the check the letter 200. -/
theorem chk_comes {S : Nat → Prop} {w0 w : World} {bs : List Ent} {ρ : Env} {i : Nat} {q le mo de sl n cap : SE} {ty : TypeId} {m : List AObj} {vs : List Value} (hC : ∀ l, ρ.f 200 l = chkF (fun i => ρ.f 0 [i]) l)
    (hid : m[i]? = some (.sym n cap [.int .i64 0] ty)) (hvs : dvl bs ρ [.agg (.cons (.arg i) (.cons (.int .i64 q) (.cons (.int .i64 le) (.cons (.int .i64 mo) (.cons (.int .i64 de) (.cons (.int .i64 sl) .nil))))))] = some vs) (hm : RelM bs ρ S w0 m w) :
    Go.SX.Comes Try.prog S w0 bs ρ 28 vs w (.int .i64 (.app 200 (.cons n (.cons q (.cons le (.cons mo (.cons de (.cons sl .nil)))))))) m := by
  simp only [dvl, Option.bind_eq_some_iff, Option.map_eq_some_iff] at hvs
  obtain ⟨x, hx, xs, hxs, rfl⟩ := hvs
  cases hxs
  simp only [dv, Option.map_eq_some_iff] at hx
  obtain ⟨us, hus, rfl⟩ := hx
  obtain ⟨x0, us0, hx0, hu0, rfl⟩ := dvs_cons_some hus
  obtain ⟨x1, us1, hx1, hu1, rfl⟩ := dvs_cons_some hu0
  obtain ⟨x2, us2, hx2, hu2, rfl⟩ := dvs_cons_some hu1
  obtain ⟨x3, us3, hx3, hu3, rfl⟩ := dvs_cons_some hu2
  obtain ⟨x4, us4, hx4, hu4, rfl⟩ := dvs_cons_some hu3
  obtain ⟨x5, us5, hx5, hu5, rfl⟩ := dvs_cons_some hu4
  cases hu5
  obtain ⟨rfl, _⟩ := dv_int hx1
  obtain ⟨rfl, _⟩ := dv_int hx2
  obtain ⟨rfl, _⟩ := dv_int hx3
  obtain ⟨rfl, _⟩ := dv_int hx4
  obtain ⟨rfl, _⟩ := dv_int hx5
  obtain ⟨b, hb, hr⟩ := hm.rel i _ hid
  simp only [dv, hb, Option.map_some, Option.some.injEq] at hx0
  subst hx0
  have hkd := row_kd hr
  obtain ⟨e1, e2, e3, e4, e5, _⟩ := hr
  obtain ⟨h1, h2, h3⟩ := chkF_spec (fun i => ρ.f 0 [i]) (den ρ n) (den ρ q) (den ρ le) (den ρ mo) (den ρ de) (den ρ sl) e3
  have hl : ((List.range (den ρ n).toNat).map fun (i : Nat) => ρ.f 0 [(i : Int)]).length = b.len := by simp [e1]
  have hd : den ρ (.app 200 (.cons n (.cons q (.cons le (.cons mo (.cons de (.cons sl .nil))))))) = chkF (fun i => ρ.f 0 [i]) [den ρ n, den ρ q, den ρ le, den ρ mo, den ρ de, den ρ sl] := hC _
  refine comes_of_below hm (z := .int .i64 (chkF (fun i => ρ.f 0 [i]) [den ρ n, den ρ q, den ρ le, den ρ mo, den ρ de, den ρ sl])) ?_ ?_
  · rw [← hd]
    exact dv_int_mk (by rw [hd]; exact in_i64 (by omega))
  · have := conf_Check.calls 100 b.addr b.cap _ (den ρ q) (den ρ le) (den ρ mo) (den ρ de) (den ρ sl) _ w (by rw [hl]; exact hkd) (by rw [hl]; omega) h1
    rw [hl] at this
    exact this
end Go.Proofs.Ytableianhaojcaa.L
