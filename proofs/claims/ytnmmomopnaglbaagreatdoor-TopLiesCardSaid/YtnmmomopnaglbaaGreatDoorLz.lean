/- What the law's function 'votes' comes to where it takes nothing of the first row. -/
import Derived.Test.YtnmmomopnaglbaaGreatDoorLv
import Derived.Deep.Upon
namespace Go.Proofs.YtnmmomopnaglbaaGreatDoor.Lv
open Go.RowKit Go.Shelf Go.Sort Go.Proofs.YtnmmomopnaglbaaGreatDoor
set_option linter.unusedVariables false
set_option linter.unusedSimpArgs false
theorem src_none {P : Program} {size : Nat} {tx e' : TypeId} (hk : P.underlying tx = some (.slice e')) (ao : Option Addr) (c : Nat) (w : World) : Src P size tx (.slice ao 0 c) 0 [] w := by
  refine ⟨.inl ⟨e', hk⟩, fun _ => rfl, ?_, ?_, by simp, by simp⟩ <;> cases ao <;> simp [Builtin.firstCells, loadCells, loadCellsFrom]
/-- NOTHING IS APPENDED, at a step of a region that draws. -/
theorem step_append_none {P : Program} {w : World} {ops : Array Oper} {o : Oper} {a : Act} {K : Act → World → Prop} {Q : Exit → Act → World → Prop} {E : Prop} (hgd : o.guard = none) (s x : Operand) (t : TypeId)
    (ho : o.op = .call { callee := .builtin .append, args := #[s, x], argTypes := #[t, t] })
    (e : TypeId) (i : TypeInfo) (ht : P.underlying t = some (.slice e)) (hi : P.info? e = some i) (bs : Option Addr) (sl sc : Nat) (hle : sl ≤ sc) (hs : a.eval s = .slice bs sl sc)
    (ao : Option Addr) (c : Nat) (hx : a.eval x = .slice ao 0 c) (h : K (a.put o.dst (.slice bs sl sc)) w) :
    if Region.wanted o (yielded ops a.tmps) = true then Oper.wp P o a w K Q else E := by
  have hw : Region.wanted o (yielded ops a.tmps) = true := by simp [Region.wanted, hgd]
  rw [if_pos hw]
  have hr := run_append_nothing (P := P) w t t o.type e i ht hi bs sl sc hle (.slice ao 0 c) (src_none ht ao c w)
  unfold Oper.wp execOp
  simp only [ho, resolve, invoke, builtin, Sem.run_bind, Sem.run_pure, Result.andThen_ok, List.map_toArray, List.map_cons, List.map_nil, hs, hx, hr]
  exact h
set_option maxHeartbeats 2000000 in
set_option maxRecDepth 1000000 in
theorem votes0 (la : Value) (Bn Bh hb ho m hc : Nat) (ys : List Int) (w : World) (hla : la = .slice none 0 0 ∨ ∃ p l c, la = .slice (some p) l c ∧ l ≤ c) (hn : w.cell? ⟨Bn, 0, none⟩ = some (.int .i64 0)) (hh : w.cell? ⟨Bh, 0, none⟩ = some (.slice (some ⟨hb, ho, none⟩) m hc))
    (hm0 : 0 < m) (hnm : m ≤ 1000) (hy : ys.length = m)
    (hH : ∀ (j : Nat) (u : Value), (ys.map (Value.int .i64))[j]? = some u → w.cell? ⟨hb, ho + j, none⟩ = some u) :
    Calls Tryz.prog 9 #[la, .pointer (some ⟨Bn, 0, none⟩), .pointer (some ⟨Bh, 0, none⟩)] w fun e w' =>
      ∃ g cap, e = .returned (.slice (some ⟨g, 0, none⟩) m cap) ∧ w'.ownsRow w.heap.size 50 6 (.slice (some ⟨g, 0, none⟩) m cap) m (ys.flatMap Lc.vote) ∧ Below w.heap.size w w' := by
  obtain ⟨i0, hi, hz0, hz1, hz2⟩ := info_parts Lq.info2
  obtain ⟨j0, hj, hj0, hj1, hj2⟩ := info_parts info50
  have hfollows := follows
  have lt0 : ∀ {p : Addr} {v : Value}, w.cell? p = some v → p.block < w.heap.size := fun h => World.block_lt_of_cell? w _ h
  have L2 : ∀ (j : Nat) (u : Value), (ys.map (Value.int .i64))[j]? = some u → (w.alloc (.cells #[] 2)).drew.cell? ((⟨hb, ho, none⟩ : Addr).add j) = some u := fun j u hu => by
    have h := hH j u hu
    have e : ((⟨hb, ho, none⟩ : Addr).add j) = ⟨hb, ho + j, none⟩ := by simp [Addr.add]
    rw [e]
    exact (World.cell?_alloc_past _ _ _ (lt0 h)).trans h
  have up1 : ∀ (w1 : World), (w.alloc (.cells #[] 2)).drew.grownBy w1 (some w.heap.size) → Below w.heap.size w w1 := fun w1 hg =>
    ((((Below.refl _ w).alloc (Nat.le_refl _) (.cells #[] 2)).drew).grown hg (by simp) (fun k hk => by cases hk; exact Nat.le_refl _))
  rcases hla with rfl | ⟨p, l, c, rfl, hlc⟩
  all_goals
    (go_enter Tryz.func9, Tryz.ntmps9
     go_wp2
     have O0 : (w.alloc (.cells #[] 2)).drew.ownsRow w.heap.size 2 1 (.slice (some ⟨w.heap.size, 0, none⟩) 0 0) 0 [] := ⟨rfl, .inr ⟨w.heap.size, 0, #[], rfl, Nat.le_refl _, heap_alloc_new w _, Nat.le_refl _, Nat.zero_le _, rfl, rfl⟩⟩
     go_region_held_law (fun w' => w'.cell? ⟨Bn, 0, none⟩ = some (.int .i64 0) ∧ w'.cell? ⟨Bh, 0, none⟩ = some (.slice (some ⟨hb, ho, none⟩) m hc)) (first | go_keep | (exact ⟨(hup.cell (lt0 hn)).trans hn, (hup.cell (lt0 hh)).trans hh⟩))
      (first
        | ((refine step_append_none (by rfl) _ _ _ (by rfl) 2 i0 Tryz.underlying34 hi (some ⟨w.heap.size, 0, none⟩) 0 0 (Nat.le_refl _) (by rfl) _ _ (by rfl) ?_))
        | ((refine step_append_lies _ (by rfl) _ _ _ (by rfl) w.heap.size 2 i0 (.int .i64 0) 1 8 Tryz.underlying34 hi hz0 hz1 hz2 rfl (by decide) (.slice (some ⟨w.heap.size, 0, none⟩) 0 0) 0 [] (by rfl) O0 ⟨hb, ho, none⟩ m hc (ys.map (Value.int .i64)) (by rfl) (by simp [hy]) L2 (by intro u hu; obtain ⟨x, _, rfl⟩ := List.mem_map.1 hu; rfl) hm0 (by unfold maxLen; omega) (by omega) (by simp) _ rfl ?_; intro g2 cap2 w2 hown2 hgrow2 hat2 hlt2; have hup := up1 w2 hgrow2; clear hgrow2 hat2))))
  all_goals go_wp2
  all_goals (rename_i dst d heq; obtain rfl : 14 = d := Option.some.inj heq; clear heq; simp only [List.set_cons_succ, List.set_cons_zero]; simp only [Nat.zero_add, List.nil_append] at hown2)
  all_goals (have hcells : ∀ (j : Nat) (x : Int), ys[j]? = some x → w2.cell? ⟨g2, j, none⟩ = some (.int .i64 x) := fun j x hx => Lq.row_cell hown2 (by rw [List.getElem?_map, hx]; rfl))
  all_goals (have hbel2 := hup; clear hup hown2 up1 O0 L2 hH)
  all_goals
    (go_loopw [5, 16] (fun v i wr => ∃ k : Nat, k ≤ m ∧ i = .int .i64 k ∧ wr.ownsRow w2.heap.size 50 6 v k ((ys.take k).flatMap Lc.vote) ∧ Below w2.heap.size w2 wr)
      (fun _ i _ => m - (intOf i).toNat)
     case atStart => exact ⟨0, Nat.zero_le _, rfl, World.ownsRow_nil _ _ _ _, Below.refl _ _⟩
     case round =>
      obtain ⟨k, hk, rfl, hown, hbel⟩ := hrel
      by_cases hlt : k < m
      · have hx : ys[k]? = some (ys.getD k 0) := by
          rw [List.getD_eq_getElem?_getD, List.getElem?_eq_getElem (by omega)]; rfl
        have c0 : wr.cell? ⟨g2, k, none⟩ = some (.int .i64 (ys.getD k 0)) := (hbel.cell (p := ⟨g2, k, none⟩) hlt2).trans (hcells k _ hx)
        obtain ⟨x, hxe⟩ : ∃ x, ys.getD k 0 = x := ⟨_, rfl⟩
        rw [hxe] at c0 hx
        clear hcells
        go_wp2_with (at_builtin; refine wpList_append_own _ rfl _ _ 46 rfl w2.heap.size 50 j0 (.agg #[.int .i64 0, .int .i64 0, .int .i64 0, .int .i64 0, .int .i64 0, .int .i64 0]) 6 48 Tryz.underlying46 hj hj0 hj1 hj2 rfl (by decide) _ _ _ rfl (hown.alloc _) ⟨wr.heap.size, 0, none⟩ 1 1 (Lc.vote x) rfl rfl ?c1 ?c2 ?c3 ?c4 ?c5 ?_)
        case c1 => exact new_cells wr x
        case c2 => exact vote_one x
        case c3 => unfold maxLen; omega
        case c4 => omega
        case c5 => simp; have := hbel.size; omega
        · intro v' w1 hown' hgrow _
          rw [← take_vote ys k x hx] at hown'
          have hb1 : Below w2.heap.size w2 w1 := (hbel.alloc hbel.size _).grown hgrow (by simp; have := hbel.size; omega) (fun q hq => (hown.lt q hq).1)
          clear hown hgrow c0
          go_wp2
          go_roundw
          case rel => exact ⟨k + 1, by omega, by simp, hown', hb1⟩
          case measure => simp [intOf]; omega
      · have hkn : k = m := by omega
        rw [hkn] at hown ⊢
        rw [List.take_of_length_le (by omega)] at hown
        rcases hown.2 with ⟨_, h⟩ | ⟨g', cap', cur, hv, hbase, hb', h1, h2, h3, h4⟩
        · omega
        subst hv
        have hres : wr.ownsRow w.heap.size 50 6 (.slice (some ⟨g', 0, none⟩) (m) cap') (m) (ys.flatMap Lc.vote) := ⟨hown.1, .inr ⟨g', cap', cur, rfl, Nat.le_trans hbel2.size hbase, hb', h1, h2, h3, h4⟩⟩
        have hbb : Below w.heap.size w wr := hbel2.trans (hbel.mono hbel2.size)
        clear hown hcells hbel hbel2 hb' h4
        go_wp2
        go_ret
        exact ⟨_, _, rfl, hres, hbb⟩)
end Go.Proofs.YtnmmomopnaglbaaGreatDoor.Lv
