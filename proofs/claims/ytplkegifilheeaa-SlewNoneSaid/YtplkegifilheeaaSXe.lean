/- Symbolic execution of the model's code, part 5: loads, literals, builtins; all operations that only compute or read, together. -/
import Derived.Test.YtplkegifilheeaaSXd
import Derived.Laws.BytesString
namespace Go.SX
set_option linter.unusedSimpArgs false
set_option linter.unusedVariables false
variable {bs : List Ent} {ρ : Env} {P : Program} {w : World}

theorem run_isAgg {t : TypeId} {d : TypeDesc} (h : P.underlying t = some d) (w : World) : (isAgg t).run P w = .ok (aggD d) w := by
  unfold isAgg
  rw [Sem.run_bind, run_underlying h w]
  cases d <;> rfl

theorem add_at (b o j : Nat) : (⟨b, o, none⟩ : Addr).add j = ⟨b, o + j, none⟩ := by
  unfold Addr.add; split <;> simp_all

theorem run_loadVar_agg {t : TypeId} {d : TypeDesc} {g off : Nat} {vs : List Value} (hu : P.underlying t = some d) (ha : aggD d = true) (hs : sizeA P t = some vs.length)
    (hc : ∀ (j : Nat) v, vs[j]? = some v → w.cell? ⟨g, off + j, none⟩ = some v) : (loadVar t ⟨g, off, none⟩).run P w = .ok (.agg vs.toArray) w := by
  have hl := run_loadCells_list (P := P) w ⟨g, off, none⟩ vs (fun j v hv => by rw [add_at]; exact hc j v hv)
  simp [loadVar, run_isAgg hu, ha, run_sizeA hs, hl]
theorem run_loadVar_one {t : TypeId} {d : TypeDesc} {g off : Nat} {v : Value} (hu : P.underlying t = some d) (ha : aggD d = false)
    (hc : w.cell? ⟨g, off, none⟩ = some v) : (loadVar t ⟨g, off, none⟩).run P w = .ok v w := by
  simp [loadVar, run_isAgg hu, ha, hc]

theorem dvl_rowAt (row : List (IntKind × Nat)) (i : SE) (h : ∀ (j : Nat) p, row[j]? = some p → inR p.1 (ρ.f p.2 [den ρ i]) = true) :
    dvl bs ρ (rowAt row i) = some (row.map fun p => .int p.1 (ρ.f p.2 [den ρ i])) := by
  induction row with
  | nil => rfl
  | cons p r ih =>
    have : rowAt (p :: r) i = .int p.1 (.app p.2 (.cons i .nil)) :: rowAt r i := rfl
    rw [this]
    have h0 := h 0 p rfl
    have ih' := ih (fun j q hq => h (j + 1) q (by simpa using hq))
    simp [dvl, dv_int_mk (bs := bs) (k := p.1) (e := .app p.2 (.cons i .nil)) h0, ih', den, dens]

theorem loadA_sound {mem : List AObj} {t : TypeId} {x r : AV} {reqs : List SE} {u : Value} (hm : MRel bs ρ mem w) (hx : dv bs ρ x = some u) (h : loadA P mem t x = some (reqs, r))
    (hr : ∀ c ∈ reqs, evB ρ c = true) : ∃ z, dv bs ρ r = some z ∧ (Instr.loadAt t u).run P w = .ok z w := by
  unfold loadA at h
  split at h
  · rename_i d n hu hs
    split at h
    · rename_i id off
      split at h
      · rename_i c ty own gr ho
        obtain ⟨b, hb, vs, tail, hvs, hheap, _, hb0⟩ := hm _ _ ho
        simp only [dv, hb, Option.map_some, Option.some.injEq, hb0, Nat.zero_add] at hx
        subst hx
        have hcell : ∀ (j : Nat) v, vs[j]? = some v → w.cell? ⟨b.blk, j, none⟩ = some v := fun j v hv => by
          rw [cell_of_row w b.blk j _ ty (0, 0) hheap]
          simp only [List.getElem?_toArray]
          rw [List.getElem?_append_left (List.getElem?_eq_some_iff.1 hv).1]
          exact hv
        simp only [Option.map_eq_some_iff, Prod.mk.injEq] at h
        obtain ⟨a, ha, rfl, rfl⟩ := h
        split at ha
        · rename_i hd
          simp only [takeC] at ha
          split at ha
          · rename_i hle
            simp only [Option.map_some, Option.some.injEq] at ha
            subst ha
            have hlen := dvl_length hvs
            refine ⟨_, by simp only [dv, dvs_ofList, dvl_take (dvl_drop hvs off) n, Option.map_some]; rfl, ?_⟩
            show (loadVar t _).run P w = _
            refine run_loadVar_agg hu hd (by rw [hs]; congr 1; simp; omega) (fun j v hv => ?_)
            have := List.getElem?_take (l := vs.drop off) (i := n) (j := j)
            rw [this] at hv
            split at hv
            · exact hcell _ v (by simpa using hv)
            · cases hv
          · cases ha
        · rename_i hd
          obtain ⟨v, hv, hdv⟩ := dvl_get hvs ha
          exact ⟨v, hdv, run_loadVar_one hu (by simpa using hd) (hcell _ v hv)⟩
      · rename_i m cap row ty ho
        obtain ⟨b, hb, _, _, e3, e4, e5, e6⟩ := hm _ _ ho
        simp only [dv, hb, Option.map_some, Option.some.injEq] at hx
        subst hx
        simp only [Option.map_eq_some_iff, Prod.mk.injEq] at h
        obtain ⟨a, ha, rfl, rfl⟩ := h
        have h2 := hr _ (List.mem_singleton.2 rfl)
        rw [evB_mkCmp] at h2
        replace h2 : ((off / row.length : Nat) : Int) < den ρ m := of_decide_eq_true h2
        obtain ⟨_, _, hcs⟩ := e6 (Int.lt_of_lt_of_le (Int.lt_of_le_of_lt (Int.natCast_nonneg _) h2) e4)
        have hlt : off / row.length < (den ρ cap).toNat := by omega
        have hvs := dvl_rowAt (bs := bs) (ρ := ρ) row (.lit (off / row.length : Nat)) (fun j p hp => (hcs _ j p hlt hp).2)
        have hden : den ρ (.lit (off / row.length : Nat)) = ((off / row.length : Nat) : Int) := rfl
        rw [hden] at hvs
        generalize hvl : (row.map fun p => Value.int p.1 (ρ.f p.2 [((off / row.length : Nat) : Int)])) = vs at hvs
        have hcell : ∀ (j : Nat) v, vs[j]? = some v → w.cell? ⟨b.blk, b.base + (off / row.length * row.length + j), none⟩ = some v := fun j v hv => by
          rw [← hvl, List.getElem?_map, Option.map_eq_some_iff] at hv
          obtain ⟨p, hp, rfl⟩ := hv
          exact (hcs _ j p hlt hp).1
        have hoff : off / row.length * row.length + off % row.length = off := by rw [Nat.mul_comm]; exact Nat.div_add_mod off row.length
        split at ha
        · rename_i hd
          simp only [takeC] at ha
          split at ha
          · rename_i hle
            simp only [Option.map_some, Option.some.injEq] at ha
            subst ha
            have hlen := dvl_length hvs
            refine ⟨_, by simp only [dv, dvs_ofList, dvl_take (dvl_drop hvs (off % row.length)) n, Option.map_some]; rfl, ?_⟩
            show (loadVar t _).run P w = _
            refine run_loadVar_agg hu hd (by rw [hs]; congr 1; simp; omega) (fun j v hv => ?_)
            have := List.getElem?_take (l := vs.drop (off % row.length)) (i := n) (j := j)
            rw [this] at hv
            split at hv
            · have := hcell (off % row.length + j) v (by simpa using hv)
              rw [← Nat.add_assoc (off / row.length * row.length), hoff] at this
              rw [Nat.add_assoc]
              exact this
            · cases hv
          · cases ha
        · rename_i hd
          obtain ⟨v, hv, hdv⟩ := dvl_get hvs ha
          have := hcell _ v hv
          rw [hoff] at this
          exact ⟨v, hdv, run_loadVar_one hu (by simpa using hd) this⟩
      · cases h
    · rename_i id i s off
      split at h
      · rename_i m cap row ty ho
        split at h
        · rename_i hsr
          obtain ⟨b, hb, _, _, e3, e4, e5, e6⟩ := hm _ _ ho
          simp only [dv, hb, Option.map_some, Option.some.injEq] at hx
          subst hx
          simp only [Option.map_eq_some_iff, Prod.mk.injEq] at h
          obtain ⟨a, ha, rfl, rfl⟩ := h
          have h1 := hr _ (List.mem_cons_self ..)
          have h2 := hr _ (List.mem_cons_of_mem _ (List.mem_singleton.2 rfl))
          rw [evB_mkCmp] at h1 h2
          replace h1 : 0 ≤ den ρ i := of_decide_eq_true h1
          replace h2 : den ρ i < den ρ m := of_decide_eq_true h2
          obtain ⟨_, _, hcs⟩ := e6 (by omega)
          have hlt : (den ρ i).toNat < (den ρ cap).toNat := by omega
          have hii : ((den ρ i).toNat : Int) = den ρ i := by omega
          have hvs := dvl_rowAt (bs := bs) (ρ := ρ) row i (fun j p hp => by have := (hcs _ j p hlt hp).2; rw [hii] at this; exact this)
          generalize hvl : (row.map fun p => Value.int p.1 (ρ.f p.2 [den ρ i])) = vs at hvs
          have hcell : ∀ (j : Nat) v, vs[j]? = some v → w.cell? ⟨b.blk, b.base + ((den ρ i).toNat * s + j), none⟩ = some v := fun j v hv => by
            rw [← hvl, List.getElem?_map, Option.map_eq_some_iff] at hv
            obtain ⟨p, hp, rfl⟩ := hv
            rw [hsr, (hcs _ j p hlt hp).1, hii]
          split at ha
          · rename_i hd
            simp only [takeC] at ha
            split at ha
            · rename_i hle
              simp only [Option.map_some, Option.some.injEq] at ha
              subst ha
              have hlen := dvl_length hvs
              refine ⟨_, by simp only [dv, dvs_ofList, dvl_take (dvl_drop hvs off) n, Option.map_some]; rfl, ?_⟩
              show (loadVar t _).run P w = _
              refine run_loadVar_agg hu hd (by rw [hs]; congr 1; simp; omega) (fun j v hv => ?_)
              have := List.getElem?_take (l := vs.drop off) (i := n) (j := j)
              rw [this] at hv
              split at hv
              · rw [Nat.add_assoc, Nat.add_assoc]; exact hcell (off + j) v (by simpa using hv)
              · cases hv
            · cases ha
          · rename_i hd
            obtain ⟨v, hv, hdv⟩ := dvl_get hvs ha
            exact ⟨v, hdv, run_loadVar_one hu (by simpa using hd) (hcell off v hv)⟩
        · cases h
      · cases h
    · cases h
  · cases h

/-! ### literals -/
theorem foldl_set (off : Nat) : ∀ (vs : List Value) (i : Nat) (cells : Array Value), off + i + vs.length ≤ cells.size →
    ((vs.zipIdx i).foldl (fun cs (p : Value × Nat) => cs.setIfInBounds (off + p.2) p.1) cells).toList = cells.toList.take (off + i) ++ vs ++ cells.toList.drop (off + i + vs.length)
  | [], i, cells, h => by simp
  | v :: vs, i, cells, h => by
    simp only [List.length_cons] at h
    simp only [List.zipIdx_cons, List.foldl_cons]
    rw [foldl_set off vs (i + 1) _ (by simp; omega)]
    simp only [Array.toList_setIfInBounds, List.length_cons]
    have hlt : off + i < cells.toList.length := by simp; omega
    apply List.ext_getElem?
    intro j
    simp only [List.append_assoc, List.getElem?_append, List.length_take, List.length_set, List.getElem?_take, List.getElem?_drop, List.getElem?_set, List.length_cons]
    have e1 : min (off + (i + 1)) cells.toList.length = off + i + 1 := by simp at hlt ⊢; omega
    have e2 : min (off + i) cells.toList.length = off + i := by simp at hlt ⊢; omega
    rw [e1, e2]
    by_cases h1 : j < off + i
    · simp [h1, show j < off + i + 1 by omega, show j < off + (i + 1) by omega, show ¬ off + i = j by omega]
    · by_cases h2 : j = off + i
      · subst h2
        simp [show off + i < off + (i + 1) by omega]
        simpa using hlt
      · simp only [h1, show ¬ j < off + i + 1 by omega, if_false]
        rw [show j - (off + i) = (j - (off + i + 1)) + 1 by omega]
        simp only [List.getElem?_cons_succ, Nat.add_lt_add_iff_right]
        by_cases h3 : j - (off + i + 1) < vs.length
        · simp [h3]
        · simp only [h3, if_false]
          rw [if_neg (by omega)]
          congr 1
          omega

theorem fillA_sound (place : Nat → Option (Nat × Nat)) : ∀ (ps : List (Nat × AV)) (qs : List (Nat × Value)) (cells out : List AV) (vs : List Value),
    dvl bs ρ cells = some vs → ps.length = qs.length → (∀ (i : Nat) p q, ps[i]? = some p → qs[i]? = some q → p.1 = q.1 ∧ dv bs ρ p.2 = some q.2) → fillA place cells ps = some out →
    ∃ us, dvl bs ρ out = some us ∧ Instr.fill place vs.toArray qs = some us.toArray
  | [], qs, cells, out, vs, hc, hl, _, h => by
    cases qs with
    | nil => cases h; exact ⟨vs, hc, rfl⟩
    | cons _ _ => simp at hl
  | (i, a) :: ps, qs, cells, out, vs, hc, hl, hp, h => by
    cases qs with
    | nil => simp at hl
    | cons q qs =>
      obtain ⟨j, v⟩ := q
      obtain ⟨rfl, hdv⟩ := hp 0 (i, a) (j, v) rfl rfl
      simp only [fillA] at h
      split at h
      · cases h
      · rename_i off size hpl
        split at h
        · cases h
        · rename_i hle
          simp only [Bool.or_eq_true, decide_eq_true_eq, not_or, ne_eq, Decidable.not_not] at hle
          have hcl := dv_cells hdv
          have hlen := dvl_length hcl
          have hlen2 := dvl_length hc
          simp only [Array.length_toList] at hlen
          obtain ⟨us, hus, hfill⟩ := fillA_sound place ps qs _ out (vs.take off ++ v.cells.toList ++ vs.drop (off + a.cells.length))
            (dvl_append (dvl_append (dvl_take hc off) hcl) (dvl_drop hc _)) (by simpa using hl) (fun k p q h1 h2 => hp (k + 1) p q (by simpa using h1) (by simpa using h2)) h
          refine ⟨us, hus, ?_⟩
          simp only [Instr.fill, hpl]
          have hz1 : v.cells.size = a.cells.length := hlen
          rw [if_neg (by simp only [List.size_toArray, Bool.or_eq_true, decide_eq_true_eq, not_or, ne_eq, Decidable.not_not]; omega)]
          rw [← hfill]
          congr 1
          apply Array.ext'
          have := foldl_set off v.cells.toList 0 vs.toArray (by simp; omega)
          simp only [Nat.add_zero, Array.length_toList, hlen] at this
          rw [← Array.foldl_toList]
          simpa using this

theorem partsA_sound {ev : Operand → Option AV} {e : Operand → Value} (hev : ∀ x a, ev x = some a → dv bs ρ a = some (e x)) :
    ∀ {ps : List (Nat × Operand)} {out : List (Nat × AV)}, partsA ev ps = some out → out.length = ps.length ∧
      ∀ (i : Nat) p q, out[i]? = some p → (ps.map fun (i, x) => (i, e x))[i]? = some q → p.1 = q.1 ∧ dv bs ρ p.2 = some q.2
  | [], out, h => by cases h; simp
  | (j, x) :: ps, out, h => by
    simp only [partsA, Option.bind_eq_some_iff, Option.map_eq_some_iff] at h
    obtain ⟨a, ha, l, hl, rfl⟩ := h
    obtain ⟨h1, h2⟩ := partsA_sound hev hl
    refine ⟨by simp [h1], fun i p q hp hq => ?_⟩
    cases i with
    | zero => simp at hp hq; subst hp; subst hq; exact ⟨rfl, hev _ _ ha⟩
    | succ i => exact h2 i p q (by simpa using hp) (by simpa using hq)

theorem zeroA_sound {t : TypeId} {a : AV} (h : zeroA P t = some a) (w : World) : ∃ z, dv bs ρ a = some z ∧ (zeroValue t).run P w = .ok z w := by
  simp only [zeroA, Option.bind_eq_some_iff] at h
  obtain ⟨v, ⟨i, hi, hz⟩, hv⟩ := h
  exact ⟨v, ofV_sound hv, by simp [zeroValue, typeInfo, hi, hz]⟩

theorem places_sound : ∀ {fs : List Field} {pl : List (Nat × Nat)}, places P fs = some pl → ∀ w : World,
    (fs.mapM fun f => (do pure (f.offset, ← sizeOf f.type) : Sem (Nat × Nat))).run P w = .ok pl w
  | [], pl, h, w => by cases h; rfl
  | f :: fs, pl, h, w => by
    simp only [places, Option.bind_eq_some_iff, Option.map_eq_some_iff] at h
    obtain ⟨s, hs, l, hl, rfl⟩ := h
    have ih := places_sound hl w
    simp only [List.mapM_cons, Sem.run_bind, run_sizeA hs, Result.andThen_ok, Sem.run_pure] at ih ⊢
    rw [ih]
    rfl

theorem buildA_sound {t : TypeId} {ps : List (Nat × AV)} {qs : List (Nat × Value)} {r : AV} (hl : ps.length = qs.length)
    (hp : ∀ (i : Nat) p q, ps[i]? = some p → qs[i]? = some q → p.1 = q.1 ∧ dv bs ρ p.2 = some q.2) (h : buildA P t ps = some r) :
    ∃ z, dv bs ρ r = some z ∧ (Instr.build t qs.toArray).run P w = .ok z w := by
  simp only [buildA, Option.bind_eq_some_iff] at h
  obtain ⟨za, hza, h⟩ := h
  obtain ⟨z, hz, hrz⟩ := zeroA_sound (bs := bs) (ρ := ρ) hza w
  have hzc := dv_cells hz
  split at h
  · rename_i fs hu
    simp only [Option.bind_eq_some_iff, Option.map_eq_some_iff] at h
    obtain ⟨pl, hpl, c, hc, rfl⟩ := h
    obtain ⟨us, hus, hfill⟩ := fillA_sound (fun i => pl[i]?) ps qs za.cells c z.cells.toList hzc hl hp hc
    refine ⟨_, by simp only [dv, dvs_ofList, hus, Option.map_some]; rfl, ?_⟩
    have hm := places_sound hpl w
    have hm' : (fs.mapM fun f => (do pure (f.offset, ← sizeOf f.type) : Sem (Nat × Nat))).run P w = .ok pl.toArray w := by
      rw [Array.mapM_eq_mapM_toList, Sem.run_map]
      rw [hm]
      rfl
    have hfill' : Instr.fill (fun x => pl.toArray[x]?) z.cells qs = some us.toArray := by simpa using hfill
    simp only [Instr.build, Sem.run_bind, hrz, Result.andThen_ok, run_underlying hu, hm', List.toList_toArray, hfill', Sem.run_pure]
  · rename_i n e hu
    simp only [Option.bind_eq_some_iff, Option.map_eq_some_iff] at h
    obtain ⟨s, hs, c, hc, rfl⟩ := h
    obtain ⟨us, hus, hfill⟩ := fillA_sound _ ps qs za.cells c z.cells.toList hzc hl hp hc
    refine ⟨_, by simp only [dv, dvs_ofList, hus, Option.map_some]; rfl, ?_⟩
    simp only [Array.toArray_toList] at hfill
    simp only [Instr.build, Sem.run_bind, hrz, Result.andThen_ok, run_underlying hu, run_sizeA hs, List.toList_toArray, hfill, Sem.run_pure]
  · cases h

theorem evs_sound {ev : Operand → Option AV} {e : Operand → Value} (hev : ∀ x a, ev x = some a → dv bs ρ a = some (e x)) :
    ∀ {xs : List Operand} {l : List AV}, evs ev xs = some l → dvl bs ρ l = some (xs.map e)
  | [], l, h => by cases h; rfl
  | x :: xs, l, h => by
    simp only [evs, Option.bind_eq_some_iff, Option.map_eq_some_iff] at h
    obtain ⟨a, ha, r, hr, rfl⟩ := h
    simp [dvl, hev _ _ ha, evs_sound hev hr]

theorem lenA_sound {mem : List AObj} {t ty : TypeId} {x r : AV} {reqs : List SE} {u : Value} (hm : MRel bs ρ mem w) (hx : dv bs ρ x = some u) (h : lenA P mem t x = some (reqs, r)) (hr : ∀ c ∈ reqs, evB ρ c = true) :
    ∃ z, dv bs ρ r = some z ∧ (Builtin.len_ #[t] ty #[u]).run P w = .ok z w := by
  unfold lenA at h
  split at h
  · rename_i e id off n c hu
    cases h
    simp only [dv, Option.map_eq_some_iff] at hx
    obtain ⟨b, _, rfl⟩ := hx
    have h0 := hr _ (List.mem_cons_self ..)
    have h9 := hr _ (List.mem_cons_of_mem _ (List.mem_singleton.2 rfl))
    rw [evB_mkCmp] at h0 h9
    replace h0 : 0 ≤ den ρ n := of_decide_eq_true h0
    replace h9 : den ρ n ≤ 9223372036854775807 := of_decide_eq_true h9
    have hin : inR .i64 (den ρ n) = true := by
      unfold inR
      rw [decide_eq_true_eq]
      exact ⟨by have : IntKind.i64.min ≤ 0 := by decide
                omega, h9⟩
    refine ⟨_, dv_int_mk hin, ?_⟩
    have : ((den ρ n).toNat : Int) = den ρ n := by omega
    generalize (den ρ n).toNat = m at this
    simp [Builtin.len_, run_underlying hu, goInt, this]
  · rename_i e id hu
    split at h
    · rename_i n cap row ty2 ho
      cases h
      obtain ⟨b, hb, e1, e2, e3, e4, e5, e6⟩ := hm _ _ ho
      simp only [dv, hb, Option.map_some, Option.some.injEq] at hx
      subst hx
      have hin : inR .i64 (den ρ n) = true := by
        unfold inR
        rw [decide_eq_true_eq]
        exact ⟨by have : IntKind.i64.min ≤ 0 := by decide
                  omega, by have : IntKind.i64.max = 9223372036854775807 := by decide
                            omega⟩
      refine ⟨_, dv_int_mk hin, ?_⟩
      have : (b.len : Int) = den ρ n := by omega
      simp [Builtin.len_, run_underlying hu, goInt, this]
    · cases h
  · rename_i e id off n c hu
    cases h
    simp only [dv, Option.map_eq_some_iff] at hx
    obtain ⟨b, _, rfl⟩ := hx
    have h0 := hr _ (List.mem_cons_self ..)
    have h9 := hr _ (List.mem_cons_of_mem _ (List.mem_singleton.2 rfl))
    rw [evB_mkCmp] at h0 h9
    replace h0 : 0 ≤ den ρ n := of_decide_eq_true h0
    replace h9 : den ρ n ≤ 9223372036854775807 := of_decide_eq_true h9
    have hin : inR .i64 (den ρ n) = true := by
      unfold inR
      rw [decide_eq_true_eq]
      exact ⟨by have : IntKind.i64.min ≤ 0 := by decide
                omega, h9⟩
    refine ⟨_, dv_int_mk hin, ?_⟩
    have : ((den ρ n).toNat : Int) = den ρ n := by omega
    generalize (den ρ n).toNat = m at this
    simp [Builtin.len_, run_underlying hu, goInt, this]
  · rename_i e hu
    split at h
    · rename_i hir
      cases h; cases hx
      exact ⟨_, dv_int_mk (e := .lit _) hir, by simp [Builtin.len_, run_underlying hu, goInt, den]⟩
    · cases h
  · rename_i n e hu
    split at h
    · rename_i hir
      cases h
      exact ⟨_, dv_int_mk (e := .lit _) hir, by simp [Builtin.len_, run_underlying hu, goInt, den]⟩
    · cases h
  · rename_i s hu
    split at h
    · rename_i hir
      cases h; cases hx
      exact ⟨_, dv_int_mk (e := .lit _) hir, by simp [Builtin.len_, run_underlying hu, goInt, den]⟩
    · cases h
  · cases h

theorem maxA_sound (f : SE → SE → SE) (g : Value → Value → Sem Value) (G : Int → Int → Int) (hf : ∀ a b, den ρ (f a b) = G (den ρ a) (den ρ b)) (hg : ∀ k k' a b, g (.int k a) (.int k' b) = pure (.int k (G a b))) (hG : ∀ a b, G a b = a ∨ G a b = b) (k : IntKind) :
    ∀ {l : List AV} {a : SE} {r : AV} {vs : List Value}, inR k (den ρ a) = true → dvl bs ρ l = some vs → maxA f k a l = some r → ∃ z, dv bs ρ r = some z ∧ ∀ w : World, (vs.foldlM g (.int k (den ρ a))).run P w = .ok z w
  | [], a, r, vs, ha, hl, h => by cases hl; cases h; exact ⟨_, dv_int_mk ha, fun w => rfl⟩
  | x :: l, a, r, vs, ha, hl, h => by
    simp only [dvl, Option.bind_eq_some_iff, Option.map_eq_some_iff] at hl
    obtain ⟨u, hu, us, hus, rfl⟩ := hl
    cases x <;> simp only [maxA] at h <;> first | (cases h; done) | skip
    rename_i k' b
    split at h
    · rename_i hk
      obtain ⟨rfl, hb⟩ := dv_int hu
      rw [hk] at hb
      obtain ⟨z, hz, hrun⟩ := maxA_sound f g G hf hg hG k (by rw [hf]; rcases hG (den ρ a) (den ρ b) with e | e <;> rw [e] <;> assumption) hus h
      refine ⟨z, hz, fun w => ?_⟩
      rw [hf] at hrun
      simp only [List.foldlM_cons, hg, pure_bind]
      exact hrun w
    · cases h

theorem max2_sound (f : SE → SE → SE) (g : Value → Value → Sem Value) (G : Int → Int → Int) (hf : ∀ a b, den ρ (f a b) = G (den ρ a) (den ρ b)) (hg : ∀ k k' a b, g (.int k a) (.int k' b) = pure (.int k (G a b))) (hG : ∀ a b, G a b = a ∨ G a b = b)
    {l : List AV} {r : AV} {vs : List Value} (hl : dvl bs ρ l = some vs) (h : max2 f l = some r) : ∃ x rest z, vs = x :: rest ∧ dv bs ρ r = some z ∧ ∀ w : World, (rest.foldlM g x).run P w = .ok z w := by
  unfold max2 at h
  split at h
  · simp only [dvl, Option.bind_eq_some_iff, Option.map_eq_some_iff] at hl
    obtain ⟨u, hu, us, hus, rfl⟩ := hl
    obtain ⟨rfl, ha⟩ := dv_int hu
    obtain ⟨z, hz, hrun⟩ := maxA_sound (P := P) f g G hf hg hG _ ha hus h
    exact ⟨_, _, z, rfl, hz, hrun⟩
  · cases h

theorem builtinA_sound {mem : List AObj} {b : Builtin} {ts : Array TypeId} {ty : TypeId} {cs : Array Bool} {xs : List AV} {reqs : List SE} {r : AV} {vs : List Value} (hm : MRel bs ρ mem w) (hx : dvl bs ρ xs = some vs) (h : builtinA P mem b ts xs = some (reqs, r)) (hr : ∀ c ∈ reqs, evB ρ c = true) :
    ∃ z, dv bs ρ r = some z ∧ (builtin b ts ty cs vs.toArray).run P w = .ok (.value z) w := by
  unfold builtinA at h
  split at h
  · rename_i t x hts
    simp only [dvl, Option.bind_eq_some_iff, Option.map_eq_some_iff, Option.some.injEq] at hx
    obtain ⟨u, hu, us, rfl, rfl⟩ := hx
    obtain ⟨z, hz, hrun⟩ := lenA_sound (ty := ty) (w := w) hm hu h hr
    have hts' : ts = #[t] := by cases ts; simp_all
    exact ⟨z, hz, by simp [builtin, hts', hrun]⟩
  · simp only [Option.map_eq_some_iff, Prod.mk.injEq] at h
    obtain ⟨a, ha, rfl, rfl⟩ := h
    obtain ⟨x, rest, z, rfl, hz, hrun⟩ := max2_sound (P := P) mkMx Builtin.max2 _ (den_mkMx ρ) (fun _ _ _ _ => rfl) (fun a b => by show (if b > a then b else a) = a ∨ _; split <;> simp) hx ha
    exact ⟨z, hz, by simp [builtin, Builtin.max_, hrun]⟩
  · simp only [Option.map_eq_some_iff, Prod.mk.injEq] at h
    obtain ⟨a, ha, rfl, rfl⟩ := h
    obtain ⟨x, rest, z, rfl, hz, hrun⟩ := max2_sound (P := P) mkMn Builtin.min2 _ (den_mkMn ρ) (fun _ _ _ _ => rfl) (fun a b => by show (if b < a then b else a) = a ∨ _; split <;> simp) hx ha
    exact ⟨z, hz, by simp [builtin, Builtin.min_, hrun]⟩
  · cases h

theorem litOf_sound {x : Option AV} {v : Option Value} {o : Option Nat} (hx : ∀ a, x = some a → ∃ u, v = some u ∧ dv bs ρ a = some u) (hn : x = none → v = none) (h : litOf x = some o) :
    (o = none ∧ v = none) ∨ ∃ k n, o = some n ∧ v = some (.int k (n : Int)) := by
  unfold litOf at h
  split at h
  · cases h; exact .inl ⟨rfl, hn rfl⟩
  · rename_i k n
    split at h
    · rename_i h0
      cases h
      obtain ⟨u, hu, hd⟩ := hx _ rfl
      obtain ⟨rfl, _⟩ := dv_int hd
      refine .inr ⟨k, n.toNat, rfl, ?_⟩
      rw [hu]
      have : ((n.toNat : Nat) : Int) = n := by omega
      rw [this]; rfl
    · cases h
  · cases h

theorem run_sliceBound {k : IntKind} {n y : Nat} (code : BoundsCode) (h : n ≤ y) (w : World) : (Instr.sliceBound (.int k (n : Int)) y code).run P w = .ok n w := by
  have : (n : Int) ≤ (y : Int) := by omega
  simp [Instr.sliceBound, asIntOf, this, h]

theorem run_slice {t e : TypeId} {s : Nat} (hu : P.underlying t = some (.slice e)) (hs : sizeA P e = some s) {a : Addr} {len cap : Nat} {lo hi : Option Value} {l h : Nat}
    (hlo : (lo = none ∧ l = 0) ∨ ∃ k, lo = some (.int k (l : Int))) (hhi : (hi = none ∧ h = len) ∨ ∃ k, hi = some (.int k (h : Int)) ∧ h ≤ cap) (hlh : l ≤ h) (hc : l = 0 ∨ l < cap) (w : World) :
    (Instr.sliceAt t (.slice (some a) len cap) lo hi none).run P w = .ok (.slice (some (a.add (l * s))) (h - l) (cap - l)) w := by
  have hb : (Instr.sliceBounds true len cap lo hi none).run P w = .ok (l, h, cap) w := by
    rcases hlo with ⟨rfl, rfl⟩ | ⟨k, rfl⟩ <;> rcases hhi with ⟨rfl, rfl⟩ | ⟨k', rfl, hle⟩
    · simp [Instr.sliceBounds]
    · simp [Instr.sliceBounds, run_sliceBound _ hle]
    · simp [Instr.sliceBounds, run_sliceBound _ hlh]
    · simp [Instr.sliceBounds, run_sliceBound _ hle, run_sliceBound _ hlh]
  have hadd : (if cap = l then some a else (some a).map (·.add (l * s))) = some (a.add (l * s)) := by
    split
    · rename_i he
      have : l = 0 := by omega
      subst this
      simp [Addr.add]
    · rfl
  simp only [Instr.sliceAt, Sem.run_bind, run_underlying hu, Result.andThen_ok, Instr.slice, hb, run_sizeA hs, Sem.run_pure, hadd]

theorem sliceA_sound {mem : List AObj} {t : TypeId} {x r : AV} {lo hi : Option AV} {u : Value} {vl vh : Option Value} {reqs : List SE} (hm : MRel bs ρ mem w) (hx : dv bs ρ x = some u)
    (hl : ∀ a, lo = some a → ∃ u, vl = some u ∧ dv bs ρ a = some u) (hl' : lo = none → vl = none) (hh : ∀ a, hi = some a → ∃ u, vh = some u ∧ dv bs ρ a = some u) (hh' : hi = none → vh = none)
    (h : sliceA P mem t x lo hi = some (reqs, r)) (hr : ∀ c ∈ reqs, evB ρ c = true) : ∃ z, dv bs ρ r = some z ∧ (Instr.sliceAt t u vl vh none).run P w = .ok z w := by
  unfold sliceA at h
  split at h
  · rename_i e hu
    split at h
    · rename_i s lo' hi' hs hlo hhi
      have elo := litOf_sound hl hl' hlo
      have ehi := litOf_sound hh hh' hhi
      simp only at h
      generalize hlv : lo'.getD 0 = l at h
      have clo : (vl = none ∧ l = 0) ∨ ∃ k, vl = some (.int k (l : Int)) := by
        rcases elo with ⟨rfl, e2⟩ | ⟨k, n, rfl, e2⟩
        · exact .inl ⟨e2, hlv.symm⟩
        · exact .inr ⟨k, by rw [e2, ← hlv]; rfl⟩
      split at h
      · rename_i id
        simp only [dv, Option.map_eq_some_iff] at hx
        obtain ⟨b, hb, rfl⟩ := hx
        split at h
        · rename_i n cap row ty ho
          obtain ⟨b', hb', e1, e2, e3, e4, e5, e6⟩ := hm _ _ ho
          rw [hb] at hb'; cases hb'
          have subl : ∀ x : SE, (l : Int) ≤ den ρ x → den ρ x ≤ 9223372036854775807 → (den ρ (mkBin .sub .i64 x (.lit l))).toNat = (den ρ x).toNat - l := fun x h1 h2 => by
            rw [den_mkBin]
            have : binI .sub .i64 (den ρ x) (den ρ (.lit l)) = den ρ x - l := by
              show IntKind.i64.wrap (den ρ x - l) = _
              simp only [IntKind.wrap, IntKind.bits, IntKind.signed]
              simp
              omega
            rw [this]
            omega
          split at h
          · rename_i hv
            split at h
            · rename_i hle
              cases h
              have q := hr (mkCmp .leq (.lit hv) cap) (List.mem_append_right _ (List.mem_singleton.2 rfl))
              rw [evB_mkCmp] at q
              replace q : (hv : Int) ≤ den ρ cap := of_decide_eq_true q
              have q1 : l = 0 ∨ (l : Int) < den ρ cap := by
                by_cases h0 : l = 0
                · exact .inl h0
                · right
                  have := hr (mkCmp .lss (.lit l) cap) (List.mem_append_left _ (by simp [h0]))
                  rw [evB_mkCmp] at this
                  exact of_decide_eq_true this
              obtain ⟨e7, _⟩ := e6 (by omega)
              have chi : ∃ k, vh = some (.int k (hv : Int)) := by
                rcases ehi with ⟨e1, _⟩ | ⟨k, n, e1, e2⟩
                · cases e1
                · cases e1; exact ⟨k, e2⟩
              obtain ⟨k, hk⟩ := chi
              refine ⟨_, by simp only [dv, hb, Option.map_some]; rfl, ?_⟩
              rw [e7, run_slice hu hs clo (.inr ⟨k, hk, by omega⟩) hle.1 (by omega) w, Addr.add_lit]
              have e8 : (den ρ (if l = 0 then cap else mkBin .sub .i64 cap (.lit l))).toNat = b.cap - l := by
                split
                · rename_i h0; rw [h0, e2]; rfl
                · rw [subl cap (by omega) e5, e2]
              rw [e8]
              rfl
            · cases h
          · split at h
            · cases h
            · rename_i h0
              cases h
              have q1 := hr (mkCmp .lss (.lit l) cap) (List.mem_cons_self ..)
              have q2 := hr (mkCmp .leq (.lit l) n) (List.mem_cons_of_mem _ (List.mem_singleton.2 rfl))
              rw [evB_mkCmp] at q1 q2
              replace q1 : (l : Int) < den ρ cap := of_decide_eq_true q1
              replace q2 : (l : Int) ≤ den ρ n := of_decide_eq_true q2
              obtain ⟨e7, _⟩ := e6 (by omega)
              have chi : vh = none := by
                rcases ehi with ⟨_, e2⟩ | ⟨k, n, e1, _⟩
                · exact e2
                · cases e1
              refine ⟨_, by simp only [dv, hb, Option.map_some]; rfl, ?_⟩
              rw [e7, run_slice hu hs clo (.inl ⟨chi, rfl⟩) (by omega) (by omega) w, Addr.add_lit, subl n q2 (by omega), subl cap (by omega) e5, e1, e2]
        · cases h
      · rename_i id off len cap
        simp only [dv, Option.map_eq_some_iff] at hx
        obtain ⟨b, hb, rfl⟩ := hx
        have capfacts : (∀ c ∈ (if l = 0 then [] else [mkCmp .lss (.lit l) cap, mkCmp .leq cap (.lit 9223372036854775807)]), evB ρ c = true) →
            (l = 0 ∨ l < (den ρ cap).toNat) ∧ (den ρ (if l = 0 then cap else mkBin .sub .i64 cap (.lit l))).toNat = (den ρ cap).toNat - l := by
          intro hq
          by_cases h0 : l = 0
          · simp [h0]
          · simp only [h0, if_false] at hq ⊢
            have q1 := hq _ (List.mem_cons_self ..)
            have q2 := hq _ (List.mem_cons_of_mem _ (List.mem_singleton.2 rfl))
            rw [evB_mkCmp] at q1 q2
            replace q1 : (l : Int) < den ρ cap := of_decide_eq_true q1
            replace q2 : den ρ cap ≤ 9223372036854775807 := of_decide_eq_true q2
            refine ⟨.inr (by omega), ?_⟩
            rw [den_mkBin]
            have : binI .sub .i64 (den ρ cap) (den ρ (.lit l)) = den ρ cap - l := by
              show IntKind.i64.wrap (den ρ cap - l) = _
              simp only [IntKind.wrap, IntKind.bits, IntKind.signed]
              simp
              omega
            rw [this]
            omega
        split at h
        · rename_i hv
          split at h
          · rename_i hle
            cases h
            obtain ⟨c1, c2⟩ := capfacts (fun c hc => hr c (List.mem_append_left _ hc))
            have q := hr (mkCmp .leq (.lit hv) cap) (List.mem_append_right _ (List.mem_singleton.2 rfl))
            rw [evB_mkCmp] at q
            replace q : (hv : Int) ≤ den ρ cap := of_decide_eq_true q
            have chi : ∃ k, vh = some (.int k (hv : Int)) := by
              rcases ehi with ⟨e1, _⟩ | ⟨k, n, e1, e2⟩
              · cases e1
              · cases e1; exact ⟨k, e2⟩
            obtain ⟨k, hk⟩ := chi
            refine ⟨_, by simp only [dv, hb, Option.map_some]; rfl, ?_⟩
            rw [run_slice hu hs clo (.inr ⟨k, hk, by omega⟩) hle c1 w, Addr.add_lit, c2, Nat.add_assoc]
            rfl
          · cases h
        · cases h
          obtain ⟨c1, c2⟩ := capfacts (fun c hc => hr c (List.mem_append_left _ hc))
          have q := hr (mkCmp .leq (.lit l) len) (List.mem_append_right _ (List.mem_cons_self ..))
          have q' := hr (mkCmp .leq len (.lit 9223372036854775807)) (List.mem_append_right _ (List.mem_cons_of_mem _ (List.mem_singleton.2 rfl)))
          rw [evB_mkCmp] at q q'
          replace q : (l : Int) ≤ den ρ len := of_decide_eq_true q
          replace q' : den ρ len ≤ 9223372036854775807 := of_decide_eq_true q'
          have chi : vh = none := by
            rcases ehi with ⟨_, e2⟩ | ⟨k, n, e1, _⟩
            · exact e2
            · cases e1
          have c3 : (den ρ (if l = 0 then len else mkBin .sub .i64 len (.lit l))).toNat = (den ρ len).toNat - l := by
            by_cases h0 : l = 0
            · simp [h0]
            · simp only [h0, if_false]
              rw [den_mkBin]
              have : binI .sub .i64 (den ρ len) (den ρ (.lit l)) = den ρ len - l := by
                show IntKind.i64.wrap (den ρ len - l) = _
                simp only [IntKind.wrap, IntKind.bits, IntKind.signed]
                simp
                omega
              rw [this]
              omega
          refine ⟨_, by simp only [dv, hb, Option.map_some]; rfl, ?_⟩
          rw [run_slice hu hs clo (.inl ⟨chi, rfl⟩) (by omega) c1 w, Addr.add_lit, c2, c3, Nat.add_assoc]
      · rename_i id off n skip
        simp only [dv, Option.map_eq_some_iff] at hx
        obtain ⟨b, hb, rfl⟩ := hx
        split at h
        · rename_i c ty own s' ho
          split at h
          · rename_i hcond
            obtain ⟨rfl, hs0, hn0, hoff, hlen, hlh, hhn, hl0⟩ := hcond
            cases h
            obtain ⟨b', hb', vs, tail, hvs, hheap, hg, _⟩ := hm _ _ ho
            rw [hb] at hb'; cases hb'
            obtain ⟨g1, g2⟩ := hg _ rfl
            have hvl := dvl_length hvs
            have hcap : skip + n.toNat ≤ b.cap := by
              have e1 : (skip + n.toNat) * s' ≤ b.cap * s' := by
                rw [← g1, List.length_append, Nat.add_mul]
                omega
              exact Nat.le_of_mul_le_mul_right e1 hs0
            have hden : (den ρ (.lit n)).toNat = n.toNat := rfl
            refine ⟨_, by simp only [dv, hb, Option.map_some]; rfl, ?_⟩
            have chi : (vh = none ∧ hi'.getD n.toNat = (den ρ (.lit n)).toNat) ∨ ∃ k, vh = some (.int k ((hi'.getD n.toNat : Nat) : Int)) ∧ hi'.getD n.toNat ≤ b.cap - skip := by
              rcases ehi with ⟨rfl, e2⟩ | ⟨k, m, rfl, e2⟩
              · exact .inl ⟨e2, rfl⟩
              · exact .inr ⟨k, e2, by omega⟩
            rw [run_slice hu hs clo chi hlh (by omega) w, Addr.add_lit, Nat.add_assoc]
            have e3 : b.cap - skip - l = b.cap - (skip + l) := by omega
            rw [e3]
            rfl
          · cases h
        · cases h
      · cases h
    · cases h
  · cases h

theorem bytesOf_sound : ∀ {l : List AV} {b : SE} {vs : List Value}, dvl bs ρ l = some vs → bytesOf l = some b → vs = (dens ρ b).map (fun n => Value.int .u8 n) ∧ (dens ρ b).all (inR .u8) = true
  | [], b, vs, hl, h => by cases hl; cases h; exact ⟨rfl, rfl⟩
  | a :: l, b, vs, hl, h => by
    simp only [dvl, Option.bind_eq_some_iff, Option.map_eq_some_iff] at hl
    obtain ⟨u, hu, us, hus, rfl⟩ := hl
    unfold bytesOf at h
    split at h
    · rename_i heq; cases heq
    · rename_i e r heq
      cases heq
      simp only [Option.map_eq_some_iff] at h
      obtain ⟨b', hb', rfl⟩ := h
      obtain ⟨rfl, hr⟩ := dv_int hu
      obtain ⟨h1, h2⟩ := bytesOf_sound hus hb'
      simp [dens, h1, hr]
      simpa using h2
    · cases h

theorem foldl_push (xs : List Int) : ∀ s : ByteArray, xs.foldl (fun r n => r.push (UInt8.ofNat n.toNat)) s = ⟨s.data ++ (xs.map fun n => n.toNat.toUInt8).toArray⟩ := by
  induction xs with
  | nil => intro s; simp
  | cons x xs ih =>
    intro s
    rw [List.foldl_cons, ih]
    congr 1
    apply Array.ext'
    simp [ByteArray.push]

theorem run_bytes {src dst e : TypeId} (hs : P.underlying src = some (.slice e)) (he : P.underlying e = some (.int .u8)) (hd : P.underlying dst = some .string) (xs : List Int) (a : Addr) (len cap : Nat) (hlen : xs.length = len)
    (h : ∀ (j : Nat) v, (xs.map (Value.int .u8))[j]? = some v → w.cell? (a.add j) = some v) :
    (convert src dst (.slice (some a) len cap)).run P w = .ok (.string ⟨(xs.map fun n => n.toNat.toUInt8).toArray⟩) w := by
  have hl := run_loadCells_list (P := P) w a (xs.map (Value.int .u8)) h
  simp only [List.length_map, hlen] at hl
  rw [run_convert_bytes_string w src dst e _ len cap hs he hd, run_bytesToString w a len cap xs hl, foldl_push]
  simp [ByteArray.empty, ByteArray.emptyWithCapacity]
  rfl

theorem dvl_rows (row : List (IntKind × Nat)) (n : Nat) (off : Nat) (h : ∀ (i j : Nat) p, i < n → row[j]? = some p → inR p.1 (ρ.f p.2 [((off + i : Nat) : Int)]) = true) :
    dvl bs ρ ((List.range n).flatMap fun j => rowAt row (.lit (off + j : Nat))) = some ((List.range n).flatMap fun j => row.map fun p => .int p.1 (ρ.f p.2 [((off + j : Nat) : Int)])) := by
  induction n with
  | zero => rfl
  | succ n ih =>
    rw [List.range_succ, List.flatMap_append, List.flatMap_append]
    refine dvl_append (ih fun i j p hi hp => h i j p (by omega) hp) ?_
    simp only [List.flatMap_cons, List.flatMap_nil, List.append_nil]
    exact dvl_rowAt row (.lit (off + n : Nat)) (fun j p hp => h n j p (by omega) hp)

theorem bytesA_sound {mem : List AObj} {src dst : TypeId} {x r : AV} {u : Value} {reqs : List SE} (hm : MRel bs ρ mem w) (hx : dv bs ρ x = some u) (h : bytesA P mem src dst x = some (reqs, r)) (hr : ∀ c ∈ reqs, evB ρ c = true) :
    ∃ z, dv bs ρ r = some z ∧ (convert src dst u).run P w = .ok z w := by
  unfold bytesA at h
  split at h
  · rename_i e hs hd
    split at h
    · rename_i he
      split at h
      · cases h; cases hx
        refine ⟨.string .empty, by simp [dv, dens]; rfl, ?_⟩
        rw [run_convert_bytes_string w src dst e _ 0 0 hs he hd]
        rfl
      · rename_i id off n sk
        split at h
        · rename_i c ty own g ho
          split at h
          · rename_i hn
            simp only [Option.bind_eq_some_iff, Option.map_eq_some_iff, Prod.mk.injEq] at h
            obtain ⟨l, hl, b, hb, rfl, rfl⟩ := h
            obtain ⟨en, hen, vs, tail, hvs, hheap, _, hb0⟩ := hm _ _ ho
            simp only [dv, hen, Option.map_some, Option.some.injEq, hb0, Nat.zero_add] at hx
            subst hx
            simp only [takeC] at hl
            split at hl
            · rename_i hle
              cases hl
              have hus := dvl_take (dvl_drop hvs off) n.toNat
              have hvl := dvl_length hvs
              obtain ⟨e1, e2⟩ := bytesOf_sound hus hb
              refine ⟨_, by simp only [dv, e2, if_true]; rfl, ?_⟩
              have hlen : (dens ρ b).length = n.toNat := by
                have := congrArg List.length e1
                simp only [List.length_map, List.length_take, List.length_drop] at this
                omega
              have hden : (den ρ (.lit n)).toNat = n.toNat := rfl
              rw [hden]
              refine run_bytes hs he hd _ _ _ _ hlen (fun j v hv => ?_)
              rw [← e1] at hv
              rw [add_at, cell_of_row w en.blk _ _ ty (0, 0) hheap]
              rw [List.getElem?_take] at hv
              split at hv
              · rw [List.getElem?_drop] at hv
                simp only [List.getElem?_toArray]
                rw [List.getElem?_append_left (List.getElem?_eq_some_iff.1 hv).1]
                exact hv
              · cases hv
            · cases hl
          · cases h
        · cases h
      · rename_i id off n cap
        split at h
        · rename_i m capm row ty ho
          split at h
          · rename_i hn
            obtain ⟨hn0, hrow⟩ := hn
            simp only [Option.map_eq_some_iff, Prod.mk.injEq] at h
            obtain ⟨b, hb, rfl, rfl⟩ := h
            obtain ⟨en, hen, _, _, e3, e4, e5, e6⟩ := hm _ _ ho
            simp only [dv, hen, Option.map_some, Option.some.injEq] at hx
            subst hx
            have h2 := hr (mkCmp .leq (.lit (off + n.toNat : Nat)) m) (List.mem_cons_self ..)
            have h3 := hr (mkCmp .lss (.lit 0) m) (List.mem_cons_of_mem _ (List.mem_singleton.2 rfl))
            rw [evB_mkCmp] at h2 h3
            replace h2 : ((off + n.toNat : Nat) : Int) ≤ den ρ m := of_decide_eq_true h2
            replace h3 : 0 < den ρ m := of_decide_eq_true h3
            obtain ⟨_, _, hcs⟩ := e6 (by omega)
            have hus := dvl_rows (bs := bs) (ρ := ρ) row n.toNat off (fun i j p hi hp => (hcs (off + i) j p (by omega) hp).2)
            obtain ⟨e1, e2⟩ := bytesOf_sound hus hb
            refine ⟨_, by simp only [dv, e2, if_true]; rfl, ?_⟩
            obtain ⟨p0, hp0⟩ := List.length_eq_one_iff.1 hrow
            subst hp0
            have hone : ((List.range n.toNat).flatMap fun j => [p0].map fun p => Value.int p.1 (ρ.f p.2 [((off + j : Nat) : Int)])) = (List.range n.toNat).map fun j => Value.int p0.1 (ρ.f p0.2 [((off + j : Nat) : Int)]) := by
              simp only [List.map_cons, List.map_nil]
              exact List.map_eq_flatMap.symm
            rw [hone] at e1
            have hlen : (dens ρ b).length = n.toNat := by
              have := congrArg List.length e1
              simpa using this.symm
            have hden : (den ρ (.lit n)).toNat = n.toNat := rfl
            rw [hden]
            refine run_bytes hs he hd _ _ _ _ hlen (fun j v hv => ?_)
            rw [← e1] at hv
            rw [add_at]
            rw [List.getElem?_map, Option.map_eq_some_iff] at hv
            obtain ⟨k, hk, rfl⟩ := hv
            have hj : j < n.toNat := by
              have := (List.getElem?_eq_some_iff.1 hk).1
              simpa using this
            rw [List.getElem?_range hj] at hk
            cases hk
            have := (hcs (off + j) 0 p0 (by omega) rfl).1
            simpa [Nat.add_assoc] using this
          · cases h
        · cases h
      · cases h
    · cases h
  · cases h

theorem pureA_sound {mem : List AObj} {ev : Operand → Option AV} {e : Operand → Value} (hev : ∀ x a, ev x = some a → dv bs ρ a = some (e x)) (hm : MRel bs ρ mem w)
    {o : Oper} {reqs : List SE} {r : AV} (h : pureA P mem ev o.op = some (reqs, r)) (hr : ∀ c ∈ reqs, evB ρ c = true) :
    ∃ z, dv bs ρ r = some z ∧ (execOp e o).run P w = .ok (.value z) w := by
  have val : ∀ (s : Sem Value) (z : Value), s.run P w = .ok z w → ((do pure (.value (← s))) : Sem Next).run P w = .ok (.value z) w := fun s z hs => by simp [hs]
  obtain ⟨dst, op, type, pos, after, guard⟩ := o
  simp only at h
  unfold pureA at h
  split at h
  · rename_i x
    simp only [Option.map_eq_some_iff, Prod.mk.injEq] at h
    obtain ⟨a, ha, rfl, rfl⟩ := h
    exact ⟨_, hev _ _ ha, rfl⟩
  · rename_i x
    simp only [Option.map_eq_some_iff, Prod.mk.injEq] at h
    obtain ⟨a, ha, rfl, rfl⟩ := h
    exact ⟨_, hev _ _ ha, rfl⟩
  · rename_i c a b
    split at h
    · rename_i n hc
      simp only [Option.map_eq_some_iff, Prod.mk.injEq] at h
      obtain ⟨a', ha, rfl, rfl⟩ := h
      have hc' := hev _ _ hc
      simp only [dv, Option.some.injEq] at hc'
      split at ha
      · rename_i hn
        refine ⟨_, hev _ _ ha, ?_⟩
        simp [execOp, ← hc', asBool, evB, den, hn]
      · rename_i hn
        refine ⟨_, hev _ _ ha, ?_⟩
        simp only [ne_eq, Decidable.not_not] at hn
        simp [execOp, ← hc', asBool, evB, den, hn]
    · cases h
  · rename_i x
    split at h
    · rename_i id off hx
      cases h
      have hx' := hev _ _ hx
      refine ⟨_, hx', ?_⟩
      simp only [dv, Option.map_eq_some_iff] at hx'
      obtain ⟨b, _, hb⟩ := hx'
      simp [execOp, ← hb]
    · rename_i hx
      cases h
      have hx' := hev _ _ hx
      refine ⟨_, hx', ?_⟩
      simp only [dv, Option.map_eq_some_iff] at hx'
      obtain ⟨b, _, hb⟩ := hx'
      simp [execOp, ← hb]
    · rename_i hx
      cases h
      have hx' := hev _ _ hx
      refine ⟨_, hx', ?_⟩
      simp only [dv, Option.some.injEq] at hx'
      simp [execOp, ← hx']
    · rename_i hx
      cases h
      have hx' := hev _ _ hx
      refine ⟨_, hx', ?_⟩
      simp only [dv, Option.map_eq_some_iff] at hx'
      obtain ⟨b, _, hb⟩ := hx'
      simp [execOp, ← hb]
    · cases h
  · rename_i op t x y yt
    simp only [Option.bind_eq_some_iff] at h
    obtain ⟨a, ha, b, hb, h⟩ := h
    obtain ⟨z, hz, hrun⟩ := binA_sound (hev _ _ ha) (hev _ _ hb) h hr
    exact ⟨z, hz, val _ _ (hrun x y w)⟩
  · rename_i op t x
    simp only [Option.map_eq_some_iff, Option.bind_eq_some_iff, Prod.mk.injEq] at h
    obtain ⟨a, ⟨b, hb, ha⟩, rfl, rfl⟩ := h
    obtain ⟨z, hz, hrun⟩ := unA_sound (P := P) (hev _ _ hb) ha
    exact ⟨z, hz, val _ _ (hrun w)⟩
  · rename_i s d x
    simp only [Option.bind_eq_some_iff] at h
    obtain ⟨a, ha, h⟩ := h
    split at h
    · rename_i r' hc
      cases h
      obtain ⟨z, hz, hrun⟩ := convA_sound (P := P) (hev _ _ ha) hc
      exact ⟨z, hz, val _ _ (hrun w)⟩
    · obtain ⟨z, hz, hrun⟩ := bytesA_sound (P := P) hm (hev _ _ ha) h hr
      exact ⟨z, hz, val _ _ hrun⟩
  · rename_i t x lo hi
    simp only [Option.bind_eq_some_iff] at h
    obtain ⟨a, ha, l, hl, r', hr', h⟩ := h
    have opt : ∀ (y : Option Operand) (q : Option AV), (match y with | none => some none | some y => (ev y).map some : Option (Option AV)) = some q →
        (∀ a, q = some a → ∃ u, y.map e = some u ∧ dv bs ρ a = some u) ∧ (q = none → y.map e = none) := by
      intro y q hq
      cases y with
      | none => cases hq; exact ⟨(fun a h => by cases h), fun _ => rfl⟩
      | some y =>
        simp only [Option.map_eq_some_iff] at hq
        obtain ⟨b, hb, rfl⟩ := hq
        exact ⟨(fun a h => by cases h; exact ⟨_, rfl, hev _ _ hb⟩), (fun h => by cases h)⟩
    obtain ⟨l1, l2⟩ := opt lo l hl
    obtain ⟨h1, h2⟩ := opt hi r' hr'
    obtain ⟨z, hz, hrun⟩ := sliceA_sound (P := P) hm (hev _ _ ha) l1 l2 h1 h2 h hr
    exact ⟨z, hz, val _ _ hrun⟩
  · rename_i t x
    split at h
    · rename_i hc
      simp only [Option.map_eq_some_iff, Prod.mk.injEq] at h
      obtain ⟨a, ⟨b, hb, ha⟩, rfl, rfl⟩ := h
      subst ha
      refine ⟨.iface t (e x), by simp [dv, hev _ _ hb], val _ _ (run_makeInterface w t _ hc)⟩
    · cases h
  · rename_i f first cap
    split at h
    · rename_i hf
      simp only [Option.map_eq_some_iff, Prod.mk.injEq] at h
      obtain ⟨a, ⟨l, hl, ha⟩, rfl, rfl⟩ := h
      subst ha
      refine ⟨.func (.func f) #[] (cap.map e), ?_, ?_⟩
      · simp [dv, dvs_ofList, evs_sound hev hl]
        apply Array.ext'
        simp
      · have : first = #[] := by simpa using hf
        simp [execOp, Instr.makeFunc, this]
    · cases h
  · rename_i t x f
    simp only [Option.map_eq_some_iff, Option.bind_eq_some_iff, Prod.mk.injEq] at h
    obtain ⟨a, ⟨b, hb, ha⟩, rfl, rfl⟩ := h
    obtain ⟨z, hz, hrun⟩ := fieldAddrA_sound (P := P) (hev _ _ hb) ha
    exact ⟨z, hz, val _ _ (hrun w)⟩
  · rename_i t x f
    simp only [Option.map_eq_some_iff, Option.bind_eq_some_iff, Prod.mk.injEq] at h
    obtain ⟨a, ⟨b, hb, ha⟩, rfl, rfl⟩ := h
    obtain ⟨z, hz, hrun⟩ := fieldA_sound (P := P) (w := w) (hev _ _ hb) ha
    exact ⟨z, hz, val _ _ hrun⟩
  · rename_i t x i
    simp only [Option.bind_eq_some_iff] at h
    obtain ⟨a, ha, b, hb, h⟩ := h
    obtain ⟨z, hz, hrun⟩ := indexAddrA_sound (P := P) hm (hev _ _ ha) (hev _ _ hb) h hr
    exact ⟨z, hz, val _ _ (hrun w)⟩
  · rename_i t x i
    simp only [Option.map_eq_some_iff, Option.bind_eq_some_iff, Prod.mk.injEq] at h
    obtain ⟨a, ⟨c, hc, b, hb, ha⟩, rfl, rfl⟩ := h
    obtain ⟨z, hz, hrun⟩ := indexA_sound (P := P) (w := w) (hev _ _ hc) (hev _ _ hb) ha
    exact ⟨z, hz, val _ _ hrun⟩
  · rename_i t x
    simp only [Option.bind_eq_some_iff] at h
    obtain ⟨a, ha, h⟩ := h
    obtain ⟨z, hz, hrun⟩ := loadA_sound (P := P) hm (hev _ _ ha) h hr
    exact ⟨z, hz, val _ _ hrun⟩
  · rename_i x i
    split at h
    · rename_i l hx
      simp only [Option.map_eq_some_iff, Prod.mk.injEq] at h
      obtain ⟨a, ha, rfl, rfl⟩ := h
      have hx' := hev _ _ hx
      simp only [dv, Option.map_eq_some_iff] at hx'
      obtain ⟨vs, hvs, hb⟩ := hx'
      obtain ⟨z, hz, hdz⟩ := dvl_get (dvl_members l hvs) ha
      exact ⟨z, hdz, by simp [execOp, ← hb, Instr.extract, hz]⟩
    · cases h
  · rename_i t ps
    simp only [Option.map_eq_some_iff, Option.bind_eq_some_iff, Prod.mk.injEq] at h
    obtain ⟨a, ⟨l, hl, ha⟩, rfl, rfl⟩ := h
    obtain ⟨h1, h2⟩ := partsA_sound hev hl
    obtain ⟨z, hz, hrun⟩ := buildA_sound (P := P) (w := w) (by simp [h1]) h2 ha
    refine ⟨z, hz, val _ _ ?_⟩
    have : (ps.map fun (i, x) => (i, e x)) = (ps.toList.map fun (i, x) => (i, e x)).toArray := by apply Array.ext'; simp
    rw [this]
    exact hrun
  · rename_i c
    split at h
    · rename_i b hcal
      simp only [Option.bind_eq_some_iff] at h
      obtain ⟨l, hl, h⟩ := h
      obtain ⟨z, hz, hrun⟩ := builtinA_sound (w := w) (ty := type) (cs := c.args.map fun | .const _ => true | _ => false) hm (evs_sound hev hl) h hr
      refine ⟨z, hz, ?_⟩
      have : c.args.map e = (c.args.toList.map e).toArray := by apply Array.ext'; simp
      simp only [execOp, resolve, hcal, pure_bind, invoke, this]
      exact hrun
    · cases h
  · cases h

end Go.SX
