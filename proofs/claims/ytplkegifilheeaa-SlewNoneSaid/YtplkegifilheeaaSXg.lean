/- Symbolic execution of the model's code, part 7: the operations that make or write memory do what part 6 says. -/
import Derived.Test.YtplkegifilheeaaSXf
namespace Go.SX
set_option linter.unusedSimpArgs false
set_option linter.unusedVariables false
variable {bs : List Ent} {ρ : Env} {P : Program} {w : World} {S : Nat → Prop} {w0 : World} {mem : List AObj}

theorem RelM.put (h : RelM bs ρ S w0 mem w) {id : Nat} {c c' : List AV} {ty : TypeId} {g : Option Nat} {b : Ent} {vs vs' tail : List Value} (hid : mem[id]? = some (.cells c ty true g)) (hb : bs[id]? = some b)
    (hvs : w.heap[b.blk]? = some (.cells (vs ++ tail).toArray ty (0, 0))) (hg : (∀ s, g = some s → (vs ++ tail).length = b.cap * s ∧ b.cap ≤ maxLen) ∧ b.base = 0) (hc : dvl bs ρ c' = some vs') (hl : vs'.length = vs.length) :
    RelM bs ρ S w0 (mem.set id (.cells c' ty true g)) (w.setRow b.blk (vs' ++ tail).toArray) := by
  have hlt : id < mem.length := (List.getElem?_eq_some_iff.1 hid).1
  have hnS := h.own id _ b hid rfl hb
  have get : ∀ {i : Nat} {o}, (mem.set id (.cells c' ty true g))[i]? = some o → (i = id ∧ o = .cells c' ty true g) ∨ (i ≠ id ∧ mem[i]? = some o) := fun {i o} ho => by
    rw [List.getElem?_set] at ho
    split at ho
    · rename_i he; subst he; simp [hlt] at ho; exact .inl ⟨rfl, ho.symm⟩
    · rename_i he; exact .inr ⟨fun e => he e.symm, ho⟩
  refine ⟨by simp [h.len], ?_, ?_, ?_, h.keep.setRow _ _ hnS⟩
  · intro i o ho
    rcases get ho with ⟨rfl, rfl⟩ | ⟨hi, ho⟩
    · refine ⟨b, hb, vs', tail, hc, setRow_heap w _ _ _ _ _ hvs, fun s hs => ?_, hg.2⟩
      have := hg.1 s hs
      simp only [List.length_append] at this ⊢
      rw [hl]; exact this
    · obtain ⟨e, he, hr⟩ := h.rel i o ho
      refine ⟨e, he, hr.same fun hlv => setRow_other w _ _ _ ?_⟩
      exact fun e0 => h.apart id i _ o b e (Ne.symm hi) hid ho rfl hlv hb he e0.symm
  · intro i o e ho hm he
    rcases get ho with ⟨rfl, rfl⟩ | ⟨hi, ho⟩
    · exact h.own _ _ e hid rfl he
    · exact h.own i o e ho hm he
  · intro i j o o' e e' hij ho ho' hm hlv he he'
    rcases get ho with ⟨rfl, rfl⟩ | ⟨hi, po⟩ <;> rcases get ho' with ⟨rfl, rfl⟩ | ⟨hj, po'⟩
    · exact absurd rfl hij
    · exact h.apart _ j _ o' e e' hij hid po' rfl hlv he he'
    · exact h.apart i _ o _ e e' hij po hid hm trivial he he'
    · exact h.apart i j o o' e e' hij po po' hm hlv he he'

theorem length_rep {α : Type} (l : List α) (n : Nat) : ((List.range n).flatMap fun _ => l).length = n * l.length := by
  induction n with
  | zero => simp
  | succ n ih => rw [List.range_succ, List.flatMap_append, List.length_append, ih, Nat.succ_mul]; simp

theorem zeros_eq (zs : List Value) (s len : Nat) (hz : zs.length = s) (hs : 0 < s) :
    ((Array.range (len * s)).map (fun i => zs.toArray[i % zs.toArray.size]!)) = ((List.range len).flatMap fun _ => zs).toArray := by
  apply Array.ext'
  simp only [Array.toList_map, Array.toList_range, List.size_toArray, hz]
  induction len with
  | zero => simp
  | succ n ih =>
    rw [Nat.succ_mul, List.range_add, List.map_append, ih, List.range_succ, List.flatMap_append]
    congr 1
    simp only [List.map_map, List.flatMap_cons, List.flatMap_nil, List.append_nil]
    apply List.ext_getElem?
    intro j
    simp only [List.getElem?_map, List.getElem?_range]
    by_cases hj : j < s
    · have h1 : (n * s + j) % s = j := by rw [Nat.add_comm, Nat.add_mul_mod_self_right, Nat.mod_eq_of_lt hj]
      have h2 : j < zs.length := by omega
      simp [hj, h1, h2]
    · have h2 : zs.length ≤ j := by omega
      simp [hj, h2]

theorem dvl_zeros {c : List AV} {vs : List Value} (h : dvl bs ρ c = some vs) (n : Nat) : dvl bs ρ ((List.range n).flatMap fun _ => c) = some ((List.range n).flatMap fun _ => vs) := by
  induction n with
  | zero => rfl
  | succ n ih =>
    rw [List.range_succ, List.flatMap_append, List.flatMap_append]
    exact dvl_append ih (by simpa using h)

/-- 'append' of known members to a row of one's own. -/
theorem append_sound (h : RelM bs ρ S w0 mem w) {t ty e : TypeId} {i : TypeInfo} {z : Value} (ht : P.underlying t = some (.slice e)) (hi : P.info? e = some i) (hz : i.zero = some z) (hzs : z.cells.size = i.size) (hsz : 0 < i.size)
    {v : Value} {n : Nat} {xs : List Value} {cc : List AV} {mem' : List AObj} (hxs : dvl bs ρ cc = some xs)
    (hown : w.ownsRow 0 e i.size v n xs) (hlen : mem'.length = mem.length) (hmem : ∀ (i : Nat) o, mem'[i]? = some o → mem[i]? = some o ∨ o = .dead)
    (hv : ∀ (i : Nat) o b, mem'[i]? = some o → Occ ρ o → bs[i]? = some b → v.ownBlock ≠ some b.blk) (hvS : ∀ g, v.ownBlock = some g → ¬ S g)
    {b2 : Ent} {off2 : Nat} {m c : Nat} {news : List AV} {us : List Value} (hus : dvl bs ρ news = some us) (hl : us.length = m * i.size)
    (hcell : ∀ (j : Nat) u, us[j]? = some u → w.cell? ⟨b2.blk, off2 + j, none⟩ = some u) (h1 : news.all AV.one = true)
    (hm : 0 < m) (hb1 : n + m ≤ 100000) (hb2 : (n + m) * i.bytes ≤ 1000000) :
    ∃ b z w', dv (bs ++ [b]) ρ (.row mem.length 0 (.lit ((n + m : Nat) : Int)) 0) = some z ∧ RelM (bs ++ [b]) ρ S w0 (mem' ++ [.cells (cc ++ news) e true (some i.size)]) w' ∧
      (Builtin.append_ #[t, t] ty #[v, .slice (some ⟨b2.blk, off2, none⟩) m c]).run P w = .ok z w' := by
  obtain ⟨v', w', hrun, hown', hgr, hnil, hat⟩ := run_append_own_at (P := P) w 0 t ty e i z i.size i.bytes ht hi hz rfl rfl hzs hsz v n xs hown ⟨b2.blk, off2, none⟩ m c us hl
    (fun j u hu => by rw [add_at]; exact hcell j u hu) (ones_sound hus h1) (by unfold maxLen; omega) (by omega) (Nat.zero_le _)
  obtain ⟨hlx, hform⟩ := hown'
  rcases hform with ⟨rfl, h0⟩ | ⟨g, cap, cur, rfl, _, hg, hnc, hcm, hcs, htake⟩
  · have := (hnil.1 rfl).2; omega
  · have hgb : v.ownBlock = some g ∨ g = w.heap.size := by
      rcases hat with h0 | h0
      · exact .inl (by rw [← h0]; rfl)
      · exact .inr (by simpa [Value.ownBlock] using h0)
    refine ⟨⟨g, cap, 0, none, 0⟩, _, w', ?_, ?_, hrun⟩
    · simp only [dv]
      rw [← h.len, List.getElem?_append_right (Nat.le_refl _)]
      simp only [Nat.sub_self, List.getElem?_cons_zero, Option.map_some, Nat.sub_zero, den, Int.toNat_natCast]
    · refine h.push ⟨g, cap, 0, none, 0⟩ _ hlen hmem (fun i o e0 ho hlv he => ?_) ?_ ?_ ?_
      · have hlt : e0.blk < w.heap.size := by
          rcases hmem i o ho with h2 | rfl
          · obtain ⟨e', he', hr⟩ := h.rel i o h2
            rw [he] at he'; cases he'
            exact hr.lt hlv
          · exact hlv.elim
        have hne := hv i o e0 ho hlv he
        refine ⟨hgr.block _ hlt (fun e1 => hne e1.symm), ?_⟩
        rcases hgb with h2 | h2
        · exact fun e1 => hne (by rw [h2, e1])
        · show e0.blk ≠ g; omega
      · refine ⟨xs ++ us, cur.toList.drop ((n + m) * i.size), dvl_append hxs hus, ?_, fun s hs => ?_, rfl⟩
        · rw [← htake, List.take_append_drop, Array.toArray_toList]; exact hg
        · cases hs
          rw [← htake, List.take_append_drop]
          exact ⟨by simpa using hcs, hcm⟩
      · rcases hgb with h2 | h2
        · exact hvS g h2
        · show ¬ S g; rw [h2]; exact h.fresh
      · refine ⟨hgr.os.trans h.keep.os, hgr.tape.trans h.keep.tape, hgr.output.trans h.keep.output, Nat.le_trans h.keep.size hgr.size, fun b hb => ?_, h.keep.old⟩
        rw [hgr.block b (by have := h.keep.old b hb; have := h.keep.size; omega) (fun e1 => hvS b e1.symm hb)]
        exact h.keep.block b hb

theorem effA_sound {ev : Operand → Option AV} {e : Operand → Value} (hev : ∀ x a, ev x = some a → dv bs ρ a = some (e x)) (h : RelM bs ρ S w0 mem w)
    {o : Oper} {reqs : List SE} {r : AV} {mem' : List AObj} (he : effA P mem ev o.op = some (reqs, r, mem')) :
    ∃ ex z w', dv (bs ++ ex) ρ r = some z ∧ RelM (bs ++ ex) ρ S w0 mem' w' ∧ ((execOp e o).run P w = .ok (.value z) w' ∨ ((execOp e o).run P w = .ok .skip w' ∧ z = undef)) := by
  have val : ∀ (s : Sem Value) (z : Value) (w' : World), s.run P w = .ok z w' → ((do pure (.value (← s))) : Sem Next).run P w = .ok (.value z) w' := fun s z w' hs => by simp [hs]
  have newp : ∀ cap, dv (bs ++ [(⟨w.heap.size, cap, 0, none, 0⟩ : Ent)]) ρ (.ptr mem.length 0) = some (.pointer (some ⟨w.heap.size, 0, none⟩)) := fun cap => by
    simp only [dv]
    rw [← h.len, List.getElem?_append_right (Nat.le_refl _)]
    simp
  obtain ⟨dst, op, type, pos, after, guard⟩ := o
  simp only at he
  unfold effA at he
  split at he
  · rename_i t
    simp only [Option.map_eq_some_iff, Prod.mk.injEq] at he
    obtain ⟨za, hza, rfl, rfl, rfl⟩ := he
    obtain ⟨z, hz, hrz⟩ := zeroA_sound (bs := bs) (ρ := ρ) hza w
    have := h.alloc t none 0 (dv_cells hz) (fun s hs => by cases hs)
    simp only [Array.toArray_toList] at this
    refine ⟨_, _, _, newp 0, this, .inl (val _ _ _ ?_)⟩
    simp [Instr.alloc, hrz, newVar, newRow, newObj, Sem.run]
  · rename_i t x
    simp only [Option.map_eq_some_iff, Prod.mk.injEq] at he
    obtain ⟨a, ha, rfl, rfl, rfl⟩ := he
    have := h.alloc t none 0 (dv_cells (hev _ _ ha)) (fun s hs => by cases hs)
    simp only [Array.toArray_toList] at this
    refine ⟨_, _, _, newp 0, this, .inl (val _ _ _ ?_)⟩
    simp [Instr.box, newVar, newRow, newObj, Sem.run]
  · rename_i t len ps
    split at he
    · rename_i el hu
      simp only [Option.bind_eq_some_iff] at he
      obtain ⟨s, hs, za, hza, he⟩ := he
      split at he
      · cases he
      · rename_i hcond
        simp only [not_or] at hcond
        obtain ⟨hs0, hzl, hbig⟩ := hcond
        simp only [Option.bind_eq_some_iff, Option.map_eq_some_iff, Prod.mk.injEq] at he
        obtain ⟨l, hl, c, hc, rfl, rfl, rfl⟩ := he
        obtain ⟨z, hz, hrz⟩ := zeroA_sound (bs := bs) (ρ := ρ) hza w
        have hzc := dv_cells hz
        have hzlen := dvl_length hzc
        have hs' : z.cells.toList.length = s := by omega
        obtain ⟨h1, h2⟩ := partsA_sound hev hl
        obtain ⟨us, hus, hfill⟩ := fillA_sound _ l (ps.toList.map fun (i, x) => (i, e x)) _ c _ (dvl_zeros hzc len) (by simp [h1]) h2 hc
        have hulen : us.length = len * s := by
          have e1 : ∀ (place : Nat → Option (Nat × Nat)) (ps : List (Nat × AV)) (cells out : List AV), fillA place cells ps = some out → out.length = cells.length := by
            intro place ps
            induction ps with
            | nil => intro cells out h; cases h; rfl
            | cons p ps ih =>
              intro cells out h
              obtain ⟨i, v⟩ := p
              simp only [fillA] at h
              split at h
              · cases h
              · split at h
                · cases h
                · rename_i hle
                  simp only [Bool.or_eq_true, decide_eq_true_eq, not_or, ne_eq, Decidable.not_not] at hle
                  rw [ih _ _ h]
                  simp only [List.length_append, List.length_take, List.length_drop]
                  omega
          rw [dvl_length hus, e1 _ _ _ _ hc]
          have : za.cells.length = s := by omega
          rw [length_rep, this]
        have hpos : 0 < s := by omega
        have ha := h.alloc el (some s) len hus (fun s' hs' => by cases hs'; exact ⟨hulen, by
          have := Nat.le_mul_of_pos_right len hpos
          unfold maxLen; omega⟩)
        refine ⟨_, .slice (some ⟨w.heap.size, 0, none⟩) len len, _, ?_, ha, .inl (val _ _ _ ?_)⟩
        · simp only [dv]
          rw [← h.len, List.getElem?_append_right (Nat.le_refl _)]
          simp [den]
        · have hmap : (ps.map fun (i, x) => (i, e x)).toList = ps.toList.map fun (i, x) => (i, e x) := by simp
          have hz2 := zeros_eq z.cells.toList s len hs' hpos
          simp only [Array.toArray_toList] at hz2
          have hbig' : ¬ len * s > 2 ^ 24 := by omega
          simp only [Instr.buildSlice, Sem.run_bind, run_underlying hu, run_sizeA hs, Result.andThen_ok, hbig', if_false, Sem.run_pure, hmap]
          by_cases hl0 : len * s = 0
          · have hlen0 : len = 0 := by
              rcases Nat.mul_eq_zero.1 hl0 with h0 | h0
              · exact h0
              · omega
            subst hlen0
            simp only [List.range_zero, List.flatMap_nil] at hfill
            simp [show Array.range 0 = #[] from rfl, hfill, newRow, newObj, Sem.run]
          · simp only [hl0, if_false, Sem.run_bind, hrz, Result.andThen_ok, Sem.run_pure]
            rw [hz2, hfill]
            simp [newRow, newObj, Sem.run]
    · cases he
  · rename_i t n c
    split at he
    · rename_i el kn n kc c hu hn hc
      split at he
      · rename_i i hi
        simp only [Option.bind_eq_some_iff] at he
        obtain ⟨za, hza, he⟩ := he
        split at he
        · cases he
        · rename_i hcond
          simp only [not_or, ne_eq, Decidable.not_not, Int.not_lt, Nat.not_lt] at hcond
          obtain ⟨rfl, hn0, hn1, hs0, hzl, hby⟩ := hcond
          cases he
          obtain ⟨e1, _⟩ := dv_int (hev _ _ hn)
          obtain ⟨e2, _⟩ := dv_int (hev _ _ hc)
          obtain ⟨z, hz, hrz⟩ := zeroA_sound (bs := bs) (ρ := ρ) hza w
          have hzc := dv_cells hz
          have hzlen := dvl_length hzc
          have hs' : z.cells.toList.length = i.size := by omega
          have hpos : 0 < i.size := by omega
          have hrep := dvl_zeros hzc n.toNat
          have hulen : ((List.range n.toNat).flatMap fun _ => z.cells.toList).length = n.toNat * i.size := by rw [length_rep, hs']
          have ha := h.alloc el (some i.size) n.toNat hrep (fun s' hs' => by cases hs'; exact ⟨hulen, by unfold maxLen; omega⟩)
          refine ⟨_, .slice (some ⟨w.heap.size, 0, none⟩) n.toNat n.toNat, _, ?_, ha, .inl (val _ _ _ ?_)⟩
          · simp only [dv]
            rw [← h.len, List.getElem?_append_right (Nat.le_refl _)]
            simp [den]
          · have hz2 := zeros_eq z.cells.toList i.size n.toNat hs' hpos
            simp only [Array.toArray_toList] at hz2
            have hw : IntKind.i64.wrap n = n := by
              simp only [IntKind.wrap, IntKind.bits, IntKind.signed]
              simp
              omega
            have e3 : den ρ (.lit n) = n := rfl
            have hprod : (i.bytes : Int) * n ≤ 1000 * 100000 := Int.mul_le_mul (by omega) hn1 hn0 (by omega)
            have hroom : ¬ n.toNat * i.bytes > roomBytes := by
              have : ((n.toNat * i.bytes : Nat) : Int) = (i.bytes : Int) * n := by
                rw [Int.natCast_mul, Int.toNat_of_nonneg hn0, Int.mul_comm]
              have h2 : roomBytes = 140737488355328 := by decide
              omega
            have t1 : (decide (n < 0) || decide ((i.bytes : Int) * n > 2 ^ 48)) = false := by
              simp
              omega
            have t2 : ¬ ((decide (n < 0) || decide ((i.bytes : Int) * n > 2 ^ 48)) = true ∨ n < 0 ∨ n > n) := by
              rw [t1]
              simp
              omega
            rw [e1, e2, e3]
            simp only [Instr.makeSlice, Sem.run_bind, run_underlying hu, Result.andThen_ok, asInt, asIntOf, pure_bind, Sem.run_pure, typeInfo, hi, run_program, hw, t1]
            have t3 : (false || decide (n < 0) || decide (n > n)) = false := by simp; omega
            have hsz : sizeA P el = some i.size := by simp [sizeA, hi]
            rw [t3]
            simp only [Bool.false_eq_true, if_false, Sem.run_bind, askRoom, hroom, Sem.run_pure, Result.andThen_ok, run_sizeA hsz]
            by_cases hl0 : n.toNat * i.size = 0
            · have hlen0 : n.toNat = 0 := by
                rcases Nat.mul_eq_zero.1 hl0 with h0 | h0
                · exact h0
                · omega
              simp [hl0, hlen0, show Array.range 0 = #[] from rfl, newRow, newObj, Sem.run]
            · simp only [hl0, if_false, Sem.run_bind, hrz, Result.andThen_ok]
              rw [hz2]
              simp [newRow, newObj, Sem.run]
      · cases he
    · cases he
  · rename_i t a x
    simp only [Option.bind_eq_some_iff] at he
    obtain ⟨p, hp, v, hv, he⟩ := he
    split at he
    · rename_i id off
      split at he
      · rename_i c ty g hid
        split at he
        · rename_i hcond
          obtain ⟨hsz, hle, hone⟩ := hcond
          cases he
          have hp' := hev _ _ hp
          have hv' := hev _ _ hv
          simp only [dv, Option.map_eq_some_iff] at hp'
          obtain ⟨b, hb, hpe⟩ := hp'
          obtain ⟨b', hb', vs, tail, hvs, hheap, hg⟩ := h.rel id _ hid
          rw [hb] at hb'; cases hb'
          rw [hg.2, Nat.zero_add] at hpe
          have hvc := dv_cells hv'
          have hvl := dvl_length hvc
          have hcl := dvl_length hvs
          have hnew := dvl_append (dvl_append (dvl_take hvs off) hvc) (dvl_drop hvs (off + v.cells.length))
          have hput := h.put hid hb hheap hg hnew (by simp only [List.length_append, List.length_take, List.length_drop]; omega)
          refine ⟨[], undef, _, rfl, by rw [List.append_nil]; exact hput, .inr ⟨?_, rfl⟩⟩
          have hst := run_storeCells_at P b.blk off ty (e x).cells.toList 0 _ w hheap (by simp only [List.size_toArray, List.length_append]; omega) (ones_sound hvc hone)
          have hszr := run_sizeA (w := w) hsz
          have hcs : (e x).cells.size = v.cells.length := by simpa using hvl
          simp only [execOp, Instr.storeAt, ← hpe, Instr.sureAddr, pure_bind, storeVar, Sem.run_bind, hszr, Result.andThen_ok, hcs, ne_eq, not_true_eq_false, if_false, Nat.add_zero] at hst ⊢
          rw [hst]
          simp only [Result.andThen_ok, Sem.run_pure]
          congr 3
          have l1 : off ≤ vs.length := by omega
          have l2 : off + (e x).cells.size ≤ vs.length := by omega
          rw [← hcs, Array.length_toList]
          rw [List.take_append_of_le_length l1, List.drop_append_of_le_length l2]
          simp
        · cases he
      · cases he
    · cases he
  · rename_i c
    split at he
    · rename_i x y t t' hcal hargs htys
      split at he
      · cases he
      · rename_i htt
        simp only [ne_eq, Decidable.not_not] at htt
        subst htt
        split at he
        · rename_i el hu
          split at he
          · rename_i i hi
            simp only [Option.bind_eq_some_iff] at he
            obtain ⟨za, hza, a, ha, b, hb, he⟩ := he
            split at he
            · cases he
            · rename_i hcond
              simp only [not_or] at hcond
              obtain ⟨hs0, hzl⟩ := hcond
              have hza' := hza
              simp only [zeroA, hi, Option.bind_some, Option.bind_eq_some_iff] at hza'
              obtain ⟨z, hiz, hzof⟩ := hza'
              have hzc := dv_cells (ofV_sound (bs := bs) (ρ := ρ) hzof)
              have hzl2 := dvl_length hzc
              have hzs : z.cells.size = i.size := by simp at hzl2; omega
              split at he
              · rename_i id2 off2 m sk
                split at he
                · rename_i c2 ty2 own2 g2 hid2
                  simp only [Option.bind_eq_some_iff] at he
                  obtain ⟨news, hnews, he⟩ := he
                  simp only [takeC] at hnews
                  split at hnews
                  · rename_i hle2
                    cases hnews
                    split at he
                    · cases he
                    · rename_i hcond2
                      simp only [not_or, Int.not_le, Bool.not_eq_false] at hcond2
                      obtain ⟨hm0, hone⟩ := hcond2
                      have hb' := hev _ _ hb
                      simp only [dv, Option.map_eq_some_iff] at hb'
                      obtain ⟨b2, hb2, hye⟩ := hb'
                      obtain ⟨b2', hb2', vs2, tail2, hvs2, hheap2, _, hbase2⟩ := h.rel id2 _ hid2
                      rw [hb2] at hb2'; cases hb2'
                      rw [hbase2, Nat.zero_add] at hye
                      have hlen2 := dvl_length hvs2
                      have hus := dvl_take (dvl_drop hvs2 off2) (m.toNat * i.size)
                      have hul : ((vs2.drop off2).take (m.toNat * i.size)).length = m.toNat * i.size := by simp; omega
                      have hcell : ∀ (j : Nat) u, ((vs2.drop off2).take (m.toNat * i.size))[j]? = some u → w.cell? ⟨b2.blk, off2 + j, none⟩ = some u := fun j u hu => by
                        rw [cell_of_row w b2.blk _ _ ty2 (0, 0) hheap2]
                        rw [List.getElem?_take] at hu
                        split at hu
                        · rw [List.getElem?_drop] at hu
                          simp only [List.getElem?_toArray]
                          rw [List.getElem?_append_left (List.getElem?_eq_some_iff.1 hu).1]
                          exact hu
                        · cases hu
                      have hargs' : c.args.map e = #[e x, e y] := by
                        have : c.args = #[x, y] := by cases hc : c.args; simp_all
                        simp [this]
                      have htys' : c.argTypes = #[t, t] := by cases hc : c.argTypes; simp_all
                      have fin : ∀ z w', (Builtin.append_ #[t, t] type #[e x, e y]).run P w = .ok z w' →
                          (execOp e { dst := dst, op := .call c, type := type, pos := pos, after := after, guard := guard }).run P w = .ok (.value z) w' := fun z w' hrun => by
                        simp only [execOp, resolve, hcal, pure_bind, invoke, builtin, hargs', htys', Sem.run_bind, hrun, Result.andThen_ok, Sem.run_pure]
                      have hden : (den ρ (.lit m)).toNat = m.toNat := rfl
                      rw [hden] at hye
                      split at he
                      · split at he
                        · rename_i hbd
                          cases he
                          have hx' := hev _ _ ha
                          simp only [dv, Option.some.injEq] at hx'
                          obtain ⟨bb, zz, w', hd, hR, hrun⟩ := append_sound (P := P) (ty := type) h hu hi hiz hzs (by omega) (v := .slice none 0 0) (n := 0) (xs := []) (cc := []) (mem' := mem) rfl
                            (World.ownsRow_nil w 0 el i.size) rfl (fun _ _ ho => .inl ho) (fun _ _ _ _ _ _ => by simp [Value.ownBlock]) (fun g hg => by simp [Value.ownBlock] at hg) (b2 := b2) (off2 := off2) (m := m.toNat) (c := b2.cap - sk) hus hul hcell hone (by omega) (by omega) (by simpa using hbd.2)
                          refine ⟨[bb], zz, w', ?_, by simpa using hR, .inl (fin _ _ ?_)⟩
                          · rw [← hd]; simp only [dv, den, Nat.zero_add, Int.toNat_natCast]
                          · rw [← hx', ← hye]; exact hrun
                        · cases he
                      · rename_i id n
                        split at he
                        · rename_i cc ty s hid
                          split at he
                          · rename_i hbd
                            obtain ⟨rfl, rfl, hn0, hccl, hb3, hb4⟩ := hbd
                            cases he
                            have hx' := hev _ _ ha
                            simp only [dv, Option.map_eq_some_iff] at hx'
                            obtain ⟨b1, hb1, hxe⟩ := hx'
                            obtain ⟨b1', hb1', vs1, tail1, hvs1, hheap1, hg1, hbase1⟩ := h.rel id _ hid
                            rw [hb1] at hb1'; cases hb1'
                            rw [hbase1, Nat.zero_add] at hxe
                            obtain ⟨hcap, hcm⟩ := hg1 _ rfl
                            have hl1 := dvl_length hvs1
                            have hnS := h.own id _ b1 hid rfl hb1
                            have hlt : id < mem.length := (List.getElem?_eq_some_iff.1 hid).1
                            have hncap : n.toNat ≤ b1.cap := by
                              have h5 : n.toNat * i.size ≤ b1.cap * i.size := by
                                rw [← hcap, List.length_append]; omega
                              exact Nat.le_of_mul_le_mul_right h5 (by omega)
                            have hget : ∀ {j : Nat} {o}, (mem.set id .dead)[j]? = some o → (j ≠ id ∧ mem[j]? = some o) ∨ o = .dead := fun {j o} ho => by
                              rw [List.getElem?_set] at ho
                              split at ho
                              · rename_i he; subst he; simp [hlt] at ho; exact .inr ho.symm
                              · rename_i he; exact .inl ⟨fun e => he e.symm, ho⟩
                            obtain ⟨bb, zz, w', hd, hR, hrun⟩ := append_sound (P := P) (ty := type) h hu hi hiz hzs (by omega) (v := .slice (some ⟨b1.blk, 0, none⟩) n.toNat b1.cap) (n := n.toNat) (xs := vs1) (cc := cc) (mem' := mem.set id .dead) hvs1
                              ⟨by omega, .inr ⟨b1.blk, b1.cap, _, rfl, Nat.zero_le _, hheap1, hncap, hcm, by simpa using hcap, by simp only [List.toList_toArray]; rw [← hccl, ← hl1]; simp⟩⟩
                              (by simp) (fun j o ho => by
                                rcases hget ho with ⟨_, h6⟩ | h6
                                · exact .inl h6
                                · exact .inr h6)
                              (fun j o b0 ho hlv hbj => by
                                rcases hget ho with ⟨hne, h6⟩ | rfl
                                · intro h7
                                  have h8 : b1.blk = b0.blk := by simpa [Value.ownBlock] using h7
                                  exact h.apart id j _ o b1 b0 (Ne.symm hne) hid h6 rfl hlv hb1 hbj h8
                                · exact hlv.elim)
                              (fun g hg => by
                                have : b1.blk = g := by simpa [Value.ownBlock] using hg
                                rw [← this]; exact hnS)
                              (b2 := b2) (off2 := off2) (m := m.toNat) (c := b2.cap - sk) hus hul hcell hone (by omega) hb3 hb4
                            refine ⟨[bb], zz, w', ?_, hR, .inl (fin _ _ ?_)⟩
                            · rw [← hd]
                              have h9 : ((n.toNat + m.toNat : Nat) : Int) = n + m := by omega
                              simp only [dv, h9]
                            · have hden2 : (den ρ (.lit n)).toNat = n.toNat := rfl
                              rw [hden2, Nat.sub_zero] at hxe
                              rw [← hxe, ← hye]; exact hrun
                          · cases he
                        · cases he
                      · cases he
                  · cases hnews
                · cases he
              · cases he
          · cases he
        · cases he
    · cases he
  · cases he

end Go.SX
